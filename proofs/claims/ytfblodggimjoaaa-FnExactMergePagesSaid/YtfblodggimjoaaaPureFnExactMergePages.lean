/- The plain form of FnExactMergePages: for all arguments the answer is true. It holds without a condition. -/
import Derived.Test.YtfblodggimjoaaaPFnExactMergePagesx6
import Derived.OpenShut
namespace Go.Proofs.Ytfblodggimjoaaa.Pure
open Go Go.RowKit Go.Proofs.Ytfblodggimjoaaa.PFnExactMergePages Go.Proofs.YtfblodggimjoaaaW.PrintWords Go.Proofs.YtfblodggimjoaaaW.PrintLast Go.Proofs.YtfblodggimjoaaaW.PrintMore
set_option linter.unusedVariables false
set_option linter.unusedSimpArgs false

theorem wf64 {a : Int} (h : (Lit.int .i64 a).wf = true) : -9223372036854775808 ≤ a ∧ a ≤ 9223372036854775807 := Go.bounds_i64 h
theorem wrap64_id {a : Int} (h : -9223372036854775808 ≤ a) (h' : a ≤ 9223372036854775807) : wrap64 a = a := by unfold wrap64; omega
theorem count_loop {σ ρ : Type} (L : Nat → σ → Int → Option ρ) (n m : Nat) (I : Nat → σ → Prop) (R : ρ → Prop)
 (hstop : ∀ k s, m ≤ k → I n s → ∃ r, L (k + 1) s (n : Int) = some r ∧ R r)
 (hstep : ∀ k s (i : Nat), m ≤ k → i < n → I i s → (∃ s', I (i + 1) s' ∧ L (k + 1) s (i : Int) = L k s' ((i + 1 : Nat) : Int)) ∨ ∃ r, L (k + 1) s (i : Int) = some r ∧ R r)
 (k : Nat) (s : σ) (i : Nat) (hi : i ≤ n) (hk : n - i + m < k) (h : I i s) : ∃ r, L k s (i : Int) = some r ∧ R r := by
 obtain ⟨d, hd⟩ : ∃ d, d = n - i := ⟨_, rfl⟩
 induction d generalizing k s i with
 | zero =>
  obtain ⟨k, rfl⟩ : ∃ z, k = z + 1 := ⟨k - 1, by omega⟩
  obtain rfl : i = n := by omega
  exact hstop k s (by omega) h
 | succ d ih =>
  obtain ⟨k, rfl⟩ : ∃ z, k = z + 1 := ⟨k - 1, by omega⟩
  rcases hstep k s i (by omega) (by omega) h with ⟨s', h', e⟩ | h'
  · rw [e]; exact ih k s' (i + 1) (by omega) (by omega) h' (by omega)
  · exact h'
theorem w0 : wrap64 0 = 0 := by unfold wrap64; omega
theorem w1 : wrap64 1 = 1 := by unfold wrap64; omega
theorem w2 : wrap64 2 = 2 := by unfold wrap64; omega
theorem w3 : wrap64 3 = 3 := by unfold wrap64; omega
theorem rd_lt (l : List Int) (i : Nat) (h : i < l.length) : rd l (i : Int) = l[i] := by
 simp [rd, List.getD_eq_getElem?_getD, List.getElem?_eq_getElem h]
theorem rds_lt (l : List ByteArray) (i : Nat) (h : i < l.length) : rdOf ByteArray.empty l (i : Int) = l[i] := by
 simp [rdOf, List.getD_eq_getElem?_getD, List.getElem?_eq_getElem h]
theorem wrap_up (i : Nat) (h : i < 1099511627776) : wrap64 ((i : Int) + 1) = ((i + 1 : Nat) : Int) := by unfold wrap64; omega
theorem set_next {α : Type} (l out : List α) (i : Nat) (h : i < l.length) (hl : out.length = l.length) (hp : out.take i = l.take i) : (out.set i l[i]).take (i + 1) = l.take (i + 1) := by
 apply List.ext_getElem?
 intro j
 by_cases hj : j < i + 1
 ·
  rw [List.getElem?_take_of_lt hj, List.getElem?_take_of_lt hj]
  by_cases hji : j = i
  · subst hji; rw [List.getElem?_set_self (by omega), List.getElem?_eq_getElem h]
  · rw [List.getElem?_set_ne (by omega)]
    have := congrArg (fun z => z[j]?) hp
    simpa [List.getElem?_take_of_lt (show j < i by omega)] using this
 · rw [List.getElem?_eq_none (by simp; omega), List.getElem?_eq_none (by simp; omega)]
theorem take_all {α : Type} (l out : List α) (hl : out.length = l.length) (hp : out.take l.length = l.take l.length) : out = l := by
 rwa [List.take_of_length_le (by omega), List.take_length] at hp
theorem g_szloop {α : Type} (L : Nat → List α → Int → Int → Option Int) (E : Nat → α → Int → Option Int) (z : α) (m : Nat) (Q : α → Prop) (l : List α)
 (hL : ∀ k a i, L (k + 1) l a i = if i < (l.length : Int) then (if 0 ≤ i then ((E k (l.getD i.toNat z) a).bind fun t => if t < 0 then some (-1) else L k l t (wrap64 (i + 1))) else none) else some a)
 (hE : ∀ k x a, x ∈ l → 0 ≤ a → a ≤ 1048576 → m ≤ k → ∃ t, E k x a = some t ∧ (t < 0 ∨ (0 ≤ t ∧ t ≤ a ∧ Q x)))
 (hl : l.length ≤ 1048576) (k : Nat) (a : Int) (h0 : 0 ≤ a) (h1 : a ≤ 1048576) (hk : m + 1048580 < k) :
 ∃ t, L k l a 0 = some t ∧ (t < 0 ∨ (0 ≤ t ∧ t ≤ a ∧ ∀ x ∈ l, Q x)) := by
 exact count_loop (fun k s i => L k l s i) l.length m (fun i s => 0 ≤ s ∧ s ≤ a ∧ ∀ x ∈ l.take i, Q x) (fun t => t < 0 ∨ (0 ≤ t ∧ t ≤ a ∧ ∀ x ∈ l, Q x))
  (by
   rintro k s - ⟨h1, h2, h3⟩
   rw [List.take_length] at h3
   exact ⟨s, by show L (k + 1) l s _ = _; rw [hL, if_neg (by omega)], .inr ⟨h1, h2, h3⟩⟩)
  (by
   rintro k s i hm hi ⟨h1, h2, h3⟩
   have hg : l.getD (i : Int).toNat z = l[i] := by simp [List.getD_eq_getElem?_getD, List.getElem?_eq_getElem hi]
   obtain ⟨t, e, ht⟩ := hE k l[i] s (List.getElem_mem hi) h1 (by omega) hm
   rcases ht with ht | ⟨q1, q2, q3⟩
   · refine .inr ⟨-1, ?_, .inl (by omega)⟩
     show L (k + 1) l s _ = _
     rw [hL, if_pos (by omega), if_pos (by omega), hg, e]
     simp only [Option.bind_some]
     rw [if_pos ht]
   ·
    refine .inl ⟨t, ⟨q1, by omega, ?_⟩, ?_⟩
    · intro x hx'
      rw [List.take_succ_eq_append_getElem hi, List.mem_append] at hx'
      rcases hx' with hx' | hx'
      · exact h3 x hx'
      · simp at hx'; subst hx'; exact q3
    · show L (k + 1) l s _ = _
      rw [hL, if_pos (by omega), if_pos (by omega), hg, e]
      simp only [Option.bind_some]
      rw [if_neg (by omega), wrap_up i (by omega)])
  k a 0 (by omega) (by omega) ⟨h0, by omega, by simp⟩
theorem g_toloop {α β γ : Type} (L : Nat → List α → List β → Int → Option (List β)) (E : Nat → α → Option γ) (mk : γ → β) (z : α) (c : α → β) (m : Nat) (l : List α)
 (hL : ∀ k s i, L (k + 1) l s i = if i < (l.length : Int) then (if 0 ≤ i then ((E k (l.getD i.toNat z)).bind fun b => (if i < (s.length : Int) then L k l (s.set i.toNat (mk b)) (wrap64 (i + 1)) else none)) else none) else some s)
 (hE : ∀ k x, x ∈ l → m ≤ k → ∃ b, E k x = some b ∧ mk b = c x)
 (hl : l.length ≤ 1048576) (k : Nat) (s : List β) (hs : s.length = l.length) (hk : m + 1048580 < k) : L k l s 0 = some (l.map c) := by
 obtain ⟨r, h, rfl⟩ := count_loop (fun k s i => L k l s i) l.length m (fun i s => s.length = (l.map c).length ∧ s.take i = (l.map c).take i) (fun r => r = l.map c)
  (by
   rintro k s - ⟨h1, h2⟩
   exact ⟨s, by show L (k + 1) l s _ = _; rw [hL, if_neg (by omega)], take_all (l.map c) s h1 (by rw [List.length_map]; exact h2)⟩)
  (by
   rintro k s i hm hi ⟨h1, h2⟩
   have hg : l.getD (i : Int).toNat z = l[i] := by simp [List.getD_eq_getElem?_getD, List.getElem?_eq_getElem hi]
   have hi' : i < (l.map c).length := by simpa using hi
   obtain ⟨b, e, hb⟩ := hE k l[i] (List.getElem_mem hi) hm
   have hb' : mk b = (l.map c)[i] := by rw [hb, List.getElem_map]
   refine .inl ⟨s.set i (l.map c)[i], ⟨by simpa using h1, set_next (l.map c) s i hi' h1 h2⟩, ?_⟩
   show L (k + 1) l s _ = _
   rw [hL, if_pos (by omega), if_pos (by omega), hg, e]
   simp only [Option.bind_some]
   rw [if_pos (by rw [h1]; simp; omega), wrap_up i (by omega), hb']
   rfl)
  k s 0 (by omega) (by omega) ⟨by simpa using hs, by simp⟩
 exact h
theorem g_eqloop {α : Type} (L : Nat → List α → List α → Int → Option Bool) (E : Nat → α → Option Bool) (z : α) (m : Nat) (l : List α)
 (hL : ∀ k i, L (k + 1) l l i = if i < (l.length : Int) then (if 0 ≤ i then (if i < (l.length : Int) then ((E k (l.getD i.toNat z)).bind fun t => (if t = true then L k l l (wrap64 (i + 1)) else some false)) else none) else none) else some true)
 (hE : ∀ k x, x ∈ l → m ≤ k → E k x = some true)
 (hl : l.length ≤ 1048576) (k : Nat) (hk : m + 1048580 < k) : L k l l 0 = some true := by
 obtain ⟨r, h, rfl⟩ := count_loop (fun k (_ : Unit) i => L k l l i) l.length m (fun _ _ => True) (fun r => r = true)
  (by
   rintro k s - -
   exact ⟨true, by show L (k + 1) l l _ = _; rw [hL, if_neg (by omega)], rfl⟩)
  (by
   rintro k s i hm hi -
   have hg : l.getD (i : Int).toNat z = l[i] := by simp [List.getD_eq_getElem?_getD, List.getElem?_eq_getElem hi]
   refine .inl ⟨(), trivial, ?_⟩
   show L (k + 1) l l _ = _
   rw [hL, if_pos (by omega), if_pos (by omega), if_pos (by omega), hg, hE k _ (List.getElem_mem hi) hm]
   simp only [Option.bind_some]
   rw [if_pos trivial, wrap_up i (by omega)])
  k () 0 (by omega) (by omega) trivial
 exact h
theorem g_szPage (k : Nat) (a0_0 : Int) (a0_1 : ByteArray) (a : Int) (h0 : 0 ≤ a) (h1 : a ≤ 1048576) (hk : 0 ≤ k) (o_a0_1 : a0_1.size ≤ maxLen) : ∃ t, laws_szPage.f a0_0 a0_1 a = some t ∧ (t < 0 ∨ (0 ≤ t ∧ t ≤ a ∧ (a0_1.size : Int) ≤ 1048576)) := by
 have p_a0_1 := o_a0_1
 unfold maxLen at p_a0_1
 unfold laws_szPage.f
 rw [wrap64_id (a := a - (a0_1.size : Int)) (by omega) (by omega)]
 by_cases c0 : a - (a0_1.size : Int) < 0
 · exact ⟨-1, by rw [if_pos c0], .inl (by omega)⟩
 rw [if_neg c0]
 exact ⟨_, rfl, .inr ⟨by omega, by omega, by omega⟩⟩
def QS78 (x : S78) : Prop := (x.f1.size : Int) ≤ 1048576
theorem g_szPageS (k : Nat) (l : List (S78)) (a : Int) (h0 : 0 ≤ a) (h1 : a ≤ 1048576) (hk : 1048590 ≤ k) (o : l.length ≤ maxLen ∧ ∀ x_ ∈ l, okS78 x_) : ∃ t, laws_szPageS.f k l a = some t ∧ (t < 0 ∨ (0 ≤ t ∧ t ≤ a ∧ (l.length : Int) ≤ 1048576 ∧ (∀ y ∈ l, QS78 y))) := by
 have ol := o.1
 unfold maxLen at ol
 unfold laws_szPageS.f
 rw [wrap64_id (by omega) (by omega)]
 by_cases h : a - (l.length : Int) < 0
 · exact ⟨-1, by rw [if_pos h], .inl (by omega)⟩
 rw [if_neg h]
 obtain ⟨t, e, q⟩ := g_szloop laws_szPageS.l0 (fun k x a => laws_szPage.f x.f0 x.f1 a) z78 0 (QS78) l
  (by intro k a i; rw [laws_szPageS.l0]; rfl)
  (by intro k x a hx h0 h1 hm; obtain ⟨o0, o1⟩ := o.2 x hx; exact g_szPage k x.f0 x.f1 a h0 h1 hm o1)
  (by omega) k (a - (l.length : Int)) (by omega) (by omega) (by omega)
 rcases q with q | ⟨q1, q2, q3⟩
 · exact ⟨t, e, .inl q⟩
 · exact ⟨t, e, .inr ⟨q1, by omega, by omega, q3⟩⟩
theorem g_toPage (k : Nat) (a0_0 : Int) (a0_1 : ByteArray) (hk : 0 ≤ k) (o_a0_1_0 : (a0_1.size : Int) ≤ 1048576) : laws_toPage.f a0_0 a0_1 = some (a0_0, a0_1) := by
 unfold laws_toPage.f
 rfl
def QS79 (x : S79) : Prop := (x.f1.size : Int) ≤ 1048576
def cS78 (x : S78) : S79 := ⟨x.f0, x.f1⟩
theorem qcS78 (x : S78) (h : QS78 x) : QS79 (cS78 x) := h
theorem qmS78 (l : List S78) (h : ∀ y ∈ l, QS78 y) : ∀ y ∈ l.map cS78, QS79 y := by
 intro y hy
 obtain ⟨x, hx, rfl⟩ := List.mem_map.1 hy
 exact qcS78 x (h x hx)
theorem g_toPageS (k : Nat) (l : List (S78)) (hk : 1048590 ≤ k) (o1 : (l.length : Int) ≤ 1048576) (o2 : (∀ y ∈ l, QS78 y)) : laws_toPageS.f k l = some (l.map cS78) := by
 unfold laws_toPageS.f
 rw [if_pos (by omega), if_pos (by omega)]
 have h := g_toloop laws_toPageS.l0 (fun k (x : S78) => laws_toPage.f x.f0 x.f1) (fun b => (⟨b.1, b.2⟩ : S79)) z78 cS78 0 l (by intro k s i; rw [laws_toPageS.l0]; rfl)
  (by intro k x hx hm; obtain q1_0 := o2 x hx; exact ⟨_, g_toPage k x.f0 x.f1 hm q1_0, rfl⟩)
  (by omega) k (List.replicate ((l.length : Int) : Int).toNat z79) (by simp) (by omega)
 exact h
theorem g_eqPage (k : Nat) (a0_0 : Int) (a0_1 : ByteArray) (hk : 0 ≤ k)  : laws_eqPage.f a0_0 a0_1 a0_0 a0_1 = some true := by
 unfold laws_eqPage.f
 simp only [Option.bind_some, bne_self_eq_false, Bool.false_eq_true, if_false, if_true, reduceIte]
theorem g_eqPageS (k : Nat) (l : List (S79)) (hk : 1048590 ≤ k) (o1 : (l.length : Int) ≤ 1048576) (o2 : (∀ y ∈ l, QS79 y)) : laws_eqPageS.f k l l = some true := by
 unfold laws_eqPageS.f
 rw [if_pos rfl]
 exact g_eqloop laws_eqPageS.l0 (fun k (x : S79) => laws_eqPage.f x.f0 x.f1 x.f0 x.f1) z79 0 l (by intro k i; rw [laws_eqPageS.l0]; rfl) (by intro k x hx hm; obtain q1_0 := o2 x hx; exact g_eqPage k x.f0 x.f1 hm ) (by omega) k (by omega)
theorem all_loop (L : Nat → Int → Option Bool) (P : Nat → Prop) [DecidablePred P] (n m : Nat) (r : Bool)
 (hend : ∀ k, m ≤ k → L (k + 1) (n : Int) = some r) (hstep : ∀ k (i : Nat), m ≤ k → i < n → L (k + 1) (i : Int) = if P i then L k ((i + 1 : Nat) : Int) else some false) (k : Nat) (hk : n + m < k) :
 L k 0 = some (decide (∀ i, i < n → P i) && r) := by
 obtain ⟨s, h, rfl⟩ := count_loop (fun k (_ : Unit) i => L k i) n m (fun i _ => ∀ j, j < i → P j) (fun s => s = (decide (∀ i, i < n → P i) && r))
  (by
   rintro k s hm h
   exact ⟨r, hend k hm, by simp [decide_eq_true h]⟩)
  (by
   rintro k s i hm hi h
   by_cases hp : P i
   · refine .inl ⟨(), ?_, by show L (k + 1) _ = _; rw [hstep k i hm hi, if_pos hp]⟩
     intro j hj
     by_cases hji : j = i
     · subst hji; exact hp
     · exact h j (by omega)
   · refine .inr ⟨false, by show L (k + 1) _ = _; rw [hstep k i hm hi, if_neg hp], ?_⟩
     have : ¬ ∀ i, i < n → P i := fun h => hp (h i hi)
     simp [this])
  k () 0 (by omega) (by omega) (by simp)
 exact h
def look (P : Nat → Prop) [DecidablePred P] : Nat → Nat → Int
 | 0, _ => -1
 | d + 1, i => if P i then (i : Int) else look P d (i + 1)
theorem look_or (P : Nat → Prop) [DecidablePred P] (d : Nat) : ∀ i, (look P d i = -1 ∧ ∀ j, i ≤ j → j < i + d → ¬ P j) ∨ ∃ j, i ≤ j ∧ j < i + d ∧ look P d i = (j : Int) ∧ P j := by
 induction d with
 | zero => intro i; exact .inl ⟨rfl, fun j h1 h2 => by omega⟩
 | succ d ih =>
  intro i
  by_cases hp : P i
  · exact .inr ⟨i, by omega, by omega, by rw [look, if_pos hp], hp⟩
  ·
   rw [look, if_neg hp]
   rcases ih (i + 1) with ⟨h1, h2⟩ | ⟨j, h1, h2, h3, h4⟩
   · refine .inl ⟨h1, fun j h3 h4 => ?_⟩
     by_cases hji : j = i
     · subst hji; exact hp
     · exact h2 j (by omega) (by omega)
   · exact .inr ⟨j, by omega, by omega, h3, h4⟩
theorem find_loop (L : Nat → Int → Option Int) (P : Nat → Prop) [DecidablePred P] (n m : Nat)
 (hend : ∀ k, m ≤ k → L (k + 1) (n : Int) = some (-1)) (hstep : ∀ k (i : Nat), m ≤ k → i < n → L (k + 1) (i : Int) = if P i then some (i : Int) else L k ((i + 1 : Nat) : Int)) (k : Nat) (hk : n + m < k) :
 L k 0 = some (look P n 0) := by
 have key : ∀ d k i, i + d = n → d + m < k → L k (i : Int) = some (look P d i) := by
  intro d
  induction d with
  | zero =>
   intro k i hi hk
   obtain ⟨k, rfl⟩ : ∃ z, k = z + 1 := ⟨k - 1, by omega⟩
   obtain rfl : i = n := by omega
   exact hend k (by omega)
  | succ d ih =>
   intro k i hi hk
   obtain ⟨k, rfl⟩ : ∃ z, k = z + 1 := ⟨k - 1, by omega⟩
   rw [hstep k i (by omega) (by omega), look]
   by_cases hp : P i
   · rw [if_pos hp, if_pos hp]
   · rw [if_neg hp, if_neg hp]; exact ih k (i + 1) (by omega) (by omega)
 exact key n k 0 (by omega) (by omega)
theorem getD_lt {α : Type} (l : List α) (z : α) (i : Nat) (h : i < l.length) : l.getD (i : Int).toNat z = l[i] := by
 simp [List.getD_eq_getElem?_getD, List.getElem?_eq_getElem h]
theorem in_eq (a b c : Int) : spec_l00In.f a b c = some (decide (b ≤ a ∧ a ≤ c)) := by
 unfold spec_l00In.f
 by_cases h : a ≥ b
 · rw [if_pos h]
   by_cases h2 : a ≤ c <;> simp [h2] <;> omega
 · rw [if_neg h]; simp; omega
theorem within_eq (a b c : Int) : impl_within.f a b c = some (decide (b ≤ a ∧ a ≤ c)) := by
 unfold impl_within.f
 by_cases h : a ≥ b
 · rw [if_pos h]
   by_cases h2 : a ≤ c <;> simp [h2] <;> omega
 · rw [if_neg h]; simp; omega
def okP (l : List S79) (i : Nat) : Prop := (0 ≤ (rd_T79 l i).f0 ∧ (rd_T79 l i).f0 ≤ 255) ∧ ((rd_T79 l i).f1.size : Int) = 64 ∧ (i = 0 ∨ (rd_T79 l ((i : Int) - 1)).f0 < (rd_T79 l i).f0)
instance (l : List S79) : DecidablePred (okP l) := fun i => by unfold okP; infer_instance
theorem pages_spec (k : Nat) (l : List S79) (hl : l.length ≤ 1048576) (hk : 1048590 ≤ k) : spec_l11Pages.f k l = some (decide (l.length ≤ 256) && decide (∀ i, i < l.length → okP l i)) := by
 unfold spec_l11Pages.f
 by_cases hn : (l.length : Int) > 256
 · have : ¬ l.length ≤ 256 := by omega
   rw [if_pos hn]; simp [this]
 ·
  rw [if_neg hn, all_loop (fun k i => spec_l11Pages.l0 k l i) (okP l) l.length 0 true
   (by intro k _; show spec_l11Pages.l0 (k + 1) l _ = _; rw [spec_l11Pages.l0, if_neg (by omega)])
   (by
    intro k i _ hi
    have h1 : (i : Int) < (l.length : Int) := by omega
    have h0 : (0 : Int) ≤ (i : Int) := by omega
    show spec_l11Pages.l0 (k + 1) l _ = _
    rw [spec_l11Pages.l0]
    simp only [if_pos h1, if_pos h0, in_eq, Option.bind_some, decide_eq_true_eq, wrap_up i (by omega)]
    by_cases hi0 : i = 0
    · subst hi0
      rw [if_neg (show ¬ ((0 : Nat) : Int) > 0 by omega)]
      by_cases ha : 0 ≤ (rd_T79 l ((0 : Nat) : Int)).f0 ∧ (rd_T79 l ((0 : Nat) : Int)).f0 ≤ 255
      · rw [if_pos ha]
        by_cases hb : ((rd_T79 l ((0 : Nat) : Int)).f1.size : Int) = 64
        · rw [if_pos hb, if_pos ⟨ha, hb, .inl rfl⟩]
        · rw [if_neg hb, if_neg (fun h => hb h.2.1)]
      · rw [if_neg ha, if_neg (fun h => ha h.1)]
    ·
     rw [if_pos (show (i : Int) > 0 by omega), wrap64_id (a := (i : Int) - 1) (by omega) (by omega), if_pos (show 0 ≤ (i : Int) - 1 by omega), if_pos (show (i : Int) - 1 < (l.length : Int) by omega)]
     by_cases ha : 0 ≤ (rd_T79 l i).f0 ∧ (rd_T79 l i).f0 ≤ 255
     · rw [if_pos ha]
       by_cases hb : ((rd_T79 l i).f1.size : Int) = 64
       · rw [if_pos hb]
         by_cases hc : (rd_T79 l ((i : Int) - 1)).f0 < (rd_T79 l i).f0
         · rw [if_neg (show ¬ (rd_T79 l ((i : Int) - 1)).f0 ≥ (rd_T79 l i).f0 by omega), if_pos ⟨ha, hb, .inr hc⟩]
         · rw [if_pos (show (rd_T79 l ((i : Int) - 1)).f0 ≥ (rd_T79 l i).f0 by omega), if_neg (fun h => h.2.2.elim hi0 hc)]
       · rw [if_neg hb, if_neg (fun h => hb h.2.1)]
     · rw [if_neg ha, if_neg (fun h => ha h.1)])
   k (by omega)]
  have : l.length ≤ 256 := by omega
  simp [this]
theorem pages_impl (k : Nat) (l : List S79) (hl : l.length ≤ 1048576) (hk : 1048590 ≤ k) : impl_ValidPages.f k l = some (decide (l.length ≤ 256) && decide (∀ i, i < l.length → okP l i)) := by
 unfold impl_ValidPages.f
 rw [all_loop (fun k i => impl_ValidPages.l0 k l l l.length i) (okP l) l.length 0 (decide ((l.length : Int) ≤ 256))
  (by intro k _; show impl_ValidPages.l0 (k + 1) l l _ _ = _; rw [impl_ValidPages.l0, if_neg (by omega)])
  (by
   intro k i _ hi
   have h1 : (i : Int) < (l.length : Int) := by omega
   have h0 : (0 : Int) ≤ (i : Int) := by omega
   show impl_ValidPages.l0 (k + 1) l l _ _ = _
   rw [impl_ValidPages.l0]
   simp only [if_pos h1, if_pos h0, within_eq, impl_isBlock.f, Option.bind_some, decide_eq_true_eq, beq_iff_eq, wrap_up i (by omega)]
   by_cases hi0 : i = 0
   ·
    subst hi0
    rw [if_neg (show ¬ ((0 : Nat) : Int) > 0 by omega)]
    by_cases ha : 0 ≤ (rd_T79 l ((0 : Nat) : Int)).f0 ∧ (rd_T79 l ((0 : Nat) : Int)).f0 ≤ 255
    · rw [if_pos ha]
      by_cases hb : ((rd_T79 l ((0 : Nat) : Int)).f1.size : Int) = 64
      · rw [if_pos hb, if_pos ⟨ha, hb, .inl rfl⟩]
      · rw [if_neg hb, if_neg (fun h => hb h.2.1)]
    · rw [if_neg ha, if_neg (fun h => ha h.1)]
   ·
    rw [if_pos (show (i : Int) > 0 by omega), wrap64_id (a := (i : Int) - 1) (by omega) (by omega), if_pos (show 0 ≤ (i : Int) - 1 by omega), if_pos (show (i : Int) - 1 < (l.length : Int) by omega)]
    by_cases ha : 0 ≤ (rd_T79 l i).f0 ∧ (rd_T79 l i).f0 ≤ 255
    · rw [if_pos ha]
      by_cases hc : (rd_T79 l ((i : Int) - 1)).f0 < (rd_T79 l i).f0
      · rw [if_neg (show ¬ (rd_T79 l i).f0 ≤ (rd_T79 l ((i : Int) - 1)).f0 by omega)]
        by_cases hb : ((rd_T79 l i).f1.size : Int) = 64
        · rw [if_pos hb, if_pos ⟨ha, hb, .inr hc⟩]
        · rw [if_neg hb, if_neg (fun h => hb h.2.1)]
      · rw [if_pos (show (rd_T79 l i).f0 ≤ (rd_T79 l ((i : Int) - 1)).f0 by omega), if_neg (fun h => h.2.2.elim hi0 hc)]
    · rw [if_neg ha, if_neg (fun h => ha h.1)])
  k (by omega)]
 have : decide ((l.length : Int) ≤ 256) = decide (l.length ≤ 256) := by apply decide_eq_decide.2; omega
 rw [this, Bool.and_comm]
def ins (p : S79) : List S79 → List S79
 | [] => [p]
 | q :: l => if q.f0 < p.f0 then q :: ins p l else if q.f0 = p.f0 then p :: l else p :: q :: l
def mrg : List S79 → List S79 → List S79
 | [], b => b
 | a, [] => a
 | x :: a, y :: b => if x.f0 < y.f0 then x :: mrg a (y :: b) else if x.f0 = y.f0 then y :: mrg a b else y :: mrg (x :: a) b
 termination_by a b => a.length + b.length
def Srt (l : List S79) : Prop := l.Pairwise fun x y => x.f0 < y.f0
theorem mrg_nil (a : List S79) : mrg a [] = a := by cases a <;> simp [mrg]
theorem nil_mrg (b : List S79) : mrg [] b = b := by simp [mrg]
theorem mrg_cons (x y : S79) (a b : List S79) : mrg (x :: a) (y :: b) = if x.f0 < y.f0 then x :: mrg a (y :: b) else if x.f0 = y.f0 then y :: mrg a b else y :: mrg (x :: a) b := by rw [mrg]
theorem ins_mrg (y : S79) (b : List S79) (hb : ∀ z ∈ b, y.f0 < z.f0) : ∀ a : List S79, mrg (ins y a) b = mrg a (y :: b)
 | [] => by
  rw [nil_mrg]
  show mrg [y] b = _
  cases b with
  | nil => exact mrg_nil _
  | cons z b => rw [mrg_cons, if_pos (hb z List.mem_cons_self), nil_mrg]
 | x :: a => by
  rw [mrg_cons]
  unfold ins
  by_cases h : x.f0 < y.f0
  · rw [if_pos h, if_pos h, ← ins_mrg y b hb a]
    cases b with
    | nil => rw [mrg_nil, mrg_nil]
    | cons z b => rw [mrg_cons, if_pos (by have := hb z List.mem_cons_self; omega)]
  ·
   rw [if_neg h, if_neg h]
   by_cases h2 : x.f0 = y.f0
   · rw [if_pos h2, if_pos h2]
     cases b with
     | nil => rw [mrg_nil, mrg_nil]
     | cons z b => rw [mrg_cons, if_pos (hb z List.mem_cons_self)]
   · rw [if_neg h2, if_neg h2]
     cases b with
     | nil => rw [mrg_nil, mrg_nil]
     | cons z b => rw [mrg_cons, if_pos (hb z List.mem_cons_self)]
theorem fold_mrg : ∀ (b : List S79), Srt b → ∀ a : List S79, b.foldl (fun l p => ins p l) a = mrg a b
 | [], _, a => (mrg_nil a).symm
 | y :: b, h, a => by
  rw [List.foldl_cons, fold_mrg b (List.pairwise_cons.1 h).2, ins_mrg y b (List.pairwise_cons.1 h).1]
theorem ins_mem (p : S79) : ∀ (l : List S79) (z : S79), z ∈ ins p l → z = p ∨ z ∈ l
 | [], z, h => .inl (List.mem_singleton.1 h)
 | q :: l, z, h => by
  unfold ins at h
  split at h
  · rcases List.mem_cons.1 h with h | h
    · exact .inr (by rw [h]; exact List.mem_cons_self)
    · rcases ins_mem p l z h with h | h
      · exact .inl h
      · exact .inr (List.mem_cons_of_mem _ h)
  ·
   split at h
   · rcases List.mem_cons.1 h with h | h
     · exact .inl h
     · exact .inr (List.mem_cons_of_mem _ h)
   · rcases List.mem_cons.1 h with h | h
     · exact .inl h
     · exact .inr h
theorem ins_srt (p : S79) : ∀ l : List S79, Srt l → Srt (ins p l)
 | [], _ => List.pairwise_singleton _ _
 | q :: l, h => by
  obtain ⟨h1, h2⟩ := List.pairwise_cons.1 h
  unfold ins
  split
  · rename_i hq
    refine List.pairwise_cons.2 ⟨fun z hz => ?_, ins_srt p l h2⟩
    rcases ins_mem p l z hz with rfl | hz
    · exact hq
    · exact h1 z hz
  ·
   rename_i hq
   split
   · rename_i he
     exact List.pairwise_cons.2 ⟨fun z hz => by have := h1 z hz; omega, h2⟩
   · exact List.pairwise_cons.2 ⟨fun z hz => by
      rcases List.mem_cons.1 hz with rfl | hz
      · omega
      · have := h1 z hz; omega, h⟩
theorem ins_len (p : S79) : ∀ l : List S79, (ins p l).length ≤ l.length + 1
 | [] => Nat.le_refl _
 | q :: l => by
  unfold ins
  have := ins_len p l
  split
  · simp only [List.length_cons]; omega
  · split <;> simp only [List.length_cons] <;> omega
theorem mrg_len (a b : List S79) : (mrg a b).length ≤ a.length + b.length := by
 induction a, b using mrg.induct with
 | case1 b => rw [nil_mrg]; omega
 | case2 a => rw [mrg_nil]; simp
 | case3 x a y b h ih => rw [mrg_cons, if_pos h]; simp only [List.length_cons] at *; omega
 | case4 x a y b h h2 ih => rw [mrg_cons, if_neg h, if_pos h2]; simp only [List.length_cons] at *; omega
 | case5 x a y b h h2 ih => rw [mrg_cons, if_neg h, if_neg h2]; simp only [List.length_cons] at *; omega
theorem ins_at (p : S79) : ∀ (l : List S79) (pos : Nat), pos ≤ l.length → (∀ j (hj : j < l.length), j < pos → (l[j]).f0 < p.f0) → (∀ j (hj : j < l.length), pos ≤ j → p.f0 ≤ (l[j]).f0) →
 (∀ (h : pos < l.length), (l[pos]).f0 = p.f0 → l.set pos p = ins p l) ∧ ((∀ (h : pos < l.length), (l[pos]).f0 ≠ p.f0) → l.take pos ++ [p] ++ l.drop pos = ins p l)
 | [], pos, h0, _, _ => ⟨fun h => absurd h (by simp), fun _ => by simp [ins]⟩
 | q :: l, 0, _, _, hge => by
  have h := hge 0 (by simp) (Nat.le_refl _)
  have h' : p.f0 ≤ q.f0 := h
  refine ⟨fun _ he => ?_, fun hn => ?_⟩
  · have he' : q.f0 = p.f0 := he
    unfold ins
    rw [if_neg (by omega), if_pos he']
    rfl
  · have hn' : q.f0 ≠ p.f0 := hn (by simp)
    unfold ins
    rw [if_neg (by omega), if_neg hn']
    rfl
 | q :: l, pos + 1, h0, hlt, hge => by
  have hq : q.f0 < p.f0 := hlt 0 (by simp) (by omega)
  have ih := ins_at p l pos (by simpa using h0) (fun j hj hp => hlt (j + 1) (by simpa using hj) (by omega)) (fun j hj hp => hge (j + 1) (by simpa using hj) (by omega))
  unfold ins
  rw [if_pos hq]
  refine ⟨fun h he => ?_, fun hn => ?_⟩
  · rw [List.set_cons_succ, ih.1 (by simpa using h) he]
  · rw [List.take_succ_cons, List.drop_succ_cons, ← ih.2 (fun h => hn (by simpa using h))]
    rfl
theorem rdP (l : List S79) (i : Nat) (h : i < l.length) : rd_T79 l (i : Int) = l[i] := getD_lt l z79 i h
theorem dropP (l : List S79) (i : Nat) (h : i < l.length) : l.drop i = l[i] :: l.drop (i + 1) := List.drop_eq_getElem_cons h
theorem cmp_eq (a b : Int) (d : ByteArray) : impl_pageAt_1.f a d b = some (if a < b then -1 else if a > b then 1 else 0) := by
 unfold impl_pageAt_1.f cmp_Compare_int64.f cmp_isNaN_int64.f
 simp only [Option.bind_some, bne_self_eq_false, Bool.false_eq_true, if_false]
 by_cases h : a < b
 · rw [if_pos h, if_pos h]; rfl
 · rw [if_neg h, if_neg h]
   by_cases h2 : a > b
   · rw [if_pos h2, if_pos h2]; rfl
   · rw [if_neg h2, if_neg h2]; rfl
theorem mid_eq (lo hi : Nat) (h : lo + hi ≤ 100000) : wrap64 ((IntKind.u64.wrap (wrap64 ((lo : Int) + (hi : Int)))) / 2) = (((lo + hi) / 2 : Nat) : Int) := by
 have h1 : wrap64 ((lo : Int) + (hi : Int)) = ((lo + hi : Nat) : Int) := by unfold wrap64; omega
 have h2 : IntKind.u64.wrap (((lo + hi : Nat) : Int)) = ((lo + hi : Nat) : Int) := by simp only [IntKind.wrap]; simp [IntKind.signed, IntKind.bits]; omega
 rw [h1, h2]
 unfold wrap64
 omega
theorem srt_get {l : List S79} (h : Srt l) (i j : Nat) (hj : j < l.length) (hij : i < j) : (l[i]).f0 < (l[j]).f0 := List.pairwise_iff_getElem.1 h i j (by omega) hj hij
theorem search_eq (l : List S79) (b : Int) (hs : Srt l) (hl : l.length ≤ 10000) : ∀ (d lo hi k : Nat), hi - lo ≤ d → lo ≤ hi → hi ≤ l.length → d < k → (∀ j (hj : j < l.length), j < lo → (l[j]).f0 < b) → (∀ j (hj : j < l.length), hi ≤ j → b ≤ (l[j]).f0) →
 ∃ pos : Nat, pos ≤ l.length ∧ (∀ j (hj : j < l.length), j < pos → (l[j]).f0 < b) ∧ (∀ j (hj : j < l.length), pos ≤ j → b ≤ (l[j]).f0) ∧
  slices_BinarySearchFunc_impl_pageAt_1.l0 k l b (l.length : Int) (lo : Int) (hi : Int) = some ((pos : Int), if h : pos < l.length then decide ((l[pos]).f0 = b) else false) := by
 intro d
 induction d with
 | zero =>
  intro lo hi k hd h1 h2 hk hlt hge
  obtain ⟨k, rfl⟩ : ∃ z, k = z + 1 := ⟨k - 1, by omega⟩
  obtain rfl : lo = hi := by omega
  refine ⟨lo, h2, hlt, hge, ?_⟩
  rw [slices_BinarySearchFunc_impl_pageAt_1.l0, if_neg (by omega)]
  by_cases h : lo < l.length
  ·
   rw [if_pos (by omega), if_pos (by omega), if_pos (by omega), cmp_eq, rdP l lo h, dif_pos h]
   have := hge lo h (Nat.le_refl _)
   simp only [Option.bind_some]
   rw [if_neg (by omega)]
   by_cases he : (l[lo]).f0 = b
   · rw [if_neg (by omega), decide_eq_true he]; rfl
   · rw [if_pos (by omega), decide_eq_false he]; rfl
  · rw [if_neg (by omega), dif_neg h]
 | succ d ih =>
  intro lo hi k hd h1 h2 hk hlt hge
  obtain ⟨k, rfl⟩ : ∃ z, k = z + 1 := ⟨k - 1, by omega⟩
  by_cases h : lo < hi
  ·
   have hm1 : (lo + hi) / 2 < l.length := by omega
   rw [slices_BinarySearchFunc_impl_pageAt_1.l0, if_pos (by omega), mid_eq lo hi (by omega), if_pos (by omega), if_pos (by omega), cmp_eq, rdP l _ hm1]
   simp only [Option.bind_some]
   by_cases hc : (l[(lo + hi) / 2]).f0 < b
   · rw [if_pos hc, if_pos (by decide), wrap_up _ (by omega)]
     exact ih ((lo + hi) / 2 + 1) hi k (by omega) (by omega) h2 (by omega) (fun j hj hjl => by
      by_cases e : j = (lo + hi) / 2
      · subst e; exact hc
      · have := srt_get hs j ((lo + hi) / 2) hm1 (by omega); omega) hge
   · rw [if_neg hc, if_neg (by split <;> decide)]
     exact ih lo ((lo + hi) / 2) k (by omega) (by omega) (by omega) (by omega) hlt (fun j hj hjl => by
      by_cases e : j = (lo + hi) / 2
      · subst e; omega
      · have := srt_get hs ((lo + hi) / 2) j hj (by omega); omega)
  · obtain ⟨pos, p1, p2, p3, p4⟩ := ih lo hi (k + 1) (by omega) h1 h2 (by omega) hlt hge
    exact ⟨pos, p1, p2, p3, p4⟩
theorem put_eq (l : List S79) (hs : Srt l) (hl : l.length ≤ 10000) (b : Int) (d : ByteArray) (k : Nat) (hk : l.length < k) : impl_putPage.f k l b d = some (ins ⟨b, d⟩ l) := by
 obtain ⟨pos, p1, p2, p3, p4⟩ := search_eq l b hs hl l.length 0 l.length k (by omega) (by omega) (Nat.le_refl _) hk (fun j _ h => absurd h (by omega)) (fun j hj h => absurd hj (by omega))
 have hi := ins_at ⟨b, d⟩ l pos p1 p2 p3
 unfold impl_putPage.f impl_pageAt.f slices_BinarySearchFunc_impl_pageAt_1.f
 rw [show (0 : Int) = ((0 : Nat) : Int) from rfl, p4]
 simp only [Option.bind_some]
 by_cases h : pos < l.length
 ·
  rw [dif_pos h]
  by_cases he : (l[pos]).f0 = b
  · rw [decide_eq_true he, if_pos rfl, if_pos (by omega), if_pos (by omega), Int.toNat_natCast, hi.1 h he]
  · rw [decide_eq_false he, if_neg (by decide)]
    unfold impl_Page.f
    rw [if_pos ⟨by omega, rfl, by omega, by omega⟩, Int.toNat_natCast, hi.2 (fun _ => he)]
    rfl
 · rw [dif_neg h, if_neg (by decide)]
   unfold impl_Page.f
   rw [if_pos ⟨by omega, rfl, by omega, by omega⟩, Int.toNat_natCast, hi.2 (fun h2 => absurd h2 h)]
   rfl
theorem merged_eq (a b : List S79) (ha : Srt a) (hb : Srt b) (la : a.length ≤ 1000) (lb : b.length ≤ 1000) (k : Nat) (hk : 5000 ≤ k) : impl_merged.f k a b = some (mrg a b) := by
 have key : ∀ (d i k : Nat) (x : List S79), i + d = b.length → 3000 + d ≤ k → Srt x → x.length + d ≤ 2000 → impl_merged.l0 k x b (b.length : Int) (i : Int) = some ((b.drop i).foldl (fun l p => ins p l) x) := by
  intro d
  induction d with
  | zero =>
   intro i k x hi hk hx hxl
   obtain ⟨k, rfl⟩ : ∃ z, k = z + 1 := ⟨k - 1, by omega⟩
   rw [impl_merged.l0, if_neg (by omega), List.drop_eq_nil_of_le (by omega)]
   rfl
  | succ d ih =>
   intro i k x hi hk hx hxl
   obtain ⟨k, rfl⟩ : ∃ z, k = z + 1 := ⟨k - 1, by omega⟩
   have hil : i < b.length := by omega
   have := ins_len ⟨(b[i]).f0, (b[i]).f1⟩ x
   rw [impl_merged.l0, if_pos (by omega), if_pos (by omega), if_pos (by omega), rdP b i hil, put_eq x hx (by omega) _ _ k (by omega)]
   simp only [Option.bind_some]
   rw [wrap_up i (by omega), ih (i + 1) k _ (by omega) (by omega) (ins_srt _ x hx) (by omega), dropP b i hil, List.foldl_cons]
 unfold impl_merged.f slices_Clone_impl_Page_impl_Page.f slices_Clone_impl_Page_impl_Page_nn.f
 simp only [Option.bind_some, List.length_nil, List.nil_append]
 rw [if_pos (by omega)]
 simp only [Option.bind_some]
 have := key b.length 0 k a (by omega) (by omega) ha (by omega)
 rw [show (0 : Int) = ((0 : Nat) : Int) from rfl, this, List.drop_zero, fold_mrg b hb]
theorem srt_ok {l : List S79} (h : ∀ i, i < l.length → okP l i) : Srt l := by
 refine List.pairwise_iff_getElem.2 (fun i j hi hj hij => ?_)
 have key : ∀ d, (hd : i + 1 + d < l.length) → (l[i]).f0 < (l[i + 1 + d]).f0 := by
  intro d
  induction d with
  | zero =>
   intro hd
   have h1 := (h (i + 1) (by omega)).2.2
   rcases h1 with h1 | h1
   · omega
   · rw [show (((i + 1 : Nat) : Int) - 1) = (i : Int) by omega, rdP l i hi, rdP l (i + 1) (by omega)] at h1
     exact h1
  | succ d ih =>
   intro hd
   have h2 := ih (by omega)
   have h1 := (h (i + 1 + (d + 1)) hd).2.2
   rcases h1 with h1 | h1
   · omega
   · rw [show (((i + 1 + (d + 1) : Nat) : Int) - 1) = ((i + 1 + d : Nat) : Int) by omega, rdP l (i + 1 + d) (by omega), rdP l (i + 1 + (d + 1)) hd] at h1
     omega
 have := key (j - i - 1) (by omega)
 have e : i + 1 + (j - i - 1) = j := by omega
 simpa only [e] using this
theorem specmerge_eq (a b : List S79) (la : a.length ≤ 1000) (lb : b.length ≤ 1000) : ∀ (d i j k : Nat) (out : List S79), (a.length - i) + (b.length - j) = d → i ≤ a.length → j ≤ b.length → out.length + d ≤ 2000 → 3 * d + 2 ≤ k → spec_l11Merge.l0 k a b out (i : Int) (j : Int) = some (out ++ mrg (a.drop i) (b.drop j)) := by
 intro d
 induction d using Nat.strongRecOn with
 | _ d ih =>
 intro i j k out hd hi hj ho hk
 by_cases h0 : d = 0
 · obtain ⟨k, rfl⟩ : ∃ z, k = z + 1 + 1 := ⟨k - 2, by omega⟩
   rw [spec_l11Merge.l0, if_neg (by omega), decide_eq_false (by omega), spec_l11Merge.j1, if_neg (by decide), List.drop_eq_nil_of_le (by omega), List.drop_eq_nil_of_le (by omega), nil_mrg, List.append_nil]
 ·
  obtain ⟨k, rfl⟩ : ∃ z, k = z + 1 + 1 + 1 := ⟨k - 3, by omega⟩
  have e1 : spec_l11Merge.l0 (k + 1 + 1 + 1) a b out (i : Int) (j : Int) = spec_l11Merge.j1 (k + 1 + 1) a b out (i : Int) (j : Int) true := by
   rw [spec_l11Merge.l0]
   by_cases h : (i : Int) < (a.length : Int)
   · rw [if_pos h]
   · rw [if_neg h, decide_eq_true (by omega)]
  rw [e1, spec_l11Merge.j1, if_pos rfl]
  by_cases hjb : j = b.length
  · have hia : i < a.length := by omega
    rw [if_pos (by omega), spec_l11Merge.j2, if_pos rfl, if_pos (by omega), if_pos (by omega), if_pos (by omega), wrap_up i (by omega), rdP a i hia, ih (d - 1) (by omega) (i + 1) j k _ (by omega) (by omega) hj (by simp; omega) (by omega), List.drop_eq_nil_of_le (show b.length ≤ j by omega), mrg_nil, mrg_nil, dropP a i hia, List.append_assoc]
    rfl
  ·
   have hjb' : j < b.length := by omega
   rw [if_neg (by omega)]
   by_cases hia : i < a.length
   ·
    rw [if_pos (by omega), if_pos (by omega), if_pos (by omega), if_pos (by omega), rdP a i hia, rdP b j hjb', dropP a i hia, dropP b j hjb', mrg_cons, ← dropP a i hia, ← dropP b j hjb']
    by_cases hlt : (a[i]).f0 < (b[j]).f0
    · rw [decide_eq_true hlt, if_pos hlt, spec_l11Merge.j2, if_pos rfl, if_pos (by omega), if_pos (by omega), if_pos (by omega), wrap_up i (by omega), rdP a i hia, ih (d - 1) (by omega) (i + 1) j k _ (by omega) (by omega) hj (by simp; omega) (by omega), List.append_assoc]
      rfl
    · rw [decide_eq_false hlt, if_neg hlt, spec_l11Merge.j2, if_neg (by decide), if_pos (by omega), if_pos (by omega), if_pos (by omega), if_pos (by omega), rdP a i hia, rdP b j hjb']
      by_cases he : (a[i]).f0 = (b[j]).f0
      · rw [if_pos he, if_pos he, if_pos (by omega), wrap_up i (by omega), wrap_up j (by omega), ih (d - 2) (by omega) (i + 1) (j + 1) k _ (by omega) (by omega) (by omega) (by simp; omega) (by omega), List.append_assoc]
        rfl
      · rw [if_neg he, if_neg he, if_pos (by omega), wrap_up j (by omega), ih (d - 1) (by omega) i (j + 1) k _ (by omega) (by omega) (by omega) (by simp; omega) (by omega), List.append_assoc]
        rfl
   · rw [if_neg (by omega), spec_l11Merge.j2, if_neg (by decide), if_neg (by omega), if_pos (by omega), if_pos (by omega), if_pos (by omega), wrap_up j (by omega), rdP b j hjb', ih (d - 1) (by omega) i (j + 1) k _ (by omega) hi (by omega) (by simp; omega) (by omega), List.drop_eq_nil_of_le (show a.length ≤ i by omega), nil_mrg, nil_mrg, dropP b j hjb', List.append_assoc]
     rfl
theorem mt_loop : ∀ (d : Nat) (x : Int), 0 ≤ x → x ≤ d → ∀ (s : ByteArray), s.size + d ≤ 1099511627776 → ∃ t, ∀ k, d + 1 ≤ k → laws_markText.l0 k x s = some t := by
 intro d
 induction d with
 | zero =>
  intro x h0 h1 s hs
  refine ⟨⟨#[109]⟩ ++ s, fun k hk => ?_⟩
  obtain ⟨k, rfl⟩ : ∃ m, k = m + 1 := ⟨k - 1, by omega⟩
  rw [laws_markText.l0, if_neg (by omega), if_pos (by omega)]
 | succ d ih =>
  intro x h0 h1 s hs
  by_cases hx : x > 0
  ·
   have e : Int.tdiv x 10 = x / 10 := Int.tdiv_eq_ediv_of_nonneg h0
   have hsz : (strOfNums [(wrap64 (48 + Int.tmod x 10)) % 256]).size = 1 := by rw [strOfNums_size]; rfl
   obtain ⟨t, ht⟩ := ih (x / 10) (by omega) (by omega) (strOfNums [(wrap64 (48 + Int.tmod x 10)) % 256] ++ s) (by rw [ByteArray.size_append, hsz]; omega)
   refine ⟨t, fun k hk => ?_⟩
   obtain ⟨k, rfl⟩ : ∃ m, k = m + 1 := ⟨k - 1, by omega⟩
   rw [laws_markText.l0, if_pos hx]
   simp only [Option.bind_some]
   rw [if_pos (by rw [hsz]; omega), e, wrap64_id (by omega) (by omega)]
   exact ht k (by omega)
  · refine ⟨⟨#[109]⟩ ++ s, fun k hk => ?_⟩
    obtain ⟨k, rfl⟩ : ∃ m, k = m + 1 := ⟨k - 1, by omega⟩
    rw [laws_markText.l0, if_neg hx, if_pos (by omega)]
def mt (x : Int) : ByteArray := (laws_markText.f 5000001 x).getD ByteArray.empty
theorem mt_some (x : Int) (h0 : 0 ≤ x) (h1 : x ≤ 5000000) (k : Nat) (hk : 5000001 ≤ k) : laws_markText.f k x = some (mt x) := by
 have key : ∃ t, ∀ k, 5000001 ≤ k → laws_markText.f k x = some t := by
  by_cases hx : x ≤ 0
  · exact ⟨⟨#[109, 48]⟩, fun k _ => by unfold laws_markText.f; rw [if_pos hx]⟩
  · obtain ⟨t, ht⟩ := mt_loop 5000000 x h0 (by omega) ⟨#[]⟩ (by simp [ByteArray.size])
    exact ⟨t, fun k hk => by unfold laws_markText.f; rw [if_neg hx]; exact ht k (by omega)⟩
 obtain ⟨t, ht⟩ := key
 rw [ht k hk, mt, ht _ (Nat.le_refl _)]
 rfl
def pg : Int → Nat → List S79
 | _, 0 => []
 | x, d + 1 => ⟨x, mt (x + 1)⟩ :: pg (x + 2) d
theorem rdm (p l : List S79) (y : S79) : rd_T79 (p ++ y :: l) (p.length : Int) = y := by unfold rd_T79; simp
theorem setm (p l : List S79) (y z : S79) : (p ++ y :: l).set (p.length : Int).toNat z = p ++ z :: l := by simp
theorem pg_mark : ∀ (l p : List S79) (x : Int) (k : Nat), p.length + l.length ≤ 1048576 → 0 ≤ x → x + 2 * l.length ≤ 5000000 → 5000002 + l.length ≤ k → laws_markPageS.l0 k (p ++ l) x (p.length : Int) = some (x + 2 * l.length, p ++ pg x l.length) := by
 intro l
 induction l with
 | nil =>
  intro p x k hl h0 h1 hk
  obtain ⟨k, rfl⟩ : ∃ m, k = m + 1 := ⟨k - 1, by omega⟩
  rw [laws_markPageS.l0, if_neg (by simp)]
  simp [pg]
 | cons y l ih =>
  intro p x k hl h0 h1 hk
  simp only [List.length_cons] at hl h1 hk
  obtain ⟨k, rfl⟩ : ∃ m, k = m + 1 := ⟨k - 1, by omega⟩
  rw [laws_markPageS.l0, if_pos (by rw [List.length_append, List.length_cons]; omega), if_pos (by omega)]
  simp only [Option.bind_some]
  rw [rdm, setm, rdm, wrap64_id (a := x + 1) (by omega) (by omega), mt_some (x + 1) (by omega) (by omega) k (by omega)]
  simp only [Option.bind_some]
  rw [setm]
  have e : p ++ (⟨x, mt (x + 1)⟩ : S79) :: l = (p ++ [⟨x, mt (x + 1)⟩]) ++ l := by simp
  have h := ih (p ++ [⟨x, mt (x + 1)⟩]) (x + 2) k (by simp; omega) (by omega) (by omega) (by omega)
  rw [e, wrap_up p.length (by omega), wrap64_id (a := x + 1 + 1) (by omega) (by omega), show x + 1 + 1 = x + 2 by omega, show ((p.length + 1 : Nat) : Int) = (((p ++ [(⟨x, mt (x + 1)⟩ : S79)]).length : Nat) : Int) by simp, h]
  simp only [List.length_cons, pg, List.append_assoc, List.singleton_append]
  congr 2
  omega
theorem pg_held : ∀ (d : Nat) (p : List S79) (x : Int) (k : Nat), p.length + d ≤ 1048576 → 0 ≤ x → x + 2 * d ≤ 5000000 → 5000002 + d ≤ k → laws_heldPageS.l0 k (p ++ pg x d) x (p.length : Int) = some (x + 2 * d) := by
 intro d
 induction d with
 | zero =>
  intro p x k hl h0 h1 hk
  obtain ⟨k, rfl⟩ : ∃ m, k = m + 1 := ⟨k - 1, by omega⟩
  rw [laws_heldPageS.l0, if_neg (by simp [pg])]
  simp
 | succ d ih =>
  intro p x k hl h0 h1 hk
  obtain ⟨k, rfl⟩ : ∃ m, k = m + 1 := ⟨k - 1, by omega⟩
  rw [laws_heldPageS.l0, if_pos (by simp only [pg, List.length_append, List.length_cons]; omega), if_pos (by omega), show pg x (d + 1) = ⟨x, mt (x + 1)⟩ :: pg (x + 2) d from rfl]
  rw [rdm, if_pos rfl, wrap64_id (a := x + 1) (by omega) (by omega), mt_some (x + 1) (by omega) (by omega) k (by omega)]
  simp only [Option.bind_some]
  rw [if_pos trivial]
  have e : p ++ (⟨x, mt (x + 1)⟩ : S79) :: pg (x + 2) d = (p ++ [⟨x, mt (x + 1)⟩]) ++ pg (x + 2) d := by simp
  have h := ih (p ++ [⟨x, mt (x + 1)⟩]) (x + 2) k (by simp; omega) (by omega) (by omega) (by omega)
  rw [e, wrap_up p.length (by omega), wrap64_id (a := x + 1 + 1) (by omega) (by omega), show x + 1 + 1 = x + 2 by omega, show ((p.length + 1 : Nat) : Int) = (((p ++ [(⟨x, mt (x + 1)⟩ : S79)]).length : Nat) : Int) by simp, h]
  congr 1
  omega
theorem mrg_mem (a b : List S79) : ∀ z ∈ mrg a b, z ∈ a ∨ z ∈ b := by
 induction a, b using mrg.induct with
 | case1 b => intro z hz; rw [nil_mrg] at hz; exact .inr hz
 | case2 a => intro z hz; rw [mrg_nil] at hz; exact .inl hz
 | case3 x a y b h ih =>
  intro z hz
  rw [mrg_cons, if_pos h] at hz
  rcases List.mem_cons.1 hz with rfl | hz
  · exact .inl List.mem_cons_self
  · rcases ih z hz with h1 | h1
    · exact .inl (List.mem_cons_of_mem _ h1)
    · exact .inr h1
 | case4 x a y b h h2 ih =>
  intro z hz
  rw [mrg_cons, if_neg h, if_pos h2] at hz
  rcases List.mem_cons.1 hz with rfl | hz
  · exact .inr List.mem_cons_self
  · rcases ih z hz with h1 | h1
    · exact .inl (List.mem_cons_of_mem _ h1)
    · exact .inr (List.mem_cons_of_mem _ h1)
 | case5 x a y b h h2 ih =>
  intro z hz
  rw [mrg_cons, if_neg h, if_neg h2] at hz
  rcases List.mem_cons.1 hz with rfl | hz
  · exact .inr List.mem_cons_self
  · rcases ih z hz with h1 | h1
    · exact .inl h1
    · exact .inr (List.mem_cons_of_mem _ h1)
theorem both (a b : List S79) (la : (a.length : Int) ≤ 1048576) (lb : (b.length : Int) ≤ 1048576) (qa : ∀ y ∈ a, QS79 y) (qb : ∀ y ∈ b, QS79 y) : ∃ v : List S79, v.length ≤ 512 ∧ (∀ y ∈ v, QS79 y) ∧ ∀ k, 1048590 ≤ k → spec_MergePages.f k a b = some v ∧ impl_MergePages.f k a b = some v := by
 have SA := fun k (hk : 1048590 ≤ k) => pages_spec k a (by omega) hk
 have SB := fun k (hk : 1048590 ≤ k) => pages_spec k b (by omega) hk
 have IA := fun k (hk : 1048590 ≤ k) => pages_impl k a (by omega) hk
 have IB := fun k (hk : 1048590 ≤ k) => pages_impl k b (by omega) hk
 by_cases ha : (decide (a.length ≤ 256) && decide (∀ i, i < a.length → okP a i)) = true
 ·
  by_cases hb : (decide (b.length ≤ 256) && decide (∀ i, i < b.length → okP b i)) = true
  ·
   have ha' := ha
   have hb' := hb
   rw [Bool.and_eq_true, decide_eq_true_iff, decide_eq_true_iff] at ha' hb'
   obtain ⟨a1, a2⟩ := ha'
   obtain ⟨b1, b2⟩ := hb'
   refine ⟨mrg a b, by have := mrg_len a b; omega, fun y hy => (mrg_mem a b y hy).elim (qa y) (qb y), fun k hk => ⟨?_, ?_⟩⟩
   ·
    unfold spec_MergePages.f spec_l11Merge.f
    rw [SA k hk, ha]
    simp only [Option.bind_some, if_true]
    rw [SB k hk, hb]
    simp only [Option.bind_some, if_true]
    have := specmerge_eq a b (by omega) (by omega) (a.length + b.length) 0 0 k [] (by omega) (by omega) (by omega) (by simp; omega) (by omega)
    simp only [List.drop_zero, List.nil_append] at this
    rw [show (0 : Int) = ((0 : Nat) : Int) from rfl, this]
    rfl
   · unfold impl_MergePages.f
     rw [IA k hk, ha]
     simp only [Option.bind_some, if_true]
     rw [IB k hk, hb]
     simp only [Option.bind_some, if_true]
     rw [merged_eq a b (srt_ok a2) (srt_ok b2) (by omega) (by omega) k (by omega)]
     rfl
  ·
   refine ⟨[], by simp, by simp, fun k hk => ⟨?_, ?_⟩⟩
   · unfold spec_MergePages.f
     rw [SA k hk, ha]
     simp only [Option.bind_some, if_true]
     rw [SB k hk]
     simp only [Option.bind_some]
     rw [if_neg hb]
   · unfold impl_MergePages.f
     rw [IA k hk, ha]
     simp only [Option.bind_some, if_true]
     rw [IB k hk]
     simp only [Option.bind_some]
     rw [if_neg hb]
 ·
  refine ⟨[], by simp, by simp, fun k hk => ⟨?_, ?_⟩⟩
  · unfold spec_MergePages.f
    rw [SA k hk]
    simp only [Option.bind_some]
    rw [if_neg ha]
  · unfold impl_MergePages.f
    rw [IA k hk]
    simp only [Option.bind_some]
    rw [if_neg ha]
theorem FnExactMergePages : laws_FnExactMergePages.Pure := by
 intro l0 l1 o0 o1
 refine ⟨17000001, ?_⟩
 obtain ⟨t1, e1, h1⟩ := g_szPageS 17000001 l0 1048576 (by omega) (by omega) (by omega) o0
 rcases h1 with h1 | ⟨h1, m1, q0, q0'⟩
 · simp only [laws_FnExactMergePages.f, e1, Option.bind_some, if_pos h1]
 have n1 : ¬ t1 < 0 := by omega
 obtain ⟨t2, e2, h2⟩ := g_szPageS 17000001 l1 t1 (by omega) (by omega) (by omega) o1
 rcases h2 with h2 | ⟨h2, m2, q1, q1'⟩
 · simp only [laws_FnExactMergePages.f, e1, Option.bind_some, if_neg n1, e2, if_pos h2]
 have n2 : ¬ t2 < 0 := by omega
 have T0 := fun k (hk : 16000000 ≤ k) => g_toPageS k l0 (by omega) q0 q0'
 have T1 := fun k (hk : 16000000 ≤ k) => g_toPageS k l1 (by omega) q1 q1'
 have c0 : (((l0.map cS78)).length : Int) ≤ 1048576 := by rw [List.length_map]; exact q0
 have c1 : (((l1.map cS78)).length : Int) ≤ 1048576 := by rw [List.length_map]; exact q1
 have d0 := qmS78 l0 q0'
 have d1 := qmS78 l1 q1'
 obtain ⟨v, vl, vq, hv⟩ := both (l0.map cS78) (l1.map cS78) c0 c1 d0 d1
 have HS := fun k (hk : 16000000 ≤ k) => (hv k (by omega)).1
 have HI := fun k (hk : 16000000 ≤ k) => (hv k (by omega)).2
 have E0 := fun k (hk : 16000000 ≤ k) => g_eqPageS k (l0.map cS78) (by omega) c0 d0
 have E1 := fun k (hk : 16000000 ≤ k) => g_eqPageS k (l1.map cS78) (by omega) c1 d1
 have EV := fun k (hk : 16000000 ≤ k) => g_eqPageS k v (by omega) (by omega) vq
 have M : ∀ (l : List S79) (x : Int) (k : Nat), (l.length : Int) ≤ 1048576 → 0 ≤ x → x + 2 * l.length ≤ 5000000 → 16000000 ≤ k → laws_markPageS.f k l x = some (x + 2 * l.length, pg x l.length) := fun l x k hl h0 h1 hk => pg_mark l [] x k (by simp; omega) h0 h1 (by omega)
 have HD : ∀ (d : Nat) (x : Int) (k : Nat), (d : Int) ≤ 1048576 → 0 ≤ x → x + 2 * d ≤ 5000000 → 16000000 ≤ k → laws_heldPageS.f k (pg x d) x = some (x + 2 * d) := fun d x k hl h0 h1 hk => pg_held d [] x k (by simp; omega) h0 h1 (by omega)
 unfold laws_FnExactMergePages.f
 rw [e1]
 simp only [Option.bind_some]
 rw [if_neg n1, e2]
 simp only [Option.bind_some]
 rw [if_neg n2, T0 17000001 (by omega)]
 simp only [Option.bind_some]
 rw [T1 17000001 (by omega)]
 simp only [Option.bind_some]
 rw [HS 17000001 (by omega)]
 simp only [Option.bind_some]
 rw [HI 17000001 (by omega)]
 simp only [Option.bind_some]
 rw [EV 17000001 (by omega)]
 simp only [Option.bind_some, if_true]
 rw [E0 17000001 (by omega)]
 simp only [Option.bind_some, if_true]
 rw [E1 17000001 (by omega)]
 simp only [Option.bind_some, if_true]
 rw [M _ 1 17000001 c0 (by omega) (by omega) (by omega)]
 simp only [Option.bind_some]
 rw [M _ _ 17000001 c1 (by omega) (by omega) (by omega)]
 simp only [Option.bind_some]
 rw [if_neg (by omega)]
 simp only [Bool.not_true]
 rw [laws_FnExactMergePages.j0, if_neg (by decide), M v 1 17000000 (by omega) (by omega) (by omega) (by omega)]
 simp only [Option.bind_some]
 rw [HD v.length 1 17000000 (by omega) (by omega) (by omega) (by omega)]
 simp only [Option.bind_some]
 rw [if_neg (by omega), if_pos trivial, T0 17000000 (by omega)]
 simp only [Option.bind_some]
 rw [T1 17000000 (by omega)]
 simp only [Option.bind_some]
 rw [HI 17000000 (by omega)]
 simp only [Option.bind_some]
 rw [EV 17000000 (by omega)]
 simp only [Option.bind_some, if_true]
 rw [if_neg (by omega)]

end Go.Proofs.Ytfblodggimjoaaa.Pure
