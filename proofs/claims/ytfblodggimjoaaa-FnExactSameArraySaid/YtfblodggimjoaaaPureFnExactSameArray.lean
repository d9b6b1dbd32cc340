/- The plain form of FnExactSameArray: for all arguments the answer is true. It holds without a condition. -/
import Derived.Test.YtfblodggimjoaaaPFnExactSameArrayx8
import Derived.OpenShut
namespace Go.Proofs.Ytfblodggimjoaaa.Pure
open Go Go.RowKit Go.Proofs.Ytfblodggimjoaaa.PFnExactSameArray Go.Proofs.YtfblodggimjoaaaW.PrintWords Go.Proofs.YtfblodggimjoaaaW.PrintLast Go.Proofs.YtfblodggimjoaaaW.PrintMore
set_option linter.unusedVariables false
set_option linter.unusedSimpArgs false

theorem wf64 {a : Int} (h : (Lit.int .i64 a).wf = true) : -9223372036854775808 ≤ a ∧ a ≤ 9223372036854775807 := Go.bounds_i64 h
theorem wrap64_id {a : Int} (h : -9223372036854775808 ≤ a) (h' : a ≤ 9223372036854775807) : wrap64 a = a := by unfold wrap64; omega
theorem count_loop {σ ρ : Type} (L : Nat → σ → Int → Option ρ) (n m : Nat) (I : Nat → σ → Prop) (R : ρ → Prop)
 (hstop : ∀ k s, m ≤ k → I n s → ∃ r, L (k + 1) s (n : Int) = some r ∧ R r)
 (hstep : ∀ k s (i : Nat), m ≤ k → i < n → I i s → (∃ s', I (i + 1) s' ∧ L (k + 1) s (i : Int) = L k s' ((i + 1 : Nat) : Int)) ∨ ∃ r, L (k + 1) s (i : Int) = some r ∧ R r)
 (k : Nat) (s : σ) (i : Nat) (hi : i ≤ n) (hk : n - i + m < k) (h : I i s) : ∃ r, L k s (i : Int) = some r ∧ R r := by
 obtain ⟨d, hd⟩ : ∃ d, d = n - i := ⟨_, rfl⟩
 induction d generalizing k s i with
 | zero =>
  obtain ⟨k, rfl⟩ : ∃ z, k = z + 1 := ⟨k - 1, by omega⟩
  obtain rfl : i = n := by omega
  exact hstop k s (by omega) h
 | succ d ih =>
  obtain ⟨k, rfl⟩ : ∃ z, k = z + 1 := ⟨k - 1, by omega⟩
  rcases hstep k s i (by omega) (by omega) h with ⟨s', h', e⟩ | h'
  · rw [e]; exact ih k s' (i + 1) (by omega) (by omega) h' (by omega)
  · exact h'
theorem w0 : wrap64 0 = 0 := by unfold wrap64; omega
theorem w1 : wrap64 1 = 1 := by unfold wrap64; omega
theorem w2 : wrap64 2 = 2 := by unfold wrap64; omega
theorem w3 : wrap64 3 = 3 := by unfold wrap64; omega
theorem rd_lt (l : List Int) (i : Nat) (h : i < l.length) : rd l (i : Int) = l[i] := by
 simp [rd, List.getD_eq_getElem?_getD, List.getElem?_eq_getElem h]
theorem rds_lt (l : List ByteArray) (i : Nat) (h : i < l.length) : rdOf ByteArray.empty l (i : Int) = l[i] := by
 simp [rdOf, List.getD_eq_getElem?_getD, List.getElem?_eq_getElem h]
theorem wrap_up (i : Nat) (h : i < 1099511627776) : wrap64 ((i : Int) + 1) = ((i + 1 : Nat) : Int) := by unfold wrap64; omega
theorem set_next {α : Type} (l out : List α) (i : Nat) (h : i < l.length) (hl : out.length = l.length) (hp : out.take i = l.take i) : (out.set i l[i]).take (i + 1) = l.take (i + 1) := by
 apply List.ext_getElem?
 intro j
 by_cases hj : j < i + 1
 ·
  rw [List.getElem?_take_of_lt hj, List.getElem?_take_of_lt hj]
  by_cases hji : j = i
  · subst hji; rw [List.getElem?_set_self (by omega), List.getElem?_eq_getElem h]
  · rw [List.getElem?_set_ne (by omega)]
    have := congrArg (fun z => z[j]?) hp
    simpa [List.getElem?_take_of_lt (show j < i by omega)] using this
 · rw [List.getElem?_eq_none (by simp; omega), List.getElem?_eq_none (by simp; omega)]
theorem take_all {α : Type} (l out : List α) (hl : out.length = l.length) (hp : out.take l.length = l.take l.length) : out = l := by
 rwa [List.take_of_length_le (by omega), List.take_length] at hp
theorem all_loop (L : Nat → Int → Option Bool) (P : Nat → Prop) [DecidablePred P] (n m : Nat) (r : Bool)
 (hend : ∀ k, m ≤ k → L (k + 1) (n : Int) = some r) (hstep : ∀ k (i : Nat), m ≤ k → i < n → L (k + 1) (i : Int) = if P i then L k ((i + 1 : Nat) : Int) else some false) (k : Nat) (hk : n + m < k) :
 L k 0 = some (decide (∀ i, i < n → P i) && r) := by
 obtain ⟨s, h, rfl⟩ := count_loop (fun k (_ : Unit) i => L k i) n m (fun i _ => ∀ j, j < i → P j) (fun s => s = (decide (∀ i, i < n → P i) && r))
  (by
   rintro k s hm h
   exact ⟨r, hend k hm, by simp [decide_eq_true h]⟩)
  (by
   rintro k s i hm hi h
   by_cases hp : P i
   · refine .inl ⟨(), ?_, by show L (k + 1) _ = _; rw [hstep k i hm hi, if_pos hp]⟩
     intro j hj
     by_cases hji : j = i
     · subst hji; exact hp
     · exact h j (by omega)
   · refine .inr ⟨false, by show L (k + 1) _ = _; rw [hstep k i hm hi, if_neg hp], ?_⟩
     have : ¬ ∀ i, i < n → P i := fun h => hp (h i hi)
     simp [this])
  k () 0 (by omega) (by omega) (by simp)
 exact h
def look (P : Nat → Prop) [DecidablePred P] : Nat → Nat → Int
 | 0, _ => -1
 | d + 1, i => if P i then (i : Int) else look P d (i + 1)
theorem look_or (P : Nat → Prop) [DecidablePred P] (d : Nat) : ∀ i, (look P d i = -1 ∧ ∀ j, i ≤ j → j < i + d → ¬ P j) ∨ ∃ j, i ≤ j ∧ j < i + d ∧ look P d i = (j : Int) ∧ P j := by
 induction d with
 | zero => intro i; exact .inl ⟨rfl, fun j h1 h2 => by omega⟩
 | succ d ih =>
  intro i
  by_cases hp : P i
  · exact .inr ⟨i, by omega, by omega, by rw [look, if_pos hp], hp⟩
  ·
   rw [look, if_neg hp]
   rcases ih (i + 1) with ⟨h1, h2⟩ | ⟨j, h1, h2, h3, h4⟩
   · refine .inl ⟨h1, fun j h3 h4 => ?_⟩
     by_cases hji : j = i
     · subst hji; exact hp
     · exact h2 j (by omega) (by omega)
   · exact .inr ⟨j, by omega, by omega, h3, h4⟩
theorem find_loop (L : Nat → Int → Option Int) (P : Nat → Prop) [DecidablePred P] (n m : Nat)
 (hend : ∀ k, m ≤ k → L (k + 1) (n : Int) = some (-1)) (hstep : ∀ k (i : Nat), m ≤ k → i < n → L (k + 1) (i : Int) = if P i then some (i : Int) else L k ((i + 1 : Nat) : Int)) (k : Nat) (hk : n + m < k) :
 L k 0 = some (look P n 0) := by
 have key : ∀ d k i, i + d = n → d + m < k → L k (i : Int) = some (look P d i) := by
  intro d
  induction d with
  | zero =>
   intro k i hi hk
   obtain ⟨k, rfl⟩ : ∃ z, k = z + 1 := ⟨k - 1, by omega⟩
   obtain rfl : i = n := by omega
   exact hend k (by omega)
  | succ d ih =>
   intro k i hi hk
   obtain ⟨k, rfl⟩ : ∃ z, k = z + 1 := ⟨k - 1, by omega⟩
   rw [hstep k i (by omega) (by omega), look]
   by_cases hp : P i
   · rw [if_pos hp, if_pos hp]
   · rw [if_neg hp, if_neg hp]; exact ih k (i + 1) (by omega) (by omega)
 exact key n k 0 (by omega) (by omega)
theorem getD_lt {α : Type} (l : List α) (z : α) (i : Nat) (h : i < l.length) : l.getD (i : Int).toNat z = l[i] := by
 simp [List.getD_eq_getElem?_getD, List.getElem?_eq_getElem h]
theorem g_szloop {α : Type} (L : Nat → List α → Int → Int → Option Int) (E : Nat → α → Int → Option Int) (z : α) (m : Nat) (Q : α → Prop) (l : List α)
 (hL : ∀ k a i, L (k + 1) l a i = if i < (l.length : Int) then (if 0 ≤ i then ((E k (l.getD i.toNat z) a).bind fun t => if t < 0 then some (-1) else L k l t (wrap64 (i + 1))) else none) else some a)
 (hE : ∀ k x a, x ∈ l → 0 ≤ a → a ≤ 1048576 → m ≤ k → ∃ t, E k x a = some t ∧ (t < 0 ∨ (0 ≤ t ∧ t ≤ a ∧ Q x)))
 (hl : l.length ≤ 1048576) (k : Nat) (a : Int) (h0 : 0 ≤ a) (h1 : a ≤ 1048576) (hk : m + 1048580 < k) :
 ∃ t, L k l a 0 = some t ∧ (t < 0 ∨ (0 ≤ t ∧ t ≤ a ∧ ∀ x ∈ l, Q x)) := by
 exact count_loop (fun k s i => L k l s i) l.length m (fun i s => 0 ≤ s ∧ s ≤ a ∧ ∀ x ∈ l.take i, Q x) (fun t => t < 0 ∨ (0 ≤ t ∧ t ≤ a ∧ ∀ x ∈ l, Q x))
  (by
   rintro k s - ⟨h1, h2, h3⟩
   rw [List.take_length] at h3
   exact ⟨s, by show L (k + 1) l s _ = _; rw [hL, if_neg (by omega)], .inr ⟨h1, h2, h3⟩⟩)
  (by
   rintro k s i hm hi ⟨h1, h2, h3⟩
   have hg : l.getD (i : Int).toNat z = l[i] := by simp [List.getD_eq_getElem?_getD, List.getElem?_eq_getElem hi]
   obtain ⟨t, e, ht⟩ := hE k l[i] s (List.getElem_mem hi) h1 (by omega) hm
   rcases ht with ht | ⟨q1, q2, q3⟩
   · refine .inr ⟨-1, ?_, .inl (by omega)⟩
     show L (k + 1) l s _ = _
     rw [hL, if_pos (by omega), if_pos (by omega), hg, e]
     simp only [Option.bind_some]
     rw [if_pos ht]
   ·
    refine .inl ⟨t, ⟨q1, by omega, ?_⟩, ?_⟩
    · intro x hx'
      rw [List.take_succ_eq_append_getElem hi, List.mem_append] at hx'
      rcases hx' with hx' | hx'
      · exact h3 x hx'
      · simp at hx'; subst hx'; exact q3
    · show L (k + 1) l s _ = _
      rw [hL, if_pos (by omega), if_pos (by omega), hg, e]
      simp only [Option.bind_some]
      rw [if_neg (by omega), wrap_up i (by omega)])
  k a 0 (by omega) (by omega) ⟨h0, by omega, by simp⟩
theorem g_toloop {α β γ : Type} (L : Nat → List α → List β → Int → Option (List β)) (E : Nat → α → Option γ) (mk : γ → β) (z : α) (c : α → β) (m : Nat) (l : List α)
 (hL : ∀ k s i, L (k + 1) l s i = if i < (l.length : Int) then (if 0 ≤ i then ((E k (l.getD i.toNat z)).bind fun b => (if i < (s.length : Int) then L k l (s.set i.toNat (mk b)) (wrap64 (i + 1)) else none)) else none) else some s)
 (hE : ∀ k x, x ∈ l → m ≤ k → ∃ b, E k x = some b ∧ mk b = c x)
 (hl : l.length ≤ 1048576) (k : Nat) (s : List β) (hs : s.length = l.length) (hk : m + 1048580 < k) : L k l s 0 = some (l.map c) := by
 obtain ⟨r, h, rfl⟩ := count_loop (fun k s i => L k l s i) l.length m (fun i s => s.length = (l.map c).length ∧ s.take i = (l.map c).take i) (fun r => r = l.map c)
  (by
   rintro k s - ⟨h1, h2⟩
   exact ⟨s, by show L (k + 1) l s _ = _; rw [hL, if_neg (by omega)], take_all (l.map c) s h1 (by rw [List.length_map]; exact h2)⟩)
  (by
   rintro k s i hm hi ⟨h1, h2⟩
   have hg : l.getD (i : Int).toNat z = l[i] := by simp [List.getD_eq_getElem?_getD, List.getElem?_eq_getElem hi]
   have hi' : i < (l.map c).length := by simpa using hi
   obtain ⟨b, e, hb⟩ := hE k l[i] (List.getElem_mem hi) hm
   have hb' : mk b = (l.map c)[i] := by rw [hb, List.getElem_map]
   refine .inl ⟨s.set i (l.map c)[i], ⟨by simpa using h1, set_next (l.map c) s i hi' h1 h2⟩, ?_⟩
   show L (k + 1) l s _ = _
   rw [hL, if_pos (by omega), if_pos (by omega), hg, e]
   simp only [Option.bind_some]
   rw [if_pos (by rw [h1]; simp; omega), wrap_up i (by omega), hb']
   rfl)
  k s 0 (by omega) (by omega) ⟨by simpa using hs, by simp⟩
 exact h
theorem g_eqloop {α : Type} (L : Nat → List α → List α → Int → Option Bool) (E : Nat → α → Option Bool) (z : α) (m : Nat) (l : List α)
 (hL : ∀ k i, L (k + 1) l l i = if i < (l.length : Int) then (if 0 ≤ i then (if i < (l.length : Int) then ((E k (l.getD i.toNat z)).bind fun t => (if t = true then L k l l (wrap64 (i + 1)) else some false)) else none) else none) else some true)
 (hE : ∀ k x, x ∈ l → m ≤ k → E k x = some true)
 (hl : l.length ≤ 1048576) (k : Nat) (hk : m + 1048580 < k) : L k l l 0 = some true := by
 obtain ⟨r, h, rfl⟩ := count_loop (fun k (_ : Unit) i => L k l l i) l.length m (fun _ _ => True) (fun r => r = true)
  (by
   rintro k s - -
   exact ⟨true, by show L (k + 1) l l _ = _; rw [hL, if_neg (by omega)], rfl⟩)
  (by
   rintro k s i hm hi -
   have hg : l.getD (i : Int).toNat z = l[i] := by simp [List.getD_eq_getElem?_getD, List.getElem?_eq_getElem hi]
   refine .inl ⟨(), trivial, ?_⟩
   show L (k + 1) l l _ = _
   rw [hL, if_pos (by omega), if_pos (by omega), if_pos (by omega), hg, hE k _ (List.getElem_mem hi) hm]
   simp only [Option.bind_some]
   rw [if_pos trivial, wrap_up i (by omega)])
  k () 0 (by omega) (by omega) trivial
 exact h
theorem g_szStringS (k : Nat) (l : List ByteArray) (a : Int) (h0 : 0 ≤ a) (h1 : a ≤ 1048576) (hk : 1048590 ≤ k) (o : l.length ≤ maxLen ∧ ∀ x_ ∈ l, x_.size ≤ maxLen) : ∃ t, laws_szStringS.f k l a = some t ∧ (t < 0 ∨ (0 ≤ t ∧ t ≤ a ∧ (l.length : Int) ≤ 1048576)) := by
 have ol := o.1
 unfold maxLen at ol
 unfold laws_szStringS.f
 rw [wrap64_id (by omega) (by omega)]
 by_cases h : a - (l.length : Int) < 0
 · exact ⟨-1, by rw [if_pos h], .inl (by omega)⟩
 rw [if_neg h]
 obtain ⟨t, e, q⟩ := g_szloop laws_szStringS.l0 (fun _ x a => if wrap64 (a - (x.size : Int)) < 0 then some (-1) else some (wrap64 (a - (x.size : Int)))) ByteArray.empty 0 (fun x => True) l
  (by
   intro k a i
   rw [laws_szStringS.l0]
   by_cases h : wrap64 (a - ((rdOf ByteArray.empty l i).size : Int)) < 0
   · rw [if_pos h]; unfold rdOf at h; rw [if_pos h]; rfl
   · rw [if_neg h]; unfold rdOf at h ⊢; rw [if_neg h]; simp only [Option.bind_some, if_neg h])
  (by
   intro k x a hx h0 h1 hm
   have := o.2 x hx
   unfold maxLen at this
   rw [wrap64_id (by omega) (by omega)]
   by_cases h : a - (x.size : Int) < 0
   · exact ⟨-1, by rw [if_pos h], .inl (by omega)⟩
   · exact ⟨_, by rw [if_neg h], .inr ⟨by omega, by omega, trivial⟩⟩)
  (by omega) k (a - (l.length : Int)) (by omega) (by omega) (by omega)
 rcases q with q | ⟨q1, q2, q3⟩
 · exact ⟨t, e, .inl q⟩
 · exact ⟨t, e, .inr ⟨q1, by omega, by omega⟩⟩
theorem g_szInt64S (l : List Int) (a : Int) (h0 : 0 ≤ a) (h1 : a ≤ 1048576) (ol : l.length ≤ maxLen) : ∃ t, laws_szInt64S.f l a = some t ∧ (t < 0 ∨ (0 ≤ t ∧ t ≤ a ∧ (l.length : Int) ≤ 1048576)) := by
 unfold maxLen at ol
 unfold laws_szInt64S.f
 rw [wrap64_id (by omega) (by omega)]
 by_cases h : a - (l.length : Int) < 0
 · exact ⟨-1, by rw [if_pos h], .inl (by omega)⟩
 · exact ⟨_, by rw [if_neg h], .inr ⟨by omega, by omega, by omega⟩⟩
theorem g_toStringS (k : Nat) (l : List ByteArray) (hk : 1048590 ≤ k) (o1 : (l.length : Int) ≤ 1048576) : laws_toStringS.f k l = some l := by
 unfold laws_toStringS.f
 rw [if_pos (by omega), if_pos (by omega)]
 have h := g_toloop laws_toStringS.l0 (fun _ (x : ByteArray) => some x) (fun b => b) ByteArray.empty id 0 l (by intro k s i; rw [laws_toStringS.l0]; rfl)
  (by intro k x hx hm; exact ⟨_, rfl, rfl⟩)
  (by omega) k (List.replicate ((l.length : Int) : Int).toNat (⟨#[]⟩ : ByteArray)) (by simp) (by omega)
 rwa [List.map_id] at h
theorem g_toInt64S (k : Nat) (l : List Int) (hk : 1048590 ≤ k) (o1 : (l.length : Int) ≤ 1048576) : laws_toInt64S.f k l = some l := by
 unfold laws_toInt64S.f
 rw [if_pos (by omega), if_pos (by omega)]
 have h := g_toloop laws_toInt64S.l0 (fun _ (x : Int) => some x) (fun b => b) (0 : Int) id 0 l (by intro k s i; rw [laws_toInt64S.l0]; rfl)
  (by intro k x hx hm; exact ⟨_, rfl, rfl⟩)
  (by omega) k (List.replicate ((l.length : Int) : Int).toNat 0) (by simp) (by omega)
 rwa [List.map_id] at h
theorem g_eqStringS (k : Nat) (l : List ByteArray) (hk : 1048590 ≤ k) (o1 : (l.length : Int) ≤ 1048576) : laws_eqStringS.f k l l = some true := by
 unfold laws_eqStringS.f
 rw [if_pos rfl]
 exact g_eqloop laws_eqStringS.l0 (fun _ (x : ByteArray) => some true) ByteArray.empty 0 l (by intro k i; rw [laws_eqStringS.l0]; simp only [Option.bind_some, bne_self_eq_false, Bool.false_eq_true, if_false, if_true, reduceIte]) (by intro k x hx hm; rfl) (by omega) k (by omega)
theorem g_eqInt64S (k : Nat) (l : List Int) (hk : 1048590 ≤ k) (o1 : (l.length : Int) ≤ 1048576) : laws_eqInt64S.f k l l = some true := by
 unfold laws_eqInt64S.f
 rw [if_pos rfl]
 exact g_eqloop laws_eqInt64S.l0 (fun _ (x : Int) => some true) (0 : Int) 0 l (by intro k i; rw [laws_eqInt64S.l0]; simp only [Option.bind_some, bne_self_eq_false, Bool.false_eq_true, if_false, if_true, reduceIte]) (by intro k x hx hm; rfl) (by omega) k (by omega)
theorem unif {α : Type} (Q : Nat → α → Prop) : ∀ l : List α, (∀ y ∈ l, ∃ K : Nat, ∀ k, K ≤ k → Q k y) → ∃ K : Nat, ∀ y ∈ l, ∀ k, K ≤ k → Q k y
 | [], _ => ⟨0, fun _ h => by cases h⟩
 | x :: l, h => by
  obtain ⟨K, hK⟩ := unif Q l (fun y hy => h y (List.mem_cons_of_mem _ hy))
  obtain ⟨J, hJ⟩ := h x List.mem_cons_self
  refine ⟨K + J, fun y hy k hk => ?_⟩
  rcases List.mem_cons.1 hy with rfl | hy
  · exact hJ k (by omega)
  · exact hK y hy k (by omega)
inductive BdL : S27 → Prop
 | mk (x : S27) : (x.f4.length : Int) ≤ 1048576 → (x.f5.length : Int) ≤ 1048576 → (x.f6.length : Int) ≤ 1048576 → (∀ y ∈ x.f6, BdL y.f2) → (x.f7.length : Int) ≤ 1048576 → (∀ y ∈ x.f7, BdL y) → BdL x
inductive Bd : S33 → Prop
 | mk (x : S33) : (x.f4.length : Int) ≤ 1048576 → (x.f5.length : Int) ≤ 1048576 → (x.f6.length : Int) ≤ 1048576 → (∀ y ∈ x.f6, Bd y.f2) → (x.f7.length : Int) ≤ 1048576 → (∀ y ∈ x.f7, Bd y) → Bd x
theorem szMS (Y : Int → Int → Bool → Bool → List ByteArray → List Int → List (S91) → List (S27) → Int → Int → Option (Int)) (k : Nat) (l : List S91) (a : Int) (h0 : 0 ≤ a) (h1 : a ≤ 1048576) (hk : 1048590 ≤ k) (ol : l.length ≤ maxLen) (on : ∀ y ∈ l, y.f0.size ≤ maxLen)
 (hY : ∀ y ∈ l, ∀ a : Int, 0 ≤ a → a ≤ 1048576 → ∃ t, Y y.f2.f0 y.f2.f1 y.f2.f2 y.f2.f3 y.f2.f4 y.f2.f5 y.f2.f6 y.f2.f7 y.f2.f8 a = some t ∧ (t < 0 ∨ (0 ≤ t ∧ t ≤ a ∧ BdL y.f2))) : ∃ t, laws_szMemberS.f Y k l a = some t ∧ (t < 0 ∨ (0 ≤ t ∧ t ≤ a ∧ (l.length : Int) ≤ 1048576 ∧ ∀ y ∈ l, BdL y.f2)) := by
 unfold maxLen at ol
 unfold laws_szMemberS.f
 rw [wrap64_id (by omega) (by omega)]
 by_cases h : a - (l.length : Int) < 0
 · exact ⟨-1, by rw [if_pos h], .inl (by omega)⟩
 rw [if_neg h]
 obtain ⟨t, e, q⟩ := g_szloop (laws_szMemberS.l0 Y) (fun k (x : S91) a => laws_szMember.f Y k x.f0 x.f1 x.f2.f0 x.f2.f1 x.f2.f2 x.f2.f3 x.f2.f4 x.f2.f5 x.f2.f6 x.f2.f7 x.f2.f8 a) z91 0 (fun y => BdL y.f2) l
  (by intro k a i; rw [laws_szMemberS.l0]; rfl)
  (by
   intro k x a hx h0 h1 hm
   have hn := on x hx
   unfold maxLen at hn
   unfold laws_szMember.f
   rw [wrap64_id (by omega) (by omega)]
   by_cases h : a - (x.f0.size : Int) < 0
   · exact ⟨-1, by rw [if_pos h], .inl (by omega)⟩
   rw [if_neg h]
   obtain ⟨t, e, q⟩ := hY x hx (a - (x.f0.size : Int)) (by omega) (by omega)
   rw [e]
   simp only [Option.bind_some]
   rcases q with q | ⟨q1, q2, q3⟩
   · exact ⟨-1, by rw [if_pos q], .inl (by omega)⟩
   · exact ⟨t, by rw [if_neg (by omega)], .inr ⟨q1, by omega, q3⟩⟩)
  (by omega) k (a - (l.length : Int)) (by omega) (by omega) (by omega)
 rcases q with q | ⟨q1, q2, q3⟩
 · exact ⟨t, e, .inl q⟩
 · exact ⟨t, e, .inr ⟨q1, by omega, by omega, q3⟩⟩
theorem szTS (Y : Int → Int → Bool → Bool → List ByteArray → List Int → List (S91) → List (S27) → Int → Int → Option (Int)) (k : Nat) (l : List S27) (a : Int) (h0 : 0 ≤ a) (h1 : a ≤ 1048576) (hk : 1048590 ≤ k) (ol : l.length ≤ maxLen)
 (hY : ∀ y ∈ l, ∀ a : Int, 0 ≤ a → a ≤ 1048576 → ∃ t, Y y.f0 y.f1 y.f2 y.f3 y.f4 y.f5 y.f6 y.f7 y.f8 a = some t ∧ (t < 0 ∨ (0 ≤ t ∧ t ≤ a ∧ BdL y))) : ∃ t, laws_szTypeS.f Y k l a = some t ∧ (t < 0 ∨ (0 ≤ t ∧ t ≤ a ∧ (l.length : Int) ≤ 1048576 ∧ ∀ y ∈ l, BdL y)) := by
 unfold maxLen at ol
 unfold laws_szTypeS.f
 rw [wrap64_id (by omega) (by omega)]
 by_cases h : a - (l.length : Int) < 0
 · exact ⟨-1, by rw [if_pos h], .inl (by omega)⟩
 rw [if_neg h]
 obtain ⟨t, e, q⟩ := g_szloop (laws_szTypeS.l0 Y) (fun k (x : S27) a => Y x.f0 x.f1 x.f2 x.f3 x.f4 x.f5 x.f6 x.f7 x.f8 a) z27 0 (fun y => BdL y) l
  (by intro k a i; rw [laws_szTypeS.l0]; rfl)
  (by intro k x a hx h0 h1 hm; exact hY x hx a h0 h1)
  (by omega) k (a - (l.length : Int)) (by omega) (by omega) (by omega)
 rcases q with q | ⟨q1, q2, q3⟩
 · exact ⟨t, e, .inl q⟩
 · exact ⟨t, e, .inr ⟨q1, by omega, by omega, q3⟩⟩
theorem sz_ok {x : S27} (h : okS27 x) : ∃ K : Nat, ∀ k, K ≤ k → ∀ a : Int, 0 ≤ a → a ≤ 1048576 → ∃ t, laws_szType.f k x.f0 x.f1 x.f2 x.f3 x.f4 x.f5 x.f6 x.f7 x.f8 a = some t ∧ (t < 0 ∨ (0 ≤ t ∧ t ≤ a ∧ BdL x)) := by
 induction h with
 | mk x h0 h1 h2 h3 h4 h5 h6 h7 h8 h9 h10 h11 h12 ih9 ih11 =>
 obtain ⟨K1, H1⟩ := unif (fun k (y : S91) => ∀ a : Int, 0 ≤ a → a ≤ 1048576 → ∃ t, laws_szType.f k y.f2.f0 y.f2.f1 y.f2.f2 y.f2.f3 y.f2.f4 y.f2.f5 y.f2.f6 y.f2.f7 y.f2.f8 a = some t ∧ (t < 0 ∨ (0 ≤ t ∧ t ≤ a ∧ BdL y.f2))) x.f6 ih9
 obtain ⟨K2, H2⟩ := unif (fun k (y : S27) => ∀ a : Int, 0 ≤ a → a ≤ 1048576 → ∃ t, laws_szType.f k y.f0 y.f1 y.f2 y.f3 y.f4 y.f5 y.f6 y.f7 y.f8 a = some t ∧ (t < 0 ∨ (0 ≤ t ∧ t ≤ a ∧ BdL y))) x.f7 ih11
 refine ⟨K1 + K2 + 1048600, fun k hk a ha hb => ?_⟩
 obtain ⟨k, rfl⟩ : ∃ m, k = m + 1 := ⟨k - 1, by omega⟩
 rw [laws_szType.f]
 obtain ⟨t1, e1, q1⟩ := g_szStringS k x.f4 a ha hb (by omega) h4
 rw [e1]
 simp only [Option.bind_some]
 rcases q1 with q1 | ⟨q1, r1, s1⟩
 · exact ⟨-1, by rw [if_pos q1], .inl (by omega)⟩
 rw [if_neg (by omega)]
 obtain ⟨t2, e2, q2⟩ := g_szInt64S x.f5 t1 q1 (by omega) h5.1
 rw [e2]
 simp only [Option.bind_some]
 rcases q2 with q2 | ⟨q2, r2, s2⟩
 · exact ⟨-1, by rw [if_pos q2], .inl (by omega)⟩
 rw [if_neg (by omega)]
 obtain ⟨t3, e3, q3⟩ := szMS (laws_szType.f k) k x.f6 t2 q2 (by omega) (by omega) h6 h7 (fun y hy => H1 y hy k (by omega))
 rw [e3]
 simp only [Option.bind_some]
 rcases q3 with q3 | ⟨q3, r3, s3, u3⟩
 · exact ⟨-1, by rw [if_pos q3], .inl (by omega)⟩
 rw [if_neg (by omega)]
 obtain ⟨t4, e4, q4⟩ := szTS (laws_szType.f k) k x.f7 t3 q3 (by omega) (by omega) h10 (fun y hy => H2 y hy k (by omega))
 rw [e4]
 simp only [Option.bind_some]
 rcases q4 with q4 | ⟨q4, r4, s4, u4⟩
 · exact ⟨-1, by rw [if_pos q4], .inl (by omega)⟩
 rw [if_neg (by omega)]
 exact ⟨t4, rfl, .inr ⟨q4, by omega, .mk x s1 s2 s3 u3 s4 u4⟩⟩
theorem eta33 (v : S33) : (⟨v.f0, v.f1, v.f2, v.f3, v.f4, v.f5, v.f6, v.f7, v.f8⟩ : S33) = v := by cases v; rfl
theorem toMS (Y : Int → Int → Bool → Bool → List ByteArray → List Int → List (S91) → List (S27) → Int → Option (Int × Int × Bool × Bool × List ByteArray × List Int × (List (S64)) × (List (S33)) × Int)) (k : Nat) (l : List S91) (hk : 1048590 ≤ k) (hl : (l.length : Int) ≤ 1048576) (c : S91 → S33) (hY : ∀ y ∈ l, Y y.f2.f0 y.f2.f1 y.f2.f2 y.f2.f3 y.f2.f4 y.f2.f5 y.f2.f6 y.f2.f7 y.f2.f8 = some ((c y).f0, (c y).f1, (c y).f2, (c y).f3, (c y).f4, (c y).f5, (c y).f6, (c y).f7, (c y).f8)) : laws_toMemberS.f Y k l = some (l.map fun y => (⟨y.f0, y.f1, c y⟩ : S64)) := by
 unfold laws_toMemberS.f
 rw [if_pos (by omega), if_pos (by omega)]
 exact g_toloop (laws_toMemberS.l0 Y) (fun k (x : S91) => laws_toMember.f Y k x.f0 x.f1 x.f2.f0 x.f2.f1 x.f2.f2 x.f2.f3 x.f2.f4 x.f2.f5 x.f2.f6 x.f2.f7 x.f2.f8) (fun b => (⟨b.1, b.2.1, (⟨b.2.2.1, b.2.2.2.1, b.2.2.2.2.1, b.2.2.2.2.2.1, b.2.2.2.2.2.2.1, b.2.2.2.2.2.2.2.1, b.2.2.2.2.2.2.2.2.1, b.2.2.2.2.2.2.2.2.2.1, b.2.2.2.2.2.2.2.2.2.2⟩ : S33)⟩ : S64)) z91 (fun y => (⟨y.f0, y.f1, c y⟩ : S64)) 0 l
  (by intro k s i; rw [laws_toMemberS.l0]; rfl)
  (by intro k x hx hm; refine ⟨_, by unfold laws_toMember.f; rw [hY x hx]; rfl, congrArg (fun z => (⟨x.f0, x.f1, z⟩ : S64)) (eta33 (c x))⟩)
  (by omega) k (List.replicate ((l.length : Int) : Int).toNat z64) (by simp) (by omega)
theorem toTS (Y : Int → Int → Bool → Bool → List ByteArray → List Int → List (S91) → List (S27) → Int → Option (Int × Int × Bool × Bool × List ByteArray × List Int × (List (S64)) × (List (S33)) × Int)) (k : Nat) (l : List S27) (hk : 1048590 ≤ k) (hl : (l.length : Int) ≤ 1048576) (c : S27 → S33) (hY : ∀ y ∈ l, Y y.f0 y.f1 y.f2 y.f3 y.f4 y.f5 y.f6 y.f7 y.f8 = some ((c y).f0, (c y).f1, (c y).f2, (c y).f3, (c y).f4, (c y).f5, (c y).f6, (c y).f7, (c y).f8)) : laws_toTypeS.f Y k l = some (l.map c) := by
 unfold laws_toTypeS.f
 rw [if_pos (by omega), if_pos (by omega)]
 exact g_toloop (laws_toTypeS.l0 Y) (fun k (x : S27) => Y x.f0 x.f1 x.f2 x.f3 x.f4 x.f5 x.f6 x.f7 x.f8) (fun b => (⟨b.1, b.2.1, b.2.2.1, b.2.2.2.1, b.2.2.2.2.1, b.2.2.2.2.2.1, b.2.2.2.2.2.2.1, b.2.2.2.2.2.2.2.1, b.2.2.2.2.2.2.2.2⟩ : S33)) z27 c 0 l
  (by intro k s i; rw [laws_toTypeS.l0]; rfl)
  (by intro k x hx hm; exact ⟨_, hY x hx, eta33 (c x)⟩)
  (by omega) k (List.replicate ((l.length : Int) : Int).toNat z33) (by simp) (by omega)
theorem to_ok {x : S27} (h : BdL x) : ∃ v : S33, Bd v ∧ ∃ K : Nat, ∀ k, K ≤ k → laws_toType.f k x.f0 x.f1 x.f2 x.f3 x.f4 x.f5 x.f6 x.f7 x.f8 = some (v.f0, v.f1, v.f2, v.f3, v.f4, v.f5, v.f6, v.f7, v.f8) := by
 induction h with
 | mk x h4 h5 h6 h6' h7 h7' ih6 ih7 =>
 have s6 : ∀ y : S91, ∃ v : S33, y ∈ x.f6 → Bd v ∧ ∃ K : Nat, ∀ k, K ≤ k → laws_toType.f k y.f2.f0 y.f2.f1 y.f2.f2 y.f2.f3 y.f2.f4 y.f2.f5 y.f2.f6 y.f2.f7 y.f2.f8 = some (v.f0, v.f1, v.f2, v.f3, v.f4, v.f5, v.f6, v.f7, v.f8) := fun y => by
  by_cases h : y ∈ x.f6
  · obtain ⟨v, hv⟩ := ih6 y h; exact ⟨v, fun _ => hv⟩
  · exact ⟨z33, fun h' => absurd h' h⟩
 have s7 : ∀ y : S27, ∃ v : S33, y ∈ x.f7 → Bd v ∧ ∃ K : Nat, ∀ k, K ≤ k → laws_toType.f k y.f0 y.f1 y.f2 y.f3 y.f4 y.f5 y.f6 y.f7 y.f8 = some (v.f0, v.f1, v.f2, v.f3, v.f4, v.f5, v.f6, v.f7, v.f8) := fun y => by
  by_cases h : y ∈ x.f7
  · obtain ⟨v, hv⟩ := ih7 y h; exact ⟨v, fun _ => hv⟩
  · exact ⟨z33, fun h' => absurd h' h⟩
 obtain ⟨c6, hc6⟩ := Classical.skolem.1 s6
 obtain ⟨c7, hc7⟩ := Classical.skolem.1 s7
 obtain ⟨K1, H1⟩ := unif (fun k (y : S91) => laws_toType.f k y.f2.f0 y.f2.f1 y.f2.f2 y.f2.f3 y.f2.f4 y.f2.f5 y.f2.f6 y.f2.f7 y.f2.f8 = some ((c6 y).f0, (c6 y).f1, (c6 y).f2, (c6 y).f3, (c6 y).f4, (c6 y).f5, (c6 y).f6, (c6 y).f7, (c6 y).f8)) x.f6 (fun y hy => (hc6 y hy).2)
 obtain ⟨K2, H2⟩ := unif (fun k (y : S27) => laws_toType.f k y.f0 y.f1 y.f2 y.f3 y.f4 y.f5 y.f6 y.f7 y.f8 = some ((c7 y).f0, (c7 y).f1, (c7 y).f2, (c7 y).f3, (c7 y).f4, (c7 y).f5, (c7 y).f6, (c7 y).f7, (c7 y).f8)) x.f7 (fun y hy => (hc7 y hy).2)
 refine ⟨⟨x.f0, x.f1, x.f2, x.f3, x.f4, x.f5, x.f6.map (fun y => (⟨y.f0, y.f1, c6 y⟩ : S64)), x.f7.map c7, x.f8⟩, .mk _ h4 h5 (by rw [List.length_map]; exact h6) (fun y hy => ?_) (by rw [List.length_map]; exact h7) (fun y hy => ?_), K1 + K2 + 1048600, fun k hk => ?_⟩
 · obtain ⟨z, hz, rfl⟩ := List.mem_map.1 hy
   exact (hc6 z hz).1
 · obtain ⟨z, hz, rfl⟩ := List.mem_map.1 hy
   exact (hc7 z hz).1
 ·
  obtain ⟨k, rfl⟩ : ∃ m, k = m + 1 := ⟨k - 1, by omega⟩
  rw [laws_toType.f, g_toStringS k x.f4 (by omega) h4]
  simp only [Option.bind_some]
  rw [g_toInt64S k x.f5 (by omega) h5]
  simp only [Option.bind_some]
  rw [toMS (laws_toType.f k) k x.f6 (by omega) h6 c6 (fun y hy => H1 y hy k (by omega))]
  simp only [Option.bind_some]
  rw [toTS (laws_toType.f k) k x.f7 (by omega) h7 c7 (fun y hy => H2 y hy k (by omega))]
  rfl
theorem eqMS (Y : Int → Int → Bool → Bool → List ByteArray → List Int → List (S64) → List (S33) → Int → Int → Int → Bool → Bool → List ByteArray → List Int → List (S64) → List (S33) → Int → Option (Bool)) (k : Nat) (l : List S64) (hk : 1048590 ≤ k) (hl : (l.length : Int) ≤ 1048576) (hY : ∀ y ∈ l, Y y.f2.f0 y.f2.f1 y.f2.f2 y.f2.f3 y.f2.f4 y.f2.f5 y.f2.f6 y.f2.f7 y.f2.f8 y.f2.f0 y.f2.f1 y.f2.f2 y.f2.f3 y.f2.f4 y.f2.f5 y.f2.f6 y.f2.f7 y.f2.f8 = some true) : laws_eqMemberS.f Y k l l = some true := by
 unfold laws_eqMemberS.f
 rw [if_pos rfl]
 exact g_eqloop (laws_eqMemberS.l0 Y) (fun k (x : S64) => laws_eqMember.f Y k x.f0 x.f1 x.f2.f0 x.f2.f1 x.f2.f2 x.f2.f3 x.f2.f4 x.f2.f5 x.f2.f6 x.f2.f7 x.f2.f8 x.f0 x.f1 x.f2.f0 x.f2.f1 x.f2.f2 x.f2.f3 x.f2.f4 x.f2.f5 x.f2.f6 x.f2.f7 x.f2.f8) z64 0 l (by intro k i; rw [laws_eqMemberS.l0]; rfl)
  (by intro k x hx hm; unfold laws_eqMember.f; rw [if_pos rfl, if_pos rfl, hY x hx]; rfl) (by omega) k (by omega)
theorem eqTS (Y : Int → Int → Bool → Bool → List ByteArray → List Int → List (S64) → List (S33) → Int → Int → Int → Bool → Bool → List ByteArray → List Int → List (S64) → List (S33) → Int → Option (Bool)) (k : Nat) (l : List S33) (hk : 1048590 ≤ k) (hl : (l.length : Int) ≤ 1048576) (hY : ∀ y ∈ l, Y y.f0 y.f1 y.f2 y.f3 y.f4 y.f5 y.f6 y.f7 y.f8 y.f0 y.f1 y.f2 y.f3 y.f4 y.f5 y.f6 y.f7 y.f8 = some true) : laws_eqTypeS.f Y k l l = some true := by
 unfold laws_eqTypeS.f
 rw [if_pos rfl]
 exact g_eqloop (laws_eqTypeS.l0 Y) (fun k (x : S33) => Y x.f0 x.f1 x.f2 x.f3 x.f4 x.f5 x.f6 x.f7 x.f8 x.f0 x.f1 x.f2 x.f3 x.f4 x.f5 x.f6 x.f7 x.f8) z33 0 l (by intro k i; rw [laws_eqTypeS.l0]; rfl)
  (by intro k x hx hm; exact hY x hx) (by omega) k (by omega)
theorem eq_ok {x : S33} (h : Bd x) : ∃ K : Nat, ∀ k, K ≤ k → laws_eqType.f k x.f0 x.f1 x.f2 x.f3 x.f4 x.f5 x.f6 x.f7 x.f8 x.f0 x.f1 x.f2 x.f3 x.f4 x.f5 x.f6 x.f7 x.f8 = some true := by
 induction h with
 | mk x h4 h5 h6 h6' h7 h7' ih6 ih7 =>
 obtain ⟨K1, H1⟩ := unif (fun k (y : S64) => laws_eqType.f k y.f2.f0 y.f2.f1 y.f2.f2 y.f2.f3 y.f2.f4 y.f2.f5 y.f2.f6 y.f2.f7 y.f2.f8 y.f2.f0 y.f2.f1 y.f2.f2 y.f2.f3 y.f2.f4 y.f2.f5 y.f2.f6 y.f2.f7 y.f2.f8 = some true) x.f6 ih6
 obtain ⟨K2, H2⟩ := unif (fun k (y : S33) => laws_eqType.f k y.f0 y.f1 y.f2 y.f3 y.f4 y.f5 y.f6 y.f7 y.f8 y.f0 y.f1 y.f2 y.f3 y.f4 y.f5 y.f6 y.f7 y.f8 = some true) x.f7 ih7
 refine ⟨K1 + K2 + 1048600, fun k hk => ?_⟩
 obtain ⟨k, rfl⟩ : ∃ m, k = m + 1 := ⟨k - 1, by omega⟩
 rw [laws_eqType.f, if_pos rfl, if_pos rfl, bne_self_eq_false, if_neg (by decide), bne_self_eq_false, if_neg (by decide), g_eqStringS k x.f4 (by omega) h4]
 simp only [Option.bind_some, if_true]
 rw [g_eqInt64S k x.f5 (by omega) h5]
 simp only [Option.bind_some, if_true]
 rw [eqMS (laws_eqType.f k) k x.f6 (by omega) h6 (fun y hy => H1 y hy k (by omega))]
 simp only [Option.bind_some, if_true]
 rw [eqTS (laws_eqType.f k) k x.f7 (by omega) h7 (fun y hy => H2 y hy k (by omega))]
 simp only [Option.bind_some, if_true]
theorem spec_l02Texts_eq (k : Nat) (a b : List ByteArray) (hl : a.length ≤ 1048576) (hk : a.length < k) : spec_l02Texts.f k a b = some (decide (a.map ByteArray.toList = b.map ByteArray.toList)) := by
 unfold spec_l02Texts.f
 by_cases hn : (a.length : Int) = (b.length : Int)
 ·
  rw [if_pos hn]
  obtain ⟨r, h, rfl⟩ := count_loop (fun k (_ : Unit) i => spec_l02Texts.l0 k a b  i) a.length 0 (fun i _ => (a.map ByteArray.toList).take i = (b.map ByteArray.toList).take i) (fun r => r = decide (a.map ByteArray.toList = b.map ByteArray.toList))
   (by
    rintro k s - h1
    refine ⟨true, by show spec_l02Texts.l0 (k + 1) a b  _ = _; rw [spec_l02Texts.l0, if_neg (by omega)], ?_⟩
    have := take_all (b.map ByteArray.toList) (a.map ByteArray.toList) (by simp; omega) (by rw [List.length_map, show b.length = a.length by omega]; exact h1)
    simp [this])
   (by
    rintro k s i - hi h1
    have hib : i < b.length := by omega
    have hi' : i < (a.map ByteArray.toList).length := by simpa using hi
    have hib' : i < (b.map ByteArray.toList).length := by simpa using hib
    by_cases he : a[i].toList = b[i].toList
    · refine .inl ⟨(), ?_, ?_⟩
      · rw [List.take_succ_eq_append_getElem hi', List.take_succ_eq_append_getElem hib', h1, List.getElem_map, List.getElem_map, he]
      · show spec_l02Texts.l0 (k + 1) a b  _ = _
        rw [spec_l02Texts.l0, rds_lt a i hi, rds_lt b i hib]
        repeat rw [if_pos (by omega)]
        try rw [if_pos he]
        rw [wrap_up i (by omega)]
    ·
     refine .inr ⟨false, ?_, ?_⟩
     · show spec_l02Texts.l0 (k + 1) a b  _ = _
       rw [spec_l02Texts.l0, rds_lt a i hi, rds_lt b i hib]
       repeat rw [if_pos (by omega)]
       rw [if_neg he]
     · have : a.map ByteArray.toList ≠ b.map ByteArray.toList := by
        intro h
        have h2 := List.getElem_of_eq h hi'
        rw [List.getElem_map, List.getElem_map] at h2
        exact he h2
       simp [this])
   k () 0 (by omega) (by omega) (by simp)
  exact h
 · rw [if_neg hn]
   have : a.map ByteArray.toList ≠ b.map ByteArray.toList := by intro h; have := congrArg List.length h; simp at this; omega
   simp [this]
theorem slices_Equal_string_string_eq (k : Nat) (a b : List ByteArray) (hl : a.length ≤ 1048576) (hk : a.length < k) : slices_Equal_string_string.f k a b = some (decide (a.map ByteArray.toList = b.map ByteArray.toList)) := by
 unfold slices_Equal_string_string.f
 by_cases hn : (a.length : Int) = (b.length : Int)
 ·
  rw [if_pos hn]
  obtain ⟨r, h, rfl⟩ := count_loop (fun k (_ : Unit) i => slices_Equal_string_string.l0 k a b (a.length : Int) i) a.length 0 (fun i _ => (a.map ByteArray.toList).take i = (b.map ByteArray.toList).take i) (fun r => r = decide (a.map ByteArray.toList = b.map ByteArray.toList))
   (by
    rintro k s - h1
    refine ⟨true, by show slices_Equal_string_string.l0 (k + 1) a b (a.length : Int) _ = _; rw [slices_Equal_string_string.l0, if_neg (by omega)], ?_⟩
    have := take_all (b.map ByteArray.toList) (a.map ByteArray.toList) (by simp; omega) (by rw [List.length_map, show b.length = a.length by omega]; exact h1)
    simp [this])
   (by
    rintro k s i - hi h1
    have hib : i < b.length := by omega
    have hi' : i < (a.map ByteArray.toList).length := by simpa using hi
    have hib' : i < (b.map ByteArray.toList).length := by simpa using hib
    by_cases he : a[i].toList = b[i].toList
    · refine .inl ⟨(), ?_, ?_⟩
      · rw [List.take_succ_eq_append_getElem hi', List.take_succ_eq_append_getElem hib', h1, List.getElem_map, List.getElem_map, he]
      · show slices_Equal_string_string.l0 (k + 1) a b (a.length : Int) _ = _
        rw [slices_Equal_string_string.l0, rds_lt a i hi, rds_lt b i hib]
        repeat rw [if_pos (by omega)]
        try rw [if_pos he]
        rw [wrap_up i (by omega)]
    ·
     refine .inr ⟨false, ?_, ?_⟩
     · show slices_Equal_string_string.l0 (k + 1) a b (a.length : Int) _ = _
       rw [slices_Equal_string_string.l0, rds_lt a i hi, rds_lt b i hib]
       repeat rw [if_pos (by omega)]
       rw [if_neg he]
     · have : a.map ByteArray.toList ≠ b.map ByteArray.toList := by
        intro h
        have h2 := List.getElem_of_eq h hi'
        rw [List.getElem_map, List.getElem_map] at h2
        exact he h2
       simp [this])
   k () 0 (by omega) (by omega) (by simp)
  exact h
 · rw [if_neg hn]
   have : a.map ByteArray.toList ≠ b.map ByteArray.toList := by intro h; have := congrArg List.length h; simp at this; omega
   simp [this]
theorem flip_ite {α : Type} (c : Prop) [Decidable c] (a b : α) : (if c then b else a) = if ¬ c then a else b := by
 by_cases h : c
 · rw [if_pos h, if_neg (fun h2 => h2 h)]
 · rw [if_neg h, if_pos h]
theorem seq_loop (L : Nat → Int → Option Bool) (P : Nat → Prop) [DecidablePred P] (n : Nat)
 (hend : ∀ k, L (k + 1) (n : Int) = some true) (hstep : ∀ k (i : Nat), i < n → L (k + 1) (i : Int) = if P i then L k ((i + 1 : Nat) : Int) else some false) (k : Nat) (hk : n < k) :
 L k 0 = some (decide (∀ i, i < n → P i)) := by
 rw [all_loop L P n 0 true (fun k _ => hend k) (fun k i _ hi => hstep k i hi) k (by omega), Bool.and_true]
theorem spec_l02Ints_is (k : Nat) (a b : List Int) (hl : a.length ≤ 1048576) (hk : 1048590 ≤ k) : spec_l02Ints.f k a b = some (decide (a = b)) := by
 unfold spec_l02Ints.f
 by_cases hn : (a.length : Int) = (b.length : Int)
 ·
  rw [if_pos hn, seq_loop (fun k i => spec_l02Ints.l0 k a b i) (fun i => rd a (i : Int) = rd b (i : Int)) a.length
   (by intro k; show spec_l02Ints.l0 (k + 1) a b _ = _; rw [spec_l02Ints.l0, if_neg (by omega)])
   (by
    intro k i hi
    show spec_l02Ints.l0 (k + 1) a b _ = _
    rw [spec_l02Ints.l0]
    repeat rw [if_pos (show (i : Int) < (a.length : Int) by omega)]
    repeat rw [if_pos (show (0 : Int) ≤ (i : Int) by omega)]
    repeat rw [if_pos (show (i : Int) < (a.length : Int) by omega)]
    repeat rw [if_pos (show (i : Int) < (b.length : Int) by omega)]
    rw [wrap_up i (by omega)])
   k (by omega)]
  have hb : a.length = b.length := by omega
  congr 1
  apply decide_eq_decide.2
  constructor
  · intro h
    apply List.ext_getElem hb
    intro i h1 h2
    have := h i h1
    rwa [rd_lt a i h1, rd_lt b i h2] at this
  · rintro rfl i _
    rfl
 · rw [if_neg hn, decide_eq_false]
   rintro rfl
   exact hn rfl
theorem slices_Equal_int64_int64_is (k : Nat) (a b : List Int) (hl : a.length ≤ 1048576) (hk : 1048590 ≤ k) : slices_Equal_int64_int64.f k a b = some (decide (a = b)) := by
 unfold slices_Equal_int64_int64.f
 by_cases hn : (a.length : Int) = (b.length : Int)
 ·
  rw [if_pos hn, seq_loop (fun k i => slices_Equal_int64_int64.l0 k a b (a.length : Int) i) (fun i => rd a (i : Int) = rd b (i : Int)) a.length
   (by intro k; show slices_Equal_int64_int64.l0 (k + 1) a b _ _ = _; rw [slices_Equal_int64_int64.l0, if_neg (by omega)])
   (by
    intro k i hi
    show slices_Equal_int64_int64.l0 (k + 1) a b _ _ = _
    rw [slices_Equal_int64_int64.l0]
    repeat rw [if_pos (show (i : Int) < (a.length : Int) by omega)]
    repeat rw [if_pos (show (0 : Int) ≤ (i : Int) by omega)]
    repeat rw [if_pos (show (i : Int) < (a.length : Int) by omega)]
    repeat rw [if_pos (show (i : Int) < (b.length : Int) by omega)]
    rw [wrap_up i (by omega)])
   k (by omega)]
  have hb : a.length = b.length := by omega
  congr 1
  apply decide_eq_decide.2
  constructor
  · intro h
    apply List.ext_getElem hb
    intro i h1 h2
    have := h i h1
    rwa [rd_lt a i h1, rd_lt b i h2] at this
  · rintro rfl i _
    rfl
 · rw [if_neg hn, decide_eq_false]
   rintro rfl
   exact hn rfl
def P6 (a b : List S64) (r : Nat → Bool) (i : Nat) : Prop := (rd_T64 a (i : Int)).f0.toList = (rd_T64 b (i : Int)).f0.toList ∧ (rd_T64 a (i : Int)).f1 = (rd_T64 b (i : Int)).f1 ∧ r i = true
instance (a b : List S64) (r : Nat → Bool) : DecidablePred (P6 a b r) := fun i => by unfold P6; infer_instance
theorem same_ok {x : S33} (h : Bd x) : ∀ y : S33, ∃ r : Bool, ∃ K : Nat, ∀ k, K ≤ k → spec_SameType.f k x.f0 x.f1 x.f2 x.f3 x.f4 x.f5 x.f6 x.f7 x.f8 y.f0 y.f1 y.f2 y.f3 y.f4 y.f5 y.f6 y.f7 y.f8 = some r ∧ impl_SameType.f k x.f0 x.f1 x.f2 x.f3 x.f4 x.f5 x.f6 x.f7 x.f8 y.f0 y.f1 y.f2 y.f3 y.f4 y.f5 y.f6 y.f7 y.f8 = some r := by
 induction h with
 | mk x h4 h5 h6 h6' h7 h7' ih6 ih7 =>
 intro y
 have m6 : ∀ i : Nat, i < x.f6.length → rd_T64 x.f6 (i : Int) ∈ x.f6 := fun i hi => by
  unfold rd_T64
  rw [getD_lt x.f6 z64 i hi]
  exact List.getElem_mem hi
 have m7 : ∀ i : Nat, i < x.f7.length → rd_T33 x.f7 (i : Int) ∈ x.f7 := fun i hi => by
  unfold rd_T33
  rw [getD_lt x.f7 z33 i hi]
  exact List.getElem_mem hi
 have s6 : ∀ i : Nat, ∃ r : Bool, i < x.f6.length → ∃ K : Nat, ∀ k, K ≤ k → spec_SameType.f k (rd_T64 x.f6 (i : Int)).f2.f0 (rd_T64 x.f6 (i : Int)).f2.f1 (rd_T64 x.f6 (i : Int)).f2.f2 (rd_T64 x.f6 (i : Int)).f2.f3 (rd_T64 x.f6 (i : Int)).f2.f4 (rd_T64 x.f6 (i : Int)).f2.f5 (rd_T64 x.f6 (i : Int)).f2.f6 (rd_T64 x.f6 (i : Int)).f2.f7 (rd_T64 x.f6 (i : Int)).f2.f8 (rd_T64 y.f6 (i : Int)).f2.f0 (rd_T64 y.f6 (i : Int)).f2.f1 (rd_T64 y.f6 (i : Int)).f2.f2 (rd_T64 y.f6 (i : Int)).f2.f3 (rd_T64 y.f6 (i : Int)).f2.f4 (rd_T64 y.f6 (i : Int)).f2.f5 (rd_T64 y.f6 (i : Int)).f2.f6 (rd_T64 y.f6 (i : Int)).f2.f7 (rd_T64 y.f6 (i : Int)).f2.f8 = some r ∧ impl_SameType.f k (rd_T64 x.f6 (i : Int)).f2.f0 (rd_T64 x.f6 (i : Int)).f2.f1 (rd_T64 x.f6 (i : Int)).f2.f2 (rd_T64 x.f6 (i : Int)).f2.f3 (rd_T64 x.f6 (i : Int)).f2.f4 (rd_T64 x.f6 (i : Int)).f2.f5 (rd_T64 x.f6 (i : Int)).f2.f6 (rd_T64 x.f6 (i : Int)).f2.f7 (rd_T64 x.f6 (i : Int)).f2.f8 (rd_T64 y.f6 (i : Int)).f2.f0 (rd_T64 y.f6 (i : Int)).f2.f1 (rd_T64 y.f6 (i : Int)).f2.f2 (rd_T64 y.f6 (i : Int)).f2.f3 (rd_T64 y.f6 (i : Int)).f2.f4 (rd_T64 y.f6 (i : Int)).f2.f5 (rd_T64 y.f6 (i : Int)).f2.f6 (rd_T64 y.f6 (i : Int)).f2.f7 (rd_T64 y.f6 (i : Int)).f2.f8 = some r := fun i => by
  by_cases h : i < x.f6.length
  · obtain ⟨r, hr⟩ := ih6 _ (m6 i h) (rd_T64 y.f6 (i : Int)).f2
    exact ⟨r, fun _ => hr⟩
  · exact ⟨true, fun h' => absurd h' h⟩
 have s7 : ∀ i : Nat, ∃ r : Bool, i < x.f7.length → ∃ K : Nat, ∀ k, K ≤ k → spec_SameType.f k (rd_T33 x.f7 (i : Int)).f0 (rd_T33 x.f7 (i : Int)).f1 (rd_T33 x.f7 (i : Int)).f2 (rd_T33 x.f7 (i : Int)).f3 (rd_T33 x.f7 (i : Int)).f4 (rd_T33 x.f7 (i : Int)).f5 (rd_T33 x.f7 (i : Int)).f6 (rd_T33 x.f7 (i : Int)).f7 (rd_T33 x.f7 (i : Int)).f8 (rd_T33 y.f7 (i : Int)).f0 (rd_T33 y.f7 (i : Int)).f1 (rd_T33 y.f7 (i : Int)).f2 (rd_T33 y.f7 (i : Int)).f3 (rd_T33 y.f7 (i : Int)).f4 (rd_T33 y.f7 (i : Int)).f5 (rd_T33 y.f7 (i : Int)).f6 (rd_T33 y.f7 (i : Int)).f7 (rd_T33 y.f7 (i : Int)).f8 = some r ∧ impl_SameType.f k (rd_T33 x.f7 (i : Int)).f0 (rd_T33 x.f7 (i : Int)).f1 (rd_T33 x.f7 (i : Int)).f2 (rd_T33 x.f7 (i : Int)).f3 (rd_T33 x.f7 (i : Int)).f4 (rd_T33 x.f7 (i : Int)).f5 (rd_T33 x.f7 (i : Int)).f6 (rd_T33 x.f7 (i : Int)).f7 (rd_T33 x.f7 (i : Int)).f8 (rd_T33 y.f7 (i : Int)).f0 (rd_T33 y.f7 (i : Int)).f1 (rd_T33 y.f7 (i : Int)).f2 (rd_T33 y.f7 (i : Int)).f3 (rd_T33 y.f7 (i : Int)).f4 (rd_T33 y.f7 (i : Int)).f5 (rd_T33 y.f7 (i : Int)).f6 (rd_T33 y.f7 (i : Int)).f7 (rd_T33 y.f7 (i : Int)).f8 = some r := fun i => by
  by_cases h : i < x.f7.length
  · obtain ⟨r, hr⟩ := ih7 _ (m7 i h) (rd_T33 y.f7 (i : Int))
    exact ⟨r, fun _ => hr⟩
  · exact ⟨true, fun h' => absurd h' h⟩
 obtain ⟨r6, hr6⟩ := Classical.skolem.1 s6
 obtain ⟨r7, hr7⟩ := Classical.skolem.1 s7
 obtain ⟨K1, H1⟩ := unif (fun k (i : Nat) => spec_SameType.f k (rd_T64 x.f6 (i : Int)).f2.f0 (rd_T64 x.f6 (i : Int)).f2.f1 (rd_T64 x.f6 (i : Int)).f2.f2 (rd_T64 x.f6 (i : Int)).f2.f3 (rd_T64 x.f6 (i : Int)).f2.f4 (rd_T64 x.f6 (i : Int)).f2.f5 (rd_T64 x.f6 (i : Int)).f2.f6 (rd_T64 x.f6 (i : Int)).f2.f7 (rd_T64 x.f6 (i : Int)).f2.f8 (rd_T64 y.f6 (i : Int)).f2.f0 (rd_T64 y.f6 (i : Int)).f2.f1 (rd_T64 y.f6 (i : Int)).f2.f2 (rd_T64 y.f6 (i : Int)).f2.f3 (rd_T64 y.f6 (i : Int)).f2.f4 (rd_T64 y.f6 (i : Int)).f2.f5 (rd_T64 y.f6 (i : Int)).f2.f6 (rd_T64 y.f6 (i : Int)).f2.f7 (rd_T64 y.f6 (i : Int)).f2.f8 = some (r6 i) ∧ impl_SameType.f k (rd_T64 x.f6 (i : Int)).f2.f0 (rd_T64 x.f6 (i : Int)).f2.f1 (rd_T64 x.f6 (i : Int)).f2.f2 (rd_T64 x.f6 (i : Int)).f2.f3 (rd_T64 x.f6 (i : Int)).f2.f4 (rd_T64 x.f6 (i : Int)).f2.f5 (rd_T64 x.f6 (i : Int)).f2.f6 (rd_T64 x.f6 (i : Int)).f2.f7 (rd_T64 x.f6 (i : Int)).f2.f8 (rd_T64 y.f6 (i : Int)).f2.f0 (rd_T64 y.f6 (i : Int)).f2.f1 (rd_T64 y.f6 (i : Int)).f2.f2 (rd_T64 y.f6 (i : Int)).f2.f3 (rd_T64 y.f6 (i : Int)).f2.f4 (rd_T64 y.f6 (i : Int)).f2.f5 (rd_T64 y.f6 (i : Int)).f2.f6 (rd_T64 y.f6 (i : Int)).f2.f7 (rd_T64 y.f6 (i : Int)).f2.f8 = some (r6 i)) (List.range x.f6.length) (fun i hi => hr6 i (List.mem_range.1 hi))
 obtain ⟨K2, H2⟩ := unif (fun k (i : Nat) => spec_SameType.f k (rd_T33 x.f7 (i : Int)).f0 (rd_T33 x.f7 (i : Int)).f1 (rd_T33 x.f7 (i : Int)).f2 (rd_T33 x.f7 (i : Int)).f3 (rd_T33 x.f7 (i : Int)).f4 (rd_T33 x.f7 (i : Int)).f5 (rd_T33 x.f7 (i : Int)).f6 (rd_T33 x.f7 (i : Int)).f7 (rd_T33 x.f7 (i : Int)).f8 (rd_T33 y.f7 (i : Int)).f0 (rd_T33 y.f7 (i : Int)).f1 (rd_T33 y.f7 (i : Int)).f2 (rd_T33 y.f7 (i : Int)).f3 (rd_T33 y.f7 (i : Int)).f4 (rd_T33 y.f7 (i : Int)).f5 (rd_T33 y.f7 (i : Int)).f6 (rd_T33 y.f7 (i : Int)).f7 (rd_T33 y.f7 (i : Int)).f8 = some (r7 i) ∧ impl_SameType.f k (rd_T33 x.f7 (i : Int)).f0 (rd_T33 x.f7 (i : Int)).f1 (rd_T33 x.f7 (i : Int)).f2 (rd_T33 x.f7 (i : Int)).f3 (rd_T33 x.f7 (i : Int)).f4 (rd_T33 x.f7 (i : Int)).f5 (rd_T33 x.f7 (i : Int)).f6 (rd_T33 x.f7 (i : Int)).f7 (rd_T33 x.f7 (i : Int)).f8 (rd_T33 y.f7 (i : Int)).f0 (rd_T33 y.f7 (i : Int)).f1 (rd_T33 y.f7 (i : Int)).f2 (rd_T33 y.f7 (i : Int)).f3 (rd_T33 y.f7 (i : Int)).f4 (rd_T33 y.f7 (i : Int)).f5 (rd_T33 y.f7 (i : Int)).f6 (rd_T33 y.f7 (i : Int)).f7 (rd_T33 y.f7 (i : Int)).f8 = some (r7 i)) (List.range x.f7.length) (fun i hi => hr7 i (List.mem_range.1 hi))
 obtain ⟨tx, TX, TY⟩ : ∃ tx : Bool, (∀ k, 1048590 ≤ k → spec_l02Texts.f k x.f4 y.f4 = some tx) ∧ ∀ k, 1048590 ≤ k → slices_Equal_string_string.f k x.f4 y.f4 = some tx :=
  ⟨_, fun k hk => spec_l02Texts_eq k x.f4 y.f4 (by omega) (by omega), fun k hk => slices_Equal_string_string_eq k x.f4 y.f4 (by omega) (by omega)⟩
 obtain ⟨nt, IX, IY⟩ : ∃ nt : Bool, (∀ k, 1048590 ≤ k → spec_l02Ints.f k x.f5 y.f5 = some nt) ∧ ∀ k, 1048590 ≤ k → slices_Equal_int64_int64.f k x.f5 y.f5 = some nt :=
  ⟨_, fun k hk => spec_l02Ints_is k x.f5 y.f5 (by omega) (by omega), fun k hk => slices_Equal_int64_int64_is k x.f5 y.f5 (by omega) (by omega)⟩
 have J : ∀ k, spec_SameType.j0 (k + 1) true x.f0 x.f1 x.f2 x.f3 x.f4 x.f5 x.f6 x.f7 x.f8 y.f0 y.f1 y.f2 y.f3 y.f4 y.f5 y.f6 y.f7 y.f8 = some false := fun k => by rw [spec_SameType.j0, if_pos rfl]
 by_cases c0 : ¬ x.f0 = y.f0
 · refine ⟨false, 2, fun k hk => ?_⟩
   obtain ⟨k, rfl⟩ : ∃ m, k = m + 1 + 1 := ⟨k - 2, by omega⟩
   rw [spec_SameType.f, if_neg c0, J, impl_SameType.f, if_neg c0]
   exact ⟨rfl, rfl⟩
 replace c0 := Decidable.not_not.1 c0
 by_cases c1 : ¬ x.f1 = y.f1
 · refine ⟨false, 2, fun k hk => ?_⟩
   obtain ⟨k, rfl⟩ : ∃ m, k = m + 1 + 1 := ⟨k - 2, by omega⟩
   rw [spec_SameType.f, if_pos c0, if_neg c1, J, impl_SameType.f, if_pos c0, if_neg c1]
   exact ⟨rfl, rfl⟩
 replace c1 := Decidable.not_not.1 c1
 by_cases c2 : ¬ x.f2 = y.f2
 · refine ⟨false, 2, fun k hk => ?_⟩
   obtain ⟨k, rfl⟩ : ∃ m, k = m + 1 + 1 := ⟨k - 2, by omega⟩
   rw [spec_SameType.f, if_pos c0, if_pos c1, if_pos (bne_iff_ne.2 c2), J, impl_SameType.f, if_pos c0, if_pos c1, if_neg (fun h => c2 (beq_iff_eq.1 h))]
   exact ⟨rfl, rfl⟩
 replace c2 := Decidable.not_not.1 c2
 have d2 : ¬ (x.f2 != y.f2) = true := fun h => bne_iff_ne.1 h c2
 have e2 : (x.f2 == y.f2) = true := beq_iff_eq.2 c2
 by_cases c3 : ¬ x.f3 = y.f3
 · refine ⟨false, 2, fun k hk => ?_⟩
   obtain ⟨k, rfl⟩ : ∃ m, k = m + 1 + 1 := ⟨k - 2, by omega⟩
   rw [spec_SameType.f, if_pos c0, if_pos c1, if_neg d2, if_pos (bne_iff_ne.2 c3), J, impl_SameType.f, if_pos c0, if_pos c1, if_pos e2, if_neg (fun h => c3 (beq_iff_eq.1 h))]
   exact ⟨rfl, rfl⟩
 replace c3 := Decidable.not_not.1 c3
 have d3 : ¬ (x.f3 != y.f3) = true := fun h => bne_iff_ne.1 h c3
 have e3 : (x.f3 == y.f3) = true := beq_iff_eq.2 c3
 by_cases c8 : ¬ x.f8 = y.f8
 · refine ⟨false, 2, fun k hk => ?_⟩
   obtain ⟨k, rfl⟩ : ∃ m, k = m + 1 + 1 := ⟨k - 2, by omega⟩
   rw [spec_SameType.f, if_pos c0, if_pos c1, if_neg d2, if_neg d3, if_neg c8, J, impl_SameType.f, if_pos c0, if_pos c1, if_pos e2, if_pos e3, if_neg c8]
   exact ⟨rfl, rfl⟩
 replace c8 := Decidable.not_not.1 c8
 have IM : ∀ (v6 v7 : Bool) (k : Nat), 1048590 ≤ k → slices_EqualFunc_impl_sameMember.f (impl_SameType.f k) k x.f6 y.f6 = some v6 → slices_EqualFunc_impl_SameType.f (impl_SameType.f k) k x.f7 y.f7 = some v7 → impl_SameType.f (k + 1) x.f0 x.f1 x.f2 x.f3 x.f4 x.f5 x.f6 x.f7 x.f8 y.f0 y.f1 y.f2 y.f3 y.f4 y.f5 y.f6 y.f7 y.f8 = some (tx && (nt && (v6 && v7))) := by
  intro v6 v7 k hk w6 w7
  rw [impl_SameType.f, if_pos c0, if_pos c1, if_pos e2, if_pos e3, if_pos c8, TY k hk]
  simp only [Option.bind_some]
  cases tx with
  | false => rw [if_neg (by decide)]; rfl
  | true =>
   rw [if_pos rfl, IY k hk]
   simp only [Option.bind_some]
   cases nt with
   | false => rw [if_neg (by decide)]; rfl
   | true =>
    rw [if_pos rfl, w6]
    simp only [Option.bind_some]
    cases v6 with
    | false => rw [if_neg (by decide)]; rfl
    | true =>
     rw [if_pos rfl, w7]
     cases v7 <;> rfl
 have M6 : x.f6.length = y.f6.length → ∀ k, K1 + 1048590 ≤ k → slices_EqualFunc_impl_sameMember.f (impl_SameType.f k) k x.f6 y.f6 = some (decide (∀ i, i < x.f6.length → P6 x.f6 y.f6 r6 i)) := by
  intro hl k hk
  unfold slices_EqualFunc_impl_sameMember.f
  rw [if_pos (by omega), all_loop (fun k' i => slices_EqualFunc_impl_sameMember.l0 (impl_SameType.f k) k' y.f6 x.f6 (x.f6.length : Int) i) (P6 x.f6 y.f6 r6) x.f6.length 0 true
   (by intro k' _; show slices_EqualFunc_impl_sameMember.l0 _ (k' + 1) _ _ _ _ = _; rw [slices_EqualFunc_impl_sameMember.l0, if_neg (by omega)])
   (by
    intro k' i _ hi
    show slices_EqualFunc_impl_sameMember.l0 _ (k' + 1) _ _ _ _ = _
    rw [slices_EqualFunc_impl_sameMember.l0, if_pos (by omega), if_pos (by omega), if_pos (by omega), if_pos (by omega), wrap_up i (by omega)]
    unfold impl_sameMember.f
    by_cases q1 : (rd_T64 x.f6 (i : Int)).f0.toList = (rd_T64 y.f6 (i : Int)).f0.toList
    · rw [if_pos q1]
      by_cases q2 : (rd_T64 x.f6 (i : Int)).f1 = (rd_T64 y.f6 (i : Int)).f1
      · rw [if_pos q2, (H1 i (List.mem_range.2 hi) k (by omega)).2]
        simp only [Option.bind_some]
        by_cases q3 : r6 i = true
        · rw [if_pos q3, if_pos (show P6 x.f6 y.f6 r6 i from ⟨q1, q2, q3⟩)]
        · rw [if_neg q3, if_neg (show ¬ P6 x.f6 y.f6 r6 i from fun h => q3 h.2.2)]
      · rw [if_neg q2, if_neg (show ¬ P6 x.f6 y.f6 r6 i from fun h => q2 h.2.1)]; rfl
    · rw [if_neg q1, if_neg (show ¬ P6 x.f6 y.f6 r6 i from fun h => q1 h.1)]; rfl)
   k (by omega), Bool.and_true]
 have M7 : x.f7.length = y.f7.length → ∀ k, K2 + 1048590 ≤ k → slices_EqualFunc_impl_SameType.f (impl_SameType.f k) k x.f7 y.f7 = some (decide (∀ i, i < x.f7.length → r7 i = true)) := by
  intro hl k hk
  unfold slices_EqualFunc_impl_SameType.f
  rw [if_pos (by omega), all_loop (fun k' i => slices_EqualFunc_impl_SameType.l0 (impl_SameType.f k) k' y.f7 x.f7 (x.f7.length : Int) i) (fun i => r7 i = true) x.f7.length 0 true
   (by intro k' _; show slices_EqualFunc_impl_SameType.l0 _ (k' + 1) _ _ _ _ = _; rw [slices_EqualFunc_impl_SameType.l0, if_neg (by omega)])
   (by
    intro k' i _ hi
    show slices_EqualFunc_impl_SameType.l0 _ (k' + 1) _ _ _ _ = _
    rw [slices_EqualFunc_impl_SameType.l0, if_pos (by omega), if_pos (by omega), if_pos (by omega), if_pos (by omega), wrap_up i (by omega), (H2 i (List.mem_range.2 hi) k (by omega)).2]
    rfl)
   k (by omega), Bool.and_true]
 by_cases l6 : ¬ x.f6.length = y.f6.length
 ·
  obtain ⟨v7, hv7⟩ : ∃ v7 : Bool, ∀ k, K2 + 1048590 ≤ k → slices_EqualFunc_impl_SameType.f (impl_SameType.f k) k x.f7 y.f7 = some v7 := by
   by_cases l7 : x.f7.length = y.f7.length
   · exact ⟨_, M7 l7⟩
   · exact ⟨false, fun k _ => by unfold slices_EqualFunc_impl_SameType.f; rw [if_neg (by omega)]⟩
  refine ⟨false, K1 + K2 + 1048600, fun k hk => ?_⟩
  obtain ⟨k, rfl⟩ : ∃ m, k = m + 1 + 1 := ⟨k - 2, by omega⟩
  rw [spec_SameType.f, if_pos c0, if_pos c1, if_neg d2, if_neg d3, if_pos c8, if_neg (by omega), J, IM false v7 (k + 1) (by omega) (by unfold slices_EqualFunc_impl_sameMember.f; rw [if_neg (by omega)]) (hv7 (k + 1) (by omega))]
  exact ⟨rfl, by cases tx <;> cases nt <;> rfl⟩
 replace l6 := Decidable.not_not.1 l6
 by_cases l7 : ¬ x.f7.length = y.f7.length
 · refine ⟨false, K1 + K2 + 1048600, fun k hk => ?_⟩
   obtain ⟨k, rfl⟩ : ∃ m, k = m + 1 + 1 := ⟨k - 2, by omega⟩
   rw [spec_SameType.f, if_pos c0, if_pos c1, if_neg d2, if_neg d3, if_pos c8, if_pos (by omega), show ((x.f7.length : Int) != (y.f7.length : Int)) = true from bne_iff_ne.2 (by omega), J, IM _ false (k + 1) (by omega) (M6 l6 (k + 1) (by omega)) (by unfold slices_EqualFunc_impl_SameType.f; rw [if_neg (by omega)])]
   exact ⟨rfl, by cases tx <;> cases nt <;> simp⟩
 replace l7 := Decidable.not_not.1 l7
 have S7 : ∀ k, K2 + 4000000 ≤ k → spec_SameType.l1 k 0 x.f0 x.f1 x.f2 x.f3 x.f4 x.f5 x.f6 x.f7 x.f8 y.f0 y.f1 y.f2 y.f3 y.f4 y.f5 y.f6 y.f7 y.f8 = some (decide (∀ i, i < x.f7.length → r7 i = true) && (tx && nt)) := by
  intro k hk
  exact all_loop (fun k i => spec_SameType.l1 k i x.f0 x.f1 x.f2 x.f3 x.f4 x.f5 x.f6 x.f7 x.f8 y.f0 y.f1 y.f2 y.f3 y.f4 y.f5 y.f6 y.f7 y.f8) (fun i => r7 i = true) x.f7.length (K2 + 1048590) (tx && nt)
   (by
    intro k hk
    show spec_SameType.l1 (k + 1) _ x.f0 x.f1 x.f2 x.f3 x.f4 x.f5 x.f6 x.f7 x.f8 y.f0 y.f1 y.f2 y.f3 y.f4 y.f5 y.f6 y.f7 y.f8 = _
    rw [spec_SameType.l1, if_neg (by omega), TX k (by omega)]
    simp only [Option.bind_some]
    cases tx with
    | false => rw [if_neg (by decide)]; rfl
    | true => rw [if_pos rfl, IX k (by omega)]; rfl)
   (by
    intro k i hk hi
    show spec_SameType.l1 (k + 1) _ x.f0 x.f1 x.f2 x.f3 x.f4 x.f5 x.f6 x.f7 x.f8 y.f0 y.f1 y.f2 y.f3 y.f4 y.f5 y.f6 y.f7 y.f8 = _
    rw [spec_SameType.l1, if_pos (by omega), if_pos (by omega), if_pos (by omega), wrap_up i (by omega), (H2 i (List.mem_range.2 hi) k (by omega)).1]
    rfl)
   k (by omega)
 have S6 : ∀ k, K1 + K2 + 6000000 ≤ k → spec_SameType.l0 k 0 x.f0 x.f1 x.f2 x.f3 x.f4 x.f5 x.f6 x.f7 x.f8 y.f0 y.f1 y.f2 y.f3 y.f4 y.f5 y.f6 y.f7 y.f8 = some (decide (∀ i, i < x.f6.length → P6 x.f6 y.f6 r6 i) && (decide (∀ i, i < x.f7.length → r7 i = true) && (tx && nt))) := by
  intro k hk
  exact all_loop (fun k i => spec_SameType.l0 k i x.f0 x.f1 x.f2 x.f3 x.f4 x.f5 x.f6 x.f7 x.f8 y.f0 y.f1 y.f2 y.f3 y.f4 y.f5 y.f6 y.f7 y.f8) (P6 x.f6 y.f6 r6) x.f6.length (K1 + K2 + 4000000) _
   (by
    intro k hk
    show spec_SameType.l0 (k + 1) _ x.f0 x.f1 x.f2 x.f3 x.f4 x.f5 x.f6 x.f7 x.f8 y.f0 y.f1 y.f2 y.f3 y.f4 y.f5 y.f6 y.f7 y.f8 = _
    rw [spec_SameType.l0, if_neg (by omega), S7 k (by omega)])
   (by
    intro k i hk hi
    show spec_SameType.l0 (k + 1) _ x.f0 x.f1 x.f2 x.f3 x.f4 x.f5 x.f6 x.f7 x.f8 y.f0 y.f1 y.f2 y.f3 y.f4 y.f5 y.f6 y.f7 y.f8 = _
    rw [spec_SameType.l0, if_pos (by omega), if_pos (by omega), if_pos (by omega), wrap_up i (by omega)]
    by_cases q1 : (rd_T64 x.f6 (i : Int)).f0.toList = (rd_T64 y.f6 (i : Int)).f0.toList
    · rw [if_pos q1]
      by_cases q2 : (rd_T64 x.f6 (i : Int)).f1 = (rd_T64 y.f6 (i : Int)).f1
      · rw [if_pos q2, (H1 i (List.mem_range.2 hi) k (by omega)).1]
        simp only [Option.bind_some]
        by_cases q3 : r6 i = true
        · rw [if_pos q3, if_pos (show P6 x.f6 y.f6 r6 i from ⟨q1, q2, q3⟩)]
        · rw [if_neg q3, if_neg (show ¬ P6 x.f6 y.f6 r6 i from fun h => q3 h.2.2)]
      · rw [if_neg q2, if_neg (show ¬ P6 x.f6 y.f6 r6 i from fun h => q2 h.2.1)]
    · rw [if_neg q1, if_neg (show ¬ P6 x.f6 y.f6 r6 i from fun h => q1 h.1)])
   k (by omega)
 refine ⟨decide (∀ i, i < x.f6.length → P6 x.f6 y.f6 r6 i) && (decide (∀ i, i < x.f7.length → r7 i = true) && (tx && nt)), K1 + K2 + 6000010, fun k hk => ⟨?_, ?_⟩⟩
 · obtain ⟨k, rfl⟩ : ∃ m, k = m + 1 + 1 := ⟨k - 2, by omega⟩
   rw [spec_SameType.f, if_pos c0, if_pos c1, if_neg d2, if_neg d3, if_pos c8, if_pos (by omega), show ((x.f7.length : Int) != (y.f7.length : Int)) = false by simp [l7], spec_SameType.j0, if_neg (by decide), S6 k (by omega)]
 ·
  obtain ⟨k, rfl⟩ : ∃ m, k = m + 1 := ⟨k - 1, by omega⟩
  rw [IM _ _ k (by omega) (M6 l6 k (by omega)) (M7 l7 k (by omega))]
  congr 1
  generalize decide (∀ i, i < x.f6.length → P6 x.f6 y.f6 r6 i) = u
  generalize decide (∀ i, i < x.f7.length → r7 i = true) = v
  cases tx <;> cases nt <;> cases u <;> cases v <;> rfl
theorem spec_l00Same_is (k : Nat) (a b : List Int) (hl : a.length ≤ 1048576) (hk : 1048590 ≤ k) : spec_l00Same.f k a b = some (decide (a = b)) := by
 unfold spec_l00Same.f
 by_cases hn : (a.length : Int) = (b.length : Int)
 ·
  rw [if_pos hn, seq_loop (fun k i => spec_l00Same.l0 k a b i) (fun i => rd a (i : Int) = rd b (i : Int)) a.length
   (by intro k; show spec_l00Same.l0 (k + 1) a b _ = _; rw [spec_l00Same.l0, if_neg (by omega)])
   (by
    intro k i hi
    show spec_l00Same.l0 (k + 1) a b _ = _
    rw [spec_l00Same.l0]
    repeat rw [if_pos (show (i : Int) < (a.length : Int) by omega)]
    repeat rw [if_pos (show (0 : Int) ≤ (i : Int) by omega)]
    repeat rw [if_pos (show (i : Int) < (a.length : Int) by omega)]
    repeat rw [if_pos (show (i : Int) < (b.length : Int) by omega)]
    rw [wrap_up i (by omega)])
   k (by omega)]
  have hb : a.length = b.length := by omega
  congr 1
  apply decide_eq_decide.2
  constructor
  · intro h
    apply List.ext_getElem hb
    intro i h1 h2
    have := h i h1
    rwa [rd_lt a i h1, rd_lt b i h2] at this
  · rintro rfl i _
    rfl
 · rw [if_neg hn, decide_eq_false]
   rintro rfl
   exact hn rfl
theorem szA {x : S27} (h : okS27 x) (l : List Int) (s : ByteArray) (hl : l.length ≤ maxLen) (hs : s.size ≤ maxLen) : ∃ K : Nat, ∀ k, K ≤ k → ∀ a : Int, 0 ≤ a → a ≤ 1048576 → ∃ t, laws_szArray.f k x.f0 x.f1 x.f2 x.f3 x.f4 x.f5 x.f6 x.f7 x.f8 l s a = some t ∧ (t < 0 ∨ (0 ≤ t ∧ t ≤ a ∧ BdL x ∧ (l.length : Int) ≤ 1048576)) := by
 obtain ⟨K, Z⟩ := sz_ok h
 unfold maxLen at hs
 refine ⟨K, fun k hk a h0 h1 => ?_⟩
 obtain ⟨t, e, q⟩ := Z k hk a h0 h1
 unfold laws_szArray.f
 rw [e]
 simp only [Option.bind_some]
 rcases q with q | ⟨q, q', b⟩
 · exact ⟨-1, by rw [if_pos q], .inl (by omega)⟩
 rw [if_neg (by omega)]
 obtain ⟨t2, e2, q2⟩ := g_szInt64S l t q (by omega) hl
 rw [e2]
 simp only [Option.bind_some]
 rcases q2 with q2 | ⟨q2, q2', b2⟩
 · exact ⟨-1, by rw [if_pos q2], .inl (by omega)⟩
 rw [if_neg (by omega), wrap64_id (by omega) (by omega)]
 by_cases h : t2 - (s.size : Int) < 0
 · exact ⟨-1, by rw [if_pos h], .inl (by omega)⟩
 · exact ⟨_, by rw [if_neg h], .inr ⟨by omega, by omega, b, b2⟩⟩
theorem FnExactSameArray : laws_FnExactSameArray.Pure := by
 intro a0 a1 a2 a3 l4 l5 l6 l7 a8 l9 sa b0 b1 b2 b3 m4 m5 m6 m7 b8 m9 sb w0 w1 o4 o5 o6 o7 w8 o9 osa v0 v1 p4 p5 p6 p7 v8 p9 osb
 have ox : okS27 ⟨a0, a1, a2, a3, l4, l5, l6, l7, a8⟩ := okS27.of ⟨w0, w1, trivial, trivial, o4, o5, o6, o7, w8⟩
 have oy : okS27 ⟨b0, b1, b2, b3, m4, m5, m6, m7, b8⟩ := okS27.of ⟨v0, v1, trivial, trivial, p4, p5, p6, p7, v8⟩
 obtain ⟨K1, Z1⟩ := szA ox l9 sa o9.1 osa
 obtain ⟨K2, Z2⟩ := szA oy m9 sb p9.1 osb
 have Z1' : ∀ k, K1 ≤ k → ∀ a : Int, 0 ≤ a → a ≤ 1048576 → ∃ t, laws_szArray.f k a0 a1 a2 a3 l4 l5 l6 l7 a8 l9 sa a = some t ∧ (t < 0 ∨ (0 ≤ t ∧ t ≤ a ∧ BdL ⟨a0, a1, a2, a3, l4, l5, l6, l7, a8⟩ ∧ (l9.length : Int) ≤ 1048576)) := Z1
 have Z2' : ∀ k, K2 ≤ k → ∀ a : Int, 0 ≤ a → a ≤ 1048576 → ∃ t, laws_szArray.f k b0 b1 b2 b3 m4 m5 m6 m7 b8 m9 sb a = some t ∧ (t < 0 ∨ (0 ≤ t ∧ t ≤ a ∧ BdL ⟨b0, b1, b2, b3, m4, m5, m6, m7, b8⟩ ∧ (m9.length : Int) ≤ 1048576)) := Z2
 have step : ∀ k, K1 + K2 ≤ k → laws_FnExactSameArray.f k a0 a1 a2 a3 l4 l5 l6 l7 a8 l9 sa b0 b1 b2 b3 m4 m5 m6 m7 b8 m9 sb = some true ∨ (BdL ⟨a0, a1, a2, a3, l4, l5, l6, l7, a8⟩ ∧ BdL ⟨b0, b1, b2, b3, m4, m5, m6, m7, b8⟩ ∧ (l9.length : Int) ≤ 1048576 ∧ (m9.length : Int) ≤ 1048576 ∧ ∃ t1 t2 : Int, 0 ≤ t1 ∧ 0 ≤ t2 ∧ laws_szArray.f k a0 a1 a2 a3 l4 l5 l6 l7 a8 l9 sa 1048576 = some t1 ∧ laws_szArray.f k b0 b1 b2 b3 m4 m5 m6 m7 b8 m9 sb t1 = some t2) := by
  intro k hk
  obtain ⟨t1, e1, q1⟩ := Z1' k (by omega) 1048576 (by omega) (by omega)
  rcases q1 with q1 | ⟨q1, q1', bx, bl⟩
  · left
    unfold laws_FnExactSameArray.f
    rw [e1]
    simp only [Option.bind_some]
    rw [if_pos q1]
  obtain ⟨t2, e2, q2⟩ := Z2' k (by omega) t1 q1 (by omega)
  rcases q2 with q2 | ⟨q2, q2', bY, bm⟩
  ·
   left
   unfold laws_FnExactSameArray.f
   rw [e1]
   simp only [Option.bind_some]
   rw [if_neg (by omega), e2]
   simp only [Option.bind_some]
   rw [if_pos q2]
  · exact .inr ⟨bx, bY, bl, bm, t1, t2, q1, q2, e1, e2⟩
 rcases step (K1 + K2) (by omega) with h | ⟨bx, bY, bl, bm, -⟩
 · exact ⟨_, h⟩
 obtain ⟨x, hx, K3, T1⟩ := to_ok bx
 obtain ⟨y, hy, K4, T2⟩ := to_ok bY
 obtain ⟨r, K5, SM⟩ := same_ok hx y
 obtain ⟨K6, E1⟩ := eq_ok hx
 obtain ⟨K7, E2⟩ := eq_ok hy
 obtain ⟨k, hk⟩ : ∃ k, k = K1 + K2 + K3 + K4 + K5 + K6 + K7 + 2000000 := ⟨_, rfl⟩
 rcases step k (by omega) with h | ⟨-, -, -, -, t1, t2, q1, q2, e1, e2⟩
 · exact ⟨_, h⟩
 refine ⟨k, ?_⟩
 have T1' : laws_toArray.f k a0 a1 a2 a3 l4 l5 l6 l7 a8 l9 sa = some (x.f0, x.f1, x.f2, x.f3, x.f4, x.f5, x.f6, x.f7, x.f8, l9, sa) := by
  have h : laws_toType.f k a0 a1 a2 a3 l4 l5 l6 l7 a8 = some (x.f0, x.f1, x.f2, x.f3, x.f4, x.f5, x.f6, x.f7, x.f8) := T1 k (by omega)
  unfold laws_toArray.f
  rw [h]
  simp only [Option.bind_some]
  rw [g_toInt64S k l9 (by omega) bl]
  rfl
 have T2' : laws_toArray.f k b0 b1 b2 b3 m4 m5 m6 m7 b8 m9 sb = some (y.f0, y.f1, y.f2, y.f3, y.f4, y.f5, y.f6, y.f7, y.f8, m9, sb) := by
  have h : laws_toType.f k b0 b1 b2 b3 m4 m5 m6 m7 b8 = some (y.f0, y.f1, y.f2, y.f3, y.f4, y.f5, y.f6, y.f7, y.f8) := T2 k (by omega)
  unfold laws_toArray.f
  rw [h]
  simp only [Option.bind_some]
  rw [g_toInt64S k m9 (by omega) bm]
  rfl
 have SM' := SM k (by omega)
 have SS : ∃ r : Bool, spec_SameArray.f k x.f0 x.f1 x.f2 x.f3 x.f4 x.f5 x.f6 x.f7 x.f8 l9 sa y.f0 y.f1 y.f2 y.f3 y.f4 y.f5 y.f6 y.f7 y.f8 m9 sb = some r ∧ impl_SameArray.f k x.f0 x.f1 x.f2 x.f3 x.f4 x.f5 x.f6 x.f7 x.f8 l9 sa y.f0 y.f1 y.f2 y.f3 y.f4 y.f5 y.f6 y.f7 y.f8 m9 sb = some r := by
  unfold spec_SameArray.f impl_SameArray.f
  rw [SM'.1, SM'.2]
  simp only [Option.bind_some]
  cases r with
  | false => exact ⟨false, by rw [if_neg (by decide)], by rw [if_neg (by decide)]⟩
  | true =>
   rw [if_pos rfl, if_pos rfl, spec_l00Same_is k l9 m9 (by omega) (by omega), slices_Equal_int64_int64_is k l9 m9 (by omega) (by omega)]
   simp only [Option.bind_some]
   by_cases h : decide (l9 = m9) = true
   · exact ⟨sa.toList == sb.toList, by rw [if_pos h], by rw [if_pos h]⟩
   · exact ⟨false, by rw [if_neg h], by rw [if_neg h]⟩
 obtain ⟨rr, S1, S2⟩ := SS
 have E1' : laws_eqArray.f k x.f0 x.f1 x.f2 x.f3 x.f4 x.f5 x.f6 x.f7 x.f8 l9 sa x.f0 x.f1 x.f2 x.f3 x.f4 x.f5 x.f6 x.f7 x.f8 l9 sa = some true := by
  unfold laws_eqArray.f
  rw [E1 k (by omega)]
  simp only [Option.bind_some, if_true]
  rw [g_eqInt64S k l9 (by omega) bl]
  simp only [Option.bind_some, if_true]
 have E2' : laws_eqArray.f k y.f0 y.f1 y.f2 y.f3 y.f4 y.f5 y.f6 y.f7 y.f8 m9 sb y.f0 y.f1 y.f2 y.f3 y.f4 y.f5 y.f6 y.f7 y.f8 m9 sb = some true := by
  unfold laws_eqArray.f
  rw [E2 k (by omega)]
  simp only [Option.bind_some, if_true]
  rw [g_eqInt64S k m9 (by omega) bm]
  simp only [Option.bind_some, if_true]
 unfold laws_FnExactSameArray.f
 rw [e1]
 simp only [Option.bind_some]
 rw [if_neg (by omega), e2]
 simp only [Option.bind_some]
 rw [if_neg (by omega), T1', T2']
 simp only [Option.bind_some]
 rw [S1, S2]
 simp only [Option.bind_some]
 rw [if_neg (by simp), E1']
 simp only [Option.bind_some, if_true]
 rw [E2']
 simp only [Option.bind_some, if_true]

end Go.Proofs.Ytfblodggimjoaaa.Pure
