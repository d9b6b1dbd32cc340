/- The plain form of FnExactMessageOf: for all arguments the answer is true. It holds without a condition. -/
import Derived.Test.YtngjbdijimapnabPFnExactMessageOfx4
import Derived.OpenShut
namespace Go.Proofs.Ytngjbdijimapnab.Pure
open Go Go.RowKit Go.Proofs.Ytngjbdijimapnab.PFnExactMessageOf Go.Proofs.YtngjbdijimapnabW.PrintWords Go.Proofs.YtngjbdijimapnabW.PrintLast Go.Proofs.YtngjbdijimapnabW.PrintMore
set_option linter.unusedVariables false
set_option linter.unusedSimpArgs false

theorem wf64 {a : Int} (h : (Lit.int .i64 a).wf = true) : -9223372036854775808 ≤ a ∧ a ≤ 9223372036854775807 := Go.bounds_i64 h
theorem wrap64_id {a : Int} (h : -9223372036854775808 ≤ a) (h' : a ≤ 9223372036854775807) : wrap64 a = a := by unfold wrap64; omega
theorem count_loop {σ ρ : Type} (L : Nat → σ → Int → Option ρ) (n m : Nat) (I : Nat → σ → Prop) (R : ρ → Prop)
    (hstop : ∀ k s, m ≤ k → I n s → ∃ r, L (k + 1) s (n : Int) = some r ∧ R r)
    (hstep : ∀ k s (i : Nat), m ≤ k → i < n → I i s → (∃ s', I (i + 1) s' ∧ L (k + 1) s (i : Int) = L k s' ((i + 1 : Nat) : Int)) ∨ ∃ r, L (k + 1) s (i : Int) = some r ∧ R r)
    (k : Nat) (s : σ) (i : Nat) (hi : i ≤ n) (hk : n - i + m < k) (h : I i s) : ∃ r, L k s (i : Int) = some r ∧ R r := by
  obtain ⟨d, hd⟩ : ∃ d, d = n - i := ⟨_, rfl⟩
  induction d generalizing k s i with
  | zero =>
    obtain ⟨k, rfl⟩ : ∃ z, k = z + 1 := ⟨k - 1, by omega⟩
    obtain rfl : i = n := by omega
    exact hstop k s (by omega) h
  | succ d ih =>
    obtain ⟨k, rfl⟩ : ∃ z, k = z + 1 := ⟨k - 1, by omega⟩
    rcases hstep k s i (by omega) (by omega) h with ⟨s', h', e⟩ | h'
    · rw [e]; exact ih k s' (i + 1) (by omega) (by omega) h' (by omega)
    · exact h'
theorem w0 : wrap64 0 = 0 := by unfold wrap64; omega
theorem w1 : wrap64 1 = 1 := by unfold wrap64; omega
theorem w2 : wrap64 2 = 2 := by unfold wrap64; omega
theorem w3 : wrap64 3 = 3 := by unfold wrap64; omega
theorem rd_lt (l : List Int) (i : Nat) (h : i < l.length) : rd l (i : Int) = l[i] := by
  simp [rd, List.getD_eq_getElem?_getD, List.getElem?_eq_getElem h]
theorem rds_lt (l : List ByteArray) (i : Nat) (h : i < l.length) : rdOf ByteArray.empty l (i : Int) = l[i] := by
  simp [rdOf, List.getD_eq_getElem?_getD, List.getElem?_eq_getElem h]
theorem wrap_up (i : Nat) (h : i < 1099511627776) : wrap64 ((i : Int) + 1) = ((i + 1 : Nat) : Int) := by unfold wrap64; omega
theorem set_next {α : Type} (l out : List α) (i : Nat) (h : i < l.length) (hl : out.length = l.length) (hp : out.take i = l.take i) : (out.set i l[i]).take (i + 1) = l.take (i + 1) := by
  apply List.ext_getElem?
  intro j
  by_cases hj : j < i + 1
  · rw [List.getElem?_take_of_lt hj, List.getElem?_take_of_lt hj]
    by_cases hji : j = i
    · subst hji; rw [List.getElem?_set_self (by omega), List.getElem?_eq_getElem h]
    · rw [List.getElem?_set_ne (by omega)]
      have := congrArg (fun z => z[j]?) hp
      simpa [List.getElem?_take_of_lt (show j < i by omega)] using this
  · rw [List.getElem?_eq_none (by simp; omega), List.getElem?_eq_none (by simp; omega)]
theorem take_all {α : Type} (l out : List α) (hl : out.length = l.length) (hp : out.take l.length = l.take l.length) : out = l := by
  rwa [List.take_of_length_le (by omega), List.take_length] at hp
theorem all_loop (L : Nat → Int → Option Bool) (P : Nat → Prop) [DecidablePred P] (n m : Nat) (r : Bool)
    (hend : ∀ k, m ≤ k → L (k + 1) (n : Int) = some r) (hstep : ∀ k (i : Nat), m ≤ k → i < n → L (k + 1) (i : Int) = if P i then L k ((i + 1 : Nat) : Int) else some false) (k : Nat) (hk : n + m < k) :
    L k 0 = some (decide (∀ i, i < n → P i) && r) := by
  obtain ⟨s, h, rfl⟩ := count_loop (fun k (_ : Unit) i => L k i) n m (fun i _ => ∀ j, j < i → P j) (fun s => s = (decide (∀ i, i < n → P i) && r))
    (by
      rintro k s hm h
      exact ⟨r, hend k hm, by simp [decide_eq_true h]⟩)
    (by
      rintro k s i hm hi h
      by_cases hp : P i
      · refine .inl ⟨(), ?_, by show L (k + 1) _ = _; rw [hstep k i hm hi, if_pos hp]⟩
        intro j hj
        by_cases hji : j = i
        · subst hji; exact hp
        · exact h j (by omega)
      · refine .inr ⟨false, by show L (k + 1) _ = _; rw [hstep k i hm hi, if_neg hp], ?_⟩
        have : ¬ ∀ i, i < n → P i := fun h => hp (h i hi)
        simp [this])
    k () 0 (by omega) (by omega) (by simp)
  exact h
def look (P : Nat → Prop) [DecidablePred P] : Nat → Nat → Int
  | 0, _ => -1
  | d + 1, i => if P i then (i : Int) else look P d (i + 1)
theorem look_or (P : Nat → Prop) [DecidablePred P] (d : Nat) : ∀ i, (look P d i = -1 ∧ ∀ j, i ≤ j → j < i + d → ¬ P j) ∨ ∃ j, i ≤ j ∧ j < i + d ∧ look P d i = (j : Int) ∧ P j := by
  induction d with
  | zero => intro i; exact .inl ⟨rfl, fun j h1 h2 => by omega⟩
  | succ d ih =>
    intro i
    by_cases hp : P i
    · exact .inr ⟨i, by omega, by omega, by rw [look, if_pos hp], hp⟩
    · rw [look, if_neg hp]
      rcases ih (i + 1) with ⟨h1, h2⟩ | ⟨j, h1, h2, h3, h4⟩
      · refine .inl ⟨h1, fun j h3 h4 => ?_⟩
        by_cases hji : j = i
        · subst hji; exact hp
        · exact h2 j (by omega) (by omega)
      · exact .inr ⟨j, by omega, by omega, h3, h4⟩
theorem find_loop (L : Nat → Int → Option Int) (P : Nat → Prop) [DecidablePred P] (n m : Nat)
    (hend : ∀ k, m ≤ k → L (k + 1) (n : Int) = some (-1)) (hstep : ∀ k (i : Nat), m ≤ k → i < n → L (k + 1) (i : Int) = if P i then some (i : Int) else L k ((i + 1 : Nat) : Int)) (k : Nat) (hk : n + m < k) :
    L k 0 = some (look P n 0) := by
  have key : ∀ d k i, i + d = n → d + m < k → L k (i : Int) = some (look P d i) := by
    intro d
    induction d with
    | zero =>
      intro k i hi hk
      obtain ⟨k, rfl⟩ : ∃ z, k = z + 1 := ⟨k - 1, by omega⟩
      obtain rfl : i = n := by omega
      exact hend k (by omega)
    | succ d ih =>
      intro k i hi hk
      obtain ⟨k, rfl⟩ : ∃ z, k = z + 1 := ⟨k - 1, by omega⟩
      rw [hstep k i (by omega) (by omega), look]
      by_cases hp : P i
      · rw [if_pos hp, if_pos hp]
      · rw [if_neg hp, if_neg hp]; exact ih k (i + 1) (by omega) (by omega)
  exact key n k 0 (by omega) (by omega)
theorem getD_lt {α : Type} (l : List α) (z : α) (i : Nat) (h : i < l.length) : l.getD (i : Int).toNat z = l[i] := by
  simp [List.getD_eq_getElem?_getD, List.getElem?_eq_getElem h]
theorem flip_ite {α : Type} (c : Prop) [Decidable c] (a b : α) : (if c then b else a) = if ¬ c then a else b := by
  by_cases h : c
  · rw [if_pos h, if_neg (fun h2 => h2 h)]
  · rw [if_neg h, if_pos h]
theorem seq_loop (L : Nat → Int → Option Bool) (P : Nat → Prop) [DecidablePred P] (n : Nat)
    (hend : ∀ k, L (k + 1) (n : Int) = some true) (hstep : ∀ k (i : Nat), i < n → L (k + 1) (i : Int) = if P i then L k ((i + 1 : Nat) : Int) else some false) (k : Nat) (hk : n < k) :
    L k 0 = some (decide (∀ i, i < n → P i)) := by
  rw [all_loop L P n 0 true (fun k _ => hend k) (fun k i _ hi => hstep k i hi) k (by omega), Bool.and_true]
theorem in_eq (a b c : Int) : spec_l00In.f a b c = some (decide (b ≤ a ∧ a ≤ c)) := by
  unfold spec_l00In.f
  by_cases h : a ≥ b
  · rw [if_pos h]
    by_cases h2 : a ≤ c <;> simp [h2] <;> omega
  · rw [if_neg h]; simp; omega
theorem within_eq (a b c : Int) : impl_within.f a b c = some (decide (b ≤ a ∧ a ≤ c)) := by
  unfold impl_within.f
  by_cases h : a ≥ b
  · rw [if_pos h]
    by_cases h2 : a ≤ c <;> simp [h2] <;> omega
  · rw [if_neg h]; simp; omega
def okM (x : S60) : Prop := (1 ≤ x.f0 ∧ x.f0 ≤ 9) ∧ (0 ≤ x.f1 ∧ x.f1 ≤ 255) ∧ (x.f2.size : Int) ≤ 200
instance (x : S60) : Decidable (okM x) := by unfold okM; infer_instance
def okH (a0 a1 : Int) (l : List S60) : Prop := (1 ≤ a0 ∧ a0 ≤ 3) ∧ (0 ≤ a1 ∧ a1 ≤ 1000) ∧ l.length ≤ 24 ∧ ∀ i, i < l.length → okM (rd_T60 l (i : Int))
instance (a0 a1 : Int) (l : List S60) : Decidable (okH a0 a1 l) := by unfold okH; infer_instance
theorem head_loop (a0 a1 : Int) (l : List S60) (hl : l.length ≤ 1048576) (k : Nat) (hk : 1048590 ≤ k) : spec_l14Ok.l0 k 0 a0 a1 l = some (decide (∀ i, i < l.length → okM (rd_T60 l (i : Int)))) :=
  seq_loop (fun k i => spec_l14Ok.l0 k i a0 a1 l) (fun i => okM (rd_T60 l (i : Int))) l.length
    (by intro k; show spec_l14Ok.l0 (k + 1) _ a0 a1 l = _; rw [spec_l14Ok.l0, if_neg (by omega)])
    (by
      intro k i hi
      show spec_l14Ok.l0 (k + 1) _ a0 a1 l = _
      rw [spec_l14Ok.l0, if_pos (by omega), if_pos (by omega), wrap_up i (by omega)]
      simp only [in_eq, Option.bind_some, decide_eq_true_eq]
      generalize rd_T60 l (i : Int) = x
      by_cases h1 : 1 ≤ x.f0 ∧ x.f0 ≤ 9
      · rw [if_pos h1]
        by_cases h2 : 0 ≤ x.f1 ∧ x.f1 ≤ 255
        · rw [if_pos h2]
          by_cases h3 : (x.f2.size : Int) > 200
          · rw [if_pos h3, if_neg (fun h => by have := h.2.2; omega)]
          · rw [if_neg h3, if_pos ⟨h1, h2, by omega⟩]
        · rw [if_neg h2, if_neg (fun h => h2 h.2.1)]
      · rw [if_neg h1, if_neg (fun h => h1 h.1)])
    k (by omega)
theorem head_spec (a0 a1 : Int) (l : List S60) (hl : l.length ≤ 1048576) (k : Nat) (hk : 1048600 ≤ k) : spec_l14Ok.f k a0 a1 l = some (decide (okH a0 a1 l)) := by
  unfold spec_l14Ok.f
  obtain ⟨k, rfl⟩ : ∃ z, k = z + 1 := ⟨k - 1, by omega⟩
  simp only [in_eq, Option.bind_some, decide_eq_true_eq]
  by_cases h1 : 1 ≤ a0 ∧ a0 ≤ 3
  · rw [if_pos h1]
    by_cases h2 : 0 ≤ a1 ∧ a1 ≤ 1000
    · rw [if_pos h2, spec_l14Ok.j0]
      by_cases h3 : l.length ≤ 24
      · rw [if_neg (by simp; omega), head_loop a0 a1 l hl k (by omega)]
        congr 1
        apply decide_eq_decide.2
        exact ⟨fun h => ⟨h1, h2, h3, h⟩, fun h => h.2.2.2⟩
      · rw [if_pos (by simp; omega), decide_eq_false (fun h => h3 h.2.2.1)]
    · rw [if_neg h2, spec_l14Ok.j0, if_pos rfl, decide_eq_false (fun h => h2 h.2.1)]
  · rw [if_neg h1, spec_l14Ok.j0, if_pos rfl, decide_eq_false (fun h => h1 h.1)]
theorem head_impl (a0 a1 : Int) (l : List S60) (hl : l.length ≤ 1048576) (k : Nat) (hk : 1048600 ≤ k) : impl_ValidHeader.f k a0 a1 l = some (decide (okH a0 a1 l)) := by
  unfold impl_ValidHeader.f slices_ContainsFunc_impl_ValidHeader_1.f slices_IndexFunc_impl_ValidHeader_1.f
  simp only [within_eq, Option.bind_some, decide_eq_true_eq]
  by_cases h1 : 1 ≤ a0 ∧ a0 ≤ 3
  · rw [if_pos h1]
    by_cases h2 : 0 ≤ a1 ∧ a1 ≤ 1000
    · rw [if_pos h2]
      by_cases h3 : l.length ≤ 24
      · rw [if_pos (by omega), find_loop (fun k i => slices_IndexFunc_impl_ValidHeader_1.l0 k l l.length i) (fun i => ¬ okM (rd_T60 l (i : Int))) l.length 0
          (by intro k _; show slices_IndexFunc_impl_ValidHeader_1.l0 (k + 1) l _ _ = _; rw [slices_IndexFunc_impl_ValidHeader_1.l0, if_neg (by omega)])
          (by
            intro k i _ hi
            show slices_IndexFunc_impl_ValidHeader_1.l0 (k + 1) l _ _ = _
            rw [slices_IndexFunc_impl_ValidHeader_1.l0, if_pos (by omega), if_pos (by omega), if_pos (by omega), wrap_up i (by omega)]
            simp only [impl_ValidHeader_1.f, impl_messageOk.f, within_eq, Option.bind_some, decide_eq_true_eq]
            generalize rd_T60 l (i : Int) = x
            by_cases h1 : 1 ≤ x.f0 ∧ x.f0 ≤ 9
            · simp only [if_pos h1]
              by_cases h2 : 0 ≤ x.f1 ∧ x.f1 ≤ 255
              · simp only [if_pos h2]
                by_cases h3 : (x.f2.size : Int) ≤ 200
                · have h4 : okM x := ⟨h1, h2, h3⟩
                  simp [h3, h4]
                · have h4 : ¬ okM x := fun h => h3 h.2.2
                  simp [h3, h4]
              · have h4 : ¬ okM x := fun h => h2 h.2.1
                simp [if_neg h2, h4]
            · have h4 : ¬ okM x := fun h => h1 h.1
              simp [if_neg h1, h4])
          k (by omega)]
        simp only [Option.bind_some]
        rcases look_or (fun i => ¬ okM (rd_T60 l (i : Int))) l.length 0 with ⟨h4, h5⟩ | ⟨j, -, h4, h5, h6⟩
        · rw [h4]
          have h7 : okH a0 a1 l := ⟨h1, h2, h3, fun i hi => Decidable.not_not.1 (h5 i (by omega) (by omega))⟩
          simp [h7]
        · rw [h5]
          have h7 : ¬ okH a0 a1 l := fun h => h6 (h.2.2.2 j (by omega))
          have h8 : (j : Int) ≥ 0 := by omega
          simp [h7, h8]
      · rw [if_neg (by omega), decide_eq_false (fun h => h3 h.2.2.1)]
    · rw [if_neg h2, decide_eq_false (fun h => h2 h.2.1)]
  · rw [if_neg h1, decide_eq_false (fun h => h1 h.1)]
theorem g_szloop {α : Type} (L : Nat → List α → Int → Int → Option Int) (E : Nat → α → Int → Option Int) (z : α) (m : Nat) (Q : α → Prop) (l : List α)
    (hL : ∀ k a i, L (k + 1) l a i = if i < (l.length : Int) then (if 0 ≤ i then ((E k (l.getD i.toNat z) a).bind fun t => if t < 0 then some (-1) else L k l t (wrap64 (i + 1))) else none) else some a)
    (hE : ∀ k x a, x ∈ l → 0 ≤ a → a ≤ 1048576 → m ≤ k → ∃ t, E k x a = some t ∧ (t < 0 ∨ (0 ≤ t ∧ t ≤ a ∧ Q x)))
    (hl : l.length ≤ 1048576) (k : Nat) (a : Int) (h0 : 0 ≤ a) (h1 : a ≤ 1048576) (hk : m + 1048580 < k) :
    ∃ t, L k l a 0 = some t ∧ (t < 0 ∨ (0 ≤ t ∧ t ≤ a ∧ ∀ x ∈ l, Q x)) := by
  exact count_loop (fun k s i => L k l s i) l.length m (fun i s => 0 ≤ s ∧ s ≤ a ∧ ∀ x ∈ l.take i, Q x) (fun t => t < 0 ∨ (0 ≤ t ∧ t ≤ a ∧ ∀ x ∈ l, Q x))
    (by
      rintro k s - ⟨h1, h2, h3⟩
      rw [List.take_length] at h3
      exact ⟨s, by show L (k + 1) l s _ = _; rw [hL, if_neg (by omega)], .inr ⟨h1, h2, h3⟩⟩)
    (by
      rintro k s i hm hi ⟨h1, h2, h3⟩
      have hg : l.getD (i : Int).toNat z = l[i] := by simp [List.getD_eq_getElem?_getD, List.getElem?_eq_getElem hi]
      obtain ⟨t, e, ht⟩ := hE k l[i] s (List.getElem_mem hi) h1 (by omega) hm
      rcases ht with ht | ⟨q1, q2, q3⟩
      · refine .inr ⟨-1, ?_, .inl (by omega)⟩
        show L (k + 1) l s _ = _
        rw [hL, if_pos (by omega), if_pos (by omega), hg, e]
        simp only [Option.bind_some]
        rw [if_pos ht]
      · refine .inl ⟨t, ⟨q1, by omega, ?_⟩, ?_⟩
        · intro x hx'
          rw [List.take_succ_eq_append_getElem hi, List.mem_append] at hx'
          rcases hx' with hx' | hx'
          · exact h3 x hx'
          · simp at hx'; subst hx'; exact q3
        · show L (k + 1) l s _ = _
          rw [hL, if_pos (by omega), if_pos (by omega), hg, e]
          simp only [Option.bind_some]
          rw [if_neg (by omega), wrap_up i (by omega)])
    k a 0 (by omega) (by omega) ⟨h0, by omega, by simp⟩
theorem g_toloop {α β γ : Type} (L : Nat → List α → List β → Int → Option (List β)) (E : Nat → α → Option γ) (mk : γ → β) (z : α) (c : α → β) (m : Nat) (l : List α)
    (hL : ∀ k s i, L (k + 1) l s i = if i < (l.length : Int) then (if 0 ≤ i then ((E k (l.getD i.toNat z)).bind fun b => (if i < (s.length : Int) then L k l (s.set i.toNat (mk b)) (wrap64 (i + 1)) else none)) else none) else some s)
    (hE : ∀ k x, x ∈ l → m ≤ k → ∃ b, E k x = some b ∧ mk b = c x)
    (hl : l.length ≤ 1048576) (k : Nat) (s : List β) (hs : s.length = l.length) (hk : m + 1048580 < k) : L k l s 0 = some (l.map c) := by
  obtain ⟨r, h, rfl⟩ := count_loop (fun k s i => L k l s i) l.length m (fun i s => s.length = (l.map c).length ∧ s.take i = (l.map c).take i) (fun r => r = l.map c)
    (by
      rintro k s - ⟨h1, h2⟩
      exact ⟨s, by show L (k + 1) l s _ = _; rw [hL, if_neg (by omega)], take_all (l.map c) s h1 (by rw [List.length_map]; exact h2)⟩)
    (by
      rintro k s i hm hi ⟨h1, h2⟩
      have hg : l.getD (i : Int).toNat z = l[i] := by simp [List.getD_eq_getElem?_getD, List.getElem?_eq_getElem hi]
      have hi' : i < (l.map c).length := by simpa using hi
      obtain ⟨b, e, hb⟩ := hE k l[i] (List.getElem_mem hi) hm
      have hb' : mk b = (l.map c)[i] := by rw [hb, List.getElem_map]
      refine .inl ⟨s.set i (l.map c)[i], ⟨by simpa using h1, set_next (l.map c) s i hi' h1 h2⟩, ?_⟩
      show L (k + 1) l s _ = _
      rw [hL, if_pos (by omega), if_pos (by omega), hg, e]
      simp only [Option.bind_some]
      rw [if_pos (by rw [h1]; simp; omega), wrap_up i (by omega), hb']
      rfl)
    k s 0 (by omega) (by omega) ⟨by simpa using hs, by simp⟩
  exact h
theorem g_eqloop {α : Type} (L : Nat → List α → List α → Int → Option Bool) (E : Nat → α → Option Bool) (z : α) (m : Nat) (l : List α)
    (hL : ∀ k i, L (k + 1) l l i = if i < (l.length : Int) then (if 0 ≤ i then (if i < (l.length : Int) then ((E k (l.getD i.toNat z)).bind fun t => (if t = true then L k l l (wrap64 (i + 1)) else some false)) else none) else none) else some true)
    (hE : ∀ k x, x ∈ l → m ≤ k → E k x = some true)
    (hl : l.length ≤ 1048576) (k : Nat) (hk : m + 1048580 < k) : L k l l 0 = some true := by
  obtain ⟨r, h, rfl⟩ := count_loop (fun k (_ : Unit) i => L k l l i) l.length m (fun _ _ => True) (fun r => r = true)
    (by
      rintro k s - -
      exact ⟨true, by show L (k + 1) l l _ = _; rw [hL, if_neg (by omega)], rfl⟩)
    (by
      rintro k s i hm hi -
      have hg : l.getD (i : Int).toNat z = l[i] := by simp [List.getD_eq_getElem?_getD, List.getElem?_eq_getElem hi]
      refine .inl ⟨(), trivial, ?_⟩
      show L (k + 1) l l _ = _
      rw [hL, if_pos (by omega), if_pos (by omega), if_pos (by omega), hg, hE k _ (List.getElem_mem hi) hm]
      simp only [Option.bind_some]
      rw [if_pos trivial, wrap_up i (by omega)])
    k () 0 (by omega) (by omega) trivial
  exact h
theorem g_szMessage (k : Nat) (a0_0 : Int) (a0_1 : Int) (a0_2 : ByteArray) (a : Int) (h0 : 0 ≤ a) (h1 : a ≤ 1048576) (hk : 0 ≤ k) (o_a0_2 : a0_2.size ≤ maxLen) : ∃ t, laws_szMessage.f a0_0 a0_1 a0_2 a = some t ∧ (t < 0 ∨ (0 ≤ t ∧ t ≤ a ∧ (a0_2.size : Int) ≤ 1048576)) := by
  have p_a0_2 := o_a0_2
  unfold maxLen at p_a0_2
  unfold laws_szMessage.f
  rw [wrap64_id (a := a - (a0_2.size : Int)) (by omega) (by omega)]
  by_cases c0 : a - (a0_2.size : Int) < 0
  · exact ⟨-1, by rw [if_pos c0], .inl (by omega)⟩
  rw [if_neg c0]
  exact ⟨_, rfl, .inr ⟨by omega, by omega, by omega⟩⟩
def QS135 (x : S135) : Prop := (x.f2.size : Int) ≤ 1048576
theorem g_szMessageS (k : Nat) (l : List (S135)) (a : Int) (h0 : 0 ≤ a) (h1 : a ≤ 1048576) (hk : 1048590 ≤ k) (o : l.length ≤ maxLen ∧ ∀ x_ ∈ l, okS135 x_) : ∃ t, laws_szMessageS.f k l a = some t ∧ (t < 0 ∨ (0 ≤ t ∧ t ≤ a ∧ (l.length : Int) ≤ 1048576 ∧ (∀ y ∈ l, QS135 y))) := by
  have ol := o.1
  unfold maxLen at ol
  unfold laws_szMessageS.f
  rw [wrap64_id (by omega) (by omega)]
  by_cases h : a - (l.length : Int) < 0
  · exact ⟨-1, by rw [if_pos h], .inl (by omega)⟩
  rw [if_neg h]
  obtain ⟨t, e, q⟩ := g_szloop laws_szMessageS.l0 (fun k x a => laws_szMessage.f x.f0 x.f1 x.f2 a) z135 0 (QS135) l
    (by intro k a i; rw [laws_szMessageS.l0]; rfl)
    (by intro k x a hx h0 h1 hm; obtain ⟨o0, o1, o2⟩ := o.2 x hx; exact g_szMessage k x.f0 x.f1 x.f2 a h0 h1 hm o2)
    (by omega) k (a - (l.length : Int)) (by omega) (by omega) (by omega)
  rcases q with q | ⟨q1, q2, q3⟩
  · exact ⟨t, e, .inl q⟩
  · exact ⟨t, e, .inr ⟨q1, by omega, by omega, q3⟩⟩
theorem g_szHeader (k : Nat) (a0_0 : Int) (a0_1 : Int) (l0_2 : List (S135)) (a : Int) (h0 : 0 ≤ a) (h1 : a ≤ 1048576) (hk : 1048590 ≤ k) (o_l0_2 : l0_2.length ≤ maxLen ∧ ∀ x_ ∈ l0_2, okS135 x_) : ∃ t, laws_szHeader.f k a0_0 a0_1 l0_2 a = some t ∧ (t < 0 ∨ (0 ≤ t ∧ t ≤ a ∧ (l0_2.length : Int) ≤ 1048576 ∧ (∀ y ∈ l0_2, QS135 y))) := by
  have p_l0_2 := o_l0_2.1
  unfold maxLen at p_l0_2
  unfold laws_szHeader.f
  obtain ⟨t0, e0, q0⟩ := g_szMessageS k l0_2 a (by omega) (by omega) (by omega) o_l0_2
  rw [e0]
  simp only [Option.bind_some]
  rcases q0 with q0 | ⟨r0, s0, q0_l0_2_0, q0_l0_2_1⟩
  · exact ⟨-1, by rw [if_pos q0], .inl (by omega)⟩
  rw [if_neg (show ¬ t0 < 0 by omega)]
  exact ⟨_, rfl, .inr ⟨by omega, by omega, q0_l0_2_0, q0_l0_2_1⟩⟩
theorem g_toMessage (k : Nat) (a0_0 : Int) (a0_1 : Int) (a0_2 : ByteArray) (hk : 0 ≤ k) (o_a0_2_0 : (a0_2.size : Int) ≤ 1048576) : laws_toMessage.f a0_0 a0_1 a0_2 = some (a0_0, a0_1, a0_2) := by
  unfold laws_toMessage.f
  rfl
def QS60 (x : S60) : Prop := (x.f2.size : Int) ≤ 1048576
def cS135 (x : S135) : S60 := ⟨x.f0, x.f1, x.f2⟩
theorem qcS135 (x : S135) (h : QS135 x) : QS60 (cS135 x) := h
theorem qmS135 (l : List S135) (h : ∀ y ∈ l, QS135 y) : ∀ y ∈ l.map cS135, QS60 y := by
  intro y hy
  obtain ⟨x, hx, rfl⟩ := List.mem_map.1 hy
  exact qcS135 x (h x hx)
theorem g_toMessageS (k : Nat) (l : List (S135)) (hk : 1048590 ≤ k) (o1 : (l.length : Int) ≤ 1048576) (o2 : (∀ y ∈ l, QS135 y)) : laws_toMessageS.f k l = some (l.map cS135) := by
  unfold laws_toMessageS.f
  rw [if_pos (by omega), if_pos (by omega)]
  have h := g_toloop laws_toMessageS.l0 (fun k (x : S135) => laws_toMessage.f x.f0 x.f1 x.f2) (fun b => (⟨b.1, b.2.1, b.2.2⟩ : S60)) z135 cS135 0 l (by intro k s i; rw [laws_toMessageS.l0]; rfl)
    (by intro k x hx hm; obtain q2_0 := o2 x hx; exact ⟨_, g_toMessage k x.f0 x.f1 x.f2 hm q2_0, rfl⟩)
    (by omega) k (List.replicate ((l.length : Int) : Int).toNat z60) (by simp) (by omega)
  exact h
theorem g_toHeader (k : Nat) (a0_0 : Int) (a0_1 : Int) (l0_2 : List (S135)) (hk : 1048590 ≤ k) (o_l0_2_0 : (l0_2.length : Int) ≤ 1048576) (o_l0_2_1 : (∀ y ∈ l0_2, QS135 y)) : laws_toHeader.f k a0_0 a0_1 l0_2 = some (a0_0, a0_1, (l0_2.map cS135)) := by
  unfold laws_toHeader.f
  rw [g_toMessageS k l0_2 (by omega) o_l0_2_0 o_l0_2_1]
  simp only [Option.bind_some]
theorem g_eqMessage (k : Nat) (a0_0 : Int) (a0_1 : Int) (a0_2 : ByteArray) (hk : 0 ≤ k)  : laws_eqMessage.f a0_0 a0_1 a0_2 a0_0 a0_1 a0_2 = some true := by
  unfold laws_eqMessage.f
  simp only [Option.bind_some, bne_self_eq_false, Bool.false_eq_true, if_false, if_true, reduceIte]
theorem g_eqMessageS (k : Nat) (l : List (S60)) (hk : 1048590 ≤ k) (o1 : (l.length : Int) ≤ 1048576) (o2 : (∀ y ∈ l, QS60 y)) : laws_eqMessageS.f k l l = some true := by
  unfold laws_eqMessageS.f
  rw [if_pos rfl]
  exact g_eqloop laws_eqMessageS.l0 (fun k (x : S60) => laws_eqMessage.f x.f0 x.f1 x.f2 x.f0 x.f1 x.f2) z60 0 l (by intro k i; rw [laws_eqMessageS.l0]; rfl) (by intro k x hx hm; obtain q2_0 := o2 x hx; exact g_eqMessage k x.f0 x.f1 x.f2 hm ) (by omega) k (by omega)
theorem g_eqHeader (k : Nat) (a0_0 : Int) (a0_1 : Int) (l0_2 : List (S60)) (hk : 1048590 ≤ k) (o_l0_2_0 : (l0_2.length : Int) ≤ 1048576) (o_l0_2_1 : (∀ y ∈ l0_2, QS60 y)) : laws_eqHeader.f k a0_0 a0_1 l0_2 a0_0 a0_1 l0_2 = some true := by
  unfold laws_eqHeader.f
  simp only [g_eqMessageS k l0_2 (by omega) o_l0_2_0 o_l0_2_1, Option.bind_some, bne_self_eq_false, Bool.false_eq_true, if_false, if_true, reduceIte]
def msgAt (l : List S60) (t : Int) : Int × Int × ByteArray × Bool := if t < 0 then (0, 0, (⟨#[]⟩ : ByteArray), false) else ((rd_T60 l t).f0, (rd_T60 l t).f1, (rd_T60 l t).f2, true)
theorem walk_all (a0 a1 : Int) (l : List S60) (x : Int) (h : okH a0 a1 l) : ∀ (d : Nat) (k i : Nat), i + d = l.length → 1048600 + 2 * d ≤ k → spec_MessageOf.l0 k x i a0 a1 l = some (msgAt l (look (fun i => (rd_T60 l (i : Int)).f0 = x) d i)) := by
  have hl : l.length ≤ 24 := h.2.2.1
  intro d
  induction d with
  | zero =>
    intro k i hi hk
    obtain ⟨k, rfl⟩ : ∃ z, k = z + 2 := ⟨k - 2, by omega⟩
    rw [spec_MessageOf.l0, if_neg (by omega), spec_MessageOf.j1, if_neg (by simp)]
    rfl
  | succ d ih =>
    intro k i hi hk
    obtain ⟨k, rfl⟩ : ∃ z, k = z + 2 := ⟨k - 2, by omega⟩
    rw [spec_MessageOf.l0, if_pos (by omega), head_spec a0 a1 l (by omega) _ (by omega)]
    simp only [Option.bind_some]
    rw [decide_eq_true h, spec_MessageOf.j1, if_pos rfl, if_pos (by omega), if_pos (by omega), look]
    by_cases hx : (rd_T60 l (i : Int)).f0 = x
    · rw [if_pos hx, if_pos hx]
      unfold msgAt
      rw [if_neg (by omega)]
    · rw [if_neg hx, if_neg hx, wrap_up i (by omega)]
      exact ih k (i + 1) (by omega) (by omega)
theorem at_impl (a0 a1 : Int) (l : List S60) (x : Int) (hl : l.length ≤ 1048576) (k : Nat) (hk : 1048590 ≤ k) : impl_Header_messageAt.f k a0 a1 l x = some (look (fun i => (rd_T60 l (i : Int)).f0 = x) l.length 0) := by
  unfold impl_Header_messageAt.f slices_IndexFunc_impl_Header_messageAt_1.f
  rw [find_loop (fun k i => slices_IndexFunc_impl_Header_messageAt_1.l0 k l l.length i x) (fun i => (rd_T60 l (i : Int)).f0 = x) l.length 0
    (by intro k _; show slices_IndexFunc_impl_Header_messageAt_1.l0 (k + 1) l _ _ x = _; rw [slices_IndexFunc_impl_Header_messageAt_1.l0, if_neg (by omega)])
    (by
      intro k i _ hi
      show slices_IndexFunc_impl_Header_messageAt_1.l0 (k + 1) l _ _ x = _
      rw [slices_IndexFunc_impl_Header_messageAt_1.l0, if_pos (by omega), if_pos (by omega), if_pos (by omega), wrap_up i (by omega)]
      simp only [impl_Header_messageAt_1.f, Option.bind_some, beq_iff_eq])
    k (by omega)]
  rfl
theorem both (a0 a1 : Int) (l : List S60) (x : Int) (h0 : (Lit.int .i64 a0).wf = true) (h1 : (Lit.int .i64 a1).wf = true) (hl : (l.length : Int) ≤ 1048576) (hl2 : ∀ y ∈ l, QS60 y) (hx : (Lit.int .i64 x).wf = true) :
    ∃ v, ∀ k, 8000000 ≤ k → spec_MessageOf.f k a0 a1 l x = some v ∧ impl_MessageOf.f k a0 a1 l x = some v := by
  by_cases h : okH a0 a1 l
  · refine ⟨msgAt l (look (fun i => (rd_T60 l (i : Int)).f0 = x) l.length 0), fun k hk => ⟨?_, ?_⟩⟩
    · unfold spec_MessageOf.f
      have hl : l.length ≤ 24 := h.2.2.1
      exact walk_all a0 a1 l x h l.length k 0 (by omega) (by omega)
    · unfold impl_MessageOf.f
      rw [at_impl a0 a1 l x (by omega) k (by omega), head_impl a0 a1 l (by omega) k (by omega)]
      simp only [Option.bind_some, decide_eq_true h, if_true]
      unfold msgAt
      rcases look_or (fun i => (rd_T60 l (i : Int)).f0 = x) l.length 0 with ⟨h4, h5⟩ | ⟨j, -, h4, h5, h6⟩
      · rw [h4]; rfl
      · simp only [h5, if_neg (show ¬ (j : Int) < 0 by omega), if_pos (show 0 ≤ (j : Int) by omega), if_pos (show (j : Int) < (l.length : Int) by omega)]
  · refine ⟨(0, 0, (⟨#[]⟩ : ByteArray), false), fun k hk => ⟨?_, ?_⟩⟩
    · unfold spec_MessageOf.f
      obtain ⟨k, rfl⟩ : ∃ z, k = z + 2 := ⟨k - 2, by omega⟩
      rw [spec_MessageOf.l0, head_spec a0 a1 l (by omega) _ (by omega)]
      simp only [Option.bind_some, decide_eq_false h]
      simp only [spec_MessageOf.j1, Bool.false_eq_true, if_false, ite_self]
    · unfold impl_MessageOf.f
      rw [at_impl a0 a1 l x (by omega) k (by omega), head_impl a0 a1 l (by omega) k (by omega)]
      simp only [Option.bind_some, decide_eq_false h]
      rfl
theorem FnExactMessageOf : laws_FnExactMessageOf.Pure := by
  intro a0_0 a0_1 l0_2 a1 o_a0_0 o_a0_1 o_l0_2 o_a1
  refine ⟨9000000, ?_⟩
  obtain ⟨t1, e1, h1⟩ := g_szHeader 9000000 a0_0 a0_1 l0_2 1048576 (by omega) (by omega) (by omega) o_l0_2
  rcases h1 with h1 | ⟨h1, m1, q_l0_2_0, q_l0_2_1⟩
  · simp only [laws_FnExactMessageOf.f, laws_FnExactMessageOf.j0, e1, Option.bind_some, if_pos h1]
  have n1 : ¬ t1 < 0 := by omega
  have T1 := fun k (hk : 8000000 ≤ k) => g_toHeader k a0_0 a0_1 l0_2 (by omega) q_l0_2_0 q_l0_2_1
  have cl_l0_2 : (((l0_2.map cS135)).length : Int) ≤ 1048576 := by rw [List.length_map]; exact q_l0_2_0
  have cq_l0_2 := qmS135 l0_2 q_l0_2_1
  have E1 := fun k (hk : 8000000 ≤ k) => g_eqHeader k a0_0 a0_1 (l0_2.map cS135) (by omega) cl_l0_2 cq_l0_2
  obtain ⟨v, hv⟩ := both a0_0 a0_1 (l0_2.map cS135) a1 o_a0_0 o_a0_1 cl_l0_2 cq_l0_2 o_a1
  have HS := fun k (hk : 8000000 ≤ k) => (hv k hk).1
  have HI := fun k (hk : 8000000 ≤ k) => (hv k hk).2
  simp (disch := omega) only [laws_FnExactMessageOf.f, laws_FnExactMessageOf.j0, e1, if_neg n1, T1, E1, HS, HI, Option.bind_some, bne_self_eq_false, Bool.false_eq_true, if_false, if_true, reduceIte, g_eqMessage 0 (hk := by omega)]

end Go.Proofs.Ytngjbdijimapnab.Pure
