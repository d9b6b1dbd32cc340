/- The plain form of FnExactNewDisk: for all arguments the answer is true. It holds without a condition. -/
import Derived.Test.YtehldidejgpifaaPFnExactNewDiskx4
import Derived.OpenShut
namespace Go.Proofs.Ytehldidejgpifaa.Pure
open Go Go.RowKit Go.Proofs.Ytehldidejgpifaa.PFnExactNewDisk Go.Proofs.YtehldidejgpifaaW.PrintWords Go.Proofs.YtehldidejgpifaaW.PrintLast Go.Proofs.YtehldidejgpifaaW.PrintMore
set_option linter.unusedVariables false
set_option linter.unusedSimpArgs false

theorem wf64 {a : Int} (h : (Lit.int .i64 a).wf = true) : -9223372036854775808 ≤ a ∧ a ≤ 9223372036854775807 := Go.bounds_i64 h
theorem wrap64_id {a : Int} (h : -9223372036854775808 ≤ a) (h' : a ≤ 9223372036854775807) : wrap64 a = a := by unfold wrap64; omega
theorem count_loop {σ ρ : Type} (L : Nat → σ → Int → Option ρ) (n m : Nat) (I : Nat → σ → Prop) (R : ρ → Prop)
    (hstop : ∀ k s, m ≤ k → I n s → ∃ r, L (k + 1) s (n : Int) = some r ∧ R r)
    (hstep : ∀ k s (i : Nat), m ≤ k → i < n → I i s → (∃ s', I (i + 1) s' ∧ L (k + 1) s (i : Int) = L k s' ((i + 1 : Nat) : Int)) ∨ ∃ r, L (k + 1) s (i : Int) = some r ∧ R r)
    (k : Nat) (s : σ) (i : Nat) (hi : i ≤ n) (hk : n - i + m < k) (h : I i s) : ∃ r, L k s (i : Int) = some r ∧ R r := by
  obtain ⟨d, hd⟩ : ∃ d, d = n - i := ⟨_, rfl⟩
  induction d generalizing k s i with
  | zero =>
    obtain ⟨k, rfl⟩ : ∃ z, k = z + 1 := ⟨k - 1, by omega⟩
    obtain rfl : i = n := by omega
    exact hstop k s (by omega) h
  | succ d ih =>
    obtain ⟨k, rfl⟩ : ∃ z, k = z + 1 := ⟨k - 1, by omega⟩
    rcases hstep k s i (by omega) (by omega) h with ⟨s', h', e⟩ | h'
    · rw [e]; exact ih k s' (i + 1) (by omega) (by omega) h' (by omega)
    · exact h'
theorem w0 : wrap64 0 = 0 := by unfold wrap64; omega
theorem w1 : wrap64 1 = 1 := by unfold wrap64; omega
theorem w2 : wrap64 2 = 2 := by unfold wrap64; omega
theorem w3 : wrap64 3 = 3 := by unfold wrap64; omega
theorem rd_lt (l : List Int) (i : Nat) (h : i < l.length) : rd l (i : Int) = l[i] := by
  simp [rd, List.getD_eq_getElem?_getD, List.getElem?_eq_getElem h]
theorem rds_lt (l : List ByteArray) (i : Nat) (h : i < l.length) : rdOf ByteArray.empty l (i : Int) = l[i] := by
  simp [rdOf, List.getD_eq_getElem?_getD, List.getElem?_eq_getElem h]
theorem wrap_up (i : Nat) (h : i < 1099511627776) : wrap64 ((i : Int) + 1) = ((i + 1 : Nat) : Int) := by unfold wrap64; omega
theorem set_next {α : Type} (l out : List α) (i : Nat) (h : i < l.length) (hl : out.length = l.length) (hp : out.take i = l.take i) : (out.set i l[i]).take (i + 1) = l.take (i + 1) := by
  apply List.ext_getElem?
  intro j
  by_cases hj : j < i + 1
  · rw [List.getElem?_take_of_lt hj, List.getElem?_take_of_lt hj]
    by_cases hji : j = i
    · subst hji; rw [List.getElem?_set_self (by omega), List.getElem?_eq_getElem h]
    · rw [List.getElem?_set_ne (by omega)]
      have := congrArg (fun z => z[j]?) hp
      simpa [List.getElem?_take_of_lt (show j < i by omega)] using this
  · rw [List.getElem?_eq_none (by simp; omega), List.getElem?_eq_none (by simp; omega)]
theorem take_all {α : Type} (l out : List α) (hl : out.length = l.length) (hp : out.take l.length = l.take l.length) : out = l := by
  rwa [List.take_of_length_le (by omega), List.take_length] at hp
theorem g_szloop {α : Type} (L : Nat → List α → Int → Int → Option Int) (E : Nat → α → Int → Option Int) (z : α) (m : Nat) (Q : α → Prop) (l : List α)
    (hL : ∀ k a i, L (k + 1) l a i = if i < (l.length : Int) then (if 0 ≤ i then ((E k (l.getD i.toNat z) a).bind fun t => if t < 0 then some (-1) else L k l t (wrap64 (i + 1))) else none) else some a)
    (hE : ∀ k x a, x ∈ l → 0 ≤ a → a ≤ 1048576 → m ≤ k → ∃ t, E k x a = some t ∧ (t < 0 ∨ (0 ≤ t ∧ t ≤ a ∧ Q x)))
    (hl : l.length ≤ 1048576) (k : Nat) (a : Int) (h0 : 0 ≤ a) (h1 : a ≤ 1048576) (hk : m + 1048580 < k) :
    ∃ t, L k l a 0 = some t ∧ (t < 0 ∨ (0 ≤ t ∧ t ≤ a ∧ ∀ x ∈ l, Q x)) := by
  exact count_loop (fun k s i => L k l s i) l.length m (fun i s => 0 ≤ s ∧ s ≤ a ∧ ∀ x ∈ l.take i, Q x) (fun t => t < 0 ∨ (0 ≤ t ∧ t ≤ a ∧ ∀ x ∈ l, Q x))
    (by
      rintro k s - ⟨h1, h2, h3⟩
      rw [List.take_length] at h3
      exact ⟨s, by show L (k + 1) l s _ = _; rw [hL, if_neg (by omega)], .inr ⟨h1, h2, h3⟩⟩)
    (by
      rintro k s i hm hi ⟨h1, h2, h3⟩
      have hg : l.getD (i : Int).toNat z = l[i] := by simp [List.getD_eq_getElem?_getD, List.getElem?_eq_getElem hi]
      obtain ⟨t, e, ht⟩ := hE k l[i] s (List.getElem_mem hi) h1 (by omega) hm
      rcases ht with ht | ⟨q1, q2, q3⟩
      · refine .inr ⟨-1, ?_, .inl (by omega)⟩
        show L (k + 1) l s _ = _
        rw [hL, if_pos (by omega), if_pos (by omega), hg, e]
        simp only [Option.bind_some]
        rw [if_pos ht]
      · refine .inl ⟨t, ⟨q1, by omega, ?_⟩, ?_⟩
        · intro x hx'
          rw [List.take_succ_eq_append_getElem hi, List.mem_append] at hx'
          rcases hx' with hx' | hx'
          · exact h3 x hx'
          · simp at hx'; subst hx'; exact q3
        · show L (k + 1) l s _ = _
          rw [hL, if_pos (by omega), if_pos (by omega), hg, e]
          simp only [Option.bind_some]
          rw [if_neg (by omega), wrap_up i (by omega)])
    k a 0 (by omega) (by omega) ⟨h0, by omega, by simp⟩
theorem g_toloop {α β γ : Type} (L : Nat → List α → List β → Int → Option (List β)) (E : Nat → α → Option γ) (mk : γ → β) (z : α) (c : α → β) (m : Nat) (l : List α)
    (hL : ∀ k s i, L (k + 1) l s i = if i < (l.length : Int) then (if 0 ≤ i then ((E k (l.getD i.toNat z)).bind fun b => (if i < (s.length : Int) then L k l (s.set i.toNat (mk b)) (wrap64 (i + 1)) else none)) else none) else some s)
    (hE : ∀ k x, x ∈ l → m ≤ k → ∃ b, E k x = some b ∧ mk b = c x)
    (hl : l.length ≤ 1048576) (k : Nat) (s : List β) (hs : s.length = l.length) (hk : m + 1048580 < k) : L k l s 0 = some (l.map c) := by
  obtain ⟨r, h, rfl⟩ := count_loop (fun k s i => L k l s i) l.length m (fun i s => s.length = (l.map c).length ∧ s.take i = (l.map c).take i) (fun r => r = l.map c)
    (by
      rintro k s - ⟨h1, h2⟩
      exact ⟨s, by show L (k + 1) l s _ = _; rw [hL, if_neg (by omega)], take_all (l.map c) s h1 (by rw [List.length_map]; exact h2)⟩)
    (by
      rintro k s i hm hi ⟨h1, h2⟩
      have hg : l.getD (i : Int).toNat z = l[i] := by simp [List.getD_eq_getElem?_getD, List.getElem?_eq_getElem hi]
      have hi' : i < (l.map c).length := by simpa using hi
      obtain ⟨b, e, hb⟩ := hE k l[i] (List.getElem_mem hi) hm
      have hb' : mk b = (l.map c)[i] := by rw [hb, List.getElem_map]
      refine .inl ⟨s.set i (l.map c)[i], ⟨by simpa using h1, set_next (l.map c) s i hi' h1 h2⟩, ?_⟩
      show L (k + 1) l s _ = _
      rw [hL, if_pos (by omega), if_pos (by omega), hg, e]
      simp only [Option.bind_some]
      rw [if_pos (by rw [h1]; simp; omega), wrap_up i (by omega), hb']
      rfl)
    k s 0 (by omega) (by omega) ⟨by simpa using hs, by simp⟩
  exact h
theorem g_eqloop {α : Type} (L : Nat → List α → List α → Int → Option Bool) (E : Nat → α → Option Bool) (z : α) (m : Nat) (l : List α)
    (hL : ∀ k i, L (k + 1) l l i = if i < (l.length : Int) then (if 0 ≤ i then (if i < (l.length : Int) then ((E k (l.getD i.toNat z)).bind fun t => (if t = true then L k l l (wrap64 (i + 1)) else some false)) else none) else none) else some true)
    (hE : ∀ k x, x ∈ l → m ≤ k → E k x = some true)
    (hl : l.length ≤ 1048576) (k : Nat) (hk : m + 1048580 < k) : L k l l 0 = some true := by
  obtain ⟨r, h, rfl⟩ := count_loop (fun k (_ : Unit) i => L k l l i) l.length m (fun _ _ => True) (fun r => r = true)
    (by
      rintro k s - -
      exact ⟨true, by show L (k + 1) l l _ = _; rw [hL, if_neg (by omega)], rfl⟩)
    (by
      rintro k s i hm hi -
      have hg : l.getD (i : Int).toNat z = l[i] := by simp [List.getD_eq_getElem?_getD, List.getElem?_eq_getElem hi]
      refine .inl ⟨(), trivial, ?_⟩
      show L (k + 1) l l _ = _
      rw [hL, if_pos (by omega), if_pos (by omega), if_pos (by omega), hg, hE k _ (List.getElem_mem hi) hm]
      simp only [Option.bind_some]
      rw [if_pos trivial, wrap_up i (by omega)])
    k () 0 (by omega) (by omega) trivial
  exact h
theorem g_eqStringS (k : Nat) (l : List ByteArray) (hk : 1048590 ≤ k) (o1 : (l.length : Int) ≤ 1048576) (o2 : (∀ y ∈ l, (y.size : Int) ≤ 1048576)) : laws_eqStringS.f k l l = some true := by
  unfold laws_eqStringS.f
  rw [if_pos rfl]
  exact g_eqloop laws_eqStringS.l0 (fun _ (x : ByteArray) => some true) ByteArray.empty 0 l (by intro k i; rw [laws_eqStringS.l0]; simp only [Option.bind_some, bne_self_eq_false, Bool.false_eq_true, if_false, if_true, reduceIte]) (by intro k x hx hm; rfl) (by omega) k (by omega)
theorem g_eqPut (k : Nat) (a0_0 : Int) (a0_1 : ByteArray) (hk : 0 ≤ k)  : laws_eqPut.f a0_0 a0_1 a0_0 a0_1 = some true := by
  unfold laws_eqPut.f
  simp only [Option.bind_some, bne_self_eq_false, Bool.false_eq_true, if_false, if_true, reduceIte]
def QS131 (x : S131) : Prop := (x.f1.size : Int) ≤ 1048576
theorem g_eqPutS (k : Nat) (l : List (S131)) (hk : 1048590 ≤ k) (o1 : (l.length : Int) ≤ 1048576) (o2 : (∀ y ∈ l, QS131 y)) : laws_eqPutS.f k l l = some true := by
  unfold laws_eqPutS.f
  rw [if_pos rfl]
  exact g_eqloop laws_eqPutS.l0 (fun k (x : S131) => laws_eqPut.f x.f0 x.f1 x.f0 x.f1) z131 0 l (by intro k i; rw [laws_eqPutS.l0]; rfl) (by intro k x hx hm; obtain q1_0 := o2 x hx; exact g_eqPut k x.f0 x.f1 hm ) (by omega) k (by omega)
theorem g_eqDisk (k : Nat) (l0_0 : List ByteArray) (l0_1 : List (S131)) (a0_2 : Int) (a0_3 : Bool) (hk : 1048590 ≤ k) (o_l0_0_0 : (l0_0.length : Int) ≤ 1048576) (o_l0_0_1 : (∀ y ∈ l0_0, (y.size : Int) ≤ 1048576)) (o_l0_1_0 : (l0_1.length : Int) ≤ 1048576) (o_l0_1_1 : (∀ y ∈ l0_1, QS131 y)) : laws_eqDisk.f k l0_0 l0_1 a0_2 a0_3 l0_0 l0_1 a0_2 a0_3 = some true := by
  unfold laws_eqDisk.f
  simp only [g_eqStringS k l0_0 (by omega) o_l0_0_0 o_l0_0_1, g_eqPutS k l0_1 (by omega) o_l0_1_0 o_l0_1_1, Option.bind_some, bne_self_eq_false, Bool.false_eq_true, if_false, if_true, reduceIte]
theorem rep_zero (d : Nat) : Lib.repeatL [0] d = List.replicate d (0 : UInt8) := by
  have h := Lib.repeatL_replicate (0 : UInt8) 1 d
  simpa using h
def Z : ByteArray := ⟨(List.replicate 64 (0 : UInt8)).toArray⟩
theorem zeros_eq : impl_zeros.f 64 = some Z := by
  unfold impl_zeros.f strings_Repeat.f
  have e : ((⟨#[0]⟩ : ByteArray).size : Int) = 1 := rfl
  rw [e, if_pos (by omega)]
  simp only [Option.bind_some]
  rw [show (64 : Int).toNat = 64 from rfl, rep_zero]
  rfl
theorem zero_eq : spec_l09Zero.f = some Z := by
  unfold spec_l09Zero.f
  rw [if_pos (by omega)]
  rfl
theorem new_loop (n : Nat) (hn : n ≤ 256) (a : Int) (b : Bool) : ∀ (d k i : Nat) (out : List ByteArray), n - i = d → i ≤ n → d < k → out.length = i →
    spec_l09New.l0 k (n : Int) (i : Int) out a b = some (out ++ List.replicate d Z, [], a, b) := by
  intro d
  induction d with
  | zero =>
    intro k i out hd hi hk hl
    obtain ⟨k, rfl⟩ : ∃ m, k = m + 1 := ⟨k - 1, by omega⟩
    rw [spec_l09New.l0, if_neg (by omega)]
    simp
  | succ d ih =>
    intro k i out hd hi hk hl
    obtain ⟨k, rfl⟩ : ∃ m, k = m + 1 := ⟨k - 1, by omega⟩
    rw [spec_l09New.l0, if_pos (by omega), zero_eq]
    simp only [Option.bind_some]
    rw [if_pos (by omega), wrap64_id (by omega) (by omega), show (i : Int) + 1 = ((i + 1 : Nat) : Int) by omega, ih k (i + 1) (out ++ [Z]) (by omega) (by omega) (by omega) (by simp; omega)]
    simp [List.replicate_succ]
theorem both (a : Int) : ∃ l : List ByteArray, ∃ f e : Int, l.length ≤ 256 ∧ (∀ y ∈ l, (y.size : Int) ≤ 1048576) ∧ (∀ k, 300 ≤ k → spec_NewDisk.f k a = some (l, [], f, false, e)) ∧ impl_NewDisk.f a = some (l, [], f, false, e) := by
  by_cases h : 16 ≤ a ∧ a ≤ 256
  · obtain ⟨n, rfl⟩ : ∃ n : Nat, a = (n : Int) := ⟨a.toNat, by omega⟩
    refine ⟨List.replicate n Z, -1, 0, by simp; omega, fun y hy => by rw [List.eq_of_mem_replicate hy]; decide, fun k hk => ?_, ?_⟩
    · unfold spec_NewDisk.f spec_l00In.f
      rw [show (if (n : Int) ≥ 16 then some (decide ((n : Int) ≤ 256)) else some false) = some true by rw [if_pos (by omega), decide_eq_true (by omega)]]
      simp only [Option.bind_some, if_true]
      unfold spec_l09New.f
      rw [show (0 : Int) = ((0 : Nat) : Int) from rfl, new_loop n (by omega) (-1) false n k 0 [] (by omega) (by omega) (by omega) rfl]
      simp
    · unfold impl_NewDisk.f impl_within.f
      rw [if_pos (by omega), zeros_eq]
      simp only [Option.bind_some]
      rw [if_pos (by simp; omega)]
      unfold slices_Repeat_string_string.f
      rw [if_pos (by simp; omega)]
      simp [rdOf]
  · refine ⟨[], 0, 2, by simp, by simp, fun k hk => ?_, ?_⟩
    · unfold spec_NewDisk.f spec_l00In.f
      rw [show (if a ≥ 16 then some (decide (a ≤ 256)) else some false) = some false by split <;> simp <;> omega]
      simp
    · unfold impl_NewDisk.f impl_within.f
      rw [show (if a ≥ 16 then some (decide (a ≤ 256)) else some false) = some false by split <;> simp <;> omega]
      simp
theorem mt_loop : ∀ (d : Nat) (x : Int), 0 ≤ x → x ≤ d → ∀ (s : ByteArray), s.size + d ≤ 1048576 → ∃ t, ∀ k, d + 1 ≤ k → laws_markText.l0 k x s = some t := by
  intro d
  induction d with
  | zero =>
    intro x h0 h1 s hs
    refine ⟨⟨#[109]⟩ ++ s, fun k hk => ?_⟩
    obtain ⟨k, rfl⟩ : ∃ m, k = m + 1 := ⟨k - 1, by omega⟩
    rw [laws_markText.l0, if_neg (by omega), if_pos (by omega)]
  | succ d ih =>
    intro x h0 h1 s hs
    by_cases hx : x > 0
    · have e : Int.tdiv x 10 = x / 10 := Int.tdiv_eq_ediv_of_nonneg h0
      have hsz : (strOfNums [(wrap64 (48 + Int.tmod x 10)) % 256]).size = 1 := by rw [strOfNums_size]; rfl
      obtain ⟨t, ht⟩ := ih (x / 10) (by omega) (by omega) (strOfNums [(wrap64 (48 + Int.tmod x 10)) % 256] ++ s) (by rw [ByteArray.size_append, hsz]; omega)
      refine ⟨t, fun k hk => ?_⟩
      obtain ⟨k, rfl⟩ : ∃ m, k = m + 1 := ⟨k - 1, by omega⟩
      rw [laws_markText.l0, if_pos hx]
      simp only [Option.bind_some]
      rw [if_pos (by rw [hsz]; omega), e, wrap64_id (by omega) (by omega)]
      exact ht k (by omega)
    · refine ⟨⟨#[109]⟩ ++ s, fun k hk => ?_⟩
      obtain ⟨k, rfl⟩ : ∃ m, k = m + 1 := ⟨k - 1, by omega⟩
      rw [laws_markText.l0, if_neg hx, if_pos (by omega)]
def mt (x : Int) : ByteArray := (laws_markText.f 2000 x).getD ByteArray.empty
theorem mt_eq (x : Int) (h0 : 0 ≤ x) (h1 : x ≤ 1000) (k : Nat) (hk : 2000 ≤ k) : laws_markText.f k x = some (mt x) := by
  have h : ∃ t, ∀ k, 2000 ≤ k → laws_markText.f k x = some t := by
    by_cases hx : x ≤ 0
    · exact ⟨⟨#[109, 48]⟩, fun k _ => by unfold laws_markText.f; rw [if_pos hx]⟩
    · obtain ⟨t, ht⟩ := mt_loop 1000 x h0 (by omega) ⟨#[]⟩ (by simp [ByteArray.size])
      exact ⟨t, fun k hk => by unfold laws_markText.f; rw [if_neg hx]; exact ht k (by omega)⟩
  obtain ⟨t, ht⟩ := h
  rw [ht k hk]
  unfold mt
  rw [ht 2000 (Nat.le_refl _)]
  rfl
theorem mark_loop (n : Nat) (hn : n ≤ 1000) : ∀ (d i : Nat) (x : Int) (l : List ByteArray), l.length = n → n - i = d → i ≤ n → 0 ≤ x → x + d ≤ 1000 →
    ∃ r : List ByteArray, r.length = n ∧ (∀ k, 2000 + d < k → laws_markStringS.l0 k l x (i : Int) = some (x + d, r)) ∧ (∀ j, j < i → r.getD j ByteArray.empty = l.getD j ByteArray.empty) ∧ ∀ j, i ≤ j → j < n → r.getD j ByteArray.empty = mt (x + ((j - i : Nat) : Int)) := by
  intro d
  induction d with
  | zero =>
    intro i x l hl hd hi h0 h1
    refine ⟨l, hl, fun k hk => ?_, fun j _ => rfl, fun j h2 h3 => by omega⟩
    obtain ⟨k, rfl⟩ : ∃ m, k = m + 1 := ⟨k - 1, by omega⟩
    rw [laws_markStringS.l0, if_neg (by omega)]
    simp
  | succ d ih =>
    intro i x l hl hd hi h0 h1
    obtain ⟨r, hr, hk0, hlo, hhi⟩ := ih (i + 1) (x + 1) (l.set i (mt x)) (by simpa using hl) (by omega) (by omega) (by omega) (by omega)
    refine ⟨r, hr, fun k hk => ?_, fun j hj => ?_, fun j h2 h3 => ?_⟩
    · obtain ⟨k, rfl⟩ : ∃ m, k = m + 1 := ⟨k - 1, by omega⟩
      rw [laws_markStringS.l0, if_pos (by omega), mt_eq x h0 (by omega) k (by omega)]
      simp only [Option.bind_some]
      rw [if_pos (by omega), wrap64_id (by omega) (by omega), wrap64_id (by omega) (by omega), Int.toNat_natCast, show (i : Int) + 1 = ((i + 1 : Nat) : Int) by omega, hk0 k (by omega)]
      congr 2
      omega
    · rw [hlo j (by omega)]
      simp only [List.getD_eq_getElem?_getD]
      rw [List.getElem?_set_ne (by omega)]
    · by_cases hj : j = i
      · subst hj
        rw [hlo j (by omega)]
        simp only [List.getD_eq_getElem?_getD]
        rw [List.getElem?_set_self (by omega)]
        simp
      · rw [hhi j (by omega) h3, show x + 1 + ((j - (i + 1) : Nat) : Int) = x + ((j - i : Nat) : Int) by omega]
theorem held_loop (n : Nat) (hn : n ≤ 1000) (l : List ByteArray) (hl : l.length = n) : ∀ (d i : Nat) (x : Int), n - i = d → i ≤ n → 0 ≤ x → x + d ≤ 1000 → (∀ j, i ≤ j → j < n → l.getD j ByteArray.empty = mt (x + ((j - i : Nat) : Int))) →
    ∀ k, 2000 + d < k → laws_heldStringS.l0 k l x (i : Int) = some (x + d) := by
  intro d
  induction d with
  | zero =>
    intro i x hd hi h0 h1 hm k hk
    obtain ⟨k, rfl⟩ : ∃ m, k = m + 1 := ⟨k - 1, by omega⟩
    rw [laws_heldStringS.l0, if_neg (by omega)]
    simp
  | succ d ih =>
    intro i x hd hi h0 h1 hm k hk
    obtain ⟨k, rfl⟩ : ∃ m, k = m + 1 := ⟨k - 1, by omega⟩
    have e : rdOf ByteArray.empty l (i : Int) = mt x := by
      have h := hm i (Nat.le_refl _) (by omega)
      rw [Nat.sub_self] at h
      simpa [rdOf] using h
    rw [laws_heldStringS.l0, if_pos (by omega), if_pos (by omega), mt_eq x h0 (by omega) k (by omega)]
    simp only [Option.bind_some]
    rw [e, if_pos rfl, wrap64_id (by omega) (by omega), wrap64_id (by omega) (by omega), show (i : Int) + 1 = ((i + 1 : Nat) : Int) by omega, ih (i + 1) (x + 1) (by omega) (by omega) (by omega) (by omega) (fun j h2 h3 => by
      rw [hm j (by omega) h3, show x + 1 + ((j - (i + 1) : Nat) : Int) = x + ((j - i : Nat) : Int) by omega]) k (by omega)]
    congr 1
    omega
theorem eq_disk (l : List ByteArray) (hl : l.length ≤ 256) (hq : ∀ y ∈ l, (y.size : Int) ≤ 1048576) (f : Int) (k : Nat) (hk : 1048590 ≤ k) : laws_eqDisk.f k l [] f false l [] f false = some true := by
  apply g_eqDisk <;> first | assumption | omega | simp
theorem FnExactNewDisk : laws_FnExactNewDisk.Pure := by
  intro a ha
  obtain ⟨l, f, e, hl, hq, hs, hi⟩ := both a
  obtain ⟨r, hr, hm, -, hv⟩ := mark_loop l.length (by omega) l.length 0 1 l rfl (by omega) (by omega) (by omega) (by omega)
  have hheld := held_loop l.length (by omega) r hr l.length 0 1 (by omega) (by omega) (by omega) (by omega) (fun j h2 h3 => hv j h2 h3)
  refine ⟨1100002, ?_⟩
  have hmark : ∀ k, 5000 ≤ k → laws_markDisk.f k l [] f false 1 = some (1 + (l.length : Int), r, []) := fun k hk => by
    unfold laws_markDisk.f laws_markStringS.f
    rw [show (0 : Int) = ((0 : Nat) : Int) from rfl, hm k (by omega)]
    simp only [Option.bind_some]
    unfold laws_markPutS.f
    obtain ⟨k, rfl⟩ : ∃ m, k = m + 1 := ⟨k - 1, by omega⟩
    rw [laws_markPutS.l0, if_neg (by simp)]
    rfl
  have hhd : ∀ k, 5000 ≤ k → laws_heldDisk.f k r [] f false 1 = some (1 + (l.length : Int)) := fun k hk => by
    unfold laws_heldDisk.f laws_heldStringS.f
    rw [show (0 : Int) = ((0 : Nat) : Int) from rfl, hheld k (by omega)]
    simp only [Option.bind_some]
    rw [if_neg (by omega)]
    unfold laws_heldPutS.f
    obtain ⟨k, rfl⟩ : ∃ m, k = m + 1 := ⟨k - 1, by omega⟩
    rw [laws_heldPutS.l0, if_neg (by simp)]
    simp only [Option.bind_some]
    rw [if_neg (by omega)]
  unfold laws_FnExactNewDisk.f
  rw [hs 1100002 (by omega), hi]
  simp only [Option.bind_some]
  rw [eq_disk l hl hq f 1100002 (by omega)]
  simp only [Option.bind_some, if_true, bne_self_eq_false]
  rw [laws_FnExactNewDisk.j0, if_neg (by decide), hmark 1100001 (by omega)]
  simp only [Option.bind_some]
  rw [hhd 1100001 (by omega)]
  simp only [Option.bind_some]
  rw [if_neg (by omega), if_pos trivial, hi]
  simp only [Option.bind_some]
  rw [eq_disk l hl hq f 1100001 (by omega)]
  simp only [Option.bind_some, if_true, bne_self_eq_false]
  rw [laws_FnExactNewDisk.j1, if_neg (by decide), hhd 1100000 (by omega)]
  simp only [Option.bind_some]
  rw [if_neg (by omega), if_pos trivial]

end Go.Proofs.Ytehldidejgpifaa.Pure
