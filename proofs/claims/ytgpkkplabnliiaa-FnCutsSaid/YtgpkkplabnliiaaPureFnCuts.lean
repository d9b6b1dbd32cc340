/- The plain form of FnCuts: for all arguments the answer is true. It holds without a condition. -/
import Derived.Test.YtgpkkplabnliiaaPFnCutsx10
import Derived.OpenShut
namespace Go.Proofs.Ytgpkkplabnliiaa.Pure
open Go Go.RowKit Go.Proofs.Ytgpkkplabnliiaa.PFnCuts Go.Proofs.YtgpkkplabnliiaaW.PrintWords Go.Proofs.YtgpkkplabnliiaaW.PrintLast
set_option linter.unusedVariables false
set_option linter.unusedSimpArgs false

theorem wf64 {a : Int} (h : (Lit.int .i64 a).wf = true) : -9223372036854775808 ≤ a ∧ a ≤ 9223372036854775807 := Go.bounds_i64 h
theorem wrap64_id {a : Int} (h : -9223372036854775808 ≤ a) (h' : a ≤ 9223372036854775807) : wrap64 a = a := by unfold wrap64; omega
theorem count_loop {σ ρ : Type} (L : Nat → σ → Int → Option ρ) (n m : Nat) (I : Nat → σ → Prop) (R : ρ → Prop)
    (hstop : ∀ k s, m ≤ k → I n s → ∃ r, L (k + 1) s (n : Int) = some r ∧ R r)
    (hstep : ∀ k s (i : Nat), m ≤ k → i < n → I i s → (∃ s', I (i + 1) s' ∧ L (k + 1) s (i : Int) = L k s' ((i + 1 : Nat) : Int)) ∨ ∃ r, L (k + 1) s (i : Int) = some r ∧ R r)
    (k : Nat) (s : σ) (i : Nat) (hi : i ≤ n) (hk : n - i + m < k) (h : I i s) : ∃ r, L k s (i : Int) = some r ∧ R r := by
  obtain ⟨d, hd⟩ : ∃ d, d = n - i := ⟨_, rfl⟩
  induction d generalizing k s i with
  | zero =>
    obtain ⟨k, rfl⟩ : ∃ z, k = z + 1 := ⟨k - 1, by omega⟩
    obtain rfl : i = n := by omega
    exact hstop k s (by omega) h
  | succ d ih =>
    obtain ⟨k, rfl⟩ : ∃ z, k = z + 1 := ⟨k - 1, by omega⟩
    rcases hstep k s i (by omega) (by omega) h with ⟨s', h', e⟩ | h'
    · rw [e]; exact ih k s' (i + 1) (by omega) (by omega) h' (by omega)
    · exact h'
theorem w0 : wrap64 0 = 0 := by unfold wrap64; omega
theorem w1 : wrap64 1 = 1 := by unfold wrap64; omega
theorem w2 : wrap64 2 = 2 := by unfold wrap64; omega
theorem w3 : wrap64 3 = 3 := by unfold wrap64; omega
theorem rd_lt (l : List Int) (i : Nat) (h : i < l.length) : rd l (i : Int) = l[i] := by
  simp [rd, List.getD_eq_getElem?_getD, List.getElem?_eq_getElem h]
theorem rds_lt (l : List ByteArray) (i : Nat) (h : i < l.length) : rdOf ByteArray.empty l (i : Int) = l[i] := by
  simp [rdOf, List.getD_eq_getElem?_getD, List.getElem?_eq_getElem h]
theorem wrap_up (i : Nat) (h : i < 1099511627776) : wrap64 ((i : Int) + 1) = ((i + 1 : Nat) : Int) := by unfold wrap64; omega
theorem set_next {α : Type} (l out : List α) (i : Nat) (h : i < l.length) (hl : out.length = l.length) (hp : out.take i = l.take i) : (out.set i l[i]).take (i + 1) = l.take (i + 1) := by
  apply List.ext_getElem?
  intro j
  by_cases hj : j < i + 1
  · rw [List.getElem?_take_of_lt hj, List.getElem?_take_of_lt hj]
    by_cases hji : j = i
    · subst hji; rw [List.getElem?_set_self (by omega), List.getElem?_eq_getElem h]
    · rw [List.getElem?_set_ne (by omega)]
      have := congrArg (fun z => z[j]?) hp
      simpa [List.getElem?_take_of_lt (show j < i by omega)] using this
  · rw [List.getElem?_eq_none (by simp; omega), List.getElem?_eq_none (by simp; omega)]
theorem take_all {α : Type} (l out : List α) (hl : out.length = l.length) (hp : out.take l.length = l.take l.length) : out = l := by
  rwa [List.take_of_length_le (by omega), List.take_length] at hp
theorem u64_lo (x : Int) : 0 ≤ IntKind.u64.wrap x ∧ IntKind.u64.wrap x < 18446744073709551616 := by
  have h : IntKind.u64.wrap x = x % 18446744073709551616 := by simp [IntKind.wrap, IntKind.bits, IntKind.signed]
  omega
theorem and255 (x : Int) : 0 ≤ wrap64 (Go.bits .and .u64 (IntKind.u64.wrap x / 1099511627776) 255) ∧ wrap64 (Go.bits .and .u64 (IntKind.u64.wrap x / 1099511627776) 255) ≤ 255 := by
  obtain ⟨h0, h1⟩ := u64_lo x
  have h := bits_mask .u64 24 (by decide) (fun n h0 h1 => by
    have h : IntKind.u64.wrap n = n % 18446744073709551616 := by simp [IntKind.wrap, IntKind.bits, IntKind.signed]
    omega) 8 (by decide) (IntKind.u64.wrap x / 1099511627776) (by omega) (by omega)
  rw [show ((2 : Int) ^ 8 - 1) = 255 by decide, show ((2 : Int) ^ 8) = 256 by decide] at h
  rw [h]; unfold wrap64; omega
def Code (c : List Int) : Prop := ∀ x ∈ c, 0 ≤ x ∧ x ≤ 255
theorem code_wf {c : List Int} (h : ∀ x_ ∈ c, (Lit.int .u8 x_).wf = true) : Code c := fun x hx => by
  have := h x hx
  simp [Lit.wf, IntKind.min, IntKind.max, IntKind.bits, IntKind.signed] at this
  omega
theorem code_rd {c : List Int} (h : Code c) (i : Int) (h0 : 0 ≤ i) (h1 : i < c.length) : 0 ≤ rd c i ∧ rd c i ≤ 255 := by
  have := rd_lt c i.toNat (by omega)
  rw [show ((i.toNat : Nat) : Int) = i by omega] at this
  rw [this]
  exact h _ (List.getElem_mem _)
theorem next_ok {c : List Int} (hc : Code c) (p s : Int) (h0 : 0 ≤ p) (h1 : p ≤ 1000000000000) : ∃ r t, (0 ≤ r ∧ r ≤ 255) ∧ spec_l00Src_next.f c p s = some (r, p + 1, t) := by
  have hw : wrap64 (p + 1) = p + 1 := by unfold wrap64; omega
  unfold spec_l00Src_next.f
  rw [hw]
  by_cases hp : p < (c.length : Int)
  · obtain ⟨r0, r1⟩ := code_rd hc p h0 hp
    have hr : wrap64 (rd c p) = rd c p := by unfold wrap64; omega
    rw [if_pos hp, if_pos h0, if_pos (by omega), hr]
    exact ⟨_, _, ⟨r0, r1⟩, rfl⟩
  · rw [if_neg hp, if_neg (by omega)]
    exact ⟨_, _, and255 _, rfl⟩
theorem pick_ok {c : List Int} (hc : Code c) (p s n : Int) (h0 : 0 ≤ p) (h1 : p ≤ 100000000000) : ∃ r q t, (0 ≤ r ∧ (r < n ∨ r = 0)) ∧ (p ≤ q ∧ q ≤ p + 2) ∧ spec_l00Src_pick.f c p s n = some (r, q, t) := by
  unfold spec_l00Src_pick.f
  by_cases hn : n ≤ 1
  · rw [if_pos hn]
    exact ⟨0, p, s, ⟨by omega, .inr rfl⟩, ⟨by omega, by omega⟩, rfl⟩
  · obtain ⟨r, t, hr, e⟩ := next_ok hc p s h0 (by omega)
    rw [if_neg hn, e]
    simp only [Option.bind_some]
    by_cases h2 : n > 200
    · obtain ⟨r2, t2, hr2, e2⟩ := next_ok hc (p + 1) t (by omega) (by omega)
      rw [if_pos h2, e2]
      simp only [Option.bind_some]
      rw [if_neg (by omega)]
      have hw : wrap64 (wrap64 (r * 256) + r2) = r * 256 + r2 := by unfold wrap64; omega
      rw [hw]
      refine ⟨_, _, _, ⟨Int.tmod_nonneg _ (by omega), .inl (Int.tmod_lt_of_pos _ (by omega))⟩, ⟨?_, ?_⟩, rfl⟩ <;> omega
    · rw [if_neg h2, if_neg (by omega)]
      refine ⟨_, _, _, ⟨Int.tmod_nonneg _ (by omega), .inl (Int.tmod_lt_of_pos _ (by omega))⟩, ⟨?_, ?_⟩, rfl⟩ <;> omega
theorem one_ok {c : List Int} (hc : Code c) (p s n : Int) (h0 : 0 ≤ p) (h1 : p ≤ 100000000000) : ∃ b q t, (p ≤ q ∧ q ≤ p + 2) ∧ spec_l00Src_one.f c p s n = some (b, q, t) := by
  obtain ⟨r, q, t, -, hq, e⟩ := pick_ok hc p s n h0 h1
  exact ⟨_, q, t, hq, by unfold spec_l00Src_one.f; rw [e]; rfl⟩
theorem among_ok {c : List Int} (hc : Code c) (p s : Int) (l : List Int) (hl : 0 < l.length) (h0 : 0 ≤ p) (h1 : p ≤ 100000000000) : ∃ (i : Nat) (q t : Int), i < l.length ∧ (p ≤ q ∧ q ≤ p + 2) ∧ spec_l00Src_among.f c p s l = some (rd l (i : Int), q, t) := by
  obtain ⟨r, q, t, hr, hq, e⟩ := pick_ok hc p s l.length h0 h1
  refine ⟨r.toNat, q, t, by omega, hq, ?_⟩
  unfold spec_l00Src_among.f
  rw [e]
  simp only [Option.bind_some]
  rw [if_pos hr.1, if_pos (by omega), show ((r.toNat : Nat) : Int) = r by omega]
theorem word_loop {c : List Int} (hc : Code c) : ∀ (d : Nat) (x : List Int) (p s : Int), x.length + d ≤ 1000000 → 0 ≤ p → p + d ≤ 100000000000 → ∃ b q t, (p ≤ q ∧ q ≤ p + d) ∧ b.size ≤ x.length + d ∧ ∀ k, d < k → spec_l00Src_word.l0 k x (d : Int) c p s = some (b, q, t) := by
  intro d
  induction d with
  | zero =>
    intro x p s hx h0 h1
    refine ⟨strOfNums x, p, s, ⟨by omega, by omega⟩, by rw [strOfNums_size]; omega, fun k hk => ?_⟩
    obtain ⟨k, rfl⟩ : ∃ m, k = m + 1 := ⟨k - 1, by omega⟩
    rw [spec_l00Src_word.l0, if_neg (by omega)]
  | succ d ih =>
    intro x p s hx h0 h1
    obtain ⟨r, t, hr, e⟩ := next_ok hc p s h0 (by omega)
    obtain ⟨b, q, t2, hq, hb, h⟩ := ih (x ++ [r % 256]) (p + 1) t (by simp; omega) (by omega) (by omega)
    refine ⟨b, q, t2, ⟨by omega, by omega⟩, by simp at hb; omega, fun k hk => ?_⟩
    obtain ⟨k, rfl⟩ : ∃ m, k = m + 1 := ⟨k - 1, by omega⟩
    rw [spec_l00Src_word.l0, if_pos (by omega), e]
    simp only [Option.bind_some]
    rw [if_pos (by omega), show wrap64 (((d + 1 : Nat) : Int) - 1) = (d : Int) by unfold wrap64; omega]
    exact h k (by omega)
theorem word_ok {c : List Int} (hc : Code c) (p s n : Int) (hn : n ≤ 200) (h0 : 0 ≤ p) (h1 : p ≤ 10000000000) : ∃ b q t, (p ≤ q ∧ q ≤ p + 300) ∧ b.size ≤ 300 ∧ ∀ k, 300 ≤ k → spec_l00Src_word.f k c p s n = some (b, q, t) := by
  obtain ⟨r, q, t, hr, hq, e⟩ := pick_ok hc p s n h0 (by omega)
  obtain ⟨b, q2, t2, hq2, hb, h⟩ := word_loop hc r.toNat [] q t (by simp; omega) (by omega) (by omega)
  refine ⟨b, q2, t2, ⟨by omega, by omega⟩, by simp at hb; omega, fun k hk => ?_⟩
  unfold spec_l00Src_word.f
  rw [e]
  simp only [Option.bind_some]
  have := h k (by omega)
  rwa [show ((r.toNat : Nat) : Int) = r by omega] at this
theorem zero_ok : ∃ z, z.size = 64 ∧ spec_l09Zero.f = some z := by
  unfold spec_l09Zero.f
  rw [if_pos (by decide)]
  exact ⟨_, by rw [strOfNums_size]; simp, rfl⟩
theorem new_loop (n : Int) (hn : n ≤ 256) (x : Int) (y : Bool) : ∀ (d i : Nat) (a : List ByteArray), n.toNat - i = d → i ≤ n.toNat → a.length = i → (∀ y ∈ a, (y.size : Int) ≤ 1048576) → ∃ a', a'.length = n.toNat ∧ (∀ y ∈ a', (y.size : Int) ≤ 1048576) ∧ ∀ k, d < k → spec_l09New.l0 k n (i : Int) a x y = some (a', [], x, y) := by
  intro d
  induction d with
  | zero =>
    intro i a hd hi hl ha
    refine ⟨a, by omega, ha, fun k hk => ?_⟩
    obtain ⟨k, rfl⟩ : ∃ m, k = m + 1 := ⟨k - 1, by omega⟩
    rw [spec_l09New.l0, if_neg (by omega)]
  | succ d ih =>
    intro i a hd hi hl ha
    obtain ⟨z, hz, ez⟩ := zero_ok
    obtain ⟨a', h1, h2, h3⟩ := ih (i + 1) (a ++ [z]) (by omega) (by omega) (by simp; omega) (fun y hy => by
      rcases List.mem_append.1 hy with hy | hy
      · exact ha y hy
      · rw [List.mem_singleton.1 hy]; omega)
    refine ⟨a', h1, h2, fun k hk => ?_⟩
    obtain ⟨k, rfl⟩ : ∃ m, k = m + 1 := ⟨k - 1, by omega⟩
    rw [spec_l09New.l0, if_pos (by omega), ez]
    simp only [Option.bind_some]
    rw [if_pos (by omega), wrap_up i (by omega)]
    exact h3 k (by omega)
theorem new_ok (n : Int) (h0 : 0 ≤ n) (hn : n ≤ 256) : ∃ a, (a.length : Int) = n ∧ (∀ y ∈ a, (y.size : Int) ≤ 1048576) ∧ ∀ k, 300 ≤ k → spec_l09New.f k n = some (a, [], -1, false) := by
  obtain ⟨a, h1, h2, h3⟩ := new_loop n hn (-1) false n.toNat 0 [] (by omega) (by omega) rfl (by simp)
  exact ⟨a, by omega, h2, fun k hk => by unfold spec_l09New.f; exact h3 k (by omega)⟩
theorem blk_loop1 (n : Nat) (h1 : 1 ≤ n) (hn : n ≤ 9) (c : List Int) (p s : Int) : ∀ (d : Nat) (x : List Int), 64 - x.length = d → n ≤ x.length → x.length ≤ 64 → ∃ b : ByteArray, b.size = 64 ∧ ∀ k, d < k → spec_l09DrawBlock.l1 k n x c p s = some (b, p, s) := by
  intro d
  induction d with
  | zero =>
    intro x hd hx hx2
    refine ⟨strOfNums x, by rw [strOfNums_size]; omega, fun k hk => ?_⟩
    obtain ⟨k, rfl⟩ : ∃ m, k = m + 1 := ⟨k - 1, by omega⟩
    rw [spec_l09DrawBlock.l1, if_neg (by omega)]
  | succ d ih =>
    intro x hd hx hx2
    obtain ⟨b, hb, h⟩ := ih (x ++ [rd x ((x.length : Int) % n)]) (by simp; omega) (by simp; omega) (by simp; omega)
    refine ⟨b, hb, fun k hk => ?_⟩
    obtain ⟨k, rfl⟩ : ∃ m, k = m + 1 := ⟨k - 1, by omega⟩
    have hm : (x.length : Int) % n < n := Int.emod_lt_of_pos _ (by omega)
    rw [spec_l09DrawBlock.l1, if_pos (by omega), if_neg (by omega), if_pos (Int.emod_nonneg _ (by omega)), if_pos (by omega), if_pos (by omega)]
    exact h k (by omega)
theorem blk_loop0 {c : List Int} (hc : Code c) (n : Nat) (h1 : 1 ≤ n) (hn : n ≤ 9) : ∀ (d i : Nat) (x : List Int) (p s : Int), i + d = n → x.length = i → 0 ≤ p → p + d ≤ 10000000000 → ∃ (b : ByteArray) (q t : Int), (p ≤ q ∧ q ≤ p + d + 2) ∧ b.size = 64 ∧ ∀ k, d + 70 < k → spec_l09DrawBlock.l0 k n x (i : Int) c p s = some (b, q, t) := by
  intro d
  induction d with
  | zero =>
    intro i x p s hi hx h0 hp
    obtain ⟨o, q, t, hq, e⟩ := one_ok hc p s 3 h0 (by omega)
    cases o with
    | true =>
      have hsz := strOfNums_size x
      refine ⟨strOfNums x ++ strOfNums (List.replicate (64 - x.length) 0), q, t, ⟨by omega, by omega⟩, by rw [ByteArray.size_append, hsz, strOfNums_size]; simp; omega, fun k hk => ?_⟩
      obtain ⟨k, rfl⟩ : ∃ m, k = m + 1 := ⟨k - 1, by omega⟩
      have hw : wrap64 (64 - ((strOfNums x).size : Int)) = ((64 - x.length : Nat) : Int) := by rw [hsz]; unfold wrap64; omega
      rw [spec_l09DrawBlock.l0, if_neg (by omega), e]
      simp only [Option.bind_some, if_true]
      unfold spec_l01Pad.f
      rw [if_neg (by rw [hsz]; omega), hw, if_pos (by omega), if_pos (by omega)]
      simp only [Option.bind_some, Int.toNat_natCast]
      rw [if_pos (by rw [hsz, strOfNums_size]; simp; omega)]
      rfl
    | false =>
      obtain ⟨b, hb, h⟩ := blk_loop1 n h1 hn c q t (64 - x.length) x rfl (by omega) (by omega)
      refine ⟨b, q, t, ⟨by omega, by omega⟩, hb, fun k hk => ?_⟩
      obtain ⟨k, rfl⟩ : ∃ m, k = m + 1 := ⟨k - 1, by omega⟩
      rw [spec_l09DrawBlock.l0, if_neg (by omega), e]
      simp only [Option.bind_some, Bool.false_eq_true, if_false]
      exact h k (by omega)
  | succ d ih =>
    intro i x p s hi hx h0 hp
    obtain ⟨r, t, hr, e⟩ := next_ok hc p s h0 (by omega)
    obtain ⟨b, q, t2, hq, hb, h⟩ := ih (i + 1) (x ++ [r % 256]) (p + 1) t (by omega) (by simp; omega) (by omega) (by omega)
    refine ⟨b, q, t2, ⟨by omega, by omega⟩, hb, fun k hk => ?_⟩
    obtain ⟨k, rfl⟩ : ∃ m, k = m + 1 := ⟨k - 1, by omega⟩
    rw [spec_l09DrawBlock.l0, if_pos (by omega), e]
    simp only [Option.bind_some]
    rw [if_pos (by omega), wrap_up i (by omega)]
    exact h k (by omega)
theorem blk_ok {c : List Int} (hc : Code c) (p s : Int) (h0 : 0 ≤ p) (h1 : p ≤ 1000000000) : ∃ (b : ByteArray) (q t : Int), (p ≤ q ∧ q ≤ p + 20) ∧ b.size = 64 ∧ ∀ k, 100 ≤ k → spec_l09DrawBlock.f k c p s = some (b, q, t) := by
  obtain ⟨r, q, t, hr, hq, e⟩ := pick_ok hc p s 9 h0 (by omega)
  obtain ⟨b, q2, t2, hq2, hb, h⟩ := blk_loop0 hc (1 + r.toNat) (by omega) (by omega) (1 + r.toNat) 0 [] q t (by omega) rfl (by omega) (by omega)
  refine ⟨b, q2, t2, ⟨by omega, by omega⟩, hb, fun k hk => ?_⟩
  unfold spec_l09DrawBlock.f
  rw [e]
  simp only [Option.bind_some]
  rw [show wrap64 (1 + r) = ((1 + r.toNat : Nat) : Int) by unfold wrap64; omega]
  exact h k (by omega)
def QS57 (x : S57) : Prop := (x.f1.size : Int) ≤ 1048576
theorem all_loop (L : Nat → Int → Option Bool) (P : Nat → Prop) [DecidablePred P] (n m : Nat) (r : Bool)
    (hend : ∀ k, m ≤ k → L (k + 1) (n : Int) = some r) (hstep : ∀ k (i : Nat), m ≤ k → i < n → L (k + 1) (i : Int) = if P i then L k ((i + 1 : Nat) : Int) else some false) (k : Nat) (hk : n + m < k) :
    L k 0 = some (decide (∀ i, i < n → P i) && r) := by
  obtain ⟨s, h, rfl⟩ := count_loop (fun k (_ : Unit) i => L k i) n m (fun i _ => ∀ j, j < i → P j) (fun s => s = (decide (∀ i, i < n → P i) && r))
    (by
      rintro k s hm h
      exact ⟨r, hend k hm, by simp [decide_eq_true h]⟩)
    (by
      rintro k s i hm hi h
      by_cases hp : P i
      · refine .inl ⟨(), ?_, by show L (k + 1) _ = _; rw [hstep k i hm hi, if_pos hp]⟩
        intro j hj
        by_cases hji : j = i
        · subst hji; exact hp
        · exact h j (by omega)
      · refine .inr ⟨false, by show L (k + 1) _ = _; rw [hstep k i hm hi, if_neg hp], ?_⟩
        have : ¬ ∀ i, i < n → P i := fun h => hp (h i hi)
        simp [this])
    k () 0 (by omega) (by omega) (by simp)
  exact h
def look (P : Nat → Prop) [DecidablePred P] : Nat → Nat → Int
  | 0, _ => -1
  | d + 1, i => if P i then (i : Int) else look P d (i + 1)
theorem look_or (P : Nat → Prop) [DecidablePred P] (d : Nat) : ∀ i, (look P d i = -1 ∧ ∀ j, i ≤ j → j < i + d → ¬ P j) ∨ ∃ j, i ≤ j ∧ j < i + d ∧ look P d i = (j : Int) ∧ P j := by
  induction d with
  | zero => intro i; exact .inl ⟨rfl, fun j h1 h2 => by omega⟩
  | succ d ih =>
    intro i
    by_cases hp : P i
    · exact .inr ⟨i, by omega, by omega, by rw [look, if_pos hp], hp⟩
    · rw [look, if_neg hp]
      rcases ih (i + 1) with ⟨h1, h2⟩ | ⟨j, h1, h2, h3, h4⟩
      · refine .inl ⟨h1, fun j h3 h4 => ?_⟩
        by_cases hji : j = i
        · subst hji; exact hp
        · exact h2 j (by omega) (by omega)
      · exact .inr ⟨j, by omega, by omega, h3, h4⟩
theorem find_loop (L : Nat → Int → Option Int) (P : Nat → Prop) [DecidablePred P] (n m : Nat)
    (hend : ∀ k, m ≤ k → L (k + 1) (n : Int) = some (-1)) (hstep : ∀ k (i : Nat), m ≤ k → i < n → L (k + 1) (i : Int) = if P i then some (i : Int) else L k ((i + 1 : Nat) : Int)) (k : Nat) (hk : n + m < k) :
    L k 0 = some (look P n 0) := by
  have key : ∀ d k i, i + d = n → d + m < k → L k (i : Int) = some (look P d i) := by
    intro d
    induction d with
    | zero =>
      intro k i hi hk
      obtain ⟨k, rfl⟩ : ∃ z, k = z + 1 := ⟨k - 1, by omega⟩
      obtain rfl : i = n := by omega
      exact hend k (by omega)
    | succ d ih =>
      intro k i hi hk
      obtain ⟨k, rfl⟩ : ∃ z, k = z + 1 := ⟨k - 1, by omega⟩
      rw [hstep k i (by omega) (by omega), look]
      by_cases hp : P i
      · rw [if_pos hp, if_pos hp]
      · rw [if_neg hp, if_neg hp]; exact ih k (i + 1) (by omega) (by omega)
  exact key n k 0 (by omega) (by omega)
theorem getD_lt {α : Type} (l : List α) (z : α) (i : Nat) (h : i < l.length) : l.getD (i : Int).toNat z = l[i] := by
  simp [List.getD_eq_getElem?_getD, List.getElem?_eq_getElem h]
theorem flip_ite {α : Type} (c : Prop) [Decidable c] (a b : α) : (if c then b else a) = if ¬ c then a else b := by
  by_cases h : c
  · rw [if_pos h, if_neg (fun h2 => h2 h)]
  · rw [if_neg h, if_pos h]
theorem seq_loop (L : Nat → Int → Option Bool) (P : Nat → Prop) [DecidablePred P] (n : Nat)
    (hend : ∀ k, L (k + 1) (n : Int) = some true) (hstep : ∀ k (i : Nat), i < n → L (k + 1) (i : Int) = if P i then L k ((i + 1 : Nat) : Int) else some false) (k : Nat) (hk : n < k) :
    L k 0 = some (decide (∀ i, i < n → P i)) := by
  rw [all_loop L P n 0 true (fun k _ => hend k) (fun k i _ hi => hstep k i hi) k (by omega), Bool.and_true]
theorem in_eq (a b c : Int) : spec_l00In.f a b c = some (decide (b ≤ a ∧ a ≤ c)) := by
  unfold spec_l00In.f
  by_cases h : a ≥ b
  · rw [if_pos h]
    by_cases h2 : a ≤ c <;> simp [h2] <;> omega
  · rw [if_neg h]; simp; omega
theorem within_eq (a b c : Int) : impl_within.f a b c = some (decide (b ≤ a ∧ a ≤ c)) := by
  unfold impl_within.f
  by_cases h : a ≥ b
  · rw [if_pos h]
    by_cases h2 : a ≤ c <;> simp [h2] <;> omega
  · rw [if_neg h]; simp; omega
def okPut (n : Int) (x : S57) : Prop := (0 ≤ x.f0 ∧ x.f0 ≤ wrap64 (n - 1)) ∧ (x.f1.size : Int) = 64
instance (n : Int) (x : S57) : Decidable (okPut n x) := by unfold okPut; infer_instance
def blk (a : List ByteArray) (i : Nat) : Prop := ((rdOf ByteArray.empty a (i : Int)).size : Int) = 64
instance (a : List ByteArray) : DecidablePred (blk a) := fun i => by unfold blk; infer_instance
theorem sp1 (n : Int) (a : List ByteArray) (l : List S57) (x : Int) (y : Bool) (hl : l.length ≤ 1048576) (k : Nat) (hk : 1048590 ≤ k) : spec_l09Ok_c44.l1 k n 0 a l x y = some (decide (∀ i, i < l.length → okPut n (rd_T57 l (i : Int)))) :=
  seq_loop (fun k i => spec_l09Ok_c44.l1 k n i a l x y) (fun i => okPut n (rd_T57 l (i : Int))) l.length
    (by intro k; show spec_l09Ok_c44.l1 (k + 1) n _ a l x y = _; rw [spec_l09Ok_c44.l1, if_neg (by omega)])
    (by
      intro k i hi
      show spec_l09Ok_c44.l1 (k + 1) n _ a l x y = _
      rw [spec_l09Ok_c44.l1, if_pos (by omega), if_pos (by omega), wrap_up i (by omega), in_eq]
      simp only [Option.bind_some, decide_eq_true_eq]
      generalize rd_T57 l (i : Int) = z
      by_cases h1 : 0 ≤ z.f0 ∧ z.f0 ≤ wrap64 (n - 1)
      · rw [if_pos h1]
        by_cases h2 : (z.f1.size : Int) = 64
        · rw [if_pos h2, if_pos ⟨h1, h2⟩]
        · rw [if_neg h2, if_neg (fun h => h2 h.2)]
      · rw [if_neg h1, if_neg (fun h => h1 h.1)])
    k (by omega)
theorem sp0 (n : Int) (a : List ByteArray) (l : List S57) (x : Int) (y : Bool) (ha : a.length ≤ 1048576) (hl : l.length ≤ 1048576) (k : Nat) (hk : 3000000 ≤ k) : spec_l09Ok_c44.l0 k n 0 a l x y = some (decide (∀ i, i < a.length → blk a i) && decide (∀ i, i < l.length → okPut n (rd_T57 l (i : Int)))) :=
  all_loop (fun k i => spec_l09Ok_c44.l0 k n i a l x y) (blk a) a.length 1048590 _
    (by intro k hk; show spec_l09Ok_c44.l0 (k + 1) n _ a l x y = _; rw [spec_l09Ok_c44.l0, if_neg (by omega)]; exact sp1 n a l x y hl k hk)
    (by
      intro k i _ hi
      show spec_l09Ok_c44.l0 (k + 1) n _ a l x y = _
      rw [spec_l09Ok_c44.l0, if_pos (by omega), if_pos (by omega), wrap_up i (by omega)]
      rfl)
    k (by omega)
theorem im1 (a : List ByteArray) (ha : a.length ≤ 1048576) (k : Nat) (hk : 1048590 ≤ k) : slices_ContainsFunc_impl_ValidDisk_1.f k a = some (!decide (∀ i, i < a.length → blk a i)) := by
  unfold slices_ContainsFunc_impl_ValidDisk_1.f slices_IndexFunc_impl_ValidDisk_1.f
  rw [find_loop (fun k i => slices_IndexFunc_impl_ValidDisk_1.l0 k a a.length i) (fun i => ¬ blk a i) a.length 0
    (by intro k _; show slices_IndexFunc_impl_ValidDisk_1.l0 (k + 1) a _ _ = _; rw [slices_IndexFunc_impl_ValidDisk_1.l0, if_neg (by omega)])
    (by
      intro k i _ hi
      show slices_IndexFunc_impl_ValidDisk_1.l0 (k + 1) a _ _ = _
      rw [slices_IndexFunc_impl_ValidDisk_1.l0, if_pos (by omega), if_pos (by omega), if_pos (by omega), wrap_up i (by omega)]
      unfold impl_ValidDisk_1.f impl_isBlock.f
      simp only [Option.bind_some]
      by_cases h : ((rdOf ByteArray.empty a (i : Int)).size : Int) = 64
      · have h2 : blk a i := h
        simp [h, h2]
      · have h2 : ¬ blk a i := h
        simp [h, h2])
    k (by omega)]
  simp only [Option.bind_some]
  rcases look_or (fun i => ¬ blk a i) a.length 0 with ⟨h4, h5⟩ | ⟨j, -, h4, h5, h6⟩
  · rw [h4]
    have h7 : ∀ i, i < a.length → blk a i := fun i hi => Decidable.not_not.1 (h5 i (by omega) (by omega))
    rw [decide_eq_true h7]; rfl
  · rw [h5]
    have h7 : ¬ ∀ i, i < a.length → blk a i := fun h => h6 (h j (by omega))
    have h8 : (j : Int) ≥ 0 := by omega
    rw [decide_eq_false h7]; simp [h8]
theorem im2 (a : List ByteArray) (l : List S57) (x : Int) (y : Bool) (hl : l.length ≤ 1048576) (k : Nat) (hk : 1048590 ≤ k) : slices_ContainsFunc_impl_ValidDisk_2.f k l a l x y = some (!decide (∀ i, i < l.length → okPut (a.length : Int) (rd_T57 l (i : Int)))) := by
  unfold slices_ContainsFunc_impl_ValidDisk_2.f slices_IndexFunc_impl_ValidDisk_2.f
  rw [find_loop (fun k i => slices_IndexFunc_impl_ValidDisk_2.l0 k l l.length i a l x y) (fun i => ¬ okPut (a.length : Int) (rd_T57 l (i : Int))) l.length 0
    (by intro k _; show slices_IndexFunc_impl_ValidDisk_2.l0 (k + 1) l _ _ a l x y = _; rw [slices_IndexFunc_impl_ValidDisk_2.l0, if_neg (by omega)])
    (by
      intro k i _ hi
      show slices_IndexFunc_impl_ValidDisk_2.l0 (k + 1) l _ _ a l x y = _
      rw [slices_IndexFunc_impl_ValidDisk_2.l0, if_pos (by omega), if_pos (by omega), if_pos (by omega), wrap_up i (by omega)]
      unfold impl_ValidDisk_2.f impl_isBlock.f impl_isIndex.f
      simp only [within_eq, Option.bind_some, decide_eq_true_eq]
      generalize rd_T57 l (i : Int) = z
      by_cases h1 : 0 ≤ z.f0 ∧ z.f0 ≤ wrap64 ((a.length : Int) - 1)
      · rw [if_pos h1]
        simp only [Option.bind_some]
        by_cases h2 : (z.f1.size : Int) = 64
        · have h3 : okPut (a.length : Int) z := ⟨h1, h2⟩
          simp [h2, h3]
        · have h3 : ¬ okPut (a.length : Int) z := fun h => h2 h.2
          simp [h2, h3]
      · have h3 : ¬ okPut (a.length : Int) z := fun h => h1 h.1
        rw [if_neg h1]
        simp [h3])
    k (by omega)]
  simp only [Option.bind_some]
  rcases look_or (fun i => ¬ okPut (a.length : Int) (rd_T57 l (i : Int))) l.length 0 with ⟨h4, h5⟩ | ⟨j, -, h4, h5, h6⟩
  · rw [h4]
    have h7 : ∀ i, i < l.length → okPut (a.length : Int) (rd_T57 l (i : Int)) := fun i hi => Decidable.not_not.1 (h5 i (by omega) (by omega))
    rw [decide_eq_true h7]; rfl
  · rw [h5]
    have h7 : ¬ ∀ i, i < l.length → okPut (a.length : Int) (rd_T57 l (i : Int)) := fun h => h6 (h j (by omega))
    have h8 : (j : Int) ≥ 0 := by omega
    rw [decide_eq_false h7]; simp [h8]
theorem disk_ok (a : List ByteArray) (l : List S57) (x : Int) (y : Bool) (ha : (a.length : Int) ≤ 1048576) (ha2 : ∀ y ∈ a, (y.size : Int) ≤ 1048576) (hl : (l.length : Int) ≤ 1048576) (hl2 : ∀ y ∈ l, QS57 y) (hx : (Lit.int .i64 x).wf = true) :
    ∃ v, (∀ k, 8000000 ≤ k → spec_l09Ok_c44.f k a l x y = some v ∧ impl_ValidDisk.f k a l x y = some v) ∧ (v = true → (16 ≤ (a.length : Int) ∧ (a.length : Int) ≤ 256) ∧ (l.length : Int) ≤ 600 ∧ (∀ i, i < a.length → blk a i) ∧ ∀ i, i < l.length → okPut (a.length : Int) (rd_T57 l (i : Int))) := by
  by_cases h1 : 16 ≤ (a.length : Int) ∧ (a.length : Int) ≤ 256
  · by_cases h2 : (l.length : Int) > 600
    · refine ⟨false, fun k hk => ?_, fun h => by cases h⟩
      obtain ⟨k, rfl⟩ : ∃ z, k = z + 1 := ⟨k - 1, by omega⟩
      unfold impl_ValidDisk.f spec_l09Ok_c44.f
      rw [in_eq, within_eq, decide_eq_true h1]
      simp only [Option.bind_some, if_true, if_pos h2]
      rw [spec_l09Ok_c44.j0, impl_ValidDisk.j0]
      exact ⟨rfl, rfl⟩
    · by_cases h3 : -1 ≤ x ∧ x ≤ 100000
      · refine ⟨decide (∀ i, i < a.length → blk a i) && decide (∀ i, i < l.length → okPut (a.length : Int) (rd_T57 l (i : Int))), fun k hk => ?_, fun h => by rw [Bool.and_eq_true, decide_eq_true_eq, decide_eq_true_eq] at h; exact ⟨h1, by omega, h.1, h.2⟩⟩
        obtain ⟨k, rfl⟩ : ∃ z, k = z + 1 := ⟨k - 1, by omega⟩
        unfold impl_ValidDisk.f spec_l09Ok_c44.f
        rw [in_eq, within_eq, decide_eq_true h1]
        simp only [Option.bind_some, if_true, if_neg h2]
        rw [in_eq, within_eq, decide_eq_true h3]
        simp only [Option.bind_some]
        rw [spec_l09Ok_c44.j0, impl_ValidDisk.j0, sp0 _ a l x y (by omega) (by omega) k (by omega), im1 a (by omega) k (by omega), im2 a l x y (by omega) k (by omega)]
        generalize decide (∀ i, i < a.length → blk a i) = p
        generalize decide (∀ i, i < l.length → okPut (a.length : Int) (rd_T57 l (i : Int))) = q
        cases p <;> cases q <;> exact ⟨rfl, rfl⟩
      · refine ⟨false, fun k hk => ?_, fun h => by cases h⟩
        obtain ⟨k, rfl⟩ : ∃ z, k = z + 1 := ⟨k - 1, by omega⟩
        unfold impl_ValidDisk.f spec_l09Ok_c44.f
        rw [in_eq, within_eq, decide_eq_true h1]
        simp only [Option.bind_some, if_true, if_neg h2]
        rw [in_eq, within_eq, decide_eq_false h3]
        simp only [Option.bind_some]
        rw [spec_l09Ok_c44.j0, impl_ValidDisk.j0]
        exact ⟨rfl, rfl⟩
  · refine ⟨false, fun k hk => ?_, fun h => by cases h⟩
    obtain ⟨k, rfl⟩ : ∃ z, k = z + 1 := ⟨k - 1, by omega⟩
    unfold impl_ValidDisk.f spec_l09Ok_c44.f
    rw [in_eq, within_eq, decide_eq_false h1]
    simp only [Option.bind_some, Bool.false_eq_true, if_false]
    rw [spec_l09Ok_c44.j0, impl_ValidDisk.j0]
    exact ⟨rfl, rfl⟩

theorem ext_all (c : ByteArray) : c.extract 0 c.size = c := ByteArray.extract_zero_size
theorem ext_none (c : ByteArray) : c.extract 0 0 = ByteArray.empty := by
  apply ByteArray.ext
  simp [ByteArray.data_extract]
theorem ext_end (c : ByteArray) (h : c.size = 64) : c.extract 64 c.size = ByteArray.empty := by
  have h2 : (c.extract 64 c.size).size = 0 := by rw [ByteArray.size_extract, h]; omega
  exact ByteArray.size_eq_zero_iff.1 h2
def All64 (n : Nat) (bs : List ByteArray) : Prop := bs.length = n ∧ ∀ j, j < n → (rdOf ByteArray.empty bs (j : Int)).size = 64
theorem rd_set (bs : List ByteArray) (q j : Nat) (x : ByteArray) (hq : q < bs.length) : rdOf ByteArray.empty (bs.set q x) (j : Int) = if j = q then x else rdOf ByteArray.empty bs (j : Int) := by
  unfold rdOf
  simp only [Int.toNat_natCast, List.getD_eq_getElem?_getD]
  by_cases h : j = q
  · subst h
    rw [List.getElem?_set_self hq, if_pos rfl]
    rfl
  · rw [List.getElem?_set_ne (by omega), if_neg h]
theorem all_set {n : Nat} {bs : List ByteArray} (h : All64 n bs) (q : Nat) (hq : q < n) (x : ByteArray) (hx : x.size = 64) : All64 n (bs.set q x) := by
  refine ⟨by rw [List.length_set]; exact h.1, fun j hj => ?_⟩
  rw [rd_set bs q j x (by rw [h.1]; exact hq)]
  split
  · exact hx
  · exact h.2 j hj
theorem set_same (bs : List ByteArray) (q : Nat) (hq : q < bs.length) : bs.set q (rdOf ByteArray.empty bs (q : Int)) = bs := by
  unfold rdOf
  simp only [Int.toNat_natCast, List.getD_eq_getElem?_getD, List.getElem?_eq_getElem hq, Option.getD_some]
  exact List.set_getElem_self hq
def cutS (ks : List Bool) (torn b : Int) (l : List S57) (bs : List ByteArray) (i : Nat) : List ByteArray :=
  if (i : Int) = torn then bs.set (rd_T57 l (i : Int)).f0.toNat (((rd_T57 l (i : Int)).f1.extract 0 b.toNat) ++ ((rdOf ByteArray.empty bs (rd_T57 l (i : Int)).f0).extract b.toNat (rdOf ByteArray.empty bs (rd_T57 l (i : Int)).f0).size))
  else if rdOf false ks (i : Int) = true then bs.set (rd_T57 l (i : Int)).f0.toNat (rd_T57 l (i : Int)).f1 else bs
def cutR (ks : List Bool) (torn b : Int) (l : List S57) : Nat → Nat → List ByteArray → List ByteArray
  | 0, _, bs => bs
  | d + 1, i, bs => cutR ks torn b l d (i + 1) (cutS ks torn b l bs i)
theorem cat_size (p c : ByteArray) (b : Int) (hb : 0 ≤ b ∧ b ≤ 64) (hp : p.size = 64) (hc : c.size = 64) : ((p.extract 0 b.toNat) ++ (c.extract b.toNat c.size)).size = 64 := by
  rw [ByteArray.size_append, ByteArray.size_extract, ByteArray.size_extract]
  omega
theorem cutS_all {n : Nat} {ks : List Bool} {torn b : Int} {l : List S57} {bs : List ByteArray} {i : Nat} (h : All64 n bs) (hb : 0 ≤ b ∧ b ≤ 64) (hp : (0 ≤ (rd_T57 l (i : Int)).f0 ∧ (rd_T57 l (i : Int)).f0 < n) ∧ (rd_T57 l (i : Int)).f1.size = 64) : All64 n (cutS ks torn b l bs i) := by
  unfold cutS
  have hq : (rd_T57 l (i : Int)).f0.toNat < n := by omega
  have hc : (rdOf ByteArray.empty bs (rd_T57 l (i : Int)).f0).size = 64 := by
    have := h.2 _ hq
    rwa [show (((rd_T57 l (i : Int)).f0.toNat : Nat) : Int) = (rd_T57 l (i : Int)).f0 by omega] at this
  split
  · exact all_set h _ hq _ (cat_size _ _ b hb hp.2 hc)
  · split
    · exact all_set h _ hq _ hp.2
    · exact h
theorem cutR_all {n : Nat} {ks : List Bool} {torn b : Int} {l : List S57} (hb : 0 ≤ b ∧ b ≤ 64) (hp : ∀ i, i < l.length → (0 ≤ (rd_T57 l (i : Int)).f0 ∧ (rd_T57 l (i : Int)).f0 < n) ∧ (rd_T57 l (i : Int)).f1.size = 64) : ∀ (d i : Nat) (bs : List ByteArray), i + d = l.length → All64 n bs → All64 n (cutR ks torn b l d i bs) := by
  intro d
  induction d with
  | zero => intro i bs _ h; exact h
  | succ d ih => intro i bs hi h; exact ih (i + 1) _ (by omega) (cutS_all h hb (hp i (by omega)))
theorem scut_loop (n : Nat) (hn : n ≤ 256) (ks : List Bool) (torn b : Int) (a : List ByteArray) (l : List S57) (x : Int) (y : Bool) (hb : 0 ≤ b ∧ b ≤ 64) (hk0 : ks.length = l.length) (hl : l.length ≤ 600)
    (hp : ∀ i, i < l.length → (0 ≤ (rd_T57 l (i : Int)).f0 ∧ (rd_T57 l (i : Int)).f0 < n) ∧ (rd_T57 l (i : Int)).f1.size = 64) (l' : List S57) (x' : Int) (y' : Bool) : ∀ (d i k : Nat) (bs : List ByteArray), i + d = l.length → d < k → All64 n bs →
    spec_l09Cut_c44.l0 k ks torn b (i : Int) a l x y bs l' x' y' = some (cutR ks torn b l d i bs, ([] : List S57), (-1), false) := by
  intro d
  induction d with
  | zero =>
    intro i k bs hi hk h
    obtain ⟨k, rfl⟩ : ∃ m, k = m + 1 := ⟨k - 1, by omega⟩
    rw [spec_l09Cut_c44.l0, if_neg (by omega)]
    rfl
  | succ d ih =>
    intro i k bs hi hk h
    obtain ⟨k, rfl⟩ : ∃ m, k = m + 1 := ⟨k - 1, by omega⟩
    obtain ⟨⟨p0, p1⟩, p2⟩ := hp i (by omega)
    have hq : (rd_T57 l (i : Int)).f0.toNat < n := by omega
    have hc : (rdOf ByteArray.empty bs (rd_T57 l (i : Int)).f0).size = 64 := by
      have := h.2 _ hq
      rwa [show (((rd_T57 l (i : Int)).f0.toNat : Nat) : Int) = (rd_T57 l (i : Int)).f0 by omega] at this
    have hbl := h.1
    have hcat := cat_size _ _ b hb p2 hc
    rw [ByteArray.size_append] at hcat
    have hih := ih (i + 1) k (cutS ks torn b l bs i) (by omega) (by omega) (cutS_all h hb (hp i (by omega)))
    unfold cutS at hih
    show _ = some (cutR ks torn b l d (i + 1) (cutS ks torn b l bs i), ([] : List S57), (-1), false)
    unfold cutS
    rw [spec_l09Cut_c44.l0, if_pos (by omega), if_pos (by omega)]
    by_cases ht : (i : Int) = torn
    · rw [if_pos ht] at hih
      rw [if_pos ht, if_pos ht, if_pos hb.1, if_pos (by omega), if_pos p0, if_pos (by omega), if_pos (by omega), if_pos (by omega), wrap_up i (by omega)]
      exact hih
    · rw [if_neg ht] at hih
      rw [if_neg ht, if_neg ht, if_pos (by omega)]
      by_cases hkp : rdOf false ks (i : Int) = true
      · rw [if_pos hkp] at hih
        rw [if_pos hkp, if_pos hkp, if_pos p0, if_pos (by omega), wrap_up i (by omega)]
        exact hih
      · rw [if_neg hkp] at hih
        rw [if_neg hkp, if_neg hkp, wrap_up i (by omega)]
        exact hih
theorem icut_loop (n : Nat) (hn : n ≤ 256) (ks : List Bool) (torn b : Int) (l : List S57) (hb : 0 ≤ b ∧ b ≤ 64) (hk0 : ks.length = l.length) (hl : l.length ≤ 600)
    (hp : ∀ i, i < l.length → (0 ≤ (rd_T57 l (i : Int)).f0 ∧ (rd_T57 l (i : Int)).f0 < n) ∧ (rd_T57 l (i : Int)).f1.size = 64) : ∀ (d i k : Nat) (bs : List ByteArray), i + d = l.length → d < k → All64 n bs →
    impl_Disk_afterCut.l0 k ks torn b l (l.length : Int) (i : Int) bs (-1) false = some (cutR ks torn b l d i bs, ([] : List S57), (-1), false) := by
  intro d
  induction d with
  | zero =>
    intro i k bs hi hk h
    obtain ⟨k, rfl⟩ : ∃ m, k = m + 1 := ⟨k - 1, by omega⟩
    rw [impl_Disk_afterCut.l0, if_neg (by omega)]
    rfl
  | succ d ih =>
    intro i k bs hi hk h
    obtain ⟨k, rfl⟩ : ∃ m, k = m + 1 := ⟨k - 1, by omega⟩
    obtain ⟨⟨p0, p1⟩, p2⟩ := hp i (by omega)
    have hq : (rd_T57 l (i : Int)).f0.toNat < n := by omega
    have hc : (rdOf ByteArray.empty bs (rd_T57 l (i : Int)).f0).size = 64 := by
      have := h.2 _ hq
      rwa [show (((rd_T57 l (i : Int)).f0.toNat : Nat) : Int) = (rd_T57 l (i : Int)).f0 by omega] at this
    have hbl := h.1
    have hcat := cat_size _ _ b hb p2 hc
    rw [ByteArray.size_append] at hcat
    have hih := ih (i + 1) k (cutS ks torn b l bs i) (by omega) (by omega) (cutS_all h hb (hp i (by omega)))
    unfold cutS at hih
    show _ = some (cutR ks torn b l d (i + 1) (cutS ks torn b l bs i), ([] : List S57), (-1), false)
    unfold cutS
    rw [impl_Disk_afterCut.l0, if_pos (by omega), if_pos (by omega), if_pos (by omega)]
    by_cases ht : (i : Int) = torn
    · rw [if_pos ht] at hih
      rw [if_pos ht, if_pos ht, if_pos hb.1, if_pos (by omega), if_pos p0, if_pos (by omega), if_pos (by omega), if_pos (by omega), wrap_up i (by omega)]
      exact hih
    · rw [if_neg ht] at hih
      rw [if_neg ht, if_neg ht, if_pos (by omega)]
      by_cases hkp : rdOf false ks (i : Int) = true
      · rw [if_pos hkp] at hih
        have e1 : (rd_T57 l (i : Int)).f1.extract 0 64 = (rd_T57 l (i : Int)).f1 := by
          have := ext_all (rd_T57 l (i : Int)).f1
          rwa [p2] at this
        rw [if_pos hkp, if_pos hkp, if_pos (by decide), if_pos (by omega), if_pos p0, if_pos (by omega), if_pos (by omega), e1, ext_end _ hc, if_pos (by rw [p2]; decide), wrap_up i (by omega), ByteArray.append_empty]
        exact hih
      · rw [if_neg hkp] at hih
        have e2 : bs.set (rd_T57 l (i : Int)).f0.toNat (rdOf ByteArray.empty bs (rd_T57 l (i : Int)).f0) = bs := by
          have := set_same bs (rd_T57 l (i : Int)).f0.toNat (by omega)
          rwa [show (((rd_T57 l (i : Int)).f0.toNat : Nat) : Int) = (rd_T57 l (i : Int)).f0 by omega] at this
        rw [if_neg hkp, if_neg hkp, if_pos (by decide), if_pos (by omega), if_pos p0, if_pos (by omega), if_pos (by omega), ext_none, ext_all, if_pos (by rw [hc]; decide), wrap_up i (by omega), ByteArray.empty_append, e2]
        exact hih
def Blocks (a : List ByteArray) : Prop := (16 ≤ a.length ∧ a.length ≤ 256) ∧ ∀ y ∈ a, (y.size : Int) ≤ 1048576
theorem blocks_set {a : List ByteArray} (h : Blocks a) (i : Nat) (b : ByteArray) (hb : b.size ≤ 1048576) : Blocks (a.set i b) := by
  refine ⟨by rw [List.length_set]; exact h.1, fun y hy => ?_⟩
  rcases List.mem_or_eq_of_mem_set hy with hy | rfl
  · exact h.2 y hy
  · omega
def Puts (m : Nat) (l : List S57) : Prop := l.length ≤ m ∧ ∀ y ∈ l, QS57 y
theorem puts_snoc {m : Nat} {l : List S57} (h : Puts m l) (y : S57) (hy : QS57 y) : Puts (m + 1) (l ++ [y]) := by
  refine ⟨by simp; exact h.1, fun z hz => ?_⟩
  rcases List.mem_append.1 hz with hz | hz
  · exact h.2 z hz
  · rw [List.mem_singleton.1 hz]; exact hy
theorem puts_up {m n : Nat} {l : List S57} (h : Puts m l) (hn : m ≤ n) : Puts n l := ⟨by have := h.1; omega, h.2⟩
/-- What a drawn disk is known to be. -/
def Drawn (p : Int) (a : List ByteArray) (l : List S57) (x : Int) (q : Int) : Prop := (a.length ≤ 256 ∧ ∀ y ∈ a, (y.size : Int) ≤ 1048576) ∧ Puts 2000 l ∧ (-100000 ≤ x ∧ x ≤ 200000) ∧ (p ≤ q ∧ q ≤ p + 2000)
theorem draw_l2 (c : List Int) (p s : Int) (a : List ByteArray) (x : Int) (y : Bool) : ∀ (d : Nat) (j : Int) (l : List S57) (m : Nat), (0 ≤ j ∧ j ≤ 601 ∧ 601 - j = d) → Puts m l → m + d ≤ 3000 →
    ∃ l', Puts (m + d) l' ∧ ∀ k, d < k → spec_l09Draw.l2 k j c p s a l x y = some (a, l', x, y, p, s) := by
  intro d
  induction d with
  | zero =>
    intro j l m hj hl hm
    refine ⟨l, hl, fun k hk => ?_⟩
    obtain ⟨k, rfl⟩ : ∃ m, k = m + 1 := ⟨k - 1, by omega⟩
    rw [spec_l09Draw.l2, if_neg (by omega)]
  | succ d ih =>
    intro j l m hj hl hm
    obtain ⟨z, hz, ez⟩ := zero_ok
    obtain ⟨l', h1, h2⟩ := ih (j + 1) (l ++ [⟨Int.tmod j 9, z⟩]) (m + 1) (by omega) (puts_snoc hl _ (by unfold QS57; simp only; omega)) (by omega)
    refine ⟨l', puts_up h1 (by omega), fun k hk => ?_⟩
    obtain ⟨k, rfl⟩ : ∃ m, k = m + 1 := ⟨k - 1, by omega⟩
    have := hl.1
    rw [spec_l09Draw.l2, if_pos (by omega), ez]
    simp only [Option.bind_some]
    rw [if_pos (by omega), show wrap64 (j + 1) = j + 1 by unfold wrap64; omega]
    exact h2 k (by omega)
theorem rd6 (i : Nat) (h : i < ([(-1), (-1), 0, 1, 5, 2] : List Int).length) : -1 ≤ rd [(-1), (-1), 0, 1, 5, 2] (i : Int) ∧ rd [(-1), (-1), 0, 1, 5, 2] (i : Int) ≤ 5 := by
  rw [rd_lt _ i h]
  simp at h
  have h6 : i = 0 ∨ i = 1 ∨ i = 2 ∨ i = 3 ∨ i = 4 ∨ i = 5 := by omega
  rcases h6 with rfl | rfl | rfl | rfl | rfl | rfl <;> simp
theorem rd3 (i : Nat) (h : i < ([(-2), 100001, 100000] : List Int).length) : -2 ≤ rd [(-2), 100001, 100000] (i : Int) ∧ rd [(-2), 100001, 100000] (i : Int) ≤ 100001 := by
  rw [rd_lt _ i h]
  simp at h
  have h6 : i = 0 ∨ i = 1 ∨ i = 2 := by omega
  rcases h6 with rfl | rfl | rfl <;> simp
theorem draw_l1 {c : List Int} (hc : Code c) (n : Int) (a : List ByteArray) (x : Int) (y : Bool) (ha : Blocks a) : ∀ (d : Nat) (p s : Int) (l : List S57) (m : Nat), Puts m l → m + d ≤ 1000 → 0 ≤ p → p + 100 * d ≤ 100000000 →
    ∃ (a' : List ByteArray) (l' : List S57) (x' : Int) (y' : Bool) (q t : Int), ((a'.length ≤ 256 ∧ ∀ y ∈ a', (y.size : Int) ≤ 1048576) ∧ Puts 2000 l' ∧ (-100000 ≤ x' ∧ x' ≤ 200000) ∧ (p ≤ q ∧ q ≤ p + 22 * d + 1000)) ∧ ∀ k, d + 1000 < k → spec_l09Draw.l1 k n (d : Int) c p s a l x y = some (a', l', x', y', q, t) := by
  intro d
  induction d with
  | zero =>
    intro p s l m hl hm h0 h1
    have hl1 := hl.1
    obtain ⟨i1, q1, t1, hi1, hq1, e1⟩ := among_ok hc p s [(-1), (-1), 0, 1, 5, 2] (by simp) h0 (by omega)
    obtain ⟨o2, q2, t2, hq2, e2⟩ := one_ok hc q1 t1 9 (by omega) (by omega)
    obtain ⟨o3, q3, t3, hq3, e3⟩ := one_ok hc q2 t2 n (by omega) (by omega)
    have hx := rd6 i1 hi1
    generalize rd [(-1), (-1), 0, 1, 5, 2] (i1 : Int) = x1 at e1 hx
    have start : ∀ (R : Option (List ByteArray × (List (S57)) × Int × Bool × Int × Int)) k, (o3 = false → R = some (a, l, x1, o2, q3, t3)) → (o3 = true → ((spec_l00Src_pick.f c q3 t3 6).bind fun bt218 => (if bt218.1 = 0 then ((spec_l00Src_pick.f c bt218.2.1 bt218.2.2 7).bind fun bt221 => (if 0 ≤ (wrap64 ((a.length : Int) - bt221.1)) then (if (wrap64 ((a.length : Int) - bt221.1)) ≤ (a.length : Int) then (some ((a.take ((wrap64 ((a.length : Int) - bt221.1)) : Int).toNat), l, x1, o2, bt221.2.1, bt221.2.2)) else (none)) else (none))) else (if bt218.1 = 1 then ((spec_l00Src_word.f k c bt218.2.1 bt218.2.2 70).bind fun bt227 => (if 0 < (a.length : Int) then (some ((a.set (0 : Int).toNat bt227.1), l, x1, o2, bt227.2.1, bt227.2.2)) else (none))) else (if bt218.1 = 2 then ((spec_l00Src_among.f c bt218.2.1 bt218.2.2 (([(-1), (a.length : Int), 0] : List Int))).bind fun bt234 => ((spec_l09Zero.f).bind fun t237 => (if l.length < 5864062014805 then (some (a, (l ++ [(⟨bt234.1, t237⟩ : S57)]), x1, o2, bt234.2.1, bt234.2.2)) else (none)))) else (if bt218.1 = 3 then ((spec_l00Src_word.f k c bt218.2.1 bt218.2.2 66).bind fun bt241 => (if l.length < 5864062014805 then (some (a, (l ++ [(⟨0, bt241.1⟩ : S57)]), x1, o2, bt241.2.1, bt241.2.2)) else (none))) else (if bt218.1 = 4 then ((spec_l00Src_among.f c bt218.2.1 bt218.2.2 (([(-2), 100001, 100000] : List Int))).bind fun bt250 => (some (a, l, bt250.1, o2, bt250.2.1, bt250.2.2))) else ((spec_l00Src_pick.f c bt218.2.1 bt218.2.2 2).bind fun bt253 => (spec_l09Draw.l2 k bt253.1 c bt253.2.1 bt253.2.2 a l x1 o2)))))))) = R) → spec_l09Draw.l1 (k + 1) n 0 c p s a l x y = R := by
      intro R k hf ht
      rw [spec_l09Draw.l1, if_neg (by omega), e1]
      simp only [Option.bind_some]
      rw [e2]
      simp only [Option.bind_some]
      rw [e3]
      simp only [Option.bind_some]
      cases o3 with
      | false => rw [if_neg (by decide)]; exact (hf rfl).symm
      | true => rw [if_pos rfl]; exact ht rfl
    cases o3 with
    | false =>
      refine ⟨a, l, x1, o2, q3, t3, ⟨⟨by have := ha.1; omega, ha.2⟩, puts_up hl (by omega), ⟨by omega, by omega⟩, ⟨by omega, by omega⟩⟩, fun k hk => ?_⟩
      obtain ⟨k, rfl⟩ : ∃ m, k = m + 1 := ⟨k - 1, by omega⟩
      exact start _ k (fun _ => rfl) (fun h => by cases h)
    | true =>
      obtain ⟨r4, q4, t4, hr4, hq4, e4⟩ := pick_ok hc q3 t3 6 (by omega) (by omega)
      by_cases c0 : r4 = 0
      · obtain ⟨r5, q5, t5, hr5, hq5, e5⟩ := pick_ok hc q4 t4 7 (by omega) (by omega)
        have hw : wrap64 ((a.length : Int) - r5) = (a.length : Int) - r5 := by have := ha.1; unfold wrap64; omega
        refine ⟨a.take ((a.length : Int) - r5).toNat, l, x1, o2, q5, t5, ⟨⟨by have := ha.1; simp; omega, fun y hy => ha.2 y (List.mem_of_mem_take hy)⟩, puts_up hl (by omega), ⟨by omega, by omega⟩, ⟨by omega, by omega⟩⟩, fun k hk => ?_⟩
        obtain ⟨k, rfl⟩ : ∃ m, k = m + 1 := ⟨k - 1, by omega⟩
        refine start _ k (fun h => by cases h) (fun _ => ?_)
        rw [e4]
        simp only [Option.bind_some]
        rw [if_pos c0, e5]
        simp only [Option.bind_some]
        have := ha.1
        rw [hw, if_pos (by omega), if_pos (by omega)]
      by_cases c1 : r4 = 1
      · obtain ⟨b5, q5, t5, hq5, hb5, e5⟩ := word_ok hc q4 t4 70 (by omega) (by omega) (by omega)
        have hs := blocks_set ha 0 b5 (by omega)
        refine ⟨a.set 0 b5, l, x1, o2, q5, t5, ⟨⟨by have := hs.1; omega, hs.2⟩, puts_up hl (by omega), ⟨by omega, by omega⟩, ⟨by omega, by omega⟩⟩, fun k hk => ?_⟩
        obtain ⟨k, rfl⟩ : ∃ m, k = m + 1 := ⟨k - 1, by omega⟩
        refine start _ k (fun h => by cases h) (fun _ => ?_)
        rw [e4]
        simp only [Option.bind_some]
        rw [if_neg c0, if_pos c1, e5 k (by omega)]
        simp only [Option.bind_some]
        have := ha.1
        rw [if_pos (by omega)]
        rfl
      by_cases c2 : r4 = 2
      · obtain ⟨i5, q5, t5, hi5, hq5, e5⟩ := among_ok hc q4 t4 [(-1), (a.length : Int), 0] (by simp) (by omega) (by omega)
        obtain ⟨z, hz, ez⟩ := zero_ok
        refine ⟨a, l ++ [⟨rd [(-1), (a.length : Int), 0] (i5 : Int), z⟩], x1, o2, q5, t5, ⟨⟨by have := ha.1; omega, ha.2⟩, puts_up (puts_snoc hl _ (by unfold QS57; simp only; omega)) (by omega), ⟨by omega, by omega⟩, ⟨by omega, by omega⟩⟩, fun k hk => ?_⟩
        obtain ⟨k, rfl⟩ : ∃ m, k = m + 1 := ⟨k - 1, by omega⟩
        refine start _ k (fun h => by cases h) (fun _ => ?_)
        rw [e4]
        simp only [Option.bind_some]
        rw [if_neg c0, if_neg c1, if_pos c2, e5]
        simp only [Option.bind_some]
        rw [ez]
        simp only [Option.bind_some]
        rw [if_pos (by omega)]
      by_cases c3 : r4 = 3
      · obtain ⟨b5, q5, t5, hq5, hb5, e5⟩ := word_ok hc q4 t4 66 (by omega) (by omega) (by omega)
        refine ⟨a, l ++ [⟨0, b5⟩], x1, o2, q5, t5, ⟨⟨by have := ha.1; omega, ha.2⟩, puts_up (puts_snoc hl _ (by unfold QS57; simp only; omega)) (by omega), ⟨by omega, by omega⟩, ⟨by omega, by omega⟩⟩, fun k hk => ?_⟩
        obtain ⟨k, rfl⟩ : ∃ m, k = m + 1 := ⟨k - 1, by omega⟩
        refine start _ k (fun h => by cases h) (fun _ => ?_)
        rw [e4]
        simp only [Option.bind_some]
        rw [if_neg c0, if_neg c1, if_neg c2, if_pos c3, e5 k (by omega)]
        simp only [Option.bind_some]
        rw [if_pos (by omega)]
      by_cases c4 : r4 = 4
      · obtain ⟨i5, q5, t5, hi5, hq5, e5⟩ := among_ok hc q4 t4 [(-2), 100001, 100000] (by simp) (by omega) (by omega)
        have hx5 := rd3 i5 hi5
        refine ⟨a, l, rd [(-2), 100001, 100000] (i5 : Int), o2, q5, t5, ⟨⟨by have := ha.1; omega, ha.2⟩, puts_up hl (by omega), ⟨by omega, by omega⟩, ⟨by omega, by omega⟩⟩, fun k hk => ?_⟩
        obtain ⟨k, rfl⟩ : ∃ m, k = m + 1 := ⟨k - 1, by omega⟩
        refine start _ k (fun h => by cases h) (fun _ => ?_)
        rw [e4]
        simp only [Option.bind_some]
        rw [if_neg c0, if_neg c1, if_neg c2, if_neg c3, if_pos c4, e5]
        rfl
      · obtain ⟨r5, q5, t5, hr5, hq5, e5⟩ := pick_ok hc q4 t4 2 (by omega) (by omega)
        obtain ⟨l', hl', e6⟩ := draw_l2 c q5 t5 a x1 o2 (601 - r5).toNat r5 l m (by omega) hl (by omega)
        refine ⟨a, l', x1, o2, q5, t5, ⟨⟨by have := ha.1; omega, ha.2⟩, puts_up hl' (by omega), ⟨by omega, by omega⟩, ⟨by omega, by omega⟩⟩, fun k hk => ?_⟩
        obtain ⟨k, rfl⟩ : ∃ m, k = m + 1 := ⟨k - 1, by omega⟩
        refine start _ k (fun h => by cases h) (fun _ => ?_)
        rw [e4]
        simp only [Option.bind_some]
        rw [if_neg c0, if_neg c1, if_neg c2, if_neg c3, if_neg c4, e5]
        simp only [Option.bind_some]
        exact e6 k (by omega)
  | succ d ih =>
    intro p s l m hl hm h0 h1
    have hl1 := hl.1
    obtain ⟨r1, q1, t1, hr1, hq1, e1⟩ := pick_ok hc p s 8 h0 (by omega)
    obtain ⟨b2, q2, t2, hq2, hb2, e2⟩ := blk_ok hc q1 t1 (by omega) (by omega)
    obtain ⟨a', l', x', y', q, t, ⟨g1, g2, g3, g4⟩, e⟩ := ih q2 t2 (l ++ [⟨r1, b2⟩]) (m + 1) (puts_snoc hl _ (by unfold QS57; simp only; omega)) (by omega) (by omega) (by omega)
    refine ⟨a', l', x', y', q, t, ⟨g1, g2, g3, ⟨by omega, by omega⟩⟩, fun k hk => ?_⟩
    obtain ⟨k, rfl⟩ : ∃ m, k = m + 1 := ⟨k - 1, by omega⟩
    rw [spec_l09Draw.l1, if_pos (by omega), e1]
    simp only [Option.bind_some]
    rw [e2 k (by omega)]
    simp only [Option.bind_some]
    rw [if_pos (by omega), show wrap64 (((d + 1 : Nat) : Int) - 1) = (d : Int) by unfold wrap64; omega]
    exact e k (by omega)
theorem draw_l0 {c : List Int} (hc : Code c) (n : Int) (x : Int) (y : Bool) : ∀ (d : Nat) (p s : Int) (a : List ByteArray), Blocks a → d ≤ 20 → 0 ≤ p → p + 100 * d ≤ 10000000 →
    ∃ (a' : List ByteArray) (l' : List S57) (x' : Int) (y' : Bool) (q t : Int), ((a'.length ≤ 256 ∧ ∀ y ∈ a', (y.size : Int) ≤ 1048576) ∧ Puts 2000 l' ∧ (-100000 ≤ x' ∧ x' ≤ 200000) ∧ (p ≤ q ∧ q ≤ p + 22 * d + 2000)) ∧ ∀ k, d + 2000 < k → spec_l09Draw.l0 k n (d : Int) c p s a [] x y = some (a', l', x', y', q, t) := by
  intro d
  induction d with
  | zero =>
    intro p s a ha hd h0 h1
    obtain ⟨r1, q1, t1, hr1, hq1, e1⟩ := pick_ok hc p s 7 h0 (by omega)
    obtain ⟨a', l', x', y', q, t, ⟨g1, g2, g3, g4⟩, e⟩ := draw_l1 hc n a x y ha r1.toNat q1 t1 [] 0 ⟨by simp, by simp⟩ (by omega) (by omega) (by omega)
    refine ⟨a', l', x', y', q, t, ⟨g1, g2, g3, ⟨by omega, by omega⟩⟩, fun k hk => ?_⟩
    obtain ⟨k, rfl⟩ : ∃ m, k = m + 1 := ⟨k - 1, by omega⟩
    rw [spec_l09Draw.l0, if_neg (by omega), e1]
    simp only [Option.bind_some]
    have := e k (by omega)
    rwa [show ((r1.toNat : Nat) : Int) = r1 by omega] at this
  | succ d ih =>
    intro p s a ha hd h0 h1
    have ha1 := ha.1
    obtain ⟨r1, q1, t1, hr1, hq1, e1⟩ := pick_ok hc p s (a.length : Int) h0 (by omega)
    obtain ⟨b2, q2, t2, hq2, hb2, e2⟩ := blk_ok hc q1 t1 (by omega) (by omega)
    obtain ⟨a', l', x', y', q, t, ⟨g1, g2, g3, g4⟩, e⟩ := ih q2 t2 (a.set r1.toNat b2) (blocks_set ha _ _ (by omega)) (by omega) (by omega) (by omega)
    refine ⟨a', l', x', y', q, t, ⟨g1, g2, g3, ⟨by omega, by omega⟩⟩, fun k hk => ?_⟩
    obtain ⟨k, rfl⟩ : ∃ m, k = m + 1 := ⟨k - 1, by omega⟩
    rw [spec_l09Draw.l0, if_pos (by omega), e1]
    simp only [Option.bind_some]
    rw [e2 k (by omega)]
    simp only [Option.bind_some]
    rw [if_pos (by omega), if_pos (by omega), show wrap64 (((d + 1 : Nat) : Int) - 1) = (d : Int) by unfold wrap64; omega]
    exact e k (by omega)
theorem draw_ok {c : List Int} (hc : Code c) (p s n : Int) (h0 : 0 ≤ p) (h1 : p ≤ 1000) : ∃ (a' : List ByteArray) (l' : List S57) (x' : Int) (y' : Bool) (q t : Int), ((a'.length ≤ 256 ∧ ∀ y ∈ a', (y.size : Int) ≤ 1048576) ∧ Puts 2000 l' ∧ (-100000 ≤ x' ∧ x' ≤ 200000) ∧ (p ≤ q ∧ q ≤ p + 3000)) ∧ ∀ k, 3000 < k → spec_l09Draw.f k c p s n = some (a', l', x', y', q, t) := by
  obtain ⟨r1, q1, t1, hr1, hq1, e1⟩ := pick_ok hc p s 6 h0 (by omega)
  have hw : wrap64 (16 + r1) = 16 + r1 := by unfold wrap64; omega
  obtain ⟨a1, ha1, ha2, e2⟩ := new_ok (16 + r1) (by omega) (by omega)
  obtain ⟨a3, ha3, ha4, e3⟩ := new_ok 256 (by omega) (by omega)
  obtain ⟨o2, q2, t2, hq2, e4⟩ := one_ok hc q1 t1 12 (by omega) (by omega)
  have step : ∀ a : List ByteArray, Blocks a → ∃ (a' : List ByteArray) (l' : List S57) (x' : Int) (y' : Bool) (q t : Int), ((a'.length ≤ 256 ∧ ∀ y ∈ a', (y.size : Int) ≤ 1048576) ∧ Puts 2000 l' ∧ (-100000 ≤ x' ∧ x' ≤ 200000) ∧ (p ≤ q ∧ q ≤ p + 3000)) ∧ ∀ k, 3000 < k → spec_l09Draw.j0 k n c q2 t2 a [] (-1) false = some (a', l', x', y', q, t) := by
    intro a ha
    obtain ⟨r5, q5, t5, hr5, hq5, e5⟩ := pick_ok hc q2 t2 6 (by omega) (by omega)
    obtain ⟨a', l', x', y', q, t, ⟨g1, g2, g3, g4⟩, e⟩ := draw_l0 hc n (-1) false r5.toNat q5 t5 a ha (by omega) (by omega) (by omega)
    refine ⟨a', l', x', y', q, t, ⟨g1, g2, g3, ⟨by omega, by omega⟩⟩, fun k hk => ?_⟩
    obtain ⟨k, rfl⟩ : ∃ m, k = m + 1 := ⟨k - 1, by omega⟩
    rw [spec_l09Draw.j0, e5]
    simp only [Option.bind_some]
    have := e k (by omega)
    rwa [show ((r5.toNat : Nat) : Int) = r5 by omega] at this
  cases o2 with
  | true =>
    obtain ⟨a', l', x', y', q, t, g, e⟩ := step a3 ⟨by omega, ha4⟩
    refine ⟨a', l', x', y', q, t, g, fun k hk => ?_⟩
    unfold spec_l09Draw.f
    rw [e1]
    simp only [Option.bind_some]
    rw [hw, e2 k (by omega)]
    simp only [Option.bind_some]
    rw [e4]
    simp only [Option.bind_some, if_true]
    rw [e3 k (by omega)]
    simp only [Option.bind_some]
    exact e k hk
  | false =>
    obtain ⟨a', l', x', y', q, t, g, e⟩ := step a1 ⟨by omega, ha2⟩
    refine ⟨a', l', x', y', q, t, g, fun k hk => ?_⟩
    unfold spec_l09Draw.f
    rw [e1]
    simp only [Option.bind_some]
    rw [hw, e2 k (by omega)]
    simp only [Option.bind_some]
    rw [e4]
    simp only [Option.bind_some, Bool.false_eq_true, if_false]
    exact e k hk
theorem kept_loop {c : List Int} (hc : Code c) (n : Int) (hn : n ≤ 10000) : ∀ (d i : Nat) (x : List Bool) (p s : Int), n - i = d → x.length = i → 0 ≤ p → p + 2 * d ≤ 10000000 →
    ∃ x' q t, (p ≤ q ∧ q ≤ p + 2 * d) ∧ x'.length ≤ 1048576 ∧ ∀ k, d < k → spec_l09DrawKept.l0 k n x (i : Int) c p s = some (x', q, t) := by
  intro d
  induction d with
  | zero =>
    intro i x p s hi hx h0 h1
    refine ⟨x, p, s, ⟨by omega, by omega⟩, by omega, fun k hk => ?_⟩
    obtain ⟨k, rfl⟩ : ∃ m, k = m + 1 := ⟨k - 1, by omega⟩
    rw [spec_l09DrawKept.l0, if_neg (by omega)]
  | succ d ih =>
    intro i x p s hi hx h0 h1
    obtain ⟨o, q1, t1, hq1, e1⟩ := one_ok hc p s 2 h0 (by omega)
    obtain ⟨x', q, t, hq, hx', e⟩ := ih (i + 1) (x ++ [o]) q1 t1 (by omega) (by simp; omega) (by omega) (by omega)
    refine ⟨x', q, t, ⟨by omega, by omega⟩, hx', fun k hk => ?_⟩
    obtain ⟨k, rfl⟩ : ∃ m, k = m + 1 := ⟨k - 1, by omega⟩
    rw [spec_l09DrawKept.l0, if_pos (by omega), e1]
    simp only [Option.bind_some]
    rw [if_pos (by omega), wrap_up i (by omega)]
    exact e k (by omega)
theorem kept_ok {c : List Int} (hc : Code c) (n : Int) (hn : n ≤ 10000) (p s : Int) (h0 : 0 ≤ p) (h1 : p ≤ 100000) : ∃ x' q t, (p ≤ q ∧ q ≤ p + 20000) ∧ x'.length ≤ 1048576 ∧ ∀ k, 20000 < k → spec_l09DrawKept.f k c p s n = some (x', q, t) := by
  by_cases hneg : n ≤ 0
  · refine ⟨[], p, s, ⟨by omega, by omega⟩, by simp, fun k hk => ?_⟩
    obtain ⟨k, rfl⟩ : ∃ m, k = m + 1 := ⟨k - 1, by omega⟩
    unfold spec_l09DrawKept.f
    rw [spec_l09DrawKept.l0, if_neg (by omega)]
  obtain ⟨x', q, t, hq, hx, e⟩ := kept_loop hc n hn n.toNat 0 [] p s (by omega) rfl h0 (by omega)
  exact ⟨x', q, t, ⟨by omega, by omega⟩, hx, fun k hk => by unfold spec_l09DrawKept.f; exact e k (by omega)⟩
theorem drawcut_ok {c : List Int} (hc : Code c) : ∃ (a : List ByteArray) (l : List S57) (x : Int) (y : Bool) (ks : List Bool) (torn b : Int), ((a.length ≤ 256 ∧ ∀ y ∈ a, (y.size : Int) ≤ 1048576) ∧ Puts 2000 l ∧ (-100000 ≤ x ∧ x ≤ 200000)) ∧ ∀ k, 20000 < k → spec_DrawCutPower.f k c = some (a, l, x, y, ks, torn, b) := by
  obtain ⟨a, l, x, y, q1, t1, ⟨g1, g2, g3, g4⟩, e1⟩ := draw_ok hc 0 0 12 (by omega) (by omega)
  obtain ⟨o2, q2, t2, hq2, e2⟩ := one_ok hc q1 t1 9 (by omega) (by omega)
  have hl := g2.1
  cases o2 with
  | true =>
    obtain ⟨r3, q3, t3, hr3, hq3, e3⟩ := pick_ok hc q2 t2 3 (by omega) (by omega)
    have hw : wrap64 ((l.length : Int) + wrap64 (r3 - 1)) = (l.length : Int) + (r3 - 1) := by unfold wrap64; omega
    obtain ⟨ks, q4, t4, hq4, -, e4⟩ := kept_ok hc ((l.length : Int) + (r3 - 1)) (by omega) q3 t3 (by omega) (by omega)
    have hw2 : wrap64 ((l.length : Int) + (r3 - 1) + 3) = (l.length : Int) + (r3 - 1) + 3 := by unfold wrap64; omega
    obtain ⟨r5, q5, t5, hr5, hq5, e5⟩ := pick_ok hc q4 t4 ((l.length : Int) + (r3 - 1) + 3) (by omega) (by omega)
    obtain ⟨i6, q6, t6, hi6, hq6, e6⟩ := among_ok hc q5 t5 [0, 1, 3, 32, 33, 63, 64, 65, (-1), 40] (by simp) (by omega) (by omega)
    refine ⟨a, l, x, y, ks, wrap64 (r5 - 2), rd [0, 1, 3, 32, 33, 63, 64, 65, (-1), 40] (i6 : Int), ⟨g1, g2, g3⟩, fun k hk => ?_⟩
    unfold spec_DrawCutPower.f spec_l00From.f
    simp only [Option.bind_some]
    rw [e1 k (by omega)]
    simp only [Option.bind_some]
    rw [e2]
    simp only [Option.bind_some, if_true]
    rw [e3]
    simp only [Option.bind_some]
    rw [hw, e4 k (by omega)]
    simp only [Option.bind_some]
    rw [hw2, e5]
    simp only [Option.bind_some]
    rw [e6]
    simp only [Option.bind_some]
  | false =>
    obtain ⟨ks, q4, t4, hq4, -, e4⟩ := kept_ok hc (l.length : Int) (by omega) q2 t2 (by omega) (by omega)
    have hw2 : wrap64 ((l.length : Int) + 3) = (l.length : Int) + 3 := by unfold wrap64; omega
    obtain ⟨r5, q5, t5, hr5, hq5, e5⟩ := pick_ok hc q4 t4 ((l.length : Int) + 3) (by omega) (by omega)
    obtain ⟨i6, q6, t6, hi6, hq6, e6⟩ := among_ok hc q5 t5 [0, 1, 3, 32, 33, 63, 64, 65, (-1), 40] (by simp) (by omega) (by omega)
    refine ⟨a, l, x, y, ks, wrap64 (r5 - 2), rd [0, 1, 3, 32, 33, 63, 64, 65, (-1), 40] (i6 : Int), ⟨g1, g2, g3⟩, fun k hk => ?_⟩
    unfold spec_DrawCutPower.f spec_l00From.f
    simp only [Option.bind_some]
    rw [e1 k (by omega)]
    simp only [Option.bind_some]
    rw [e2]
    simp only [Option.bind_some, Bool.false_eq_true, if_false]
    rw [e4 k hk, Option.bind_some, hw2, e5, Option.bind_some, e6, Option.bind_some]
/-- A put that accounts for block j of the result. -/
def Hit (l : List S57) (ks : List Bool) (torn : Int) (v : ByteArray) (j : Nat) (q : Nat) : Prop := (rd_T57 l (q : Int)).f0 = (j : Int) ∧ ((rdOf false ks (q : Int) = true ∧ v = (rd_T57 l (q : Int)).f1) ∨ (q : Int) = torn)
theorem cut_hit (ks : List Bool) (torn b : Int) (l : List S57) (n : Nat) (hp : ∀ i, i < l.length → 0 ≤ (rd_T57 l (i : Int)).f0 ∧ (rd_T57 l (i : Int)).f0 < n) (j : Nat) : ∀ (d i : Nat) (bs : List ByteArray), i + d = l.length → bs.length = n →
    rdOf ByteArray.empty (cutR ks torn b l d i bs) (j : Int) = rdOf ByteArray.empty bs (j : Int) ∨ ∃ q, i ≤ q ∧ q < l.length ∧ Hit l ks torn (rdOf ByteArray.empty (cutR ks torn b l d i bs) (j : Int)) j q := by
  intro d
  induction d with
  | zero => intro i bs _ _; exact .inl rfl
  | succ d ih =>
    intro i bs hi hn
    obtain ⟨p0, p1⟩ := hp i (by omega)
    have hlen : (cutS ks torn b l bs i).length = n := by unfold cutS; split <;> (try split) <;> simp [hn]
    show rdOf ByteArray.empty (cutR ks torn b l d (i + 1) (cutS ks torn b l bs i)) (j : Int) = _ ∨ ∃ q, i ≤ q ∧ q < l.length ∧ Hit l ks torn (rdOf ByteArray.empty (cutR ks torn b l d (i + 1) (cutS ks torn b l bs i)) (j : Int)) j q
    rcases ih (i + 1) (cutS ks torn b l bs i) (by omega) hlen with h | ⟨q, h1, h2, h3⟩
    · rw [h]
      unfold cutS
      by_cases ht : (i : Int) = torn
      · rw [if_pos ht, rd_set _ _ _ _ (by omega)]
        by_cases hj : j = (rd_T57 l (i : Int)).f0.toNat
        · exact .inr ⟨i, by omega, by omega, by omega, .inr ht⟩
        · rw [if_neg hj]; exact .inl rfl
      · rw [if_neg ht]
        by_cases hk : rdOf false ks (i : Int) = true
        · rw [if_pos hk, rd_set _ _ _ _ (by omega)]
          by_cases hj : j = (rd_T57 l (i : Int)).f0.toNat
          · rw [if_pos hj]; exact .inr ⟨i, by omega, by omega, by omega, .inl ⟨hk, rfl⟩⟩
          · rw [if_neg hj]; exact .inl rfl
        · rw [if_neg hk]; exact .inl rfl
    · exact .inr ⟨q, by omega, h2, h3⟩
theorem cuts_l1 (ks : List Bool) (torn : Int) (a bs : List ByteArray) (l : List S57) (x : Int) (y : Bool) (l' : List S57) (x' : Int) (y' : Bool) (j : Nat) (hj : j < bs.length) (hk : ks.length = l.length) (ht : torn < l.length) (hl : l.length ≤ 600) (K : Nat)
    (hnext : ∀ k, K ≤ k → laws_FnCuts.l0 k ks torn (wrap64 ((j : Int) + 1)) a l x y bs l' x' y' = some true) : ∀ (d q : Nat) (fl : Bool), q + d = l.length → (fl = true ∨ ∃ z, q ≤ z ∧ z < l.length ∧ Hit l ks torn (rdOf ByteArray.empty bs (j : Int)) j z) →
    ∀ k, K + d < k → laws_FnCuts.l1 k ks torn (j : Int) fl (q : Int) a l x y bs l' x' y' = some true := by
  intro d
  induction d with
  | zero =>
    intro q fl hq h k hk2
    obtain ⟨k, rfl⟩ : ∃ m, k = m + 1 := ⟨k - 1, by omega⟩
    rcases h with h | ⟨z, h1, h2, -⟩
    · rw [laws_FnCuts.l1, if_neg (by omega), if_pos h]; exact hnext k (by omega)
    · omega
  | succ d ih =>
    intro q fl hq h k hk2
    obtain ⟨k, rfl⟩ : ∃ m, k = m + 1 := ⟨k - 1, by omega⟩
    have go : ∀ fl' : Bool, (fl' = true ∨ ∃ z, q + 1 ≤ z ∧ z < l.length ∧ Hit l ks torn (rdOf ByteArray.empty bs (j : Int)) j z) → laws_FnCuts.l1 k ks torn (j : Int) fl' (wrap64 ((q : Int) + 1)) a l x y bs l' x' y' = some true := fun fl' h' => by
      rw [wrap_up q (by omega)]; exact ih (q + 1) fl' (by omega) h' k (by omega)
    have later : ¬ Hit l ks torn (rdOf ByteArray.empty bs (j : Int)) j q → (fl = true ∨ ∃ z, q + 1 ≤ z ∧ z < l.length ∧ Hit l ks torn (rdOf ByteArray.empty bs (j : Int)) j z) := fun hn => by
      rcases h with h | ⟨z, h1, h2, h3⟩
      · exact .inl h
      · by_cases hz : z = q
        · subst hz; exact absurd h3 hn
        · exact .inr ⟨z, by omega, h2, h3⟩
    rw [laws_FnCuts.l1, if_pos (by omega), if_pos (by omega)]
    by_cases h0 : (rd_T57 l (q : Int)).f0 = (j : Int)
    · rw [if_pos h0]
      by_cases hf : fl = true
      · rw [if_pos hf]; exact go true (.inl rfl)
      · rw [if_neg hf, if_pos (by omega)]
        have tail : ¬ Hit l ks torn (rdOf ByteArray.empty bs (j : Int)) j q → (if (q : Int) = torn then laws_FnCuts.l1 k ks torn (j : Int) true (wrap64 ((q : Int) + 1)) a l x y bs l' x' y' else if torn ≥ 0 then if 0 ≤ torn then if torn < (l.length : Int) then laws_FnCuts.l1 k ks torn (j : Int) (((rd_T57 l torn).f0) == (j : Int)) (wrap64 ((q : Int) + 1)) a l x y bs l' x' y' else none else none else laws_FnCuts.l1 k ks torn (j : Int) false (wrap64 ((q : Int) + 1)) a l x y bs l' x' y') = some true := fun hn => by
          have hnt : ¬ (q : Int) = torn := fun e => hn ⟨h0, .inr e⟩
          rw [if_neg hnt]
          rcases later hn with h5 | h5
          · exact absurd h5 hf
          · by_cases h6 : torn ≥ 0
            · rw [if_pos h6, if_pos h6, if_pos ht]; exact go _ (.inr h5)
            · rw [if_neg h6]; exact go _ (.inr h5)
        by_cases hkp : rdOf false ks (q : Int) = true
        · rw [if_pos hkp, if_pos (by omega), if_pos (by omega)]
          by_cases he : (rdOf ByteArray.empty bs (j : Int)).toList = (rd_T57 l (q : Int)).f1.toList
          · rw [if_pos he]; exact go true (.inl rfl)
          · rw [if_neg he]
            by_cases hq2 : (q : Int) = torn
            · rw [if_pos hq2]; exact go true (.inl rfl)
            · exact tail (fun hh => by
                rcases hh.2 with h8 | h8
                · exact he (by rw [h8.2])
                · exact hq2 h8)
        · rw [if_neg hkp]
          by_cases hq2 : (q : Int) = torn
          · rw [if_pos hq2]; exact go true (.inl rfl)
          · exact tail (fun hh => by
              rcases hh.2 with h8 | h8
              · exact hkp h8.1
              · exact hq2 h8)
    · rw [if_neg h0]
      exact go fl (later (fun hh => h0 hh.1))
theorem cuts_l0 (ks : List Bool) (torn : Int) (a bs : List ByteArray) (l : List S57) (x : Int) (y : Bool) (l' : List S57) (x' : Int) (y' : Bool) (hk : ks.length = l.length) (ht : torn < l.length) (hl : l.length ≤ 600) (hab : bs.length = a.length) (ha : a.length ≤ 256)
    (hh : ∀ j, j < a.length → rdOf ByteArray.empty bs (j : Int) = rdOf ByteArray.empty a (j : Int) ∨ ∃ q, 0 ≤ q ∧ q < l.length ∧ Hit l ks torn (rdOf ByteArray.empty bs (j : Int)) j q) : ∀ (d j : Nat), j + d = a.length → ∀ k, 700 * d < k → laws_FnCuts.l0 k ks torn (j : Int) a l x y bs l' x' y' = some true := by
  intro d
  induction d with
  | zero =>
    intro j hj k hk2
    obtain ⟨k, rfl⟩ : ∃ m, k = m + 1 := ⟨k - 1, by omega⟩
    rw [laws_FnCuts.l0, if_neg (by omega)]
  | succ d ih =>
    intro j hj k hk2
    obtain ⟨k, rfl⟩ : ∃ m, k = m + 1 := ⟨k - 1, by omega⟩
    rw [laws_FnCuts.l0, if_pos (by omega), if_pos (by omega), if_pos (by omega)]
    refine cuts_l1 ks torn a bs l x y l' x' y' j (by omega) hk ht hl (700 * d + 1) (fun k hk3 => by rw [wrap_up j (by omega)]; exact ih (j + 1) (by omega) k (by omega)) l.length 0 _ (by omega) ?_ k (by omega)
    rcases hh j (by omega) with h | ⟨q, h1, h2, h3⟩
    · exact .inl (by rw [h]; exact beq_self_eq_true _)
    · exact .inr ⟨q, h1, h2, h3⟩
theorem both2 (a : List ByteArray) (l : List S57) (x : Int) (y : Bool) (ks : List Bool) (torn b : Int) (ha : (a.length : Int) ≤ 1048576) (ha2 : ∀ y ∈ a, (y.size : Int) ≤ 1048576) (hl : (l.length : Int) ≤ 1048576) (hl2 : ∀ y ∈ l, QS57 y) (hx : (Lit.int .i64 x).wf = true) :
    ∃ (bs : List ByteArray) (f c : Int), (c = 0 → f = -1 ∧ bs = cutR ks torn b l l.length 0 a ∧ bs.length = a.length ∧ a.length ≤ 256 ∧ l.length ≤ 600 ∧ ks.length = l.length ∧ torn < l.length ∧ ∀ i, i < l.length → 0 ≤ (rd_T57 l (i : Int)).f0 ∧ (rd_T57 l (i : Int)).f0 < a.length) ∧ ∀ k, 8000000 ≤ k → spec_CutPower.f k a l x y ks torn b = some (bs, ([] : List S57), f, false, c) ∧ impl_CutPower.f k a l x y ks torn b = some (bs, ([] : List S57), f, false, c) := by
  obtain ⟨d, hd, hD⟩ := disk_ok a l x y ha ha2 hl hl2 hx
  cases d with
  | false =>
    refine ⟨[], 0, 1, fun h => absurd h (by decide), fun k hk => ?_⟩
    unfold spec_CutPower.f impl_CutPower.f
    rw [(hd k hk).1, (hd k hk).2]
    exact ⟨rfl, rfl⟩
  | true =>
    obtain ⟨q1, q2, q3, q4⟩ := hD rfl
    by_cases h1 : (ks.length : Int) = (l.length : Int)
    · by_cases h2 : -1 ≤ torn ∧ torn ≤ wrap64 ((l.length : Int) - 1)
      · by_cases h3 : 0 ≤ b ∧ b ≤ 64
        · have hp : ∀ i, i < l.length → (0 ≤ (rd_T57 l (i : Int)).f0 ∧ (rd_T57 l (i : Int)).f0 < a.length) ∧ (rd_T57 l (i : Int)).f1.size = 64 := fun i hi => by
            obtain ⟨⟨e1, e2⟩, e3⟩ := q4 i hi
            rw [wrap64_id (by omega) (by omega)] at e2
            exact ⟨⟨e1, by omega⟩, by omega⟩
          have hA : All64 a.length a := ⟨rfl, fun j hj => by have := q3 j hj; unfold blk at this; omega⟩
          have hR := cutR_all (ks := ks) (torn := torn) (b := b) (l := l) h3 hp l.length 0 a (by omega) hA
          refine ⟨cutR ks torn b l l.length 0 a, -1, 0, fun _ => ⟨rfl, rfl, hR.1, by omega, by omega, by omega, by have := h2.2; rw [wrap64_id (by omega) (by omega)] at this; omega, fun i hi => (hp i hi).1⟩, fun k hk => ?_⟩
          unfold spec_CutPower.f impl_CutPower.f
          rw [(hd k hk).1, (hd k hk).2]
          simp only [Option.bind_some, if_true]
          rw [if_pos h1, in_eq, decide_eq_true h2]
          unfold impl_Disk_cutOk.f
          rw [if_pos h1, within_eq, decide_eq_true h2]
          simp only [Option.bind_some, if_true]
          rw [in_eq, within_eq, decide_eq_true h3]
          simp only [Option.bind_some, if_true]
          have hs := scut_loop a.length (by omega) ks torn b a l x y h3 (by omega) (by omega) hp l x y l.length 0 k a (by omega) (by omega) hA
          have hi := icut_loop a.length (by omega) ks torn b l h3 (by omega) (by omega) hp l.length 0 k a (by omega) (by omega) hA
          refine ⟨?_, ?_⟩
          · unfold spec_l09Cut_c44.f spec_l09Own_c44.f
            simp only [Option.bind_some, List.length_nil, List.nil_append]
            rw [if_pos (by omega), if_pos (by omega)]
            simp only [Option.bind_some]
            rw [show spec_l09Cut_c44.l0 k ks torn b 0 a l x y a l x y = _ from hs]
            rfl
          · unfold impl_Disk_afterCut.f slices_Clone_string_string.f slices_Clone_string_string_nn.f
            simp only [Option.bind_some, List.length_nil, List.nil_append]
            rw [if_pos (by omega)]
            simp only [Option.bind_some]
            rw [show impl_Disk_afterCut.l0 k ks torn b l l.length 0 a (-1) false = _ from hi]
            rfl
        · refine ⟨[], 0, 2, fun h => absurd h (by decide), fun k hk => ?_⟩
          unfold spec_CutPower.f impl_CutPower.f impl_Disk_cutOk.f
          rw [(hd k hk).1, (hd k hk).2]
          simp only [Option.bind_some, if_true]
          rw [if_pos h1, if_pos h1, in_eq, within_eq, decide_eq_true h2]
          simp only [Option.bind_some, if_true]
          rw [in_eq, within_eq, decide_eq_false h3]
          exact ⟨rfl, rfl⟩
      · refine ⟨[], 0, 2, fun h => absurd h (by decide), fun k hk => ?_⟩
        unfold spec_CutPower.f impl_CutPower.f impl_Disk_cutOk.f
        rw [(hd k hk).1, (hd k hk).2]
        simp only [Option.bind_some, if_true]
        rw [if_pos h1, if_pos h1, in_eq, within_eq, decide_eq_false h2]
        exact ⟨rfl, rfl⟩
    · refine ⟨[], 0, 2, fun h => absurd h (by decide), fun k hk => ?_⟩
      unfold spec_CutPower.f impl_CutPower.f impl_Disk_cutOk.f
      rw [(hd k hk).1, (hd k hk).2]
      simp only [Option.bind_some, if_true]
      rw [if_neg h1, if_neg h1]
      exact ⟨rfl, rfl⟩
theorem FnCuts : laws_FnCuts.Pure := by
  rintro c ⟨-, hw⟩
  have hc := code_wf hw
  obtain ⟨a, l, x, y, ks, torn, b, ⟨⟨g1, g2⟩, g3, g4⟩, e1⟩ := drawcut_ok hc
  refine ⟨9000000, ?_⟩
  by_cases hlong : (c.length : Int) > 1048576
  · unfold laws_FnCuts.f laws_b10Long.f
    simp [hlong]
  have hl2 := g3.1
  obtain ⟨bs, f, d, hd, hb⟩ := both2 a l x y ks torn b (by omega) g2 (by omega) g3.2 (by simp [Lit.wf, IntKind.min, IntKind.max, IntKind.bits, IntKind.signed]; omega)
  unfold laws_FnCuts.f laws_b10Long.f
  rw [decide_eq_false hlong]
  simp only [Option.bind_some, Bool.false_eq_true, if_false]
  rw [e1 _ (by omega)]
  simp only [Option.bind_some]
  rw [(hb _ (by omega)).2, (hb _ (by omega)).1]
  simp only [Option.bind_some]
  by_cases hd0 : d = 0
  · obtain ⟨h1, h2, h3, h4, h5, h6, h7, h8⟩ := hd hd0
    rw [if_pos hd0, if_pos hd0, if_pos (show (([] : List S57).length : Int) = 0 from rfl)]
    simp only [Bool.false_eq_true, if_false]
    rw [if_pos h1, show ((bs.length : Int) != (a.length : Int)) = false by simp [h3], laws_FnCuts.j0, if_neg (by decide)]
    refine cuts_l0 ks torn a bs l x y [] f false h6 h7 h5 h3 h4 (fun j hj => ?_) a.length 0 (by omega) _ (by omega)
    rw [h2]
    exact cut_hit ks torn b l a.length h8 j l.length 0 a (by omega) rfl
  · rw [if_neg hd0]

end Go.Proofs.Ytgpkkplabnliiaa.Pure
