/- The plain form of FnSelectedBoxes: for all arguments the answer is true. It holds without a condition. -/
import Derived.Test.YtkkdkeogplgkfaaPFnSelectedBoxesx8
import Derived.OpenShut
namespace Go.Proofs.Ytkkdkeogplgkfaa.Pure
open Go Go.RowKit Go.Proofs.Ytkkdkeogplgkfaa.PFnSelectedBoxes Go.Proofs.YtkkdkeogplgkfaaW.PrintWords Go.Proofs.YtkkdkeogplgkfaaW.PrintLast
set_option linter.unusedVariables false
set_option linter.unusedSimpArgs false
theorem ip {c : Prop} [Decidable c] {α : Type} {a b : α} (h : c := by omega) : ite c a b = a := if_pos h
theorem im {c : Prop} [Decidable c] {α : Type} {a b : α} (h : ¬c := by omega) : ite c a b = b := if_neg h
theorem ob {α β : Type} (a : α) (f : α → Option β) : (some a).bind f = f a := rfl
theorem sk (k : Nat) (h : 0 < k := by omega) : ∃ z, k = z + 1 := ⟨k - 1, by omega⟩

theorem cA {a : Int} (h : -9223372036854775808 ≤ a) (h' : a ≤ 9223372036854775807) : wrap64 a = a := by unfold wrap64; omega
theorem count_loop {σ ρ : Type} (L : Nat → σ → Int → Option ρ) (n m : Nat) (I : Nat → σ → Prop) (R : ρ → Prop)
 (hstop : ∀ k s, m ≤ k → I n s → ∃ r, L (k + 1) s (n : Int) = some r ∧ R r)
 (hstep : ∀ k s (i : Nat), m ≤ k → i < n → I i s → (∃ s', I (i + 1) s' ∧ L (k + 1) s (i : Int) = L k s' ((i + 1 : Nat) : Int)) ∨ ∃ r, L (k + 1) s (i : Int) = some r ∧ R r)
 (k : Nat) (s : σ) (i : Nat) (hi : i ≤ n) (hk : n - i + m < k) (h : I i s) : ∃ r, L k s (i : Int) = some r ∧ R r := by
 obtain ⟨d, hd⟩ : ∃ d, d = n - i := ⟨_, rfl⟩
 induction d generalizing k s i with
 | zero =>
  obtain ⟨k, rfl⟩ := sk k
  obtain rfl : i = n := by omega
  exact hstop k s (by omega) h
 | succ d ih =>
  obtain ⟨k, rfl⟩ := sk k
  rcases hstep k s i (by omega) (by omega) h with ⟨s', h', e⟩ | h'
  · rw [e]; exact ih k s' (i + 1) (by omega) (by omega) h' (by omega)
  · exact h'
theorem w1 : wrap64 1 = 1 := by unfold wrap64; omega
theorem w2 : wrap64 2 = 2 := by unfold wrap64; omega
theorem w3 : wrap64 3 = 3 := by unfold wrap64; omega
theorem rd_lt (l : List Int) (i : Nat) (h : i < l.length) : rd l (i : Int) = l[i] := by
 simp [rd, List.getD_eq_getElem?_getD, List.getElem?_eq_getElem h]
theorem cF (i : Nat) (h : i < 1099511627776) : wrap64 ((i : Int) + 1) = ((i + 1 : Nat) : Int) := by unfold wrap64; omega
theorem all_loop (L : Nat → Int → Option Bool) (P : Nat → Prop) [DecidablePred P] (n m : Nat) (r : Bool)
 (hend : ∀ k, m ≤ k → L (k + 1) (n : Int) = some r) (hstep : ∀ k (i : Nat), m ≤ k → i < n → L (k + 1) (i : Int) = if P i then L k ((i + 1 : Nat) : Int) else some false) (k : Nat) (hk : n + m < k) :
 L k 0 = some (decide (∀ i, i < n → P i) && r) := by
 obtain ⟨s, h, rfl⟩ := count_loop (fun k (_ : Unit) i => L k i) n m (fun i _ => ∀ j, j < i → P j) (fun s => s = (decide (∀ i, i < n → P i) && r))
  (by
   rintro k s hm h
   exact ⟨r, hend k hm, by simp [decide_eq_true h]⟩)
  (by
   rintro k s i hm hi h
   by_cases hp : P i
   · refine .inl ⟨(), ?_, by show L (k + 1) _ = _; rw [hstep k i hm hi, if_pos hp]⟩
     intro j hj
     by_cases hji : j = i
     · subst hji; exact hp
     · exact h j (by omega)
   · refine .inr ⟨false, by show L (k + 1) _ = _; rw [hstep k i hm hi, if_neg hp], ?_⟩
     have : ¬ ∀ i, i < n → P i := fun h => hp (h i hi)
     simp [this])
  k () 0 (by omega) (by omega) (by simp)
 exact h
def look (P : Nat → Prop) [DecidablePred P] : Nat → Nat → Int
 | 0, _ => -1
 | d + 1, i => if P i then (i : Int) else look P d (i + 1)
theorem look_or (P : Nat → Prop) [DecidablePred P] (d : Nat) : ∀ i, (look P d i = -1 ∧ ∀ j, i ≤ j → j < i + d → ¬ P j) ∨ ∃ j, i ≤ j ∧ j < i + d ∧ look P d i = (j : Int) ∧ P j := by
 induction d with
 | zero => intro i; exact .inl ⟨rfl, fun j h1 h2 => by omega⟩
 | succ d ih =>
  intro i
  by_cases hp : P i
  · exact .inr ⟨i, by omega, by omega, by rw [look, if_pos hp], hp⟩
  ·
   rw [look, if_neg hp]
   rcases ih (i + 1) with ⟨h1, h2⟩ | ⟨j, h1, h2, h3, h4⟩
   · refine .inl ⟨h1, fun j h3 h4 => ?_⟩
     by_cases hji : j = i
     · subst hji; exact hp
     · exact h2 j (by omega) (by omega)
   · exact .inr ⟨j, by omega, by omega, h3, h4⟩
theorem find_loop (L : Nat → Int → Option Int) (P : Nat → Prop) [DecidablePred P] (n m : Nat)
 (hend : ∀ k, m ≤ k → L (k + 1) (n : Int) = some (-1)) (hstep : ∀ k (i : Nat), m ≤ k → i < n → L (k + 1) (i : Int) = if P i then some (i : Int) else L k ((i + 1 : Nat) : Int)) (k : Nat) (hk : n + m < k) :
 L k 0 = some (look P n 0) := by
 have key : ∀ d k i, i + d = n → d + m < k → L k (i : Int) = some (look P d i) := by
  intro d
  induction d with
  | zero =>
   intro k i hi hk
   obtain ⟨k, rfl⟩ := sk k
   obtain rfl : i = n := by omega
   exact hend k (by omega)
  | succ d ih =>
   intro k i hi hk
   obtain ⟨k, rfl⟩ := sk k
   rw [hstep k i (by omega) (by omega), look]
   by_cases hp : P i
   · rw [if_pos hp, if_pos hp]
   · rw [if_neg hp, if_neg hp]; exact ih k (i + 1) (by omega) (by omega)
 exact key n k 0 (by omega) (by omega)
theorem getD_lt {α : Type} (l : List α) (z : α) (i : Nat) (h : i < l.length) : l.getD (i : Int).toNat z = l[i] := by
 simp [List.getD_eq_getElem?_getD, List.getElem?_eq_getElem h]
theorem seq_loop (L : Nat → Int → Option Bool) (P : Nat → Prop) [DecidablePred P] (n : Nat)
 (hend : ∀ k, L (k + 1) (n : Int) = some true) (hstep : ∀ k (i : Nat), i < n → L (k + 1) (i : Int) = if P i then L k ((i + 1 : Nat) : Int) else some false) (k : Nat) (hk : n < k) :
 L k 0 = some (decide (∀ i, i < n → P i)) := by
 rw [all_loop L P n 0 true (fun k _ => hend k) (fun k i _ hi => hstep k i hi) k (by omega), Bool.and_true]
theorem in_eq (a b c : Int) : bO.f a b c = some (decide (b ≤ a ∧ a ≤ c)) := by
 unfold bO.f
 by_cases h : a ≥ b
 · rw [if_pos h]
   by_cases h2 : a ≤ c <;> simp [h2] <;> omega
 · rw [if_neg h]; simp; omega
theorem within_eq (a b c : Int) : bT.f a b c = some (decide (b ≤ a ∧ a ≤ c)) := by
 unfold bT.f
 by_cases h : a ≥ b
 · rw [if_pos h]
   by_cases h2 : a ≤ c <;> simp [h2] <;> omega
 · rw [if_neg h]; simp; omega
def inI (l : List Int) (a b : Int) (i : Nat) : Prop := a ≤ rd l (i : Int) ∧ rd l (i : Int) ≤ b
instance (l : List Int) (a b : Int) (i : Nat) : Decidable (inI l a b i) := by unfold inI; infer_instance
theorem withinI (l : List Int) (a b : Int) (hl : l.length ≤ 1048576) (k : Nat) (hk : 1048590 ≤ k) : impl_allWithin.f k l a b = some (decide (∀ i, i < l.length → inI l a b i)) := by
 unfold impl_allWithin.f slices_ContainsFunc_impl_allWithin_1.f aN.f
 rw [find_loop (fun k i => aN.l0 k l l.length i a b) (fun i => ¬ inI l a b i) l.length 0
  (by intro k _; show aN.l0 (k + 1) l _ _ a b = _; rw [aN.l0, im])
  (by
   intro k i _ hi
   show aN.l0 (k + 1) l _ _ a b = _
   rw [aN.l0, ip, ip, ip, cF i (by omega)]
   simp only [impl_allWithin_1.f, within_eq, ob]
   by_cases h : a ≤ rd l (i : Int) ∧ rd l (i : Int) ≤ b
   · have h2 : inI l a b i := h
     simp [h, h2]
   · have h2 : ¬ inI l a b i := h
     rw [decide_eq_false h]
     simp [h2])
  k (by omega)]
 simp only [ob]
 rcases look_or (fun i => ¬ inI l a b i) l.length 0 with ⟨h4, h5⟩ | ⟨j, -, h4, h5, h6⟩
 · rw [h4]
   have h7 : ∀ i, i < l.length → inI l a b i := fun i hi => Decidable.not_not.1 (h5 i (by omega) (by omega))
   rw [decide_eq_true h7]; rfl
 · rw [h5]
   have h7 : ¬ ∀ i, i < l.length → inI l a b i := fun h => h6 (h j (by omega))
   have h8 : (j : Int) ≥ 0 := by omega
   rw [decide_eq_false h7]; simp [h8]
theorem slices_Equal_int64_int64_is (k : Nat) (a b : List Int) (hl : a.length ≤ 1048576) (hk : 1048590 ≤ k) : bG.f k a b = some (decide (a = b)) := by
 unfold bG.f
 by_cases hn : (a.length : Int) = (b.length : Int)
 ·
  rw [if_pos hn, seq_loop (fun k i => bG.l0 k a b (a.length : Int) i) (fun i => rd a (i : Int) = rd b (i : Int)) a.length
   (by intro k; show bG.l0 (k + 1) a b _ _ = _; rw [bG.l0, im])
   (by
    intro k i hi
    show bG.l0 (k + 1) a b _ _ = _
    rw [bG.l0]
    repeat rw [if_pos (show (i : Int) < (a.length : Int) by omega)]
    repeat rw [if_pos (show (0 : Int) ≤ (i : Int) by omega)]
    repeat rw [if_pos (show (i : Int) < (a.length : Int) by omega)]
    repeat rw [if_pos (show (i : Int) < (b.length : Int) by omega)]
    rw [cF i (by omega)])
   k (by omega)]
  have hb : a.length = b.length := by omega
  congr 1
  apply decide_eq_decide.2
  constructor
  · intro h
    apply List.ext_getElem hb
    intro i h1 h2
    have := h i h1
    rwa [rd_lt a i h1, rd_lt b i h2] at this
  · rintro rfl i _
    rfl
 · rw [if_neg hn, decide_eq_false]
   rintro rfl
   exact hn rfl
def QS68 (x : S68) : Prop := (x.f0.length : Int) ≤ 1048576
theorem point_same (ps qs : List S68) (hp : ps.length ≤ 1048576) (hq : ∀ y ∈ ps, QS68 y) (k : Nat) (hk : 3000000 ≤ k) : bH.f k ps qs = some (decide (ps.length = qs.length ∧ ∀ i, i < ps.length → (bU ps (i : Int)).f0 = (bU qs (i : Int)).f0)) := by
 have hql : ∀ i, i < ps.length → (bU ps (i : Int)).f0.length ≤ 1048576 := by
  intro i hi
  have : bU ps (i : Int) = ps[i] := getD_lt ps z68 i hi
  rw [this]
  have h := hq _ (List.getElem_mem hi)
  unfold QS68 at h
  omega
 unfold bH.f
 by_cases h1 : ps.length = qs.length
 ·
  rw [ip, all_loop (fun k i => bH.l0 k qs ps ps.length i) (fun i => (bU ps (i : Int)).f0 = (bU qs (i : Int)).f0) ps.length 1048590 true
   (by intro k _; show bH.l0 (k + 1) qs ps _ _ = _; rw [bH.l0, im])
   (by
    intro k i hk hi
    show bH.l0 (k + 1) qs ps _ _ = _
    rw [bH.l0, ip, ip, ip, ip, cF i (by omega)]
    unfold impl_samePoint.f
    rw [slices_Equal_int64_int64_is k _ _ (hql i hi) hk]
    simp only [ob, decide_eq_true_eq])
   k (by omega)]
  simp [h1]
 · rw [im, decide_eq_false (fun h => h1 h.1)]
theorem lists_same (a1 a2 a3 a4 b1 b2 b3 b4 : List Int) (h1 : a1.length ≤ 1048576) (h2 : a2.length ≤ 1048576) (h3 : a3.length ≤ 1048576) (h4 : a4.length ≤ 1048576) (k : Nat) (hk : 3000000 ≤ k) :
 aV.f k [a1, a2, a3, a4] [b1, b2, b3, b4] = some (decide (a1 = b1 ∧ a2 = b2 ∧ a3 = b3 ∧ a4 = b4)) := by
 unfold aV.f
 have hL : (([a1, a2, a3, a4] : List (List Int)).length : Int) = (([b1, b2, b3, b4] : List (List Int)).length : Int) := rfl
 have la : (([a1, a2, a3, a4] : List (List Int)).length : Int) = ((4 : Nat) : Int) := rfl
 have lb : (([b1, b2, b3, b4] : List (List Int)).length : Int) = ((4 : Nat) : Int) := rfl
 have hq : ∀ i : Nat, i < 4 → (rd_L2 [a1, a2, a3, a4] (i : Int)).length ≤ 1048576 := by
  intro i hi
  rcases i with _ | _ | _ | _ | i
  · exact h1
  · exact h2
  · exact h3
  · exact h4
  · omega
 rw [if_pos hL, all_loop (fun k i => aV.l0 k [b1, b2, b3, b4] [a1, a2, a3, a4] (([a1, a2, a3, a4] : List (List Int)).length : Int) i) (fun i => rd_L2 [a1, a2, a3, a4] (i : Int) = rd_L2 [b1, b2, b3, b4] (i : Int)) 4 1048590 true
  (by intro k _; show aV.l0 (k + 1) _ _ _ _ = _; rw [aV.l0, la, im])
  (by
   intro k i hk hi
   show aV.l0 (k + 1) _ _ _ _ = _
   rw [aV.l0, la, lb]
   have g1 : (i : Int) < ((4 : Nat) : Int) := by omega
   have g0 : (0 : Int) ≤ (i : Int) := by omega
   simp only [if_pos g1, if_pos g0]
   rw [slices_Equal_int64_int64_is k _ _ (hq i hi) hk, cF i (by omega)]
   simp only [ob, decide_eq_true_eq])
  k (by omega), Bool.and_true]
 congr 1
 apply decide_eq_decide.2
 constructor
 · intro h
   exact ⟨h 0 (by omega), h 1 (by omega), h 2 (by omega), h 3 (by omega)⟩
 ·
  rintro ⟨e1, e2, e3, e4⟩ i hi
  rcases i with _ | _ | _ | _ | i
  · exact e1
  · exact e2
  · exact e3
  · exact e4
  · omega
def okPlain (l1 l2 l3 l4 : List Int) : Prop := l1.length = 0 ∧ l2.length = 0 ∧ l3.length = 0 ∧ l4.length = 0
instance (l1 l2 l3 l4 : List Int) : Decidable (okPlain l1 l2 l3 l4) := by unfold okPlain; infer_instance
theorem sel_plain (a : Int) (l1 l2 l3 l4 : List Int) (ps : List S68) (hp : ps.length ≤ 1048576) (hq : ∀ y ∈ ps, QS68 y) (k : Nat) (hk : 3000000 ≤ k) :
 cJ.f k a ([] : List Int) ([] : List Int) ([] : List Int) ([] : List Int) ps a l1 l2 l3 l4 ps = some (decide (okPlain l1 l2 l3 l4)) := by
 unfold cJ.f impl_Selection_lists.f
 rw [if_pos rfl]
 simp only [ob]
 rw [lists_same [] [] [] [] l1 l2 l3 l4 (by simp) (by simp) (by simp) (by simp) k hk, point_same ps ps hp hq k hk]
 simp only [ob, decide_eq_true_eq]
 have e : (([] : List Int) = l1 ∧ ([] : List Int) = l2 ∧ ([] : List Int) = l3 ∧ ([] : List Int) = l4) ↔ (l1.length = 0 ∧ l2.length = 0 ∧ l3.length = 0 ∧ l4.length = 0) := by
  simp only [List.length_eq_zero_iff, eq_comm]
 by_cases h : okPlain l1 l2 l3 l4
 · rw [if_pos (e.2 h), decide_eq_true h]; simp
 · rw [if_neg (fun h' => h (e.1 h')), decide_eq_false h]
instance decBetween (i n : Nat) (P : Nat → Prop) [DecidablePred P] : Decidable (∀ j, i ≤ j → j < n → P j) := decidable_of_iff (∀ j, j < n → i ≤ j → P j) ⟨fun h j h1 h2 => h j h2 h1, fun h j h1 h2 => h j h2 h1⟩
theorem end_eq (a : Int) (l1 l2 l3 l4 : List Int) (ps : List S68) (i : Int) : spec_l06End.f a l1 l2 l3 l4 ps i = impl_Selection_end.f a l1 l2 l3 l4 ps i := rfl
theorem plain_spec (a : Int) (l1 l2 l3 l4 : List Int) (ps : List S68) : spec_l06Plain.f a l1 l2 l3 l4 ps = some (decide (okPlain l1 l2 l3 l4)) := by
 unfold spec_l06Plain.f
 by_cases h1 : l1.length = 0
 ·
  rw [ip]
  by_cases h2 : l2.length = 0
  ·
   rw [ip]
   by_cases h3 : l3.length = 0
   · rw [ip]
     congr 1
     by_cases h4 : l4.length = 0
     · rw [decide_eq_true (show okPlain l1 l2 l3 l4 from ⟨h1, h2, h3, h4⟩), h4]; rfl
     · rw [decide_eq_false (show ¬ okPlain l1 l2 l3 l4 from fun h => h4 h.2.2.2)]
       simp; exact fun h => h4 (by rw [h]; rfl)
   · rw [im, decide_eq_false (show ¬ okPlain l1 l2 l3 l4 from fun h => h3 h.2.2.1)]
  · rw [im, decide_eq_false (show ¬ okPlain l1 l2 l3 l4 from fun h => h2 h.2.1)]
 · rw [im, decide_eq_false (show ¬ okPlain l1 l2 l3 l4 from fun h => h1 h.1)]
/-- one dimension of a slab -/
def okD (l1 l2 l3 l4 : List Int) (i : Nat) : Prop := (0 ≤ rd l1 i ∧ rd l1 i ≤ 40) ∧ (1 ≤ rd l3 i ∧ rd l3 i ≤ 40) ∧ (1 ≤ rd l4 i ∧ rd l4 i ≤ 40) ∧ (rd l4 i ≤ rd l2 i ∧ rd l2 i ≤ 40) ∧ rd l1 i + (rd l3 i - 1) * rd l2 i + rd l4 i ≤ 40
instance (l1 l2 l3 l4 : List Int) (i : Nat) : Decidable (okD l1 l2 l3 l4 i) := by unfold okD; infer_instance
theorem end_val (a : Int) (l1 l2 l3 l4 : List Int) (ps : List S68) (i : Nat) (h1 : i < l1.length) (h2 : i < l2.length) (h3 : i < l3.length) (h4 : i < l4.length)
 (q1 : 0 ≤ rd l1 i ∧ rd l1 i ≤ 40) (q3 : 1 ≤ rd l3 i ∧ rd l3 i ≤ 40) (q4 : 1 ≤ rd l4 i ∧ rd l4 i ≤ 40) (q2 : rd l4 i ≤ rd l2 i ∧ rd l2 i ≤ 40) :
 spec_l06End.f a l1 l2 l3 l4 ps i = some (rd l1 i + (rd l3 i - 1) * rd l2 i + rd l4 i) := by
 unfold spec_l06End.f
 rw [ip, ip, ip, ip, ip]
 have hm : 0 ≤ (rd l3 i - 1) * rd l2 i := Int.mul_nonneg (by omega) (by omega)
 have hM : (rd l3 i - 1) * rd l2 i ≤ 40 * 40 := Int.mul_le_mul (by omega) (by omega) (by omega) (by omega)
 rw [cA (a := rd l3 i - 1) (by omega) (by omega), cA (a := (rd l3 i - 1) * rd l2 i) (by omega) (by omega), cA (a := rd l1 i + (rd l3 i - 1) * rd l2 i) (by omega) (by omega), cA (by omega) (by omega)]
theorem slab_spec (a : Int) (l1 l2 l3 l4 : List Int) (ps : List S68) (n : Nat) (hn : n ≤ 3) (h1 : l1.length = n) (h2 : l2.length = n) (h3 : l3.length = n) (h4 : l4.length = n) : ∀ (d k i : Nat), i + d = n → 2 * d < k →
 bI.l0 k n i a l1 l2 l3 l4 ps = some (decide (∀ j, i ≤ j → j < n → okD l1 l2 l3 l4 j)) := by
 intro d
 induction d with
 | zero =>
  intro k i hi hk
  obtain ⟨k, rfl⟩ := sk k
  rw [bI.l0, im, decide_eq_true]
  intro j hj hj2; omega
 | succ d ih =>
  intro k i hi hk
  obtain ⟨k, rfl⟩ : ∃ z, k = z + 2 := ⟨k - 2, by omega⟩
  have no : ∀ (h : ¬ okD l1 l2 l3 l4 i), decide (∀ j, i ≤ j → j < n → okD l1 l2 l3 l4 j) = false := fun h => decide_eq_false (fun h' => h (h' i (by omega) (by omega)))
  rw [bI.l0, ip, ip, ip, in_eq]
  simp only [ob, decide_eq_true_eq]
  by_cases q1 : 0 ≤ rd l1 i ∧ rd l1 i ≤ 40
  ·
   rw [if_pos q1, ip, in_eq]
   simp only [ob, decide_eq_true_eq]
   by_cases q3 : 1 ≤ rd l3 i ∧ rd l3 i ≤ 40
   ·
    rw [if_pos q3, ip, in_eq]
    simp only [ob, decide_eq_true_eq]
    by_cases q4 : 1 ≤ rd l4 i ∧ rd l4 i ≤ 40
    ·
     rw [if_pos q4, ip, in_eq]
     simp only [ob, decide_eq_true_eq]
     by_cases q2 : rd l4 i ≤ rd l2 i ∧ rd l2 i ≤ 40
     ·
      rw [if_pos q2, end_val a l1 l2 l3 l4 ps i (by omega) (by omega) (by omega) (by omega) q1 q3 q4 q2]
      simp only [ob]
      by_cases q5 : rd l1 i + (rd l3 i - 1) * rd l2 i + rd l4 i > 40
      · rw [if_pos q5, no (fun h => by have := h.2.2.2.2; omega)]
      ·
       rw [if_neg q5, cF i (by omega), ih (k + 1) (i + 1) (by omega) (by omega)]
       have hq : okD l1 l2 l3 l4 i := ⟨q1, q3, q4, q2, by omega⟩
       congr 1
       apply decide_eq_decide.2
       constructor
       · intro h j hj hj2
         by_cases hji : j = i
         · subst hji; exact hq
         · exact h j (by omega) hj2
       · intro h j hj hj2
         exact h j (by omega) hj2
     · rw [if_neg q2, no (fun h => q2 h.2.2.2.1)]
    · rw [if_neg q4, no (fun h => q4 h.2.2.1)]
   · rw [if_neg q3, no (fun h => q3 h.2.1)]
  · rw [if_neg q1, no (fun h => q1 h.1)]
theorem slab_same (a : Int) (l1 l2 l3 l4 : List Int) (ps : List S68) : ∀ k n i, aG.l0 k n i a l1 l2 l3 l4 ps = bI.l0 k n i a l1 l2 l3 l4 ps := by
 intro k
 induction k with
 | zero => intro n i; rfl
 | succ k ih =>
  intro n i
  rw [aG.l0, bI.l0]
  simp only [in_eq, within_eq, ob, end_eq, ih n _]
def okSlab (l1 l2 l3 l4 : List Int) : Prop := l1.length ≤ 3 ∧ l2.length = l1.length ∧ l3.length = l1.length ∧ l4.length = l1.length ∧ ∀ i, 0 ≤ i → i < l1.length → okD l1 l2 l3 l4 i
instance (l1 l2 l3 l4 : List Int) : Decidable (okSlab l1 l2 l3 l4) := by unfold okSlab; infer_instance
theorem slabF_spec (a : Int) (l1 l2 l3 l4 : List Int) (ps : List S68) (k : Nat) (hk : 100 ≤ k) : bI.f k a l1 l2 l3 l4 ps = some (decide (okSlab l1 l2 l3 l4 ∧ ps.length = 0)) := by
 obtain ⟨k, rfl⟩ : ∃ z, k = z + 2 := ⟨k - 2, by omega⟩
 unfold bI.f
 have no : ∀ (h : ¬ (okSlab l1 l2 l3 l4 ∧ ps.length = 0)), decide (okSlab l1 l2 l3 l4 ∧ ps.length = 0) = false := fun h => decide_eq_false h
 by_cases h3 : l1.length ≤ 3
 ·
  rw [im]
  by_cases q2 : l2.length = l1.length
  ·
   rw [ip]
   by_cases q3 : l3.length = l1.length
   ·
    rw [ip]
    by_cases q4 : l4.length = l1.length
    ·
     rw [ip, bI.j0]
     by_cases q5 : ps.length = 0
     · have h0 := slab_spec a l1 l2 l3 l4 ps l1.length h3 rfl q2 q3 q4 l1.length (k + 1) 0 (by omega) (by omega)
       rw [if_neg (by rw [decide_eq_true_eq]; omega)]
       rw [show bI.l0 (k + 1) (l1.length : Int) 0 a l1 l2 l3 l4 ps = _ from h0]
       congr 1
       apply decide_eq_decide.2
       exact ⟨fun h => ⟨⟨h3, q2, q3, q4, h⟩, q5⟩, fun h => h.1.2.2.2.2⟩
     · rw [if_pos (by rw [decide_eq_true_eq]; omega), no (fun h => q5 h.2)]
    · rw [im, bI.j0, if_pos rfl, no (fun h => q4 h.1.2.2.2.1)]
   · rw [im, bI.j0, if_pos rfl, no (fun h => q3 h.1.2.2.1)]
  · rw [im, bI.j0, if_pos rfl, no (fun h => q2 h.1.2.1)]
 · rw [ip, bI.j0, if_pos rfl, no (fun h => h3 h.1.1)]
theorem slabF_impl (a : Int) (l1 l2 l3 l4 : List Int) (ps : List S68) (k : Nat) (hk : 100 ≤ k) : aG.f k a l1 l2 l3 l4 ps = some (decide (okSlab l1 l2 l3 l4)) := by
 obtain ⟨k, rfl⟩ : ∃ z, k = z + 2 := ⟨k - 2, by omega⟩
 unfold aG.f
 have no : ∀ (h : ¬ (okSlab l1 l2 l3 l4)), decide (okSlab l1 l2 l3 l4) = false := fun h => decide_eq_false h
 by_cases h3 : l1.length ≤ 3
 ·
  rw [im]
  by_cases q2 : l2.length = l1.length
  ·
   rw [ip]
   by_cases q3 : l3.length = l1.length
   ·
    rw [ip, aG.j0]
    by_cases q4 : l4.length = l1.length
    · have h0 := slab_spec a l1 l2 l3 l4 ps l1.length h3 rfl q2 q3 q4 l1.length (k + 1) 0 (by omega) (by omega)
      have h4 : (l4.length : Int) = (l1.length : Int) := by omega
      rw [if_neg (by simp [h4]), slab_same a l1 l2 l3 l4 ps (k + 1) _ _]
      rw [show bI.l0 (k + 1) (l1.length : Int) 0 a l1 l2 l3 l4 ps = _ from h0]
      congr 1
      apply decide_eq_decide.2
      exact ⟨fun h => ⟨h3, q2, q3, q4, h⟩, fun h => h.2.2.2.2⟩
    · have h4 : ¬ (l4.length : Int) = (l1.length : Int) := by omega
      rw [if_pos (by simp [h4]), no (fun h => q4 h.2.2.2.1)]
   · rw [im, aG.j0, if_pos rfl, no (fun h => q3 h.2.2.1)]
  · rw [im, aG.j0, if_pos rfl, no (fun h => q2 h.2.1)]
 · rw [ip, aG.j0, if_pos rfl, no (fun h => h3 h.1)]
/-- one point of a selection -/
def okPt (ps : List S68) (i : Nat) : Prop := (bU ps i).f0.length = (bU ps 0).f0.length ∧ (bU ps i).f0.length ≤ 3 ∧ ∀ j, j < (bU ps i).f0.length → inI (bU ps i).f0 0 39 j
instance (ps : List S68) (i : Nat) : Decidable (okPt ps i) := by unfold okPt; infer_instance
theorem pt_inner (ps : List S68) (i : Nat) (hi : i < ps.length) (hp : ps.length ≤ 1048576) (hl : (bU ps i).f0.length ≤ 3) : ∀ (e k j : Nat), j + e = (bU ps i).f0.length → e < k →
 bP.l1 k ps i j = if ∀ m, j ≤ m → m < (bU ps i).f0.length → inI (bU ps i).f0 0 39 m then bP.l0 (k - e - 1) ps ((i + 1 : Nat) : Int) else some false := by
 intro e
 induction e with
 | zero =>
  intro k j hj hk
  obtain ⟨k, rfl⟩ := sk k
  rw [bP.l1, ip, ip, im, if_pos (by intro m h1 h2; omega), cF i (by omega)]
  rfl
 | succ e ih =>
  intro k j hj hk
  obtain ⟨k, rfl⟩ := sk k
  rw [bP.l1, ip, ip, ip, ip, in_eq]
  simp only [ob, decide_eq_true_eq]
  by_cases hc : 0 ≤ rd (bU ps i).f0 j ∧ rd (bU ps i).f0 j ≤ 39
  ·
   rw [if_pos hc, cF j (by omega), ih k (j + 1) (by omega) (by omega)]
   have hk' : k + 1 - (e + 1) - 1 = k - e - 1 := by omega
   rw [hk']
   congr 1
   apply propext
   constructor
   · intro h m h1 h2
     by_cases hmj : m = j
     · subst hmj; exact hc
     · exact h m (by omega) h2
   · intro h m h1 h2
     exact h m (by omega) h2
  · rw [if_neg hc, if_neg]
    intro h
    exact hc (h j (by omega) (by omega))
theorem pt_loop (ps : List S68) (hp : ps.length ≤ 1048576) : ∀ (d k i : Nat), i + d = ps.length → 10 * d + 10 < k →
 bP.l0 k ps i = some (decide (∀ m, i ≤ m → m < ps.length → okPt ps m)) := by
 intro d
 induction d with
 | zero =>
  intro k i hi hk
  obtain ⟨k, rfl⟩ := sk k
  rw [bP.l0, im, decide_eq_true]
  intro m h1 h2; omega
 | succ d ih =>
  intro k i hi hk
  obtain ⟨k, rfl⟩ : ∃ z, k = z + 2 := ⟨k - 2, by omega⟩
  have no : ∀ (h : ¬ okPt ps i), decide (∀ m, i ≤ m → m < ps.length → okPt ps m) = false := fun h => decide_eq_false (fun h' => h (h' i (by omega) (by omega)))
  rw [bP.l0, ip, ip, ip, bP.j1, bP.j1]
  by_cases q1 : (bU ps i).f0.length = (bU ps 0).f0.length
  ·
   rw [ip]
   by_cases q2 : (bU ps i).f0.length ≤ 3
   ·
    have h0 := pt_inner ps i (by omega) hp q2 (bU ps i).f0.length k 0 (by omega) (by omega)
    rw [if_neg (by simp; omega)]
    rw [show bP.l1 k ps (i : Int) 0 = _ from h0]
    by_cases q3 : ∀ m, 0 ≤ m → m < (bU ps i).f0.length → inI (bU ps i).f0 0 39 m
    ·
     rw [if_pos q3, ih _ (i + 1) (by omega) (by omega)]
     congr 1
     apply decide_eq_decide.2
     constructor
     · intro h m h1 h2
       by_cases hmi : m = i
       · subst hmi; exact ⟨q1, q2, fun j hj => q3 j (by omega) hj⟩
       · exact h m (by omega) h2
     · intro h m h1 h2
       exact h m (by omega) h2
    · rw [if_neg q3, no (fun h => q3 (fun m _ h2 => h.2.2 m h2))]
   · rw [if_pos (by simp; omega), no (fun h => q2 h.2.1)]
  · rw [im, if_pos rfl, no (fun h => q1 h.1)]
def okPts (ps : List S68) : Prop := (1 ≤ ps.length ∧ ps.length ≤ 24) ∧ ∀ m, 0 ≤ m → m < ps.length → okPt ps m
instance (ps : List S68) : Decidable (okPts ps) := by unfold okPts; infer_instance
theorem points_spec (ps : List S68) (hp : ps.length ≤ 1048576) (k : Nat) (hk : 11000000 ≤ k) : bP.f k ps = some (decide (okPts ps)) := by
 unfold bP.f
 rw [in_eq]
 simp only [ob, decide_eq_true_eq]
 by_cases h1 : 1 ≤ ps.length ∧ ps.length ≤ 24
 ·
  have h0 := pt_loop ps hp ps.length k 0 (by omega) (by omega)
  rw [if_pos (show 1 ≤ (ps.length : Int) ∧ (ps.length : Int) ≤ 24 by omega)]
  rw [show bP.l0 k ps 0 = _ from h0]
  congr 1
  apply decide_eq_decide.2
  exact ⟨fun h => ⟨h1, h⟩, fun h => h.2⟩
 · rw [im, decide_eq_false (fun h => h1 h.1)]
theorem points_impl (a : Int) (l1 l2 l3 l4 : List Int) (ps : List S68) (hp : ps.length ≤ 1048576) (hq : ∀ y ∈ ps, QS68 y) (k : Nat) (hk : 3000000 ≤ k) : impl_Selection_pointsFormed.f k a l1 l2 l3 l4 ps = some (decide (okPts ps)) := by
 unfold impl_Selection_pointsFormed.f cM.f aQ.f
 rw [within_eq]
 simp only [ob, decide_eq_true_eq]
 have hql : ∀ i, i < ps.length → (bU ps (i : Int)).f0.length ≤ 1048576 := by
  intro i hi
  have : bU ps (i : Int) = ps[i] := getD_lt ps z68 i hi
  rw [this]
  have h := hq _ (List.getElem_mem hi)
  unfold QS68 at h
  omega
 by_cases h1 : 1 ≤ ps.length ∧ ps.length ≤ 24
 ·
  rw [if_pos (show 1 ≤ (ps.length : Int) ∧ (ps.length : Int) ≤ 24 by omega), ip]
  by_cases h3 : (bU ps 0).f0.length ≤ 3
  ·
   have hg := find_loop (fun k i => aQ.l0 k ps ps.length i ((bU ps 0).f0.length : Int)) (fun i => ¬ okPt ps i) ps.length 1048590
    (by intro k _; show aQ.l0 (k + 1) ps _ _ _ = _; rw [aQ.l0, im])
    (by
     intro k i hk hi
     show aQ.l0 (k + 1) ps _ _ _ = _
     rw [aQ.l0, ip, ip, ip, cF i (by omega)]
     unfold impl_Selection_pointsFormed_1.f
     by_cases q1 : (bU ps i).f0.length = (bU ps 0).f0.length
     · rw [ip, withinI (bU ps i).f0 0 39 (hql i hi) k hk]
       simp only [ob]
       by_cases q2 : ∀ j, j < (bU ps i).f0.length → inI (bU ps i).f0 0 39 j
       · have : okPt ps i := ⟨q1, by omega, q2⟩
         rw [decide_eq_true q2, if_neg (by simp), if_neg (fun h => h this)]
       · have : ¬ okPt ps i := fun h => q2 h.2.2
         rw [decide_eq_false q2, if_pos (show (!false) = true from rfl), if_pos this]
     · have : ¬ okPt ps i := fun h => q1 h.1
       rw [im, if_pos this]
       rfl)
    k (by omega)
   rw [if_pos (show ((bU ps 0).f0.length : Int) ≤ 3 by omega)]
   rw [show aQ.l0 k ps (ps.length : Int) 0 ((bU ps 0).f0.length : Int) = _ from hg]
   simp only [ob]
   rcases look_or (fun i => ¬ okPt ps i) ps.length 0 with ⟨h4, h5⟩ | ⟨j, -, h4, h5, h6⟩
   · rw [h4]
     have h7 : okPts ps := ⟨h1, fun i _ hi => Decidable.not_not.1 (h5 i (by omega) (by omega))⟩
     rw [decide_eq_true h7]; rfl
   · rw [h5]
     have h7 : ¬ okPts ps := fun h => h6 (h.2 j (by omega) (by omega))
     have h8 : (j : Int) ≥ 0 := by omega
     rw [decide_eq_false h7]; simp [h8]
  · rw [im, decide_eq_false]
    intro h
    have := (h.2 0 (by omega) (by omega)).2.1
    exact h3 this
 · rw [im, decide_eq_false (fun h => h1 h.1)]
/-- the whole of it -/
def okF (a : Int) (l1 l2 l3 l4 : List Int) (ps : List S68) : Prop := (a = 1 ∨ a = 2) ∧ okPlain l1 l2 l3 l4 ∧ ps.length = 0 ∨ a = 3 ∧ okSlab l1 l2 l3 l4 ∧ ps.length = 0 ∨ a = 4 ∧ okPlain l1 l2 l3 l4 ∧ okPts ps
instance (a : Int) (l1 l2 l3 l4 : List Int) (ps : List S68) : Decidable (okF a l1 l2 l3 l4 ps) := by unfold okF; infer_instance
theorem formed_spec (a : Int) (l1 l2 l3 l4 : List Int) (ps : List S68) (hp : ps.length ≤ 1048576) (k : Nat) (hk : 11000010 ≤ k) : spec_l06Formed.f k a l1 l2 l3 l4 ps = some (decide (okF a l1 l2 l3 l4 ps)) := by
 obtain ⟨k, rfl⟩ := sk k
 unfold spec_l06Formed.f
 have hb : (if a = 1 then spec_l06Formed.j0 (k + 1) a (a == 1) a l1 l2 l3 l4 ps else spec_l06Formed.j0 (k + 1) a (a == 2) a l1 l2 l3 l4 ps) = spec_l06Formed.j0 (k + 1) a (decide (a = 1 ∨ a = 2)) a l1 l2 l3 l4 ps := by
  by_cases h1 : a = 1
  · rw [if_pos h1]; congr 1; simp [h1]
  · rw [if_neg h1]; congr 1; simp [h1]; rfl
 rw [hb, spec_l06Formed.j0, plain_spec, slabF_spec a l1 l2 l3 l4 ps k (by omega), points_spec ps hp k (by omega)]
 simp only [ob, decide_eq_true_eq]
 unfold okF
 by_cases h12 : a = 1 ∨ a = 2
 ·
  rw [if_pos h12]
  by_cases hpl : okPlain l1 l2 l3 l4
  · rw [if_pos hpl]
    have h3 : ¬ a = 3 := by omega
    have h4 : ¬ a = 4 := by omega
    have e5 : ((ps.length : Int) == 0) = decide (ps.length = 0) := by rw [Bool.eq_iff_iff]; simp
    rw [e5]
    simp [h12, hpl, h3, h4]
  · rw [if_neg hpl]
    have h3 : ¬ a = 3 := by omega
    simp [hpl, h3]
 ·
  rw [if_neg h12]
  by_cases h3 : a = 3
  · rw [if_pos h3]
    have h4 : ¬ a = 4 := by omega
    simp [h12, h3]
  ·
   rw [if_neg h3]
   by_cases h4 : a = 4
   · rw [if_pos h4]
     by_cases hpl : okPlain l1 l2 l3 l4
     · simp [h4, hpl]
     · simp [h4, hpl]
   · rw [if_neg h4]
     simp [h12, h3, h4]
theorem formed_impl (a : Int) (l1 l2 l3 l4 : List Int) (ps : List S68) (hp : ps.length ≤ 1048576) (hq : ∀ y ∈ ps, QS68 y) (k : Nat) (hk : 11000010 ≤ k) : cG.f k a l1 l2 l3 l4 ps = some (decide (okF a l1 l2 l3 l4 ps)) := by
 obtain ⟨k, rfl⟩ := sk k
 unfold cG.f
 rw [sel_plain a l1 l2 l3 l4 ps hp hq _ (by omega)]
 simp only [ob]
 generalize hpp : decide (okPlain l1 l2 l3 l4) = p
 have hb : (if a = 1 then cG.j0 (k + 1) p a (a == 1) a l1 l2 l3 l4 ps else cG.j0 (k + 1) p a (a == 2) a l1 l2 l3 l4 ps) = cG.j0 (k + 1) p a (decide (a = 1 ∨ a = 2)) a l1 l2 l3 l4 ps := by
  by_cases h1 : a = 1
  · rw [if_pos h1]; congr 1; simp [h1]
  · rw [if_neg h1]; congr 1; simp [h1]; rfl
 rw [hb, cG.j0, slabF_impl a l1 l2 l3 l4 ps k (by omega), points_impl a l1 l2 l3 l4 ps hp hq k (by omega), ← hpp]
 simp only [ob, decide_eq_true_eq]
 unfold okF
 by_cases h12 : a = 1 ∨ a = 2
 ·
  rw [if_pos h12]
  by_cases hpl : okPlain l1 l2 l3 l4
  · rw [if_pos hpl]
    have h3 : ¬ a = 3 := by omega
    have h4 : ¬ a = 4 := by omega
    have e5 : ((ps.length : Int) == 0) = decide (ps.length = 0) := by rw [Bool.eq_iff_iff]; simp
    rw [e5]
    simp [h12, hpl, h3, h4]
  · rw [if_neg hpl]
    have h3 : ¬ a = 3 := by omega
    simp [hpl, h3]
 ·
  rw [if_neg h12]
  by_cases h3 : a = 3
  ·
   rw [if_pos h3]
   have h4 : ¬ a = 4 := by omega
   by_cases h5 : ps.length = 0
   · rw [ip]
     simp only [h12, h3, h5, false_and, true_and, and_true, false_or]
     simp
   · rw [im]
     simp only [h12, h3, h5, false_and, true_and, and_false, false_or]
     simp
  ·
   rw [if_neg h3]
   by_cases h4 : a = 4
   · rw [if_pos h4]
     by_cases hpl : okPlain l1 l2 l3 l4
     · simp [h4, hpl]
     · simp [h4, hpl]
   · rw [if_neg h4]
     simp [h12, h3, h4]
def prodL : List Int → Int := fun l => l.foldl (· * ·) 1
def VD (l : List Int) : Prop := l.length ≤ 3 ∧ (∀ x ∈ l, 0 ≤ x ∧ x ≤ 40) ∧ prodL l ≤ 600
instance (l : List Int) : Decidable (VD l) := by unfold VD; infer_instance
theorem mul_le {a b A B : Int} (ha : 0 ≤ a) (hb : 0 ≤ b) (hA : a ≤ A) (hB : b ≤ B) : 0 ≤ a * b ∧ a * b ≤ A * B :=
 ⟨Int.mul_nonneg ha hb, Int.mul_le_mul hA hB hb (by omega)⟩
theorem dims_spec (k : Nat) (l : List Int) (hk : 4 < k) : cP.f k l = some (decide (VD l)) := by
 unfold cP.f
 by_cases h3 : (l.length : Int) > 3
 · rw [if_pos h3]
   have : ¬ VD l := fun h => by have := h.1; omega
   simp [this]
 ·
  rw [if_neg h3]
  obtain ⟨k, rfl⟩ : ∃ z, k = z + 5 := ⟨k - 5, by omega⟩
  match l, h3 with
  | [], _ => simp [cP.l0, VD, prodL]
  | [a], _ =>
   by_cases ha : 0 ≤ a ∧ a ≤ 40
   · simp [cP.l0, VD, prodL, in_eq, rd, ha, w1, cA (a := a) (by omega) (by omega)]
   · simp [cP.l0, VD, prodL, in_eq, rd, ha]
  | [a, b], _ =>
   by_cases ha : 0 ≤ a ∧ a ≤ 40
   · by_cases hb : 0 ≤ b ∧ b ≤ 40
     · have h1 := mul_le ha.1 hb.1 ha.2 hb.2
       simp [cP.l0, VD, prodL, in_eq, rd, ha, hb, cA (a := a) (by omega) (by omega), cA (a := a * b) (by omega) (by omega), w1, w2]
     · simp [cP.l0, VD, prodL, in_eq, rd, ha, hb, cA (a := a) (by omega) (by omega), w1]
   · simp [cP.l0, VD, prodL, in_eq, rd, ha]
  | [a, b, c], _ =>
   by_cases ha : 0 ≤ a ∧ a ≤ 40
   · by_cases hb : 0 ≤ b ∧ b ≤ 40
     · have h1 := mul_le ha.1 hb.1 ha.2 hb.2
       by_cases hc : 0 ≤ c ∧ c ≤ 40
       · have h2 := mul_le h1.1 hc.1 h1.2 hc.2
         simp [cP.l0, VD, prodL, in_eq, rd, ha, hb, hc, cA (a := a) (by omega) (by omega), cA (a := a * b) (by omega) (by omega), cA (a := a * b * c) (by omega) (by omega), w1, w2, w3]
       · simp [cP.l0, VD, prodL, in_eq, rd, ha, hb, hc, cA (a := a) (by omega) (by omega), cA (a := a * b) (by omega) (by omega), w1, w2]
     · simp [cP.l0, VD, prodL, in_eq, rd, ha, hb, cA (a := a) (by omega) (by omega), w1]
   · simp [cP.l0, VD, prodL, in_eq, rd, ha]
  | a :: b :: c :: d :: l, h => simp at h; omega
theorem within_all (k : Nat) (l : List Int) (a b : Int) (hl : l.length ≤ 1048576) (hk : l.length < k) : impl_allWithin.f k l a b = some (decide (∀ x ∈ l, a ≤ x ∧ x ≤ b)) := by
 unfold impl_allWithin.f slices_ContainsFunc_impl_allWithin_1.f aN.f
 obtain ⟨r, h, hr⟩ := count_loop (fun k (_ : Unit) i => aN.l0 k l (l.length : Int) i a b) l.length 0 (fun i _ => ∀ x ∈ l.take i, a ≤ x ∧ x ≤ b) (fun r => decide (r ≥ 0) = !decide (∀ x ∈ l, a ≤ x ∧ x ≤ b))
  (by
   rintro k s - h1
   refine ⟨-1, by show aN.l0 (k + 1) l _ _ a b = _; rw [aN.l0, im], ?_⟩
   rw [List.take_length] at h1
   simp [h1]
   exact h1)
  (by
   rintro k s i - hi h1
   by_cases he : a ≤ l[i] ∧ l[i] ≤ b
   ·
    refine .inl ⟨(), ?_, ?_⟩
    · intro x hx
      rw [List.take_succ_eq_append_getElem hi, List.mem_append] at hx
      rcases hx with hx | hx
      · exact h1 x hx
      · simp at hx; subst hx; exact he
    · show aN.l0 (k + 1) l _ _ a b = _
      rw [aN.l0, ip, ip, ip, rd_lt l i hi, impl_allWithin_1.f, within_eq, cF i (by omega)]
      simp [he]
   · refine .inr ⟨i, ?_, ?_⟩
     · show aN.l0 (k + 1) l _ _ a b = _
       rw [aN.l0, ip, ip, ip, rd_lt l i hi, impl_allWithin_1.f, within_eq]
       simp [he]
     · have hx : ¬ ∀ x ∈ l, a ≤ x ∧ x ≤ b := fun h => he (h _ (List.getElem_mem hi))
       simp [hx])
  k () 0 (by omega) (by omega) (by simp)
 have h' : aN.l0 k l (l.length : Int) 0 a b = some r := h
 rw [h']
 simp [hr]
theorem dims_impl (k : Nat) (l : List Int) (hk : 4 < k) : impl_ValidDims.f k l = some (decide (VD l)) := by
 unfold impl_ValidDims.f
 by_cases h3 : (l.length : Int) ≤ 3
 ·
  rw [if_pos h3, within_all k l 0 40 (by omega) (by omega)]
  by_cases hw : ∀ x ∈ l, 0 ≤ x ∧ x ≤ 40
  ·
   rw [decide_eq_true hw]
   have hp : impl_product.f k l = some (prodL l) := by
    unfold impl_product.f
    obtain ⟨k, rfl⟩ : ∃ z, k = z + 5 := ⟨k - 5, by omega⟩
    match l, h3, hw with
    | [], _, _ => simp [impl_product.l0, prodL]
    | [a], _, hw =>
     have ha := hw a (by simp)
     simp [impl_product.l0, prodL, rd, w1, cA (a := a) (by omega) (by omega)]
    | [a, b], _, hw =>
     have ha := hw a (by simp)
     have hb := hw b (by simp)
     have h1 := mul_le ha.1 hb.1 ha.2 hb.2
     simp [impl_product.l0, prodL, rd, cA (a := a) (by omega) (by omega), cA (a := a * b) (by omega) (by omega), w1, w2]
    | [a, b, c], _, hw =>
     have ha := hw a (by simp)
     have hb := hw b (by simp)
     have hc := hw c (by simp)
     have h1 := mul_le ha.1 hb.1 ha.2 hb.2
     have h2 := mul_le h1.1 hc.1 h1.2 hc.2
     simp [impl_product.l0, prodL, rd, cA (a := a) (by omega) (by omega), cA (a := a * b) (by omega) (by omega), cA (a := a * b * c) (by omega) (by omega), w1, w2, w3]
    | a :: b :: c :: d :: l, h, _ => simp at h; omega
   have : VD l ↔ prodL l ≤ 600 := ⟨fun h => h.2.2, fun h => ⟨by omega, hw, h⟩⟩
   simp only [ob, if_true, hp]
   rw [decide_eq_decide.mpr this]
  · have : ¬ VD l := fun h => hw h.2.1
    simp [hw, this]
 · rw [if_neg h3]
   have : ¬ VD l := fun h => by have := h.1; omega
   simp [this]
def endv (l1 l2 l3 l4 : List Int) (i : Nat) : Int := rd l1 i + (rd l3 i - 1) * rd l2 i + rd l4 i
def okIn (d p : List Int) : Prop := p.length = d.length ∧ ∀ i, i < p.length → (0 ≤ rd p (i : Int) ∧ rd p (i : Int) ≤ wrap64 (rd d (i : Int) - 1))
instance (d p : List Int) : Decidable (okIn d p) := by unfold okIn; infer_instance
theorem inside_spec (d p : List Int) (hp : p.length ≤ 1048576) (k : Nat) (hk : 1048590 ≤ k) : spec_l05Inside.f k d p = some (decide (okIn d p)) := by
 unfold spec_l05Inside.f
 by_cases hn : p.length = d.length
 ·
  rw [ip, seq_loop (fun k i => spec_l05Inside.l0 k d p i) (fun i => 0 ≤ rd p (i : Int) ∧ rd p (i : Int) ≤ wrap64 (rd d (i : Int) - 1)) p.length
   (by intro k; show spec_l05Inside.l0 (k + 1) d p _ = _; rw [spec_l05Inside.l0, im])
   (by
    intro k i hi
    show spec_l05Inside.l0 (k + 1) d p _ = _
    rw [spec_l05Inside.l0, ip, ip, ip, cF i (by omega), in_eq]
    simp only [ob, decide_eq_true_eq])
   k (by omega)]
  congr 1
  apply decide_eq_decide.2
  exact ⟨fun h => ⟨hn, h⟩, fun h => h.2⟩
 · rw [im, decide_eq_false (fun h => hn h.1)]
theorem inside_impl (d p : List Int) (hp : p.length ≤ 1048576) (k : Nat) (hk : 1048590 ≤ k) : impl_inDims.f k d p = some (decide (okIn d p)) := by
 unfold impl_inDims.f
 by_cases hn : p.length = d.length
 ·
  rw [ip, seq_loop (fun k i => impl_inDims.l0 k d p p.length i) (fun i => 0 ≤ rd p (i : Int) ∧ rd p (i : Int) ≤ wrap64 (rd d (i : Int) - 1)) p.length
   (by intro k; show impl_inDims.l0 (k + 1) d p _ _ = _; rw [impl_inDims.l0, im])
   (by
    intro k i hi
    show impl_inDims.l0 (k + 1) d p _ _ = _
    rw [impl_inDims.l0, ip, ip, ip, ip, cF i (by omega), within_eq]
    simp only [ob, decide_eq_true_eq])
   k (by omega)]
  congr 1
  apply decide_eq_decide.2
  exact ⟨fun h => ⟨hn, h⟩, fun h => h.2⟩
 · rw [im, decide_eq_false (fun h => hn h.1)]
theorem end_okD (a : Int) (l1 l2 l3 l4 : List Int) (ps : List S68) (h : okSlab l1 l2 l3 l4) (i : Nat) (hi : i < l1.length) : spec_l06End.f a l1 l2 l3 l4 ps i = some (endv l1 l2 l3 l4 i) := by
 obtain ⟨h1, h2, h3, h4, h5⟩ := h
 have hd := h5 i (by omega) hi
 exact end_val a l1 l2 l3 l4 ps i hi (by omega) (by omega) (by omega) hd.1 hd.2.1 hd.2.2.1 hd.2.2.2.1
def okFitS (d l1 l2 l3 l4 : List Int) : Prop := l1.length = d.length ∧ ∀ i, i < d.length → endv l1 l2 l3 l4 i ≤ rd d (i : Int)
instance (d l1 l2 l3 l4 : List Int) : Decidable (okFitS d l1 l2 l3 l4) := by unfold okFitS; infer_instance
def okFitP (d : List Int) (ps : List S68) : Prop := ∀ i, i < ps.length → okIn d (bU ps (i : Int)).f0
instance (d : List Int) (ps : List S68) : Decidable (okFitP d ps) := by unfold okFitP; infer_instance
theorem fitS_spec (a : Int) (d l1 l2 l3 l4 : List Int) (ps : List S68) (hs : okSlab l1 l2 l3 l4) (hd : l1.length = d.length) (k : Nat) (hk : 100 ≤ k) : bA.l0 k d 0 a l1 l2 l3 l4 ps = some (decide (okFitS d l1 l2 l3 l4)) := by
 have h3 := hs.1
 rw [seq_loop (fun k i => bA.l0 k d i a l1 l2 l3 l4 ps) (fun i => endv l1 l2 l3 l4 i ≤ rd d (i : Int)) d.length
  (by intro k; show bA.l0 (k + 1) d _ a l1 l2 l3 l4 ps = _; rw [bA.l0, im])
  (by
   intro k i hi
   show bA.l0 (k + 1) d _ a l1 l2 l3 l4 ps = _
   rw [bA.l0, ip, end_okD a l1 l2 l3 l4 ps hs i (by omega), cF i (by omega)]
   simp only [ob]
   rw [if_pos (show (0 : Int) ≤ (i : Int) by omega)]
   by_cases h : endv l1 l2 l3 l4 i ≤ rd d (i : Int)
   · rw [if_neg (show ¬ endv l1 l2 l3 l4 i > rd d (i : Int) by omega), if_pos h]
   · rw [if_pos (show endv l1 l2 l3 l4 i > rd d (i : Int) by omega), if_neg h])
  k (by omega)]
 congr 1
 apply decide_eq_decide.2
 exact ⟨fun h => ⟨hd, h⟩, fun h => h.2⟩
theorem fitS_impl (a : Int) (d l1 l2 l3 l4 : List Int) (ps : List S68) (hs : okSlab l1 l2 l3 l4) (hd : l1.length = d.length) (k : Nat) (hk : 100 ≤ k) : cN.l0 k d d.length 0 a l1 l2 l3 l4 ps = some (decide (okFitS d l1 l2 l3 l4)) := by
 have h3 := hs.1
 rw [seq_loop (fun k i => cN.l0 k d d.length i a l1 l2 l3 l4 ps) (fun i => endv l1 l2 l3 l4 i ≤ rd d (i : Int)) d.length
  (by intro k; show cN.l0 (k + 1) d _ _ a l1 l2 l3 l4 ps = _; rw [cN.l0, im])
  (by
   intro k i hi
   show cN.l0 (k + 1) d _ _ a l1 l2 l3 l4 ps = _
   rw [cN.l0, ip, ip, ip, ← end_eq, end_okD a l1 l2 l3 l4 ps hs i (by omega), cF i (by omega)]
   simp only [ob]
   by_cases h : endv l1 l2 l3 l4 i ≤ rd d (i : Int)
   · rw [if_neg (show ¬ endv l1 l2 l3 l4 i > rd d (i : Int) by omega), if_pos h]
   · rw [if_pos (show endv l1 l2 l3 l4 i > rd d (i : Int) by omega), if_neg h])
  k (by omega)]
 congr 1
 apply decide_eq_decide.2
 exact ⟨fun h => ⟨hd, h⟩, fun h => h.2⟩
theorem pts_len (ps : List S68) (hq : ∀ y ∈ ps, QS68 y) (i : Nat) (hi : i < ps.length) : (bU ps (i : Int)).f0.length ≤ 1048576 := by
 have : bU ps (i : Int) = ps[i] := getD_lt ps z68 i hi
 rw [this]
 have h := hq _ (List.getElem_mem hi)
 unfold QS68 at h
 omega
theorem fitP_spec (a : Int) (d l1 l2 l3 l4 : List Int) (ps : List S68) (hp : ps.length ≤ 1048576) (hq : ∀ y ∈ ps, QS68 y) (k : Nat) (hk : 3000000 ≤ k) : bA.l1 k d 0 a l1 l2 l3 l4 ps = some (decide (okFitP d ps)) := by
 rw [all_loop (fun k i => bA.l1 k d i a l1 l2 l3 l4 ps) (fun i => okIn d (bU ps (i : Int)).f0) ps.length 1048590 true
  (by intro k _; show bA.l1 (k + 1) d _ a l1 l2 l3 l4 ps = _; rw [bA.l1, im])
  (by
   intro k i hk hi
   show bA.l1 (k + 1) d _ a l1 l2 l3 l4 ps = _
   rw [bA.l1, ip, ip, inside_spec d _ (pts_len ps hq i hi) k hk, cF i (by omega)]
   simp only [ob, decide_eq_true_eq])
  k (by omega), Bool.and_true]
 rfl
theorem fitP_impl (d : List Int) (ps : List S68) (hp : ps.length ≤ 1048576) (hq : ∀ y ∈ ps, QS68 y) (k : Nat) (hk : 3000000 ≤ k) : cS.f k ps d = some (!decide (okFitP d ps)) := by
 unfold cS.f aZ.f
 rw [find_loop (fun k i => aZ.l0 k ps ps.length i d) (fun i => ¬ okIn d (bU ps (i : Int)).f0) ps.length 1048590
  (by intro k _; show aZ.l0 (k + 1) ps _ _ d = _; rw [aZ.l0, im])
  (by
   intro k i hk hi
   show aZ.l0 (k + 1) ps _ _ d = _
   rw [aZ.l0, ip, ip, ip, cF i (by omega)]
   unfold impl_Selection_fits_1.f
   rw [inside_impl d _ (pts_len ps hq i hi) k hk]
   simp only [ob]
   by_cases h : okIn d (bU ps (i : Int)).f0 <;> simp [h])
  k (by omega)]
 simp only [ob]
 rcases look_or (fun i => ¬ okIn d (bU ps (i : Int)).f0) ps.length 0 with ⟨h4, h5⟩ | ⟨j, -, h4, h5, h6⟩
 · rw [h4]
   have h7 : okFitP d ps := fun i hi => Decidable.not_not.1 (h5 i (by omega) (by omega))
   rw [decide_eq_true h7]; rfl
 · rw [h5]
   have h7 : ¬ okFitP d ps := fun h => h6 (h j (by omega))
   have h8 : (j : Int) ≥ 0 := by omega
   rw [decide_eq_false h7]; simp [h8]
def okV (d : List Int) (a : Int) (l1 l2 l3 l4 : List Int) (ps : List S68) : Prop := VD d ∧ okF a l1 l2 l3 l4 ps ∧ (a = 3 → okFitS d l1 l2 l3 l4) ∧ (a = 4 → okFitP d ps)
instance (d : List Int) (a : Int) (l1 l2 l3 l4 : List Int) (ps : List S68) : Decidable (okV d a l1 l2 l3 l4 ps) := by unfold okV; infer_instance
theorem okF_slab {a : Int} {l1 l2 l3 l4 : List Int} {ps : List S68} (h : okF a l1 l2 l3 l4 ps) (ha : a = 3) : okSlab l1 l2 l3 l4 := by
 rcases h with h | h | h
 · omega
 · exact h.2.1
 · omega
theorem valid_spec (d : List Int) (a : Int) (l1 l2 l3 l4 : List Int) (ps : List S68) (hp : ps.length ≤ 1048576) (hq : ∀ y ∈ ps, QS68 y) (k : Nat) (hk : 11000020 ≤ k) : bA.f k d a l1 l2 l3 l4 ps = some (decide (okV d a l1 l2 l3 l4 ps)) := by
 unfold bA.f
 rw [dims_spec k d (by omega), formed_spec a l1 l2 l3 l4 ps hp k (by omega)]
 obtain ⟨k, rfl⟩ := sk k
 simp only [ob, decide_eq_true_eq]
 by_cases hd : VD d
 ·
  rw [if_pos hd, bA.j0]
  by_cases hf : okF a l1 l2 l3 l4 ps
  ·
   rw [decide_eq_true hf, if_neg (by simp)]
   by_cases h3 : a = 3
   · rw [if_pos h3]
     by_cases hl : l1.length = d.length
     · rw [ip, fitS_spec a d l1 l2 l3 l4 ps (okF_slab hf h3) hl k (by omega)]
       congr 1
       apply decide_eq_decide.2
       exact ⟨fun h => ⟨hd, hf, fun _ => h, fun h4 => by omega⟩, fun h => h.2.2.1 h3⟩
     · rw [im, decide_eq_false (fun h => hl (h.2.2.1 h3).1)]
   · rw [if_neg h3]
     by_cases h4 : a = 4
     · rw [if_pos h4, fitP_spec a d l1 l2 l3 l4 ps hp hq k (by omega)]
       congr 1
       apply decide_eq_decide.2
       exact ⟨fun h => ⟨hd, hf, fun h => by omega, fun _ => h⟩, fun h => h.2.2.2 h4⟩
     · rw [if_neg h4, decide_eq_true (show okV d a l1 l2 l3 l4 ps from ⟨hd, hf, fun h => absurd h h3, fun h => absurd h h4⟩)]
  · rw [decide_eq_false hf, if_pos (show (!false) = true from rfl), decide_eq_false (fun h => hf h.2.1)]
 · rw [if_neg hd, bA.j0, if_pos rfl, decide_eq_false (fun h => hd h.1)]
theorem valid_impl (d : List Int) (a : Int) (l1 l2 l3 l4 : List Int) (ps : List S68) (hp : ps.length ≤ 1048576) (hq : ∀ y ∈ ps, QS68 y) (k : Nat) (hk : 11000020 ≤ k) : impl_ValidSelection.f k d a l1 l2 l3 l4 ps = some (decide (okV d a l1 l2 l3 l4 ps)) := by
 unfold impl_ValidSelection.f cN.f
 rw [dims_impl k d (by omega), formed_impl a l1 l2 l3 l4 ps hp hq k (by omega)]
 simp only [ob, decide_eq_true_eq]
 by_cases hd : VD d
 ·
  rw [if_pos hd]
  by_cases hf : okF a l1 l2 l3 l4 ps
  ·
   rw [if_pos hf]
   by_cases h3 : a = 3
   ·
    rw [if_pos h3]
    by_cases hl : l1.length = d.length
    · rw [ip, fitS_impl a d l1 l2 l3 l4 ps (okF_slab hf h3) hl k (by omega)]
      simp only [ob]
      congr 1
      apply decide_eq_decide.2
      exact ⟨fun h => ⟨hd, hf, fun _ => h, fun h4 => by omega⟩, fun h => h.2.2.1 h3⟩
    · rw [im, decide_eq_false (show ¬ okV d a l1 l2 l3 l4 ps from fun h => hl (h.2.2.1 h3).1)]
      rfl
   ·
    rw [if_neg h3]
    by_cases h4 : a = 4
    · rw [if_pos h4, fitP_impl d ps hp hq k (by omega)]
      simp only [ob, Bool.not_not]
      congr 1
      apply decide_eq_decide.2
      exact ⟨fun h => ⟨hd, hf, fun h => by omega, fun _ => h⟩, fun h => h.2.2.2 h4⟩
    · rw [if_neg h4, decide_eq_true (show okV d a l1 l2 l3 l4 ps from ⟨hd, hf, fun h => absurd h h3, fun h => absurd h h4⟩)]
      rfl
  · rw [if_neg hf, decide_eq_false (fun h => hf h.2.1)]
 · rw [if_neg hd, decide_eq_false (fun h => hd h.1)]
theorem flat_loop {ρ : Type} (L : Nat → List Int → Int → Option ρ) (C : Nat → List Int → Option ρ) (G : Nat → List Int) (n cost m g : Nat)
 (hlen : ∀ i, i < n → (G i).length ≤ g)
 (hend : ∀ k acc, m ≤ k → L (k + 1) acc (n : Int) = C k acc)
 (hstep : ∀ k acc (i : Nat), i < n → m + cost ≤ k → acc.length + g < 17592186044416 → ∃ k', k ≤ k' + cost ∧ L k acc (i : Int) = L k' (acc ++ G i) ((i + 1 : Nat) : Int)) :
 ∀ (d i k : Nat) (acc : List Int), i + d = n → m + d * cost + 1 ≤ k → acc.length + d * g < 17592186044416 → ∃ k', k ≤ k' + d * cost + 1 ∧ L k acc (i : Int) = C k' (acc ++ (List.range' i d).flatMap G) := by
 intro d
 induction d with
 | zero =>
  intro i k acc hi hk ha
  obtain ⟨k, rfl⟩ := sk k
  obtain rfl : i = n := by omega
  exact ⟨k, by omega, by rw [hend k acc (by omega)]; simp⟩
 | succ d ih =>
  intro i k acc hi hk ha
  rw [Nat.add_mul, Nat.one_mul] at hk ha
  obtain ⟨k1, h1, e1⟩ := hstep k acc i (by omega) (by omega) (by omega)
  have hl := hlen i (by omega)
  obtain ⟨k2, h2, e2⟩ := ih (i + 1) k1 (acc ++ G i) (by omega) (by omega) (by rw [List.length_append]; omega)
  refine ⟨k2, ?_, ?_⟩
  · rw [Nat.add_mul, Nat.one_mul]; omega
  · rw [e1, e2, List.range'_succ, List.flatMap_cons, List.append_assoc]
theorem flat_len (G : Nat → List Int) (g : Nat) (h : ∀ i, (G i).length = g) : ∀ (d s : Nat), ((List.range' s d).flatMap G).length = d * g := by
 intro d
 induction d with
 | zero => intro s; simp
 | succ d ih => intro s; rw [List.range'_succ, List.flatMap_cons, List.length_append, ih, h, Nat.add_mul, Nat.one_mul, Nat.add_comm]
theorem prod_spec (k : Nat) (l : List Int) (hk : 4 < k) (hv : VD l) : cE.f k l = some (prodL l) := by
 unfold cE.f
 obtain ⟨k, rfl⟩ : ∃ z, k = z + 5 := ⟨k - 5, by omega⟩
 obtain ⟨h3, hw, _⟩ := hv
 match l, h3, hw with
 | [], _, _ => simp [cE.l0, prodL]
 | [a], _, hw =>
  have ha := hw a (by simp)
  simp [cE.l0, prodL, rd, w1, cA (a := a) (by omega) (by omega)]
 | [a, b], _, hw =>
  have ha := hw a (by simp)
  have hb := hw b (by simp)
  have h1 := mul_le ha.1 hb.1 ha.2 hb.2
  simp [cE.l0, prodL, rd, cA (a := a) (by omega) (by omega), cA (a := a * b) (by omega) (by omega), w1, w2]
 | [a, b, c], _, hw =>
  have ha := hw a (by simp)
  have hb := hw b (by simp)
  have hc := hw c (by simp)
  have h1 := mul_le ha.1 hb.1 ha.2 hb.2
  have h2 := mul_le h1.1 hc.1 h1.2 hc.2
  simp [cE.l0, prodL, rd, cA (a := a) (by omega) (by omega), cA (a := a * b) (by omega) (by omega), cA (a := a * b * c) (by omega) (by omega), w1, w2, w3]
 | a :: b :: c :: d :: l, h, _ => exact absurd h (by simp)
theorem prod_impl (k : Nat) (l : List Int) (hk : 4 < k) (hv : VD l) : impl_product.f k l = some (prodL l) := by
 unfold impl_product.f
 obtain ⟨k, rfl⟩ : ∃ z, k = z + 5 := ⟨k - 5, by omega⟩
 obtain ⟨h3, hw, _⟩ := hv
 match l, h3, hw with
 | [], _, _ => simp [impl_product.l0, prodL]
 | [a], _, hw =>
  have ha := hw a (by simp)
  simp [impl_product.l0, prodL, rd, w1, cA (a := a) (by omega) (by omega)]
 | [a, b], _, hw =>
  have ha := hw a (by simp)
  have hb := hw b (by simp)
  have h1 := mul_le ha.1 hb.1 ha.2 hb.2
  simp [impl_product.l0, prodL, rd, cA (a := a) (by omega) (by omega), cA (a := a * b) (by omega) (by omega), w1, w2]
 | [a, b, c], _, hw =>
  have ha := hw a (by simp)
  have hb := hw b (by simp)
  have hc := hw c (by simp)
  have h1 := mul_le ha.1 hb.1 ha.2 hb.2
  have h2 := mul_le h1.1 hc.1 h1.2 hc.2
  simp [impl_product.l0, prodL, rd, cA (a := a) (by omega) (by omega), cA (a := a * b) (by omega) (by omega), cA (a := a * b * c) (by omega) (by omega), w1, w2, w3]
 | a :: b :: c :: d :: l, h, _ => exact absurd h (by simp)
theorem any_loop (L : Nat → Int → Option Bool) (P : Nat → Prop) [DecidablePred P] (n m : Nat)
 (hend : ∀ k, m ≤ k → L (k + 1) (n : Int) = some false) (hstep : ∀ k (i : Nat), m ≤ k → i < n → L (k + 1) (i : Int) = if P i then some true else L k ((i + 1 : Nat) : Int)) (k : Nat) (hk : n + m < k) :
 L k 0 = some (!decide (∀ i, i < n → ¬ P i)) := by
 have h := all_loop (fun k i => (L k i).map (fun b => !b)) (fun i => ¬ P i) n m true
  (by intro k hk; show (L (k + 1) n).map _ = _; rw [hend k hk]; rfl)
  (by
   intro k i hk hi
   show (L (k + 1) i).map _ = _
   rw [hstep k i hk hi]
   by_cases h : P i
   · rw [if_pos h, if_neg (fun h2 => h2 h)]; rfl
   · rw [if_neg h, if_pos h])
  k hk
 rw [Bool.and_true] at h
 have h' : (L k 0).map (fun b => !b) = some (decide (∀ i, i < n → ¬ P i)) := h
 cases hL : L k 0 with
 | none => rw [hL] at h'; cases h'
 | some b =>
  rw [hL] at h'
  have h2 : (!b) = decide (∀ i, i < n → ¬ P i) := Option.some.inj h'
  rw [← h2, Bool.not_not]
def axG (l1 l2 : List Int) (i j t : Nat) : List Int := [wrap64 (wrap64 (rd l1 (i : Int) + wrap64 ((j : Int) * rd l2 (i : Int))) + (t : Int))]
def axJ (l1 l2 l4 : List Int) (i j : Nat) : List Int := (List.range' 0 (rd l4 (i : Int)).toNat).flatMap (axG l1 l2 i j)
def axisL (l1 l2 l3 l4 : List Int) (i : Nat) : List Int := (List.range' 0 (rd l3 (i : Int)).toNat).flatMap (axJ l1 l2 l4 i)
theorem axJ_len (l1 l2 l4 : List Int) (i j : Nat) : (axJ l1 l2 l4 i j).length = (rd l4 (i : Int)).toNat := by
 unfold axJ
 rw [flat_len _ 1 (fun _ => rfl), Nat.mul_one]
theorem axis_len (l1 l2 l3 l4 : List Int) (i : Nat) : (axisL l1 l2 l3 l4 i).length = (rd l3 (i : Int)).toNat * (rd l4 (i : Int)).toNat := by
 unfold axisL
 rw [flat_len _ _ (fun j => axJ_len l1 l2 l4 i j)]
/-- what holds of a dimension that the loops reach -/
structure Dim (l1 l2 l3 l4 : List Int) (i : Nat) : Prop where
 a1 : i < l1.length
 a2 : i < l2.length
 a3 : i < l3.length
 a4 : i < l4.length
 c1 : 1 ≤ rd l3 (i : Int) ∧ rd l3 (i : Int) ≤ 40
 c2 : 1 ≤ rd l4 (i : Int) ∧ rd l4 (i : Int) ≤ 40
 c3 : rd l3 (i : Int) * rd l4 (i : Int) ≤ 40
 small : i < 3
theorem dim_of (l1 l2 l3 l4 : List Int) (h : okSlab l1 l2 l3 l4) (i : Nat) (hi : i < l1.length) : Dim l1 l2 l3 l4 i := by
 obtain ⟨h1, h2, h3, h4, h5⟩ := h
 obtain ⟨q1, q3, q4, q2, q5⟩ := h5 i (by omega) hi
 refine ⟨hi, by omega, by omega, by omega, q3, q4, ?_, by omega⟩
 have hm : (rd l3 i - 1) * rd l4 i ≤ (rd l3 i - 1) * rd l2 i := Int.mul_le_mul_of_nonneg_left q2.1 (by omega)
 have he : rd l3 i * rd l4 i = (rd l3 i - 1) * rd l4 i + rd l4 i := by rw [Int.sub_mul, Int.one_mul]; omega
 omega
theorem axis_le (l1 l2 l3 l4 : List Int) (i : Nat) (h : Dim l1 l2 l3 l4 i) : (axisL l1 l2 l3 l4 i).length ≤ 40 ∧ ((axisL l1 l2 l3 l4 i).length : Int) = rd l3 (i : Int) * rd l4 (i : Int) := by
 have h1 := h.c1
 have h2 := h.c2
 have e : (((rd l3 (i : Int)).toNat * (rd l4 (i : Int)).toNat : Nat) : Int) = rd l3 (i : Int) * rd l4 (i : Int) := by
  rw [Int.natCast_mul, Int.toNat_of_nonneg (by omega), Int.toNat_of_nonneg (by omega)]
 rw [axis_len]
 refine ⟨?_, e⟩
 have h3 := h.c3
 omega
theorem axis_impl (a : Int) (l1 l2 l3 l4 : List Int) (ps : List S68) (i : Nat) (h : Dim l1 l2 l3 l4 i) (k : Nat) (hk : 2000 ≤ k) : aK.f k a l1 l2 l3 l4 ps i = some (axisL l1 l2 l3 l4 i) := by
 obtain ⟨a1, a2, a3, a4, c1, c2, -, hs⟩ := h
 unfold aK.f
 rw [ip, ip]
 obtain ⟨k', -, e⟩ := flat_loop (fun k acc j => aK.l0 k i acc (rd l3 (i : Int)) j a l1 l2 l3 l4 ps) (fun _ acc => some acc) (axJ l1 l2 l4 i) (rd l3 (i : Int)).toNat 43 1 40
  (by intro j hj; rw [axJ_len]; omega)
  (by intro k acc _; show aK.l0 (k + 1) i acc _ _ a l1 l2 l3 l4 ps = _; rw [aK.l0, im])
  (by
   intro k acc j hj hk ha
   obtain ⟨k, rfl⟩ := sk k
   obtain ⟨k', h1, e⟩ := flat_loop (fun k acc t => aK.l1 k i acc j (rd l3 (i : Int)) j (rd l4 (i : Int)) t a l1 l2 l3 l4 ps) (fun k acc => aK.l0 k i acc (rd l3 (i : Int)) ((j + 1 : Nat) : Int) a l1 l2 l3 l4 ps) (axG l1 l2 i j) (rd l4 (i : Int)).toNat 1 0 1
    (by intro t ht; exact Nat.le_refl 1)
    (by intro k acc _; show aK.l1 (k + 1) i acc j _ j _ _ a l1 l2 l3 l4 ps = _; rw [aK.l1, im, cF j (by omega)])
    (by
     intro k acc t ht hk ha
     obtain ⟨k, rfl⟩ := sk k
     refine ⟨k, by omega, ?_⟩
     show aK.l1 (k + 1) i acc j _ j _ _ a l1 l2 l3 l4 ps = _
     rw [aK.l1, ip, ip, ip, ip, ip, cF t (by omega)]
     rfl)
    (rd l4 (i : Int)).toNat 0 k acc (by omega) (by omega) (by omega)
   refine ⟨k', by omega, ?_⟩
   show aK.l0 (k + 1) i acc _ _ a l1 l2 l3 l4 ps = _
   rw [aK.l0, ip, ip, ip]
   exact e)
  (rd l3 (i : Int)).toNat 0 k [] (by omega) (by omega) (by simp; omega)
 exact e
def stG (d out ax : List Int) (i q t : Nat) : List Int := [wrap64 (wrap64 (rd out (q : Int) * rd d (i : Int)) + rd ax (t : Int))]
def stQ (d out ax : List Int) (i q : Nat) : List Int := (List.range' 0 ax.length).flatMap (stG d out ax i q)
def slabStep (d l1 l2 l3 l4 : List Int) (i : Nat) (out : List Int) : List Int := (List.range' 0 out.length).flatMap (stQ d out (axisL l1 l2 l3 l4 i) i)
theorem stQ_len (d out ax : List Int) (i q : Nat) : (stQ d out ax i q).length = ax.length := by
 unfold stQ
 rw [flat_len _ 1 (fun _ => rfl), Nat.mul_one]
theorem step_len (d l1 l2 l3 l4 : List Int) (i : Nat) (out : List Int) : (slabStep d l1 l2 l3 l4 i out).length = out.length * (axisL l1 l2 l3 l4 i).length := by
 unfold slabStep
 rw [flat_len _ _ (fun q => stQ_len d out _ i q)]
def slabR (d l1 l2 l3 l4 : List Int) : Nat → Nat → List Int → List Int
 | 0, _, out => out
 | c + 1, i, out => slabR d l1 l2 l3 l4 c (i + 1) (slabStep d l1 l2 l3 l4 i out)
theorem pow_step (n x c : Nat) (h : n * 40 ^ (c + 1) ≤ 64000) (hx : x ≤ 40) : n * x * 40 ^ c ≤ 64000 ∧ n ≤ 64000 ∧ n * x ≤ 64000 := by
 have h1 : n * x * 40 ^ c ≤ n * 40 * 40 ^ c := Nat.mul_le_mul_right _ (Nat.mul_le_mul_left _ hx)
 have h2 : n * 40 ^ (c + 1) = n * 40 * 40 ^ c := by rw [Nat.pow_succ, Nat.mul_comm (40 ^ c) 40, Nat.mul_assoc]
 have h3 : 0 < 40 ^ c := Nat.pow_pos (by omega)
 have h4 : n * x ≤ n * x * 40 ^ c := Nat.le_mul_of_pos_right _ h3
 have h5 : n * 40 ≤ n * 40 * 40 ^ c := Nat.le_mul_of_pos_right _ h3
 omega
theorem slab_ind_impl (a : Int) (d l1 l2 l3 l4 : List Int) (ps : List S68) (hD : ∀ i, i < d.length → Dim l1 l2 l3 l4 i) (hd : d.length ≤ 3) : ∀ (c i k : Nat) (out : List Int), i + c = d.length → out.length * 40 ^ c ≤ 64000 → 3000 + 3000000 * c < k →
 aI.l0 k out d d.length i a l1 l2 l3 l4 ps = some (slabR d l1 l2 l3 l4 c i out) := by
 intro c
 induction c with
 | zero =>
  intro i k out hi ho hk
  obtain ⟨k, rfl⟩ := sk k
  rw [aI.l0, im]; rfl
 | succ c ih =>
  intro i k out hi ho hk
  obtain ⟨k, rfl⟩ := sk k
  have hdim := hD i (by omega)
  obtain ⟨hx, -⟩ := axis_le l1 l2 l3 l4 i hdim
  obtain ⟨p1, p2, p3⟩ := pow_step _ _ _ ho hx
  have hc := fun k (hk : 2000 ≤ k) => axis_impl a l1 l2 l3 l4 ps i hdim k hk
  rw [aI.l0, ip, ip, ip]
  generalize hax : axisL l1 l2 l3 l4 i = ax at *
  obtain ⟨k', h1, e⟩ := flat_loop (fun k acc q => aI.l1 k i (rd d (i : Int)) acc d d.length i out out.length q a l1 l2 l3 l4 ps) (fun k acc => aI.l0 k acc d d.length ((i + 1 : Nat) : Int) a l1 l2 l3 l4 ps) (stQ d out ax i) out.length 43 2001 40
   (by intro q hq; rw [stQ_len]; omega)
   (by intro k acc _; show aI.l1 (k + 1) i _ acc d _ i out _ _ a l1 l2 l3 l4 ps = _; rw [aI.l1, im, cF i (by omega)])
   (by
    intro k acc q hq hk ha
    obtain ⟨k, rfl⟩ := sk k
    obtain ⟨k', h1, e⟩ := flat_loop (fun k acc t => aI.l2 k i (rd d (i : Int)) acc (rd out (q : Int)) d d.length i out out.length q ax ax.length t a l1 l2 l3 l4 ps) (fun k acc => aI.l1 k i (rd d (i : Int)) acc d d.length i out out.length ((q + 1 : Nat) : Int) a l1 l2 l3 l4 ps) (stG d out ax i q) ax.length 1 0 1
     (by intro t ht; exact Nat.le_refl 1)
     (by intro k acc _; show aI.l2 (k + 1) i _ acc _ d _ i out _ q ax _ _ a l1 l2 l3 l4 ps = _; rw [aI.l2, im, cF q (by omega)])
     (by
      intro k acc t ht hk ha
      obtain ⟨k, rfl⟩ := sk k
      refine ⟨k, by omega, ?_⟩
      show aI.l2 (k + 1) i _ acc _ d _ i out _ q ax _ _ a l1 l2 l3 l4 ps = _
      rw [aI.l2, ip, ip, ip, ip, cF t (by omega)]
      rfl)
     ax.length 0 k acc (by omega) (by omega) (by omega)
    refine ⟨k', by omega, ?_⟩
    show aI.l1 (k + 1) i _ acc d _ i out _ _ a l1 l2 l3 l4 ps = _
    rw [aI.l1, ip, ip, ip, hc k (by omega)]
    exact e)
   out.length 0 k [] (by omega) (by omega) (by simp; omega)
  have e' : aI.l1 k i (rd d (i : Int)) [] d d.length i out out.length 0 a l1 l2 l3 l4 ps = aI.l0 k' (slabStep d l1 l2 l3 l4 i out) d d.length ((i + 1 : Nat) : Int) a l1 l2 l3 l4 ps := by
   unfold slabStep; rw [hax]; exact e
  rw [e', ih (i + 1) k' _ (by omega) (by rw [step_len, hax]; exact p1) (by omega)]
  rfl
theorem slabR_len (d l1 l2 l3 l4 : List Int) (hD : ∀ i, i < d.length → Dim l1 l2 l3 l4 i) : ∀ (c i : Nat) (out : List Int), i + c = d.length → out.length * 40 ^ c ≤ 64000 → (slabR d l1 l2 l3 l4 c i out).length ≤ 64000 := by
 intro c
 induction c with
 | zero => intro i out hi ho; rw [Nat.pow_zero, Nat.mul_one] at ho; exact ho
 | succ c ih =>
  intro i out hi ho
  have hdim := hD i (by omega)
  obtain ⟨hx, -⟩ := axis_le l1 l2 l3 l4 i hdim
  obtain ⟨p1, p2, p3⟩ := pow_step _ _ _ ho hx
  exact ih (i + 1) _ (by omega) (by rw [step_len]; exact p1)
/-- the index of a point -/
def idxR (d p : List Int) : Nat → Nat → Int → Int
 | 0, _, x => x
 | c + 1, i, x => idxR d p c (i + 1) (wrap64 (wrap64 (x * rd d (i : Int)) + rd p (i : Int)))
theorem idx_impl (d p : List Int) (hd : d.length ≤ 1048576) (hp : p.length = d.length) : ∀ (c i k : Nat) (x : Int), i + c = d.length → c < k → impl_indexOf.l0 k d x p p.length i = some (idxR d p c i x) := by
 intro c
 induction c with
 | zero =>
  intro i k x hi hk
  obtain ⟨k, rfl⟩ := sk k
  rw [impl_indexOf.l0, im]; rfl
 | succ c ih =>
  intro i k x hi hk
  obtain ⟨k, rfl⟩ := sk k
  rw [impl_indexOf.l0, ip, ip, ip, ip, cF i (by omega), ih (i + 1) k _ (by omega) (by omega)]
  rfl
theorem idxF_impl (d p : List Int) (hd : d.length ≤ 3) (hp : p.length = d.length) (k : Nat) (hk : 10 ≤ k) : impl_indexOf.f k d p = some (idxR d p d.length 0 0) := idx_impl d p (by omega) hp d.length 0 k 0 (by omega) (by omega)
def allG (i : Nat) : List Int := [(i : Int)]
def ptG (d : List Int) (ps : List S68) (i : Nat) : List Int := [idxR d (bU ps (i : Int)).f0 d.length 0 0]
/-- the indices that a valid selection selects -/
def indL (d : List Int) (a : Int) (l1 l2 l3 l4 : List Int) (ps : List S68) : List Int :=
 if a = 1 then (List.range' 0 (prodL d).toNat).flatMap allG else if a = 3 then slabR d l1 l2 l3 l4 d.length 0 [0] else if a = 4 then (List.range' 0 ps.length).flatMap (ptG d ps) else []
theorem pow40 (n : Nat) (h : n ≤ 3) : 1 * 40 ^ n ≤ 64000 := by
 rw [Nat.one_mul]
 exact Nat.le_trans (Nat.pow_le_pow_right (by omega) h) (by decide)
theorem dims_of {d : List Int} {a : Int} {l1 l2 l3 l4 : List Int} {ps : List S68} (h : okV d a l1 l2 l3 l4 ps) (h3 : a = 3) : ∀ i, i < d.length → Dim l1 l2 l3 l4 i := by
 intro i hi
 have hs := okF_slab h.2.1 h3
 exact dim_of l1 l2 l3 l4 hs i (by rw [(h.2.2.1 h3).1]; exact hi)
theorem pts24 {a : Int} {l1 l2 l3 l4 : List Int} {ps : List S68} (h : okF a l1 l2 l3 l4 ps) (h4 : a = 4) : ps.length ≤ 24 := by
 rcases h with h | h | h
 · omega
 · omega
 · exact h.2.2.1.2
theorem ind_impl (d : List Int) (a : Int) (l1 l2 l3 l4 : List Int) (ps : List S68) (h : okV d a l1 l2 l3 l4 ps) (k : Nat) (hk : 10000000 ≤ k) : bC.f k a l1 l2 l3 l4 ps d = some (indL d a l1 l2 l3 l4 ps) := by
 have hd3 : d.length ≤ 3 := h.1.1
 have hpr : prodL d ≤ 600 := h.1.2.2
 unfold bC.f indL
 by_cases h1 : a = 1
 ·
  rw [if_pos h1, if_pos h1, prod_impl k d (by omega) h.1]
  simp only [ob]
  obtain ⟨k', -, e⟩ := flat_loop (fun k acc i => bC.l0 k acc (prodL d) i) (fun _ acc => some acc) allG (prodL d).toNat 1 10 1
   (by intro i hi; exact Nat.le_refl 1)
   (by intro k acc _; show bC.l0 (k + 1) acc _ _ = _; rw [bC.l0, im])
   (by
    intro k acc i hi hk ha
    obtain ⟨k, rfl⟩ := sk k
    refine ⟨k, by omega, ?_⟩
    show bC.l0 (k + 1) acc _ _ = _
    rw [bC.l0, ip, ip, cF i (by omega)]
    rfl)
   (prodL d).toNat 0 k [] (by omega) (by omega) (by simp; omega)
  exact e
 ·
  rw [if_neg h1, if_neg h1]
  by_cases h3 : a = 3
  · rw [if_pos h3, if_pos h3]
    unfold aI.f
    have := slab_ind_impl a d l1 l2 l3 l4 ps (dims_of h h3) hd3 d.length 0 k [0] (by omega) (by simpa using pow40 _ hd3) (by omega)
    rw [show aI.l0 k [0] d (d.length : Int) 0 a l1 l2 l3 l4 ps = _ from this]
    rfl
  ·
   rw [if_neg h3, if_neg h3]
   by_cases h4 : a = 4
   ·
    have hp := pts24 h.2.1 h4
    have hin := h.2.2.2 h4
    rw [if_pos h4, if_pos h4]
    obtain ⟨k', -, e⟩ := flat_loop (fun k acc i => bC.l1 k d acc ps ps.length i) (fun _ acc => some acc) (ptG d ps) ps.length 1 10 1
     (by intro i hi; exact Nat.le_refl 1)
     (by intro k acc _; show bC.l1 (k + 1) d acc ps _ _ = _; rw [bC.l1, im])
     (by
      intro k acc i hi hk ha
      obtain ⟨k, rfl⟩ := sk k
      refine ⟨k, by omega, ?_⟩
      show bC.l1 (k + 1) d acc ps _ _ = _
      rw [bC.l1, ip, ip, ip, idxF_impl d _ hd3 (hin i hi).1 k (by omega)]
      simp only [ob]
      rw [ip, cF i (by omega)]
      rfl)
     ps.length 0 k [] (by omega) (by omega) (by simp; omega)
    exact e
   · rw [if_neg h4, if_neg h4]
theorem indL_len (d : List Int) (a : Int) (l1 l2 l3 l4 : List Int) (ps : List S68) (h : okV d a l1 l2 l3 l4 ps) : (indL d a l1 l2 l3 l4 ps).length ≤ 64000 := by
 have hd3 : d.length ≤ 3 := h.1.1
 have hpr : prodL d ≤ 600 := h.1.2.2
 unfold indL
 by_cases h1 : a = 1
 · rw [if_pos h1, flat_len _ 1 (fun _ => rfl)]; omega
 ·
  rw [if_neg h1]
  by_cases h3 : a = 3
  · rw [if_pos h3]
    exact slabR_len d l1 l2 l3 l4 (dims_of h h3) d.length 0 [0] (by omega) (by simpa using pow40 _ hd3)
  · rw [if_neg h3]
    by_cases h4 : a = 4
    · rw [if_pos h4, flat_len _ 1 (fun _ => rfl)]
      have := pts24 h.2.1 h4
      omega
    · rw [if_neg h4]; simp
theorem axis_spec (a : Int) (l1 l2 l3 l4 : List Int) (ps : List S68) (i : Nat) (h : Dim l1 l2 l3 l4 i) (k : Nat) (hk : 2000 ≤ k) : bV.f k a l1 l2 l3 l4 ps i = some (axisL l1 l2 l3 l4 i) := by
 obtain ⟨a1, a2, a3, a4, c1, c2, -, hs⟩ := h
 unfold bV.f
 obtain ⟨k', -, e⟩ := flat_loop (fun k acc j => bV.l0 k i acc j a l1 l2 l3 l4 ps) (fun _ acc => some acc) (axJ l1 l2 l4 i) (rd l3 (i : Int)).toNat 43 1 40
  (by intro j hj; rw [axJ_len]; omega)
  (by intro k acc _; show bV.l0 (k + 1) i acc _ a l1 l2 l3 l4 ps = _; rw [bV.l0, ip, ip, im])
  (by
   intro k acc j hj hk ha
   obtain ⟨k, rfl⟩ := sk k
   obtain ⟨k', h1, e⟩ := flat_loop (fun k acc t => bV.l1 k i acc j t a l1 l2 l3 l4 ps) (fun k acc => bV.l0 k i acc ((j + 1 : Nat) : Int) a l1 l2 l3 l4 ps) (axG l1 l2 i j) (rd l4 (i : Int)).toNat 1 0 1
    (by intro t ht; exact Nat.le_refl 1)
    (by intro k acc _; show bV.l1 (k + 1) i acc j _ a l1 l2 l3 l4 ps = _; rw [bV.l1, ip, ip, im, cF j (by omega)])
    (by
     intro k acc t ht hk ha
     obtain ⟨k, rfl⟩ := sk k
     refine ⟨k, by omega, ?_⟩
     show bV.l1 (k + 1) i acc j _ a l1 l2 l3 l4 ps = _
     rw [bV.l1, ip, ip, ip, ip, ip, ip, cF t (by omega)]
     rfl)
    (rd l4 (i : Int)).toNat 0 k acc (by omega) (by omega) (by omega)
   refine ⟨k', by omega, ?_⟩
   show bV.l0 (k + 1) i acc _ a l1 l2 l3 l4 ps = _
   rw [bV.l0, ip, ip, ip]
   exact e)
  (rd l3 (i : Int)).toNat 0 k [] (by omega) (by omega) (by simp; omega)
 exact e
theorem slab_ind_spec (a : Int) (d l1 l2 l3 l4 : List Int) (ps : List S68) (hD : ∀ i, i < d.length → Dim l1 l2 l3 l4 i) (hd : d.length ≤ 3) : ∀ (c i k : Nat) (out : List Int), i + c = d.length → out.length * 40 ^ c ≤ 64000 → 3000 + 3000000 * c < k →
 aH.l2 k d out i a l1 l2 l3 l4 ps = some (slabR d l1 l2 l3 l4 c i out) := by
 intro c
 induction c with
 | zero =>
  intro i k out hi ho hk
  obtain ⟨k, rfl⟩ := sk k
  rw [aH.l2, im]; rfl
 | succ c ih =>
  intro i k out hi ho hk
  obtain ⟨k, rfl⟩ := sk k
  have hdim := hD i (by omega)
  obtain ⟨hx, -⟩ := axis_le l1 l2 l3 l4 i hdim
  obtain ⟨p1, p2, p3⟩ := pow_step _ _ _ ho hx
  rw [aH.l2, ip, axis_spec a l1 l2 l3 l4 ps i hdim k (by omega)]
  simp only [ob]
  generalize hax : axisL l1 l2 l3 l4 i = ax at *
  obtain ⟨k', h1, e⟩ := flat_loop (fun k acc q => aH.l3 k d out i ax acc q a l1 l2 l3 l4 ps) (fun k acc => aH.l2 k d acc ((i + 1 : Nat) : Int) a l1 l2 l3 l4 ps) (stQ d out ax i) out.length 43 1 40
   (by intro q hq; rw [stQ_len]; omega)
   (by intro k acc _; show aH.l3 (k + 1) d out i ax acc _ a l1 l2 l3 l4 ps = _; rw [aH.l3, im, cF i (by omega)])
   (by
    intro k acc q hq hk ha
    obtain ⟨k, rfl⟩ := sk k
    obtain ⟨k', h1, e⟩ := flat_loop (fun k acc t => aH.l4 k d out i ax acc q t a l1 l2 l3 l4 ps) (fun k acc => aH.l3 k d out i ax acc ((q + 1 : Nat) : Int) a l1 l2 l3 l4 ps) (stG d out ax i q) ax.length 1 0 1
     (by intro t ht; exact Nat.le_refl 1)
     (by intro k acc _; show aH.l4 (k + 1) d out i ax acc q _ a l1 l2 l3 l4 ps = _; rw [aH.l4, im, cF q (by omega)])
     (by
      intro k acc t ht hk ha
      obtain ⟨k, rfl⟩ := sk k
      refine ⟨k, by omega, ?_⟩
      show aH.l4 (k + 1) d out i ax acc q _ a l1 l2 l3 l4 ps = _
      rw [aH.l4, ip, ip, ip, ip, ip, ip, ip, cF t (by omega)]
      rfl)
     ax.length 0 k acc (by omega) (by omega) (by omega)
    refine ⟨k', by omega, ?_⟩
    show aH.l3 (k + 1) d out i ax acc _ a l1 l2 l3 l4 ps = _
    rw [aH.l3, ip]
    exact e)
   out.length 0 k [] (by omega) (by omega) (by simp; omega)
  have e' : aH.l3 k d out i ax [] 0 a l1 l2 l3 l4 ps = aH.l2 k' d (slabStep d l1 l2 l3 l4 i out) ((i + 1 : Nat) : Int) a l1 l2 l3 l4 ps := by
   unfold slabStep; rw [hax]; exact e
  rw [e', ih (i + 1) k' _ (by omega) (by rw [step_len, hax]; exact p1) (by omega)]
  rfl
theorem idx_spec (d p : List Int) (hd : d.length ≤ 1048576) (hp : p.length = d.length) : ∀ (c i k : Nat) (x : Int), i + c = d.length → c < k → spec_l05Index.l0 k d p x i = some (idxR d p c i x) := by
 intro c
 induction c with
 | zero =>
  intro i k x hi hk
  obtain ⟨k, rfl⟩ := sk k
  rw [spec_l05Index.l0, im]; rfl
 | succ c ih =>
  intro i k x hi hk
  obtain ⟨k, rfl⟩ := sk k
  rw [spec_l05Index.l0, ip, ip, ip, cF i (by omega), ih (i + 1) k _ (by omega) (by omega)]
  rfl
theorem idxF_spec (d p : List Int) (hd : d.length ≤ 3) (hp : p.length = d.length) (k : Nat) (hk : 10 ≤ k) : spec_l05Index.f k d p = some (idxR d p d.length 0 0) := idx_spec d p (by omega) hp d.length 0 k 0 (by omega) (by omega)
theorem ind_spec (d : List Int) (a : Int) (l1 l2 l3 l4 : List Int) (ps : List S68) (h : okV d a l1 l2 l3 l4 ps) (k : Nat) (hk : 10000000 ≤ k) : aH.f k d a l1 l2 l3 l4 ps = some (indL d a l1 l2 l3 l4 ps) := by
 have hd3 : d.length ≤ 3 := h.1.1
 have hpr : prodL d ≤ 600 := h.1.2.2
 unfold aH.f indL
 simp only [ob]
 by_cases h1 : a = 1
 ·
  rw [if_pos h1, if_pos h1]
  obtain ⟨k', -, e⟩ := flat_loop (fun k acc i => aH.l0 k d acc i) (fun _ acc => some acc) allG (prodL d).toNat 1 10 1
   (by intro i hi; exact Nat.le_refl 1)
   (by
    intro k acc hm
    show aH.l0 (k + 1) d acc _ = _
    rw [aH.l0, prod_spec k d (by omega) h.1]
    simp only [ob]
    rw [im])
   (by
    intro k acc i hi hk ha
    obtain ⟨k, rfl⟩ := sk k
    refine ⟨k, by omega, ?_⟩
    show aH.l0 (k + 1) d acc _ = _
    rw [aH.l0, prod_spec k d (by omega) h.1]
    simp only [ob]
    rw [ip, ip, cF i (by omega)]
    rfl)
   (prodL d).toNat 0 k [] (by omega) (by omega) (by simp; omega)
  exact e
 ·
  rw [if_neg h1, if_neg h1]
  by_cases h4 : a = 4
  ·
   have h3 : ¬ a = 3 := by omega
   have hp := pts24 h.2.1 h4
   have hin := h.2.2.2 h4
   rw [if_pos h4, if_neg h3, if_pos h4]
   obtain ⟨k', -, e⟩ := flat_loop (fun k acc i => aH.l1 k d acc i a l1 l2 l3 l4 ps) (fun _ acc => some acc) (ptG d ps) ps.length 1 10 1
    (by intro i hi; exact Nat.le_refl 1)
    (by intro k acc _; show aH.l1 (k + 1) d acc _ a l1 l2 l3 l4 ps = _; rw [aH.l1, im])
    (by
     intro k acc i hi hk ha
     obtain ⟨k, rfl⟩ := sk k
     refine ⟨k, by omega, ?_⟩
     show aH.l1 (k + 1) d acc _ a l1 l2 l3 l4 ps = _
     rw [aH.l1, ip, ip, idxF_spec d _ hd3 (hin i hi).1 k (by omega)]
     simp only [ob]
     rw [ip, cF i (by omega)]
     rfl)
    ps.length 0 k [] (by omega) (by omega) (by simp; omega)
   exact e
  · rw [if_neg h4]
    by_cases h3 : a = 3
    · rw [if_pos h3, if_pos h3, if_pos (by simp)]
      have := slab_ind_spec a d l1 l2 l3 l4 ps (dims_of h h3) hd3 d.length 0 k [0] (by omega) (by simpa using pow40 _ hd3) (by omega)
      exact this
    · rw [if_neg h3, if_neg h3, if_neg h4]
def BoxAt (a b : List Int) (i : Nat) : Prop := 0 ≤ rd a i ∧ rd a i < rd b i ∧ rd b i ≤ 40
instance (a b : List Int) (i : Nat) : Decidable (BoxAt a b i) := by unfold BoxAt; infer_instance
def VBox (a b : List Int) : Prop := a.length ≤ 3 ∧ b.length = a.length ∧ ∀ i, i < a.length → BoxAt a b i
instance (a b : List Int) : Decidable (VBox a b) := by unfold VBox; infer_instance
theorem all_step {P : Nat → Prop} {i : Nat} (h : ∀ j, j < i → P j) (hi : P i) : ∀ j, j < i + 1 → P j := fun j hj => by
 by_cases e : j = i
 · subst e; exact hi
 · exact h j (by omega)
instance decS33 : DecidableEq S33 := fun a b =>
 if h0 : a.f0 = b.f0 then if h1 : a.f1 = b.f1 then isTrue (by cases a; cases b; cases h0; cases h1; rfl) else isFalse (fun h => h1 (by rw [h])) else isFalse (fun h => h0 (by rw [h]))
def inBx : List Int → List Int → List Int → Bool
 | a :: ah, b :: bs, x :: xs => (decide (a ≤ x) && decide (x < b)) && inBx ah bs xs
 | [], [], [] => true
 | _, _, _ => false
def mem (l : List S33) (p : List Int) : Bool := l.any fun b => inBx b.f0 b.f1 p
def inR (x : Int) (b : S33) : Bool := decide (rd b.f0 0 ≤ x ∧ x ≤ rd b.f1 0 - 1)
def cutB (b : S33) : S33 := ⟨b.f0.drop 1, b.f1.drop 1⟩
def secB (x : Int) (l : List S33) : List S33 := (l.filter (inR x)).map cutB
def VB (r : Nat) (b : S33) : Prop := b.f0.length = r ∧ b.f1.length = r ∧ ∀ i, i < r → BoxAt b.f0 b.f1 i
def VL (r : Nat) (l : List S33) : Prop := ∀ b ∈ l, VB r b
def pre (l : List S33) (a b : Int) : List S33 := l.map fun x => ⟨a :: x.f0, b :: x.f1⟩
def rle (f : Nat → List S33) : Nat → Nat → List S33 → List S33 → Int → List S33
 | 0, _, out, _, _ => out
 | d + 1, x, out, run, beg => if f x = run then rle f d (x + 1) out run beg else rle f d (x + 1) (out ++ pre run beg x) (f x) x
def NF : Nat → (List Int → Bool) → List S33
 | 0, P => if P [] = true then [⟨[], []⟩] else []
 | r + 1, P => rle (fun x => if x < 40 then NF r (fun p => P ((x : Int) :: p)) else []) 41 0 [] [] 0
theorem rd_cons0 (a : Int) (l : List Int) : rd (a :: l) 0 = a := rfl
theorem rd_consS (a : Int) (l : List Int) (i : Nat) : rd (a :: l) ((i + 1 : Nat) : Int) = rd l (i : Int) := by
 unfold rd
 rw [Int.toNat_natCast, Int.toNat_natCast]
 rfl
theorem VB_cons {r : Nat} {b : S33} (h : VB (r + 1) b) : ∃ a ah c cs, b = ⟨a :: ah, c :: cs⟩ ∧ (0 ≤ a ∧ a < c ∧ c ≤ 40) ∧ VB r ⟨ah, cs⟩ := by
 obtain ⟨f0, f1⟩ := b
 obtain ⟨h0, h1, h2⟩ := h
 obtain ⟨a, ah, rfl⟩ : ∃ a ah, f0 = a :: ah := by cases f0 with
  | nil => simp at h0
  | cons a ah => exact ⟨a, ah, rfl⟩
 obtain ⟨c, cs, rfl⟩ : ∃ a ah, f1 = a :: ah := by cases f1 with
  | nil => simp at h1
  | cons a ah => exact ⟨a, ah, rfl⟩
 refine ⟨a, ah, c, cs, rfl, h2 0 (by omega), by simpa using h0, by simpa using h1, fun i hi => ?_⟩
 have := h2 (i + 1) (by omega)
 unfold BoxAt at this ⊢
 simpa only [rd_consS] using this
theorem VL_cons {r : Nat} {b : S33} {l : List S33} : VL r (b :: l) ↔ VB r b ∧ VL r l := by
 unfold VL; simp
theorem sec_cons (x : Int) (b : S33) (l : List S33) : secB x (b :: l) = if inR x b = true then cutB b :: secB x l else secB x l := by
 unfold secB
 rw [List.filter_cons]
 split <;> simp
theorem sec_len (x : Int) (l : List S33) : (secB x l).length ≤ l.length := by
 unfold secB
 rw [List.length_map]
 exact List.length_filter_le _ _
theorem sec_VL {r : Nat} (x : Int) : ∀ {l : List S33}, VL (r + 1) l → VL r (secB x l)
 | [], _ => by simp [secB, VL]
 | b :: l, h => by
  obtain ⟨h1, h2⟩ := VL_cons.1 h
  obtain ⟨a, ah, c, cs, rfl, -, h5⟩ := VB_cons h1
  rw [sec_cons]
  split
  · exact VL_cons.2 ⟨h5, sec_VL x h2⟩
  · exact sec_VL x h2
theorem mem_cons (b : S33) (l : List S33) (p : List Int) : mem (b :: l) p = (inBx b.f0 b.f1 p || mem l p) := rfl
theorem sec_mem {r : Nat} (x : Int) (p : List Int) : ∀ {l : List S33}, VL (r + 1) l → mem (secB x l) p = mem l (x :: p)
 | [], _ => rfl
 | b :: l, h => by
  obtain ⟨h1, h2⟩ := VL_cons.1 h
  obtain ⟨a, ah, c, cs, rfl, h4, h5⟩ := VB_cons h1
  rw [sec_cons, mem_cons, ← sec_mem x p h2]
  show _ = (((decide (a ≤ x) && decide (x < c)) && inBx ah cs p) || _)
  by_cases hx : a ≤ x ∧ x ≤ c - 1
  · rw [if_pos (show inR x ⟨a :: ah, c :: cs⟩ = true from decide_eq_true hx), mem_cons]
    have e1 : decide (a ≤ x) = true := decide_eq_true hx.1
    have e2 : decide (x < c) = true := decide_eq_true (by omega)
    rw [e1, e2]
    rfl
  · rw [if_neg (show ¬ inR x ⟨a :: ah, c :: cs⟩ = true from fun e => hx (of_decide_eq_true e))]
    have e : (decide (a ≤ x) && decide (x < c)) = false := by
     rw [Bool.and_eq_false_iff, decide_eq_false_iff_not, decide_eq_false_iff_not]; omega
    rw [e]
    simp
theorem mem_zero : ∀ {l : List S33}, VL 0 l → mem l [] = decide (0 < l.length)
 | [], _ => rfl
 | b :: l, h => by
  obtain ⟨h1, h2⟩ := VL_cons.1 h
  obtain ⟨f0, f1⟩ := b
  have e0 : f0 = [] := List.length_eq_zero_iff.1 h1.1
  have e1 : f1 = [] := List.length_eq_zero_iff.1 h1.2.1
  subst e0; subst e1
  simp [mem, inBx]
theorem pre_nil (a b : Int) : pre [] a b = [] := rfl
theorem pre_len (l : List S33) (a b : Int) : (pre l a b).length = l.length := by unfold pre; rw [List.length_map]
theorem rle_len (f : Nat → List S33) (M : Nat) (hf : ∀ x, (f x).length ≤ M) : ∀ (d x : Nat) (out run : List S33) (beg : Int), run.length ≤ M → (rle f d x out run beg).length ≤ out.length + d * M := by
 intro d
 induction d with
 | zero => intro x out run beg _; simp [rle]
 | succ d ih =>
  intro x out run beg h
  have e : (d + 1) * M = d * M + M := by rw [Nat.add_mul, Nat.one_mul]
  unfold rle
  split
  · have := ih (x + 1) out run beg h; omega
  · have := ih (x + 1) (out ++ pre run beg x) (f x) x (hf x)
    rw [List.length_append, pre_len] at this
    omega
theorem NF_len : ∀ (r : Nat) (P : List Int → Bool), (NF r P).length ≤ 41 ^ r
 | 0, P => by unfold NF; split <;> simp
 | r + 1, P => by
  unfold NF
  have := rle_len (fun x => if x < 40 then NF r (fun p => P ((x : Int) :: p)) else []) (41 ^ r) (fun x => by
   show (if x < 40 then NF r (fun p => P ((x : Int) :: p)) else []).length ≤ _
   split
   · exact NF_len r _
   · simp) 41 0 [] [] 0 (by simp)
  simp only [List.length_nil, Nat.zero_add] at this
  rw [Nat.pow_succ, Nat.mul_comm]
  exact this
def Rows (r : Nat) (l : List S33) : Prop := ∀ b ∈ l, b.f0.length = r ∧ b.f1.length = r
theorem rows_nil (r : Nat) : Rows r [] := fun _ h => by cases h
theorem rows_app {r : Nat} {l m : List S33} (h : Rows r l) (h' : Rows r m) : Rows r (l ++ m) := fun b hb => by
 rcases List.mem_append.1 hb with hb | hb
 · exact h b hb
 · exact h' b hb
theorem rows_pre {r : Nat} {l : List S33} (h : Rows r l) (a b : Int) : Rows (r + 1) (pre l a b) := fun x hx => by
 obtain ⟨y, hy, rfl⟩ := List.mem_map.1 hx
 have := h y hy
 exact ⟨by simp [this.1], by simp [this.2]⟩
theorem rle_rows (f : Nat → List S33) (r : Nat) (hf : ∀ x, Rows r (f x)) : ∀ (d x : Nat) (out run : List S33) (beg : Int), Rows (r + 1) out → Rows r run → Rows (r + 1) (rle f d x out run beg) := by
 intro d
 induction d with
 | zero => intro x out run beg h _; exact h
 | succ d ih =>
  intro x out run beg h h'
  unfold rle
  split
  · exact ih _ _ _ _ h h'
  · exact ih _ _ _ _ (rows_app h (rows_pre h' _ _)) (hf x)
theorem NF_rows : ∀ (r : Nat) (P : List Int → Bool), Rows r (NF r P)
 | 0, P => by
  unfold NF
  split
  · intro b hb; rw [List.mem_singleton.1 hb]; exact ⟨rfl, rfl⟩
  · exact rows_nil 0
 | r + 1, P => by
  unfold NF
  refine rle_rows _ r (fun x => ?_) 41 0 [] [] 0 (rows_nil _) (rows_nil _)
  show Rows r (if x < 40 then NF r (fun p => P ((x : Int) :: p)) else [])
  split
  · exact NF_rows r _
  · exact rows_nil _
theorem rle_nil (f : Nat → List S33) (hf : ∀ x, f x = []) : ∀ (d x : Nat) (out : List S33) (beg : Int), rle f d x out [] beg = out := by
 intro d
 induction d with
 | zero => intro x out beg; rfl
 | succ d ih => intro x out beg; unfold rle; rw [if_pos (hf x)]; exact ih _ _ _
theorem NF_false : ∀ (r : Nat), NF r (fun _ => false) = []
 | 0 => rfl
 | r + 1 => by
  unfold NF
  exact rle_nil _ (fun x => by
   show (if x < 40 then NF r (fun _ => false) else []) = []
   rw [NF_false r]; split <;> rfl) 41 0 [] 0
theorem mem_ge {l : List S33} {r : Nat} (h : VL (r + 1) l) (c : Int) (hc : ∀ b ∈ l, rd b.f1 0 ≤ c) (p : List Int) (x : Int) (hx : c ≤ x) : mem l (x :: p) = false := by
 unfold mem
 rw [List.any_eq_false]
 intro b hb
 obtain ⟨a, ah, e, es, rfl, h4, h5⟩ := VB_cons (h b hb)
 have := hc _ hb
 rw [show rd (S33.mk (a :: ah) (e :: es)).f1 0 = e from rfl] at this
 show ¬ ((decide (a ≤ x) && decide (x < e)) && inBx ah es p) = true
 rw [show decide (x < e) = false from decide_eq_false (by omega)]
 simp
theorem rd_at (l : List S33) (i : Nat) (h : i < l.length) : aA l (i : Int) = l[i] := getD_lt l z33 i h
theorem drop_at {α : Type} (l : List α) (i : Nat) (h : i < l.length) : l.drop i = l[i] :: l.drop (i + 1) := List.drop_eq_getElem_cons h
theorem same_eq (l m : List S33) (hlm : l.length = m.length) : (∀ i, i < l.length → (aA l (i : Int)).f0 = (aA m (i : Int)).f0 ∧ (aA l (i : Int)).f1 = (aA m (i : Int)).f1) ↔ l = m := by
 constructor
 ·
  intro h
  apply List.ext_getElem hlm
  intro i h1 h2
  have := h i h1
  rw [rd_at l i h1, rd_at m i h2] at this
  generalize l[i] = a at this; generalize m[i] = b at this
  obtain ⟨a0, a1⟩ := a; obtain ⟨b0, b1⟩ := b
  obtain ⟨rfl, rfl⟩ := this
  rfl
 · rintro rfl i _; exact ⟨rfl, rfl⟩
theorem same_impl (r : Nat) (hr : r ≤ 3) (l m : List S33) (hl : l.length ≤ 1048576) (hR : Rows r l) (k : Nat) (hk : 3000000 ≤ k) : impl_SameBoxes.f k l m = some (decide (l = m)) := by
 unfold impl_SameBoxes.f bM.f
 by_cases h1 : l.length = m.length
 ·
  rw [ip, all_loop (fun k i => bM.l0 k m l l.length i) (fun i => (aA l (i : Int)).f0 = (aA m (i : Int)).f0 ∧ (aA l (i : Int)).f1 = (aA m (i : Int)).f1) l.length 1048590 true
   (by intro k _; show bM.l0 (k + 1) m l _ _ = _; rw [bM.l0, im])
   (by
    intro k i hk hi
    show bM.l0 (k + 1) m l _ _ = _
    have hq : (aA l (i : Int)).f0.length = r ∧ (aA l (i : Int)).f1.length = r := by rw [rd_at l i hi]; exact hR _ (List.getElem_mem hi)
    rw [bM.l0, ip, ip, ip, ip, cF i (by omega)]
    unfold impl_sameBox.f
    rw [slices_Equal_int64_int64_is k _ _ (by omega) hk, slices_Equal_int64_int64_is k _ _ (by omega) hk]
    simp only [ob, decide_eq_true_eq]
    by_cases h0 : (aA l (i : Int)).f0 = (aA m (i : Int)).f0
    · rw [if_pos h0]
      simp only [ob, decide_eq_true_eq]
      by_cases h2 : (aA l (i : Int)).f1 = (aA m (i : Int)).f1
      · rw [if_pos h2, if_pos ⟨h0, h2⟩]
      · rw [if_neg h2, if_neg (fun h => h2 h.2)]
    · rw [if_neg h0]
      simp only [ob, Bool.false_eq_true, if_false]
      rw [if_neg (fun h => h0 h.1)])
   k (by omega)]
  simp only [Bool.and_true, ob]
  congr 1
  exact decide_eq_decide.2 (same_eq l m h1)
 · rw [im, decide_eq_false (fun h => h1 (by rw [h]))]
   rfl
theorem section_impl {r : Nat} (l : List S33) (x : Int) (h : VL (r + 1) l) (hl : l.length ≤ 1048576) (k : Nat) (hk : l.length < k) : bW.f k l x = some (secB x l) := by
 have key : ∀ (d i k : Nat) (out : List S33), i + d = l.length → out.length ≤ i → d < k → bW.l0 k x out l (l.length : Int) (i : Int) = some (out ++ secB x (l.drop i)) := by
  intro d
  induction d with
  | zero =>
   intro i k out hi ho hk
   obtain ⟨k, rfl⟩ := sk k
   rw [bW.l0, im, List.drop_eq_nil_of_le (by omega)]
   simp [secB]
  | succ d ih =>
   intro i k out hi ho hk
   obtain ⟨k, rfl⟩ := sk k
   have hil : i < l.length := by omega
   obtain ⟨a, ah, c, cs, e, h4, h5⟩ := VB_cons (h _ (List.getElem_mem hil))
   rw [bW.l0, ip, ip, ip, rd_at l i hil, drop_at l i hil, sec_cons, e]
   have hwc : wrap64 (c - 1) = c - 1 := cA (by omega) (by omega)
   rw [if_pos (by simp), if_pos (by simp), within_eq, cF i (by omega)]
   simp only [ob, rd_cons0, decide_eq_true_eq, hwc]
   by_cases hx : a ≤ x ∧ x ≤ c - 1
   · rw [if_pos hx, if_pos (by simp; omega), if_pos (by simp; omega), ip, if_pos (show inR x ⟨a :: ah, c :: cs⟩ = true from decide_eq_true hx)]
     rw [ih (i + 1) k _ (by omega) (by simp; omega) (by omega), List.append_assoc]
     rfl
   · rw [if_neg hx, if_neg (show ¬ inR x ⟨a :: ah, c :: cs⟩ = true from fun e => hx (of_decide_eq_true e))]
     exact ih (i + 1) k _ (by omega) (by omega) (by omega)
 unfold bW.f
 have := key l.length 0 k [] (by omega) (by simp) hk
 simpa using this
theorem concat_impl (x : Int) (l : List Int) (hl : l.length ≤ 1000) (k : Nat) (hk : 10 ≤ k) : aY.f k [[x], l] = some (x :: l) := by
 obtain ⟨k, rfl⟩ : ∃ m, k = m + 6 := ⟨k - 6, by omega⟩
 have e0 : rd_L2 [[x], l] 0 = [x] := rfl
 have e1 : rd_L2 [[x], l] 1 = l := rfl
 have hw : wrap64 (1 + (l.length : Int)) = 1 + (l.length : Int) := by unfold wrap64; omega
 have z1 : wrap64 (0 + 1) = 1 := by unfold wrap64; omega
 have z2 : wrap64 (1 + 1) = 2 := by unfold wrap64; omega
 have hn : (([[x], l] : List (List Int)).length : Int) = 2 := rfl
 have h1 : (([x] : List Int).length : Int) = 1 := rfl
 unfold aY.f
 rw [hn, aY.l0, ip, ip, ip, e0, h1, z1, im]
 rw [aY.l0, ip, ip, ip, e1, hw, im, z2]
 rw [aY.l0, im]
 show (Option.bind (if 0 ≤ 1 + (l.length : Int) ∧ 1 + (l.length : Int) ≤ 1073741824 then some [] else none) _) = _
 rw [ip]
 simp only [ob]
 rw [hn, aY.l1, ip, ip, ip, e0, if_pos (by simp), z1]
 rw [aY.l1, ip, ip, ip, e1, if_pos (by simp; omega), z2]
 rw [aY.l1, im]
 rfl
theorem prefixed_impl {r : Nat} (hr : r ≤ 3) (l : List S33) (a b : Int) (hR : Rows r l) (hl : l.length ≤ 1048576) (k : Nat) (hk : l.length + 10 < k) : impl_prefixed.f k l a b = some (pre l a b) := by
 have key : ∀ (d i k : Nat) (out : List S33), i + d = l.length → out.length ≤ i → d + 10 < k → impl_prefixed.l0 k a b out l (l.length : Int) (i : Int) = some (out ++ pre (l.drop i) a b) := by
  intro d
  induction d with
  | zero =>
   intro i k out hi ho hk
   obtain ⟨k, rfl⟩ := sk k
   rw [impl_prefixed.l0, im, List.drop_eq_nil_of_le (by omega)]
   simp [pre]
  | succ d ih =>
   intro i k out hi ho hk
   obtain ⟨k, rfl⟩ := sk k
   have hil : i < l.length := by omega
   have hq := hR _ (List.getElem_mem hil)
   rw [impl_prefixed.l0, ip, ip, ip, rd_at l i hil, drop_at l i hil]
   rw [concat_impl a _ (by omega) k (by omega), concat_impl b _ (by omega) k (by omega), cF i (by omega)]
   simp only [ob]
   rw [ip, ih (i + 1) k _ (by omega) (by simp; omega) (by omega), List.append_assoc]
   rfl
 unfold impl_prefixed.f
 have := key l.length 0 k [] (by omega) (by simp) hk
 simpa using this
def wo (x y : Bool) : Bool := x && !y
theorem comb_either : ∀ (r : Nat), r ≤ 3 → ∀ (a b : List S33), VL r a → VL r b → a.length ≤ 1048576 → b.length ≤ 1048576 → ∀ k, 3000010 + 200 * r ≤ k → aM.f k r a b = some (NF r fun p => or (mem a p) (mem b p)) := by
 have hop : ∀ x y : Bool, impl_either.f x y = some (or x y) := by intro x y; cases x <;> cases y <;> rfl
 intro r
 induction r with
 | zero =>
  intro _ a b ha hb hla hlb k hk
  obtain ⟨k, rfl⟩ := sk k
  have e1 : decide ((a.length : Int) > 0) = mem a [] := by rw [mem_zero ha]; exact decide_eq_decide.2 (by omega)
  have e2 : decide ((b.length : Int) > 0) = mem b [] := by rw [mem_zero hb]; exact decide_eq_decide.2 (by omega)
  rw [aM.f, if_pos (by rfl), hop, e1, e2]
  simp only [ob, NF]
  split <;> rfl
 | succ r ih =>
  intro hr a b ha hb hla hlb k hk
  obtain ⟨k, rfl⟩ := sk k
  have hM : ∀ P, (NF r P).length ≤ 68921 := fun P => Nat.le_trans (NF_len r P) (by
   have : r = 0 ∨ r = 1 ∨ r = 2 := by omega
   rcases this with rfl | rfl | rfl <;> decide)
  have loop : ∀ (d x k : Nat) (out run : List S33) (beg : Int), x + d = 41 → out.length ≤ x * 68921 → run.length ≤ 68921 → Rows r run → 3000010 + 200 * r + 3 * d < k →
   aM.l0 k ((r + 1 : Nat) : Int) a b out run beg (x : Int) = some (rle (fun x => if x < 40 then NF r (fun p => or (mem a ((x : Int) :: p)) (mem b ((x : Int) :: p))) else []) d x out run beg) := by
   intro d
   induction d with
   | zero =>
    intro x k out run beg hx ho hrun hrows hk
    obtain ⟨k, rfl⟩ := sk k
    rw [aM.l0, im]
    rfl
   | succ d ihd =>
    intro x k out run beg hx ho hrun hrows hk
    obtain ⟨k, rfl⟩ : ∃ m, k = m + 2 := ⟨k - 2, by omega⟩
    have hj : ∀ now : List S33, now = (if x < 40 then NF r (fun p => or (mem a ((x : Int) :: p)) (mem b ((x : Int) :: p))) else []) → aM.j2 (k + 1) ((r + 1 : Nat) : Int) a b out run beg (x : Int) now (x : Int) = some (rle (fun x => if x < 40 then NF r (fun p => or (mem a ((x : Int) :: p)) (mem b ((x : Int) :: p))) else []) (d + 1) x out run beg) := by
     intro now hnow
     have hn1 : now.length ≤ 68921 := by rw [hnow]; split; exact hM _; simp
     have hn2 : Rows r now := by rw [hnow]; split; exact NF_rows _ _; exact rows_nil _
     rw [aM.j2, same_impl r (by omega) now run (by omega) hn2 k (by omega), cF x (by omega)]
     simp only [ob, decide_eq_true_eq]
     unfold rle
     rw [← hnow]
     by_cases he : now = run
     · rw [if_pos he, if_pos he]
       exact ihd (x + 1) k out run beg (by omega) (Nat.le_trans ho (Nat.mul_le_mul_right _ (Nat.le_succ x))) hrun hrows (by omega)
     · rw [if_neg he, if_neg he, prefixed_impl (by omega : r ≤ 3) run beg x hrows (by omega) k (by omega)]
       simp only [ob]
       have hpl := pre_len run beg x
       have hxm : x * 68921 ≤ 41 * 68921 := Nat.mul_le_mul_right 68921 (by omega)
       rw [if_pos (by rw [hpl]; omega)]
       exact ihd (x + 1) k _ now x (by omega) (by rw [List.length_append, hpl, Nat.add_mul]; omega) hn1 hn2 (by omega)
    rw [aM.l0, ip]
    by_cases h40 : x < 40
    ·
     rw [ip, section_impl a x ha (by omega) (k + 1) (by omega), section_impl b x hb (by omega) (k + 1) (by omega)]
     simp only [ob]
     rw [show wrap64 (((r + 1 : Nat) : Int) - 1) = (r : Int) by unfold wrap64; omega]
     rw [ih (by omega) _ _ (sec_VL x ha) (sec_VL x hb) (Nat.le_trans (sec_len _ _) hla) (Nat.le_trans (sec_len _ _) hlb) (k + 1) (by omega)]
     simp only [ob]
     refine hj _ ?_
     rw [if_pos h40]
     congr 1
     funext p
     rw [sec_mem _ _ ha, sec_mem _ _ hb]
    · rw [im]
      exact hj _ (by rw [if_neg h40])
  have start : ∀ t : Bool, (t = true → a = [] ∧ b = []) → aM.j0 k ((r + 1 : Nat) : Int) a b t = some (NF (r + 1) fun p => or (mem a p) (mem b p)) := by
   intro t ht
   obtain ⟨k, rfl⟩ := sk k
   rw [aM.j0]
   cases t with
   | true =>
    obtain ⟨rfl, rfl⟩ := ht rfl
    rw [if_pos rfl]
    exact congrArg some (NF_false (r + 1)).symm
   | false =>
    rw [if_neg (by decide)]
    exact loop 41 0 k [] [] 0 (by omega) (by simp) (by simp) (rows_nil _) (by omega)
  rw [aM.f, im]
  by_cases h0 : (a.length : Int) = 0
  · rw [if_pos h0]
    exact start _ (fun h => ⟨List.length_eq_zero_iff.1 (by omega), List.length_eq_zero_iff.1 (by have := eq_of_beq h; omega)⟩)
  · rw [if_neg h0]
    exact start _ (fun h => by cases h)
theorem spec_l00Same_is (k : Nat) (a b : List Int) (hl : a.length ≤ 1048576) (hk : 1048590 ≤ k) : spec_l00Same.f k a b = some (decide (a = b)) := by
 unfold spec_l00Same.f
 by_cases hn : (a.length : Int) = (b.length : Int)
 ·
  rw [if_pos hn, seq_loop (fun k i => spec_l00Same.l0 k a b i) (fun i => rd a (i : Int) = rd b (i : Int)) a.length
   (by intro k; show spec_l00Same.l0 (k + 1) a b _ = _; rw [spec_l00Same.l0, im])
   (by
    intro k i hi
    show spec_l00Same.l0 (k + 1) a b _ = _
    rw [spec_l00Same.l0]
    repeat rw [if_pos (show (i : Int) < (a.length : Int) by omega)]
    repeat rw [if_pos (show (0 : Int) ≤ (i : Int) by omega)]
    repeat rw [if_pos (show (i : Int) < (a.length : Int) by omega)]
    repeat rw [if_pos (show (i : Int) < (b.length : Int) by omega)]
    rw [cF i (by omega)])
   k (by omega)]
  have hb : a.length = b.length := by omega
  congr 1
  apply decide_eq_decide.2
  constructor
  · intro h
    apply List.ext_getElem hb
    intro i h1 h2
    have := h i h1
    rwa [rd_lt a i h1, rd_lt b i h2] at this
  · rintro rfl i _
    rfl
 · rw [if_neg hn, decide_eq_false]
   rintro rfl
   exact hn rfl
def insL (n : Int) : List Int → List Int
 | [] => [n]
 | y :: ys => if y ≥ n then (if y > n then n :: y :: ys else y :: ys) else y :: insL n ys
theorem ins_mem (n x : Int) : ∀ l : List Int, x ∈ insL n l ↔ x = n ∨ x ∈ l
 | [] => by simp [insL]
 | y :: ys => by
  unfold insL
  have ih := ins_mem n x ys
  split
  · split
    · simp
    · have : y = n := by omega
      subst this
      simp
  ·
   simp only [List.mem_cons, ih]
   constructor
   · rintro (h | h | h)
     · exact .inr (.inl h)
     · exact .inl h
     · exact .inr (.inr h)
   · rintro (h | h | h)
     · exact .inr (.inl h)
     · exact .inl h
     · exact .inr (.inr h)
theorem ins_sorted (n : Int) : ∀ {l : List Int}, l.Pairwise (· < ·) → (insL n l).Pairwise (· < ·)
 | [], _ => by simp [insL]
 | y :: ys, h => by
  unfold insL
  have h1 := List.pairwise_cons.1 h
  split
  · split
    · refine List.pairwise_cons.2 ⟨fun z hz => ?_, h⟩
      rcases List.mem_cons.1 hz with rfl | hz
      · omega
      · have := h1.1 z hz; omega
    · exact h
  · refine List.pairwise_cons.2 ⟨fun z hz => ?_, ins_sorted n h1.2⟩
    rcases (ins_mem n z ys).1 hz with rfl | hz
    · omega
    · exact h1.1 z hz
theorem ins_len (n : Int) : ∀ l : List Int, (insL n l).length ≤ l.length + 1
 | [] => by simp [insL]
 | y :: ys => by
  unfold insL
  have := ins_len n ys
  split
  · split <;> simp
  · simp; omega
theorem dropi (l : List Int) (i : Nat) (h : i < l.length) : l.drop i = rd l (i : Int) :: l.drop (i + 1) := by rw [rd_lt l i h]; exact List.drop_eq_getElem_cons h
theorem put_spec (l : List Int) (n : Int) (hl : l.length ≤ 1048576) (k : Nat) (hk : 2 * l.length + 2 < k) : spec_l00Put.f k l n = some (insL n l) := by
 have done : ∀ (d i k : Nat) (out : List Int), i + d = l.length → out.length ≤ i + 1 → 2 * d < k → spec_l00Put.l0 k l n out true (i : Int) = some (out ++ l.drop i) := by
  intro d
  induction d with
  | zero =>
   intro i k out hi ho hk
   obtain ⟨k, rfl⟩ := sk k
   rw [spec_l00Put.l0, im, if_pos rfl, List.drop_eq_nil_of_le (by omega), List.append_nil]
  | succ d ih =>
   intro i k out hi ho hk
   obtain ⟨k, rfl⟩ : ∃ m, k = m + 2 := ⟨k - 2, by omega⟩
   rw [spec_l00Put.l0, ip, if_pos rfl, spec_l00Put.j1, if_neg (by decide), ip, ip, ip, cF i (by omega), ih (i + 1) k _ (by omega) (by simp; omega) (by omega), dropi l i (by omega), List.append_assoc]
   rfl
 have todo : ∀ (d i k : Nat) (out : List Int), i + d = l.length → out.length ≤ i → 2 * d < k → spec_l00Put.l0 k l n out false (i : Int) = some (out ++ insL n (l.drop i)) := by
  intro d
  induction d with
  | zero =>
   intro i k out hi ho hk
   obtain ⟨k, rfl⟩ := sk k
   rw [spec_l00Put.l0, im, if_neg (by decide), ip, List.drop_eq_nil_of_le (by omega)]
   rfl
  | succ d ih =>
   intro i k out hi ho hk
   obtain ⟨k, rfl⟩ : ∃ m, k = m + 2 := ⟨k - 2, by omega⟩
   rw [spec_l00Put.l0, ip, if_neg (by decide), ip, spec_l00Put.j1, dropi l i (by omega)]
   unfold insL
   by_cases h1 : rd l (i : Int) ≥ n
   ·
    rw [if_pos (decide_eq_true h1), if_pos h1, ip, ip]
    by_cases h2 : rd l (i : Int) > n
    · rw [if_pos h2, if_pos h2, ip]
      simp only [ob]
      rw [if_pos (by simp; omega), cF i (by omega), done d (i + 1) k _ (by omega) (by simp; omega) (by omega)]
      simp
    · rw [if_neg h2, if_neg h2, ip, cF i (by omega), done d (i + 1) k _ (by omega) (by simp; omega) (by omega)]
      simp
   · rw [if_neg (by simpa using h1), if_neg h1, ip, ip, ip, cF i (by omega), ih (i + 1) k _ (by omega) (by simp; omega) (by omega)]
     simp
 unfold spec_l00Put.f
 have := todo l.length 0 k [] (by omega) (by simp) (by omega)
 simpa using this
def cutsL : List Int → List S33 → List Int
 | c, [] => c
 | c, b :: l => cutsL (insL (rd b.f1 0) (insL (rd b.f0 0) c)) l
theorem cuts_mem (x : Int) : ∀ (l : List S33) (c : List Int), x ∈ cutsL c l ↔ x ∈ c ∨ ∃ b ∈ l, x = rd b.f0 0 ∨ x = rd b.f1 0
 | [], c => by simp [cutsL]
 | b :: l, c => by
  unfold cutsL
  rw [cuts_mem x l, ins_mem, ins_mem]
  constructor
  · rintro ((h | h | h) | ⟨z, h1, h2⟩)
    · exact .inr ⟨b, List.mem_cons_self, .inr h⟩
    · exact .inr ⟨b, List.mem_cons_self, .inl h⟩
    · exact .inl h
    · exact .inr ⟨z, List.mem_cons_of_mem _ h1, h2⟩
  ·
   rintro (h | ⟨z, h1, h2⟩)
   · exact .inl (.inr (.inr h))
   · rcases List.mem_cons.1 h1 with rfl | h1
     · rcases h2 with h2 | h2
       · exact .inl (.inr (.inl h2))
       · exact .inl (.inl h2)
     · exact .inr ⟨z, h1, h2⟩
theorem cuts_sorted : ∀ (l : List S33) (c : List Int), c.Pairwise (· < ·) → (cutsL c l).Pairwise (· < ·)
 | [], _, h => h
 | b :: l, c, h => cuts_sorted l _ (ins_sorted _ (ins_sorted _ h))
theorem cuts_len : ∀ (l : List S33) (c : List Int), (cutsL c l).length ≤ c.length + 2 * l.length
 | [], _ => by simp [cutsL]
 | b :: l, c => by
  unfold cutsL
  have := cuts_len l (insL (rd b.f1 0) (insL (rd b.f0 0) c))
  have h1 := ins_len (rd b.f1 0) (insL (rd b.f0 0) c)
  have h2 := ins_len (rd b.f0 0) c
  simp only [List.length_cons]
  omega
theorem cuts_spec {r : Nat} (l : List S33) (h : VL (r + 1) l) (hl : l.length ≤ 100000) : ∀ (d i k : Nat) (c : List Int), i + d = l.length → c.length + 2 * d ≤ 400000 → 1000000 + d < k → spec_l07Cuts.l0 k c l (i : Int) = some (cutsL c (l.drop i)) := by
 intro d
 induction d with
 | zero =>
  intro i k c hi hc hk
  obtain ⟨k, rfl⟩ := sk k
  rw [spec_l07Cuts.l0, im, List.drop_eq_nil_of_le (by omega)]
  rfl
 | succ d ih =>
  intro i k c hi hc hk
  obtain ⟨k, rfl⟩ := sk k
  have hil : i < l.length := by omega
  have hq := h _ (List.getElem_mem hil)
  have h1 := ins_len (rd l[i].f0 0) c
  have h2 := ins_len (rd l[i].f1 0) (insL (rd l[i].f0 0) c)
  rw [spec_l07Cuts.l0, ip, ip, rd_at l i hil, if_pos (by rw [hq.1]; omega), put_spec c _ (by omega) k (by omega)]
  simp only [ob]
  rw [if_pos (by rw [hq.2.1]; omega), put_spec _ _ (by omega) k (by omega)]
  simp only [ob]
  rw [cF i (by omega), ih (i + 1) k _ (by omega) (by omega) (by omega), drop_at l i hil]
  rfl
theorem cross_spec {r : Nat} (l : List S33) (x : Int) (h : VL (r + 1) l) (hl : l.length ≤ 1048576) (k : Nat) (hk : l.length < k) : bN.f k l x = some (secB x l) := by
 have key : ∀ (d i k : Nat) (out : List S33), i + d = l.length → out.length ≤ i → d < k → bN.l0 k l x out (i : Int) = some (out ++ secB x (l.drop i)) := by
  intro d
  induction d with
  | zero =>
   intro i k out hi ho hk
   obtain ⟨k, rfl⟩ := sk k
   rw [bN.l0, im, List.drop_eq_nil_of_le (by omega)]
   simp [secB]
  | succ d ih =>
   intro i k out hi ho hk
   obtain ⟨k, rfl⟩ := sk k
   have hil : i < l.length := by omega
   obtain ⟨a, ah, c, cs, e, h4, h5⟩ := VB_cons (h _ (List.getElem_mem hil))
   rw [bN.l0, ip, ip, rd_at l i hil, drop_at l i hil, sec_cons, e]
   have hwc : wrap64 (c - 1) = c - 1 := cA (by omega) (by omega)
   rw [if_pos (by simp), if_pos (by simp), in_eq, cF i (by omega)]
   simp only [ob, rd_cons0, decide_eq_true_eq, hwc]
   by_cases hx : a ≤ x ∧ x ≤ c - 1
   · rw [if_pos hx, if_pos (by simp; omega), if_pos (by simp; omega), ip, if_pos (show inR x ⟨a :: ah, c :: cs⟩ = true from decide_eq_true hx)]
     rw [ih (i + 1) k _ (by omega) (by simp; omega) (by omega), List.append_assoc]
     rfl
   · rw [if_neg hx, if_neg (show ¬ inR x ⟨a :: ah, c :: cs⟩ = true from fun e => hx (of_decide_eq_true e))]
     exact ih (i + 1) k _ (by omega) (by omega) (by omega)
 unfold bN.f
 have := key l.length 0 k [] (by omega) (by simp) hk
 simpa using this
theorem same_spec (r : Nat) (hr : r ≤ 3) (l m : List S33) (hl : l.length ≤ 1048576) (hR : Rows r l) (k : Nat) (hk : 3000000 ≤ k) : cX.f k l m = some (decide (l = m)) := by
 unfold cX.f
 by_cases h1 : l.length = m.length
 ·
  rw [ip, all_loop (fun k i => cX.l0 k l m i) (fun i => (aA l (i : Int)).f0 = (aA m (i : Int)).f0 ∧ (aA l (i : Int)).f1 = (aA m (i : Int)).f1) l.length 1048590 true
   (by intro k _; show cX.l0 (k + 1) l m _ = _; rw [cX.l0, im])
   (by
    intro k i hk hi
    show cX.l0 (k + 1) l m _ = _
    have hq : (aA l (i : Int)).f0.length = r ∧ (aA l (i : Int)).f1.length = r := by rw [rd_at l i hi]; exact hR _ (List.getElem_mem hi)
    rw [cX.l0, ip, ip, ip, cF i (by omega)]
    unfold spec_l07SameBox.f
    rw [spec_l00Same_is k _ _ (by omega) hk, spec_l00Same_is k _ _ (by omega) hk]
    simp only [ob, decide_eq_true_eq]
    by_cases h0 : (aA l (i : Int)).f0 = (aA m (i : Int)).f0
    · rw [if_pos h0]
      simp only [ob, decide_eq_true_eq]
      by_cases h2 : (aA l (i : Int)).f1 = (aA m (i : Int)).f1
      · rw [if_pos h2, if_pos ⟨h0, h2⟩]
      · rw [if_neg h2, if_neg (fun h => h2 h.2)]
    · rw [if_neg h0]
      simp only [ob, Bool.false_eq_true, if_false]
      rw [if_neg (fun h => h0 h.1)])
   k (by omega)]
  simp only [Bool.and_true]
  congr 1
  exact decide_eq_decide.2 (same_eq l m h1)
 · rw [im, decide_eq_false (fun h => h1 (by rw [h]))]
def rleS (F : Int → List S33) : List Int → List S33 → List S33 → Int → List S33
 | [], out, _, _ => out
 | c :: cs, out, run, beg => if F c = run then rleS F cs out run beg else rleS F cs (out ++ pre run beg c) (F c) c
def rleFirst (F : Int → List S33) : List Int → List S33
 | [] => []
 | c :: cs => rleS F cs [] (F c) c
theorem rle_beg (f : Nat → List S33) : ∀ (d x : Nat) (out : List S33) (b b' : Int), rle f d x out [] b = rle f d x out [] b' := by
 intro d
 induction d with
 | zero => intro x out b b'; rfl
 | succ d ih =>
  intro x out b b'
  unfold rle
  split
  · exact ih _ _ _ _
  · rw [pre_nil, pre_nil]
theorem rle_cuts (F : Int → List S33) (C : List Int) (hF : ∀ y : Nat, 1 ≤ y → y ≤ 40 → (y : Int) ∉ C → F y = F ((y : Int) - 1)) : ∀ (d x : Nat) (cs : List Int) (out run : List S33) (beg : Int), x + d = 41 → 1 ≤ x → cs.Pairwise (· < ·) → (∀ c ∈ cs, (x : Int) ≤ c ∧ c ≤ 40) → (∀ y : Nat, x ≤ y → (y : Int) ∈ C → (y : Int) ∈ cs) → run = F ((x : Int) - 1) →
 rleS F cs out run beg = rle (fun n => F n) d x out run beg := by
 intro d
 induction d with
 | zero =>
  intro x cs out run beg hx h1 hs hc hC hrun
  cases cs with
  | nil => rfl
  | cons c cs => have := hc c List.mem_cons_self; omega
 | succ d ih =>
  intro x cs out run beg hx h1 hs hc hC hrun
  have hx1 : (((x + 1 : Nat) : Int) - 1) = (x : Int) := by omega
  unfold rle
  by_cases hm : (x : Int) ∈ cs
  ·
   obtain ⟨cs', rfl⟩ : ∃ cs', cs = (x : Int) :: cs' := by
    cases cs with
    | nil => cases hm
    | cons c cs' =>
     rcases List.mem_cons.1 hm with h | h
     · exact ⟨cs', by rw [h]⟩
     · have := (List.pairwise_cons.1 hs).1 _ h
       have := (hc c List.mem_cons_self).1
       omega
   have hs' := List.pairwise_cons.1 hs
   have hc' : ∀ c ∈ cs', ((x + 1 : Nat) : Int) ≤ c ∧ c ≤ 40 := fun c h => by
    have := hs'.1 c h
    have := (hc c (List.mem_cons_of_mem _ h)).2
    omega
   have hC' : ∀ y : Nat, x + 1 ≤ y → (y : Int) ∈ C → (y : Int) ∈ cs' := fun y hy h => by
    rcases List.mem_cons.1 (hC y (by omega) h) with e | e
    · omega
    · exact e
   unfold rleS
   by_cases he : F (x : Int) = run
   · rw [if_pos he, if_pos he]
     exact ih (x + 1) cs' out run beg (by omega) (by omega) hs'.2 hc' hC' (by rw [hx1]; exact he.symm)
   · rw [if_neg he, if_neg he]
     exact ih (x + 1) cs' _ _ _ (by omega) (by omega) hs'.2 hc' hC' (by rw [hx1])
  ·
   have hn : (x : Int) ∉ C := fun h => hm (hC x (Nat.le_refl _) h)
   have he : F (x : Int) = run := by rw [hF x h1 (by omega) hn, hrun]
   rw [if_pos he]
   refine ih (x + 1) cs out run beg (by omega) (by omega) hs (fun c h => ?_) (fun y hy h => hC y (by omega) h) (by rw [hx1]; exact he.symm)
   have h2 := hc c h
   have h3 : c ≠ (x : Int) := fun e => hm (e ▸ h)
   omega
theorem rle_first (F : Int → List S33) (C : List Int) (hs : C.Pairwise (· < ·)) (hF : ∀ y : Nat, 1 ≤ y → y ≤ 40 → (y : Int) ∉ C → F y = F ((y : Int) - 1)) (hF0 : ∀ y : Nat, (∀ c ∈ C, (y : Int) < c) → F y = []) (hC : ∀ c ∈ C, 0 ≤ c ∧ c ≤ 40) : ∀ (d x : Nat), x + d = 41 → (∀ c ∈ C, (x : Int) ≤ c) →
 rleFirst F C = rle (fun n => F n) d x [] [] 0 := by
 intro d
 induction d with
 | zero =>
  intro x hx h
  cases C with
  | nil => rfl
  | cons c cs => have := h c List.mem_cons_self; have := (hC c List.mem_cons_self).2; omega
 | succ d ih =>
  intro x hx h
  have hx1 : (((x + 1 : Nat) : Int) - 1) = (x : Int) := by omega
  by_cases hm : (x : Int) ∈ C
  ·
   obtain ⟨cs', e⟩ : ∃ cs', C = (x : Int) :: cs' := by
    cases C with
    | nil => cases hm
    | cons c cs' =>
     rcases List.mem_cons.1 hm with h1 | h1
     · exact ⟨cs', by rw [h1]⟩
     · have := (List.pairwise_cons.1 hs).1 _ h1
       have := h c List.mem_cons_self
       omega
   subst e
   have hs' := List.pairwise_cons.1 hs
   have h5 : rleS F cs' [] (F (x : Int)) (x : Int) = rle (fun n => F n) d (x + 1) [] (F (x : Int)) (x : Int) :=
    rle_cuts F _ hF d (x + 1) cs' [] _ _ (by omega) (by omega) hs'.2 (fun c h1 => ⟨by have := hs'.1 c h1; omega, (hC c (List.mem_cons_of_mem _ h1)).2⟩) (fun y hy h1 => by
     rcases List.mem_cons.1 h1 with e | e
     · omega
     · exact e) (by rw [hx1])
   show rleS F cs' [] (F (x : Int)) (x : Int) = _
   rw [h5]
   conv => rhs; unfold rle
   by_cases he : F (x : Int) = []
   · rw [if_pos he, he]
     exact rle_beg _ _ _ _ _ _
   · rw [if_neg he, pre_nil]
     rfl
  ·
   have he : F (x : Int) = [] := hF0 x (fun c hc => by
    have h2 := h c hc
    have h3 : c ≠ (x : Int) := fun e => hm (e ▸ hc)
    omega)
   rw [ih (x + 1) (by omega) (fun c hc => by
    have h2 := h c hc
    have h3 : c ≠ (x : Int) := fun e => hm (e ▸ hc)
    omega)]
   conv => rhs; unfold rle
   rw [if_pos he]
theorem mem_lt {l : List S33} {r : Nat} (h : VL (r + 1) l) (p : List Int) (x : Int) (hc : ∀ b ∈ l, x < rd b.f0 0) : mem l (x :: p) = false := by
 unfold mem
 rw [List.any_eq_false]
 intro b hb
 obtain ⟨a, ah, e, es, rfl, h4, h5⟩ := VB_cons (h b hb)
 have := hc _ hb
 rw [show rd (S33.mk (a :: ah) (e :: es)).f0 0 = a from rfl] at this
 show ¬ ((decide (a ≤ x) && decide (x < e)) && inBx ah es p) = true
 rw [show decide (a ≤ x) = false from decide_eq_false (by omega)]
 simp
theorem mem_step {r : Nat} (p : List Int) (x : Int) : ∀ {l : List S33}, VL (r + 1) l → (∀ b ∈ l, rd b.f0 0 ≠ x ∧ rd b.f1 0 ≠ x) → mem l (x :: p) = mem l ((x - 1) :: p)
 | [], _, _ => rfl
 | b :: l, h, hc => by
  obtain ⟨h1, h2⟩ := VL_cons.1 h
  obtain ⟨a, ah, c, cs, rfl, h4, h5⟩ := VB_cons h1
  have h6 := hc _ List.mem_cons_self
  rw [show rd (S33.mk (a :: ah) (c :: cs)).f0 0 = a from rfl, show rd (S33.mk (a :: ah) (c :: cs)).f1 0 = c from rfl] at h6
  rw [mem_cons, mem_cons, mem_step p x h2 (fun b hb => hc b (List.mem_cons_of_mem _ hb))]
  show (((decide (a ≤ x) && decide (x < c)) && inBx ah cs p) || _) = (((decide (a ≤ x - 1) && decide (x - 1 < c)) && inBx ah cs p) || _)
  rw [show decide (a ≤ x) = decide (a ≤ x - 1) from decide_eq_decide.2 (by omega), show decide (x < c) = decide (x - 1 < c) from decide_eq_decide.2 (by omega)]
theorem sorted_len : ∀ (l : List Int) (lo hi : Int), l.Pairwise (· < ·) → (∀ c ∈ l, lo ≤ c ∧ c ≤ hi) → lo ≤ hi + 1 → (l.length : Int) ≤ hi - lo + 1
 | [], lo, hi, _, _, h => by simp; omega
 | y :: ys, lo, hi, hs, hc, h => by
  have hs' := List.pairwise_cons.1 hs
  have hy := hc y List.mem_cons_self
  have := sorted_len ys (y + 1) hi hs'.2 (fun c h1 => ⟨by have := hs'.1 c h1; omega, (hc c (List.mem_cons_of_mem _ h1)).2⟩) (by omega)
  simp only [List.length_cons]
  omega
theorem VL_first {r : Nat} {l : List S33} (h : VL (r + 1) l) : ∀ b ∈ l, (0 ≤ rd b.f0 0 ∧ rd b.f0 0 ≤ 40) ∧ 0 ≤ rd b.f1 0 ∧ rd b.f1 0 ≤ 40 := fun b hb => by
 obtain ⟨a, ah, c, cs, rfl, h4, h5⟩ := VB_cons (h b hb)
 exact ⟨⟨h4.1, by show a ≤ 40; omega⟩, by show 0 ≤ c; omega, h4.2.2⟩
def FF (g : Bool → Bool → Bool) (r : Nat) (a b : List S33) (c : Int) : List S33 := if c < 40 then NF r (fun p => g (mem a (c :: p)) (mem b (c :: p))) else []
def KS : Nat → Nat
 | 0 => 4000000
 | r + 1 => KS r + 4000000
theorem KS_ge : ∀ r, 4000000 ≤ KS r
 | 0 => Nat.le_refl _
 | r + 1 => Nat.le_trans (KS_ge r) (Nat.le_add_right _ _)
theorem comb_spec (o : Int) (g : Bool → Bool → Bool) (hg : ∀ x y, spec_l07Holds.f o x y = some (g x y)) (h0 : g false false = false) : ∀ (r : Nat), r ≤ 3 → ∀ (a b : List S33), VL r a → VL r b → a.length ≤ 100000 → b.length ≤ 100000 → ∀ k, KS r ≤ k → aJ.f k o a b r = some (NF r fun p => g (mem a p) (mem b p)) := by
 intro r
 induction r with
 | zero =>
  intro _ a b ha hb hla hlb k hk
  have hKr := KS_ge 0
  obtain ⟨k, rfl⟩ := sk k
  have e1 : decide ((a.length : Int) > 0) = mem a [] := by rw [mem_zero ha]; exact decide_eq_decide.2 (by omega)
  have e2 : decide ((b.length : Int) > 0) = mem b [] := by rw [mem_zero hb]; exact decide_eq_decide.2 (by omega)
  rw [aJ.f]
  simp only [ob]
  rw [if_pos (by rfl), hg, e1, e2]
  simp only [ob, NF]
  split
  · rw [if_pos (by simp)]; rfl
  · rfl
 | succ r ih =>
  intro hr a b ha hb hla hlb k hk
  have hKS : KS (r + 1) = KS r + 4000000 := rfl
  have hKr := KS_ge r
  rw [hKS] at hk
  obtain ⟨k, rfl⟩ := sk k
  have hk3 : 3000000 ≤ k := by omega
  have hk4 : KS r + 3000000 < k := by omega
  have hM : ∀ P, (NF r P).length ≤ 68921 := fun P => Nat.le_trans (NF_len r P) (by
   have : r = 0 ∨ r = 1 ∨ r = 2 := by omega
   rcases this with rfl | rfl | rfl <;> decide)
  have hFM : ∀ c, (FF g r a b c).length ≤ 68921 := fun c => by unfold FF; split; exact hM _; simp
  have hFR : ∀ c, Rows r (FF g r a b c) := fun c => by unfold FF; split; exact NF_rows _ _; exact rows_nil _
  obtain ⟨C, hCe⟩ : ∃ C, C = cutsL (cutsL [] a) b := ⟨_, rfl⟩
  have hCs : C.Pairwise (· < ·) := by rw [hCe]; exact cuts_sorted _ _ (cuts_sorted _ _ List.Pairwise.nil)
  have hCm : ∀ x, x ∈ C ↔ (∃ q ∈ a, x = rd q.f0 0 ∨ x = rd q.f1 0) ∨ ∃ q ∈ b, x = rd q.f0 0 ∨ x = rd q.f1 0 := fun x => by
   rw [hCe, cuts_mem, cuts_mem]
   simp
  have hA := VL_first ha
  have hB := VL_first hb
  have hCb : ∀ c ∈ C, 0 ≤ c ∧ c ≤ 40 := fun c hc => by
   rcases (hCm c).1 hc with ⟨q, h1, h2⟩ | ⟨q, h1, h2⟩
   · have := hA q h1; omega
   · have := hB q h1; omega
  have hCl : C.length ≤ 41 := by have := sorted_len C 0 40 hCs hCb (by omega); omega
  have hF40 : ∀ c : Int, ¬ c < 40 → FF g r a b c = [] := fun c h => by unfold FF; rw [if_neg h]
  have hnone : ∀ c : Int, (∀ p, mem a (c :: p) = false) → (∀ p, mem b (c :: p) = false) → FF g r a b c = [] := fun c h1 h2 => by
   unfold FF
   split
   · rw [show (fun p => g (mem a (c :: p)) (mem b (c :: p))) = fun _ => false from by funext p; rw [h1, h2, h0]]
     exact NF_false r
   · rfl
  have hlast : ∀ c : Int, (∀ x ∈ C, x ≤ c) → FF g r a b c = [] := fun c h =>
   hnone c (fun p => mem_ge ha c (fun q hq => h _ ((hCm _).2 (.inl ⟨q, hq, .inr rfl⟩))) p c (by omega)) (fun p => mem_ge hb c (fun q hq => h _ ((hCm _).2 (.inr ⟨q, hq, .inr rfl⟩))) p c (by omega))
  have hF0 : ∀ y : Nat, (∀ c ∈ C, (y : Int) < c) → FF g r a b y = [] := fun y h =>
   hnone y (fun p => mem_lt ha p y (fun q hq => h _ ((hCm _).2 (.inl ⟨q, hq, .inl rfl⟩)))) (fun p => mem_lt hb p y (fun q hq => h _ ((hCm _).2 (.inr ⟨q, hq, .inl rfl⟩))))
  have hF : ∀ y : Nat, 1 ≤ y → y ≤ 40 → (y : Int) ∉ C → FF g r a b y = FF g r a b ((y : Int) - 1) := fun y h1 h2 hn => by
   have ea : ∀ p, mem a ((y : Int) :: p) = mem a (((y : Int) - 1) :: p) := fun p => mem_step p y ha (fun q hq => ⟨fun e => hn ((hCm _).2 (.inl ⟨q, hq, .inl e.symm⟩)), fun e => hn ((hCm _).2 (.inl ⟨q, hq, .inr e.symm⟩))⟩)
   have eb : ∀ p, mem b ((y : Int) :: p) = mem b (((y : Int) - 1) :: p) := fun p => mem_step p y hb (fun q hq => ⟨fun e => hn ((hCm _).2 (.inr ⟨q, hq, .inl e.symm⟩)), fun e => hn ((hCm _).2 (.inr ⟨q, hq, .inr e.symm⟩))⟩)
   by_cases h40 : y < 40
   · unfold FF
     rw [ip, ip]
     congr 1
     funext p
     rw [ea, eb]
   · rw [hF40 y (by omega)]
     exact (hnone _ (fun p => by rw [← ea]; exact mem_ge ha 40 (fun q hq => (hA q hq).2.2) p y (by omega)) (fun p => by rw [← eb]; exact mem_ge hb 40 (fun q hq => (hB q hq).2.2) p y (by omega))).symm
  -- one round: what now is, and what follows
  have hlt : ∀ i : Nat, i < C.length → rd C (i : Int) ∈ C := fun i hi => by rw [rd_lt C i hi]; exact List.getElem_mem hi
  have hmono : ∀ i j : Nat, i < j → j < C.length → rd C (i : Int) < rd C (j : Int) := fun i j h1 h2 => by
   rw [rd_lt C i (by omega), rd_lt C j h2]
   exact List.pairwise_iff_getElem.1 hCs i j (by omega) h2 h1
  have round : ∀ (i k : Nat) (out run : List S33) (beg : Int) (R : Option (List S33)), i < C.length → KS r < k → (aJ.j1 k o a b ((r + 1 : Nat) : Int) out C run beg (i : Int) (FF g r a b (rd C (i : Int))) = R) → aJ.l0 (k + 1) o a b ((r + 1 : Nat) : Int) out C run beg (i : Int) = R := by
   intro i k out run beg R hi hk hR
   rw [aJ.l0, ip, cF i (by omega)]
   by_cases hl : i + 1 < C.length
   ·
    have hc40 : rd C (i : Int) < 40 := by have := hmono i (i + 1) (by omega) hl; have := (hCb _ (hlt (i + 1) hl)).2; omega
    rw [ip, ip, cross_spec a _ ha (by omega) k (by omega), cross_spec b _ hb (by omega) k (by omega)]
    simp only [ob]
    rw [show wrap64 (((r + 1 : Nat) : Int) - 1) = (r : Int) by unfold wrap64; omega]
    rw [ih (by omega) _ _ (sec_VL _ ha) (sec_VL _ hb) (Nat.le_trans (sec_len _ _) hla) (Nat.le_trans (sec_len _ _) hlb) k (by omega)]
    simp only [ob]
    have e : NF r (fun p => g (mem (secB (rd C (i : Int)) a) p) (mem (secB (rd C (i : Int)) b) p)) = FF g r a b (rd C (i : Int)) := by
     unfold FF
     rw [if_pos hc40]
     congr 1
     funext p
     rw [sec_mem _ _ ha, sec_mem _ _ hb]
    rw [e]
    exact hR
   ·
    rw [im]
    have e : FF g r a b (rd C (i : Int)) = [] := hlast _ (fun x hx => by
     obtain ⟨j, hj, rfl⟩ := List.mem_iff_getElem.1 hx
     by_cases hji : j = i
     · subst hji; rw [rd_lt C j hj]; exact Int.le_refl _
     · have := hmono j i (by omega) hi
       rw [rd_lt C j hj] at this
       omega)
    rw [e] at hR
    exact hR
  have put : ∀ (now run : List S33) (beg : Int) (i : Nat) (R : Option (List S33)) (K : Nat), i < C.length → Rows r run → run.length ≤ 68921 → ∀ (e q k : Nat) (out : List S33), q + e = run.length → out.length + e ≤ 2894682 →
   (∀ k', K ≤ k' → aJ.l0 k' o a b ((r + 1 : Nat) : Int) (out ++ pre (run.drop q) beg (rd C (i : Int))) C now (rd C (i : Int)) ((i + 1 : Nat) : Int) = R) → K + e < k → aJ.l1 k o a b ((r + 1 : Nat) : Int) out C run beg (i : Int) now (q : Int) = R := by
   intro now run beg i R K hi hrows hrl e
   induction e with
   | zero =>
    intro q k out hq ho hn hk
    obtain ⟨k, rfl⟩ := sk k
    have := hn k (by omega)
    rw [List.drop_eq_nil_of_le (by omega), pre_nil, List.append_nil] at this
    rw [aJ.l1, im, ip, ip, cF i (by omega)]
    exact this
   | succ e ihe =>
    intro q k out hq ho hn hk
    obtain ⟨k, rfl⟩ := sk k
    have hql : q < run.length := by omega
    have hrow := hrows _ (List.getElem_mem hql)
    rw [aJ.l1, ip]
    simp only [ob]
    rw [rd_at run q hql, ip, if_pos (by rw [hrow.1]; simp; omega), ip, ip, if_pos (by rw [hrow.2]; simp; omega), ip, cF q (by omega)]
    refine ihe (q + 1) k _ (by omega) (by simp; omega) (fun k' hk' => ?_) (by omega)
    have := hn k' hk'
    rw [drop_at run q hql] at this
    rw [List.append_assoc]
    exact this
  have loop : ∀ (d i k : Nat) (out run : List S33) (beg : Int), i + d = C.length → 1 ≤ i → out.length ≤ i * 68921 → run.length ≤ 68921 → Rows r run → KS r + 70000 * d < k →
   aJ.l0 k o a b ((r + 1 : Nat) : Int) out C run beg (i : Int) = some (rleS (FF g r a b) (C.drop i) out run beg) := by
   intro d
   induction d with
   | zero =>
    intro i k out run beg hi h1 ho hrl hrows hk
    obtain ⟨k, rfl⟩ := sk k
    rw [aJ.l0, im, List.drop_eq_nil_of_le (by omega)]
    rfl
   | succ d ihd =>
    intro i k out run beg hi h1 ho hrl hrows hk
    obtain ⟨k, rfl⟩ : ∃ m, k = m + 3 := ⟨k - 3, by omega⟩
    have hlen : out.length ≤ 2825761 := Nat.le_trans ho (Nat.mul_le_mul_right 68921 (by omega : i ≤ 41))
    refine round i (k + 2) out run beg _ (by omega) (by omega) ?_
    rw [aJ.j1, ip, same_spec r (by omega) (FF g r a b (rd C (i : Int))) run (by have := hFM (rd C (i : Int)); omega) (hFR _) (k + 1) (by omega)]
    simp only [ob]
    rw [aJ.j2, dropi C i (by omega), cF i (by omega)]
    unfold rleS
    by_cases he : FF g r a b (rd C (i : Int)) = run
    · rw [if_pos (decide_eq_true he), if_pos he]
      exact ihd (i + 1) k out run beg (by omega) (by omega) (Nat.le_trans ho (Nat.mul_le_mul_right _ (Nat.le_succ i))) hrl hrows (by omega)
    · rw [if_neg (by simpa using he), if_neg he]
      refine put _ run beg i _ (KS r + 70000 * d + 1) (by omega) hrows hrl run.length 0 k out (by omega) (by omega) (fun k' hk' => ?_) (by omega)
      rw [List.drop_zero]
      exact ihd (i + 1) k' _ _ _ (by omega) (by omega) (by rw [List.length_append, pre_len, Nat.add_mul]; omega) (hFM _) (hFR _) (by omega)
  have hcut : ∀ k, 3000000 ≤ k → (spec_l07Cuts.f k [] a).bind (fun t => spec_l07Cuts.f k t b) = some C := fun k hk => by
   unfold spec_l07Cuts.f
   have e1 := cuts_spec a ha hla a.length 0 k [] (by omega) (by simp; omega) (by omega)
   rw [List.drop_zero] at e1
   rw [show spec_l07Cuts.l0 k [] a 0 = _ from e1]
   simp only [ob]
   have hl1 := cuts_len a []
   have e2 := cuts_spec b hb hlb b.length 0 k (cutsL [] a) (by omega) (by simp only [List.length_nil] at hl1; omega) (by omega)
   rw [List.drop_zero] at e2
   rw [show spec_l07Cuts.l0 k (cutsL [] a) b 0 = _ from e2, hCe]
  rw [aJ.f]
  simp only [ob]
  rw [im]
  have hc2 := hcut k hk3
  cases e1 : spec_l07Cuts.f k [] a with
  | none => rw [e1] at hc2; cases hc2
  | some t =>
   rw [e1] at hc2
   simp only [ob] at hc2 ⊢
   rw [hc2]
   simp only [ob]
   have hfin := rle_first (FF g r a b) C hCs hF hF0 hCb 41 0 (by omega) (fun c hc => (hCb c hc).1)
   have hNF : NF (r + 1) (fun p => g (mem a p) (mem b p)) = rle (fun n => FF g r a b n) 41 0 [] [] 0 := by
    show rle _ 41 0 [] [] 0 = _
    congr 1
    funext x
    unfold FF
    by_cases hx : x < 40
    · rw [if_pos hx, ip]
    · rw [if_neg hx, im]
   rw [hNF, ← hfin]
   by_cases hn : C.length = 0
   · obtain ⟨k, rfl⟩ := sk k
     rw [aJ.l0, im, List.length_eq_zero_iff.1 hn]
     rfl
   ·
    obtain ⟨k, rfl⟩ : ∃ m, k = m + 4 := ⟨k - 4, by omega⟩
    have hd := dropi C 0 (by omega)
    rw [List.drop_zero] at hd
    refine round 0 (k + 3) [] [] 0 _ (by omega) (by omega) ?_
    rw [aJ.j1, im, aJ.j2, if_neg (by decide), aJ.l1, if_neg (by simp), ip, ip, cF 0 (by omega)]
    rw [loop (C.length - 1) (0 + 1) k [] (FF g r a b (rd C ((0 : Nat) : Int))) (rd C ((0 : Nat) : Int)) (by omega) (by omega) (by simp) (hFM _) (hFR _) (by omega)]
    congr 1
    show _ = rleFirst (FF g r a b) C
    rw [hd]
    rfl
theorem box_impl (k : Nat) (a b : List Int) (hk : 10 < k) : bZ.f k a b = some (decide (VBox a b)) := by
 obtain ⟨k, rfl⟩ := sk k
 unfold bZ.f
 by_cases hn : (a.length : Int) = (b.length : Int)
 ·
  rw [if_pos hn, bZ.j0]
  by_cases h3 : (a.length : Int) > 3
  · rw [if_pos (by simpa using h3)]
    have : ¬ VBox a b := fun h => by have := h.1; omega
    simp [this]
  ·
   rw [if_neg (by simpa using h3)]
   obtain ⟨r, h, rfl⟩ := count_loop (fun k (_ : Unit) i => bZ.l0 k a (a.length : Int) i a b) a.length 0 (fun i _ => ∀ j, j < i → BoxAt a b j) (fun r => r = decide (VBox a b))
    (by
     rintro k - - h1
     refine ⟨true, by show bZ.l0 (k + 1) a _ _ a b = _; rw [bZ.l0, im], ?_⟩
     have : VBox a b := ⟨by omega, by omega, h1⟩
     simp [this])
    (by
     rintro k - i - hi h1
     have e : bZ.l0 (k + 1) a (a.length : Int) (i : Int) a b = if BoxAt a b i then bZ.l0 k a (a.length : Int) ((i + 1 : Nat) : Int) a b else some false := by
      rw [bZ.l0, ip, ip, ip, cF i (by omega)]
      by_cases c1 : rd a i < 0
      · rw [if_pos c1, if_neg (fun h => by have := h.1; omega)]
      · rw [if_neg c1, ip]
        by_cases c2 : rd a i ≥ rd b i
        · rw [if_pos c2, if_neg (fun h => by have := h.2.1; omega)]
        · rw [if_neg c2]
          by_cases c3 : rd b i > 40
          · rw [if_pos c3, if_neg (fun h => by have := h.2.2; omega)]
          · rw [if_neg c3, if_pos (show BoxAt a b i from ⟨by omega, by omega, by omega⟩)]
     by_cases c : BoxAt a b i
     · exact .inl ⟨(), all_step h1 c, by show bZ.l0 (k + 1) a _ _ a b = _; rw [e, if_pos c]⟩
     · refine .inr ⟨false, by show bZ.l0 (k + 1) a _ _ a b = _; rw [e, if_neg c], ?_⟩
       have : ¬ VBox a b := fun h => c (h.2.2 i hi)
       simp [this])
    k () 0 (by omega) (by omega) (fun j hj => by omega)
   exact h
 · rw [if_neg hn, bZ.j0, if_pos rfl]
   have : ¬ VBox a b := fun h => by have := h.2.1; omega
   simp [this]
def okB (l : List S33) (i : Nat) : Prop := VBox (aA l i).f0 (aA l i).f1 ∧ (aA l i).f0.length = (aA l 0).f0.length
instance (l : List S33) : DecidablePred (okB l) := fun i => by unfold okB; infer_instance
theorem list_impl (l : List S33) (hl : l.length ≤ 1048576) (k : Nat) (hk : 1048600 ≤ k) : impl_boxesOk.f k l = some (decide (∀ i, i < l.length → okB l i) && decide ((l.length : Int) ≤ 32)) := by
 unfold impl_boxesOk.f slices_ContainsFunc_impl_boxesOk_1.f bJ.f
 by_cases hn : (l.length : Int) ≤ 32
 ·
  rw [if_pos hn, find_loop (fun k i => bJ.l0 k l l.length i l) (fun i => ¬ okB l i) l.length 11
   (by intro k _; show bJ.l0 (k + 1) l _ _ l = _; rw [bJ.l0, im])
   (by
    intro k i hk hi
    show bJ.l0 (k + 1) l _ _ l = _
    rw [bJ.l0, ip, ip, ip, cF i (by omega)]
    unfold impl_boxesOk_1.f
    rw [box_impl k _ _ (by omega)]
    simp only [ob, decide_eq_true_eq]
    by_cases h : VBox (aA l i).f0 (aA l i).f1
    · rw [if_pos h, ip]
      simp only [ob]
      by_cases h2 : (aA l i).f0.length = (aA l 0).f0.length
      · have h3 : okB l i := ⟨h, h2⟩
        simp [h2, h3]
      · have h3 : ¬ okB l i := fun h3 => h2 h3.2
        have h4 : ¬ ((aA l i).f0.length : Int) = ((aA l 0).f0.length : Int) := by omega
        simp [h4, h3]
    · have h3 : ¬ okB l i := fun h3 => h h3.1
      simp [if_neg h, h3])
   k (by omega)]
  simp only [ob, decide_eq_true hn, Bool.and_true]
  rcases look_or (fun i => ¬ okB l i) l.length 0 with ⟨h4, h5⟩ | ⟨j, -, h4, h5, h6⟩
  · rw [h4]
    have h7 : ∀ i, i < l.length → okB l i := fun i hi => Decidable.not_not.1 (h5 i (by omega) (by omega))
    rw [decide_eq_true h7]; rfl
  · rw [h5]
    have h7 : ¬ ∀ i, i < l.length → okB l i := fun h => h6 (h j (by omega))
    have h8 : (j : Int) ≥ 0 := by omega
    rw [decide_eq_false h7]; simp [h8]
 · rw [if_neg hn, decide_eq_false hn, Bool.and_false]
def InRange (r : Nat) (p : List Int) : Prop := p.length = r ∧ ∀ x ∈ p, 0 ≤ x ∧ x < 40
theorem range_cons {r : Nat} {x : Int} {p : List Int} (h0 : 0 ≤ x) (h1 : x < 40) (h : InRange r p) : InRange (r + 1) (x :: p) := by
 refine ⟨by simp [h.1], fun y hy => ?_⟩
 rcases List.mem_cons.1 hy with rfl | hy
 · exact ⟨h0, h1⟩
 · exact h.2 y hy
theorem NF_congr : ∀ (r : Nat) {P Q : List Int → Bool}, (∀ p, InRange r p → P p = Q p) → NF r P = NF r Q
 | 0, P, Q, h => by
  unfold NF
  rw [h [] ⟨rfl, by simp⟩]
 | r + 1, P, Q, h => by
  unfold NF
  congr 1
  funext x
  by_cases hx : x < 40
  · rw [if_pos hx, if_pos hx]
    exact NF_congr r (fun p hp => h _ (range_cons (by omega) (by omega) hp))
  · rw [if_neg hx, if_neg hx]
theorem VL_app {r : Nat} {l m : List S33} (h : VL r l) (h' : VL r m) : VL r (l ++ m) := fun b hb => by
 rcases List.mem_append.1 hb with hb | hb
 · exact h b hb
 · exact h' b hb
theorem VL_pre {r : Nat} {l : List S33} (h : VL r l) (a b : Int) (hab : 0 ≤ a ∧ a < b ∧ b ≤ 40) : VL (r + 1) (pre l a b) := fun x hx => by
 obtain ⟨y, hy, rfl⟩ := List.mem_map.1 hx
 obtain ⟨h1, h2, h3⟩ := h y hy
 refine ⟨by simp [h1], by simp [h2], fun i hi => ?_⟩
 cases i with
 | zero => exact hab
 | succ i =>
  have := h3 i (by omega)
  unfold BoxAt at this ⊢
  simp only [rd_consS]
  exact this
theorem rle_VL (f : Nat → List S33) (r : Nat) (hf : ∀ x, VL r (f x)) : ∀ (d x : Nat) (out run : List S33) (beg : Int), x + d = 41 → VL (r + 1) out → VL r run → (run = [] ∨ (0 ≤ beg ∧ beg < x)) → VL (r + 1) (rle f d x out run beg) := by
 intro d
 induction d with
 | zero => intro x out run beg _ h _ _; exact h
 | succ d ih =>
  intro x out run beg hx h h' hb
  unfold rle
  split
  · exact ih _ _ _ _ (by omega) h h' (by rcases hb with hb | hb; exact .inl hb; exact .inr ⟨hb.1, by omega⟩)
  · refine ih _ _ _ _ (by omega) (VL_app h ?_) (hf x) (.inr ⟨by omega, by omega⟩)
    rcases hb with rfl | hb
    · intro b hb; cases hb
    · exact VL_pre h' _ _ ⟨hb.1, hb.2, by omega⟩
theorem VL_nil (r : Nat) : VL r [] := fun b hb => by cases hb
theorem NF_VL : ∀ (r : Nat) (P : List Int → Bool), VL r (NF r P)
 | 0, P => by
  unfold NF
  split
  · intro b hb; rw [List.mem_singleton.1 hb]; exact ⟨rfl, rfl, fun i hi => by omega⟩
  · exact VL_nil 0
 | r + 1, P => by
  unfold NF
  refine rle_VL _ r (fun x => ?_) 41 0 [] [] 0 (by omega) (VL_nil _) (VL_nil _) (.inl rfl)
  show VL r (if x < 40 then NF r (fun p => P ((x : Int) :: p)) else [])
  split
  · exact NF_VL r _
  · exact VL_nil _
theorem mem_app (l m : List S33) (p : List Int) : mem (l ++ m) p = (mem l p || mem m p) := by unfold mem; rw [List.any_append]
theorem mem_pre (a b y : Int) (q : List Int) : ∀ l : List S33, mem (pre l a b) (y :: q) = ((decide (a ≤ y) && decide (y < b)) && mem l q)
 | [] => by simp [mem, pre]
 | x :: l => by
  show ((decide (a ≤ y) && decide (y < b)) && inBx x.f0 x.f1 q || mem (pre l a b) (y :: q)) = _
  rw [mem_pre a b y q l, mem_cons]
  cases (decide (a ≤ y) && decide (y < b)) <;> simp
theorem rle_mem (f : Nat → List S33) (h40 : f 40 = []) (y : Nat) (hy : y < 40) (q : List Int) : ∀ (d x : Nat) (out run : List S33) (beg : Nat), x + d = 41 → beg ≤ x → beg ≤ 40 → (∀ z, beg ≤ z → z < x → f z = run) → (x = 0 → run = []) → (beg ≤ y → mem out ((y : Int) :: q) = false) →
 mem (rle f d x out run beg) ((y : Int) :: q) = if y < beg then mem out ((y : Int) :: q) else mem (f y) q := by
 intro d
 induction d with
 | zero =>
  intro x out run beg hx h1 h2 h3 _ h4
  show mem out _ = _
  split
  · rfl
  · rw [h4 (by omega), h3 y (by omega) (by omega), ← h3 40 (by omega) (by omega), h40]
    rfl
 | succ d ih =>
  intro x out run beg hx h1 h2 h3 h5 h4
  unfold rle
  split
  · rename_i he
    exact ih (x + 1) out run beg (by omega) (by omega) h2 (fun z hz1 hz2 => by
     by_cases hz : z = x
     · subst hz; exact he
     · exact h3 z hz1 (by omega)) (by omega) h4
  ·
   rename_i he
   have hx40 : x ≤ 40 := by omega
   rw [ih (x + 1) (out ++ pre run beg x) (f x) x (by omega) (by omega) hx40 (fun z hz1 hz2 => by rw [show z = x by omega]) (by omega) (fun hxy => by
    rw [mem_app, mem_pre, show decide ((y : Int) < (x : Int)) = false from decide_eq_false (by omega)]
    rw [h4 (by omega)]
    simp)]
   rw [mem_app, mem_pre]
   by_cases hyb : y < beg
   · rw [if_pos (show y < x by omega), if_pos hyb, show decide ((beg : Int) ≤ (y : Int)) = false from decide_eq_false (by omega)]
     simp
   · rw [if_neg hyb]
     by_cases hyx : y < x
     · rw [if_pos hyx, h4 (by omega), h3 y (by omega) hyx, show decide ((beg : Int) ≤ (y : Int)) = true from decide_eq_true (by omega), show decide ((y : Int) < (x : Int)) = true from decide_eq_true (by omega)]
       simp
     · rw [if_neg hyx]
theorem NF_mem : ∀ (r : Nat) (P : List Int → Bool) (p : List Int), InRange r p → mem (NF r P) p = P p
 | 0, P, p, h => by
  have e : p = [] := List.length_eq_zero_iff.1 h.1
  subst e
  unfold NF
  cases hP : P [] <;> simp [mem, inBx]
 | r + 1, P, p, h => by
  obtain ⟨hl, hp⟩ := h
  cases p with
  | nil => simp at hl
  | cons x q =>
   have hx := hp x List.mem_cons_self
   have hq : InRange r q := ⟨by simpa using hl, fun z hz => hp z (List.mem_cons_of_mem _ hz)⟩
   obtain ⟨y, rfl⟩ : ∃ y : Nat, x = (y : Int) := ⟨x.toNat, by omega⟩
   unfold NF
   have := rle_mem (fun x => if x < 40 then NF r (fun p => P ((x : Int) :: p)) else []) (by simp) y (by omega) q 41 0 [] [] 0 (by omega) (by omega) (by omega) (fun z h1 h2 => by omega) (fun _ => rfl) (fun _ => rfl)
   rw [im] at this
   rw [show rle (fun x => if x < 40 then NF r (fun p => P ((x : Int) :: p)) else []) 41 0 [] [] 0 = rle (fun x => if x < 40 then NF r (fun p => P ((x : Int) :: p)) else []) 41 0 [] [] ((0 : Nat) : Int) from rfl, this]
   rw [if_pos (show y < 40 by omega)]
   exact NF_mem r _ q hq
def okL (l : List S33) : Prop := (∀ i, i < l.length → okB l i) ∧ (l.length : Int) ≤ 32
instance (l : List S33) : Decidable (okL l) := by unfold okL; infer_instance
def rankL (a b : List S33) : Nat := if 0 < a.length then (aA a 0).f0.length else if 0 < b.length then (aA b 0).f0.length else 0
def compat (a b : List S33) : Prop := 0 < a.length → 0 < b.length → (aA a 0).f0.length = (aA b 0).f0.length
instance (a b : List S33) : Decidable (compat a b) := by unfold compat; infer_instance
def res (g : Bool → Bool → Bool) (a b : List S33) : List S33 × Int :=
 if okL a ∧ okL b ∧ compat a b then (if (NF (rankL a b) fun p => g (mem a p) (mem b p)).length > 32 then ([], 5) else (NF (rankL a b) fun p => g (mem a p) (mem b p), 0)) else ([], 1)
theorem NF_small (r : Nat) (hr : r ≤ 3) (P : List Int → Bool) : (NF r P).length ≤ 68921 := Nat.le_trans (NF_len r P) (by
 have : r = 0 ∨ r = 1 ∨ r = 2 ∨ r = 3 := by omega
 rcases this with rfl | rfl | rfl | rfl <;> decide)
theorem or_holds (x y : Bool) : spec_l07Holds.f 1 x y = some (or x y) := by cases x <;> cases y <;> rfl
theorem d8_inner (l : List S33) (p : List Int) (i r : Nat) (hi : i < l.length) (hl : l.length ≤ 1048576) (hr : r ≤ 3) (h0 : (aA l (i : Int)).f0.length = r) (h1 : (aA l (i : Int)).f1.length = r) (hp : p.length = r) (R : Bool) (m : Nat)
 (H : ∀ k, m ≤ k → laws_d8In.l0 k l p ((i + 1 : Nat) : Int) = some R) : ∀ (d j k : Nat) (b : Bool), j + d = r → m + d + 1 ≤ k →
 laws_d8In.l1 k l p (i : Int) b (j : Int) = some ((b && inBx ((aA l (i : Int)).f0.drop j) ((aA l (i : Int)).f1.drop j) (p.drop j)) || R) := by
 intro d
 induction d with
 | zero =>
  intro j k b hj hk
  obtain ⟨k, rfl⟩ := sk k
  rw [laws_d8In.l1, im, List.drop_eq_nil_of_le (by omega), List.drop_eq_nil_of_le (by omega), List.drop_eq_nil_of_le (by omega)]
  cases b
  · rw [if_neg (by decide), cF i (by omega), H k (by omega)]; rfl
  · rw [if_pos rfl]; rfl
 | succ d ih =>
  intro j k b hj hk
  obtain ⟨k, rfl⟩ := sk k
  rw [laws_d8In.l1, ip]
  cases b
  · rw [if_neg (by decide), cF i (by omega), H k (by omega)]; rfl
  · rw [if_pos rfl, ip, ip, ip, ip, dropi _ j (show j < (aA l (i : Int)).f0.length by omega), dropi _ j (show j < (aA l (i : Int)).f1.length by omega), dropi p j (by omega)]
    by_cases hge : rd p (j : Int) ≥ rd (aA l (i : Int)).f0 (j : Int)
    · rw [if_pos hge, ip, cF j (by omega), ih (j + 1) k _ (by omega) (by omega)]
      simp only [inBx, decide_eq_true (show rd (aA l (i : Int)).f0 (j : Int) ≤ rd p (j : Int) from hge), Bool.true_and]
    · rw [if_neg hge, cF j (by omega), ih (j + 1) k _ (by omega) (by omega)]
      simp only [inBx, decide_eq_false (show ¬ rd (aA l (i : Int)).f0 (j : Int) ≤ rd p (j : Int) from hge), Bool.false_and, Bool.true_and]
theorem d8in_eq (l : List S33) (p : List Int) (r : Nat) (hr : r ≤ 3) (hR : Rows r l) (hl : l.length ≤ 1048576) (hp : p.length = r) (k : Nat) (hk : 6 * l.length + 2 ≤ k) : laws_d8In.f k l p = some (mem l p) := by
 have key : ∀ (d i k : Nat), i + d = l.length → 6 * d + 2 ≤ k → laws_d8In.l0 k l p (i : Int) = some (mem (l.drop i) p) := by
  intro d
  induction d with
  | zero =>
   intro i k hi hk
   obtain ⟨k, rfl⟩ := sk k
   rw [laws_d8In.l0, im, List.drop_eq_nil_of_le (by omega)]
   rfl
  | succ d ih =>
   intro i k hi hk
   obtain ⟨k, rfl⟩ : ∃ z, k = z + 1 + 1 := ⟨k - 2, by omega⟩
   have hb := hR _ (List.getElem_mem (show i < l.length by omega))
   rw [← rd_at l i (by omega)] at hb
   rw [laws_d8In.l0, ip, ip, ip, laws_d8In.j1, show ((((aA l (i : Int)).f1).length : Int) == (p.length : Int)) = true by rw [beq_iff_eq]; omega]
   have := d8_inner l p i r (by omega) hl hr hb.1 hb.2 hp (mem (l.drop (i + 1)) p) (6 * d + 2) (fun k hk => ih (i + 1) k (by omega) hk) r 0 k true (by omega) (by omega)
   rw [show (0 : Int) = ((0 : Nat) : Int) from rfl, this, drop_at l i (by omega), mem_cons, rd_at l i (by omega)]
   rfl
 have := key l.length 0 k (by omega) (by omega)
 unfold laws_d8In.f
 rw [show (0 : Int) = ((0 : Nat) : Int) from rfl, this]
 rfl
def sumN : Nat → (Nat → Nat) → Nat
 | 0, _ => 0
 | n + 1, f => sumN n f + f n
def cntB (B : Nat) : Nat → (List Int → Bool) → Nat
 | 0, P => if P [] = true then 1 else 0
 | r + 1, P => sumN B fun x => cntB B r fun p => P ((x : Int) :: p)
theorem sumN_congr {f g : Nat → Nat} : ∀ (n : Nat), (∀ i, i < n → f i = g i) → sumN n f = sumN n g
 | 0, _ => rfl
 | n + 1, h => by unfold sumN; rw [sumN_congr n (fun i hi => h i (by omega)), h n (by omega)]
theorem sumN_zero {f : Nat → Nat} : ∀ (n : Nat), (∀ i, i < n → f i = 0) → sumN n f = 0
 | 0, _ => rfl
 | n + 1, h => by unfold sumN; rw [sumN_zero n (fun i hi => h i (by omega)), h n (by omega)]
theorem sumN_add (f : Nat → Nat) (m : Nat) : ∀ n, sumN (m + n) f = sumN m f + sumN n (fun i => f (m + i))
 | 0 => rfl
 | n + 1 => by show sumN (m + n) f + f (m + n) = sumN m f + (sumN n (fun i => f (m + i)) + f (m + n)); rw [sumN_add f m n, Nat.add_assoc]
theorem sumN_first (f : Nat → Nat) (n : Nat) : sumN (n + 1) f = f 0 + sumN n (fun i => f (i + 1)) := by
 rw [show n + 1 = 1 + n by omega, sumN_add]
 show (0 + f 0) + _ = _
 rw [Nat.zero_add, show (fun i => f (1 + i)) = fun i => f (i + 1) from funext fun i => by rw [Nat.add_comm]]
theorem cnt_false (B : Nat) : ∀ (r : Nat) (P : List Int → Bool), (∀ p, P p = false) → cntB B r P = 0
 | 0, P, h => by unfold cntB; rw [if_neg (by rw [h]; decide)]
 | r + 1, P, h => by unfold cntB; exact sumN_zero B (fun x _ => cnt_false B r _ (fun p => h _))
def probe : Nat → Nat → List Int
 | 0, _ => []
 | r + 1, n => ((n % 10 : Nat) : Int) :: probe r (n / 10)
def volB : List Int → List Int → Int
 | a :: ah, b :: bs => (b - a) * volB ah bs
 | _, _ => 1
def volL : List S33 → Int
 | [] => 0
 | b :: l => volB b.f0 b.f1 + volL l
theorem volL_app (m : List S33) : ∀ l, volL (l ++ m) = volL l + volL m
 | [] => by show volL m = 0 + volL m; omega
 | b :: l => by show volB _ _ + volL (l ++ m) = volB _ _ + volL l + volL m; rw [volL_app m l]; omega
theorem volL_pre (a b : Int) : ∀ l, volL (pre l a b) = (b - a) * volL l
 | [] => by show (0 : Int) = (b - a) * 0; rw [Int.mul_zero]
 | x :: l => by
  show (b - a) * volB x.f0 x.f1 + volL (pre l a b) = (b - a) * (volB x.f0 x.f1 + volL l)
  rw [volL_pre a b l, Int.mul_add]
theorem rle_vol (f : Nat → List S33) (c : Nat → Nat) (hc : ∀ i, volL (f i) = (c i : Int)) : ∀ (d x : Nat) (out run : List S33) (beg : Int), f (x + d) = [] →
 volL (rle f (d + 1) x out run beg) = volL out + ((x : Int) - beg) * volL run + (sumN (d + 1) (fun i => c (x + i)) : Nat) := by
 intro d
 induction d with
 | zero =>
  intro x out run beg h
  rw [Nat.add_zero] at h
  have h0 : (c x : Int) = 0 := by rw [← hc x, h]; rfl
  show volL (if f x = run then rle f 0 (x + 1) out run beg else rle f 0 (x + 1) (out ++ pre run beg x) (f x) x) = _ + ((0 + c x : Nat) : Int)
  rw [Nat.zero_add, h0, h]
  by_cases e : [] = run
  · rw [if_pos e, ← e]
    show volL out = volL out + ((x : Int) - beg) * 0 + 0
    rw [Int.mul_zero]; omega
  · rw [if_neg e]
    show volL (out ++ pre run beg x) = _
    rw [volL_app, volL_pre]; omega
 | succ d ih =>
  intro x out run beg h
  have e1 : (sumN (d + 1 + 1) (fun i => c (x + i)) : Nat) = c x + sumN (d + 1) (fun i => c (x + 1 + i)) := by
   rw [sumN_first, Nat.add_zero]
   congr 1
   exact sumN_congr _ (fun i _ => by rw [show x + (i + 1) = x + 1 + i by omega])
  rw [e1]
  show volL (if f x = run then rle f (d + 1) (x + 1) out run beg else rle f (d + 1) (x + 1) (out ++ pre run beg x) (f x) x) = _
  by_cases e : f x = run
  · rw [if_pos e, ih (x + 1) out run beg (by rw [show x + 1 + d = x + (d + 1) by omega]; exact h), ← e, hc x, show ((x + 1 : Nat) : Int) - beg = ((x : Int) - beg) + 1 by omega, Int.add_mul]
    omega
  · rw [if_neg e, ih (x + 1) _ _ _ (by rw [show x + 1 + d = x + (d + 1) by omega]; exact h), volL_app, volL_pre, hc x, show ((x + 1 : Nat) : Int) - (x : Int) = 1 by omega, Int.one_mul]
    omega
theorem NF_vol : ∀ (r : Nat) (P : List Int → Bool), volL (NF r P) = (cntB 40 r P : Int)
 | 0, P => by
  unfold NF cntB
  by_cases h : P [] = true
  · rw [if_pos h, if_pos h]; rfl
  · rw [if_neg h, if_neg h]; rfl
 | r + 1, P => by
  have hc : ∀ i : Nat, volL (if i < 40 then NF r (fun p => P ((i : Int) :: p)) else []) = ((if i < 40 then cntB 40 r (fun p => P ((i : Int) :: p)) else 0 : Nat) : Int) := fun i => by
   by_cases h : i < 40
   · rw [if_pos h, if_pos h]; exact NF_vol r _
   · rw [if_neg h, if_neg h]; rfl
  have := rle_vol (fun x => if x < 40 then NF r (fun p => P ((x : Int) :: p)) else []) _ hc 40 0 [] [] 0 (by simp)
  unfold NF
  rw [this]
  show (0 : Int) + ((0 : Nat) - 0 : Int) * 0 + ((sumN 40 (fun i => if 0 + i < 40 then cntB 40 r (fun p => P (((0 + i : Nat) : Int) :: p)) else 0) + (if 0 + 40 < 40 then _ else 0) : Nat) : Int) = _
  rw [im]
  have e : sumN 40 (fun i => if 0 + i < 40 then cntB 40 r (fun p => P (((0 + i : Nat) : Int) :: p)) else 0) = cntB 40 (r + 1) P := by
   show _ = sumN 40 _
   exact sumN_congr 40 (fun i hi => by rw [ip, Nat.zero_add])
  rw [e]
  omega
theorem u64_lo (x : Int) : 0 ≤ IntKind.u64.wrap x ∧ IntKind.u64.wrap x < 18446744073709551616 := by
 have h : IntKind.u64.wrap x = x % 18446744073709551616 := by simp [IntKind.wrap, IntKind.bits, IntKind.signed]
 omega
theorem and255 (x : Int) : 0 ≤ wrap64 (Go.bits .and .u64 (IntKind.u64.wrap x / 1099511627776) 255) ∧ wrap64 (Go.bits .and .u64 (IntKind.u64.wrap x / 1099511627776) 255) ≤ 255 := by
 obtain ⟨h0, h1⟩ := u64_lo x
 have h := bits_mask .u64 24 (by decide) (fun n h0 h1 => by
  have h : IntKind.u64.wrap n = n % 18446744073709551616 := by simp [IntKind.wrap, IntKind.bits, IntKind.signed]
  omega) 8 (by decide) (IntKind.u64.wrap x / 1099511627776) (by omega) (by omega)
 rw [show ((2 : Int) ^ 8 - 1) = 255 by decide, show ((2 : Int) ^ 8) = 256 by decide] at h
 rw [h]; unfold wrap64; omega
def Code (c : List Int) : Prop := ∀ x ∈ c, 0 ≤ x ∧ x ≤ 255
theorem code_wf {c : List Int} (h : ∀ x_ ∈ c, (Lit.int .u8 x_).wf = true) : Code c := fun x hx => by
 have := h x hx
 simp [Lit.wf, IntKind.min, IntKind.max, IntKind.bits, IntKind.signed] at this
 omega
theorem code_rd {c : List Int} (h : Code c) (i : Int) (h0 : 0 ≤ i) (h1 : i < c.length) : 0 ≤ rd c i ∧ rd c i ≤ 255 := by
 have := rd_lt c i.toNat (by omega)
 rw [show ((i.toNat : Nat) : Int) = i by omega] at this
 rw [this]
 exact h _ (List.getElem_mem _)
theorem next_ok {c : List Int} (hc : Code c) (p s : Int) (h0 : 0 ≤ p) (h1 : p ≤ 1000000000000) : ∃ r t, (0 ≤ r ∧ r ≤ 255) ∧ spec_l00Src_next.f c p s = some (r, p + 1, t) := by
 have hw : wrap64 (p + 1) = p + 1 := by unfold wrap64; omega
 unfold spec_l00Src_next.f
 rw [hw]
 by_cases hp : p < (c.length : Int)
 · obtain ⟨r0, r1⟩ := code_rd hc p h0 hp
   have hr : wrap64 (rd c p) = rd c p := by unfold wrap64; omega
   rw [if_pos hp, if_pos h0, ip, hr]
   exact ⟨_, _, ⟨r0, r1⟩, rfl⟩
 · rw [if_neg hp, im]
   exact ⟨_, _, and255 _, rfl⟩
theorem pick_ok {c : List Int} (hc : Code c) (p s n : Int) (h0 : 0 ≤ p) (h1 : p ≤ 100000000000) : ∃ r q t, (0 ≤ r ∧ (r < n ∨ r = 0)) ∧ (p ≤ q ∧ q ≤ p + 2) ∧ bL.f c p s n = some (r, q, t) := by
 unfold bL.f
 by_cases hn : n ≤ 1
 · rw [if_pos hn]
   exact ⟨0, p, s, ⟨by omega, .inr rfl⟩, ⟨by omega, by omega⟩, rfl⟩
 ·
  obtain ⟨r, t, hr, e⟩ := next_ok hc p s h0 (by omega)
  rw [if_neg hn, e]
  simp only [ob]
  by_cases h2 : n > 200
  ·
   obtain ⟨r2, t2, hr2, e2⟩ := next_ok hc (p + 1) t (by omega) (by omega)
   rw [if_pos h2, e2]
   simp only [ob]
   rw [im]
   have hw : wrap64 (wrap64 (r * 256) + r2) = r * 256 + r2 := by unfold wrap64; omega
   rw [hw]
   refine ⟨_, _, _, ⟨Int.tmod_nonneg _ (by omega), .inl (Int.tmod_lt_of_pos _ (by omega))⟩, ⟨?_, ?_⟩, rfl⟩ <;> omega
  · rw [if_neg h2, im]
    refine ⟨_, _, _, ⟨Int.tmod_nonneg _ (by omega), .inl (Int.tmod_lt_of_pos _ (by omega))⟩, ⟨?_, ?_⟩, rfl⟩ <;> omega
theorem one_ok {c : List Int} (hc : Code c) (p s n : Int) (h0 : 0 ≤ p) (h1 : p ≤ 100000000000) : ∃ b q t, (p ≤ q ∧ q ≤ p + 2) ∧ spec_l00Src_one.f c p s n = some (b, q, t) := by
 obtain ⟨r, q, t, -, hq, e⟩ := pick_ok hc p s n h0 h1
 exact ⟨_, q, t, hq, by unfold spec_l00Src_one.f; rw [e]; rfl⟩
theorem among_ok {c : List Int} (hc : Code c) (p s : Int) (l : List Int) (hl : 0 < l.length) (h0 : 0 ≤ p) (h1 : p ≤ 100000000000) : ∃ (i : Nat) (q t : Int), i < l.length ∧ (p ≤ q ∧ q ≤ p + 2) ∧ spec_l00Src_among.f c p s l = some (rd l (i : Int), q, t) := by
 obtain ⟨r, q, t, hr, hq, e⟩ := pick_ok hc p s l.length h0 h1
 refine ⟨r.toNat, q, t, by omega, hq, ?_⟩
 unfold spec_l00Src_among.f
 rw [e]
 simp only [ob]
 rw [if_pos hr.1, ip, show ((r.toNat : Nat) : Int) = r by omega]
theorem nonzero (l : List Int) (h : prodL l ≠ 0) : ∀ x ∈ l, x ≠ 0 := by
 have key : ∀ (l : List Int) (a : Int), l.foldl (· * ·) a ≠ 0 → a ≠ 0 ∧ ∀ x ∈ l, x ≠ 0 := by
  intro l
  induction l with
  | nil => intro a h; exact ⟨h, by simp⟩
  | cons b l ih =>
   intro a h
   obtain ⟨h1, h2⟩ := ih (a * b) h
   refine ⟨fun e => h1 (by rw [e, Int.zero_mul]), ?_⟩
   intro x hx
   rcases List.mem_cons.1 hx with rfl | hx
   · exact fun e => h1 (by rw [e, Int.mul_zero])
   · exact h2 x hx
 exact (key l 1 h).2
def crd (d : List Int) (a : Int) : List Int := (aE.run d a (List.range d.length)).2
def unitB (d : List Int) (a : Int) : S33 := ⟨crd d a, (crd d a).map (· + 1)⟩
def crdL : List Int → Int → List Int
 | [], _ => []
 | [x], a => [a % x]
 | [x, y], a => [a / y % x, a % y]
 | [x, y, z], a => [a / z / y % x, a / z % y, a % z]
 | _, _ => []
theorem small_div {a x : Int} (h0 : 0 ≤ a) (h1 : a ≤ 100000000) (hx : 1 ≤ x) : 0 ≤ a / x ∧ a / x ≤ 100000000 := ⟨Int.ediv_nonneg h0 (by omega), Int.le_trans (Int.ediv_le_self _ h0) h1⟩
theorem crd_eq (d : List Int) (h3 : d.length ≤ 3) (hd : ∀ x ∈ d, 1 ≤ x ∧ x ≤ 40) (a : Int) (h0 : 0 ≤ a) (h1 : a ≤ 100000000) : crd d a = crdL d a := by
 match d, h3, hd with
 | [], _, _ => rfl
 | [x], _, hd =>
  show [Int.tmod a x] = [a % x]
  rw [Int.tmod_eq_emod_of_nonneg h0]
 | [x, y], _, hd =>
  have hy := hd y (by simp)
  obtain ⟨d0, d1⟩ := small_div h0 h1 hy.1
  show [Int.tmod (wrap64 (Int.tdiv a y)) x, Int.tmod a y] = [a / y % x, a % y]
  rw [Int.tmod_eq_emod_of_nonneg h0, Int.tdiv_eq_ediv_of_nonneg h0, cA (by omega) (by omega), Int.tmod_eq_emod_of_nonneg d0]
 | [x, y, z], _, hd =>
  have hy := hd y (by simp)
  have hz := hd z (by simp)
  obtain ⟨d0, d1⟩ := small_div h0 h1 hz.1
  obtain ⟨e0, e1⟩ := small_div d0 d1 hy.1
  show [Int.tmod (wrap64 (Int.tdiv (wrap64 (Int.tdiv a z)) y)) x, Int.tmod (wrap64 (Int.tdiv a z)) y, Int.tmod a z] = [a / z / y % x, a / z % y, a % z]
  rw [Int.tmod_eq_emod_of_nonneg h0, Int.tdiv_eq_ediv_of_nonneg h0, cA (a := a / z) (by omega) (by omega), Int.tmod_eq_emod_of_nonneg d0, Int.tdiv_eq_ediv_of_nonneg d0, cA (by omega) (by omega), Int.tmod_eq_emod_of_nonneg e0]
 | _ :: _ :: _ :: _ :: _, h, _ => exact absurd h (by simp)
theorem crd_len (d : List Int) (a : Int) : (crd d a).length = d.length := aE.run_length d a _
theorem crd_in (d : List Int) (h3 : d.length ≤ 3) (hd : ∀ x ∈ d, 1 ≤ x ∧ x ≤ 40) (a : Int) (h0 : 0 ≤ a) (h1 : a ≤ 100000000) : ∀ i : Nat, i < d.length → 0 ≤ rd (crd d a) (i : Int) ∧ rd (crd d a) (i : Int) < rd d (i : Int) := by
 rw [crd_eq d h3 hd a h0 h1]
 have hm : ∀ (b x : Int), 1 ≤ x → 0 ≤ b % x ∧ b % x < x := fun b x hx => ⟨Int.emod_nonneg _ (by omega), Int.emod_lt_of_pos _ (by omega)⟩
 match d, h3, hd with
 | [], _, _ => intro i hi; simp at hi
 | [x], _, hd =>
  intro i hi
  have hx := hd x (by simp)
  obtain rfl : i = 0 := by simp at hi; omega
  exact hm _ x hx.1
 | [x, y], _, hd =>
  intro i hi
  have hx := hd x (by simp)
  have hy := hd y (by simp)
  have h : i = 0 ∨ i = 1 := by simp at hi; omega
  rcases h with rfl | rfl
  · exact hm _ x hx.1
  · exact hm _ y hy.1
 | [x, y, z], _, hd =>
  intro i hi
  have hx := hd x (by simp)
  have hy := hd y (by simp)
  have hz := hd z (by simp)
  have h : i = 0 ∨ i = 1 ∨ i = 2 := by simp at hi; omega
  rcases h with rfl | rfl | rfl
  · exact hm _ x hx.1
  · exact hm _ y hy.1
  · exact hm _ z hz.1
 | _ :: _ :: _ :: _ :: _, h, _ => exact absurd h (by simp)
theorem mem_rd (l : List Int) {P : Int → Prop} (h : ∀ i : Nat, i < l.length → P (rd l (i : Int))) : ∀ x ∈ l, P x := by
 intro x hx
 obtain ⟨i, hi, rfl⟩ := List.mem_iff_getElem.1 hx
 have := h i hi
 rwa [rd_lt l i hi] at this
theorem crd_mem (d : List Int) (h3 : d.length ≤ 3) (hd : ∀ x ∈ d, 1 ≤ x ∧ x ≤ 40) (a : Int) (h0 : 0 ≤ a) (h1 : a ≤ 100000000) : ∀ x ∈ crd d a, 0 ≤ x ∧ x ≤ 39 := by
 refine mem_rd _ (P := fun x => 0 ≤ x ∧ x ≤ 39) (fun i hi => ?_)
 rw [crd_len] at hi
 have h := crd_in d h3 hd a h0 h1 i hi
 have h2 := hd _ (List.getElem_mem hi)
 rw [rd_lt d i hi] at h
 omega
theorem unit_VB (d : List Int) (h3 : d.length ≤ 3) (hd : ∀ x ∈ d, 1 ≤ x ∧ x ≤ 40) (a : Int) (h0 : 0 ≤ a) (h1 : a ≤ 100000000) : VB d.length (unitB d a) := by
 refine ⟨crd_len d a, by show ((crd d a).map _).length = _; rw [List.length_map, crd_len], fun i hi => ?_⟩
 have h := crd_mem d h3 hd a h0 h1 _ (List.getElem_mem (show i < (crd d a).length by rw [crd_len]; exact hi))
 show 0 ≤ rd (crd d a) i ∧ rd (crd d a) i < rd ((crd d a).map (· + 1)) i ∧ rd ((crd d a).map (· + 1)) i ≤ 40
 rw [rd_lt _ i (by rw [crd_len]; exact hi), rd_lt _ i (by rw [List.length_map, crd_len]; exact hi), List.getElem_map]
 omega
theorem coords_loop (l : List Int) (a : Int) (hl : l.length ≤ 1048576) (hn : ∀ x ∈ l, x ≠ 0) : ∀ (d j k : Nat), j + d = l.length → d < k →
 spec_l05Coords.l0 k l (aE.run l a (List.range j)).1 (aE.run l a (List.range j)).2 ((l.length : Int) - 1 - j) = some (aE.run l a (List.range l.length)).2 := by
 intro d
 induction d with
 | zero =>
  intro j k hj hk
  obtain ⟨k, rfl⟩ := sk k
  rw [spec_l05Coords.l0, im, show j = l.length by omega]
 | succ d ih =>
  intro j k hj hk
  obtain ⟨k, rfl⟩ := sk k
  have hlen := aE.run_length l a (List.range j)
  have e : (l.length : Int) - 1 - j = ((l.length - 1 - j : Nat) : Int) := by omega
  have hr : rd l ((l.length - 1 - j : Nat) : Int) = l[l.length - 1 - j]?.getD 0 := by simp [rd]
  have hne : l[l.length - 1 - j]?.getD 0 ≠ 0 := by
   rw [List.getElem?_eq_getElem (by omega)]
   exact hn _ (List.getElem_mem _)
  have h := ih (j + 1) k (by omega) (by omega)
  rw [List.range_succ, aE.run_snoc] at h
  unfold aE.step at h
  rw [show (l.length : Int) - 1 - ((j + 1 : Nat) : Int) = ((l.length - 1 - j : Nat) : Int) - 1 by omega] at h
  rw [spec_l05Coords.l0, e, ip, ip, ip, hr, if_neg hne, ip, Int.toNat_natCast, cA (a := ((l.length - 1 - j : Nat) : Int) - 1) (by omega) (by omega)]
  exact h
theorem crd_spec (d : List Int) (h3 : d.length ≤ 3) (hd : ∀ x ∈ d, 1 ≤ x ∧ x ≤ 40) (a : Int) (k : Nat) (hk : 10 ≤ k) : spec_l05Coords.f k d a = some (crd d a) := by
 unfold spec_l05Coords.f
 rw [ip, ip, Int.toNat_natCast, cA (by omega) (by omega)]
 have h := coords_loop d a (by omega) (fun x hx => by have := hd x hx; omega) d.length 0 k (by omega) (by omega)
 simp only [List.range_zero, Int.natCast_zero, Int.sub_zero] at h
 exact h
theorem crd_impl (d : List Int) (h3 : d.length ≤ 3) (hd : ∀ x ∈ d, 1 ≤ x ∧ x ≤ 40) (a : Int) : aE.f d a = some (crd d a) := by
 unfold aE.f
 rw [if_pos ⟨by omega, fun x hx => by have := hd x hx; omega⟩]
 rfl
theorem incr_loop {ρ : Type} (F : Nat → List Int → Int → ρ) (n : Nat) (c : List Int) (hc : c.length = n) (hb : ∀ x ∈ c, 0 ≤ x ∧ x ≤ 39)
 (hs : ∀ k (h : List Int) (i : Nat), h.length = n → i < n → F (k + 1) h (i : Int) = F k (h.set i (wrap64 (rd h (i : Int) + 1))) ((i + 1 : Nat) : Int)) :
 ∀ (d i k : Nat), i + d = n → F (k + d) ((c.take i).map (· + 1) ++ c.drop i) (i : Int) = F k (c.map (· + 1)) (n : Int) := by
 intro d
 induction d with
 | zero =>
  intro i k hi
  rw [show i = n by omega, ← hc, List.take_length, List.drop_length, List.append_nil]; rfl
 | succ d ih =>
  intro i k hi
  have hlt : i < c.length := by omega
  have hl : ((c.take i).map (· + 1)).length = i := by rw [List.length_map, List.length_take]; omega
  have hdr : c.drop i = c[i] :: c.drop (i + 1) := List.drop_eq_getElem_cons hlt
  have hx := hb _ (List.getElem_mem hlt)
  rw [show k + (d + 1) = (k + d) + 1 by omega, hs _ _ i (by rw [List.length_append, hl, List.length_drop]; omega) (by omega), ← ih (i + 1) k (by omega)]
  congr 1
  have hr : rd ((c.take i).map (· + 1) ++ c.drop i) (i : Int) = c[i] := by
   rw [rd_lt _ i (by rw [List.length_append, hl, List.length_drop]; omega), List.getElem_append_right (by omega)]
   simp only [hl, Nat.sub_self, List.getElem_drop, Nat.add_zero]
  rw [hr, cA (by omega) (by omega), List.set_append_right _ _ (by omega), hl, Nat.sub_self, hdr, List.set_cons_zero, List.take_succ_eq_append_getElem hlt, List.map_append, List.append_assoc]
  rfl
theorem each_loop {ρ : Type} (L : Nat → List S33 → Int → ρ) (ind : List Int) (U : Int → S33) (cost : Nat) (hn : ind.length ≤ 64000)
 (hs : ∀ k acc (i : Nat) (h : i < ind.length), acc.length ≤ 64000 → cost ≤ k → ∃ k', k ≤ k' + cost ∧ L k acc (i : Int) = L k' (acc ++ [U ind[i]]) ((i + 1 : Nat) : Int)) :
 ∀ (d i k : Nat) (acc : List S33), i + d = ind.length → acc.length = i → d * cost ≤ k → ∃ k', k ≤ k' + d * cost ∧ L k acc (i : Int) = L k' (acc ++ (ind.drop i).map U) (ind.length : Int) := by
 intro d
 induction d with
 | zero =>
  intro i k acc hi ha hk
  refine ⟨k, by omega, ?_⟩
  rw [show i = ind.length by omega, List.drop_length, List.map_nil, List.append_nil]
 | succ d ih =>
  intro i k acc hi ha hk
  rw [Nat.add_mul, Nat.one_mul] at hk
  have hlt : i < ind.length := by omega
  obtain ⟨k1, h1, e1⟩ := hs k acc i hlt (by omega) (by omega)
  obtain ⟨k2, h2, e2⟩ := ih (i + 1) k1 (acc ++ [U ind[i]]) (by omega) (by rw [List.length_append]; simp; omega) (by omega)
  refine ⟨k2, by rw [Nat.add_mul, Nat.one_mul]; omega, ?_⟩
  rw [e1, e2, List.append_assoc, List.drop_eq_getElem_cons hlt]
  rfl
theorem own_eq (l : List Int) (h : l.length ≤ 1000) : spec_l00Own.f l = some l := by
 unfold spec_l00Own.f
 simp only [ob, List.length_nil, List.nil_append]
 rw [ip]
theorem clone_eq (l : List Int) (h : l.length ≤ 1000) : cK.f l = some l := by
 unfold cK.f slices_Clone_int64_int64_nn.f
 simp only [ob, List.length_nil, List.nil_append]
 rw [ip]
def Inds (ind : List Int) : Prop := ind.length ≤ 64000 ∧ ∀ x ∈ ind, 0 ≤ x ∧ x ≤ 100000000
theorem each_spec (d : List Int) (h3 : d.length ≤ 3) (ind : List Int) (hd : ind ≠ [] → ∀ x ∈ d, 1 ≤ x ∧ x ≤ 40) (hi : Inds ind) (k : Nat) (hk : 1000000 ≤ k) : cO.f k d ind = some (ind.map (unitB d)) := by
 unfold cO.f
 obtain ⟨k', h, e⟩ := each_loop (fun k acc i => cO.l0 k d ind acc i) ind (unitB d) 12 hi.1
  (by
   intro k acc i hlt ha hk
   obtain ⟨k, rfl⟩ : ∃ z, k = z + 12 := ⟨k - 12, by omega⟩
   have hx := hi.2 _ (List.getElem_mem hlt)
   have hl0 := hi.1
   have hd := hd (by intro h; rw [h] at hlt; simp at hlt)
   have hlen := crd_len d ind[i]
   refine ⟨k + 10 - d.length, by omega, ?_⟩
   show cO.l0 (k + 11 + 1) d ind acc i = _
   rw [cO.l0, ip, ip, rd_lt ind i hlt, crd_spec d h3 hd _ _ (by omega)]
   simp only [ob]
   rw [own_eq _ (by omega)]
   simp only [ob]
   have := incr_loop (fun k h j => cO.l1 k d ind acc i (crd d ind[i]) h j) d.length (crd d ind[i]) hlen (crd_mem d h3 hd _ hx.1 hx.2)
    (by
     intro k h j hh hj
     show cO.l1 (k + 1) d ind acc i _ h j = _
     rw [cO.l1, ip, ip, Int.toNat_natCast, cF j (by omega)])
    d.length 0 (k + 10 - d.length + 1) (by omega)
   simp only [List.take_zero, List.map_nil, List.nil_append, List.drop_zero] at this
   rw [show k + 11 = k + 10 - d.length + 1 + d.length by omega, show (0 : Int) = ((0 : Nat) : Int) from rfl, this]
   show cO.l1 (k + 10 - d.length + 1) d ind acc i _ _ _ = _
   rw [cO.l1, if_neg (by rw [List.length_map, hlen]; omega), ip, cF i (by omega)]
   rfl)
  ind.length 0 k [] (by omega) rfl (by have := hi.1; omega)
 obtain ⟨k', rfl⟩ : ∃ z, k' = z + 1 := ⟨k' - 1, by have := hi.1; omega⟩
 rw [show cO.l0 k d ind [] 0 = _ from e]
 show cO.l0 (k' + 1) d ind _ _ = _
 rw [cO.l0, im]
 rfl
theorem units_VL (d : List Int) (h3 : d.length ≤ 3) (ind : List Int) (hd : ind ≠ [] → ∀ x ∈ d, 1 ≤ x ∧ x ≤ 40) (hi : Inds ind) : VL d.length (ind.map (unitB d)) := by
 intro b hb
 obtain ⟨x, hx, rfl⟩ := List.mem_map.1 hb
 have := hi.2 x hx
 exact unit_VB d h3 (hd (by intro h; rw [h] at hx; cases hx)) x this.1 this.2
def bx (d : List Int) (ind : List Int) : List S33 := NF d.length fun p => or (mem (ind.map (unitB d)) p) (mem [] p)
def cap (l : List S33) : List S33 × Int := if l.length ≤ 32 then (l, 0) else ([], 5)
theorem full_eq (l : List S33) (h : l.length ≤ 1048576) : impl_normalFull.f l = some (cap l) := by
 unfold impl_normalFull.f cap
 by_cases h1 : l.length ≤ 32
 · rw [im, if_pos h1]
 · rw [ip, if_neg h1]
theorem boxes_impl (d : List Int) (h3 : d.length ≤ 3) (ind : List Int) (hd : ind ≠ [] → ∀ x ∈ d, 1 ≤ x ∧ x ≤ 40) (hi : Inds ind) (k : Nat) (hk : 6000000 ≤ k) : cL.l0 k d [] ind (ind.length : Int) 0 = some (cap (bx d ind)) := by
 obtain ⟨k', h, e⟩ := each_loop (fun k acc i => cL.l0 k d acc ind (ind.length : Int) i) ind (unitB d) 12 hi.1
  (by
   intro k acc i hlt ha hk
   obtain ⟨k, rfl⟩ : ∃ z, k = z + 12 := ⟨k - 12, by omega⟩
   have hx := hi.2 _ (List.getElem_mem hlt)
   have hl0 := hi.1
   have hd := hd (by intro h; rw [h] at hlt; simp at hlt)
   have hlen := crd_len d ind[i]
   refine ⟨k + 10 - d.length, by omega, ?_⟩
   show cL.l0 (k + 11 + 1) d acc ind _ i = _
   rw [cL.l0, ip, ip, ip, rd_lt ind i hlt, crd_impl d h3 hd _]
   simp only [ob]
   rw [clone_eq _ (by omega)]
   simp only [ob]
   have := incr_loop (fun k h j => cL.l1 k d acc (crd d ind[i]) h ind (ind.length : Int) i ((crd d ind[i]).length : Int) j) d.length (crd d ind[i]) hlen (crd_mem d h3 hd _ hx.1 hx.2)
    (by
     intro k h j hh hj
     show cL.l1 (k + 1) d acc _ h ind _ i _ j = _
     rw [cL.l1, ip, ip, ip, Int.toNat_natCast, cF j (by omega)])
    d.length 0 (k + 10 - d.length + 1) (by omega)
   simp only [List.take_zero, List.map_nil, List.nil_append, List.drop_zero] at this
   rw [show k + 11 = k + 10 - d.length + 1 + d.length by omega, show (0 : Int) = ((0 : Nat) : Int) from rfl, this]
   show cL.l1 (k + 10 - d.length + 1) d acc _ _ ind _ i _ _ = _
   rw [cL.l1, im, ip, cF i (by omega)]
   rfl)
  ind.length 0 k [] (by omega) rfl (by have := hi.1; omega)
 obtain ⟨k', rfl⟩ : ∃ z, k' = z + 1 := ⟨k' - 1, by have := hi.1; omega⟩
 rw [show cL.l0 k d [] ind (ind.length : Int) 0 = _ from e]
 show cL.l0 (k' + 1) d _ ind _ _ = _
 have hl := hi.1
 rw [cL.l0, im, List.drop_zero, List.nil_append, comb_either d.length h3 _ [] (units_VL d h3 ind hd hi) (by intro b hb; cases hb) (by rw [List.length_map]; omega) (by simp) k' (by omega)]
 simp only [ob]
 rw [full_eq _ (by have := NF_small d.length h3 (fun p => or (mem (ind.map (unitB d)) p) (mem [] p)); omega)]
 rfl
theorem rd_all {l : List Int} {P : Int → Prop} (h : ∀ x ∈ l, P x) (i : Nat) (hi : i < l.length) : P (rd l (i : Int)) := by
 rw [rd_lt l i hi]; exact h _ (List.getElem_mem hi)
theorem st_in {x d y B : Int} (hx : 0 ≤ x ∧ x < B) (hB : B ≤ 64000) (hd : 0 ≤ d ∧ d ≤ 40) (hy : 0 ≤ y ∧ y < d) : 0 ≤ wrap64 (wrap64 (x * d) + y) ∧ wrap64 (wrap64 (x * d) + y) < B * d := by
 have h := mul_le hx.1 hd.1 (show x ≤ 64000 by omega) hd.2
 have h1 : x * d ≤ (B - 1) * d := Int.mul_le_mul_of_nonneg_right (by omega) hd.1
 rw [Int.sub_mul, Int.one_mul] at h1
 rw [cA (a := x * d) (by omega) (by omega), cA (by omega) (by omega)]
 omega
def pr (d : List Int) (i : Nat) : Int := prodL (d.take i)
theorem pr_succ (d : List Int) (i : Nat) (h : i < d.length) : pr d (i + 1) = pr d i * rd d (i : Int) := by
 unfold pr prodL
 rw [List.take_succ_eq_append_getElem h, List.foldl_append, rd_lt d i h]
 rfl
theorem pr_le (d : List Int) (h3 : d.length ≤ 3) (hd : ∀ x ∈ d, 0 ≤ x ∧ x ≤ 40) (i : Nat) (hi : i ≤ d.length) : 0 ≤ pr d i ∧ pr d i ≤ 64000 := by
 have key : ∀ i, i ≤ d.length → 0 ≤ pr d i ∧ pr d i ≤ ((40 ^ i : Nat) : Int) := by
  intro i
  induction i with
  | zero => intro _; exact ⟨show (0 : Int) ≤ 1 by decide, show (1 : Int) ≤ 1 by decide⟩
  | succ i ih =>
   intro hi
   have h := ih (by omega)
   have h2 : 0 ≤ rd d (i : Int) ∧ rd d (i : Int) ≤ 40 := rd_all hd i (by omega)
   have h3 := mul_le h.1 h2.1 h.2 h2.2
   rw [pr_succ d i (by omega), Nat.pow_succ]
   omega
 have h := key i hi
 have : i = 0 ∨ i = 1 ∨ i = 2 ∨ i = 3 := by omega
 rcases this with rfl | rfl | rfl | rfl <;> omega
theorem pr_all (d : List Int) : pr d d.length = prodL d := by unfold pr; rw [List.take_length]
theorem ax_in (l1 l2 l3 l4 : List Int) (i : Nat) (h : okD l1 l2 l3 l4 i) : ∀ x ∈ axisL l1 l2 l3 l4 i, 0 ≤ x ∧ x < rd l1 i + (rd l3 i - 1) * rd l2 i + rd l4 i := by
 obtain ⟨h1, h3, h4, h2, h5⟩ := h
 intro x hx
 unfold axisL axJ axG at hx
 simp only [List.mem_flatMap, List.mem_range'_1, List.mem_singleton] at hx
 obtain ⟨j, hj, t, ht, rfl⟩ := hx
 have e1 : 0 ≤ (j : Int) * rd l2 (i : Int) := Int.mul_nonneg (by omega) (by omega)
 have e2 : (j : Int) * rd l2 (i : Int) ≤ (rd l3 i - 1) * rd l2 i := Int.mul_le_mul_of_nonneg_right (by omega) (by omega)
 rw [cA (a := (j : Int) * rd l2 (i : Int)) (by omega) (by omega), cA (a := rd l1 (i : Int) + _) (by omega) (by omega), cA (by omega) (by omega)]
 omega
theorem slab_in (d l1 l2 l3 l4 : List Int) (hd : ∀ x ∈ d, 0 ≤ x ∧ x ≤ 40) (h3 : d.length ≤ 3) (hD : ∀ i, i < d.length → ∀ x ∈ axisL l1 l2 l3 l4 i, 0 ≤ x ∧ x < rd d (i : Int)) : ∀ (c i : Nat) (out : List Int), i + c = d.length → (∀ x ∈ out, 0 ≤ x ∧ x < pr d i) → ∀ x ∈ slabR d l1 l2 l3 l4 c i out, 0 ≤ x ∧ x < pr d d.length := by
 intro c
 induction c with
 | zero => intro i out hi ho; rw [← hi]; exact ho
 | succ c ih =>
  intro i out hi ho
  refine ih (i + 1) _ (by omega) (fun x hx => ?_)
  unfold slabStep stQ stG at hx
  simp only [List.mem_flatMap, List.mem_range'_1, List.mem_singleton] at hx
  obtain ⟨q, hq, t, ht, rfl⟩ := hx
  rw [pr_succ d i (by omega)]
  exact st_in (rd_all ho q (by omega)) (pr_le d h3 hd i (by omega)).2 (rd_all hd i (by omega)) (rd_all (hD i (by omega)) t (by omega))
theorem idx_in (d p : List Int) (hd : ∀ x ∈ d, 0 ≤ x ∧ x ≤ 40) (h3 : d.length ≤ 3) (hp : ∀ i : Nat, i < d.length → 0 ≤ rd p (i : Int) ∧ rd p (i : Int) < rd d (i : Int)) : ∀ (c i : Nat) (x : Int), i + c = d.length → 0 ≤ x ∧ x < pr d i → 0 ≤ idxR d p c i x ∧ idxR d p c i x < pr d d.length := by
 intro c
 induction c with
 | zero => intro i x hi hx; rw [← hi]; exact hx
 | succ c ih =>
  intro i x hi hx
  exact ih (i + 1) _ (by omega) (by rw [pr_succ d i (by omega)]; exact st_in hx (pr_le d h3 hd i (by omega)).2 (rd_all hd i (by omega)) (hp i (by omega)))
theorem inr (d : List Int) (a : Int) (l1 l2 l3 l4 : List Int) (ps : List S68) (h : okV d a l1 l2 l3 l4 ps) : ∀ x ∈ indL d a l1 l2 l3 l4 ps, 0 ≤ x ∧ x < prodL d := by
 obtain ⟨⟨h3, hd, hpr⟩, hF, hS, hP⟩ := h
 unfold indL
 intro x hx
 by_cases e1 : a = 1
 · rw [if_pos e1] at hx
   unfold allG at hx
   simp only [List.mem_flatMap, List.mem_range'_1, List.mem_singleton] at hx
   obtain ⟨i, hi, rfl⟩ := hx
   omega
 ·
  rw [if_neg e1] at hx
  by_cases e3 : a = 3
  ·
   rw [if_pos e3] at hx
   obtain ⟨hq1, hq2⟩ := hS e3
   obtain ⟨-, -, -, -, hok⟩ := okF_slab hF e3
   rw [← pr_all]
   exact slab_in d l1 l2 l3 l4 hd h3 (fun i hi y hy => by
    have h1 := ax_in l1 l2 l3 l4 i (hok i (by omega) (by omega)) y hy
    have h2 := hq2 i hi
    unfold endv at h2
    omega) d.length 0 [0] (by omega) (fun y hy => by rw [List.mem_singleton.1 hy]; exact ⟨Int.le_refl _, show (0 : Int) < 1 by decide⟩) x hx
  ·
   rw [if_neg e3] at hx
   by_cases e4 : a = 4
   ·
    rw [if_pos e4] at hx
    unfold ptG at hx
    simp only [List.mem_flatMap, List.mem_range'_1, List.mem_singleton] at hx
    obtain ⟨j, hj, rfl⟩ := hx
    obtain ⟨k1, k2⟩ := hP e4 j (by omega)
    rw [← pr_all]
    exact idx_in d _ hd h3 (fun i hi => by
     have h2 : 0 ≤ rd d (i : Int) ∧ rd d (i : Int) ≤ 40 := rd_all hd i hi
     have := k2 i (by omega)
     rw [cA (by omega) (by omega)] at this
     omega) d.length 0 0 (by omega) ⟨Int.le_refl _, show (0 : Int) < 1 by decide⟩
   · rw [if_neg e4] at hx; cases hx
theorem inds (d : List Int) (a : Int) (l1 l2 l3 l4 : List Int) (ps : List S68) (h : okV d a l1 l2 l3 l4 ps) : Inds (indL d a l1 l2 l3 l4 ps) ∧ (indL d a l1 l2 l3 l4 ps ≠ [] → ∀ x ∈ d, 1 ≤ x ∧ x ≤ 40) := by
 have hi := inr d a l1 l2 l3 l4 ps h
 have hpr := h.1.2.2
 refine ⟨⟨indL_len d a l1 l2 l3 l4 ps h, fun x hx => by have := hi x hx; omega⟩, fun hne => ?_⟩
 obtain ⟨y, hy⟩ := List.exists_mem_of_ne_nil _ hne
 have h1 := hi y hy
 intro x hx
 have h2 := nonzero d (by omega) x hx
 have h3 := h.1.2.1 x hx
 omega
theorem inBx_unit : ∀ (c p : List Int), p.length = c.length → (inBx c (c.map (· + 1)) p = true ↔ p = c)
 | [], p, h => by
  obtain rfl : p = [] := List.length_eq_zero_iff.1 h
  exact ⟨fun _ => rfl, fun _ => rfl⟩
 | a :: c, p, h => by
  match p, h with
  | x :: p, h =>
   have ih := inBx_unit c p (by simpa using h)
   show ((decide (a ≤ x) && decide (x < a + 1)) && inBx c (c.map (· + 1)) p) = true ↔ x :: p = a :: c
   rw [Bool.and_eq_true, Bool.and_eq_true, decide_eq_true_eq, decide_eq_true_eq, ih, List.cons.injEq]
   constructor
   · rintro ⟨⟨h1, h2⟩, rfl⟩; exact ⟨by omega, rfl⟩
   · rintro ⟨rfl, rfl⟩; exact ⟨⟨by omega, by omega⟩, rfl⟩
theorem ix {m M c z : Int} (hm : 0 ≤ m ∧ m < M) (hc : 0 ≤ c ∧ c < z) : (0 ≤ m * z + c ∧ m * z + c < M * z) ∧ (m * z + c) / z = m ∧ (m * z + c) % z = c := by
 have h0 : 0 ≤ m * z := Int.mul_nonneg hm.1 (by omega)
 have h1 : m * z ≤ (M - 1) * z := Int.mul_le_mul_of_nonneg_right (by omega) (by omega)
 rw [Int.sub_mul, Int.one_mul] at h1
 refine ⟨⟨by omega, by omega⟩, ?_, ?_⟩
 · rw [Int.add_comm, Int.add_mul_ediv_right _ _ (by omega), Int.ediv_eq_zero_of_lt hc.1 hc.2, Int.zero_add]
 · rw [Int.add_comm, Int.add_mul_emod_self_right, Int.emod_eq_of_lt hc.1 hc.2]
theorem crdL2 {x y a b : Int} (h0 : 0 ≤ a ∧ a < x) (h1 : 0 ≤ b ∧ b < y) : crdL [x, y] (a * y + b) = [a, b] := by
 obtain ⟨g, e1, e2⟩ := ix h0 h1
 show [(a * y + b) / y % x, (a * y + b) % y] = [a, b]
 rw [e1, e2, Int.emod_eq_of_lt h0.1 h0.2]
theorem crdL3 {x y z a b c : Int} (h0 : 0 ≤ a ∧ a < x) (h1 : 0 ≤ b ∧ b < y) (h2 : 0 ≤ c ∧ c < z) : crdL [x, y, z] ((a * y + b) * z + c) = [a, b, c] := by
 obtain ⟨g, e1, e2⟩ := ix h0 h1
 obtain ⟨g', e3, e4⟩ := ix g h2
 show [((a * y + b) * z + c) / z / y % x, ((a * y + b) * z + c) / z % y, ((a * y + b) * z + c) % z] = [a, b, c]
 rw [e3, e4, e1, e2, Int.emod_eq_of_lt h0.1 h0.2]
theorem crd_back (d p : List Int) (h3 : d.length ≤ 3) (hd : ∀ x ∈ d, 1 ≤ x ∧ x ≤ 40) (hp : p.length = d.length) (h : ∀ i : Nat, i < d.length → 0 ≤ rd p (i : Int) ∧ rd p (i : Int) < rd d (i : Int)) : ∃ n : Int, (0 ≤ n ∧ n < prodL d) ∧ crdL d n = p := by
 match d, p, h3, hp with
 | [], [], _, _ => exact ⟨0, ⟨by decide, by decide⟩, rfl⟩
 | [x], [a], _, _ =>
  have h0 : 0 ≤ a ∧ a < x := h 0 (by simp)
  refine ⟨a, ⟨h0.1, by simp only [prodL, List.foldl_cons, List.foldl_nil, Int.one_mul]; exact h0.2⟩, ?_⟩
  show [a % x] = [a]
  rw [Int.emod_eq_of_lt h0.1 h0.2]
 | [x, y], [a, b], _, _ =>
  have h0 : 0 ≤ a ∧ a < x := h 0 (by simp)
  have h1 : 0 ≤ b ∧ b < y := h 1 (by simp)
  obtain ⟨g, e1, e2⟩ := ix h0 h1
  exact ⟨a * y + b, ⟨g.1, by simp only [prodL, List.foldl_cons, List.foldl_nil, Int.one_mul]; exact g.2⟩, crdL2 h0 h1⟩
 | [x, y, z], [a, b, c], _, _ =>
  have h0 : 0 ≤ a ∧ a < x := h 0 (by simp)
  have h1 : 0 ≤ b ∧ b < y := h 1 (by simp)
  have h2 : 0 ≤ c ∧ c < z := h 2 (by simp)
  obtain ⟨g, e1, e2⟩ := ix h0 h1
  obtain ⟨g', e3, e4⟩ := ix g h2
  exact ⟨(a * y + b) * z + c, ⟨g'.1, by simp only [prodL, List.foldl_cons, List.foldl_nil, Int.one_mul]; exact g'.2⟩, crdL3 h0 h1 h2⟩
 | _ :: _ :: _ :: _ :: _, _, h, _ => exact absurd h (by simp)
theorem inBx_low : ∀ (d p : List Int), p.length = d.length → (inBx (List.replicate d.length 0) d p = true ↔ ∀ i : Nat, i < d.length → 0 ≤ rd p (i : Int) ∧ rd p (i : Int) < rd d (i : Int))
 | [], p, h => by
  obtain rfl : p = [] := List.length_eq_zero_iff.1 h
  exact ⟨fun _ i hi => by simp at hi, fun _ => rfl⟩
 | b :: d, p, h => by
  match p, h with
  | x :: p, h =>
   have ih := inBx_low d p (by simpa using h)
   show ((decide (0 ≤ x) && decide (x < b)) && inBx (List.replicate d.length 0) d p) = true ↔ _
   rw [Bool.and_eq_true, Bool.and_eq_true, decide_eq_true_eq, decide_eq_true_eq, ih]
   constructor
   · rintro ⟨h1, h2⟩ i hi
     cases i with
     | zero => exact h1
     | succ i => rw [rd_consS, rd_consS]; exact h2 i (by simpa using hi)
   · intro h1
     refine ⟨h1 0 (by simp), fun i hi => ?_⟩
     have := h1 (i + 1) (by simpa using hi)
     rwa [rd_consS, rd_consS] at this
theorem all_mem (d : List Int) (h3 : d.length ≤ 3) (hd : ∀ x ∈ d, 1 ≤ x ∧ x ≤ 40) (hpr : prodL d ≤ 600) (p : List Int) (hp : p.length = d.length) :
 mem (((List.range' 0 (prodL d).toNat).flatMap allG).map (unitB d)) p = inBx (List.replicate d.length 0) d p := by
 rw [Bool.eq_iff_iff, inBx_low d p hp]
 unfold mem
 rw [List.any_eq_true]
 constructor
 ·
  rintro ⟨b, hb, hin⟩
  obtain ⟨n, hn, rfl⟩ := List.mem_map.1 hb
  unfold allG at hn
  simp only [List.mem_flatMap, List.mem_range'_1, List.mem_singleton] at hn
  obtain ⟨m, hm, rfl⟩ := hn
  have := (inBx_unit (crd d (m : Int)) p (by rw [crd_len]; exact hp)).1 hin
  rw [this]
  exact crd_in d h3 hd _ (by omega) (by omega)
 ·
  intro h
  obtain ⟨n, hn, e⟩ := crd_back d p h3 hd hp h
  refine ⟨unitB d n, List.mem_map.2 ⟨n, ?_, rfl⟩, ?_⟩
  · unfold allG
    simp only [List.mem_flatMap, List.mem_range'_1, List.mem_singleton]
    exact ⟨n.toNat, by omega, by omega⟩
  · refine (inBx_unit (crd d n) p (by rw [crd_len]; exact hp)).2 ?_
    rw [crd_eq d h3 hd n hn.1 (by omega), e]
theorem rle_tail (f : Nat → List S33) : ∀ (d x : Nat) (out : List S33) (b : Int), (∀ y, x ≤ y → f y = []) → rle f d x out [] b = out := by
 intro d
 induction d with
 | zero => intro x out b _; rfl
 | succ d ih => intro x out b h; unfold rle; rw [if_pos (h x (Nat.le_refl _))]; exact ih _ _ _ (fun y hy => h y (by omega))
theorem rle_box (f : Nat → List S33) (B : List S33) (hB : B ≠ []) (n : Nat) (hf : ∀ y, f y = if y < n then B else []) : ∀ (d x : Nat), x + d = 41 → x ≤ n → n ≤ 40 → rle f d x [] B 0 = pre B 0 n := by
 intro d
 induction d with
 | zero => intro x h1 h2 h3; omega
 | succ d ih =>
  intro x h1 h2 h3
  unfold rle
  by_cases h : x < n
  · rw [hf, if_pos h, if_pos rfl]; exact ih (x + 1) (by omega) (by omega) h3
  · rw [hf, if_neg h, if_neg (fun e => hB e.symm), List.nil_append, show x = n by omega]
    exact rle_tail f _ _ _ _ (fun y hy => by rw [hf, im])
theorem NF_full : ∀ (d : List Int), (∀ x ∈ d, 1 ≤ x ∧ x ≤ 40) → NF d.length (inBx (List.replicate d.length 0) d) = [⟨List.replicate d.length 0, d⟩]
 | [], _ => rfl
 | b :: d, h => by
  have ih := NF_full d (fun x hx => h x (List.mem_cons_of_mem _ hx))
  have hb := h b List.mem_cons_self
  have hf : ∀ y : Nat, (if y < 40 then NF d.length (fun p => inBx (List.replicate (b :: d).length 0) (b :: d) ((y : Int) :: p)) else []) = if y < b.toNat then [⟨List.replicate d.length 0, d⟩] else [] := by
   intro y
   have e : (fun p => inBx (List.replicate (b :: d).length 0) (b :: d) ((y : Int) :: p)) = fun p => (decide ((y : Int) < b) && inBx (List.replicate d.length 0) d p) := by
    funext p
    show ((decide ((0 : Int) ≤ y) && decide ((y : Int) < b)) && inBx (List.replicate d.length 0) d p) = _
    rw [decide_eq_true (show (0 : Int) ≤ y by omega), Bool.true_and]
   rw [e]
   by_cases h1 : y < b.toNat
   · rw [ip, if_pos h1, decide_eq_true (show (y : Int) < b by omega), ← ih]
     rfl
   · rw [if_neg h1, decide_eq_false (show ¬ (y : Int) < b by omega)]
     simp only [Bool.false_and, NF_false, ite_self]
  show NF (d.length + 1) _ = _
  unfold NF
  show rle (fun y : Nat => if y < 40 then NF d.length (fun p => inBx (List.replicate (b :: d).length 0) (b :: d) ((y : Int) :: p)) else []) (40 + 1) 0 [] [] 0 = _
  unfold rle
  rw [hf 0, if_pos (show 0 < b.toNat by omega), if_neg (by simp)]
  show rle _ 40 1 [] _ 0 = _
  rw [rle_box _ [⟨List.replicate d.length 0, d⟩] (by simp) b.toNat hf 40 1 (by omega) (by omega) (by omega), show ((b.toNat : Nat) : Int) = b by omega]
  rfl
theorem bx_all (d : List Int) (h3 : d.length ≤ 3) (hd : ∀ x ∈ d, 1 ≤ x ∧ x ≤ 40) (hpr : prodL d ≤ 600) : bx d ((List.range' 0 (prodL d).toNat).flatMap allG) = [⟨List.replicate d.length 0, d⟩] := by
 unfold bx
 rw [← NF_full d hd]
 refine NF_congr _ (fun p hp => ?_)
 rw [all_mem d h3 hd hpr p hp.1]
 show (_ || false) = _
 rw [Bool.or_false]
theorem of_spec (d : List Int) (a : Int) (l1 l2 l3 l4 : List Int) (ps : List S68) (h : okV d a l1 l2 l3 l4 ps) (k : Nat) (hk : 17000000 ≤ k) : spec_l07Of.f k d a l1 l2 l3 l4 ps = some (bx d (indL d a l1 l2 l3 l4 ps)) := by
 obtain ⟨hi, hd⟩ := inds d a l1 l2 l3 l4 ps h
 have h3 := h.1.1
 have hl := hi.1
 obtain ⟨k, rfl⟩ := sk k
 have rest : spec_l07Of.j0 (k + 1) d false a l1 l2 l3 l4 ps = some (bx d (indL d a l1 l2 l3 l4 ps)) := by
  have hK : KS d.length ≤ 16000000 := by
   have : d.length = 0 ∨ d.length = 1 ∨ d.length = 2 ∨ d.length = 3 := by omega
   rcases this with e | e | e | e <;> rw [e] <;> decide
  rw [spec_l07Of.j0, if_neg (by decide), ind_spec d a l1 l2 l3 l4 ps h k (by omega)]
  simp only [ob]
  rw [each_spec d h3 _ hd hi k (by omega)]
  simp only [ob]
  rw [comb_spec 1 or or_holds rfl d.length h3 _ [] (units_VL d h3 _ hd hi) (by intro b hb; cases hb) (by rw [List.length_map]; omega) (by simp) k (by omega)]
  rfl
 unfold spec_l07Of.f
 by_cases e1 : a = 1
 ·
  rw [if_pos e1, prod_spec _ d (by omega) h.1]
  simp only [ob]
  by_cases hp : prodL d > 0
  ·
   rw [decide_eq_true hp, spec_l07Of.j0, if_pos rfl, ip, ip, own_eq d (by omega)]
   have hz : ∀ x ∈ d, 1 ≤ x ∧ x ≤ 40 := fun x hx => by
    have h1 := nonzero d (by omega) x hx
    have h2 := h.1.2.1 x hx
    omega
   have e : indL d a l1 l2 l3 l4 ps = (List.range' 0 (prodL d).toNat).flatMap allG := by unfold indL; rw [if_pos e1]
   rw [e, bx_all d h3 hz h.1.2.2]
   rfl
  · rw [decide_eq_false hp]; exact rest
 · rw [if_neg e1]; exact rest
theorem prod2 {u v : Int} (hu : 0 ≤ u ∧ u ≤ 40) (hv : 0 ≤ v ∧ v ≤ 40) : 0 ≤ u * v ∧ u * v ≤ 1600 :=
 ⟨Int.mul_nonneg hu.1 hv.1, Int.le_trans (Int.mul_le_mul hu.2 hv.2 hv.1 (by omega)) (by decide)⟩
theorem prod3 {u v : Int} (hu : 0 ≤ u ∧ u ≤ 1600) (hv : 0 ≤ v ∧ v ≤ 40) : 0 ≤ u * v ∧ u * v ≤ 64000 :=
 ⟨Int.mul_nonneg hu.1 hv.1, Int.le_trans (Int.mul_le_mul hu.2 hv.2 hv.1 (by omega)) (by decide)⟩
theorem w64 {x : Int} (h : -64000000 ≤ x ∧ x ≤ 64000000) : wrap64 x = x := by unfold wrap64; omega
theorem size_impl {r : Nat} (hr : r ≤ 3) {b : S33} (hv : VB r b) (k : Nat) (hk : 1048600 ≤ k) : impl_BoxSize.f k b.f0 b.f1 = some (volB b.f0 b.f1) ∧ 0 ≤ volB b.f0 b.f1 ∧ volB b.f0 b.f1 ≤ 64000 := by
 have hV : VBox b.f0 b.f1 := ⟨by rw [hv.1]; exact hr, by rw [hv.1, hv.2.1], fun i hi => hv.2.2 i (by rw [hv.1] at hi; exact hi)⟩
 unfold impl_BoxSize.f
 rw [box_impl k _ _ (by omega), decide_eq_true hV]
 simp only [ob, if_true]
 obtain ⟨k, rfl⟩ : ∃ z, k = z + 1 + 1 + 1 + 1 := ⟨k - 4, by omega⟩
 have z1 : wrap64 (0 + 1) = 1 := by unfold wrap64; omega
 have z2 : wrap64 (1 + 1) = 2 := by unfold wrap64; omega
 have z3 : wrap64 (2 + 1) = 3 := by unfold wrap64; omega
 match r, hr, hv with
 | 0, _, hv =>
  rw [List.length_eq_zero_iff.1 hv.1, List.length_eq_zero_iff.1 hv.2.1]
  refine ⟨?_, by decide, by decide⟩
  rw [impl_BoxSize.l0, if_neg (by simp)]
  rfl
 | 1, _, hv =>
  obtain ⟨a, ah, c, cs, rfl, h1, hv1⟩ := VB_cons hv
  obtain rfl := List.length_eq_zero_iff.1 hv1.1
  obtain rfl := List.length_eq_zero_iff.1 hv1.2.1
  have v1 : wrap64 (c - a) = c - a := w64 (by omega)
  have e : volB [a] [c] = c - a := by show (c - a) * 1 = _; rw [Int.mul_one]
  refine ⟨?_, by show 0 ≤ volB [a] [c]; rw [e]; omega, by show volB [a] [c] ≤ _; rw [e]; omega⟩
  show impl_BoxSize.l0 _ 1 [a] (([a] : List Int).length : Int) 0 [a] [c] = some (volB [a] [c])
  rw [e, impl_BoxSize.l0, if_pos (by simp), ip, if_pos (by simp), if_pos (by simp), rd_cons0, rd_cons0, v1, Int.one_mul, v1, z1, impl_BoxSize.l0, if_neg (by simp)]
 | 2, _, hv =>
  obtain ⟨a, ah, c, cs, rfl, h1, hv1⟩ := VB_cons hv
  obtain ⟨a2, ah2, c2, cs2, e2, h2, hv2⟩ := VB_cons hv1
  injection e2 with e3 e4
  subst e3; subst e4
  obtain rfl := List.length_eq_zero_iff.1 hv2.1
  obtain rfl := List.length_eq_zero_iff.1 hv2.2.1
  have v1 : wrap64 (c - a) = c - a := w64 (by omega)
  have v2 : wrap64 (c2 - a2) = c2 - a2 := w64 (by omega)
  have m := prod2 (u := c - a) (v := c2 - a2) (by omega) (by omega)
  have v12 : wrap64 ((c - a) * (c2 - a2)) = (c - a) * (c2 - a2) := w64 (by omega)
  have e : volB [a, a2] [c, c2] = (c - a) * (c2 - a2) := by show (c - a) * ((c2 - a2) * 1) = _; rw [Int.mul_one]
  refine ⟨?_, by show 0 ≤ volB [a, a2] [c, c2]; rw [e]; omega, by show volB [a, a2] [c, c2] ≤ _; rw [e]; omega⟩
  show impl_BoxSize.l0 _ 1 [a, a2] (([a, a2] : List Int).length : Int) 0 [a, a2] [c, c2] = some (volB [a, a2] [c, c2])
  have r1 : rd [a, a2] 1 = a2 := rfl
  have r2 : rd [c, c2] 1 = c2 := rfl
  rw [e, impl_BoxSize.l0, if_pos (by simp), ip, if_pos (by simp), if_pos (by simp), rd_cons0, rd_cons0, v1, Int.one_mul, v1, z1, impl_BoxSize.l0, if_pos (by simp), ip, if_pos (by simp), if_pos (by simp), r1, r2, v2, v12, z2, impl_BoxSize.l0, if_neg (by simp)]
 | 3, _, hv =>
  obtain ⟨a, ah, c, cs, rfl, h1, hv1⟩ := VB_cons hv
  obtain ⟨a2, ah2, c2, cs2, e2, h2, hv2⟩ := VB_cons hv1
  injection e2 with e3 e4
  subst e3; subst e4
  obtain ⟨a3, ah3, c3, cs3, e5, h3, hv3⟩ := VB_cons hv2
  injection e5 with e6 e7
  subst e6; subst e7
  obtain rfl := List.length_eq_zero_iff.1 hv3.1
  obtain rfl := List.length_eq_zero_iff.1 hv3.2.1
  have v1 : wrap64 (c - a) = c - a := w64 (by omega)
  have v2 : wrap64 (c2 - a2) = c2 - a2 := w64 (by omega)
  have v3 : wrap64 (c3 - a3) = c3 - a3 := w64 (by omega)
  have m := prod2 (u := c - a) (v := c2 - a2) (by omega) (by omega)
  have m3 := prod3 (u := (c - a) * (c2 - a2)) (v := c3 - a3) (by omega) (by omega)
  have v12 : wrap64 ((c - a) * (c2 - a2)) = (c - a) * (c2 - a2) := w64 (by omega)
  have v123 : wrap64 ((c - a) * (c2 - a2) * (c3 - a3)) = (c - a) * (c2 - a2) * (c3 - a3) := w64 (by omega)
  have e : volB [a, a2, a3] [c, c2, c3] = (c - a) * (c2 - a2) * (c3 - a3) := by show (c - a) * ((c2 - a2) * ((c3 - a3) * 1)) = _; rw [Int.mul_one, Int.mul_assoc]
  refine ⟨?_, by show 0 ≤ volB [a, a2, a3] [c, c2, c3]; rw [e]; omega, by show volB [a, a2, a3] [c, c2, c3] ≤ _; rw [e]; omega⟩
  show impl_BoxSize.l0 _ 1 [a, a2, a3] (([a, a2, a3] : List Int).length : Int) 0 [a, a2, a3] [c, c2, c3] = some (volB [a, a2, a3] [c, c2, c3])
  have r1 : rd [a, a2, a3] 1 = a2 := rfl
  have r2 : rd [c, c2, c3] 1 = c2 := rfl
  have r3 : rd [a, a2, a3] 2 = a3 := rfl
  have r4 : rd [c, c2, c3] 2 = c3 := rfl
  rw [e, impl_BoxSize.l0, if_pos (by simp), ip, if_pos (by simp), if_pos (by simp), rd_cons0, rd_cons0, v1, Int.one_mul, v1, z1, impl_BoxSize.l0, if_pos (by simp), ip, if_pos (by simp), if_pos (by simp), r1, r2, v2, v12, z2, impl_BoxSize.l0, if_pos (by simp), ip, if_pos (by simp), if_pos (by simp), r3, r4, v3, v123, z3, impl_BoxSize.l0, if_neg (by simp)]
theorem size_list {r : Nat} (hr : r ≤ 3) (l : List S33) (hv : VL r l) (hl : l.length ≤ 32) (k : Nat) (hk : 1048700 ≤ k) : laws_d8Size.f k l = some (volL l) := by
 have key : ∀ (d i k : Nat) (acc : Int), i + d = l.length → 1048600 + d < k → 0 ≤ acc → acc + 64000 * d ≤ 64000000 → laws_d8Size.l0 k l acc (i : Int) = some (acc + volL (l.drop i)) := by
  intro d
  induction d with
  | zero =>
   intro i k acc hi hk h0 h1
   obtain ⟨k, rfl⟩ := sk k
   rw [laws_d8Size.l0, im, List.drop_eq_nil_of_le (by omega)]
   show some acc = some (acc + 0)
   rw [Int.add_zero]
  | succ d ih =>
   intro i k acc hi hk h0 h1
   obtain ⟨k, rfl⟩ := sk k
   obtain ⟨s1, s2, s3⟩ := size_impl hr (hv _ (List.getElem_mem (show i < l.length by omega))) k (by omega)
   rw [laws_d8Size.l0, ip, ip, rd_at l i (by omega), s1]
   simp only [ob]
   rw [w64 (by omega), cF i (by omega), ih (i + 1) k _ (by omega) (by omega) (by omega) (by omega), drop_at l i (by omega)]
   show some (acc + volB _ _ + volL _) = some (acc + (volB _ _ + volL _))
   rw [Int.add_assoc]
 have := key l.length 0 k 0 (by omega) (by omega) (by omega) (by omega)
 unfold laws_d8Size.f
 rw [show laws_d8Size.l0 k l 0 0 = _ from this, Int.zero_add]
 rfl
theorem ok_NF (r : Nat) (hr : r ≤ 3) (P : List Int → Bool) (h : (NF r P).length ≤ 32) : okL (NF r P) := by
 have hv := NF_VL r P
 have hlen : ∀ i, i < (NF r P).length → (aA (NF r P) (i : Int)).f0.length = r := fun i hi => by
  rw [rd_at _ i hi]; exact (hv _ (List.getElem_mem hi)).1
 refine ⟨fun i hi => ?_, by omega⟩
 have h1 := hv _ (List.getElem_mem hi)
 rw [← rd_at _ i hi] at h1
 refine ⟨⟨by rw [h1.1]; exact hr, by rw [h1.1, h1.2.1], fun j hj => h1.2.2 j (by rw [h1.1] at hj; exact hj)⟩, ?_⟩
 rw [h1.1]
 exact (hlen 0 (by omega)).symm
theorem has_eq (a b p : List Int) (r : Nat) (hr : r ≤ 3) (ha : a.length = r) (hb : b.length = r) (hp : p.length = r) (hB : ∀ i : Nat, i < r → 0 ≤ rd b (i : Int) ∧ rd b (i : Int) ≤ 40) (k : Nat) (hk : r < k) : impl_Box_has.f k a b p = some (inBx a b p) := by
 have key : ∀ (d i k : Nat), i + d = r → d < k → impl_Box_has.l0 k p (p.length : Int) (i : Int) a b = some (inBx (a.drop i) (b.drop i) (p.drop i)) := by
  intro d
  induction d with
  | zero =>
   intro i k hi hk
   obtain ⟨k, rfl⟩ := sk k
   rw [impl_Box_has.l0, im, List.drop_eq_nil_of_le (by omega), List.drop_eq_nil_of_le (by omega), List.drop_eq_nil_of_le (by omega)]
   rfl
  | succ d ih =>
   intro i k hi hk
   obtain ⟨k, rfl⟩ := sk k
   have hbi := hB i (by omega)
   have hw : wrap64 (rd b (i : Int) - 1) = rd b (i : Int) - 1 := w64 (by omega)
   rw [impl_Box_has.l0, ip, ip, ip, ip, ip, within_eq, cF i (by omega), hw, dropi a i (by omega), dropi b i (by omega), dropi p i (by omega)]
   simp only [ob, decide_eq_true_eq, inBx]
   by_cases h : rd a (i : Int) ≤ rd p (i : Int) ∧ rd p (i : Int) ≤ rd b (i : Int) - 1
   · rw [if_pos h, ih (i + 1) k (by omega) (by omega), decide_eq_true h.1, decide_eq_true (show rd p (i : Int) < rd b (i : Int) by omega)]
     rfl
   · rw [if_neg h]
     by_cases h1 : rd a (i : Int) ≤ rd p (i : Int)
     · rw [decide_eq_false (show ¬ rd p (i : Int) < rd b (i : Int) from fun h2 => h ⟨h1, by omega⟩), Bool.and_false, Bool.false_and]
     · rw [decide_eq_false h1, Bool.false_and, Bool.false_and]
 have := key r 0 k (by omega) hk
 unfold impl_Box_has.f
 rw [show (0 : Int) = ((0 : Nat) : Int) from rfl, this]
 rfl
theorem inboxes_eq (l : List S33) (r : Nat) (hr : r ≤ 3) (hv : VL r l) (hok : okL l) (p : List Int) (hp : p.length = r) (k : Nat) (hk : 1048700 ≤ k) : impl_InBoxes.f k l p = some (mem l p) := by
 have hl : l.length ≤ 32 := by have := hok.2; omega
 unfold impl_InBoxes.f slices_ContainsFunc_impl_InBoxes_1.f bK.f
 rw [list_impl l (by omega) k (by omega), decide_eq_true hok.1, decide_eq_true hok.2]
 simp only [ob, Bool.and_true, if_true]
 rw [find_loop (fun k i => bK.l0 k l l.length i p) (fun i => inBx (aA l (i : Int)).f0 (aA l (i : Int)).f1 p = true) l.length 10
  (by intro k _; show bK.l0 (k + 1) l _ _ p = _; rw [bK.l0, im])
  (by
   intro k i hk hi
   show bK.l0 (k + 1) l _ _ p = _
   have hb := hv _ (List.getElem_mem hi)
   rw [← rd_at l i hi] at hb
   rw [bK.l0, ip, ip, ip, cF i (by omega)]
   unfold impl_InBoxes_1.f
   rw [if_pos (by rw [hb.1, hp]), has_eq _ _ p r hr hb.1 hb.2.1 hp (fun j hj => by have := hb.2.2 j hj; unfold BoxAt at this; omega) k (by omega)]
   simp only [ob])
  k (by omega)]
 simp only [ob]
 rcases look_or (fun i => inBx (aA l (i : Int)).f0 (aA l (i : Int)).f1 p = true) l.length 0 with ⟨h4, h5⟩ | ⟨j, -, h4, h5, h6⟩
 ·
  rw [h4]
  have : mem l p = false := by
   unfold mem
   rw [List.any_eq_false]
   intro b hb
   obtain ⟨i, hi, rfl⟩ := List.mem_iff_getElem.1 hb
   have := h5 i (by omega) (by omega)
   rwa [rd_at l i hi] at this
  rw [this]; rfl
 ·
  rw [h5]
  have : mem l p = true := by
   unfold mem
   rw [List.any_eq_true]
   refine ⟨_, List.getElem_mem (show j < l.length by omega), ?_⟩
   rwa [rd_at l j (by omega)] at h6
  have h8 : (j : Int) ≥ 0 := by omega
  rw [this]; simp [h8]
theorem has_spec (T : List Int) (x : Int) (hT : T.length ≤ 64000) (k : Nat) (hk : 100000 ≤ k) : spec_l00Has.f k T x = some (!decide (∀ i, i < T.length → ¬ rd T (i : Int) = x)) :=
 any_loop (fun k i => spec_l00Has.l0 k T x i) (fun i => rd T (i : Int) = x) T.length 0
  (by intro k _; show spec_l00Has.l0 (k + 1) T x _ = _; rw [spec_l00Has.l0, im])
  (by
   intro k i _ hi
   show spec_l00Has.l0 (k + 1) T x _ = _
   rw [spec_l00Has.l0, ip, ip, cF i (by omega)])
  k (by omega)
def joinJ (b : S33) : Nat → Nat → List Int × List Int → List Int × List Int
 | 0, _, s => s
 | d + 1, j, s => joinJ b d (j + 1) (s.1.set j (mn (rd s.1 (j : Int)) (rd b.f0 (j : Int))), s.2.set j (mx (rd s.2 (j : Int)) (rd b.f1 (j : Int))))
def joinI (l : List S33) (R : Nat) : Nat → Nat → List Int × List Int → List Int × List Int
 | 0, _, s => s
 | d + 1, i, s => joinI l R d (i + 1) (joinJ (aA l (i : Int)) R 0 s)
theorem joinJ_len (b : S33) : ∀ (d j : Nat) (s : List Int × List Int), (joinJ b d j s).1.length = s.1.length ∧ (joinJ b d j s).2.length = s.2.length
 | 0, _, _ => ⟨rfl, rfl⟩
 | d + 1, j, s => by
  obtain ⟨h1, h2⟩ := joinJ_len b d (j + 1) (s.1.set j (mn (rd s.1 (j : Int)) (rd b.f0 (j : Int))), s.2.set j (mx (rd s.2 (j : Int)) (rd b.f1 (j : Int))))
  unfold joinJ
  exact ⟨by rw [h1, List.length_set], by rw [h2, List.length_set]⟩
theorem joinI_len (l : List S33) (R : Nat) : ∀ (d i : Nat) (s : List Int × List Int), (joinI l R d i s).1.length = s.1.length ∧ (joinI l R d i s).2.length = s.2.length
 | 0, _, _ => ⟨rfl, rfl⟩
 | d + 1, i, s => by
  obtain ⟨h1, h2⟩ := joinI_len l R d (i + 1) (joinJ (aA l (i : Int)) R 0 s)
  obtain ⟨h3, h4⟩ := joinJ_len (aA l (i : Int)) R 0 s
  unfold joinI
  exact ⟨by rw [h1, h3], by rw [h2, h4]⟩
theorem implJ (l : List S33) (hl : l.length ≤ 1048576) (R i : Nat) (hR : R ≤ 3) (hi : i < l.length) (h0 : (aA l (i : Int)).f0.length = R) (h1 : (aA l (i : Int)).f1.length = R) :
 ∀ (d j k : Nat) (lo hi_ : List Int), j + d = R → lo.length = R → hi_.length = R → aW.l1 (k + d + 1) l (l.length : Int) (i : Int) (R : Int) (j : Int) lo hi_ (aA l (i : Int)).f0 (aA l (i : Int)).f1 = aW.l0 k l (l.length : Int) ((i + 1 : Nat) : Int) (joinJ (aA l (i : Int)) d j (lo, hi_)).1 (joinJ (aA l (i : Int)) d j (lo, hi_)).2 := by
 intro d
 induction d with
 | zero =>
  intro j k lo hi_ hj hlo hhi
  rw [aW.l1, im, cF i (by omega)]
  rfl
 | succ d ih =>
  intro j k lo hi_ hj hlo hhi
  rw [show k + (d + 1) + 1 = (k + d + 1) + 1 by omega, aW.l1, ip, ip, ip, ip, ip, ip, cF j (by omega), ih (j + 1) k _ _ (by omega) (by rw [List.length_set]; exact hlo) (by rw [List.length_set]; exact hhi)]
  rfl
theorem implI (l : List S33) (hl : l.length ≤ 32) (R : Nat) (hR : R ≤ 3) (hb : ∀ i, i < l.length → (aA l (i : Int)).f0.length = R ∧ (aA l (i : Int)).f1.length = R) :
 ∀ (d i k : Nat) (lo hi_ : List Int), i + d = l.length → 10 * d + 10 ≤ k → lo.length = R → hi_.length = R → aW.l0 k l (l.length : Int) (i : Int) lo hi_ = some ((joinI l R d i (lo, hi_)).1, (joinI l R d i (lo, hi_)).2, true) := by
 intro d
 induction d with
 | zero =>
  intro i k lo hi_ hi hk hlo hhi
  obtain ⟨k, rfl⟩ := sk k
  rw [aW.l0, im]
  rfl
 | succ d ih =>
  intro i k lo hi_ hi hk hlo hhi
  obtain ⟨k, rfl⟩ : ∃ z, k = z + R + 1 + 1 := ⟨k - R - 2, by omega⟩
  obtain ⟨h0, h1⟩ := hb i (by omega)
  obtain ⟨l1, l2⟩ := joinJ_len (aA l (i : Int)) R 0 (lo, hi_)
  rw [aW.l0, ip, ip, ip, h0, show (0 : Int) = ((0 : Nat) : Int) from rfl, implJ l (by omega) R i hR (by omega) h0 h1 R 0 k lo hi_ (by omega) hlo hhi, ih (i + 1) k _ _ (by omega) (by omega) (by rw [l1]; exact hlo) (by rw [l2]; exact hhi)]
  rfl
theorem inBx_len : ∀ (a b p : List Int), inBx a b p = true → a.length = p.length
 | [], [], [], _ => rfl
 | _ :: a, _ :: b, _ :: p, h => congrArg (· + 1) (inBx_len a b p (Bool.and_eq_true_iff.1 h).2)
 | [], _ :: _, _, h => by simp [inBx] at h
 | [], [], _ :: _, h => by simp [inBx] at h
 | _ :: _, [], _, h => by simp [inBx] at h
 | _ :: _, _ :: _, [], h => by simp [inBx] at h
theorem vol_pos : ∀ (r : Nat) (b : S33), VB r b → 1 ≤ volB b.f0 b.f1
 | 0, b, h => by rw [List.length_eq_zero_iff.1 h.1]; exact Int.le_refl 1
 | r + 1, b, h => by
  obtain ⟨a, ah, c, cs, rfl, h1, h2⟩ := VB_cons h
  have h3 : 1 ≤ volB ah cs := vol_pos r _ h2
  have h4 := Int.mul_le_mul (show 1 ≤ c - a by omega) h3 (by omega) (by omega)
  show 1 ≤ (c - a) * volB ah cs
  omega
theorem volL_nonneg (r : Nat) : ∀ l : List S33, VL r l → 0 ≤ volL l
 | [], _ => Int.le_refl 0
 | b :: l, h => by
  have h1 := vol_pos r b (h b List.mem_cons_self)
  have h2 := volL_nonneg r l (fun x hx => h x (List.mem_cons_of_mem _ hx))
  show 0 ≤ volB b.f0 b.f1 + volL l
  omega
theorem st_first {b x : Int} (h0 : 0 ≤ b) (h1 : b < x) (h2 : b < 600) : wrap64 (wrap64 (0 * x) + b % x) = b := by
 rw [Int.zero_mul, Int.emod_eq_of_lt h0 h1, cA (a := 0) (by omega) (by omega), Int.zero_add, cA (by omega) (by omega)]
theorem st_back {a y : Int} (h0 : 0 ≤ a) (h1 : a < 600) (hy : 1 ≤ y) : wrap64 (wrap64 (a / y * y) + a % y) = a := by
 have e := Int.emod_def a y
 rw [Int.mul_comm] at e
 have h2 := Int.emod_nonneg a (show y ≠ 0 by omega)
 have h4 : 0 ≤ a / y * y := Int.mul_nonneg (Int.ediv_nonneg h0 (by omega)) (by omega)
 rw [cA (a := a / y * y) (by omega) (by omega), show a / y * y + a % y = a by omega, cA (by omega) (by omega)]
theorem idx_crd (d : List Int) (h3 : d.length ≤ 3) (hd : ∀ x ∈ d, 1 ≤ x ∧ x ≤ 40) (hpr : prodL d ≤ 600) (a : Int) (h0 : 0 ≤ a) (h1 : a < prodL d) : idxR d (crd d a) d.length 0 0 = a := by
 rw [crd_eq d h3 hd a h0 (by omega)]
 have h6 : a < 600 := by omega
 clear hpr
 match d, h3, hd, h1 with
 | [], _, _, h1 =>
  have : a < 1 := h1
  show (0 : Int) = a
  omega
 | [x], _, hd, h1 =>
  simp only [prodL, List.foldl_cons, List.foldl_nil, Int.one_mul] at h1
  exact st_first h0 h1 h6
 | [x, y], _, hd, h1 =>
  simp only [prodL, List.foldl_cons, List.foldl_nil, Int.one_mul] at h1
  have hy := hd y (by simp)
  have q0 := Int.ediv_nonneg h0 (show 0 ≤ y by omega)
  have q1 := Int.ediv_le_self y h0
  show wrap64 (wrap64 (wrap64 (wrap64 (0 * x) + a / y % x) * y) + a % y) = a
  rw [st_first q0 (Int.ediv_lt_of_lt_mul (by omega) h1) (by omega), st_back h0 h6 hy.1]
 | [x, y, z], _, hd, h1 =>
  simp only [prodL, List.foldl_cons, List.foldl_nil, Int.one_mul] at h1
  have hy := hd y (by simp)
  have hz := hd z (by simp)
  have q0 := Int.ediv_nonneg h0 (show 0 ≤ z by omega)
  have q1 := Int.ediv_le_self z h0
  have q2 := Int.ediv_nonneg q0 (show 0 ≤ y by omega)
  have q3 := Int.ediv_le_self y q0
  show wrap64 (wrap64 (wrap64 (wrap64 (wrap64 (wrap64 (0 * x) + a / z / y % x) * y) + a / z % y) * z) + a % z) = a
  rw [st_first q2 (Int.ediv_lt_of_lt_mul (by omega) (Int.ediv_lt_of_lt_mul (by omega) h1)) (by omega), st_back q0 (by omega) hy.1, st_back h0 h6 hz.1]
 | _ :: _ :: _ :: _ :: _, h, _, _ => exact absurd h (by simp)
theorem has_mem (T : List Int) (x : Int) : (!decide (∀ i, i < T.length → ¬ rd T (i : Int) = x)) = decide (x ∈ T) := by
 by_cases h : x ∈ T
 · obtain ⟨i, hi, e⟩ := List.mem_iff_getElem.1 h
   rw [decide_eq_true h]
   simp only [Bool.not_eq_true', decide_eq_false_iff_not]
   exact fun h2 => h2 i hi (by rw [rd_lt T i hi]; exact e)
 · rw [decide_eq_false h]
   simp only [Bool.not_eq_false', decide_eq_true_eq]
   exact fun i hi e => h (by rw [← e, rd_lt T i hi]; exact List.getElem_mem hi)
/-- what a drawn selection selects, and its boxes -/
structure Sel (d : List Int) (a : Int) (l1 l2 l3 l4 : List Int) (ps : List S68) (n : Int) : Prop where
 v : okV d a l1 l2 l3 l4 ps
 l : ps.length ≤ 1048576
 q : ∀ y ∈ ps, QS68 y
 h0 : 0 ≤ n
 h1 : n < prodL d
theorem sel_hd {d : List Int} {a : Int} {l1 l2 l3 l4 : List Int} {ps : List S68} {n : Int} (h : Sel d a l1 l2 l3 l4 ps n) : ∀ x ∈ d, 1 ≤ x ∧ x ≤ 40 := fun x hx => by
 have h0 := h.h0
 have h1 := h.h1
 have h2 := nonzero d (by omega) x hx
 have h3 := h.v.1.2.1 x hx
 omega
section
variable {d : List Int} {a : Int} {l1 l2 l3 l4 : List Int} {ps : List S68} {n : Int}
theorem sel_eq (h : Sel d a l1 l2 l3 l4 ps n) (k : Nat) (hk : 12000000 ≤ k) : spec_IsSelected.f k d a l1 l2 l3 l4 ps (crd d n) = some (decide (n ∈ indL d a l1 l2 l3 l4 ps)) := by
 have hv := h.v
 have hpr := hv.1.2.2
 have h3 := hv.1.1
 have h0 := h.h0
 have h1 := h.h1
 have hin : okIn d (crd d n) := ⟨crd_len d n, fun i hi => by
  rw [crd_len] at hi
  have e := crd_in d h3 (sel_hd h) n h0 (by omega) i hi
  have e2 : 1 ≤ rd d (i : Int) ∧ rd d (i : Int) ≤ 40 := rd_all (sel_hd h) i hi
  rw [cA (by omega) (by omega)]
  omega⟩
 unfold spec_IsSelected.f
 rw [valid_spec d a l1 l2 l3 l4 ps h.l h.q k (by omega), inside_spec d (crd d n) (by rw [crd_len]; omega) k (by omega), ind_spec d a l1 l2 l3 l4 ps hv k (by omega), idxF_spec d (crd d n) h3 (crd_len d n) k (by omega), idx_crd d h3 (sel_hd h) hpr n h0 h1]
 simp only [ob, decide_eq_true hv, decide_eq_true hin, if_true]
 rw [has_spec _ _ (indL_len d a l1 l2 l3 l4 ps hv) k (by omega), has_mem]
 rfl
theorem coords_eq (h : Sel d a l1 l2 l3 l4 ps n) (k : Nat) (hk : 100 ≤ k) : spec_CoordsOf.f k d n = some (crd d n) := by
 have hv := h.v.1
 have hpr := hv.2.2
 have h0 := h.h0
 have h1 := h.h1
 unfold spec_CoordsOf.f
 rw [dims_spec k d (by omega), prod_spec k d (by omega) hv]
 simp only [ob, decide_eq_true hv, if_true]
 rw [in_eq, cA (by omega) (by omega), decide_eq_true (show 0 ≤ n ∧ n ≤ prodL d - 1 by omega), crd_spec d hv.1 (sel_hd h) n k (by omega)]
 rfl
theorem mem_bx (h : Sel d a l1 l2 l3 l4 ps n) : mem (bx d (indL d a l1 l2 l3 l4 ps)) (crd d n) = decide (n ∈ indL d a l1 l2 l3 l4 ps) := by
 have hv := h.v.1
 have hpr := hv.2.2
 have h0 := h.h0
 have h1 := h.h1
 have hi := inr d a l1 l2 l3 l4 ps h.v
 unfold bx
 rw [NF_mem _ _ _ ⟨crd_len d n, fun x hx => by have := crd_mem d hv.1 (sel_hd h) n h0 (by omega) x hx; omega⟩]
 show (mem ((indL d a l1 l2 l3 l4 ps).map (unitB d)) (crd d n) || false) = _
 rw [Bool.or_false, Bool.eq_iff_iff, decide_eq_true_eq]
 unfold mem
 rw [List.any_eq_true]
 constructor
 ·
  rintro ⟨b, hb, hin⟩
  obtain ⟨m, hm, rfl⟩ := List.mem_map.1 hb
  have e := (inBx_unit (crd d m) (crd d n) (by rw [crd_len, crd_len])).1 hin
  have hm2 := hi m hm
  have e2 := idx_crd d hv.1 (sel_hd h) hpr m hm2.1 hm2.2
  rw [← e, idx_crd d hv.1 (sel_hd h) hpr n h0 h1] at e2
  rw [e2]; exact hm
 · intro hn
   exact ⟨unitB d n, List.mem_map.2 ⟨n, hn, rfl⟩, (inBx_unit _ _ rfl).2 rfl⟩
end
theorem sumN_mul (f : Nat → Nat) (n : Nat) : ∀ m, sumN (m * n) f = sumN m (fun i => sumN n (fun j => f (i * n + j)))
 | 0 => by rw [Nat.zero_mul]; rfl
 | m + 1 => by rw [Nat.succ_mul, sumN_add, sumN_mul f n m]; rfl
theorem cnt_dim (r x : Nat) (hx : x ≤ 40) (P : List Int → Bool) (h : ∀ (i : Nat) (p : List Int), x ≤ i → P ((i : Int) :: p) = false) : cntB 40 (r + 1) P = sumN x (fun i => cntB 40 r (fun p => P ((i : Int) :: p))) := by
 obtain ⟨y, hy⟩ : ∃ y, x + y = 40 := ⟨40 - x, by omega⟩
 have e := sumN_add (fun i => cntB 40 r (fun p => P ((i : Int) :: p))) x y
 rw [hy, sumN_zero y (fun i _ => cnt_false 40 r _ (fun p => h _ p (by omega)))] at e
 exact e
theorem count_box (d : List Int) (h3 : d.length ≤ 3) (hd : ∀ x ∈ d, 1 ≤ x ∧ x ≤ 40) (hpr : prodL d ≤ 600) (P : List Int → Bool) (hP : ∀ p, P p = true → ∀ i : Nat, i < d.length → rd p (i : Int) < rd d (i : Int)) : cntB 40 d.length P = sumN (prodL d).toNat (fun n => if P (crd d (n : Int)) = true then 1 else 0) := by
 have hc : ∀ n : Nat, n < (prodL d).toNat → crd d (n : Int) = crdL d (n : Int) := fun n hn => crd_eq d h3 hd n (by omega) (by omega)
 have e0 : sumN (prodL d).toNat (fun n => if P (crd d (n : Int)) = true then 1 else 0) = sumN (prodL d).toNat (fun n => if P (crdL d (n : Int)) = true then 1 else 0) := sumN_congr _ (fun n hn => by rw [hc n hn])
 rw [e0]
 have no : ∀ (i : Nat) (p : List Int) (b : Bool), (b = true → False) → b = false := fun _ _ b h => by cases b <;> simp_all
 clear hc e0 hpr
 match d, h3, hd, hP with
 | [], _, _, _ => exact (Nat.zero_add _).symm
 | [x], _, hd, hP =>
  obtain ⟨X, rfl⟩ : ∃ X : Nat, x = (X : Int) := ⟨x.toNat, by have := hd x (by simp); omega⟩
  have hx := hd (X : Int) (by simp)
  rw [show ([(X : Int)] : List Int).length = 0 + 1 from rfl, cnt_dim 0 X (by omega) P (fun i p hi => no i p _ (fun h => by have := hP _ h 0 (by simp); simp [rd] at this; omega)), show (prodL [(X : Int)]).toNat = X by simp [prodL]]
  refine sumN_congr X (fun i hi => ?_)
  show (if P [(i : Int)] = true then 1 else 0) = if P [(i : Int) % (X : Int)] = true then 1 else 0
  rw [Int.emod_eq_of_lt (by omega) (by omega)]
 | [x, y], _, hd, hP =>
  obtain ⟨X, rfl⟩ : ∃ X : Nat, x = (X : Int) := ⟨x.toNat, by have := hd x (by simp); omega⟩
  obtain ⟨Y, rfl⟩ : ∃ X : Nat, y = (X : Int) := ⟨y.toNat, by have := hd y (by simp); omega⟩
  have hx := hd (X : Int) (by simp)
  have hy := hd (Y : Int) (by simp)
  rw [show ([(X : Int), (Y : Int)] : List Int).length = 1 + 1 from rfl, cnt_dim 1 X (by omega) P (fun i p hi => no i p _ (fun h => by have := hP _ h 0 (by simp); simp [rd] at this; omega)), show (prodL [(X : Int), (Y : Int)]).toNat = X * Y by simp [prodL, ← Int.natCast_mul], sumN_mul]
  refine sumN_congr X (fun i hi => ?_)
  rw [cnt_dim 0 Y (by omega) _ (fun j p hj => no i p _ (fun h => by have := hP _ h 1 (by simp); simp [rd] at this; omega))]
  refine sumN_congr Y (fun j hj => ?_)
  rw [Int.natCast_add, Int.natCast_mul, crdL2 ⟨by omega, by omega⟩ ⟨by omega, by omega⟩]
  rfl
 | [x, y, z], _, hd, hP =>
  obtain ⟨X, rfl⟩ : ∃ X : Nat, x = (X : Int) := ⟨x.toNat, by have := hd x (by simp); omega⟩
  obtain ⟨Y, rfl⟩ : ∃ X : Nat, y = (X : Int) := ⟨y.toNat, by have := hd y (by simp); omega⟩
  obtain ⟨Z, rfl⟩ : ∃ X : Nat, z = (X : Int) := ⟨z.toNat, by have := hd z (by simp); omega⟩
  have hx := hd (X : Int) (by simp)
  have hy := hd (Y : Int) (by simp)
  have hz := hd (Z : Int) (by simp)
  rw [show ([(X : Int), (Y : Int), (Z : Int)] : List Int).length = 2 + 1 from rfl, cnt_dim 2 X (by omega) P (fun i p hi => no i p _ (fun h => by have := hP _ h 0 (by simp); simp [rd] at this; omega)), show (prodL [(X : Int), (Y : Int), (Z : Int)]).toNat = X * Y * Z by simp [prodL, ← Int.natCast_mul], sumN_mul, sumN_mul]
  refine sumN_congr X (fun i hi => ?_)
  rw [cnt_dim 1 Y (by omega) _ (fun j p hj => no i p _ (fun h => by have := hP _ h 1 (by simp); simp [rd] at this; omega))]
  refine sumN_congr Y (fun j hj => ?_)
  rw [cnt_dim 0 Z (by omega) _ (fun k p hk => no i p _ (fun h => by have := hP _ h 2 (by simp); simp [rd] at this; omega))]
  refine sumN_congr Z (fun k hk => ?_)
  rw [Int.natCast_add, Int.natCast_mul, Int.natCast_add, Int.natCast_mul, crdL3 ⟨by omega, by omega⟩ ⟨by omega, by omega⟩ ⟨by omega, by omega⟩]
  rfl
 | _ :: _ :: _ :: _ :: _, h, _, _ => exact absurd h (by simp)
def inC (T : List Int) (n : Nat) : Nat := if (n : Int) ∈ T then 1 else 0
theorem inC_le (T : List Int) : ∀ n, sumN n (inC T) ≤ n
 | 0 => Nat.le_refl _
 | n + 1 => by
  have := inC_le T n
  show sumN n (inC T) + inC T n ≤ n + 1
  have : inC T n ≤ 1 := by unfold inC; split <;> omega
  omega
theorem vol_bx (d : List Int) (a : Int) (l1 l2 l3 l4 : List Int) (ps : List S68) (hv : okV d a l1 l2 l3 l4 ps) (hl : ps.length ≤ 1048576) (hq : ∀ y ∈ ps, QS68 y) : volL (bx d (indL d a l1 l2 l3 l4 ps)) = ((sumN (prodL d).toNat (inC (indL d a l1 l2 l3 l4 ps)) : Nat) : Int) := by
 have hi := inr d a l1 l2 l3 l4 ps hv
 have hpr := hv.1.2.2
 unfold bx
 rw [NF_vol]
 by_cases hz : prodL d = 0
 ·
  rw [hz]
  have e : indL d a l1 l2 l3 l4 ps = [] := by
   cases h : indL d a l1 l2 l3 l4 ps with
   | nil => rfl
   | cons y T => have := hi y (by rw [h]; exact List.mem_cons_self); omega
  have e2 := cnt_false 40 d.length (fun p => or (mem (([] : List Int).map (unitB d)) p) (mem [] p)) (fun p => rfl)
  rw [e, e2]
  rfl
 ·
  have h0 := (pr_le d hv.1.1 hv.1.2.1 d.length (Nat.le_refl _)).1
  rw [pr_all] at h0
  have hd := sel_hd (⟨hv, hl, hq, Int.le_refl 0, by omega⟩ : Sel d a l1 l2 l3 l4 ps 0)
  rw [count_box d hv.1.1 hd hpr]
  ·
   congr 1
   refine sumN_congr _ (fun n hn => ?_)
   have hs : Sel d a l1 l2 l3 l4 ps (n : Int) := ⟨hv, hl, hq, by omega, by omega⟩
   have h2 := mem_bx hs
   unfold bx at h2
   rw [NF_mem _ _ _ ⟨crd_len d n, fun x hx => by have := crd_mem d hv.1.1 hd n (by omega) (by omega) x hx; omega⟩] at h2
   unfold inC
   rw [h2]
   simp only [decide_eq_true_eq]
  ·
   intro p hp i hi2
   have hp : mem ((indL d a l1 l2 l3 l4 ps).map (unitB d)) p = true := by
    have h5 : (mem ((indL d a l1 l2 l3 l4 ps).map (unitB d)) p || false) = true := hp
    rwa [Bool.or_false] at h5
   unfold mem at hp
   rw [List.any_eq_true] at hp
   obtain ⟨b, hb, hin⟩ := hp
   obtain ⟨m, hm, rfl⟩ := List.mem_map.1 hb
   have hlen := inBx_len _ _ _ hin
   have e := (inBx_unit (crd d m) p hlen.symm).1 hin
   have hm2 := hi m hm
   rw [e]
   exact (crd_in d hv.1.1 hd m hm2.1 (by omega) i hi2).2
theorem rd_set_eq (l : List Int) (i : Nat) (v : Int) (h : i < l.length) : rd (l.set i v) (i : Int) = v := by
 rw [rd_lt _ i (by rw [List.length_set]; exact h), List.getElem_set_self]
theorem rd_set_ne (l : List Int) (i j : Nat) (v : Int) (hj : j < l.length) (h : i ≠ j) : rd (l.set i v) (j : Int) = rd l (j : Int) := by
 rw [rd_lt _ j (by rw [List.length_set]; exact hj), List.getElem_set_ne h, rd_lt l j hj]
def Le (R : Nat) (s t : List Int × List Int) : Prop := ∀ j : Nat, j < R → rd t.1 (j : Int) ≤ rd s.1 (j : Int) ∧ rd s.2 (j : Int) ≤ rd t.2 (j : Int)
theorem mn_le (a b : Int) : mn a b ≤ a ∧ mn a b ≤ b := by unfold mn; split <;> omega
theorem mx_le (a b : Int) : a ≤ mx a b ∧ b ≤ mx a b := by unfold mx; split <;> omega
theorem joinJ_le (b : S33) (R : Nat) : ∀ (d j : Nat) (s : List Int × List Int), j + d = R → s.1.length = R → s.2.length = R → Le R s (joinJ b d j s) ∧ ∀ i : Nat, j ≤ i → i < R → rd (joinJ b d j s).1 (i : Int) ≤ rd b.f0 (i : Int) ∧ rd b.f1 (i : Int) ≤ rd (joinJ b d j s).2 (i : Int)
 | 0, j, s, h, _, _ => ⟨fun i hi => ⟨Int.le_refl _, Int.le_refl _⟩, fun i h1 h2 => by omega⟩
 | d + 1, j, s, h, h1, h2 => by
  obtain ⟨g1, g2⟩ := joinJ_le b R d (j + 1) (s.1.set j (mn (rd s.1 (j : Int)) (rd b.f0 (j : Int))), s.2.set j (mx (rd s.2 (j : Int)) (rd b.f1 (j : Int)))) (by omega) (by rw [List.length_set]; exact h1) (by rw [List.length_set]; exact h2)
  have m1 := mn_le (rd s.1 (j : Int)) (rd b.f0 (j : Int))
  have m2 := mx_le (rd s.2 (j : Int)) (rd b.f1 (j : Int))
  have gj := g1 j (by omega)
  rw [rd_set_eq _ _ _ (by omega), rd_set_eq _ _ _ (by omega)] at gj
  unfold joinJ
  refine ⟨fun i hi => ?_, fun i hji hi => ?_⟩
  · by_cases e : j = i
    · subst e; omega
    · have := g1 i hi
      rwa [rd_set_ne _ _ _ _ (by omega) e, rd_set_ne _ _ _ _ (by omega) e] at this
  · by_cases e : j = i
    · subst e; omega
    · exact g2 i (by omega) hi
theorem joinI_le (l : List S33) (R : Nat) : ∀ (d i : Nat) (s : List Int × List Int), i + d = l.length → s.1.length = R → s.2.length = R → Le R s (joinI l R d i s) ∧ ∀ m : Nat, i ≤ m → m < l.length → Le R ((aA l (m : Int)).f0, (aA l (m : Int)).f1) (joinI l R d i s)
 | 0, i, s, h, _, _ => ⟨fun i hi => ⟨Int.le_refl _, Int.le_refl _⟩, fun m h1 h2 => by omega⟩
 | d + 1, i, s, h, h1, h2 => by
  obtain ⟨j1, j2⟩ := joinJ_len (aA l (i : Int)) R 0 s
  obtain ⟨g1, g2⟩ := joinJ_le (aA l (i : Int)) R R 0 s (by omega) h1 h2
  obtain ⟨i1, i2⟩ := joinI_le l R d (i + 1) (joinJ (aA l (i : Int)) R 0 s) (by omega) (by omega) (by omega)
  unfold joinI
  refine ⟨fun j hj => ?_, fun m hm hml => ?_⟩
  · have := g1 j hj; have := i1 j hj; omega
  ·
   by_cases e : i = m
   · subst e
     intro j hj
     have := g2 j (by omega) hj
     have := i1 j hj
     show _ ≤ rd (aA l (i : Int)).f0 _ ∧ rd (aA l (i : Int)).f1 _ ≤ _
     omega
   · exact i2 m (by omega) hml
theorem inBx_iff : ∀ (r : Nat) (a b p : List Int), a.length = r → b.length = r → p.length = r → (inBx a b p = true ↔ ∀ i : Nat, i < r → rd a (i : Int) ≤ rd p (i : Int) ∧ rd p (i : Int) < rd b (i : Int))
 | 0, a, b, p, h1, h2, h3 => by
  rw [List.length_eq_zero_iff.1 h1, List.length_eq_zero_iff.1 h2, List.length_eq_zero_iff.1 h3]
  exact ⟨fun _ i hi => by omega, fun _ => rfl⟩
 | r + 1, a :: ah, b :: bs, x :: qs, h1, h2, h3 => by
  have ih := inBx_iff r ah bs qs (by simpa using h1) (by simpa using h2) (by simpa using h3)
  show ((decide (a ≤ x) && decide (x < b)) && inBx ah bs qs) = true ↔ _
  rw [Bool.and_eq_true, Bool.and_eq_true, decide_eq_true_eq, decide_eq_true_eq, ih]
  constructor
  · rintro ⟨h1, h2⟩ i hi
    cases i with
    | zero => exact h1
    | succ i => rw [rd_consS, rd_consS, rd_consS]; exact h2 i (by omega)
  · intro h1
    refine ⟨h1 0 (by omega), fun i hi => ?_⟩
    have := h1 (i + 1) (by omega)
    rwa [rd_consS, rd_consS, rd_consS] at this
 | r + 1, [], _, _, h, _, _ => by simp at h
 | r + 1, _ :: _, [], _, _, h, _ => by simp at h
 | r + 1, _ :: _, _ :: _, [], _, _, h => by simp at h
theorem bounds_ok (r : Nat) (hr : r ≤ 3) (l : List S33) (hv : VL r l) (hok : okL l) : ∃ lo hi : List Int, (∀ p, p.length = r → mem l p = true → (lo.length = r ∧ hi.length = r) ∧ inBx lo hi p = true) ∧ ∀ k, 1048700 ≤ k → aW.f k l = some (lo, hi, decide (l ≠ [])) := by
 have hl := hok.2
 have e : (decide (∀ i, i < l.length → okB l i) && decide ((l.length : Int) ≤ 32)) = true := by rw [decide_eq_true hok.1, decide_eq_true hok.2]; rfl
 have hb : ∀ i, i < l.length → (aA l (i : Int)).f0.length = r ∧ (aA l (i : Int)).f1.length = r := fun i hi => by
  have h1 := hv _ (List.getElem_mem hi)
  rw [← rd_at l i hi] at h1
  exact ⟨h1.1, h1.2.1⟩
 by_cases h0 : l.length = 0
 ·
  have h0' : l = [] := List.length_eq_zero_iff.1 h0
  refine ⟨[], [], fun p _ hm => (by rw [h0'] at hm; cases hm), fun k hk => ?_⟩
  obtain ⟨k, rfl⟩ := sk k
  unfold aW.f
  rw [list_impl l (by omega) (k + 1) (by omega), e, show ((l.length : Int) == 0) = true from beq_iff_eq.mpr (by omega), decide_eq_false (show ¬ l ≠ [] from fun h => h h0')]
  rfl
 ·
  obtain ⟨b0, b1⟩ := hb 0 (by omega)
  obtain ⟨j1, j2⟩ := joinI_len l r l.length 0 ((aA l ((0 : Nat) : Int)).f0, (aA l ((0 : Nat) : Int)).f1)
  have hle := (joinI_le l r l.length 0 ((aA l ((0 : Nat) : Int)).f0, (aA l ((0 : Nat) : Int)).f1) (by omega) b0 b1).2
  refine ⟨_, _, fun p hp hm => ⟨⟨j1.trans b0, j2.trans b1⟩, ?_⟩, fun k hk => ?_⟩
  ·
   unfold mem at hm
   rw [List.any_eq_true] at hm
   obtain ⟨b, hbm, hin⟩ := hm
   obtain ⟨i, hi, rfl⟩ := List.mem_iff_getElem.1 hbm
   rw [← rd_at l i hi] at hin
   have h2 := (inBx_iff r _ _ p (hb i hi).1 (hb i hi).2 hp).1 hin
   refine (inBx_iff r _ _ p (j1.trans b0) (j2.trans b1) hp).2 (fun j hj => ?_)
   have h3 := h2 j hj
   have h4 : rd _ (j : Int) ≤ rd (aA l (i : Int)).f0 (j : Int) ∧ rd (aA l (i : Int)).f1 (j : Int) ≤ rd _ (j : Int) := hle i (by omega) hi j hj
   omega
  ·
   obtain ⟨k, rfl⟩ := sk k
   unfold aW.f
   rw [list_impl l (by omega) (k + 1) (by omega), e, show ((l.length : Int) == 0) = false from beq_eq_false_iff_ne.mpr (by omega), decide_eq_true (show l ≠ [] from fun h => h0 (by rw [h]; rfl))]
   simp only [ob, if_true]
   rw [aW.j0, if_neg (by decide), ip, show (0 : Int) = ((0 : Nat) : Int) from rfl, clone_eq _ (by omega), clone_eq _ (by omega)]
   simp only [ob]
   exact implI l (by omega) _ hr hb l.length 0 k _ _ (by omega) (by omega) b0 b1
theorem law_loop (d : List Int) (a : Int) (l1 l2 l3 l4 : List Int) (ps : List S68) (hv : okV d a l1 l2 l3 l4 ps) (hl : ps.length ≤ 1048576) (hq : ∀ y ∈ ps, QS68 y) (h32 : (bx d (indL d a l1 l2 l3 l4 ps)).length ≤ 32) (lo hi : List Int) (ok : Bool)
 (hb : ∀ p, p.length = d.length → mem (bx d (indL d a l1 l2 l3 l4 ps)) p = true → (lo.length = d.length ∧ hi.length = d.length) ∧ inBx lo hi p = true)
 (hok : ok = decide (((sumN (prodL d).toNat (inC (indL d a l1 l2 l3 l4 ps)) : Nat) : Int) > 0)) : ∀ (m n k : Nat), n + m = (prodL d).toNat → 12000010 + 3 * m ≤ k →
 bD.l0 k d (bx d (indL d a l1 l2 l3 l4 ps)) ((sumN n (inC (indL d a l1 l2 l3 l4 ps)) : Nat) : Int) ok (n : Int) a l1 l2 l3 l4 ps lo hi = some true := by
 have h0 := (pr_le d hv.1.1 hv.1.2.1 d.length (Nat.le_refl _)).1
 rw [pr_all] at h0
 have hpr := hv.1.2.2
 have hel : ∀ k, 100 ≤ k → spec_ElementsOf.f k d = some (prodL d) := fun k hk => by
  unfold spec_ElementsOf.f
  rw [dims_spec k d (by omega), prod_spec k d (by omega) hv.1]
  simp only [ob, decide_eq_true hv.1, if_true]
 have hV : VL d.length (bx d (indL d a l1 l2 l3 l4 ps)) := NF_VL _ _
 have hK : okL (bx d (indL d a l1 l2 l3 l4 ps)) := ok_NF _ hv.1.1 _ h32
 intro m
 induction m with
 | zero =>
  intro n k hn hk
  obtain ⟨k, rfl⟩ := sk k
  obtain rfl : n = (prodL d).toNat := by omega
  rw [bD.l0, hel k (by omega)]
  simp only [ob]
  rw [im, size_list hv.1.1 _ hV h32 k (by omega), vol_bx d a l1 l2 l3 l4 ps hv hl hq]
  simp only [ob, if_true]
  rw [hok, beq_self_eq_true]
 | succ m ih =>
  intro n k hn hk
  obtain ⟨k, rfl⟩ : ∃ z, k = z + 2 := ⟨k - 2, by omega⟩
  have hs : Sel d a l1 l2 l3 l4 ps (n : Int) := ⟨hv, hl, hq, by omega, by omega⟩
  have hc := crd_len d (n : Int)
  have hsum := inC_le (indL d a l1 l2 l3 l4 ps) n
  have ih' := ih (n + 1) k (by omega) (by omega)
  rw [bD.l0, hel (k + 1) (by omega)]
  simp only [ob]
  rw [ip, coords_eq hs (k + 1) (by omega)]
  simp only [ob]
  rw [sel_eq hs (k + 1) (by omega), inboxes_eq _ d.length hv.1.1 hV hK _ hc (k + 1) (by omega), mem_bx hs]
  simp only [ob, bne_self_eq_false, Bool.false_eq_true, if_false]
  by_cases hin : (n : Int) ∈ indL d a l1 l2 l3 l4 ps
  ·
   obtain ⟨⟨g1, g2⟩, g3⟩ := hb (crd d (n : Int)) hc (by rw [mem_bx hs, decide_eq_true hin])
   have g4 : mem [(⟨lo, hi⟩ : S33)] (crd d (n : Int)) = true := by
    show (inBx lo hi _ || false) = true
    rw [g3]; rfl
   rw [decide_eq_true hin, if_pos rfl, d8in_eq [(⟨lo, hi⟩ : S33)] _ d.length hv.1.1 (fun b hb2 => by rw [List.mem_singleton.1 hb2]; exact ⟨g1, g2⟩) (by simp) hc (k + 1) (by simp; omega), g4]
   simp only [ob, Bool.not_true]
   rw [bD.j1, if_neg (by decide), if_pos rfl, cF n (by omega), cF _ (by omega)]
   rw [show sumN (n + 1) (inC (indL d a l1 l2 l3 l4 ps)) = sumN n (inC (indL d a l1 l2 l3 l4 ps)) + 1 by show _ + inC _ n = _; unfold inC; rw [if_pos hin]] at ih'
   exact ih'
  · rw [decide_eq_false hin, if_neg (by decide), bD.j1, if_neg (by decide), if_neg (by decide), cF n (by omega)]
    rw [show sumN (n + 1) (inC (indL d a l1 l2 l3 l4 ps)) = sumN n (inC (indL d a l1 l2 l3 l4 ps)) by show _ + inC _ n = _; unfold inC; rw [if_neg hin, Nat.add_zero]] at ih'
    exact ih'
theorem full_or (d : List Int) (a : Int) (l1 l2 l3 l4 : List Int) (ps : List S68) (hv : okV d a l1 l2 l3 l4 ps) (hl : ps.length ≤ 1048576) (hq : ∀ y ∈ ps, QS68 y) : decide (bx d (indL d a l1 l2 l3 l4 ps) ≠ []) = decide (((sumN (prodL d).toNat (inC (indL d a l1 l2 l3 l4 ps)) : Nat) : Int) > 0) := by
 rw [← vol_bx d a l1 l2 l3 l4 ps hv hl hq, decide_eq_decide]
 have hV := NF_VL d.length fun p => or (mem ((indL d a l1 l2 l3 l4 ps).map (unitB d)) p) (mem [] p)
 show bx _ _ ≠ [] ↔ _
 change VL d.length (bx _ _) at hV
 generalize bx d (indL d a l1 l2 l3 l4 ps) = l at hV
 constructor
 ·
  intro hne
  match l, hV, hne with
  | b :: l, hV, _ =>
   have h1 := vol_pos _ b (hV b List.mem_cons_self)
   have h2 := volL_nonneg _ l (fun x hx => hV x (List.mem_cons_of_mem _ hx))
   show volB b.f0 b.f1 + volL l > 0
   omega
  | [], _, h => exact absurd rfl h
 · intro h1 h2
   rw [h2] at h1
   exact absurd h1 (by decide)
theorem vals (d : List Int) (a : Int) (l1 l2 l3 l4 : List Int) (ps : List S68) (hp : ps.length ≤ 1048576) (hq : ∀ y ∈ ps, QS68 y) (k : Nat) (hk : 17000000 ≤ k) :
 spec_BoxesOf.f k d a l1 l2 l3 l4 ps = some (if okV d a l1 l2 l3 l4 ps then cap (bx d (indL d a l1 l2 l3 l4 ps)) else ([], 1)) ∧ cL.f k d a l1 l2 l3 l4 ps = some (if okV d a l1 l2 l3 l4 ps then cap (bx d (indL d a l1 l2 l3 l4 ps)) else ([], 1)) := by
 unfold spec_BoxesOf.f cL.f
 rw [valid_spec d a l1 l2 l3 l4 ps hp hq k (by omega), valid_impl d a l1 l2 l3 l4 ps hp hq k (by omega)]
 by_cases hv : okV d a l1 l2 l3 l4 ps
 ·
  obtain ⟨hi, hd⟩ := inds d a l1 l2 l3 l4 ps hv
  rw [decide_eq_true hv, if_pos hv]
  simp only [ob, if_true]
  refine ⟨?_, ?_⟩
  · rw [of_spec d a l1 l2 l3 l4 ps hv k hk]
    simp only [ob]
    unfold cap
    split
    · rw [im]
    · rw [ip]
  · rw [ind_impl d a l1 l2 l3 l4 ps hv k (by omega)]
    simp only [ob]
    exact boxes_impl d hv.1.1 _ hd hi k (by omega)
 · rw [decide_eq_false hv, if_neg hv]
   exact ⟨rfl, rfl⟩
def Dr (l : List Int) : Prop := ∀ x ∈ l, 0 ≤ x ∧ x ≤ 8
theorem dr_VD {l : List Int} (h : Dr l) (h3 : l.length ≤ 3) : VD l := by
 refine ⟨h3, fun x hx => by have := h x hx; omega, ?_⟩
 match l, h3, h with
 | [], _, _ => decide
 | [x], _, h =>
  have hx := h x (by simp)
  simp only [prodL, List.foldl_cons, List.foldl_nil, Int.one_mul]; omega
 | [x, y], _, h =>
  have hx := h x (by simp)
  have hy := h y (by simp)
  have h1 := mul_le hx.1 hy.1 hx.2 hy.2
  simp only [prodL, List.foldl_cons, List.foldl_nil, Int.one_mul]; omega
 | [x, y, z], _, h =>
  have hx := h x (by simp)
  have hy := h y (by simp)
  have hz := h z (by simp)
  have h1 := mul_le hx.1 hy.1 hx.2 hy.2
  have h2 := mul_le h1.1 hz.1 h1.2 hz.2
  simp only [prodL, List.foldl_cons, List.foldl_nil, Int.one_mul]; omega
 | _ :: _ :: _ :: _ :: _, h, _ => exact absurd h (by simp)
theorem dr_snoc {l : List Int} (h : Dr l) {x : Int} (hx : 0 ≤ x ∧ x ≤ 8) : Dr (l ++ [x]) := fun y hy => by
 rcases List.mem_append.1 hy with hy | hy
 · exact h y hy
 · rw [List.mem_singleton.1 hy]; exact hx
theorem draw_loop {c : List Int} (hc : Code c) : ∀ (d : Nat) (p s : Int) (l : List Int), Dr l → l.length + d ≤ 3 → 0 ≤ p → p + 10 * d ≤ 9000000 →
 ∃ l' q t, VD l' ∧ (p ≤ q ∧ q ≤ p + 10 * d + 10) ∧ ∀ k, d < k → spec_l05Draw.l0 k (d : Int) l c p s = some (l', q, t) := by
 intro d
 induction d with
 | zero =>
  intro p s l hl hm h0 h1
  by_cases h : (l.length : Int) = 1
  ·
   obtain ⟨b, q, t, hq, e⟩ := one_ok hc p s 6 h0 (by omega)
   cases b
   · refine ⟨l, q, t, dr_VD hl (by omega), by omega, fun k hk => ?_⟩
     obtain ⟨k, rfl⟩ := sk k
     rw [spec_l05Draw.l0, im, if_pos h, e]
     simp only [ob, Bool.false_eq_true, if_false]
   ·
    obtain ⟨i, q2, t2, hi, hq2, e2⟩ := among_ok hc q t [40, 39, 17] (by simp) (by omega) (by omega)
    have hb : VD [rd [40, 39, 17] (i : Int)] := by
     have hi' : i < 3 := hi
     rcases (show i = 0 ∨ i = 1 ∨ i = 2 by omega) with rfl | rfl | rfl <;> decide
    refine ⟨_, q2, t2, hb, by omega, fun k hk => ?_⟩
    obtain ⟨k, rfl⟩ := sk k
    obtain ⟨x, rfl⟩ := List.length_eq_one_iff.1 (show l.length = 1 by omega)
    rw [spec_l05Draw.l0, im, if_pos h, e]
    simp only [ob, if_true]
    rw [e2]
    simp only [ob]
    rw [ip]
    rfl
  · refine ⟨l, p, s, dr_VD hl (by omega), by omega, fun k hk => ?_⟩
    obtain ⟨k, rfl⟩ := sk k
    rw [spec_l05Draw.l0, im, if_neg h]
 | succ d ih =>
  intro p s l hl hm h0 h1
  obtain ⟨r, q, t, hr, hq, e⟩ := pick_ok hc p s 6 h0 (by omega)
  obtain ⟨b, q2, t2, hq2, e2⟩ := one_ok hc q t 8 (by omega) (by omega)
  have hw : wrap64 (((d + 1 : Nat) : Int) - 1) = (d : Int) := by unfold wrap64; omega
  cases b
  ·
   have hx : wrap64 (1 + r) = 1 + r := by unfold wrap64; omega
   obtain ⟨l', q3, t3, h3, hq3, e3⟩ := ih q2 t2 (l ++ [1 + r]) (dr_snoc hl (by omega)) (by simp; omega) (by omega) (by omega)
   refine ⟨l', q3, t3, h3, by omega, fun k hk => ?_⟩
   obtain ⟨k, rfl⟩ := sk k
   rw [spec_l05Draw.l0, ip, e]
   simp only [ob]
   rw [e2]
   simp only [ob, Bool.false_eq_true, if_false]
   rw [ip, hw, hx]
   exact e3 k (by omega)
  ·
   obtain ⟨r3, q3, t3, hr3, hq3, e3⟩ := pick_ok hc q2 t2 9 (by omega) (by omega)
   obtain ⟨l', q4, t4, h4, hq4, e4⟩ := ih q3 t3 (l ++ [r3]) (dr_snoc hl (by omega)) (by simp; omega) (by omega) (by omega)
   refine ⟨l', q4, t4, h4, by omega, fun k hk => ?_⟩
   obtain ⟨k, rfl⟩ := sk k
   rw [spec_l05Draw.l0, ip, e]
   simp only [ob]
   rw [e2]
   simp only [ob, if_true]
   rw [e3]
   simp only [ob]
   rw [ip, hw]
   exact e4 k (by omega)
theorem dims_ok {c : List Int} (hc : Code c) (p s : Int) (h0 : 0 ≤ p) (h1 : p ≤ 1000) :
 ∃ l q t, VD l ∧ (p ≤ q ∧ q ≤ p + 100) ∧ ∀ k, 10 < k → spec_l05DrawDims.f k c p s = some (l, q, t) := by
 obtain ⟨i, q, t, hi, hq, e⟩ := among_ok hc p s [1, 1, 2, 2, 2, 3, 3, 0] (by simp) (by omega) (by omega)
 have hi' : i < 8 := hi
 obtain ⟨n, hn, en⟩ : ∃ n : Nat, n ≤ 3 ∧ rd [1, 1, 2, 2, 2, 3, 3, 0] (i : Int) = (n : Int) := by
  rcases (show i = 0 ∨ i = 1 ∨ i = 2 ∨ i = 3 ∨ i = 4 ∨ i = 5 ∨ i = 6 ∨ i = 7 by omega) with rfl | rfl | rfl | rfl | rfl | rfl | rfl | rfl
  · exact ⟨1, by omega, by decide⟩
  · exact ⟨1, by omega, by decide⟩
  · exact ⟨2, by omega, by decide⟩
  · exact ⟨2, by omega, by decide⟩
  · exact ⟨2, by omega, by decide⟩
  · exact ⟨3, by omega, by decide⟩
  · exact ⟨3, by omega, by decide⟩
  · exact ⟨0, by omega, by decide⟩
 obtain ⟨l, q2, t2, hl, hq2, e2⟩ := draw_loop hc n q t [] (by intro x hx; cases hx) (by simp; omega) (by omega) (by omega)
 refine ⟨l, q2, t2, hl, by omega, fun k hk => ?_⟩
 unfold spec_l05DrawDims.f spec_l05Draw.f
 rw [e]
 simp only [ob]
 rw [en, e2 k (by omega)]
 rfl
theorem dpt_loop {c : List Int} (hc : Code c) (d : List Int) (h3 : d.length ≤ 3) (e a : Int) (ps : List S68) (hps : ps.length ≤ 1000) : ∀ (m i : Nat) (p s : Int) (x : List Int), i + m = d.length → x.length = i → 0 ≤ p → p + 10 * m ≤ 9000000 →
 ∃ x' q t, x'.length = d.length ∧ (p ≤ q ∧ q ≤ p + 10 * m) ∧ ∀ k, bY.l1 (k + m + 1) d e x (i : Int) c p s a ps = bY.l0 k d (wrap64 (e - 1)) c q t a (ps ++ [⟨x'⟩]) := by
 intro m
 induction m with
 | zero =>
  intro i p s x hi hx h0 h1
  refine ⟨x, p, s, by omega, by omega, fun k => ?_⟩
  rw [bY.l1, im, ip]
 | succ m ih =>
  intro i p s x hi hx h0 h1
  obtain ⟨r, q, t, hr, hq, e1⟩ := pick_ok hc p s (rd d (i : Int)) h0 (by omega)
  obtain ⟨x', q2, t2, hx2, hq2, e2⟩ := ih (i + 1) q t (x ++ [r]) (by omega) (by simp; omega) (by omega) (by omega)
  refine ⟨x', q2, t2, hx2, by omega, fun k => ?_⟩
  rw [show k + (m + 1) + 1 = (k + m + 1) + 1 by omega, bY.l1, ip, ip, e1]
  simp only [ob]
  rw [ip, cF i (by omega), e2 k]
theorem dpts_loop {c : List Int} (hc : Code c) (d : List Int) (h3 : d.length ≤ 3) (a : Int) : ∀ (e : Nat) (p s : Int) (ps : List S68), ps.length + e ≤ 1000 → (∀ y ∈ ps, QS68 y) → 0 ≤ p → p + 100 * e ≤ 8000000 →
 ∃ ps' q t, (ps'.length ≤ 1000 ∧ ∀ y ∈ ps', QS68 y) ∧ ∀ k, 10 * e < k → bY.l0 k d ((e : Int) - 1) c p s a ps = some (a, [], [], [], [], ps', q, t) := by
 intro e
 induction e with
 | zero =>
  intro p s ps hl hq h0 h1
  refine ⟨ps, p, s, ⟨by omega, hq⟩, fun k hk => ?_⟩
  obtain ⟨k, rfl⟩ := sk k
  rw [bY.l0, im]
 | succ e ih =>
  intro p s ps hl hq h0 h1
  obtain ⟨x, q, t, hx, hq1, e1⟩ := dpt_loop hc d h3 (((e + 1 : Nat) : Int) - 1) a ps (by omega) d.length 0 p s [] (by omega) rfl h0 (by omega)
  obtain ⟨ps', q2, t2, hp, e2⟩ := ih q t (ps ++ [⟨x⟩]) (by simp; omega) (fun y hy => by
   rcases List.mem_append.1 hy with hy | hy
   · exact hq y hy
   · rw [List.mem_singleton.1 hy]; show (x.length : Int) ≤ 1048576; omega) (by omega) (by omega)
  refine ⟨ps', q2, t2, hp, fun k hk => ?_⟩
  obtain ⟨k, rfl⟩ : ∃ z, k = z + d.length + 1 + 1 := ⟨k - d.length - 2, by omega⟩
  rw [bY.l0, ip, show (0 : Int) = ((0 : Nat) : Int) from rfl, e1 k, show wrap64 (((e + 1 : Nat) : Int) - 1 - 1) = (e : Int) - 1 by unfold wrap64; omega]
  exact e2 k (by omega)
theorem slabd_loop {c : List Int} (hc : Code c) (d : List Int) (h3 : d.length ≤ 3) (a : Int) : ∀ (m i : Nat) (p s : Int) (x1 x2 x3 x4 : List Int), i + m = d.length → x1.length = i → x2.length = i → x3.length = i → x4.length = i → 0 ≤ p → p + 10 * m ≤ 9000000 →
 ∃ y1 y2 y3 y4 q t, ∀ k, m < k → cC.l0 k d (i : Int) c p s a x1 x2 x3 x4 = some (a, y1, y2, y3, y4, [], q, t) := by
 intro m
 induction m with
 | zero =>
  intro i p s x1 x2 x3 x4 hi g1 g2 g3 g4 h0 h1
  refine ⟨x1, x2, x3, x4, p, s, fun k hk => ?_⟩
  obtain ⟨k, rfl⟩ := sk k
  rw [cC.l0, im]
 | succ m ih =>
  intro i p s x1 x2 x3 x4 hi g1 g2 g3 g4 h0 h1
  obtain ⟨r1, q1, t1, hr1, hq1, e1⟩ := pick_ok hc p s (rd d (i : Int)) h0 (by omega)
  obtain ⟨v, hv, e0⟩ : ∃ v, v ≤ 3 ∧ spec_l00Min.f (wrap64 (rd d (i : Int) - r1)) 3 = some v := by
   unfold spec_l00Min.f
   by_cases h : wrap64 (rd d (i : Int) - r1) < 3
   · rw [if_pos h]; exact ⟨_, by omega, rfl⟩
   · rw [if_neg h]; exact ⟨_, by omega, rfl⟩
  obtain ⟨r2, q2, t2, hr2, hq2, e2⟩ := pick_ok hc q1 t1 v (by omega) (by omega)
  obtain ⟨r3, q3, t3, hr3, hq3, e3⟩ := pick_ok hc q2 t2 3 (by omega) (by omega)
  obtain ⟨r4, q4, t4, hr4, hq4, e4⟩ := pick_ok hc q3 t3 (wrap64 ((wrap64 (Int.tdiv (wrap64 ((wrap64 ((rd d (i : Int)) - r1)) - (wrap64 (1 + r2)))) (wrap64 ((wrap64 (1 + r2)) + r3)))) + 1)) (by omega) (by omega)
  obtain ⟨y1, y2, y3, y4, q, t, e5⟩ := ih (i + 1) q4 t4 (x1 ++ [r1]) (x2 ++ [wrap64 ((wrap64 (1 + r2)) + r3)]) (x3 ++ [wrap64 (1 + r4)]) (x4 ++ [wrap64 (1 + r2)]) (by omega) (by simp; omega) (by simp; omega) (by simp; omega) (by simp; omega) (by omega) (by omega)
  refine ⟨y1, y2, y3, y4, q, t, fun k hk => ?_⟩
  obtain ⟨k, rfl⟩ := sk k
  have hw : ¬ wrap64 ((wrap64 (1 + r2)) + r3) = 0 := by unfold wrap64; omega
  rw [cC.l0, ip, ip, e1]
  simp only [ob]
  rw [e0]
  simp only [ob]
  rw [e2]
  simp only [ob]
  rw [e3]
  simp only [ob]
  rw [if_neg hw, ip, ip, ip, e4]
  simp only [ob]
  rw [ip, cF i (by omega)]
  exact e5 k (by omega)
theorem draw_ok {c : List Int} (hc : Code c) (d : List Int) (hd : VD d) (p s : Int) (h0 : 0 ≤ p) (h1 : p ≤ 1000000) :
 ∃ a l1 l2 l3 l4 ps q t, (ps.length ≤ 1000 ∧ ∀ y ∈ ps, QS68 y) ∧ ∀ k, 1000 < k → bY.f k c p s d = some (a, l1, l2, l3, l4, ps, q, t) := by
 have nil : ([] : List S68).length ≤ 1000 ∧ ∀ y ∈ ([] : List S68), QS68 y := ⟨by simp, fun y hy => by cases hy⟩
 unfold bY.f
 by_cases hz : prodL d = 0
 ·
  obtain ⟨r, q, t, hr, hq, e⟩ := pick_ok hc p s 2 h0 (by omega)
  refine ⟨wrap64 (1 + r), [], [], [], [], [], q, t, nil, fun k hk => ?_⟩
  rw [prod_spec k d (by omega) hd]
  simp only [ob]
  rw [if_pos hz, e]
  rfl
 ·
  obtain ⟨r, q, t, hr, hq, e⟩ := pick_ok hc p s 8 h0 (by omega)
  by_cases r0 : r = 0
  · refine ⟨1, [], [], [], [], [], q, t, nil, fun k hk => ?_⟩
    rw [prod_spec k d (by omega) hd]
    simp only [ob]
    rw [if_neg hz, e]
    simp only [ob]
    rw [if_pos r0]
  by_cases r1 : r = 1
  · refine ⟨2, [], [], [], [], [], q, t, nil, fun k hk => ?_⟩
    rw [prod_spec k d (by omega) hd]
    simp only [ob]
    rw [if_neg hz, e]
    simp only [ob]
    rw [if_neg r0, if_pos r1]
  have hj : ∀ b : Bool, ∃ a l1 l2 l3 l4 ps q2 t2, (ps.length ≤ 1000 ∧ ∀ y ∈ ps, QS68 y) ∧ ∀ k, 1000 < k → bY.j0 k d b c q t = some (a, l1, l2, l3, l4, ps, q2, t2) := by
   intro b
   cases b
   · obtain ⟨y1, y2, y3, y4, q2, t2, e2⟩ := slabd_loop hc d hd.1 3 d.length 0 q t [] [] [] [] (by omega) rfl rfl rfl rfl (by omega) (by have := hd.1; omega)
     refine ⟨3, y1, y2, y3, y4, [], q2, t2, nil, fun k hk => ?_⟩
     obtain ⟨k, rfl⟩ := sk k
     rw [bY.j0, if_neg (by decide)]
     unfold cC.f
     rw [show cC.l0 k d 0 c q t 3 [] [] [] [] = _ from e2 k (by have := hd.1; omega)]
     rfl
   ·
    obtain ⟨r2, q2, t2, hr2, hq2, e2⟩ := pick_ok hc q t 6 (by omega) (by omega)
    obtain ⟨ps, q3, t3, hp, e3⟩ := dpts_loop hc d hd.1 4 (r2.toNat + 1) q2 t2 [] (by simp; omega) (fun y hy => by cases hy) (by omega) (by omega)
    refine ⟨4, [], [], [], [], ps, q3, t3, hp, fun k hk => ?_⟩
    obtain ⟨k, rfl⟩ := sk k
    rw [bY.j0, if_pos rfl, e2]
    simp only [ob]
    rw [show r2 = ((r2.toNat + 1 : Nat) : Int) - 1 by omega]
    exact e3 k (by omega)
  obtain ⟨a, l1, l2, l3, l4, ps, q2, t2, hp, e2⟩ := hj (if r = 2 then r == 2 else r == 3)
  refine ⟨a, l1, l2, l3, l4, ps, q2, t2, hp, fun k hk => ?_⟩
  rw [prod_spec k d (by omega) hd]
  simp only [ob]
  rw [if_neg hz, e]
  simp only [ob]
  rw [if_neg r0, if_neg r1]
  have e3 := e2 k hk
  by_cases r2 : r = 2
  · rw [if_pos r2] at e3 ⊢; exact e3
  · rw [if_neg r2] at e3 ⊢; exact e3
theorem e8_ok {c : List Int} (hc : Code c) : ∃ d a l1 l2 l3 l4 ps, (ps.length ≤ 1000 ∧ ∀ y ∈ ps, QS68 y) ∧ ∀ k, 1000 < k → spec_E8Selection.f k c = some (d, a, l1, l2, l3, l4, ps) := by
 obtain ⟨d, q, t, hd, hq, e1⟩ := dims_ok hc 0 0 (by omega) (by omega)
 obtain ⟨a, l1, l2, l3, l4, ps, q2, t2, hp, e2⟩ := draw_ok hc d hd q t (by omega) (by omega)
 refine ⟨d, a, l1, l2, l3, l4, ps, hp, fun k hk => ?_⟩
 unfold spec_E8Selection.f spec_l00From.f
 simp only [ob]
 rw [e1 k (by omega)]
 simp only [ob]
 rw [e2 k hk]
 rfl
theorem law_all {c : List Int} (hc : Code c) (k : Nat) (hk : 20000000 ≤ k) : bD.f k c = some true := by
 obtain ⟨d, a, l1, l2, l3, l4, ps, ⟨hps, hq⟩, e1⟩ := e8_ok hc
 by_cases hlong : (c.length : Int) > 1048576
 · unfold bD.f; rw [if_pos hlong]
 obtain ⟨v1, v2⟩ := vals d a l1 l2 l3 l4 ps (by omega) hq k (by omega)
 unfold bD.f
 rw [if_neg hlong, e1 _ (by omega)]
 simp only [ob]
 rw [v1, v2]
 simp only [ob]
 by_cases hv : okV d a l1 l2 l3 l4 ps
 ·
  rw [if_pos hv]
  by_cases h32 : (bx d (indL d a l1 l2 l3 l4 ps)).length ≤ 32
  · have e : cap (bx d (indL d a l1 l2 l3 l4 ps)) = (bx d (indL d a l1 l2 l3 l4 ps), 0) := if_pos h32
    obtain ⟨lo, hi, hb, e2⟩ := bounds_ok d.length hv.1.1 (bx d (indL d a l1 l2 l3 l4 ps)) (NF_VL _ _) (ok_NF _ hv.1.1 _ h32)
    rw [e, if_pos rfl, e2 _ (by omega)]
    simp only [ob]
    exact law_loop d a l1 l2 l3 l4 ps hv (by omega) hq h32 lo hi _ hb (full_or d a l1 l2 l3 l4 ps hv (by omega) hq) (prodL d).toNat 0 k (by omega) (by have := hv.1.2.2; omega)
  · have e : cap (bx d (indL d a l1 l2 l3 l4 ps)) = ([], 5) := if_neg h32
    rw [e, if_neg (by decide), beq_self_eq_true]
 · rw [if_neg hv, if_neg (by decide), beq_self_eq_true]
theorem FnSelectedBoxes : bD.Pure := by
 rintro c ⟨-, hw⟩
 exact ⟨20000000, law_all (code_wf hw) _ (Nat.le_refl _)⟩

end Go.Proofs.Ytkkdkeogplgkfaa.Pure
