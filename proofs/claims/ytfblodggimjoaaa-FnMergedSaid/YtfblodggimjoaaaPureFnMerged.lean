/- The plain form of FnMerged: for all arguments the answer is true. It holds without a condition. -/
import Derived.Test.YtfblodggimjoaaaPFnMergedx6
import Derived.OpenShut
namespace Go.Proofs.Ytfblodggimjoaaa.Pure
open Go Go.RowKit Go.Proofs.Ytfblodggimjoaaa.PFnMerged Go.Proofs.YtfblodggimjoaaaW.PrintWords Go.Proofs.YtfblodggimjoaaaW.PrintLast Go.Proofs.YtfblodggimjoaaaW.PrintMore
set_option linter.unusedVariables false
set_option linter.unusedSimpArgs false

theorem wf64 {a : Int} (h : (Lit.int .i64 a).wf = true) : -9223372036854775808 ≤ a ∧ a ≤ 9223372036854775807 := Go.bounds_i64 h
theorem wrap64_id {a : Int} (h : -9223372036854775808 ≤ a) (h' : a ≤ 9223372036854775807) : wrap64 a = a := by unfold wrap64; omega
theorem count_loop {σ ρ : Type} (L : Nat → σ → Int → Option ρ) (n m : Nat) (I : Nat → σ → Prop) (R : ρ → Prop)
 (hstop : ∀ k s, m ≤ k → I n s → ∃ r, L (k + 1) s (n : Int) = some r ∧ R r)
 (hstep : ∀ k s (i : Nat), m ≤ k → i < n → I i s → (∃ s', I (i + 1) s' ∧ L (k + 1) s (i : Int) = L k s' ((i + 1 : Nat) : Int)) ∨ ∃ r, L (k + 1) s (i : Int) = some r ∧ R r)
 (k : Nat) (s : σ) (i : Nat) (hi : i ≤ n) (hk : n - i + m < k) (h : I i s) : ∃ r, L k s (i : Int) = some r ∧ R r := by
 obtain ⟨d, hd⟩ : ∃ d, d = n - i := ⟨_, rfl⟩
 induction d generalizing k s i with
 | zero =>
  obtain ⟨k, rfl⟩ : ∃ z, k = z + 1 := ⟨k - 1, by omega⟩
  obtain rfl : i = n := by omega
  exact hstop k s (by omega) h
 | succ d ih =>
  obtain ⟨k, rfl⟩ : ∃ z, k = z + 1 := ⟨k - 1, by omega⟩
  rcases hstep k s i (by omega) (by omega) h with ⟨s', h', e⟩ | h'
  · rw [e]; exact ih k s' (i + 1) (by omega) (by omega) h' (by omega)
  · exact h'
theorem w0 : wrap64 0 = 0 := by unfold wrap64; omega
theorem w1 : wrap64 1 = 1 := by unfold wrap64; omega
theorem w2 : wrap64 2 = 2 := by unfold wrap64; omega
theorem w3 : wrap64 3 = 3 := by unfold wrap64; omega
theorem rd_lt (l : List Int) (i : Nat) (h : i < l.length) : rd l (i : Int) = l[i] := by
 simp [rd, List.getD_eq_getElem?_getD, List.getElem?_eq_getElem h]
theorem rds_lt (l : List ByteArray) (i : Nat) (h : i < l.length) : rdOf ByteArray.empty l (i : Int) = l[i] := by
 simp [rdOf, List.getD_eq_getElem?_getD, List.getElem?_eq_getElem h]
theorem wrap_up (i : Nat) (h : i < 1099511627776) : wrap64 ((i : Int) + 1) = ((i + 1 : Nat) : Int) := by unfold wrap64; omega
theorem set_next {α : Type} (l out : List α) (i : Nat) (h : i < l.length) (hl : out.length = l.length) (hp : out.take i = l.take i) : (out.set i l[i]).take (i + 1) = l.take (i + 1) := by
 apply List.ext_getElem?
 intro j
 by_cases hj : j < i + 1
 ·
  rw [List.getElem?_take_of_lt hj, List.getElem?_take_of_lt hj]
  by_cases hji : j = i
  · subst hji; rw [List.getElem?_set_self (by omega), List.getElem?_eq_getElem h]
  · rw [List.getElem?_set_ne (by omega)]
    have := congrArg (fun z => z[j]?) hp
    simpa [List.getElem?_take_of_lt (show j < i by omega)] using this
 · rw [List.getElem?_eq_none (by simp; omega), List.getElem?_eq_none (by simp; omega)]
theorem take_all {α : Type} (l out : List α) (hl : out.length = l.length) (hp : out.take l.length = l.take l.length) : out = l := by
 rwa [List.take_of_length_le (by omega), List.take_length] at hp
theorem all_loop (L : Nat → Int → Option Bool) (P : Nat → Prop) [DecidablePred P] (n m : Nat) (r : Bool)
 (hend : ∀ k, m ≤ k → L (k + 1) (n : Int) = some r) (hstep : ∀ k (i : Nat), m ≤ k → i < n → L (k + 1) (i : Int) = if P i then L k ((i + 1 : Nat) : Int) else some false) (k : Nat) (hk : n + m < k) :
 L k 0 = some (decide (∀ i, i < n → P i) && r) := by
 obtain ⟨s, h, rfl⟩ := count_loop (fun k (_ : Unit) i => L k i) n m (fun i _ => ∀ j, j < i → P j) (fun s => s = (decide (∀ i, i < n → P i) && r))
  (by
   rintro k s hm h
   exact ⟨r, hend k hm, by simp [decide_eq_true h]⟩)
  (by
   rintro k s i hm hi h
   by_cases hp : P i
   · refine .inl ⟨(), ?_, by show L (k + 1) _ = _; rw [hstep k i hm hi, if_pos hp]⟩
     intro j hj
     by_cases hji : j = i
     · subst hji; exact hp
     · exact h j (by omega)
   · refine .inr ⟨false, by show L (k + 1) _ = _; rw [hstep k i hm hi, if_neg hp], ?_⟩
     have : ¬ ∀ i, i < n → P i := fun h => hp (h i hi)
     simp [this])
  k () 0 (by omega) (by omega) (by simp)
 exact h
def look (P : Nat → Prop) [DecidablePred P] : Nat → Nat → Int
 | 0, _ => -1
 | d + 1, i => if P i then (i : Int) else look P d (i + 1)
theorem look_or (P : Nat → Prop) [DecidablePred P] (d : Nat) : ∀ i, (look P d i = -1 ∧ ∀ j, i ≤ j → j < i + d → ¬ P j) ∨ ∃ j, i ≤ j ∧ j < i + d ∧ look P d i = (j : Int) ∧ P j := by
 induction d with
 | zero => intro i; exact .inl ⟨rfl, fun j h1 h2 => by omega⟩
 | succ d ih =>
  intro i
  by_cases hp : P i
  · exact .inr ⟨i, by omega, by omega, by rw [look, if_pos hp], hp⟩
  ·
   rw [look, if_neg hp]
   rcases ih (i + 1) with ⟨h1, h2⟩ | ⟨j, h1, h2, h3, h4⟩
   · refine .inl ⟨h1, fun j h3 h4 => ?_⟩
     by_cases hji : j = i
     · subst hji; exact hp
     · exact h2 j (by omega) (by omega)
   · exact .inr ⟨j, by omega, by omega, h3, h4⟩
theorem find_loop (L : Nat → Int → Option Int) (P : Nat → Prop) [DecidablePred P] (n m : Nat)
 (hend : ∀ k, m ≤ k → L (k + 1) (n : Int) = some (-1)) (hstep : ∀ k (i : Nat), m ≤ k → i < n → L (k + 1) (i : Int) = if P i then some (i : Int) else L k ((i + 1 : Nat) : Int)) (k : Nat) (hk : n + m < k) :
 L k 0 = some (look P n 0) := by
 have key : ∀ d k i, i + d = n → d + m < k → L k (i : Int) = some (look P d i) := by
  intro d
  induction d with
  | zero =>
   intro k i hi hk
   obtain ⟨k, rfl⟩ : ∃ z, k = z + 1 := ⟨k - 1, by omega⟩
   obtain rfl : i = n := by omega
   exact hend k (by omega)
  | succ d ih =>
   intro k i hi hk
   obtain ⟨k, rfl⟩ : ∃ z, k = z + 1 := ⟨k - 1, by omega⟩
   rw [hstep k i (by omega) (by omega), look]
   by_cases hp : P i
   · rw [if_pos hp, if_pos hp]
   · rw [if_neg hp, if_neg hp]; exact ih k (i + 1) (by omega) (by omega)
 exact key n k 0 (by omega) (by omega)
theorem getD_lt {α : Type} (l : List α) (z : α) (i : Nat) (h : i < l.length) : l.getD (i : Int).toNat z = l[i] := by
 simp [List.getD_eq_getElem?_getD, List.getElem?_eq_getElem h]
theorem find_spec (k : Nat) (l : List S79) (a : Int) (hl : l.length ≤ 1048576) (hk : 1048590 ≤ k) : spec_l11Find.f k l a = some (look (fun i => (rd_T79 l i).f0 = a) l.length 0) := by
 unfold spec_l11Find.f
 exact find_loop (fun k i => spec_l11Find.l0 k l a i) _ l.length 0
  (by intro k _; show spec_l11Find.l0 (k + 1) l a _ = _; rw [spec_l11Find.l0, if_neg (by omega)])
  (by
   intro k i _ hi
   show spec_l11Find.l0 (k + 1) l a _ = _
   rw [spec_l11Find.l0, if_pos (by omega), if_pos (by omega), wrap_up i (by omega)])
  k (by omega)
theorem find_impl (k : Nat) (l : List S79) (a : Int) (hl : l.length ≤ 1048576) (hk : 1048590 ≤ k) : slices_IndexFunc_impl_PageOf_1.f k l a = some (look (fun i => (rd_T79 l i).f0 = a) l.length 0) := by
 unfold slices_IndexFunc_impl_PageOf_1.f
 exact find_loop (fun k i => slices_IndexFunc_impl_PageOf_1.l0 k l l.length i a) _ l.length 0
  (by intro k _; show slices_IndexFunc_impl_PageOf_1.l0 (k + 1) l _ _ a = _; rw [slices_IndexFunc_impl_PageOf_1.l0, if_neg (by omega)])
  (by
   intro k i _ hi
   show slices_IndexFunc_impl_PageOf_1.l0 (k + 1) l _ _ a = _
   rw [slices_IndexFunc_impl_PageOf_1.l0, if_pos (by omega), if_pos (by omega), if_pos (by omega), wrap_up i (by omega)]
   simp only [impl_PageOf_1.f, Option.bind_some, beq_iff_eq])
  k (by omega)
theorem in_eq (a b c : Int) : spec_l00In.f a b c = some (decide (b ≤ a ∧ a ≤ c)) := by
 unfold spec_l00In.f
 by_cases h : a ≥ b
 · rw [if_pos h]
   by_cases h2 : a ≤ c <;> simp [h2] <;> omega
 · rw [if_neg h]; simp; omega
theorem within_eq (a b c : Int) : impl_within.f a b c = some (decide (b ≤ a ∧ a ≤ c)) := by
 unfold impl_within.f
 by_cases h : a ≥ b
 · rw [if_pos h]
   by_cases h2 : a ≤ c <;> simp [h2] <;> omega
 · rw [if_neg h]; simp; omega
def okP (l : List S79) (i : Nat) : Prop := (0 ≤ (rd_T79 l i).f0 ∧ (rd_T79 l i).f0 ≤ 255) ∧ ((rd_T79 l i).f1.size : Int) = 64 ∧ (i = 0 ∨ (rd_T79 l ((i : Int) - 1)).f0 < (rd_T79 l i).f0)
instance (l : List S79) : DecidablePred (okP l) := fun i => by unfold okP; infer_instance
theorem pages_spec (k : Nat) (l : List S79) (hl : l.length ≤ 1048576) (hk : 1048590 ≤ k) : spec_l11Pages.f k l = some (decide (l.length ≤ 256) && decide (∀ i, i < l.length → okP l i)) := by
 unfold spec_l11Pages.f
 by_cases hn : (l.length : Int) > 256
 · have : ¬ l.length ≤ 256 := by omega
   rw [if_pos hn]; simp [this]
 ·
  rw [if_neg hn, all_loop (fun k i => spec_l11Pages.l0 k l i) (okP l) l.length 0 true
   (by intro k _; show spec_l11Pages.l0 (k + 1) l _ = _; rw [spec_l11Pages.l0, if_neg (by omega)])
   (by
    intro k i _ hi
    have h1 : (i : Int) < (l.length : Int) := by omega
    have h0 : (0 : Int) ≤ (i : Int) := by omega
    show spec_l11Pages.l0 (k + 1) l _ = _
    rw [spec_l11Pages.l0]
    simp only [if_pos h1, if_pos h0, in_eq, Option.bind_some, decide_eq_true_eq, wrap_up i (by omega)]
    by_cases hi0 : i = 0
    · subst hi0
      rw [if_neg (show ¬ ((0 : Nat) : Int) > 0 by omega)]
      by_cases ha : 0 ≤ (rd_T79 l ((0 : Nat) : Int)).f0 ∧ (rd_T79 l ((0 : Nat) : Int)).f0 ≤ 255
      · rw [if_pos ha]
        by_cases hb : ((rd_T79 l ((0 : Nat) : Int)).f1.size : Int) = 64
        · rw [if_pos hb, if_pos ⟨ha, hb, .inl rfl⟩]
        · rw [if_neg hb, if_neg (fun h => hb h.2.1)]
      · rw [if_neg ha, if_neg (fun h => ha h.1)]
    ·
     rw [if_pos (show (i : Int) > 0 by omega), wrap64_id (a := (i : Int) - 1) (by omega) (by omega), if_pos (show 0 ≤ (i : Int) - 1 by omega), if_pos (show (i : Int) - 1 < (l.length : Int) by omega)]
     by_cases ha : 0 ≤ (rd_T79 l i).f0 ∧ (rd_T79 l i).f0 ≤ 255
     · rw [if_pos ha]
       by_cases hb : ((rd_T79 l i).f1.size : Int) = 64
       · rw [if_pos hb]
         by_cases hc : (rd_T79 l ((i : Int) - 1)).f0 < (rd_T79 l i).f0
         · rw [if_neg (show ¬ (rd_T79 l ((i : Int) - 1)).f0 ≥ (rd_T79 l i).f0 by omega), if_pos ⟨ha, hb, .inr hc⟩]
         · rw [if_pos (show (rd_T79 l ((i : Int) - 1)).f0 ≥ (rd_T79 l i).f0 by omega), if_neg (fun h => h.2.2.elim hi0 hc)]
       · rw [if_neg hb, if_neg (fun h => hb h.2.1)]
     · rw [if_neg ha, if_neg (fun h => ha h.1)])
   k (by omega)]
  have : l.length ≤ 256 := by omega
  simp [this]
theorem pages_impl (k : Nat) (l : List S79) (hl : l.length ≤ 1048576) (hk : 1048590 ≤ k) : impl_ValidPages.f k l = some (decide (l.length ≤ 256) && decide (∀ i, i < l.length → okP l i)) := by
 unfold impl_ValidPages.f
 rw [all_loop (fun k i => impl_ValidPages.l0 k l l l.length i) (okP l) l.length 0 (decide ((l.length : Int) ≤ 256))
  (by intro k _; show impl_ValidPages.l0 (k + 1) l l _ _ = _; rw [impl_ValidPages.l0, if_neg (by omega)])
  (by
   intro k i _ hi
   have h1 : (i : Int) < (l.length : Int) := by omega
   have h0 : (0 : Int) ≤ (i : Int) := by omega
   show impl_ValidPages.l0 (k + 1) l l _ _ = _
   rw [impl_ValidPages.l0]
   simp only [if_pos h1, if_pos h0, within_eq, impl_isBlock.f, Option.bind_some, decide_eq_true_eq, beq_iff_eq, wrap_up i (by omega)]
   by_cases hi0 : i = 0
   ·
    subst hi0
    rw [if_neg (show ¬ ((0 : Nat) : Int) > 0 by omega)]
    by_cases ha : 0 ≤ (rd_T79 l ((0 : Nat) : Int)).f0 ∧ (rd_T79 l ((0 : Nat) : Int)).f0 ≤ 255
    · rw [if_pos ha]
      by_cases hb : ((rd_T79 l ((0 : Nat) : Int)).f1.size : Int) = 64
      · rw [if_pos hb, if_pos ⟨ha, hb, .inl rfl⟩]
      · rw [if_neg hb, if_neg (fun h => hb h.2.1)]
    · rw [if_neg ha, if_neg (fun h => ha h.1)]
   ·
    rw [if_pos (show (i : Int) > 0 by omega), wrap64_id (a := (i : Int) - 1) (by omega) (by omega), if_pos (show 0 ≤ (i : Int) - 1 by omega), if_pos (show (i : Int) - 1 < (l.length : Int) by omega)]
    by_cases ha : 0 ≤ (rd_T79 l i).f0 ∧ (rd_T79 l i).f0 ≤ 255
    · rw [if_pos ha]
      by_cases hc : (rd_T79 l ((i : Int) - 1)).f0 < (rd_T79 l i).f0
      · rw [if_neg (show ¬ (rd_T79 l i).f0 ≤ (rd_T79 l ((i : Int) - 1)).f0 by omega)]
        by_cases hb : ((rd_T79 l i).f1.size : Int) = 64
        · rw [if_pos hb, if_pos ⟨ha, hb, .inr hc⟩]
        · rw [if_neg hb, if_neg (fun h => hb h.2.1)]
      · rw [if_pos (show (rd_T79 l i).f0 ≤ (rd_T79 l ((i : Int) - 1)).f0 by omega), if_neg (fun h => h.2.2.elim hi0 hc)]
    · rw [if_neg ha, if_neg (fun h => ha h.1)])
  k (by omega)]
 have : decide ((l.length : Int) ≤ 256) = decide (l.length ≤ 256) := by apply decide_eq_decide.2; omega
 rw [this, Bool.and_comm]
def ins (p : S79) : List S79 → List S79
 | [] => [p]
 | q :: l => if q.f0 < p.f0 then q :: ins p l else if q.f0 = p.f0 then p :: l else p :: q :: l
def mrg : List S79 → List S79 → List S79
 | [], b => b
 | a, [] => a
 | x :: a, y :: b => if x.f0 < y.f0 then x :: mrg a (y :: b) else if x.f0 = y.f0 then y :: mrg a b else y :: mrg (x :: a) b
 termination_by a b => a.length + b.length
def Srt (l : List S79) : Prop := l.Pairwise fun x y => x.f0 < y.f0
theorem mrg_nil (a : List S79) : mrg a [] = a := by cases a <;> simp [mrg]
theorem nil_mrg (b : List S79) : mrg [] b = b := by simp [mrg]
theorem mrg_cons (x y : S79) (a b : List S79) : mrg (x :: a) (y :: b) = if x.f0 < y.f0 then x :: mrg a (y :: b) else if x.f0 = y.f0 then y :: mrg a b else y :: mrg (x :: a) b := by rw [mrg]
theorem ins_mrg (y : S79) (b : List S79) (hb : ∀ z ∈ b, y.f0 < z.f0) : ∀ a : List S79, mrg (ins y a) b = mrg a (y :: b)
 | [] => by
  rw [nil_mrg]
  show mrg [y] b = _
  cases b with
  | nil => exact mrg_nil _
  | cons z b => rw [mrg_cons, if_pos (hb z List.mem_cons_self), nil_mrg]
 | x :: a => by
  rw [mrg_cons]
  unfold ins
  by_cases h : x.f0 < y.f0
  · rw [if_pos h, if_pos h, ← ins_mrg y b hb a]
    cases b with
    | nil => rw [mrg_nil, mrg_nil]
    | cons z b => rw [mrg_cons, if_pos (by have := hb z List.mem_cons_self; omega)]
  ·
   rw [if_neg h, if_neg h]
   by_cases h2 : x.f0 = y.f0
   · rw [if_pos h2, if_pos h2]
     cases b with
     | nil => rw [mrg_nil, mrg_nil]
     | cons z b => rw [mrg_cons, if_pos (hb z List.mem_cons_self)]
   · rw [if_neg h2, if_neg h2]
     cases b with
     | nil => rw [mrg_nil, mrg_nil]
     | cons z b => rw [mrg_cons, if_pos (hb z List.mem_cons_self)]
theorem fold_mrg : ∀ (b : List S79), Srt b → ∀ a : List S79, b.foldl (fun l p => ins p l) a = mrg a b
 | [], _, a => (mrg_nil a).symm
 | y :: b, h, a => by
  rw [List.foldl_cons, fold_mrg b (List.pairwise_cons.1 h).2, ins_mrg y b (List.pairwise_cons.1 h).1]
theorem ins_mem (p : S79) : ∀ (l : List S79) (z : S79), z ∈ ins p l → z = p ∨ z ∈ l
 | [], z, h => .inl (List.mem_singleton.1 h)
 | q :: l, z, h => by
  unfold ins at h
  split at h
  · rcases List.mem_cons.1 h with h | h
    · exact .inr (by rw [h]; exact List.mem_cons_self)
    · rcases ins_mem p l z h with h | h
      · exact .inl h
      · exact .inr (List.mem_cons_of_mem _ h)
  ·
   split at h
   · rcases List.mem_cons.1 h with h | h
     · exact .inl h
     · exact .inr (List.mem_cons_of_mem _ h)
   · rcases List.mem_cons.1 h with h | h
     · exact .inl h
     · exact .inr h
theorem ins_srt (p : S79) : ∀ l : List S79, Srt l → Srt (ins p l)
 | [], _ => List.pairwise_singleton _ _
 | q :: l, h => by
  obtain ⟨h1, h2⟩ := List.pairwise_cons.1 h
  unfold ins
  split
  · rename_i hq
    refine List.pairwise_cons.2 ⟨fun z hz => ?_, ins_srt p l h2⟩
    rcases ins_mem p l z hz with rfl | hz
    · exact hq
    · exact h1 z hz
  ·
   rename_i hq
   split
   · rename_i he
     exact List.pairwise_cons.2 ⟨fun z hz => by have := h1 z hz; omega, h2⟩
   · exact List.pairwise_cons.2 ⟨fun z hz => by
      rcases List.mem_cons.1 hz with rfl | hz
      · omega
      · have := h1 z hz; omega, h⟩
theorem ins_len (p : S79) : ∀ l : List S79, (ins p l).length ≤ l.length + 1
 | [] => Nat.le_refl _
 | q :: l => by
  unfold ins
  have := ins_len p l
  split
  · simp only [List.length_cons]; omega
  · split <;> simp only [List.length_cons] <;> omega
theorem mrg_len (a b : List S79) : (mrg a b).length ≤ a.length + b.length := by
 induction a, b using mrg.induct with
 | case1 b => rw [nil_mrg]; omega
 | case2 a => rw [mrg_nil]; simp
 | case3 x a y b h ih => rw [mrg_cons, if_pos h]; simp only [List.length_cons] at *; omega
 | case4 x a y b h h2 ih => rw [mrg_cons, if_neg h, if_pos h2]; simp only [List.length_cons] at *; omega
 | case5 x a y b h h2 ih => rw [mrg_cons, if_neg h, if_neg h2]; simp only [List.length_cons] at *; omega
theorem ins_at (p : S79) : ∀ (l : List S79) (pos : Nat), pos ≤ l.length → (∀ j (hj : j < l.length), j < pos → (l[j]).f0 < p.f0) → (∀ j (hj : j < l.length), pos ≤ j → p.f0 ≤ (l[j]).f0) →
 (∀ (h : pos < l.length), (l[pos]).f0 = p.f0 → l.set pos p = ins p l) ∧ ((∀ (h : pos < l.length), (l[pos]).f0 ≠ p.f0) → l.take pos ++ [p] ++ l.drop pos = ins p l)
 | [], pos, h0, _, _ => ⟨fun h => absurd h (by simp), fun _ => by simp [ins]⟩
 | q :: l, 0, _, _, hge => by
  have h := hge 0 (by simp) (Nat.le_refl _)
  have h' : p.f0 ≤ q.f0 := h
  refine ⟨fun _ he => ?_, fun hn => ?_⟩
  · have he' : q.f0 = p.f0 := he
    unfold ins
    rw [if_neg (by omega), if_pos he']
    rfl
  · have hn' : q.f0 ≠ p.f0 := hn (by simp)
    unfold ins
    rw [if_neg (by omega), if_neg hn']
    rfl
 | q :: l, pos + 1, h0, hlt, hge => by
  have hq : q.f0 < p.f0 := hlt 0 (by simp) (by omega)
  have ih := ins_at p l pos (by simpa using h0) (fun j hj hp => hlt (j + 1) (by simpa using hj) (by omega)) (fun j hj hp => hge (j + 1) (by simpa using hj) (by omega))
  unfold ins
  rw [if_pos hq]
  refine ⟨fun h he => ?_, fun hn => ?_⟩
  · rw [List.set_cons_succ, ih.1 (by simpa using h) he]
  · rw [List.take_succ_cons, List.drop_succ_cons, ← ih.2 (fun h => hn (by simpa using h))]
    rfl
theorem rdP (l : List S79) (i : Nat) (h : i < l.length) : rd_T79 l (i : Int) = l[i] := getD_lt l z79 i h
theorem dropP (l : List S79) (i : Nat) (h : i < l.length) : l.drop i = l[i] :: l.drop (i + 1) := List.drop_eq_getElem_cons h
theorem cmp_eq (a b : Int) (d : ByteArray) : impl_pageAt_1.f a d b = some (if a < b then -1 else if a > b then 1 else 0) := by
 unfold impl_pageAt_1.f cmp_Compare_int64.f cmp_isNaN_int64.f
 simp only [Option.bind_some, bne_self_eq_false, Bool.false_eq_true, if_false]
 by_cases h : a < b
 · rw [if_pos h, if_pos h]; rfl
 · rw [if_neg h, if_neg h]
   by_cases h2 : a > b
   · rw [if_pos h2, if_pos h2]; rfl
   · rw [if_neg h2, if_neg h2]; rfl
theorem mid_eq (lo hi : Nat) (h : lo + hi ≤ 100000) : wrap64 ((IntKind.u64.wrap (wrap64 ((lo : Int) + (hi : Int)))) / 2) = (((lo + hi) / 2 : Nat) : Int) := by
 have h1 : wrap64 ((lo : Int) + (hi : Int)) = ((lo + hi : Nat) : Int) := by unfold wrap64; omega
 have h2 : IntKind.u64.wrap (((lo + hi : Nat) : Int)) = ((lo + hi : Nat) : Int) := by simp only [IntKind.wrap]; simp [IntKind.signed, IntKind.bits]; omega
 rw [h1, h2]
 unfold wrap64
 omega
theorem srt_get {l : List S79} (h : Srt l) (i j : Nat) (hj : j < l.length) (hij : i < j) : (l[i]).f0 < (l[j]).f0 := List.pairwise_iff_getElem.1 h i j (by omega) hj hij
theorem search_eq (l : List S79) (b : Int) (hs : Srt l) (hl : l.length ≤ 10000) : ∀ (d lo hi k : Nat), hi - lo ≤ d → lo ≤ hi → hi ≤ l.length → d < k → (∀ j (hj : j < l.length), j < lo → (l[j]).f0 < b) → (∀ j (hj : j < l.length), hi ≤ j → b ≤ (l[j]).f0) →
 ∃ pos : Nat, pos ≤ l.length ∧ (∀ j (hj : j < l.length), j < pos → (l[j]).f0 < b) ∧ (∀ j (hj : j < l.length), pos ≤ j → b ≤ (l[j]).f0) ∧
  slices_BinarySearchFunc_impl_pageAt_1.l0 k l b (l.length : Int) (lo : Int) (hi : Int) = some ((pos : Int), if h : pos < l.length then decide ((l[pos]).f0 = b) else false) := by
 intro d
 induction d with
 | zero =>
  intro lo hi k hd h1 h2 hk hlt hge
  obtain ⟨k, rfl⟩ : ∃ z, k = z + 1 := ⟨k - 1, by omega⟩
  obtain rfl : lo = hi := by omega
  refine ⟨lo, h2, hlt, hge, ?_⟩
  rw [slices_BinarySearchFunc_impl_pageAt_1.l0, if_neg (by omega)]
  by_cases h : lo < l.length
  ·
   rw [if_pos (by omega), if_pos (by omega), if_pos (by omega), cmp_eq, rdP l lo h, dif_pos h]
   have := hge lo h (Nat.le_refl _)
   simp only [Option.bind_some]
   rw [if_neg (by omega)]
   by_cases he : (l[lo]).f0 = b
   · rw [if_neg (by omega), decide_eq_true he]; rfl
   · rw [if_pos (by omega), decide_eq_false he]; rfl
  · rw [if_neg (by omega), dif_neg h]
 | succ d ih =>
  intro lo hi k hd h1 h2 hk hlt hge
  obtain ⟨k, rfl⟩ : ∃ z, k = z + 1 := ⟨k - 1, by omega⟩
  by_cases h : lo < hi
  ·
   have hm1 : (lo + hi) / 2 < l.length := by omega
   rw [slices_BinarySearchFunc_impl_pageAt_1.l0, if_pos (by omega), mid_eq lo hi (by omega), if_pos (by omega), if_pos (by omega), cmp_eq, rdP l _ hm1]
   simp only [Option.bind_some]
   by_cases hc : (l[(lo + hi) / 2]).f0 < b
   · rw [if_pos hc, if_pos (by decide), wrap_up _ (by omega)]
     exact ih ((lo + hi) / 2 + 1) hi k (by omega) (by omega) h2 (by omega) (fun j hj hjl => by
      by_cases e : j = (lo + hi) / 2
      · subst e; exact hc
      · have := srt_get hs j ((lo + hi) / 2) hm1 (by omega); omega) hge
   · rw [if_neg hc, if_neg (by split <;> decide)]
     exact ih lo ((lo + hi) / 2) k (by omega) (by omega) (by omega) (by omega) hlt (fun j hj hjl => by
      by_cases e : j = (lo + hi) / 2
      · subst e; omega
      · have := srt_get hs ((lo + hi) / 2) j hj (by omega); omega)
  · obtain ⟨pos, p1, p2, p3, p4⟩ := ih lo hi (k + 1) (by omega) h1 h2 (by omega) hlt hge
    exact ⟨pos, p1, p2, p3, p4⟩
theorem put_eq (l : List S79) (hs : Srt l) (hl : l.length ≤ 10000) (b : Int) (d : ByteArray) (k : Nat) (hk : l.length < k) : impl_putPage.f k l b d = some (ins ⟨b, d⟩ l) := by
 obtain ⟨pos, p1, p2, p3, p4⟩ := search_eq l b hs hl l.length 0 l.length k (by omega) (by omega) (Nat.le_refl _) hk (fun j _ h => absurd h (by omega)) (fun j hj h => absurd hj (by omega))
 have hi := ins_at ⟨b, d⟩ l pos p1 p2 p3
 unfold impl_putPage.f impl_pageAt.f slices_BinarySearchFunc_impl_pageAt_1.f
 rw [show (0 : Int) = ((0 : Nat) : Int) from rfl, p4]
 simp only [Option.bind_some]
 by_cases h : pos < l.length
 ·
  rw [dif_pos h]
  by_cases he : (l[pos]).f0 = b
  · rw [decide_eq_true he, if_pos rfl, if_pos (by omega), if_pos (by omega), Int.toNat_natCast, hi.1 h he]
  · rw [decide_eq_false he, if_neg (by decide)]
    unfold impl_Page.f
    rw [if_pos ⟨by omega, rfl, by omega, by omega⟩, Int.toNat_natCast, hi.2 (fun _ => he)]
    rfl
 · rw [dif_neg h, if_neg (by decide)]
   unfold impl_Page.f
   rw [if_pos ⟨by omega, rfl, by omega, by omega⟩, Int.toNat_natCast, hi.2 (fun h2 => absurd h2 h)]
   rfl
theorem merged_eq (a b : List S79) (ha : Srt a) (hb : Srt b) (la : a.length ≤ 1000) (lb : b.length ≤ 1000) (k : Nat) (hk : 5000 ≤ k) : impl_merged.f k a b = some (mrg a b) := by
 have key : ∀ (d i k : Nat) (x : List S79), i + d = b.length → 3000 + d ≤ k → Srt x → x.length + d ≤ 2000 → impl_merged.l0 k x b (b.length : Int) (i : Int) = some ((b.drop i).foldl (fun l p => ins p l) x) := by
  intro d
  induction d with
  | zero =>
   intro i k x hi hk hx hxl
   obtain ⟨k, rfl⟩ : ∃ z, k = z + 1 := ⟨k - 1, by omega⟩
   rw [impl_merged.l0, if_neg (by omega), List.drop_eq_nil_of_le (by omega)]
   rfl
  | succ d ih =>
   intro i k x hi hk hx hxl
   obtain ⟨k, rfl⟩ : ∃ z, k = z + 1 := ⟨k - 1, by omega⟩
   have hil : i < b.length := by omega
   have := ins_len ⟨(b[i]).f0, (b[i]).f1⟩ x
   rw [impl_merged.l0, if_pos (by omega), if_pos (by omega), if_pos (by omega), rdP b i hil, put_eq x hx (by omega) _ _ k (by omega)]
   simp only [Option.bind_some]
   rw [wrap_up i (by omega), ih (i + 1) k _ (by omega) (by omega) (ins_srt _ x hx) (by omega), dropP b i hil, List.foldl_cons]
 unfold impl_merged.f slices_Clone_impl_Page_impl_Page.f slices_Clone_impl_Page_impl_Page_nn.f
 simp only [Option.bind_some, List.length_nil, List.nil_append]
 rw [if_pos (by omega)]
 simp only [Option.bind_some]
 have := key b.length 0 k a (by omega) (by omega) ha (by omega)
 rw [show (0 : Int) = ((0 : Nat) : Int) from rfl, this, List.drop_zero, fold_mrg b hb]
theorem srt_ok {l : List S79} (h : ∀ i, i < l.length → okP l i) : Srt l := by
 refine List.pairwise_iff_getElem.2 (fun i j hi hj hij => ?_)
 have key : ∀ d, (hd : i + 1 + d < l.length) → (l[i]).f0 < (l[i + 1 + d]).f0 := by
  intro d
  induction d with
  | zero =>
   intro hd
   have h1 := (h (i + 1) (by omega)).2.2
   rcases h1 with h1 | h1
   · omega
   · rw [show (((i + 1 : Nat) : Int) - 1) = (i : Int) by omega, rdP l i hi, rdP l (i + 1) (by omega)] at h1
     exact h1
  | succ d ih =>
   intro hd
   have h2 := ih (by omega)
   have h1 := (h (i + 1 + (d + 1)) hd).2.2
   rcases h1 with h1 | h1
   · omega
   · rw [show (((i + 1 + (d + 1) : Nat) : Int) - 1) = ((i + 1 + d : Nat) : Int) by omega, rdP l (i + 1 + d) (by omega), rdP l (i + 1 + (d + 1)) hd] at h1
     omega
 have := key (j - i - 1) (by omega)
 have e : i + 1 + (j - i - 1) = j := by omega
 simpa only [e] using this
theorem mrg_mem (a b : List S79) : ∀ z ∈ mrg a b, z ∈ a ∨ z ∈ b := by
 induction a, b using mrg.induct with
 | case1 b => intro z hz; rw [nil_mrg] at hz; exact .inr hz
 | case2 a => intro z hz; rw [mrg_nil] at hz; exact .inl hz
 | case3 x a y b h ih =>
  intro z hz
  rw [mrg_cons, if_pos h] at hz
  rcases List.mem_cons.1 hz with rfl | hz
  · exact .inl List.mem_cons_self
  · rcases ih z hz with h1 | h1
    · exact .inl (List.mem_cons_of_mem _ h1)
    · exact .inr h1
 | case4 x a y b h h2 ih =>
  intro z hz
  rw [mrg_cons, if_neg h, if_pos h2] at hz
  rcases List.mem_cons.1 hz with rfl | hz
  · exact .inr List.mem_cons_self
  · rcases ih z hz with h1 | h1
    · exact .inl (List.mem_cons_of_mem _ h1)
    · exact .inr (List.mem_cons_of_mem _ h1)
 | case5 x a y b h h2 ih =>
  intro z hz
  rw [mrg_cons, if_neg h, if_neg h2] at hz
  rcases List.mem_cons.1 hz with rfl | hz
  · exact .inr List.mem_cons_self
  · rcases ih z hz with h1 | h1
    · exact .inl h1
    · exact .inr (List.mem_cons_of_mem _ h1)
def fd (c : Int) : List S79 → Option ByteArray
 | [] => none
 | x :: l => if x.f0 = c then some x.f1 else fd c l
def rs : Option ByteArray → ByteArray × Bool
 | none => (⟨#[]⟩, false)
 | some d => (d, true)
theorem fd_none (c : Int) : ∀ l : List S79, (∀ z ∈ l, z.f0 ≠ c) → fd c l = none
 | [], _ => rfl
 | x :: l, h => by
  unfold fd
  rw [if_neg (h x List.mem_cons_self)]
  exact fd_none c l (fun z hz => h z (List.mem_cons_of_mem _ hz))
theorem fd_get (c : Int) : ∀ (l : List S79) (j : Nat) (hj : j < l.length), Srt l → (l[j]).f0 = c → fd c l = some (l[j]).f1
 | x :: l, 0, hj, _, h => by
  have h' : x.f0 = c := h
  unfold fd
  rw [if_pos h']
  rfl
 | x :: l, j + 1, hj, hs, h => by
  obtain ⟨h1, h2⟩ := List.pairwise_cons.1 hs
  have hj' : j < l.length := by simpa using hj
  have h' : (l[j]).f0 = c := h
  have := h1 l[j] (List.getElem_mem hj')
  unfold fd
  rw [if_neg (by omega)]
  exact fd_get c l j hj' h2 h'
theorem look_fd (l : List S79) (c : Int) (hs : Srt l) : (look (fun i => (rd_T79 l (i : Int)).f0 = c) l.length 0 = -1 ∧ fd c l = none) ∨ ∃ j, ∃ _ : j < l.length, look (fun i => (rd_T79 l (i : Int)).f0 = c) l.length 0 = (j : Int) ∧ fd c l = some (rd_T79 l (j : Int)).f1 := by
 rcases look_or (fun i => (rd_T79 l (i : Int)).f0 = c) l.length 0 with ⟨h, h2⟩ | ⟨j, _, h1, h, h3⟩
 · refine .inl ⟨h, fd_none c l (fun z hz => ?_)⟩
   obtain ⟨j, hj, rfl⟩ := List.getElem_of_mem hz
   have := h2 j (by omega) (by omega)
   rwa [rdP l j hj] at this
 · have hj : j < l.length := by omega
   rw [rdP l j hj] at h3
   exact .inr ⟨j, hj, h, by rw [rdP l j hj]; exact fd_get c l j hj hs h3⟩
theorem spec_page (l : List S79) (c : Int) (hs : Srt l) (hl : l.length ≤ 1048576) (k : Nat) (hk : 1048590 ≤ k) : spec_PageOf.f k l c = some (rs (fd c l)) := by
 unfold spec_PageOf.f
 rw [find_spec k l c hl hk]
 simp only [Option.bind_some]
 rcases look_fd l c hs with ⟨h1, h2⟩ | ⟨j, hj, h1, h2⟩
 · rw [h1, h2]; rfl
 · rw [h1, h2, if_neg (by omega), if_pos (by omega), if_pos (by omega)]; rfl
theorem impl_page (l : List S79) (c : Int) (hs : Srt l) (hl : l.length ≤ 1048576) (k : Nat) (hk : 1048590 ≤ k) : impl_PageOf.f k l c = some (rs (fd c l)) := by
 unfold impl_PageOf.f
 rw [find_impl k l c hl hk]
 simp only [Option.bind_some]
 rcases look_fd l c hs with ⟨h1, h2⟩ | ⟨j, hj, h1, h2⟩
 · rw [h1, h2]; rfl
 · rw [h1, h2, if_neg (by omega), if_pos (by omega), if_pos (by omega)]; rfl
theorem fd_mrg (c : Int) (a b : List S79) : Srt a → Srt b → fd c (mrg a b) = match fd c b with | some d => some d | none => fd c a := by
 induction a, b using mrg.induct with
 | case1 b => intro _ _; rw [nil_mrg]; cases fd c b <;> rfl
 | case2 a => intro _ _; rw [mrg_nil]; rfl
 | case3 x a y b h ih =>
  intro ha hb
  rw [mrg_cons, if_pos h]
  by_cases hx : x.f0 = c
  ·
   have hn : fd c (y :: b) = none := fd_none c _ (fun z hz => by
    rcases List.mem_cons.1 hz with rfl | hz
    · omega
    · have := (List.pairwise_cons.1 hb).1 z hz; omega)
   rw [hn]
   simp only [fd]
   rw [if_pos hx, if_pos hx]
  · have := ih (List.pairwise_cons.1 ha).2 hb
    rw [show fd c (x :: mrg a (y :: b)) = fd c (mrg a (y :: b)) by rw [fd, if_neg hx], this, show fd c (x :: a) = fd c a by rw [fd, if_neg hx]]
 | case4 x a y b h h2 ih =>
  intro ha hb
  rw [mrg_cons, if_neg h, if_pos h2]
  by_cases hx : y.f0 = c
  · rw [show fd c (y :: mrg a b) = some y.f1 by rw [fd, if_pos hx], show fd c (y :: b) = some y.f1 by rw [fd, if_pos hx]]
  · have := ih (List.pairwise_cons.1 ha).2 (List.pairwise_cons.1 hb).2
    rw [show fd c (y :: mrg a b) = fd c (mrg a b) by rw [fd, if_neg hx], this, show fd c (x :: a) = fd c a by rw [fd, if_neg (by omega)], show fd c (y :: b) = fd c b by rw [fd, if_neg hx]]
 | case5 x a y b h h2 ih =>
  intro ha hb
  rw [mrg_cons, if_neg h, if_neg h2]
  by_cases hx : y.f0 = c
  · rw [show fd c (y :: mrg (x :: a) b) = some y.f1 by rw [fd, if_pos hx], show fd c (y :: b) = some y.f1 by rw [fd, if_pos hx]]
  · have := ih ha (List.pairwise_cons.1 hb).2
    rw [show fd c (y :: mrg (x :: a) b) = fd c (mrg (x :: a) b) by rw [fd, if_neg hx], this, show fd c (y :: b) = fd c b by rw [fd, if_neg hx]]
theorem mrg_srt (b : List S79) (hb : Srt b) (a : List S79) (ha : Srt a) : Srt (mrg a b) := by
 rw [← fold_mrg b hb]
 have key : ∀ (l a : List S79), Srt a → Srt (l.foldl (fun l p => ins p l) a) := by
  intro l
  induction l with
  | nil => intro a h; exact h
  | cons y l ih => intro a h; exact ih _ (ins_srt y a h)
 exact key b a ha
def ct (c : Int) : List S79 → Nat
 | [] => 0
 | x :: l => (if x.f0 < c then 1 else 0) + ct c l
theorem ct_zero (c : Int) : ∀ l : List S79, (∀ z ∈ l, c ≤ z.f0) → ct c l = 0
 | [], _ => rfl
 | x :: l, h => by
  unfold ct
  rw [if_neg (by have := h x List.mem_cons_self; omega), ct_zero c l (fun z hz => h z (List.mem_cons_of_mem _ hz))]
theorem ct_all (c : Int) : ∀ l : List S79, (∀ z ∈ l, z.f0 < c) → ct c l = l.length
 | [], _ => rfl
 | x :: l, h => by
  unfold ct
  rw [if_pos (h x List.mem_cons_self), ct_all c l (fun z hz => h z (List.mem_cons_of_mem _ hz)), List.length_cons]
  omega
theorem ct_up (c : Int) : ∀ l : List S79, Srt l → ct (c + 1) l = ct c l + (if (rs (fd c l)).2 = true then 1 else 0)
 | [], _ => rfl
 | x :: l, h => by
  obtain ⟨h1, h2⟩ := List.pairwise_cons.1 h
  have ih := ct_up c l h2
  by_cases hx : x.f0 = c
  · have e : fd c (x :: l) = some x.f1 := by rw [fd, if_pos hx]
    rw [e]
    unfold ct
    rw [ct_zero (c + 1) l (fun z hz => by have := h1 z hz; omega), ct_zero c l (fun z hz => by have := h1 z hz; omega), if_pos (by omega), if_neg (by omega)]
    rfl
  ·
   have e : fd c (x :: l) = fd c l := by rw [fd, if_neg hx]
   rw [e]
   unfold ct
   rw [ih]
   by_cases hl : x.f0 < c
   · rw [if_pos hl, if_pos (by omega)]; omega
   · rw [if_neg hl, if_neg (by omega)]; omega
theorem u64_lo (x : Int) : 0 ≤ IntKind.u64.wrap x ∧ IntKind.u64.wrap x < 18446744073709551616 := by
 have h : IntKind.u64.wrap x = x % 18446744073709551616 := by simp [IntKind.wrap, IntKind.bits, IntKind.signed]
 omega
theorem and255 (x : Int) : 0 ≤ wrap64 (Go.bits .and .u64 (IntKind.u64.wrap x / 1099511627776) 255) ∧ wrap64 (Go.bits .and .u64 (IntKind.u64.wrap x / 1099511627776) 255) ≤ 255 := by
 obtain ⟨h0, h1⟩ := u64_lo x
 have h := bits_mask .u64 24 (by decide) (fun n h0 h1 => by
  have h : IntKind.u64.wrap n = n % 18446744073709551616 := by simp [IntKind.wrap, IntKind.bits, IntKind.signed]
  omega) 8 (by decide) (IntKind.u64.wrap x / 1099511627776) (by omega) (by omega)
 rw [show ((2 : Int) ^ 8 - 1) = 255 by decide, show ((2 : Int) ^ 8) = 256 by decide] at h
 rw [h]; unfold wrap64; omega
def Code (c : List Int) : Prop := ∀ x ∈ c, 0 ≤ x ∧ x ≤ 255
theorem code_wf {c : List Int} (h : ∀ x_ ∈ c, (Lit.int .u8 x_).wf = true) : Code c := fun x hx => by
 have := h x hx
 simp [Lit.wf, IntKind.min, IntKind.max, IntKind.bits, IntKind.signed] at this
 omega
theorem code_rd {c : List Int} (h : Code c) (i : Int) (h0 : 0 ≤ i) (h1 : i < c.length) : 0 ≤ rd c i ∧ rd c i ≤ 255 := by
 have := rd_lt c i.toNat (by omega)
 rw [show ((i.toNat : Nat) : Int) = i by omega] at this
 rw [this]
 exact h _ (List.getElem_mem _)
theorem next_ok {c : List Int} (hc : Code c) (p s : Int) (h0 : 0 ≤ p) (h1 : p ≤ 1000000000000) : ∃ r t, (0 ≤ r ∧ r ≤ 255) ∧ spec_l00Src_next.f c p s = some (r, p + 1, t) := by
 have hw : wrap64 (p + 1) = p + 1 := by unfold wrap64; omega
 unfold spec_l00Src_next.f
 rw [hw]
 by_cases hp : p < (c.length : Int)
 · obtain ⟨r0, r1⟩ := code_rd hc p h0 hp
   have hr : wrap64 (rd c p) = rd c p := by unfold wrap64; omega
   rw [if_pos hp, if_pos h0, if_pos (by omega), hr]
   exact ⟨_, _, ⟨r0, r1⟩, rfl⟩
 · rw [if_neg hp, if_neg (by omega)]
   exact ⟨_, _, and255 _, rfl⟩
theorem pick_ok {c : List Int} (hc : Code c) (p s n : Int) (h0 : 0 ≤ p) (h1 : p ≤ 100000000000) : ∃ r q t, (0 ≤ r ∧ (r < n ∨ r = 0)) ∧ (p ≤ q ∧ q ≤ p + 2) ∧ spec_l00Src_pick.f c p s n = some (r, q, t) := by
 unfold spec_l00Src_pick.f
 by_cases hn : n ≤ 1
 · rw [if_pos hn]
   exact ⟨0, p, s, ⟨by omega, .inr rfl⟩, ⟨by omega, by omega⟩, rfl⟩
 ·
  obtain ⟨r, t, hr, e⟩ := next_ok hc p s h0 (by omega)
  rw [if_neg hn, e]
  simp only [Option.bind_some]
  by_cases h2 : n > 200
  ·
   obtain ⟨r2, t2, hr2, e2⟩ := next_ok hc (p + 1) t (by omega) (by omega)
   rw [if_pos h2, e2]
   simp only [Option.bind_some]
   rw [if_neg (by omega)]
   have hw : wrap64 (wrap64 (r * 256) + r2) = r * 256 + r2 := by unfold wrap64; omega
   rw [hw]
   refine ⟨_, _, _, ⟨Int.tmod_nonneg _ (by omega), .inl (Int.tmod_lt_of_pos _ (by omega))⟩, ⟨?_, ?_⟩, rfl⟩ <;> omega
  · rw [if_neg h2, if_neg (by omega)]
    refine ⟨_, _, _, ⟨Int.tmod_nonneg _ (by omega), .inl (Int.tmod_lt_of_pos _ (by omega))⟩, ⟨?_, ?_⟩, rfl⟩ <;> omega
theorem one_ok {c : List Int} (hc : Code c) (p s n : Int) (h0 : 0 ≤ p) (h1 : p ≤ 100000000000) : ∃ b q t, (p ≤ q ∧ q ≤ p + 2) ∧ spec_l00Src_one.f c p s n = some (b, q, t) := by
 obtain ⟨r, q, t, -, hq, e⟩ := pick_ok hc p s n h0 h1
 exact ⟨_, q, t, hq, by unfold spec_l00Src_one.f; rw [e]; rfl⟩
theorem among_ok {c : List Int} (hc : Code c) (p s : Int) (l : List Int) (hl : 0 < l.length) (h0 : 0 ≤ p) (h1 : p ≤ 100000000000) : ∃ (i : Nat) (q t : Int), i < l.length ∧ (p ≤ q ∧ q ≤ p + 2) ∧ spec_l00Src_among.f c p s l = some (rd l (i : Int), q, t) := by
 obtain ⟨r, q, t, hr, hq, e⟩ := pick_ok hc p s l.length h0 h1
 refine ⟨r.toNat, q, t, by omega, hq, ?_⟩
 unfold spec_l00Src_among.f
 rw [e]
 simp only [Option.bind_some]
 rw [if_pos hr.1, if_pos (by omega), show ((r.toNat : Nat) : Int) = r by omega]
theorem word_loop {c : List Int} (hc : Code c) : ∀ (d : Nat) (x : List Int) (p s : Int), x.length + d ≤ 1000000 → 0 ≤ p → p + d ≤ 100000000000 → ∃ b q t, (p ≤ q ∧ q ≤ p + d) ∧ b.size ≤ x.length + d ∧ ∀ k, d < k → spec_l00Src_word.l0 k x (d : Int) c p s = some (b, q, t) := by
 intro d
 induction d with
 | zero =>
  intro x p s hx h0 h1
  refine ⟨strOfNums x, p, s, ⟨by omega, by omega⟩, by rw [strOfNums_size]; omega, fun k hk => ?_⟩
  obtain ⟨k, rfl⟩ : ∃ m, k = m + 1 := ⟨k - 1, by omega⟩
  rw [spec_l00Src_word.l0, if_neg (by omega)]
 | succ d ih =>
  intro x p s hx h0 h1
  obtain ⟨r, t, hr, e⟩ := next_ok hc p s h0 (by omega)
  obtain ⟨b, q, t2, hq, hb, h⟩ := ih (x ++ [r % 256]) (p + 1) t (by simp; omega) (by omega) (by omega)
  refine ⟨b, q, t2, ⟨by omega, by omega⟩, by simp at hb; omega, fun k hk => ?_⟩
  obtain ⟨k, rfl⟩ : ∃ m, k = m + 1 := ⟨k - 1, by omega⟩
  rw [spec_l00Src_word.l0, if_pos (by omega), e]
  simp only [Option.bind_some]
  rw [if_pos (by omega), show wrap64 (((d + 1 : Nat) : Int) - 1) = (d : Int) by unfold wrap64; omega]
  exact h k (by omega)
theorem word_ok {c : List Int} (hc : Code c) (p s n : Int) (hn : n ≤ 200) (h0 : 0 ≤ p) (h1 : p ≤ 10000000000) : ∃ b q t, (p ≤ q ∧ q ≤ p + 300) ∧ b.size ≤ 300 ∧ ∀ k, 300 ≤ k → spec_l00Src_word.f k c p s n = some (b, q, t) := by
 obtain ⟨r, q, t, hr, hq, e⟩ := pick_ok hc p s n h0 (by omega)
 obtain ⟨b, q2, t2, hq2, hb, h⟩ := word_loop hc r.toNat [] q t (by simp; omega) (by omega) (by omega)
 refine ⟨b, q2, t2, ⟨by omega, by omega⟩, by simp at hb; omega, fun k hk => ?_⟩
 unfold spec_l00Src_word.f
 rw [e]
 simp only [Option.bind_some]
 have := h k (by omega)
 rwa [show ((r.toNat : Nat) : Int) = r by omega] at this
theorem zero_ok : ∃ z, z.size = 64 ∧ spec_l09Zero.f = some z := by
 unfold spec_l09Zero.f
 rw [if_pos (by decide)]
 exact ⟨_, by rw [strOfNums_size]; simp, rfl⟩
theorem blk_loop1 (n : Nat) (h1 : 1 ≤ n) (hn : n ≤ 9) (c : List Int) (p s : Int) : ∀ (d : Nat) (x : List Int), 64 - x.length = d → n ≤ x.length → x.length ≤ 64 → ∃ b : ByteArray, b.size = 64 ∧ ∀ k, d < k → spec_l09DrawBlock.l1 k n x c p s = some (b, p, s) := by
 intro d
 induction d with
 | zero =>
  intro x hd hx hx2
  refine ⟨strOfNums x, by rw [strOfNums_size]; omega, fun k hk => ?_⟩
  obtain ⟨k, rfl⟩ : ∃ m, k = m + 1 := ⟨k - 1, by omega⟩
  rw [spec_l09DrawBlock.l1, if_neg (by omega)]
 | succ d ih =>
  intro x hd hx hx2
  obtain ⟨b, hb, h⟩ := ih (x ++ [rd x ((x.length : Int) % n)]) (by simp; omega) (by simp; omega) (by simp; omega)
  refine ⟨b, hb, fun k hk => ?_⟩
  obtain ⟨k, rfl⟩ : ∃ m, k = m + 1 := ⟨k - 1, by omega⟩
  have hm : (x.length : Int) % n < n := Int.emod_lt_of_pos _ (by omega)
  rw [spec_l09DrawBlock.l1, if_pos (by omega), if_neg (by omega), if_pos (Int.emod_nonneg _ (by omega)), if_pos (by omega), if_pos (by omega)]
  exact h k (by omega)
theorem blk_loop0 {c : List Int} (hc : Code c) (n : Nat) (h1 : 1 ≤ n) (hn : n ≤ 9) : ∀ (d i : Nat) (x : List Int) (p s : Int), i + d = n → x.length = i → 0 ≤ p → p + d ≤ 10000000000 → ∃ (b : ByteArray) (q t : Int), (p ≤ q ∧ q ≤ p + d + 2) ∧ b.size = 64 ∧ ∀ k, d + 70 < k → spec_l09DrawBlock.l0 k n x (i : Int) c p s = some (b, q, t) := by
 intro d
 induction d with
 | zero =>
  intro i x p s hi hx h0 hp
  obtain ⟨o, q, t, hq, e⟩ := one_ok hc p s 3 h0 (by omega)
  cases o with
  | true =>
   have hsz := strOfNums_size x
   refine ⟨strOfNums x ++ strOfNums (List.replicate (64 - x.length) 0), q, t, ⟨by omega, by omega⟩, by rw [ByteArray.size_append, hsz, strOfNums_size]; simp; omega, fun k hk => ?_⟩
   obtain ⟨k, rfl⟩ : ∃ m, k = m + 1 := ⟨k - 1, by omega⟩
   have hw : wrap64 (64 - ((strOfNums x).size : Int)) = ((64 - x.length : Nat) : Int) := by rw [hsz]; unfold wrap64; omega
   rw [spec_l09DrawBlock.l0, if_neg (by omega), e]
   simp only [Option.bind_some, if_true]
   unfold spec_l01Pad.f
   rw [if_neg (by rw [hsz]; omega), hw, if_pos (by omega), if_pos (by omega)]
   simp only [Option.bind_some, Int.toNat_natCast]
   rw [if_pos (by rw [hsz, strOfNums_size]; simp; omega)]
   rfl
  | false =>
   obtain ⟨b, hb, h⟩ := blk_loop1 n h1 hn c q t (64 - x.length) x rfl (by omega) (by omega)
   refine ⟨b, q, t, ⟨by omega, by omega⟩, hb, fun k hk => ?_⟩
   obtain ⟨k, rfl⟩ : ∃ m, k = m + 1 := ⟨k - 1, by omega⟩
   rw [spec_l09DrawBlock.l0, if_neg (by omega), e]
   simp only [Option.bind_some, Bool.false_eq_true, if_false]
   exact h k (by omega)
 | succ d ih =>
  intro i x p s hi hx h0 hp
  obtain ⟨r, t, hr, e⟩ := next_ok hc p s h0 (by omega)
  obtain ⟨b, q, t2, hq, hb, h⟩ := ih (i + 1) (x ++ [r % 256]) (p + 1) t (by omega) (by simp; omega) (by omega) (by omega)
  refine ⟨b, q, t2, ⟨by omega, by omega⟩, hb, fun k hk => ?_⟩
  obtain ⟨k, rfl⟩ : ∃ m, k = m + 1 := ⟨k - 1, by omega⟩
  rw [spec_l09DrawBlock.l0, if_pos (by omega), e]
  simp only [Option.bind_some]
  rw [if_pos (by omega), wrap_up i (by omega)]
  exact h k (by omega)
theorem blk_ok {c : List Int} (hc : Code c) (p s : Int) (h0 : 0 ≤ p) (h1 : p ≤ 1000000000) : ∃ (b : ByteArray) (q t : Int), (p ≤ q ∧ q ≤ p + 20) ∧ b.size = 64 ∧ ∀ k, 100 ≤ k → spec_l09DrawBlock.f k c p s = some (b, q, t) := by
 obtain ⟨r, q, t, hr, hq, e⟩ := pick_ok hc p s 9 h0 (by omega)
 obtain ⟨b, q2, t2, hq2, hb, h⟩ := blk_loop0 hc (1 + r.toNat) (by omega) (by omega) (1 + r.toNat) 0 [] q t (by omega) rfl (by omega) (by omega)
 refine ⟨b, q2, t2, ⟨by omega, by omega⟩, hb, fun k hk => ?_⟩
 unfold spec_l09DrawBlock.f
 rw [e]
 simp only [Option.bind_some]
 rw [show wrap64 (1 + r) = ((1 + r.toNat : Nat) : Int) by unfold wrap64; omega]
 exact h k (by omega)
theorem dp_loop {c : List Int} (hc : Code c) : ∀ (d : Nat) (x : List S79) (y p s : Int), x.length + d ≤ 10 → 0 ≤ p → p + 30 * d ≤ 1000000 → ∃ (l : List S79) (q t : Int), (p ≤ q ∧ q ≤ p + 30 * d) ∧ l.length ≤ 10 ∧ ∀ k, d + 200 < k → spec_l11DrawPages.l0 k 255 x y (d : Int) c p s = some (l, q, t) := by
 intro d
 induction d with
 | zero =>
  intro x y p s hx h0 hp
  refine ⟨x, p, s, ⟨by omega, by omega⟩, by omega, fun k hk => ?_⟩
  obtain ⟨k, rfl⟩ : ∃ m, k = m + 1 := ⟨k - 1, by omega⟩
  rw [spec_l11DrawPages.l0, if_neg (by omega)]
 | succ d ih =>
  intro x y p s hx h0 hp
  obtain ⟨r, q, t, hr, hq, e⟩ := pick_ok hc p s 3 h0 (by omega)
  by_cases hc1 : wrap64 (y + r) > 255
  · refine ⟨x, q, t, ⟨by omega, by omega⟩, by omega, fun k hk => ?_⟩
    obtain ⟨k, rfl⟩ : ∃ m, k = m + 1 := ⟨k - 1, by omega⟩
    rw [spec_l11DrawPages.l0, if_pos (by omega), e]
    simp only [Option.bind_some]
    rw [if_pos hc1]
  ·
   obtain ⟨b, q2, t2, hq2, hb, e2⟩ := blk_ok hc q t (by omega) (by omega)
   obtain ⟨l, q3, t3, hq3, hl, h⟩ := ih (x ++ [⟨wrap64 (y + r), b⟩]) (wrap64 (wrap64 (y + r) + 1)) q2 t2 (by simp; omega) (by omega) (by omega)
   refine ⟨l, q3, t3, ⟨by omega, by omega⟩, hl, fun k hk => ?_⟩
   obtain ⟨k, rfl⟩ : ∃ m, k = m + 1 := ⟨k - 1, by omega⟩
   rw [spec_l11DrawPages.l0, if_pos (by omega), e]
   simp only [Option.bind_some]
   rw [if_neg hc1, e2 k (by omega)]
   simp only [Option.bind_some]
   rw [if_pos (by omega), show wrap64 (((d + 1 : Nat) : Int) - 1) = (d : Int) by unfold wrap64; omega]
   exact h k (by omega)
theorem dp_ok {c : List Int} (hc : Code c) (p s a1 : Int) (h0 : 0 ≤ p) (h1 : p ≤ 100000) : ∃ (l : List S79) (q t : Int), (p ≤ q ∧ q ≤ p + 200) ∧ l.length ≤ 10 ∧ ∀ k, 300 ≤ k → spec_l11DrawPages.f k c p s a1 255 5 = some (l, q, t) := by
 obtain ⟨r, q, t, hr, hq, e⟩ := pick_ok hc p s 6 h0 (by omega)
 obtain ⟨l, q2, t2, hq2, hl, h⟩ := dp_loop hc r.toNat [] a1 q t (by simp; omega) (by omega) (by omega)
 refine ⟨l, q2, t2, ⟨by omega, by omega⟩, hl, fun k hk => ?_⟩
 unfold spec_l11DrawPages.f
 rw [show wrap64 (5 + 1) = 6 by unfold wrap64; omega, e]
 simp only [Option.bind_some]
 have := h k (by omega)
 rwa [show ((r.toNat : Nat) : Int) = r by omega] at this
theorem bent_loop (c : List Int) (p s : Int) : ∀ (d i : Nat) (x : List S79), i + d = 257 → x.length + d ≤ 300 → ∃ l : List S79, l.length ≤ 300 ∧ ∀ k, d < k → spec_l11DrawBent.l0 k x (i : Int) c p s = some (l, p, s) := by
 intro d
 induction d with
 | zero =>
  intro i x hi hx
  refine ⟨x, by omega, fun k hk => ?_⟩
  obtain ⟨k, rfl⟩ : ∃ m, k = m + 1 := ⟨k - 1, by omega⟩
  rw [spec_l11DrawBent.l0, if_neg (by omega)]
 | succ d ih =>
  intro i x hi hx
  obtain ⟨z, hz, ez⟩ := zero_ok
  obtain ⟨l, hl, h⟩ := ih (i + 1) (x ++ [⟨(i : Int), z⟩]) (by omega) (by simp; omega)
  refine ⟨l, hl, fun k hk => ?_⟩
  obtain ⟨k, rfl⟩ : ∃ m, k = m + 1 := ⟨k - 1, by omega⟩
  rw [spec_l11DrawBent.l0, if_pos (by omega), ez]
  simp only [Option.bind_some]
  rw [if_pos (by omega), wrap_up i (by omega)]
  exact h k (by omega)
theorem bent_ok {c : List Int} (hc : Code c) (p s a1 : Int) (h0 : 0 ≤ p) (h1 : p ≤ 10000) : ∃ (l : List S79) (q t : Int), (p ≤ q ∧ q ≤ p + 1000) ∧ l.length ≤ 300 ∧ ∀ k, 1000 ≤ k → spec_l11DrawBent.f k c p s a1 = some (l, q, t) := by
 obtain ⟨r, q, t, hr, hq, e⟩ := pick_ok hc p s 12 h0 (by omega)
 obtain ⟨x, q2, t2, hq2, hx, e2⟩ := dp_ok hc q t r (by omega) (by omega)
 obtain ⟨o, q3, t3, hq3, e3⟩ := one_ok hc q2 t2 a1 (by omega) (by omega)
 cases o with
 | false =>
  refine ⟨x, q3, t3, ⟨by omega, by omega⟩, by omega, fun k hk => ?_⟩
  unfold spec_l11DrawBent.f
  rw [e]
  simp only [Option.bind_some]
  rw [e2 k (by omega)]
  simp only [Option.bind_some]
  rw [e3]
  simp only [Option.bind_some, Bool.false_eq_true, if_false]
 | true =>
  obtain ⟨r4, q4, t4, hr4, hq4, e4⟩ := pick_ok hc q3 t3 3 (by omega) (by omega)
  by_cases c1 : r4 = 0
  ·
   obtain ⟨i, q5, t5, hi, hq5, e5⟩ := among_ok hc q4 t4 [(-1), 256, 0, 3] (by simp) (by omega) (by omega)
   obtain ⟨z, hz, ez⟩ := zero_ok
   refine ⟨x ++ [⟨rd [(-1), 256, 0, 3] (i : Int), z⟩], q5, t5, ⟨by omega, by omega⟩, by simp; omega, fun k hk => ?_⟩
   unfold spec_l11DrawBent.f
   rw [e]
   simp only [Option.bind_some]
   rw [e2 k (by omega)]
   simp only [Option.bind_some]
   rw [e3]
   simp only [Option.bind_some, if_true]
   rw [e4]
   simp only [Option.bind_some]
   rw [if_pos c1, e5]
   simp only [Option.bind_some]
   rw [ez]
   simp only [Option.bind_some]
   rw [if_pos (by omega)]
  ·
   by_cases c2 : r4 = 1
   ·
    obtain ⟨b, q5, t5, hq5, hb, e5⟩ := word_ok hc q4 t4 70 (by omega) (by omega) (by omega)
    refine ⟨x ++ [⟨200, b⟩], q5, t5, ⟨by omega, by omega⟩, by simp; omega, fun k hk => ?_⟩
    unfold spec_l11DrawBent.f
    rw [e]
    simp only [Option.bind_some]
    rw [e2 k (by omega)]
    simp only [Option.bind_some]
    rw [e3]
    simp only [Option.bind_some, if_true]
    rw [e4]
    simp only [Option.bind_some]
    rw [if_neg c1, if_pos c2, e5 k (by omega)]
    simp only [Option.bind_some]
    rw [if_pos (by omega)]
   ·
    obtain ⟨l, hl, h⟩ := bent_loop c q4 t4 257 0 x (by omega) (by omega)
    refine ⟨l, q4, t4, ⟨by omega, by omega⟩, hl, fun k hk => ?_⟩
    unfold spec_l11DrawBent.f
    rw [e]
    simp only [Option.bind_some]
    rw [e2 k (by omega)]
    simp only [Option.bind_some]
    rw [e3]
    simp only [Option.bind_some, if_true]
    rw [e4]
    simp only [Option.bind_some]
    rw [if_neg c1, if_neg c2]
    exact h k (by omega)
theorem okm {l : List S79} (h : ∀ i, i < l.length → okP l i) (z : S79) (hz : z ∈ l) : (0 ≤ z.f0 ∧ z.f0 ≤ 255) ∧ (z.f1.size : Int) = 64 := by
 obtain ⟨j, hj, rfl⟩ := List.getElem_of_mem hz
 obtain ⟨h1, h2, _⟩ := h j hj
 rw [rdP l j hj] at h1 h2
 exact ⟨h1, h2⟩
theorem mok (l : List S79) (hs : Srt l) (h : ∀ z ∈ l, (0 ≤ z.f0 ∧ z.f0 ≤ 255) ∧ (z.f1.size : Int) = 64) (i : Nat) (hi : i < l.length) : okP l i := by
 have := h l[i] (List.getElem_mem hi)
 refine ⟨by rw [rdP l i hi]; exact this.1, by rw [rdP l i hi]; exact this.2, ?_⟩
 by_cases h0 : i = 0
 · exact .inl h0
 · refine .inr ?_
   rw [show ((i : Int) - 1) = ((i - 1 : Nat) : Int) by omega, rdP l i hi, rdP l (i - 1) (by omega)]
   exact srt_get hs (i - 1) i hi (by omega)
theorem ct_le (l : List S79) (hs : Srt l) (h : ∀ z ∈ l, 0 ≤ z.f0) : ∀ c : Nat, ct (c : Int) l ≤ c := by
 intro c
 induction c with
 | zero => rw [ct_zero _ l (fun z hz => by have := h z hz; omega)]; omega
 | succ c ih =>
  rw [show ((c + 1 : Nat) : Int) = (c : Int) + 1 by omega, ct_up (c : Int) l hs]
  split <;> omega
theorem top_loop (a b m : List S79) (ha : Srt a) (hb : Srt b) (hm : m = mrg a b) (la : a.length ≤ 1000) (lb : b.length ≤ 1000) (hz : ∀ z ∈ m, (0 ≤ z.f0 ∧ z.f0 ≤ 255) ∧ (z.f1.size : Int) = 64) : ∀ (d i : Nat) (k : Nat), i + d = 256 → 1048600 + 3 * d ≤ k → laws_FnMerged.l0 k a b m ((ct (i : Int) m : Nat) : Int) (i : Int) = some true := by
 have hs : Srt m := by rw [hm]; exact mrg_srt b hb a ha
 have hml : m.length ≤ 256 := by
  have := ct_le m hs (fun z hz' => (hz z hz').1.1) 256
  rwa [ct_all _ m (fun z hz' => by have := (hz z hz').1.2; omega)] at this
 intro d
 induction d with
 | zero =>
  intro i k hi hk
  obtain ⟨k, rfl⟩ : ∃ z, k = z + 1 := ⟨k - 1, by omega⟩
  rw [laws_FnMerged.l0, if_neg (by omega), ct_all _ m (fun z hz' => by have := (hz z hz').1.2; omega), if_pos rfl]
  unfold spec_ValidPages.f
  rw [pages_spec k m (by omega) (by omega), decide_eq_true hml, decide_eq_true (mok m hs hz)]
  rfl
 | succ d ih =>
  intro i k hi hk
  obtain ⟨k, rfl⟩ : ∃ z, k = z + 1 + 1 + 1 := ⟨k - 3, by omega⟩
  have h1 := ih (i + 1) k (by omega) (by omega)
  have hu := ct_up (i : Int) m hs
  rw [show ((i + 1 : Nat) : Int) = (i : Int) + 1 by omega] at h1
  have hcl := ct_le m hs (fun z hz' => (hz z hz').1.1) i
  have hf := fd_mrg (i : Int) a b ha hb
  rw [← hm] at hf
  rw [laws_FnMerged.l0, if_pos (by omega), spec_page a i ha (by omega) _ (by omega), spec_page b i hb (by omega) _ (by omega), impl_page m i hs (by omega) _ (by omega)]
  simp only [Option.bind_some]
  have w1 : wrap64 ((i : Int) + 1) = (i : Int) + 1 := by unfold wrap64; omega
  have w2 : wrap64 (((ct (i : Int) m : Nat) : Int) + 1) = ((ct (i : Int) m + 1 : Nat) : Int) := by unfold wrap64; omega
  cases eb : fd (i : Int) b with
  | some y =>
   rw [eb] at hf
   have hf' : fd (i : Int) m = some y := hf
   rw [hf'] at hu ⊢
   rw [show (rs (some y)).2 = true from rfl, if_pos rfl] at hu
   rw [hu] at h1
   cases ea : fd (i : Int) a with
   | some x =>
    simp only [rs, if_true]
    rw [laws_FnMerged.j2]
    simp only [if_true, bne_self_eq_false, Bool.false_eq_true, if_false]
    rw [laws_FnMerged.j3]
    simp only [if_true, Bool.false_eq_true, if_false]
    rw [w1, w2]
    exact h1
   | none =>
    simp only [rs, if_true]
    rw [laws_FnMerged.j2]
    simp only [if_true, bne_self_eq_false, Bool.false_eq_true, if_false]
    rw [laws_FnMerged.j3]
    simp only [if_true, Bool.false_eq_true, if_false]
    rw [w1, w2]
    exact h1
  | none =>
   rw [eb] at hf
   have hf' : fd (i : Int) m = fd (i : Int) a := hf
   cases ea : fd (i : Int) a with
   | some x =>
    rw [ea] at hf'
    rw [hf'] at hu ⊢
    rw [show (rs (some x)).2 = true from rfl, if_pos rfl] at hu
    rw [hu] at h1
    simp only [rs, Bool.false_eq_true, if_false]
    rw [laws_FnMerged.j2]
    simp only [if_true, bne_self_eq_false, Bool.false_eq_true, if_false]
    rw [laws_FnMerged.j3]
    simp only [if_true, Bool.false_eq_true, if_false]
    rw [w1, w2]
    exact h1
   | none =>
    rw [ea] at hf'
    rw [hf'] at hu ⊢
    rw [show (rs none).2 = false from rfl, if_neg (by decide), Nat.add_zero] at hu
    rw [hu] at h1
    simp only [rs, Bool.false_eq_true, if_false]
    rw [laws_FnMerged.j2]
    simp only [if_true, bne_self_eq_false, Bool.false_eq_true, if_false]
    rw [laws_FnMerged.j3]
    simp only [if_true, Bool.false_eq_true, if_false]
    rw [w1]
    exact h1
theorem FnMerged : laws_FnMerged.Pure := by
 rintro c ⟨-, hw⟩
 have hc := code_wf hw
 obtain ⟨a, q, t, hq, la, e1⟩ := bent_ok hc 0 0 9 (by omega) (by omega)
 obtain ⟨b, q2, t2, hq2, lb, e2⟩ := bent_ok hc q t 9 (by omega) (by omega)
 refine ⟨9000000, ?_⟩
 by_cases hlong : (c.length : Int) > 1048576
 · unfold laws_FnMerged.f laws_b10Long.f
   simp [hlong]
 unfold laws_FnMerged.f laws_b10Long.f
 rw [decide_eq_false hlong]
 simp only [Option.bind_some, Bool.false_eq_true, if_false]
 have ed : spec_DrawMergePages.f 9000000 c = some (a, b) := by
  unfold spec_DrawMergePages.f spec_l00From.f
  simp only [Option.bind_some]
  rw [e1 _ (by omega)]
  simp only [Option.bind_some]
  rw [e2 _ (by omega)]
  rfl
 rw [ed]
 simp only [Option.bind_some]
 unfold spec_ValidPages.f
 rw [pages_spec _ a (by omega) (by omega), pages_spec _ b (by omega) (by omega)]
 simp only [Option.bind_some]
 by_cases ha : (decide (a.length ≤ 256) && decide (∀ i, i < a.length → okP a i)) = true
 ·
  rw [if_pos ha]
  by_cases hb : (decide (b.length ≤ 256) && decide (∀ i, i < b.length → okP b i)) = true
  ·
   have ha' := ha
   have hb' := hb
   rw [Bool.and_eq_true, decide_eq_true_iff, decide_eq_true_iff] at ha' hb'
   obtain ⟨a1, a2⟩ := ha'
   obtain ⟨b1, b2⟩ := hb'
   have sa := srt_ok a2
   have sb := srt_ok b2
   rw [hb, laws_FnMerged.j0]
   simp only [Bool.not_true, Bool.false_eq_true, if_false]
   unfold impl_MergePages.f
   rw [pages_impl _ a (by omega) (by omega), ha]
   simp only [Option.bind_some, if_true]
   rw [pages_impl _ b (by omega) (by omega), hb]
   simp only [Option.bind_some, if_true]
   rw [merged_eq a b sa sb (by omega) (by omega) _ (by omega)]
   simp only [Option.bind_some]
   have hz : ∀ z ∈ mrg a b, (0 ≤ z.f0 ∧ z.f0 ≤ 255) ∧ (z.f1.size : Int) = 64 := fun z hz => (mrg_mem a b z hz).elim (okm a2 z) (okm b2 z)
   have h := top_loop a b (mrg a b) sa sb rfl (by omega) (by omega) hz 256 0 8999999 (by omega) (by omega)
   rw [show ((0 : Nat) : Int) = 0 from rfl, ct_zero 0 _ (fun z hz' => (hz z hz').1.1), show ((0 : Nat) : Int) = 0 from rfl] at h
   exact h
  · rw [Bool.not_eq_true] at hb
    rw [hb, laws_FnMerged.j0, if_pos (by decide)]
 · rw [if_neg ha, laws_FnMerged.j0, if_pos rfl]

end Go.Proofs.Ytfblodggimjoaaa.Pure
