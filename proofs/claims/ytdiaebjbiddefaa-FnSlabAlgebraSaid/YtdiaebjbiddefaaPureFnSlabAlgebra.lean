/- The plain form of FnSlabAlgebra: for all arguments the answer is true. It holds without a condition. -/
import Derived.Test.YtdiaebjbiddefaaPFnSlabAlgebrax6
import Derived.OpenShut
namespace Go.Proofs.Ytdiaebjbiddefaa.Pure
open Go Go.RowKit Go.Proofs.Ytdiaebjbiddefaa.PFnSlabAlgebra Go.Proofs.YtdiaebjbiddefaaW.PrintWords Go.Proofs.YtdiaebjbiddefaaW.PrintLast Go.Proofs.YtdiaebjbiddefaaW.PrintMore
set_option linter.unusedVariables false
set_option linter.unusedSimpArgs false

theorem wrap64_id {a : Int} (h : -9223372036854775808 ≤ a) (h' : a ≤ 9223372036854775807) : wrap64 a = a := by unfold wrap64; omega
theorem count_loop {σ ρ : Type} (L : Nat → σ → Int → Option ρ) (n m : Nat) (I : Nat → σ → Prop) (R : ρ → Prop)
 (hstop : ∀ k s, m ≤ k → I n s → ∃ r, L (k + 1) s (n : Int) = some r ∧ R r)
 (hstep : ∀ k s (i : Nat), m ≤ k → i < n → I i s → (∃ s', I (i + 1) s' ∧ L (k + 1) s (i : Int) = L k s' ((i + 1 : Nat) : Int)) ∨ ∃ r, L (k + 1) s (i : Int) = some r ∧ R r)
 (k : Nat) (s : σ) (i : Nat) (hi : i ≤ n) (hk : n - i + m < k) (h : I i s) : ∃ r, L k s (i : Int) = some r ∧ R r := by
 obtain ⟨d, hd⟩ : ∃ d, d = n - i := ⟨_, rfl⟩
 induction d generalizing k s i with
 | zero =>
  obtain ⟨k, rfl⟩ : ∃ z, k = z + 1 := ⟨k - 1, by omega⟩
  obtain rfl : i = n := by omega
  exact hstop k s (by omega) h
 | succ d ih =>
  obtain ⟨k, rfl⟩ : ∃ z, k = z + 1 := ⟨k - 1, by omega⟩
  rcases hstep k s i (by omega) (by omega) h with ⟨s', h', e⟩ | h'
  · rw [e]; exact ih k s' (i + 1) (by omega) (by omega) h' (by omega)
  · exact h'
theorem w0 : wrap64 0 = 0 := by unfold wrap64; omega
theorem w1 : wrap64 1 = 1 := by unfold wrap64; omega
theorem w2 : wrap64 2 = 2 := by unfold wrap64; omega
theorem w3 : wrap64 3 = 3 := by unfold wrap64; omega
theorem rd_lt (l : List Int) (i : Nat) (h : i < l.length) : rd l (i : Int) = l[i] := by
 simp [rd, List.getD_eq_getElem?_getD, List.getElem?_eq_getElem h]
theorem wrap_up (i : Nat) (h : i < 1099511627776) : wrap64 ((i : Int) + 1) = ((i + 1 : Nat) : Int) := by unfold wrap64; omega
theorem all_loop (L : Nat → Int → Option Bool) (P : Nat → Prop) [DecidablePred P] (n m : Nat) (r : Bool)
 (hend : ∀ k, m ≤ k → L (k + 1) (n : Int) = some r) (hstep : ∀ k (i : Nat), m ≤ k → i < n → L (k + 1) (i : Int) = if P i then L k ((i + 1 : Nat) : Int) else some false) (k : Nat) (hk : n + m < k) :
 L k 0 = some (decide (∀ i, i < n → P i) && r) := by
 obtain ⟨s, h, rfl⟩ := count_loop (fun k (_ : Unit) i => L k i) n m (fun i _ => ∀ j, j < i → P j) (fun s => s = (decide (∀ i, i < n → P i) && r))
  (by
   rintro k s hm h
   exact ⟨r, hend k hm, by simp [decide_eq_true h]⟩)
  (by
   rintro k s i hm hi h
   by_cases hp : P i
   · refine .inl ⟨(), ?_, by show L (k + 1) _ = _; rw [hstep k i hm hi, if_pos hp]⟩
     intro j hj
     by_cases hji : j = i
     · subst hji; exact hp
     · exact h j (by omega)
   · refine .inr ⟨false, by show L (k + 1) _ = _; rw [hstep k i hm hi, if_neg hp], ?_⟩
     have : ¬ ∀ i, i < n → P i := fun h => hp (h i hi)
     simp [this])
  k () 0 (by omega) (by omega) (by simp)
 exact h
def look (P : Nat → Prop) [DecidablePred P] : Nat → Nat → Int
 | 0, _ => -1
 | d + 1, i => if P i then (i : Int) else look P d (i + 1)
theorem look_or (P : Nat → Prop) [DecidablePred P] (d : Nat) : ∀ i, (look P d i = -1 ∧ ∀ j, i ≤ j → j < i + d → ¬ P j) ∨ ∃ j, i ≤ j ∧ j < i + d ∧ look P d i = (j : Int) ∧ P j := by
 induction d with
 | zero => intro i; exact .inl ⟨rfl, fun j h1 h2 => by omega⟩
 | succ d ih =>
  intro i
  by_cases hp : P i
  · exact .inr ⟨i, by omega, by omega, by rw [look, if_pos hp], hp⟩
  ·
   rw [look, if_neg hp]
   rcases ih (i + 1) with ⟨h1, h2⟩ | ⟨j, h1, h2, h3, h4⟩
   · refine .inl ⟨h1, fun j h3 h4 => ?_⟩
     by_cases hji : j = i
     · subst hji; exact hp
     · exact h2 j (by omega) (by omega)
   · exact .inr ⟨j, by omega, by omega, h3, h4⟩
theorem find_loop (L : Nat → Int → Option Int) (P : Nat → Prop) [DecidablePred P] (n m : Nat)
 (hend : ∀ k, m ≤ k → L (k + 1) (n : Int) = some (-1)) (hstep : ∀ k (i : Nat), m ≤ k → i < n → L (k + 1) (i : Int) = if P i then some (i : Int) else L k ((i + 1 : Nat) : Int)) (k : Nat) (hk : n + m < k) :
 L k 0 = some (look P n 0) := by
 have key : ∀ d k i, i + d = n → d + m < k → L k (i : Int) = some (look P d i) := by
  intro d
  induction d with
  | zero =>
   intro k i hi hk
   obtain ⟨k, rfl⟩ : ∃ z, k = z + 1 := ⟨k - 1, by omega⟩
   obtain rfl : i = n := by omega
   exact hend k (by omega)
  | succ d ih =>
   intro k i hi hk
   obtain ⟨k, rfl⟩ : ∃ z, k = z + 1 := ⟨k - 1, by omega⟩
   rw [hstep k i (by omega) (by omega), look]
   by_cases hp : P i
   · rw [if_pos hp, if_pos hp]
   · rw [if_neg hp, if_neg hp]; exact ih k (i + 1) (by omega) (by omega)
 exact key n k 0 (by omega) (by omega)
theorem getD_lt {α : Type} (l : List α) (z : α) (i : Nat) (h : i < l.length) : l.getD (i : Int).toNat z = l[i] := by
 simp [List.getD_eq_getElem?_getD, List.getElem?_eq_getElem h]
theorem in_eq (a b c : Int) : spec_l00In.f a b c = some (decide (b ≤ a ∧ a ≤ c)) := by
 unfold spec_l00In.f
 by_cases h : a ≥ b
 · rw [if_pos h]
   by_cases h2 : a ≤ c <;> simp [h2] <;> omega
 · rw [if_neg h]; simp; omega
def BoxAt (a b : List Int) (i : Nat) : Prop := 0 ≤ rd a i ∧ rd a i < rd b i ∧ rd b i ≤ 40
instance (a b : List Int) (i : Nat) : Decidable (BoxAt a b i) := by unfold BoxAt; infer_instance
def VBox (a b : List Int) : Prop := a.length ≤ 3 ∧ b.length = a.length ∧ ∀ i, i < a.length → BoxAt a b i
instance (a b : List Int) : Decidable (VBox a b) := by unfold VBox; infer_instance
theorem all_step {P : Nat → Prop} {i : Nat} (h : ∀ j, j < i → P j) (hi : P i) : ∀ j, j < i + 1 → P j := fun j hj => by
 by_cases e : j = i
 · subst e; exact hi
 · exact h j (by omega)
instance decS42 : DecidableEq S42 := fun a b =>
 if h0 : a.f0 = b.f0 then if h1 : a.f1 = b.f1 then isTrue (by cases a; cases b; cases h0; cases h1; rfl) else isFalse (fun h => h1 (by rw [h])) else isFalse (fun h => h0 (by rw [h]))
def inBx : List Int → List Int → List Int → Bool
 | a :: ah, b :: bs, x :: xs => (decide (a ≤ x) && decide (x < b)) && inBx ah bs xs
 | [], [], [] => true
 | _, _, _ => false
def mem (l : List S42) (p : List Int) : Bool := l.any fun b => inBx b.f0 b.f1 p
def inR (x : Int) (b : S42) : Bool := decide (rd b.f0 0 ≤ x ∧ x ≤ rd b.f1 0 - 1)
def cutB (b : S42) : S42 := ⟨b.f0.drop 1, b.f1.drop 1⟩
def secB (x : Int) (l : List S42) : List S42 := (l.filter (inR x)).map cutB
def VB (r : Nat) (b : S42) : Prop := b.f0.length = r ∧ b.f1.length = r ∧ ∀ i, i < r → BoxAt b.f0 b.f1 i
def VL (r : Nat) (l : List S42) : Prop := ∀ b ∈ l, VB r b
def pre (l : List S42) (a b : Int) : List S42 := l.map fun x => ⟨a :: x.f0, b :: x.f1⟩
def rle (f : Nat → List S42) : Nat → Nat → List S42 → List S42 → Int → List S42
 | 0, _, out, _, _ => out
 | d + 1, x, out, run, beg => if f x = run then rle f d (x + 1) out run beg else rle f d (x + 1) (out ++ pre run beg x) (f x) x
def NF : Nat → (List Int → Bool) → List S42
 | 0, P => if P [] = true then [⟨[], []⟩] else []
 | r + 1, P => rle (fun x => if x < 40 then NF r (fun p => P ((x : Int) :: p)) else []) 41 0 [] [] 0
theorem rd_cons0 (a : Int) (l : List Int) : rd (a :: l) 0 = a := rfl
theorem rd_consS (a : Int) (l : List Int) (i : Nat) : rd (a :: l) ((i + 1 : Nat) : Int) = rd l (i : Int) := by
 unfold rd
 rw [Int.toNat_natCast, Int.toNat_natCast]
 rfl
theorem VB_cons {r : Nat} {b : S42} (h : VB (r + 1) b) : ∃ a ah c cs, b = ⟨a :: ah, c :: cs⟩ ∧ (0 ≤ a ∧ a < c ∧ c ≤ 40) ∧ VB r ⟨ah, cs⟩ := by
 obtain ⟨f0, f1⟩ := b
 obtain ⟨h0, h1, h2⟩ := h
 obtain ⟨a, ah, rfl⟩ : ∃ a ah, f0 = a :: ah := by cases f0 with
  | nil => simp at h0
  | cons a ah => exact ⟨a, ah, rfl⟩
 obtain ⟨c, cs, rfl⟩ : ∃ a ah, f1 = a :: ah := by cases f1 with
  | nil => simp at h1
  | cons a ah => exact ⟨a, ah, rfl⟩
 refine ⟨a, ah, c, cs, rfl, h2 0 (by omega), by simpa using h0, by simpa using h1, fun i hi => ?_⟩
 have := h2 (i + 1) (by omega)
 unfold BoxAt at this ⊢
 simpa only [rd_consS] using this
theorem VL_cons {r : Nat} {b : S42} {l : List S42} : VL r (b :: l) ↔ VB r b ∧ VL r l := by
 unfold VL; simp
theorem sec_cons (x : Int) (b : S42) (l : List S42) : secB x (b :: l) = if inR x b = true then cutB b :: secB x l else secB x l := by
 unfold secB
 rw [List.filter_cons]
 split <;> simp
theorem sec_len (x : Int) (l : List S42) : (secB x l).length ≤ l.length := by
 unfold secB
 rw [List.length_map]
 exact List.length_filter_le _ _
theorem sec_VL {r : Nat} (x : Int) : ∀ {l : List S42}, VL (r + 1) l → VL r (secB x l)
 | [], _ => by simp [secB, VL]
 | b :: l, h => by
  obtain ⟨h1, h2⟩ := VL_cons.1 h
  obtain ⟨a, ah, c, cs, rfl, -, h5⟩ := VB_cons h1
  rw [sec_cons]
  split
  · exact VL_cons.2 ⟨h5, sec_VL x h2⟩
  · exact sec_VL x h2
theorem mem_cons (b : S42) (l : List S42) (p : List Int) : mem (b :: l) p = (inBx b.f0 b.f1 p || mem l p) := rfl
theorem sec_mem {r : Nat} (x : Int) (p : List Int) : ∀ {l : List S42}, VL (r + 1) l → mem (secB x l) p = mem l (x :: p)
 | [], _ => rfl
 | b :: l, h => by
  obtain ⟨h1, h2⟩ := VL_cons.1 h
  obtain ⟨a, ah, c, cs, rfl, h4, h5⟩ := VB_cons h1
  rw [sec_cons, mem_cons, ← sec_mem x p h2]
  show _ = (((decide (a ≤ x) && decide (x < c)) && inBx ah cs p) || _)
  by_cases hx : a ≤ x ∧ x ≤ c - 1
  · rw [if_pos (show inR x ⟨a :: ah, c :: cs⟩ = true from decide_eq_true hx), mem_cons]
    have e1 : decide (a ≤ x) = true := decide_eq_true hx.1
    have e2 : decide (x < c) = true := decide_eq_true (by omega)
    rw [e1, e2]
    rfl
  · rw [if_neg (show ¬ inR x ⟨a :: ah, c :: cs⟩ = true from fun e => hx (of_decide_eq_true e))]
    have e : (decide (a ≤ x) && decide (x < c)) = false := by
     rw [Bool.and_eq_false_iff, decide_eq_false_iff_not, decide_eq_false_iff_not]; omega
    rw [e]
    simp
theorem mem_zero : ∀ {l : List S42}, VL 0 l → mem l [] = decide (0 < l.length)
 | [], _ => rfl
 | b :: l, h => by
  obtain ⟨h1, h2⟩ := VL_cons.1 h
  obtain ⟨f0, f1⟩ := b
  have e0 : f0 = [] := List.length_eq_zero_iff.1 h1.1
  have e1 : f1 = [] := List.length_eq_zero_iff.1 h1.2.1
  subst e0; subst e1
  simp [mem, inBx]
theorem pre_nil (a b : Int) : pre [] a b = [] := rfl
theorem pre_len (l : List S42) (a b : Int) : (pre l a b).length = l.length := by unfold pre; rw [List.length_map]
theorem rle_len (f : Nat → List S42) (M : Nat) (hf : ∀ x, (f x).length ≤ M) : ∀ (d x : Nat) (out run : List S42) (beg : Int), run.length ≤ M → (rle f d x out run beg).length ≤ out.length + d * M := by
 intro d
 induction d with
 | zero => intro x out run beg _; simp [rle]
 | succ d ih =>
  intro x out run beg h
  have e : (d + 1) * M = d * M + M := by rw [Nat.add_mul, Nat.one_mul]
  unfold rle
  split
  · have := ih (x + 1) out run beg h; omega
  · have := ih (x + 1) (out ++ pre run beg x) (f x) x (hf x)
    rw [List.length_append, pre_len] at this
    omega
theorem NF_len : ∀ (r : Nat) (P : List Int → Bool), (NF r P).length ≤ 41 ^ r
 | 0, P => by unfold NF; split <;> simp
 | r + 1, P => by
  unfold NF
  have := rle_len (fun x => if x < 40 then NF r (fun p => P ((x : Int) :: p)) else []) (41 ^ r) (fun x => by
   show (if x < 40 then NF r (fun p => P ((x : Int) :: p)) else []).length ≤ _
   split
   · exact NF_len r _
   · simp) 41 0 [] [] 0 (by simp)
  simp only [List.length_nil, Nat.zero_add] at this
  rw [Nat.pow_succ, Nat.mul_comm]
  exact this
def Rows (r : Nat) (l : List S42) : Prop := ∀ b ∈ l, b.f0.length = r ∧ b.f1.length = r
theorem rows_nil (r : Nat) : Rows r [] := fun _ h => by cases h
theorem rows_app {r : Nat} {l m : List S42} (h : Rows r l) (h' : Rows r m) : Rows r (l ++ m) := fun b hb => by
 rcases List.mem_append.1 hb with hb | hb
 · exact h b hb
 · exact h' b hb
theorem rows_pre {r : Nat} {l : List S42} (h : Rows r l) (a b : Int) : Rows (r + 1) (pre l a b) := fun x hx => by
 obtain ⟨y, hy, rfl⟩ := List.mem_map.1 hx
 have := h y hy
 exact ⟨by simp [this.1], by simp [this.2]⟩
theorem rle_rows (f : Nat → List S42) (r : Nat) (hf : ∀ x, Rows r (f x)) : ∀ (d x : Nat) (out run : List S42) (beg : Int), Rows (r + 1) out → Rows r run → Rows (r + 1) (rle f d x out run beg) := by
 intro d
 induction d with
 | zero => intro x out run beg h _; exact h
 | succ d ih =>
  intro x out run beg h h'
  unfold rle
  split
  · exact ih _ _ _ _ h h'
  · exact ih _ _ _ _ (rows_app h (rows_pre h' _ _)) (hf x)
theorem NF_rows : ∀ (r : Nat) (P : List Int → Bool), Rows r (NF r P)
 | 0, P => by
  unfold NF
  split
  · intro b hb; rw [List.mem_singleton.1 hb]; exact ⟨rfl, rfl⟩
  · exact rows_nil 0
 | r + 1, P => by
  unfold NF
  refine rle_rows _ r (fun x => ?_) 41 0 [] [] 0 (rows_nil _) (rows_nil _)
  show Rows r (if x < 40 then NF r (fun p => P ((x : Int) :: p)) else [])
  split
  · exact NF_rows r _
  · exact rows_nil _
theorem rle_nil (f : Nat → List S42) (hf : ∀ x, f x = []) : ∀ (d x : Nat) (out : List S42) (beg : Int), rle f d x out [] beg = out := by
 intro d
 induction d with
 | zero => intro x out beg; rfl
 | succ d ih => intro x out beg; unfold rle; rw [if_pos (hf x)]; exact ih _ _ _
theorem NF_false : ∀ (r : Nat), NF r (fun _ => false) = []
 | 0 => rfl
 | r + 1 => by
  unfold NF
  exact rle_nil _ (fun x => by
   show (if x < 40 then NF r (fun _ => false) else []) = []
   rw [NF_false r]; split <;> rfl) 41 0 [] 0
theorem mem_ge {l : List S42} {r : Nat} (h : VL (r + 1) l) (c : Int) (hc : ∀ b ∈ l, rd b.f1 0 ≤ c) (p : List Int) (x : Int) (hx : c ≤ x) : mem l (x :: p) = false := by
 unfold mem
 rw [List.any_eq_false]
 intro b hb
 obtain ⟨a, ah, e, es, rfl, h4, h5⟩ := VB_cons (h b hb)
 have := hc _ hb
 rw [show rd (S42.mk (a :: ah) (e :: es)).f1 0 = e from rfl] at this
 show ¬ ((decide (a ≤ x) && decide (x < e)) && inBx ah es p) = true
 rw [show decide (x < e) = false from decide_eq_false (by omega)]
 simp
theorem seq_loop (L : Nat → Int → Option Bool) (P : Nat → Prop) [DecidablePred P] (n : Nat)
 (hend : ∀ k, L (k + 1) (n : Int) = some true) (hstep : ∀ k (i : Nat), i < n → L (k + 1) (i : Int) = if P i then L k ((i + 1 : Nat) : Int) else some false) (k : Nat) (hk : n < k) :
 L k 0 = some (decide (∀ i, i < n → P i)) := by
 rw [all_loop L P n 0 true (fun k _ => hend k) (fun k i _ hi => hstep k i hi) k (by omega), Bool.and_true]
theorem slices_Equal_int64_int64_is (k : Nat) (a b : List Int) (hl : a.length ≤ 1048576) (hk : 1048590 ≤ k) : slices_Equal_int64_int64.f k a b = some (decide (a = b)) := by
 unfold slices_Equal_int64_int64.f
 by_cases hn : (a.length : Int) = (b.length : Int)
 ·
  rw [if_pos hn, seq_loop (fun k i => slices_Equal_int64_int64.l0 k a b (a.length : Int) i) (fun i => rd a (i : Int) = rd b (i : Int)) a.length
   (by intro k; show slices_Equal_int64_int64.l0 (k + 1) a b _ _ = _; rw [slices_Equal_int64_int64.l0, if_neg (by omega)])
   (by
    intro k i hi
    show slices_Equal_int64_int64.l0 (k + 1) a b _ _ = _
    rw [slices_Equal_int64_int64.l0]
    repeat rw [if_pos (show (i : Int) < (a.length : Int) by omega)]
    repeat rw [if_pos (show (0 : Int) ≤ (i : Int) by omega)]
    repeat rw [if_pos (show (i : Int) < (a.length : Int) by omega)]
    repeat rw [if_pos (show (i : Int) < (b.length : Int) by omega)]
    rw [wrap_up i (by omega)])
   k (by omega)]
  have hb : a.length = b.length := by omega
  congr 1
  apply decide_eq_decide.2
  constructor
  · intro h
    apply List.ext_getElem hb
    intro i h1 h2
    have := h i h1
    rwa [rd_lt a i h1, rd_lt b i h2] at this
  · rintro rfl i _
    rfl
 · rw [if_neg hn, decide_eq_false]
   rintro rfl
   exact hn rfl
theorem within_eq (a b c : Int) : impl_within.f a b c = some (decide (b ≤ a ∧ a ≤ c)) := by
 unfold impl_within.f
 by_cases h : a ≥ b
 · rw [if_pos h]
   by_cases h2 : a ≤ c <;> simp [h2] <;> omega
 · rw [if_neg h]; simp; omega
theorem rd_at (l : List S42) (i : Nat) (h : i < l.length) : rd_T42 l (i : Int) = l[i] := getD_lt l z42 i h
theorem drop_at {α : Type} (l : List α) (i : Nat) (h : i < l.length) : l.drop i = l[i] :: l.drop (i + 1) := List.drop_eq_getElem_cons h
theorem same_eq (l m : List S42) (hlm : l.length = m.length) : (∀ i, i < l.length → (rd_T42 l (i : Int)).f0 = (rd_T42 m (i : Int)).f0 ∧ (rd_T42 l (i : Int)).f1 = (rd_T42 m (i : Int)).f1) ↔ l = m := by
 constructor
 ·
  intro h
  apply List.ext_getElem hlm
  intro i h1 h2
  have := h i h1
  rw [rd_at l i h1, rd_at m i h2] at this
  generalize l[i] = a at this; generalize m[i] = b at this
  obtain ⟨a0, a1⟩ := a; obtain ⟨b0, b1⟩ := b
  obtain ⟨rfl, rfl⟩ := this
  rfl
 · rintro rfl i _; exact ⟨rfl, rfl⟩
theorem same_impl (r : Nat) (hr : r ≤ 3) (l m : List S42) (hl : l.length ≤ 1048576) (hR : Rows r l) (k : Nat) (hk : 3000000 ≤ k) : impl_SameBoxes.f k l m = some (decide (l = m)) := by
 unfold impl_SameBoxes.f slices_EqualFunc_impl_sameBox.f
 by_cases h1 : l.length = m.length
 ·
  rw [if_pos (by omega), all_loop (fun k i => slices_EqualFunc_impl_sameBox.l0 k m l l.length i) (fun i => (rd_T42 l (i : Int)).f0 = (rd_T42 m (i : Int)).f0 ∧ (rd_T42 l (i : Int)).f1 = (rd_T42 m (i : Int)).f1) l.length 1048590 true
   (by intro k _; show slices_EqualFunc_impl_sameBox.l0 (k + 1) m l _ _ = _; rw [slices_EqualFunc_impl_sameBox.l0, if_neg (by omega)])
   (by
    intro k i hk hi
    show slices_EqualFunc_impl_sameBox.l0 (k + 1) m l _ _ = _
    have hq : (rd_T42 l (i : Int)).f0.length = r ∧ (rd_T42 l (i : Int)).f1.length = r := by rw [rd_at l i hi]; exact hR _ (List.getElem_mem hi)
    rw [slices_EqualFunc_impl_sameBox.l0, if_pos (by omega), if_pos (by omega), if_pos (by omega), if_pos (by omega), wrap_up i (by omega)]
    unfold impl_sameBox.f
    rw [slices_Equal_int64_int64_is k _ _ (by omega) hk, slices_Equal_int64_int64_is k _ _ (by omega) hk]
    simp only [Option.bind_some, decide_eq_true_eq]
    by_cases h0 : (rd_T42 l (i : Int)).f0 = (rd_T42 m (i : Int)).f0
    · rw [if_pos h0]
      simp only [Option.bind_some, decide_eq_true_eq]
      by_cases h2 : (rd_T42 l (i : Int)).f1 = (rd_T42 m (i : Int)).f1
      · rw [if_pos h2, if_pos ⟨h0, h2⟩]
      · rw [if_neg h2, if_neg (fun h => h2 h.2)]
    · rw [if_neg h0]
      simp only [Option.bind_some, Bool.false_eq_true, if_false]
      rw [if_neg (fun h => h0 h.1)])
   k (by omega)]
  simp only [Bool.and_true, Option.bind_some]
  congr 1
  exact decide_eq_decide.2 (same_eq l m h1)
 · rw [if_neg (by omega), decide_eq_false (fun h => h1 (by rw [h]))]
   rfl
theorem section_impl {r : Nat} (l : List S42) (x : Int) (h : VL (r + 1) l) (hl : l.length ≤ 1048576) (k : Nat) (hk : l.length < k) : impl_section.f k l x = some (secB x l) := by
 have key : ∀ (d i k : Nat) (out : List S42), i + d = l.length → out.length ≤ i → d < k → impl_section.l0 k x out l (l.length : Int) (i : Int) = some (out ++ secB x (l.drop i)) := by
  intro d
  induction d with
  | zero =>
   intro i k out hi ho hk
   obtain ⟨k, rfl⟩ : ∃ m, k = m + 1 := ⟨k - 1, by omega⟩
   rw [impl_section.l0, if_neg (by omega), List.drop_eq_nil_of_le (by omega)]
   simp [secB]
  | succ d ih =>
   intro i k out hi ho hk
   obtain ⟨k, rfl⟩ : ∃ m, k = m + 1 := ⟨k - 1, by omega⟩
   have hil : i < l.length := by omega
   obtain ⟨a, ah, c, cs, e, h4, h5⟩ := VB_cons (h _ (List.getElem_mem hil))
   rw [impl_section.l0, if_pos (by omega), if_pos (by omega), if_pos (by omega), rd_at l i hil, drop_at l i hil, sec_cons, e]
   have hwc : wrap64 (c - 1) = c - 1 := wrap64_id (by omega) (by omega)
   rw [if_pos (by simp), if_pos (by simp), within_eq, wrap_up i (by omega)]
   simp only [Option.bind_some, rd_cons0, decide_eq_true_eq, hwc]
   by_cases hx : a ≤ x ∧ x ≤ c - 1
   · rw [if_pos hx, if_pos (by simp; omega), if_pos (by simp; omega), if_pos (by omega), if_pos (show inR x ⟨a :: ah, c :: cs⟩ = true from decide_eq_true hx)]
     rw [ih (i + 1) k _ (by omega) (by simp; omega) (by omega), List.append_assoc]
     rfl
   · rw [if_neg hx, if_neg (show ¬ inR x ⟨a :: ah, c :: cs⟩ = true from fun e => hx (of_decide_eq_true e))]
     exact ih (i + 1) k _ (by omega) (by omega) (by omega)
 unfold impl_section.f
 have := key l.length 0 k [] (by omega) (by simp) hk
 simpa using this
theorem concat_impl (x : Int) (l : List Int) (hl : l.length ≤ 1000) (k : Nat) (hk : 10 ≤ k) : slices_Concat_int64_int64.f k [[x], l] = some (x :: l) := by
 obtain ⟨k, rfl⟩ : ∃ m, k = m + 6 := ⟨k - 6, by omega⟩
 have e0 : rd_L2 [[x], l] 0 = [x] := rfl
 have e1 : rd_L2 [[x], l] 1 = l := rfl
 have hw : wrap64 (1 + (l.length : Int)) = 1 + (l.length : Int) := by unfold wrap64; omega
 have z1 : wrap64 (0 + 1) = 1 := by unfold wrap64; omega
 have z2 : wrap64 (1 + 1) = 2 := by unfold wrap64; omega
 have hn : (([[x], l] : List (List Int)).length : Int) = 2 := rfl
 have h1 : (([x] : List Int).length : Int) = 1 := rfl
 unfold slices_Concat_int64_int64.f
 rw [hn, slices_Concat_int64_int64.l0, if_pos (by omega), if_pos (by omega), if_pos (by omega), e0, h1, z1, if_neg (by omega)]
 rw [slices_Concat_int64_int64.l0, if_pos (by omega), if_pos (by omega), if_pos (by omega), e1, hw, if_neg (by omega), z2]
 rw [slices_Concat_int64_int64.l0, if_neg (by omega)]
 show (Option.bind (if 0 ≤ 1 + (l.length : Int) ∧ 1 + (l.length : Int) ≤ 1073741824 then some [] else none) _) = _
 rw [if_pos (by omega)]
 simp only [Option.bind_some]
 rw [hn, slices_Concat_int64_int64.l1, if_pos (by omega), if_pos (by omega), if_pos (by omega), e0, if_pos (by simp), z1]
 rw [slices_Concat_int64_int64.l1, if_pos (by omega), if_pos (by omega), if_pos (by omega), e1, if_pos (by simp; omega), z2]
 rw [slices_Concat_int64_int64.l1, if_neg (by omega)]
 rfl
theorem prefixed_impl {r : Nat} (hr : r ≤ 3) (l : List S42) (a b : Int) (hR : Rows r l) (hl : l.length ≤ 1048576) (k : Nat) (hk : l.length + 10 < k) : impl_prefixed.f k l a b = some (pre l a b) := by
 have key : ∀ (d i k : Nat) (out : List S42), i + d = l.length → out.length ≤ i → d + 10 < k → impl_prefixed.l0 k a b out l (l.length : Int) (i : Int) = some (out ++ pre (l.drop i) a b) := by
  intro d
  induction d with
  | zero =>
   intro i k out hi ho hk
   obtain ⟨k, rfl⟩ : ∃ m, k = m + 1 := ⟨k - 1, by omega⟩
   rw [impl_prefixed.l0, if_neg (by omega), List.drop_eq_nil_of_le (by omega)]
   simp [pre]
  | succ d ih =>
   intro i k out hi ho hk
   obtain ⟨k, rfl⟩ : ∃ m, k = m + 1 := ⟨k - 1, by omega⟩
   have hil : i < l.length := by omega
   have hq := hR _ (List.getElem_mem hil)
   rw [impl_prefixed.l0, if_pos (by omega), if_pos (by omega), if_pos (by omega), rd_at l i hil, drop_at l i hil]
   rw [concat_impl a _ (by omega) k (by omega), concat_impl b _ (by omega) k (by omega), wrap_up i (by omega)]
   simp only [Option.bind_some]
   rw [if_pos (by omega), ih (i + 1) k _ (by omega) (by simp; omega) (by omega), List.append_assoc]
   rfl
 unfold impl_prefixed.f
 have := key l.length 0 k [] (by omega) (by simp) hk
 simpa using this
def wo (x y : Bool) : Bool := x && !y
theorem comb_either : ∀ (r : Nat), r ≤ 3 → ∀ (a b : List S42), VL r a → VL r b → a.length ≤ 1048576 → b.length ≤ 1048576 → ∀ k, 3000010 + 200 * r ≤ k → impl_combined_impl_either.f k r a b = some (NF r fun p => or (mem a p) (mem b p)) := by
 have hop : ∀ x y : Bool, impl_either.f x y = some (or x y) := by intro x y; cases x <;> cases y <;> rfl
 intro r
 induction r with
 | zero =>
  intro _ a b ha hb hla hlb k hk
  obtain ⟨k, rfl⟩ : ∃ m, k = m + 1 := ⟨k - 1, by omega⟩
  have e1 : decide ((a.length : Int) > 0) = mem a [] := by rw [mem_zero ha]; exact decide_eq_decide.2 (by omega)
  have e2 : decide ((b.length : Int) > 0) = mem b [] := by rw [mem_zero hb]; exact decide_eq_decide.2 (by omega)
  rw [impl_combined_impl_either.f, if_pos (by rfl), hop, e1, e2]
  simp only [Option.bind_some, NF]
  split <;> rfl
 | succ r ih =>
  intro hr a b ha hb hla hlb k hk
  obtain ⟨k, rfl⟩ : ∃ m, k = m + 1 := ⟨k - 1, by omega⟩
  have hM : ∀ P, (NF r P).length ≤ 68921 := fun P => Nat.le_trans (NF_len r P) (by
   have : r = 0 ∨ r = 1 ∨ r = 2 := by omega
   rcases this with rfl | rfl | rfl <;> decide)
  have loop : ∀ (d x k : Nat) (out run : List S42) (beg : Int), x + d = 41 → out.length ≤ x * 68921 → run.length ≤ 68921 → Rows r run → 3000010 + 200 * r + 3 * d < k →
   impl_combined_impl_either.l0 k ((r + 1 : Nat) : Int) a b out run beg (x : Int) = some (rle (fun x => if x < 40 then NF r (fun p => or (mem a ((x : Int) :: p)) (mem b ((x : Int) :: p))) else []) d x out run beg) := by
   intro d
   induction d with
   | zero =>
    intro x k out run beg hx ho hrun hrows hk
    obtain ⟨k, rfl⟩ : ∃ m, k = m + 1 := ⟨k - 1, by omega⟩
    rw [impl_combined_impl_either.l0, if_neg (by omega)]
    rfl
   | succ d ihd =>
    intro x k out run beg hx ho hrun hrows hk
    obtain ⟨k, rfl⟩ : ∃ m, k = m + 2 := ⟨k - 2, by omega⟩
    have hj : ∀ now : List S42, now = (if x < 40 then NF r (fun p => or (mem a ((x : Int) :: p)) (mem b ((x : Int) :: p))) else []) → impl_combined_impl_either.j2 (k + 1) ((r + 1 : Nat) : Int) a b out run beg (x : Int) now (x : Int) = some (rle (fun x => if x < 40 then NF r (fun p => or (mem a ((x : Int) :: p)) (mem b ((x : Int) :: p))) else []) (d + 1) x out run beg) := by
     intro now hnow
     have hn1 : now.length ≤ 68921 := by rw [hnow]; split; exact hM _; simp
     have hn2 : Rows r now := by rw [hnow]; split; exact NF_rows _ _; exact rows_nil _
     rw [impl_combined_impl_either.j2, same_impl r (by omega) now run (by omega) hn2 k (by omega), wrap_up x (by omega)]
     simp only [Option.bind_some, decide_eq_true_eq]
     unfold rle
     rw [← hnow]
     by_cases he : now = run
     · rw [if_pos he, if_pos he]
       exact ihd (x + 1) k out run beg (by omega) (Nat.le_trans ho (Nat.mul_le_mul_right _ (Nat.le_succ x))) hrun hrows (by omega)
     · rw [if_neg he, if_neg he, prefixed_impl (by omega : r ≤ 3) run beg x hrows (by omega) k (by omega)]
       simp only [Option.bind_some]
       have hpl := pre_len run beg x
       have hxm : x * 68921 ≤ 41 * 68921 := Nat.mul_le_mul_right 68921 (by omega)
       rw [if_pos (by rw [hpl]; omega)]
       exact ihd (x + 1) k _ now x (by omega) (by rw [List.length_append, hpl, Nat.add_mul]; omega) hn1 hn2 (by omega)
    rw [impl_combined_impl_either.l0, if_pos (by omega)]
    by_cases h40 : x < 40
    ·
     rw [if_pos (by omega), section_impl a x ha (by omega) (k + 1) (by omega), section_impl b x hb (by omega) (k + 1) (by omega)]
     simp only [Option.bind_some]
     rw [show wrap64 (((r + 1 : Nat) : Int) - 1) = (r : Int) by unfold wrap64; omega]
     rw [ih (by omega) _ _ (sec_VL x ha) (sec_VL x hb) (Nat.le_trans (sec_len _ _) hla) (Nat.le_trans (sec_len _ _) hlb) (k + 1) (by omega)]
     simp only [Option.bind_some]
     refine hj _ ?_
     rw [if_pos h40]
     congr 1
     funext p
     rw [sec_mem _ _ ha, sec_mem _ _ hb]
    · rw [if_neg (by omega)]
      exact hj _ (by rw [if_neg h40])
  have start : ∀ t : Bool, (t = true → a = [] ∧ b = []) → impl_combined_impl_either.j0 k ((r + 1 : Nat) : Int) a b t = some (NF (r + 1) fun p => or (mem a p) (mem b p)) := by
   intro t ht
   obtain ⟨k, rfl⟩ : ∃ m, k = m + 1 := ⟨k - 1, by omega⟩
   rw [impl_combined_impl_either.j0]
   cases t with
   | true =>
    obtain ⟨rfl, rfl⟩ := ht rfl
    rw [if_pos rfl]
    exact congrArg some (NF_false (r + 1)).symm
   | false =>
    rw [if_neg (by decide)]
    exact loop 41 0 k [] [] 0 (by omega) (by simp) (by simp) (rows_nil _) (by omega)
  rw [impl_combined_impl_either.f, if_neg (by omega)]
  by_cases h0 : (a.length : Int) = 0
  · rw [if_pos h0]
    exact start _ (fun h => ⟨List.length_eq_zero_iff.1 (by omega), List.length_eq_zero_iff.1 (by have := eq_of_beq h; omega)⟩)
  · rw [if_neg h0]
    exact start _ (fun h => by cases h)
theorem comb_and : ∀ (r : Nat), r ≤ 3 → ∀ (a b : List S42), VL r a → VL r b → a.length ≤ 1048576 → b.length ≤ 1048576 → ∀ k, 3000010 + 200 * r ≤ k → impl_combined_impl_and.f k r a b = some (NF r fun p => and (mem a p) (mem b p)) := by
 have hop : ∀ x y : Bool, impl_and.f x y = some (and x y) := by intro x y; cases x <;> cases y <;> rfl
 intro r
 induction r with
 | zero =>
  intro _ a b ha hb hla hlb k hk
  obtain ⟨k, rfl⟩ : ∃ m, k = m + 1 := ⟨k - 1, by omega⟩
  have e1 : decide ((a.length : Int) > 0) = mem a [] := by rw [mem_zero ha]; exact decide_eq_decide.2 (by omega)
  have e2 : decide ((b.length : Int) > 0) = mem b [] := by rw [mem_zero hb]; exact decide_eq_decide.2 (by omega)
  rw [impl_combined_impl_and.f, if_pos (by rfl), hop, e1, e2]
  simp only [Option.bind_some, NF]
  split <;> rfl
 | succ r ih =>
  intro hr a b ha hb hla hlb k hk
  obtain ⟨k, rfl⟩ : ∃ m, k = m + 1 := ⟨k - 1, by omega⟩
  have hM : ∀ P, (NF r P).length ≤ 68921 := fun P => Nat.le_trans (NF_len r P) (by
   have : r = 0 ∨ r = 1 ∨ r = 2 := by omega
   rcases this with rfl | rfl | rfl <;> decide)
  have loop : ∀ (d x k : Nat) (out run : List S42) (beg : Int), x + d = 41 → out.length ≤ x * 68921 → run.length ≤ 68921 → Rows r run → 3000010 + 200 * r + 3 * d < k →
   impl_combined_impl_and.l0 k ((r + 1 : Nat) : Int) a b out run beg (x : Int) = some (rle (fun x => if x < 40 then NF r (fun p => and (mem a ((x : Int) :: p)) (mem b ((x : Int) :: p))) else []) d x out run beg) := by
   intro d
   induction d with
   | zero =>
    intro x k out run beg hx ho hrun hrows hk
    obtain ⟨k, rfl⟩ : ∃ m, k = m + 1 := ⟨k - 1, by omega⟩
    rw [impl_combined_impl_and.l0, if_neg (by omega)]
    rfl
   | succ d ihd =>
    intro x k out run beg hx ho hrun hrows hk
    obtain ⟨k, rfl⟩ : ∃ m, k = m + 2 := ⟨k - 2, by omega⟩
    have hj : ∀ now : List S42, now = (if x < 40 then NF r (fun p => and (mem a ((x : Int) :: p)) (mem b ((x : Int) :: p))) else []) → impl_combined_impl_and.j2 (k + 1) ((r + 1 : Nat) : Int) a b out run beg (x : Int) now (x : Int) = some (rle (fun x => if x < 40 then NF r (fun p => and (mem a ((x : Int) :: p)) (mem b ((x : Int) :: p))) else []) (d + 1) x out run beg) := by
     intro now hnow
     have hn1 : now.length ≤ 68921 := by rw [hnow]; split; exact hM _; simp
     have hn2 : Rows r now := by rw [hnow]; split; exact NF_rows _ _; exact rows_nil _
     rw [impl_combined_impl_and.j2, same_impl r (by omega) now run (by omega) hn2 k (by omega), wrap_up x (by omega)]
     simp only [Option.bind_some, decide_eq_true_eq]
     unfold rle
     rw [← hnow]
     by_cases he : now = run
     · rw [if_pos he, if_pos he]
       exact ihd (x + 1) k out run beg (by omega) (Nat.le_trans ho (Nat.mul_le_mul_right _ (Nat.le_succ x))) hrun hrows (by omega)
     · rw [if_neg he, if_neg he, prefixed_impl (by omega : r ≤ 3) run beg x hrows (by omega) k (by omega)]
       simp only [Option.bind_some]
       have hpl := pre_len run beg x
       have hxm : x * 68921 ≤ 41 * 68921 := Nat.mul_le_mul_right 68921 (by omega)
       rw [if_pos (by rw [hpl]; omega)]
       exact ihd (x + 1) k _ now x (by omega) (by rw [List.length_append, hpl, Nat.add_mul]; omega) hn1 hn2 (by omega)
    rw [impl_combined_impl_and.l0, if_pos (by omega)]
    by_cases h40 : x < 40
    ·
     rw [if_pos (by omega), section_impl a x ha (by omega) (k + 1) (by omega), section_impl b x hb (by omega) (k + 1) (by omega)]
     simp only [Option.bind_some]
     rw [show wrap64 (((r + 1 : Nat) : Int) - 1) = (r : Int) by unfold wrap64; omega]
     rw [ih (by omega) _ _ (sec_VL x ha) (sec_VL x hb) (Nat.le_trans (sec_len _ _) hla) (Nat.le_trans (sec_len _ _) hlb) (k + 1) (by omega)]
     simp only [Option.bind_some]
     refine hj _ ?_
     rw [if_pos h40]
     congr 1
     funext p
     rw [sec_mem _ _ ha, sec_mem _ _ hb]
    · rw [if_neg (by omega)]
      exact hj _ (by rw [if_neg h40])
  have start : ∀ t : Bool, (t = true → a = [] ∧ b = []) → impl_combined_impl_and.j0 k ((r + 1 : Nat) : Int) a b t = some (NF (r + 1) fun p => and (mem a p) (mem b p)) := by
   intro t ht
   obtain ⟨k, rfl⟩ : ∃ m, k = m + 1 := ⟨k - 1, by omega⟩
   rw [impl_combined_impl_and.j0]
   cases t with
   | true =>
    obtain ⟨rfl, rfl⟩ := ht rfl
    rw [if_pos rfl]
    exact congrArg some (NF_false (r + 1)).symm
   | false =>
    rw [if_neg (by decide)]
    exact loop 41 0 k [] [] 0 (by omega) (by simp) (by simp) (rows_nil _) (by omega)
  rw [impl_combined_impl_and.f, if_neg (by omega)]
  by_cases h0 : (a.length : Int) = 0
  · rw [if_pos h0]
    exact start _ (fun h => ⟨List.length_eq_zero_iff.1 (by omega), List.length_eq_zero_iff.1 (by have := eq_of_beq h; omega)⟩)
  · rw [if_neg h0]
    exact start _ (fun h => by cases h)
theorem comb_without : ∀ (r : Nat), r ≤ 3 → ∀ (a b : List S42), VL r a → VL r b → a.length ≤ 1048576 → b.length ≤ 1048576 → ∀ k, 3000010 + 200 * r ≤ k → impl_combined_impl_without.f k r a b = some (NF r fun p => wo (mem a p) (mem b p)) := by
 have hop : ∀ x y : Bool, impl_without.f x y = some (wo x y) := by intro x y; cases x <;> cases y <;> rfl
 intro r
 induction r with
 | zero =>
  intro _ a b ha hb hla hlb k hk
  obtain ⟨k, rfl⟩ : ∃ m, k = m + 1 := ⟨k - 1, by omega⟩
  have e1 : decide ((a.length : Int) > 0) = mem a [] := by rw [mem_zero ha]; exact decide_eq_decide.2 (by omega)
  have e2 : decide ((b.length : Int) > 0) = mem b [] := by rw [mem_zero hb]; exact decide_eq_decide.2 (by omega)
  rw [impl_combined_impl_without.f, if_pos (by rfl), hop, e1, e2]
  simp only [Option.bind_some, NF]
  split <;> rfl
 | succ r ih =>
  intro hr a b ha hb hla hlb k hk
  obtain ⟨k, rfl⟩ : ∃ m, k = m + 1 := ⟨k - 1, by omega⟩
  have hM : ∀ P, (NF r P).length ≤ 68921 := fun P => Nat.le_trans (NF_len r P) (by
   have : r = 0 ∨ r = 1 ∨ r = 2 := by omega
   rcases this with rfl | rfl | rfl <;> decide)
  have loop : ∀ (d x k : Nat) (out run : List S42) (beg : Int), x + d = 41 → out.length ≤ x * 68921 → run.length ≤ 68921 → Rows r run → 3000010 + 200 * r + 3 * d < k →
   impl_combined_impl_without.l0 k ((r + 1 : Nat) : Int) a b out run beg (x : Int) = some (rle (fun x => if x < 40 then NF r (fun p => wo (mem a ((x : Int) :: p)) (mem b ((x : Int) :: p))) else []) d x out run beg) := by
   intro d
   induction d with
   | zero =>
    intro x k out run beg hx ho hrun hrows hk
    obtain ⟨k, rfl⟩ : ∃ m, k = m + 1 := ⟨k - 1, by omega⟩
    rw [impl_combined_impl_without.l0, if_neg (by omega)]
    rfl
   | succ d ihd =>
    intro x k out run beg hx ho hrun hrows hk
    obtain ⟨k, rfl⟩ : ∃ m, k = m + 2 := ⟨k - 2, by omega⟩
    have hj : ∀ now : List S42, now = (if x < 40 then NF r (fun p => wo (mem a ((x : Int) :: p)) (mem b ((x : Int) :: p))) else []) → impl_combined_impl_without.j2 (k + 1) ((r + 1 : Nat) : Int) a b out run beg (x : Int) now (x : Int) = some (rle (fun x => if x < 40 then NF r (fun p => wo (mem a ((x : Int) :: p)) (mem b ((x : Int) :: p))) else []) (d + 1) x out run beg) := by
     intro now hnow
     have hn1 : now.length ≤ 68921 := by rw [hnow]; split; exact hM _; simp
     have hn2 : Rows r now := by rw [hnow]; split; exact NF_rows _ _; exact rows_nil _
     rw [impl_combined_impl_without.j2, same_impl r (by omega) now run (by omega) hn2 k (by omega), wrap_up x (by omega)]
     simp only [Option.bind_some, decide_eq_true_eq]
     unfold rle
     rw [← hnow]
     by_cases he : now = run
     · rw [if_pos he, if_pos he]
       exact ihd (x + 1) k out run beg (by omega) (Nat.le_trans ho (Nat.mul_le_mul_right _ (Nat.le_succ x))) hrun hrows (by omega)
     · rw [if_neg he, if_neg he, prefixed_impl (by omega : r ≤ 3) run beg x hrows (by omega) k (by omega)]
       simp only [Option.bind_some]
       have hpl := pre_len run beg x
       have hxm : x * 68921 ≤ 41 * 68921 := Nat.mul_le_mul_right 68921 (by omega)
       rw [if_pos (by rw [hpl]; omega)]
       exact ihd (x + 1) k _ now x (by omega) (by rw [List.length_append, hpl, Nat.add_mul]; omega) hn1 hn2 (by omega)
    rw [impl_combined_impl_without.l0, if_pos (by omega)]
    by_cases h40 : x < 40
    ·
     rw [if_pos (by omega), section_impl a x ha (by omega) (k + 1) (by omega), section_impl b x hb (by omega) (k + 1) (by omega)]
     simp only [Option.bind_some]
     rw [show wrap64 (((r + 1 : Nat) : Int) - 1) = (r : Int) by unfold wrap64; omega]
     rw [ih (by omega) _ _ (sec_VL x ha) (sec_VL x hb) (Nat.le_trans (sec_len _ _) hla) (Nat.le_trans (sec_len _ _) hlb) (k + 1) (by omega)]
     simp only [Option.bind_some]
     refine hj _ ?_
     rw [if_pos h40]
     congr 1
     funext p
     rw [sec_mem _ _ ha, sec_mem _ _ hb]
    · rw [if_neg (by omega)]
      exact hj _ (by rw [if_neg h40])
  have start : ∀ t : Bool, (t = true → a = [] ∧ b = []) → impl_combined_impl_without.j0 k ((r + 1 : Nat) : Int) a b t = some (NF (r + 1) fun p => wo (mem a p) (mem b p)) := by
   intro t ht
   obtain ⟨k, rfl⟩ : ∃ m, k = m + 1 := ⟨k - 1, by omega⟩
   rw [impl_combined_impl_without.j0]
   cases t with
   | true =>
    obtain ⟨rfl, rfl⟩ := ht rfl
    rw [if_pos rfl]
    exact congrArg some (NF_false (r + 1)).symm
   | false =>
    rw [if_neg (by decide)]
    exact loop 41 0 k [] [] 0 (by omega) (by simp) (by simp) (rows_nil _) (by omega)
  rw [impl_combined_impl_without.f, if_neg (by omega)]
  by_cases h0 : (a.length : Int) = 0
  · rw [if_pos h0]
    exact start _ (fun h => ⟨List.length_eq_zero_iff.1 (by omega), List.length_eq_zero_iff.1 (by have := eq_of_beq h; omega)⟩)
  · rw [if_neg h0]
    exact start _ (fun h => by cases h)
theorem spec_l00Same_is (k : Nat) (a b : List Int) (hl : a.length ≤ 1048576) (hk : 1048590 ≤ k) : spec_l00Same.f k a b = some (decide (a = b)) := by
 unfold spec_l00Same.f
 by_cases hn : (a.length : Int) = (b.length : Int)
 ·
  rw [if_pos hn, seq_loop (fun k i => spec_l00Same.l0 k a b i) (fun i => rd a (i : Int) = rd b (i : Int)) a.length
   (by intro k; show spec_l00Same.l0 (k + 1) a b _ = _; rw [spec_l00Same.l0, if_neg (by omega)])
   (by
    intro k i hi
    show spec_l00Same.l0 (k + 1) a b _ = _
    rw [spec_l00Same.l0]
    repeat rw [if_pos (show (i : Int) < (a.length : Int) by omega)]
    repeat rw [if_pos (show (0 : Int) ≤ (i : Int) by omega)]
    repeat rw [if_pos (show (i : Int) < (a.length : Int) by omega)]
    repeat rw [if_pos (show (i : Int) < (b.length : Int) by omega)]
    rw [wrap_up i (by omega)])
   k (by omega)]
  have hb : a.length = b.length := by omega
  congr 1
  apply decide_eq_decide.2
  constructor
  · intro h
    apply List.ext_getElem hb
    intro i h1 h2
    have := h i h1
    rwa [rd_lt a i h1, rd_lt b i h2] at this
  · rintro rfl i _
    rfl
 · rw [if_neg hn, decide_eq_false]
   rintro rfl
   exact hn rfl
def insL (n : Int) : List Int → List Int
 | [] => [n]
 | y :: ys => if y ≥ n then (if y > n then n :: y :: ys else y :: ys) else y :: insL n ys
theorem ins_mem (n x : Int) : ∀ l : List Int, x ∈ insL n l ↔ x = n ∨ x ∈ l
 | [] => by simp [insL]
 | y :: ys => by
  unfold insL
  have ih := ins_mem n x ys
  split
  · split
    · simp
    · have : y = n := by omega
      subst this
      simp
  ·
   simp only [List.mem_cons, ih]
   constructor
   · rintro (h | h | h)
     · exact .inr (.inl h)
     · exact .inl h
     · exact .inr (.inr h)
   · rintro (h | h | h)
     · exact .inr (.inl h)
     · exact .inl h
     · exact .inr (.inr h)
theorem ins_sorted (n : Int) : ∀ {l : List Int}, l.Pairwise (· < ·) → (insL n l).Pairwise (· < ·)
 | [], _ => by simp [insL]
 | y :: ys, h => by
  unfold insL
  have h1 := List.pairwise_cons.1 h
  split
  · split
    · refine List.pairwise_cons.2 ⟨fun z hz => ?_, h⟩
      rcases List.mem_cons.1 hz with rfl | hz
      · omega
      · have := h1.1 z hz; omega
    · exact h
  · refine List.pairwise_cons.2 ⟨fun z hz => ?_, ins_sorted n h1.2⟩
    rcases (ins_mem n z ys).1 hz with rfl | hz
    · omega
    · exact h1.1 z hz
theorem ins_len (n : Int) : ∀ l : List Int, (insL n l).length ≤ l.length + 1
 | [] => by simp [insL]
 | y :: ys => by
  unfold insL
  have := ins_len n ys
  split
  · split <;> simp
  · simp; omega
theorem dropi (l : List Int) (i : Nat) (h : i < l.length) : l.drop i = rd l (i : Int) :: l.drop (i + 1) := by rw [rd_lt l i h]; exact List.drop_eq_getElem_cons h
theorem put_spec (l : List Int) (n : Int) (hl : l.length ≤ 1048576) (k : Nat) (hk : 2 * l.length + 2 < k) : spec_l00Put.f k l n = some (insL n l) := by
 have done : ∀ (d i k : Nat) (out : List Int), i + d = l.length → out.length ≤ i + 1 → 2 * d < k → spec_l00Put.l0 k l n out true (i : Int) = some (out ++ l.drop i) := by
  intro d
  induction d with
  | zero =>
   intro i k out hi ho hk
   obtain ⟨k, rfl⟩ : ∃ m, k = m + 1 := ⟨k - 1, by omega⟩
   rw [spec_l00Put.l0, if_neg (by omega), if_pos rfl, List.drop_eq_nil_of_le (by omega), List.append_nil]
  | succ d ih =>
   intro i k out hi ho hk
   obtain ⟨k, rfl⟩ : ∃ m, k = m + 2 := ⟨k - 2, by omega⟩
   rw [spec_l00Put.l0, if_pos (by omega), if_pos rfl, spec_l00Put.j1, if_neg (by decide), if_pos (by omega), if_pos (by omega), if_pos (by omega), wrap_up i (by omega), ih (i + 1) k _ (by omega) (by simp; omega) (by omega), dropi l i (by omega), List.append_assoc]
   rfl
 have todo : ∀ (d i k : Nat) (out : List Int), i + d = l.length → out.length ≤ i → 2 * d < k → spec_l00Put.l0 k l n out false (i : Int) = some (out ++ insL n (l.drop i)) := by
  intro d
  induction d with
  | zero =>
   intro i k out hi ho hk
   obtain ⟨k, rfl⟩ : ∃ m, k = m + 1 := ⟨k - 1, by omega⟩
   rw [spec_l00Put.l0, if_neg (by omega), if_neg (by decide), if_pos (by omega), List.drop_eq_nil_of_le (by omega)]
   rfl
  | succ d ih =>
   intro i k out hi ho hk
   obtain ⟨k, rfl⟩ : ∃ m, k = m + 2 := ⟨k - 2, by omega⟩
   rw [spec_l00Put.l0, if_pos (by omega), if_neg (by decide), if_pos (by omega), spec_l00Put.j1, dropi l i (by omega)]
   unfold insL
   by_cases h1 : rd l (i : Int) ≥ n
   ·
    rw [if_pos (decide_eq_true h1), if_pos h1, if_pos (by omega), if_pos (by omega)]
    by_cases h2 : rd l (i : Int) > n
    · rw [if_pos h2, if_pos h2, if_pos (by omega)]
      simp only [Option.bind_some]
      rw [if_pos (by simp; omega), wrap_up i (by omega), done d (i + 1) k _ (by omega) (by simp; omega) (by omega)]
      simp
    · rw [if_neg h2, if_neg h2, if_pos (by omega), wrap_up i (by omega), done d (i + 1) k _ (by omega) (by simp; omega) (by omega)]
      simp
   · rw [if_neg (by simpa using h1), if_neg h1, if_pos (by omega), if_pos (by omega), if_pos (by omega), wrap_up i (by omega), ih (i + 1) k _ (by omega) (by simp; omega) (by omega)]
     simp
 unfold spec_l00Put.f
 have := todo l.length 0 k [] (by omega) (by simp) (by omega)
 simpa using this
def cutsL : List Int → List S42 → List Int
 | c, [] => c
 | c, b :: l => cutsL (insL (rd b.f1 0) (insL (rd b.f0 0) c)) l
theorem cuts_mem (x : Int) : ∀ (l : List S42) (c : List Int), x ∈ cutsL c l ↔ x ∈ c ∨ ∃ b ∈ l, x = rd b.f0 0 ∨ x = rd b.f1 0
 | [], c => by simp [cutsL]
 | b :: l, c => by
  unfold cutsL
  rw [cuts_mem x l, ins_mem, ins_mem]
  constructor
  · rintro ((h | h | h) | ⟨z, h1, h2⟩)
    · exact .inr ⟨b, List.mem_cons_self, .inr h⟩
    · exact .inr ⟨b, List.mem_cons_self, .inl h⟩
    · exact .inl h
    · exact .inr ⟨z, List.mem_cons_of_mem _ h1, h2⟩
  ·
   rintro (h | ⟨z, h1, h2⟩)
   · exact .inl (.inr (.inr h))
   · rcases List.mem_cons.1 h1 with rfl | h1
     · rcases h2 with h2 | h2
       · exact .inl (.inr (.inl h2))
       · exact .inl (.inl h2)
     · exact .inr ⟨z, h1, h2⟩
theorem cuts_sorted : ∀ (l : List S42) (c : List Int), c.Pairwise (· < ·) → (cutsL c l).Pairwise (· < ·)
 | [], _, h => h
 | b :: l, c, h => cuts_sorted l _ (ins_sorted _ (ins_sorted _ h))
theorem cuts_len : ∀ (l : List S42) (c : List Int), (cutsL c l).length ≤ c.length + 2 * l.length
 | [], _ => by simp [cutsL]
 | b :: l, c => by
  unfold cutsL
  have := cuts_len l (insL (rd b.f1 0) (insL (rd b.f0 0) c))
  have h1 := ins_len (rd b.f1 0) (insL (rd b.f0 0) c)
  have h2 := ins_len (rd b.f0 0) c
  simp only [List.length_cons]
  omega
theorem cuts_spec {r : Nat} (l : List S42) (h : VL (r + 1) l) (hl : l.length ≤ 100000) : ∀ (d i k : Nat) (c : List Int), i + d = l.length → c.length + 2 * d ≤ 400000 → 1000000 + d < k → spec_l07Cuts.l0 k c l (i : Int) = some (cutsL c (l.drop i)) := by
 intro d
 induction d with
 | zero =>
  intro i k c hi hc hk
  obtain ⟨k, rfl⟩ : ∃ m, k = m + 1 := ⟨k - 1, by omega⟩
  rw [spec_l07Cuts.l0, if_neg (by omega), List.drop_eq_nil_of_le (by omega)]
  rfl
 | succ d ih =>
  intro i k c hi hc hk
  obtain ⟨k, rfl⟩ : ∃ m, k = m + 1 := ⟨k - 1, by omega⟩
  have hil : i < l.length := by omega
  have hq := h _ (List.getElem_mem hil)
  have h1 := ins_len (rd l[i].f0 0) c
  have h2 := ins_len (rd l[i].f1 0) (insL (rd l[i].f0 0) c)
  rw [spec_l07Cuts.l0, if_pos (by omega), if_pos (by omega), rd_at l i hil, if_pos (by rw [hq.1]; omega), put_spec c _ (by omega) k (by omega)]
  simp only [Option.bind_some]
  rw [if_pos (by rw [hq.2.1]; omega), put_spec _ _ (by omega) k (by omega)]
  simp only [Option.bind_some]
  rw [wrap_up i (by omega), ih (i + 1) k _ (by omega) (by omega) (by omega), drop_at l i hil]
  rfl
theorem cross_spec {r : Nat} (l : List S42) (x : Int) (h : VL (r + 1) l) (hl : l.length ≤ 1048576) (k : Nat) (hk : l.length < k) : spec_l07Cross.f k l x = some (secB x l) := by
 have key : ∀ (d i k : Nat) (out : List S42), i + d = l.length → out.length ≤ i → d < k → spec_l07Cross.l0 k l x out (i : Int) = some (out ++ secB x (l.drop i)) := by
  intro d
  induction d with
  | zero =>
   intro i k out hi ho hk
   obtain ⟨k, rfl⟩ : ∃ m, k = m + 1 := ⟨k - 1, by omega⟩
   rw [spec_l07Cross.l0, if_neg (by omega), List.drop_eq_nil_of_le (by omega)]
   simp [secB]
  | succ d ih =>
   intro i k out hi ho hk
   obtain ⟨k, rfl⟩ : ∃ m, k = m + 1 := ⟨k - 1, by omega⟩
   have hil : i < l.length := by omega
   obtain ⟨a, ah, c, cs, e, h4, h5⟩ := VB_cons (h _ (List.getElem_mem hil))
   rw [spec_l07Cross.l0, if_pos (by omega), if_pos (by omega), rd_at l i hil, drop_at l i hil, sec_cons, e]
   have hwc : wrap64 (c - 1) = c - 1 := wrap64_id (by omega) (by omega)
   rw [if_pos (by simp), if_pos (by simp), in_eq, wrap_up i (by omega)]
   simp only [Option.bind_some, rd_cons0, decide_eq_true_eq, hwc]
   by_cases hx : a ≤ x ∧ x ≤ c - 1
   · rw [if_pos hx, if_pos (by simp; omega), if_pos (by simp; omega), if_pos (by omega), if_pos (show inR x ⟨a :: ah, c :: cs⟩ = true from decide_eq_true hx)]
     rw [ih (i + 1) k _ (by omega) (by simp; omega) (by omega), List.append_assoc]
     rfl
   · rw [if_neg hx, if_neg (show ¬ inR x ⟨a :: ah, c :: cs⟩ = true from fun e => hx (of_decide_eq_true e))]
     exact ih (i + 1) k _ (by omega) (by omega) (by omega)
 unfold spec_l07Cross.f
 have := key l.length 0 k [] (by omega) (by simp) hk
 simpa using this
theorem same_spec (r : Nat) (hr : r ≤ 3) (l m : List S42) (hl : l.length ≤ 1048576) (hR : Rows r l) (k : Nat) (hk : 3000000 ≤ k) : spec_l07Same.f k l m = some (decide (l = m)) := by
 unfold spec_l07Same.f
 by_cases h1 : l.length = m.length
 ·
  rw [if_pos (by omega), all_loop (fun k i => spec_l07Same.l0 k l m i) (fun i => (rd_T42 l (i : Int)).f0 = (rd_T42 m (i : Int)).f0 ∧ (rd_T42 l (i : Int)).f1 = (rd_T42 m (i : Int)).f1) l.length 1048590 true
   (by intro k _; show spec_l07Same.l0 (k + 1) l m _ = _; rw [spec_l07Same.l0, if_neg (by omega)])
   (by
    intro k i hk hi
    show spec_l07Same.l0 (k + 1) l m _ = _
    have hq : (rd_T42 l (i : Int)).f0.length = r ∧ (rd_T42 l (i : Int)).f1.length = r := by rw [rd_at l i hi]; exact hR _ (List.getElem_mem hi)
    rw [spec_l07Same.l0, if_pos (by omega), if_pos (by omega), if_pos (by omega), wrap_up i (by omega)]
    unfold spec_l07SameBox.f
    rw [spec_l00Same_is k _ _ (by omega) hk, spec_l00Same_is k _ _ (by omega) hk]
    simp only [Option.bind_some, decide_eq_true_eq]
    by_cases h0 : (rd_T42 l (i : Int)).f0 = (rd_T42 m (i : Int)).f0
    · rw [if_pos h0]
      simp only [Option.bind_some, decide_eq_true_eq]
      by_cases h2 : (rd_T42 l (i : Int)).f1 = (rd_T42 m (i : Int)).f1
      · rw [if_pos h2, if_pos ⟨h0, h2⟩]
      · rw [if_neg h2, if_neg (fun h => h2 h.2)]
    · rw [if_neg h0]
      simp only [Option.bind_some, Bool.false_eq_true, if_false]
      rw [if_neg (fun h => h0 h.1)])
   k (by omega)]
  simp only [Bool.and_true]
  congr 1
  exact decide_eq_decide.2 (same_eq l m h1)
 · rw [if_neg (by omega), decide_eq_false (fun h => h1 (by rw [h]))]
def rleS (F : Int → List S42) : List Int → List S42 → List S42 → Int → List S42
 | [], out, _, _ => out
 | c :: cs, out, run, beg => if F c = run then rleS F cs out run beg else rleS F cs (out ++ pre run beg c) (F c) c
def rleFirst (F : Int → List S42) : List Int → List S42
 | [] => []
 | c :: cs => rleS F cs [] (F c) c
theorem rle_beg (f : Nat → List S42) : ∀ (d x : Nat) (out : List S42) (b b' : Int), rle f d x out [] b = rle f d x out [] b' := by
 intro d
 induction d with
 | zero => intro x out b b'; rfl
 | succ d ih =>
  intro x out b b'
  unfold rle
  split
  · exact ih _ _ _ _
  · rw [pre_nil, pre_nil]
theorem rle_cuts (F : Int → List S42) (C : List Int) (hF : ∀ y : Nat, 1 ≤ y → y ≤ 40 → (y : Int) ∉ C → F y = F ((y : Int) - 1)) : ∀ (d x : Nat) (cs : List Int) (out run : List S42) (beg : Int), x + d = 41 → 1 ≤ x → cs.Pairwise (· < ·) → (∀ c ∈ cs, (x : Int) ≤ c ∧ c ≤ 40) → (∀ y : Nat, x ≤ y → (y : Int) ∈ C → (y : Int) ∈ cs) → run = F ((x : Int) - 1) →
 rleS F cs out run beg = rle (fun n => F n) d x out run beg := by
 intro d
 induction d with
 | zero =>
  intro x cs out run beg hx h1 hs hc hC hrun
  cases cs with
  | nil => rfl
  | cons c cs => have := hc c List.mem_cons_self; omega
 | succ d ih =>
  intro x cs out run beg hx h1 hs hc hC hrun
  have hx1 : (((x + 1 : Nat) : Int) - 1) = (x : Int) := by omega
  unfold rle
  by_cases hm : (x : Int) ∈ cs
  ·
   obtain ⟨cs', rfl⟩ : ∃ cs', cs = (x : Int) :: cs' := by
    cases cs with
    | nil => cases hm
    | cons c cs' =>
     rcases List.mem_cons.1 hm with h | h
     · exact ⟨cs', by rw [h]⟩
     · have := (List.pairwise_cons.1 hs).1 _ h
       have := (hc c List.mem_cons_self).1
       omega
   have hs' := List.pairwise_cons.1 hs
   have hc' : ∀ c ∈ cs', ((x + 1 : Nat) : Int) ≤ c ∧ c ≤ 40 := fun c h => by
    have := hs'.1 c h
    have := (hc c (List.mem_cons_of_mem _ h)).2
    omega
   have hC' : ∀ y : Nat, x + 1 ≤ y → (y : Int) ∈ C → (y : Int) ∈ cs' := fun y hy h => by
    rcases List.mem_cons.1 (hC y (by omega) h) with e | e
    · omega
    · exact e
   unfold rleS
   by_cases he : F (x : Int) = run
   · rw [if_pos he, if_pos he]
     exact ih (x + 1) cs' out run beg (by omega) (by omega) hs'.2 hc' hC' (by rw [hx1]; exact he.symm)
   · rw [if_neg he, if_neg he]
     exact ih (x + 1) cs' _ _ _ (by omega) (by omega) hs'.2 hc' hC' (by rw [hx1])
  ·
   have hn : (x : Int) ∉ C := fun h => hm (hC x (Nat.le_refl _) h)
   have he : F (x : Int) = run := by rw [hF x h1 (by omega) hn, hrun]
   rw [if_pos he]
   refine ih (x + 1) cs out run beg (by omega) (by omega) hs (fun c h => ?_) (fun y hy h => hC y (by omega) h) (by rw [hx1]; exact he.symm)
   have h2 := hc c h
   have h3 : c ≠ (x : Int) := fun e => hm (e ▸ h)
   omega
theorem rle_first (F : Int → List S42) (C : List Int) (hs : C.Pairwise (· < ·)) (hF : ∀ y : Nat, 1 ≤ y → y ≤ 40 → (y : Int) ∉ C → F y = F ((y : Int) - 1)) (hF0 : ∀ y : Nat, (∀ c ∈ C, (y : Int) < c) → F y = []) (hC : ∀ c ∈ C, 0 ≤ c ∧ c ≤ 40) : ∀ (d x : Nat), x + d = 41 → (∀ c ∈ C, (x : Int) ≤ c) →
 rleFirst F C = rle (fun n => F n) d x [] [] 0 := by
 intro d
 induction d with
 | zero =>
  intro x hx h
  cases C with
  | nil => rfl
  | cons c cs => have := h c List.mem_cons_self; have := (hC c List.mem_cons_self).2; omega
 | succ d ih =>
  intro x hx h
  have hx1 : (((x + 1 : Nat) : Int) - 1) = (x : Int) := by omega
  by_cases hm : (x : Int) ∈ C
  ·
   obtain ⟨cs', e⟩ : ∃ cs', C = (x : Int) :: cs' := by
    cases C with
    | nil => cases hm
    | cons c cs' =>
     rcases List.mem_cons.1 hm with h1 | h1
     · exact ⟨cs', by rw [h1]⟩
     · have := (List.pairwise_cons.1 hs).1 _ h1
       have := h c List.mem_cons_self
       omega
   subst e
   have hs' := List.pairwise_cons.1 hs
   have h5 : rleS F cs' [] (F (x : Int)) (x : Int) = rle (fun n => F n) d (x + 1) [] (F (x : Int)) (x : Int) :=
    rle_cuts F _ hF d (x + 1) cs' [] _ _ (by omega) (by omega) hs'.2 (fun c h1 => ⟨by have := hs'.1 c h1; omega, (hC c (List.mem_cons_of_mem _ h1)).2⟩) (fun y hy h1 => by
     rcases List.mem_cons.1 h1 with e | e
     · omega
     · exact e) (by rw [hx1])
   show rleS F cs' [] (F (x : Int)) (x : Int) = _
   rw [h5]
   conv => rhs; unfold rle
   by_cases he : F (x : Int) = []
   · rw [if_pos he, he]
     exact rle_beg _ _ _ _ _ _
   · rw [if_neg he, pre_nil]
     rfl
  ·
   have he : F (x : Int) = [] := hF0 x (fun c hc => by
    have h2 := h c hc
    have h3 : c ≠ (x : Int) := fun e => hm (e ▸ hc)
    omega)
   rw [ih (x + 1) (by omega) (fun c hc => by
    have h2 := h c hc
    have h3 : c ≠ (x : Int) := fun e => hm (e ▸ hc)
    omega)]
   conv => rhs; unfold rle
   rw [if_pos he]
theorem mem_lt {l : List S42} {r : Nat} (h : VL (r + 1) l) (p : List Int) (x : Int) (hc : ∀ b ∈ l, x < rd b.f0 0) : mem l (x :: p) = false := by
 unfold mem
 rw [List.any_eq_false]
 intro b hb
 obtain ⟨a, ah, e, es, rfl, h4, h5⟩ := VB_cons (h b hb)
 have := hc _ hb
 rw [show rd (S42.mk (a :: ah) (e :: es)).f0 0 = a from rfl] at this
 show ¬ ((decide (a ≤ x) && decide (x < e)) && inBx ah es p) = true
 rw [show decide (a ≤ x) = false from decide_eq_false (by omega)]
 simp
theorem mem_step {r : Nat} (p : List Int) (x : Int) : ∀ {l : List S42}, VL (r + 1) l → (∀ b ∈ l, rd b.f0 0 ≠ x ∧ rd b.f1 0 ≠ x) → mem l (x :: p) = mem l ((x - 1) :: p)
 | [], _, _ => rfl
 | b :: l, h, hc => by
  obtain ⟨h1, h2⟩ := VL_cons.1 h
  obtain ⟨a, ah, c, cs, rfl, h4, h5⟩ := VB_cons h1
  have h6 := hc _ List.mem_cons_self
  rw [show rd (S42.mk (a :: ah) (c :: cs)).f0 0 = a from rfl, show rd (S42.mk (a :: ah) (c :: cs)).f1 0 = c from rfl] at h6
  rw [mem_cons, mem_cons, mem_step p x h2 (fun b hb => hc b (List.mem_cons_of_mem _ hb))]
  show (((decide (a ≤ x) && decide (x < c)) && inBx ah cs p) || _) = (((decide (a ≤ x - 1) && decide (x - 1 < c)) && inBx ah cs p) || _)
  rw [show decide (a ≤ x) = decide (a ≤ x - 1) from decide_eq_decide.2 (by omega), show decide (x < c) = decide (x - 1 < c) from decide_eq_decide.2 (by omega)]
theorem sorted_len : ∀ (l : List Int) (lo hi : Int), l.Pairwise (· < ·) → (∀ c ∈ l, lo ≤ c ∧ c ≤ hi) → lo ≤ hi + 1 → (l.length : Int) ≤ hi - lo + 1
 | [], lo, hi, _, _, h => by simp; omega
 | y :: ys, lo, hi, hs, hc, h => by
  have hs' := List.pairwise_cons.1 hs
  have hy := hc y List.mem_cons_self
  have := sorted_len ys (y + 1) hi hs'.2 (fun c h1 => ⟨by have := hs'.1 c h1; omega, (hc c (List.mem_cons_of_mem _ h1)).2⟩) (by omega)
  simp only [List.length_cons]
  omega
theorem VL_first {r : Nat} {l : List S42} (h : VL (r + 1) l) : ∀ b ∈ l, (0 ≤ rd b.f0 0 ∧ rd b.f0 0 ≤ 40) ∧ 0 ≤ rd b.f1 0 ∧ rd b.f1 0 ≤ 40 := fun b hb => by
 obtain ⟨a, ah, c, cs, rfl, h4, h5⟩ := VB_cons (h b hb)
 exact ⟨⟨h4.1, by show a ≤ 40; omega⟩, by show 0 ≤ c; omega, h4.2.2⟩
def FF (g : Bool → Bool → Bool) (r : Nat) (a b : List S42) (c : Int) : List S42 := if c < 40 then NF r (fun p => g (mem a (c :: p)) (mem b (c :: p))) else []
def KS : Nat → Nat
 | 0 => 4000000
 | r + 1 => KS r + 4000000
theorem KS_ge : ∀ r, 4000000 ≤ KS r
 | 0 => Nat.le_refl _
 | r + 1 => Nat.le_trans (KS_ge r) (Nat.le_add_right _ _)
theorem comb_spec (o : Int) (g : Bool → Bool → Bool) (hg : ∀ x y, spec_l07Holds.f o x y = some (g x y)) (h0 : g false false = false) : ∀ (r : Nat), r ≤ 3 → ∀ (a b : List S42), VL r a → VL r b → a.length ≤ 100000 → b.length ≤ 100000 → ∀ k, KS r ≤ k → spec_l07Combine.f k o a b r = some (NF r fun p => g (mem a p) (mem b p)) := by
 intro r
 induction r with
 | zero =>
  intro _ a b ha hb hla hlb k hk
  have hKr := KS_ge 0
  obtain ⟨k, rfl⟩ : ∃ m, k = m + 1 := ⟨k - 1, by omega⟩
  have e1 : decide ((a.length : Int) > 0) = mem a [] := by rw [mem_zero ha]; exact decide_eq_decide.2 (by omega)
  have e2 : decide ((b.length : Int) > 0) = mem b [] := by rw [mem_zero hb]; exact decide_eq_decide.2 (by omega)
  rw [spec_l07Combine.f]
  simp only [Option.bind_some]
  rw [if_pos (by rfl), hg, e1, e2]
  simp only [Option.bind_some, NF]
  split
  · rw [if_pos (by simp)]; rfl
  · rfl
 | succ r ih =>
  intro hr a b ha hb hla hlb k hk
  have hKS : KS (r + 1) = KS r + 4000000 := rfl
  have hKr := KS_ge r
  rw [hKS] at hk
  obtain ⟨k, rfl⟩ : ∃ m, k = m + 1 := ⟨k - 1, by omega⟩
  have hk3 : 3000000 ≤ k := by omega
  have hk4 : KS r + 3000000 < k := by omega
  have hM : ∀ P, (NF r P).length ≤ 68921 := fun P => Nat.le_trans (NF_len r P) (by
   have : r = 0 ∨ r = 1 ∨ r = 2 := by omega
   rcases this with rfl | rfl | rfl <;> decide)
  have hFM : ∀ c, (FF g r a b c).length ≤ 68921 := fun c => by unfold FF; split; exact hM _; simp
  have hFR : ∀ c, Rows r (FF g r a b c) := fun c => by unfold FF; split; exact NF_rows _ _; exact rows_nil _
  obtain ⟨C, hCe⟩ : ∃ C, C = cutsL (cutsL [] a) b := ⟨_, rfl⟩
  have hCs : C.Pairwise (· < ·) := by rw [hCe]; exact cuts_sorted _ _ (cuts_sorted _ _ List.Pairwise.nil)
  have hCm : ∀ x, x ∈ C ↔ (∃ q ∈ a, x = rd q.f0 0 ∨ x = rd q.f1 0) ∨ ∃ q ∈ b, x = rd q.f0 0 ∨ x = rd q.f1 0 := fun x => by
   rw [hCe, cuts_mem, cuts_mem]
   simp
  have hA := VL_first ha
  have hB := VL_first hb
  have hCb : ∀ c ∈ C, 0 ≤ c ∧ c ≤ 40 := fun c hc => by
   rcases (hCm c).1 hc with ⟨q, h1, h2⟩ | ⟨q, h1, h2⟩
   · have := hA q h1; omega
   · have := hB q h1; omega
  have hCl : C.length ≤ 41 := by have := sorted_len C 0 40 hCs hCb (by omega); omega
  have hF40 : ∀ c : Int, ¬ c < 40 → FF g r a b c = [] := fun c h => by unfold FF; rw [if_neg h]
  have hnone : ∀ c : Int, (∀ p, mem a (c :: p) = false) → (∀ p, mem b (c :: p) = false) → FF g r a b c = [] := fun c h1 h2 => by
   unfold FF
   split
   · rw [show (fun p => g (mem a (c :: p)) (mem b (c :: p))) = fun _ => false from by funext p; rw [h1, h2, h0]]
     exact NF_false r
   · rfl
  have hlast : ∀ c : Int, (∀ x ∈ C, x ≤ c) → FF g r a b c = [] := fun c h =>
   hnone c (fun p => mem_ge ha c (fun q hq => h _ ((hCm _).2 (.inl ⟨q, hq, .inr rfl⟩))) p c (by omega)) (fun p => mem_ge hb c (fun q hq => h _ ((hCm _).2 (.inr ⟨q, hq, .inr rfl⟩))) p c (by omega))
  have hF0 : ∀ y : Nat, (∀ c ∈ C, (y : Int) < c) → FF g r a b y = [] := fun y h =>
   hnone y (fun p => mem_lt ha p y (fun q hq => h _ ((hCm _).2 (.inl ⟨q, hq, .inl rfl⟩)))) (fun p => mem_lt hb p y (fun q hq => h _ ((hCm _).2 (.inr ⟨q, hq, .inl rfl⟩))))
  have hF : ∀ y : Nat, 1 ≤ y → y ≤ 40 → (y : Int) ∉ C → FF g r a b y = FF g r a b ((y : Int) - 1) := fun y h1 h2 hn => by
   have ea : ∀ p, mem a ((y : Int) :: p) = mem a (((y : Int) - 1) :: p) := fun p => mem_step p y ha (fun q hq => ⟨fun e => hn ((hCm _).2 (.inl ⟨q, hq, .inl e.symm⟩)), fun e => hn ((hCm _).2 (.inl ⟨q, hq, .inr e.symm⟩))⟩)
   have eb : ∀ p, mem b ((y : Int) :: p) = mem b (((y : Int) - 1) :: p) := fun p => mem_step p y hb (fun q hq => ⟨fun e => hn ((hCm _).2 (.inr ⟨q, hq, .inl e.symm⟩)), fun e => hn ((hCm _).2 (.inr ⟨q, hq, .inr e.symm⟩))⟩)
   by_cases h40 : y < 40
   · unfold FF
     rw [if_pos (by omega), if_pos (by omega)]
     congr 1
     funext p
     rw [ea, eb]
   · rw [hF40 y (by omega)]
     exact (hnone _ (fun p => by rw [← ea]; exact mem_ge ha 40 (fun q hq => (hA q hq).2.2) p y (by omega)) (fun p => by rw [← eb]; exact mem_ge hb 40 (fun q hq => (hB q hq).2.2) p y (by omega))).symm
  -- one round: what now is, and what follows
  have hlt : ∀ i : Nat, i < C.length → rd C (i : Int) ∈ C := fun i hi => by rw [rd_lt C i hi]; exact List.getElem_mem hi
  have hmono : ∀ i j : Nat, i < j → j < C.length → rd C (i : Int) < rd C (j : Int) := fun i j h1 h2 => by
   rw [rd_lt C i (by omega), rd_lt C j h2]
   exact List.pairwise_iff_getElem.1 hCs i j (by omega) h2 h1
  have round : ∀ (i k : Nat) (out run : List S42) (beg : Int) (R : Option (List S42)), i < C.length → KS r < k → (spec_l07Combine.j1 k o a b ((r + 1 : Nat) : Int) out C run beg (i : Int) (FF g r a b (rd C (i : Int))) = R) → spec_l07Combine.l0 (k + 1) o a b ((r + 1 : Nat) : Int) out C run beg (i : Int) = R := by
   intro i k out run beg R hi hk hR
   rw [spec_l07Combine.l0, if_pos (by omega), wrap_up i (by omega)]
   by_cases hl : i + 1 < C.length
   ·
    have hc40 : rd C (i : Int) < 40 := by have := hmono i (i + 1) (by omega) hl; have := (hCb _ (hlt (i + 1) hl)).2; omega
    rw [if_pos (by omega), if_pos (by omega), cross_spec a _ ha (by omega) k (by omega), cross_spec b _ hb (by omega) k (by omega)]
    simp only [Option.bind_some]
    rw [show wrap64 (((r + 1 : Nat) : Int) - 1) = (r : Int) by unfold wrap64; omega]
    rw [ih (by omega) _ _ (sec_VL _ ha) (sec_VL _ hb) (Nat.le_trans (sec_len _ _) hla) (Nat.le_trans (sec_len _ _) hlb) k (by omega)]
    simp only [Option.bind_some]
    have e : NF r (fun p => g (mem (secB (rd C (i : Int)) a) p) (mem (secB (rd C (i : Int)) b) p)) = FF g r a b (rd C (i : Int)) := by
     unfold FF
     rw [if_pos hc40]
     congr 1
     funext p
     rw [sec_mem _ _ ha, sec_mem _ _ hb]
    rw [e]
    exact hR
   ·
    rw [if_neg (by omega)]
    have e : FF g r a b (rd C (i : Int)) = [] := hlast _ (fun x hx => by
     obtain ⟨j, hj, rfl⟩ := List.mem_iff_getElem.1 hx
     by_cases hji : j = i
     · subst hji; rw [rd_lt C j hj]; exact Int.le_refl _
     · have := hmono j i (by omega) hi
       rw [rd_lt C j hj] at this
       omega)
    rw [e] at hR
    exact hR
  have put : ∀ (now run : List S42) (beg : Int) (i : Nat) (R : Option (List S42)) (K : Nat), i < C.length → Rows r run → run.length ≤ 68921 → ∀ (e q k : Nat) (out : List S42), q + e = run.length → out.length + e ≤ 2894682 →
   (∀ k', K ≤ k' → spec_l07Combine.l0 k' o a b ((r + 1 : Nat) : Int) (out ++ pre (run.drop q) beg (rd C (i : Int))) C now (rd C (i : Int)) ((i + 1 : Nat) : Int) = R) → K + e < k → spec_l07Combine.l1 k o a b ((r + 1 : Nat) : Int) out C run beg (i : Int) now (q : Int) = R := by
   intro now run beg i R K hi hrows hrl e
   induction e with
   | zero =>
    intro q k out hq ho hn hk
    obtain ⟨k, rfl⟩ : ∃ m, k = m + 1 := ⟨k - 1, by omega⟩
    have := hn k (by omega)
    rw [List.drop_eq_nil_of_le (by omega), pre_nil, List.append_nil] at this
    rw [spec_l07Combine.l1, if_neg (by omega), if_pos (by omega), if_pos (by omega), wrap_up i (by omega)]
    exact this
   | succ e ihe =>
    intro q k out hq ho hn hk
    obtain ⟨k, rfl⟩ : ∃ m, k = m + 1 := ⟨k - 1, by omega⟩
    have hql : q < run.length := by omega
    have hrow := hrows _ (List.getElem_mem hql)
    rw [spec_l07Combine.l1, if_pos (by omega)]
    simp only [Option.bind_some]
    rw [rd_at run q hql, if_pos (by omega), if_pos (by rw [hrow.1]; simp; omega), if_pos (by omega), if_pos (by omega), if_pos (by rw [hrow.2]; simp; omega), if_pos (by omega), wrap_up q (by omega)]
    refine ihe (q + 1) k _ (by omega) (by simp; omega) (fun k' hk' => ?_) (by omega)
    have := hn k' hk'
    rw [drop_at run q hql] at this
    rw [List.append_assoc]
    exact this
  have loop : ∀ (d i k : Nat) (out run : List S42) (beg : Int), i + d = C.length → 1 ≤ i → out.length ≤ i * 68921 → run.length ≤ 68921 → Rows r run → KS r + 70000 * d < k →
   spec_l07Combine.l0 k o a b ((r + 1 : Nat) : Int) out C run beg (i : Int) = some (rleS (FF g r a b) (C.drop i) out run beg) := by
   intro d
   induction d with
   | zero =>
    intro i k out run beg hi h1 ho hrl hrows hk
    obtain ⟨k, rfl⟩ : ∃ m, k = m + 1 := ⟨k - 1, by omega⟩
    rw [spec_l07Combine.l0, if_neg (by omega), List.drop_eq_nil_of_le (by omega)]
    rfl
   | succ d ihd =>
    intro i k out run beg hi h1 ho hrl hrows hk
    obtain ⟨k, rfl⟩ : ∃ m, k = m + 3 := ⟨k - 3, by omega⟩
    have hlen : out.length ≤ 2825761 := Nat.le_trans ho (Nat.mul_le_mul_right 68921 (by omega : i ≤ 41))
    refine round i (k + 2) out run beg _ (by omega) (by omega) ?_
    rw [spec_l07Combine.j1, if_pos (by omega), same_spec r (by omega) (FF g r a b (rd C (i : Int))) run (by have := hFM (rd C (i : Int)); omega) (hFR _) (k + 1) (by omega)]
    simp only [Option.bind_some]
    rw [spec_l07Combine.j2, dropi C i (by omega), wrap_up i (by omega)]
    unfold rleS
    by_cases he : FF g r a b (rd C (i : Int)) = run
    · rw [if_pos (decide_eq_true he), if_pos he]
      exact ihd (i + 1) k out run beg (by omega) (by omega) (Nat.le_trans ho (Nat.mul_le_mul_right _ (Nat.le_succ i))) hrl hrows (by omega)
    · rw [if_neg (by simpa using he), if_neg he]
      refine put _ run beg i _ (KS r + 70000 * d + 1) (by omega) hrows hrl run.length 0 k out (by omega) (by omega) (fun k' hk' => ?_) (by omega)
      rw [List.drop_zero]
      exact ihd (i + 1) k' _ _ _ (by omega) (by omega) (by rw [List.length_append, pre_len, Nat.add_mul]; omega) (hFM _) (hFR _) (by omega)
  have hcut : ∀ k, 3000000 ≤ k → (spec_l07Cuts.f k [] a).bind (fun t => spec_l07Cuts.f k t b) = some C := fun k hk => by
   unfold spec_l07Cuts.f
   have e1 := cuts_spec a ha hla a.length 0 k [] (by omega) (by simp; omega) (by omega)
   rw [List.drop_zero] at e1
   rw [show spec_l07Cuts.l0 k [] a 0 = _ from e1]
   simp only [Option.bind_some]
   have hl1 := cuts_len a []
   have e2 := cuts_spec b hb hlb b.length 0 k (cutsL [] a) (by omega) (by simp only [List.length_nil] at hl1; omega) (by omega)
   rw [List.drop_zero] at e2
   rw [show spec_l07Cuts.l0 k (cutsL [] a) b 0 = _ from e2, hCe]
  rw [spec_l07Combine.f]
  simp only [Option.bind_some]
  rw [if_neg (by omega)]
  have hc2 := hcut k hk3
  cases e1 : spec_l07Cuts.f k [] a with
  | none => rw [e1] at hc2; cases hc2
  | some t =>
   rw [e1] at hc2
   simp only [Option.bind_some] at hc2 ⊢
   rw [hc2]
   simp only [Option.bind_some]
   have hfin := rle_first (FF g r a b) C hCs hF hF0 hCb 41 0 (by omega) (fun c hc => (hCb c hc).1)
   have hNF : NF (r + 1) (fun p => g (mem a p) (mem b p)) = rle (fun n => FF g r a b n) 41 0 [] [] 0 := by
    show rle _ 41 0 [] [] 0 = _
    congr 1
    funext x
    unfold FF
    by_cases hx : x < 40
    · rw [if_pos hx, if_pos (by omega)]
    · rw [if_neg hx, if_neg (by omega)]
   rw [hNF, ← hfin]
   by_cases hn : C.length = 0
   · obtain ⟨k, rfl⟩ : ∃ m, k = m + 1 := ⟨k - 1, by omega⟩
     rw [spec_l07Combine.l0, if_neg (by omega), List.length_eq_zero_iff.1 hn]
     rfl
   ·
    obtain ⟨k, rfl⟩ : ∃ m, k = m + 4 := ⟨k - 4, by omega⟩
    have hd := dropi C 0 (by omega)
    rw [List.drop_zero] at hd
    refine round 0 (k + 3) [] [] 0 _ (by omega) (by omega) ?_
    rw [spec_l07Combine.j1, if_neg (by omega), spec_l07Combine.j2, if_neg (by decide), spec_l07Combine.l1, if_neg (by simp), if_pos (by omega), if_pos (by omega), wrap_up 0 (by omega)]
    rw [loop (C.length - 1) (0 + 1) k [] (FF g r a b (rd C ((0 : Nat) : Int))) (rd C ((0 : Nat) : Int)) (by omega) (by omega) (by simp) (hFM _) (hFR _) (by omega)]
    congr 1
    show _ = rleFirst (FF g r a b) C
    rw [hd]
    rfl
theorem box_spec (k : Nat) (a b : List Int) (hk : 10 < k) : spec_l07Box.f k a b = some (decide (VBox a b)) := by
 obtain ⟨k, rfl⟩ : ∃ z, k = z + 1 := ⟨k - 1, by omega⟩
 unfold spec_l07Box.f
 by_cases h3 : (a.length : Int) > 3
 · rw [if_pos h3, spec_l07Box.j0, if_pos rfl]
   have : ¬ VBox a b := fun h => by have := h.1; omega
   simp [this]
 rw [if_neg h3, spec_l07Box.j0]
 by_cases hn : b.length = a.length
 ·
  rw [if_neg (by simp [hn])]
  obtain ⟨r, h, rfl⟩ := count_loop (fun k (_ : Unit) i => spec_l07Box.l0 k i a b) a.length 0 (fun i _ => ∀ j, j < i → BoxAt a b j) (fun r => r = decide (VBox a b))
   (by
    rintro k - - h1
    refine ⟨true, by show spec_l07Box.l0 (k + 1) _ a b = _; rw [spec_l07Box.l0, if_neg (by omega)], ?_⟩
    have : VBox a b := ⟨by omega, hn, h1⟩
    simp [this])
   (by
    rintro k - i - hi h1
    have e : spec_l07Box.l0 (k + 1) (i : Int) a b = if BoxAt a b i then spec_l07Box.l0 k ((i + 1 : Nat) : Int) a b else some false := by
     rw [spec_l07Box.l0, if_pos (by omega), if_pos (by omega), if_pos (by omega), in_eq]
     simp only [Option.bind_some, decide_eq_true_eq, in_eq]
     rw [wrap_up i (by omega)]
     by_cases c1 : 1 ≤ rd b i ∧ rd b i ≤ 40
     · rw [if_pos c1, wrap64_id (by omega) (by omega)]
       by_cases c2 : 0 ≤ rd a i ∧ rd a i ≤ rd b i - 1
       · rw [if_pos c2, if_pos (show BoxAt a b i from ⟨c2.1, by omega, c1.2⟩)]
       · rw [if_neg c2, if_neg (fun h => c2 ⟨h.1, by have := h.2.1; omega⟩)]
     · rw [if_neg c1, if_neg (fun h => c1 ⟨by have := h.1; have := h.2.1; omega, h.2.2⟩)]
    by_cases c : BoxAt a b i
    · exact .inl ⟨(), all_step h1 c, by show spec_l07Box.l0 (k + 1) _ a b = _; rw [e, if_pos c]⟩
    · refine .inr ⟨false, by show spec_l07Box.l0 (k + 1) _ a b = _; rw [e, if_neg c], ?_⟩
      have : ¬ VBox a b := fun h => c (h.2.2 i hi)
      simp [this])
   k () 0 (by omega) (by omega) (fun j hj => by omega)
  exact h
 · rw [if_pos (by simp; omega)]
   have : ¬ VBox a b := fun h => hn h.2.1
   simp [this]
theorem box_impl (k : Nat) (a b : List Int) (hk : 10 < k) : impl_ValidBox.f k a b = some (decide (VBox a b)) := by
 obtain ⟨k, rfl⟩ : ∃ z, k = z + 1 := ⟨k - 1, by omega⟩
 unfold impl_ValidBox.f
 by_cases hn : (a.length : Int) = (b.length : Int)
 ·
  rw [if_pos hn, impl_ValidBox.j0]
  by_cases h3 : (a.length : Int) > 3
  · rw [if_pos (by simpa using h3)]
    have : ¬ VBox a b := fun h => by have := h.1; omega
    simp [this]
  ·
   rw [if_neg (by simpa using h3)]
   obtain ⟨r, h, rfl⟩ := count_loop (fun k (_ : Unit) i => impl_ValidBox.l0 k a (a.length : Int) i a b) a.length 0 (fun i _ => ∀ j, j < i → BoxAt a b j) (fun r => r = decide (VBox a b))
    (by
     rintro k - - h1
     refine ⟨true, by show impl_ValidBox.l0 (k + 1) a _ _ a b = _; rw [impl_ValidBox.l0, if_neg (by omega)], ?_⟩
     have : VBox a b := ⟨by omega, by omega, h1⟩
     simp [this])
    (by
     rintro k - i - hi h1
     have e : impl_ValidBox.l0 (k + 1) a (a.length : Int) (i : Int) a b = if BoxAt a b i then impl_ValidBox.l0 k a (a.length : Int) ((i + 1 : Nat) : Int) a b else some false := by
      rw [impl_ValidBox.l0, if_pos (by omega), if_pos (by omega), if_pos (by omega), wrap_up i (by omega)]
      by_cases c1 : rd a i < 0
      · rw [if_pos c1, if_neg (fun h => by have := h.1; omega)]
      · rw [if_neg c1, if_pos (by omega)]
        by_cases c2 : rd a i ≥ rd b i
        · rw [if_pos c2, if_neg (fun h => by have := h.2.1; omega)]
        · rw [if_neg c2]
          by_cases c3 : rd b i > 40
          · rw [if_pos c3, if_neg (fun h => by have := h.2.2; omega)]
          · rw [if_neg c3, if_pos (show BoxAt a b i from ⟨by omega, by omega, by omega⟩)]
     by_cases c : BoxAt a b i
     · exact .inl ⟨(), all_step h1 c, by show impl_ValidBox.l0 (k + 1) a _ _ a b = _; rw [e, if_pos c]⟩
     · refine .inr ⟨false, by show impl_ValidBox.l0 (k + 1) a _ _ a b = _; rw [e, if_neg c], ?_⟩
       have : ¬ VBox a b := fun h => c (h.2.2 i hi)
       simp [this])
    k () 0 (by omega) (by omega) (fun j hj => by omega)
   exact h
 · rw [if_neg hn, impl_ValidBox.j0, if_pos rfl]
   have : ¬ VBox a b := fun h => by have := h.2.1; omega
   simp [this]
def okB (l : List S42) (i : Nat) : Prop := VBox (rd_T42 l i).f0 (rd_T42 l i).f1 ∧ (rd_T42 l i).f0.length = (rd_T42 l 0).f0.length
instance (l : List S42) : DecidablePred (okB l) := fun i => by unfold okB; infer_instance
theorem list_spec (l : List S42) (hl : l.length ≤ 1048576) (k : Nat) (hk : 1048600 ≤ k) : spec_l07List.f k l = some (decide (∀ i, i < l.length → okB l i) && decide ((l.length : Int) ≤ 32)) :=
 all_loop (fun k i => spec_l07List.l0 k l i) (okB l) l.length 11 _
  (by intro k _; show spec_l07List.l0 (k + 1) l _ = _; rw [spec_l07List.l0, if_neg (by omega)])
  (by
   intro k i hk hi
   show spec_l07List.l0 (k + 1) l _ = _
   rw [spec_l07List.l0, if_pos (by omega), if_pos (by omega), box_spec k _ _ (by omega), wrap_up i (by omega)]
   simp only [Option.bind_some, decide_eq_true_eq]
   by_cases h : VBox (rd_T42 l i).f0 (rd_T42 l i).f1
   · rw [if_pos h, if_pos (by omega)]
     by_cases h2 : (rd_T42 l i).f0.length = (rd_T42 l 0).f0.length
     · rw [if_pos (by omega), if_pos ⟨h, h2⟩]
     · rw [if_neg (by omega), if_neg (fun h3 => h2 h3.2)]
   · rw [if_neg h, if_neg (fun h3 => h h3.1)])
  k (by omega)
theorem list_impl (l : List S42) (hl : l.length ≤ 1048576) (k : Nat) (hk : 1048600 ≤ k) : impl_boxesOk.f k l = some (decide (∀ i, i < l.length → okB l i) && decide ((l.length : Int) ≤ 32)) := by
 unfold impl_boxesOk.f slices_ContainsFunc_impl_boxesOk_1.f slices_IndexFunc_impl_boxesOk_1.f
 by_cases hn : (l.length : Int) ≤ 32
 ·
  rw [if_pos hn, find_loop (fun k i => slices_IndexFunc_impl_boxesOk_1.l0 k l l.length i l) (fun i => ¬ okB l i) l.length 11
   (by intro k _; show slices_IndexFunc_impl_boxesOk_1.l0 (k + 1) l _ _ l = _; rw [slices_IndexFunc_impl_boxesOk_1.l0, if_neg (by omega)])
   (by
    intro k i hk hi
    show slices_IndexFunc_impl_boxesOk_1.l0 (k + 1) l _ _ l = _
    rw [slices_IndexFunc_impl_boxesOk_1.l0, if_pos (by omega), if_pos (by omega), if_pos (by omega), wrap_up i (by omega)]
    unfold impl_boxesOk_1.f
    rw [box_impl k _ _ (by omega)]
    simp only [Option.bind_some, decide_eq_true_eq]
    by_cases h : VBox (rd_T42 l i).f0 (rd_T42 l i).f1
    · rw [if_pos h, if_pos (by omega)]
      simp only [Option.bind_some]
      by_cases h2 : (rd_T42 l i).f0.length = (rd_T42 l 0).f0.length
      · have h3 : okB l i := ⟨h, h2⟩
        simp [h2, h3]
      · have h3 : ¬ okB l i := fun h3 => h2 h3.2
        have h4 : ¬ ((rd_T42 l i).f0.length : Int) = ((rd_T42 l 0).f0.length : Int) := by omega
        simp [h4, h3]
    · have h3 : ¬ okB l i := fun h3 => h h3.1
      simp [if_neg h, h3])
   k (by omega)]
  simp only [Option.bind_some, decide_eq_true hn, Bool.and_true]
  rcases look_or (fun i => ¬ okB l i) l.length 0 with ⟨h4, h5⟩ | ⟨j, -, h4, h5, h6⟩
  · rw [h4]
    have h7 : ∀ i, i < l.length → okB l i := fun i hi => Decidable.not_not.1 (h5 i (by omega) (by omega))
    rw [decide_eq_true h7]; rfl
  · rw [h5]
    have h7 : ¬ ∀ i, i < l.length → okB l i := fun h => h6 (h j (by omega))
    have h8 : (j : Int) ≥ 0 := by omega
    rw [decide_eq_false h7]; simp [h8]
 · rw [if_neg hn, decide_eq_false hn, Bool.and_false]
def InRange (r : Nat) (p : List Int) : Prop := p.length = r ∧ ∀ x ∈ p, 0 ≤ x ∧ x < 40
theorem range_cons {r : Nat} {x : Int} {p : List Int} (h0 : 0 ≤ x) (h1 : x < 40) (h : InRange r p) : InRange (r + 1) (x :: p) := by
 refine ⟨by simp [h.1], fun y hy => ?_⟩
 rcases List.mem_cons.1 hy with rfl | hy
 · exact ⟨h0, h1⟩
 · exact h.2 y hy
theorem VL_app {r : Nat} {l m : List S42} (h : VL r l) (h' : VL r m) : VL r (l ++ m) := fun b hb => by
 rcases List.mem_append.1 hb with hb | hb
 · exact h b hb
 · exact h' b hb
theorem VL_pre {r : Nat} {l : List S42} (h : VL r l) (a b : Int) (hab : 0 ≤ a ∧ a < b ∧ b ≤ 40) : VL (r + 1) (pre l a b) := fun x hx => by
 obtain ⟨y, hy, rfl⟩ := List.mem_map.1 hx
 obtain ⟨h1, h2, h3⟩ := h y hy
 refine ⟨by simp [h1], by simp [h2], fun i hi => ?_⟩
 cases i with
 | zero => exact hab
 | succ i =>
  have := h3 i (by omega)
  unfold BoxAt at this ⊢
  simp only [rd_consS]
  exact this
theorem rle_VL (f : Nat → List S42) (r : Nat) (hf : ∀ x, VL r (f x)) : ∀ (d x : Nat) (out run : List S42) (beg : Int), x + d = 41 → VL (r + 1) out → VL r run → (run = [] ∨ (0 ≤ beg ∧ beg < x)) → VL (r + 1) (rle f d x out run beg) := by
 intro d
 induction d with
 | zero => intro x out run beg _ h _ _; exact h
 | succ d ih =>
  intro x out run beg hx h h' hb
  unfold rle
  split
  · exact ih _ _ _ _ (by omega) h h' (by rcases hb with hb | hb; exact .inl hb; exact .inr ⟨hb.1, by omega⟩)
  · refine ih _ _ _ _ (by omega) (VL_app h ?_) (hf x) (.inr ⟨by omega, by omega⟩)
    rcases hb with rfl | hb
    · intro b hb; cases hb
    · exact VL_pre h' _ _ ⟨hb.1, hb.2, by omega⟩
theorem VL_nil (r : Nat) : VL r [] := fun b hb => by cases hb
theorem NF_VL : ∀ (r : Nat) (P : List Int → Bool), VL r (NF r P)
 | 0, P => by
  unfold NF
  split
  · intro b hb; rw [List.mem_singleton.1 hb]; exact ⟨rfl, rfl, fun i hi => by omega⟩
  · exact VL_nil 0
 | r + 1, P => by
  unfold NF
  refine rle_VL _ r (fun x => ?_) 41 0 [] [] 0 (by omega) (VL_nil _) (VL_nil _) (.inl rfl)
  show VL r (if x < 40 then NF r (fun p => P ((x : Int) :: p)) else [])
  split
  · exact NF_VL r _
  · exact VL_nil _
theorem mem_app (l m : List S42) (p : List Int) : mem (l ++ m) p = (mem l p || mem m p) := by unfold mem; rw [List.any_append]
theorem mem_pre (a b y : Int) (q : List Int) : ∀ l : List S42, mem (pre l a b) (y :: q) = ((decide (a ≤ y) && decide (y < b)) && mem l q)
 | [] => by simp [mem, pre]
 | x :: l => by
  show ((decide (a ≤ y) && decide (y < b)) && inBx x.f0 x.f1 q || mem (pre l a b) (y :: q)) = _
  rw [mem_pre a b y q l, mem_cons]
  cases (decide (a ≤ y) && decide (y < b)) <;> simp
theorem rle_mem (f : Nat → List S42) (h40 : f 40 = []) (y : Nat) (hy : y < 40) (q : List Int) : ∀ (d x : Nat) (out run : List S42) (beg : Nat), x + d = 41 → beg ≤ x → beg ≤ 40 → (∀ z, beg ≤ z → z < x → f z = run) → (x = 0 → run = []) → (beg ≤ y → mem out ((y : Int) :: q) = false) →
 mem (rle f d x out run beg) ((y : Int) :: q) = if y < beg then mem out ((y : Int) :: q) else mem (f y) q := by
 intro d
 induction d with
 | zero =>
  intro x out run beg hx h1 h2 h3 _ h4
  show mem out _ = _
  split
  · rfl
  · rw [h4 (by omega), h3 y (by omega) (by omega), ← h3 40 (by omega) (by omega), h40]
    rfl
 | succ d ih =>
  intro x out run beg hx h1 h2 h3 h5 h4
  unfold rle
  split
  · rename_i he
    exact ih (x + 1) out run beg (by omega) (by omega) h2 (fun z hz1 hz2 => by
     by_cases hz : z = x
     · subst hz; exact he
     · exact h3 z hz1 (by omega)) (by omega) h4
  ·
   rename_i he
   have hx40 : x ≤ 40 := by omega
   rw [ih (x + 1) (out ++ pre run beg x) (f x) x (by omega) (by omega) hx40 (fun z hz1 hz2 => by rw [show z = x by omega]) (by omega) (fun hxy => by
    rw [mem_app, mem_pre, show decide ((y : Int) < (x : Int)) = false from decide_eq_false (by omega)]
    rw [h4 (by omega)]
    simp)]
   rw [mem_app, mem_pre]
   by_cases hyb : y < beg
   · rw [if_pos (show y < x by omega), if_pos hyb, show decide ((beg : Int) ≤ (y : Int)) = false from decide_eq_false (by omega)]
     simp
   · rw [if_neg hyb]
     by_cases hyx : y < x
     · rw [if_pos hyx, h4 (by omega), h3 y (by omega) hyx, show decide ((beg : Int) ≤ (y : Int)) = true from decide_eq_true (by omega), show decide ((y : Int) < (x : Int)) = true from decide_eq_true (by omega)]
       simp
     · rw [if_neg hyx]
theorem NF_mem : ∀ (r : Nat) (P : List Int → Bool) (p : List Int), InRange r p → mem (NF r P) p = P p
 | 0, P, p, h => by
  have e : p = [] := List.length_eq_zero_iff.1 h.1
  subst e
  unfold NF
  cases hP : P [] <;> simp [mem, inBx]
 | r + 1, P, p, h => by
  obtain ⟨hl, hp⟩ := h
  cases p with
  | nil => simp at hl
  | cons x q =>
   have hx := hp x List.mem_cons_self
   have hq : InRange r q := ⟨by simpa using hl, fun z hz => hp z (List.mem_cons_of_mem _ hz)⟩
   obtain ⟨y, rfl⟩ : ∃ y : Nat, x = (y : Int) := ⟨x.toNat, by omega⟩
   unfold NF
   have := rle_mem (fun x => if x < 40 then NF r (fun p => P ((x : Int) :: p)) else []) (by simp) y (by omega) q 41 0 [] [] 0 (by omega) (by omega) (by omega) (fun z h1 h2 => by omega) (fun _ => rfl) (fun _ => rfl)
   rw [if_neg (by omega)] at this
   rw [show rle (fun x => if x < 40 then NF r (fun p => P ((x : Int) :: p)) else []) 41 0 [] [] 0 = rle (fun x => if x < 40 then NF r (fun p => P ((x : Int) :: p)) else []) 41 0 [] [] ((0 : Nat) : Int) from rfl, this]
   rw [if_pos (show y < 40 by omega)]
   exact NF_mem r _ q hq
def okL (l : List S42) : Prop := (∀ i, i < l.length → okB l i) ∧ (l.length : Int) ≤ 32
instance (l : List S42) : Decidable (okL l) := by unfold okL; infer_instance
def rankL (a b : List S42) : Nat := if 0 < a.length then (rd_T42 a 0).f0.length else if 0 < b.length then (rd_T42 b 0).f0.length else 0
def compat (a b : List S42) : Prop := 0 < a.length → 0 < b.length → (rd_T42 a 0).f0.length = (rd_T42 b 0).f0.length
instance (a b : List S42) : Decidable (compat a b) := by unfold compat; infer_instance
def res (g : Bool → Bool → Bool) (a b : List S42) : List S42 × Int :=
 if okL a ∧ okL b ∧ compat a b then (if (NF (rankL a b) fun p => g (mem a p) (mem b p)).length > 32 then ([], 5) else (NF (rankL a b) fun p => g (mem a p) (mem b p), 0)) else ([], 1)
theorem ok_list {l : List S42} (h : okL l) (hn : 0 < l.length) : VL (rd_T42 l 0).f0.length l ∧ (rd_T42 l 0).f0.length ≤ 3 := by
 refine ⟨fun b hb => ?_, (h.1 0 hn).1.1⟩
 obtain ⟨i, hi, rfl⟩ := List.mem_iff_getElem.1 hb
 have h2 := h.1 i hi
 unfold okB at h2
 rw [rd_at l i hi] at h2
 obtain ⟨⟨h3, h4, h5⟩, h6⟩ := h2
 exact ⟨h6, by rw [h4]; exact h6, fun j hj => h5 j (by rw [h6]; exact hj)⟩
theorem ok_rank {a b : List S42} (ha : okL a) (hb : okL b) (hc : compat a b) : rankL a b ≤ 3 ∧ VL (rankL a b) a ∧ VL (rankL a b) b := by
 unfold rankL
 by_cases h1 : 0 < a.length
 ·
  rw [if_pos h1]
  obtain ⟨h3, h4⟩ := ok_list ha h1
  refine ⟨h4, h3, ?_⟩
  by_cases h2 : 0 < b.length
  · rw [hc h1 h2]; exact (ok_list hb h2).1
  · rw [List.length_eq_zero_iff.1 (show b.length = 0 by omega)]; exact VL_nil _
 ·
  rw [if_neg h1, List.length_eq_zero_iff.1 (show a.length = 0 by omega)]
  by_cases h2 : 0 < b.length
  · rw [if_pos h2]
    obtain ⟨h3, h4⟩ := ok_list hb h2
    exact ⟨h4, VL_nil _, h3⟩
  · rw [if_neg h2, List.length_eq_zero_iff.1 (show b.length = 0 by omega)]
    exact ⟨by omega, VL_nil _, VL_nil _⟩
theorem wo_holds (x y : Bool) : spec_l07Holds.f 3 x y = some (wo x y) := by cases x <;> cases y <;> rfl
theorem or_holds (x y : Bool) : spec_l07Holds.f 1 x y = some (or x y) := by cases x <;> cases y <;> rfl
theorem and_holds (x y : Bool) : spec_l07Holds.f 2 x y = some (and x y) := by cases x <;> cases y <;> rfl
theorem do_spec (o : Int) (g : Bool → Bool → Bool) (hg : ∀ x y, spec_l07Holds.f o x y = some (g x y)) (h0 : g false false = false) (a b : List S42) (hla : a.length ≤ 1048576) (hlb : b.length ≤ 1048576) (k : Nat) (hk : 17000000 ≤ k) : spec_l07Do.f k o a b = some (res g a b) := by
 obtain ⟨k, rfl⟩ : ∃ m, k = m + 1 := ⟨k - 1, by omega⟩
 unfold spec_l07Do.f res
 rw [list_spec a hla _ (by omega), list_spec b hlb _ (by omega)]
 have bad : ∀ t : Bool, t = true → ¬ (okL a ∧ okL b ∧ compat a b) → spec_l07Do.j0 (k + 1) o a b t = some (if okL a ∧ okL b ∧ compat a b then (if (NF (rankL a b) fun p => g (mem a p) (mem b p)).length > 32 then (([] : List S42), (5 : Int)) else (NF (rankL a b) fun p => g (mem a p) (mem b p), 0)) else ([], 1)) := fun t ht hn => by
  rw [spec_l07Do.j0, if_pos ht, if_neg hn]
 have good : okL a → okL b → compat a b → spec_l07Do.j0 (k + 1) o a b false = some (if okL a ∧ okL b ∧ compat a b then (if (NF (rankL a b) fun p => g (mem a p) (mem b p)).length > 32 then (([] : List S42), (5 : Int)) else (NF (rankL a b) fun p => g (mem a p) (mem b p), 0)) else ([], 1)) := fun h1 h2 h3 => by
  obtain ⟨r1, r2, r3⟩ := ok_rank h1 h2 h3
  have hrank : spec_l07Rank.f a b = some ((rankL a b : Nat) : Int) := by
   unfold spec_l07Rank.f rankL
   by_cases e1 : 0 < a.length
   · rw [if_pos (by omega), if_pos (by omega), if_pos e1]
   · rw [if_neg (by omega), if_neg e1]
     by_cases e2 : 0 < b.length
     · rw [if_pos (by omega), if_pos (by omega), if_pos e2]
     · rw [if_neg (by omega), if_neg e2]; rfl
  have hKS : KS (rankL a b) ≤ 16000000 := by
   have : rankL a b = 0 ∨ rankL a b = 1 ∨ rankL a b = 2 ∨ rankL a b = 3 := by omega
   rcases this with h | h | h | h <;> rw [h] <;> simp [KS]
  have ha32 := h1.2
  have hb32 := h2.2
  rw [spec_l07Do.j0, if_neg (by decide), hrank, if_pos ⟨h1, h2, h3⟩]
  simp only [Option.bind_some]
  rw [comb_spec o g hg h0 _ r1 a b r2 r3 (by omega) (by omega) k (by omega)]
  simp only [Option.bind_some]
  by_cases hbig : (NF (rankL a b) fun p => g (mem a p) (mem b p)).length > 32
  · rw [if_pos (by omega), if_pos hbig]
  · rw [if_neg (by omega), if_neg hbig]
 by_cases h1 : okL a
 ·
  rw [decide_eq_true h1.1, decide_eq_true h1.2]
  simp only [Option.bind_some, Bool.and_true, if_true]
  by_cases h2 : okL b
  ·
   rw [decide_eq_true h2.1, decide_eq_true h2.2]
   simp only [Option.bind_some, Bool.and_true, if_true]
   by_cases e1 : 0 < a.length
   ·
    rw [if_pos (by omega)]
    by_cases e2 : 0 < b.length
    · rw [if_pos (by omega), if_pos (by omega), if_pos (by omega)]
      by_cases h3 : (rd_T42 a 0).f0.length = (rd_T42 b 0).f0.length
      · rw [show ((((rd_T42 a 0).f0).length : Int) != (((rd_T42 b 0).f0).length : Int)) = false by simp [h3]]
        exact good h1 h2 (fun _ _ => h3)
      · exact bad _ (by simp; omega) (fun h => h3 (h.2.2 e1 e2))
    · rw [if_neg (by omega)]
      exact good h1 h2 (fun _ h => absurd h e2)
   · rw [if_neg (by omega)]
     exact good h1 h2 (fun h => absurd h e1)
  · have hn : (decide (∀ i, i < b.length → okB b i) && decide ((b.length : Int) ≤ 32)) = false := by
     rw [Bool.and_eq_false_iff, decide_eq_false_iff_not, decide_eq_false_iff_not]
     exact Decidable.not_and_iff_or_not.1 h2
    rw [hn]
    simp only [Option.bind_some, Bool.false_eq_true, if_false]
    exact bad _ rfl (fun h => h2 h.2.1)
 ·
  have hn : (decide (∀ i, i < a.length → okB a i) && decide ((a.length : Int) ≤ 32)) = false := by
   rw [Bool.and_eq_false_iff, decide_eq_false_iff_not, decide_eq_false_iff_not]
   exact Decidable.not_and_iff_or_not.1 h1
  rw [hn]
  simp only [Option.bind_some, Bool.false_eq_true, if_false]
  exact bad _ rfl (fun h => h1 h.1)
theorem concatB_impl (a b : List S42) (ha : a.length ≤ 1048576) (hb : b.length ≤ 1048576) (k : Nat) (hk : 10 ≤ k) : impl_Box.f k [a, b] = some (a ++ b) := by
 obtain ⟨k, rfl⟩ : ∃ m, k = m + 6 := ⟨k - 6, by omega⟩
 have e0 : rd_L4 [a, b] 0 = a := rfl
 have e1 : rd_L4 [a, b] 1 = b := rfl
 have hw0 : wrap64 (0 + (a.length : Int)) = (a.length : Int) := by unfold wrap64; omega
 have hw : wrap64 ((a.length : Int) + (b.length : Int)) = (a.length : Int) + (b.length : Int) := by unfold wrap64; omega
 have z1 : wrap64 (0 + 1) = 1 := by unfold wrap64; omega
 have z2 : wrap64 (1 + 1) = 2 := by unfold wrap64; omega
 have hn : (([a, b] : List (List S42)).length : Int) = 2 := rfl
 unfold impl_Box.f
 rw [hn, impl_Box.l0, if_pos (by omega), if_pos (by omega), if_pos (by omega), e0, hw0, z1, if_neg (by omega)]
 rw [impl_Box.l0, if_pos (by omega), if_pos (by omega), if_pos (by omega), e1, hw, if_neg (by omega), z2]
 rw [impl_Box.l0, if_neg (by omega)]
 show (Option.bind (if 0 ≤ (a.length : Int) + (b.length : Int) ∧ (a.length : Int) + (b.length : Int) ≤ 1073741824 then some [] else none) _) = _
 rw [if_pos (by omega)]
 simp only [Option.bind_some]
 rw [hn, impl_Box.l1, if_pos (by omega), if_pos (by omega), if_pos (by omega), e0, if_pos (by simp; omega), z1]
 rw [impl_Box.l1, if_pos (by omega), if_pos (by omega), if_pos (by omega), e1, if_pos (by simp; omega), z2]
 rw [impl_Box.l1, if_neg (by omega)]
 rfl
theorem rank_impl (a b : List S42) (ha : a.length ≤ 1048576) (hb : b.length ≤ 1048576) (k : Nat) (hk : 10 ≤ k) : impl_rankOf.f k a b = some ((rankL a b : Nat) : Int) := by
 obtain ⟨k, rfl⟩ : ∃ m, k = m + 1 := ⟨k - 1, by omega⟩
 unfold impl_rankOf.f
 rw [concatB_impl a b ha hb _ hk]
 simp only [Option.bind_some]
 unfold rankL
 by_cases h1 : 0 < a.length
 ·
  have hx : rd_T42 (a ++ b) 0 = rd_T42 a 0 := by
   have e1 := rd_at (a ++ b) 0 (by simp; omega)
   have e2 := rd_at a 0 h1
   rw [show ((0 : Nat) : Int) = 0 from rfl] at e1 e2
   rw [e1, e2]
   exact List.getElem_append_left h1
  rw [impl_rankOf.l0, if_pos (by simp; omega), if_pos (by omega), if_pos (by simp; omega), if_pos h1, hx]
 ·
  have ea : a = [] := List.length_eq_zero_iff.1 (by omega)
  subst ea
  rw [if_neg h1, List.nil_append]
  by_cases h2 : 0 < b.length
  · rw [impl_rankOf.l0, if_pos (by omega), if_pos (by omega), if_pos (by omega), if_pos h2]
  · rw [impl_rankOf.l0, if_neg (by omega), if_neg h2]
    rfl
theorem do_either (a b : List S42) (hla : a.length ≤ 1048576) (hlb : b.length ≤ 1048576) (k : Nat) (hk : 5000000 ≤ k) : impl_combine_impl_either.f k a b = some (res or a b) := by
 obtain ⟨k, rfl⟩ : ∃ m, k = m + 1 := ⟨k - 1, by omega⟩
 unfold impl_combine_impl_either.f res
 rw [list_impl a hla _ (by omega), list_impl b hlb _ (by omega)]
 have bad : ∀ t : Bool, t = true → ¬ (okL a ∧ okL b ∧ compat a b) → impl_combine_impl_either.j0 (k + 1) a b t = some (if okL a ∧ okL b ∧ compat a b then (if (NF (rankL a b) fun p => or (mem a p) (mem b p)).length > 32 then (([] : List S42), (5 : Int)) else (NF (rankL a b) fun p => or (mem a p) (mem b p), 0)) else ([], 1)) := fun t ht hn => by
  rw [impl_combine_impl_either.j0, if_pos ht, if_neg hn]
 have good : okL a → okL b → compat a b → impl_combine_impl_either.j0 (k + 1) a b false = some (if okL a ∧ okL b ∧ compat a b then (if (NF (rankL a b) fun p => or (mem a p) (mem b p)).length > 32 then (([] : List S42), (5 : Int)) else (NF (rankL a b) fun p => or (mem a p) (mem b p), 0)) else ([], 1)) := fun h1 h2 h3 => by
  obtain ⟨r1, r2, r3⟩ := ok_rank h1 h2 h3
  rw [impl_combine_impl_either.j0, if_neg (by decide), rank_impl a b hla hlb k (by omega), if_pos ⟨h1, h2, h3⟩]
  simp only [Option.bind_some]
  rw [comb_either _ r1 a b r2 r3 hla hlb k (by omega)]
  simp only [Option.bind_some]
  unfold impl_normalFull.f
  by_cases hbig : (NF (rankL a b) fun p => or (mem a p) (mem b p)).length > 32
  · rw [if_pos (by omega), if_pos hbig]
    rfl
  · rw [if_neg (by omega), if_neg hbig]
    rfl
 by_cases h1 : okL a
 ·
  rw [decide_eq_true h1.1, decide_eq_true h1.2]
  simp only [Option.bind_some, Bool.and_true, if_true]
  by_cases h2 : okL b
  ·
   rw [decide_eq_true h2.1, decide_eq_true h2.2]
   simp only [Option.bind_some, Bool.and_true, if_true]
   by_cases e1 : 0 < a.length
   ·
    rw [if_pos (by omega)]
    by_cases e2 : 0 < b.length
    · rw [if_pos (by omega), if_pos (by omega), if_pos (by omega)]
      by_cases h3 : (rd_T42 a 0).f0.length = (rd_T42 b 0).f0.length
      · rw [show ((((rd_T42 a 0).f0).length : Int) != (((rd_T42 b 0).f0).length : Int)) = false by simp [h3]]
        exact good h1 h2 (fun _ _ => h3)
      · exact bad _ (by simp; omega) (fun h => h3 (h.2.2 e1 e2))
    · rw [if_neg (by omega)]
      exact good h1 h2 (fun _ h => absurd h e2)
   · rw [if_neg (by omega)]
     exact good h1 h2 (fun h => absurd h e1)
  · have hn : (decide (∀ i, i < b.length → okB b i) && decide ((b.length : Int) ≤ 32)) = false := by
     rw [Bool.and_eq_false_iff, decide_eq_false_iff_not, decide_eq_false_iff_not]
     exact Decidable.not_and_iff_or_not.1 h2
    rw [hn]
    simp only [Option.bind_some, Bool.false_eq_true, if_false]
    exact bad _ rfl (fun h => h2 h.2.1)
 ·
  have hn : (decide (∀ i, i < a.length → okB a i) && decide ((a.length : Int) ≤ 32)) = false := by
   rw [Bool.and_eq_false_iff, decide_eq_false_iff_not, decide_eq_false_iff_not]
   exact Decidable.not_and_iff_or_not.1 h1
  rw [hn]
  simp only [Option.bind_some, Bool.false_eq_true, if_false]
  exact bad _ rfl (fun h => h1 h.1)
theorem do_and (a b : List S42) (hla : a.length ≤ 1048576) (hlb : b.length ≤ 1048576) (k : Nat) (hk : 5000000 ≤ k) : impl_combine_impl_and.f k a b = some (res and a b) := by
 obtain ⟨k, rfl⟩ : ∃ m, k = m + 1 := ⟨k - 1, by omega⟩
 unfold impl_combine_impl_and.f res
 rw [list_impl a hla _ (by omega), list_impl b hlb _ (by omega)]
 have bad : ∀ t : Bool, t = true → ¬ (okL a ∧ okL b ∧ compat a b) → impl_combine_impl_and.j0 (k + 1) a b t = some (if okL a ∧ okL b ∧ compat a b then (if (NF (rankL a b) fun p => and (mem a p) (mem b p)).length > 32 then (([] : List S42), (5 : Int)) else (NF (rankL a b) fun p => and (mem a p) (mem b p), 0)) else ([], 1)) := fun t ht hn => by
  rw [impl_combine_impl_and.j0, if_pos ht, if_neg hn]
 have good : okL a → okL b → compat a b → impl_combine_impl_and.j0 (k + 1) a b false = some (if okL a ∧ okL b ∧ compat a b then (if (NF (rankL a b) fun p => and (mem a p) (mem b p)).length > 32 then (([] : List S42), (5 : Int)) else (NF (rankL a b) fun p => and (mem a p) (mem b p), 0)) else ([], 1)) := fun h1 h2 h3 => by
  obtain ⟨r1, r2, r3⟩ := ok_rank h1 h2 h3
  rw [impl_combine_impl_and.j0, if_neg (by decide), rank_impl a b hla hlb k (by omega), if_pos ⟨h1, h2, h3⟩]
  simp only [Option.bind_some]
  rw [comb_and _ r1 a b r2 r3 hla hlb k (by omega)]
  simp only [Option.bind_some]
  unfold impl_normalFull.f
  by_cases hbig : (NF (rankL a b) fun p => and (mem a p) (mem b p)).length > 32
  · rw [if_pos (by omega), if_pos hbig]
    rfl
  · rw [if_neg (by omega), if_neg hbig]
    rfl
 by_cases h1 : okL a
 ·
  rw [decide_eq_true h1.1, decide_eq_true h1.2]
  simp only [Option.bind_some, Bool.and_true, if_true]
  by_cases h2 : okL b
  ·
   rw [decide_eq_true h2.1, decide_eq_true h2.2]
   simp only [Option.bind_some, Bool.and_true, if_true]
   by_cases e1 : 0 < a.length
   ·
    rw [if_pos (by omega)]
    by_cases e2 : 0 < b.length
    · rw [if_pos (by omega), if_pos (by omega), if_pos (by omega)]
      by_cases h3 : (rd_T42 a 0).f0.length = (rd_T42 b 0).f0.length
      · rw [show ((((rd_T42 a 0).f0).length : Int) != (((rd_T42 b 0).f0).length : Int)) = false by simp [h3]]
        exact good h1 h2 (fun _ _ => h3)
      · exact bad _ (by simp; omega) (fun h => h3 (h.2.2 e1 e2))
    · rw [if_neg (by omega)]
      exact good h1 h2 (fun _ h => absurd h e2)
   · rw [if_neg (by omega)]
     exact good h1 h2 (fun h => absurd h e1)
  · have hn : (decide (∀ i, i < b.length → okB b i) && decide ((b.length : Int) ≤ 32)) = false := by
     rw [Bool.and_eq_false_iff, decide_eq_false_iff_not, decide_eq_false_iff_not]
     exact Decidable.not_and_iff_or_not.1 h2
    rw [hn]
    simp only [Option.bind_some, Bool.false_eq_true, if_false]
    exact bad _ rfl (fun h => h2 h.2.1)
 ·
  have hn : (decide (∀ i, i < a.length → okB a i) && decide ((a.length : Int) ≤ 32)) = false := by
   rw [Bool.and_eq_false_iff, decide_eq_false_iff_not, decide_eq_false_iff_not]
   exact Decidable.not_and_iff_or_not.1 h1
  rw [hn]
  simp only [Option.bind_some, Bool.false_eq_true, if_false]
  exact bad _ rfl (fun h => h1 h.1)
theorem do_without (a b : List S42) (hla : a.length ≤ 1048576) (hlb : b.length ≤ 1048576) (k : Nat) (hk : 5000000 ≤ k) : impl_combine_impl_without.f k a b = some (res wo a b) := by
 obtain ⟨k, rfl⟩ : ∃ m, k = m + 1 := ⟨k - 1, by omega⟩
 unfold impl_combine_impl_without.f res
 rw [list_impl a hla _ (by omega), list_impl b hlb _ (by omega)]
 have bad : ∀ t : Bool, t = true → ¬ (okL a ∧ okL b ∧ compat a b) → impl_combine_impl_without.j0 (k + 1) a b t = some (if okL a ∧ okL b ∧ compat a b then (if (NF (rankL a b) fun p => wo (mem a p) (mem b p)).length > 32 then (([] : List S42), (5 : Int)) else (NF (rankL a b) fun p => wo (mem a p) (mem b p), 0)) else ([], 1)) := fun t ht hn => by
  rw [impl_combine_impl_without.j0, if_pos ht, if_neg hn]
 have good : okL a → okL b → compat a b → impl_combine_impl_without.j0 (k + 1) a b false = some (if okL a ∧ okL b ∧ compat a b then (if (NF (rankL a b) fun p => wo (mem a p) (mem b p)).length > 32 then (([] : List S42), (5 : Int)) else (NF (rankL a b) fun p => wo (mem a p) (mem b p), 0)) else ([], 1)) := fun h1 h2 h3 => by
  obtain ⟨r1, r2, r3⟩ := ok_rank h1 h2 h3
  rw [impl_combine_impl_without.j0, if_neg (by decide), rank_impl a b hla hlb k (by omega), if_pos ⟨h1, h2, h3⟩]
  simp only [Option.bind_some]
  rw [comb_without _ r1 a b r2 r3 hla hlb k (by omega)]
  simp only [Option.bind_some]
  unfold impl_normalFull.f
  by_cases hbig : (NF (rankL a b) fun p => wo (mem a p) (mem b p)).length > 32
  · rw [if_pos (by omega), if_pos hbig]
    rfl
  · rw [if_neg (by omega), if_neg hbig]
    rfl
 by_cases h1 : okL a
 ·
  rw [decide_eq_true h1.1, decide_eq_true h1.2]
  simp only [Option.bind_some, Bool.and_true, if_true]
  by_cases h2 : okL b
  ·
   rw [decide_eq_true h2.1, decide_eq_true h2.2]
   simp only [Option.bind_some, Bool.and_true, if_true]
   by_cases e1 : 0 < a.length
   ·
    rw [if_pos (by omega)]
    by_cases e2 : 0 < b.length
    · rw [if_pos (by omega), if_pos (by omega), if_pos (by omega)]
      by_cases h3 : (rd_T42 a 0).f0.length = (rd_T42 b 0).f0.length
      · rw [show ((((rd_T42 a 0).f0).length : Int) != (((rd_T42 b 0).f0).length : Int)) = false by simp [h3]]
        exact good h1 h2 (fun _ _ => h3)
      · exact bad _ (by simp; omega) (fun h => h3 (h.2.2 e1 e2))
    · rw [if_neg (by omega)]
      exact good h1 h2 (fun _ h => absurd h e2)
   · rw [if_neg (by omega)]
     exact good h1 h2 (fun h => absurd h e1)
  · have hn : (decide (∀ i, i < b.length → okB b i) && decide ((b.length : Int) ≤ 32)) = false := by
     rw [Bool.and_eq_false_iff, decide_eq_false_iff_not, decide_eq_false_iff_not]
     exact Decidable.not_and_iff_or_not.1 h2
    rw [hn]
    simp only [Option.bind_some, Bool.false_eq_true, if_false]
    exact bad _ rfl (fun h => h2 h.2.1)
 ·
  have hn : (decide (∀ i, i < a.length → okB a i) && decide ((a.length : Int) ≤ 32)) = false := by
   rw [Bool.and_eq_false_iff, decide_eq_false_iff_not, decide_eq_false_iff_not]
   exact Decidable.not_and_iff_or_not.1 h1
  rw [hn]
  simp only [Option.bind_some, Bool.false_eq_true, if_false]
  exact bad _ rfl (fun h => h1 h.1)
theorem u64_lo (x : Int) : 0 ≤ IntKind.u64.wrap x ∧ IntKind.u64.wrap x < 18446744073709551616 := by
 have h : IntKind.u64.wrap x = x % 18446744073709551616 := by simp [IntKind.wrap, IntKind.bits, IntKind.signed]
 omega
theorem and255 (x : Int) : 0 ≤ wrap64 (Go.bits .and .u64 (IntKind.u64.wrap x / 1099511627776) 255) ∧ wrap64 (Go.bits .and .u64 (IntKind.u64.wrap x / 1099511627776) 255) ≤ 255 := by
 obtain ⟨h0, h1⟩ := u64_lo x
 have h := bits_mask .u64 24 (by decide) (fun n h0 h1 => by
  have h : IntKind.u64.wrap n = n % 18446744073709551616 := by simp [IntKind.wrap, IntKind.bits, IntKind.signed]
  omega) 8 (by decide) (IntKind.u64.wrap x / 1099511627776) (by omega) (by omega)
 rw [show ((2 : Int) ^ 8 - 1) = 255 by decide, show ((2 : Int) ^ 8) = 256 by decide] at h
 rw [h]; unfold wrap64; omega
def Code (c : List Int) : Prop := ∀ x ∈ c, 0 ≤ x ∧ x ≤ 255
theorem code_wf {c : List Int} (h : ∀ x_ ∈ c, (Lit.int .u8 x_).wf = true) : Code c := fun x hx => by
 have := h x hx
 simp [Lit.wf, IntKind.min, IntKind.max, IntKind.bits, IntKind.signed] at this
 omega
theorem code_rd {c : List Int} (h : Code c) (i : Int) (h0 : 0 ≤ i) (h1 : i < c.length) : 0 ≤ rd c i ∧ rd c i ≤ 255 := by
 have := rd_lt c i.toNat (by omega)
 rw [show ((i.toNat : Nat) : Int) = i by omega] at this
 rw [this]
 exact h _ (List.getElem_mem _)
theorem next_ok {c : List Int} (hc : Code c) (p s : Int) (h0 : 0 ≤ p) (h1 : p ≤ 1000000000000) : ∃ r t, (0 ≤ r ∧ r ≤ 255) ∧ spec_l00Src_next.f c p s = some (r, p + 1, t) := by
 have hw : wrap64 (p + 1) = p + 1 := by unfold wrap64; omega
 unfold spec_l00Src_next.f
 rw [hw]
 by_cases hp : p < (c.length : Int)
 · obtain ⟨r0, r1⟩ := code_rd hc p h0 hp
   have hr : wrap64 (rd c p) = rd c p := by unfold wrap64; omega
   rw [if_pos hp, if_pos h0, if_pos (by omega), hr]
   exact ⟨_, _, ⟨r0, r1⟩, rfl⟩
 · rw [if_neg hp, if_neg (by omega)]
   exact ⟨_, _, and255 _, rfl⟩
theorem pick_ok {c : List Int} (hc : Code c) (p s n : Int) (h0 : 0 ≤ p) (h1 : p ≤ 100000000000) : ∃ r q t, (0 ≤ r ∧ (r < n ∨ r = 0)) ∧ (p ≤ q ∧ q ≤ p + 2) ∧ spec_l00Src_pick.f c p s n = some (r, q, t) := by
 unfold spec_l00Src_pick.f
 by_cases hn : n ≤ 1
 · rw [if_pos hn]
   exact ⟨0, p, s, ⟨by omega, .inr rfl⟩, ⟨by omega, by omega⟩, rfl⟩
 ·
  obtain ⟨r, t, hr, e⟩ := next_ok hc p s h0 (by omega)
  rw [if_neg hn, e]
  simp only [Option.bind_some]
  by_cases h2 : n > 200
  ·
   obtain ⟨r2, t2, hr2, e2⟩ := next_ok hc (p + 1) t (by omega) (by omega)
   rw [if_pos h2, e2]
   simp only [Option.bind_some]
   rw [if_neg (by omega)]
   have hw : wrap64 (wrap64 (r * 256) + r2) = r * 256 + r2 := by unfold wrap64; omega
   rw [hw]
   refine ⟨_, _, _, ⟨Int.tmod_nonneg _ (by omega), .inl (Int.tmod_lt_of_pos _ (by omega))⟩, ⟨?_, ?_⟩, rfl⟩ <;> omega
  · rw [if_neg h2, if_neg (by omega)]
    refine ⟨_, _, _, ⟨Int.tmod_nonneg _ (by omega), .inl (Int.tmod_lt_of_pos _ (by omega))⟩, ⟨?_, ?_⟩, rfl⟩ <;> omega
theorem among_ok {c : List Int} (hc : Code c) (p s : Int) (l : List Int) (hl : 0 < l.length) (h0 : 0 ≤ p) (h1 : p ≤ 100000000000) : ∃ (i : Nat) (q t : Int), i < l.length ∧ (p ≤ q ∧ q ≤ p + 2) ∧ spec_l00Src_among.f c p s l = some (rd l (i : Int), q, t) := by
 obtain ⟨r, q, t, hr, hq, e⟩ := pick_ok hc p s l.length h0 h1
 refine ⟨r.toNat, q, t, by omega, hq, ?_⟩
 unfold spec_l00Src_among.f
 rw [e]
 simp only [Option.bind_some]
 rw [if_pos hr.1, if_pos (by omega), show ((r.toNat : Nat) : Int) = r by omega]
theorem rd_app_lt (l : List Int) (x : Int) (i : Nat) (h : i < l.length) : rd (l ++ [x]) (i : Int) = rd l (i : Int) := by
 unfold rd
 rw [Int.toNat_natCast]
 simp only [List.getD_eq_getElem?_getD]
 rw [List.getElem?_append_left h]
theorem rd_app_eq (l : List Int) (x : Int) : rd (l ++ [x]) (l.length : Int) = x := by
 unfold rd
 rw [Int.toNat_natCast]
 simp [List.getD_eq_getElem?_getD]
/-- a drawn box: its rows are of one length, from 0 to before 10 -/
def PB (l h : List Int) : Prop := h.length = l.length ∧ ∀ i : Nat, i < l.length → 0 ≤ rd l (i : Int) ∧ rd l (i : Int) < rd h (i : Int) ∧ rd h (i : Int) ≤ 10
theorem PB_snoc {l h : List Int} (hp : PB l h) {a b : Int} (h0 : 0 ≤ a) (h1 : a < b) (h2 : b ≤ 10) : PB (l ++ [a]) (h ++ [b]) := by
 refine ⟨by simp [hp.1], fun i hi => ?_⟩
 simp at hi
 by_cases e : i = l.length
 · subst e
   rw [rd_app_eq, show ((l.length : Nat) : Int) = ((h.length : Nat) : Int) by rw [hp.1], rd_app_eq]
   exact ⟨h0, h1, h2⟩
 · rw [rd_app_lt l a i (by omega), rd_app_lt h b i (by rw [hp.1]; omega)]
   exact hp.2 i (by omega)
def SB (r : Nat) (b : S42) : Prop := b.f0.length = r ∧ PB b.f0 b.f1
def DL (r : Nat) (l : List S42) : Prop := ∀ b ∈ l, SB r b
theorem drawbox2_loop {c : List Int} (hc : Code c) : ∀ (d : Nat) (p s : Int) (l h : List Int), PB l h → l.length + d ≤ 1000 → 0 ≤ p → p + 4 * d ≤ 10000000000 →
 ∃ (l' h' : List Int) (q t : Int), (PB l' h' ∧ l'.length = l.length + d) ∧ (p ≤ q ∧ q ≤ p + 4 * d) ∧ ∀ k, d < k → spec_l07DrawBox.l0 k d c p s l h = some (l', h', q, t) := by
 intro d
 induction d with
 | zero =>
  intro p s l h hp hl h0 h1
  refine ⟨l, h, p, s, ⟨hp, by omega⟩, ⟨by omega, by omega⟩, fun k hk => ?_⟩
  obtain ⟨k, rfl⟩ : ∃ m, k = m + 1 := ⟨k - 1, by omega⟩
  rw [spec_l07DrawBox.l0, if_neg (by omega)]
 | succ d ih =>
  intro p s l h hp hl h0 h1
  obtain ⟨r1, q1, t1, hr1, hq1, e1⟩ := pick_ok hc p s 6 h0 (by omega)
  obtain ⟨r2, q2, t2, hr2, hq2, e2⟩ := pick_ok hc q1 t1 4 (by omega) (by omega)
  have hw : wrap64 (wrap64 (r1 + 1) + r2) = r1 + 1 + r2 := by unfold wrap64; omega
  obtain ⟨l', h', q, t, hl', hq, e⟩ := ih q2 t2 (l ++ [r1]) (h ++ [wrap64 (wrap64 (r1 + 1) + r2)]) (by rw [hw]; exact PB_snoc hp hr1.1 (by omega) (by omega)) (by simp; omega) (by omega) (by omega)
  refine ⟨l', h', q, t, ⟨hl'.1, by have := hl'.2; simp at this; omega⟩, ⟨by omega, by omega⟩, fun k hk => ?_⟩
  obtain ⟨k, rfl⟩ : ∃ m, k = m + 1 := ⟨k - 1, by omega⟩
  have hlen := hp.1
  rw [spec_l07DrawBox.l0, if_pos (by omega), e1]
  simp only [Option.bind_some]
  rw [e2]
  simp only [Option.bind_some]
  rw [if_pos (by omega), if_pos (by omega), show wrap64 (((d + 1 : Nat) : Int) - 1) = (d : Int) by unfold wrap64; omega]
  exact e k (by omega)
theorem drawbox2 {c : List Int} (hc : Code c) (r : Nat) (p s : Int) (hr : r ≤ 3) (h0 : 0 ≤ p) (h1 : p ≤ 1000000000) : ∃ (l h : List Int) (q t : Int), SB r ⟨l, h⟩ ∧ (p ≤ q ∧ q ≤ p + 4000) ∧ ∀ k, 1000 < k → spec_l07DrawBox.f k c p s r = some (l, h, q, t) := by
 obtain ⟨l, h, q, t, hl, hq, e⟩ := drawbox2_loop hc r p s [] [] ⟨rfl, fun i hi => by simp at hi⟩ (by simp; omega) h0 (by omega)
 exact ⟨l, h, q, t, ⟨by have := hl.2; simp at this; exact this, hl.1⟩, ⟨by omega, by omega⟩, fun k hk => by unfold spec_l07DrawBox.f; exact e k (by omega)⟩
theorem drawlist2_loop {c : List Int} (hc : Code c) (r : Nat) (hr : r ≤ 3) : ∀ (d : Nat) (p s : Int) (x : List S42), DL r x → x.length + d ≤ 1000 → 0 ≤ p → p + 4000 * d ≤ 1000000000 →
 ∃ (x' : List S42) (q t : Int), (DL r x' ∧ x'.length ≤ 1000) ∧ (p ≤ q ∧ q ≤ p + 4000 * d) ∧ ∀ k, d + 1000 < k → spec_l07Draw.l0 k r x d c p s = some (x', q, t) := by
 intro d
 induction d with
 | zero =>
  intro p s x hd hx h0 h1
  refine ⟨x, p, s, ⟨hd, by omega⟩, ⟨by omega, by omega⟩, fun k hk => ?_⟩
  obtain ⟨k, rfl⟩ : ∃ m, k = m + 1 := ⟨k - 1, by omega⟩
  rw [spec_l07Draw.l0, if_neg (by omega)]
 | succ d ih =>
  intro p s x hd hx h0 h1
  obtain ⟨l, h, q1, t1, hb, hq1, e1⟩ := drawbox2 hc r p s hr h0 (by omega)
  obtain ⟨x', q, t, hx', hq, e⟩ := ih q1 t1 (x ++ [⟨l, h⟩]) (fun b hbm => by
   rcases List.mem_append.1 hbm with h2 | h2
   · exact hd b h2
   · rw [List.mem_singleton.1 h2]; exact hb) (by simp; omega) (by omega) (by omega)
  refine ⟨x', q, t, hx', ⟨by omega, by omega⟩, fun k hk => ?_⟩
  obtain ⟨k, rfl⟩ : ∃ m, k = m + 1 := ⟨k - 1, by omega⟩
  rw [spec_l07Draw.l0, if_pos (by omega), e1 k (by omega)]
  simp only [Option.bind_some]
  rw [if_pos (by omega), show wrap64 (((d + 1 : Nat) : Int) - 1) = (d : Int) by unfold wrap64; omega]
  exact e k (by omega)
theorem drawlist2 {c : List Int} (hc : Code c) (r : Nat) (hr : r ≤ 3) (p s : Int) (h0 : 0 ≤ p) (h1 : p ≤ 100000000) : ∃ (x : List S42) (q t : Int), (DL r x ∧ x.length ≤ 1000) ∧ (p ≤ q ∧ q ≤ p + 100000) ∧ ∀ k, 2000 < k → spec_l07Draw.f k c p s r = some (x, q, t) := by
 obtain ⟨r1, q1, t1, hr1, hq1, e1⟩ := pick_ok hc p s 6 h0 (by omega)
 obtain ⟨x, q, t, hx, hq, e⟩ := drawlist2_loop hc r hr r1.toNat q1 t1 [] (fun b hb => by cases hb) (by simp; omega) (by omega) (by omega)
 refine ⟨x, q, t, hx, ⟨by omega, by omega⟩, fun k hk => ?_⟩
 unfold spec_l07Draw.f
 rw [e1]
 simp only [Option.bind_some]
 have := e k (by omega)
 rwa [show ((r1.toNat : Nat) : Int) = r1 by omega] at this
theorem e8_ok2 {c : List Int} (hc : Code c) : ∃ (r : Nat) (a b : List S42), r ≤ 3 ∧ (DL r a ∧ a.length ≤ 1000) ∧ (DL r b ∧ b.length ≤ 1000) ∧ ∀ k, 2000 < k → spec_E8Boxes.f k c = some ((r : Int), a, b) := by
 obtain ⟨i, q1, t1, hi, hq1, e1⟩ := among_ok hc 0 0 [1, 2, 2, 2, 3, 3, 0] (by simp) (by omega) (by omega)
 have hn : ∃ r : Nat, r ≤ 3 ∧ rd [1, 2, 2, 2, 3, 3, 0] (i : Int) = (r : Int) := by
  rw [rd_lt _ i hi]
  simp at hi
  have h7 : i = 0 ∨ i = 1 ∨ i = 2 ∨ i = 3 ∨ i = 4 ∨ i = 5 ∨ i = 6 := by omega
  rcases h7 with rfl | rfl | rfl | rfl | rfl | rfl | rfl
  · exact ⟨1, by omega, rfl⟩
  · exact ⟨2, by omega, rfl⟩
  · exact ⟨2, by omega, rfl⟩
  · exact ⟨2, by omega, rfl⟩
  · exact ⟨3, by omega, rfl⟩
  · exact ⟨3, by omega, rfl⟩
  · exact ⟨0, by omega, rfl⟩
 obtain ⟨r, hr, hrd⟩ := hn
 rw [hrd] at e1
 obtain ⟨a, q2, t2, ha, hq2, e2⟩ := drawlist2 hc r hr q1 t1 (by omega) (by omega)
 obtain ⟨b, q3, t3, hb, hq3, e3⟩ := drawlist2 hc r hr q2 t2 (by omega) (by omega)
 refine ⟨r, a, b, hr, ha, hb, fun k hk => ?_⟩
 unfold spec_E8Boxes.f spec_l00From.f spec_l07DrawRank.f
 simp only [Option.bind_some]
 rw [e1]
 simp only [Option.bind_some]
 rw [e2 k hk]
 simp only [Option.bind_some]
 rw [e3 k hk]
 simp only [Option.bind_some]
theorem d8_inner (l : List S42) (p : List Int) (i r : Nat) (hi : i < l.length) (hl : l.length ≤ 1048576) (hr : r ≤ 3) (h0 : (rd_T42 l (i : Int)).f0.length = r) (h1 : (rd_T42 l (i : Int)).f1.length = r) (hp : p.length = r) (R : Bool) (m : Nat)
 (H : ∀ k, m ≤ k → laws_d8In.l0 k l p ((i + 1 : Nat) : Int) = some R) : ∀ (d j k : Nat) (b : Bool), j + d = r → m + d + 1 ≤ k →
 laws_d8In.l1 k l p (i : Int) b (j : Int) = some ((b && inBx ((rd_T42 l (i : Int)).f0.drop j) ((rd_T42 l (i : Int)).f1.drop j) (p.drop j)) || R) := by
 intro d
 induction d with
 | zero =>
  intro j k b hj hk
  obtain ⟨k, rfl⟩ : ∃ z, k = z + 1 := ⟨k - 1, by omega⟩
  rw [laws_d8In.l1, if_neg (by omega), List.drop_eq_nil_of_le (by omega), List.drop_eq_nil_of_le (by omega), List.drop_eq_nil_of_le (by omega)]
  cases b
  · rw [if_neg (by decide), wrap_up i (by omega), H k (by omega)]; rfl
  · rw [if_pos rfl]; rfl
 | succ d ih =>
  intro j k b hj hk
  obtain ⟨k, rfl⟩ : ∃ z, k = z + 1 := ⟨k - 1, by omega⟩
  rw [laws_d8In.l1, if_pos (by omega)]
  cases b
  · rw [if_neg (by decide), wrap_up i (by omega), H k (by omega)]; rfl
  · rw [if_pos rfl, if_pos (by omega), if_pos (by omega), if_pos (by omega), if_pos (by omega), dropi _ j (show j < (rd_T42 l (i : Int)).f0.length by omega), dropi _ j (show j < (rd_T42 l (i : Int)).f1.length by omega), dropi p j (by omega)]
    by_cases hge : rd p (j : Int) ≥ rd (rd_T42 l (i : Int)).f0 (j : Int)
    · rw [if_pos hge, if_pos (by omega), wrap_up j (by omega), ih (j + 1) k _ (by omega) (by omega)]
      simp only [inBx, decide_eq_true (show rd (rd_T42 l (i : Int)).f0 (j : Int) ≤ rd p (j : Int) from hge), Bool.true_and]
    · rw [if_neg hge, wrap_up j (by omega), ih (j + 1) k _ (by omega) (by omega)]
      simp only [inBx, decide_eq_false (show ¬ rd (rd_T42 l (i : Int)).f0 (j : Int) ≤ rd p (j : Int) from hge), Bool.false_and, Bool.true_and]
theorem d8in_eq (l : List S42) (p : List Int) (r : Nat) (hr : r ≤ 3) (hR : Rows r l) (hl : l.length ≤ 1048576) (hp : p.length = r) (k : Nat) (hk : 6 * l.length + 2 ≤ k) : laws_d8In.f k l p = some (mem l p) := by
 have key : ∀ (d i k : Nat), i + d = l.length → 6 * d + 2 ≤ k → laws_d8In.l0 k l p (i : Int) = some (mem (l.drop i) p) := by
  intro d
  induction d with
  | zero =>
   intro i k hi hk
   obtain ⟨k, rfl⟩ : ∃ z, k = z + 1 := ⟨k - 1, by omega⟩
   rw [laws_d8In.l0, if_neg (by omega), List.drop_eq_nil_of_le (by omega)]
   rfl
  | succ d ih =>
   intro i k hi hk
   obtain ⟨k, rfl⟩ : ∃ z, k = z + 1 + 1 := ⟨k - 2, by omega⟩
   have hb := hR _ (List.getElem_mem (show i < l.length by omega))
   rw [← rd_at l i (by omega)] at hb
   rw [laws_d8In.l0, if_pos (by omega), if_pos (by omega), if_pos (by omega), laws_d8In.j1, show ((((rd_T42 l (i : Int)).f1).length : Int) == (p.length : Int)) = true by rw [beq_iff_eq]; omega]
   have := d8_inner l p i r (by omega) hl hr hb.1 hb.2 hp (mem (l.drop (i + 1)) p) (6 * d + 2) (fun k hk => ih (i + 1) k (by omega) hk) r 0 k true (by omega) (by omega)
   rw [show (0 : Int) = ((0 : Nat) : Int) from rfl, this, drop_at l i (by omega), mem_cons, rd_at l i (by omega)]
   rfl
 have := key l.length 0 k (by omega) (by omega)
 unfold laws_d8In.f
 rw [show (0 : Int) = ((0 : Nat) : Int) from rfl, this]
 rfl
def sumN : Nat → (Nat → Nat) → Nat
 | 0, _ => 0
 | n + 1, f => sumN n f + f n
def cntB (B : Nat) : Nat → (List Int → Bool) → Nat
 | 0, P => if P [] = true then 1 else 0
 | r + 1, P => sumN B fun x => cntB B r fun p => P ((x : Int) :: p)
theorem sumN_congr {f g : Nat → Nat} : ∀ (n : Nat), (∀ i, i < n → f i = g i) → sumN n f = sumN n g
 | 0, _ => rfl
 | n + 1, h => by unfold sumN; rw [sumN_congr n (fun i hi => h i (by omega)), h n (by omega)]
theorem sumN_zero {f : Nat → Nat} : ∀ (n : Nat), (∀ i, i < n → f i = 0) → sumN n f = 0
 | 0, _ => rfl
 | n + 1, h => by unfold sumN; rw [sumN_zero n (fun i hi => h i (by omega)), h n (by omega)]
theorem sumN_add (f : Nat → Nat) (m : Nat) : ∀ n, sumN (m + n) f = sumN m f + sumN n (fun i => f (m + i))
 | 0 => rfl
 | n + 1 => by show sumN (m + n) f + f (m + n) = sumN m f + (sumN n (fun i => f (m + i)) + f (m + n)); rw [sumN_add f m n, Nat.add_assoc]
theorem sumN_plus (f g : Nat → Nat) : ∀ n, sumN n (fun i => f i + g i) = sumN n f + sumN n g
 | 0 => rfl
 | n + 1 => by show sumN n (fun i => f i + g i) + (f n + g n) = (sumN n f + f n) + (sumN n g + g n); rw [sumN_plus f g n]; omega
theorem sumN_first (f : Nat → Nat) (n : Nat) : sumN (n + 1) f = f 0 + sumN n (fun i => f (i + 1)) := by
 rw [show n + 1 = 1 + n by omega, sumN_add]
 show (0 + f 0) + _ = _
 rw [Nat.zero_add, show (fun i => f (1 + i)) = fun i => f (i + 1) from funext fun i => by rw [Nat.add_comm]]
theorem sumN_blocks (g : Nat → Nat) : ∀ M, sumN (10 * M) g = sumN 10 (fun x => sumN M (fun m => g (x + 10 * m)))
 | 0 => (sumN_zero 10 (fun i _ => rfl)).symm
 | M + 1 => by
  rw [show 10 * (M + 1) = 10 * M + 10 by omega, sumN_add, sumN_blocks g M, ← sumN_plus]
  exact sumN_congr 10 (fun i _ => by show _ = sumN M _ + g (i + 10 * M); rw [Nat.add_comm (10 * M) i])
theorem cnt_false (B : Nat) : ∀ (r : Nat) (P : List Int → Bool), (∀ p, P p = false) → cntB B r P = 0
 | 0, P, h => by unfold cntB; rw [if_neg (by rw [h]; decide)]
 | r + 1, P, h => by unfold cntB; exact sumN_zero B (fun x _ => cnt_false B r _ (fun p => h _))
theorem cnt_cut : ∀ (r : Nat) (P : List Int → Bool), (∀ p, P p = true → ∀ x ∈ p, x < 10) → cntB 40 r P = cntB 10 r P
 | 0, P, h => rfl
 | r + 1, P, h => by
  show sumN (10 + 30) _ = sumN 10 _
  rw [sumN_add, sumN_zero 30 (fun i _ => cnt_false 40 r _ (fun p => ?_)), Nat.add_zero]
  · exact sumN_congr 10 (fun x _ => cnt_cut r _ (fun p hp y hy => h _ hp y (List.mem_cons_of_mem _ hy)))
  · cases hP : P (((10 + i : Nat) : Int) :: p) with
    | false => rfl
    | true => have := h _ hP _ (List.mem_cons_self); omega
def probe : Nat → Nat → List Int
 | 0, _ => []
 | r + 1, n => ((n % 10 : Nat) : Int) :: probe r (n / 10)
theorem probe_range : ∀ r n, InRange r (probe r n)
 | 0, _ => ⟨rfl, fun x hx => by cases hx⟩
 | r + 1, n => range_cons (by omega) (by omega) (probe_range r (n / 10))
theorem count_probe : ∀ (r : Nat) (P : List Int → Bool), sumN (10 ^ r) (fun n => if P (probe r n) = true then 1 else 0) = cntB 10 r P
 | 0, P => by show 0 + _ = _; rw [Nat.zero_add]; rfl
 | r + 1, P => by
  rw [Nat.pow_succ, Nat.mul_comm, sumN_blocks]
  unfold cntB
  refine sumN_congr 10 (fun x hx => ?_)
  rw [← count_probe r]
  refine sumN_congr _ (fun m _ => ?_)
  show (if P (((x + 10 * m) % 10 : Nat) :: probe r ((x + 10 * m) / 10)) = true then 1 else 0) = _
  rw [show (x + 10 * m) % 10 = x by omega, show (x + 10 * m) / 10 = m by omega]
def volB : List Int → List Int → Int
 | a :: ah, b :: bs => (b - a) * volB ah bs
 | _, _ => 1
def volL : List S42 → Int
 | [] => 0
 | b :: l => volB b.f0 b.f1 + volL l
theorem volL_app (m : List S42) : ∀ l, volL (l ++ m) = volL l + volL m
 | [] => by show volL m = 0 + volL m; omega
 | b :: l => by show volB _ _ + volL (l ++ m) = volB _ _ + volL l + volL m; rw [volL_app m l]; omega
theorem volL_pre (a b : Int) : ∀ l, volL (pre l a b) = (b - a) * volL l
 | [] => by show (0 : Int) = (b - a) * 0; rw [Int.mul_zero]
 | x :: l => by
  show (b - a) * volB x.f0 x.f1 + volL (pre l a b) = (b - a) * (volB x.f0 x.f1 + volL l)
  rw [volL_pre a b l, Int.mul_add]
theorem rle_vol (f : Nat → List S42) (c : Nat → Nat) (hc : ∀ i, volL (f i) = (c i : Int)) : ∀ (d x : Nat) (out run : List S42) (beg : Int), f (x + d) = [] →
 volL (rle f (d + 1) x out run beg) = volL out + ((x : Int) - beg) * volL run + (sumN (d + 1) (fun i => c (x + i)) : Nat) := by
 intro d
 induction d with
 | zero =>
  intro x out run beg h
  rw [Nat.add_zero] at h
  have h0 : (c x : Int) = 0 := by rw [← hc x, h]; rfl
  show volL (if f x = run then rle f 0 (x + 1) out run beg else rle f 0 (x + 1) (out ++ pre run beg x) (f x) x) = _ + ((0 + c x : Nat) : Int)
  rw [Nat.zero_add, h0, h]
  by_cases e : [] = run
  · rw [if_pos e, ← e]
    show volL out = volL out + ((x : Int) - beg) * 0 + 0
    rw [Int.mul_zero]; omega
  · rw [if_neg e]
    show volL (out ++ pre run beg x) = _
    rw [volL_app, volL_pre]; omega
 | succ d ih =>
  intro x out run beg h
  have e1 : (sumN (d + 1 + 1) (fun i => c (x + i)) : Nat) = c x + sumN (d + 1) (fun i => c (x + 1 + i)) := by
   rw [sumN_first, Nat.add_zero]
   congr 1
   exact sumN_congr _ (fun i _ => by rw [show x + (i + 1) = x + 1 + i by omega])
  rw [e1]
  show volL (if f x = run then rle f (d + 1) (x + 1) out run beg else rle f (d + 1) (x + 1) (out ++ pre run beg x) (f x) x) = _
  by_cases e : f x = run
  · rw [if_pos e, ih (x + 1) out run beg (by rw [show x + 1 + d = x + (d + 1) by omega]; exact h), ← e, hc x, show ((x + 1 : Nat) : Int) - beg = ((x : Int) - beg) + 1 by omega, Int.add_mul]
    omega
  · rw [if_neg e, ih (x + 1) _ _ _ (by rw [show x + 1 + d = x + (d + 1) by omega]; exact h), volL_app, volL_pre, hc x, show ((x + 1 : Nat) : Int) - (x : Int) = 1 by omega, Int.one_mul]
    omega
theorem NF_vol : ∀ (r : Nat) (P : List Int → Bool), volL (NF r P) = (cntB 40 r P : Int)
 | 0, P => by
  unfold NF cntB
  by_cases h : P [] = true
  · rw [if_pos h, if_pos h]; rfl
  · rw [if_neg h, if_neg h]; rfl
 | r + 1, P => by
  have hc : ∀ i : Nat, volL (if i < 40 then NF r (fun p => P ((i : Int) :: p)) else []) = ((if i < 40 then cntB 40 r (fun p => P ((i : Int) :: p)) else 0 : Nat) : Int) := fun i => by
   by_cases h : i < 40
   · rw [if_pos h, if_pos h]; exact NF_vol r _
   · rw [if_neg h, if_neg h]; rfl
  have := rle_vol (fun x => if x < 40 then NF r (fun p => P ((x : Int) :: p)) else []) _ hc 40 0 [] [] 0 (by simp)
  unfold NF
  rw [this]
  show (0 : Int) + ((0 : Nat) - 0 : Int) * 0 + ((sumN 40 (fun i => if 0 + i < 40 then cntB 40 r (fun p => P (((0 + i : Nat) : Int) :: p)) else 0) + (if 0 + 40 < 40 then _ else 0) : Nat) : Int) = _
  rw [if_neg (by omega)]
  have e : sumN 40 (fun i => if 0 + i < 40 then cntB 40 r (fun p => P (((0 + i : Nat) : Int) :: p)) else 0) = cntB 40 (r + 1) P := by
   show _ = sumN 40 _
   exact sumN_congr 40 (fun i hi => by rw [if_pos (by omega), Nat.zero_add])
  rw [e]
  omega
theorem inBx_lt : ∀ (a b p : List Int), inBx a b p = true → (∀ y ∈ b, y ≤ 10) → ∀ x ∈ p, x < 10
 | a :: ah, b :: bs, q :: qs, h, hb, x, hx => by
  simp only [inBx, Bool.and_eq_true, decide_eq_true_eq] at h
  rcases List.mem_cons.1 hx with rfl | hx
  · have := hb b List.mem_cons_self; omega
  · exact inBx_lt ah bs qs h.2 (fun y hy => hb y (List.mem_cons_of_mem _ hy)) x hx
 | [], [], [], _, _, x, hx => by cases hx
 | [], _ :: _, _, h, _, _, _ => by simp [inBx] at h
 | [], [], _ :: _, h, _, _, _ => by simp [inBx] at h
 | _ :: _, [], _, h, _, _, _ => by simp [inBx] at h
 | _ :: _, _ :: _, [], h, _, _, _ => by simp [inBx] at h
theorem PB_le {l h : List Int} (hp : PB l h) : ∀ y ∈ h, y ≤ 10 := fun y hy => by
 obtain ⟨i, hi, rfl⟩ := List.mem_iff_getElem.1 hy
 have := (hp.2 i (by rw [← hp.1]; exact hi)).2.2
 rwa [rd_lt h i hi] at this
theorem mem_lt10 {r : Nat} {l : List S42} (h : DL r l) (p : List Int) (hm : mem l p = true) : ∀ x ∈ p, x < 10 := by
 unfold mem at hm
 obtain ⟨b, hb, hi⟩ := List.any_eq_true.1 hm
 exact inBx_lt b.f0 b.f1 p hi (PB_le (h b hb).2)
theorem DL_rows {r : Nat} {l : List S42} (h : DL r l) : Rows r l := fun b hb => ⟨(h b hb).1, by rw [(h b hb).2.1]; exact (h b hb).1⟩
theorem rank_DL {r : Nat} {a b : List S42} (ha : DL r a) (hb : DL r b) : rankL a b = r ∨ (a = [] ∧ b = []) := by
 unfold rankL
 by_cases h1 : 0 < a.length
 · rw [if_pos h1]
   refine .inl ?_
   have := (ha _ (List.getElem_mem h1)).1
   rwa [← rd_at a 0 h1] at this
 ·
  rw [if_neg h1]
  by_cases h2 : 0 < b.length
  · rw [if_pos h2]
    refine .inl ?_
    have := (hb _ (List.getElem_mem h2)).1
    rwa [← rd_at b 0 h2] at this
  · exact .inr ⟨List.length_eq_zero_iff.1 (by omega), List.length_eq_zero_iff.1 (by omega)⟩
/-- what an operation comes to, where it comes to a set -/
theorem res_full (g : Bool → Bool → Bool) (g0 : g false false = false) {r : Nat} {a b : List S42} (ha : DL r a) (hb : DL r b) (h : (res g a b).2 = 0) :
 (res g a b).1 = NF r (fun p => g (mem a p) (mem b p)) ∧ (NF r (fun p => g (mem a p) (mem b p))).length ≤ 32 := by
 unfold res at h ⊢
 split at h
 ·
  rename_i h1
  rw [if_pos h1]
  have e : NF (rankL a b) (fun p => g (mem a p) (mem b p)) = NF r (fun p => g (mem a p) (mem b p)) := by
   rcases rank_DL ha hb with h2 | ⟨rfl, rfl⟩
   · rw [h2]
   · have : (fun p => g (mem [] p) (mem [] p)) = fun _ => false := by funext p; exact g0
     rw [this, NF_false, NF_false]
  split at h
  · exact absurd h (by decide)
  · rename_i h2
    rw [if_neg h2, ← e]
    exact ⟨rfl, by omega⟩
 · exact absurd h (by decide)
theorem prod2 {u v : Int} (hu : 0 ≤ u ∧ u ≤ 40) (hv : 0 ≤ v ∧ v ≤ 40) : 0 ≤ u * v ∧ u * v ≤ 1600 :=
 ⟨Int.mul_nonneg hu.1 hv.1, Int.le_trans (Int.mul_le_mul hu.2 hv.2 hv.1 (by omega)) (by decide)⟩
theorem prod3 {u v : Int} (hu : 0 ≤ u ∧ u ≤ 1600) (hv : 0 ≤ v ∧ v ≤ 40) : 0 ≤ u * v ∧ u * v ≤ 64000 :=
 ⟨Int.mul_nonneg hu.1 hv.1, Int.le_trans (Int.mul_le_mul hu.2 hv.2 hv.1 (by omega)) (by decide)⟩
theorem w64 {x : Int} (h : -64000000 ≤ x ∧ x ≤ 64000000) : wrap64 x = x := by unfold wrap64; omega
theorem size_impl {r : Nat} (hr : r ≤ 3) {b : S42} (hv : VB r b) (k : Nat) (hk : 1048600 ≤ k) : impl_BoxSize.f k b.f0 b.f1 = some (volB b.f0 b.f1) ∧ 0 ≤ volB b.f0 b.f1 ∧ volB b.f0 b.f1 ≤ 64000 := by
 have hV : VBox b.f0 b.f1 := ⟨by rw [hv.1]; exact hr, by rw [hv.1, hv.2.1], fun i hi => hv.2.2 i (by rw [hv.1] at hi; exact hi)⟩
 unfold impl_BoxSize.f
 rw [box_impl k _ _ (by omega), decide_eq_true hV]
 simp only [Option.bind_some, if_true]
 obtain ⟨k, rfl⟩ : ∃ z, k = z + 1 + 1 + 1 + 1 := ⟨k - 4, by omega⟩
 have z1 : wrap64 (0 + 1) = 1 := by unfold wrap64; omega
 have z2 : wrap64 (1 + 1) = 2 := by unfold wrap64; omega
 have z3 : wrap64 (2 + 1) = 3 := by unfold wrap64; omega
 match r, hr, hv with
 | 0, _, hv =>
  rw [List.length_eq_zero_iff.1 hv.1, List.length_eq_zero_iff.1 hv.2.1]
  refine ⟨?_, by decide, by decide⟩
  rw [impl_BoxSize.l0, if_neg (by simp)]
  rfl
 | 1, _, hv =>
  obtain ⟨a, ah, c, cs, rfl, h1, hv1⟩ := VB_cons hv
  obtain rfl := List.length_eq_zero_iff.1 hv1.1
  obtain rfl := List.length_eq_zero_iff.1 hv1.2.1
  have v1 : wrap64 (c - a) = c - a := w64 (by omega)
  have e : volB [a] [c] = c - a := by show (c - a) * 1 = _; rw [Int.mul_one]
  refine ⟨?_, by show 0 ≤ volB [a] [c]; rw [e]; omega, by show volB [a] [c] ≤ _; rw [e]; omega⟩
  show impl_BoxSize.l0 _ 1 [a] (([a] : List Int).length : Int) 0 [a] [c] = some (volB [a] [c])
  rw [e, impl_BoxSize.l0, if_pos (by simp), if_pos (by omega), if_pos (by simp), if_pos (by simp), rd_cons0, rd_cons0, v1, Int.one_mul, v1, z1, impl_BoxSize.l0, if_neg (by simp)]
 | 2, _, hv =>
  obtain ⟨a, ah, c, cs, rfl, h1, hv1⟩ := VB_cons hv
  obtain ⟨a2, ah2, c2, cs2, e2, h2, hv2⟩ := VB_cons hv1
  injection e2 with e3 e4
  subst e3; subst e4
  obtain rfl := List.length_eq_zero_iff.1 hv2.1
  obtain rfl := List.length_eq_zero_iff.1 hv2.2.1
  have v1 : wrap64 (c - a) = c - a := w64 (by omega)
  have v2 : wrap64 (c2 - a2) = c2 - a2 := w64 (by omega)
  have m := prod2 (u := c - a) (v := c2 - a2) (by omega) (by omega)
  have v12 : wrap64 ((c - a) * (c2 - a2)) = (c - a) * (c2 - a2) := w64 (by omega)
  have e : volB [a, a2] [c, c2] = (c - a) * (c2 - a2) := by show (c - a) * ((c2 - a2) * 1) = _; rw [Int.mul_one]
  refine ⟨?_, by show 0 ≤ volB [a, a2] [c, c2]; rw [e]; omega, by show volB [a, a2] [c, c2] ≤ _; rw [e]; omega⟩
  show impl_BoxSize.l0 _ 1 [a, a2] (([a, a2] : List Int).length : Int) 0 [a, a2] [c, c2] = some (volB [a, a2] [c, c2])
  have r1 : rd [a, a2] 1 = a2 := rfl
  have r2 : rd [c, c2] 1 = c2 := rfl
  rw [e, impl_BoxSize.l0, if_pos (by simp), if_pos (by omega), if_pos (by simp), if_pos (by simp), rd_cons0, rd_cons0, v1, Int.one_mul, v1, z1, impl_BoxSize.l0, if_pos (by simp), if_pos (by omega), if_pos (by simp), if_pos (by simp), r1, r2, v2, v12, z2, impl_BoxSize.l0, if_neg (by simp)]
 | 3, _, hv =>
  obtain ⟨a, ah, c, cs, rfl, h1, hv1⟩ := VB_cons hv
  obtain ⟨a2, ah2, c2, cs2, e2, h2, hv2⟩ := VB_cons hv1
  injection e2 with e3 e4
  subst e3; subst e4
  obtain ⟨a3, ah3, c3, cs3, e5, h3, hv3⟩ := VB_cons hv2
  injection e5 with e6 e7
  subst e6; subst e7
  obtain rfl := List.length_eq_zero_iff.1 hv3.1
  obtain rfl := List.length_eq_zero_iff.1 hv3.2.1
  have v1 : wrap64 (c - a) = c - a := w64 (by omega)
  have v2 : wrap64 (c2 - a2) = c2 - a2 := w64 (by omega)
  have v3 : wrap64 (c3 - a3) = c3 - a3 := w64 (by omega)
  have m := prod2 (u := c - a) (v := c2 - a2) (by omega) (by omega)
  have m3 := prod3 (u := (c - a) * (c2 - a2)) (v := c3 - a3) (by omega) (by omega)
  have v12 : wrap64 ((c - a) * (c2 - a2)) = (c - a) * (c2 - a2) := w64 (by omega)
  have v123 : wrap64 ((c - a) * (c2 - a2) * (c3 - a3)) = (c - a) * (c2 - a2) * (c3 - a3) := w64 (by omega)
  have e : volB [a, a2, a3] [c, c2, c3] = (c - a) * (c2 - a2) * (c3 - a3) := by show (c - a) * ((c2 - a2) * ((c3 - a3) * 1)) = _; rw [Int.mul_one, Int.mul_assoc]
  refine ⟨?_, by show 0 ≤ volB [a, a2, a3] [c, c2, c3]; rw [e]; omega, by show volB [a, a2, a3] [c, c2, c3] ≤ _; rw [e]; omega⟩
  show impl_BoxSize.l0 _ 1 [a, a2, a3] (([a, a2, a3] : List Int).length : Int) 0 [a, a2, a3] [c, c2, c3] = some (volB [a, a2, a3] [c, c2, c3])
  have r1 : rd [a, a2, a3] 1 = a2 := rfl
  have r2 : rd [c, c2, c3] 1 = c2 := rfl
  have r3 : rd [a, a2, a3] 2 = a3 := rfl
  have r4 : rd [c, c2, c3] 2 = c3 := rfl
  rw [e, impl_BoxSize.l0, if_pos (by simp), if_pos (by omega), if_pos (by simp), if_pos (by simp), rd_cons0, rd_cons0, v1, Int.one_mul, v1, z1, impl_BoxSize.l0, if_pos (by simp), if_pos (by omega), if_pos (by simp), if_pos (by simp), r1, r2, v2, v12, z2, impl_BoxSize.l0, if_pos (by simp), if_pos (by omega), if_pos (by simp), if_pos (by simp), r3, r4, v3, v123, z3, impl_BoxSize.l0, if_neg (by simp)]
theorem size_list {r : Nat} (hr : r ≤ 3) (l : List S42) (hv : VL r l) (hl : l.length ≤ 32) (k : Nat) (hk : 1048700 ≤ k) : laws_d8Size.f k l = some (volL l) := by
 have key : ∀ (d i k : Nat) (acc : Int), i + d = l.length → 1048600 + d < k → 0 ≤ acc → acc + 64000 * d ≤ 64000000 → laws_d8Size.l0 k l acc (i : Int) = some (acc + volL (l.drop i)) := by
  intro d
  induction d with
  | zero =>
   intro i k acc hi hk h0 h1
   obtain ⟨k, rfl⟩ : ∃ z, k = z + 1 := ⟨k - 1, by omega⟩
   rw [laws_d8Size.l0, if_neg (by omega), List.drop_eq_nil_of_le (by omega)]
   show some acc = some (acc + 0)
   rw [Int.add_zero]
  | succ d ih =>
   intro i k acc hi hk h0 h1
   obtain ⟨k, rfl⟩ : ∃ z, k = z + 1 := ⟨k - 1, by omega⟩
   obtain ⟨s1, s2, s3⟩ := size_impl hr (hv _ (List.getElem_mem (show i < l.length by omega))) k (by omega)
   rw [laws_d8Size.l0, if_pos (by omega), if_pos (by omega), rd_at l i (by omega), s1]
   simp only [Option.bind_some]
   rw [w64 (by omega), wrap_up i (by omega), ih (i + 1) k _ (by omega) (by omega) (by omega) (by omega), drop_at l i (by omega)]
   show some (acc + volB _ _ + volL _) = some (acc + (volB _ _ + volL _))
   rw [Int.add_assoc]
 have := key l.length 0 k 0 (by omega) (by omega) (by omega) (by omega)
 unfold laws_d8Size.f
 rw [show laws_d8Size.l0 k l 0 0 = _ from this, Int.zero_add]
 rfl
theorem ok_NF (r : Nat) (hr : r ≤ 3) (P : List Int → Bool) (h : (NF r P).length ≤ 32) : okL (NF r P) := by
 have hv := NF_VL r P
 have hlen : ∀ i, i < (NF r P).length → (rd_T42 (NF r P) (i : Int)).f0.length = r := fun i hi => by
  rw [rd_at _ i hi]; exact (hv _ (List.getElem_mem hi)).1
 refine ⟨fun i hi => ?_, by omega⟩
 have h1 := hv _ (List.getElem_mem hi)
 rw [← rd_at _ i hi] at h1
 refine ⟨⟨by rw [h1.1]; exact hr, by rw [h1.1, h1.2.1], fun j hj => h1.2.2 j (by rw [h1.1] at hj; exact hj)⟩, ?_⟩
 rw [h1.1]
 exact (hlen 0 (by omega)).symm
theorem has_eq (a b p : List Int) (r : Nat) (hr : r ≤ 3) (ha : a.length = r) (hb : b.length = r) (hp : p.length = r) (hB : ∀ i : Nat, i < r → 0 ≤ rd b (i : Int) ∧ rd b (i : Int) ≤ 40) (k : Nat) (hk : r < k) : impl_Box_has.f k a b p = some (inBx a b p) := by
 have key : ∀ (d i k : Nat), i + d = r → d < k → impl_Box_has.l0 k p (p.length : Int) (i : Int) a b = some (inBx (a.drop i) (b.drop i) (p.drop i)) := by
  intro d
  induction d with
  | zero =>
   intro i k hi hk
   obtain ⟨k, rfl⟩ : ∃ z, k = z + 1 := ⟨k - 1, by omega⟩
   rw [impl_Box_has.l0, if_neg (by omega), List.drop_eq_nil_of_le (by omega), List.drop_eq_nil_of_le (by omega), List.drop_eq_nil_of_le (by omega)]
   rfl
  | succ d ih =>
   intro i k hi hk
   obtain ⟨k, rfl⟩ : ∃ z, k = z + 1 := ⟨k - 1, by omega⟩
   have hbi := hB i (by omega)
   have hw : wrap64 (rd b (i : Int) - 1) = rd b (i : Int) - 1 := w64 (by omega)
   rw [impl_Box_has.l0, if_pos (by omega), if_pos (by omega), if_pos (by omega), if_pos (by omega), if_pos (by omega), within_eq, wrap_up i (by omega), hw, dropi a i (by omega), dropi b i (by omega), dropi p i (by omega)]
   simp only [Option.bind_some, decide_eq_true_eq, inBx]
   by_cases h : rd a (i : Int) ≤ rd p (i : Int) ∧ rd p (i : Int) ≤ rd b (i : Int) - 1
   · rw [if_pos h, ih (i + 1) k (by omega) (by omega), decide_eq_true h.1, decide_eq_true (show rd p (i : Int) < rd b (i : Int) by omega)]
     rfl
   · rw [if_neg h]
     by_cases h1 : rd a (i : Int) ≤ rd p (i : Int)
     · rw [decide_eq_false (show ¬ rd p (i : Int) < rd b (i : Int) from fun h2 => h ⟨h1, by omega⟩), Bool.and_false, Bool.false_and]
     · rw [decide_eq_false h1, Bool.false_and, Bool.false_and]
 have := key r 0 k (by omega) hk
 unfold impl_Box_has.f
 rw [show (0 : Int) = ((0 : Nat) : Int) from rfl, this]
 rfl
theorem inboxes_eq (l : List S42) (r : Nat) (hr : r ≤ 3) (hv : VL r l) (hok : okL l) (p : List Int) (hp : p.length = r) (k : Nat) (hk : 1048700 ≤ k) : impl_InBoxes.f k l p = some (mem l p) := by
 have hl : l.length ≤ 32 := by have := hok.2; omega
 unfold impl_InBoxes.f slices_ContainsFunc_impl_InBoxes_1.f slices_IndexFunc_impl_InBoxes_1.f
 rw [list_impl l (by omega) k (by omega), decide_eq_true hok.1, decide_eq_true hok.2]
 simp only [Option.bind_some, Bool.and_true, if_true]
 rw [find_loop (fun k i => slices_IndexFunc_impl_InBoxes_1.l0 k l l.length i p) (fun i => inBx (rd_T42 l (i : Int)).f0 (rd_T42 l (i : Int)).f1 p = true) l.length 10
  (by intro k _; show slices_IndexFunc_impl_InBoxes_1.l0 (k + 1) l _ _ p = _; rw [slices_IndexFunc_impl_InBoxes_1.l0, if_neg (by omega)])
  (by
   intro k i hk hi
   show slices_IndexFunc_impl_InBoxes_1.l0 (k + 1) l _ _ p = _
   have hb := hv _ (List.getElem_mem hi)
   rw [← rd_at l i hi] at hb
   rw [slices_IndexFunc_impl_InBoxes_1.l0, if_pos (by omega), if_pos (by omega), if_pos (by omega), wrap_up i (by omega)]
   unfold impl_InBoxes_1.f
   rw [if_pos (by rw [hb.1, hp]), has_eq _ _ p r hr hb.1 hb.2.1 hp (fun j hj => by have := hb.2.2 j hj; unfold BoxAt at this; omega) k (by omega)]
   simp only [Option.bind_some])
  k (by omega)]
 simp only [Option.bind_some]
 rcases look_or (fun i => inBx (rd_T42 l (i : Int)).f0 (rd_T42 l (i : Int)).f1 p = true) l.length 0 with ⟨h4, h5⟩ | ⟨j, -, h4, h5, h6⟩
 ·
  rw [h4]
  have : mem l p = false := by
   unfold mem
   rw [List.any_eq_false]
   intro b hb
   obtain ⟨i, hi, rfl⟩ := List.mem_iff_getElem.1 hb
   have := h5 i (by omega) (by omega)
   rwa [rd_at l i hi] at this
  rw [this]; rfl
 ·
  rw [h5]
  have : mem l p = true := by
   unfold mem
   rw [List.any_eq_true]
   refine ⟨_, List.getElem_mem (show j < l.length by omega), ?_⟩
   rwa [rd_at l j (by omega)] at h6
  have h8 : (j : Int) ≥ 0 := by omega
  rw [this]; simp [h8]
theorem probe_eq : ∀ (r n k : Nat) (acc : List Int), r < k → r ≤ 3 → acc.length + r ≤ 1000 → n ≤ 1000000 → laws_d8Probe.l0 k (r : Int) (n : Int) acc = some (acc ++ probe r n) := by
 intro r
 induction r with
 | zero =>
  intro n k acc hk hr ha hn
  obtain ⟨k, rfl⟩ : ∃ z, k = z + 1 := ⟨k - 1, by omega⟩
  rw [laws_d8Probe.l0, if_neg (by omega)]
  simp [probe]
 | succ r ih =>
  intro n k acc hk hr ha hn
  obtain ⟨k, rfl⟩ : ∃ z, k = z + 1 := ⟨k - 1, by omega⟩
  have e1 : Int.tmod (n : Int) 10 = ((n % 10 : Nat) : Int) := by rw [Int.tmod_eq_emod_of_nonneg (by omega)]; omega
  have e2 : wrap64 (Int.tdiv (n : Int) 10) = ((n / 10 : Nat) : Int) := by rw [Int.tdiv_eq_ediv_of_nonneg (by omega)]; unfold wrap64; omega
  rw [laws_d8Probe.l0, if_pos (by omega), if_pos (by omega), e1, e2, show wrap64 (((r + 1 : Nat) : Int) - 1) = (r : Int) by unfold wrap64; omega, ih (n / 10) k _ (by omega) (by omega) (by simp; omega) (by omega)]
  simp [probe]
theorem law_j3 (k : Nat) (R A n c0 c1 c2 : Int) (a b u v w : List S42) (x y z : Bool) (h0 : 0 ≤ c0 ∧ c0 ≤ 1000000) (h1 : 0 ≤ c1 ∧ c1 ≤ 1000000) (h2 : 0 ≤ c2 ∧ c2 ≤ 1000000) (hn : 0 ≤ n ∧ n ≤ 1000000) :
 laws_FnSlabAlgebra.j3 (k + 2) R a b u v w A [c0, c1, c2] n x y z false = laws_FnSlabAlgebra.l1 k R a b u v w A [c0 + (if x = true then 1 else 0), c1 + (if y = true then 1 else 0), c2 + (if z = true then 1 else 0)] (n + 1) := by
 have w0 : wrap64 (c0 + 1) = c0 + 1 := w64 (by omega)
 have w1 : wrap64 (c1 + 1) = c1 + 1 := w64 (by omega)
 have w2 : wrap64 (c2 + 1) = c2 + 1 := w64 (by omega)
 have w3 : wrap64 (n + 1) = n + 1 := w64 (by omega)
 have r0 : ∀ q0 q1 q2 : Int, rd [q0, q1, q2] 0 = q0 := fun _ _ _ => rfl
 have r1 : ∀ q0 q1 q2 : Int, rd [q0, q1, q2] 1 = q1 := fun _ _ _ => rfl
 have r2 : ∀ q0 q1 q2 : Int, rd [q0, q1, q2] 2 = q2 := fun _ _ _ => rfl
 have s0 : ∀ q q0 q1 q2 : Int, [q0, q1, q2].set (0 : Int).toNat q = [q, q1, q2] := fun _ _ _ _ => rfl
 have s1 : ∀ q q0 q1 q2 : Int, [q0, q1, q2].set (1 : Int).toNat q = [q0, q, q2] := fun _ _ _ _ => rfl
 have s2 : ∀ q q0 q1 q2 : Int, [q0, q1, q2].set (2 : Int).toNat q = [q0, q1, q] := fun _ _ _ _ => rfl
 have l3 : ∀ q0 q1 q2 : Int, (([q0, q1, q2] : List Int).length : Int) = 3 := fun _ _ _ => rfl
 have i0 : (0 : Int) < 3 := by decide
 have i1 : (1 : Int) < 3 := by decide
 have i2 : (2 : Int) < 3 := by decide
 rw [laws_FnSlabAlgebra.j3, if_neg (by decide)]
 cases x <;> cases y <;> cases z <;> simp only [Bool.false_eq_true, if_false, if_true, l3, i0, r0, s0, w0, Int.add_zero] <;> rw [laws_FnSlabAlgebra.j4] <;> simp only [Bool.false_eq_true, if_false, if_true, l3, i1, i2, r1, r2, s1, s2, w1, w2, w3, Option.bind_some]
def cOf (r : Nat) (l : List S42) (n : Nat) : Nat := if mem l (probe r n) = true then 1 else 0
theorem cOf_le (r : Nat) (l : List S42) : ∀ n, sumN n (cOf r l) ≤ n
 | 0 => Nat.le_refl _
 | n + 1 => by
  have := cOf_le r l n
  show sumN n (cOf r l) + cOf r l n ≤ n + 1
  have : cOf r l n ≤ 1 := by unfold cOf; split <;> omega
  omega
theorem law_l1 (r : Nat) (hr : r ≤ 3) (a b u v w : List S42) (Ra : Rows r a) (Rb : Rows r b) (Ru : Rows r u) (Rv : Rows r v) (Rw : Rows r w) (la : a.length ≤ 1000) (lb : b.length ≤ 1000) (lu : u.length ≤ 1000) (lv : v.length ≤ 1000) (lw : w.length ≤ 1000)
 (hu : ∀ p, InRange r p → mem u p = (mem a p || mem b p)) (hv : ∀ p, InRange r p → mem v p = (mem a p && mem b p)) (hw : ∀ p, InRange r p → mem w p = (mem a p && !mem b p))
 (HI : ∀ k p, p.length = r → 1048700 ≤ k → impl_InBoxes.f k u p = some (mem u p)) (su : ∀ k, 1048700 ≤ k → laws_d8Size.f k u = some ((sumN (10 ^ r) (cOf r u) : Nat) : Int)) (sv : ∀ k, 1048700 ≤ k → laws_d8Size.f k v = some ((sumN (10 ^ r) (cOf r v) : Nat) : Int)) (sw : ∀ k, 1048700 ≤ k → laws_d8Size.f k w = some ((sumN (10 ^ r) (cOf r w) : Nat) : Int)) :
 ∀ (d n k : Nat), n + d = 10 ^ r → 1048710 + 3 * d ≤ k → laws_FnSlabAlgebra.l1 k (r : Int) a b u v w ((10 ^ r : Nat) : Int) [((sumN n (cOf r u) : Nat) : Int), ((sumN n (cOf r v) : Nat) : Int), ((sumN n (cOf r w) : Nat) : Int)] (n : Int) = some true := by
 have h10 : 10 ^ r ≤ 1000 := by
  have : r = 0 ∨ r = 1 ∨ r = 2 ∨ r = 3 := by omega
  rcases this with rfl | rfl | rfl | rfl <;> decide
 intro d
 induction d with
 | zero =>
  intro n k hn hk
  obtain ⟨k, rfl⟩ : ∃ z, k = z + 1 := ⟨k - 1, by omega⟩
  obtain rfl : n = 10 ^ r := by omega
  rw [laws_FnSlabAlgebra.l1, if_neg (by omega), su k (by omega), sv k (by omega), sw k (by omega)]
  simp only [Option.bind_some]
  have q0 : ∀ q0 q1 q2 : Int, rd [q0, q1, q2] 0 = q0 := fun _ _ _ => rfl
  have q1 : ∀ q0 q1 q2 : Int, rd [q0, q1, q2] 1 = q1 := fun _ _ _ => rfl
  have q2 : ∀ q0 q1 q2 : Int, rd [q0, q1, q2] 2 = q2 := fun _ _ _ => rfl
  rw [q0, q1, q2, if_pos (by simp), if_pos rfl, if_pos (by simp), if_pos rfl, if_pos (by simp)]
  exact congrArg some (beq_self_eq_true _)
 | succ d ih =>
  intro n k hn hk
  obtain ⟨k, rfl⟩ : ∃ z, k = z + 2 + 1 := ⟨k - 3, by omega⟩
  have hp := probe_range r n
  have hpl := hp.1
  have ih' := ih (n + 1) k (by omega) (by omega)
  have step : laws_FnSlabAlgebra.j3 (k + 2) (r : Int) a b u v w ((10 ^ r : Nat) : Int) [((sumN n (cOf r u) : Nat) : Int), ((sumN n (cOf r v) : Nat) : Int), ((sumN n (cOf r w) : Nat) : Int)] (n : Int) (mem u (probe r n)) (mem v (probe r n)) (mem w (probe r n)) false = some true := by
   have b0 := cOf_le r u n
   have b1 := cOf_le r v n
   have b2 := cOf_le r w n
   rw [law_j3 k _ _ _ _ _ _ a b u v w _ _ _ ⟨by omega, by omega⟩ ⟨by omega, by omega⟩ ⟨by omega, by omega⟩ ⟨by omega, by omega⟩]
   have e : ∀ l : List S42, ((sumN n (cOf r l) : Nat) : Int) + (if mem l (probe r n) = true then 1 else 0) = ((sumN (n + 1) (cOf r l) : Nat) : Int) := fun l => by
    show _ = ((sumN n (cOf r l) + cOf r l n : Nat) : Int)
    unfold cOf
    split <;> omega
   rw [e u, e v, e w]
   exact ih'
  have pe : laws_d8Probe.f (k + 2) (r : Int) (n : Int) = some (probe r n) := by
   unfold laws_d8Probe.f
   rw [probe_eq r n (k + 2) [] (by omega) hr (by simp; omega) (by omega)]
   rfl
  rw [laws_FnSlabAlgebra.l1, if_pos (by omega), pe]
  simp only [Option.bind_some]
  rw [d8in_eq a _ r hr Ra (by omega) hpl _ (by omega), d8in_eq b _ r hr Rb (by omega) hpl _ (by omega), d8in_eq u _ r hr Ru (by omega) hpl _ (by omega), d8in_eq v _ r hr Rv (by omega) hpl _ (by omega), d8in_eq w _ r hr Rw (by omega) hpl _ (by omega)]
  simp only [Option.bind_some]
  rw [HI _ _ hpl (by omega)]
  have e1 := hu _ hp
  have e2 := hv _ hp
  have e3 := hw _ hp
  generalize mem u (probe r n) = x at e1 step ⊢
  generalize mem v (probe r n) = y at e2 step ⊢
  generalize mem w (probe r n) = z at e3 step ⊢
  generalize mem a (probe r n) = p at e1 e2 e3 ⊢
  generalize mem b (probe r n) = q at e1 e2 e3 ⊢
  subst e1; subst e2; subst e3
  cases p <;> cases q <;> simp only [Option.bind_some, Bool.false_eq_true, if_false, if_true, Bool.or_false, Bool.or_true, Bool.false_or, Bool.and_false, Bool.and_true, Bool.false_and, Bool.true_and, Bool.not_false, Bool.not_true, bne_self_eq_false, Bool.true_or, ite_self] at step ⊢ <;> exact step
theorem law_l0 (r : Nat) (hr : r ≤ 3) (a b u v w : List S42) (k : Nat) : laws_FnSlabAlgebra.l0 (k + r + 1) (r : Int) a b u v w 1 0 = laws_FnSlabAlgebra.l1 k (r : Int) a b u v w ((10 ^ r : Nat) : Int) [0, 0, 0] 0 := by
 have m1 : wrap64 (1 * 10) = 10 := by unfold wrap64; omega
 have m2 : wrap64 (10 * 10) = 100 := by unfold wrap64; omega
 have m3 : wrap64 (100 * 10) = 1000 := by unfold wrap64; omega
 have z1 : wrap64 (0 + 1) = 1 := by unfold wrap64; omega
 have z2 : wrap64 (1 + 1) = 2 := by unfold wrap64; omega
 have z3 : wrap64 (2 + 1) = 3 := by unfold wrap64; omega
 have : r = 0 ∨ r = 1 ∨ r = 2 ∨ r = 3 := by omega
 rcases this with rfl | rfl | rfl | rfl
 · rw [laws_FnSlabAlgebra.l0, if_neg (by decide)]; rfl
 · rw [laws_FnSlabAlgebra.l0, if_pos (by decide), m1, z1, laws_FnSlabAlgebra.l0, if_neg (by decide)]; rfl
 · rw [laws_FnSlabAlgebra.l0, if_pos (by decide), m1, z1, laws_FnSlabAlgebra.l0, if_pos (by decide), m2, z2, laws_FnSlabAlgebra.l0, if_neg (by decide)]; rfl
 · rw [laws_FnSlabAlgebra.l0, if_pos (by decide), m1, z1, laws_FnSlabAlgebra.l0, if_pos (by decide), m2, z2, laws_FnSlabAlgebra.l0, if_pos (by decide), m3, z3, laws_FnSlabAlgebra.l0, if_neg (by decide)]; rfl
theorem size_count {r : Nat} (hr : r ≤ 3) (P : List Int → Bool) (hl : (NF r P).length ≤ 32) (h10 : ∀ p, P p = true → ∀ x ∈ p, x < 10) (k : Nat) (hk : 1048700 ≤ k) : laws_d8Size.f k (NF r P) = some ((sumN (10 ^ r) (cOf r (NF r P)) : Nat) : Int) := by
 rw [size_list hr _ (NF_VL r P) hl k hk, NF_vol, cnt_cut r P h10, ← count_probe r P]
 rw [show sumN (10 ^ r) (fun n => if P (probe r n) = true then 1 else 0) = sumN (10 ^ r) (cOf r (NF r P)) from sumN_congr _ (fun n _ => by unfold cOf; rw [NF_mem r P _ (probe_range r n)])]
theorem FnSlabAlgebra : laws_FnSlabAlgebra.Pure := by
 rintro c ⟨-, hw⟩
 have hc := code_wf hw
 obtain ⟨r, a, b, hr, ⟨da, la⟩, ⟨db, lb⟩, e1⟩ := e8_ok2 hc
 refine ⟨20000000, ?_⟩
 by_cases hlong : (c.length : Int) > 1048576
 · unfold laws_FnSlabAlgebra.f; rw [if_pos hlong]
 have I1 : ∀ k, 17000000 ≤ k → impl_UnionBoxes.f k a b = some (res or a b) := fun k hk => by
  unfold impl_UnionBoxes.f; rw [do_either a b (by omega) (by omega) k (by omega)]; rfl
 have I2 : ∀ k, 17000000 ≤ k → impl_IntersectBoxes.f k a b = some (res and a b) := fun k hk => by
  unfold impl_IntersectBoxes.f; rw [do_and a b (by omega) (by omega) k (by omega)]; rfl
 have I3 : ∀ k, 17000000 ≤ k → impl_SubtractBoxes.f k a b = some (res wo a b) := fun k hk => by
  unfold impl_SubtractBoxes.f; rw [do_without a b (by omega) (by omega) k (by omega)]; rfl
 have S1 : ∀ k, 17000000 ≤ k → spec_UnionBoxes.f k a b = some (res or a b) := fun k hk => by
  unfold spec_UnionBoxes.f; rw [do_spec 1 or or_holds rfl a b (by omega) (by omega) k (by omega)]; rfl
 have S2 : ∀ k, 17000000 ≤ k → spec_IntersectBoxes.f k a b = some (res and a b) := fun k hk => by
  unfold spec_IntersectBoxes.f; rw [do_spec 2 and and_holds rfl a b (by omega) (by omega) k (by omega)]; rfl
 have S3 : ∀ k, 17000000 ≤ k → spec_SubtractBoxes.f k a b = some (res wo a b) := fun k hk => by
  unfold spec_SubtractBoxes.f; rw [do_spec 3 wo wo_holds rfl a b (by omega) (by omega) k (by omega)]; rfl
 have bad : laws_FnSlabAlgebra.j0 20000000 (r : Int) a b (res or a b).1 (res or a b).2 (res and a b).1 (res and a b).2 (res wo a b).1 (res wo a b).2 true = some true := by
  rw [laws_FnSlabAlgebra.j0, if_pos rfl, S1 _ (by omega), S2 _ (by omega), S3 _ (by omega)]
  simp only [Option.bind_some, if_true, beq_self_eq_true]
 unfold laws_FnSlabAlgebra.f
 rw [if_neg hlong, e1 _ (by omega)]
 simp only [Option.bind_some]
 rw [I1 _ (by omega), I2 _ (by omega), I3 _ (by omega)]
 simp only [Option.bind_some]
 by_cases h1 : (res or a b).2 = 0
 ·
  rw [if_pos h1]
  by_cases h2 : (res and a b).2 = 0
  ·
   rw [if_pos h2]
   by_cases h3 : (res wo a b).2 = 0
   ·
    rw [show ((res wo a b).2 != 0) = false by rw [h3]; rfl, laws_FnSlabAlgebra.j0, if_neg (by decide)]
    obtain ⟨u1, u2⟩ := res_full or rfl da db h1
    obtain ⟨v1, v2⟩ := res_full and rfl da db h2
    obtain ⟨w1, w2⟩ := res_full wo rfl da db h3
    rw [u1, v1, w1, show (19999999 : Nat) = (19999998 - r) + r + 1 by omega, law_l0 r hr]
    have := law_l1 r hr a b _ _ _ (DL_rows da) (DL_rows db) (NF_rows r _) (NF_rows r _) (NF_rows r _) la lb (by omega) (by omega) (by omega)
     (fun p hp => NF_mem r (fun p => or (mem a p) (mem b p)) p hp) (fun p hp => NF_mem r (fun p => and (mem a p) (mem b p)) p hp) (fun p hp => NF_mem r (fun p => wo (mem a p) (mem b p)) p hp)
     (fun k p hp hk => inboxes_eq _ r hr (NF_VL r _) (ok_NF r hr _ u2) p hp k hk)
     (fun k hk => size_count hr _ u2 (fun p hp => by
      rcases Bool.or_eq_true_iff.1 (show (mem a p || mem b p) = true from hp) with h | h
      · exact mem_lt10 da p h
      · exact mem_lt10 db p h) k hk)
     (fun k hk => size_count hr _ v2 (fun p hp => mem_lt10 da p (Bool.and_eq_true_iff.1 (show (mem a p && mem b p) = true from hp)).1) k hk)
     (fun k hk => size_count hr _ w2 (fun p hp => mem_lt10 da p (Bool.and_eq_true_iff.1 (show (mem a p && !mem b p) = true from hp)).1) k hk)
     (10 ^ r) 0 (19999998 - r) (by omega) (by
      have : r = 0 ∨ r = 1 ∨ r = 2 ∨ r = 3 := by omega
      rcases this with rfl | rfl | rfl | rfl <;> omega)
    exact this
   · rw [show ((res wo a b).2 != 0) = true by rw [bne_iff_ne]; exact h3]
     exact bad
  · rw [if_neg h2]
    exact bad
 · rw [if_neg h1]
   exact bad

end Go.Proofs.Ytdiaebjbiddefaa.Pure
