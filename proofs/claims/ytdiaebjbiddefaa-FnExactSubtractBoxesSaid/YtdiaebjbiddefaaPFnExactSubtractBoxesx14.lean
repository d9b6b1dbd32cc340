/- Each Go function here comes to what the plain function of its name says, where that says something. Made by a program of this session, over the print. -/
import Derived.Test.YtdiaebjbiddefaaPFnExactSubtractBoxesx0
import Derived.Test.YtdiaebjbiddefaaPFnExactSubtractBoxesx10
import Derived.Test.YtdiaebjbiddefaaPFnExactSubtractBoxesx11
import Derived.Test.YtdiaebjbiddefaaPFnExactSubtractBoxesx12
import Derived.Test.YtdiaebjbiddefaaPFnExactSubtractBoxesx13
namespace Go.Proofs.Ytdiaebjbiddefaa.PFnExactSubtractBoxes
open Go.RowKit Go.Proofs.YtdiaebjbiddefaaW.PrintWords Go.Proofs.YtdiaebjbiddefaaW.PrintLast Go.Proofs.YtdiaebjbiddefaaW.PrintMore
attribute [local go_sem] max2_int min2_int max_two min_two max_three min_three max_four min_four   -- for this text's walks alone
set_option linter.unusedVariables false
set_option linter.unusedSimpArgs false

section
variable {P : Program} {ops : Array Oper} {rest : List Oper} {o : Oper} {a : Act} {Q : Exit → Act → World → Prop} {α : Type}
open Go.Proofs.YtdiaebjbiddefaaW.PrintWords.Kd in
/-- append(v, ys...): rows that are new and apart, ys' blocks (okp) none of v's. -/
theorem S_append_rows (d : Kd α) {w0 W : World} (base : Nat) (hgd : o.guard = none) (s x : Operand) (t e : TypeId) (z : Value) (bytes : Nat)
 (ho : o.op = .call { callee := .builtin .append, args := #[s, x], argTypes := #[t, t] })
 (ht : P.underlying t = some (.slice e)) (hinfo : (P.info? e).map (fun i => (i.zero, i.size, i.bytes)) = some (some z, d.sz, bytes)) (hz : z.cells.size = d.sz) (hs0 : 0 < d.sz) (hb0 : 0 < bytes)
 (v : Value) (xs ys : List α) (A : Option Addr) (m c : Nat) (ok okp : Nat → Prop) (hs : a.eval s = v) (hx : a.eval x = .slice A m c)
 (HO : Kd.S d e W base (fun k => ok k ∧ ¬ okp k) v xs) (HR : Kd.S d e W base okp (.slice A m c) ys) (hokp : ∀ k, okp k → ok k ∧ some k ≠ v.ownBlock) (hfresh : ∀ k, W.heap.size ≤ k → ok k)
 (HB : Below base w0 W) (hbase : base ≤ W.heap.size) (hl : (xs.length + m) * bytes ≤ 140737488355328)
 (h : ∀ v1 w1, Kd.S d e w1 base ok v1 (xs ++ ys) → Below base w0 w1 → W.grownBy w1 v.ownBlock → (v1.ownBlock = v.ownBlock ∨ ∃ b, v1.ownBlock = some b ∧ W.heap.size ≤ b) → wpList P ops Q rest (a.put o.dst v1) w1) :
 wpList P ops Q (o :: rest) a W := by
 obtain ⟨f1, h1⟩ := HO
 obtain ⟨f2, h2⟩ := HR
 obtain ⟨A', c', he, -, hr⟩ := OwnRow.reads h2.2
 injection he with e1 e2 _
 subst e1
 rw [List.length_zipIdx] at e2 hr
 subst e2
 have g1 : (tag (fun k => open Classical in if okp k then xs.length + f2 k else f1 k) d).R e W base (fun k => ok k ∧ ¬ okp k) v xs.zipIdx := R_tag h1 (fun k hk _ => if_neg hk.2)
 have g2 : ReadsRow ((tag (fun k => open Classical in if okp k then xs.length + f2 k else f1 k) d).M W base okp) d.sz W A ys.length (ys.zipIdx xs.length) := by
  refine ⟨by rw [List.length_zipIdx], hr.2.1, fun hp => ?_⟩
  obtain ⟨ad, e, hc⟩ := hr.2.2 hp
  refine ⟨ad, e, fun j p hj => ?_⟩
  rw [List.getElem?_zipIdx] at hj
  obtain ⟨y, hy, rfl⟩ := Option.map_eq_some_iff.1 hj
  obtain ⟨cc, hs, hM, hcell⟩ := hc j (y, j) (zip_at hy)
  exact ⟨cc, hs, d.M_mono (fun k hk => ⟨hk.1.1, (if_pos hk.1.1).trans (by rw [hk.2])⟩) hM, hcell⟩
 refine R_append_rows (tag _ d) base hgd s x t e z bytes ho ht hinfo hz hs0 hb0 v xs.zipIdx (ys.zipIdx xs.length) A _ c ok okp hs hx (R_mono g1 (fun _ hk => hk.1)) g2 (fun _ _ h => h) hokp hfresh HB hbase (by rw [List.length_zipIdx]; exact hl) ?_
 intro v1 w1 hr1 hb hg hat
 rw [show xs.zipIdx ++ ys.zipIdx xs.length = (xs ++ ys).zipIdx by rw [List.zipIdx_append]; simp] at hr1
 exact h v1 w1 ⟨_, hr1⟩ hb hg hat
/-- What is made by a call is new: it is apart from what was there. -/
theorem S_pair {α β : Type} {d : Kd α} {d' : Kd β} {e e' base : Nat} {W w1 : World} {okx oky : Nat → Prop} {u v : Value} {xs : List α} {ys : List β} (hx : Kd.S d e W base okx u xs) (hb : Below W.heap.size W w1) (hy : Kd.S d' e' w1 W.heap.size oky v ys) (hle : base ≤ W.heap.size) :
 ∃ N, Kd.S d e w1 base (fun k => okx k ∧ k < N) u xs ∧ Kd.S d' e' w1 base (fun k => oky k ∧ N ≤ k) v ys :=
 ⟨W.heap.size, Kd.S_old hx hb, Kd.S_lower (Kd.S_mono (Kd.S_bound hy) (fun k hk => ⟨hk.1, hk.2.1⟩)) hle⟩
end
/-! ### impl_combined_impl_without: function 87 -/
mutual
def impl_combined_impl_without.j0 : Nat → Int → List (S42) → List (S42) → Bool → Option ((List (S42)))
 | 0, _, _, _, _ => none
 | k + 1, x0, x1, x2, x33 => if x33 = true then (some ([] : List (S42))) else (impl_combined_impl_without.l0 k x0 x1 x2 ([] : List (S42)) ([] : List (S42)) 0 0)
def impl_combined_impl_without.l0 : Nat → Int → List (S42) → List (S42) → List (S42) → List (S42) → Int → Int → Option ((List (S42)))
 | 0, _, _, _, _, _, _, _ => none
 | k + 1, x0, x1, x2, x9, x10, x11, x34 => if x34 < 41 then (if x34 < 40 then ((impl_section.f k x1 x34).bind fun t366 => ((impl_section.f k x2 x34).bind fun t369 => ((impl_combined_impl_without.f k (wrap64 (x0 - 1)) t366 t369).bind fun t372 => (impl_combined_impl_without.j2 k x0 x1 x2 x9 x10 x11 x34 t372 x34)))) else (impl_combined_impl_without.j2 k x0 x1 x2 x9 x10 x11 x34 ([] : List (S42)) x34)) else (some x9)
def impl_combined_impl_without.j2 : Nat → Int → List (S42) → List (S42) → List (S42) → List (S42) → Int → Int → List (S42) → Int → Option ((List (S42)))
 | 0, _, _, _, _, _, _, _, _, _ => none
 | k + 1, x0, x1, x2, x9, x10, x11, x12, x13, x34 => (impl_SameBoxes.f k x13 x10).bind fun t375 => (if t375 = true then (impl_combined_impl_without.l0 k x0 x1 x2 x9 x10 x11 (wrap64 (x34 + 1))) else ((impl_prefixed.f k x10 x11 x12).bind fun t376 => (if x9.length + t376.length < 2932031007402 then (impl_combined_impl_without.l0 k x0 x1 x2 (x9 ++ t376) x13 x12 (wrap64 (x34 + 1))) else (none))))
def impl_combined_impl_without.f : Nat → Int → List (S42) → List (S42) → Option ((List (S42)))
 | 0, _, _, _ => none
 | k + 1, a0, l1, l2 => if a0 = 0 then ((impl_without.f (decide ((l1.length : Int) > 0)) (decide ((l2.length : Int) > 0))).bind fun t362 => (if t362 = true then (some (([(⟨([] : List Int), ([] : List Int)⟩ : S42)] : List (S42)))) else (some ([] : List (S42))))) else (if (l1.length : Int) = 0 then (impl_combined_impl_without.j0 k a0 l1 l2 ((l2.length : Int) == 0)) else (impl_combined_impl_without.j0 k a0 l1 l2 false))
end
theorem impl_combined_impl_without.mono_l : ∀ k, (∀ y0 y1 y2, LeO (impl_combined_impl_without.f k y0 y1 y2) (impl_combined_impl_without.f (k + 1) y0 y1 y2)) ∧ (∀ y0 y1 y2 y3, LeO (impl_combined_impl_without.j0 k y0 y1 y2 y3) (impl_combined_impl_without.j0 (k + 1) y0 y1 y2 y3)) ∧ (∀ y0 y1 y2 y3 y4 y5 y6, LeO (impl_combined_impl_without.l0 k y0 y1 y2 y3 y4 y5 y6) (impl_combined_impl_without.l0 (k + 1) y0 y1 y2 y3 y4 y5 y6)) ∧ (∀ y0 y1 y2 y3 y4 y5 y6 y7 y8, LeO (impl_combined_impl_without.j2 k y0 y1 y2 y3 y4 y5 y6 y7 y8) (impl_combined_impl_without.j2 (k + 1) y0 y1 y2 y3 y4 y5 y6 y7 y8))
 | 0 => ⟨fun _ _ _ r h => by simp [impl_combined_impl_without.f] at h, fun _ _ _ _ r h => by simp [impl_combined_impl_without.j0] at h, fun _ _ _ _ _ _ _ r h => by simp [impl_combined_impl_without.l0] at h, fun _ _ _ _ _ _ _ _ _ r h => by simp [impl_combined_impl_without.j2] at h⟩
 | k + 1 => by
  obtain ⟨ih0, ih1, ih2, ih3⟩ := impl_combined_impl_without.mono_l k
  refine ⟨?_, ?_, ?_, ?_⟩
  · intro y0 y1 y2
    unfold impl_combined_impl_without.f
    repeat' (with_reducible first | exact ih0 _ _ _ | exact ih1 _ _ _ _ | exact ih2 _ _ _ _ _ _ _ | exact ih3 _ _ _ _ _ _ _ _ _ | exact impl_SameBoxes.mono _ _ _ | exact impl_prefixed.mono _ _ _ _ | exact impl_section.mono _ _ _ | exact LeO.refl _ | exact LeO.none _ | refine LeO.ite ?_ ?_ | refine LeO.bind ?_ (fun _ => ?_))
  · intro y0 y1 y2 y3
    unfold impl_combined_impl_without.j0
    repeat' (with_reducible first | exact ih0 _ _ _ | exact ih1 _ _ _ _ | exact ih2 _ _ _ _ _ _ _ | exact ih3 _ _ _ _ _ _ _ _ _ | exact impl_SameBoxes.mono _ _ _ | exact impl_prefixed.mono _ _ _ _ | exact impl_section.mono _ _ _ | exact LeO.refl _ | exact LeO.none _ | refine LeO.ite ?_ ?_ | refine LeO.bind ?_ (fun _ => ?_))
  · intro y0 y1 y2 y3 y4 y5 y6
    unfold impl_combined_impl_without.l0
    repeat' (with_reducible first | exact ih0 _ _ _ | exact ih1 _ _ _ _ | exact ih2 _ _ _ _ _ _ _ | exact ih3 _ _ _ _ _ _ _ _ _ | exact impl_SameBoxes.mono _ _ _ | exact impl_prefixed.mono _ _ _ _ | exact impl_section.mono _ _ _ | exact LeO.refl _ | exact LeO.none _ | refine LeO.ite ?_ ?_ | refine LeO.bind ?_ (fun _ => ?_))
  · intro y0 y1 y2 y3 y4 y5 y6 y7 y8
    unfold impl_combined_impl_without.j2
    repeat' (with_reducible first | exact ih0 _ _ _ | exact ih1 _ _ _ _ | exact ih2 _ _ _ _ _ _ _ | exact ih3 _ _ _ _ _ _ _ _ _ | exact impl_SameBoxes.mono _ _ _ | exact impl_prefixed.mono _ _ _ _ | exact impl_section.mono _ _ _ | exact LeO.refl _ | exact LeO.none _ | refine LeO.ite ?_ ?_ | refine LeO.bind ?_ (fun _ => ?_))
theorem impl_combined_impl_without.mono : ∀ a0 a1 a2 k, LeO (impl_combined_impl_without.f k a0 a1 a2) (impl_combined_impl_without.f (k + 1) a0 a1 a2) := by
 intro a0 a1 a2 k
 obtain ⟨ih0, ih1, ih2, ih3⟩ := impl_combined_impl_without.mono_l k
 exact ih0 a0 a1 a2
set_option maxHeartbeats 8000000 in
set_option maxRecDepth 100000 in
theorem impl_combined_impl_without.calls (k : Nat) : ∀ (a0 : Int) (A1 : Option Addr) (c1 : Nat) (l1 : List (S42)) (A2 : Option Addr) (c2 : Nat) (l2 : List (S42))  (r : List (S42)) (w : World) (hr1 : Kd.C k42 w A1 l1.length l1) (hc1 : l1.length ≤ c1) (hr2 : Kd.C k42 w A2 l2.length l2) (hc2 : l2.length ≤ c2) (h : impl_combined_impl_without.f k a0 l1 l2 = some r),
 Calls Try.prog 87 #[.int .i64 a0, .slice A1 l1.length c1, .slice A2 l2.length c2, .func (.func 59) #[] #[]] w fun e w' => ∃ v0_ : Value, e = .returned (v0_) ∧ Kd.S k42 42 w' w.heap.size (fun _ => True) v0_ r ∧ Below w.heap.size w w' := by
 induction k using Nat.strongRecOn with
 | _ k ih =>
 intro a0 A1 c1 l1 A2 c2 l2 r w hr1 hc1 hr2 hc2 h
 cases k with
 | zero => exact absurd h (by simp [impl_combined_impl_without.f])
 | succ k =>
 simp only [impl_combined_impl_without.f] at h
 have hu42 := Try.underlying42
 have HR1 := yD hr1
 have HC1 := yD hc1
 clear hr1 hc1
 have HR2 := yD hr2
 have HC2 := yD hc2
 clear hr2 hc2
 have HB := yD (Below.refl w.heap.size w)
 have H : (if a0 = 0 then ((impl_without.f (decide ((l1.length : Int) > 0)) (decide ((l2.length : Int) > 0))).bind fun t362 => (if t362 = true then (some (([(⟨([] : List Int), ([] : List Int)⟩ : S42)] : List (S42)))) else (some ([] : List (S42))))) else (if (l1.length : Int) = 0 then (impl_combined_impl_without.j0 k a0 l1 l2 ((l2.length : Int) == 0)) else (impl_combined_impl_without.j0 k a0 l1 l2 false))) = some r := h
 clear h
 by_cases c5 : a0 = 0
 ·
  rw [if_pos c5] at H
  have c5b0 : (a0 == 0) = true := beq_iff_eq.mpr c5
  have c5b1 : (a0 != 0) = false := bne_eq_false_iff_eq.mpr c5
  clear c5
  obtain ⟨t362, A60, H⟩ := zW_ H
  replace H : (if t362 = true then (some (([(⟨([] : List Int), ([] : List Int)⟩ : S42)] : List (S42)))) else (some ([] : List (S42)))) = some r := H
  have A6 := yD A60
  clear A60
  by_cases c7 : t362 = true
  ·
   subst c7
   replace H : (some (([(⟨([] : List Int), ([] : List Int)⟩ : S42)] : List (S42)))) = some r := (by rw [if_pos rfl] at H; exact H)
   obtain ⟨y363, hy363⟩ : ∃ y_ : List (S42), y_ = (([(⟨([] : List Int), ([] : List Int)⟩ : S42)] : List (S42))) := ⟨_, rfl⟩
   replace H : (some y363) = some r := by first | (rw [hy363]; with_reducible exact H) | (have H2_ := (Option.bind_some _ _).symm.trans H; rw [hy363]; with_reducible exact H2_) | (have H2_ := (Option.bind_some _ _).symm.trans H; with_reducible exact H2_) | with_reducible exact H | (rw [hy363]; exact H) | exact H
   have Ny363 := yD hy363
   clear hy363; obtain rfl := Option.some.inj H; go_enter Try.func87, Try.ntmps87
   go_wp2_with (first | (go_at_call 59; (refine (impl_without.calls (decide (0 < l1.length)) (decide (0 < l2.length)) true _ (by have h_ := A6.out; rw [show decide ((l1.length : Int) > 0) = decide (0 < l1.length) from decide_eq_decide.2 (by omega), show decide ((l2.length : Int) > 0) = decide (0 < l2.length) from decide_eq_decide.2 (by omega)] at h_; exact h_)).mono ?_); rintro e w' ⟨rfl, ⟨nd, rfl⟩⟩) | ((with_reducible refine gate_dst (N := 25) rfl ?_); (try (refine gate_guard (by rfl) ?_; dsimp only)); refine Kd.S_lit k42 _ 42 ?hg (N := 25) ?hd (xs := ([(⟨([] : List Int), ([] : List Int)⟩ : S42)] : List (S42))) (inner := [.slice none 0 0, .slice none 0 0]) (ok := fun _ => True) (okp := fun _ => True) ?hr ?hp (fun _ hk => hk) trivial (Below.refl _ _) (Nat.le_refl _) (by simp) ?_; (case hd => rfl); (case hg => rfl); (case hr => first | (go_simp; done) | (go_simp; rfl)); (case hp => exact (Reps.c2 (show Kd.M k42 _ _ _ (⟨([] : List Int), ([] : List Int)⟩ : S42) [.slice none 0 0, .slice none 0 0] from (k42_mkM _ _ _ (⟨([] : List Int), ([] : List Int)⟩ : S42) (Kd.R_nil _ _ _ _ _) (Kd.R_nil _ _ _ _ _))) (Reps.none _ _))); intro v364 w8 ho9 hb hg_ hnew_; clear hg_ hnew_; (first | rw [← Ny363.out] at ho9 | (simp only [Int.reduceToNat] at ho9; rw [← Ny363.out] at ho9)); have HO365 := yD (zG ho9 (below_size (kB HB))); replace HB := yD (zC (kB HB) hb); clear hb ho9))
   go_ret
   exact ⟨_, by first | rfl | (simp <;> rfl) | (simp [*] <;> rfl), kS HO365, kR1 HB⟩
  · replace c7 := Bool.eq_false_iff.mpr c7
    subst c7
    replace H : (some ([] : List (S42))) = some r := (by rw [if_neg (show ¬ (false = true) by decide)] at H; exact H); obtain rfl := Option.some.inj H; go_enter Try.func87, Try.ntmps87
    go_wp2_with (first | (go_at_call 59; (refine (impl_without.calls (decide (0 < l1.length)) (decide (0 < l2.length)) false _ (by have h_ := A6.out; rw [show decide ((l1.length : Int) > 0) = decide (0 < l1.length) from decide_eq_decide.2 (by omega), show decide ((l2.length : Int) > 0) = decide (0 < l2.length) from decide_eq_decide.2 (by omega)] at h_; exact h_)).mono ?_); rintro e w' ⟨rfl, ⟨nd, rfl⟩⟩))
    go_ret
    exact ⟨_, by first | rfl | (simp <;> rfl) | (simp [*] <;> rfl), by first | exact Kd.S_nil _ _ _ _ _ | exact Kd.N_nil _ _ _ _ _ | exact Kd.V_nil _ _ _ _ _ | exact Kd.Q_nil _ _ _ _ _ | exact Kd.R_nil _ _ _ _ _, kR1 HB⟩
 ·
  rw [if_neg c5] at H
  have c5b0 : (a0 == 0) = false := beq_eq_false_iff_ne.mpr c5
  have c5b1 : (a0 != 0) = true := bne_iff_ne.mpr c5
  have HC10 := yD H
  clear H; go_enter Try.func87, Try.ntmps87
  go_upto_region 5 with (fail)
  go_cut [33] (fun v33 wc => ∃ (kq : Nat) (x33_9 : Bool), v33 = .bool x33_9 ∧ Aside0 (impl_combined_impl_without.j0 kq a0 l1 l2 x33_9 = some r) ∧ Aside0 (kq ≤ k) ∧ Aside0 (Below w.heap.size w wc))
  case first =>
   have H := HC10.out; clear HC10
   by_cases c11 : (l1.length : Int) = 0
   ·
    rw [if_pos c11] at H
    have c11b0 : ((l1.length : Int) == 0) = true := beq_iff_eq.mpr c11
    have c11b1 : ((l1.length : Int) != 0) = false := bne_eq_false_iff_eq.mpr c11
    clear c11
    (first | rw [c11b0] | (simp only [i64_w, i32_w]; rw [c11b0]) | (simp only [bne] at c11b0; rw [c11b0]) | skip)
    have H' := yD H
    clear H
    go_wp2
    go_meet
    case rel => exact ⟨_, (((l2.length : Int) == 0)), (by first | rfl | (simp; done) | (simp [*]; done)), H', ⟨by first | omega | exact Nat.le_refl _⟩, ⟨kR1 HB⟩⟩
   ·
    rw [if_neg c11] at H
    have c11b0 : ((l1.length : Int) == 0) = false := beq_eq_false_iff_ne.mpr c11
    have c11b1 : ((l1.length : Int) != 0) = true := bne_iff_ne.mpr c11
    have c11b2 : ¬ (l1 = []) := fun h_ => c11 (by rw [h_]; rfl)
    (first | rw [c11b0] | (simp only [i64_w, i32_w]; rw [c11b0]) | (simp only [bne] at c11b0; rw [c11b0]) | skip)
    have H' := yD H
    clear H
    go_wp2
    go_meet
    case rel => exact ⟨_, (false), (by first | rfl | (simp; done) | (simp [*]; done)), H', ⟨by first | omega | exact Nat.le_refl _⟩, ⟨kR1 HB⟩⟩
  case rest =>
   clear HC10; try clear c1; try clear c2; try clear c5; try clear c5b0; try clear c5b1; try clear c7; try clear c11; try clear c11b0; try clear c11b1; try clear c11b2
   obtain ⟨kq, x33_9, rfl, HA, HJ9, HB⟩ := hcut
   cases kq with
   | zero => exact absurd HA.out (by simp [impl_combined_impl_without.j0])
   | succ kj9 =>
    have H := HA.out; clear HA
    simp only [impl_combined_impl_without.j0] at H
    by_cases c12 : x33_9 = true
    · subst c12
      replace H : (some ([] : List (S42))) = some r := (by rw [if_pos rfl] at H; exact H); obtain rfl := Option.some.inj H
      go_wp2
      go_ret
      exact ⟨_, by first | rfl | (simp <;> rfl) | (simp [*] <;> rfl), by first | exact Kd.S_nil _ _ _ _ _ | exact Kd.N_nil _ _ _ _ _ | exact Kd.V_nil _ _ _ _ _ | exact Kd.Q_nil _ _ _ _ _ | exact Kd.R_nil _ _ _ _ _, kR1 HB⟩
    ·
     replace c12 := Bool.eq_false_iff.mpr c12
     subst c12
     replace H : (impl_combined_impl_without.l0 kj9 a0 l1 l2 ([] : List (S42)) ([] : List (S42)) 0 0) = some r := (by rw [if_neg (show ¬ (false = true) by decide)] at H; exact H)
     have H' := yD H
     clear H
     go_wp2
     go_loopg [9, 10, 11, 34] kj9 (fun kq v9 v10 v11 v34 w' => ∃ (x9_2 : List (S42)) (x10_2 : List (S42)) (x11_2 : Int) (x34_2 : Int), v11 = .int .i64 x11_2 ∧ v34 = .int .i64 x34_2 ∧ Aside0 (impl_combined_impl_without.l0 kq a0 l1 l2 x9_2 x10_2 x11_2 x34_2 = some r) ∧ Aside0 (kq ≤ kj9) ∧ Aside0 (Kd.S k42 42 w' w.heap.size (fun k_ => oB v10 k_) v9 x9_2) ∧ Aside0 (Kd.S k42 42 w' w.heap.size (fun k_ => oB v9 k_) v10 x10_2) ∧ Aside0 (Below w.heap.size w w'))
     case atStart => exact ⟨(([] : List (S42))), (([] : List (S42))), (0), (0), (by first | rfl | (simp; done) | (simp [*]; done)), (by first | rfl | (simp; done) | (simp [*]; done)), H', ⟨Nat.le_refl _⟩, ⟨by first | exact Kd.S_nil _ _ _ _ _ | exact Kd.N_nil _ _ _ _ _ | exact Kd.V_nil _ _ _ _ _ | exact Kd.Q_nil _ _ _ _ _ | exact Kd.R_nil _ _ _ _ _⟩, ⟨by first | exact Kd.S_nil _ _ _ _ _ | exact Kd.N_nil _ _ _ _ _ | exact Kd.V_nil _ _ _ _ _ | exact Kd.Q_nil _ _ _ _ _ | exact Kd.R_nil _ _ _ _ _⟩, ⟨kR1 HB⟩⟩
     case round =>
      clear H'
      try clear c1; try clear c2; try clear c5; try clear c5b0; try clear c5b1; try clear c7; try clear c11; try clear c11b0; try clear c11b1; try clear c11b2; try clear c12
      obtain ⟨x9_2, x10_2, x11_2, x34_2, rfl, rfl, HA, HK2, HO_9, HO_10, HB⟩ := hrel
      cases gk with
      | zero => exact absurd HA.out (by simp [impl_combined_impl_without.l0])
      | succ k2 =>
       have H := HA.out; clear HA
       simp only [impl_combined_impl_without.l0] at H
       by_cases c13 : x34_2 < 41
       ·
        rw [if_pos c13] at H
        have c13b0 : decide (x34_2 < 41) = true := zR c13; clear c13
        have HC14 := yD H
        clear H
        go_upto_if 38 with (fail)
        go_cut [13] (fun v13 wc => ∃ (kq : Nat) (x13_13 : List (S42)), Aside0 (impl_combined_impl_without.j2 kq a0 l1 l2 x9_2 x10_2 x11_2 x34_2 x13_13 x34_2 = some r) ∧ Aside0 (kq ≤ k2) ∧ Aside0 (Kd.S k42 42 wc w.heap.size (fun k_ => oB u10 k_ ∧ oB v13 k_) u9 x9_2) ∧ Aside0 (Kd.S k42 42 wc w.heap.size (fun k_ => oB u9 k_ ∧ oB v13 k_) u10 x10_2) ∧ Aside0 (Kd.S k42 42 wc w.heap.size (fun k_ => oB u9 k_ ∧ oB u10 k_) v13 x13_13) ∧ Aside0 (Below w.heap.size w wc))
        case first =>
         have H := HC14.out; clear HC14
         by_cases c15 : x34_2 < 40
         ·
          rw [if_pos c15] at H
          have c15b0 : decide (x34_2 < 40) = true := zR c15; clear c15
          (first | rw [c15b0] | (simp only [i64_w, i32_w]; rw [c15b0]) | (simp only [bne] at c15b0; rw [c15b0]) | skip)
          obtain ⟨t366, A160, H⟩ := zW_ H
          replace H : ((impl_section.f k2 l2 x34_2).bind fun t369 => ((impl_combined_impl_without.f k2 (wrap64 (a0 - 1)) t366 t369).bind fun t372 => (impl_combined_impl_without.j2 k2 a0 l1 l2 x9_2 x10_2 x11_2 x34_2 t372 x34_2))) = some r := H
          have A16 := yD A160
          clear A160
          obtain ⟨t369, A170, H⟩ := zW_ H
          replace H : ((impl_combined_impl_without.f k2 (wrap64 (a0 - 1)) t366 t369).bind fun t372 => (impl_combined_impl_without.j2 k2 a0 l1 l2 x9_2 x10_2 x11_2 x34_2 t372 x34_2)) = some r := H
          have A17 := yD A170
          clear A170
          obtain ⟨t372, A180, H⟩ := zW_ H
          replace H : (impl_combined_impl_without.j2 k2 a0 l1 l2 x9_2 x10_2 x11_2 x34_2 t372 x34_2) = some r := H
          have A18 := yD A180
          clear A180
          have H' := yD H
          clear H
          go_wp2_with (first | ((with_reducible refine gate_callee (f := 123) rfl ?_); refine gL 43 Try.func123 #[.slice A1 l1.length c1, .int .i64 x34_2] ?_; (with_reducible refine (impl_section.calls k2 (fun k_ => k_ < w.heap.size) _ _ l1 x34_2 t366 _ ?side1 A16.out).mono ?_); (case side1 => exact Kd.V_mk HC1.out (Kd.F_below (Kd.C_F k42_heap HR1.out) (kB HB))); rintro e w19 ⟨v367, rfl, ho0, hb⟩; refine ⟨_, rfl, ?_⟩; have HO368 := yD (Kd.V_lower (Kd.V_mono (ok' := fun k_ => oB u9 k_ ∧ oB u10 k_) ho0 (fun k_ hk_ => ⟨Or.elim hk_ (fun hs_ => fun e_ => Nat.not_le.2 hs_ (Kd.S_base HO_9.out k_ e_.symm)) (fun hn_ => (Kd.fresh' (Kd.S_lt (kS HO_9)) k_ hn_)), Or.elim hk_ (fun hs_ => fun e_ => Nat.not_le.2 hs_ (Kd.S_base HO_10.out k_ e_.symm)) (fun hn_ => (Kd.fresh' (Kd.S_lt (kS HO_10)) k_ hn_))⟩)) (below_size (kB HB))); replace HO_9 := yD (Kd.S_below (kS HO_9) hb); replace HO_10 := yD (Kd.S_below (kS HO_10) hb); replace HB := yD (zC (kB HB) hb); clear hb ho0) | ((with_reducible refine gate_callee (f := 123) rfl ?_); refine gL 46 Try.func123 #[.slice A2 l2.length c2, .int .i64 x34_2] ?_; (with_reducible refine (impl_section.calls k2 (fun k_ => k_ < w.heap.size) _ _ l2 x34_2 t369 _ ?side1 A17.out).mono ?_); (case side1 => exact Kd.V_mk HC2.out (Kd.F_below (Kd.C_F k42_heap HR2.out) (kB HB))); rintro e w20 ⟨v370, rfl, ho0, hb⟩; refine ⟨_, rfl, ?_⟩; replace HO368 := yD (Kd.V_below (kU HO368) hb); have HO371 := yD (Kd.V_lower (Kd.V_mono (ok' := fun k_ => oB u9 k_ ∧ oB u10 k_) ho0 (fun k_ hk_ => ⟨Or.elim hk_ (fun hs_ => fun e_ => Nat.not_le.2 hs_ (Kd.S_base HO_9.out k_ e_.symm)) (fun hn_ => (Kd.fresh' (Kd.S_lt (kS HO_9)) k_ hn_)), Or.elim hk_ (fun hs_ => fun e_ => Nat.not_le.2 hs_ (Kd.S_base HO_10.out k_ e_.symm)) (fun hn_ => (Kd.fresh' (Kd.S_lt (kS HO_10)) k_ hn_))⟩)) (below_size (kB HB))); replace HO_9 := yD (Kd.S_below (kS HO_9) hb); replace HO_10 := yD (Kd.S_below (kS HO_10) hb); replace HB := yD (zC (kB HB) hb); clear hb ho0; obtain ⟨Ao21, co21, eo21⟩ := Kd.V_slice HO368.out; subst eo21; obtain ⟨Ao22, co22, eo22⟩ := Kd.V_slice HO371.out; subst eo22) | ((with_reducible refine gate_callee (f := 87) rfl ?_); refine gL 48 Try.func87 #[.int .i64 (wrap64 (a0 - 1)), .slice Ao21 t366.length co21, .slice Ao22 t369.length co22, .func (.func 59) #[] #[]] ?_; (with_reducible refine (ih k2 (by have := HJ9.out; have := HK2.out; omega) (wrap64 (a0 - 1)) _ _ t366 _ _ t369  t372 _ ?side1 ?side2 ?side3 ?side4 A18.out).mono ?_); (case side1 => exact kV (Kd.V_reads' HO368.out).2.2); (case side2 => exact (Kd.V_reads' HO368.out).2.1); (case side3 => exact kV (Kd.V_reads' HO371.out).2.2); (case side4 => exact (Kd.V_reads' HO371.out).2.1); rintro e w23 ⟨v373, rfl, ho0, hb⟩; refine ⟨_, rfl, ?_⟩; replace HO368 := yD (Kd.V_elder' (kU HO368) (Kd.S_base ho0) hb); replace HO371 := yD (Kd.V_elder' (kU HO371) (Kd.S_base ho0) hb); have HO374 := yD (zG (zD (zD ho0 (Kd.S_lt (kS HO_9))) (Kd.S_lt (kS HO_10))) (below_size (kB HB))); replace HO_9 := yD (Kd.S_elder' (kS HO_9) (Kd.S_base ho0) hb); replace HO_10 := yD (Kd.S_elder' (kS HO_10) (Kd.S_base ho0) hb); replace HB := yD (zC (kB HB) hb); clear hb ho0))
          go_meet
          case rel => exact ⟨_, (t372), H', ⟨by have := HJ9.out; have := HK2.out; first | omega | exact Nat.le_refl _⟩, ⟨kS HO_9⟩, ⟨kS HO_10⟩, ⟨mS HO374 (fun _ hk => ⟨hk.1.2, hk.2⟩)⟩, ⟨kR1 HB⟩⟩
         · rw [if_neg c15] at H
           have c15b0 : decide (x34_2 < 40) = false := zS c15; clear c15
           (first | rw [c15b0] | (simp only [i64_w, i32_w]; rw [c15b0]) | (simp only [bne] at c15b0; rw [c15b0]) | skip)
           have H' := yD H
           clear H
           go_wp2
           go_meet
           case rel => exact ⟨_, (([] : List (S42))), H', ⟨by have := HJ9.out; have := HK2.out; first | omega | exact Nat.le_refl _⟩, ⟨mS HO_9 (fun _ hk => ⟨hk, (by simp [oB, Value.ownBlock])⟩)⟩, ⟨mS HO_10 (fun _ hk => ⟨hk, (by simp [oB, Value.ownBlock])⟩)⟩, ⟨by first | exact Kd.S_nil _ _ _ _ _ | exact Kd.N_nil _ _ _ _ _ | exact Kd.V_nil _ _ _ _ _ | exact Kd.Q_nil _ _ _ _ _ | exact Kd.R_nil _ _ _ _ _⟩, ⟨kR1 HB⟩⟩
        case rest =>
         clear HC14; try clear c1; try clear c2; try clear c5; try clear c5b0; try clear c5b1; try clear c7; try clear c11; try clear c11b0; try clear c11b1; try clear c11b2; try clear c12; try clear c13; try clear c13b0; try clear c15; try clear c15b0
         obtain ⟨kq, x13_13, HA, HJ13, HO_9, HO_10, HO_13, HB⟩ := hcut
         cases kq with
         | zero => exact absurd HA.out (by simp [impl_combined_impl_without.j2])
         | succ kj13 =>
          have H := HA.out; clear HA
          simp only [impl_combined_impl_without.j2] at H
          obtain ⟨t375, A240, H⟩ := zW_ H
          replace H : (if t375 = true then (impl_combined_impl_without.l0 kj13 a0 l1 l2 x9_2 x10_2 x11_2 (wrap64 (x34_2 + 1))) else ((impl_prefixed.f kj13 x10_2 x11_2 x34_2).bind fun t376 => (if x9_2.length + t376.length < 2932031007402 then (impl_combined_impl_without.l0 kj13 a0 l1 l2 (x9_2 ++ t376) x13_13 x34_2 (wrap64 (x34_2 + 1))) else (none)))) = some r := H
          have A24 := yD A240
          clear A240
          by_cases c25 : t375 = true
          · subst c25
            replace H : (impl_combined_impl_without.l0 kj13 a0 l1 l2 x9_2 x10_2 x11_2 (wrap64 (x34_2 + 1))) = some r := (by rw [if_pos rfl] at H; exact H)
            have H' := yD H
            clear H
            obtain ⟨Ao26, co26, eo26⟩ := Kd.S_slice HO_13.out
            subst eo26
            obtain ⟨Ao27, co27, eo27⟩ := Kd.S_slice HO_10.out
            subst eo27
            go_wp2_with (first | ((with_reducible refine gate_callee (f := 31) rfl ?_); refine gL 51 Try.func31 #[.slice Ao26 x13_13.length co26, .slice Ao27 x10_2.length co27] ?_; (with_reducible refine (impl_SameBoxes.calls kj13 _ _ x13_13 _ _ x10_2 true _ ?side1 ?side2 ?side3 ?side4 A24.out).mono ?_); (case side1 => exact kV (Kd.S_reads' HO_13.out).2.2); (case side2 => exact (Kd.S_reads' HO_13.out).2.1); (case side3 => exact kV (Kd.S_reads' HO_10.out).2.2); (case side4 => exact (Kd.S_reads' HO_10.out).2.1); rintro e w28 ⟨rfl, hb⟩; refine ⟨_, rfl, ?_⟩; replace HO_9 := yD (Kd.S_below (kS HO_9) hb); replace HO_10 := yD (Kd.S_below (kS HO_10) hb); replace HO_13 := yD (Kd.S_below (kS HO_13) hb); replace HB := yD (zC (kB HB) hb); clear hb))
            go_roundg kj13
            case measure => have := HJ9.out; have := HK2.out; have := HJ13.out; omega
            case rel => exact ⟨(x9_2), (x10_2), (x11_2), (wrap64 (x34_2 + 1)), (by first | rfl | (simp; done) | (simp [*]; done)), (by first | rfl | (simp; done) | (simp [*]; done)), H', ⟨by have := HJ9.out; have := HK2.out; have := HJ13.out; omega⟩, ⟨mS HO_9 (fun _ hk => hk.1)⟩, ⟨mS HO_10 (fun _ hk => hk.1)⟩, ⟨kR1 HB⟩⟩
          ·
           replace c25 := Bool.eq_false_iff.mpr c25
           subst c25
           replace H : ((impl_prefixed.f kj13 x10_2 x11_2 x34_2).bind fun t376 => (if x9_2.length + t376.length < 2932031007402 then (impl_combined_impl_without.l0 kj13 a0 l1 l2 (x9_2 ++ t376) x13_13 x34_2 (wrap64 (x34_2 + 1))) else (none))) = some r := (by rw [if_neg (show ¬ (false = true) by decide)] at H; exact H)
           obtain ⟨t376, A290, H⟩ := zW_ H
           replace H : (if x9_2.length + t376.length < 2932031007402 then (impl_combined_impl_without.l0 kj13 a0 l1 l2 (x9_2 ++ t376) x13_13 x34_2 (wrap64 (x34_2 + 1))) else (none)) = some r := H
           have A29 := yD A290
           clear A290
           by_cases c30 : x9_2.length + t376.length < 2932031007402
           ·
            rw [if_pos c30] at H
            have LMc30 := yD c30
            clear c30
            obtain ⟨y379, hy379⟩ : ∃ y_ : List (S42), y_ = (x9_2 ++ t376) := ⟨_, rfl⟩
            replace H : (impl_combined_impl_without.l0 kj13 a0 l1 l2 y379 x13_13 x34_2 (wrap64 (x34_2 + 1))) = some r := by first | (rw [hy379]; with_reducible exact H) | (have H2_ := (Option.bind_some _ _).symm.trans H; rw [hy379]; with_reducible exact H2_) | (have H2_ := (Option.bind_some _ _).symm.trans H; with_reducible exact H2_) | with_reducible exact H | (rw [hy379]; exact H) | exact H
            have Ny379 := yD hy379
            clear hy379
            have H' := yD H
            clear H
            obtain ⟨Ao31, co31, eo31⟩ := Kd.S_slice HO_13.out
            subst eo31
            obtain ⟨Ao32, co32, eo32⟩ := Kd.S_slice HO_10.out
            subst eo32
            go_wp2_with (first | ((with_reducible refine gate_callee (f := 31) rfl ?_); refine gL 51 Try.func31 #[.slice Ao31 x13_13.length co31, .slice Ao32 x10_2.length co32] ?_; (with_reducible refine (impl_SameBoxes.calls kj13 _ _ x13_13 _ _ x10_2 false _ ?side1 ?side2 ?side3 ?side4 A24.out).mono ?_); (case side1 => exact kV (Kd.S_reads' HO_13.out).2.2); (case side2 => exact (Kd.S_reads' HO_13.out).2.1); (case side3 => exact kV (Kd.S_reads' HO_10.out).2.2); (case side4 => exact (Kd.S_reads' HO_10.out).2.1); rintro e w33 ⟨rfl, hb⟩; refine ⟨_, rfl, ?_⟩; replace HO_9 := yD (Kd.S_below (kS HO_9) hb); replace HO_10 := yD (Kd.S_below (kS HO_10) hb); replace HO_13 := yD (Kd.S_below (kS HO_13) hb); replace HB := yD (zC (kB HB) hb); clear hb) | ((with_reducible refine gate_callee (f := 124) rfl ?_); refine gL 57 Try.func124 #[.slice Ao32 x10_2.length co32, .int .i64 x11_2, .int .i64 x34_2] ?_; (with_reducible refine (impl_prefixed.calls kj13 (fun k_ => (oB u9 k_ ∧ oB (.slice Ao31 x13_13.length co31) k_)) _ _ x10_2 x11_2 x34_2 t376 _ ?side1 A29.out).mono ?_); (case side1 => exact Kd.S_V (HO_10.out)); rintro e w34 ⟨v377, rfl, ho0, hb⟩; refine ⟨_, rfl, ?_⟩; have HPHO378_HO_9 := yD (S_pair (kS HO_9) hb (zD (zD (zD (Kd.S_mono (ok' := fun k_ => True) ho0 (fun _ hk_ => trivial)) (Kd.S_lt (kS HO_9))) (Kd.S_lt (kS HO_10))) (Kd.S_lt (kS HO_13))) (below_size (kB HB))); have HO378 := yD (zG (zD (zD (zD (Kd.S_mono (ok' := fun k_ => True) ho0 (fun _ hk_ => trivial)) (Kd.S_lt (kS HO_9))) (Kd.S_lt (kS HO_10))) (Kd.S_lt (kS HO_13))) (below_size (kB HB))); replace HO_9 := yD (Kd.S_elder' (kS HO_9) (Kd.S_base ho0) hb); replace HO_10 := yD (Kd.S_elder' (kS HO_10) (Kd.S_base ho0) hb); replace HO_13 := yD (Kd.S_elder' (kS HO_13) (Kd.S_base ho0) hb); replace HB := yD (zC (kB HB) hb); clear hb ho0; obtain ⟨Ao36, co36, eo36⟩ := Kd.S_slice HO378.out; subst eo36) | ((with_reducible refine gate_builtin (b := .append) (xs := #[.tmp 53, .tmp 57]) rfl ?_); (try (refine gate_guard (by rfl) ?_; dsimp only)); at_builtin; obtain ⟨N_, hA_, hB_⟩ := HPHO378_HO_9.out; refine S_append_rows k42 (w0 := w) w.heap.size rfl (.tmp 53) (.tmp 57) 24 42 (.agg #[(.slice none 0 0), (.slice none 0 0)]) 48 rfl Try.underlying24 info42 rfl (by decide) (by omega) u9 x9_2 t376 _ _ _ (fun k_ => oB (.slice Ao32 x10_2.length co32) k_ ∧ oB (.slice Ao31 x13_13.length co31) k_) (fun k_ => N_ ≤ k_ ∧ (((fun k_ => oB (.slice Ao32 x10_2.length co32) k_ ∧ oB (.slice Ao31 x13_13.length co31) k_)) k_ ∧ oB u9 k_)) rfl rfl ?aO ?aR (fun _ hk => hk.2) ?aF ?aB ?aS ?aL ?_; (case aR => exact (by (with_reducible repeat (first | apply yS | apply yT | apply yU)); exact Kd.S_mono hB_ (fun k_ hk => ⟨hk.2, ⟨⟨hk.1.1.2, hk.1.2⟩, hk.1.1.1.2⟩⟩))); (case aB => exact (kB HB)); (case aF => exact (fun k_ hk => ⟨Kd.fresh' (Kd.S_lt (kS HO_10)) k_ hk, Kd.fresh' (Kd.S_lt (kS HO_13)) k_ hk⟩)); (case aO => exact (by (with_reducible repeat (first | apply yS | apply yT | apply yU)); exact Kd.S_mono hA_ (fun _ hk => ⟨⟨hk.1.1, hk.1.2⟩, fun e_ => absurd hk.2 (Nat.not_lt.2 e_.1)⟩))); (case aS => exact (below_size (kB HB))); (case aL => have := LMc30.out; omega); intro v380 w35 ho hb hg hat; rw [← Ny379.out] at ho; replace HO_10 := yD (Kd.S_after (ok := (fun k_ => oB (.slice Ao31 x13_13.length co31) k_ ∧ oB (.slice Ao36 t376.length co36) k_)) (mS HO_10 (fun _ hk => ⟨⟨hk.1.2, hk.2⟩, hk.1.1⟩)) hg hat); replace HO_13 := yD (Kd.S_after (ok := (fun k_ => oB (.slice Ao32 x10_2.length co32) k_ ∧ oB (.slice Ao36 t376.length co36) k_)) (mS HO_13 (fun _ hk => ⟨⟨hk.1.2, hk.2⟩, hk.1.1⟩)) hg hat); replace HB := yD (hb); have HO381 := yD (ho); clear HO_9 HO378; clear ho hb hg hat))
            go_roundg kj13
            case measure => have := HJ9.out; have := HK2.out; have := HJ13.out; omega
            case rel => exact ⟨(y379), (x13_13), (x34_2), (wrap64 (x34_2 + 1)), (by first | rfl | (simp; done) | (simp [*]; done)), (by first | rfl | (simp; done) | (simp [*]; done)), H', ⟨by have := HJ9.out; have := HK2.out; have := HJ13.out; omega⟩, ⟨mS HO381 (fun _ hk => hk.2)⟩, ⟨mS HO_13 (fun _ hk => hk.2)⟩, ⟨kR1 HB⟩⟩
           · rw [if_neg c30] at H
             exact absurd H (by simp)
       · rw [if_neg c13] at H
         have c13b0 : decide (x34_2 < 41) = false := zS c13; clear c13; obtain rfl := Option.some.inj H
         go_wp2
         go_ret
         exact ⟨_, by first | rfl | (simp <;> rfl) | (simp [*] <;> rfl), mS HO_9 (fun _ hk => trivial), kR1 HB⟩

/-! ### impl_normalFull: function 86 -/
def impl_normalFull.f (l0 : List (S42)) : Option (List (S42) × Int) := if (l0.length : Int) > 32 then (some ([], 5)) else (some (l0, 0))
set_option maxHeartbeats 8000000 in
theorem impl_normalFull.calls (P0_ : Nat → Prop) (u9000_ : Value) (l0 : List (S42)) (r1 : List (S42)) (r2 : Int) (w0 w : World) (hB : Below w0.heap.size w0 w) (ho0 : Kd.S k42 42 w w0.heap.size P0_ u9000_ l0) (h : impl_normalFull.f l0 = some (r1, r2)) :
 Calls Try.prog 86 #[u9000_] w fun e w' => ∃ v0_ : Value, e = .returned (.tuple #[v0_, .int .i64 r2]) ∧ Kd.S k42 42 w' w0.heap.size (fun k_ => (P0_ k_ ∨ w.heap.size ≤ k_)) v0_ r1 ∧ Below w0.heap.size w0 w' ∧ Kept w w' (fun k_ => P0_ k_) := by
 obtain ⟨A0, c0, rfl⟩ := Kd.S_slice ho0
 have HO_ := Aside0.mk ho0; have HB_ := Aside0.mk hB
 clear ho0 hB
 unfold impl_normalFull.f at h
 by_cases c2 : (l0.length : Int) > 32
 ·
  rw [if_pos c2] at h
  have c2b0 : decide (32 < (l0.length : Int)) = true := decide_eq_true c2
  have c2b1 : decide (32 < l0.length) = true := decide_eq_true (by omega)
  clear c2
  simp only [Option.some.injEq, Prod.mk.injEq] at h
  obtain ⟨rfl, rfl⟩ := h
  go_enter Try.func86, Try.ntmps86
  go_wp2
  go_ret2
  exact ⟨_, by first | rfl | simp, Kd.S_nil _ _ _ _ _, kR2 HB_, by (with_reducible repeat (first | apply Kept.alloc | apply Kept.drewN | apply Kept.drew)); exact Kept.refl _ _⟩
 ·
  rw [if_neg c2] at h
  have c2b0 : decide (32 < (l0.length : Int)) = false := decide_eq_false c2
  have c2b1 : decide (32 < l0.length) = false := decide_eq_false (by omega)
  clear c2
  simp only [Option.some.injEq, Prod.mk.injEq] at h
  obtain ⟨rfl, rfl⟩ := h
  go_enter Try.func86, Try.ntmps86
  go_wp2
  go_ret2
  exact ⟨_, by first | rfl | simp, by (with_reducible repeat (first | apply Kd.S_alloc | apply Kd.S_drewN | apply Kd.S_drew)); exact Kd.S_mono HO_.out (fun _ hk => .inl hk), kR2 HB_, by (with_reducible repeat (first | apply Kept.alloc | apply Kept.drewN | apply Kept.drew)); exact Kept.refl _ _⟩

end Go.Proofs.Ytdiaebjbiddefaa.PFnExactSubtractBoxes
