/- Each Go function here comes to what the plain function of its name says, where that says something. Made by a program of this session, over the print. -/
import Derived.Test.YtdiaebjbiddefaaPFnSlabAlgebrax0
import Derived.Test.YtdiaebjbiddefaaPFnSlabAlgebrax1
import Derived.Test.YtdiaebjbiddefaaPFnSlabAlgebrax2
namespace Go.Proofs.Ytdiaebjbiddefaa.PFnSlabAlgebra
open Go.RowKit Go.Proofs.YtdiaebjbiddefaaW.PrintWords Go.Proofs.YtdiaebjbiddefaaW.PrintLast Go.Proofs.YtdiaebjbiddefaaW.PrintMore
attribute [local go_sem] max2_int min2_int max_two min_two max_three min_three max_four min_four   -- for this text's walks alone
set_option linter.unusedVariables false
set_option linter.unusedSimpArgs false

section
variable {P : Program} {ops : Array Oper} {rest : List Oper} {o : Oper} {a : Act} {Q : Exit → Act → World → Prop} {α : Type}
open Go.Proofs.YtdiaebjbiddefaaW.PrintWords.Kd in
/-- append(v, ys...): rows that are new and apart, ys' blocks (okp) none of v's. -/
theorem S_append_rows (d : Kd α) {w0 W : World} (base : Nat) (hgd : o.guard = none) (s x : Operand) (t e : TypeId) (z : Value) (bytes : Nat)
 (ho : o.op = .call { callee := .builtin .append, args := #[s, x], argTypes := #[t, t] })
 (ht : P.underlying t = some (.slice e)) (hinfo : (P.info? e).map (fun i => (i.zero, i.size, i.bytes)) = some (some z, d.sz, bytes)) (hz : z.cells.size = d.sz) (hs0 : 0 < d.sz) (hb0 : 0 < bytes)
 (v : Value) (xs ys : List α) (A : Option Addr) (m c : Nat) (ok okp : Nat → Prop) (hs : a.eval s = v) (hx : a.eval x = .slice A m c)
 (HO : Kd.S d e W base (fun k => ok k ∧ ¬ okp k) v xs) (HR : Kd.S d e W base okp (.slice A m c) ys) (hokp : ∀ k, okp k → ok k ∧ some k ≠ v.ownBlock) (hfresh : ∀ k, W.heap.size ≤ k → ok k)
 (HB : Below base w0 W) (hbase : base ≤ W.heap.size) (hl : (xs.length + m) * bytes ≤ 140737488355328)
 (h : ∀ v1 w1, Kd.S d e w1 base ok v1 (xs ++ ys) → Below base w0 w1 → W.grownBy w1 v.ownBlock → (v1.ownBlock = v.ownBlock ∨ ∃ b, v1.ownBlock = some b ∧ W.heap.size ≤ b) → wpList P ops Q rest (a.put o.dst v1) w1) :
 wpList P ops Q (o :: rest) a W := by
 obtain ⟨f1, h1⟩ := HO
 obtain ⟨f2, h2⟩ := HR
 obtain ⟨A', c', he, -, hr⟩ := OwnRow.reads h2.2
 injection he with e1 e2 _
 subst e1
 rw [List.length_zipIdx] at e2 hr
 subst e2
 have g1 : (tag (fun k => open Classical in if okp k then xs.length + f2 k else f1 k) d).R e W base (fun k => ok k ∧ ¬ okp k) v xs.zipIdx := R_tag h1 (fun k hk _ => if_neg hk.2)
 have g2 : ReadsRow ((tag (fun k => open Classical in if okp k then xs.length + f2 k else f1 k) d).M W base okp) d.sz W A ys.length (ys.zipIdx xs.length) := by
  refine ⟨by rw [List.length_zipIdx], hr.2.1, fun hp => ?_⟩
  obtain ⟨ad, e, hc⟩ := hr.2.2 hp
  refine ⟨ad, e, fun j p hj => ?_⟩
  rw [List.getElem?_zipIdx] at hj
  obtain ⟨y, hy, rfl⟩ := Option.map_eq_some_iff.1 hj
  obtain ⟨cc, hs, hM, hcell⟩ := hc j (y, j) (zip_at hy)
  exact ⟨cc, hs, d.M_mono (fun k hk => ⟨hk.1.1, (if_pos hk.1.1).trans (by rw [hk.2])⟩) hM, hcell⟩
 refine R_append_rows (tag _ d) base hgd s x t e z bytes ho ht hinfo hz hs0 hb0 v xs.zipIdx (ys.zipIdx xs.length) A _ c ok okp hs hx (R_mono g1 (fun _ hk => hk.1)) g2 (fun _ _ h => h) hokp hfresh HB hbase (by rw [List.length_zipIdx]; exact hl) ?_
 intro v1 w1 hr1 hb hg hat
 rw [show xs.zipIdx ++ ys.zipIdx xs.length = (xs ++ ys).zipIdx by rw [List.zipIdx_append]; simp] at hr1
 exact h v1 w1 ⟨_, hr1⟩ hb hg hat
/-- What is made by a call is new: it is apart from what was there. -/
theorem S_pair {α β : Type} {d : Kd α} {d' : Kd β} {e e' base : Nat} {W w1 : World} {okx oky : Nat → Prop} {u v : Value} {xs : List α} {ys : List β} (hx : Kd.S d e W base okx u xs) (hb : Below W.heap.size W w1) (hy : Kd.S d' e' w1 W.heap.size oky v ys) (hle : base ≤ W.heap.size) :
 ∃ N, Kd.S d e w1 base (fun k => okx k ∧ k < N) u xs ∧ Kd.S d' e' w1 base (fun k => oky k ∧ N ≤ k) v ys :=
 ⟨W.heap.size, Kd.S_old hx hb, Kd.S_lower (Kd.S_mono (Kd.S_bound hy) (fun k hk => ⟨hk.1, hk.2.1⟩)) hle⟩
end
/-! ### impl_combined_impl_either: function 87 -/
mutual
def impl_combined_impl_either.j0 : Nat → Int → List (S42) → List (S42) → Bool → Option ((List (S42)))
 | 0, _, _, _, _ => none
 | k + 1, x0, x1, x2, x33 => if x33 = true then (some ([] : List (S42))) else (impl_combined_impl_either.l0 k x0 x1 x2 ([] : List (S42)) ([] : List (S42)) 0 0)
def impl_combined_impl_either.l0 : Nat → Int → List (S42) → List (S42) → List (S42) → List (S42) → Int → Int → Option ((List (S42)))
 | 0, _, _, _, _, _, _, _ => none
 | k + 1, x0, x1, x2, x9, x10, x11, x34 => if x34 < 41 then (if x34 < 40 then ((impl_section.f k x1 x34).bind fun t260 => ((impl_section.f k x2 x34).bind fun t263 => ((impl_combined_impl_either.f k (wrap64 (x0 - 1)) t260 t263).bind fun t266 => (impl_combined_impl_either.j2 k x0 x1 x2 x9 x10 x11 x34 t266 x34)))) else (impl_combined_impl_either.j2 k x0 x1 x2 x9 x10 x11 x34 ([] : List (S42)) x34)) else (some x9)
def impl_combined_impl_either.j2 : Nat → Int → List (S42) → List (S42) → List (S42) → List (S42) → Int → Int → List (S42) → Int → Option ((List (S42)))
 | 0, _, _, _, _, _, _, _, _, _ => none
 | k + 1, x0, x1, x2, x9, x10, x11, x12, x13, x34 => (impl_SameBoxes.f k x13 x10).bind fun t269 => (if t269 = true then (impl_combined_impl_either.l0 k x0 x1 x2 x9 x10 x11 (wrap64 (x34 + 1))) else ((impl_prefixed.f k x10 x11 x12).bind fun t270 => (if x9.length + t270.length < 2932031007402 then (impl_combined_impl_either.l0 k x0 x1 x2 (x9 ++ t270) x13 x12 (wrap64 (x34 + 1))) else (none))))
def impl_combined_impl_either.f : Nat → Int → List (S42) → List (S42) → Option ((List (S42)))
 | 0, _, _, _ => none
 | k + 1, a0, l1, l2 => if a0 = 0 then ((impl_either.f (decide ((l1.length : Int) > 0)) (decide ((l2.length : Int) > 0))).bind fun t256 => (if t256 = true then (some (([(⟨([] : List Int), ([] : List Int)⟩ : S42)] : List (S42)))) else (some ([] : List (S42))))) else (if (l1.length : Int) = 0 then (impl_combined_impl_either.j0 k a0 l1 l2 ((l2.length : Int) == 0)) else (impl_combined_impl_either.j0 k a0 l1 l2 false))
end
theorem impl_combined_impl_either.mono_l : ∀ k, (∀ y0 y1 y2, LeO (impl_combined_impl_either.f k y0 y1 y2) (impl_combined_impl_either.f (k + 1) y0 y1 y2)) ∧ (∀ y0 y1 y2 y3, LeO (impl_combined_impl_either.j0 k y0 y1 y2 y3) (impl_combined_impl_either.j0 (k + 1) y0 y1 y2 y3)) ∧ (∀ y0 y1 y2 y3 y4 y5 y6, LeO (impl_combined_impl_either.l0 k y0 y1 y2 y3 y4 y5 y6) (impl_combined_impl_either.l0 (k + 1) y0 y1 y2 y3 y4 y5 y6)) ∧ (∀ y0 y1 y2 y3 y4 y5 y6 y7 y8, LeO (impl_combined_impl_either.j2 k y0 y1 y2 y3 y4 y5 y6 y7 y8) (impl_combined_impl_either.j2 (k + 1) y0 y1 y2 y3 y4 y5 y6 y7 y8))
 | 0 => ⟨fun _ _ _ r h => by simp [impl_combined_impl_either.f] at h, fun _ _ _ _ r h => by simp [impl_combined_impl_either.j0] at h, fun _ _ _ _ _ _ _ r h => by simp [impl_combined_impl_either.l0] at h, fun _ _ _ _ _ _ _ _ _ r h => by simp [impl_combined_impl_either.j2] at h⟩
 | k + 1 => by
  obtain ⟨ih0, ih1, ih2, ih3⟩ := impl_combined_impl_either.mono_l k
  refine ⟨?_, ?_, ?_, ?_⟩
  · intro y0 y1 y2
    unfold impl_combined_impl_either.f
    repeat' (with_reducible first | exact ih0 _ _ _ | exact ih1 _ _ _ _ | exact ih2 _ _ _ _ _ _ _ | exact ih3 _ _ _ _ _ _ _ _ _ | exact impl_SameBoxes.mono _ _ _ | exact impl_prefixed.mono _ _ _ _ | exact impl_section.mono _ _ _ | exact LeO.refl _ | exact LeO.none _ | refine LeO.ite ?_ ?_ | refine LeO.bind ?_ (fun _ => ?_))
  · intro y0 y1 y2 y3
    unfold impl_combined_impl_either.j0
    repeat' (with_reducible first | exact ih0 _ _ _ | exact ih1 _ _ _ _ | exact ih2 _ _ _ _ _ _ _ | exact ih3 _ _ _ _ _ _ _ _ _ | exact impl_SameBoxes.mono _ _ _ | exact impl_prefixed.mono _ _ _ _ | exact impl_section.mono _ _ _ | exact LeO.refl _ | exact LeO.none _ | refine LeO.ite ?_ ?_ | refine LeO.bind ?_ (fun _ => ?_))
  · intro y0 y1 y2 y3 y4 y5 y6
    unfold impl_combined_impl_either.l0
    repeat' (with_reducible first | exact ih0 _ _ _ | exact ih1 _ _ _ _ | exact ih2 _ _ _ _ _ _ _ | exact ih3 _ _ _ _ _ _ _ _ _ | exact impl_SameBoxes.mono _ _ _ | exact impl_prefixed.mono _ _ _ _ | exact impl_section.mono _ _ _ | exact LeO.refl _ | exact LeO.none _ | refine LeO.ite ?_ ?_ | refine LeO.bind ?_ (fun _ => ?_))
  · intro y0 y1 y2 y3 y4 y5 y6 y7 y8
    unfold impl_combined_impl_either.j2
    repeat' (with_reducible first | exact ih0 _ _ _ | exact ih1 _ _ _ _ | exact ih2 _ _ _ _ _ _ _ | exact ih3 _ _ _ _ _ _ _ _ _ | exact impl_SameBoxes.mono _ _ _ | exact impl_prefixed.mono _ _ _ _ | exact impl_section.mono _ _ _ | exact LeO.refl _ | exact LeO.none _ | refine LeO.ite ?_ ?_ | refine LeO.bind ?_ (fun _ => ?_))
theorem impl_combined_impl_either.mono : ∀ a0 a1 a2 k, LeO (impl_combined_impl_either.f k a0 a1 a2) (impl_combined_impl_either.f (k + 1) a0 a1 a2) := by
 intro a0 a1 a2 k
 obtain ⟨ih0, ih1, ih2, ih3⟩ := impl_combined_impl_either.mono_l k
 exact ih0 a0 a1 a2
set_option maxHeartbeats 8000000 in
set_option maxRecDepth 100000 in
theorem impl_combined_impl_either.calls (k : Nat) : ∀ (a0 : Int) (A1 : Option Addr) (c1 : Nat) (l1 : List (S42)) (A2 : Option Addr) (c2 : Nat) (l2 : List (S42))  (r : List (S42)) (w : World) (hr1 : Kd.C k42 w A1 l1.length l1) (hc1 : l1.length ≤ c1) (hr2 : Kd.C k42 w A2 l2.length l2) (hc2 : l2.length ≤ c2) (h : impl_combined_impl_either.f k a0 l1 l2 = some r),
 Calls Try.prog 87 #[.int .i64 a0, .slice A1 l1.length c1, .slice A2 l2.length c2, .func (.func 57) #[] #[]] w fun e w' => ∃ v0_ : Value, e = .returned (v0_) ∧ Kd.S k42 42 w' w.heap.size (fun _ => True) v0_ r ∧ Below w.heap.size w w' := by
 induction k using Nat.strongRecOn with
 | _ k ih =>
 intro a0 A1 c1 l1 A2 c2 l2 r w hr1 hc1 hr2 hc2 h
 cases k with
 | zero => exact absurd h (by simp [impl_combined_impl_either.f])
 | succ k =>
 simp only [impl_combined_impl_either.f] at h
 have hu42 := Try.underlying42
 have HR1 := yD hr1
 have HC1 := yD hc1
 clear hr1 hc1
 have HR2 := yD hr2
 have HC2 := yD hc2
 clear hr2 hc2
 have HB := yD (Below.refl w.heap.size w)
 have H : (if a0 = 0 then ((impl_either.f (decide ((l1.length : Int) > 0)) (decide ((l2.length : Int) > 0))).bind fun t256 => (if t256 = true then (some (([(⟨([] : List Int), ([] : List Int)⟩ : S42)] : List (S42)))) else (some ([] : List (S42))))) else (if (l1.length : Int) = 0 then (impl_combined_impl_either.j0 k a0 l1 l2 ((l2.length : Int) == 0)) else (impl_combined_impl_either.j0 k a0 l1 l2 false))) = some r := h
 clear h
 by_cases c5 : a0 = 0
 ·
  rw [if_pos c5] at H
  have c5b0 : (a0 == 0) = true := beq_iff_eq.mpr c5
  have c5b1 : (a0 != 0) = false := bne_eq_false_iff_eq.mpr c5
  clear c5
  obtain ⟨t256, A60, H⟩ := zW_ H
  replace H : (if t256 = true then (some (([(⟨([] : List Int), ([] : List Int)⟩ : S42)] : List (S42)))) else (some ([] : List (S42)))) = some r := H
  have A6 := yD A60
  clear A60
  by_cases c7 : t256 = true
  ·
   subst c7
   replace H : (some (([(⟨([] : List Int), ([] : List Int)⟩ : S42)] : List (S42)))) = some r := (by rw [if_pos rfl] at H; exact H)
   obtain ⟨y257, hy257⟩ : ∃ y_ : List (S42), y_ = (([(⟨([] : List Int), ([] : List Int)⟩ : S42)] : List (S42))) := ⟨_, rfl⟩
   replace H : (some y257) = some r := by first | (rw [hy257]; with_reducible exact H) | (have H2_ := (Option.bind_some _ _).symm.trans H; rw [hy257]; with_reducible exact H2_) | (have H2_ := (Option.bind_some _ _).symm.trans H; with_reducible exact H2_) | with_reducible exact H | (rw [hy257]; exact H) | exact H
   have Ny257 := yD hy257
   clear hy257; obtain rfl := Option.some.inj H; go_enter Try.func87, Try.ntmps87
   go_wp2_with (first | (go_at_call 57; (refine (impl_either.calls (decide (0 < l1.length)) (decide (0 < l2.length)) true _ (by have h_ := A6.out; rw [show decide ((l1.length : Int) > 0) = decide (0 < l1.length) from decide_eq_decide.2 (by omega), show decide ((l2.length : Int) > 0) = decide (0 < l2.length) from decide_eq_decide.2 (by omega)] at h_; exact h_)).mono ?_); rintro e w' ⟨rfl, ⟨nd, rfl⟩⟩) | ((with_reducible refine gate_dst (N := 25) rfl ?_); (try (refine gate_guard (by rfl) ?_; dsimp only)); refine Kd.S_lit k42 _ 42 ?hg (N := 25) ?hd (xs := ([(⟨([] : List Int), ([] : List Int)⟩ : S42)] : List (S42))) (inner := [.slice none 0 0, .slice none 0 0]) (ok := fun _ => True) (okp := fun _ => True) ?hr ?hp (fun _ hk => hk) trivial (Below.refl _ _) (Nat.le_refl _) (by simp) ?_; (case hd => rfl); (case hg => rfl); (case hr => first | (go_simp; done) | (go_simp; rfl)); (case hp => exact (Reps.c2 (show Kd.M k42 _ _ _ (⟨([] : List Int), ([] : List Int)⟩ : S42) [.slice none 0 0, .slice none 0 0] from (k42_mkM _ _ _ (⟨([] : List Int), ([] : List Int)⟩ : S42) (Kd.R_nil _ _ _ _ _) (Kd.R_nil _ _ _ _ _))) (Reps.none _ _))); intro v258 w8 ho9 hb hg_ hnew_; clear hg_ hnew_; (first | rw [← Ny257.out] at ho9 | (simp only [Int.reduceToNat] at ho9; rw [← Ny257.out] at ho9)); have HO259 := yD (zG ho9 (below_size (kB HB))); replace HB := yD (zC (kB HB) hb); clear hb ho9))
   go_ret
   exact ⟨_, by first | rfl | (simp <;> rfl) | (simp [*] <;> rfl), kS HO259, kR0 HB⟩
  · replace c7 := Bool.eq_false_iff.mpr c7
    subst c7
    replace H : (some ([] : List (S42))) = some r := (by rw [if_neg (show ¬ (false = true) by decide)] at H; exact H); obtain rfl := Option.some.inj H; go_enter Try.func87, Try.ntmps87
    go_wp2_with (first | (go_at_call 57; (refine (impl_either.calls (decide (0 < l1.length)) (decide (0 < l2.length)) false _ (by have h_ := A6.out; rw [show decide ((l1.length : Int) > 0) = decide (0 < l1.length) from decide_eq_decide.2 (by omega), show decide ((l2.length : Int) > 0) = decide (0 < l2.length) from decide_eq_decide.2 (by omega)] at h_; exact h_)).mono ?_); rintro e w' ⟨rfl, ⟨nd, rfl⟩⟩))
    go_ret
    exact ⟨_, by first | rfl | (simp <;> rfl) | (simp [*] <;> rfl), by first | exact Kd.S_nil _ _ _ _ _ | exact Kd.N_nil _ _ _ _ _ | exact Kd.V_nil _ _ _ _ _ | exact Kd.Q_nil _ _ _ _ _ | exact Kd.R_nil _ _ _ _ _, kR0 HB⟩
 ·
  rw [if_neg c5] at H
  have c5b0 : (a0 == 0) = false := beq_eq_false_iff_ne.mpr c5
  have c5b1 : (a0 != 0) = true := bne_iff_ne.mpr c5
  have HC10 := yD H
  clear H; go_enter Try.func87, Try.ntmps87
  go_upto_region 5 with (fail)
  go_cut [33] (fun v33 wc => ∃ (kq : Nat) (x33_9 : Bool), v33 = .bool x33_9 ∧ Aside0 (impl_combined_impl_either.j0 kq a0 l1 l2 x33_9 = some r) ∧ Aside0 (kq ≤ k) ∧ Aside0 (Below w.heap.size w wc))
  case first =>
   have H := HC10.out; clear HC10
   by_cases c11 : (l1.length : Int) = 0
   ·
    rw [if_pos c11] at H
    have c11b0 : ((l1.length : Int) == 0) = true := beq_iff_eq.mpr c11
    have c11b1 : ((l1.length : Int) != 0) = false := bne_eq_false_iff_eq.mpr c11
    clear c11
    (first | rw [c11b0] | (simp only [i64_w, i32_w]; rw [c11b0]) | (simp only [bne] at c11b0; rw [c11b0]) | skip)
    have H' := yD H
    clear H
    go_wp2
    go_meet
    case rel => exact ⟨_, (((l2.length : Int) == 0)), (by first | rfl | (simp; done) | (simp [*]; done)), H', ⟨by first | omega | exact Nat.le_refl _⟩, ⟨kR0 HB⟩⟩
   ·
    rw [if_neg c11] at H
    have c11b0 : ((l1.length : Int) == 0) = false := beq_eq_false_iff_ne.mpr c11
    have c11b1 : ((l1.length : Int) != 0) = true := bne_iff_ne.mpr c11
    have c11b2 : ¬ (l1 = []) := fun h_ => c11 (by rw [h_]; rfl)
    (first | rw [c11b0] | (simp only [i64_w, i32_w]; rw [c11b0]) | (simp only [bne] at c11b0; rw [c11b0]) | skip)
    have H' := yD H
    clear H
    go_wp2
    go_meet
    case rel => exact ⟨_, (false), (by first | rfl | (simp; done) | (simp [*]; done)), H', ⟨by first | omega | exact Nat.le_refl _⟩, ⟨kR0 HB⟩⟩
  case rest =>
   clear HC10; try clear c1; try clear c2; try clear c5; try clear c5b0; try clear c5b1; try clear c7; try clear c11; try clear c11b0; try clear c11b1; try clear c11b2
   obtain ⟨kq, x33_9, rfl, HA, HJ9, HB⟩ := hcut
   cases kq with
   | zero => exact absurd HA.out (by simp [impl_combined_impl_either.j0])
   | succ kj9 =>
    have H := HA.out; clear HA
    simp only [impl_combined_impl_either.j0] at H
    by_cases c12 : x33_9 = true
    · subst c12
      replace H : (some ([] : List (S42))) = some r := (by rw [if_pos rfl] at H; exact H); obtain rfl := Option.some.inj H
      go_wp2
      go_ret
      exact ⟨_, by first | rfl | (simp <;> rfl) | (simp [*] <;> rfl), by first | exact Kd.S_nil _ _ _ _ _ | exact Kd.N_nil _ _ _ _ _ | exact Kd.V_nil _ _ _ _ _ | exact Kd.Q_nil _ _ _ _ _ | exact Kd.R_nil _ _ _ _ _, kR0 HB⟩
    ·
     replace c12 := Bool.eq_false_iff.mpr c12
     subst c12
     replace H : (impl_combined_impl_either.l0 kj9 a0 l1 l2 ([] : List (S42)) ([] : List (S42)) 0 0) = some r := (by rw [if_neg (show ¬ (false = true) by decide)] at H; exact H)
     have H' := yD H
     clear H
     go_wp2
     go_loopg [9, 10, 11, 34] kj9 (fun kq v9 v10 v11 v34 w' => ∃ (x9_2 : List (S42)) (x10_2 : List (S42)) (x11_2 : Int) (x34_2 : Int), v11 = .int .i64 x11_2 ∧ v34 = .int .i64 x34_2 ∧ Aside0 (impl_combined_impl_either.l0 kq a0 l1 l2 x9_2 x10_2 x11_2 x34_2 = some r) ∧ Aside0 (kq ≤ kj9) ∧ Aside0 (Kd.S k42 42 w' w.heap.size (fun k_ => oB v10 k_) v9 x9_2) ∧ Aside0 (Kd.S k42 42 w' w.heap.size (fun k_ => oB v9 k_) v10 x10_2) ∧ Aside0 (Below w.heap.size w w'))
     case atStart => exact ⟨(([] : List (S42))), (([] : List (S42))), (0), (0), (by first | rfl | (simp; done) | (simp [*]; done)), (by first | rfl | (simp; done) | (simp [*]; done)), H', ⟨Nat.le_refl _⟩, ⟨by first | exact Kd.S_nil _ _ _ _ _ | exact Kd.N_nil _ _ _ _ _ | exact Kd.V_nil _ _ _ _ _ | exact Kd.Q_nil _ _ _ _ _ | exact Kd.R_nil _ _ _ _ _⟩, ⟨by first | exact Kd.S_nil _ _ _ _ _ | exact Kd.N_nil _ _ _ _ _ | exact Kd.V_nil _ _ _ _ _ | exact Kd.Q_nil _ _ _ _ _ | exact Kd.R_nil _ _ _ _ _⟩, ⟨kR0 HB⟩⟩
     case round =>
      clear H'
      try clear c1; try clear c2; try clear c5; try clear c5b0; try clear c5b1; try clear c7; try clear c11; try clear c11b0; try clear c11b1; try clear c11b2; try clear c12
      obtain ⟨x9_2, x10_2, x11_2, x34_2, rfl, rfl, HA, HK2, HO_9, HO_10, HB⟩ := hrel
      cases gk with
      | zero => exact absurd HA.out (by simp [impl_combined_impl_either.l0])
      | succ k2 =>
       have H := HA.out; clear HA
       simp only [impl_combined_impl_either.l0] at H
       by_cases c13 : x34_2 < 41
       ·
        rw [if_pos c13] at H
        have c13b0 : decide (x34_2 < 41) = true := zR c13; clear c13
        have HC14 := yD H
        clear H
        go_upto_if 38 with (fail)
        go_cut [13] (fun v13 wc => ∃ (kq : Nat) (x13_13 : List (S42)), Aside0 (impl_combined_impl_either.j2 kq a0 l1 l2 x9_2 x10_2 x11_2 x34_2 x13_13 x34_2 = some r) ∧ Aside0 (kq ≤ k2) ∧ Aside0 (Kd.S k42 42 wc w.heap.size (fun k_ => oB u10 k_ ∧ oB v13 k_) u9 x9_2) ∧ Aside0 (Kd.S k42 42 wc w.heap.size (fun k_ => oB u9 k_ ∧ oB v13 k_) u10 x10_2) ∧ Aside0 (Kd.S k42 42 wc w.heap.size (fun k_ => oB u9 k_ ∧ oB u10 k_) v13 x13_13) ∧ Aside0 (Below w.heap.size w wc))
        case first =>
         have H := HC14.out; clear HC14
         by_cases c15 : x34_2 < 40
         ·
          rw [if_pos c15] at H
          have c15b0 : decide (x34_2 < 40) = true := zR c15; clear c15
          (first | rw [c15b0] | (simp only [i64_w, i32_w]; rw [c15b0]) | (simp only [bne] at c15b0; rw [c15b0]) | skip)
          obtain ⟨t260, A160, H⟩ := zW_ H
          replace H : ((impl_section.f k2 l2 x34_2).bind fun t263 => ((impl_combined_impl_either.f k2 (wrap64 (a0 - 1)) t260 t263).bind fun t266 => (impl_combined_impl_either.j2 k2 a0 l1 l2 x9_2 x10_2 x11_2 x34_2 t266 x34_2))) = some r := H
          have A16 := yD A160
          clear A160
          obtain ⟨t263, A170, H⟩ := zW_ H
          replace H : ((impl_combined_impl_either.f k2 (wrap64 (a0 - 1)) t260 t263).bind fun t266 => (impl_combined_impl_either.j2 k2 a0 l1 l2 x9_2 x10_2 x11_2 x34_2 t266 x34_2)) = some r := H
          have A17 := yD A170
          clear A170
          obtain ⟨t266, A180, H⟩ := zW_ H
          replace H : (impl_combined_impl_either.j2 k2 a0 l1 l2 x9_2 x10_2 x11_2 x34_2 t266 x34_2) = some r := H
          have A18 := yD A180
          clear A180
          have H' := yD H
          clear H
          go_wp2_with (first | ((with_reducible refine gate_callee (f := 123) rfl ?_); refine gL 43 Try.func123 #[.slice A1 l1.length c1, .int .i64 x34_2] ?_; (with_reducible refine (impl_section.calls k2 (fun k_ => k_ < w.heap.size) _ _ l1 x34_2 t260 _ ?side1 A16.out).mono ?_); (case side1 => exact Kd.V_mk HC1.out (Kd.F_below (Kd.C_F k42_heap HR1.out) (kB HB))); rintro e w19 ⟨v261, rfl, ho0, hb⟩; refine ⟨_, rfl, ?_⟩; have HO262 := yD (Kd.V_lower (Kd.V_mono (ok' := fun k_ => oB u9 k_ ∧ oB u10 k_) ho0 (fun k_ hk_ => ⟨Or.elim hk_ (fun hs_ => fun e_ => Nat.not_le.2 hs_ (Kd.S_base HO_9.out k_ e_.symm)) (fun hn_ => (Kd.fresh' (Kd.S_lt (kS HO_9)) k_ hn_)), Or.elim hk_ (fun hs_ => fun e_ => Nat.not_le.2 hs_ (Kd.S_base HO_10.out k_ e_.symm)) (fun hn_ => (Kd.fresh' (Kd.S_lt (kS HO_10)) k_ hn_))⟩)) (below_size (kB HB))); replace HO_9 := yD (Kd.S_below (kS HO_9) hb); replace HO_10 := yD (Kd.S_below (kS HO_10) hb); replace HB := yD (zC (kB HB) hb); clear hb ho0) | ((with_reducible refine gate_callee (f := 123) rfl ?_); refine gL 46 Try.func123 #[.slice A2 l2.length c2, .int .i64 x34_2] ?_; (with_reducible refine (impl_section.calls k2 (fun k_ => k_ < w.heap.size) _ _ l2 x34_2 t263 _ ?side1 A17.out).mono ?_); (case side1 => exact Kd.V_mk HC2.out (Kd.F_below (Kd.C_F k42_heap HR2.out) (kB HB))); rintro e w20 ⟨v264, rfl, ho0, hb⟩; refine ⟨_, rfl, ?_⟩; replace HO262 := yD (Kd.V_below (kU HO262) hb); have HO265 := yD (Kd.V_lower (Kd.V_mono (ok' := fun k_ => oB u9 k_ ∧ oB u10 k_) ho0 (fun k_ hk_ => ⟨Or.elim hk_ (fun hs_ => fun e_ => Nat.not_le.2 hs_ (Kd.S_base HO_9.out k_ e_.symm)) (fun hn_ => (Kd.fresh' (Kd.S_lt (kS HO_9)) k_ hn_)), Or.elim hk_ (fun hs_ => fun e_ => Nat.not_le.2 hs_ (Kd.S_base HO_10.out k_ e_.symm)) (fun hn_ => (Kd.fresh' (Kd.S_lt (kS HO_10)) k_ hn_))⟩)) (below_size (kB HB))); replace HO_9 := yD (Kd.S_below (kS HO_9) hb); replace HO_10 := yD (Kd.S_below (kS HO_10) hb); replace HB := yD (zC (kB HB) hb); clear hb ho0; obtain ⟨Ao21, co21, eo21⟩ := Kd.V_slice HO262.out; subst eo21; obtain ⟨Ao22, co22, eo22⟩ := Kd.V_slice HO265.out; subst eo22) | ((with_reducible refine gate_callee (f := 87) rfl ?_); refine gL 48 Try.func87 #[.int .i64 (wrap64 (a0 - 1)), .slice Ao21 t260.length co21, .slice Ao22 t263.length co22, .func (.func 57) #[] #[]] ?_; (with_reducible refine (ih k2 (by have := HJ9.out; have := HK2.out; omega) (wrap64 (a0 - 1)) _ _ t260 _ _ t263  t266 _ ?side1 ?side2 ?side3 ?side4 A18.out).mono ?_); (case side1 => exact kV (Kd.V_reads' HO262.out).2.2); (case side2 => exact (Kd.V_reads' HO262.out).2.1); (case side3 => exact kV (Kd.V_reads' HO265.out).2.2); (case side4 => exact (Kd.V_reads' HO265.out).2.1); rintro e w23 ⟨v267, rfl, ho0, hb⟩; refine ⟨_, rfl, ?_⟩; replace HO262 := yD (Kd.V_elder' (kU HO262) (Kd.S_base ho0) hb); replace HO265 := yD (Kd.V_elder' (kU HO265) (Kd.S_base ho0) hb); have HO268 := yD (zG (zD (zD ho0 (Kd.S_lt (kS HO_9))) (Kd.S_lt (kS HO_10))) (below_size (kB HB))); replace HO_9 := yD (Kd.S_elder' (kS HO_9) (Kd.S_base ho0) hb); replace HO_10 := yD (Kd.S_elder' (kS HO_10) (Kd.S_base ho0) hb); replace HB := yD (zC (kB HB) hb); clear hb ho0))
          go_meet
          case rel => exact ⟨_, (t266), H', ⟨by have := HJ9.out; have := HK2.out; first | omega | exact Nat.le_refl _⟩, ⟨kS HO_9⟩, ⟨kS HO_10⟩, ⟨mS HO268 (fun _ hk => ⟨hk.1.2, hk.2⟩)⟩, ⟨kR0 HB⟩⟩
         · rw [if_neg c15] at H
           have c15b0 : decide (x34_2 < 40) = false := zS c15; clear c15
           (first | rw [c15b0] | (simp only [i64_w, i32_w]; rw [c15b0]) | (simp only [bne] at c15b0; rw [c15b0]) | skip)
           have H' := yD H
           clear H
           go_wp2
           go_meet
           case rel => exact ⟨_, (([] : List (S42))), H', ⟨by have := HJ9.out; have := HK2.out; first | omega | exact Nat.le_refl _⟩, ⟨mS HO_9 (fun _ hk => ⟨hk, (by simp [oB, Value.ownBlock])⟩)⟩, ⟨mS HO_10 (fun _ hk => ⟨hk, (by simp [oB, Value.ownBlock])⟩)⟩, ⟨by first | exact Kd.S_nil _ _ _ _ _ | exact Kd.N_nil _ _ _ _ _ | exact Kd.V_nil _ _ _ _ _ | exact Kd.Q_nil _ _ _ _ _ | exact Kd.R_nil _ _ _ _ _⟩, ⟨kR0 HB⟩⟩
        case rest =>
         clear HC14; try clear c1; try clear c2; try clear c5; try clear c5b0; try clear c5b1; try clear c7; try clear c11; try clear c11b0; try clear c11b1; try clear c11b2; try clear c12; try clear c13; try clear c13b0; try clear c15; try clear c15b0
         obtain ⟨kq, x13_13, HA, HJ13, HO_9, HO_10, HO_13, HB⟩ := hcut
         cases kq with
         | zero => exact absurd HA.out (by simp [impl_combined_impl_either.j2])
         | succ kj13 =>
          have H := HA.out; clear HA
          simp only [impl_combined_impl_either.j2] at H
          obtain ⟨t269, A240, H⟩ := zW_ H
          replace H : (if t269 = true then (impl_combined_impl_either.l0 kj13 a0 l1 l2 x9_2 x10_2 x11_2 (wrap64 (x34_2 + 1))) else ((impl_prefixed.f kj13 x10_2 x11_2 x34_2).bind fun t270 => (if x9_2.length + t270.length < 2932031007402 then (impl_combined_impl_either.l0 kj13 a0 l1 l2 (x9_2 ++ t270) x13_13 x34_2 (wrap64 (x34_2 + 1))) else (none)))) = some r := H
          have A24 := yD A240
          clear A240
          by_cases c25 : t269 = true
          · subst c25
            replace H : (impl_combined_impl_either.l0 kj13 a0 l1 l2 x9_2 x10_2 x11_2 (wrap64 (x34_2 + 1))) = some r := (by rw [if_pos rfl] at H; exact H)
            have H' := yD H
            clear H
            obtain ⟨Ao26, co26, eo26⟩ := Kd.S_slice HO_13.out
            subst eo26
            obtain ⟨Ao27, co27, eo27⟩ := Kd.S_slice HO_10.out
            subst eo27
            go_wp2_with (first | ((with_reducible refine gate_callee (f := 31) rfl ?_); refine gL 51 Try.func31 #[.slice Ao26 x13_13.length co26, .slice Ao27 x10_2.length co27] ?_; (with_reducible refine (impl_SameBoxes.calls kj13 _ _ x13_13 _ _ x10_2 true _ ?side1 ?side2 ?side3 ?side4 A24.out).mono ?_); (case side1 => exact kV (Kd.S_reads' HO_13.out).2.2); (case side2 => exact (Kd.S_reads' HO_13.out).2.1); (case side3 => exact kV (Kd.S_reads' HO_10.out).2.2); (case side4 => exact (Kd.S_reads' HO_10.out).2.1); rintro e w28 ⟨rfl, hb⟩; refine ⟨_, rfl, ?_⟩; replace HO_9 := yD (Kd.S_below (kS HO_9) hb); replace HO_10 := yD (Kd.S_below (kS HO_10) hb); replace HO_13 := yD (Kd.S_below (kS HO_13) hb); replace HB := yD (zC (kB HB) hb); clear hb))
            go_roundg kj13
            case measure => have := HJ9.out; have := HK2.out; have := HJ13.out; omega
            case rel => exact ⟨(x9_2), (x10_2), (x11_2), (wrap64 (x34_2 + 1)), (by first | rfl | (simp; done) | (simp [*]; done)), (by first | rfl | (simp; done) | (simp [*]; done)), H', ⟨by have := HJ9.out; have := HK2.out; have := HJ13.out; omega⟩, ⟨mS HO_9 (fun _ hk => hk.1)⟩, ⟨mS HO_10 (fun _ hk => hk.1)⟩, ⟨kR0 HB⟩⟩
          ·
           replace c25 := Bool.eq_false_iff.mpr c25
           subst c25
           replace H : ((impl_prefixed.f kj13 x10_2 x11_2 x34_2).bind fun t270 => (if x9_2.length + t270.length < 2932031007402 then (impl_combined_impl_either.l0 kj13 a0 l1 l2 (x9_2 ++ t270) x13_13 x34_2 (wrap64 (x34_2 + 1))) else (none))) = some r := (by rw [if_neg (show ¬ (false = true) by decide)] at H; exact H)
           obtain ⟨t270, A290, H⟩ := zW_ H
           replace H : (if x9_2.length + t270.length < 2932031007402 then (impl_combined_impl_either.l0 kj13 a0 l1 l2 (x9_2 ++ t270) x13_13 x34_2 (wrap64 (x34_2 + 1))) else (none)) = some r := H
           have A29 := yD A290
           clear A290
           by_cases c30 : x9_2.length + t270.length < 2932031007402
           ·
            rw [if_pos c30] at H
            have LMc30 := yD c30
            clear c30
            obtain ⟨y273, hy273⟩ : ∃ y_ : List (S42), y_ = (x9_2 ++ t270) := ⟨_, rfl⟩
            replace H : (impl_combined_impl_either.l0 kj13 a0 l1 l2 y273 x13_13 x34_2 (wrap64 (x34_2 + 1))) = some r := by first | (rw [hy273]; with_reducible exact H) | (have H2_ := (Option.bind_some _ _).symm.trans H; rw [hy273]; with_reducible exact H2_) | (have H2_ := (Option.bind_some _ _).symm.trans H; with_reducible exact H2_) | with_reducible exact H | (rw [hy273]; exact H) | exact H
            have Ny273 := yD hy273
            clear hy273
            have H' := yD H
            clear H
            obtain ⟨Ao31, co31, eo31⟩ := Kd.S_slice HO_13.out
            subst eo31
            obtain ⟨Ao32, co32, eo32⟩ := Kd.S_slice HO_10.out
            subst eo32
            go_wp2_with (first | ((with_reducible refine gate_callee (f := 31) rfl ?_); refine gL 51 Try.func31 #[.slice Ao31 x13_13.length co31, .slice Ao32 x10_2.length co32] ?_; (with_reducible refine (impl_SameBoxes.calls kj13 _ _ x13_13 _ _ x10_2 false _ ?side1 ?side2 ?side3 ?side4 A24.out).mono ?_); (case side1 => exact kV (Kd.S_reads' HO_13.out).2.2); (case side2 => exact (Kd.S_reads' HO_13.out).2.1); (case side3 => exact kV (Kd.S_reads' HO_10.out).2.2); (case side4 => exact (Kd.S_reads' HO_10.out).2.1); rintro e w33 ⟨rfl, hb⟩; refine ⟨_, rfl, ?_⟩; replace HO_9 := yD (Kd.S_below (kS HO_9) hb); replace HO_10 := yD (Kd.S_below (kS HO_10) hb); replace HO_13 := yD (Kd.S_below (kS HO_13) hb); replace HB := yD (zC (kB HB) hb); clear hb) | ((with_reducible refine gate_callee (f := 124) rfl ?_); refine gL 57 Try.func124 #[.slice Ao32 x10_2.length co32, .int .i64 x11_2, .int .i64 x34_2] ?_; (with_reducible refine (impl_prefixed.calls kj13 (fun k_ => (oB u9 k_ ∧ oB (.slice Ao31 x13_13.length co31) k_)) _ _ x10_2 x11_2 x34_2 t270 _ ?side1 A29.out).mono ?_); (case side1 => exact Kd.S_V (HO_10.out)); rintro e w34 ⟨v271, rfl, ho0, hb⟩; refine ⟨_, rfl, ?_⟩; have HPHO272_HO_9 := yD (S_pair (kS HO_9) hb (zD (zD (zD (Kd.S_mono (ok' := fun k_ => True) ho0 (fun _ hk_ => trivial)) (Kd.S_lt (kS HO_9))) (Kd.S_lt (kS HO_10))) (Kd.S_lt (kS HO_13))) (below_size (kB HB))); have HO272 := yD (zG (zD (zD (zD (Kd.S_mono (ok' := fun k_ => True) ho0 (fun _ hk_ => trivial)) (Kd.S_lt (kS HO_9))) (Kd.S_lt (kS HO_10))) (Kd.S_lt (kS HO_13))) (below_size (kB HB))); replace HO_9 := yD (Kd.S_elder' (kS HO_9) (Kd.S_base ho0) hb); replace HO_10 := yD (Kd.S_elder' (kS HO_10) (Kd.S_base ho0) hb); replace HO_13 := yD (Kd.S_elder' (kS HO_13) (Kd.S_base ho0) hb); replace HB := yD (zC (kB HB) hb); clear hb ho0; obtain ⟨Ao36, co36, eo36⟩ := Kd.S_slice HO272.out; subst eo36) | ((with_reducible refine gate_builtin (b := .append) (xs := #[.tmp 53, .tmp 57]) rfl ?_); (try (refine gate_guard (by rfl) ?_; dsimp only)); at_builtin; obtain ⟨N_, hA_, hB_⟩ := HPHO272_HO_9.out; refine S_append_rows k42 (w0 := w) w.heap.size rfl (.tmp 53) (.tmp 57) 24 42 (.agg #[(.slice none 0 0), (.slice none 0 0)]) 48 rfl Try.underlying24 info42 rfl (by decide) (by omega) u9 x9_2 t270 _ _ _ (fun k_ => oB (.slice Ao32 x10_2.length co32) k_ ∧ oB (.slice Ao31 x13_13.length co31) k_) (fun k_ => N_ ≤ k_ ∧ (((fun k_ => oB (.slice Ao32 x10_2.length co32) k_ ∧ oB (.slice Ao31 x13_13.length co31) k_)) k_ ∧ oB u9 k_)) rfl rfl ?aO ?aR (fun _ hk => hk.2) ?aF ?aB ?aS ?aL ?_; (case aR => exact (by (with_reducible repeat (first | apply yS | apply yT | apply yU)); exact Kd.S_mono hB_ (fun k_ hk => ⟨hk.2, ⟨⟨hk.1.1.2, hk.1.2⟩, hk.1.1.1.2⟩⟩))); (case aB => exact (kB HB)); (case aF => exact (fun k_ hk => ⟨Kd.fresh' (Kd.S_lt (kS HO_10)) k_ hk, Kd.fresh' (Kd.S_lt (kS HO_13)) k_ hk⟩)); (case aO => exact (by (with_reducible repeat (first | apply yS | apply yT | apply yU)); exact Kd.S_mono hA_ (fun _ hk => ⟨⟨hk.1.1, hk.1.2⟩, fun e_ => absurd hk.2 (Nat.not_lt.2 e_.1)⟩))); (case aS => exact (below_size (kB HB))); (case aL => have := LMc30.out; omega); intro v274 w35 ho hb hg hat; rw [← Ny273.out] at ho; replace HO_10 := yD (Kd.S_after (ok := (fun k_ => oB (.slice Ao31 x13_13.length co31) k_ ∧ oB (.slice Ao36 t270.length co36) k_)) (mS HO_10 (fun _ hk => ⟨⟨hk.1.2, hk.2⟩, hk.1.1⟩)) hg hat); replace HO_13 := yD (Kd.S_after (ok := (fun k_ => oB (.slice Ao32 x10_2.length co32) k_ ∧ oB (.slice Ao36 t270.length co36) k_)) (mS HO_13 (fun _ hk => ⟨⟨hk.1.2, hk.2⟩, hk.1.1⟩)) hg hat); replace HB := yD (hb); have HO275 := yD (ho); clear HO_9 HO272; clear ho hb hg hat))
            go_roundg kj13
            case measure => have := HJ9.out; have := HK2.out; have := HJ13.out; omega
            case rel => exact ⟨(y273), (x13_13), (x34_2), (wrap64 (x34_2 + 1)), (by first | rfl | (simp; done) | (simp [*]; done)), (by first | rfl | (simp; done) | (simp [*]; done)), H', ⟨by have := HJ9.out; have := HK2.out; have := HJ13.out; omega⟩, ⟨mS HO275 (fun _ hk => hk.2)⟩, ⟨mS HO_13 (fun _ hk => hk.2)⟩, ⟨kR0 HB⟩⟩
           · rw [if_neg c30] at H
             exact absurd H (by simp)
       · rw [if_neg c13] at H
         have c13b0 : decide (x34_2 < 41) = false := zS c13; clear c13; obtain rfl := Option.some.inj H
         go_wp2
         go_ret
         exact ⟨_, by first | rfl | (simp <;> rfl) | (simp [*] <;> rfl), mS HO_9 (fun _ hk => trivial), kR0 HB⟩

/-! ### impl_normalFull: function 86 -/
def impl_normalFull.f (l0 : List (S42)) : Option (List (S42) × Int) := if (l0.length : Int) > 32 then (some ([], 5)) else (some (l0, 0))
set_option maxHeartbeats 8000000 in
theorem impl_normalFull.calls (P0_ : Nat → Prop) (u9000_ : Value) (l0 : List (S42)) (r1 : List (S42)) (r2 : Int) (w0 w : World) (hB : Below w0.heap.size w0 w) (ho0 : Kd.S k42 42 w w0.heap.size P0_ u9000_ l0) (h : impl_normalFull.f l0 = some (r1, r2)) :
 Calls Try.prog 86 #[u9000_] w fun e w' => ∃ v0_ : Value, e = .returned (.tuple #[v0_, .int .i64 r2]) ∧ Kd.S k42 42 w' w0.heap.size (fun k_ => (P0_ k_ ∨ w.heap.size ≤ k_)) v0_ r1 ∧ Below w0.heap.size w0 w' ∧ Kept w w' (fun k_ => P0_ k_) := by
 obtain ⟨A0, c0, rfl⟩ := Kd.S_slice ho0
 have HO_ := Aside0.mk ho0; have HB_ := Aside0.mk hB
 clear ho0 hB
 unfold impl_normalFull.f at h
 by_cases c2 : (l0.length : Int) > 32
 ·
  rw [if_pos c2] at h
  have c2b0 : decide (32 < (l0.length : Int)) = true := decide_eq_true c2
  have c2b1 : decide (32 < l0.length) = true := decide_eq_true (by omega)
  clear c2
  simp only [Option.some.injEq, Prod.mk.injEq] at h
  obtain ⟨rfl, rfl⟩ := h
  go_enter Try.func86, Try.ntmps86
  go_wp2
  go_ret2
  exact ⟨_, by first | rfl | simp, Kd.S_nil _ _ _ _ _, kR8 HB_, by (with_reducible repeat (first | apply Kept.alloc | apply Kept.drewN | apply Kept.drew)); exact Kept.refl _ _⟩
 ·
  rw [if_neg c2] at h
  have c2b0 : decide (32 < (l0.length : Int)) = false := decide_eq_false c2
  have c2b1 : decide (32 < l0.length) = false := decide_eq_false (by omega)
  clear c2
  simp only [Option.some.injEq, Prod.mk.injEq] at h
  obtain ⟨rfl, rfl⟩ := h
  go_enter Try.func86, Try.ntmps86
  go_wp2
  go_ret2
  exact ⟨_, by first | rfl | simp, by (with_reducible repeat (first | apply Kd.S_alloc | apply Kd.S_drewN | apply Kd.S_drew)); exact Kd.S_mono HO_.out (fun _ hk => .inl hk), kR8 HB_, by (with_reducible repeat (first | apply Kept.alloc | apply Kept.drewN | apply Kept.drew)); exact Kept.refl _ _⟩
/-! ### impl_combine_impl_either: function 56 -/
def impl_combine_impl_either.j0 : Nat → List (S42) → List (S42) → Bool → Option ((List (S42)) × Int)
 | 0, _, _, _ => none
 | k + 1, x0, x1, x38 => if x38 = true then (some (([] : List (S42)), 1)) else ((impl_rankOf.f k x0 x1).bind fun t280 => ((impl_combined_impl_either.f k t280 x0 x1).bind fun t281 => ((impl_normalFull.f t281).bind fun bt284 => (some (bt284.1, bt284.2)))))
def impl_combine_impl_either.f (k : Nat) (l0 : List (S42)) (l1 : List (S42))  : Option ((List (S42)) × Int) := (impl_boxesOk.f k l0).bind fun t276 => (if t276 = true then ((impl_boxesOk.f k l1).bind fun t277 => (if t277 = true then (if (l0.length : Int) > 0 then (if (l1.length : Int) > 0 then (if 0 < (l0.length : Int) then (if 0 < (l1.length : Int) then (impl_combine_impl_either.j0 k l0 l1 ((((rd_T42 l0 0).f0).length : Int) != (((rd_T42 l1 0).f0).length : Int))) else (none)) else (none)) else (impl_combine_impl_either.j0 k l0 l1 false)) else (impl_combine_impl_either.j0 k l0 l1 false)) else (impl_combine_impl_either.j0 k l0 l1 true))) else (impl_combine_impl_either.j0 k l0 l1 true))
theorem impl_combine_impl_either.mono_l : ∀ k, (∀ y0 y1 y2, LeO (impl_combine_impl_either.j0 k y0 y1 y2) (impl_combine_impl_either.j0 (k + 1) y0 y1 y2))
 | 0 => fun _ _ _ r h => by simp [impl_combine_impl_either.j0] at h
 | k + 1 => by
  have ih0 := impl_combine_impl_either.mono_l k
  · intro y0 y1 y2
    unfold impl_combine_impl_either.j0
    repeat' (with_reducible first | exact ih0 _ _ _ | exact impl_boxesOk.mono _ _ | exact impl_combined_impl_either.mono _ _ _ _ | exact impl_rankOf.mono _ _ _ | exact LeO.refl _ | exact LeO.none _ | refine LeO.ite ?_ ?_ | refine LeO.bind ?_ (fun _ => ?_))
theorem impl_combine_impl_either.mono : ∀ a0 a1 k, LeO (impl_combine_impl_either.f k a0 a1) (impl_combine_impl_either.f (k + 1) a0 a1) := by
 intro a0 a1 k
 have ih0 := impl_combine_impl_either.mono_l k
 unfold impl_combine_impl_either.f
 repeat' (with_reducible first | exact ih0 _ _ _ | exact impl_boxesOk.mono _ _ | exact impl_combined_impl_either.mono _ _ _ _ | exact impl_rankOf.mono _ _ _ | exact LeO.refl _ | exact LeO.none _ | refine LeO.ite ?_ ?_ | refine LeO.bind ?_ (fun _ => ?_))
def impl_combine_impl_either.T1 : Bool × List (List Nat × List Nat) := (true, [([], []), ([0], [0]), ([1], [1]), ([2, 1], [2]), ([3], [3]), ([4, 3, 3], [3, 4]), ([5, 3], [3, 5]), ([3, 6], [3, 6]), ([7, 5], [7]), ([8], [8]), ([9, 8], [8, 9]), ([10, 8], [8, 10]), ([11, 8, 8], [8, 11]), ([12], [12]), ([13, 12], [12, 13]), ([14, 12], [12, 14]), ([12, 15, 8], [8, 12, 15]), ([16, 12, 8], [8, 16]), ([17], [17]), ([18, 17], [17, 18]), ([19, 17], [17, 19]), ([20, 17], [17, 20]), ([21, 17], [17, 21]), ([17], [17]), ([23, 17], [17, 23]), ([24, 17], [17, 24]), ([25, 17], [17, 25]), ([26, 17], [17, 26]), ([22, 27, 17], [17, 22, 27]), ([17, 28, 8], [8, 17, 28]), ([8, 29], [8, 29])])
def impl_combine_impl_either.B1 : List Nat := [0, 1, 3, 7, 15, 31, 63, 127, 255, 511, 1023, 2047, 4095, 8191, 16383, 32767, 65535, 131071, 262143, 524287, 1048575, 2097151, 4194303, 262143, 8650751, 25427967, 58982399, 126091263, 268435455, 536870911, 1073741823]
theorem impl_combine_impl_either.tab1 : rtab .any (opsOf Try.f56 1) = impl_combine_impl_either.T1 := by kernel_rfl
theorem impl_combine_impl_either.bits1 : waitsOk impl_combine_impl_either.T1.2 impl_combine_impl_either.B1 = true := by kernel_rfl
set_option maxHeartbeats 8000000 in
set_option maxRecDepth 100000 in
theorem impl_combine_impl_either.calls (k : Nat) (A0 : Option Addr) (c0 : Nat) (l0 : List (S42)) (A1 : Option Addr) (c1 : Nat) (l1 : List (S42))  (r1 : List (S42)) (r2 : Int) (w : World) (hr0 : Kd.C k42 w A0 l0.length l0) (hc0 : l0.length ≤ c0) (hr1 : Kd.C k42 w A1 l1.length l1) (hc1 : l1.length ≤ c1) (h : impl_combine_impl_either.f k l0 l1 = some (r1, r2)) :
 Calls Try.prog 56 #[.slice A0 l0.length c0, .slice A1 l1.length c1, .func (.func 57) #[] #[]] w fun e w' => ∃ v0_ : Value, e = .returned (.tuple #[v0_, .int .i64 r2]) ∧ Kd.S k42 42 w' w.heap.size (fun _ => True) v0_ r1 ∧ Below w.heap.size w w' := by
 have HR0 := yD hr0
 have HC0 := yD hc0
 clear hr0 hc0
 have HR1 := yD hr1
 have HC1 := yD hc1
 clear hr1 hc1
 have HB := yD (Below.refl w.heap.size w)
 have H : ((impl_boxesOk.f k l0).bind fun t276 => (if t276 = true then ((impl_boxesOk.f k l1).bind fun t277 => (if t277 = true then (if (l0.length : Int) > 0 then (if (l1.length : Int) > 0 then (if 0 < (l0.length : Int) then (if 0 < (l1.length : Int) then (impl_combine_impl_either.j0 k l0 l1 ((((rd_T42 l0 0).f0).length : Int) != (((rd_T42 l1 0).f0).length : Int))) else (none)) else (none)) else (impl_combine_impl_either.j0 k l0 l1 false)) else (impl_combine_impl_either.j0 k l0 l1 false)) else (impl_combine_impl_either.j0 k l0 l1 true))) else (impl_combine_impl_either.j0 k l0 l1 true))) = some (r1, r2) := h
 clear h
 have HC4 := yD H
 clear H; go_enter Try.func56, Try.ntmps56
 go_upto_region 1 with (fail)
 go_cut [38] (fun v38 wc => ∃ (kq : Nat) (x38_3 : Bool), v38 = .bool x38_3 ∧ Aside0 (impl_combine_impl_either.j0 kq l0 l1 x38_3 = some (r1, r2)) ∧ Aside0 (kq ≤ k) ∧ Aside0 (Below w.heap.size w wc))
 case first =>
  have H := HC4.out; clear HC4
  obtain ⟨t276, A50, H⟩ := zW_ H
  replace H : (if t276 = true then ((impl_boxesOk.f k l1).bind fun t277 => (if t277 = true then (if (l0.length : Int) > 0 then (if (l1.length : Int) > 0 then (if 0 < (l0.length : Int) then (if 0 < (l1.length : Int) then (impl_combine_impl_either.j0 k l0 l1 ((((rd_T42 l0 0).f0).length : Int) != (((rd_T42 l1 0).f0).length : Int))) else (none)) else (none)) else (impl_combine_impl_either.j0 k l0 l1 false)) else (impl_combine_impl_either.j0 k l0 l1 false)) else (impl_combine_impl_either.j0 k l0 l1 true))) else (impl_combine_impl_either.j0 k l0 l1 true)) = some (r1, r2) := H
  have A5 := yD A50
  clear A50
  by_cases c6 : t276 = true
  ·
   subst c6
   replace H : ((impl_boxesOk.f k l1).bind fun t277 => (if t277 = true then (if (l0.length : Int) > 0 then (if (l1.length : Int) > 0 then (if 0 < (l0.length : Int) then (if 0 < (l1.length : Int) then (impl_combine_impl_either.j0 k l0 l1 ((((rd_T42 l0 0).f0).length : Int) != (((rd_T42 l1 0).f0).length : Int))) else (none)) else (none)) else (impl_combine_impl_either.j0 k l0 l1 false)) else (impl_combine_impl_either.j0 k l0 l1 false)) else (impl_combine_impl_either.j0 k l0 l1 true))) = some (r1, r2) := (by rw [if_pos rfl] at H; exact H)
   obtain ⟨t277, A70, H⟩ := zW_ H
   replace H : (if t277 = true then (if (l0.length : Int) > 0 then (if (l1.length : Int) > 0 then (if 0 < (l0.length : Int) then (if 0 < (l1.length : Int) then (impl_combine_impl_either.j0 k l0 l1 ((((rd_T42 l0 0).f0).length : Int) != (((rd_T42 l1 0).f0).length : Int))) else (none)) else (none)) else (impl_combine_impl_either.j0 k l0 l1 false)) else (impl_combine_impl_either.j0 k l0 l1 false)) else (impl_combine_impl_either.j0 k l0 l1 true)) = some (r1, r2) := H
   have A7 := yD A70
   clear A70
   by_cases c8 : t277 = true
   ·
    subst c8
    replace H : (if (l0.length : Int) > 0 then (if (l1.length : Int) > 0 then (if 0 < (l0.length : Int) then (if 0 < (l1.length : Int) then (impl_combine_impl_either.j0 k l0 l1 ((((rd_T42 l0 0).f0).length : Int) != (((rd_T42 l1 0).f0).length : Int))) else (none)) else (none)) else (impl_combine_impl_either.j0 k l0 l1 false)) else (impl_combine_impl_either.j0 k l0 l1 false)) = some (r1, r2) := (by rw [if_pos rfl] at H; exact H)
    by_cases c9 : (l0.length : Int) > 0
    ·
     rw [if_pos c9] at H
     have c9b0 : decide (0 < (l0.length : Int)) = true := zR c9
     have c9b1 : decide (0 < l0.length) = true := zR (by omega)
     clear c9
     (first | rw [c9b0] | (simp only [i64_w, i32_w]; rw [c9b0]) | (simp only [bne] at c9b0; rw [c9b0]) | skip)
     by_cases c10 : (l1.length : Int) > 0
     ·
      rw [if_pos c10] at H
      have c10b0 : decide (0 < (l1.length : Int)) = true := zR c10
      have c10b1 : decide (0 < l1.length) = true := zR (by omega)
      clear c10
      by_cases c11 : 0 < (l0.length : Int)
      ·
       rw [if_pos c11] at H
       have c11b0 : decide (0 < (l0.length : Int)) = true := zR c11
       have c11b1 : decide (0 < l0.length) = true := zR (by omega)
       clear c11
       by_cases c12 : 0 < (l1.length : Int)
       ·
        rw [if_pos c12] at H
        have c12b0 : decide (0 < (l1.length : Int)) = true := zR c12
        have c12b1 : decide (0 < l1.length) = true := zR (by omega)
        clear c12
        have H' := yD H
        clear H
        try go_wp2
        have n0_ := yD (yP HB.out)
        clear HB; have HB := n0_; clear n0_
        have p278 : 0 ≤ (0 : Int) := (by omega)
        have q278 : 0 < (l0.length : Int) := zP (by assumption)
        obtain ⟨ad278, A278_0, c278_0, A278_1, c278_1, e278, hx278_0, hx278_1, hl278_0, hi278_0, hl278_1, hi278_1⟩ := at_T42 HR0.out 0 p278 q278
        have hw278_1 := hx278_1
        (try rw [show ((0 : Int)).toNat = 0 from rfl] at hw278_1)
        (try rw [show 0 * 2 = 0 from rfl] at hw278_1)
        (try rw [Addr.add_zero'] at hw278_1)
        have hw278_0 := hx278_0
        (try rw [show ((0 : Int)).toNat = 0 from rfl] at hw278_0)
        (try rw [show 0 * 2 = 0 from rfl] at hw278_0)
        (try rw [Addr.add_zero'] at hw278_0)
        cases e278
        have qi278 : (0 < l0.length) = True := eq_true (by omega)
        (try rw [show ((0 : Int)).toNat = 0 from rfl] at hx278_0)
        (try rw [show 0 * 2 = 0 from rfl] at hx278_0)
        (try rw [Addr.add_zero'] at hx278_0)
        (try rw [show ((0 : Int)).toNat = 0 from rfl] at hx278_1)
        (try rw [show 0 * 2 = 0 from rfl] at hx278_1)
        (try rw [Addr.add_zero'] at hx278_1)
        replace hx278_0 := (HB.out.cell (zQ w _ hx278_0)).trans hx278_0
        replace hx278_1 := (HB.out.cell (zQ w _ hx278_1)).trans hx278_1
        have HR278_0 := yD hi278_0
        have HC278_0 := yD hl278_0
        clear hi278_0 hl278_0
        have HR278_1 := yD hi278_1
        have HC278_1 := yD hl278_1
        clear hi278_1 hl278_1; replace p278 := eq_true p278; replace q278 := eq_true q278
        have p279 : 0 ≤ (0 : Int) := (by omega)
        have q279 : 0 < (l1.length : Int) := zP (by assumption)
        obtain ⟨ad279, A279_0, c279_0, A279_1, c279_1, e279, hx279_0, hx279_1, hl279_0, hi279_0, hl279_1, hi279_1⟩ := at_T42 HR1.out 0 p279 q279
        have hw279_1 := hx279_1
        (try rw [show ((0 : Int)).toNat = 0 from rfl] at hw279_1)
        (try rw [show 0 * 2 = 0 from rfl] at hw279_1)
        (try rw [Addr.add_zero'] at hw279_1)
        have hw279_0 := hx279_0
        (try rw [show ((0 : Int)).toNat = 0 from rfl] at hw279_0)
        (try rw [show 0 * 2 = 0 from rfl] at hw279_0)
        (try rw [Addr.add_zero'] at hw279_0)
        cases e279
        have qi279 : (0 < l1.length) = True := eq_true (by omega)
        (try rw [show ((0 : Int)).toNat = 0 from rfl] at hx279_0)
        (try rw [show 0 * 2 = 0 from rfl] at hx279_0)
        (try rw [Addr.add_zero'] at hx279_0)
        (try rw [show ((0 : Int)).toNat = 0 from rfl] at hx279_1)
        (try rw [show 0 * 2 = 0 from rfl] at hx279_1)
        (try rw [Addr.add_zero'] at hx279_1)
        replace hx279_0 := (HB.out.cell (zQ w _ hx279_0)).trans hx279_0
        replace hx279_1 := (HB.out.cell (zQ w _ hx279_1)).trans hx279_1
        have HR279_0 := yD hi279_0
        have HC279_0 := yD hl279_0
        clear hi279_0 hl279_0
        have HR279_1 := yD hi279_1
        have HC279_1 := yD hl279_1
        clear hi279_1 hl279_1; replace p279 := eq_true p279; replace q279 := eq_true q279
        refine start_ (n := 31) (S := fun w' => w'.cell? ad278 = some (.slice A278_0 ((rd_T42 l0 0).f0).length c278_0) ∧ w'.cell? ⟨ad278.block, ad278.off + 1, none⟩ = some (.slice A278_1 ((rd_T42 l0 0).f1).length c278_1) ∧ w'.cell? ad279 = some (.slice A279_0 ((rd_T42 l1 0).f0).length c279_0) ∧ w'.cell? ⟨ad279.block, ad279.off + 1, none⟩ = some (.slice A279_1 ((rd_T42 l1 0).f1).length c279_1)) (ds := []) (bz 31 0) (by kernel_rfl) rfl rfl ⟨((HB.out.cell (zQ w _ hw278_0)).trans hw278_0), ((HB.out.cell (zQ w _ hw278_1)).trans hw278_1), ((HB.out.cell (zQ w _ hw279_0)).trans hw279_0), ((HB.out.cell (zQ w _ hw279_1)).trans hw279_1)⟩ (fun hHeld => ?_); refine with_tabW impl_combine_impl_either.tab1 impl_combine_impl_either.bits1 (fun HT_ HW_ => ?_)
        generalize w.drew = w13 at HB HR278_0 HR278_1 HR279_0 HR279_1 hx278_0 hx278_1 hx279_0 hx279_1 hHeld ⊢
        refine qA 0 8 (bz 31 1) HT_ ?_
        refine one_ (i := 1) (N := some 9) (bz 31 3) rfl rfl (one_of HT_.out (by kernel_rfl)) (by decide) (fun K hK => ?_)
        refine goes_ Try.func63 (by kernel_rfl) rfl #[.slice (some ad278) l0.length c0] (by rfl) rfl rfl (by (try simp only [zK, zL, zM]); first | done | rfl | (simp only [zN, zO]; rfl)) ?_
        with_reducible refine (impl_boxesOk.calls k _ _ l0 true _ ?side1 ?side2 A5.out).mono ?_
        (case side1 => exact kV (yY HR0.out HB.out))
        (case side2 => exact HC0.out)
        rintro e w14 ⟨rfl, hb⟩
        refine ⟨_, rfl, ?_⟩
        have n0_ := yD (zC (kB HB) hb)
        clear HB; have HB := n0_; clear n0_; (try clear hb); (try clear hb2); (try clear hk); (try clear hi)
        refine hK.out _ _ ⟨((HB.out.cell (zQ w _ hw278_0)).trans hw278_0), ((HB.out.cell (zQ w _ hw278_1)).trans hw278_1), ((HB.out.cell (zQ w _ hw279_0)).trans hw279_0), ((HB.out.cell (zQ w _ hw279_1)).trans hw279_1)⟩ (fun hHeld => ?_)
        clear hK K
        refine norm_ (a' := ?_) ?_ ?_
        rotate_left
        · show Act.put _ (some 9) _ = _
          simp only [Act.put, zH, zI, zJ, i64_w, i32_w]
          rfl
        refine qA 2 10 (bz 31 7) HT_ ?_
        refine qA 3 11 (bz 31 15) HT_ ?_
        refine qA 4 12 (bz 31 31) HT_ ?_
        refine one_ (i := 5) (N := some 13) (bz 31 63) rfl rfl (one_of HT_.out (by kernel_rfl)) (by decide) (fun K hK => ?_)
        refine goes_ Try.func63 (by kernel_rfl) rfl #[.slice (some ad279) l1.length c1] (by rfl) rfl rfl (by (try simp only [zK, zL, zM]); first | done | rfl | (simp only [zN, zO]; rfl)) ?_
        with_reducible refine (impl_boxesOk.calls k _ _ l1 true _ ?side1 ?side2 A7.out).mono ?_
        (case side1 => exact kV (yY HR1.out HB.out))
        (case side2 => exact HC1.out)
        rintro e w15 ⟨rfl, hb⟩
        refine ⟨_, rfl, ?_⟩
        have n0_ := yD (zC (kB HB) hb)
        clear HB; have HB := n0_; clear n0_; (try clear hb); (try clear hb2); (try clear hk); (try clear hi)
        refine hK.out _ _ ⟨((HB.out.cell (zQ w _ hw278_0)).trans hw278_0), ((HB.out.cell (zQ w _ hw278_1)).trans hw278_1), ((HB.out.cell (zQ w _ hw279_0)).trans hw279_0), ((HB.out.cell (zQ w _ hw279_1)).trans hw279_1)⟩ (fun hHeld => ?_)
        clear hK K
        refine norm_ (a' := ?_) ?_ ?_
        rotate_left
        · show Act.put _ (some 13) _ = _
          simp only [Act.put, zH, zI, zJ, i64_w, i32_w]
          rfl
        refine qA 6 14 (bz 31 127) HT_ ?_
        refine qA 7 15 (bz 31 255) HT_ ?_
        refine qA 8 16 (bz 31 511) HT_ ?_
        refine qA 9 17 (bz 31 1023) HT_ ?_
        refine qA 10 18 (bz 31 2047) HT_ ?_
        refine qA 11 19 (bz 31 4095) HT_ ?_
        refine qA 12 20 (bz 31 8191) HT_ ?_
        refine qA 13 21 (bz 31 16383) HT_ ?_
        refine qA 14 22 (bz 31 32767) HT_ ?_
        refine qA 15 23 (bz 31 65535) HT_ ?_
        refine qA 16 24 (bz 31 131071) HT_ ?_
        refine qA 17 25 (bz 31 262143) HT_ ?_
        refine qA 18 26 (bz 31 524287) HT_ ?_
        refine qA 19 27 (bz 31 1048575) HT_ ?_
        refine qA 20 28 (bz 31 2097151) HT_ ?_
        refine qA 23 31 (bz 31 10485759) HT_ ?_
        refine qA 24 32 (bz 31 27262975) HT_ ?_
        refine qA 25 33 (bz 31 60817407) HT_ ?_
        refine qC 21 29 (bz 31 62914559) HT_ HW_ hHeld ?_ (hy := by rintro w' ⟨s0, s1, s2, s3⟩; go_simp; with_reducible rfl)
        refine qA 22 30 (bz 31 67108863) HT_ ?_
        refine qC 26 34 (bz 31 134217727) HT_ HW_ hHeld ?_ (hy := by rintro w' ⟨s0, s1, s2, s3⟩; go_simp; with_reducible rfl)
        refine qA 27 35 (bz 31 268435455) HT_ ?_
        refine qA 28 36 (bz 31 536870911) HT_ ?_
        refine qA 29 37 (bz 31 1073741823) HT_ ?_
        refine qA 30 38 (bz 31 2147483647) HT_ ?_
        refine done_ (done_of HT_.out (by kernel_rfl)) ?_
        try go_wp2
        go_meet
        case rel => exact ⟨_, (((((rd_T42 l0 0).f0).length : Int) != (((rd_T42 l1 0).f0).length : Int))), (by first | rfl | (simp; done) | (simp [*]; done)), H', ⟨by first | omega | exact Nat.le_refl _⟩, ⟨kR0 HB⟩⟩
       · rw [if_neg c12] at H
         exact absurd H (by simp)
      · rw [if_neg c11] at H
        exact absurd H (by simp)
     ·
      rw [if_neg c10] at H
      have c10b0 : decide (0 < (l1.length : Int)) = false := zS c10
      have c10b1 : decide (0 < l1.length) = false := zS (by omega)
      clear c10
      have H' := yD H
      clear H
      try go_wp2
      have n0_ := yD (yP HB.out)
      clear HB; have HB := n0_; clear n0_
      refine start_ (n := 31) (S := fun w' => True) (ds := []) (bz 31 0) (by kernel_rfl) rfl rfl trivial (fun hHeld => ?_); refine with_tabW impl_combine_impl_either.tab1 impl_combine_impl_either.bits1 (fun HT_ HW_ => ?_)
      generalize w.drew = w16 at HB hHeld ⊢
      refine qA 0 8 (bz 31 1) HT_ ?_
      refine one_ (i := 1) (N := some 9) (bz 31 3) rfl rfl (one_of HT_.out (by kernel_rfl)) (by decide) (fun K hK => ?_)
      refine goes_ Try.func63 (by kernel_rfl) rfl #[.slice A0 l0.length c0] (by rfl) rfl rfl (by (try simp only [zK, zL, zM]); first | done | rfl | (simp only [zN, zO]; rfl)) ?_
      with_reducible refine (impl_boxesOk.calls k _ _ l0 true _ ?side1 ?side2 A5.out).mono ?_
      (case side1 => exact kV (yY HR0.out HB.out))
      (case side2 => exact HC0.out)
      rintro e w17 ⟨rfl, hb⟩
      refine ⟨_, rfl, ?_⟩
      have n0_ := yD (zC (kB HB) hb)
      clear HB; have HB := n0_; clear n0_; (try clear hb); (try clear hb2); (try clear hk); (try clear hi)
      refine hK.out _ _ trivial (fun hHeld => ?_)
      clear hK K
      refine norm_ (a' := ?_) ?_ ?_
      rotate_left
      · show Act.put _ (some 9) _ = _
        simp only [Act.put, zH, zI, zJ, i64_w, i32_w]
        rfl
      refine qA 2 10 (bz 31 7) HT_ ?_
      refine qA 3 11 (bz 31 15) HT_ ?_
      refine qA 4 12 (bz 31 31) HT_ ?_
      refine one_ (i := 5) (N := some 13) (bz 31 63) rfl rfl (one_of HT_.out (by kernel_rfl)) (by decide) (fun K hK => ?_)
      refine goes_ Try.func63 (by kernel_rfl) rfl #[.slice A1 l1.length c1] (by rfl) rfl rfl (by (try simp only [zK, zL, zM]); first | done | rfl | (simp only [zN, zO]; rfl)) ?_
      with_reducible refine (impl_boxesOk.calls k _ _ l1 true _ ?side1 ?side2 A7.out).mono ?_
      (case side1 => exact kV (yY HR1.out HB.out))
      (case side2 => exact HC1.out)
      rintro e w18 ⟨rfl, hb⟩
      refine ⟨_, rfl, ?_⟩
      have n0_ := yD (zC (kB HB) hb)
      clear HB; have HB := n0_; clear n0_; (try clear hb); (try clear hb2); (try clear hk); (try clear hi)
      refine hK.out _ _ trivial (fun hHeld => ?_)
      clear hK K
      refine norm_ (a' := ?_) ?_ ?_
      rotate_left
      · show Act.put _ (some 13) _ = _
        simp only [Act.put, zH, zI, zJ, i64_w, i32_w]
        rfl
      refine qA 6 14 (bz 31 127) HT_ ?_
      refine qA 7 15 (bz 31 255) HT_ ?_
      refine qA 8 16 (bz 31 511) HT_ ?_
      refine qA 9 17 (bz 31 1023) HT_ ?_
      refine qA 10 18 (bz 31 2047) HT_ ?_
      refine qA 11 19 (bz 31 4095) HT_ ?_
      refine qA 12 20 (bz 31 8191) HT_ ?_
      refine qA 13 21 (bz 31 16383) HT_ ?_
      refine qA 14 22 (bz 31 32767) HT_ ?_
      refine qA 15 23 (bz 31 65535) HT_ ?_
      refine qA 16 24 (bz 31 131071) HT_ ?_
      refine qA 17 25 (bz 31 262143) HT_ ?_
      refine qB 18 26 (bz 31 524287) HT_ ?_
      refine qB 19 27 (bz 31 1048575) HT_ ?_
      refine qB 20 28 (bz 31 2097151) HT_ ?_
      refine qB 21 29 (bz 31 4194303) HT_ ?_
      refine qB 22 30 (bz 31 8388607) HT_ ?_
      refine qB 23 31 (bz 31 16777215) HT_ ?_
      refine qB 24 32 (bz 31 33554431) HT_ ?_
      refine qB 25 33 (bz 31 67108863) HT_ ?_
      refine qB 26 34 (bz 31 134217727) HT_ ?_
      refine qB 27 35 (bz 31 268435455) HT_ ?_
      refine qB 28 36 (bz 31 536870911) HT_ ?_
      refine qA 29 37 (bz 31 1073741823) HT_ ?_
      refine qA 30 38 (bz 31 2147483647) HT_ ?_
      refine done_ (done_of HT_.out (by kernel_rfl)) ?_
      try go_wp2
      go_meet
      case rel => exact ⟨_, (false), (by first | rfl | (simp; done) | (simp [*]; done)), H', ⟨by first | omega | exact Nat.le_refl _⟩, ⟨kR0 HB⟩⟩
    ·
     rw [if_neg c9] at H
     have c9b0 : decide (0 < (l0.length : Int)) = false := zS c9
     have c9b1 : decide (0 < l0.length) = false := zS (by omega)
     clear c9
     (first | rw [c9b0] | (simp only [i64_w, i32_w]; rw [c9b0]) | (simp only [bne] at c9b0; rw [c9b0]) | skip)
     have H' := yD H
     clear H
     try go_wp2
     have n0_ := yD (yP HB.out)
     clear HB; have HB := n0_; clear n0_
     refine start_ (n := 31) (S := fun w' => True) (ds := []) (bz 31 0) (by kernel_rfl) rfl rfl trivial (fun hHeld => ?_); refine with_tabW impl_combine_impl_either.tab1 impl_combine_impl_either.bits1 (fun HT_ HW_ => ?_)
     generalize w.drew = w19 at HB hHeld ⊢
     refine qA 0 8 (bz 31 1) HT_ ?_
     refine one_ (i := 1) (N := some 9) (bz 31 3) rfl rfl (one_of HT_.out (by kernel_rfl)) (by decide) (fun K hK => ?_)
     refine goes_ Try.func63 (by kernel_rfl) rfl #[.slice A0 l0.length c0] (by rfl) rfl rfl (by (try simp only [zK, zL, zM]); first | done | rfl | (simp only [zN, zO]; rfl)) ?_
     with_reducible refine (impl_boxesOk.calls k _ _ l0 true _ ?side1 ?side2 A5.out).mono ?_
     (case side1 => exact kV (yY HR0.out HB.out))
     (case side2 => exact HC0.out)
     rintro e w20 ⟨rfl, hb⟩
     refine ⟨_, rfl, ?_⟩
     have n0_ := yD (zC (kB HB) hb)
     clear HB; have HB := n0_; clear n0_; (try clear hb); (try clear hb2); (try clear hk); (try clear hi)
     refine hK.out _ _ trivial (fun hHeld => ?_)
     clear hK K
     refine norm_ (a' := ?_) ?_ ?_
     rotate_left
     · show Act.put _ (some 9) _ = _
       simp only [Act.put, zH, zI, zJ, i64_w, i32_w]
       rfl
     refine qA 2 10 (bz 31 7) HT_ ?_
     refine qA 3 11 (bz 31 15) HT_ ?_
     refine qA 4 12 (bz 31 31) HT_ ?_
     refine one_ (i := 5) (N := some 13) (bz 31 63) rfl rfl (one_of HT_.out (by kernel_rfl)) (by decide) (fun K hK => ?_)
     refine goes_ Try.func63 (by kernel_rfl) rfl #[.slice A1 l1.length c1] (by rfl) rfl rfl (by (try simp only [zK, zL, zM]); first | done | rfl | (simp only [zN, zO]; rfl)) ?_
     with_reducible refine (impl_boxesOk.calls k _ _ l1 true _ ?side1 ?side2 A7.out).mono ?_
     (case side1 => exact kV (yY HR1.out HB.out))
     (case side2 => exact HC1.out)
     rintro e w21 ⟨rfl, hb⟩
     refine ⟨_, rfl, ?_⟩
     have n0_ := yD (zC (kB HB) hb)
     clear HB; have HB := n0_; clear n0_; (try clear hb); (try clear hb2); (try clear hk); (try clear hi)
     refine hK.out _ _ trivial (fun hHeld => ?_)
     clear hK K
     refine norm_ (a' := ?_) ?_ ?_
     rotate_left
     · show Act.put _ (some 13) _ = _
       simp only [Act.put, zH, zI, zJ, i64_w, i32_w]
       rfl
     refine qA 6 14 (bz 31 127) HT_ ?_
     refine qA 7 15 (bz 31 255) HT_ ?_
     refine qA 8 16 (bz 31 511) HT_ ?_
     refine qA 9 17 (bz 31 1023) HT_ ?_
     refine qA 10 18 (bz 31 2047) HT_ ?_
     refine qA 11 19 (bz 31 4095) HT_ ?_
     refine qA 12 20 (bz 31 8191) HT_ ?_
     refine qB 13 21 (bz 31 16383) HT_ ?_
     refine qB 14 22 (bz 31 32767) HT_ ?_
     refine qB 15 23 (bz 31 65535) HT_ ?_
     refine qA 16 24 (bz 31 131071) HT_ ?_
     refine qA 17 25 (bz 31 262143) HT_ ?_
     refine qB 18 26 (bz 31 524287) HT_ ?_
     refine qB 19 27 (bz 31 1048575) HT_ ?_
     refine qB 20 28 (bz 31 2097151) HT_ ?_
     refine qB 21 29 (bz 31 4194303) HT_ ?_
     refine qB 22 30 (bz 31 8388607) HT_ ?_
     refine qB 23 31 (bz 31 16777215) HT_ ?_
     refine qB 24 32 (bz 31 33554431) HT_ ?_
     refine qB 25 33 (bz 31 67108863) HT_ ?_
     refine qB 26 34 (bz 31 134217727) HT_ ?_
     refine qB 27 35 (bz 31 268435455) HT_ ?_
     refine qB 28 36 (bz 31 536870911) HT_ ?_
     refine qA 29 37 (bz 31 1073741823) HT_ ?_
     refine qA 30 38 (bz 31 2147483647) HT_ ?_
     refine done_ (done_of HT_.out (by kernel_rfl)) ?_
     try go_wp2
     go_meet
     case rel => exact ⟨_, (false), (by first | rfl | (simp; done) | (simp [*]; done)), H', ⟨by first | omega | exact Nat.le_refl _⟩, ⟨kR0 HB⟩⟩
   ·
    replace c8 := Bool.eq_false_iff.mpr c8
    subst c8
    replace H : (impl_combine_impl_either.j0 k l0 l1 true) = some (r1, r2) := (by rw [if_neg (show ¬ (false = true) by decide)] at H; exact H)
    have H' := yD H
    clear H
    try go_wp2
    have n0_ := yD (yP HB.out)
    clear HB; have HB := n0_; clear n0_
    refine start_ (n := 31) (S := fun w' => True) (ds := []) (bz 31 0) (by kernel_rfl) rfl rfl trivial (fun hHeld => ?_); refine with_tabW impl_combine_impl_either.tab1 impl_combine_impl_either.bits1 (fun HT_ HW_ => ?_)
    generalize w.drew = w22 at HB hHeld ⊢
    refine qA 0 8 (bz 31 1) HT_ ?_
    refine one_ (i := 1) (N := some 9) (bz 31 3) rfl rfl (one_of HT_.out (by kernel_rfl)) (by decide) (fun K hK => ?_)
    refine goes_ Try.func63 (by kernel_rfl) rfl #[.slice A0 l0.length c0] (by rfl) rfl rfl (by (try simp only [zK, zL, zM]); first | done | rfl | (simp only [zN, zO]; rfl)) ?_
    with_reducible refine (impl_boxesOk.calls k _ _ l0 true _ ?side1 ?side2 A5.out).mono ?_
    (case side1 => exact kV (yY HR0.out HB.out))
    (case side2 => exact HC0.out)
    rintro e w23 ⟨rfl, hb⟩
    refine ⟨_, rfl, ?_⟩
    have n0_ := yD (zC (kB HB) hb)
    clear HB; have HB := n0_; clear n0_; (try clear hb); (try clear hb2); (try clear hk); (try clear hi)
    refine hK.out _ _ trivial (fun hHeld => ?_)
    clear hK K
    refine norm_ (a' := ?_) ?_ ?_
    rotate_left
    · show Act.put _ (some 9) _ = _
      simp only [Act.put, zH, zI, zJ, i64_w, i32_w]
      rfl
    refine qA 2 10 (bz 31 7) HT_ ?_
    refine qA 3 11 (bz 31 15) HT_ ?_
    refine qA 4 12 (bz 31 31) HT_ ?_
    refine one_ (i := 5) (N := some 13) (bz 31 63) rfl rfl (one_of HT_.out (by kernel_rfl)) (by decide) (fun K hK => ?_)
    refine goes_ Try.func63 (by kernel_rfl) rfl #[.slice A1 l1.length c1] (by rfl) rfl rfl (by (try simp only [zK, zL, zM]); first | done | rfl | (simp only [zN, zO]; rfl)) ?_
    with_reducible refine (impl_boxesOk.calls k _ _ l1 false _ ?side1 ?side2 A7.out).mono ?_
    (case side1 => exact kV (yY HR1.out HB.out))
    (case side2 => exact HC1.out)
    rintro e w24 ⟨rfl, hb⟩
    refine ⟨_, rfl, ?_⟩
    have n0_ := yD (zC (kB HB) hb)
    clear HB; have HB := n0_; clear n0_; (try clear hb); (try clear hb2); (try clear hk); (try clear hi)
    refine hK.out _ _ trivial (fun hHeld => ?_)
    clear hK K
    refine norm_ (a' := ?_) ?_ ?_
    rotate_left
    · show Act.put _ (some 13) _ = _
      simp only [Act.put, zH, zI, zJ, i64_w, i32_w]
      rfl
    refine qA 6 14 (bz 31 127) HT_ ?_
    refine qA 7 15 (bz 31 255) HT_ ?_
    refine qA 8 16 (bz 31 511) HT_ ?_
    refine qB 9 17 (bz 31 1023) HT_ ?_
    refine qB 10 18 (bz 31 2047) HT_ ?_
    refine qB 11 19 (bz 31 4095) HT_ ?_
    refine qB 12 20 (bz 31 8191) HT_ ?_
    refine qB 13 21 (bz 31 16383) HT_ ?_
    refine qB 14 22 (bz 31 32767) HT_ ?_
    refine qB 15 23 (bz 31 65535) HT_ ?_
    refine qB 16 24 (bz 31 131071) HT_ ?_
    refine qB 17 25 (bz 31 262143) HT_ ?_
    refine qB 18 26 (bz 31 524287) HT_ ?_
    refine qB 19 27 (bz 31 1048575) HT_ ?_
    refine qB 20 28 (bz 31 2097151) HT_ ?_
    refine qB 21 29 (bz 31 4194303) HT_ ?_
    refine qB 22 30 (bz 31 8388607) HT_ ?_
    refine qB 23 31 (bz 31 16777215) HT_ ?_
    refine qB 24 32 (bz 31 33554431) HT_ ?_
    refine qB 25 33 (bz 31 67108863) HT_ ?_
    refine qB 26 34 (bz 31 134217727) HT_ ?_
    refine qB 27 35 (bz 31 268435455) HT_ ?_
    refine qB 28 36 (bz 31 536870911) HT_ ?_
    refine qB 29 37 (bz 31 1073741823) HT_ ?_
    refine qA 30 38 (bz 31 2147483647) HT_ ?_
    refine done_ (done_of HT_.out (by kernel_rfl)) ?_
    try go_wp2
    go_meet
    case rel => exact ⟨_, (true), (by first | rfl | (simp; done) | (simp [*]; done)), H', ⟨by first | omega | exact Nat.le_refl _⟩, ⟨kR0 HB⟩⟩
  ·
   replace c6 := Bool.eq_false_iff.mpr c6
   subst c6
   replace H : (impl_combine_impl_either.j0 k l0 l1 true) = some (r1, r2) := (by rw [if_neg (show ¬ (false = true) by decide)] at H; exact H)
   have H' := yD H
   clear H
   try go_wp2
   have n0_ := yD (yP HB.out)
   clear HB; have HB := n0_; clear n0_
   refine start_ (n := 31) (S := fun w' => True) (ds := []) (bz 31 0) (by kernel_rfl) rfl rfl trivial (fun hHeld => ?_); refine with_tabW impl_combine_impl_either.tab1 impl_combine_impl_either.bits1 (fun HT_ HW_ => ?_)
   generalize w.drew = w25 at HB hHeld ⊢
   refine qA 0 8 (bz 31 1) HT_ ?_
   refine one_ (i := 1) (N := some 9) (bz 31 3) rfl rfl (one_of HT_.out (by kernel_rfl)) (by decide) (fun K hK => ?_)
   refine goes_ Try.func63 (by kernel_rfl) rfl #[.slice A0 l0.length c0] (by rfl) rfl rfl (by (try simp only [zK, zL, zM]); first | done | rfl | (simp only [zN, zO]; rfl)) ?_
   with_reducible refine (impl_boxesOk.calls k _ _ l0 false _ ?side1 ?side2 A5.out).mono ?_
   (case side1 => exact kV (yY HR0.out HB.out))
   (case side2 => exact HC0.out)
   rintro e w26 ⟨rfl, hb⟩
   refine ⟨_, rfl, ?_⟩
   have n0_ := yD (zC (kB HB) hb)
   clear HB; have HB := n0_; clear n0_; (try clear hb); (try clear hb2); (try clear hk); (try clear hi)
   refine hK.out _ _ trivial (fun hHeld => ?_)
   clear hK K
   refine norm_ (a' := ?_) ?_ ?_
   rotate_left
   · show Act.put _ (some 9) _ = _
     simp only [Act.put, zH, zI, zJ, i64_w, i32_w]
     rfl
   refine qA 2 10 (bz 31 7) HT_ ?_
   refine qA 3 11 (bz 31 15) HT_ ?_
   refine qB 4 12 (bz 31 31) HT_ ?_
   refine qB 5 13 (bz 31 63) HT_ ?_
   refine qB 6 14 (bz 31 127) HT_ ?_
   refine qA 7 15 (bz 31 255) HT_ ?_
   refine qA 8 16 (bz 31 511) HT_ ?_
   refine qB 9 17 (bz 31 1023) HT_ ?_
   refine qB 10 18 (bz 31 2047) HT_ ?_
   refine qB 11 19 (bz 31 4095) HT_ ?_
   refine qB 12 20 (bz 31 8191) HT_ ?_
   refine qB 13 21 (bz 31 16383) HT_ ?_
   refine qB 14 22 (bz 31 32767) HT_ ?_
   refine qB 15 23 (bz 31 65535) HT_ ?_
   refine qB 16 24 (bz 31 131071) HT_ ?_
   refine qB 17 25 (bz 31 262143) HT_ ?_
   refine qB 18 26 (bz 31 524287) HT_ ?_
   refine qB 19 27 (bz 31 1048575) HT_ ?_
   refine qB 20 28 (bz 31 2097151) HT_ ?_
   refine qB 21 29 (bz 31 4194303) HT_ ?_
   refine qB 22 30 (bz 31 8388607) HT_ ?_
   refine qB 23 31 (bz 31 16777215) HT_ ?_
   refine qB 24 32 (bz 31 33554431) HT_ ?_
   refine qB 25 33 (bz 31 67108863) HT_ ?_
   refine qB 26 34 (bz 31 134217727) HT_ ?_
   refine qB 27 35 (bz 31 268435455) HT_ ?_
   refine qB 28 36 (bz 31 536870911) HT_ ?_
   refine qB 29 37 (bz 31 1073741823) HT_ ?_
   refine qA 30 38 (bz 31 2147483647) HT_ ?_
   refine done_ (done_of HT_.out (by kernel_rfl)) ?_
   try go_wp2
   go_meet
   case rel => exact ⟨_, (true), (by first | rfl | (simp; done) | (simp [*]; done)), H', ⟨by first | omega | exact Nat.le_refl _⟩, ⟨kR0 HB⟩⟩
 case rest =>
  clear HC4; try clear c1; try clear c6; try clear c8
  obtain ⟨kq, x38_3, rfl, HA, HJ3, HB⟩ := hcut
  cases kq with
  | zero => exact absurd HA.out (by simp [impl_combine_impl_either.j0])
  | succ kj3 =>
   have H := HA.out; clear HA
   simp only [impl_combine_impl_either.j0] at H
   by_cases c27 : x38_3 = true
   · subst c27
     replace H : (some (([] : List (S42)), 1)) = some (r1, r2) := (by rw [if_pos rfl] at H; exact H)
     simp only [Option.some.injEq, Prod.mk.injEq] at H
     obtain ⟨rfl, rfl⟩ := H
     go_wp2
     go_ret2
     exact ⟨_, by first | rfl | (simp <;> rfl) | (simp [*] <;> rfl), by first | exact Kd.S_nil _ _ _ _ _ | exact Kd.N_nil _ _ _ _ _ | exact Kd.V_nil _ _ _ _ _ | exact Kd.Q_nil _ _ _ _ _ | exact Kd.R_nil _ _ _ _ _, kR0 HB⟩
   ·
    replace c27 := Bool.eq_false_iff.mpr c27
    subst c27
    replace H : ((impl_rankOf.f kj3 l0 l1).bind fun t280 => ((impl_combined_impl_either.f kj3 t280 l0 l1).bind fun t281 => ((impl_normalFull.f t281).bind fun bt284 => (some (bt284.1, bt284.2))))) = some (r1, r2) := (by rw [if_neg (show ¬ (false = true) by decide)] at H; exact H)
    obtain ⟨t280, A280, H⟩ := zW_ H
    replace H : ((impl_combined_impl_either.f kj3 t280 l0 l1).bind fun t281 => ((impl_normalFull.f t281).bind fun bt284 => (some (bt284.1, bt284.2)))) = some (r1, r2) := H
    have A28 := yD A280
    clear A280
    obtain ⟨t281, A290, H⟩ := zW_ H
    replace H : ((impl_normalFull.f t281).bind fun bt284 => (some (bt284.1, bt284.2))) = some (r1, r2) := H
    have A29 := yD A290
    clear A290
    obtain ⟨⟨t284, t287⟩, A300, H⟩ := zW_ H
    replace H : (some (t284, t287)) = some (r1, r2) := H
    have A30 := yD A300
    clear A300
    simp only [Option.some.injEq, Prod.mk.injEq] at H
    obtain ⟨rfl, rfl⟩ := H
    go_wp2_with (first | ((with_reducible refine gate_callee (f := 99) rfl ?_); refine gL 41 Try.func99 #[.slice A0 l0.length c0, .slice A1 l1.length c1] ?_; (with_reducible refine (impl_rankOf.calls kj3 (fun k_ => k_ < w.heap.size) _ _ l0 (fun k_ => k_ < w.heap.size) _ _ l1 t280 _ ?side1 ?side2 A28.out).mono ?_); (case side1 => exact Kd.V_mk HC0.out (Kd.F_below (Kd.C_F k42_heap HR0.out) (kB HB))); (case side2 => exact Kd.V_mk HC1.out (Kd.F_below (Kd.C_F k42_heap HR1.out) (kB HB))); rintro e w31 ⟨rfl, hb⟩; refine ⟨_, rfl, ?_⟩; replace HB := yD (zC (kB HB) hb); clear hb) | ((with_reducible refine gate_callee (f := 87) rfl ?_); refine gL 45 Try.func87 #[.int .i64 t280, .slice A0 l0.length c0, .slice A1 l1.length c1, .func (.func 57) #[] #[]] ?_; (with_reducible refine (impl_combined_impl_either.calls kj3 t280 _ _ l0 _ _ l1  t281 _ ?side1 ?side2 ?side3 ?side4 A29.out).mono ?_); (case side1 => exact kV (yY HR0.out HB.out)); (case side2 => exact HC0.out); (case side3 => exact kV (yY HR1.out HB.out)); (case side4 => exact HC1.out); rintro e w32 ⟨v282, rfl, ho0, hb⟩; refine ⟨_, rfl, ?_⟩; have HO283 := yD (zG ho0 (below_size (kB HB))); replace HB := yD (zC (kB HB) hb); clear hb ho0; obtain ⟨Ao33, co33, eo33⟩ := Kd.S_slice HO283.out; subst eo33) | ((with_reducible refine gate_callee (f := 86) rfl ?_); refine gL 46 Try.func86 #[.slice Ao33 t281.length co33] ?_; (with_reducible refine (impl_normalFull.calls ?P5_1 (.slice Ao33 t281.length co33) t281 t284 t287 w _ ?side1 ?side2 A30.out).mono ?_); (case side1 => exact kR0 HB); (case side2 => exact HO283.out); rintro e w34 ⟨v285, rfl, ho0, hb, hkp⟩; refine ⟨_, rfl, ?_⟩; have HO286 := yD (Kd.S_mono (ok' := fun k_ => True) ho0 (fun k_ hk_ => trivial)); replace HB := yD (hb); clear HO283; clear hb hkp ho0))
    go_ret2
    exact ⟨_, by first | rfl | (simp <;> rfl) | (simp [*] <;> rfl), kS HO286, kR0 HB⟩
/-! ### impl_UnionBoxes: function 21 -/
def impl_UnionBoxes.f (k : Nat) (l0 : List (S42)) (l1 : List (S42)) : Option ((List (S42)) × Int) := (impl_combine_impl_either.f k l0 l1).bind fun bt288 => (some (bt288.1, bt288.2))
theorem impl_UnionBoxes.mono : ∀ a0 a1 k, LeO (impl_UnionBoxes.f k a0 a1) (impl_UnionBoxes.f (k + 1) a0 a1) := by
 intro a0 a1 k
 unfold impl_UnionBoxes.f
 repeat' (with_reducible first | exact impl_combine_impl_either.mono _ _ _ | exact LeO.refl _ | exact LeO.none _ | refine LeO.ite ?_ ?_ | refine LeO.bind ?_ (fun _ => ?_))
set_option maxHeartbeats 8000000 in
set_option maxRecDepth 100000 in
theorem impl_UnionBoxes.calls (k : Nat) (A0 : Option Addr) (c0 : Nat) (l0 : List (S42)) (A1 : Option Addr) (c1 : Nat) (l1 : List (S42)) (r1 : List (S42)) (r2 : Int) (w : World) (hr0 : Kd.C k42 w A0 l0.length l0) (hc0 : l0.length ≤ c0) (hr1 : Kd.C k42 w A1 l1.length l1) (hc1 : l1.length ≤ c1) (h : impl_UnionBoxes.f k l0 l1 = some (r1, r2)) :
 Calls Try.prog 21 #[.slice A0 l0.length c0, .slice A1 l1.length c1] w fun e w' => ∃ v0_ : Value, e = .returned (.tuple #[v0_, .int .i64 r2]) ∧ Kd.S k42 42 w' w.heap.size (fun _ => True) v0_ r1 ∧ Below w.heap.size w w' := by
 have HR0 := yD hr0
 have HC0 := yD hc0
 clear hr0 hc0
 have HR1 := yD hr1
 have HC1 := yD hc1
 clear hr1 hc1
 have HB := yD (Below.refl w.heap.size w)
 have H : ((impl_combine_impl_either.f k l0 l1).bind fun bt288 => (some (bt288.1, bt288.2))) = some (r1, r2) := h
 clear h
 obtain ⟨⟨t288, t291⟩, A30, H⟩ := zW_ H
 replace H : (some (t288, t291)) = some (r1, r2) := H
 have A3 := yD A30
 clear A30
 simp only [Option.some.injEq, Prod.mk.injEq] at H
 obtain ⟨rfl, rfl⟩ := H
 go_enter Try.func21, Try.ntmps21
 go_wp2_with (first | ((with_reducible refine gate_callee (f := 56) rfl ?_); refine gL 8 Try.func56 #[.slice A0 l0.length c0, .slice A1 l1.length c1, .func (.func 57) #[] #[]] ?_; (with_reducible refine (impl_combine_impl_either.calls k _ _ l0 _ _ l1  t288 t291 _ ?side1 ?side2 ?side3 ?side4 A3.out).mono ?_); (case side1 => repeat (first | exact HR0.out | (with_reducible first | refine yV ?_ _ | refine yW ?_ _ | refine yX ?_))); (case side2 => exact HC0.out); (case side3 => repeat (first | exact HR1.out | (with_reducible first | refine yV ?_ _ | refine yW ?_ _ | refine yX ?_))); (case side4 => exact HC1.out); rintro e w4 ⟨v289, rfl, ho0, hb⟩; refine ⟨_, rfl, ?_⟩; have HO290 := yD (zG ho0 (below_size (kB HB))); replace HB := yD (zC (kB HB) hb); clear hb ho0))
 go_ret2
 exact ⟨_, by first | rfl | (simp <;> rfl) | (simp [*] <;> rfl), kS HO290, kR0 HB⟩

/-! ### impl_and: function 58 -/
def impl_and.f (a0 : Bool) (a1 : Bool) : Option (Bool) := if a0 = true then (some a1) else (some false)
set_option maxHeartbeats 8000000 in
set_option maxRecDepth 100000 in
theorem impl_and.calls (a0 : Bool) (a1 : Bool) (r : Bool) (w : World) (h : impl_and.f a0 a1 = some r) :
 Calls Try.prog 58 #[.bool a0, .bool a1] w fun e w' => e = .returned (.bool r) ∧ Drawn0 w w' := by
 have H : (if a0 = true then (some a1) else (some false)) = some r := h
 clear h
 by_cases c3 : a0 = true
 · subst c3
   replace H : (some a1) = some r := (by rw [if_pos rfl] at H; exact H); obtain rfl := Option.some.inj H; go_enter Try.func58, Try.ntmps58
   go_wp2
   go_ret
   exact ⟨by first | rfl | (simp; done) | (simp [*]; done), by repeat (first | exact Drawn0.refl _ | apply Drawn0.step)⟩
 ·
  replace c3 := Bool.eq_false_iff.mpr c3
  subst c3
  replace H : (some false) = some r := (by rw [if_neg (show ¬ (false = true) by decide)] at H; exact H); obtain rfl := Option.some.inj H; go_enter Try.func58, Try.ntmps58
  go_wp2
  go_ret
  exact ⟨by first | rfl | (simp; done) | (simp [*]; done), by repeat (first | exact Drawn0.refl _ | apply Drawn0.step)⟩

/-! ### impl_combined_impl_and: function 87 -/
mutual
def impl_combined_impl_and.j0 : Nat → Int → List (S42) → List (S42) → Bool → Option ((List (S42)))
 | 0, _, _, _, _ => none
 | k + 1, x0, x1, x2, x33 => if x33 = true then (some ([] : List (S42))) else (impl_combined_impl_and.l0 k x0 x1 x2 ([] : List (S42)) ([] : List (S42)) 0 0)
def impl_combined_impl_and.l0 : Nat → Int → List (S42) → List (S42) → List (S42) → List (S42) → Int → Int → Option ((List (S42)))
 | 0, _, _, _, _, _, _, _ => none
 | k + 1, x0, x1, x2, x9, x10, x11, x34 => if x34 < 41 then (if x34 < 40 then ((impl_section.f k x1 x34).bind fun t296 => ((impl_section.f k x2 x34).bind fun t299 => ((impl_combined_impl_and.f k (wrap64 (x0 - 1)) t296 t299).bind fun t302 => (impl_combined_impl_and.j2 k x0 x1 x2 x9 x10 x11 x34 t302 x34)))) else (impl_combined_impl_and.j2 k x0 x1 x2 x9 x10 x11 x34 ([] : List (S42)) x34)) else (some x9)
def impl_combined_impl_and.j2 : Nat → Int → List (S42) → List (S42) → List (S42) → List (S42) → Int → Int → List (S42) → Int → Option ((List (S42)))
 | 0, _, _, _, _, _, _, _, _, _ => none
 | k + 1, x0, x1, x2, x9, x10, x11, x12, x13, x34 => (impl_SameBoxes.f k x13 x10).bind fun t305 => (if t305 = true then (impl_combined_impl_and.l0 k x0 x1 x2 x9 x10 x11 (wrap64 (x34 + 1))) else ((impl_prefixed.f k x10 x11 x12).bind fun t306 => (if x9.length + t306.length < 2932031007402 then (impl_combined_impl_and.l0 k x0 x1 x2 (x9 ++ t306) x13 x12 (wrap64 (x34 + 1))) else (none))))
def impl_combined_impl_and.f : Nat → Int → List (S42) → List (S42) → Option ((List (S42)))
 | 0, _, _, _ => none
 | k + 1, a0, l1, l2 => if a0 = 0 then ((impl_and.f (decide ((l1.length : Int) > 0)) (decide ((l2.length : Int) > 0))).bind fun t292 => (if t292 = true then (some (([(⟨([] : List Int), ([] : List Int)⟩ : S42)] : List (S42)))) else (some ([] : List (S42))))) else (if (l1.length : Int) = 0 then (impl_combined_impl_and.j0 k a0 l1 l2 ((l2.length : Int) == 0)) else (impl_combined_impl_and.j0 k a0 l1 l2 false))
end
theorem impl_combined_impl_and.mono_l : ∀ k, (∀ y0 y1 y2, LeO (impl_combined_impl_and.f k y0 y1 y2) (impl_combined_impl_and.f (k + 1) y0 y1 y2)) ∧ (∀ y0 y1 y2 y3, LeO (impl_combined_impl_and.j0 k y0 y1 y2 y3) (impl_combined_impl_and.j0 (k + 1) y0 y1 y2 y3)) ∧ (∀ y0 y1 y2 y3 y4 y5 y6, LeO (impl_combined_impl_and.l0 k y0 y1 y2 y3 y4 y5 y6) (impl_combined_impl_and.l0 (k + 1) y0 y1 y2 y3 y4 y5 y6)) ∧ (∀ y0 y1 y2 y3 y4 y5 y6 y7 y8, LeO (impl_combined_impl_and.j2 k y0 y1 y2 y3 y4 y5 y6 y7 y8) (impl_combined_impl_and.j2 (k + 1) y0 y1 y2 y3 y4 y5 y6 y7 y8))
 | 0 => ⟨fun _ _ _ r h => by simp [impl_combined_impl_and.f] at h, fun _ _ _ _ r h => by simp [impl_combined_impl_and.j0] at h, fun _ _ _ _ _ _ _ r h => by simp [impl_combined_impl_and.l0] at h, fun _ _ _ _ _ _ _ _ _ r h => by simp [impl_combined_impl_and.j2] at h⟩
 | k + 1 => by
  obtain ⟨ih0, ih1, ih2, ih3⟩ := impl_combined_impl_and.mono_l k
  refine ⟨?_, ?_, ?_, ?_⟩
  · intro y0 y1 y2
    unfold impl_combined_impl_and.f
    repeat' (with_reducible first | exact ih0 _ _ _ | exact ih1 _ _ _ _ | exact ih2 _ _ _ _ _ _ _ | exact ih3 _ _ _ _ _ _ _ _ _ | exact impl_SameBoxes.mono _ _ _ | exact impl_prefixed.mono _ _ _ _ | exact impl_section.mono _ _ _ | exact LeO.refl _ | exact LeO.none _ | refine LeO.ite ?_ ?_ | refine LeO.bind ?_ (fun _ => ?_))
  · intro y0 y1 y2 y3
    unfold impl_combined_impl_and.j0
    repeat' (with_reducible first | exact ih0 _ _ _ | exact ih1 _ _ _ _ | exact ih2 _ _ _ _ _ _ _ | exact ih3 _ _ _ _ _ _ _ _ _ | exact impl_SameBoxes.mono _ _ _ | exact impl_prefixed.mono _ _ _ _ | exact impl_section.mono _ _ _ | exact LeO.refl _ | exact LeO.none _ | refine LeO.ite ?_ ?_ | refine LeO.bind ?_ (fun _ => ?_))
  · intro y0 y1 y2 y3 y4 y5 y6
    unfold impl_combined_impl_and.l0
    repeat' (with_reducible first | exact ih0 _ _ _ | exact ih1 _ _ _ _ | exact ih2 _ _ _ _ _ _ _ | exact ih3 _ _ _ _ _ _ _ _ _ | exact impl_SameBoxes.mono _ _ _ | exact impl_prefixed.mono _ _ _ _ | exact impl_section.mono _ _ _ | exact LeO.refl _ | exact LeO.none _ | refine LeO.ite ?_ ?_ | refine LeO.bind ?_ (fun _ => ?_))
  · intro y0 y1 y2 y3 y4 y5 y6 y7 y8
    unfold impl_combined_impl_and.j2
    repeat' (with_reducible first | exact ih0 _ _ _ | exact ih1 _ _ _ _ | exact ih2 _ _ _ _ _ _ _ | exact ih3 _ _ _ _ _ _ _ _ _ | exact impl_SameBoxes.mono _ _ _ | exact impl_prefixed.mono _ _ _ _ | exact impl_section.mono _ _ _ | exact LeO.refl _ | exact LeO.none _ | refine LeO.ite ?_ ?_ | refine LeO.bind ?_ (fun _ => ?_))
theorem impl_combined_impl_and.mono : ∀ a0 a1 a2 k, LeO (impl_combined_impl_and.f k a0 a1 a2) (impl_combined_impl_and.f (k + 1) a0 a1 a2) := by
 intro a0 a1 a2 k
 obtain ⟨ih0, ih1, ih2, ih3⟩ := impl_combined_impl_and.mono_l k
 exact ih0 a0 a1 a2
set_option maxHeartbeats 8000000 in
set_option maxRecDepth 100000 in
theorem impl_combined_impl_and.calls (k : Nat) : ∀ (a0 : Int) (A1 : Option Addr) (c1 : Nat) (l1 : List (S42)) (A2 : Option Addr) (c2 : Nat) (l2 : List (S42))  (r : List (S42)) (w : World) (hr1 : Kd.C k42 w A1 l1.length l1) (hc1 : l1.length ≤ c1) (hr2 : Kd.C k42 w A2 l2.length l2) (hc2 : l2.length ≤ c2) (h : impl_combined_impl_and.f k a0 l1 l2 = some r),
 Calls Try.prog 87 #[.int .i64 a0, .slice A1 l1.length c1, .slice A2 l2.length c2, .func (.func 58) #[] #[]] w fun e w' => ∃ v0_ : Value, e = .returned (v0_) ∧ Kd.S k42 42 w' w.heap.size (fun _ => True) v0_ r ∧ Below w.heap.size w w' := by
 induction k using Nat.strongRecOn with
 | _ k ih =>
 intro a0 A1 c1 l1 A2 c2 l2 r w hr1 hc1 hr2 hc2 h
 cases k with
 | zero => exact absurd h (by simp [impl_combined_impl_and.f])
 | succ k =>
 simp only [impl_combined_impl_and.f] at h
 have hu42 := Try.underlying42
 have HR1 := yD hr1
 have HC1 := yD hc1
 clear hr1 hc1
 have HR2 := yD hr2
 have HC2 := yD hc2
 clear hr2 hc2
 have HB := yD (Below.refl w.heap.size w)
 have H : (if a0 = 0 then ((impl_and.f (decide ((l1.length : Int) > 0)) (decide ((l2.length : Int) > 0))).bind fun t292 => (if t292 = true then (some (([(⟨([] : List Int), ([] : List Int)⟩ : S42)] : List (S42)))) else (some ([] : List (S42))))) else (if (l1.length : Int) = 0 then (impl_combined_impl_and.j0 k a0 l1 l2 ((l2.length : Int) == 0)) else (impl_combined_impl_and.j0 k a0 l1 l2 false))) = some r := h
 clear h
 by_cases c5 : a0 = 0
 ·
  rw [if_pos c5] at H
  have c5b0 : (a0 == 0) = true := beq_iff_eq.mpr c5
  have c5b1 : (a0 != 0) = false := bne_eq_false_iff_eq.mpr c5
  clear c5
  obtain ⟨t292, A60, H⟩ := zW_ H
  replace H : (if t292 = true then (some (([(⟨([] : List Int), ([] : List Int)⟩ : S42)] : List (S42)))) else (some ([] : List (S42)))) = some r := H
  have A6 := yD A60
  clear A60
  by_cases c7 : t292 = true
  ·
   subst c7
   replace H : (some (([(⟨([] : List Int), ([] : List Int)⟩ : S42)] : List (S42)))) = some r := (by rw [if_pos rfl] at H; exact H)
   obtain ⟨y293, hy293⟩ : ∃ y_ : List (S42), y_ = (([(⟨([] : List Int), ([] : List Int)⟩ : S42)] : List (S42))) := ⟨_, rfl⟩
   replace H : (some y293) = some r := by first | (rw [hy293]; with_reducible exact H) | (have H2_ := (Option.bind_some _ _).symm.trans H; rw [hy293]; with_reducible exact H2_) | (have H2_ := (Option.bind_some _ _).symm.trans H; with_reducible exact H2_) | with_reducible exact H | (rw [hy293]; exact H) | exact H
   have Ny293 := yD hy293
   clear hy293; obtain rfl := Option.some.inj H; go_enter Try.func87, Try.ntmps87
   go_wp2_with (first | (go_at_call 58; (refine (impl_and.calls (decide (0 < l1.length)) (decide (0 < l2.length)) true _ (by have h_ := A6.out; rw [show decide ((l1.length : Int) > 0) = decide (0 < l1.length) from decide_eq_decide.2 (by omega), show decide ((l2.length : Int) > 0) = decide (0 < l2.length) from decide_eq_decide.2 (by omega)] at h_; exact h_)).mono ?_); rintro e w' ⟨rfl, ⟨nd, rfl⟩⟩) | ((with_reducible refine gate_dst (N := 25) rfl ?_); (try (refine gate_guard (by rfl) ?_; dsimp only)); refine Kd.S_lit k42 _ 42 ?hg (N := 25) ?hd (xs := ([(⟨([] : List Int), ([] : List Int)⟩ : S42)] : List (S42))) (inner := [.slice none 0 0, .slice none 0 0]) (ok := fun _ => True) (okp := fun _ => True) ?hr ?hp (fun _ hk => hk) trivial (Below.refl _ _) (Nat.le_refl _) (by simp) ?_; (case hd => rfl); (case hg => rfl); (case hr => first | (go_simp; done) | (go_simp; rfl)); (case hp => exact (Reps.c2 (show Kd.M k42 _ _ _ (⟨([] : List Int), ([] : List Int)⟩ : S42) [.slice none 0 0, .slice none 0 0] from (k42_mkM _ _ _ (⟨([] : List Int), ([] : List Int)⟩ : S42) (Kd.R_nil _ _ _ _ _) (Kd.R_nil _ _ _ _ _))) (Reps.none _ _))); intro v294 w8 ho9 hb hg_ hnew_; clear hg_ hnew_; (first | rw [← Ny293.out] at ho9 | (simp only [Int.reduceToNat] at ho9; rw [← Ny293.out] at ho9)); have HO295 := yD (zG ho9 (below_size (kB HB))); replace HB := yD (zC (kB HB) hb); clear hb ho9))
   go_ret
   exact ⟨_, by first | rfl | (simp <;> rfl) | (simp [*] <;> rfl), kS HO295, kR0 HB⟩
  · replace c7 := Bool.eq_false_iff.mpr c7
    subst c7
    replace H : (some ([] : List (S42))) = some r := (by rw [if_neg (show ¬ (false = true) by decide)] at H; exact H); obtain rfl := Option.some.inj H; go_enter Try.func87, Try.ntmps87
    go_wp2_with (first | (go_at_call 58; (refine (impl_and.calls (decide (0 < l1.length)) (decide (0 < l2.length)) false _ (by have h_ := A6.out; rw [show decide ((l1.length : Int) > 0) = decide (0 < l1.length) from decide_eq_decide.2 (by omega), show decide ((l2.length : Int) > 0) = decide (0 < l2.length) from decide_eq_decide.2 (by omega)] at h_; exact h_)).mono ?_); rintro e w' ⟨rfl, ⟨nd, rfl⟩⟩))
    go_ret
    exact ⟨_, by first | rfl | (simp <;> rfl) | (simp [*] <;> rfl), by first | exact Kd.S_nil _ _ _ _ _ | exact Kd.N_nil _ _ _ _ _ | exact Kd.V_nil _ _ _ _ _ | exact Kd.Q_nil _ _ _ _ _ | exact Kd.R_nil _ _ _ _ _, kR0 HB⟩
 ·
  rw [if_neg c5] at H
  have c5b0 : (a0 == 0) = false := beq_eq_false_iff_ne.mpr c5
  have c5b1 : (a0 != 0) = true := bne_iff_ne.mpr c5
  have HC10 := yD H
  clear H; go_enter Try.func87, Try.ntmps87
  go_upto_region 5 with (fail)
  go_cut [33] (fun v33 wc => ∃ (kq : Nat) (x33_9 : Bool), v33 = .bool x33_9 ∧ Aside0 (impl_combined_impl_and.j0 kq a0 l1 l2 x33_9 = some r) ∧ Aside0 (kq ≤ k) ∧ Aside0 (Below w.heap.size w wc))
  case first =>
   have H := HC10.out; clear HC10
   by_cases c11 : (l1.length : Int) = 0
   ·
    rw [if_pos c11] at H
    have c11b0 : ((l1.length : Int) == 0) = true := beq_iff_eq.mpr c11
    have c11b1 : ((l1.length : Int) != 0) = false := bne_eq_false_iff_eq.mpr c11
    clear c11
    (first | rw [c11b0] | (simp only [i64_w, i32_w]; rw [c11b0]) | (simp only [bne] at c11b0; rw [c11b0]) | skip)
    have H' := yD H
    clear H
    go_wp2
    go_meet
    case rel => exact ⟨_, (((l2.length : Int) == 0)), (by first | rfl | (simp; done) | (simp [*]; done)), H', ⟨by first | omega | exact Nat.le_refl _⟩, ⟨kR0 HB⟩⟩
   ·
    rw [if_neg c11] at H
    have c11b0 : ((l1.length : Int) == 0) = false := beq_eq_false_iff_ne.mpr c11
    have c11b1 : ((l1.length : Int) != 0) = true := bne_iff_ne.mpr c11
    have c11b2 : ¬ (l1 = []) := fun h_ => c11 (by rw [h_]; rfl)
    (first | rw [c11b0] | (simp only [i64_w, i32_w]; rw [c11b0]) | (simp only [bne] at c11b0; rw [c11b0]) | skip)
    have H' := yD H
    clear H
    go_wp2
    go_meet
    case rel => exact ⟨_, (false), (by first | rfl | (simp; done) | (simp [*]; done)), H', ⟨by first | omega | exact Nat.le_refl _⟩, ⟨kR0 HB⟩⟩
  case rest =>
   clear HC10; try clear c1; try clear c2; try clear c5; try clear c5b0; try clear c5b1; try clear c7; try clear c11; try clear c11b0; try clear c11b1; try clear c11b2
   obtain ⟨kq, x33_9, rfl, HA, HJ9, HB⟩ := hcut
   cases kq with
   | zero => exact absurd HA.out (by simp [impl_combined_impl_and.j0])
   | succ kj9 =>
    have H := HA.out; clear HA
    simp only [impl_combined_impl_and.j0] at H
    by_cases c12 : x33_9 = true
    · subst c12
      replace H : (some ([] : List (S42))) = some r := (by rw [if_pos rfl] at H; exact H); obtain rfl := Option.some.inj H
      go_wp2
      go_ret
      exact ⟨_, by first | rfl | (simp <;> rfl) | (simp [*] <;> rfl), by first | exact Kd.S_nil _ _ _ _ _ | exact Kd.N_nil _ _ _ _ _ | exact Kd.V_nil _ _ _ _ _ | exact Kd.Q_nil _ _ _ _ _ | exact Kd.R_nil _ _ _ _ _, kR0 HB⟩
    ·
     replace c12 := Bool.eq_false_iff.mpr c12
     subst c12
     replace H : (impl_combined_impl_and.l0 kj9 a0 l1 l2 ([] : List (S42)) ([] : List (S42)) 0 0) = some r := (by rw [if_neg (show ¬ (false = true) by decide)] at H; exact H)
     have H' := yD H
     clear H
     go_wp2
     go_loopg [9, 10, 11, 34] kj9 (fun kq v9 v10 v11 v34 w' => ∃ (x9_2 : List (S42)) (x10_2 : List (S42)) (x11_2 : Int) (x34_2 : Int), v11 = .int .i64 x11_2 ∧ v34 = .int .i64 x34_2 ∧ Aside0 (impl_combined_impl_and.l0 kq a0 l1 l2 x9_2 x10_2 x11_2 x34_2 = some r) ∧ Aside0 (kq ≤ kj9) ∧ Aside0 (Kd.S k42 42 w' w.heap.size (fun k_ => oB v10 k_) v9 x9_2) ∧ Aside0 (Kd.S k42 42 w' w.heap.size (fun k_ => oB v9 k_) v10 x10_2) ∧ Aside0 (Below w.heap.size w w'))
     case atStart => exact ⟨(([] : List (S42))), (([] : List (S42))), (0), (0), (by first | rfl | (simp; done) | (simp [*]; done)), (by first | rfl | (simp; done) | (simp [*]; done)), H', ⟨Nat.le_refl _⟩, ⟨by first | exact Kd.S_nil _ _ _ _ _ | exact Kd.N_nil _ _ _ _ _ | exact Kd.V_nil _ _ _ _ _ | exact Kd.Q_nil _ _ _ _ _ | exact Kd.R_nil _ _ _ _ _⟩, ⟨by first | exact Kd.S_nil _ _ _ _ _ | exact Kd.N_nil _ _ _ _ _ | exact Kd.V_nil _ _ _ _ _ | exact Kd.Q_nil _ _ _ _ _ | exact Kd.R_nil _ _ _ _ _⟩, ⟨kR0 HB⟩⟩
     case round =>
      clear H'
      try clear c1; try clear c2; try clear c5; try clear c5b0; try clear c5b1; try clear c7; try clear c11; try clear c11b0; try clear c11b1; try clear c11b2; try clear c12
      obtain ⟨x9_2, x10_2, x11_2, x34_2, rfl, rfl, HA, HK2, HO_9, HO_10, HB⟩ := hrel
      cases gk with
      | zero => exact absurd HA.out (by simp [impl_combined_impl_and.l0])
      | succ k2 =>
       have H := HA.out; clear HA
       simp only [impl_combined_impl_and.l0] at H
       by_cases c13 : x34_2 < 41
       ·
        rw [if_pos c13] at H
        have c13b0 : decide (x34_2 < 41) = true := zR c13; clear c13
        have HC14 := yD H
        clear H
        go_upto_if 38 with (fail)
        go_cut [13] (fun v13 wc => ∃ (kq : Nat) (x13_13 : List (S42)), Aside0 (impl_combined_impl_and.j2 kq a0 l1 l2 x9_2 x10_2 x11_2 x34_2 x13_13 x34_2 = some r) ∧ Aside0 (kq ≤ k2) ∧ Aside0 (Kd.S k42 42 wc w.heap.size (fun k_ => oB u10 k_ ∧ oB v13 k_) u9 x9_2) ∧ Aside0 (Kd.S k42 42 wc w.heap.size (fun k_ => oB u9 k_ ∧ oB v13 k_) u10 x10_2) ∧ Aside0 (Kd.S k42 42 wc w.heap.size (fun k_ => oB u9 k_ ∧ oB u10 k_) v13 x13_13) ∧ Aside0 (Below w.heap.size w wc))
        case first =>
         have H := HC14.out; clear HC14
         by_cases c15 : x34_2 < 40
         ·
          rw [if_pos c15] at H
          have c15b0 : decide (x34_2 < 40) = true := zR c15; clear c15
          (first | rw [c15b0] | (simp only [i64_w, i32_w]; rw [c15b0]) | (simp only [bne] at c15b0; rw [c15b0]) | skip)
          obtain ⟨t296, A160, H⟩ := zW_ H
          replace H : ((impl_section.f k2 l2 x34_2).bind fun t299 => ((impl_combined_impl_and.f k2 (wrap64 (a0 - 1)) t296 t299).bind fun t302 => (impl_combined_impl_and.j2 k2 a0 l1 l2 x9_2 x10_2 x11_2 x34_2 t302 x34_2))) = some r := H
          have A16 := yD A160
          clear A160
          obtain ⟨t299, A170, H⟩ := zW_ H
          replace H : ((impl_combined_impl_and.f k2 (wrap64 (a0 - 1)) t296 t299).bind fun t302 => (impl_combined_impl_and.j2 k2 a0 l1 l2 x9_2 x10_2 x11_2 x34_2 t302 x34_2)) = some r := H
          have A17 := yD A170
          clear A170
          obtain ⟨t302, A180, H⟩ := zW_ H
          replace H : (impl_combined_impl_and.j2 k2 a0 l1 l2 x9_2 x10_2 x11_2 x34_2 t302 x34_2) = some r := H
          have A18 := yD A180
          clear A180
          have H' := yD H
          clear H
          go_wp2_with (first | ((with_reducible refine gate_callee (f := 123) rfl ?_); refine gL 43 Try.func123 #[.slice A1 l1.length c1, .int .i64 x34_2] ?_; (with_reducible refine (impl_section.calls k2 (fun k_ => k_ < w.heap.size) _ _ l1 x34_2 t296 _ ?side1 A16.out).mono ?_); (case side1 => exact Kd.V_mk HC1.out (Kd.F_below (Kd.C_F k42_heap HR1.out) (kB HB))); rintro e w19 ⟨v297, rfl, ho0, hb⟩; refine ⟨_, rfl, ?_⟩; have HO298 := yD (Kd.V_lower (Kd.V_mono (ok' := fun k_ => oB u9 k_ ∧ oB u10 k_) ho0 (fun k_ hk_ => ⟨Or.elim hk_ (fun hs_ => fun e_ => Nat.not_le.2 hs_ (Kd.S_base HO_9.out k_ e_.symm)) (fun hn_ => (Kd.fresh' (Kd.S_lt (kS HO_9)) k_ hn_)), Or.elim hk_ (fun hs_ => fun e_ => Nat.not_le.2 hs_ (Kd.S_base HO_10.out k_ e_.symm)) (fun hn_ => (Kd.fresh' (Kd.S_lt (kS HO_10)) k_ hn_))⟩)) (below_size (kB HB))); replace HO_9 := yD (Kd.S_below (kS HO_9) hb); replace HO_10 := yD (Kd.S_below (kS HO_10) hb); replace HB := yD (zC (kB HB) hb); clear hb ho0) | ((with_reducible refine gate_callee (f := 123) rfl ?_); refine gL 46 Try.func123 #[.slice A2 l2.length c2, .int .i64 x34_2] ?_; (with_reducible refine (impl_section.calls k2 (fun k_ => k_ < w.heap.size) _ _ l2 x34_2 t299 _ ?side1 A17.out).mono ?_); (case side1 => exact Kd.V_mk HC2.out (Kd.F_below (Kd.C_F k42_heap HR2.out) (kB HB))); rintro e w20 ⟨v300, rfl, ho0, hb⟩; refine ⟨_, rfl, ?_⟩; replace HO298 := yD (Kd.V_below (kU HO298) hb); have HO301 := yD (Kd.V_lower (Kd.V_mono (ok' := fun k_ => oB u9 k_ ∧ oB u10 k_) ho0 (fun k_ hk_ => ⟨Or.elim hk_ (fun hs_ => fun e_ => Nat.not_le.2 hs_ (Kd.S_base HO_9.out k_ e_.symm)) (fun hn_ => (Kd.fresh' (Kd.S_lt (kS HO_9)) k_ hn_)), Or.elim hk_ (fun hs_ => fun e_ => Nat.not_le.2 hs_ (Kd.S_base HO_10.out k_ e_.symm)) (fun hn_ => (Kd.fresh' (Kd.S_lt (kS HO_10)) k_ hn_))⟩)) (below_size (kB HB))); replace HO_9 := yD (Kd.S_below (kS HO_9) hb); replace HO_10 := yD (Kd.S_below (kS HO_10) hb); replace HB := yD (zC (kB HB) hb); clear hb ho0; obtain ⟨Ao21, co21, eo21⟩ := Kd.V_slice HO298.out; subst eo21; obtain ⟨Ao22, co22, eo22⟩ := Kd.V_slice HO301.out; subst eo22) | ((with_reducible refine gate_callee (f := 87) rfl ?_); refine gL 48 Try.func87 #[.int .i64 (wrap64 (a0 - 1)), .slice Ao21 t296.length co21, .slice Ao22 t299.length co22, .func (.func 58) #[] #[]] ?_; (with_reducible refine (ih k2 (by have := HJ9.out; have := HK2.out; omega) (wrap64 (a0 - 1)) _ _ t296 _ _ t299  t302 _ ?side1 ?side2 ?side3 ?side4 A18.out).mono ?_); (case side1 => exact kV (Kd.V_reads' HO298.out).2.2); (case side2 => exact (Kd.V_reads' HO298.out).2.1); (case side3 => exact kV (Kd.V_reads' HO301.out).2.2); (case side4 => exact (Kd.V_reads' HO301.out).2.1); rintro e w23 ⟨v303, rfl, ho0, hb⟩; refine ⟨_, rfl, ?_⟩; replace HO298 := yD (Kd.V_elder' (kU HO298) (Kd.S_base ho0) hb); replace HO301 := yD (Kd.V_elder' (kU HO301) (Kd.S_base ho0) hb); have HO304 := yD (zG (zD (zD ho0 (Kd.S_lt (kS HO_9))) (Kd.S_lt (kS HO_10))) (below_size (kB HB))); replace HO_9 := yD (Kd.S_elder' (kS HO_9) (Kd.S_base ho0) hb); replace HO_10 := yD (Kd.S_elder' (kS HO_10) (Kd.S_base ho0) hb); replace HB := yD (zC (kB HB) hb); clear hb ho0))
          go_meet
          case rel => exact ⟨_, (t302), H', ⟨by have := HJ9.out; have := HK2.out; first | omega | exact Nat.le_refl _⟩, ⟨kS HO_9⟩, ⟨kS HO_10⟩, ⟨mS HO304 (fun _ hk => ⟨hk.1.2, hk.2⟩)⟩, ⟨kR0 HB⟩⟩
         · rw [if_neg c15] at H
           have c15b0 : decide (x34_2 < 40) = false := zS c15; clear c15
           (first | rw [c15b0] | (simp only [i64_w, i32_w]; rw [c15b0]) | (simp only [bne] at c15b0; rw [c15b0]) | skip)
           have H' := yD H
           clear H
           go_wp2
           go_meet
           case rel => exact ⟨_, (([] : List (S42))), H', ⟨by have := HJ9.out; have := HK2.out; first | omega | exact Nat.le_refl _⟩, ⟨mS HO_9 (fun _ hk => ⟨hk, (by simp [oB, Value.ownBlock])⟩)⟩, ⟨mS HO_10 (fun _ hk => ⟨hk, (by simp [oB, Value.ownBlock])⟩)⟩, ⟨by first | exact Kd.S_nil _ _ _ _ _ | exact Kd.N_nil _ _ _ _ _ | exact Kd.V_nil _ _ _ _ _ | exact Kd.Q_nil _ _ _ _ _ | exact Kd.R_nil _ _ _ _ _⟩, ⟨kR0 HB⟩⟩
        case rest =>
         clear HC14; try clear c1; try clear c2; try clear c5; try clear c5b0; try clear c5b1; try clear c7; try clear c11; try clear c11b0; try clear c11b1; try clear c11b2; try clear c12; try clear c13; try clear c13b0; try clear c15; try clear c15b0
         obtain ⟨kq, x13_13, HA, HJ13, HO_9, HO_10, HO_13, HB⟩ := hcut
         cases kq with
         | zero => exact absurd HA.out (by simp [impl_combined_impl_and.j2])
         | succ kj13 =>
          have H := HA.out; clear HA
          simp only [impl_combined_impl_and.j2] at H
          obtain ⟨t305, A240, H⟩ := zW_ H
          replace H : (if t305 = true then (impl_combined_impl_and.l0 kj13 a0 l1 l2 x9_2 x10_2 x11_2 (wrap64 (x34_2 + 1))) else ((impl_prefixed.f kj13 x10_2 x11_2 x34_2).bind fun t306 => (if x9_2.length + t306.length < 2932031007402 then (impl_combined_impl_and.l0 kj13 a0 l1 l2 (x9_2 ++ t306) x13_13 x34_2 (wrap64 (x34_2 + 1))) else (none)))) = some r := H
          have A24 := yD A240
          clear A240
          by_cases c25 : t305 = true
          · subst c25
            replace H : (impl_combined_impl_and.l0 kj13 a0 l1 l2 x9_2 x10_2 x11_2 (wrap64 (x34_2 + 1))) = some r := (by rw [if_pos rfl] at H; exact H)
            have H' := yD H
            clear H
            obtain ⟨Ao26, co26, eo26⟩ := Kd.S_slice HO_13.out
            subst eo26
            obtain ⟨Ao27, co27, eo27⟩ := Kd.S_slice HO_10.out
            subst eo27
            go_wp2_with (first | ((with_reducible refine gate_callee (f := 31) rfl ?_); refine gL 51 Try.func31 #[.slice Ao26 x13_13.length co26, .slice Ao27 x10_2.length co27] ?_; (with_reducible refine (impl_SameBoxes.calls kj13 _ _ x13_13 _ _ x10_2 true _ ?side1 ?side2 ?side3 ?side4 A24.out).mono ?_); (case side1 => exact kV (Kd.S_reads' HO_13.out).2.2); (case side2 => exact (Kd.S_reads' HO_13.out).2.1); (case side3 => exact kV (Kd.S_reads' HO_10.out).2.2); (case side4 => exact (Kd.S_reads' HO_10.out).2.1); rintro e w28 ⟨rfl, hb⟩; refine ⟨_, rfl, ?_⟩; replace HO_9 := yD (Kd.S_below (kS HO_9) hb); replace HO_10 := yD (Kd.S_below (kS HO_10) hb); replace HO_13 := yD (Kd.S_below (kS HO_13) hb); replace HB := yD (zC (kB HB) hb); clear hb))
            go_roundg kj13
            case measure => have := HJ9.out; have := HK2.out; have := HJ13.out; omega
            case rel => exact ⟨(x9_2), (x10_2), (x11_2), (wrap64 (x34_2 + 1)), (by first | rfl | (simp; done) | (simp [*]; done)), (by first | rfl | (simp; done) | (simp [*]; done)), H', ⟨by have := HJ9.out; have := HK2.out; have := HJ13.out; omega⟩, ⟨mS HO_9 (fun _ hk => hk.1)⟩, ⟨mS HO_10 (fun _ hk => hk.1)⟩, ⟨kR0 HB⟩⟩
          ·
           replace c25 := Bool.eq_false_iff.mpr c25
           subst c25
           replace H : ((impl_prefixed.f kj13 x10_2 x11_2 x34_2).bind fun t306 => (if x9_2.length + t306.length < 2932031007402 then (impl_combined_impl_and.l0 kj13 a0 l1 l2 (x9_2 ++ t306) x13_13 x34_2 (wrap64 (x34_2 + 1))) else (none))) = some r := (by rw [if_neg (show ¬ (false = true) by decide)] at H; exact H)
           obtain ⟨t306, A290, H⟩ := zW_ H
           replace H : (if x9_2.length + t306.length < 2932031007402 then (impl_combined_impl_and.l0 kj13 a0 l1 l2 (x9_2 ++ t306) x13_13 x34_2 (wrap64 (x34_2 + 1))) else (none)) = some r := H
           have A29 := yD A290
           clear A290
           by_cases c30 : x9_2.length + t306.length < 2932031007402
           ·
            rw [if_pos c30] at H
            have LMc30 := yD c30
            clear c30
            obtain ⟨y309, hy309⟩ : ∃ y_ : List (S42), y_ = (x9_2 ++ t306) := ⟨_, rfl⟩
            replace H : (impl_combined_impl_and.l0 kj13 a0 l1 l2 y309 x13_13 x34_2 (wrap64 (x34_2 + 1))) = some r := by first | (rw [hy309]; with_reducible exact H) | (have H2_ := (Option.bind_some _ _).symm.trans H; rw [hy309]; with_reducible exact H2_) | (have H2_ := (Option.bind_some _ _).symm.trans H; with_reducible exact H2_) | with_reducible exact H | (rw [hy309]; exact H) | exact H
            have Ny309 := yD hy309
            clear hy309
            have H' := yD H
            clear H
            obtain ⟨Ao31, co31, eo31⟩ := Kd.S_slice HO_13.out
            subst eo31
            obtain ⟨Ao32, co32, eo32⟩ := Kd.S_slice HO_10.out
            subst eo32
            go_wp2_with (first | ((with_reducible refine gate_callee (f := 31) rfl ?_); refine gL 51 Try.func31 #[.slice Ao31 x13_13.length co31, .slice Ao32 x10_2.length co32] ?_; (with_reducible refine (impl_SameBoxes.calls kj13 _ _ x13_13 _ _ x10_2 false _ ?side1 ?side2 ?side3 ?side4 A24.out).mono ?_); (case side1 => exact kV (Kd.S_reads' HO_13.out).2.2); (case side2 => exact (Kd.S_reads' HO_13.out).2.1); (case side3 => exact kV (Kd.S_reads' HO_10.out).2.2); (case side4 => exact (Kd.S_reads' HO_10.out).2.1); rintro e w33 ⟨rfl, hb⟩; refine ⟨_, rfl, ?_⟩; replace HO_9 := yD (Kd.S_below (kS HO_9) hb); replace HO_10 := yD (Kd.S_below (kS HO_10) hb); replace HO_13 := yD (Kd.S_below (kS HO_13) hb); replace HB := yD (zC (kB HB) hb); clear hb) | ((with_reducible refine gate_callee (f := 124) rfl ?_); refine gL 57 Try.func124 #[.slice Ao32 x10_2.length co32, .int .i64 x11_2, .int .i64 x34_2] ?_; (with_reducible refine (impl_prefixed.calls kj13 (fun k_ => (oB u9 k_ ∧ oB (.slice Ao31 x13_13.length co31) k_)) _ _ x10_2 x11_2 x34_2 t306 _ ?side1 A29.out).mono ?_); (case side1 => exact Kd.S_V (HO_10.out)); rintro e w34 ⟨v307, rfl, ho0, hb⟩; refine ⟨_, rfl, ?_⟩; have HPHO308_HO_9 := yD (S_pair (kS HO_9) hb (zD (zD (zD (Kd.S_mono (ok' := fun k_ => True) ho0 (fun _ hk_ => trivial)) (Kd.S_lt (kS HO_9))) (Kd.S_lt (kS HO_10))) (Kd.S_lt (kS HO_13))) (below_size (kB HB))); have HO308 := yD (zG (zD (zD (zD (Kd.S_mono (ok' := fun k_ => True) ho0 (fun _ hk_ => trivial)) (Kd.S_lt (kS HO_9))) (Kd.S_lt (kS HO_10))) (Kd.S_lt (kS HO_13))) (below_size (kB HB))); replace HO_9 := yD (Kd.S_elder' (kS HO_9) (Kd.S_base ho0) hb); replace HO_10 := yD (Kd.S_elder' (kS HO_10) (Kd.S_base ho0) hb); replace HO_13 := yD (Kd.S_elder' (kS HO_13) (Kd.S_base ho0) hb); replace HB := yD (zC (kB HB) hb); clear hb ho0; obtain ⟨Ao36, co36, eo36⟩ := Kd.S_slice HO308.out; subst eo36) | ((with_reducible refine gate_builtin (b := .append) (xs := #[.tmp 53, .tmp 57]) rfl ?_); (try (refine gate_guard (by rfl) ?_; dsimp only)); at_builtin; obtain ⟨N_, hA_, hB_⟩ := HPHO308_HO_9.out; refine S_append_rows k42 (w0 := w) w.heap.size rfl (.tmp 53) (.tmp 57) 24 42 (.agg #[(.slice none 0 0), (.slice none 0 0)]) 48 rfl Try.underlying24 info42 rfl (by decide) (by omega) u9 x9_2 t306 _ _ _ (fun k_ => oB (.slice Ao32 x10_2.length co32) k_ ∧ oB (.slice Ao31 x13_13.length co31) k_) (fun k_ => N_ ≤ k_ ∧ (((fun k_ => oB (.slice Ao32 x10_2.length co32) k_ ∧ oB (.slice Ao31 x13_13.length co31) k_)) k_ ∧ oB u9 k_)) rfl rfl ?aO ?aR (fun _ hk => hk.2) ?aF ?aB ?aS ?aL ?_; (case aR => exact (by (with_reducible repeat (first | apply yS | apply yT | apply yU)); exact Kd.S_mono hB_ (fun k_ hk => ⟨hk.2, ⟨⟨hk.1.1.2, hk.1.2⟩, hk.1.1.1.2⟩⟩))); (case aB => exact (kB HB)); (case aF => exact (fun k_ hk => ⟨Kd.fresh' (Kd.S_lt (kS HO_10)) k_ hk, Kd.fresh' (Kd.S_lt (kS HO_13)) k_ hk⟩)); (case aO => exact (by (with_reducible repeat (first | apply yS | apply yT | apply yU)); exact Kd.S_mono hA_ (fun _ hk => ⟨⟨hk.1.1, hk.1.2⟩, fun e_ => absurd hk.2 (Nat.not_lt.2 e_.1)⟩))); (case aS => exact (below_size (kB HB))); (case aL => have := LMc30.out; omega); intro v310 w35 ho hb hg hat; rw [← Ny309.out] at ho; replace HO_10 := yD (Kd.S_after (ok := (fun k_ => oB (.slice Ao31 x13_13.length co31) k_ ∧ oB (.slice Ao36 t306.length co36) k_)) (mS HO_10 (fun _ hk => ⟨⟨hk.1.2, hk.2⟩, hk.1.1⟩)) hg hat); replace HO_13 := yD (Kd.S_after (ok := (fun k_ => oB (.slice Ao32 x10_2.length co32) k_ ∧ oB (.slice Ao36 t306.length co36) k_)) (mS HO_13 (fun _ hk => ⟨⟨hk.1.2, hk.2⟩, hk.1.1⟩)) hg hat); replace HB := yD (hb); have HO311 := yD (ho); clear HO_9 HO308; clear ho hb hg hat))
            go_roundg kj13
            case measure => have := HJ9.out; have := HK2.out; have := HJ13.out; omega
            case rel => exact ⟨(y309), (x13_13), (x34_2), (wrap64 (x34_2 + 1)), (by first | rfl | (simp; done) | (simp [*]; done)), (by first | rfl | (simp; done) | (simp [*]; done)), H', ⟨by have := HJ9.out; have := HK2.out; have := HJ13.out; omega⟩, ⟨mS HO311 (fun _ hk => hk.2)⟩, ⟨mS HO_13 (fun _ hk => hk.2)⟩, ⟨kR0 HB⟩⟩
           · rw [if_neg c30] at H
             exact absurd H (by simp)
       · rw [if_neg c13] at H
         have c13b0 : decide (x34_2 < 41) = false := zS c13; clear c13; obtain rfl := Option.some.inj H
         go_wp2
         go_ret
         exact ⟨_, by first | rfl | (simp <;> rfl) | (simp [*] <;> rfl), mS HO_9 (fun _ hk => trivial), kR0 HB⟩
/-! ### impl_combine_impl_and: function 56 -/
def impl_combine_impl_and.j0 : Nat → List (S42) → List (S42) → Bool → Option ((List (S42)) × Int)
 | 0, _, _, _ => none
 | k + 1, x0, x1, x38 => if x38 = true then (some (([] : List (S42)), 1)) else ((impl_rankOf.f k x0 x1).bind fun t316 => ((impl_combined_impl_and.f k t316 x0 x1).bind fun t317 => ((impl_normalFull.f t317).bind fun bt320 => (some (bt320.1, bt320.2)))))
def impl_combine_impl_and.f (k : Nat) (l0 : List (S42)) (l1 : List (S42))  : Option ((List (S42)) × Int) := (impl_boxesOk.f k l0).bind fun t312 => (if t312 = true then ((impl_boxesOk.f k l1).bind fun t313 => (if t313 = true then (if (l0.length : Int) > 0 then (if (l1.length : Int) > 0 then (if 0 < (l0.length : Int) then (if 0 < (l1.length : Int) then (impl_combine_impl_and.j0 k l0 l1 ((((rd_T42 l0 0).f0).length : Int) != (((rd_T42 l1 0).f0).length : Int))) else (none)) else (none)) else (impl_combine_impl_and.j0 k l0 l1 false)) else (impl_combine_impl_and.j0 k l0 l1 false)) else (impl_combine_impl_and.j0 k l0 l1 true))) else (impl_combine_impl_and.j0 k l0 l1 true))
theorem impl_combine_impl_and.mono_l : ∀ k, (∀ y0 y1 y2, LeO (impl_combine_impl_and.j0 k y0 y1 y2) (impl_combine_impl_and.j0 (k + 1) y0 y1 y2))
 | 0 => fun _ _ _ r h => by simp [impl_combine_impl_and.j0] at h
 | k + 1 => by
  have ih0 := impl_combine_impl_and.mono_l k
  · intro y0 y1 y2
    unfold impl_combine_impl_and.j0
    repeat' (with_reducible first | exact ih0 _ _ _ | exact impl_boxesOk.mono _ _ | exact impl_combined_impl_and.mono _ _ _ _ | exact impl_rankOf.mono _ _ _ | exact LeO.refl _ | exact LeO.none _ | refine LeO.ite ?_ ?_ | refine LeO.bind ?_ (fun _ => ?_))
theorem impl_combine_impl_and.mono : ∀ a0 a1 k, LeO (impl_combine_impl_and.f k a0 a1) (impl_combine_impl_and.f (k + 1) a0 a1) := by
 intro a0 a1 k
 have ih0 := impl_combine_impl_and.mono_l k
 unfold impl_combine_impl_and.f
 repeat' (with_reducible first | exact ih0 _ _ _ | exact impl_boxesOk.mono _ _ | exact impl_combined_impl_and.mono _ _ _ _ | exact impl_rankOf.mono _ _ _ | exact LeO.refl _ | exact LeO.none _ | refine LeO.ite ?_ ?_ | refine LeO.bind ?_ (fun _ => ?_))
def impl_combine_impl_and.T1 : Bool × List (List Nat × List Nat) := (true, [([], []), ([0], [0]), ([1], [1]), ([2, 1], [2]), ([3], [3]), ([4, 3, 3], [3, 4]), ([5, 3], [3, 5]), ([3, 6], [3, 6]), ([7, 5], [7]), ([8], [8]), ([9, 8], [8, 9]), ([10, 8], [8, 10]), ([11, 8, 8], [8, 11]), ([12], [12]), ([13, 12], [12, 13]), ([14, 12], [12, 14]), ([12, 15, 8], [8, 12, 15]), ([16, 12, 8], [8, 16]), ([17], [17]), ([18, 17], [17, 18]), ([19, 17], [17, 19]), ([20, 17], [17, 20]), ([21, 17], [17, 21]), ([17], [17]), ([23, 17], [17, 23]), ([24, 17], [17, 24]), ([25, 17], [17, 25]), ([26, 17], [17, 26]), ([22, 27, 17], [17, 22, 27]), ([17, 28, 8], [8, 17, 28]), ([8, 29], [8, 29])])
def impl_combine_impl_and.B1 : List Nat := [0, 1, 3, 7, 15, 31, 63, 127, 255, 511, 1023, 2047, 4095, 8191, 16383, 32767, 65535, 131071, 262143, 524287, 1048575, 2097151, 4194303, 262143, 8650751, 25427967, 58982399, 126091263, 268435455, 536870911, 1073741823]
theorem impl_combine_impl_and.tab1 : rtab .any (opsOf Try.f56 1) = impl_combine_impl_and.T1 := by kernel_rfl
theorem impl_combine_impl_and.bits1 : waitsOk impl_combine_impl_and.T1.2 impl_combine_impl_and.B1 = true := by kernel_rfl
set_option maxHeartbeats 8000000 in
set_option maxRecDepth 100000 in
theorem impl_combine_impl_and.calls (k : Nat) (A0 : Option Addr) (c0 : Nat) (l0 : List (S42)) (A1 : Option Addr) (c1 : Nat) (l1 : List (S42))  (r1 : List (S42)) (r2 : Int) (w : World) (hr0 : Kd.C k42 w A0 l0.length l0) (hc0 : l0.length ≤ c0) (hr1 : Kd.C k42 w A1 l1.length l1) (hc1 : l1.length ≤ c1) (h : impl_combine_impl_and.f k l0 l1 = some (r1, r2)) :
 Calls Try.prog 56 #[.slice A0 l0.length c0, .slice A1 l1.length c1, .func (.func 58) #[] #[]] w fun e w' => ∃ v0_ : Value, e = .returned (.tuple #[v0_, .int .i64 r2]) ∧ Kd.S k42 42 w' w.heap.size (fun _ => True) v0_ r1 ∧ Below w.heap.size w w' := by
 have HR0 := yD hr0
 have HC0 := yD hc0
 clear hr0 hc0
 have HR1 := yD hr1
 have HC1 := yD hc1
 clear hr1 hc1
 have HB := yD (Below.refl w.heap.size w)
 have H : ((impl_boxesOk.f k l0).bind fun t312 => (if t312 = true then ((impl_boxesOk.f k l1).bind fun t313 => (if t313 = true then (if (l0.length : Int) > 0 then (if (l1.length : Int) > 0 then (if 0 < (l0.length : Int) then (if 0 < (l1.length : Int) then (impl_combine_impl_and.j0 k l0 l1 ((((rd_T42 l0 0).f0).length : Int) != (((rd_T42 l1 0).f0).length : Int))) else (none)) else (none)) else (impl_combine_impl_and.j0 k l0 l1 false)) else (impl_combine_impl_and.j0 k l0 l1 false)) else (impl_combine_impl_and.j0 k l0 l1 true))) else (impl_combine_impl_and.j0 k l0 l1 true))) = some (r1, r2) := h
 clear h
 have HC4 := yD H
 clear H; go_enter Try.func56, Try.ntmps56
 go_upto_region 1 with (fail)
 go_cut [38] (fun v38 wc => ∃ (kq : Nat) (x38_3 : Bool), v38 = .bool x38_3 ∧ Aside0 (impl_combine_impl_and.j0 kq l0 l1 x38_3 = some (r1, r2)) ∧ Aside0 (kq ≤ k) ∧ Aside0 (Below w.heap.size w wc))
 case first =>
  have H := HC4.out; clear HC4
  obtain ⟨t312, A50, H⟩ := zW_ H
  replace H : (if t312 = true then ((impl_boxesOk.f k l1).bind fun t313 => (if t313 = true then (if (l0.length : Int) > 0 then (if (l1.length : Int) > 0 then (if 0 < (l0.length : Int) then (if 0 < (l1.length : Int) then (impl_combine_impl_and.j0 k l0 l1 ((((rd_T42 l0 0).f0).length : Int) != (((rd_T42 l1 0).f0).length : Int))) else (none)) else (none)) else (impl_combine_impl_and.j0 k l0 l1 false)) else (impl_combine_impl_and.j0 k l0 l1 false)) else (impl_combine_impl_and.j0 k l0 l1 true))) else (impl_combine_impl_and.j0 k l0 l1 true)) = some (r1, r2) := H
  have A5 := yD A50
  clear A50
  by_cases c6 : t312 = true
  ·
   subst c6
   replace H : ((impl_boxesOk.f k l1).bind fun t313 => (if t313 = true then (if (l0.length : Int) > 0 then (if (l1.length : Int) > 0 then (if 0 < (l0.length : Int) then (if 0 < (l1.length : Int) then (impl_combine_impl_and.j0 k l0 l1 ((((rd_T42 l0 0).f0).length : Int) != (((rd_T42 l1 0).f0).length : Int))) else (none)) else (none)) else (impl_combine_impl_and.j0 k l0 l1 false)) else (impl_combine_impl_and.j0 k l0 l1 false)) else (impl_combine_impl_and.j0 k l0 l1 true))) = some (r1, r2) := (by rw [if_pos rfl] at H; exact H)
   obtain ⟨t313, A70, H⟩ := zW_ H
   replace H : (if t313 = true then (if (l0.length : Int) > 0 then (if (l1.length : Int) > 0 then (if 0 < (l0.length : Int) then (if 0 < (l1.length : Int) then (impl_combine_impl_and.j0 k l0 l1 ((((rd_T42 l0 0).f0).length : Int) != (((rd_T42 l1 0).f0).length : Int))) else (none)) else (none)) else (impl_combine_impl_and.j0 k l0 l1 false)) else (impl_combine_impl_and.j0 k l0 l1 false)) else (impl_combine_impl_and.j0 k l0 l1 true)) = some (r1, r2) := H
   have A7 := yD A70
   clear A70
   by_cases c8 : t313 = true
   ·
    subst c8
    replace H : (if (l0.length : Int) > 0 then (if (l1.length : Int) > 0 then (if 0 < (l0.length : Int) then (if 0 < (l1.length : Int) then (impl_combine_impl_and.j0 k l0 l1 ((((rd_T42 l0 0).f0).length : Int) != (((rd_T42 l1 0).f0).length : Int))) else (none)) else (none)) else (impl_combine_impl_and.j0 k l0 l1 false)) else (impl_combine_impl_and.j0 k l0 l1 false)) = some (r1, r2) := (by rw [if_pos rfl] at H; exact H)
    by_cases c9 : (l0.length : Int) > 0
    ·
     rw [if_pos c9] at H
     have c9b0 : decide (0 < (l0.length : Int)) = true := zR c9
     have c9b1 : decide (0 < l0.length) = true := zR (by omega)
     clear c9
     (first | rw [c9b0] | (simp only [i64_w, i32_w]; rw [c9b0]) | (simp only [bne] at c9b0; rw [c9b0]) | skip)
     by_cases c10 : (l1.length : Int) > 0
     ·
      rw [if_pos c10] at H
      have c10b0 : decide (0 < (l1.length : Int)) = true := zR c10
      have c10b1 : decide (0 < l1.length) = true := zR (by omega)
      clear c10
      by_cases c11 : 0 < (l0.length : Int)
      ·
       rw [if_pos c11] at H
       have c11b0 : decide (0 < (l0.length : Int)) = true := zR c11
       have c11b1 : decide (0 < l0.length) = true := zR (by omega)
       clear c11
       by_cases c12 : 0 < (l1.length : Int)
       ·
        rw [if_pos c12] at H
        have c12b0 : decide (0 < (l1.length : Int)) = true := zR c12
        have c12b1 : decide (0 < l1.length) = true := zR (by omega)
        clear c12
        have H' := yD H
        clear H
        try go_wp2
        have n0_ := yD (yP HB.out)
        clear HB; have HB := n0_; clear n0_
        have p314 : 0 ≤ (0 : Int) := (by omega)
        have q314 : 0 < (l0.length : Int) := zP (by assumption)
        obtain ⟨ad314, A314_0, c314_0, A314_1, c314_1, e314, hx314_0, hx314_1, hl314_0, hi314_0, hl314_1, hi314_1⟩ := at_T42 HR0.out 0 p314 q314
        have hw314_1 := hx314_1
        (try rw [show ((0 : Int)).toNat = 0 from rfl] at hw314_1)
        (try rw [show 0 * 2 = 0 from rfl] at hw314_1)
        (try rw [Addr.add_zero'] at hw314_1)
        have hw314_0 := hx314_0
        (try rw [show ((0 : Int)).toNat = 0 from rfl] at hw314_0)
        (try rw [show 0 * 2 = 0 from rfl] at hw314_0)
        (try rw [Addr.add_zero'] at hw314_0)
        cases e314
        have qi314 : (0 < l0.length) = True := eq_true (by omega)
        (try rw [show ((0 : Int)).toNat = 0 from rfl] at hx314_0)
        (try rw [show 0 * 2 = 0 from rfl] at hx314_0)
        (try rw [Addr.add_zero'] at hx314_0)
        (try rw [show ((0 : Int)).toNat = 0 from rfl] at hx314_1)
        (try rw [show 0 * 2 = 0 from rfl] at hx314_1)
        (try rw [Addr.add_zero'] at hx314_1)
        replace hx314_0 := (HB.out.cell (zQ w _ hx314_0)).trans hx314_0
        replace hx314_1 := (HB.out.cell (zQ w _ hx314_1)).trans hx314_1
        have HR314_0 := yD hi314_0
        have HC314_0 := yD hl314_0
        clear hi314_0 hl314_0
        have HR314_1 := yD hi314_1
        have HC314_1 := yD hl314_1
        clear hi314_1 hl314_1; replace p314 := eq_true p314; replace q314 := eq_true q314
        have p315 : 0 ≤ (0 : Int) := (by omega)
        have q315 : 0 < (l1.length : Int) := zP (by assumption)
        obtain ⟨ad315, A315_0, c315_0, A315_1, c315_1, e315, hx315_0, hx315_1, hl315_0, hi315_0, hl315_1, hi315_1⟩ := at_T42 HR1.out 0 p315 q315
        have hw315_1 := hx315_1
        (try rw [show ((0 : Int)).toNat = 0 from rfl] at hw315_1)
        (try rw [show 0 * 2 = 0 from rfl] at hw315_1)
        (try rw [Addr.add_zero'] at hw315_1)
        have hw315_0 := hx315_0
        (try rw [show ((0 : Int)).toNat = 0 from rfl] at hw315_0)
        (try rw [show 0 * 2 = 0 from rfl] at hw315_0)
        (try rw [Addr.add_zero'] at hw315_0)
        cases e315
        have qi315 : (0 < l1.length) = True := eq_true (by omega)
        (try rw [show ((0 : Int)).toNat = 0 from rfl] at hx315_0)
        (try rw [show 0 * 2 = 0 from rfl] at hx315_0)
        (try rw [Addr.add_zero'] at hx315_0)
        (try rw [show ((0 : Int)).toNat = 0 from rfl] at hx315_1)
        (try rw [show 0 * 2 = 0 from rfl] at hx315_1)
        (try rw [Addr.add_zero'] at hx315_1)
        replace hx315_0 := (HB.out.cell (zQ w _ hx315_0)).trans hx315_0
        replace hx315_1 := (HB.out.cell (zQ w _ hx315_1)).trans hx315_1
        have HR315_0 := yD hi315_0
        have HC315_0 := yD hl315_0
        clear hi315_0 hl315_0
        have HR315_1 := yD hi315_1
        have HC315_1 := yD hl315_1
        clear hi315_1 hl315_1; replace p315 := eq_true p315; replace q315 := eq_true q315
        refine start_ (n := 31) (S := fun w' => w'.cell? ad314 = some (.slice A314_0 ((rd_T42 l0 0).f0).length c314_0) ∧ w'.cell? ⟨ad314.block, ad314.off + 1, none⟩ = some (.slice A314_1 ((rd_T42 l0 0).f1).length c314_1) ∧ w'.cell? ad315 = some (.slice A315_0 ((rd_T42 l1 0).f0).length c315_0) ∧ w'.cell? ⟨ad315.block, ad315.off + 1, none⟩ = some (.slice A315_1 ((rd_T42 l1 0).f1).length c315_1)) (ds := []) (bz 31 0) (by kernel_rfl) rfl rfl ⟨((HB.out.cell (zQ w _ hw314_0)).trans hw314_0), ((HB.out.cell (zQ w _ hw314_1)).trans hw314_1), ((HB.out.cell (zQ w _ hw315_0)).trans hw315_0), ((HB.out.cell (zQ w _ hw315_1)).trans hw315_1)⟩ (fun hHeld => ?_); refine with_tabW impl_combine_impl_and.tab1 impl_combine_impl_and.bits1 (fun HT_ HW_ => ?_)
        generalize w.drew = w13 at HB HR314_0 HR314_1 HR315_0 HR315_1 hx314_0 hx314_1 hx315_0 hx315_1 hHeld ⊢
        refine qA 0 8 (bz 31 1) HT_ ?_
        refine one_ (i := 1) (N := some 9) (bz 31 3) rfl rfl (one_of HT_.out (by kernel_rfl)) (by decide) (fun K hK => ?_)
        refine goes_ Try.func63 (by kernel_rfl) rfl #[.slice (some ad314) l0.length c0] (by rfl) rfl rfl (by (try simp only [zK, zL, zM]); first | done | rfl | (simp only [zN, zO]; rfl)) ?_
        with_reducible refine (impl_boxesOk.calls k _ _ l0 true _ ?side1 ?side2 A5.out).mono ?_
        (case side1 => exact kV (yY HR0.out HB.out))
        (case side2 => exact HC0.out)
        rintro e w14 ⟨rfl, hb⟩
        refine ⟨_, rfl, ?_⟩
        have n0_ := yD (zC (kB HB) hb)
        clear HB; have HB := n0_; clear n0_; (try clear hb); (try clear hb2); (try clear hk); (try clear hi)
        refine hK.out _ _ ⟨((HB.out.cell (zQ w _ hw314_0)).trans hw314_0), ((HB.out.cell (zQ w _ hw314_1)).trans hw314_1), ((HB.out.cell (zQ w _ hw315_0)).trans hw315_0), ((HB.out.cell (zQ w _ hw315_1)).trans hw315_1)⟩ (fun hHeld => ?_)
        clear hK K
        refine norm_ (a' := ?_) ?_ ?_
        rotate_left
        · show Act.put _ (some 9) _ = _
          simp only [Act.put, zH, zI, zJ, i64_w, i32_w]
          rfl
        refine qA 2 10 (bz 31 7) HT_ ?_
        refine qA 3 11 (bz 31 15) HT_ ?_
        refine qA 4 12 (bz 31 31) HT_ ?_
        refine one_ (i := 5) (N := some 13) (bz 31 63) rfl rfl (one_of HT_.out (by kernel_rfl)) (by decide) (fun K hK => ?_)
        refine goes_ Try.func63 (by kernel_rfl) rfl #[.slice (some ad315) l1.length c1] (by rfl) rfl rfl (by (try simp only [zK, zL, zM]); first | done | rfl | (simp only [zN, zO]; rfl)) ?_
        with_reducible refine (impl_boxesOk.calls k _ _ l1 true _ ?side1 ?side2 A7.out).mono ?_
        (case side1 => exact kV (yY HR1.out HB.out))
        (case side2 => exact HC1.out)
        rintro e w15 ⟨rfl, hb⟩
        refine ⟨_, rfl, ?_⟩
        have n0_ := yD (zC (kB HB) hb)
        clear HB; have HB := n0_; clear n0_; (try clear hb); (try clear hb2); (try clear hk); (try clear hi)
        refine hK.out _ _ ⟨((HB.out.cell (zQ w _ hw314_0)).trans hw314_0), ((HB.out.cell (zQ w _ hw314_1)).trans hw314_1), ((HB.out.cell (zQ w _ hw315_0)).trans hw315_0), ((HB.out.cell (zQ w _ hw315_1)).trans hw315_1)⟩ (fun hHeld => ?_)
        clear hK K
        refine norm_ (a' := ?_) ?_ ?_
        rotate_left
        · show Act.put _ (some 13) _ = _
          simp only [Act.put, zH, zI, zJ, i64_w, i32_w]
          rfl
        refine qA 6 14 (bz 31 127) HT_ ?_
        refine qA 7 15 (bz 31 255) HT_ ?_
        refine qA 8 16 (bz 31 511) HT_ ?_
        refine qA 9 17 (bz 31 1023) HT_ ?_
        refine qA 10 18 (bz 31 2047) HT_ ?_
        refine qA 11 19 (bz 31 4095) HT_ ?_
        refine qA 12 20 (bz 31 8191) HT_ ?_
        refine qA 13 21 (bz 31 16383) HT_ ?_
        refine qA 14 22 (bz 31 32767) HT_ ?_
        refine qA 15 23 (bz 31 65535) HT_ ?_
        refine qA 16 24 (bz 31 131071) HT_ ?_
        refine qA 17 25 (bz 31 262143) HT_ ?_
        refine qA 18 26 (bz 31 524287) HT_ ?_
        refine qA 19 27 (bz 31 1048575) HT_ ?_
        refine qA 20 28 (bz 31 2097151) HT_ ?_
        refine qA 23 31 (bz 31 10485759) HT_ ?_
        refine qA 24 32 (bz 31 27262975) HT_ ?_
        refine qA 25 33 (bz 31 60817407) HT_ ?_
        refine qC 21 29 (bz 31 62914559) HT_ HW_ hHeld ?_ (hy := by rintro w' ⟨s0, s1, s2, s3⟩; go_simp; with_reducible rfl)
        refine qA 22 30 (bz 31 67108863) HT_ ?_
        refine qC 26 34 (bz 31 134217727) HT_ HW_ hHeld ?_ (hy := by rintro w' ⟨s0, s1, s2, s3⟩; go_simp; with_reducible rfl)
        refine qA 27 35 (bz 31 268435455) HT_ ?_
        refine qA 28 36 (bz 31 536870911) HT_ ?_
        refine qA 29 37 (bz 31 1073741823) HT_ ?_
        refine qA 30 38 (bz 31 2147483647) HT_ ?_
        refine done_ (done_of HT_.out (by kernel_rfl)) ?_
        try go_wp2
        go_meet
        case rel => exact ⟨_, (((((rd_T42 l0 0).f0).length : Int) != (((rd_T42 l1 0).f0).length : Int))), (by first | rfl | (simp; done) | (simp [*]; done)), H', ⟨by first | omega | exact Nat.le_refl _⟩, ⟨kR0 HB⟩⟩
       · rw [if_neg c12] at H
         exact absurd H (by simp)
      · rw [if_neg c11] at H
        exact absurd H (by simp)
     ·
      rw [if_neg c10] at H
      have c10b0 : decide (0 < (l1.length : Int)) = false := zS c10
      have c10b1 : decide (0 < l1.length) = false := zS (by omega)
      clear c10
      have H' := yD H
      clear H
      try go_wp2
      have n0_ := yD (yP HB.out)
      clear HB; have HB := n0_; clear n0_
      refine start_ (n := 31) (S := fun w' => True) (ds := []) (bz 31 0) (by kernel_rfl) rfl rfl trivial (fun hHeld => ?_); refine with_tabW impl_combine_impl_and.tab1 impl_combine_impl_and.bits1 (fun HT_ HW_ => ?_)
      generalize w.drew = w16 at HB hHeld ⊢
      refine qA 0 8 (bz 31 1) HT_ ?_
      refine one_ (i := 1) (N := some 9) (bz 31 3) rfl rfl (one_of HT_.out (by kernel_rfl)) (by decide) (fun K hK => ?_)
      refine goes_ Try.func63 (by kernel_rfl) rfl #[.slice A0 l0.length c0] (by rfl) rfl rfl (by (try simp only [zK, zL, zM]); first | done | rfl | (simp only [zN, zO]; rfl)) ?_
      with_reducible refine (impl_boxesOk.calls k _ _ l0 true _ ?side1 ?side2 A5.out).mono ?_
      (case side1 => exact kV (yY HR0.out HB.out))
      (case side2 => exact HC0.out)
      rintro e w17 ⟨rfl, hb⟩
      refine ⟨_, rfl, ?_⟩
      have n0_ := yD (zC (kB HB) hb)
      clear HB; have HB := n0_; clear n0_; (try clear hb); (try clear hb2); (try clear hk); (try clear hi)
      refine hK.out _ _ trivial (fun hHeld => ?_)
      clear hK K
      refine norm_ (a' := ?_) ?_ ?_
      rotate_left
      · show Act.put _ (some 9) _ = _
        simp only [Act.put, zH, zI, zJ, i64_w, i32_w]
        rfl
      refine qA 2 10 (bz 31 7) HT_ ?_
      refine qA 3 11 (bz 31 15) HT_ ?_
      refine qA 4 12 (bz 31 31) HT_ ?_
      refine one_ (i := 5) (N := some 13) (bz 31 63) rfl rfl (one_of HT_.out (by kernel_rfl)) (by decide) (fun K hK => ?_)
      refine goes_ Try.func63 (by kernel_rfl) rfl #[.slice A1 l1.length c1] (by rfl) rfl rfl (by (try simp only [zK, zL, zM]); first | done | rfl | (simp only [zN, zO]; rfl)) ?_
      with_reducible refine (impl_boxesOk.calls k _ _ l1 true _ ?side1 ?side2 A7.out).mono ?_
      (case side1 => exact kV (yY HR1.out HB.out))
      (case side2 => exact HC1.out)
      rintro e w18 ⟨rfl, hb⟩
      refine ⟨_, rfl, ?_⟩
      have n0_ := yD (zC (kB HB) hb)
      clear HB; have HB := n0_; clear n0_; (try clear hb); (try clear hb2); (try clear hk); (try clear hi)
      refine hK.out _ _ trivial (fun hHeld => ?_)
      clear hK K
      refine norm_ (a' := ?_) ?_ ?_
      rotate_left
      · show Act.put _ (some 13) _ = _
        simp only [Act.put, zH, zI, zJ, i64_w, i32_w]
        rfl
      refine qA 6 14 (bz 31 127) HT_ ?_
      refine qA 7 15 (bz 31 255) HT_ ?_
      refine qA 8 16 (bz 31 511) HT_ ?_
      refine qA 9 17 (bz 31 1023) HT_ ?_
      refine qA 10 18 (bz 31 2047) HT_ ?_
      refine qA 11 19 (bz 31 4095) HT_ ?_
      refine qA 12 20 (bz 31 8191) HT_ ?_
      refine qA 13 21 (bz 31 16383) HT_ ?_
      refine qA 14 22 (bz 31 32767) HT_ ?_
      refine qA 15 23 (bz 31 65535) HT_ ?_
      refine qA 16 24 (bz 31 131071) HT_ ?_
      refine qA 17 25 (bz 31 262143) HT_ ?_
      refine qB 18 26 (bz 31 524287) HT_ ?_
      refine qB 19 27 (bz 31 1048575) HT_ ?_
      refine qB 20 28 (bz 31 2097151) HT_ ?_
      refine qB 21 29 (bz 31 4194303) HT_ ?_
      refine qB 22 30 (bz 31 8388607) HT_ ?_
      refine qB 23 31 (bz 31 16777215) HT_ ?_
      refine qB 24 32 (bz 31 33554431) HT_ ?_
      refine qB 25 33 (bz 31 67108863) HT_ ?_
      refine qB 26 34 (bz 31 134217727) HT_ ?_
      refine qB 27 35 (bz 31 268435455) HT_ ?_
      refine qB 28 36 (bz 31 536870911) HT_ ?_
      refine qA 29 37 (bz 31 1073741823) HT_ ?_
      refine qA 30 38 (bz 31 2147483647) HT_ ?_
      refine done_ (done_of HT_.out (by kernel_rfl)) ?_
      try go_wp2
      go_meet
      case rel => exact ⟨_, (false), (by first | rfl | (simp; done) | (simp [*]; done)), H', ⟨by first | omega | exact Nat.le_refl _⟩, ⟨kR0 HB⟩⟩
    ·
     rw [if_neg c9] at H
     have c9b0 : decide (0 < (l0.length : Int)) = false := zS c9
     have c9b1 : decide (0 < l0.length) = false := zS (by omega)
     clear c9
     (first | rw [c9b0] | (simp only [i64_w, i32_w]; rw [c9b0]) | (simp only [bne] at c9b0; rw [c9b0]) | skip)
     have H' := yD H
     clear H
     try go_wp2
     have n0_ := yD (yP HB.out)
     clear HB; have HB := n0_; clear n0_
     refine start_ (n := 31) (S := fun w' => True) (ds := []) (bz 31 0) (by kernel_rfl) rfl rfl trivial (fun hHeld => ?_); refine with_tabW impl_combine_impl_and.tab1 impl_combine_impl_and.bits1 (fun HT_ HW_ => ?_)
     generalize w.drew = w19 at HB hHeld ⊢
     refine qA 0 8 (bz 31 1) HT_ ?_
     refine one_ (i := 1) (N := some 9) (bz 31 3) rfl rfl (one_of HT_.out (by kernel_rfl)) (by decide) (fun K hK => ?_)
     refine goes_ Try.func63 (by kernel_rfl) rfl #[.slice A0 l0.length c0] (by rfl) rfl rfl (by (try simp only [zK, zL, zM]); first | done | rfl | (simp only [zN, zO]; rfl)) ?_
     with_reducible refine (impl_boxesOk.calls k _ _ l0 true _ ?side1 ?side2 A5.out).mono ?_
     (case side1 => exact kV (yY HR0.out HB.out))
     (case side2 => exact HC0.out)
     rintro e w20 ⟨rfl, hb⟩
     refine ⟨_, rfl, ?_⟩
     have n0_ := yD (zC (kB HB) hb)
     clear HB; have HB := n0_; clear n0_; (try clear hb); (try clear hb2); (try clear hk); (try clear hi)
     refine hK.out _ _ trivial (fun hHeld => ?_)
     clear hK K
     refine norm_ (a' := ?_) ?_ ?_
     rotate_left
     · show Act.put _ (some 9) _ = _
       simp only [Act.put, zH, zI, zJ, i64_w, i32_w]
       rfl
     refine qA 2 10 (bz 31 7) HT_ ?_
     refine qA 3 11 (bz 31 15) HT_ ?_
     refine qA 4 12 (bz 31 31) HT_ ?_
     refine one_ (i := 5) (N := some 13) (bz 31 63) rfl rfl (one_of HT_.out (by kernel_rfl)) (by decide) (fun K hK => ?_)
     refine goes_ Try.func63 (by kernel_rfl) rfl #[.slice A1 l1.length c1] (by rfl) rfl rfl (by (try simp only [zK, zL, zM]); first | done | rfl | (simp only [zN, zO]; rfl)) ?_
     with_reducible refine (impl_boxesOk.calls k _ _ l1 true _ ?side1 ?side2 A7.out).mono ?_
     (case side1 => exact kV (yY HR1.out HB.out))
     (case side2 => exact HC1.out)
     rintro e w21 ⟨rfl, hb⟩
     refine ⟨_, rfl, ?_⟩
     have n0_ := yD (zC (kB HB) hb)
     clear HB; have HB := n0_; clear n0_; (try clear hb); (try clear hb2); (try clear hk); (try clear hi)
     refine hK.out _ _ trivial (fun hHeld => ?_)
     clear hK K
     refine norm_ (a' := ?_) ?_ ?_
     rotate_left
     · show Act.put _ (some 13) _ = _
       simp only [Act.put, zH, zI, zJ, i64_w, i32_w]
       rfl
     refine qA 6 14 (bz 31 127) HT_ ?_
     refine qA 7 15 (bz 31 255) HT_ ?_
     refine qA 8 16 (bz 31 511) HT_ ?_
     refine qA 9 17 (bz 31 1023) HT_ ?_
     refine qA 10 18 (bz 31 2047) HT_ ?_
     refine qA 11 19 (bz 31 4095) HT_ ?_
     refine qA 12 20 (bz 31 8191) HT_ ?_
     refine qB 13 21 (bz 31 16383) HT_ ?_
     refine qB 14 22 (bz 31 32767) HT_ ?_
     refine qB 15 23 (bz 31 65535) HT_ ?_
     refine qA 16 24 (bz 31 131071) HT_ ?_
     refine qA 17 25 (bz 31 262143) HT_ ?_
     refine qB 18 26 (bz 31 524287) HT_ ?_
     refine qB 19 27 (bz 31 1048575) HT_ ?_
     refine qB 20 28 (bz 31 2097151) HT_ ?_
     refine qB 21 29 (bz 31 4194303) HT_ ?_
     refine qB 22 30 (bz 31 8388607) HT_ ?_
     refine qB 23 31 (bz 31 16777215) HT_ ?_
     refine qB 24 32 (bz 31 33554431) HT_ ?_
     refine qB 25 33 (bz 31 67108863) HT_ ?_
     refine qB 26 34 (bz 31 134217727) HT_ ?_
     refine qB 27 35 (bz 31 268435455) HT_ ?_
     refine qB 28 36 (bz 31 536870911) HT_ ?_
     refine qA 29 37 (bz 31 1073741823) HT_ ?_
     refine qA 30 38 (bz 31 2147483647) HT_ ?_
     refine done_ (done_of HT_.out (by kernel_rfl)) ?_
     try go_wp2
     go_meet
     case rel => exact ⟨_, (false), (by first | rfl | (simp; done) | (simp [*]; done)), H', ⟨by first | omega | exact Nat.le_refl _⟩, ⟨kR0 HB⟩⟩
   ·
    replace c8 := Bool.eq_false_iff.mpr c8
    subst c8
    replace H : (impl_combine_impl_and.j0 k l0 l1 true) = some (r1, r2) := (by rw [if_neg (show ¬ (false = true) by decide)] at H; exact H)
    have H' := yD H
    clear H
    try go_wp2
    have n0_ := yD (yP HB.out)
    clear HB; have HB := n0_; clear n0_
    refine start_ (n := 31) (S := fun w' => True) (ds := []) (bz 31 0) (by kernel_rfl) rfl rfl trivial (fun hHeld => ?_); refine with_tabW impl_combine_impl_and.tab1 impl_combine_impl_and.bits1 (fun HT_ HW_ => ?_)
    generalize w.drew = w22 at HB hHeld ⊢
    refine qA 0 8 (bz 31 1) HT_ ?_
    refine one_ (i := 1) (N := some 9) (bz 31 3) rfl rfl (one_of HT_.out (by kernel_rfl)) (by decide) (fun K hK => ?_)
    refine goes_ Try.func63 (by kernel_rfl) rfl #[.slice A0 l0.length c0] (by rfl) rfl rfl (by (try simp only [zK, zL, zM]); first | done | rfl | (simp only [zN, zO]; rfl)) ?_
    with_reducible refine (impl_boxesOk.calls k _ _ l0 true _ ?side1 ?side2 A5.out).mono ?_
    (case side1 => exact kV (yY HR0.out HB.out))
    (case side2 => exact HC0.out)
    rintro e w23 ⟨rfl, hb⟩
    refine ⟨_, rfl, ?_⟩
    have n0_ := yD (zC (kB HB) hb)
    clear HB; have HB := n0_; clear n0_; (try clear hb); (try clear hb2); (try clear hk); (try clear hi)
    refine hK.out _ _ trivial (fun hHeld => ?_)
    clear hK K
    refine norm_ (a' := ?_) ?_ ?_
    rotate_left
    · show Act.put _ (some 9) _ = _
      simp only [Act.put, zH, zI, zJ, i64_w, i32_w]
      rfl
    refine qA 2 10 (bz 31 7) HT_ ?_
    refine qA 3 11 (bz 31 15) HT_ ?_
    refine qA 4 12 (bz 31 31) HT_ ?_
    refine one_ (i := 5) (N := some 13) (bz 31 63) rfl rfl (one_of HT_.out (by kernel_rfl)) (by decide) (fun K hK => ?_)
    refine goes_ Try.func63 (by kernel_rfl) rfl #[.slice A1 l1.length c1] (by rfl) rfl rfl (by (try simp only [zK, zL, zM]); first | done | rfl | (simp only [zN, zO]; rfl)) ?_
    with_reducible refine (impl_boxesOk.calls k _ _ l1 false _ ?side1 ?side2 A7.out).mono ?_
    (case side1 => exact kV (yY HR1.out HB.out))
    (case side2 => exact HC1.out)
    rintro e w24 ⟨rfl, hb⟩
    refine ⟨_, rfl, ?_⟩
    have n0_ := yD (zC (kB HB) hb)
    clear HB; have HB := n0_; clear n0_; (try clear hb); (try clear hb2); (try clear hk); (try clear hi)
    refine hK.out _ _ trivial (fun hHeld => ?_)
    clear hK K
    refine norm_ (a' := ?_) ?_ ?_
    rotate_left
    · show Act.put _ (some 13) _ = _
      simp only [Act.put, zH, zI, zJ, i64_w, i32_w]
      rfl
    refine qA 6 14 (bz 31 127) HT_ ?_
    refine qA 7 15 (bz 31 255) HT_ ?_
    refine qA 8 16 (bz 31 511) HT_ ?_
    refine qB 9 17 (bz 31 1023) HT_ ?_
    refine qB 10 18 (bz 31 2047) HT_ ?_
    refine qB 11 19 (bz 31 4095) HT_ ?_
    refine qB 12 20 (bz 31 8191) HT_ ?_
    refine qB 13 21 (bz 31 16383) HT_ ?_
    refine qB 14 22 (bz 31 32767) HT_ ?_
    refine qB 15 23 (bz 31 65535) HT_ ?_
    refine qB 16 24 (bz 31 131071) HT_ ?_
    refine qB 17 25 (bz 31 262143) HT_ ?_
    refine qB 18 26 (bz 31 524287) HT_ ?_
    refine qB 19 27 (bz 31 1048575) HT_ ?_
    refine qB 20 28 (bz 31 2097151) HT_ ?_
    refine qB 21 29 (bz 31 4194303) HT_ ?_
    refine qB 22 30 (bz 31 8388607) HT_ ?_
    refine qB 23 31 (bz 31 16777215) HT_ ?_
    refine qB 24 32 (bz 31 33554431) HT_ ?_
    refine qB 25 33 (bz 31 67108863) HT_ ?_
    refine qB 26 34 (bz 31 134217727) HT_ ?_
    refine qB 27 35 (bz 31 268435455) HT_ ?_
    refine qB 28 36 (bz 31 536870911) HT_ ?_
    refine qB 29 37 (bz 31 1073741823) HT_ ?_
    refine qA 30 38 (bz 31 2147483647) HT_ ?_
    refine done_ (done_of HT_.out (by kernel_rfl)) ?_
    try go_wp2
    go_meet
    case rel => exact ⟨_, (true), (by first | rfl | (simp; done) | (simp [*]; done)), H', ⟨by first | omega | exact Nat.le_refl _⟩, ⟨kR0 HB⟩⟩
  ·
   replace c6 := Bool.eq_false_iff.mpr c6
   subst c6
   replace H : (impl_combine_impl_and.j0 k l0 l1 true) = some (r1, r2) := (by rw [if_neg (show ¬ (false = true) by decide)] at H; exact H)
   have H' := yD H
   clear H
   try go_wp2
   have n0_ := yD (yP HB.out)
   clear HB; have HB := n0_; clear n0_
   refine start_ (n := 31) (S := fun w' => True) (ds := []) (bz 31 0) (by kernel_rfl) rfl rfl trivial (fun hHeld => ?_); refine with_tabW impl_combine_impl_and.tab1 impl_combine_impl_and.bits1 (fun HT_ HW_ => ?_)
   generalize w.drew = w25 at HB hHeld ⊢
   refine qA 0 8 (bz 31 1) HT_ ?_
   refine one_ (i := 1) (N := some 9) (bz 31 3) rfl rfl (one_of HT_.out (by kernel_rfl)) (by decide) (fun K hK => ?_)
   refine goes_ Try.func63 (by kernel_rfl) rfl #[.slice A0 l0.length c0] (by rfl) rfl rfl (by (try simp only [zK, zL, zM]); first | done | rfl | (simp only [zN, zO]; rfl)) ?_
   with_reducible refine (impl_boxesOk.calls k _ _ l0 false _ ?side1 ?side2 A5.out).mono ?_
   (case side1 => exact kV (yY HR0.out HB.out))
   (case side2 => exact HC0.out)
   rintro e w26 ⟨rfl, hb⟩
   refine ⟨_, rfl, ?_⟩
   have n0_ := yD (zC (kB HB) hb)
   clear HB; have HB := n0_; clear n0_; (try clear hb); (try clear hb2); (try clear hk); (try clear hi)
   refine hK.out _ _ trivial (fun hHeld => ?_)
   clear hK K
   refine norm_ (a' := ?_) ?_ ?_
   rotate_left
   · show Act.put _ (some 9) _ = _
     simp only [Act.put, zH, zI, zJ, i64_w, i32_w]
     rfl
   refine qA 2 10 (bz 31 7) HT_ ?_
   refine qA 3 11 (bz 31 15) HT_ ?_
   refine qB 4 12 (bz 31 31) HT_ ?_
   refine qB 5 13 (bz 31 63) HT_ ?_
   refine qB 6 14 (bz 31 127) HT_ ?_
   refine qA 7 15 (bz 31 255) HT_ ?_
   refine qA 8 16 (bz 31 511) HT_ ?_
   refine qB 9 17 (bz 31 1023) HT_ ?_
   refine qB 10 18 (bz 31 2047) HT_ ?_
   refine qB 11 19 (bz 31 4095) HT_ ?_
   refine qB 12 20 (bz 31 8191) HT_ ?_
   refine qB 13 21 (bz 31 16383) HT_ ?_
   refine qB 14 22 (bz 31 32767) HT_ ?_
   refine qB 15 23 (bz 31 65535) HT_ ?_
   refine qB 16 24 (bz 31 131071) HT_ ?_
   refine qB 17 25 (bz 31 262143) HT_ ?_
   refine qB 18 26 (bz 31 524287) HT_ ?_
   refine qB 19 27 (bz 31 1048575) HT_ ?_
   refine qB 20 28 (bz 31 2097151) HT_ ?_
   refine qB 21 29 (bz 31 4194303) HT_ ?_
   refine qB 22 30 (bz 31 8388607) HT_ ?_
   refine qB 23 31 (bz 31 16777215) HT_ ?_
   refine qB 24 32 (bz 31 33554431) HT_ ?_
   refine qB 25 33 (bz 31 67108863) HT_ ?_
   refine qB 26 34 (bz 31 134217727) HT_ ?_
   refine qB 27 35 (bz 31 268435455) HT_ ?_
   refine qB 28 36 (bz 31 536870911) HT_ ?_
   refine qB 29 37 (bz 31 1073741823) HT_ ?_
   refine qA 30 38 (bz 31 2147483647) HT_ ?_
   refine done_ (done_of HT_.out (by kernel_rfl)) ?_
   try go_wp2
   go_meet
   case rel => exact ⟨_, (true), (by first | rfl | (simp; done) | (simp [*]; done)), H', ⟨by first | omega | exact Nat.le_refl _⟩, ⟨kR0 HB⟩⟩
 case rest =>
  clear HC4; try clear c1; try clear c6; try clear c8
  obtain ⟨kq, x38_3, rfl, HA, HJ3, HB⟩ := hcut
  cases kq with
  | zero => exact absurd HA.out (by simp [impl_combine_impl_and.j0])
  | succ kj3 =>
   have H := HA.out; clear HA
   simp only [impl_combine_impl_and.j0] at H
   by_cases c27 : x38_3 = true
   · subst c27
     replace H : (some (([] : List (S42)), 1)) = some (r1, r2) := (by rw [if_pos rfl] at H; exact H)
     simp only [Option.some.injEq, Prod.mk.injEq] at H
     obtain ⟨rfl, rfl⟩ := H
     go_wp2
     go_ret2
     exact ⟨_, by first | rfl | (simp <;> rfl) | (simp [*] <;> rfl), by first | exact Kd.S_nil _ _ _ _ _ | exact Kd.N_nil _ _ _ _ _ | exact Kd.V_nil _ _ _ _ _ | exact Kd.Q_nil _ _ _ _ _ | exact Kd.R_nil _ _ _ _ _, kR0 HB⟩
   ·
    replace c27 := Bool.eq_false_iff.mpr c27
    subst c27
    replace H : ((impl_rankOf.f kj3 l0 l1).bind fun t316 => ((impl_combined_impl_and.f kj3 t316 l0 l1).bind fun t317 => ((impl_normalFull.f t317).bind fun bt320 => (some (bt320.1, bt320.2))))) = some (r1, r2) := (by rw [if_neg (show ¬ (false = true) by decide)] at H; exact H)
    obtain ⟨t316, A280, H⟩ := zW_ H
    replace H : ((impl_combined_impl_and.f kj3 t316 l0 l1).bind fun t317 => ((impl_normalFull.f t317).bind fun bt320 => (some (bt320.1, bt320.2)))) = some (r1, r2) := H
    have A28 := yD A280
    clear A280
    obtain ⟨t317, A290, H⟩ := zW_ H
    replace H : ((impl_normalFull.f t317).bind fun bt320 => (some (bt320.1, bt320.2))) = some (r1, r2) := H
    have A29 := yD A290
    clear A290
    obtain ⟨⟨t320, t323⟩, A300, H⟩ := zW_ H
    replace H : (some (t320, t323)) = some (r1, r2) := H
    have A30 := yD A300
    clear A300
    simp only [Option.some.injEq, Prod.mk.injEq] at H
    obtain ⟨rfl, rfl⟩ := H
    go_wp2_with (first | ((with_reducible refine gate_callee (f := 99) rfl ?_); refine gL 41 Try.func99 #[.slice A0 l0.length c0, .slice A1 l1.length c1] ?_; (with_reducible refine (impl_rankOf.calls kj3 (fun k_ => k_ < w.heap.size) _ _ l0 (fun k_ => k_ < w.heap.size) _ _ l1 t316 _ ?side1 ?side2 A28.out).mono ?_); (case side1 => exact Kd.V_mk HC0.out (Kd.F_below (Kd.C_F k42_heap HR0.out) (kB HB))); (case side2 => exact Kd.V_mk HC1.out (Kd.F_below (Kd.C_F k42_heap HR1.out) (kB HB))); rintro e w31 ⟨rfl, hb⟩; refine ⟨_, rfl, ?_⟩; replace HB := yD (zC (kB HB) hb); clear hb) | ((with_reducible refine gate_callee (f := 87) rfl ?_); refine gL 45 Try.func87 #[.int .i64 t316, .slice A0 l0.length c0, .slice A1 l1.length c1, .func (.func 58) #[] #[]] ?_; (with_reducible refine (impl_combined_impl_and.calls kj3 t316 _ _ l0 _ _ l1  t317 _ ?side1 ?side2 ?side3 ?side4 A29.out).mono ?_); (case side1 => exact kV (yY HR0.out HB.out)); (case side2 => exact HC0.out); (case side3 => exact kV (yY HR1.out HB.out)); (case side4 => exact HC1.out); rintro e w32 ⟨v318, rfl, ho0, hb⟩; refine ⟨_, rfl, ?_⟩; have HO319 := yD (zG ho0 (below_size (kB HB))); replace HB := yD (zC (kB HB) hb); clear hb ho0; obtain ⟨Ao33, co33, eo33⟩ := Kd.S_slice HO319.out; subst eo33) | ((with_reducible refine gate_callee (f := 86) rfl ?_); refine gL 46 Try.func86 #[.slice Ao33 t317.length co33] ?_; (with_reducible refine (impl_normalFull.calls ?P5_2 (.slice Ao33 t317.length co33) t317 t320 t323 w _ ?side1 ?side2 A30.out).mono ?_); (case side1 => exact kR0 HB); (case side2 => exact HO319.out); rintro e w34 ⟨v321, rfl, ho0, hb, hkp⟩; refine ⟨_, rfl, ?_⟩; have HO322 := yD (Kd.S_mono (ok' := fun k_ => True) ho0 (fun k_ hk_ => trivial)); replace HB := yD (hb); clear HO319; clear hb hkp ho0))
    go_ret2
    exact ⟨_, by first | rfl | (simp <;> rfl) | (simp [*] <;> rfl), kS HO322, kR0 HB⟩
/-! ### impl_IntersectBoxes: function 23 -/
def impl_IntersectBoxes.f (k : Nat) (l0 : List (S42)) (l1 : List (S42)) : Option ((List (S42)) × Int) := (impl_combine_impl_and.f k l0 l1).bind fun bt324 => (some (bt324.1, bt324.2))
theorem impl_IntersectBoxes.mono : ∀ a0 a1 k, LeO (impl_IntersectBoxes.f k a0 a1) (impl_IntersectBoxes.f (k + 1) a0 a1) := by
 intro a0 a1 k
 unfold impl_IntersectBoxes.f
 repeat' (with_reducible first | exact impl_combine_impl_and.mono _ _ _ | exact LeO.refl _ | exact LeO.none _ | refine LeO.ite ?_ ?_ | refine LeO.bind ?_ (fun _ => ?_))
set_option maxHeartbeats 8000000 in
set_option maxRecDepth 100000 in
theorem impl_IntersectBoxes.calls (k : Nat) (A0 : Option Addr) (c0 : Nat) (l0 : List (S42)) (A1 : Option Addr) (c1 : Nat) (l1 : List (S42)) (r1 : List (S42)) (r2 : Int) (w : World) (hr0 : Kd.C k42 w A0 l0.length l0) (hc0 : l0.length ≤ c0) (hr1 : Kd.C k42 w A1 l1.length l1) (hc1 : l1.length ≤ c1) (h : impl_IntersectBoxes.f k l0 l1 = some (r1, r2)) :
 Calls Try.prog 23 #[.slice A0 l0.length c0, .slice A1 l1.length c1] w fun e w' => ∃ v0_ : Value, e = .returned (.tuple #[v0_, .int .i64 r2]) ∧ Kd.S k42 42 w' w.heap.size (fun _ => True) v0_ r1 ∧ Below w.heap.size w w' := by
 have HR0 := yD hr0
 have HC0 := yD hc0
 clear hr0 hc0
 have HR1 := yD hr1
 have HC1 := yD hc1
 clear hr1 hc1
 have HB := yD (Below.refl w.heap.size w)
 have H : ((impl_combine_impl_and.f k l0 l1).bind fun bt324 => (some (bt324.1, bt324.2))) = some (r1, r2) := h
 clear h
 obtain ⟨⟨t324, t327⟩, A30, H⟩ := zW_ H
 replace H : (some (t324, t327)) = some (r1, r2) := H
 have A3 := yD A30
 clear A30
 simp only [Option.some.injEq, Prod.mk.injEq] at H
 obtain ⟨rfl, rfl⟩ := H
 go_enter Try.func23, Try.ntmps23
 go_wp2_with (first | ((with_reducible refine gate_callee (f := 56) rfl ?_); refine gL 8 Try.func56 #[.slice A0 l0.length c0, .slice A1 l1.length c1, .func (.func 58) #[] #[]] ?_; (with_reducible refine (impl_combine_impl_and.calls k _ _ l0 _ _ l1  t324 t327 _ ?side1 ?side2 ?side3 ?side4 A3.out).mono ?_); (case side1 => repeat (first | exact HR0.out | (with_reducible first | refine yV ?_ _ | refine yW ?_ _ | refine yX ?_))); (case side2 => exact HC0.out); (case side3 => repeat (first | exact HR1.out | (with_reducible first | refine yV ?_ _ | refine yW ?_ _ | refine yX ?_))); (case side4 => exact HC1.out); rintro e w4 ⟨v325, rfl, ho0, hb⟩; refine ⟨_, rfl, ?_⟩; have HO326 := yD (zG ho0 (below_size (kB HB))); replace HB := yD (zC (kB HB) hb); clear hb ho0))
 go_ret2
 exact ⟨_, by first | rfl | (simp <;> rfl) | (simp [*] <;> rfl), kS HO326, kR0 HB⟩

/-! ### impl_without: function 59 -/
def impl_without.f (a0 : Bool) (a1 : Bool) : Option (Bool) := if a0 = true then (some (!a1)) else (some false)
set_option maxHeartbeats 8000000 in
set_option maxRecDepth 100000 in
theorem impl_without.calls (a0 : Bool) (a1 : Bool) (r : Bool) (w : World) (h : impl_without.f a0 a1 = some r) :
 Calls Try.prog 59 #[.bool a0, .bool a1] w fun e w' => e = .returned (.bool r) ∧ Drawn0 w w' := by
 have H : (if a0 = true then (some (!a1)) else (some false)) = some r := h
 clear h
 by_cases c3 : a0 = true
 · subst c3
   replace H : (some (!a1)) = some r := (by rw [if_pos rfl] at H; exact H); obtain rfl := Option.some.inj H; go_enter Try.func59, Try.ntmps59
   go_wp2
   go_ret
   exact ⟨by first | rfl | (simp; done) | (simp [*]; done), by repeat (first | exact Drawn0.refl _ | apply Drawn0.step)⟩
 ·
  replace c3 := Bool.eq_false_iff.mpr c3
  subst c3
  replace H : (some false) = some r := (by rw [if_neg (show ¬ (false = true) by decide)] at H; exact H); obtain rfl := Option.some.inj H; go_enter Try.func59, Try.ntmps59
  go_wp2
  go_ret
  exact ⟨by first | rfl | (simp; done) | (simp [*]; done), by repeat (first | exact Drawn0.refl _ | apply Drawn0.step)⟩

/-! ### impl_combined_impl_without: function 87 -/
mutual
def impl_combined_impl_without.j0 : Nat → Int → List (S42) → List (S42) → Bool → Option ((List (S42)))
 | 0, _, _, _, _ => none
 | k + 1, x0, x1, x2, x33 => if x33 = true then (some ([] : List (S42))) else (impl_combined_impl_without.l0 k x0 x1 x2 ([] : List (S42)) ([] : List (S42)) 0 0)
def impl_combined_impl_without.l0 : Nat → Int → List (S42) → List (S42) → List (S42) → List (S42) → Int → Int → Option ((List (S42)))
 | 0, _, _, _, _, _, _, _ => none
 | k + 1, x0, x1, x2, x9, x10, x11, x34 => if x34 < 41 then (if x34 < 40 then ((impl_section.f k x1 x34).bind fun t332 => ((impl_section.f k x2 x34).bind fun t335 => ((impl_combined_impl_without.f k (wrap64 (x0 - 1)) t332 t335).bind fun t338 => (impl_combined_impl_without.j2 k x0 x1 x2 x9 x10 x11 x34 t338 x34)))) else (impl_combined_impl_without.j2 k x0 x1 x2 x9 x10 x11 x34 ([] : List (S42)) x34)) else (some x9)
def impl_combined_impl_without.j2 : Nat → Int → List (S42) → List (S42) → List (S42) → List (S42) → Int → Int → List (S42) → Int → Option ((List (S42)))
 | 0, _, _, _, _, _, _, _, _, _ => none
 | k + 1, x0, x1, x2, x9, x10, x11, x12, x13, x34 => (impl_SameBoxes.f k x13 x10).bind fun t341 => (if t341 = true then (impl_combined_impl_without.l0 k x0 x1 x2 x9 x10 x11 (wrap64 (x34 + 1))) else ((impl_prefixed.f k x10 x11 x12).bind fun t342 => (if x9.length + t342.length < 2932031007402 then (impl_combined_impl_without.l0 k x0 x1 x2 (x9 ++ t342) x13 x12 (wrap64 (x34 + 1))) else (none))))
def impl_combined_impl_without.f : Nat → Int → List (S42) → List (S42) → Option ((List (S42)))
 | 0, _, _, _ => none
 | k + 1, a0, l1, l2 => if a0 = 0 then ((impl_without.f (decide ((l1.length : Int) > 0)) (decide ((l2.length : Int) > 0))).bind fun t328 => (if t328 = true then (some (([(⟨([] : List Int), ([] : List Int)⟩ : S42)] : List (S42)))) else (some ([] : List (S42))))) else (if (l1.length : Int) = 0 then (impl_combined_impl_without.j0 k a0 l1 l2 ((l2.length : Int) == 0)) else (impl_combined_impl_without.j0 k a0 l1 l2 false))
end
theorem impl_combined_impl_without.mono_l : ∀ k, (∀ y0 y1 y2, LeO (impl_combined_impl_without.f k y0 y1 y2) (impl_combined_impl_without.f (k + 1) y0 y1 y2)) ∧ (∀ y0 y1 y2 y3, LeO (impl_combined_impl_without.j0 k y0 y1 y2 y3) (impl_combined_impl_without.j0 (k + 1) y0 y1 y2 y3)) ∧ (∀ y0 y1 y2 y3 y4 y5 y6, LeO (impl_combined_impl_without.l0 k y0 y1 y2 y3 y4 y5 y6) (impl_combined_impl_without.l0 (k + 1) y0 y1 y2 y3 y4 y5 y6)) ∧ (∀ y0 y1 y2 y3 y4 y5 y6 y7 y8, LeO (impl_combined_impl_without.j2 k y0 y1 y2 y3 y4 y5 y6 y7 y8) (impl_combined_impl_without.j2 (k + 1) y0 y1 y2 y3 y4 y5 y6 y7 y8))
 | 0 => ⟨fun _ _ _ r h => by simp [impl_combined_impl_without.f] at h, fun _ _ _ _ r h => by simp [impl_combined_impl_without.j0] at h, fun _ _ _ _ _ _ _ r h => by simp [impl_combined_impl_without.l0] at h, fun _ _ _ _ _ _ _ _ _ r h => by simp [impl_combined_impl_without.j2] at h⟩
 | k + 1 => by
  obtain ⟨ih0, ih1, ih2, ih3⟩ := impl_combined_impl_without.mono_l k
  refine ⟨?_, ?_, ?_, ?_⟩
  · intro y0 y1 y2
    unfold impl_combined_impl_without.f
    repeat' (with_reducible first | exact ih0 _ _ _ | exact ih1 _ _ _ _ | exact ih2 _ _ _ _ _ _ _ | exact ih3 _ _ _ _ _ _ _ _ _ | exact impl_SameBoxes.mono _ _ _ | exact impl_prefixed.mono _ _ _ _ | exact impl_section.mono _ _ _ | exact LeO.refl _ | exact LeO.none _ | refine LeO.ite ?_ ?_ | refine LeO.bind ?_ (fun _ => ?_))
  · intro y0 y1 y2 y3
    unfold impl_combined_impl_without.j0
    repeat' (with_reducible first | exact ih0 _ _ _ | exact ih1 _ _ _ _ | exact ih2 _ _ _ _ _ _ _ | exact ih3 _ _ _ _ _ _ _ _ _ | exact impl_SameBoxes.mono _ _ _ | exact impl_prefixed.mono _ _ _ _ | exact impl_section.mono _ _ _ | exact LeO.refl _ | exact LeO.none _ | refine LeO.ite ?_ ?_ | refine LeO.bind ?_ (fun _ => ?_))
  · intro y0 y1 y2 y3 y4 y5 y6
    unfold impl_combined_impl_without.l0
    repeat' (with_reducible first | exact ih0 _ _ _ | exact ih1 _ _ _ _ | exact ih2 _ _ _ _ _ _ _ | exact ih3 _ _ _ _ _ _ _ _ _ | exact impl_SameBoxes.mono _ _ _ | exact impl_prefixed.mono _ _ _ _ | exact impl_section.mono _ _ _ | exact LeO.refl _ | exact LeO.none _ | refine LeO.ite ?_ ?_ | refine LeO.bind ?_ (fun _ => ?_))
  · intro y0 y1 y2 y3 y4 y5 y6 y7 y8
    unfold impl_combined_impl_without.j2
    repeat' (with_reducible first | exact ih0 _ _ _ | exact ih1 _ _ _ _ | exact ih2 _ _ _ _ _ _ _ | exact ih3 _ _ _ _ _ _ _ _ _ | exact impl_SameBoxes.mono _ _ _ | exact impl_prefixed.mono _ _ _ _ | exact impl_section.mono _ _ _ | exact LeO.refl _ | exact LeO.none _ | refine LeO.ite ?_ ?_ | refine LeO.bind ?_ (fun _ => ?_))
theorem impl_combined_impl_without.mono : ∀ a0 a1 a2 k, LeO (impl_combined_impl_without.f k a0 a1 a2) (impl_combined_impl_without.f (k + 1) a0 a1 a2) := by
 intro a0 a1 a2 k
 obtain ⟨ih0, ih1, ih2, ih3⟩ := impl_combined_impl_without.mono_l k
 exact ih0 a0 a1 a2
set_option maxHeartbeats 8000000 in
set_option maxRecDepth 100000 in
theorem impl_combined_impl_without.calls (k : Nat) : ∀ (a0 : Int) (A1 : Option Addr) (c1 : Nat) (l1 : List (S42)) (A2 : Option Addr) (c2 : Nat) (l2 : List (S42))  (r : List (S42)) (w : World) (hr1 : Kd.C k42 w A1 l1.length l1) (hc1 : l1.length ≤ c1) (hr2 : Kd.C k42 w A2 l2.length l2) (hc2 : l2.length ≤ c2) (h : impl_combined_impl_without.f k a0 l1 l2 = some r),
 Calls Try.prog 87 #[.int .i64 a0, .slice A1 l1.length c1, .slice A2 l2.length c2, .func (.func 59) #[] #[]] w fun e w' => ∃ v0_ : Value, e = .returned (v0_) ∧ Kd.S k42 42 w' w.heap.size (fun _ => True) v0_ r ∧ Below w.heap.size w w' := by
 induction k using Nat.strongRecOn with
 | _ k ih =>
 intro a0 A1 c1 l1 A2 c2 l2 r w hr1 hc1 hr2 hc2 h
 cases k with
 | zero => exact absurd h (by simp [impl_combined_impl_without.f])
 | succ k =>
 simp only [impl_combined_impl_without.f] at h
 have hu42 := Try.underlying42
 have HR1 := yD hr1
 have HC1 := yD hc1
 clear hr1 hc1
 have HR2 := yD hr2
 have HC2 := yD hc2
 clear hr2 hc2
 have HB := yD (Below.refl w.heap.size w)
 have H : (if a0 = 0 then ((impl_without.f (decide ((l1.length : Int) > 0)) (decide ((l2.length : Int) > 0))).bind fun t328 => (if t328 = true then (some (([(⟨([] : List Int), ([] : List Int)⟩ : S42)] : List (S42)))) else (some ([] : List (S42))))) else (if (l1.length : Int) = 0 then (impl_combined_impl_without.j0 k a0 l1 l2 ((l2.length : Int) == 0)) else (impl_combined_impl_without.j0 k a0 l1 l2 false))) = some r := h
 clear h
 by_cases c5 : a0 = 0
 ·
  rw [if_pos c5] at H
  have c5b0 : (a0 == 0) = true := beq_iff_eq.mpr c5
  have c5b1 : (a0 != 0) = false := bne_eq_false_iff_eq.mpr c5
  clear c5
  obtain ⟨t328, A60, H⟩ := zW_ H
  replace H : (if t328 = true then (some (([(⟨([] : List Int), ([] : List Int)⟩ : S42)] : List (S42)))) else (some ([] : List (S42)))) = some r := H
  have A6 := yD A60
  clear A60
  by_cases c7 : t328 = true
  ·
   subst c7
   replace H : (some (([(⟨([] : List Int), ([] : List Int)⟩ : S42)] : List (S42)))) = some r := (by rw [if_pos rfl] at H; exact H)
   obtain ⟨y329, hy329⟩ : ∃ y_ : List (S42), y_ = (([(⟨([] : List Int), ([] : List Int)⟩ : S42)] : List (S42))) := ⟨_, rfl⟩
   replace H : (some y329) = some r := by first | (rw [hy329]; with_reducible exact H) | (have H2_ := (Option.bind_some _ _).symm.trans H; rw [hy329]; with_reducible exact H2_) | (have H2_ := (Option.bind_some _ _).symm.trans H; with_reducible exact H2_) | with_reducible exact H | (rw [hy329]; exact H) | exact H
   have Ny329 := yD hy329
   clear hy329; obtain rfl := Option.some.inj H; go_enter Try.func87, Try.ntmps87
   go_wp2_with (first | (go_at_call 59; (refine (impl_without.calls (decide (0 < l1.length)) (decide (0 < l2.length)) true _ (by have h_ := A6.out; rw [show decide ((l1.length : Int) > 0) = decide (0 < l1.length) from decide_eq_decide.2 (by omega), show decide ((l2.length : Int) > 0) = decide (0 < l2.length) from decide_eq_decide.2 (by omega)] at h_; exact h_)).mono ?_); rintro e w' ⟨rfl, ⟨nd, rfl⟩⟩) | ((with_reducible refine gate_dst (N := 25) rfl ?_); (try (refine gate_guard (by rfl) ?_; dsimp only)); refine Kd.S_lit k42 _ 42 ?hg (N := 25) ?hd (xs := ([(⟨([] : List Int), ([] : List Int)⟩ : S42)] : List (S42))) (inner := [.slice none 0 0, .slice none 0 0]) (ok := fun _ => True) (okp := fun _ => True) ?hr ?hp (fun _ hk => hk) trivial (Below.refl _ _) (Nat.le_refl _) (by simp) ?_; (case hd => rfl); (case hg => rfl); (case hr => first | (go_simp; done) | (go_simp; rfl)); (case hp => exact (Reps.c2 (show Kd.M k42 _ _ _ (⟨([] : List Int), ([] : List Int)⟩ : S42) [.slice none 0 0, .slice none 0 0] from (k42_mkM _ _ _ (⟨([] : List Int), ([] : List Int)⟩ : S42) (Kd.R_nil _ _ _ _ _) (Kd.R_nil _ _ _ _ _))) (Reps.none _ _))); intro v330 w8 ho9 hb hg_ hnew_; clear hg_ hnew_; (first | rw [← Ny329.out] at ho9 | (simp only [Int.reduceToNat] at ho9; rw [← Ny329.out] at ho9)); have HO331 := yD (zG ho9 (below_size (kB HB))); replace HB := yD (zC (kB HB) hb); clear hb ho9))
   go_ret
   exact ⟨_, by first | rfl | (simp <;> rfl) | (simp [*] <;> rfl), kS HO331, kR0 HB⟩
  · replace c7 := Bool.eq_false_iff.mpr c7
    subst c7
    replace H : (some ([] : List (S42))) = some r := (by rw [if_neg (show ¬ (false = true) by decide)] at H; exact H); obtain rfl := Option.some.inj H; go_enter Try.func87, Try.ntmps87
    go_wp2_with (first | (go_at_call 59; (refine (impl_without.calls (decide (0 < l1.length)) (decide (0 < l2.length)) false _ (by have h_ := A6.out; rw [show decide ((l1.length : Int) > 0) = decide (0 < l1.length) from decide_eq_decide.2 (by omega), show decide ((l2.length : Int) > 0) = decide (0 < l2.length) from decide_eq_decide.2 (by omega)] at h_; exact h_)).mono ?_); rintro e w' ⟨rfl, ⟨nd, rfl⟩⟩))
    go_ret
    exact ⟨_, by first | rfl | (simp <;> rfl) | (simp [*] <;> rfl), by first | exact Kd.S_nil _ _ _ _ _ | exact Kd.N_nil _ _ _ _ _ | exact Kd.V_nil _ _ _ _ _ | exact Kd.Q_nil _ _ _ _ _ | exact Kd.R_nil _ _ _ _ _, kR0 HB⟩
 ·
  rw [if_neg c5] at H
  have c5b0 : (a0 == 0) = false := beq_eq_false_iff_ne.mpr c5
  have c5b1 : (a0 != 0) = true := bne_iff_ne.mpr c5
  have HC10 := yD H
  clear H; go_enter Try.func87, Try.ntmps87
  go_upto_region 5 with (fail)
  go_cut [33] (fun v33 wc => ∃ (kq : Nat) (x33_9 : Bool), v33 = .bool x33_9 ∧ Aside0 (impl_combined_impl_without.j0 kq a0 l1 l2 x33_9 = some r) ∧ Aside0 (kq ≤ k) ∧ Aside0 (Below w.heap.size w wc))
  case first =>
   have H := HC10.out; clear HC10
   by_cases c11 : (l1.length : Int) = 0
   ·
    rw [if_pos c11] at H
    have c11b0 : ((l1.length : Int) == 0) = true := beq_iff_eq.mpr c11
    have c11b1 : ((l1.length : Int) != 0) = false := bne_eq_false_iff_eq.mpr c11
    clear c11
    (first | rw [c11b0] | (simp only [i64_w, i32_w]; rw [c11b0]) | (simp only [bne] at c11b0; rw [c11b0]) | skip)
    have H' := yD H
    clear H
    go_wp2
    go_meet
    case rel => exact ⟨_, (((l2.length : Int) == 0)), (by first | rfl | (simp; done) | (simp [*]; done)), H', ⟨by first | omega | exact Nat.le_refl _⟩, ⟨kR0 HB⟩⟩
   ·
    rw [if_neg c11] at H
    have c11b0 : ((l1.length : Int) == 0) = false := beq_eq_false_iff_ne.mpr c11
    have c11b1 : ((l1.length : Int) != 0) = true := bne_iff_ne.mpr c11
    have c11b2 : ¬ (l1 = []) := fun h_ => c11 (by rw [h_]; rfl)
    (first | rw [c11b0] | (simp only [i64_w, i32_w]; rw [c11b0]) | (simp only [bne] at c11b0; rw [c11b0]) | skip)
    have H' := yD H
    clear H
    go_wp2
    go_meet
    case rel => exact ⟨_, (false), (by first | rfl | (simp; done) | (simp [*]; done)), H', ⟨by first | omega | exact Nat.le_refl _⟩, ⟨kR0 HB⟩⟩
  case rest =>
   clear HC10; try clear c1; try clear c2; try clear c5; try clear c5b0; try clear c5b1; try clear c7; try clear c11; try clear c11b0; try clear c11b1; try clear c11b2
   obtain ⟨kq, x33_9, rfl, HA, HJ9, HB⟩ := hcut
   cases kq with
   | zero => exact absurd HA.out (by simp [impl_combined_impl_without.j0])
   | succ kj9 =>
    have H := HA.out; clear HA
    simp only [impl_combined_impl_without.j0] at H
    by_cases c12 : x33_9 = true
    · subst c12
      replace H : (some ([] : List (S42))) = some r := (by rw [if_pos rfl] at H; exact H); obtain rfl := Option.some.inj H
      go_wp2
      go_ret
      exact ⟨_, by first | rfl | (simp <;> rfl) | (simp [*] <;> rfl), by first | exact Kd.S_nil _ _ _ _ _ | exact Kd.N_nil _ _ _ _ _ | exact Kd.V_nil _ _ _ _ _ | exact Kd.Q_nil _ _ _ _ _ | exact Kd.R_nil _ _ _ _ _, kR0 HB⟩
    ·
     replace c12 := Bool.eq_false_iff.mpr c12
     subst c12
     replace H : (impl_combined_impl_without.l0 kj9 a0 l1 l2 ([] : List (S42)) ([] : List (S42)) 0 0) = some r := (by rw [if_neg (show ¬ (false = true) by decide)] at H; exact H)
     have H' := yD H
     clear H
     go_wp2
     go_loopg [9, 10, 11, 34] kj9 (fun kq v9 v10 v11 v34 w' => ∃ (x9_2 : List (S42)) (x10_2 : List (S42)) (x11_2 : Int) (x34_2 : Int), v11 = .int .i64 x11_2 ∧ v34 = .int .i64 x34_2 ∧ Aside0 (impl_combined_impl_without.l0 kq a0 l1 l2 x9_2 x10_2 x11_2 x34_2 = some r) ∧ Aside0 (kq ≤ kj9) ∧ Aside0 (Kd.S k42 42 w' w.heap.size (fun k_ => oB v10 k_) v9 x9_2) ∧ Aside0 (Kd.S k42 42 w' w.heap.size (fun k_ => oB v9 k_) v10 x10_2) ∧ Aside0 (Below w.heap.size w w'))
     case atStart => exact ⟨(([] : List (S42))), (([] : List (S42))), (0), (0), (by first | rfl | (simp; done) | (simp [*]; done)), (by first | rfl | (simp; done) | (simp [*]; done)), H', ⟨Nat.le_refl _⟩, ⟨by first | exact Kd.S_nil _ _ _ _ _ | exact Kd.N_nil _ _ _ _ _ | exact Kd.V_nil _ _ _ _ _ | exact Kd.Q_nil _ _ _ _ _ | exact Kd.R_nil _ _ _ _ _⟩, ⟨by first | exact Kd.S_nil _ _ _ _ _ | exact Kd.N_nil _ _ _ _ _ | exact Kd.V_nil _ _ _ _ _ | exact Kd.Q_nil _ _ _ _ _ | exact Kd.R_nil _ _ _ _ _⟩, ⟨kR0 HB⟩⟩
     case round =>
      clear H'
      try clear c1; try clear c2; try clear c5; try clear c5b0; try clear c5b1; try clear c7; try clear c11; try clear c11b0; try clear c11b1; try clear c11b2; try clear c12
      obtain ⟨x9_2, x10_2, x11_2, x34_2, rfl, rfl, HA, HK2, HO_9, HO_10, HB⟩ := hrel
      cases gk with
      | zero => exact absurd HA.out (by simp [impl_combined_impl_without.l0])
      | succ k2 =>
       have H := HA.out; clear HA
       simp only [impl_combined_impl_without.l0] at H
       by_cases c13 : x34_2 < 41
       ·
        rw [if_pos c13] at H
        have c13b0 : decide (x34_2 < 41) = true := zR c13; clear c13
        have HC14 := yD H
        clear H
        go_upto_if 38 with (fail)
        go_cut [13] (fun v13 wc => ∃ (kq : Nat) (x13_13 : List (S42)), Aside0 (impl_combined_impl_without.j2 kq a0 l1 l2 x9_2 x10_2 x11_2 x34_2 x13_13 x34_2 = some r) ∧ Aside0 (kq ≤ k2) ∧ Aside0 (Kd.S k42 42 wc w.heap.size (fun k_ => oB u10 k_ ∧ oB v13 k_) u9 x9_2) ∧ Aside0 (Kd.S k42 42 wc w.heap.size (fun k_ => oB u9 k_ ∧ oB v13 k_) u10 x10_2) ∧ Aside0 (Kd.S k42 42 wc w.heap.size (fun k_ => oB u9 k_ ∧ oB u10 k_) v13 x13_13) ∧ Aside0 (Below w.heap.size w wc))
        case first =>
         have H := HC14.out; clear HC14
         by_cases c15 : x34_2 < 40
         ·
          rw [if_pos c15] at H
          have c15b0 : decide (x34_2 < 40) = true := zR c15; clear c15
          (first | rw [c15b0] | (simp only [i64_w, i32_w]; rw [c15b0]) | (simp only [bne] at c15b0; rw [c15b0]) | skip)
          obtain ⟨t332, A160, H⟩ := zW_ H
          replace H : ((impl_section.f k2 l2 x34_2).bind fun t335 => ((impl_combined_impl_without.f k2 (wrap64 (a0 - 1)) t332 t335).bind fun t338 => (impl_combined_impl_without.j2 k2 a0 l1 l2 x9_2 x10_2 x11_2 x34_2 t338 x34_2))) = some r := H
          have A16 := yD A160
          clear A160
          obtain ⟨t335, A170, H⟩ := zW_ H
          replace H : ((impl_combined_impl_without.f k2 (wrap64 (a0 - 1)) t332 t335).bind fun t338 => (impl_combined_impl_without.j2 k2 a0 l1 l2 x9_2 x10_2 x11_2 x34_2 t338 x34_2)) = some r := H
          have A17 := yD A170
          clear A170
          obtain ⟨t338, A180, H⟩ := zW_ H
          replace H : (impl_combined_impl_without.j2 k2 a0 l1 l2 x9_2 x10_2 x11_2 x34_2 t338 x34_2) = some r := H
          have A18 := yD A180
          clear A180
          have H' := yD H
          clear H
          go_wp2_with (first | ((with_reducible refine gate_callee (f := 123) rfl ?_); refine gL 43 Try.func123 #[.slice A1 l1.length c1, .int .i64 x34_2] ?_; (with_reducible refine (impl_section.calls k2 (fun k_ => k_ < w.heap.size) _ _ l1 x34_2 t332 _ ?side1 A16.out).mono ?_); (case side1 => exact Kd.V_mk HC1.out (Kd.F_below (Kd.C_F k42_heap HR1.out) (kB HB))); rintro e w19 ⟨v333, rfl, ho0, hb⟩; refine ⟨_, rfl, ?_⟩; have HO334 := yD (Kd.V_lower (Kd.V_mono (ok' := fun k_ => oB u9 k_ ∧ oB u10 k_) ho0 (fun k_ hk_ => ⟨Or.elim hk_ (fun hs_ => fun e_ => Nat.not_le.2 hs_ (Kd.S_base HO_9.out k_ e_.symm)) (fun hn_ => (Kd.fresh' (Kd.S_lt (kS HO_9)) k_ hn_)), Or.elim hk_ (fun hs_ => fun e_ => Nat.not_le.2 hs_ (Kd.S_base HO_10.out k_ e_.symm)) (fun hn_ => (Kd.fresh' (Kd.S_lt (kS HO_10)) k_ hn_))⟩)) (below_size (kB HB))); replace HO_9 := yD (Kd.S_below (kS HO_9) hb); replace HO_10 := yD (Kd.S_below (kS HO_10) hb); replace HB := yD (zC (kB HB) hb); clear hb ho0) | ((with_reducible refine gate_callee (f := 123) rfl ?_); refine gL 46 Try.func123 #[.slice A2 l2.length c2, .int .i64 x34_2] ?_; (with_reducible refine (impl_section.calls k2 (fun k_ => k_ < w.heap.size) _ _ l2 x34_2 t335 _ ?side1 A17.out).mono ?_); (case side1 => exact Kd.V_mk HC2.out (Kd.F_below (Kd.C_F k42_heap HR2.out) (kB HB))); rintro e w20 ⟨v336, rfl, ho0, hb⟩; refine ⟨_, rfl, ?_⟩; replace HO334 := yD (Kd.V_below (kU HO334) hb); have HO337 := yD (Kd.V_lower (Kd.V_mono (ok' := fun k_ => oB u9 k_ ∧ oB u10 k_) ho0 (fun k_ hk_ => ⟨Or.elim hk_ (fun hs_ => fun e_ => Nat.not_le.2 hs_ (Kd.S_base HO_9.out k_ e_.symm)) (fun hn_ => (Kd.fresh' (Kd.S_lt (kS HO_9)) k_ hn_)), Or.elim hk_ (fun hs_ => fun e_ => Nat.not_le.2 hs_ (Kd.S_base HO_10.out k_ e_.symm)) (fun hn_ => (Kd.fresh' (Kd.S_lt (kS HO_10)) k_ hn_))⟩)) (below_size (kB HB))); replace HO_9 := yD (Kd.S_below (kS HO_9) hb); replace HO_10 := yD (Kd.S_below (kS HO_10) hb); replace HB := yD (zC (kB HB) hb); clear hb ho0; obtain ⟨Ao21, co21, eo21⟩ := Kd.V_slice HO334.out; subst eo21; obtain ⟨Ao22, co22, eo22⟩ := Kd.V_slice HO337.out; subst eo22) | ((with_reducible refine gate_callee (f := 87) rfl ?_); refine gL 48 Try.func87 #[.int .i64 (wrap64 (a0 - 1)), .slice Ao21 t332.length co21, .slice Ao22 t335.length co22, .func (.func 59) #[] #[]] ?_; (with_reducible refine (ih k2 (by have := HJ9.out; have := HK2.out; omega) (wrap64 (a0 - 1)) _ _ t332 _ _ t335  t338 _ ?side1 ?side2 ?side3 ?side4 A18.out).mono ?_); (case side1 => exact kV (Kd.V_reads' HO334.out).2.2); (case side2 => exact (Kd.V_reads' HO334.out).2.1); (case side3 => exact kV (Kd.V_reads' HO337.out).2.2); (case side4 => exact (Kd.V_reads' HO337.out).2.1); rintro e w23 ⟨v339, rfl, ho0, hb⟩; refine ⟨_, rfl, ?_⟩; replace HO334 := yD (Kd.V_elder' (kU HO334) (Kd.S_base ho0) hb); replace HO337 := yD (Kd.V_elder' (kU HO337) (Kd.S_base ho0) hb); have HO340 := yD (zG (zD (zD ho0 (Kd.S_lt (kS HO_9))) (Kd.S_lt (kS HO_10))) (below_size (kB HB))); replace HO_9 := yD (Kd.S_elder' (kS HO_9) (Kd.S_base ho0) hb); replace HO_10 := yD (Kd.S_elder' (kS HO_10) (Kd.S_base ho0) hb); replace HB := yD (zC (kB HB) hb); clear hb ho0))
          go_meet
          case rel => exact ⟨_, (t338), H', ⟨by have := HJ9.out; have := HK2.out; first | omega | exact Nat.le_refl _⟩, ⟨kS HO_9⟩, ⟨kS HO_10⟩, ⟨mS HO340 (fun _ hk => ⟨hk.1.2, hk.2⟩)⟩, ⟨kR0 HB⟩⟩
         · rw [if_neg c15] at H
           have c15b0 : decide (x34_2 < 40) = false := zS c15; clear c15
           (first | rw [c15b0] | (simp only [i64_w, i32_w]; rw [c15b0]) | (simp only [bne] at c15b0; rw [c15b0]) | skip)
           have H' := yD H
           clear H
           go_wp2
           go_meet
           case rel => exact ⟨_, (([] : List (S42))), H', ⟨by have := HJ9.out; have := HK2.out; first | omega | exact Nat.le_refl _⟩, ⟨mS HO_9 (fun _ hk => ⟨hk, (by simp [oB, Value.ownBlock])⟩)⟩, ⟨mS HO_10 (fun _ hk => ⟨hk, (by simp [oB, Value.ownBlock])⟩)⟩, ⟨by first | exact Kd.S_nil _ _ _ _ _ | exact Kd.N_nil _ _ _ _ _ | exact Kd.V_nil _ _ _ _ _ | exact Kd.Q_nil _ _ _ _ _ | exact Kd.R_nil _ _ _ _ _⟩, ⟨kR0 HB⟩⟩
        case rest =>
         clear HC14; try clear c1; try clear c2; try clear c5; try clear c5b0; try clear c5b1; try clear c7; try clear c11; try clear c11b0; try clear c11b1; try clear c11b2; try clear c12; try clear c13; try clear c13b0; try clear c15; try clear c15b0
         obtain ⟨kq, x13_13, HA, HJ13, HO_9, HO_10, HO_13, HB⟩ := hcut
         cases kq with
         | zero => exact absurd HA.out (by simp [impl_combined_impl_without.j2])
         | succ kj13 =>
          have H := HA.out; clear HA
          simp only [impl_combined_impl_without.j2] at H
          obtain ⟨t341, A240, H⟩ := zW_ H
          replace H : (if t341 = true then (impl_combined_impl_without.l0 kj13 a0 l1 l2 x9_2 x10_2 x11_2 (wrap64 (x34_2 + 1))) else ((impl_prefixed.f kj13 x10_2 x11_2 x34_2).bind fun t342 => (if x9_2.length + t342.length < 2932031007402 then (impl_combined_impl_without.l0 kj13 a0 l1 l2 (x9_2 ++ t342) x13_13 x34_2 (wrap64 (x34_2 + 1))) else (none)))) = some r := H
          have A24 := yD A240
          clear A240
          by_cases c25 : t341 = true
          · subst c25
            replace H : (impl_combined_impl_without.l0 kj13 a0 l1 l2 x9_2 x10_2 x11_2 (wrap64 (x34_2 + 1))) = some r := (by rw [if_pos rfl] at H; exact H)
            have H' := yD H
            clear H
            obtain ⟨Ao26, co26, eo26⟩ := Kd.S_slice HO_13.out
            subst eo26
            obtain ⟨Ao27, co27, eo27⟩ := Kd.S_slice HO_10.out
            subst eo27
            go_wp2_with (first | ((with_reducible refine gate_callee (f := 31) rfl ?_); refine gL 51 Try.func31 #[.slice Ao26 x13_13.length co26, .slice Ao27 x10_2.length co27] ?_; (with_reducible refine (impl_SameBoxes.calls kj13 _ _ x13_13 _ _ x10_2 true _ ?side1 ?side2 ?side3 ?side4 A24.out).mono ?_); (case side1 => exact kV (Kd.S_reads' HO_13.out).2.2); (case side2 => exact (Kd.S_reads' HO_13.out).2.1); (case side3 => exact kV (Kd.S_reads' HO_10.out).2.2); (case side4 => exact (Kd.S_reads' HO_10.out).2.1); rintro e w28 ⟨rfl, hb⟩; refine ⟨_, rfl, ?_⟩; replace HO_9 := yD (Kd.S_below (kS HO_9) hb); replace HO_10 := yD (Kd.S_below (kS HO_10) hb); replace HO_13 := yD (Kd.S_below (kS HO_13) hb); replace HB := yD (zC (kB HB) hb); clear hb))
            go_roundg kj13
            case measure => have := HJ9.out; have := HK2.out; have := HJ13.out; omega
            case rel => exact ⟨(x9_2), (x10_2), (x11_2), (wrap64 (x34_2 + 1)), (by first | rfl | (simp; done) | (simp [*]; done)), (by first | rfl | (simp; done) | (simp [*]; done)), H', ⟨by have := HJ9.out; have := HK2.out; have := HJ13.out; omega⟩, ⟨mS HO_9 (fun _ hk => hk.1)⟩, ⟨mS HO_10 (fun _ hk => hk.1)⟩, ⟨kR0 HB⟩⟩
          ·
           replace c25 := Bool.eq_false_iff.mpr c25
           subst c25
           replace H : ((impl_prefixed.f kj13 x10_2 x11_2 x34_2).bind fun t342 => (if x9_2.length + t342.length < 2932031007402 then (impl_combined_impl_without.l0 kj13 a0 l1 l2 (x9_2 ++ t342) x13_13 x34_2 (wrap64 (x34_2 + 1))) else (none))) = some r := (by rw [if_neg (show ¬ (false = true) by decide)] at H; exact H)
           obtain ⟨t342, A290, H⟩ := zW_ H
           replace H : (if x9_2.length + t342.length < 2932031007402 then (impl_combined_impl_without.l0 kj13 a0 l1 l2 (x9_2 ++ t342) x13_13 x34_2 (wrap64 (x34_2 + 1))) else (none)) = some r := H
           have A29 := yD A290
           clear A290
           by_cases c30 : x9_2.length + t342.length < 2932031007402
           ·
            rw [if_pos c30] at H
            have LMc30 := yD c30
            clear c30
            obtain ⟨y345, hy345⟩ : ∃ y_ : List (S42), y_ = (x9_2 ++ t342) := ⟨_, rfl⟩
            replace H : (impl_combined_impl_without.l0 kj13 a0 l1 l2 y345 x13_13 x34_2 (wrap64 (x34_2 + 1))) = some r := by first | (rw [hy345]; with_reducible exact H) | (have H2_ := (Option.bind_some _ _).symm.trans H; rw [hy345]; with_reducible exact H2_) | (have H2_ := (Option.bind_some _ _).symm.trans H; with_reducible exact H2_) | with_reducible exact H | (rw [hy345]; exact H) | exact H
            have Ny345 := yD hy345
            clear hy345
            have H' := yD H
            clear H
            obtain ⟨Ao31, co31, eo31⟩ := Kd.S_slice HO_13.out
            subst eo31
            obtain ⟨Ao32, co32, eo32⟩ := Kd.S_slice HO_10.out
            subst eo32
            go_wp2_with (first | ((with_reducible refine gate_callee (f := 31) rfl ?_); refine gL 51 Try.func31 #[.slice Ao31 x13_13.length co31, .slice Ao32 x10_2.length co32] ?_; (with_reducible refine (impl_SameBoxes.calls kj13 _ _ x13_13 _ _ x10_2 false _ ?side1 ?side2 ?side3 ?side4 A24.out).mono ?_); (case side1 => exact kV (Kd.S_reads' HO_13.out).2.2); (case side2 => exact (Kd.S_reads' HO_13.out).2.1); (case side3 => exact kV (Kd.S_reads' HO_10.out).2.2); (case side4 => exact (Kd.S_reads' HO_10.out).2.1); rintro e w33 ⟨rfl, hb⟩; refine ⟨_, rfl, ?_⟩; replace HO_9 := yD (Kd.S_below (kS HO_9) hb); replace HO_10 := yD (Kd.S_below (kS HO_10) hb); replace HO_13 := yD (Kd.S_below (kS HO_13) hb); replace HB := yD (zC (kB HB) hb); clear hb) | ((with_reducible refine gate_callee (f := 124) rfl ?_); refine gL 57 Try.func124 #[.slice Ao32 x10_2.length co32, .int .i64 x11_2, .int .i64 x34_2] ?_; (with_reducible refine (impl_prefixed.calls kj13 (fun k_ => (oB u9 k_ ∧ oB (.slice Ao31 x13_13.length co31) k_)) _ _ x10_2 x11_2 x34_2 t342 _ ?side1 A29.out).mono ?_); (case side1 => exact Kd.S_V (HO_10.out)); rintro e w34 ⟨v343, rfl, ho0, hb⟩; refine ⟨_, rfl, ?_⟩; have HPHO344_HO_9 := yD (S_pair (kS HO_9) hb (zD (zD (zD (Kd.S_mono (ok' := fun k_ => True) ho0 (fun _ hk_ => trivial)) (Kd.S_lt (kS HO_9))) (Kd.S_lt (kS HO_10))) (Kd.S_lt (kS HO_13))) (below_size (kB HB))); have HO344 := yD (zG (zD (zD (zD (Kd.S_mono (ok' := fun k_ => True) ho0 (fun _ hk_ => trivial)) (Kd.S_lt (kS HO_9))) (Kd.S_lt (kS HO_10))) (Kd.S_lt (kS HO_13))) (below_size (kB HB))); replace HO_9 := yD (Kd.S_elder' (kS HO_9) (Kd.S_base ho0) hb); replace HO_10 := yD (Kd.S_elder' (kS HO_10) (Kd.S_base ho0) hb); replace HO_13 := yD (Kd.S_elder' (kS HO_13) (Kd.S_base ho0) hb); replace HB := yD (zC (kB HB) hb); clear hb ho0; obtain ⟨Ao36, co36, eo36⟩ := Kd.S_slice HO344.out; subst eo36) | ((with_reducible refine gate_builtin (b := .append) (xs := #[.tmp 53, .tmp 57]) rfl ?_); (try (refine gate_guard (by rfl) ?_; dsimp only)); at_builtin; obtain ⟨N_, hA_, hB_⟩ := HPHO344_HO_9.out; refine S_append_rows k42 (w0 := w) w.heap.size rfl (.tmp 53) (.tmp 57) 24 42 (.agg #[(.slice none 0 0), (.slice none 0 0)]) 48 rfl Try.underlying24 info42 rfl (by decide) (by omega) u9 x9_2 t342 _ _ _ (fun k_ => oB (.slice Ao32 x10_2.length co32) k_ ∧ oB (.slice Ao31 x13_13.length co31) k_) (fun k_ => N_ ≤ k_ ∧ (((fun k_ => oB (.slice Ao32 x10_2.length co32) k_ ∧ oB (.slice Ao31 x13_13.length co31) k_)) k_ ∧ oB u9 k_)) rfl rfl ?aO ?aR (fun _ hk => hk.2) ?aF ?aB ?aS ?aL ?_; (case aR => exact (by (with_reducible repeat (first | apply yS | apply yT | apply yU)); exact Kd.S_mono hB_ (fun k_ hk => ⟨hk.2, ⟨⟨hk.1.1.2, hk.1.2⟩, hk.1.1.1.2⟩⟩))); (case aB => exact (kB HB)); (case aF => exact (fun k_ hk => ⟨Kd.fresh' (Kd.S_lt (kS HO_10)) k_ hk, Kd.fresh' (Kd.S_lt (kS HO_13)) k_ hk⟩)); (case aO => exact (by (with_reducible repeat (first | apply yS | apply yT | apply yU)); exact Kd.S_mono hA_ (fun _ hk => ⟨⟨hk.1.1, hk.1.2⟩, fun e_ => absurd hk.2 (Nat.not_lt.2 e_.1)⟩))); (case aS => exact (below_size (kB HB))); (case aL => have := LMc30.out; omega); intro v346 w35 ho hb hg hat; rw [← Ny345.out] at ho; replace HO_10 := yD (Kd.S_after (ok := (fun k_ => oB (.slice Ao31 x13_13.length co31) k_ ∧ oB (.slice Ao36 t342.length co36) k_)) (mS HO_10 (fun _ hk => ⟨⟨hk.1.2, hk.2⟩, hk.1.1⟩)) hg hat); replace HO_13 := yD (Kd.S_after (ok := (fun k_ => oB (.slice Ao32 x10_2.length co32) k_ ∧ oB (.slice Ao36 t342.length co36) k_)) (mS HO_13 (fun _ hk => ⟨⟨hk.1.2, hk.2⟩, hk.1.1⟩)) hg hat); replace HB := yD (hb); have HO347 := yD (ho); clear HO_9 HO344; clear ho hb hg hat))
            go_roundg kj13
            case measure => have := HJ9.out; have := HK2.out; have := HJ13.out; omega
            case rel => exact ⟨(y345), (x13_13), (x34_2), (wrap64 (x34_2 + 1)), (by first | rfl | (simp; done) | (simp [*]; done)), (by first | rfl | (simp; done) | (simp [*]; done)), H', ⟨by have := HJ9.out; have := HK2.out; have := HJ13.out; omega⟩, ⟨mS HO347 (fun _ hk => hk.2)⟩, ⟨mS HO_13 (fun _ hk => hk.2)⟩, ⟨kR0 HB⟩⟩
           · rw [if_neg c30] at H
             exact absurd H (by simp)
       · rw [if_neg c13] at H
         have c13b0 : decide (x34_2 < 41) = false := zS c13; clear c13; obtain rfl := Option.some.inj H
         go_wp2
         go_ret
         exact ⟨_, by first | rfl | (simp <;> rfl) | (simp [*] <;> rfl), mS HO_9 (fun _ hk => trivial), kR0 HB⟩
/-! ### impl_combine_impl_without: function 56 -/
def impl_combine_impl_without.j0 : Nat → List (S42) → List (S42) → Bool → Option ((List (S42)) × Int)
 | 0, _, _, _ => none
 | k + 1, x0, x1, x38 => if x38 = true then (some (([] : List (S42)), 1)) else ((impl_rankOf.f k x0 x1).bind fun t352 => ((impl_combined_impl_without.f k t352 x0 x1).bind fun t353 => ((impl_normalFull.f t353).bind fun bt356 => (some (bt356.1, bt356.2)))))
def impl_combine_impl_without.f (k : Nat) (l0 : List (S42)) (l1 : List (S42))  : Option ((List (S42)) × Int) := (impl_boxesOk.f k l0).bind fun t348 => (if t348 = true then ((impl_boxesOk.f k l1).bind fun t349 => (if t349 = true then (if (l0.length : Int) > 0 then (if (l1.length : Int) > 0 then (if 0 < (l0.length : Int) then (if 0 < (l1.length : Int) then (impl_combine_impl_without.j0 k l0 l1 ((((rd_T42 l0 0).f0).length : Int) != (((rd_T42 l1 0).f0).length : Int))) else (none)) else (none)) else (impl_combine_impl_without.j0 k l0 l1 false)) else (impl_combine_impl_without.j0 k l0 l1 false)) else (impl_combine_impl_without.j0 k l0 l1 true))) else (impl_combine_impl_without.j0 k l0 l1 true))
theorem impl_combine_impl_without.mono_l : ∀ k, (∀ y0 y1 y2, LeO (impl_combine_impl_without.j0 k y0 y1 y2) (impl_combine_impl_without.j0 (k + 1) y0 y1 y2))
 | 0 => fun _ _ _ r h => by simp [impl_combine_impl_without.j0] at h
 | k + 1 => by
  have ih0 := impl_combine_impl_without.mono_l k
  · intro y0 y1 y2
    unfold impl_combine_impl_without.j0
    repeat' (with_reducible first | exact ih0 _ _ _ | exact impl_boxesOk.mono _ _ | exact impl_combined_impl_without.mono _ _ _ _ | exact impl_rankOf.mono _ _ _ | exact LeO.refl _ | exact LeO.none _ | refine LeO.ite ?_ ?_ | refine LeO.bind ?_ (fun _ => ?_))
theorem impl_combine_impl_without.mono : ∀ a0 a1 k, LeO (impl_combine_impl_without.f k a0 a1) (impl_combine_impl_without.f (k + 1) a0 a1) := by
 intro a0 a1 k
 have ih0 := impl_combine_impl_without.mono_l k
 unfold impl_combine_impl_without.f
 repeat' (with_reducible first | exact ih0 _ _ _ | exact impl_boxesOk.mono _ _ | exact impl_combined_impl_without.mono _ _ _ _ | exact impl_rankOf.mono _ _ _ | exact LeO.refl _ | exact LeO.none _ | refine LeO.ite ?_ ?_ | refine LeO.bind ?_ (fun _ => ?_))
def impl_combine_impl_without.T1 : Bool × List (List Nat × List Nat) := (true, [([], []), ([0], [0]), ([1], [1]), ([2, 1], [2]), ([3], [3]), ([4, 3, 3], [3, 4]), ([5, 3], [3, 5]), ([3, 6], [3, 6]), ([7, 5], [7]), ([8], [8]), ([9, 8], [8, 9]), ([10, 8], [8, 10]), ([11, 8, 8], [8, 11]), ([12], [12]), ([13, 12], [12, 13]), ([14, 12], [12, 14]), ([12, 15, 8], [8, 12, 15]), ([16, 12, 8], [8, 16]), ([17], [17]), ([18, 17], [17, 18]), ([19, 17], [17, 19]), ([20, 17], [17, 20]), ([21, 17], [17, 21]), ([17], [17]), ([23, 17], [17, 23]), ([24, 17], [17, 24]), ([25, 17], [17, 25]), ([26, 17], [17, 26]), ([22, 27, 17], [17, 22, 27]), ([17, 28, 8], [8, 17, 28]), ([8, 29], [8, 29])])
def impl_combine_impl_without.B1 : List Nat := [0, 1, 3, 7, 15, 31, 63, 127, 255, 511, 1023, 2047, 4095, 8191, 16383, 32767, 65535, 131071, 262143, 524287, 1048575, 2097151, 4194303, 262143, 8650751, 25427967, 58982399, 126091263, 268435455, 536870911, 1073741823]
theorem impl_combine_impl_without.tab1 : rtab .any (opsOf Try.f56 1) = impl_combine_impl_without.T1 := by kernel_rfl
theorem impl_combine_impl_without.bits1 : waitsOk impl_combine_impl_without.T1.2 impl_combine_impl_without.B1 = true := by kernel_rfl
set_option maxHeartbeats 8000000 in
set_option maxRecDepth 100000 in
theorem impl_combine_impl_without.calls (k : Nat) (A0 : Option Addr) (c0 : Nat) (l0 : List (S42)) (A1 : Option Addr) (c1 : Nat) (l1 : List (S42))  (r1 : List (S42)) (r2 : Int) (w : World) (hr0 : Kd.C k42 w A0 l0.length l0) (hc0 : l0.length ≤ c0) (hr1 : Kd.C k42 w A1 l1.length l1) (hc1 : l1.length ≤ c1) (h : impl_combine_impl_without.f k l0 l1 = some (r1, r2)) :
 Calls Try.prog 56 #[.slice A0 l0.length c0, .slice A1 l1.length c1, .func (.func 59) #[] #[]] w fun e w' => ∃ v0_ : Value, e = .returned (.tuple #[v0_, .int .i64 r2]) ∧ Kd.S k42 42 w' w.heap.size (fun _ => True) v0_ r1 ∧ Below w.heap.size w w' := by
 have HR0 := yD hr0
 have HC0 := yD hc0
 clear hr0 hc0
 have HR1 := yD hr1
 have HC1 := yD hc1
 clear hr1 hc1
 have HB := yD (Below.refl w.heap.size w)
 have H : ((impl_boxesOk.f k l0).bind fun t348 => (if t348 = true then ((impl_boxesOk.f k l1).bind fun t349 => (if t349 = true then (if (l0.length : Int) > 0 then (if (l1.length : Int) > 0 then (if 0 < (l0.length : Int) then (if 0 < (l1.length : Int) then (impl_combine_impl_without.j0 k l0 l1 ((((rd_T42 l0 0).f0).length : Int) != (((rd_T42 l1 0).f0).length : Int))) else (none)) else (none)) else (impl_combine_impl_without.j0 k l0 l1 false)) else (impl_combine_impl_without.j0 k l0 l1 false)) else (impl_combine_impl_without.j0 k l0 l1 true))) else (impl_combine_impl_without.j0 k l0 l1 true))) = some (r1, r2) := h
 clear h
 have HC4 := yD H
 clear H; go_enter Try.func56, Try.ntmps56
 go_upto_region 1 with (fail)
 go_cut [38] (fun v38 wc => ∃ (kq : Nat) (x38_3 : Bool), v38 = .bool x38_3 ∧ Aside0 (impl_combine_impl_without.j0 kq l0 l1 x38_3 = some (r1, r2)) ∧ Aside0 (kq ≤ k) ∧ Aside0 (Below w.heap.size w wc))
 case first =>
  have H := HC4.out; clear HC4
  obtain ⟨t348, A50, H⟩ := zW_ H
  replace H : (if t348 = true then ((impl_boxesOk.f k l1).bind fun t349 => (if t349 = true then (if (l0.length : Int) > 0 then (if (l1.length : Int) > 0 then (if 0 < (l0.length : Int) then (if 0 < (l1.length : Int) then (impl_combine_impl_without.j0 k l0 l1 ((((rd_T42 l0 0).f0).length : Int) != (((rd_T42 l1 0).f0).length : Int))) else (none)) else (none)) else (impl_combine_impl_without.j0 k l0 l1 false)) else (impl_combine_impl_without.j0 k l0 l1 false)) else (impl_combine_impl_without.j0 k l0 l1 true))) else (impl_combine_impl_without.j0 k l0 l1 true)) = some (r1, r2) := H
  have A5 := yD A50
  clear A50
  by_cases c6 : t348 = true
  ·
   subst c6
   replace H : ((impl_boxesOk.f k l1).bind fun t349 => (if t349 = true then (if (l0.length : Int) > 0 then (if (l1.length : Int) > 0 then (if 0 < (l0.length : Int) then (if 0 < (l1.length : Int) then (impl_combine_impl_without.j0 k l0 l1 ((((rd_T42 l0 0).f0).length : Int) != (((rd_T42 l1 0).f0).length : Int))) else (none)) else (none)) else (impl_combine_impl_without.j0 k l0 l1 false)) else (impl_combine_impl_without.j0 k l0 l1 false)) else (impl_combine_impl_without.j0 k l0 l1 true))) = some (r1, r2) := (by rw [if_pos rfl] at H; exact H)
   obtain ⟨t349, A70, H⟩ := zW_ H
   replace H : (if t349 = true then (if (l0.length : Int) > 0 then (if (l1.length : Int) > 0 then (if 0 < (l0.length : Int) then (if 0 < (l1.length : Int) then (impl_combine_impl_without.j0 k l0 l1 ((((rd_T42 l0 0).f0).length : Int) != (((rd_T42 l1 0).f0).length : Int))) else (none)) else (none)) else (impl_combine_impl_without.j0 k l0 l1 false)) else (impl_combine_impl_without.j0 k l0 l1 false)) else (impl_combine_impl_without.j0 k l0 l1 true)) = some (r1, r2) := H
   have A7 := yD A70
   clear A70
   by_cases c8 : t349 = true
   ·
    subst c8
    replace H : (if (l0.length : Int) > 0 then (if (l1.length : Int) > 0 then (if 0 < (l0.length : Int) then (if 0 < (l1.length : Int) then (impl_combine_impl_without.j0 k l0 l1 ((((rd_T42 l0 0).f0).length : Int) != (((rd_T42 l1 0).f0).length : Int))) else (none)) else (none)) else (impl_combine_impl_without.j0 k l0 l1 false)) else (impl_combine_impl_without.j0 k l0 l1 false)) = some (r1, r2) := (by rw [if_pos rfl] at H; exact H)
    by_cases c9 : (l0.length : Int) > 0
    ·
     rw [if_pos c9] at H
     have c9b0 : decide (0 < (l0.length : Int)) = true := zR c9
     have c9b1 : decide (0 < l0.length) = true := zR (by omega)
     clear c9
     (first | rw [c9b0] | (simp only [i64_w, i32_w]; rw [c9b0]) | (simp only [bne] at c9b0; rw [c9b0]) | skip)
     by_cases c10 : (l1.length : Int) > 0
     ·
      rw [if_pos c10] at H
      have c10b0 : decide (0 < (l1.length : Int)) = true := zR c10
      have c10b1 : decide (0 < l1.length) = true := zR (by omega)
      clear c10
      by_cases c11 : 0 < (l0.length : Int)
      ·
       rw [if_pos c11] at H
       have c11b0 : decide (0 < (l0.length : Int)) = true := zR c11
       have c11b1 : decide (0 < l0.length) = true := zR (by omega)
       clear c11
       by_cases c12 : 0 < (l1.length : Int)
       ·
        rw [if_pos c12] at H
        have c12b0 : decide (0 < (l1.length : Int)) = true := zR c12
        have c12b1 : decide (0 < l1.length) = true := zR (by omega)
        clear c12
        have H' := yD H
        clear H
        try go_wp2
        have n0_ := yD (yP HB.out)
        clear HB; have HB := n0_; clear n0_
        have p350 : 0 ≤ (0 : Int) := (by omega)
        have q350 : 0 < (l0.length : Int) := zP (by assumption)
        obtain ⟨ad350, A350_0, c350_0, A350_1, c350_1, e350, hx350_0, hx350_1, hl350_0, hi350_0, hl350_1, hi350_1⟩ := at_T42 HR0.out 0 p350 q350
        have hw350_1 := hx350_1
        (try rw [show ((0 : Int)).toNat = 0 from rfl] at hw350_1)
        (try rw [show 0 * 2 = 0 from rfl] at hw350_1)
        (try rw [Addr.add_zero'] at hw350_1)
        have hw350_0 := hx350_0
        (try rw [show ((0 : Int)).toNat = 0 from rfl] at hw350_0)
        (try rw [show 0 * 2 = 0 from rfl] at hw350_0)
        (try rw [Addr.add_zero'] at hw350_0)
        cases e350
        have qi350 : (0 < l0.length) = True := eq_true (by omega)
        (try rw [show ((0 : Int)).toNat = 0 from rfl] at hx350_0)
        (try rw [show 0 * 2 = 0 from rfl] at hx350_0)
        (try rw [Addr.add_zero'] at hx350_0)
        (try rw [show ((0 : Int)).toNat = 0 from rfl] at hx350_1)
        (try rw [show 0 * 2 = 0 from rfl] at hx350_1)
        (try rw [Addr.add_zero'] at hx350_1)
        replace hx350_0 := (HB.out.cell (zQ w _ hx350_0)).trans hx350_0
        replace hx350_1 := (HB.out.cell (zQ w _ hx350_1)).trans hx350_1
        have HR350_0 := yD hi350_0
        have HC350_0 := yD hl350_0
        clear hi350_0 hl350_0
        have HR350_1 := yD hi350_1
        have HC350_1 := yD hl350_1
        clear hi350_1 hl350_1; replace p350 := eq_true p350; replace q350 := eq_true q350
        have p351 : 0 ≤ (0 : Int) := (by omega)
        have q351 : 0 < (l1.length : Int) := zP (by assumption)
        obtain ⟨ad351, A351_0, c351_0, A351_1, c351_1, e351, hx351_0, hx351_1, hl351_0, hi351_0, hl351_1, hi351_1⟩ := at_T42 HR1.out 0 p351 q351
        have hw351_1 := hx351_1
        (try rw [show ((0 : Int)).toNat = 0 from rfl] at hw351_1)
        (try rw [show 0 * 2 = 0 from rfl] at hw351_1)
        (try rw [Addr.add_zero'] at hw351_1)
        have hw351_0 := hx351_0
        (try rw [show ((0 : Int)).toNat = 0 from rfl] at hw351_0)
        (try rw [show 0 * 2 = 0 from rfl] at hw351_0)
        (try rw [Addr.add_zero'] at hw351_0)
        cases e351
        have qi351 : (0 < l1.length) = True := eq_true (by omega)
        (try rw [show ((0 : Int)).toNat = 0 from rfl] at hx351_0)
        (try rw [show 0 * 2 = 0 from rfl] at hx351_0)
        (try rw [Addr.add_zero'] at hx351_0)
        (try rw [show ((0 : Int)).toNat = 0 from rfl] at hx351_1)
        (try rw [show 0 * 2 = 0 from rfl] at hx351_1)
        (try rw [Addr.add_zero'] at hx351_1)
        replace hx351_0 := (HB.out.cell (zQ w _ hx351_0)).trans hx351_0
        replace hx351_1 := (HB.out.cell (zQ w _ hx351_1)).trans hx351_1
        have HR351_0 := yD hi351_0
        have HC351_0 := yD hl351_0
        clear hi351_0 hl351_0
        have HR351_1 := yD hi351_1
        have HC351_1 := yD hl351_1
        clear hi351_1 hl351_1; replace p351 := eq_true p351; replace q351 := eq_true q351
        refine start_ (n := 31) (S := fun w' => w'.cell? ad350 = some (.slice A350_0 ((rd_T42 l0 0).f0).length c350_0) ∧ w'.cell? ⟨ad350.block, ad350.off + 1, none⟩ = some (.slice A350_1 ((rd_T42 l0 0).f1).length c350_1) ∧ w'.cell? ad351 = some (.slice A351_0 ((rd_T42 l1 0).f0).length c351_0) ∧ w'.cell? ⟨ad351.block, ad351.off + 1, none⟩ = some (.slice A351_1 ((rd_T42 l1 0).f1).length c351_1)) (ds := []) (bz 31 0) (by kernel_rfl) rfl rfl ⟨((HB.out.cell (zQ w _ hw350_0)).trans hw350_0), ((HB.out.cell (zQ w _ hw350_1)).trans hw350_1), ((HB.out.cell (zQ w _ hw351_0)).trans hw351_0), ((HB.out.cell (zQ w _ hw351_1)).trans hw351_1)⟩ (fun hHeld => ?_); refine with_tabW impl_combine_impl_without.tab1 impl_combine_impl_without.bits1 (fun HT_ HW_ => ?_)
        generalize w.drew = w13 at HB HR350_0 HR350_1 HR351_0 HR351_1 hx350_0 hx350_1 hx351_0 hx351_1 hHeld ⊢
        refine qA 0 8 (bz 31 1) HT_ ?_
        refine one_ (i := 1) (N := some 9) (bz 31 3) rfl rfl (one_of HT_.out (by kernel_rfl)) (by decide) (fun K hK => ?_)
        refine goes_ Try.func63 (by kernel_rfl) rfl #[.slice (some ad350) l0.length c0] (by rfl) rfl rfl (by (try simp only [zK, zL, zM]); first | done | rfl | (simp only [zN, zO]; rfl)) ?_
        with_reducible refine (impl_boxesOk.calls k _ _ l0 true _ ?side1 ?side2 A5.out).mono ?_
        (case side1 => exact kV (yY HR0.out HB.out))
        (case side2 => exact HC0.out)
        rintro e w14 ⟨rfl, hb⟩
        refine ⟨_, rfl, ?_⟩
        have n0_ := yD (zC (kB HB) hb)
        clear HB; have HB := n0_; clear n0_; (try clear hb); (try clear hb2); (try clear hk); (try clear hi)
        refine hK.out _ _ ⟨((HB.out.cell (zQ w _ hw350_0)).trans hw350_0), ((HB.out.cell (zQ w _ hw350_1)).trans hw350_1), ((HB.out.cell (zQ w _ hw351_0)).trans hw351_0), ((HB.out.cell (zQ w _ hw351_1)).trans hw351_1)⟩ (fun hHeld => ?_)
        clear hK K
        refine norm_ (a' := ?_) ?_ ?_
        rotate_left
        · show Act.put _ (some 9) _ = _
          simp only [Act.put, zH, zI, zJ, i64_w, i32_w]
          rfl
        refine qA 2 10 (bz 31 7) HT_ ?_
        refine qA 3 11 (bz 31 15) HT_ ?_
        refine qA 4 12 (bz 31 31) HT_ ?_
        refine one_ (i := 5) (N := some 13) (bz 31 63) rfl rfl (one_of HT_.out (by kernel_rfl)) (by decide) (fun K hK => ?_)
        refine goes_ Try.func63 (by kernel_rfl) rfl #[.slice (some ad351) l1.length c1] (by rfl) rfl rfl (by (try simp only [zK, zL, zM]); first | done | rfl | (simp only [zN, zO]; rfl)) ?_
        with_reducible refine (impl_boxesOk.calls k _ _ l1 true _ ?side1 ?side2 A7.out).mono ?_
        (case side1 => exact kV (yY HR1.out HB.out))
        (case side2 => exact HC1.out)
        rintro e w15 ⟨rfl, hb⟩
        refine ⟨_, rfl, ?_⟩
        have n0_ := yD (zC (kB HB) hb)
        clear HB; have HB := n0_; clear n0_; (try clear hb); (try clear hb2); (try clear hk); (try clear hi)
        refine hK.out _ _ ⟨((HB.out.cell (zQ w _ hw350_0)).trans hw350_0), ((HB.out.cell (zQ w _ hw350_1)).trans hw350_1), ((HB.out.cell (zQ w _ hw351_0)).trans hw351_0), ((HB.out.cell (zQ w _ hw351_1)).trans hw351_1)⟩ (fun hHeld => ?_)
        clear hK K
        refine norm_ (a' := ?_) ?_ ?_
        rotate_left
        · show Act.put _ (some 13) _ = _
          simp only [Act.put, zH, zI, zJ, i64_w, i32_w]
          rfl
        refine qA 6 14 (bz 31 127) HT_ ?_
        refine qA 7 15 (bz 31 255) HT_ ?_
        refine qA 8 16 (bz 31 511) HT_ ?_
        refine qA 9 17 (bz 31 1023) HT_ ?_
        refine qA 10 18 (bz 31 2047) HT_ ?_
        refine qA 11 19 (bz 31 4095) HT_ ?_
        refine qA 12 20 (bz 31 8191) HT_ ?_
        refine qA 13 21 (bz 31 16383) HT_ ?_
        refine qA 14 22 (bz 31 32767) HT_ ?_
        refine qA 15 23 (bz 31 65535) HT_ ?_
        refine qA 16 24 (bz 31 131071) HT_ ?_
        refine qA 17 25 (bz 31 262143) HT_ ?_
        refine qA 18 26 (bz 31 524287) HT_ ?_
        refine qA 19 27 (bz 31 1048575) HT_ ?_
        refine qA 20 28 (bz 31 2097151) HT_ ?_
        refine qA 23 31 (bz 31 10485759) HT_ ?_
        refine qA 24 32 (bz 31 27262975) HT_ ?_
        refine qA 25 33 (bz 31 60817407) HT_ ?_
        refine qC 21 29 (bz 31 62914559) HT_ HW_ hHeld ?_ (hy := by rintro w' ⟨s0, s1, s2, s3⟩; go_simp; with_reducible rfl)
        refine qA 22 30 (bz 31 67108863) HT_ ?_
        refine qC 26 34 (bz 31 134217727) HT_ HW_ hHeld ?_ (hy := by rintro w' ⟨s0, s1, s2, s3⟩; go_simp; with_reducible rfl)
        refine qA 27 35 (bz 31 268435455) HT_ ?_
        refine qA 28 36 (bz 31 536870911) HT_ ?_
        refine qA 29 37 (bz 31 1073741823) HT_ ?_
        refine qA 30 38 (bz 31 2147483647) HT_ ?_
        refine done_ (done_of HT_.out (by kernel_rfl)) ?_
        try go_wp2
        go_meet
        case rel => exact ⟨_, (((((rd_T42 l0 0).f0).length : Int) != (((rd_T42 l1 0).f0).length : Int))), (by first | rfl | (simp; done) | (simp [*]; done)), H', ⟨by first | omega | exact Nat.le_refl _⟩, ⟨kR0 HB⟩⟩
       · rw [if_neg c12] at H
         exact absurd H (by simp)
      · rw [if_neg c11] at H
        exact absurd H (by simp)
     ·
      rw [if_neg c10] at H
      have c10b0 : decide (0 < (l1.length : Int)) = false := zS c10
      have c10b1 : decide (0 < l1.length) = false := zS (by omega)
      clear c10
      have H' := yD H
      clear H
      try go_wp2
      have n0_ := yD (yP HB.out)
      clear HB; have HB := n0_; clear n0_
      refine start_ (n := 31) (S := fun w' => True) (ds := []) (bz 31 0) (by kernel_rfl) rfl rfl trivial (fun hHeld => ?_); refine with_tabW impl_combine_impl_without.tab1 impl_combine_impl_without.bits1 (fun HT_ HW_ => ?_)
      generalize w.drew = w16 at HB hHeld ⊢
      refine qA 0 8 (bz 31 1) HT_ ?_
      refine one_ (i := 1) (N := some 9) (bz 31 3) rfl rfl (one_of HT_.out (by kernel_rfl)) (by decide) (fun K hK => ?_)
      refine goes_ Try.func63 (by kernel_rfl) rfl #[.slice A0 l0.length c0] (by rfl) rfl rfl (by (try simp only [zK, zL, zM]); first | done | rfl | (simp only [zN, zO]; rfl)) ?_
      with_reducible refine (impl_boxesOk.calls k _ _ l0 true _ ?side1 ?side2 A5.out).mono ?_
      (case side1 => exact kV (yY HR0.out HB.out))
      (case side2 => exact HC0.out)
      rintro e w17 ⟨rfl, hb⟩
      refine ⟨_, rfl, ?_⟩
      have n0_ := yD (zC (kB HB) hb)
      clear HB; have HB := n0_; clear n0_; (try clear hb); (try clear hb2); (try clear hk); (try clear hi)
      refine hK.out _ _ trivial (fun hHeld => ?_)
      clear hK K
      refine norm_ (a' := ?_) ?_ ?_
      rotate_left
      · show Act.put _ (some 9) _ = _
        simp only [Act.put, zH, zI, zJ, i64_w, i32_w]
        rfl
      refine qA 2 10 (bz 31 7) HT_ ?_
      refine qA 3 11 (bz 31 15) HT_ ?_
      refine qA 4 12 (bz 31 31) HT_ ?_
      refine one_ (i := 5) (N := some 13) (bz 31 63) rfl rfl (one_of HT_.out (by kernel_rfl)) (by decide) (fun K hK => ?_)
      refine goes_ Try.func63 (by kernel_rfl) rfl #[.slice A1 l1.length c1] (by rfl) rfl rfl (by (try simp only [zK, zL, zM]); first | done | rfl | (simp only [zN, zO]; rfl)) ?_
      with_reducible refine (impl_boxesOk.calls k _ _ l1 true _ ?side1 ?side2 A7.out).mono ?_
      (case side1 => exact kV (yY HR1.out HB.out))
      (case side2 => exact HC1.out)
      rintro e w18 ⟨rfl, hb⟩
      refine ⟨_, rfl, ?_⟩
      have n0_ := yD (zC (kB HB) hb)
      clear HB; have HB := n0_; clear n0_; (try clear hb); (try clear hb2); (try clear hk); (try clear hi)
      refine hK.out _ _ trivial (fun hHeld => ?_)
      clear hK K
      refine norm_ (a' := ?_) ?_ ?_
      rotate_left
      · show Act.put _ (some 13) _ = _
        simp only [Act.put, zH, zI, zJ, i64_w, i32_w]
        rfl
      refine qA 6 14 (bz 31 127) HT_ ?_
      refine qA 7 15 (bz 31 255) HT_ ?_
      refine qA 8 16 (bz 31 511) HT_ ?_
      refine qA 9 17 (bz 31 1023) HT_ ?_
      refine qA 10 18 (bz 31 2047) HT_ ?_
      refine qA 11 19 (bz 31 4095) HT_ ?_
      refine qA 12 20 (bz 31 8191) HT_ ?_
      refine qA 13 21 (bz 31 16383) HT_ ?_
      refine qA 14 22 (bz 31 32767) HT_ ?_
      refine qA 15 23 (bz 31 65535) HT_ ?_
      refine qA 16 24 (bz 31 131071) HT_ ?_
      refine qA 17 25 (bz 31 262143) HT_ ?_
      refine qB 18 26 (bz 31 524287) HT_ ?_
      refine qB 19 27 (bz 31 1048575) HT_ ?_
      refine qB 20 28 (bz 31 2097151) HT_ ?_
      refine qB 21 29 (bz 31 4194303) HT_ ?_
      refine qB 22 30 (bz 31 8388607) HT_ ?_
      refine qB 23 31 (bz 31 16777215) HT_ ?_
      refine qB 24 32 (bz 31 33554431) HT_ ?_
      refine qB 25 33 (bz 31 67108863) HT_ ?_
      refine qB 26 34 (bz 31 134217727) HT_ ?_
      refine qB 27 35 (bz 31 268435455) HT_ ?_
      refine qB 28 36 (bz 31 536870911) HT_ ?_
      refine qA 29 37 (bz 31 1073741823) HT_ ?_
      refine qA 30 38 (bz 31 2147483647) HT_ ?_
      refine done_ (done_of HT_.out (by kernel_rfl)) ?_
      try go_wp2
      go_meet
      case rel => exact ⟨_, (false), (by first | rfl | (simp; done) | (simp [*]; done)), H', ⟨by first | omega | exact Nat.le_refl _⟩, ⟨kR0 HB⟩⟩
    ·
     rw [if_neg c9] at H
     have c9b0 : decide (0 < (l0.length : Int)) = false := zS c9
     have c9b1 : decide (0 < l0.length) = false := zS (by omega)
     clear c9
     (first | rw [c9b0] | (simp only [i64_w, i32_w]; rw [c9b0]) | (simp only [bne] at c9b0; rw [c9b0]) | skip)
     have H' := yD H
     clear H
     try go_wp2
     have n0_ := yD (yP HB.out)
     clear HB; have HB := n0_; clear n0_
     refine start_ (n := 31) (S := fun w' => True) (ds := []) (bz 31 0) (by kernel_rfl) rfl rfl trivial (fun hHeld => ?_); refine with_tabW impl_combine_impl_without.tab1 impl_combine_impl_without.bits1 (fun HT_ HW_ => ?_)
     generalize w.drew = w19 at HB hHeld ⊢
     refine qA 0 8 (bz 31 1) HT_ ?_
     refine one_ (i := 1) (N := some 9) (bz 31 3) rfl rfl (one_of HT_.out (by kernel_rfl)) (by decide) (fun K hK => ?_)
     refine goes_ Try.func63 (by kernel_rfl) rfl #[.slice A0 l0.length c0] (by rfl) rfl rfl (by (try simp only [zK, zL, zM]); first | done | rfl | (simp only [zN, zO]; rfl)) ?_
     with_reducible refine (impl_boxesOk.calls k _ _ l0 true _ ?side1 ?side2 A5.out).mono ?_
     (case side1 => exact kV (yY HR0.out HB.out))
     (case side2 => exact HC0.out)
     rintro e w20 ⟨rfl, hb⟩
     refine ⟨_, rfl, ?_⟩
     have n0_ := yD (zC (kB HB) hb)
     clear HB; have HB := n0_; clear n0_; (try clear hb); (try clear hb2); (try clear hk); (try clear hi)
     refine hK.out _ _ trivial (fun hHeld => ?_)
     clear hK K
     refine norm_ (a' := ?_) ?_ ?_
     rotate_left
     · show Act.put _ (some 9) _ = _
       simp only [Act.put, zH, zI, zJ, i64_w, i32_w]
       rfl
     refine qA 2 10 (bz 31 7) HT_ ?_
     refine qA 3 11 (bz 31 15) HT_ ?_
     refine qA 4 12 (bz 31 31) HT_ ?_
     refine one_ (i := 5) (N := some 13) (bz 31 63) rfl rfl (one_of HT_.out (by kernel_rfl)) (by decide) (fun K hK => ?_)
     refine goes_ Try.func63 (by kernel_rfl) rfl #[.slice A1 l1.length c1] (by rfl) rfl rfl (by (try simp only [zK, zL, zM]); first | done | rfl | (simp only [zN, zO]; rfl)) ?_
     with_reducible refine (impl_boxesOk.calls k _ _ l1 true _ ?side1 ?side2 A7.out).mono ?_
     (case side1 => exact kV (yY HR1.out HB.out))
     (case side2 => exact HC1.out)
     rintro e w21 ⟨rfl, hb⟩
     refine ⟨_, rfl, ?_⟩
     have n0_ := yD (zC (kB HB) hb)
     clear HB; have HB := n0_; clear n0_; (try clear hb); (try clear hb2); (try clear hk); (try clear hi)
     refine hK.out _ _ trivial (fun hHeld => ?_)
     clear hK K
     refine norm_ (a' := ?_) ?_ ?_
     rotate_left
     · show Act.put _ (some 13) _ = _
       simp only [Act.put, zH, zI, zJ, i64_w, i32_w]
       rfl
     refine qA 6 14 (bz 31 127) HT_ ?_
     refine qA 7 15 (bz 31 255) HT_ ?_
     refine qA 8 16 (bz 31 511) HT_ ?_
     refine qA 9 17 (bz 31 1023) HT_ ?_
     refine qA 10 18 (bz 31 2047) HT_ ?_
     refine qA 11 19 (bz 31 4095) HT_ ?_
     refine qA 12 20 (bz 31 8191) HT_ ?_
     refine qB 13 21 (bz 31 16383) HT_ ?_
     refine qB 14 22 (bz 31 32767) HT_ ?_
     refine qB 15 23 (bz 31 65535) HT_ ?_
     refine qA 16 24 (bz 31 131071) HT_ ?_
     refine qA 17 25 (bz 31 262143) HT_ ?_
     refine qB 18 26 (bz 31 524287) HT_ ?_
     refine qB 19 27 (bz 31 1048575) HT_ ?_
     refine qB 20 28 (bz 31 2097151) HT_ ?_
     refine qB 21 29 (bz 31 4194303) HT_ ?_
     refine qB 22 30 (bz 31 8388607) HT_ ?_
     refine qB 23 31 (bz 31 16777215) HT_ ?_
     refine qB 24 32 (bz 31 33554431) HT_ ?_
     refine qB 25 33 (bz 31 67108863) HT_ ?_
     refine qB 26 34 (bz 31 134217727) HT_ ?_
     refine qB 27 35 (bz 31 268435455) HT_ ?_
     refine qB 28 36 (bz 31 536870911) HT_ ?_
     refine qA 29 37 (bz 31 1073741823) HT_ ?_
     refine qA 30 38 (bz 31 2147483647) HT_ ?_
     refine done_ (done_of HT_.out (by kernel_rfl)) ?_
     try go_wp2
     go_meet
     case rel => exact ⟨_, (false), (by first | rfl | (simp; done) | (simp [*]; done)), H', ⟨by first | omega | exact Nat.le_refl _⟩, ⟨kR0 HB⟩⟩
   ·
    replace c8 := Bool.eq_false_iff.mpr c8
    subst c8
    replace H : (impl_combine_impl_without.j0 k l0 l1 true) = some (r1, r2) := (by rw [if_neg (show ¬ (false = true) by decide)] at H; exact H)
    have H' := yD H
    clear H
    try go_wp2
    have n0_ := yD (yP HB.out)
    clear HB; have HB := n0_; clear n0_
    refine start_ (n := 31) (S := fun w' => True) (ds := []) (bz 31 0) (by kernel_rfl) rfl rfl trivial (fun hHeld => ?_); refine with_tabW impl_combine_impl_without.tab1 impl_combine_impl_without.bits1 (fun HT_ HW_ => ?_)
    generalize w.drew = w22 at HB hHeld ⊢
    refine qA 0 8 (bz 31 1) HT_ ?_
    refine one_ (i := 1) (N := some 9) (bz 31 3) rfl rfl (one_of HT_.out (by kernel_rfl)) (by decide) (fun K hK => ?_)
    refine goes_ Try.func63 (by kernel_rfl) rfl #[.slice A0 l0.length c0] (by rfl) rfl rfl (by (try simp only [zK, zL, zM]); first | done | rfl | (simp only [zN, zO]; rfl)) ?_
    with_reducible refine (impl_boxesOk.calls k _ _ l0 true _ ?side1 ?side2 A5.out).mono ?_
    (case side1 => exact kV (yY HR0.out HB.out))
    (case side2 => exact HC0.out)
    rintro e w23 ⟨rfl, hb⟩
    refine ⟨_, rfl, ?_⟩
    have n0_ := yD (zC (kB HB) hb)
    clear HB; have HB := n0_; clear n0_; (try clear hb); (try clear hb2); (try clear hk); (try clear hi)
    refine hK.out _ _ trivial (fun hHeld => ?_)
    clear hK K
    refine norm_ (a' := ?_) ?_ ?_
    rotate_left
    · show Act.put _ (some 9) _ = _
      simp only [Act.put, zH, zI, zJ, i64_w, i32_w]
      rfl
    refine qA 2 10 (bz 31 7) HT_ ?_
    refine qA 3 11 (bz 31 15) HT_ ?_
    refine qA 4 12 (bz 31 31) HT_ ?_
    refine one_ (i := 5) (N := some 13) (bz 31 63) rfl rfl (one_of HT_.out (by kernel_rfl)) (by decide) (fun K hK => ?_)
    refine goes_ Try.func63 (by kernel_rfl) rfl #[.slice A1 l1.length c1] (by rfl) rfl rfl (by (try simp only [zK, zL, zM]); first | done | rfl | (simp only [zN, zO]; rfl)) ?_
    with_reducible refine (impl_boxesOk.calls k _ _ l1 false _ ?side1 ?side2 A7.out).mono ?_
    (case side1 => exact kV (yY HR1.out HB.out))
    (case side2 => exact HC1.out)
    rintro e w24 ⟨rfl, hb⟩
    refine ⟨_, rfl, ?_⟩
    have n0_ := yD (zC (kB HB) hb)
    clear HB; have HB := n0_; clear n0_; (try clear hb); (try clear hb2); (try clear hk); (try clear hi)
    refine hK.out _ _ trivial (fun hHeld => ?_)
    clear hK K
    refine norm_ (a' := ?_) ?_ ?_
    rotate_left
    · show Act.put _ (some 13) _ = _
      simp only [Act.put, zH, zI, zJ, i64_w, i32_w]
      rfl
    refine qA 6 14 (bz 31 127) HT_ ?_
    refine qA 7 15 (bz 31 255) HT_ ?_
    refine qA 8 16 (bz 31 511) HT_ ?_
    refine qB 9 17 (bz 31 1023) HT_ ?_
    refine qB 10 18 (bz 31 2047) HT_ ?_
    refine qB 11 19 (bz 31 4095) HT_ ?_
    refine qB 12 20 (bz 31 8191) HT_ ?_
    refine qB 13 21 (bz 31 16383) HT_ ?_
    refine qB 14 22 (bz 31 32767) HT_ ?_
    refine qB 15 23 (bz 31 65535) HT_ ?_
    refine qB 16 24 (bz 31 131071) HT_ ?_
    refine qB 17 25 (bz 31 262143) HT_ ?_
    refine qB 18 26 (bz 31 524287) HT_ ?_
    refine qB 19 27 (bz 31 1048575) HT_ ?_
    refine qB 20 28 (bz 31 2097151) HT_ ?_
    refine qB 21 29 (bz 31 4194303) HT_ ?_
    refine qB 22 30 (bz 31 8388607) HT_ ?_
    refine qB 23 31 (bz 31 16777215) HT_ ?_
    refine qB 24 32 (bz 31 33554431) HT_ ?_
    refine qB 25 33 (bz 31 67108863) HT_ ?_
    refine qB 26 34 (bz 31 134217727) HT_ ?_
    refine qB 27 35 (bz 31 268435455) HT_ ?_
    refine qB 28 36 (bz 31 536870911) HT_ ?_
    refine qB 29 37 (bz 31 1073741823) HT_ ?_
    refine qA 30 38 (bz 31 2147483647) HT_ ?_
    refine done_ (done_of HT_.out (by kernel_rfl)) ?_
    try go_wp2
    go_meet
    case rel => exact ⟨_, (true), (by first | rfl | (simp; done) | (simp [*]; done)), H', ⟨by first | omega | exact Nat.le_refl _⟩, ⟨kR0 HB⟩⟩
  ·
   replace c6 := Bool.eq_false_iff.mpr c6
   subst c6
   replace H : (impl_combine_impl_without.j0 k l0 l1 true) = some (r1, r2) := (by rw [if_neg (show ¬ (false = true) by decide)] at H; exact H)
   have H' := yD H
   clear H
   try go_wp2
   have n0_ := yD (yP HB.out)
   clear HB; have HB := n0_; clear n0_
   refine start_ (n := 31) (S := fun w' => True) (ds := []) (bz 31 0) (by kernel_rfl) rfl rfl trivial (fun hHeld => ?_); refine with_tabW impl_combine_impl_without.tab1 impl_combine_impl_without.bits1 (fun HT_ HW_ => ?_)
   generalize w.drew = w25 at HB hHeld ⊢
   refine qA 0 8 (bz 31 1) HT_ ?_
   refine one_ (i := 1) (N := some 9) (bz 31 3) rfl rfl (one_of HT_.out (by kernel_rfl)) (by decide) (fun K hK => ?_)
   refine goes_ Try.func63 (by kernel_rfl) rfl #[.slice A0 l0.length c0] (by rfl) rfl rfl (by (try simp only [zK, zL, zM]); first | done | rfl | (simp only [zN, zO]; rfl)) ?_
   with_reducible refine (impl_boxesOk.calls k _ _ l0 false _ ?side1 ?side2 A5.out).mono ?_
   (case side1 => exact kV (yY HR0.out HB.out))
   (case side2 => exact HC0.out)
   rintro e w26 ⟨rfl, hb⟩
   refine ⟨_, rfl, ?_⟩
   have n0_ := yD (zC (kB HB) hb)
   clear HB; have HB := n0_; clear n0_; (try clear hb); (try clear hb2); (try clear hk); (try clear hi)
   refine hK.out _ _ trivial (fun hHeld => ?_)
   clear hK K
   refine norm_ (a' := ?_) ?_ ?_
   rotate_left
   · show Act.put _ (some 9) _ = _
     simp only [Act.put, zH, zI, zJ, i64_w, i32_w]
     rfl
   refine qA 2 10 (bz 31 7) HT_ ?_
   refine qA 3 11 (bz 31 15) HT_ ?_
   refine qB 4 12 (bz 31 31) HT_ ?_
   refine qB 5 13 (bz 31 63) HT_ ?_
   refine qB 6 14 (bz 31 127) HT_ ?_
   refine qA 7 15 (bz 31 255) HT_ ?_
   refine qA 8 16 (bz 31 511) HT_ ?_
   refine qB 9 17 (bz 31 1023) HT_ ?_
   refine qB 10 18 (bz 31 2047) HT_ ?_
   refine qB 11 19 (bz 31 4095) HT_ ?_
   refine qB 12 20 (bz 31 8191) HT_ ?_
   refine qB 13 21 (bz 31 16383) HT_ ?_
   refine qB 14 22 (bz 31 32767) HT_ ?_
   refine qB 15 23 (bz 31 65535) HT_ ?_
   refine qB 16 24 (bz 31 131071) HT_ ?_
   refine qB 17 25 (bz 31 262143) HT_ ?_
   refine qB 18 26 (bz 31 524287) HT_ ?_
   refine qB 19 27 (bz 31 1048575) HT_ ?_
   refine qB 20 28 (bz 31 2097151) HT_ ?_
   refine qB 21 29 (bz 31 4194303) HT_ ?_
   refine qB 22 30 (bz 31 8388607) HT_ ?_
   refine qB 23 31 (bz 31 16777215) HT_ ?_
   refine qB 24 32 (bz 31 33554431) HT_ ?_
   refine qB 25 33 (bz 31 67108863) HT_ ?_
   refine qB 26 34 (bz 31 134217727) HT_ ?_
   refine qB 27 35 (bz 31 268435455) HT_ ?_
   refine qB 28 36 (bz 31 536870911) HT_ ?_
   refine qB 29 37 (bz 31 1073741823) HT_ ?_
   refine qA 30 38 (bz 31 2147483647) HT_ ?_
   refine done_ (done_of HT_.out (by kernel_rfl)) ?_
   try go_wp2
   go_meet
   case rel => exact ⟨_, (true), (by first | rfl | (simp; done) | (simp [*]; done)), H', ⟨by first | omega | exact Nat.le_refl _⟩, ⟨kR0 HB⟩⟩
 case rest =>
  clear HC4; try clear c1; try clear c6; try clear c8
  obtain ⟨kq, x38_3, rfl, HA, HJ3, HB⟩ := hcut
  cases kq with
  | zero => exact absurd HA.out (by simp [impl_combine_impl_without.j0])
  | succ kj3 =>
   have H := HA.out; clear HA
   simp only [impl_combine_impl_without.j0] at H
   by_cases c27 : x38_3 = true
   · subst c27
     replace H : (some (([] : List (S42)), 1)) = some (r1, r2) := (by rw [if_pos rfl] at H; exact H)
     simp only [Option.some.injEq, Prod.mk.injEq] at H
     obtain ⟨rfl, rfl⟩ := H
     go_wp2
     go_ret2
     exact ⟨_, by first | rfl | (simp <;> rfl) | (simp [*] <;> rfl), by first | exact Kd.S_nil _ _ _ _ _ | exact Kd.N_nil _ _ _ _ _ | exact Kd.V_nil _ _ _ _ _ | exact Kd.Q_nil _ _ _ _ _ | exact Kd.R_nil _ _ _ _ _, kR0 HB⟩
   ·
    replace c27 := Bool.eq_false_iff.mpr c27
    subst c27
    replace H : ((impl_rankOf.f kj3 l0 l1).bind fun t352 => ((impl_combined_impl_without.f kj3 t352 l0 l1).bind fun t353 => ((impl_normalFull.f t353).bind fun bt356 => (some (bt356.1, bt356.2))))) = some (r1, r2) := (by rw [if_neg (show ¬ (false = true) by decide)] at H; exact H)
    obtain ⟨t352, A280, H⟩ := zW_ H
    replace H : ((impl_combined_impl_without.f kj3 t352 l0 l1).bind fun t353 => ((impl_normalFull.f t353).bind fun bt356 => (some (bt356.1, bt356.2)))) = some (r1, r2) := H
    have A28 := yD A280
    clear A280
    obtain ⟨t353, A290, H⟩ := zW_ H
    replace H : ((impl_normalFull.f t353).bind fun bt356 => (some (bt356.1, bt356.2))) = some (r1, r2) := H
    have A29 := yD A290
    clear A290
    obtain ⟨⟨t356, t359⟩, A300, H⟩ := zW_ H
    replace H : (some (t356, t359)) = some (r1, r2) := H
    have A30 := yD A300
    clear A300
    simp only [Option.some.injEq, Prod.mk.injEq] at H
    obtain ⟨rfl, rfl⟩ := H
    go_wp2_with (first | ((with_reducible refine gate_callee (f := 99) rfl ?_); refine gL 41 Try.func99 #[.slice A0 l0.length c0, .slice A1 l1.length c1] ?_; (with_reducible refine (impl_rankOf.calls kj3 (fun k_ => k_ < w.heap.size) _ _ l0 (fun k_ => k_ < w.heap.size) _ _ l1 t352 _ ?side1 ?side2 A28.out).mono ?_); (case side1 => exact Kd.V_mk HC0.out (Kd.F_below (Kd.C_F k42_heap HR0.out) (kB HB))); (case side2 => exact Kd.V_mk HC1.out (Kd.F_below (Kd.C_F k42_heap HR1.out) (kB HB))); rintro e w31 ⟨rfl, hb⟩; refine ⟨_, rfl, ?_⟩; replace HB := yD (zC (kB HB) hb); clear hb) | ((with_reducible refine gate_callee (f := 87) rfl ?_); refine gL 45 Try.func87 #[.int .i64 t352, .slice A0 l0.length c0, .slice A1 l1.length c1, .func (.func 59) #[] #[]] ?_; (with_reducible refine (impl_combined_impl_without.calls kj3 t352 _ _ l0 _ _ l1  t353 _ ?side1 ?side2 ?side3 ?side4 A29.out).mono ?_); (case side1 => exact kV (yY HR0.out HB.out)); (case side2 => exact HC0.out); (case side3 => exact kV (yY HR1.out HB.out)); (case side4 => exact HC1.out); rintro e w32 ⟨v354, rfl, ho0, hb⟩; refine ⟨_, rfl, ?_⟩; have HO355 := yD (zG ho0 (below_size (kB HB))); replace HB := yD (zC (kB HB) hb); clear hb ho0; obtain ⟨Ao33, co33, eo33⟩ := Kd.S_slice HO355.out; subst eo33) | ((with_reducible refine gate_callee (f := 86) rfl ?_); refine gL 46 Try.func86 #[.slice Ao33 t353.length co33] ?_; (with_reducible refine (impl_normalFull.calls ?P5_3 (.slice Ao33 t353.length co33) t353 t356 t359 w _ ?side1 ?side2 A30.out).mono ?_); (case side1 => exact kR0 HB); (case side2 => exact HO355.out); rintro e w34 ⟨v357, rfl, ho0, hb, hkp⟩; refine ⟨_, rfl, ?_⟩; have HO358 := yD (Kd.S_mono (ok' := fun k_ => True) ho0 (fun k_ hk_ => trivial)); replace HB := yD (hb); clear HO355; clear hb hkp ho0))
    go_ret2
    exact ⟨_, by first | rfl | (simp <;> rfl) | (simp [*] <;> rfl), kS HO358, kR0 HB⟩
end Go.Proofs.Ytdiaebjbiddefaa.PFnSlabAlgebra
