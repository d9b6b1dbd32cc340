/- Each Go function here comes to what the plain function of its name says, where that says something. Made by a program of this session, over the print. -/
import Derived.Test.YtgpkkplabnliiaaPFnRangesx0
import Derived.Test.YtgpkkplabnliiaaPFnRangesx8
import Derived.Test.YtgpkkplabnliiaaPFnRangesx12
import Derived.Test.YtgpkkplabnliiaaPFnRangesx13
namespace Go.Proofs.Ytgpkkplabnliiaa.PFnRanges
open Go.RowKit Go.Proofs.YtgpkkplabnliiaaW.PrintWords Go.Proofs.YtgpkkplabnliiaaW.PrintLast Go.Proofs.YtgpkkplabnliiaaW.PrintMore
attribute [local go_sem] max2_int min2_int max_two min_two max_three min_three max_four min_four   -- for this text's walks alone
set_option linter.unusedVariables false
set_option linter.unusedSimpArgs false

/-! ### impl_Selection_slabIndices: function 73 -/
mutual
def impl_Selection_slabIndices.l0 : Nat → List Int → List Int → Int → Int → Int → List Int → List Int → List Int → List Int → List (S97) → Option (List Int)
 | 0, _, _, _, _, _, _, _, _, _, _ => none
 | k + 1, x5, x14, x15, x16, x431000, x431001, x431002, x431003, x431004, x431005 => if x16 < x15 then (if 0 ≤ x16 then (if x16 < (x14.length : Int) then (impl_Selection_slabIndices.l1 k x16 (rd x14 x16) ([] : List Int) x14 x15 x16 x5 (x5.length : Int) 0 x431000 x431001 x431002 x431003 x431004 x431005) else (none)) else (none)) else (some x5)
def impl_Selection_slabIndices.l1 : Nat → Int → Int → List Int → List Int → Int → Int → List Int → Int → Int → Int → List Int → List Int → List Int → List Int → List (S97) → Option (List Int)
 | 0, _, _, _, _, _, _, _, _, _, _, _, _, _, _, _ => none
 | k + 1, x6, x7, x8, x14, x15, x16, x21, x22, x23, x431000, x431001, x431002, x431003, x431004, x431005 => if x23 < x22 then (if 0 ≤ x23 then (if x23 < (x21.length : Int) then ((impl_Selection_coordinates.f k x431000 x431001 x431002 x431003 x431004 x431005 x6).bind fun t436 => (impl_Selection_slabIndices.l2 k x6 x7 x8 (rd x21 x23) x14 x15 x16 x21 x22 x23 t436 (t436.length : Int) 0 x431000 x431001 x431002 x431003 x431004 x431005)) else (none)) else (none)) else (impl_Selection_slabIndices.l0 k x8 x14 x15 (wrap64 (x16 + 1)) x431000 x431001 x431002 x431003 x431004 x431005)
def impl_Selection_slabIndices.l2 : Nat → Int → Int → List Int → Int → List Int → Int → Int → List Int → Int → Int → List Int → Int → Int → Int → List Int → List Int → List Int → List Int → List (S97) → Option (List Int)
 | 0, _, _, _, _, _, _, _, _, _, _, _, _, _, _, _, _, _, _, _ => none
 | k + 1, x6, x7, x8, x10, x14, x15, x16, x21, x22, x23, x29, x30, x31, x431000, x431001, x431002, x431003, x431004, x431005 => if x31 < x30 then (if 0 ≤ x31 then (if x31 < (x29.length : Int) then (if x8.length < 17592186044416 then (impl_Selection_slabIndices.l2 k x6 x7 (x8 ++ [wrap64 ((wrap64 (x10 * x7)) + (rd x29 x31))]) x10 x14 x15 x16 x21 x22 x23 x29 x30 (wrap64 (x31 + 1)) x431000 x431001 x431002 x431003 x431004 x431005) else (none)) else (none)) else (none)) else (impl_Selection_slabIndices.l1 k x6 x7 x8 x14 x15 x16 x21 x22 (wrap64 (x23 + 1)) x431000 x431001 x431002 x431003 x431004 x431005)
end
def impl_Selection_slabIndices.f (k : Nat) (a0_0 : Int) (l0_1 : List Int) (l0_2 : List Int) (l0_3 : List Int) (l0_4 : List Int) (l0_5 : List (S97)) (l1 : List Int) : Option (List Int) := impl_Selection_slabIndices.l0 k (([0] : List Int)) l1 (l1.length : Int) 0 a0_0 l0_1 l0_2 l0_3 l0_4 l0_5
theorem impl_Selection_slabIndices.mono_l : ∀ k, (∀ y0 y1 y2 y3 y4 y5 y6 y7 y8 y9, LeO (impl_Selection_slabIndices.l0 k y0 y1 y2 y3 y4 y5 y6 y7 y8 y9) (impl_Selection_slabIndices.l0 (k + 1) y0 y1 y2 y3 y4 y5 y6 y7 y8 y9)) ∧ (∀ y0 y1 y2 y3 y4 y5 y6 y7 y8 y9 y10 y11 y12 y13 y14, LeO (impl_Selection_slabIndices.l1 k y0 y1 y2 y3 y4 y5 y6 y7 y8 y9 y10 y11 y12 y13 y14) (impl_Selection_slabIndices.l1 (k + 1) y0 y1 y2 y3 y4 y5 y6 y7 y8 y9 y10 y11 y12 y13 y14)) ∧ (∀ y0 y1 y2 y3 y4 y5 y6 y7 y8 y9 y10 y11 y12 y13 y14 y15 y16 y17 y18, LeO (impl_Selection_slabIndices.l2 k y0 y1 y2 y3 y4 y5 y6 y7 y8 y9 y10 y11 y12 y13 y14 y15 y16 y17 y18) (impl_Selection_slabIndices.l2 (k + 1) y0 y1 y2 y3 y4 y5 y6 y7 y8 y9 y10 y11 y12 y13 y14 y15 y16 y17 y18))
 | 0 => ⟨fun _ _ _ _ _ _ _ _ _ _ r h => by simp [impl_Selection_slabIndices.l0] at h, fun _ _ _ _ _ _ _ _ _ _ _ _ _ _ _ r h => by simp [impl_Selection_slabIndices.l1] at h, fun _ _ _ _ _ _ _ _ _ _ _ _ _ _ _ _ _ _ _ r h => by simp [impl_Selection_slabIndices.l2] at h⟩
 | k + 1 => by
  obtain ⟨ih0, ih1, ih2⟩ := impl_Selection_slabIndices.mono_l k
  refine ⟨?_, ?_, ?_⟩
  ·
   intro y0 y1 y2 y3 y4 y5 y6 y7 y8 y9
   unfold impl_Selection_slabIndices.l0
   repeat' first
   | (with_reducible exact ih0 _ _ _ _ _ _ _ _ _ _)
   | (with_reducible exact ih1 _ _ _ _ _ _ _ _ _ _ _ _ _ _ _)
   | (with_reducible exact ih2 _ _ _ _ _ _ _ _ _ _ _ _ _ _ _ _ _ _ _)
   | (with_reducible exact impl_Selection_coordinates.mono _ _ _ _ _ _ _ _)
   | (with_reducible exact LeO.refl _)
   | (with_reducible exact LeO.none _)
   | (with_reducible refine LeO.ite ?_ ?_)
   | (with_reducible refine LeO.bind ?_ (fun _ => ?_))
   | exact ih0 _ _ _ _ _ _ _ _ _ _
   | exact ih1 _ _ _ _ _ _ _ _ _ _ _ _ _ _ _
   | exact ih2 _ _ _ _ _ _ _ _ _ _ _ _ _ _ _ _ _ _ _
   | exact impl_Selection_coordinates.mono _ _ _ _ _ _ _ _
   | exact LeO.none _
   | refine LeO.ite ?_ ?_
   | refine LeO.bind ?_ (fun _ => ?_)
  ·
   intro y0 y1 y2 y3 y4 y5 y6 y7 y8 y9 y10 y11 y12 y13 y14
   unfold impl_Selection_slabIndices.l1
   repeat' first
   | (with_reducible exact ih0 _ _ _ _ _ _ _ _ _ _)
   | (with_reducible exact ih1 _ _ _ _ _ _ _ _ _ _ _ _ _ _ _)
   | (with_reducible exact ih2 _ _ _ _ _ _ _ _ _ _ _ _ _ _ _ _ _ _ _)
   | (with_reducible exact impl_Selection_coordinates.mono _ _ _ _ _ _ _ _)
   | (with_reducible exact LeO.refl _)
   | (with_reducible exact LeO.none _)
   | (with_reducible refine LeO.ite ?_ ?_)
   | (with_reducible refine LeO.bind ?_ (fun _ => ?_))
   | exact ih0 _ _ _ _ _ _ _ _ _ _
   | exact ih1 _ _ _ _ _ _ _ _ _ _ _ _ _ _ _
   | exact ih2 _ _ _ _ _ _ _ _ _ _ _ _ _ _ _ _ _ _ _
   | exact impl_Selection_coordinates.mono _ _ _ _ _ _ _ _
   | exact LeO.none _
   | refine LeO.ite ?_ ?_
   | refine LeO.bind ?_ (fun _ => ?_)
  ·
   intro y0 y1 y2 y3 y4 y5 y6 y7 y8 y9 y10 y11 y12 y13 y14 y15 y16 y17 y18
   unfold impl_Selection_slabIndices.l2
   repeat' first
   | (with_reducible exact ih0 _ _ _ _ _ _ _ _ _ _)
   | (with_reducible exact ih1 _ _ _ _ _ _ _ _ _ _ _ _ _ _ _)
   | (with_reducible exact ih2 _ _ _ _ _ _ _ _ _ _ _ _ _ _ _ _ _ _ _)
   | (with_reducible exact impl_Selection_coordinates.mono _ _ _ _ _ _ _ _)
   | (with_reducible exact LeO.refl _)
   | (with_reducible exact LeO.none _)
   | (with_reducible refine LeO.ite ?_ ?_)
   | (with_reducible refine LeO.bind ?_ (fun _ => ?_))
   | exact ih0 _ _ _ _ _ _ _ _ _ _
   | exact ih1 _ _ _ _ _ _ _ _ _ _ _ _ _ _ _
   | exact ih2 _ _ _ _ _ _ _ _ _ _ _ _ _ _ _ _ _ _ _
   | exact impl_Selection_coordinates.mono _ _ _ _ _ _ _ _
   | exact LeO.none _
   | refine LeO.ite ?_ ?_
   | refine LeO.bind ?_ (fun _ => ?_)
theorem impl_Selection_slabIndices.mono : ∀ a0 a1 a2 a3 a4 a5 a6 k, LeO (impl_Selection_slabIndices.f k a0 a1 a2 a3 a4 a5 a6) (impl_Selection_slabIndices.f (k + 1) a0 a1 a2 a3 a4 a5 a6) := by
 intro a0 a1 a2 a3 a4 a5 a6 k
 obtain ⟨ih0, ih1, ih2⟩ := impl_Selection_slabIndices.mono_l k
 unfold impl_Selection_slabIndices.f
 repeat' first
  | (with_reducible exact ih0 _ _ _ _ _ _ _ _ _ _)
  | (with_reducible exact ih1 _ _ _ _ _ _ _ _ _ _ _ _ _ _ _)
  | (with_reducible exact ih2 _ _ _ _ _ _ _ _ _ _ _ _ _ _ _ _ _ _ _)
  | (with_reducible exact impl_Selection_coordinates.mono _ _ _ _ _ _ _ _)
  | (with_reducible exact LeO.refl _)
  | (with_reducible exact LeO.none _)
  | (with_reducible refine LeO.ite ?_ ?_)
  | (with_reducible refine LeO.bind ?_ (fun _ => ?_))
  | exact ih0 _ _ _ _ _ _ _ _ _ _
  | exact ih1 _ _ _ _ _ _ _ _ _ _ _ _ _ _ _
  | exact ih2 _ _ _ _ _ _ _ _ _ _ _ _ _ _ _ _ _ _ _
  | exact impl_Selection_coordinates.mono _ _ _ _ _ _ _ _
  | exact LeO.none _
  | refine LeO.ite ?_ ?_
  | refine LeO.bind ?_ (fun _ => ?_)
set_option maxHeartbeats 8000000 in
set_option maxRecDepth 100000 in
theorem impl_Selection_slabIndices.calls (k : Nat) (a0_0 : Int) (A0_1 : Option Addr) (c0_1 : Nat) (l0_1 : List Int) (A0_2 : Option Addr) (c0_2 : Nat) (l0_2 : List Int) (A0_3 : Option Addr) (c0_3 : Nat) (l0_3 : List Int) (A0_4 : Option Addr) (c0_4 : Nat) (l0_4 : List Int) (A0_5 : Option Addr) (c0_5 : Nat) (l0_5 : List (S97)) (A1 : Option Addr) (c1 : Nat) (l1 : List Int) (r : List Int) (w : World) (hr0_1 : Kd.C (Kd.int .i64) w A0_1 l0_1.length l0_1) (hc0_1 : l0_1.length ≤ c0_1) (hr0_2 : Kd.C (Kd.int .i64) w A0_2 l0_2.length l0_2) (hc0_2 : l0_2.length ≤ c0_2) (hr0_3 : Kd.C (Kd.int .i64) w A0_3 l0_3.length l0_3) (hc0_3 : l0_3.length ≤ c0_3) (hr0_4 : Kd.C (Kd.int .i64) w A0_4 l0_4.length l0_4) (hc0_4 : l0_4.length ≤ c0_4) (hr0_5 : Kd.C k97 w A0_5 l0_5.length l0_5) (hc0_5 : l0_5.length ≤ c0_5) (hr1 : Kd.C (Kd.int .i64) w A1 l1.length l1) (hc1 : l1.length ≤ c1) (h : impl_Selection_slabIndices.f k a0_0 l0_1 l0_2 l0_3 l0_4 l0_5 l1 = some r) :
 Calls Try.prog 73 #[.agg #[.int .i64 a0_0, .slice A0_1 l0_1.length c0_1, .slice A0_2 l0_2.length c0_2, .slice A0_3 l0_3.length c0_3, .slice A0_4 l0_4.length c0_4, .slice A0_5 l0_5.length c0_5], .slice A1 l1.length c1] w fun e w' => ∃ v0_ : Value, e = .returned (v0_) ∧ Kd.R (Kd.int .i64) 2 w' w.heap.size (fun _ => True) v0_ r ∧ Below w.heap.size w w' := by
 have hu28 := Try.underlying28
 have HR0_1 := yD hr0_1
 have HC0_1 := yD hc0_1
 clear hr0_1 hc0_1
 have HR0_2 := yD hr0_2
 have HC0_2 := yD hc0_2
 clear hr0_2 hc0_2
 have HR0_3 := yD hr0_3
 have HC0_3 := yD hc0_3
 clear hr0_3 hc0_3
 have HR0_4 := yD hr0_4
 have HC0_4 := yD hc0_4
 clear hr0_4 hc0_4
 have HR0_5 := yD hr0_5
 have HC0_5 := yD hc0_5
 clear hr0_5 hc0_5
 have HR1 := yD hr1
 have HC1 := yD hc1
 clear hr1 hc1
 have HB := yD (Below.refl w.heap.size w)
 have H : (impl_Selection_slabIndices.l0 k (([0] : List Int)) l1 (l1.length : Int) 0 a0_0 l0_1 l0_2 l0_3 l0_4 l0_5) = some r := h
 clear h
 obtain ⟨y431, hy431⟩ : ∃ y_ : List Int, y_ = (([0] : List Int)) := ⟨_, rfl⟩
 replace H : (impl_Selection_slabIndices.l0 k y431 l1 (l1.length : Int) 0 a0_0 l0_1 l0_2 l0_3 l0_4 l0_5) = some r := by first | (rw [hy431]; with_reducible exact H) | (have H2_ := (Option.bind_some _ _).symm.trans H; rw [hy431]; with_reducible exact H2_) | (have H2_ := (Option.bind_some _ _).symm.trans H; with_reducible exact H2_) | with_reducible exact H | (rw [hy431]; exact H) | exact H
 have Ny431 := yD hy431
 clear hy431
 have H' := yD H
 clear H; go_enter Try.func73, Try.ntmps73
 go_wp2_with (first | ((with_reducible refine gate_dst (N := 2) rfl ?_); refine box_event ?hg (N := 2) ?hd (cs := #[.int .i64 a0_0, .slice A0_1 l0_1.length c0_1, .slice A0_2 l0_2.length c0_2, .slice A0_3 l0_3.length c0_3, .slice A0_4 l0_4.length c0_4, .slice A0_5 l0_5.length c0_5]) (t := 28) ?hr ?_; (case hd => rfl); (case hg => rfl); (case hr => first | (go_simp; done) | (go_simp; rfl)); intro gb430 hg w3 hbox hb; have n0_ := yD (zC (kB HB) hb); have n1_ := yD (hbox); have n2_ := yD ((by rw [hg]; exact (below_size (kB HB)) : w.heap.size ≤ gb430)); have n3_ := yD ((by rw [hg]; exact (below_size (kB HB)) : w.heap.size ≤ gb430)); clear HB; have HB := n0_; have BK430 := n1_; have GW430 := n2_; have GE430 := n3_; clear n0_ n1_ n2_ n3_; clear hb hbox hg) | ((with_reducible refine gate_dst (N := 13) rfl ?_); refine Kd.R_lit (Kd.int .i64) _ 2 ?hg (N := 13) ?hd (xs := ([0] : List Int)) (inner := [.int .i64 0]) (ok := fun _ => True) (okp := fun _ => True) ?hr ?hp (fun _ hk => hk) trivial (Below.refl _ _) (Nat.le_refl _) (by simp) ?_; (case hd => rfl); (case hg => rfl); (case hr => first | (go_simp; done) | (go_simp; rfl)); (case hp => exact (Reps.one (show Kd.M (Kd.int .i64) _ _ _ 0 [.int .i64 0] from rfl) (Reps.none _ _))); intro v432 w4 ho5 hb hg_ hnew_; clear hg_ hnew_; (first | rw [← Ny431.out] at ho5 | (simp only [Int.reduceToNat] at ho5; rw [← Ny431.out] at ho5)); have n0_ := yD (yZ ho5 (below_size (kB HB))); have n1_ := yD (zB (g := gb430) (o := .cells #[.int .i64 a0_0, .slice A0_1 l0_1.length c0_1, .slice A0_2 l0_2.length c0_2, .slice A0_3 l0_3.length c0_3, .slice A0_4 l0_4.length c0_4, .slice A0_5 l0_5.length c0_5] 28 (0, 0)) (kM BK430) hb); have n2_ := yD (zC (kB HB) hb); clear BK430; clear HB; have HO433 := n0_; have BK430 := n1_; have HB := n2_; clear n0_ n1_ n2_; clear hb ho5))
 go_loopg [5, 16] k (fun kq v5 v16 w' => ∃ (x5_1 : List Int) (x16_1 : Int), v16 = .int .i64 x16_1 ∧ Aside0 (impl_Selection_slabIndices.l0 kq x5_1 l1 (l1.length : Int) x16_1 a0_0 l0_1 l0_2 l0_3 l0_4 l0_5 = some r) ∧ Aside0 (kq ≤ k) ∧ Aside0 (Kd.R (Kd.int .i64) 2 w' w.heap.size (fun _ => True) v5 x5_1) ∧ Aside0 (w'.heap[gb430]? = some (.cells #[.int .i64 a0_0, (.slice A0_1 l0_1.length c0_1), (.slice A0_2 l0_2.length c0_2), (.slice A0_3 l0_3.length c0_3), (.slice A0_4 l0_4.length c0_4), (.slice A0_5 l0_5.length c0_5)] 28 (0, 0))) ∧ Aside0 (Below w.heap.size w w'))
 case atStart => exact ⟨(y431), (0), (by first | rfl | (simp; done) | (simp [*]; done)), H', ⟨Nat.le_refl _⟩, ⟨by (with_reducible repeat (first | apply yA | apply yB | apply yC)); exact HO433.out⟩, ⟨by (with_reducible repeat (first | refine yM ?_ _ | refine yO ?_ | refine yN ?_ _)); exact BK430.out⟩, ⟨kR1 HB⟩⟩
 case round =>
  clear H'
  try clear c1; try clear p2
  obtain ⟨x5_1, x16_1, rfl, HA, HK1, HO_5, BK430, HB⟩ := hrel
  cases gk with
  | zero => exact absurd HA.out (by simp [impl_Selection_slabIndices.l0])
  | succ k1 =>
   have H := HA.out; clear HA
   simp only [impl_Selection_slabIndices.l0] at H
   by_cases c6 : x16_1 < (l1.length : Int)
   ·
    rw [if_pos c6] at H
    have c6b0 : decide (x16_1 < (l1.length : Int)) = true := zR c6; clear c6
    by_cases c7 : 0 ≤ x16_1
    ·
     rw [if_pos c7] at H
     have c7b0 : decide (0 ≤ x16_1) = true := zR c7; clear c7
     by_cases c8 : x16_1 < (l1.length : Int)
     ·
      rw [if_pos c8] at H
      have c8b0 : decide (x16_1 < (l1.length : Int)) = true := zR c8; clear c8
      have H' := yD H
      clear H
      have p434 : 0 ≤ (x16_1 : Int) := zP (by assumption)
      have q434 : x16_1 < (l1.length : Int) := zP (by assumption)
      obtain ⟨ad434, e434, hx434_0⟩ := Kd.at_int HR1.out x16_1 p434 q434
      cases e434
      replace hx434_0 := (HB.out.cell (zQ w _ hx434_0)).trans hx434_0
      replace p434 := eq_true p434; replace q434 := eq_true q434
      obtain ⟨Ao9, co9, eo9⟩ := Kd.R_slice HO_5.out
      subst eo9
      go_wp2
      go_loopg [8, 23] k1 (fun kq v8 v23 w' => ∃ (x8_2 : List Int) (x23_2 : Int), v23 = .int .i64 x23_2 ∧ Aside0 (impl_Selection_slabIndices.l1 kq x16_1 (rd l1 x16_1) x8_2 l1 (l1.length : Int) x16_1 x5_1 (x5_1.length : Int) x23_2 a0_0 l0_1 l0_2 l0_3 l0_4 l0_5 = some r) ∧ Aside0 (kq ≤ k1) ∧ Aside0 (Kd.R (Kd.int .i64) 2 w' w.heap.size (fun k_ => some k_ ≠ ((.slice Ao9 x5_1.length co9) : Value).ownBlock) v8 x8_2) ∧ Aside0 (Kd.R (Kd.int .i64) 2 w' w.heap.size (fun k_ => some k_ ≠ (v8 : Value).ownBlock) (.slice Ao9 x5_1.length co9) x5_1) ∧ Aside0 (w'.heap[gb430]? = some (.cells #[.int .i64 a0_0, (.slice A0_1 l0_1.length c0_1), (.slice A0_2 l0_2.length c0_2), (.slice A0_3 l0_3.length c0_3), (.slice A0_4 l0_4.length c0_4), (.slice A0_5 l0_5.length c0_5)] 28 (0, 0))) ∧ Aside0 (Below w.heap.size w w'))
      case atStart => exact ⟨(([] : List Int)), (0), (by first | rfl | (simp; done) | (simp [*]; done)), H', ⟨Nat.le_refl _⟩, ⟨by first | exact Kd.R_nil _ _ _ _ _ | exact Kd.N_nil _ _ _ _ _ | exact Kd.V_nil _ _ _ _ _ | exact Kd.Q_nil _ _ _ _ _ | exact Kd.S_nil _ _ _ _ _⟩, ⟨by (with_reducible repeat (first | apply yA | apply yB | apply yC)); exact zF HO_5.out (fun _ hk => (by simp [Value.ownBlock]))⟩, ⟨by (with_reducible repeat (first | refine yM ?_ _ | refine yO ?_ | refine yN ?_ _)); exact BK430.out⟩, ⟨kR1 HB⟩⟩
      case round =>
       clear H'
       try clear c1; try clear p2; try clear p4; try clear q4; try clear hx4; try clear c6; try clear c6b0; try clear c7; try clear c7b0; try clear c8; try clear c8b0; try clear hx434_0; try clear p2; try clear p434; try clear q434
       obtain ⟨x8_2, x23_2, rfl, HA, HK2, HO_8, HO_21, BK430, HB⟩ := hrel
       cases gk with
       | zero => exact absurd HA.out (by simp [impl_Selection_slabIndices.l1])
       | succ k2 =>
        have H := HA.out; clear HA
        simp only [impl_Selection_slabIndices.l1] at H
        by_cases c10 : x23_2 < (x5_1.length : Int)
        ·
         rw [if_pos c10] at H
         have c10b0 : decide (x23_2 < (x5_1.length : Int)) = true := zR c10; clear c10
         by_cases c11 : 0 ≤ x23_2
         ·
          rw [if_pos c11] at H
          have c11b0 : decide (0 ≤ x23_2) = true := zR c11; clear c11
          by_cases c12 : x23_2 < (x5_1.length : Int)
          ·
           rw [if_pos c12] at H
           have c12b0 : decide (x23_2 < (x5_1.length : Int)) = true := zR c12; clear c12
           obtain ⟨t436, A130, H⟩ := zW_ H
           replace H : (impl_Selection_slabIndices.l2 k2 x16_1 (rd l1 x16_1) x8_2 (rd x5_1 x23_2) l1 (l1.length : Int) x16_1 x5_1 (x5_1.length : Int) x23_2 t436 (t436.length : Int) 0 a0_0 l0_1 l0_2 l0_3 l0_4 l0_5) = some r := H
           have A13 := yD A130
           clear A130
           have H' := yD H
           clear H
           have p435 : 0 ≤ (x23_2 : Int) := zP (by assumption)
           have q435 : x23_2 < (x5_1.length : Int) := zP (by assumption)
           obtain ⟨ad435, e435, hx435_0⟩ := Kd.at_int (zA HO_21.out).2.2 x23_2 p435 q435
           cases e435; replace p435 := eq_true p435; replace q435 := eq_true q435
           obtain ⟨hcz14_0, hcz14_1, hcz14_2, hcz14_3, hcz14_4, hcz14_5⟩ := cz6 BK430.out
           obtain ⟨hfz14_0, hfz14_1, hfz14_2, hfz14_3, hfz14_4, hfz14_5⟩ := fz6 BK430.out
           go_wp2_with (first | ((with_reducible refine gate_callee (f := 99) rfl ?_); refine goesL_ (some 29) rfl rfl Try.func99 (by kernel_rfl) rfl #[.agg #[.int .i64 a0_0, .slice A0_1 l0_1.length c0_1, .slice A0_2 l0_2.length c0_2, .slice A0_3 l0_3.length c0_3, .slice A0_4 l0_4.length c0_4, .slice A0_5 l0_5.length c0_5], .int .i64 x16_1] rfl (by (try simp only [zK, zL, zM]); first | done | rfl | (simp only [zN, zO]; rfl)) ?_; (with_reducible refine (impl_Selection_coordinates.calls k2 a0_0 _ _ l0_1 _ _ l0_2 _ _ l0_3 _ _ l0_4 _ _ l0_5 x16_1 t436 _ ?side1 ?side2 ?side3 ?side4 ?side5 ?side6 ?side7 ?side8 ?side9 ?side10 A13.out).mono ?_); (case side1 => exact kV (yY HR0_1.out HB.out)); (case side2 => exact HC0_1.out); (case side3 => exact kV (yY HR0_2.out HB.out)); (case side4 => exact HC0_2.out); (case side5 => exact kV (yY HR0_3.out HB.out)); (case side6 => exact HC0_3.out); (case side7 => exact kV (yY HR0_4.out HB.out)); (case side8 => exact HC0_4.out); (case side9 => exact kV (yY HR0_5.out HB.out)); (case side10 => exact HC0_5.out); rintro e w15 ⟨v437, rfl, ho0, hb⟩; refine ⟨_, rfl, ?_⟩; have n0_ := yD (Kd.R_elder' (kA HO_8) (yH ho0) hb); have n1_ := yD (Kd.R_elder' (kA HO_21) (yH ho0) hb); have n2_ := yD (yZ (yJ (yJ ho0 (yK (kA HO_8))) (yK (kA HO_21))) (below_size (kB HB))); have n3_ := yD (zB (g := gb430) (o := .cells #[.int .i64 a0_0, .slice A0_1 l0_1.length c0_1, .slice A0_2 l0_2.length c0_2, .slice A0_3 l0_3.length c0_3, .slice A0_4 l0_4.length c0_4, .slice A0_5 l0_5.length c0_5] 28 (0, 0)) (kM BK430) hb); have n4_ := yD (zC (kB HB) hb); clear HO_8; clear HO_21; clear BK430; clear HB; have HO_8 := n0_; have HO_21 := n1_; have HO438 := n2_; have BK430 := n3_; have HB := n4_; clear n0_ n1_ n2_ n3_ n4_; (try clear hb); (try clear hb2); (try clear hk); (try clear hi); (try clear ho0); obtain ⟨Ao16, co16, eo16⟩ := Kd.R_slice HO438.out; subst eo16))
           go_loopg [8, 31] k2 (fun kq v8 v31 w' => ∃ (x8_3 : List Int) (x31_3 : Int), v31 = .int .i64 x31_3 ∧ Aside0 (impl_Selection_slabIndices.l2 kq x16_1 (rd l1 x16_1) x8_3 (rd x5_1 x23_2) l1 (l1.length : Int) x16_1 x5_1 (x5_1.length : Int) x23_2 t436 (t436.length : Int) x31_3 a0_0 l0_1 l0_2 l0_3 l0_4 l0_5 = some r) ∧ Aside0 (kq ≤ k2) ∧ Aside0 (Kd.R (Kd.int .i64) 2 w' w.heap.size (fun k_ => some k_ ≠ ((.slice (some ad435) x5_1.length co9) : Value).ownBlock ∧ some k_ ≠ ((.slice Ao16 t436.length co16) : Value).ownBlock) v8 x8_3) ∧ Aside0 (Kd.R (Kd.int .i64) 2 w' w.heap.size (fun k_ => some k_ ≠ (v8 : Value).ownBlock ∧ some k_ ≠ ((.slice Ao16 t436.length co16) : Value).ownBlock) (.slice (some ad435) x5_1.length co9) x5_1) ∧ Aside0 (Kd.R (Kd.int .i64) 2 w' w.heap.size (fun k_ => some k_ ≠ (v8 : Value).ownBlock ∧ some k_ ≠ ((.slice (some ad435) x5_1.length co9) : Value).ownBlock) (.slice Ao16 t436.length co16) t436) ∧ Aside0 (w'.heap[gb430]? = some (.cells #[.int .i64 a0_0, (.slice A0_1 l0_1.length c0_1), (.slice A0_2 l0_2.length c0_2), (.slice A0_3 l0_3.length c0_3), (.slice A0_4 l0_4.length c0_4), (.slice A0_5 l0_5.length c0_5)] 28 (0, 0))) ∧ Aside0 (Below w.heap.size w w'))
           case atStart => exact ⟨(x8_2), (0), (by first | rfl | (simp; done) | (simp [*]; done)), H', ⟨Nat.le_refl _⟩, ⟨by (with_reducible repeat (first | apply yA | apply yB | apply yC)); exact HO_8.out⟩, ⟨by (with_reducible repeat (first | apply yA | apply yB | apply yC)); exact HO_21.out⟩, ⟨by (with_reducible repeat (first | apply yA | apply yB | apply yC)); exact zF HO438.out (fun _ hk => ⟨hk.1.2, hk.2⟩)⟩, ⟨by (with_reducible repeat (first | refine yM ?_ _ | refine yO ?_ | refine yN ?_ _)); exact BK430.out⟩, ⟨kR1 HB⟩⟩
           case round =>
            clear H'
            try clear c1; try clear p2; try clear p4; try clear q4; try clear hx4; try clear c6; try clear c6b0; try clear c7; try clear c7b0; try clear c8; try clear c8b0; try clear c9; try clear c10; try clear c10b0; try clear c11; try clear c11b0; try clear c12; try clear c12b0; try clear hcz14_0; try clear hcz14_1; try clear hcz14_2; try clear hcz14_3; try clear hcz14_4; try clear hcz14_5; try clear hfz14_0; try clear hfz14_1; try clear hfz14_2; try clear hfz14_3; try clear hfz14_4; try clear hfz14_5; try clear hx434_0; try clear hx435_0; try clear p2; try clear p4; try clear p434; try clear p435; try clear q4; try clear q434; try clear q435
            obtain ⟨x8_3, x31_3, rfl, HA, HK3, HO_8, HO_21, HO_29, BK430, HB⟩ := hrel
            cases gk with
            | zero => exact absurd HA.out (by simp [impl_Selection_slabIndices.l2])
            | succ k3 =>
             have H := HA.out; clear HA
             simp only [impl_Selection_slabIndices.l2] at H
             by_cases c17 : x31_3 < (t436.length : Int)
             ·
              rw [if_pos c17] at H
              have c17b0 : decide (x31_3 < (t436.length : Int)) = true := zR c17; clear c17
              by_cases c18 : 0 ≤ x31_3
              ·
               rw [if_pos c18] at H
               have c18b0 : decide (0 ≤ x31_3) = true := zR c18; clear c18
               by_cases c19 : x31_3 < (t436.length : Int)
               ·
                rw [if_pos c19] at H
                have c19b0 : decide (x31_3 < (t436.length : Int)) = true := zR c19; clear c19
                by_cases c20 : x8_3.length < 17592186044416
                · rw [if_pos c20] at H
                  have LMc20 := yD c20
                  clear c20
                  obtain ⟨y440, hy440⟩ : ∃ y_ : List Int, y_ = (x8_3 ++ [wrap64 ((wrap64 ((rd x5_1 x23_2) * (rd l1 x16_1))) + (rd t436 x31_3))]) := ⟨_, rfl⟩
                  replace H : (impl_Selection_slabIndices.l2 k3 x16_1 (rd l1 x16_1) y440 (rd x5_1 x23_2) l1 (l1.length : Int) x16_1 x5_1 (x5_1.length : Int) x23_2 t436 (t436.length : Int) (wrap64 (x31_3 + 1)) a0_0 l0_1 l0_2 l0_3 l0_4 l0_5) = some r := by first | (rw [hy440]; with_reducible exact H) | (have H2_ := (Option.bind_some _ _).symm.trans H; rw [hy440]; with_reducible exact H2_) | (have H2_ := (Option.bind_some _ _).symm.trans H; with_reducible exact H2_) | with_reducible exact H | (rw [hy440]; exact H) | exact H
                  have Ny440 := yD hy440
                  clear hy440
                  have H' := yD H
                  clear H
                  have p439 : 0 ≤ (x31_3 : Int) := zP (by assumption)
                  have q439 : x31_3 < (t436.length : Int) := zP (by assumption)
                  obtain ⟨ad439, e439, hx439_0⟩ := Kd.at_int (zA HO_29.out).2.2 x31_3 p439 q439
                  cases e439; replace p439 := eq_true p439; replace q439 := eq_true q439
                  go_wp2_with (first | ((with_reducible refine gate_builtin (b := .append) (xs := #[.tmp 35, .tmp 41]) rfl ?_); at_builtin; refine Kd.R_append (Kd.int .i64) (w0 := w) w.heap.size rfl (.tmp 35) (.tmp 41) 23 2 (.int .i64 0) 8 rfl Try.underlying23 info2 rfl (by decide) (by omega) u8 x8_3 (wrap64 ((wrap64 ((rd x5_1 x23_2) * (rd l1 x16_1))) + (rd t436 x31_3))) [.int .i64 (wrap64 ((wrap64 ((rd x5_1 x23_2) * (rd l1 x16_1))) + (rd t436 x31_3)))] (fun k_ => some k_ ≠ (.slice (some ad435) x5_1.length co9 : Value).ownBlock ∧ some k_ ≠ (.slice (some ad439) t436.length co16 : Value).ownBlock) (fun _ => False) rfl rfl ?aP (fun _ hk => hk.elim) ?aF ?aO ?aB ?aS ?aL ?_; (case aP => exact rfl); (case aB => exact (kB HB)); (case aF => exact (fun k_ hk => ⟨Kd.fresh' (yK (kA HO_21)) k_ hk, Kd.fresh' (yK (kA HO_29)) k_ hk⟩)); (case aO => exact (kA HO_8)); (case aS => exact (below_size (kB HB))); (case aL => have := LMc20.out; omega); intro v441 w21 ho hb hg hat; rw [← Ny440.out] at ho; have n0_ := yD (Kd.R_after (ok := (fun k_ => some k_ ≠ (.slice (some ad439) t436.length co16 : Value).ownBlock)) (by (with_reducible repeat (first | apply yA | apply yB | apply yC)); exact zF HO_21.out (fun _ hk => ⟨hk.2, hk.1⟩)) hg hat); have n1_ := yD (Kd.R_after (ok := (fun k_ => some k_ ≠ (.slice (some ad435) x5_1.length co9 : Value).ownBlock)) (by (with_reducible repeat (first | apply yA | apply yB | apply yC)); exact zF HO_29.out (fun _ hk => ⟨hk.2, hk.1⟩)) hg hat); have n2_ := yD (blk_grown (g := gb430) (o := .cells #[.int .i64 a0_0, .slice A0_1 l0_1.length c0_1, .slice A0_2 l0_2.length c0_2, .slice A0_3 l0_3.length c0_3, .slice A0_4 l0_4.length c0_4, .slice A0_5 l0_5.length c0_5] 28 (0, 0)) (kM BK430) hg (Kd.R_ne HO_8.out BK430.out (by decide))); have n3_ := yD (hb); have n4_ := yD (ho); clear HO_21; clear HO_29; clear BK430; clear HB; clear HO_8; have HO_21 := n0_; have HO_29 := n1_; have BK430 := n2_; have HB := n3_; have HO442 := n4_; clear n0_ n1_ n2_ n3_ n4_; clear ho hb hg hat))
                  go_roundg k3
                  case measure => have := HK1.out; have := HK2.out; have := HK3.out; omega
                  case rel => exact ⟨(y440), (wrap64 (x31_3 + 1)), (by first | rfl | (simp; done) | (simp [*]; done)), H', ⟨by have := HK1.out; have := HK2.out; have := HK3.out; omega⟩, ⟨by (with_reducible repeat (first | apply yA | apply yB | apply yC)); exact HO442.out⟩, ⟨by (with_reducible repeat (first | apply yA | apply yB | apply yC)); exact zF HO_21.out (fun _ hk => ⟨hk.2, hk.1⟩)⟩, ⟨by (with_reducible repeat (first | apply yA | apply yB | apply yC)); exact zF HO_29.out (fun _ hk => ⟨hk.2, hk.1⟩)⟩, ⟨by (with_reducible repeat (first | refine yM ?_ _ | refine yO ?_ | refine yN ?_ _)); exact BK430.out⟩, ⟨kR1 HB⟩⟩
                · rw [if_neg c20] at H
                  exact absurd H (by simp)
               · rw [if_neg c19] at H
                 exact absurd H (by simp)
              · rw [if_neg c18] at H
                exact absurd H (by simp)
             · rw [if_neg c17] at H
               have c17b0 : decide (x31_3 < (t436.length : Int)) = false := zS c17; clear c17
               have H' := yD H
               clear H
               go_wp2
               go_roundg k3
               case measure => have := HK1.out; have := HK2.out; have := HK3.out; omega
               case rel => exact ⟨(x8_3), (wrap64 (x23_2 + 1)), (by first | rfl | (simp; done) | (simp [*]; done)), H', ⟨by have := HK1.out; have := HK2.out; have := HK3.out; omega⟩, ⟨by (with_reducible repeat (first | apply yA | apply yB | apply yC)); exact zF HO_8.out (fun _ hk => hk.1)⟩, ⟨by (with_reducible repeat (first | apply yA | apply yB | apply yC)); exact zF HO_21.out (fun _ hk => hk.1)⟩, ⟨by (with_reducible repeat (first | refine yM ?_ _ | refine yO ?_ | refine yN ?_ _)); exact BK430.out⟩, ⟨kR1 HB⟩⟩
          · rw [if_neg c12] at H
            exact absurd H (by simp)
         · rw [if_neg c11] at H
           exact absurd H (by simp)
        · rw [if_neg c10] at H
          have c10b0 : decide (x23_2 < (x5_1.length : Int)) = false := zS c10; clear c10
          have H' := yD H
          clear H
          go_wp2
          go_roundg k2
          case measure => have := HK1.out; have := HK2.out; omega
          case rel => exact ⟨(x8_2), (wrap64 (x16_1 + 1)), (by first | rfl | (simp; done) | (simp [*]; done)), H', ⟨by have := HK1.out; have := HK2.out; omega⟩, ⟨by (with_reducible repeat (first | apply yA | apply yB | apply yC)); exact zF HO_8.out (fun _ hk => trivial)⟩, ⟨by (with_reducible repeat (first | refine yM ?_ _ | refine yO ?_ | refine yN ?_ _)); exact BK430.out⟩, ⟨kR1 HB⟩⟩
     · rw [if_neg c8] at H
       exact absurd H (by simp)
    · rw [if_neg c7] at H
      exact absurd H (by simp)
   · rw [if_neg c6] at H
     have c6b0 : decide (x16_1 < (l1.length : Int)) = false := zS c6; clear c6; obtain rfl := Option.some.inj H
     go_wp2
     go_ret
     exact ⟨_, by first | rfl | (simp <;> rfl) | (simp [*] <;> rfl), by (with_reducible repeat (first | apply yA | apply yB | apply yC)); exact HO_5.out, kR1 HB⟩

/-! ### impl_indexOf: function 40 -/
def impl_indexOf.l0 : Nat → List Int → Int → List Int → Int → Int → Option (Int)
 | 0, _, _, _, _, _ => none
 | k + 1, x0, x5, x8, x9, x10 => if x10 < x9 then (if 0 ≤ x10 then (if x10 < (x8.length : Int) then (if x10 < (x0.length : Int) then (impl_indexOf.l0 k x0 (wrap64 ((wrap64 (x5 * (rd x0 x10))) + (rd x8 x10))) x8 x9 (wrap64 (x10 + 1))) else (none)) else (none)) else (none)) else (some x5)
def impl_indexOf.f (k : Nat) (l0 : List Int) (l1 : List Int) : Option (Int) := impl_indexOf.l0 k l0 0 l1 (l1.length : Int) 0
theorem impl_indexOf.mono_l : ∀ k, (∀ y0 y1 y2 y3 y4, LeO (impl_indexOf.l0 k y0 y1 y2 y3 y4) (impl_indexOf.l0 (k + 1) y0 y1 y2 y3 y4))
 | 0 => fun _ _ _ _ _ r h => by simp [impl_indexOf.l0] at h
 | k + 1 => by
  have ih0 := impl_indexOf.mono_l k
  ·
   intro y0 y1 y2 y3 y4
   unfold impl_indexOf.l0
   repeat' first
   | (with_reducible exact ih0 _ _ _ _ _)
   | (with_reducible exact LeO.refl _)
   | (with_reducible exact LeO.none _)
   | (with_reducible refine LeO.ite ?_ ?_)
   | (with_reducible refine LeO.bind ?_ (fun _ => ?_))
   | exact ih0 _ _ _ _ _
   | exact LeO.none _
   | refine LeO.ite ?_ ?_
   | refine LeO.bind ?_ (fun _ => ?_)
theorem impl_indexOf.mono : ∀ a0 a1 k, LeO (impl_indexOf.f k a0 a1) (impl_indexOf.f (k + 1) a0 a1) := by
 intro a0 a1 k
 have ih0 := impl_indexOf.mono_l k
 unfold impl_indexOf.f
 repeat' first
  | (with_reducible exact ih0 _ _ _ _ _)
  | (with_reducible exact LeO.refl _)
  | (with_reducible exact LeO.none _)
  | (with_reducible refine LeO.ite ?_ ?_)
  | (with_reducible refine LeO.bind ?_ (fun _ => ?_))
  | exact ih0 _ _ _ _ _
  | exact LeO.none _
  | refine LeO.ite ?_ ?_
  | refine LeO.bind ?_ (fun _ => ?_)
set_option maxHeartbeats 8000000 in
set_option maxRecDepth 100000 in
theorem impl_indexOf.calls (k : Nat) (A0 : Option Addr) (c0 : Nat) (l0 : List Int) (A1 : Option Addr) (c1 : Nat) (l1 : List Int) (r : Int) (w : World) (hr0 : Kd.C (Kd.int .i64) w A0 l0.length l0) (hc0 : l0.length ≤ c0) (hr1 : Kd.C (Kd.int .i64) w A1 l1.length l1) (hc1 : l1.length ≤ c1) (h : impl_indexOf.f k l0 l1 = some r) :
 Calls Try.prog 40 #[.slice A0 l0.length c0, .slice A1 l1.length c1] w fun e w' => e = .returned (.int .i64 r) ∧ Drawn0 w w' := by
 have HR0 := yD hr0
 have HC0 := yD hc0
 clear hr0 hc0
 have HR1 := yD hr1
 have HC1 := yD hc1
 clear hr1 hc1
 have H : (impl_indexOf.l0 k l0 0 l1 (l1.length : Int) 0) = some r := h
 clear h
 have H' := yD H
 clear H; go_enter Try.func40, Try.ntmps40
 go_wp2
 go_loopg [5, 10] k (fun kq v5 v10 w' => ∃ (x5_1 : Int) (x10_1 : Int), v5 = .int .i64 x5_1 ∧ v10 = .int .i64 x10_1 ∧ Aside0 (impl_indexOf.l0 kq l0 x5_1 l1 (l1.length : Int) x10_1 = some r) ∧ Aside0 (kq ≤ k) ∧ Drawn0 w w')
 case atStart => exact ⟨(0), (0), (by first | rfl | (simp; done) | (simp [*]; done)), (by first | rfl | (simp; done) | (simp [*]; done)), H', ⟨Nat.le_refl _⟩, by repeat (first | exact Drawn0.refl _ | apply Drawn0.step)⟩
 case round =>
  clear H'
  try clear c1; try clear p2
  obtain ⟨x5_1, x10_1, rfl, rfl, HA, HK1, ⟨m1, rfl⟩⟩ := hrel
  cases gk with
  | zero => exact absurd HA.out (by simp [impl_indexOf.l0])
  | succ k1 =>
   have H := HA.out; clear HA
   simp only [impl_indexOf.l0] at H
   by_cases c3 : x10_1 < (l1.length : Int)
   ·
    rw [if_pos c3] at H
    have c3b0 : decide (x10_1 < (l1.length : Int)) = true := zR c3; clear c3
    by_cases c4 : 0 ≤ x10_1
    ·
     rw [if_pos c4] at H
     have c4b0 : decide (0 ≤ x10_1) = true := zR c4; clear c4
     by_cases c5 : x10_1 < (l1.length : Int)
     ·
      rw [if_pos c5] at H
      have c5b0 : decide (x10_1 < (l1.length : Int)) = true := zR c5; clear c5
      by_cases c6 : x10_1 < (l0.length : Int)
      ·
       rw [if_pos c6] at H
       have c6b0 : decide (x10_1 < (l0.length : Int)) = true := zR c6; clear c6
       have H' := yD H
       clear H
       have p443 : 0 ≤ (x10_1 : Int) := zP (by assumption)
       have q443 : x10_1 < (l1.length : Int) := zP (by assumption)
       obtain ⟨ad443, e443, hx443_0⟩ := Kd.at_int HR1.out x10_1 p443 q443
       cases e443; replace p443 := eq_true p443; replace q443 := eq_true q443
       have p444 : 0 ≤ (x10_1 : Int) := zP (by assumption)
       have q444 : x10_1 < (l0.length : Int) := zP (by assumption)
       obtain ⟨ad444, e444, hx444_0⟩ := Kd.at_int HR0.out x10_1 p444 q444
       cases e444; replace p444 := eq_true p444; replace q444 := eq_true q444
       go_wp2
       go_roundg k1
       case measure => have := HK1.out; omega
       case rel => exact ⟨(wrap64 ((wrap64 (x5_1 * (rd l0 x10_1))) + (rd l1 x10_1))), (wrap64 (x10_1 + 1)), (by first | rfl | (simp; done) | (simp [*]; done)), (by first | rfl | (simp; done) | (simp [*]; done)), H', ⟨by have := HK1.out; omega⟩, by repeat (first | exact Drawn0.refl _ | apply Drawn0.step)⟩
      · rw [if_neg c6] at H
        exact absurd H (by simp)
     · rw [if_neg c5] at H
       exact absurd H (by simp)
    · rw [if_neg c4] at H
      exact absurd H (by simp)
   · rw [if_neg c3] at H
     have c3b0 : decide (x10_1 < (l1.length : Int)) = false := zS c3; clear c3; obtain rfl := Option.some.inj H
     go_wp2
     go_ret
     exact ⟨by first | rfl | (simp; done) | (simp [*]; done), by repeat (first | exact Drawn0.refl _ | apply Drawn0.step)⟩

/-! ### impl_Selection_indices: function 39 -/
mutual
def impl_Selection_indices.l0 : Nat → List Int → Int → Int → Option (List Int)
 | 0, _, _, _ => none
 | k + 1, x5, x14, x15 => if x15 < x14 then (if x5.length < 17592186044416 then (impl_Selection_indices.l0 k (x5 ++ [x15]) x14 (wrap64 (x15 + 1))) else (none)) else (some x5)
def impl_Selection_indices.l1 : Nat → List Int → List Int → List (S97) → Int → Int → Option (List Int)
 | 0, _, _, _, _, _ => none
 | k + 1, x1, x5, x31, x32, x33 => if x33 < x32 then (if 0 ≤ x33 then (if x33 < (x31.length : Int) then ((impl_indexOf.f k x1 ((rd_T97 x31 x33).f0)).bind fun t455 => (if x5.length < 17592186044416 then (impl_Selection_indices.l1 k x1 (x5 ++ [t455]) x31 x32 (wrap64 (x33 + 1))) else (none))) else (none)) else (none)) else (some x5)
end
def impl_Selection_indices.f (k : Nat) (a0_0 : Int) (l0_1 : List Int) (l0_2 : List Int) (l0_3 : List Int) (l0_4 : List Int) (l0_5 : List (S97)) (l1 : List Int) : Option (List Int) := if a0_0 = 1 then ((impl_product.f k l1).bind fun t446 => (impl_Selection_indices.l0 k ([] : List Int) t446 0)) else (if a0_0 = 3 then ((impl_Selection_slabIndices.f k a0_0 l0_1 l0_2 l0_3 l0_4 l0_5 l1).bind fun t450 => (some t450)) else (if a0_0 = 4 then (impl_Selection_indices.l1 k l1 ([] : List Int) l0_5 (l0_5.length : Int) 0) else (some ([] : List Int))))
theorem impl_Selection_indices.mono_l : ∀ k, (∀ y0 y1 y2, LeO (impl_Selection_indices.l0 k y0 y1 y2) (impl_Selection_indices.l0 (k + 1) y0 y1 y2)) ∧ (∀ y0 y1 y2 y3 y4, LeO (impl_Selection_indices.l1 k y0 y1 y2 y3 y4) (impl_Selection_indices.l1 (k + 1) y0 y1 y2 y3 y4))
 | 0 => ⟨fun _ _ _ r h => by simp [impl_Selection_indices.l0] at h, fun _ _ _ _ _ r h => by simp [impl_Selection_indices.l1] at h⟩
 | k + 1 => by
  obtain ⟨ih0, ih1⟩ := impl_Selection_indices.mono_l k
  refine ⟨?_, ?_⟩
  ·
   intro y0 y1 y2
   unfold impl_Selection_indices.l0
   repeat' first
   | (with_reducible exact ih0 _ _ _)
   | (with_reducible exact ih1 _ _ _ _ _)
   | (with_reducible exact impl_Selection_slabIndices.mono _ _ _ _ _ _ _ _)
   | (with_reducible exact impl_indexOf.mono _ _ _)
   | (with_reducible exact impl_product.mono _ _)
   | (with_reducible exact LeO.refl _)
   | (with_reducible exact LeO.none _)
   | (with_reducible refine LeO.ite ?_ ?_)
   | (with_reducible refine LeO.bind ?_ (fun _ => ?_))
   | exact ih0 _ _ _
   | exact ih1 _ _ _ _ _
   | exact impl_Selection_slabIndices.mono _ _ _ _ _ _ _ _
   | exact impl_indexOf.mono _ _ _
   | exact impl_product.mono _ _
   | exact LeO.none _
   | refine LeO.ite ?_ ?_
   | refine LeO.bind ?_ (fun _ => ?_)
  ·
   intro y0 y1 y2 y3 y4
   unfold impl_Selection_indices.l1
   repeat' first
   | (with_reducible exact ih0 _ _ _)
   | (with_reducible exact ih1 _ _ _ _ _)
   | (with_reducible exact impl_Selection_slabIndices.mono _ _ _ _ _ _ _ _)
   | (with_reducible exact impl_indexOf.mono _ _ _)
   | (with_reducible exact impl_product.mono _ _)
   | (with_reducible exact LeO.refl _)
   | (with_reducible exact LeO.none _)
   | (with_reducible refine LeO.ite ?_ ?_)
   | (with_reducible refine LeO.bind ?_ (fun _ => ?_))
   | exact ih0 _ _ _
   | exact ih1 _ _ _ _ _
   | exact impl_Selection_slabIndices.mono _ _ _ _ _ _ _ _
   | exact impl_indexOf.mono _ _ _
   | exact impl_product.mono _ _
   | exact LeO.none _
   | refine LeO.ite ?_ ?_
   | refine LeO.bind ?_ (fun _ => ?_)
theorem impl_Selection_indices.mono : ∀ a0 a1 a2 a3 a4 a5 a6 k, LeO (impl_Selection_indices.f k a0 a1 a2 a3 a4 a5 a6) (impl_Selection_indices.f (k + 1) a0 a1 a2 a3 a4 a5 a6) := by
 intro a0 a1 a2 a3 a4 a5 a6 k
 obtain ⟨ih0, ih1⟩ := impl_Selection_indices.mono_l k
 unfold impl_Selection_indices.f
 repeat' first
  | (with_reducible exact ih0 _ _ _)
  | (with_reducible exact ih1 _ _ _ _ _)
  | (with_reducible exact impl_Selection_slabIndices.mono _ _ _ _ _ _ _ _)
  | (with_reducible exact impl_indexOf.mono _ _ _)
  | (with_reducible exact impl_product.mono _ _)
  | (with_reducible exact LeO.refl _)
  | (with_reducible exact LeO.none _)
  | (with_reducible refine LeO.ite ?_ ?_)
  | (with_reducible refine LeO.bind ?_ (fun _ => ?_))
  | exact ih0 _ _ _
  | exact ih1 _ _ _ _ _
  | exact impl_Selection_slabIndices.mono _ _ _ _ _ _ _ _
  | exact impl_indexOf.mono _ _ _
  | exact impl_product.mono _ _
  | exact LeO.none _
  | refine LeO.ite ?_ ?_
  | refine LeO.bind ?_ (fun _ => ?_)
set_option maxHeartbeats 8000000 in
set_option maxRecDepth 100000 in
theorem impl_Selection_indices.calls (k : Nat) (a0_0 : Int) (A0_1 : Option Addr) (c0_1 : Nat) (l0_1 : List Int) (A0_2 : Option Addr) (c0_2 : Nat) (l0_2 : List Int) (A0_3 : Option Addr) (c0_3 : Nat) (l0_3 : List Int) (A0_4 : Option Addr) (c0_4 : Nat) (l0_4 : List Int) (A0_5 : Option Addr) (c0_5 : Nat) (l0_5 : List (S97)) (A1 : Option Addr) (c1 : Nat) (l1 : List Int) (r : List Int) (w : World) (hr0_1 : Kd.C (Kd.int .i64) w A0_1 l0_1.length l0_1) (hc0_1 : l0_1.length ≤ c0_1) (hr0_2 : Kd.C (Kd.int .i64) w A0_2 l0_2.length l0_2) (hc0_2 : l0_2.length ≤ c0_2) (hr0_3 : Kd.C (Kd.int .i64) w A0_3 l0_3.length l0_3) (hc0_3 : l0_3.length ≤ c0_3) (hr0_4 : Kd.C (Kd.int .i64) w A0_4 l0_4.length l0_4) (hc0_4 : l0_4.length ≤ c0_4) (hr0_5 : Kd.C k97 w A0_5 l0_5.length l0_5) (hc0_5 : l0_5.length ≤ c0_5) (hr1 : Kd.C (Kd.int .i64) w A1 l1.length l1) (hc1 : l1.length ≤ c1) (h : impl_Selection_indices.f k a0_0 l0_1 l0_2 l0_3 l0_4 l0_5 l1 = some r) :
 Calls Try.prog 39 #[.agg #[.int .i64 a0_0, .slice A0_1 l0_1.length c0_1, .slice A0_2 l0_2.length c0_2, .slice A0_3 l0_3.length c0_3, .slice A0_4 l0_4.length c0_4, .slice A0_5 l0_5.length c0_5], .slice A1 l1.length c1] w fun e w' => ∃ v0_ : Value, e = .returned (v0_) ∧ Kd.R (Kd.int .i64) 2 w' w.heap.size (fun _ => True) v0_ r ∧ Below w.heap.size w w' := by
 have hu28 := Try.underlying28; have hu97 := Try.underlying97
 have HR0_1 := yD hr0_1
 have HC0_1 := yD hc0_1
 clear hr0_1 hc0_1
 have HR0_2 := yD hr0_2
 have HC0_2 := yD hc0_2
 clear hr0_2 hc0_2
 have HR0_3 := yD hr0_3
 have HC0_3 := yD hc0_3
 clear hr0_3 hc0_3
 have HR0_4 := yD hr0_4
 have HC0_4 := yD hc0_4
 clear hr0_4 hc0_4
 have HR0_5 := yD hr0_5
 have HC0_5 := yD hc0_5
 clear hr0_5 hc0_5
 have HR1 := yD hr1
 have HC1 := yD hc1
 clear hr1 hc1
 have HB := yD (Below.refl w.heap.size w)
 have H : (if a0_0 = 1 then ((impl_product.f k l1).bind fun t446 => (impl_Selection_indices.l0 k ([] : List Int) t446 0)) else (if a0_0 = 3 then ((impl_Selection_slabIndices.f k a0_0 l0_1 l0_2 l0_3 l0_4 l0_5 l1).bind fun t450 => (some t450)) else (if a0_0 = 4 then (impl_Selection_indices.l1 k l1 ([] : List Int) l0_5 (l0_5.length : Int) 0) else (some ([] : List Int))))) = some r := h
 clear h
 by_cases c3 : a0_0 = 1
 ·
  rw [if_pos c3] at H
  have c3b0 : (a0_0 == 1) = true := beq_iff_eq.mpr c3
  have c3b1 : (a0_0 != 1) = false := bne_eq_false_iff_eq.mpr c3
  clear c3
  obtain ⟨t446, A40, H⟩ := zW_ H
  replace H : (impl_Selection_indices.l0 k ([] : List Int) t446 0) = some r := H
  have A4 := yD A40
  clear A40
  have H' := yD H
  clear H; go_enter Try.func39, Try.ntmps39
  go_wp2_with (first | ((with_reducible refine gate_dst (N := 2) rfl ?_); refine box_event ?hg (N := 2) ?hd (cs := #[.int .i64 a0_0, .slice A0_1 l0_1.length c0_1, .slice A0_2 l0_2.length c0_2, .slice A0_3 l0_3.length c0_3, .slice A0_4 l0_4.length c0_4, .slice A0_5 l0_5.length c0_5]) (t := 28) ?hr ?_; (case hd => rfl); (case hg => rfl); (case hr => first | (go_simp; done) | (go_simp; rfl)); intro gb445 hg w5 hbox hb; have n0_ := yD (zC (kB HB) hb); have n1_ := yD (hbox); have n2_ := yD ((by rw [hg]; exact (below_size (kB HB)) : w.heap.size ≤ gb445)); have n3_ := yD ((by rw [hg]; exact (below_size (kB HB)) : w.heap.size ≤ gb445)); clear HB; have HB := n0_; have BK445 := n1_; have GW445 := n2_; have GE445 := n3_; clear n0_ n1_ n2_ n3_; clear hb hbox hg; obtain ⟨hcz6_0, hcz6_1, hcz6_2, hcz6_3, hcz6_4, hcz6_5⟩ := cz6 BK445.out; obtain ⟨hfz6_0, hfz6_1, hfz6_2, hfz6_3, hfz6_4, hfz6_5⟩ := fz6 BK445.out) | ((with_reducible refine gate_callee (f := 72) rfl ?_); refine goesL_ (some 14) rfl rfl Try.func72 (by kernel_rfl) rfl #[.slice A1 l1.length c1] rfl (by (try simp only [zK, zL, zM]); first | done | rfl | (simp only [zN, zO]; rfl)) ?_; (with_reducible refine (impl_product.calls k _ _ l1 t446 _ ?side1 ?side2 A4.out).mono ?_); (case side1 => exact kV (yY HR1.out HB.out)); (case side2 => exact HC1.out); rintro e w' ⟨rfl, ⟨nd, rfl⟩⟩; refine ⟨_, rfl, ?_⟩))
  go_loopg [5, 15] k (fun kq v5 v15 w' => ∃ (x5_1 : List Int) (x15_1 : Int), v15 = .int .i64 x15_1 ∧ Aside0 (impl_Selection_indices.l0 kq x5_1 t446 x15_1 = some r) ∧ Aside0 (kq ≤ k) ∧ Aside0 (Kd.R (Kd.int .i64) 2 w' w.heap.size (fun _ => True) v5 x5_1) ∧ Aside0 (w'.heap[gb445]? = some (.cells #[.int .i64 a0_0, (.slice A0_1 l0_1.length c0_1), (.slice A0_2 l0_2.length c0_2), (.slice A0_3 l0_3.length c0_3), (.slice A0_4 l0_4.length c0_4), (.slice A0_5 l0_5.length c0_5)] 28 (0, 0))) ∧ Aside0 (Below w.heap.size w w'))
  case atStart => exact ⟨(([] : List Int)), (0), (by first | rfl | (simp; done) | (simp [*]; done)), H', ⟨Nat.le_refl _⟩, ⟨by first | exact Kd.R_nil _ _ _ _ _ | exact Kd.N_nil _ _ _ _ _ | exact Kd.V_nil _ _ _ _ _ | exact Kd.Q_nil _ _ _ _ _ | exact Kd.S_nil _ _ _ _ _⟩, ⟨by (with_reducible repeat (first | refine yM ?_ _ | refine yO ?_ | refine yN ?_ _)); exact BK445.out⟩, ⟨kR1 HB⟩⟩
  case round =>
   clear H'
   try clear c1; try clear p2; try clear c3; try clear c3b0; try clear c3b1; try clear hcz6_0; try clear hcz6_1; try clear hcz6_2; try clear hcz6_3; try clear hcz6_4; try clear hcz6_5; try clear hfz6_0; try clear hfz6_1; try clear hfz6_2; try clear hfz6_3; try clear hfz6_4; try clear hfz6_5
   obtain ⟨x5_1, x15_1, rfl, HA, HK1, HO_5, BK445, HB⟩ := hrel
   cases gk with
   | zero => exact absurd HA.out (by simp [impl_Selection_indices.l0])
   | succ k1 =>
    have H := HA.out; clear HA
    simp only [impl_Selection_indices.l0] at H
    by_cases c7 : x15_1 < t446
    ·
     rw [if_pos c7] at H
     have c7b0 : decide (x15_1 < t446) = true := zR c7; clear c7
     by_cases c8 : x5_1.length < 17592186044416
     ·
      rw [if_pos c8] at H
      have LMc8 := yD c8
      clear c8
      obtain ⟨y447, hy447⟩ : ∃ y_ : List Int, y_ = (x5_1 ++ [x15_1]) := ⟨_, rfl⟩
      replace H : (impl_Selection_indices.l0 k1 y447 t446 (wrap64 (x15_1 + 1))) = some r := by first | (rw [hy447]; with_reducible exact H) | (have H2_ := (Option.bind_some _ _).symm.trans H; rw [hy447]; with_reducible exact H2_) | (have H2_ := (Option.bind_some _ _).symm.trans H; with_reducible exact H2_) | with_reducible exact H | (rw [hy447]; exact H) | exact H
      have Ny447 := yD hy447
      clear hy447
      have H' := yD H
      clear H
      go_wp2_with (first | ((with_reducible refine gate_builtin (b := .append) (xs := #[.tmp 18, .tmp 20]) rfl ?_); at_builtin; refine Kd.R_append (Kd.int .i64) (w0 := w) w.heap.size rfl (.tmp 18) (.tmp 20) 23 2 (.int .i64 0) 8 rfl Try.underlying23 info2 rfl (by decide) (by omega) u5 x5_1 x15_1 [.int .i64 x15_1] (fun _ => True) (fun _ => False) rfl rfl ?aP (fun _ hk => hk.elim) ?aF ?aO ?aB ?aS ?aL ?_; (case aP => exact rfl); (case aB => exact (kB HB)); (case aF => exact (fun _ _ => trivial)); (case aO => exact (kA HO_5)); (case aS => exact (below_size (kB HB))); (case aL => have := LMc8.out; omega); intro v448 w9 ho hb hg hat; rw [← Ny447.out] at ho; have n0_ := yD (blk_grown (g := gb445) (o := .cells #[.int .i64 a0_0, .slice A0_1 l0_1.length c0_1, .slice A0_2 l0_2.length c0_2, .slice A0_3 l0_3.length c0_3, .slice A0_4 l0_4.length c0_4, .slice A0_5 l0_5.length c0_5] 28 (0, 0)) (kM BK445) hg (Kd.R_ne HO_5.out BK445.out (by decide))); have n1_ := yD (hb); have n2_ := yD (ho); clear BK445; clear HB; clear HO_5; have BK445 := n0_; have HB := n1_; have HO449 := n2_; clear n0_ n1_ n2_; clear ho hb hg hat))
      go_roundg k1
      case measure => have := HK1.out; omega
      case rel => exact ⟨(y447), (wrap64 (x15_1 + 1)), (by first | rfl | (simp; done) | (simp [*]; done)), H', ⟨by have := HK1.out; omega⟩, ⟨by (with_reducible repeat (first | apply yA | apply yB | apply yC)); exact HO449.out⟩, ⟨by (with_reducible repeat (first | refine yM ?_ _ | refine yO ?_ | refine yN ?_ _)); exact BK445.out⟩, ⟨kR1 HB⟩⟩
     · rw [if_neg c8] at H
       exact absurd H (by simp)
    · rw [if_neg c7] at H
      have c7b0 : decide (x15_1 < t446) = false := zS c7; clear c7; obtain rfl := Option.some.inj H
      go_wp2
      go_ret
      exact ⟨_, by first | rfl | (simp <;> rfl) | (simp [*] <;> rfl), by (with_reducible repeat (first | apply yA | apply yB | apply yC)); exact HO_5.out, kR1 HB⟩
 ·
  rw [if_neg c3] at H
  have c3b0 : (a0_0 == 1) = false := beq_eq_false_iff_ne.mpr c3
  have c3b1 : (a0_0 != 1) = true := bne_iff_ne.mpr c3
  by_cases c10 : a0_0 = 3
  ·
   rw [if_pos c10] at H
   have c10b0 : (a0_0 == 3) = true := beq_iff_eq.mpr c10
   have c10b1 : (a0_0 != 3) = false := bne_eq_false_iff_eq.mpr c10
   clear c10
   obtain ⟨t450, A110, H⟩ := zW_ H
   replace H : (some t450) = some r := H
   have A11 := yD A110
   clear A110; obtain rfl := Option.some.inj H; go_enter Try.func39, Try.ntmps39
   go_wp2_with (first | ((with_reducible refine gate_dst (N := 2) rfl ?_); refine box_event ?hg (N := 2) ?hd (cs := #[.int .i64 a0_0, .slice A0_1 l0_1.length c0_1, .slice A0_2 l0_2.length c0_2, .slice A0_3 l0_3.length c0_3, .slice A0_4 l0_4.length c0_4, .slice A0_5 l0_5.length c0_5]) (t := 28) ?hr ?_; (case hd => rfl); (case hg => rfl); (case hr => first | (go_simp; done) | (go_simp; rfl)); intro gb445 hg w12 hbox hb; have n0_ := yD (zC (kB HB) hb); have n1_ := yD (hbox); have n2_ := yD ((by rw [hg]; exact (below_size (kB HB)) : w.heap.size ≤ gb445)); have n3_ := yD ((by rw [hg]; exact (below_size (kB HB)) : w.heap.size ≤ gb445)); clear HB; have HB := n0_; have BK445 := n1_; have GW445 := n2_; have GE445 := n3_; clear n0_ n1_ n2_ n3_; clear hb hbox hg; obtain ⟨hcz13_0, hcz13_1, hcz13_2, hcz13_3, hcz13_4, hcz13_5⟩ := cz6 BK445.out; obtain ⟨hfz13_0, hfz13_1, hfz13_2, hfz13_3, hfz13_4, hfz13_5⟩ := fz6 BK445.out) | ((with_reducible refine gate_callee (f := 73) rfl ?_); refine goesL_ (some 27) rfl rfl Try.func73 (by kernel_rfl) rfl #[.agg #[.int .i64 a0_0, .slice A0_1 l0_1.length c0_1, .slice A0_2 l0_2.length c0_2, .slice A0_3 l0_3.length c0_3, .slice A0_4 l0_4.length c0_4, .slice A0_5 l0_5.length c0_5], .slice A1 l1.length c1] rfl (by (try simp only [zK, zL, zM]); first | done | rfl | (simp only [zN, zO]; rfl)) ?_; (with_reducible refine (impl_Selection_slabIndices.calls k a0_0 _ _ l0_1 _ _ l0_2 _ _ l0_3 _ _ l0_4 _ _ l0_5 _ _ l1 t450 _ ?side1 ?side2 ?side3 ?side4 ?side5 ?side6 ?side7 ?side8 ?side9 ?side10 ?side11 ?side12 A11.out).mono ?_); (case side1 => exact kV (yY HR0_1.out HB.out)); (case side2 => exact HC0_1.out); (case side3 => exact kV (yY HR0_2.out HB.out)); (case side4 => exact HC0_2.out); (case side5 => exact kV (yY HR0_3.out HB.out)); (case side6 => exact HC0_3.out); (case side7 => exact kV (yY HR0_4.out HB.out)); (case side8 => exact HC0_4.out); (case side9 => exact kV (yY HR0_5.out HB.out)); (case side10 => exact HC0_5.out); (case side11 => exact kV (yY HR1.out HB.out)); (case side12 => exact HC1.out); rintro e w14 ⟨v451, rfl, ho0, hb⟩; refine ⟨_, rfl, ?_⟩; have n0_ := yD (yZ ho0 (below_size (kB HB))); have n1_ := yD (zB (g := gb445) (o := .cells #[.int .i64 a0_0, .slice A0_1 l0_1.length c0_1, .slice A0_2 l0_2.length c0_2, .slice A0_3 l0_3.length c0_3, .slice A0_4 l0_4.length c0_4, .slice A0_5 l0_5.length c0_5] 28 (0, 0)) (kM BK445) hb); have n2_ := yD (zC (kB HB) hb); clear BK445; clear HB; have HO452 := n0_; have BK445 := n1_; have HB := n2_; clear n0_ n1_ n2_; (try clear hb); (try clear hb2); (try clear hk); (try clear hi); (try clear ho0)))
   go_ret
   exact ⟨_, by first | rfl | (simp <;> rfl) | (simp [*] <;> rfl), by (with_reducible repeat (first | apply yA | apply yB | apply yC)); exact HO452.out, kR1 HB⟩
  ·
   rw [if_neg c10] at H
   have c10b0 : (a0_0 == 3) = false := beq_eq_false_iff_ne.mpr c10
   have c10b1 : (a0_0 != 3) = true := bne_iff_ne.mpr c10
   by_cases c15 : a0_0 = 4
   ·
    rw [if_pos c15] at H
    have c15b0 : (a0_0 == 4) = true := beq_iff_eq.mpr c15
    have c15b1 : (a0_0 != 4) = false := bne_eq_false_iff_eq.mpr c15
    clear c15
    have H' := yD H
    clear H; go_enter Try.func39, Try.ntmps39
    go_wp2_with (first | ((with_reducible refine gate_dst (N := 2) rfl ?_); refine box_event ?hg (N := 2) ?hd (cs := #[.int .i64 a0_0, .slice A0_1 l0_1.length c0_1, .slice A0_2 l0_2.length c0_2, .slice A0_3 l0_3.length c0_3, .slice A0_4 l0_4.length c0_4, .slice A0_5 l0_5.length c0_5]) (t := 28) ?hr ?_; (case hd => rfl); (case hg => rfl); (case hr => first | (go_simp; done) | (go_simp; rfl)); intro gb445 hg w16 hbox hb; have n0_ := yD (zC (kB HB) hb); have n1_ := yD (hbox); have n2_ := yD ((by rw [hg]; exact (below_size (kB HB)) : w.heap.size ≤ gb445)); have n3_ := yD ((by rw [hg]; exact (below_size (kB HB)) : w.heap.size ≤ gb445)); clear HB; have HB := n0_; have BK445 := n1_; have GW445 := n2_; have GE445 := n3_; clear n0_ n1_ n2_ n3_; clear hb hbox hg; obtain ⟨hcz17_0, hcz17_1, hcz17_2, hcz17_3, hcz17_4, hcz17_5⟩ := cz6 BK445.out; obtain ⟨hfz17_0, hfz17_1, hfz17_2, hfz17_3, hfz17_4, hfz17_5⟩ := fz6 BK445.out))
    go_loopg [5, 33] k (fun kq v5 v33 w' => ∃ (x5_1 : List Int) (x33_1 : Int), v33 = .int .i64 x33_1 ∧ Aside0 (impl_Selection_indices.l1 kq l1 x5_1 l0_5 (l0_5.length : Int) x33_1 = some r) ∧ Aside0 (kq ≤ k) ∧ Aside0 (Kd.R (Kd.int .i64) 2 w' w.heap.size (fun _ => True) v5 x5_1) ∧ Aside0 (w'.heap[gb445]? = some (.cells #[.int .i64 a0_0, (.slice A0_1 l0_1.length c0_1), (.slice A0_2 l0_2.length c0_2), (.slice A0_3 l0_3.length c0_3), (.slice A0_4 l0_4.length c0_4), (.slice A0_5 l0_5.length c0_5)] 28 (0, 0))) ∧ Aside0 (Below w.heap.size w w'))
    case atStart => exact ⟨(([] : List Int)), (0), (by first | rfl | (simp; done) | (simp [*]; done)), H', ⟨Nat.le_refl _⟩, ⟨by first | exact Kd.R_nil _ _ _ _ _ | exact Kd.N_nil _ _ _ _ _ | exact Kd.V_nil _ _ _ _ _ | exact Kd.Q_nil _ _ _ _ _ | exact Kd.S_nil _ _ _ _ _⟩, ⟨by (with_reducible repeat (first | refine yM ?_ _ | refine yO ?_ | refine yN ?_ _)); exact BK445.out⟩, ⟨kR1 HB⟩⟩
    case round =>
     clear H'
     try clear c1; try clear p2; try clear c3; try clear c3b0; try clear c3b1; try clear p6; try clear c7; try clear c7b0; try clear c8; try clear c10; try clear c10b0; try clear c10b1; try clear c15; try clear c15b0; try clear c15b1; try clear hcz13_0; try clear hcz13_1; try clear hcz13_2; try clear hcz13_3; try clear hcz13_4; try clear hcz13_5; try clear hcz17_0; try clear hcz17_1; try clear hcz17_2; try clear hcz17_3; try clear hcz17_4; try clear hcz17_5; try clear hcz6_0; try clear hcz6_1; try clear hcz6_2; try clear hcz6_3; try clear hcz6_4; try clear hcz6_5; try clear hfz13_0; try clear hfz13_1; try clear hfz13_2; try clear hfz13_3; try clear hfz13_4; try clear hfz13_5; try clear hfz17_0; try clear hfz17_1; try clear hfz17_2; try clear hfz17_3; try clear hfz17_4; try clear hfz17_5; try clear hfz6_0; try clear hfz6_1; try clear hfz6_2; try clear hfz6_3; try clear hfz6_4; try clear hfz6_5; try clear p2
     obtain ⟨x5_1, x33_1, rfl, HA, HK1, HO_5, BK445, HB⟩ := hrel
     cases gk with
     | zero => exact absurd HA.out (by simp [impl_Selection_indices.l1])
     | succ k1 =>
      have H := HA.out; clear HA
      simp only [impl_Selection_indices.l1] at H
      by_cases c18 : x33_1 < (l0_5.length : Int)
      ·
       rw [if_pos c18] at H
       have c18b0 : decide (x33_1 < (l0_5.length : Int)) = true := zR c18; clear c18
       by_cases c19 : 0 ≤ x33_1
       ·
        rw [if_pos c19] at H
        have c19b0 : decide (0 ≤ x33_1) = true := zR c19; clear c19
        by_cases c20 : x33_1 < (l0_5.length : Int)
        ·
         rw [if_pos c20] at H
         have c20b0 : decide (x33_1 < (l0_5.length : Int)) = true := zR c20; clear c20
         obtain ⟨t455, A210, H⟩ := zW_ H
         replace H : (if x5_1.length < 17592186044416 then (impl_Selection_indices.l1 k1 l1 (x5_1 ++ [t455]) l0_5 (l0_5.length : Int) (wrap64 (x33_1 + 1))) else (none)) = some r := H
         have A21 := yD A210
         clear A210
         by_cases c22 : x5_1.length < 17592186044416
         ·
          rw [if_pos c22] at H
          have LMc22 := yD c22
          clear c22
          obtain ⟨y456, hy456⟩ : ∃ y_ : List Int, y_ = (x5_1 ++ [t455]) := ⟨_, rfl⟩
          replace H : (impl_Selection_indices.l1 k1 l1 y456 l0_5 (l0_5.length : Int) (wrap64 (x33_1 + 1))) = some r := by first | (rw [hy456]; with_reducible exact H) | (have H2_ := (Option.bind_some _ _).symm.trans H; rw [hy456]; with_reducible exact H2_) | (have H2_ := (Option.bind_some _ _).symm.trans H; with_reducible exact H2_) | with_reducible exact H | (rw [hy456]; exact H) | exact H
          have Ny456 := yD hy456
          clear hy456
          have H' := yD H
          clear H
          have p453 : 0 ≤ (x33_1 : Int) := zP (by assumption)
          have q453 : x33_1 < (l0_5.length : Int) := zP (by assumption)
          obtain ⟨ad453, A453_0, c453_0, e453, hx453_0, hl453_0, hi453_0⟩ := at_T97 HR0_5.out x33_1 p453 q453
          cases e453
          replace hx453_0 := (HB.out.cell (zQ w _ hx453_0)).trans hx453_0
          have HR453_0 := yD hi453_0
          have HC453_0 := yD hl453_0
          clear hi453_0 hl453_0; replace p453 := eq_true p453; replace q453 := eq_true q453
          go_wp2_with (first | ((with_reducible refine gate_dst (N := 8) rfl ?_); refine box_event ?hg (N := 8) ?hd (cs := #[.slice none 0 0]) (t := 97) ?hr ?_; (case hd => rfl); (case hg => rfl); (case hr => first | (go_simp; done) | (go_simp; rfl)); intro gb454 hg w23 hbox hb; have n0_ := yD (zE (kA HO_5) hb); have n1_ := yD (zB (g := gb445) (o := .cells #[.int .i64 a0_0, .slice A0_1 l0_1.length c0_1, .slice A0_2 l0_2.length c0_2, .slice A0_3 l0_3.length c0_3, .slice A0_4 l0_4.length c0_4, .slice (some ad453) l0_5.length c0_5] 28 (0, 0)) (kM BK445) hb); have n2_ := yD (zC (kB HB) hb); have n3_ := yD (hbox); have n4_ := yD ((by rw [hg]; exact (below_size (kB HB)) : w.heap.size ≤ gb454)); have n5_ := yD ((by rw [hg]; exact (below_size (kB HB)) : w.heap.size ≤ gb454)); have n6_ := yD ((by rw [hg]; exact Nat.ne_of_lt (blk_lt (g := gb445) (o := .cells #[.int .i64 a0_0, .slice A0_1 l0_1.length c0_1, .slice A0_2 l0_2.length c0_2, .slice A0_3 l0_3.length c0_3, .slice A0_4 l0_4.length c0_4, .slice (some ad453) l0_5.length c0_5] 28 (0, 0)) (kM BK445)) : gb445 ≠ gb454)); have n7_ := yD ((by rw [hg]; exact Nat.ne_of_gt (blk_lt (g := gb445) (o := .cells #[.int .i64 a0_0, .slice A0_1 l0_1.length c0_1, .slice A0_2 l0_2.length c0_2, .slice A0_3 l0_3.length c0_3, .slice A0_4 l0_4.length c0_4, .slice (some ad453) l0_5.length c0_5] 28 (0, 0)) (kM BK445)) : gb454 ≠ gb445)); clear HO_5; clear BK445; clear HB; have HO_5 := n0_; have BK445 := n1_; have HB := n2_; have BK454 := n3_; have GW454 := n4_; have GE454 := n5_; have NB445_454 := n6_; have NB454_445 := n7_; clear n0_ n1_ n2_ n3_ n4_ n5_ n6_ n7_; clear hb hbox hg; have hnb24 := NB454_445.out; have hnc24 := NB445_454.out; have hcz25_0 : w23.cell? ⟨gb454, 0, none⟩ = some (.slice none 0 0) := (yG BK454.out 0).trans rfl; have hfz25_0 := yR BK454.out 0) | ((with_reducible refine gate_callee (f := 40) rfl ?_); refine goesL_ (some 41) rfl rfl Try.func40 (by kernel_rfl) rfl #[.slice A1 l1.length c1, .slice A453_0 ((rd_T97 l0_5 x33_1).f0).length c453_0] rfl (by (try simp only [zK, zL, zM]); first | done | rfl | (simp only [zN, zO]; rfl)) ?_; (with_reducible refine (impl_indexOf.calls k1 _ _ l1 _ _ ((rd_T97 l0_5 x33_1).f0) t455 _ ?side1 ?side2 ?side3 ?side4 A21.out).mono ?_); (case side1 => exact yY HR1.out (kB HB)); (case side2 => exact HC1.out); (case side3 => exact yY HR453_0.out (kB HB)); (case side4 => exact HC453_0.out); rintro e w' ⟨rfl, ⟨nd, rfl⟩⟩; refine ⟨_, rfl, ?_⟩) | ((with_reducible refine gate_builtin (b := .append) (xs := #[.tmp 37, .tmp 42]) rfl ?_); at_builtin; refine Kd.R_append (Kd.int .i64) (w0 := w) w.heap.size rfl (.tmp 37) (.tmp 42) 23 2 (.int .i64 0) 8 rfl Try.underlying23 info2 rfl (by decide) (by omega) u5 x5_1 t455 [.int .i64 t455] (fun _ => True) (fun _ => False) rfl (by first | (go_simp; done) | (go_simp; rfl)) ?aP (fun _ hk => hk.elim) ?aF ?aO ?aB ?aS ?aL ?_; (case aP => exact rfl); (case aB => exact (kB HB)); (case aF => exact (fun _ _ => trivial)); (case aO => exact (by (with_reducible repeat (first | apply yA | apply yB | apply yC)); exact zF (yF (p := ⟨gb454, 0, none⟩) (Kd.R_types HO_5.out BK454.out (by decide)) (fun _ hk => hk.2) (.slice A453_0 ((rd_T97 l0_5 x33_1).f0).length c453_0)) (fun _ hk => trivial))); (case aS => exact (below_size (kB HB))); (case aL => have := LMc22.out; omega); intro v457 w26 ho hb hg hat; rw [← Ny456.out] at ho; have n0_ := yD (blk_grown (g := gb445) (o := .cells #[.int .i64 a0_0, .slice A0_1 l0_1.length c0_1, .slice A0_2 l0_2.length c0_2, .slice A0_3 l0_3.length c0_3, .slice A0_4 l0_4.length c0_4, .slice (some ad453) l0_5.length c0_5] 28 (0, 0)) (by (with_reducible repeat (first | refine yM ?_ _ | refine yO ?_ | refine yN ?_ _)); refine blk_far ?_ NB445_454.out _; (with_reducible repeat (first | refine yM ?_ _ | refine yO ?_ | refine yN ?_ _)); exact BK445.out) hg (Kd.R_ne HO_5.out BK445.out (by decide))); have n1_ := yD (blk_grown (g := gb454) (o := .cells #[.slice A453_0 ((rd_T97 l0_5 x33_1).f0).length c453_0] 97 (0, 0)) (by (with_reducible repeat (first | refine yM ?_ _ | refine yO ?_ | refine yN ?_ _)); refine blk_put (cs := #[.slice none 0 0]) ?_ 0 _ rfl; (with_reducible repeat (first | refine yM ?_ _ | refine yO ?_ | refine yN ?_ _)); exact BK454.out) hg (Kd.R_ne HO_5.out BK454.out (by decide))); have n2_ := yD (hb); have n3_ := yD (ho); clear BK445; clear BK454; clear HB; clear HO_5; have BK445 := n0_; have BK454 := n1_; have HB := n2_; have HO458 := n3_; clear n0_ n1_ n2_ n3_; clear ho hb hg hat))
          go_roundg k1
          case measure => have := HK1.out; omega
          case rel => exact ⟨(y456), (wrap64 (x33_1 + 1)), (by first | rfl | (simp; done) | (simp [*]; done)), H', ⟨by have := HK1.out; omega⟩, ⟨by (with_reducible repeat (first | apply yA | apply yB | apply yC)); exact HO458.out⟩, ⟨by (with_reducible repeat (first | refine yM ?_ _ | refine yO ?_ | refine yN ?_ _)); exact BK445.out⟩, ⟨kR1 HB⟩⟩
         · rw [if_neg c22] at H
           exact absurd H (by simp)
        · rw [if_neg c20] at H
          exact absurd H (by simp)
       · rw [if_neg c19] at H
         exact absurd H (by simp)
      · rw [if_neg c18] at H
        have c18b0 : decide (x33_1 < (l0_5.length : Int)) = false := zS c18; clear c18; obtain rfl := Option.some.inj H
        go_wp2
        go_ret
        exact ⟨_, by first | rfl | (simp <;> rfl) | (simp [*] <;> rfl), by (with_reducible repeat (first | apply yA | apply yB | apply yC)); exact HO_5.out, kR1 HB⟩
   ·
    rw [if_neg c15] at H
    have c15b0 : (a0_0 == 4) = false := beq_eq_false_iff_ne.mpr c15
    have c15b1 : (a0_0 != 4) = true := bne_iff_ne.mpr c15
    obtain rfl := Option.some.inj H; go_enter Try.func39, Try.ntmps39
    go_wp2_with (first | ((with_reducible refine gate_dst (N := 2) rfl ?_); refine box_event ?hg (N := 2) ?hd (cs := #[.int .i64 a0_0, .slice A0_1 l0_1.length c0_1, .slice A0_2 l0_2.length c0_2, .slice A0_3 l0_3.length c0_3, .slice A0_4 l0_4.length c0_4, .slice A0_5 l0_5.length c0_5]) (t := 28) ?hr ?_; (case hd => rfl); (case hg => rfl); (case hr => first | (go_simp; done) | (go_simp; rfl)); intro gb445 hg w27 hbox hb; have n0_ := yD (zC (kB HB) hb); have n1_ := yD (hbox); have n2_ := yD ((by rw [hg]; exact (below_size (kB HB)) : w.heap.size ≤ gb445)); have n3_ := yD ((by rw [hg]; exact (below_size (kB HB)) : w.heap.size ≤ gb445)); clear HB; have HB := n0_; have BK445 := n1_; have GW445 := n2_; have GE445 := n3_; clear n0_ n1_ n2_ n3_; clear hb hbox hg; obtain ⟨hcz28_0, hcz28_1, hcz28_2, hcz28_3, hcz28_4, hcz28_5⟩ := cz6 BK445.out; obtain ⟨hfz28_0, hfz28_1, hfz28_2, hfz28_3, hfz28_4, hfz28_5⟩ := fz6 BK445.out))
    go_ret
    exact ⟨_, by first | rfl | (simp <;> rfl) | (simp [*] <;> rfl), by first | exact Kd.R_nil _ _ _ _ _ | exact Kd.N_nil _ _ _ _ _ | exact Kd.V_nil _ _ _ _ _ | exact Kd.Q_nil _ _ _ _ _ | exact Kd.S_nil _ _ _ _ _, kR1 HB⟩

/-! ### slices_Index_int64_int64: function 71 -/
def slices_Index_int64_int64.l0 : Nat → List Int → Int → Int → Int → Option (Int)
 | 0, _, _, _, _ => none
 | k + 1, x0, x1, x7, x8 => if x8 < x7 then (if 0 ≤ x8 then (if x8 < (x0.length : Int) then (if x1 = (rd x0 x8) then (some x8) else (slices_Index_int64_int64.l0 k x0 x1 x7 (wrap64 (x8 + 1)))) else (none)) else (none)) else (some (-1))
def slices_Index_int64_int64.f (k : Nat) (l0 : List Int) (a1 : Int) : Option (Int) := slices_Index_int64_int64.l0 k l0 a1 (l0.length : Int) 0
theorem slices_Index_int64_int64.mono_l : ∀ k, (∀ y0 y1 y2 y3, LeO (slices_Index_int64_int64.l0 k y0 y1 y2 y3) (slices_Index_int64_int64.l0 (k + 1) y0 y1 y2 y3))
 | 0 => fun _ _ _ _ r h => by simp [slices_Index_int64_int64.l0] at h
 | k + 1 => by
  have ih0 := slices_Index_int64_int64.mono_l k
  ·
   intro y0 y1 y2 y3
   unfold slices_Index_int64_int64.l0
   repeat' first
   | (with_reducible exact ih0 _ _ _ _)
   | (with_reducible exact LeO.refl _)
   | (with_reducible exact LeO.none _)
   | (with_reducible refine LeO.ite ?_ ?_)
   | (with_reducible refine LeO.bind ?_ (fun _ => ?_))
   | exact ih0 _ _ _ _
   | exact LeO.none _
   | refine LeO.ite ?_ ?_
   | refine LeO.bind ?_ (fun _ => ?_)
theorem slices_Index_int64_int64.mono : ∀ a0 a1 k, LeO (slices_Index_int64_int64.f k a0 a1) (slices_Index_int64_int64.f (k + 1) a0 a1) := by
 intro a0 a1 k
 have ih0 := slices_Index_int64_int64.mono_l k
 unfold slices_Index_int64_int64.f
 repeat' first
  | (with_reducible exact ih0 _ _ _ _)
  | (with_reducible exact LeO.refl _)
  | (with_reducible exact LeO.none _)
  | (with_reducible refine LeO.ite ?_ ?_)
  | (with_reducible refine LeO.bind ?_ (fun _ => ?_))
  | exact ih0 _ _ _ _
  | exact LeO.none _
  | refine LeO.ite ?_ ?_
  | refine LeO.bind ?_ (fun _ => ?_)
set_option maxHeartbeats 8000000 in
set_option maxRecDepth 100000 in
theorem slices_Index_int64_int64.calls (k : Nat) (A0 : Option Addr) (c0 : Nat) (l0 : List Int) (a1 : Int) (r : Int) (w : World) (hr0 : Kd.C (Kd.int .i64) w A0 l0.length l0) (hc0 : l0.length ≤ c0) (h : slices_Index_int64_int64.f k l0 a1 = some r) :
 Calls Try.prog 71 #[.slice A0 l0.length c0, .int .i64 a1] w fun e w' => e = .returned (.int .i64 r) ∧ Drawn0 w w' := by
 have HR0 := yD hr0
 have HC0 := yD hc0
 clear hr0 hc0
 have H : (slices_Index_int64_int64.l0 k l0 a1 (l0.length : Int) 0) = some r := h
 clear h
 have H' := yD H
 clear H; go_enter Try.func71, Try.ntmps71
 go_wp2
 go_loopg [8] k (fun kq v8 w' => ∃ (x8_1 : Int), v8 = .int .i64 x8_1 ∧ Aside0 (slices_Index_int64_int64.l0 kq l0 a1 (l0.length : Int) x8_1 = some r) ∧ Aside0 (kq ≤ k) ∧ Drawn0 w w')
 case atStart => exact ⟨(0), (by first | rfl | (simp; done) | (simp [*]; done)), H', ⟨Nat.le_refl _⟩, by repeat (first | exact Drawn0.refl _ | apply Drawn0.step)⟩
 case round =>
  clear H'
  try clear p2
  obtain ⟨x8_1, rfl, HA, HK1, ⟨m1, rfl⟩⟩ := hrel
  cases gk with
  | zero => exact absurd HA.out (by simp [slices_Index_int64_int64.l0])
  | succ k1 =>
   have H := HA.out; clear HA
   simp only [slices_Index_int64_int64.l0] at H
   by_cases c3 : x8_1 < (l0.length : Int)
   ·
    rw [if_pos c3] at H
    have c3b0 : decide (x8_1 < (l0.length : Int)) = true := zR c3; clear c3
    by_cases c4 : 0 ≤ x8_1
    ·
     rw [if_pos c4] at H
     have c4b0 : decide (0 ≤ x8_1) = true := zR c4; clear c4
     by_cases c5 : x8_1 < (l0.length : Int)
     ·
      rw [if_pos c5] at H
      have c5b0 : decide (x8_1 < (l0.length : Int)) = true := zR c5; clear c5
      by_cases c6 : a1 = (rd l0 x8_1)
      ·
       rw [if_pos c6] at H
       have c6b0 : (a1 == (rd l0 x8_1)) = true := beq_iff_eq.mpr c6
       have c6b1 : (a1 != (rd l0 x8_1)) = false := bne_eq_false_iff_eq.mpr c6
       clear c6; obtain rfl := Option.some.inj H
       have p459 : 0 ≤ (x8_1 : Int) := zP (by assumption)
       have q459 : x8_1 < (l0.length : Int) := zP (by assumption)
       obtain ⟨ad459, e459, hx459_0⟩ := Kd.at_int HR0.out x8_1 p459 q459
       cases e459; replace p459 := eq_true p459; replace q459 := eq_true q459
       go_wp2
       go_ret
       exact ⟨by first | rfl | (simp; done) | (simp [*]; done), by repeat (first | exact Drawn0.refl _ | apply Drawn0.step)⟩
      ·
       rw [if_neg c6] at H
       have c6b0 : (a1 == (rd l0 x8_1)) = false := beq_eq_false_iff_ne.mpr c6
       have c6b1 : (a1 != (rd l0 x8_1)) = true := bne_iff_ne.mpr c6
       have H' := yD H
       clear H
       have p459 : 0 ≤ (x8_1 : Int) := zP (by assumption)
       have q459 : x8_1 < (l0.length : Int) := zP (by assumption)
       obtain ⟨ad459, e459, hx459_0⟩ := Kd.at_int HR0.out x8_1 p459 q459
       cases e459; replace p459 := eq_true p459; replace q459 := eq_true q459
       go_wp2
       go_roundg k1
       case measure => have := HK1.out; omega
       case rel => exact ⟨(wrap64 (x8_1 + 1)), (by first | rfl | (simp; done) | (simp [*]; done)), H', ⟨by have := HK1.out; omega⟩, by repeat (first | exact Drawn0.refl _ | apply Drawn0.step)⟩
     · rw [if_neg c5] at H
       exact absurd H (by simp)
    · rw [if_neg c4] at H
      exact absurd H (by simp)
   · rw [if_neg c3] at H
     have c3b0 : decide (x8_1 < (l0.length : Int)) = false := zS c3; clear c3; obtain rfl := Option.some.inj H
     go_wp2
     go_ret
     exact ⟨by first | rfl | (simp; done) | (simp [*]; done), by repeat (first | exact Drawn0.refl _ | apply Drawn0.step)⟩

/-! ### slices_Contains_int64_int64: function 38 -/
def slices_Contains_int64_int64.f (k : Nat) (l0 : List Int) (a1 : Int) : Option (Bool) := (slices_Index_int64_int64.f k l0 a1).bind fun t460 => (some (decide (t460 ≥ 0)))
theorem slices_Contains_int64_int64.mono : ∀ a0 a1 k, LeO (slices_Contains_int64_int64.f k a0 a1) (slices_Contains_int64_int64.f (k + 1) a0 a1) := by
 intro a0 a1 k
 unfold slices_Contains_int64_int64.f
 repeat' first
  | (with_reducible exact slices_Index_int64_int64.mono _ _ _)
  | (with_reducible exact LeO.refl _)
  | (with_reducible exact LeO.none _)
  | (with_reducible refine LeO.ite ?_ ?_)
  | (with_reducible refine LeO.bind ?_ (fun _ => ?_))
  | exact slices_Index_int64_int64.mono _ _ _
  | exact LeO.none _
  | refine LeO.ite ?_ ?_
  | refine LeO.bind ?_ (fun _ => ?_)
set_option maxHeartbeats 8000000 in
set_option maxRecDepth 100000 in
theorem slices_Contains_int64_int64.calls (k : Nat) (A0 : Option Addr) (c0 : Nat) (l0 : List Int) (a1 : Int) (r : Bool) (w : World) (hr0 : Kd.C (Kd.int .i64) w A0 l0.length l0) (hc0 : l0.length ≤ c0) (h : slices_Contains_int64_int64.f k l0 a1 = some r) :
 Calls Try.prog 38 #[.slice A0 l0.length c0, .int .i64 a1] w fun e w' => e = .returned (.bool r) ∧ Drawn0 w w' := by
 have HR0 := yD hr0
 have HC0 := yD hc0
 clear hr0 hc0
 have H : ((slices_Index_int64_int64.f k l0 a1).bind fun t460 => (some (decide (t460 ≥ 0)))) = some r := h
 clear h
 obtain ⟨t460, A30, H⟩ := zW_ H
 replace H : (some (decide (t460 ≥ 0))) = some r := H
 have A3 := yD A30
 clear A30; obtain rfl := Option.some.inj H; go_enter Try.func38, Try.ntmps38
 go_wp2_with (first | ((with_reducible refine gate_callee (f := 71) rfl ?_); refine goesL_ (some 7) rfl rfl Try.func71 (by kernel_rfl) rfl #[.slice A0 l0.length c0, .int .i64 a1] rfl (by (try simp only [zK, zL, zM]); first | done | rfl | (simp only [zN, zO]; rfl)) ?_; (with_reducible refine (slices_Index_int64_int64.calls k _ _ l0 a1 t460 _ ?side1 ?side2 A3.out).mono ?_); (case side1 => repeat (first | exact HR0.out | (with_reducible first | refine yV ?_ _ | refine yW ?_ _ | refine yX ?_))); (case side2 => exact HC0.out); rintro e w' ⟨rfl, ⟨nd, rfl⟩⟩; refine ⟨_, rfl, ?_⟩))
 go_ret
 exact ⟨by first | rfl | (simp; done) | (simp [*]; done), by repeat (first | exact Drawn0.refl _ | apply Drawn0.step)⟩

/-! ### impl_IsSelected: function 12 -/
def impl_IsSelected.f (k : Nat) (l0 : List Int) (a1_0 : Int) (l1_1 : List Int) (l1_2 : List Int) (l1_3 : List Int) (l1_4 : List Int) (l1_5 : List (S97)) (l2 : List Int) : Option (Bool) := (impl_ValidSelection.f k l0 a1_0 l1_1 l1_2 l1_3 l1_4 l1_5).bind fun t462 => (if t462 = true then ((impl_inDims.f k l0 l2).bind fun t463 => (if t463 = true then ((impl_Selection_indices.f k a1_0 l1_1 l1_2 l1_3 l1_4 l1_5 l0).bind fun t464 => ((impl_indexOf.f k l0 l2).bind fun t467 => ((slices_Contains_int64_int64.f k t464 t467).bind fun t468 => (some t468)))) else (some false))) else (some false))
theorem impl_IsSelected.mono : ∀ a0 a1 a2 a3 a4 a5 a6 a7 k, LeO (impl_IsSelected.f k a0 a1 a2 a3 a4 a5 a6 a7) (impl_IsSelected.f (k + 1) a0 a1 a2 a3 a4 a5 a6 a7) := by
 intro a0 a1 a2 a3 a4 a5 a6 a7 k
 unfold impl_IsSelected.f
 repeat' first
  | (with_reducible exact impl_Selection_indices.mono _ _ _ _ _ _ _ _)
  | (with_reducible exact impl_ValidSelection.mono _ _ _ _ _ _ _ _)
  | (with_reducible exact impl_inDims.mono _ _ _)
  | (with_reducible exact impl_indexOf.mono _ _ _)
  | (with_reducible exact slices_Contains_int64_int64.mono _ _ _)
  | (with_reducible exact LeO.refl _)
  | (with_reducible exact LeO.none _)
  | (with_reducible refine LeO.ite ?_ ?_)
  | (with_reducible refine LeO.bind ?_ (fun _ => ?_))
  | exact impl_Selection_indices.mono _ _ _ _ _ _ _ _
  | exact impl_ValidSelection.mono _ _ _ _ _ _ _ _
  | exact impl_inDims.mono _ _ _
  | exact impl_indexOf.mono _ _ _
  | exact slices_Contains_int64_int64.mono _ _ _
  | exact LeO.none _
  | refine LeO.ite ?_ ?_
  | refine LeO.bind ?_ (fun _ => ?_)
set_option maxHeartbeats 8000000 in
set_option maxRecDepth 100000 in
theorem impl_IsSelected.calls (k : Nat) (A0 : Option Addr) (c0 : Nat) (l0 : List Int) (a1_0 : Int) (A1_1 : Option Addr) (c1_1 : Nat) (l1_1 : List Int) (A1_2 : Option Addr) (c1_2 : Nat) (l1_2 : List Int) (A1_3 : Option Addr) (c1_3 : Nat) (l1_3 : List Int) (A1_4 : Option Addr) (c1_4 : Nat) (l1_4 : List Int) (A1_5 : Option Addr) (c1_5 : Nat) (l1_5 : List (S97)) (A2 : Option Addr) (c2 : Nat) (l2 : List Int) (r : Bool) (w : World) (hr0 : Kd.C (Kd.int .i64) w A0 l0.length l0) (hc0 : l0.length ≤ c0) (hr1_1 : Kd.C (Kd.int .i64) w A1_1 l1_1.length l1_1) (hc1_1 : l1_1.length ≤ c1_1) (hr1_2 : Kd.C (Kd.int .i64) w A1_2 l1_2.length l1_2) (hc1_2 : l1_2.length ≤ c1_2) (hr1_3 : Kd.C (Kd.int .i64) w A1_3 l1_3.length l1_3) (hc1_3 : l1_3.length ≤ c1_3) (hr1_4 : Kd.C (Kd.int .i64) w A1_4 l1_4.length l1_4) (hc1_4 : l1_4.length ≤ c1_4) (hr1_5 : Kd.C k97 w A1_5 l1_5.length l1_5) (hc1_5 : l1_5.length ≤ c1_5) (hr2 : Kd.C (Kd.int .i64) w A2 l2.length l2) (hc2 : l2.length ≤ c2) (h : impl_IsSelected.f k l0 a1_0 l1_1 l1_2 l1_3 l1_4 l1_5 l2 = some r) :
 Calls Try.prog 12 #[.slice A0 l0.length c0, .agg #[.int .i64 a1_0, .slice A1_1 l1_1.length c1_1, .slice A1_2 l1_2.length c1_2, .slice A1_3 l1_3.length c1_3, .slice A1_4 l1_4.length c1_4, .slice A1_5 l1_5.length c1_5], .slice A2 l2.length c2] w fun e w' => e = .returned (.bool r) ∧ Below w.heap.size w w' := by
 have hu28 := Try.underlying28
 have HR0 := yD hr0
 have HC0 := yD hc0
 clear hr0 hc0
 have HR1_1 := yD hr1_1
 have HC1_1 := yD hc1_1
 clear hr1_1 hc1_1
 have HR1_2 := yD hr1_2
 have HC1_2 := yD hc1_2
 clear hr1_2 hc1_2
 have HR1_3 := yD hr1_3
 have HC1_3 := yD hc1_3
 clear hr1_3 hc1_3
 have HR1_4 := yD hr1_4
 have HC1_4 := yD hc1_4
 clear hr1_4 hc1_4
 have HR1_5 := yD hr1_5
 have HC1_5 := yD hc1_5
 clear hr1_5 hc1_5
 have HR2 := yD hr2
 have HC2 := yD hc2
 clear hr2 hc2
 have HB := yD (Below.refl w.heap.size w)
 have H : ((impl_ValidSelection.f k l0 a1_0 l1_1 l1_2 l1_3 l1_4 l1_5).bind fun t462 => (if t462 = true then ((impl_inDims.f k l0 l2).bind fun t463 => (if t463 = true then ((impl_Selection_indices.f k a1_0 l1_1 l1_2 l1_3 l1_4 l1_5 l0).bind fun t464 => ((impl_indexOf.f k l0 l2).bind fun t467 => ((slices_Contains_int64_int64.f k t464 t467).bind fun t468 => (some t468)))) else (some false))) else (some false))) = some r := h
 clear h
 obtain ⟨t462, A40, H⟩ := zW_ H
 replace H : (if t462 = true then ((impl_inDims.f k l0 l2).bind fun t463 => (if t463 = true then ((impl_Selection_indices.f k a1_0 l1_1 l1_2 l1_3 l1_4 l1_5 l0).bind fun t464 => ((impl_indexOf.f k l0 l2).bind fun t467 => ((slices_Contains_int64_int64.f k t464 t467).bind fun t468 => (some t468)))) else (some false))) else (some false)) = some r := H
 have A4 := yD A40
 clear A40
 by_cases c5 : t462 = true
 ·
  subst c5
  have H1 : ((impl_inDims.f k l0 l2).bind fun t463 => (if t463 = true then ((impl_Selection_indices.f k a1_0 l1_1 l1_2 l1_3 l1_4 l1_5 l0).bind fun t464 => ((impl_indexOf.f k l0 l2).bind fun t467 => ((slices_Contains_int64_int64.f k t464 t467).bind fun t468 => (some t468)))) else (some false))) = some r := by rw [if_pos rfl] at H; exact H
  clear H; have H := H1; clear H1
  obtain ⟨t463, A60, H⟩ := zW_ H
  replace H : (if t463 = true then ((impl_Selection_indices.f k a1_0 l1_1 l1_2 l1_3 l1_4 l1_5 l0).bind fun t464 => ((impl_indexOf.f k l0 l2).bind fun t467 => ((slices_Contains_int64_int64.f k t464 t467).bind fun t468 => (some t468)))) else (some false)) = some r := H
  have A6 := yD A60
  clear A60
  by_cases c7 : t463 = true
  ·
   subst c7
   have H1 : ((impl_Selection_indices.f k a1_0 l1_1 l1_2 l1_3 l1_4 l1_5 l0).bind fun t464 => ((impl_indexOf.f k l0 l2).bind fun t467 => ((slices_Contains_int64_int64.f k t464 t467).bind fun t468 => (some t468)))) = some r := by rw [if_pos rfl] at H; exact H
   clear H; have H := H1; clear H1
   obtain ⟨t464, A80, H⟩ := zW_ H
   replace H : ((impl_indexOf.f k l0 l2).bind fun t467 => ((slices_Contains_int64_int64.f k t464 t467).bind fun t468 => (some t468))) = some r := H
   have A8 := yD A80
   clear A80
   obtain ⟨t467, A90, H⟩ := zW_ H
   replace H : ((slices_Contains_int64_int64.f k t464 t467).bind fun t468 => (some t468)) = some r := H
   have A9 := yD A90
   clear A90
   obtain ⟨t468, A100, H⟩ := zW_ H
   replace H : (some t468) = some r := H
   have A10 := yD A100
   clear A100; obtain rfl := Option.some.inj H; go_enter Try.func12, Try.ntmps12
   go_wp2_with (first | ((with_reducible refine gate_dst (N := 4) rfl ?_); refine box_event ?hg (N := 4) ?hd (cs := #[.int .i64 a1_0, .slice A1_1 l1_1.length c1_1, .slice A1_2 l1_2.length c1_2, .slice A1_3 l1_3.length c1_3, .slice A1_4 l1_4.length c1_4, .slice A1_5 l1_5.length c1_5]) (t := 28) ?hr ?_; (case hd => rfl); (case hg => rfl); (case hr => first | (go_simp; done) | (go_simp; rfl)); intro gb461 hg w11 hbox hb; have n0_ := yD (zC (kB HB) hb); have n1_ := yD (hbox); have n2_ := yD ((by rw [hg]; exact (below_size (kB HB)) : w.heap.size ≤ gb461)); have n3_ := yD ((by rw [hg]; exact (below_size (kB HB)) : w.heap.size ≤ gb461)); clear HB; have HB := n0_; have BK461 := n1_; have GW461 := n2_; have GE461 := n3_; clear n0_ n1_ n2_ n3_; clear hb hbox hg; obtain ⟨hcz12_0, hcz12_1, hcz12_2, hcz12_3, hcz12_4, hcz12_5⟩ := cz6 BK461.out; obtain ⟨hfz12_0, hfz12_1, hfz12_2, hfz12_3, hfz12_4, hfz12_5⟩ := fz6 BK461.out) | ((with_reducible refine gate_callee (f := 36) rfl ?_); refine goesL_ (some 9) rfl rfl Try.func36 (by kernel_rfl) rfl #[.slice A0 l0.length c0, .agg #[.int .i64 a1_0, .slice A1_1 l1_1.length c1_1, .slice A1_2 l1_2.length c1_2, .slice A1_3 l1_3.length c1_3, .slice A1_4 l1_4.length c1_4, .slice A1_5 l1_5.length c1_5]] rfl (by (try simp only [zK, zL, zM]); first | done | rfl | (simp only [zN, zO]; rfl)) ?_; (with_reducible refine (impl_ValidSelection.calls k _ _ l0 a1_0 _ _ l1_1 _ _ l1_2 _ _ l1_3 _ _ l1_4 _ _ l1_5 true _ ?side1 ?side2 ?side3 ?side4 ?side5 ?side6 ?side7 ?side8 ?side9 ?side10 ?side11 ?side12 A4.out).mono ?_); (case side1 => exact kV (yY HR0.out HB.out)); (case side2 => exact HC0.out); (case side3 => exact kV (yY HR1_1.out HB.out)); (case side4 => exact HC1_1.out); (case side5 => exact kV (yY HR1_2.out HB.out)); (case side6 => exact HC1_2.out); (case side7 => exact kV (yY HR1_3.out HB.out)); (case side8 => exact HC1_3.out); (case side9 => exact kV (yY HR1_4.out HB.out)); (case side10 => exact HC1_4.out); (case side11 => exact kV (yY HR1_5.out HB.out)); (case side12 => exact HC1_5.out); rintro e w13 ⟨rfl, hb⟩; refine ⟨_, rfl, ?_⟩; have n0_ := yD (zB (g := gb461) (o := .cells #[.int .i64 a1_0, .slice A1_1 l1_1.length c1_1, .slice A1_2 l1_2.length c1_2, .slice A1_3 l1_3.length c1_3, .slice A1_4 l1_4.length c1_4, .slice A1_5 l1_5.length c1_5] 28 (0, 0)) (kM BK461) hb); have n1_ := yD (zC (kB HB) hb); clear BK461; clear HB; have BK461 := n0_; have HB := n1_; clear n0_ n1_; (try clear hb); (try clear hb2); (try clear hk); (try clear hi)) | (go_at_call 37; (with_reducible refine (impl_inDims.calls k _ _ l0 _ _ l2 true _ ?side1 ?side2 ?side3 ?side4 A6.out).mono ?_); (case side1 => exact kV (yY HR0.out HB.out)); (case side2 => exact HC0.out); (case side3 => exact kV (yY HR2.out HB.out)); (case side4 => exact HC2.out); rintro e w' ⟨rfl, ⟨nd, rfl⟩⟩; obtain ⟨hcz14_0, hcz14_1, hcz14_2, hcz14_3, hcz14_4, hcz14_5⟩ := cz6 BK461.out; obtain ⟨hfz14_0, hfz14_1, hfz14_2, hfz14_3, hfz14_4, hfz14_5⟩ := fz6 BK461.out) | (go_at_call 39; (with_reducible refine (impl_Selection_indices.calls k a1_0 _ _ l1_1 _ _ l1_2 _ _ l1_3 _ _ l1_4 _ _ l1_5 _ _ l0 t464 _ ?side1 ?side2 ?side3 ?side4 ?side5 ?side6 ?side7 ?side8 ?side9 ?side10 ?side11 ?side12 A8.out).mono ?_); (case side1 => repeat (first | exact (yY HR1_1.out (kB HB)) | (with_reducible first | refine yV ?_ _ | refine yW ?_ _ | refine yX ?_))); (case side2 => exact HC1_1.out); (case side3 => repeat (first | exact (yY HR1_2.out (kB HB)) | (with_reducible first | refine yV ?_ _ | refine yW ?_ _ | refine yX ?_))); (case side4 => exact HC1_2.out); (case side5 => repeat (first | exact (yY HR1_3.out (kB HB)) | (with_reducible first | refine yV ?_ _ | refine yW ?_ _ | refine yX ?_))); (case side6 => exact HC1_3.out); (case side7 => repeat (first | exact (yY HR1_4.out (kB HB)) | (with_reducible first | refine yV ?_ _ | refine yW ?_ _ | refine yX ?_))); (case side8 => exact HC1_4.out); (case side9 => repeat (first | exact (yY HR1_5.out (kB HB)) | (with_reducible first | refine yV ?_ _ | refine yW ?_ _ | refine yX ?_))); (case side10 => exact HC1_5.out); (case side11 => repeat (first | exact (yY HR0.out (kB HB)) | (with_reducible first | refine yV ?_ _ | refine yW ?_ _ | refine yX ?_))); (case side12 => exact HC0.out); rintro e w15 ⟨v465, rfl, ho0, hb⟩; have n0_ := yD (yZ ho0 (below_size (kB HB))); have n1_ := yD (zB (g := gb461) (o := .cells #[.int .i64 a1_0, .slice A1_1 l1_1.length c1_1, .slice A1_2 l1_2.length c1_2, .slice A1_3 l1_3.length c1_3, .slice A1_4 l1_4.length c1_4, .slice A1_5 l1_5.length c1_5] 28 (0, 0)) (kM BK461) hb); have n2_ := yD (zC (kB HB) hb); clear BK461; clear HB; have HO466 := n0_; have BK461 := n1_; have HB := n2_; clear n0_ n1_ n2_; (try clear hb); (try clear hb2); (try clear hk); (try clear hi); (try clear ho0)) | (go_at_call 40; (with_reducible refine (impl_indexOf.calls k _ _ l0 _ _ l2 t467 _ ?side1 ?side2 ?side3 ?side4 A9.out).mono ?_); (case side1 => exact kV (yY HR0.out HB.out)); (case side2 => exact HC0.out); (case side3 => exact kV (yY HR2.out HB.out)); (case side4 => exact HC2.out); rintro e w' ⟨rfl, ⟨nd, rfl⟩⟩; obtain ⟨Ao16, co16, eo16⟩ := Kd.R_slice HO466.out; subst eo16) | (go_at_call 38; (with_reducible refine (slices_Contains_int64_int64.calls k _ _ t464 t467 t468 _ ?side1 ?side2 A10.out).mono ?_); (case side1 => exact kV (zA HO466.out).2.2); (case side2 => exact (zA HO466.out).2.1); rintro e w' ⟨rfl, ⟨nd, rfl⟩⟩))
   go_ret
   exact ⟨by first | rfl | (simp <;> rfl) | (simp [*] <;> rfl), kR1 HB⟩
  ·
   replace c7 := Bool.eq_false_iff.mpr c7
   subst c7
   have H1 : (some false) = some r := by rw [if_neg (show ¬ (false = true) by decide)] at H; exact H
   clear H; have H := H1; clear H1; obtain rfl := Option.some.inj H; go_enter Try.func12, Try.ntmps12
   go_wp2_with (first | ((with_reducible refine gate_dst (N := 4) rfl ?_); refine box_event ?hg (N := 4) ?hd (cs := #[.int .i64 a1_0, .slice A1_1 l1_1.length c1_1, .slice A1_2 l1_2.length c1_2, .slice A1_3 l1_3.length c1_3, .slice A1_4 l1_4.length c1_4, .slice A1_5 l1_5.length c1_5]) (t := 28) ?hr ?_; (case hd => rfl); (case hg => rfl); (case hr => first | (go_simp; done) | (go_simp; rfl)); intro gb461 hg w17 hbox hb; have n0_ := yD (zC (kB HB) hb); have n1_ := yD (hbox); have n2_ := yD ((by rw [hg]; exact (below_size (kB HB)) : w.heap.size ≤ gb461)); have n3_ := yD ((by rw [hg]; exact (below_size (kB HB)) : w.heap.size ≤ gb461)); clear HB; have HB := n0_; have BK461 := n1_; have GW461 := n2_; have GE461 := n3_; clear n0_ n1_ n2_ n3_; clear hb hbox hg; obtain ⟨hcz18_0, hcz18_1, hcz18_2, hcz18_3, hcz18_4, hcz18_5⟩ := cz6 BK461.out; obtain ⟨hfz18_0, hfz18_1, hfz18_2, hfz18_3, hfz18_4, hfz18_5⟩ := fz6 BK461.out) | ((with_reducible refine gate_callee (f := 36) rfl ?_); refine goesL_ (some 9) rfl rfl Try.func36 (by kernel_rfl) rfl #[.slice A0 l0.length c0, .agg #[.int .i64 a1_0, .slice A1_1 l1_1.length c1_1, .slice A1_2 l1_2.length c1_2, .slice A1_3 l1_3.length c1_3, .slice A1_4 l1_4.length c1_4, .slice A1_5 l1_5.length c1_5]] rfl (by (try simp only [zK, zL, zM]); first | done | rfl | (simp only [zN, zO]; rfl)) ?_; (with_reducible refine (impl_ValidSelection.calls k _ _ l0 a1_0 _ _ l1_1 _ _ l1_2 _ _ l1_3 _ _ l1_4 _ _ l1_5 true _ ?side1 ?side2 ?side3 ?side4 ?side5 ?side6 ?side7 ?side8 ?side9 ?side10 ?side11 ?side12 A4.out).mono ?_); (case side1 => exact kV (yY HR0.out HB.out)); (case side2 => exact HC0.out); (case side3 => exact kV (yY HR1_1.out HB.out)); (case side4 => exact HC1_1.out); (case side5 => exact kV (yY HR1_2.out HB.out)); (case side6 => exact HC1_2.out); (case side7 => exact kV (yY HR1_3.out HB.out)); (case side8 => exact HC1_3.out); (case side9 => exact kV (yY HR1_4.out HB.out)); (case side10 => exact HC1_4.out); (case side11 => exact kV (yY HR1_5.out HB.out)); (case side12 => exact HC1_5.out); rintro e w19 ⟨rfl, hb⟩; refine ⟨_, rfl, ?_⟩; have n0_ := yD (zB (g := gb461) (o := .cells #[.int .i64 a1_0, .slice A1_1 l1_1.length c1_1, .slice A1_2 l1_2.length c1_2, .slice A1_3 l1_3.length c1_3, .slice A1_4 l1_4.length c1_4, .slice A1_5 l1_5.length c1_5] 28 (0, 0)) (kM BK461) hb); have n1_ := yD (zC (kB HB) hb); clear BK461; clear HB; have BK461 := n0_; have HB := n1_; clear n0_ n1_; (try clear hb); (try clear hb2); (try clear hk); (try clear hi)) | (go_at_call 37; (with_reducible refine (impl_inDims.calls k _ _ l0 _ _ l2 false _ ?side1 ?side2 ?side3 ?side4 A6.out).mono ?_); (case side1 => exact kV (yY HR0.out HB.out)); (case side2 => exact HC0.out); (case side3 => exact kV (yY HR2.out HB.out)); (case side4 => exact HC2.out); rintro e w' ⟨rfl, ⟨nd, rfl⟩⟩))
   go_ret
   exact ⟨by first | rfl | (simp <;> rfl) | (simp [*] <;> rfl), kR1 HB⟩
 ·
  replace c5 := Bool.eq_false_iff.mpr c5
  subst c5
  have H1 : (some false) = some r := by rw [if_neg (show ¬ (false = true) by decide)] at H; exact H
  clear H; have H := H1; clear H1; obtain rfl := Option.some.inj H; go_enter Try.func12, Try.ntmps12
  go_wp2_with (first | ((with_reducible refine gate_dst (N := 4) rfl ?_); refine box_event ?hg (N := 4) ?hd (cs := #[.int .i64 a1_0, .slice A1_1 l1_1.length c1_1, .slice A1_2 l1_2.length c1_2, .slice A1_3 l1_3.length c1_3, .slice A1_4 l1_4.length c1_4, .slice A1_5 l1_5.length c1_5]) (t := 28) ?hr ?_; (case hd => rfl); (case hg => rfl); (case hr => first | (go_simp; done) | (go_simp; rfl)); intro gb461 hg w20 hbox hb; have n0_ := yD (zC (kB HB) hb); have n1_ := yD (hbox); have n2_ := yD ((by rw [hg]; exact (below_size (kB HB)) : w.heap.size ≤ gb461)); have n3_ := yD ((by rw [hg]; exact (below_size (kB HB)) : w.heap.size ≤ gb461)); clear HB; have HB := n0_; have BK461 := n1_; have GW461 := n2_; have GE461 := n3_; clear n0_ n1_ n2_ n3_; clear hb hbox hg; obtain ⟨hcz21_0, hcz21_1, hcz21_2, hcz21_3, hcz21_4, hcz21_5⟩ := cz6 BK461.out; obtain ⟨hfz21_0, hfz21_1, hfz21_2, hfz21_3, hfz21_4, hfz21_5⟩ := fz6 BK461.out) | ((with_reducible refine gate_callee (f := 36) rfl ?_); refine goesL_ (some 9) rfl rfl Try.func36 (by kernel_rfl) rfl #[.slice A0 l0.length c0, .agg #[.int .i64 a1_0, .slice A1_1 l1_1.length c1_1, .slice A1_2 l1_2.length c1_2, .slice A1_3 l1_3.length c1_3, .slice A1_4 l1_4.length c1_4, .slice A1_5 l1_5.length c1_5]] rfl (by (try simp only [zK, zL, zM]); first | done | rfl | (simp only [zN, zO]; rfl)) ?_; (with_reducible refine (impl_ValidSelection.calls k _ _ l0 a1_0 _ _ l1_1 _ _ l1_2 _ _ l1_3 _ _ l1_4 _ _ l1_5 false _ ?side1 ?side2 ?side3 ?side4 ?side5 ?side6 ?side7 ?side8 ?side9 ?side10 ?side11 ?side12 A4.out).mono ?_); (case side1 => exact kV (yY HR0.out HB.out)); (case side2 => exact HC0.out); (case side3 => exact kV (yY HR1_1.out HB.out)); (case side4 => exact HC1_1.out); (case side5 => exact kV (yY HR1_2.out HB.out)); (case side6 => exact HC1_2.out); (case side7 => exact kV (yY HR1_3.out HB.out)); (case side8 => exact HC1_3.out); (case side9 => exact kV (yY HR1_4.out HB.out)); (case side10 => exact HC1_4.out); (case side11 => exact kV (yY HR1_5.out HB.out)); (case side12 => exact HC1_5.out); rintro e w22 ⟨rfl, hb⟩; refine ⟨_, rfl, ?_⟩; have n0_ := yD (zB (g := gb461) (o := .cells #[.int .i64 a1_0, .slice A1_1 l1_1.length c1_1, .slice A1_2 l1_2.length c1_2, .slice A1_3 l1_3.length c1_3, .slice A1_4 l1_4.length c1_4, .slice A1_5 l1_5.length c1_5] 28 (0, 0)) (kM BK461) hb); have n1_ := yD (zC (kB HB) hb); clear BK461; clear HB; have BK461 := n0_; have HB := n1_; clear n0_ n1_; (try clear hb); (try clear hb2); (try clear hk); (try clear hi)))
  go_ret
  exact ⟨by first | rfl | (simp <;> rfl) | (simp [*] <;> rfl), kR1 HB⟩

end Go.Proofs.Ytgpkkplabnliiaa.PFnRanges
