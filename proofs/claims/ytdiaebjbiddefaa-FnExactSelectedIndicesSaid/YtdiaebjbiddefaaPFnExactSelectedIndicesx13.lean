/- Each Go function here comes to what the plain function of its name says, where that says something. Made by a program of this session, over the print. -/
import Derived.Test.YtdiaebjbiddefaaPFnExactSelectedIndicesx0
import Derived.Test.YtdiaebjbiddefaaPFnExactSelectedIndicesx8
import Derived.Test.YtdiaebjbiddefaaPFnExactSelectedIndicesx12
namespace Go.Proofs.Ytdiaebjbiddefaa.PFnExactSelectedIndices
open Go.RowKit Go.Proofs.YtdiaebjbiddefaaW.PrintWords Go.Proofs.YtdiaebjbiddefaaW.PrintLast Go.Proofs.YtdiaebjbiddefaaW.PrintMore
attribute [local go_sem] max2_int min2_int max_two min_two max_three min_three max_four min_four   -- for this text's walks alone
set_option linter.unusedVariables false
set_option linter.unusedSimpArgs false

/-! ### impl_Selection_slabIndices: function 118 -/
mutual
def impl_Selection_slabIndices.l0 : Nat → List Int → List Int → Int → Int → Int → List Int → List Int → List Int → List Int → List (S110) → Option (List Int)
 | 0, _, _, _, _, _, _, _, _, _, _ => none
 | k + 1, x5, x14, x15, x16, x331000, x331001, x331002, x331003, x331004, x331005 => if x16 < x15 then (if 0 ≤ x16 then (if x16 < (x14.length : Int) then (impl_Selection_slabIndices.l1 k x16 (rd x14 x16) ([] : List Int) x14 x15 x16 x5 (x5.length : Int) 0 x331000 x331001 x331002 x331003 x331004 x331005) else (none)) else (none)) else (some x5)
def impl_Selection_slabIndices.l1 : Nat → Int → Int → List Int → List Int → Int → Int → List Int → Int → Int → Int → List Int → List Int → List Int → List Int → List (S110) → Option (List Int)
 | 0, _, _, _, _, _, _, _, _, _, _, _, _, _, _, _ => none
 | k + 1, x6, x7, x8, x14, x15, x16, x21, x22, x23, x331000, x331001, x331002, x331003, x331004, x331005 => if x23 < x22 then (if 0 ≤ x23 then (if x23 < (x21.length : Int) then ((impl_Selection_coordinates.f k x331000 x331001 x331002 x331003 x331004 x331005 x6).bind fun t336 => (impl_Selection_slabIndices.l2 k x6 x7 x8 (rd x21 x23) x14 x15 x16 x21 x22 x23 t336 (t336.length : Int) 0 x331000 x331001 x331002 x331003 x331004 x331005)) else (none)) else (none)) else (impl_Selection_slabIndices.l0 k x8 x14 x15 (wrap64 (x16 + 1)) x331000 x331001 x331002 x331003 x331004 x331005)
def impl_Selection_slabIndices.l2 : Nat → Int → Int → List Int → Int → List Int → Int → Int → List Int → Int → Int → List Int → Int → Int → Int → List Int → List Int → List Int → List Int → List (S110) → Option (List Int)
 | 0, _, _, _, _, _, _, _, _, _, _, _, _, _, _, _, _, _, _, _ => none
 | k + 1, x6, x7, x8, x10, x14, x15, x16, x21, x22, x23, x29, x30, x31, x331000, x331001, x331002, x331003, x331004, x331005 => if x31 < x30 then (if 0 ≤ x31 then (if x31 < (x29.length : Int) then (if x8.length < 17592186044416 then (impl_Selection_slabIndices.l2 k x6 x7 (x8 ++ [wrap64 ((wrap64 (x10 * x7)) + (rd x29 x31))]) x10 x14 x15 x16 x21 x22 x23 x29 x30 (wrap64 (x31 + 1)) x331000 x331001 x331002 x331003 x331004 x331005) else (none)) else (none)) else (none)) else (impl_Selection_slabIndices.l1 k x6 x7 x8 x14 x15 x16 x21 x22 (wrap64 (x23 + 1)) x331000 x331001 x331002 x331003 x331004 x331005)
end
def impl_Selection_slabIndices.f (k : Nat) (a0_0 : Int) (l0_1 : List Int) (l0_2 : List Int) (l0_3 : List Int) (l0_4 : List Int) (l0_5 : List (S110)) (l1 : List Int) : Option (List Int) := impl_Selection_slabIndices.l0 k (([0] : List Int)) l1 (l1.length : Int) 0 a0_0 l0_1 l0_2 l0_3 l0_4 l0_5
theorem impl_Selection_slabIndices.mono_l : ∀ k, (∀ y0 y1 y2 y3 y4 y5 y6 y7 y8 y9, LeO (impl_Selection_slabIndices.l0 k y0 y1 y2 y3 y4 y5 y6 y7 y8 y9) (impl_Selection_slabIndices.l0 (k + 1) y0 y1 y2 y3 y4 y5 y6 y7 y8 y9)) ∧ (∀ y0 y1 y2 y3 y4 y5 y6 y7 y8 y9 y10 y11 y12 y13 y14, LeO (impl_Selection_slabIndices.l1 k y0 y1 y2 y3 y4 y5 y6 y7 y8 y9 y10 y11 y12 y13 y14) (impl_Selection_slabIndices.l1 (k + 1) y0 y1 y2 y3 y4 y5 y6 y7 y8 y9 y10 y11 y12 y13 y14)) ∧ (∀ y0 y1 y2 y3 y4 y5 y6 y7 y8 y9 y10 y11 y12 y13 y14 y15 y16 y17 y18, LeO (impl_Selection_slabIndices.l2 k y0 y1 y2 y3 y4 y5 y6 y7 y8 y9 y10 y11 y12 y13 y14 y15 y16 y17 y18) (impl_Selection_slabIndices.l2 (k + 1) y0 y1 y2 y3 y4 y5 y6 y7 y8 y9 y10 y11 y12 y13 y14 y15 y16 y17 y18))
 | 0 => ⟨fun _ _ _ _ _ _ _ _ _ _ r h => by simp [impl_Selection_slabIndices.l0] at h, fun _ _ _ _ _ _ _ _ _ _ _ _ _ _ _ r h => by simp [impl_Selection_slabIndices.l1] at h, fun _ _ _ _ _ _ _ _ _ _ _ _ _ _ _ _ _ _ _ r h => by simp [impl_Selection_slabIndices.l2] at h⟩
 | k + 1 => by
  obtain ⟨ih0, ih1, ih2⟩ := impl_Selection_slabIndices.mono_l k
  refine ⟨?_, ?_, ?_⟩
  ·
   intro y0 y1 y2 y3 y4 y5 y6 y7 y8 y9
   unfold impl_Selection_slabIndices.l0
   repeat' (with_reducible first | exact ih0 _ _ _ _ _ _ _ _ _ _ | exact ih1 _ _ _ _ _ _ _ _ _ _ _ _ _ _ _ | exact ih2 _ _ _ _ _ _ _ _ _ _ _ _ _ _ _ _ _ _ _ | exact impl_Selection_coordinates.mono _ _ _ _ _ _ _ _ | exact LeO.refl _ | exact LeO.none _ | refine LeO.ite ?_ ?_ | refine LeO.bind ?_ (fun _ => ?_))
  ·
   intro y0 y1 y2 y3 y4 y5 y6 y7 y8 y9 y10 y11 y12 y13 y14
   unfold impl_Selection_slabIndices.l1
   repeat' (with_reducible first | exact ih0 _ _ _ _ _ _ _ _ _ _ | exact ih1 _ _ _ _ _ _ _ _ _ _ _ _ _ _ _ | exact ih2 _ _ _ _ _ _ _ _ _ _ _ _ _ _ _ _ _ _ _ | exact impl_Selection_coordinates.mono _ _ _ _ _ _ _ _ | exact LeO.refl _ | exact LeO.none _ | refine LeO.ite ?_ ?_ | refine LeO.bind ?_ (fun _ => ?_))
  ·
   intro y0 y1 y2 y3 y4 y5 y6 y7 y8 y9 y10 y11 y12 y13 y14 y15 y16 y17 y18
   unfold impl_Selection_slabIndices.l2
   repeat' (with_reducible first | exact ih0 _ _ _ _ _ _ _ _ _ _ | exact ih1 _ _ _ _ _ _ _ _ _ _ _ _ _ _ _ | exact ih2 _ _ _ _ _ _ _ _ _ _ _ _ _ _ _ _ _ _ _ | exact impl_Selection_coordinates.mono _ _ _ _ _ _ _ _ | exact LeO.refl _ | exact LeO.none _ | refine LeO.ite ?_ ?_ | refine LeO.bind ?_ (fun _ => ?_))
theorem impl_Selection_slabIndices.mono : ∀ a0 a1 a2 a3 a4 a5 a6 k, LeO (impl_Selection_slabIndices.f k a0 a1 a2 a3 a4 a5 a6) (impl_Selection_slabIndices.f (k + 1) a0 a1 a2 a3 a4 a5 a6) := by
 intro a0 a1 a2 a3 a4 a5 a6 k
 obtain ⟨ih0, ih1, ih2⟩ := impl_Selection_slabIndices.mono_l k
 unfold impl_Selection_slabIndices.f
 repeat' (with_reducible first | exact ih0 _ _ _ _ _ _ _ _ _ _ | exact ih1 _ _ _ _ _ _ _ _ _ _ _ _ _ _ _ | exact ih2 _ _ _ _ _ _ _ _ _ _ _ _ _ _ _ _ _ _ _ | exact impl_Selection_coordinates.mono _ _ _ _ _ _ _ _ | exact LeO.refl _ | exact LeO.none _ | refine LeO.ite ?_ ?_ | refine LeO.bind ?_ (fun _ => ?_))
set_option maxHeartbeats 8000000 in
set_option maxRecDepth 100000 in
theorem impl_Selection_slabIndices.calls (k : Nat) (a0_0 : Int) (A0_1 : Option Addr) (c0_1 : Nat) (l0_1 : List Int) (A0_2 : Option Addr) (c0_2 : Nat) (l0_2 : List Int) (A0_3 : Option Addr) (c0_3 : Nat) (l0_3 : List Int) (A0_4 : Option Addr) (c0_4 : Nat) (l0_4 : List Int) (A0_5 : Option Addr) (c0_5 : Nat) (l0_5 : List (S110)) (A1 : Option Addr) (c1 : Nat) (l1 : List Int) (r : List Int) (w : World) (hr0_1 : Kd.C (Kd.int .i64) w A0_1 l0_1.length l0_1) (hc0_1 : l0_1.length ≤ c0_1) (hr0_2 : Kd.C (Kd.int .i64) w A0_2 l0_2.length l0_2) (hc0_2 : l0_2.length ≤ c0_2) (hr0_3 : Kd.C (Kd.int .i64) w A0_3 l0_3.length l0_3) (hc0_3 : l0_3.length ≤ c0_3) (hr0_4 : Kd.C (Kd.int .i64) w A0_4 l0_4.length l0_4) (hc0_4 : l0_4.length ≤ c0_4) (hr0_5 : Kd.C k110 w A0_5 l0_5.length l0_5) (hc0_5 : l0_5.length ≤ c0_5) (hr1 : Kd.C (Kd.int .i64) w A1 l1.length l1) (hc1 : l1.length ≤ c1) (h : impl_Selection_slabIndices.f k a0_0 l0_1 l0_2 l0_3 l0_4 l0_5 l1 = some r) :
 Calls Try.prog 118 #[.agg #[.int .i64 a0_0, .slice A0_1 l0_1.length c0_1, .slice A0_2 l0_2.length c0_2, .slice A0_3 l0_3.length c0_3, .slice A0_4 l0_4.length c0_4, .slice A0_5 l0_5.length c0_5], .slice A1 l1.length c1] w fun e w' => ∃ v0_ : Value, e = .returned (v0_) ∧ Kd.R (Kd.int .i64) 2 w' w.heap.size (fun _ => True) v0_ r ∧ Below w.heap.size w w' := by
 have hu55 := Try.underlying55
 have HR0_1 := yD hr0_1
 have HC0_1 := yD hc0_1
 clear hr0_1 hc0_1
 have HR0_2 := yD hr0_2
 have HC0_2 := yD hc0_2
 clear hr0_2 hc0_2
 have HR0_3 := yD hr0_3
 have HC0_3 := yD hc0_3
 clear hr0_3 hc0_3
 have HR0_4 := yD hr0_4
 have HC0_4 := yD hc0_4
 clear hr0_4 hc0_4
 have HR0_5 := yD hr0_5
 have HC0_5 := yD hc0_5
 clear hr0_5 hc0_5
 have HR1 := yD hr1
 have HC1 := yD hc1
 clear hr1 hc1
 have HB := yD (Below.refl w.heap.size w)
 have H : (impl_Selection_slabIndices.l0 k (([0] : List Int)) l1 (l1.length : Int) 0 a0_0 l0_1 l0_2 l0_3 l0_4 l0_5) = some r := h
 clear h
 obtain ⟨y331, hy331⟩ : ∃ y_ : List Int, y_ = (([0] : List Int)) := ⟨_, rfl⟩
 replace H : (impl_Selection_slabIndices.l0 k y331 l1 (l1.length : Int) 0 a0_0 l0_1 l0_2 l0_3 l0_4 l0_5) = some r := by first | (rw [hy331]; with_reducible exact H) | (have H2_ := (Option.bind_some _ _).symm.trans H; rw [hy331]; with_reducible exact H2_) | (have H2_ := (Option.bind_some _ _).symm.trans H; with_reducible exact H2_) | with_reducible exact H | (rw [hy331]; exact H) | exact H
 have Ny331 := yD hy331
 clear hy331
 have H' := yD H
 clear H; go_enter Try.func118, Try.ntmps118
 go_wp2_with (first | ((with_reducible refine gate_dst (N := 2) rfl ?_); refine box_event ?hg (N := 2) ?hd (cs := #[.int .i64 a0_0, .slice A0_1 l0_1.length c0_1, .slice A0_2 l0_2.length c0_2, .slice A0_3 l0_3.length c0_3, .slice A0_4 l0_4.length c0_4, .slice A0_5 l0_5.length c0_5]) (t := 55) ?hr ?_; (case hd => rfl); (case hg => rfl); (case hr => first | (go_simp; done) | (go_simp; rfl)); intro gb330 hg w3 hbox hb; have n0_ := yD (zC (kB HB) hb); have n1_ := yD (hbox); have n2_ := yD ((by rw [hg]; exact (below_size (kB HB)) : w.heap.size ≤ gb330)); have n3_ := yD ((by rw [hg]; exact (below_size (kB HB)) : w.heap.size ≤ gb330)); clear HB; have HB := n0_; have BK330 := n1_; have GW330 := n2_; have GE330 := n3_; clear n0_ n1_ n2_ n3_; clear hb hbox hg) | ((with_reducible refine gate_dst (N := 13) rfl ?_); refine Kd.R_lit (Kd.int .i64) _ 2 ?hg (N := 13) ?hd (xs := ([0] : List Int)) (inner := [.int .i64 0]) (ok := fun _ => True) (okp := fun _ => True) ?hr ?hp (fun _ hk => hk) trivial (Below.refl _ _) (Nat.le_refl _) (by simp) ?_; (case hd => rfl); (case hg => rfl); (case hr => first | (go_simp; done) | (go_simp; rfl)); (case hp => exact (Reps.one (show Kd.M (Kd.int .i64) _ _ _ 0 [.int .i64 0] from rfl) (Reps.none _ _))); intro v332 w4 ho5 hb hg_ hnew_; clear hg_ hnew_; (first | rw [← Ny331.out] at ho5 | (simp only [Int.reduceToNat] at ho5; rw [← Ny331.out] at ho5)); have n0_ := yD (yZ ho5 (below_size (kB HB))); have n1_ := yD (zB (kN BK330) hb); have n2_ := yD (zC (kB HB) hb); clear BK330; clear HB; have HO333 := n0_; have BK330 := n1_; have HB := n2_; clear n0_ n1_ n2_; clear hb ho5))
 (try simp only [Act.put, zH, zI, zJ])
 go_loopg [5, 16] k (fun kq v5 v16 w' => ∃ (x5_1 : List Int) (x16_1 : Int), v16 = .int .i64 x16_1 ∧ Aside0 (impl_Selection_slabIndices.l0 kq x5_1 l1 (l1.length : Int) x16_1 a0_0 l0_1 l0_2 l0_3 l0_4 l0_5 = some r) ∧ Aside0 (kq ≤ k) ∧ Aside0 (Kd.R (Kd.int .i64) 2 w' w.heap.size (fun _ => True) v5 x5_1) ∧ Aside0 (w'.heap[gb330]? = some (.cells #[.int .i64 a0_0, (.slice A0_1 l0_1.length c0_1), (.slice A0_2 l0_2.length c0_2), (.slice A0_3 l0_3.length c0_3), (.slice A0_4 l0_4.length c0_4), (.slice A0_5 l0_5.length c0_5)] 55 (0, 0))) ∧ Aside0 (Below w.heap.size w w'))
 case atStart => exact ⟨(y331), (0), (by first | rfl | (simp; done) | (simp [*]; done)), H', ⟨Nat.le_refl _⟩, ⟨by (with_reducible repeat (first | apply yA | apply yB | apply yC)); exact HO333.out⟩, ⟨by (with_reducible repeat (first | refine yM ?_ _ | refine yO ?_ | refine yN ?_ _)); exact BK330.out⟩, ⟨kR0 HB⟩⟩
 case round =>
  clear H'
  try clear c1; try clear p2
  obtain ⟨x5_1, x16_1, rfl, HA, HK1, HO_5, BK330, HB⟩ := hrel
  cases gk with
  | zero => exact absurd HA.out (by simp [impl_Selection_slabIndices.l0])
  | succ k1 =>
   have H := HA.out; clear HA
   simp only [impl_Selection_slabIndices.l0] at H
   by_cases c6 : x16_1 < (l1.length : Int)
   ·
    rw [if_pos c6] at H; have c6b0 : decide (x16_1 < (l1.length : Int)) = true := zR c6; clear c6
    by_cases c7 : 0 ≤ x16_1
    ·
     rw [if_pos c7] at H; have c7b0 : decide (0 ≤ x16_1) = true := zR c7; clear c7
     by_cases c8 : x16_1 < (l1.length : Int)
     ·
      rw [if_pos c8] at H; have c8b0 : decide (x16_1 < (l1.length : Int)) = true := zR c8; clear c8
      have H' := yD H
      clear H
      have p334 : 0 ≤ (x16_1 : Int) := zP (by assumption)
      have q334 : x16_1 < (l1.length : Int) := zP (by assumption)
      obtain ⟨ad334, e334, hx334_0⟩ := Kd.at_int HR1.out x16_1 p334 q334
      cases e334
      replace hx334_0 := (HB.out.cell (zQ w _ hx334_0)).trans hx334_0
      replace p334 := eq_true p334; replace q334 := eq_true q334
      obtain ⟨Ao9, co9, eo9⟩ := Kd.R_slice HO_5.out
      subst eo9
      go_wp2
      go_loopg [8, 23] k1 (fun kq v8 v23 w' => ∃ (x8_2 : List Int) (x23_2 : Int), v23 = .int .i64 x23_2 ∧ Aside0 (impl_Selection_slabIndices.l1 kq x16_1 (rd l1 x16_1) x8_2 l1 (l1.length : Int) x16_1 x5_1 (x5_1.length : Int) x23_2 a0_0 l0_1 l0_2 l0_3 l0_4 l0_5 = some r) ∧ Aside0 (kq ≤ k1) ∧ Aside0 (Kd.R (Kd.int .i64) 2 w' w.heap.size (fun k_ => some k_ ≠ ((.slice Ao9 x5_1.length co9) : Value).ownBlock) v8 x8_2) ∧ Aside0 (Kd.R (Kd.int .i64) 2 w' w.heap.size (fun k_ => some k_ ≠ (v8 : Value).ownBlock) (.slice Ao9 x5_1.length co9) x5_1) ∧ Aside0 (w'.heap[gb330]? = some (.cells #[.int .i64 a0_0, (.slice A0_1 l0_1.length c0_1), (.slice A0_2 l0_2.length c0_2), (.slice A0_3 l0_3.length c0_3), (.slice A0_4 l0_4.length c0_4), (.slice A0_5 l0_5.length c0_5)] 55 (0, 0))) ∧ Aside0 (Below w.heap.size w w'))
      case atStart => exact ⟨(([] : List Int)), (0), (by first | rfl | (simp; done) | (simp [*]; done)), H', ⟨Nat.le_refl _⟩, ⟨by first | exact Kd.R_nil _ _ _ _ _ | exact Kd.N_nil _ _ _ _ _ | exact Kd.V_nil _ _ _ _ _ | exact Kd.Q_nil _ _ _ _ _ | exact Kd.S_nil _ _ _ _ _⟩, ⟨by (with_reducible repeat (first | apply yA | apply yB | apply yC)); exact zF HO_5.out (fun _ hk => (by simp [Value.ownBlock]))⟩, ⟨by (with_reducible repeat (first | refine yM ?_ _ | refine yO ?_ | refine yN ?_ _)); exact BK330.out⟩, ⟨kR0 HB⟩⟩
      case round =>
       clear H'
       try clear c1; try clear p2; try clear p3; try clear q3; try clear hx3; try clear c6; try clear c6b0; try clear c7; try clear c7b0; try clear c8; try clear c8b0; try clear hx334_0; try clear p2; try clear p334; try clear q334
       obtain ⟨x8_2, x23_2, rfl, HA, HK2, HO_8, HO_21, BK330, HB⟩ := hrel
       cases gk with
       | zero => exact absurd HA.out (by simp [impl_Selection_slabIndices.l1])
       | succ k2 =>
        have H := HA.out; clear HA
        simp only [impl_Selection_slabIndices.l1] at H
        by_cases c10 : x23_2 < (x5_1.length : Int)
        ·
         rw [if_pos c10] at H; have c10b0 : decide (x23_2 < (x5_1.length : Int)) = true := zR c10; clear c10
         by_cases c11 : 0 ≤ x23_2
         ·
          rw [if_pos c11] at H; have c11b0 : decide (0 ≤ x23_2) = true := zR c11; clear c11
          by_cases c12 : x23_2 < (x5_1.length : Int)
          ·
           rw [if_pos c12] at H; have c12b0 : decide (x23_2 < (x5_1.length : Int)) = true := zR c12; clear c12
           obtain ⟨t336, A130, H⟩ := zW_ H
           replace H : (impl_Selection_slabIndices.l2 k2 x16_1 (rd l1 x16_1) x8_2 (rd x5_1 x23_2) l1 (l1.length : Int) x16_1 x5_1 (x5_1.length : Int) x23_2 t336 (t336.length : Int) 0 a0_0 l0_1 l0_2 l0_3 l0_4 l0_5) = some r := H
           have A13 := yD A130
           clear A130
           have H' := yD H
           clear H
           have p335 : 0 ≤ (x23_2 : Int) := zP (by assumption)
           have q335 : x23_2 < (x5_1.length : Int) := zP (by assumption)
           obtain ⟨ad335, e335, hx335_0⟩ := Kd.at_int (zA HO_21.out).2.2 x23_2 p335 q335
           cases e335; replace p335 := eq_true p335; replace q335 := eq_true q335
           obtain ⟨hcz14_0, hcz14_1, hcz14_2, hcz14_3, hcz14_4, hcz14_5⟩ := cz6 BK330.out
           obtain ⟨hfz14_0, hfz14_1, hfz14_2, hfz14_3, hfz14_4, hfz14_5⟩ := fz6 BK330.out
           go_wp2_with (first | ((with_reducible refine gate_callee (f := 144) rfl ?_); refine gL 29 Try.func144 #[.agg #[.int .i64 a0_0, .slice A0_1 l0_1.length c0_1, .slice A0_2 l0_2.length c0_2, .slice A0_3 l0_3.length c0_3, .slice A0_4 l0_4.length c0_4, .slice A0_5 l0_5.length c0_5], .int .i64 x16_1] ?_; (with_reducible refine (impl_Selection_coordinates.calls k2 a0_0 _ _ l0_1 _ _ l0_2 _ _ l0_3 _ _ l0_4 _ _ l0_5 x16_1 t336 _ ?side1 ?side2 ?side3 ?side4 ?side5 ?side6 ?side7 ?side8 ?side9 ?side10 A13.out).mono ?_); (case side1 => exact kV (yY HR0_1.out HB.out)); (case side2 => exact HC0_1.out); (case side3 => exact kV (yY HR0_2.out HB.out)); (case side4 => exact HC0_2.out); (case side5 => exact kV (yY HR0_3.out HB.out)); (case side6 => exact HC0_3.out); (case side7 => exact kV (yY HR0_4.out HB.out)); (case side8 => exact HC0_4.out); (case side9 => exact kV (yY HR0_5.out HB.out)); (case side10 => exact HC0_5.out); rintro e w15 ⟨v337, rfl, ho0, hb⟩; refine ⟨_, rfl, ?_⟩; have n0_ := yD (Kd.R_elder' (kA HO_8) (yH ho0) hb); have n1_ := yD (Kd.R_elder' (kA HO_21) (yH ho0) hb); have n2_ := yD (yZ (yJ (yJ ho0 (yK (kA HO_8))) (yK (kA HO_21))) (below_size (kB HB))); have n3_ := yD (zB (kN BK330) hb); have n4_ := yD (zC (kB HB) hb); clear HO_8; clear HO_21; clear BK330; clear HB; have HO_8 := n0_; have HO_21 := n1_; have HO338 := n2_; have BK330 := n3_; have HB := n4_; clear n0_ n1_ n2_ n3_ n4_; (try clear hb); (try clear hb2); (try clear hk); (try clear hi); (try clear ho0); obtain ⟨Ao16, co16, eo16⟩ := Kd.R_slice HO338.out; subst eo16))
           (try simp only [Act.put, zH, zI, zJ])
           go_loopg [8, 31] k2 (fun kq v8 v31 w' => ∃ (x8_3 : List Int) (x31_3 : Int), v31 = .int .i64 x31_3 ∧ Aside0 (impl_Selection_slabIndices.l2 kq x16_1 (rd l1 x16_1) x8_3 (rd x5_1 x23_2) l1 (l1.length : Int) x16_1 x5_1 (x5_1.length : Int) x23_2 t336 (t336.length : Int) x31_3 a0_0 l0_1 l0_2 l0_3 l0_4 l0_5 = some r) ∧ Aside0 (kq ≤ k2) ∧ Aside0 (Kd.R (Kd.int .i64) 2 w' w.heap.size (fun k_ => some k_ ≠ ((.slice (some ad335) x5_1.length co9) : Value).ownBlock ∧ some k_ ≠ ((.slice Ao16 t336.length co16) : Value).ownBlock) v8 x8_3) ∧ Aside0 (Kd.R (Kd.int .i64) 2 w' w.heap.size (fun k_ => some k_ ≠ (v8 : Value).ownBlock ∧ some k_ ≠ ((.slice Ao16 t336.length co16) : Value).ownBlock) (.slice (some ad335) x5_1.length co9) x5_1) ∧ Aside0 (Kd.R (Kd.int .i64) 2 w' w.heap.size (fun k_ => some k_ ≠ (v8 : Value).ownBlock ∧ some k_ ≠ ((.slice (some ad335) x5_1.length co9) : Value).ownBlock) (.slice Ao16 t336.length co16) t336) ∧ Aside0 (w'.heap[gb330]? = some (.cells #[.int .i64 a0_0, (.slice A0_1 l0_1.length c0_1), (.slice A0_2 l0_2.length c0_2), (.slice A0_3 l0_3.length c0_3), (.slice A0_4 l0_4.length c0_4), (.slice A0_5 l0_5.length c0_5)] 55 (0, 0))) ∧ Aside0 (Below w.heap.size w w'))
           case atStart => exact ⟨(x8_2), (0), (by first | rfl | (simp; done) | (simp [*]; done)), H', ⟨Nat.le_refl _⟩, ⟨by (with_reducible repeat (first | apply yA | apply yB | apply yC)); exact HO_8.out⟩, ⟨by (with_reducible repeat (first | apply yA | apply yB | apply yC)); exact HO_21.out⟩, ⟨by (with_reducible repeat (first | apply yA | apply yB | apply yC)); exact zF HO338.out (fun _ hk => ⟨hk.1.2, hk.2⟩)⟩, ⟨by (with_reducible repeat (first | refine yM ?_ _ | refine yO ?_ | refine yN ?_ _)); exact BK330.out⟩, ⟨kR0 HB⟩⟩
           case round =>
            clear H'
            try clear c1; try clear p2; try clear p3; try clear q3; try clear hx3; try clear c6; try clear c6b0; try clear c7; try clear c7b0; try clear c8; try clear c8b0; try clear c10; try clear c10b0; try clear c11; try clear c11b0; try clear c12; try clear c12b0; try clear c14; try clear hcz14_0; try clear hcz14_1; try clear hcz14_2; try clear hcz14_3; try clear hcz14_4; try clear hcz14_5; try clear hfz14_0; try clear hfz14_1; try clear hfz14_2; try clear hfz14_3; try clear hfz14_4; try clear hfz14_5; try clear hx334_0; try clear hx335_0; try clear p2; try clear p3; try clear p334; try clear p335; try clear q3; try clear q334; try clear q335
            obtain ⟨x8_3, x31_3, rfl, HA, HK3, HO_8, HO_21, HO_29, BK330, HB⟩ := hrel
            cases gk with
            | zero => exact absurd HA.out (by simp [impl_Selection_slabIndices.l2])
            | succ k3 =>
             have H := HA.out; clear HA
             simp only [impl_Selection_slabIndices.l2] at H
             by_cases c17 : x31_3 < (t336.length : Int)
             ·
              rw [if_pos c17] at H; have c17b0 : decide (x31_3 < (t336.length : Int)) = true := zR c17; clear c17
              by_cases c18 : 0 ≤ x31_3
              ·
               rw [if_pos c18] at H; have c18b0 : decide (0 ≤ x31_3) = true := zR c18; clear c18
               by_cases c19 : x31_3 < (t336.length : Int)
               ·
                rw [if_pos c19] at H; have c19b0 : decide (x31_3 < (t336.length : Int)) = true := zR c19; clear c19
                by_cases c20 : x8_3.length < 17592186044416
                ·
                 rw [if_pos c20] at H
                 have LMc20 := yD c20
                 clear c20
                 obtain ⟨y340, hy340⟩ : ∃ y_ : List Int, y_ = (x8_3 ++ [wrap64 ((wrap64 ((rd x5_1 x23_2) * (rd l1 x16_1))) + (rd t336 x31_3))]) := ⟨_, rfl⟩
                 replace H : (impl_Selection_slabIndices.l2 k3 x16_1 (rd l1 x16_1) y340 (rd x5_1 x23_2) l1 (l1.length : Int) x16_1 x5_1 (x5_1.length : Int) x23_2 t336 (t336.length : Int) (wrap64 (x31_3 + 1)) a0_0 l0_1 l0_2 l0_3 l0_4 l0_5) = some r := by first | (rw [hy340]; with_reducible exact H) | (have H2_ := (Option.bind_some _ _).symm.trans H; rw [hy340]; with_reducible exact H2_) | (have H2_ := (Option.bind_some _ _).symm.trans H; with_reducible exact H2_) | with_reducible exact H | (rw [hy340]; exact H) | exact H
                 have Ny340 := yD hy340
                 clear hy340
                 have H' := yD H
                 clear H
                 have p339 : 0 ≤ (x31_3 : Int) := zP (by assumption)
                 have q339 : x31_3 < (t336.length : Int) := zP (by assumption)
                 obtain ⟨ad339, e339, hx339_0⟩ := Kd.at_int (zA HO_29.out).2.2 x31_3 p339 q339
                 cases e339; replace p339 := eq_true p339; replace q339 := eq_true q339
                 go_wp2_with (first | ((with_reducible refine gate_builtin (b := .append) (xs := #[.tmp 35, .tmp 41]) rfl ?_); at_builtin; refine Kd.R_append (Kd.int .i64) (w0 := w) w.heap.size rfl (.tmp 35) (.tmp 41) 36 2 (.int .i64 0) 8 rfl Try.underlying36 info2 rfl (by decide) (by omega) u8 x8_3 (wrap64 ((wrap64 ((rd x5_1 x23_2) * (rd l1 x16_1))) + (rd t336 x31_3))) [.int .i64 (wrap64 ((wrap64 ((rd x5_1 x23_2) * (rd l1 x16_1))) + (rd t336 x31_3)))] (fun k_ => some k_ ≠ (.slice (some ad335) x5_1.length co9 : Value).ownBlock ∧ some k_ ≠ (.slice (some ad339) t336.length co16 : Value).ownBlock) (fun _ => False) rfl rfl ?aP (fun _ hk => hk.elim) ?aF ?aO ?aB ?aS ?aL ?_; (case aP => exact rfl); (case aB => exact (kB HB)); (case aF => exact (fun k_ hk => ⟨Kd.fresh' (yK (kA HO_21)) k_ hk, Kd.fresh' (yK (kA HO_29)) k_ hk⟩)); (case aO => exact (kA HO_8)); (case aS => exact (below_size (kB HB))); (case aL => have := LMc20.out; omega); intro v341 w21 ho hb hg hat; rw [← Ny340.out] at ho; have n0_ := yD (Kd.R_after (ok := (fun k_ => some k_ ≠ (.slice (some ad339) t336.length co16 : Value).ownBlock)) (by exact zF HO_21.out (fun _ hk => ⟨hk.2, hk.1⟩)) hg hat); have n1_ := yD (Kd.R_after (ok := (fun k_ => some k_ ≠ (.slice (some ad335) x5_1.length co9 : Value).ownBlock)) (by exact zF HO_29.out (fun _ hk => ⟨hk.2, hk.1⟩)) hg hat); have n2_ := yD (blk_grown (g := gb330) (o := .cells #[.int .i64 a0_0, .slice A0_1 l0_1.length c0_1, .slice A0_2 l0_2.length c0_2, .slice A0_3 l0_3.length c0_3, .slice A0_4 l0_4.length c0_4, .slice A0_5 l0_5.length c0_5] 55 (0, 0)) (kM BK330) hg (Kd.R_ne HO_8.out BK330.out (by decide))); have n3_ := yD (hb); have n4_ := yD (ho); clear HO_21; clear HO_29; clear BK330; clear HB; clear HO_8; have HO_21 := n0_; have HO_29 := n1_; have BK330 := n2_; have HB := n3_; have HO342 := n4_; clear n0_ n1_ n2_ n3_ n4_; clear ho hb hg hat))
                 go_roundg k3
                 case measure => have := HK1.out; have := HK2.out; have := HK3.out; omega
                 case rel => exact ⟨(y340), (wrap64 (x31_3 + 1)), (by first | rfl | (simp; done) | (simp [*]; done)), H', ⟨by have := HK1.out; have := HK2.out; have := HK3.out; omega⟩, ⟨by (with_reducible repeat (first | apply yA | apply yB | apply yC)); exact HO342.out⟩, ⟨by (with_reducible repeat (first | apply yA | apply yB | apply yC)); exact zF HO_21.out (fun _ hk => ⟨hk.2, hk.1⟩)⟩, ⟨by (with_reducible repeat (first | apply yA | apply yB | apply yC)); exact zF HO_29.out (fun _ hk => ⟨hk.2, hk.1⟩)⟩, ⟨by (with_reducible repeat (first | refine yM ?_ _ | refine yO ?_ | refine yN ?_ _)); exact BK330.out⟩, ⟨kR0 HB⟩⟩
                ·
                 rw [if_neg c20] at H
                 exact absurd H (by simp)
               ·
                rw [if_neg c19] at H
                exact absurd H (by simp)
              ·
               rw [if_neg c18] at H
               exact absurd H (by simp)
             ·
              rw [if_neg c17] at H; have c17b0 : decide (x31_3 < (t336.length : Int)) = false := zS c17; clear c17
              have H' := yD H
              clear H
              go_wp2
              go_roundg k3
              case measure => have := HK1.out; have := HK2.out; have := HK3.out; omega
              case rel => exact ⟨(x8_3), (wrap64 (x23_2 + 1)), (by first | rfl | (simp; done) | (simp [*]; done)), H', ⟨by have := HK1.out; have := HK2.out; have := HK3.out; omega⟩, ⟨by (with_reducible repeat (first | apply yA | apply yB | apply yC)); exact zF HO_8.out (fun _ hk => hk.1)⟩, ⟨by (with_reducible repeat (first | apply yA | apply yB | apply yC)); exact zF HO_21.out (fun _ hk => hk.1)⟩, ⟨by (with_reducible repeat (first | refine yM ?_ _ | refine yO ?_ | refine yN ?_ _)); exact BK330.out⟩, ⟨kR0 HB⟩⟩
          ·
           rw [if_neg c12] at H
           exact absurd H (by simp)
         ·
          rw [if_neg c11] at H
          exact absurd H (by simp)
        ·
         rw [if_neg c10] at H; have c10b0 : decide (x23_2 < (x5_1.length : Int)) = false := zS c10; clear c10
         have H' := yD H
         clear H
         go_wp2
         go_roundg k2
         case measure => have := HK1.out; have := HK2.out; omega
         case rel => exact ⟨(x8_2), (wrap64 (x16_1 + 1)), (by first | rfl | (simp; done) | (simp [*]; done)), H', ⟨by have := HK1.out; have := HK2.out; omega⟩, ⟨by (with_reducible repeat (first | apply yA | apply yB | apply yC)); exact zF HO_8.out (fun _ hk => trivial)⟩, ⟨by (with_reducible repeat (first | refine yM ?_ _ | refine yO ?_ | refine yN ?_ _)); exact BK330.out⟩, ⟨kR0 HB⟩⟩
     ·
      rw [if_neg c8] at H
      exact absurd H (by simp)
    ·
     rw [if_neg c7] at H
     exact absurd H (by simp)
   ·
    rw [if_neg c6] at H; have c6b0 : decide (x16_1 < (l1.length : Int)) = false := zS c6; clear c6; obtain rfl := Option.some.inj H
    go_wp2
    go_ret
    exact ⟨_, by first | rfl | (simp <;> rfl) | (simp [*] <;> rfl), by (with_reducible repeat (first | apply yA | apply yB | apply yC)); exact HO_5.out, kR0 HB⟩

/-! ### impl_indexOf: function 119 -/
def impl_indexOf.l0 : Nat → List Int → Int → List Int → Int → Int → Option (Int)
 | 0, _, _, _, _, _ => none
 | k + 1, x0, x5, x8, x9, x10 => if x10 < x9 then (if 0 ≤ x10 then (if x10 < (x8.length : Int) then (if x10 < (x0.length : Int) then (impl_indexOf.l0 k x0 (wrap64 ((wrap64 (x5 * (rd x0 x10))) + (rd x8 x10))) x8 x9 (wrap64 (x10 + 1))) else (none)) else (none)) else (none)) else (some x5)
def impl_indexOf.f (k : Nat) (l0 : List Int) (l1 : List Int) : Option (Int) := impl_indexOf.l0 k l0 0 l1 (l1.length : Int) 0
theorem impl_indexOf.mono_l : ∀ k, (∀ y0 y1 y2 y3 y4, LeO (impl_indexOf.l0 k y0 y1 y2 y3 y4) (impl_indexOf.l0 (k + 1) y0 y1 y2 y3 y4))
 | 0 => fun _ _ _ _ _ r h => by simp [impl_indexOf.l0] at h
 | k + 1 => by
  have ih0 := impl_indexOf.mono_l k
  ·
   intro y0 y1 y2 y3 y4
   unfold impl_indexOf.l0
   repeat' (with_reducible first | exact ih0 _ _ _ _ _ | exact LeO.refl _ | exact LeO.none _ | refine LeO.ite ?_ ?_ | refine LeO.bind ?_ (fun _ => ?_))
theorem impl_indexOf.mono : ∀ a0 a1 k, LeO (impl_indexOf.f k a0 a1) (impl_indexOf.f (k + 1) a0 a1) := by
 intro a0 a1 k
 have ih0 := impl_indexOf.mono_l k
 unfold impl_indexOf.f
 repeat' (with_reducible first | exact ih0 _ _ _ _ _ | exact LeO.refl _ | exact LeO.none _ | refine LeO.ite ?_ ?_ | refine LeO.bind ?_ (fun _ => ?_))
set_option maxHeartbeats 8000000 in
set_option maxRecDepth 100000 in
theorem impl_indexOf.calls (k : Nat) (A0 : Option Addr) (c0 : Nat) (l0 : List Int) (A1 : Option Addr) (c1 : Nat) (l1 : List Int) (r : Int) (w : World) (hr0 : Kd.C (Kd.int .i64) w A0 l0.length l0) (hc0 : l0.length ≤ c0) (hr1 : Kd.C (Kd.int .i64) w A1 l1.length l1) (hc1 : l1.length ≤ c1) (h : impl_indexOf.f k l0 l1 = some r) :
 Calls Try.prog 119 #[.slice A0 l0.length c0, .slice A1 l1.length c1] w fun e w' => e = .returned (.int .i64 r) ∧ Drawn0 w w' := by
 have HR0 := yD hr0
 have HC0 := yD hc0
 clear hr0 hc0
 have HR1 := yD hr1
 have HC1 := yD hc1
 clear hr1 hc1
 have H : (impl_indexOf.l0 k l0 0 l1 (l1.length : Int) 0) = some r := h
 clear h
 have H' := yD H
 clear H; go_enter Try.func119, Try.ntmps119
 go_wp2
 go_loopg [5, 10] k (fun kq v5 v10 w' => ∃ (x5_1 : Int) (x10_1 : Int), v5 = .int .i64 x5_1 ∧ v10 = .int .i64 x10_1 ∧ Aside0 (impl_indexOf.l0 kq l0 x5_1 l1 (l1.length : Int) x10_1 = some r) ∧ Aside0 (kq ≤ k) ∧ Drawn0 w w')
 case atStart => exact ⟨(0), (0), (by first | rfl | (simp; done) | (simp [*]; done)), (by first | rfl | (simp; done) | (simp [*]; done)), H', ⟨Nat.le_refl _⟩, by repeat (first | exact Drawn0.refl _ | apply Drawn0.step)⟩
 case round =>
  clear H'
  try clear c1; try clear p2
  obtain ⟨x5_1, x10_1, rfl, rfl, HA, HK1, ⟨m1, rfl⟩⟩ := hrel
  cases gk with
  | zero => exact absurd HA.out (by simp [impl_indexOf.l0])
  | succ k1 =>
   have H := HA.out; clear HA
   simp only [impl_indexOf.l0] at H
   by_cases c3 : x10_1 < (l1.length : Int)
   ·
    rw [if_pos c3] at H; have c3b0 : decide (x10_1 < (l1.length : Int)) = true := zR c3; clear c3
    by_cases c4 : 0 ≤ x10_1
    ·
     rw [if_pos c4] at H; have c4b0 : decide (0 ≤ x10_1) = true := zR c4; clear c4
     by_cases c5 : x10_1 < (l1.length : Int)
     ·
      rw [if_pos c5] at H; have c5b0 : decide (x10_1 < (l1.length : Int)) = true := zR c5; clear c5
      by_cases c6 : x10_1 < (l0.length : Int)
      ·
       rw [if_pos c6] at H; have c6b0 : decide (x10_1 < (l0.length : Int)) = true := zR c6; clear c6
       have H' := yD H
       clear H
       have p343 : 0 ≤ (x10_1 : Int) := zP (by assumption)
       have q343 : x10_1 < (l1.length : Int) := zP (by assumption)
       obtain ⟨ad343, e343, hx343_0⟩ := Kd.at_int HR1.out x10_1 p343 q343
       cases e343; replace p343 := eq_true p343; replace q343 := eq_true q343
       have p344 : 0 ≤ (x10_1 : Int) := zP (by assumption)
       have q344 : x10_1 < (l0.length : Int) := zP (by assumption)
       obtain ⟨ad344, e344, hx344_0⟩ := Kd.at_int HR0.out x10_1 p344 q344
       cases e344; replace p344 := eq_true p344; replace q344 := eq_true q344
       go_wp2
       go_roundg k1
       case measure => have := HK1.out; omega
       case rel => exact ⟨(wrap64 ((wrap64 (x5_1 * (rd l0 x10_1))) + (rd l1 x10_1))), (wrap64 (x10_1 + 1)), (by first | rfl | (simp; done) | (simp [*]; done)), (by first | rfl | (simp; done) | (simp [*]; done)), H', ⟨by have := HK1.out; omega⟩, by repeat (first | exact Drawn0.refl _ | apply Drawn0.step)⟩
      ·
       rw [if_neg c6] at H
       exact absurd H (by simp)
     ·
      rw [if_neg c5] at H
      exact absurd H (by simp)
    ·
     rw [if_neg c4] at H
     exact absurd H (by simp)
   ·
    rw [if_neg c3] at H; have c3b0 : decide (x10_1 < (l1.length : Int)) = false := zS c3; clear c3; obtain rfl := Option.some.inj H
    go_wp2
    go_ret
    exact ⟨by first | rfl | (simp; done) | (simp [*]; done), by repeat (first | exact Drawn0.refl _ | apply Drawn0.step)⟩

/-! ### impl_Selection_indices: function 81 -/
mutual
def impl_Selection_indices.l0 : Nat → List Int → Int → Int → Option (List Int)
 | 0, _, _, _ => none
 | k + 1, x5, x14, x15 => if x15 < x14 then (if x5.length < 17592186044416 then (impl_Selection_indices.l0 k (x5 ++ [x15]) x14 (wrap64 (x15 + 1))) else (none)) else (some x5)
def impl_Selection_indices.l1 : Nat → List Int → List Int → List (S110) → Int → Int → Option (List Int)
 | 0, _, _, _, _, _ => none
 | k + 1, x1, x5, x31, x32, x33 => if x33 < x32 then (if 0 ≤ x33 then (if x33 < (x31.length : Int) then ((impl_indexOf.f k x1 ((rd_T110 x31 x33).f0)).bind fun t355 => (if x5.length < 17592186044416 then (impl_Selection_indices.l1 k x1 (x5 ++ [t355]) x31 x32 (wrap64 (x33 + 1))) else (none))) else (none)) else (none)) else (some x5)
end
def impl_Selection_indices.f (k : Nat) (a0_0 : Int) (l0_1 : List Int) (l0_2 : List Int) (l0_3 : List Int) (l0_4 : List Int) (l0_5 : List (S110)) (l1 : List Int) : Option (List Int) := if a0_0 = 1 then ((impl_product.f k l1).bind fun t346 => (impl_Selection_indices.l0 k ([] : List Int) t346 0)) else (if a0_0 = 3 then ((impl_Selection_slabIndices.f k a0_0 l0_1 l0_2 l0_3 l0_4 l0_5 l1).bind fun t350 => (some t350)) else (if a0_0 = 4 then (impl_Selection_indices.l1 k l1 ([] : List Int) l0_5 (l0_5.length : Int) 0) else (some ([] : List Int))))
theorem impl_Selection_indices.mono_l : ∀ k, (∀ y0 y1 y2, LeO (impl_Selection_indices.l0 k y0 y1 y2) (impl_Selection_indices.l0 (k + 1) y0 y1 y2)) ∧ (∀ y0 y1 y2 y3 y4, LeO (impl_Selection_indices.l1 k y0 y1 y2 y3 y4) (impl_Selection_indices.l1 (k + 1) y0 y1 y2 y3 y4))
 | 0 => ⟨fun _ _ _ r h => by simp [impl_Selection_indices.l0] at h, fun _ _ _ _ _ r h => by simp [impl_Selection_indices.l1] at h⟩
 | k + 1 => by
  obtain ⟨ih0, ih1⟩ := impl_Selection_indices.mono_l k
  refine ⟨?_, ?_⟩
  ·
   intro y0 y1 y2
   unfold impl_Selection_indices.l0
   repeat' (with_reducible first | exact ih0 _ _ _ | exact ih1 _ _ _ _ _ | exact impl_Selection_slabIndices.mono _ _ _ _ _ _ _ _ | exact impl_indexOf.mono _ _ _ | exact impl_product.mono _ _ | exact LeO.refl _ | exact LeO.none _ | refine LeO.ite ?_ ?_ | refine LeO.bind ?_ (fun _ => ?_))
  ·
   intro y0 y1 y2 y3 y4
   unfold impl_Selection_indices.l1
   repeat' (with_reducible first | exact ih0 _ _ _ | exact ih1 _ _ _ _ _ | exact impl_Selection_slabIndices.mono _ _ _ _ _ _ _ _ | exact impl_indexOf.mono _ _ _ | exact impl_product.mono _ _ | exact LeO.refl _ | exact LeO.none _ | refine LeO.ite ?_ ?_ | refine LeO.bind ?_ (fun _ => ?_))
theorem impl_Selection_indices.mono : ∀ a0 a1 a2 a3 a4 a5 a6 k, LeO (impl_Selection_indices.f k a0 a1 a2 a3 a4 a5 a6) (impl_Selection_indices.f (k + 1) a0 a1 a2 a3 a4 a5 a6) := by
 intro a0 a1 a2 a3 a4 a5 a6 k
 obtain ⟨ih0, ih1⟩ := impl_Selection_indices.mono_l k
 unfold impl_Selection_indices.f
 repeat' (with_reducible first | exact ih0 _ _ _ | exact ih1 _ _ _ _ _ | exact impl_Selection_slabIndices.mono _ _ _ _ _ _ _ _ | exact impl_indexOf.mono _ _ _ | exact impl_product.mono _ _ | exact LeO.refl _ | exact LeO.none _ | refine LeO.ite ?_ ?_ | refine LeO.bind ?_ (fun _ => ?_))
set_option maxHeartbeats 8000000 in
set_option maxRecDepth 100000 in
theorem impl_Selection_indices.calls (k : Nat) (a0_0 : Int) (A0_1 : Option Addr) (c0_1 : Nat) (l0_1 : List Int) (A0_2 : Option Addr) (c0_2 : Nat) (l0_2 : List Int) (A0_3 : Option Addr) (c0_3 : Nat) (l0_3 : List Int) (A0_4 : Option Addr) (c0_4 : Nat) (l0_4 : List Int) (A0_5 : Option Addr) (c0_5 : Nat) (l0_5 : List (S110)) (A1 : Option Addr) (c1 : Nat) (l1 : List Int) (r : List Int) (w : World) (hr0_1 : Kd.C (Kd.int .i64) w A0_1 l0_1.length l0_1) (hc0_1 : l0_1.length ≤ c0_1) (hr0_2 : Kd.C (Kd.int .i64) w A0_2 l0_2.length l0_2) (hc0_2 : l0_2.length ≤ c0_2) (hr0_3 : Kd.C (Kd.int .i64) w A0_3 l0_3.length l0_3) (hc0_3 : l0_3.length ≤ c0_3) (hr0_4 : Kd.C (Kd.int .i64) w A0_4 l0_4.length l0_4) (hc0_4 : l0_4.length ≤ c0_4) (hr0_5 : Kd.C k110 w A0_5 l0_5.length l0_5) (hc0_5 : l0_5.length ≤ c0_5) (hr1 : Kd.C (Kd.int .i64) w A1 l1.length l1) (hc1 : l1.length ≤ c1) (h : impl_Selection_indices.f k a0_0 l0_1 l0_2 l0_3 l0_4 l0_5 l1 = some r) :
 Calls Try.prog 81 #[.agg #[.int .i64 a0_0, .slice A0_1 l0_1.length c0_1, .slice A0_2 l0_2.length c0_2, .slice A0_3 l0_3.length c0_3, .slice A0_4 l0_4.length c0_4, .slice A0_5 l0_5.length c0_5], .slice A1 l1.length c1] w fun e w' => ∃ v0_ : Value, e = .returned (v0_) ∧ Kd.R (Kd.int .i64) 2 w' w.heap.size (fun _ => True) v0_ r ∧ Below w.heap.size w w' := by
 have hu55 := Try.underlying55; have hu110 := Try.underlying110
 have HR0_1 := yD hr0_1
 have HC0_1 := yD hc0_1
 clear hr0_1 hc0_1
 have HR0_2 := yD hr0_2
 have HC0_2 := yD hc0_2
 clear hr0_2 hc0_2
 have HR0_3 := yD hr0_3
 have HC0_3 := yD hc0_3
 clear hr0_3 hc0_3
 have HR0_4 := yD hr0_4
 have HC0_4 := yD hc0_4
 clear hr0_4 hc0_4
 have HR0_5 := yD hr0_5
 have HC0_5 := yD hc0_5
 clear hr0_5 hc0_5
 have HR1 := yD hr1
 have HC1 := yD hc1
 clear hr1 hc1
 have HB := yD (Below.refl w.heap.size w)
 have H : (if a0_0 = 1 then ((impl_product.f k l1).bind fun t346 => (impl_Selection_indices.l0 k ([] : List Int) t346 0)) else (if a0_0 = 3 then ((impl_Selection_slabIndices.f k a0_0 l0_1 l0_2 l0_3 l0_4 l0_5 l1).bind fun t350 => (some t350)) else (if a0_0 = 4 then (impl_Selection_indices.l1 k l1 ([] : List Int) l0_5 (l0_5.length : Int) 0) else (some ([] : List Int))))) = some r := h
 clear h
 by_cases c3 : a0_0 = 1
 ·
  rw [if_pos c3] at H
  have c3b0 : (a0_0 == 1) = true := beq_iff_eq.mpr c3
  have c3b1 : (a0_0 != 1) = false := bne_eq_false_iff_eq.mpr c3
  clear c3
  obtain ⟨t346, A40, H⟩ := zW_ H
  replace H : (impl_Selection_indices.l0 k ([] : List Int) t346 0) = some r := H
  have A4 := yD A40
  clear A40
  have H' := yD H
  clear H; go_enter Try.func81, Try.ntmps81
  go_wp2_with (first | ((with_reducible refine gate_dst (N := 2) rfl ?_); refine box_event ?hg (N := 2) ?hd (cs := #[.int .i64 a0_0, .slice A0_1 l0_1.length c0_1, .slice A0_2 l0_2.length c0_2, .slice A0_3 l0_3.length c0_3, .slice A0_4 l0_4.length c0_4, .slice A0_5 l0_5.length c0_5]) (t := 55) ?hr ?_; (case hd => rfl); (case hg => rfl); (case hr => first | (go_simp; done) | (go_simp; rfl)); intro gb345 hg w5 hbox hb; have n0_ := yD (zC (kB HB) hb); have n1_ := yD (hbox); have n2_ := yD ((by rw [hg]; exact (below_size (kB HB)) : w.heap.size ≤ gb345)); have n3_ := yD ((by rw [hg]; exact (below_size (kB HB)) : w.heap.size ≤ gb345)); clear HB; have HB := n0_; have BK345 := n1_; have GW345 := n2_; have GE345 := n3_; clear n0_ n1_ n2_ n3_; clear hb hbox hg; obtain ⟨hcz6_0, hcz6_1, hcz6_2, hcz6_3, hcz6_4, hcz6_5⟩ := cz6 BK345.out; obtain ⟨hfz6_0, hfz6_1, hfz6_2, hfz6_3, hfz6_4, hfz6_5⟩ := fz6 BK345.out) | ((with_reducible refine gate_callee (f := 117) rfl ?_); refine gL 14 Try.func117 #[.slice A1 l1.length c1] ?_; (with_reducible refine (impl_product.calls k _ _ l1 t346 _ ?side1 ?side2 A4.out).mono ?_); (case side1 => exact kV (yY HR1.out HB.out)); (case side2 => exact HC1.out); rintro e w' ⟨rfl, ⟨nd, rfl⟩⟩; refine ⟨_, rfl, ?_⟩))
  (try simp only [Act.put, zH, zI, zJ])
  go_loopg [5, 15] k (fun kq v5 v15 w' => ∃ (x5_1 : List Int) (x15_1 : Int), v15 = .int .i64 x15_1 ∧ Aside0 (impl_Selection_indices.l0 kq x5_1 t346 x15_1 = some r) ∧ Aside0 (kq ≤ k) ∧ Aside0 (Kd.R (Kd.int .i64) 2 w' w.heap.size (fun _ => True) v5 x5_1) ∧ Aside0 (w'.heap[gb345]? = some (.cells #[.int .i64 a0_0, (.slice A0_1 l0_1.length c0_1), (.slice A0_2 l0_2.length c0_2), (.slice A0_3 l0_3.length c0_3), (.slice A0_4 l0_4.length c0_4), (.slice A0_5 l0_5.length c0_5)] 55 (0, 0))) ∧ Aside0 (Below w.heap.size w w'))
  case atStart => exact ⟨(([] : List Int)), (0), (by first | rfl | (simp; done) | (simp [*]; done)), H', ⟨Nat.le_refl _⟩, ⟨by first | exact Kd.R_nil _ _ _ _ _ | exact Kd.N_nil _ _ _ _ _ | exact Kd.V_nil _ _ _ _ _ | exact Kd.Q_nil _ _ _ _ _ | exact Kd.S_nil _ _ _ _ _⟩, ⟨by (with_reducible repeat (first | refine yM ?_ _ | refine yO ?_ | refine yN ?_ _)); exact BK345.out⟩, ⟨kR0 HB⟩⟩
  case round =>
   clear H'
   try clear c1; try clear p2; try clear c3; try clear c3b0; try clear c3b1; try clear hcz6_0; try clear hcz6_1; try clear hcz6_2; try clear hcz6_3; try clear hcz6_4; try clear hcz6_5; try clear hfz6_0; try clear hfz6_1; try clear hfz6_2; try clear hfz6_3; try clear hfz6_4; try clear hfz6_5
   obtain ⟨x5_1, x15_1, rfl, HA, HK1, HO_5, BK345, HB⟩ := hrel
   cases gk with
   | zero => exact absurd HA.out (by simp [impl_Selection_indices.l0])
   | succ k1 =>
    have H := HA.out; clear HA
    simp only [impl_Selection_indices.l0] at H
    by_cases c7 : x15_1 < t346
    ·
     rw [if_pos c7] at H; have c7b0 : decide (x15_1 < t346) = true := zR c7; clear c7
     by_cases c8 : x5_1.length < 17592186044416
     ·
      rw [if_pos c8] at H
      have LMc8 := yD c8
      clear c8
      obtain ⟨y347, hy347⟩ : ∃ y_ : List Int, y_ = (x5_1 ++ [x15_1]) := ⟨_, rfl⟩
      replace H : (impl_Selection_indices.l0 k1 y347 t346 (wrap64 (x15_1 + 1))) = some r := by first | (rw [hy347]; with_reducible exact H) | (have H2_ := (Option.bind_some _ _).symm.trans H; rw [hy347]; with_reducible exact H2_) | (have H2_ := (Option.bind_some _ _).symm.trans H; with_reducible exact H2_) | with_reducible exact H | (rw [hy347]; exact H) | exact H
      have Ny347 := yD hy347
      clear hy347
      have H' := yD H
      clear H
      go_wp2_with (first | ((with_reducible refine gate_builtin (b := .append) (xs := #[.tmp 18, .tmp 20]) rfl ?_); at_builtin; refine Kd.R_append (Kd.int .i64) (w0 := w) w.heap.size rfl (.tmp 18) (.tmp 20) 36 2 (.int .i64 0) 8 rfl Try.underlying36 info2 rfl (by decide) (by omega) u5 x5_1 x15_1 [.int .i64 x15_1] (fun _ => True) (fun _ => False) rfl rfl ?aP (fun _ hk => hk.elim) ?aF ?aO ?aB ?aS ?aL ?_; (case aP => exact rfl); (case aB => exact (kB HB)); (case aF => exact (fun _ _ => trivial)); (case aO => exact (kA HO_5)); (case aS => exact (below_size (kB HB))); (case aL => have := LMc8.out; omega); intro v348 w9 ho hb hg hat; rw [← Ny347.out] at ho; have n0_ := yD (blk_grown (g := gb345) (o := .cells #[.int .i64 a0_0, .slice A0_1 l0_1.length c0_1, .slice A0_2 l0_2.length c0_2, .slice A0_3 l0_3.length c0_3, .slice A0_4 l0_4.length c0_4, .slice A0_5 l0_5.length c0_5] 55 (0, 0)) (kM BK345) hg (Kd.R_ne HO_5.out BK345.out (by decide))); have n1_ := yD (hb); have n2_ := yD (ho); clear BK345; clear HB; clear HO_5; have BK345 := n0_; have HB := n1_; have HO349 := n2_; clear n0_ n1_ n2_; clear ho hb hg hat))
      go_roundg k1
      case measure => have := HK1.out; omega
      case rel => exact ⟨(y347), (wrap64 (x15_1 + 1)), (by first | rfl | (simp; done) | (simp [*]; done)), H', ⟨by have := HK1.out; omega⟩, ⟨by (with_reducible repeat (first | apply yA | apply yB | apply yC)); exact HO349.out⟩, ⟨by (with_reducible repeat (first | refine yM ?_ _ | refine yO ?_ | refine yN ?_ _)); exact BK345.out⟩, ⟨kR0 HB⟩⟩
     ·
      rw [if_neg c8] at H
      exact absurd H (by simp)
    ·
     rw [if_neg c7] at H; have c7b0 : decide (x15_1 < t346) = false := zS c7; clear c7; obtain rfl := Option.some.inj H
     go_wp2
     go_ret
     exact ⟨_, by first | rfl | (simp <;> rfl) | (simp [*] <;> rfl), by (with_reducible repeat (first | apply yA | apply yB | apply yC)); exact HO_5.out, kR0 HB⟩
 ·
  rw [if_neg c3] at H
  have c3b0 : (a0_0 == 1) = false := beq_eq_false_iff_ne.mpr c3
  have c3b1 : (a0_0 != 1) = true := bne_iff_ne.mpr c3
  by_cases c10 : a0_0 = 3
  ·
   rw [if_pos c10] at H
   have c10b0 : (a0_0 == 3) = true := beq_iff_eq.mpr c10
   have c10b1 : (a0_0 != 3) = false := bne_eq_false_iff_eq.mpr c10
   clear c10
   obtain ⟨t350, A110, H⟩ := zW_ H
   replace H : (some t350) = some r := H
   have A11 := yD A110
   clear A110; obtain rfl := Option.some.inj H; go_enter Try.func81, Try.ntmps81
   go_wp2_with (first | ((with_reducible refine gate_dst (N := 2) rfl ?_); refine box_event ?hg (N := 2) ?hd (cs := #[.int .i64 a0_0, .slice A0_1 l0_1.length c0_1, .slice A0_2 l0_2.length c0_2, .slice A0_3 l0_3.length c0_3, .slice A0_4 l0_4.length c0_4, .slice A0_5 l0_5.length c0_5]) (t := 55) ?hr ?_; (case hd => rfl); (case hg => rfl); (case hr => first | (go_simp; done) | (go_simp; rfl)); intro gb345 hg w12 hbox hb; have n0_ := yD (zC (kB HB) hb); have n1_ := yD (hbox); have n2_ := yD ((by rw [hg]; exact (below_size (kB HB)) : w.heap.size ≤ gb345)); have n3_ := yD ((by rw [hg]; exact (below_size (kB HB)) : w.heap.size ≤ gb345)); clear HB; have HB := n0_; have BK345 := n1_; have GW345 := n2_; have GE345 := n3_; clear n0_ n1_ n2_ n3_; clear hb hbox hg; obtain ⟨hcz13_0, hcz13_1, hcz13_2, hcz13_3, hcz13_4, hcz13_5⟩ := cz6 BK345.out; obtain ⟨hfz13_0, hfz13_1, hfz13_2, hfz13_3, hfz13_4, hfz13_5⟩ := fz6 BK345.out) | ((with_reducible refine gate_callee (f := 118) rfl ?_); refine gL 27 Try.func118 #[.agg #[.int .i64 a0_0, .slice A0_1 l0_1.length c0_1, .slice A0_2 l0_2.length c0_2, .slice A0_3 l0_3.length c0_3, .slice A0_4 l0_4.length c0_4, .slice A0_5 l0_5.length c0_5], .slice A1 l1.length c1] ?_; (with_reducible refine (impl_Selection_slabIndices.calls k a0_0 _ _ l0_1 _ _ l0_2 _ _ l0_3 _ _ l0_4 _ _ l0_5 _ _ l1 t350 _ ?side1 ?side2 ?side3 ?side4 ?side5 ?side6 ?side7 ?side8 ?side9 ?side10 ?side11 ?side12 A11.out).mono ?_); (case side1 => exact kV (yY HR0_1.out HB.out)); (case side2 => exact HC0_1.out); (case side3 => exact kV (yY HR0_2.out HB.out)); (case side4 => exact HC0_2.out); (case side5 => exact kV (yY HR0_3.out HB.out)); (case side6 => exact HC0_3.out); (case side7 => exact kV (yY HR0_4.out HB.out)); (case side8 => exact HC0_4.out); (case side9 => exact kV (yY HR0_5.out HB.out)); (case side10 => exact HC0_5.out); (case side11 => exact kV (yY HR1.out HB.out)); (case side12 => exact HC1.out); rintro e w14 ⟨v351, rfl, ho0, hb⟩; refine ⟨_, rfl, ?_⟩; have n0_ := yD (yZ ho0 (below_size (kB HB))); have n1_ := yD (zB (kN BK345) hb); have n2_ := yD (zC (kB HB) hb); clear BK345; clear HB; have HO352 := n0_; have BK345 := n1_; have HB := n2_; clear n0_ n1_ n2_; (try clear hb); (try clear hb2); (try clear hk); (try clear hi); (try clear ho0)))
   go_ret
   exact ⟨_, by first | rfl | (simp <;> rfl) | (simp [*] <;> rfl), by (with_reducible repeat (first | apply yA | apply yB | apply yC)); exact HO352.out, kR0 HB⟩
  ·
   rw [if_neg c10] at H
   have c10b0 : (a0_0 == 3) = false := beq_eq_false_iff_ne.mpr c10
   have c10b1 : (a0_0 != 3) = true := bne_iff_ne.mpr c10
   by_cases c15 : a0_0 = 4
   ·
    rw [if_pos c15] at H
    have c15b0 : (a0_0 == 4) = true := beq_iff_eq.mpr c15
    have c15b1 : (a0_0 != 4) = false := bne_eq_false_iff_eq.mpr c15
    clear c15
    have H' := yD H
    clear H; go_enter Try.func81, Try.ntmps81
    go_wp2_with (first | ((with_reducible refine gate_dst (N := 2) rfl ?_); refine box_event ?hg (N := 2) ?hd (cs := #[.int .i64 a0_0, .slice A0_1 l0_1.length c0_1, .slice A0_2 l0_2.length c0_2, .slice A0_3 l0_3.length c0_3, .slice A0_4 l0_4.length c0_4, .slice A0_5 l0_5.length c0_5]) (t := 55) ?hr ?_; (case hd => rfl); (case hg => rfl); (case hr => first | (go_simp; done) | (go_simp; rfl)); intro gb345 hg w16 hbox hb; have n0_ := yD (zC (kB HB) hb); have n1_ := yD (hbox); have n2_ := yD ((by rw [hg]; exact (below_size (kB HB)) : w.heap.size ≤ gb345)); have n3_ := yD ((by rw [hg]; exact (below_size (kB HB)) : w.heap.size ≤ gb345)); clear HB; have HB := n0_; have BK345 := n1_; have GW345 := n2_; have GE345 := n3_; clear n0_ n1_ n2_ n3_; clear hb hbox hg; obtain ⟨hcz17_0, hcz17_1, hcz17_2, hcz17_3, hcz17_4, hcz17_5⟩ := cz6 BK345.out; obtain ⟨hfz17_0, hfz17_1, hfz17_2, hfz17_3, hfz17_4, hfz17_5⟩ := fz6 BK345.out))
    (try simp only [Act.put, zH, zI, zJ])
    go_loopg [5, 33] k (fun kq v5 v33 w' => ∃ (x5_1 : List Int) (x33_1 : Int), v33 = .int .i64 x33_1 ∧ Aside0 (impl_Selection_indices.l1 kq l1 x5_1 l0_5 (l0_5.length : Int) x33_1 = some r) ∧ Aside0 (kq ≤ k) ∧ Aside0 (Kd.R (Kd.int .i64) 2 w' w.heap.size (fun _ => True) v5 x5_1) ∧ Aside0 (w'.heap[gb345]? = some (.cells #[.int .i64 a0_0, (.slice A0_1 l0_1.length c0_1), (.slice A0_2 l0_2.length c0_2), (.slice A0_3 l0_3.length c0_3), (.slice A0_4 l0_4.length c0_4), (.slice A0_5 l0_5.length c0_5)] 55 (0, 0))) ∧ Aside0 (Below w.heap.size w w'))
    case atStart => exact ⟨(([] : List Int)), (0), (by first | rfl | (simp; done) | (simp [*]; done)), H', ⟨Nat.le_refl _⟩, ⟨by first | exact Kd.R_nil _ _ _ _ _ | exact Kd.N_nil _ _ _ _ _ | exact Kd.V_nil _ _ _ _ _ | exact Kd.Q_nil _ _ _ _ _ | exact Kd.S_nil _ _ _ _ _⟩, ⟨by (with_reducible repeat (first | refine yM ?_ _ | refine yO ?_ | refine yN ?_ _)); exact BK345.out⟩, ⟨kR0 HB⟩⟩
    case round =>
     clear H'
     try clear c1; try clear p2; try clear c3; try clear c3b0; try clear c3b1; try clear p6; try clear c7; try clear c7b0; try clear c8; try clear c10; try clear c10b0; try clear c10b1; try clear c11; try clear c15; try clear c15b0; try clear c15b1; try clear hcz13_0; try clear hcz13_1; try clear hcz13_2; try clear hcz13_3; try clear hcz13_4; try clear hcz13_5; try clear hcz17_0; try clear hcz17_1; try clear hcz17_2; try clear hcz17_3; try clear hcz17_4; try clear hcz17_5; try clear hcz6_0; try clear hcz6_1; try clear hcz6_2; try clear hcz6_3; try clear hcz6_4; try clear hcz6_5; try clear hfz13_0; try clear hfz13_1; try clear hfz13_2; try clear hfz13_3; try clear hfz13_4; try clear hfz13_5; try clear hfz17_0; try clear hfz17_1; try clear hfz17_2; try clear hfz17_3; try clear hfz17_4; try clear hfz17_5; try clear hfz6_0; try clear hfz6_1; try clear hfz6_2; try clear hfz6_3; try clear hfz6_4; try clear hfz6_5; try clear p2
     obtain ⟨x5_1, x33_1, rfl, HA, HK1, HO_5, BK345, HB⟩ := hrel
     cases gk with
     | zero => exact absurd HA.out (by simp [impl_Selection_indices.l1])
     | succ k1 =>
      have H := HA.out; clear HA
      simp only [impl_Selection_indices.l1] at H
      by_cases c18 : x33_1 < (l0_5.length : Int)
      ·
       rw [if_pos c18] at H; have c18b0 : decide (x33_1 < (l0_5.length : Int)) = true := zR c18; clear c18
       by_cases c19 : 0 ≤ x33_1
       ·
        rw [if_pos c19] at H; have c19b0 : decide (0 ≤ x33_1) = true := zR c19; clear c19
        by_cases c20 : x33_1 < (l0_5.length : Int)
        ·
         rw [if_pos c20] at H; have c20b0 : decide (x33_1 < (l0_5.length : Int)) = true := zR c20; clear c20
         obtain ⟨t355, A210, H⟩ := zW_ H
         replace H : (if x5_1.length < 17592186044416 then (impl_Selection_indices.l1 k1 l1 (x5_1 ++ [t355]) l0_5 (l0_5.length : Int) (wrap64 (x33_1 + 1))) else (none)) = some r := H
         have A21 := yD A210
         clear A210
         by_cases c22 : x5_1.length < 17592186044416
         ·
          rw [if_pos c22] at H
          have LMc22 := yD c22
          clear c22
          obtain ⟨y356, hy356⟩ : ∃ y_ : List Int, y_ = (x5_1 ++ [t355]) := ⟨_, rfl⟩
          replace H : (impl_Selection_indices.l1 k1 l1 y356 l0_5 (l0_5.length : Int) (wrap64 (x33_1 + 1))) = some r := by first | (rw [hy356]; with_reducible exact H) | (have H2_ := (Option.bind_some _ _).symm.trans H; rw [hy356]; with_reducible exact H2_) | (have H2_ := (Option.bind_some _ _).symm.trans H; with_reducible exact H2_) | with_reducible exact H | (rw [hy356]; exact H) | exact H
          have Ny356 := yD hy356
          clear hy356
          have H' := yD H
          clear H
          have p353 : 0 ≤ (x33_1 : Int) := zP (by assumption)
          have q353 : x33_1 < (l0_5.length : Int) := zP (by assumption)
          obtain ⟨ad353, A353_0, c353_0, e353, hx353_0, hl353_0, hi353_0⟩ := at_T110 HR0_5.out x33_1 p353 q353
          cases e353
          replace hx353_0 := (HB.out.cell (zQ w _ hx353_0)).trans hx353_0
          have HR353_0 := yD hi353_0
          have HC353_0 := yD hl353_0
          clear hi353_0 hl353_0; replace p353 := eq_true p353; replace q353 := eq_true q353
          go_wp2_with (first | ((with_reducible refine gate_dst (N := 8) rfl ?_); refine box_event ?hg (N := 8) ?hd (cs := #[.slice none 0 0]) (t := 110) ?hr ?_; (case hd => rfl); (case hg => rfl); (case hr => first | (go_simp; done) | (go_simp; rfl)); intro gb354 hg w23 hbox hb; have n0_ := yD (zE (kA HO_5) hb); have n1_ := yD (zB (kN BK345) hb); have n2_ := yD (zC (kB HB) hb); have n3_ := yD (hbox); have n4_ := yD ((by rw [hg]; exact (below_size (kB HB)) : w.heap.size ≤ gb354)); have n5_ := yD ((by rw [hg]; exact (below_size (kB HB)) : w.heap.size ≤ gb354)); have n6_ := yD ((by rw [hg]; exact Nat.ne_of_lt (blk_lt (kN BK345)) : gb345 ≠ gb354)); have n7_ := yD ((by rw [hg]; exact Nat.ne_of_gt (blk_lt (kN BK345)) : gb354 ≠ gb345)); clear HO_5; clear BK345; clear HB; have HO_5 := n0_; have BK345 := n1_; have HB := n2_; have BK354 := n3_; have GW354 := n4_; have GE354 := n5_; have NB345_354 := n6_; have NB354_345 := n7_; clear n0_ n1_ n2_ n3_ n4_ n5_ n6_ n7_; clear hb hbox hg; have hnb24 := NB354_345.out; have hnc24 := NB345_354.out; have hcz25_0 : w23.cell? ⟨gb354, 0, none⟩ = some (.slice none 0 0) := (yG BK354.out 0).trans rfl; have hfz25_0 := yR BK354.out 0) | ((with_reducible refine gate_callee (f := 119) rfl ?_); refine gL 41 Try.func119 #[.slice A1 l1.length c1, .slice A353_0 ((rd_T110 l0_5 x33_1).f0).length c353_0] ?_; (with_reducible refine (impl_indexOf.calls k1 _ _ l1 _ _ ((rd_T110 l0_5 x33_1).f0) t355 _ ?side1 ?side2 ?side3 ?side4 A21.out).mono ?_); (case side1 => exact yY HR1.out (kB HB)); (case side2 => exact HC1.out); (case side3 => exact yY HR353_0.out (kB HB)); (case side4 => exact HC353_0.out); rintro e w' ⟨rfl, ⟨nd, rfl⟩⟩; refine ⟨_, rfl, ?_⟩) | ((with_reducible refine gate_builtin (b := .append) (xs := #[.tmp 37, .tmp 42]) rfl ?_); at_builtin; refine Kd.R_append (Kd.int .i64) (w0 := w) w.heap.size rfl (.tmp 37) (.tmp 42) 36 2 (.int .i64 0) 8 rfl Try.underlying36 info2 rfl (by decide) (by omega) u5 x5_1 t355 [.int .i64 t355] (fun _ => True) (fun _ => False) rfl (by first | (go_simp; done) | (go_simp; rfl)) ?aP (fun _ hk => hk.elim) ?aF ?aO ?aB ?aS ?aL ?_; (case aP => exact rfl); (case aB => exact (kB HB)); (case aF => exact (fun _ _ => trivial)); (case aO => exact (by apply yB; exact zF (yF (p := ⟨gb354, 0, none⟩) (Kd.R_types HO_5.out BK354.out (by decide)) (fun _ hk => hk.2) (.slice A353_0 ((rd_T110 l0_5 x33_1).f0).length c353_0)) (fun _ hk => trivial))); (case aS => exact (below_size (kB HB))); (case aL => have := LMc22.out; omega); intro v357 w26 ho hb hg hat; rw [← Ny356.out] at ho; have n0_ := yD (blk_grown (g := gb345) (o := .cells #[.int .i64 a0_0, .slice A0_1 l0_1.length c0_1, .slice A0_2 l0_2.length c0_2, .slice A0_3 l0_3.length c0_3, .slice A0_4 l0_4.length c0_4, .slice (some ad353) l0_5.length c0_5] 55 (0, 0)) (by (with_reducible repeat (first | refine yM ?_ _ | refine yO ?_ | refine yN ?_ _)); refine blk_far ?_ NB345_354.out _; (with_reducible repeat (first | refine yM ?_ _ | refine yO ?_ | refine yN ?_ _)); exact BK345.out) hg (Kd.R_ne HO_5.out BK345.out (by decide))); have n1_ := yD (blk_grown (g := gb354) (o := .cells #[.slice A353_0 ((rd_T110 l0_5 x33_1).f0).length c353_0] 110 (0, 0)) (by (with_reducible repeat (first | refine yM ?_ _ | refine yO ?_ | refine yN ?_ _)); refine blk_put (cs := #[.slice none 0 0]) ?_ 0 _ rfl; (with_reducible repeat (first | refine yM ?_ _ | refine yO ?_ | refine yN ?_ _)); exact BK354.out) hg (Kd.R_ne HO_5.out BK354.out (by decide))); have n2_ := yD (hb); have n3_ := yD (ho); clear BK345; clear BK354; clear HB; clear HO_5; have BK345 := n0_; have BK354 := n1_; have HB := n2_; have HO358 := n3_; clear n0_ n1_ n2_ n3_; clear ho hb hg hat))
          go_roundg k1
          case measure => have := HK1.out; omega
          case rel => exact ⟨(y356), (wrap64 (x33_1 + 1)), (by first | rfl | (simp; done) | (simp [*]; done)), H', ⟨by have := HK1.out; omega⟩, ⟨by (with_reducible repeat (first | apply yA | apply yB | apply yC)); exact HO358.out⟩, ⟨by (with_reducible repeat (first | refine yM ?_ _ | refine yO ?_ | refine yN ?_ _)); exact BK345.out⟩, ⟨kR0 HB⟩⟩
         ·
          rw [if_neg c22] at H
          exact absurd H (by simp)
        ·
         rw [if_neg c20] at H
         exact absurd H (by simp)
       ·
        rw [if_neg c19] at H
        exact absurd H (by simp)
      ·
       rw [if_neg c18] at H; have c18b0 : decide (x33_1 < (l0_5.length : Int)) = false := zS c18; clear c18; obtain rfl := Option.some.inj H
       go_wp2
       go_ret
       exact ⟨_, by first | rfl | (simp <;> rfl) | (simp [*] <;> rfl), by (with_reducible repeat (first | apply yA | apply yB | apply yC)); exact HO_5.out, kR0 HB⟩
   ·
    rw [if_neg c15] at H
    have c15b0 : (a0_0 == 4) = false := beq_eq_false_iff_ne.mpr c15
    have c15b1 : (a0_0 != 4) = true := bne_iff_ne.mpr c15
    obtain rfl := Option.some.inj H; go_enter Try.func81, Try.ntmps81
    go_wp2_with (first | ((with_reducible refine gate_dst (N := 2) rfl ?_); refine box_event ?hg (N := 2) ?hd (cs := #[.int .i64 a0_0, .slice A0_1 l0_1.length c0_1, .slice A0_2 l0_2.length c0_2, .slice A0_3 l0_3.length c0_3, .slice A0_4 l0_4.length c0_4, .slice A0_5 l0_5.length c0_5]) (t := 55) ?hr ?_; (case hd => rfl); (case hg => rfl); (case hr => first | (go_simp; done) | (go_simp; rfl)); intro gb345 hg w27 hbox hb; have n0_ := yD (zC (kB HB) hb); have n1_ := yD (hbox); have n2_ := yD ((by rw [hg]; exact (below_size (kB HB)) : w.heap.size ≤ gb345)); have n3_ := yD ((by rw [hg]; exact (below_size (kB HB)) : w.heap.size ≤ gb345)); clear HB; have HB := n0_; have BK345 := n1_; have GW345 := n2_; have GE345 := n3_; clear n0_ n1_ n2_ n3_; clear hb hbox hg; obtain ⟨hcz28_0, hcz28_1, hcz28_2, hcz28_3, hcz28_4, hcz28_5⟩ := cz6 BK345.out; obtain ⟨hfz28_0, hfz28_1, hfz28_2, hfz28_3, hfz28_4, hfz28_5⟩ := fz6 BK345.out))
    go_ret
    exact ⟨_, by first | rfl | (simp <;> rfl) | (simp [*] <;> rfl), by first | exact Kd.R_nil _ _ _ _ _ | exact Kd.N_nil _ _ _ _ _ | exact Kd.V_nil _ _ _ _ _ | exact Kd.Q_nil _ _ _ _ _ | exact Kd.S_nil _ _ _ _ _, kR0 HB⟩

/-! ### impl_SelectedIndices: function 41 -/
def impl_SelectedIndices.f (k : Nat) (l0 : List Int) (a1_0 : Int) (l1_1 : List Int) (l1_2 : List Int) (l1_3 : List Int) (l1_4 : List Int) (l1_5 : List (S110)) : Option (List Int) := (impl_ValidSelection.f k l0 a1_0 l1_1 l1_2 l1_3 l1_4 l1_5).bind fun t360 => (if t360 = true then ((impl_Selection_indices.f k a1_0 l1_1 l1_2 l1_3 l1_4 l1_5 l0).bind fun t361 => (some t361)) else (some ([] : List Int)))
theorem impl_SelectedIndices.mono : ∀ a0 a1 a2 a3 a4 a5 a6 k, LeO (impl_SelectedIndices.f k a0 a1 a2 a3 a4 a5 a6) (impl_SelectedIndices.f (k + 1) a0 a1 a2 a3 a4 a5 a6) := by
 intro a0 a1 a2 a3 a4 a5 a6 k
 unfold impl_SelectedIndices.f
 repeat' (with_reducible first | exact impl_Selection_indices.mono _ _ _ _ _ _ _ _ | exact impl_ValidSelection.mono _ _ _ _ _ _ _ _ | exact LeO.refl _ | exact LeO.none _ | refine LeO.ite ?_ ?_ | refine LeO.bind ?_ (fun _ => ?_))
set_option maxHeartbeats 8000000 in
set_option maxRecDepth 100000 in
theorem impl_SelectedIndices.calls (k : Nat) (A0 : Option Addr) (c0 : Nat) (l0 : List Int) (a1_0 : Int) (A1_1 : Option Addr) (c1_1 : Nat) (l1_1 : List Int) (A1_2 : Option Addr) (c1_2 : Nat) (l1_2 : List Int) (A1_3 : Option Addr) (c1_3 : Nat) (l1_3 : List Int) (A1_4 : Option Addr) (c1_4 : Nat) (l1_4 : List Int) (A1_5 : Option Addr) (c1_5 : Nat) (l1_5 : List (S110)) (r : List Int) (w : World) (hr0 : Kd.C (Kd.int .i64) w A0 l0.length l0) (hc0 : l0.length ≤ c0) (hr1_1 : Kd.C (Kd.int .i64) w A1_1 l1_1.length l1_1) (hc1_1 : l1_1.length ≤ c1_1) (hr1_2 : Kd.C (Kd.int .i64) w A1_2 l1_2.length l1_2) (hc1_2 : l1_2.length ≤ c1_2) (hr1_3 : Kd.C (Kd.int .i64) w A1_3 l1_3.length l1_3) (hc1_3 : l1_3.length ≤ c1_3) (hr1_4 : Kd.C (Kd.int .i64) w A1_4 l1_4.length l1_4) (hc1_4 : l1_4.length ≤ c1_4) (hr1_5 : Kd.C k110 w A1_5 l1_5.length l1_5) (hc1_5 : l1_5.length ≤ c1_5) (h : impl_SelectedIndices.f k l0 a1_0 l1_1 l1_2 l1_3 l1_4 l1_5 = some r) :
 Calls Try.prog 41 #[.slice A0 l0.length c0, .agg #[.int .i64 a1_0, .slice A1_1 l1_1.length c1_1, .slice A1_2 l1_2.length c1_2, .slice A1_3 l1_3.length c1_3, .slice A1_4 l1_4.length c1_4, .slice A1_5 l1_5.length c1_5]] w fun e w' => ∃ v0_ : Value, e = .returned (v0_) ∧ Kd.R (Kd.int .i64) 2 w' w.heap.size (fun _ => True) v0_ r ∧ Below w.heap.size w w' := by
 have hu55 := Try.underlying55
 have HR0 := yD hr0
 have HC0 := yD hc0
 clear hr0 hc0
 have HR1_1 := yD hr1_1
 have HC1_1 := yD hc1_1
 clear hr1_1 hc1_1
 have HR1_2 := yD hr1_2
 have HC1_2 := yD hc1_2
 clear hr1_2 hc1_2
 have HR1_3 := yD hr1_3
 have HC1_3 := yD hc1_3
 clear hr1_3 hc1_3
 have HR1_4 := yD hr1_4
 have HC1_4 := yD hc1_4
 clear hr1_4 hc1_4
 have HR1_5 := yD hr1_5
 have HC1_5 := yD hc1_5
 clear hr1_5 hc1_5
 have HB := yD (Below.refl w.heap.size w)
 have H : ((impl_ValidSelection.f k l0 a1_0 l1_1 l1_2 l1_3 l1_4 l1_5).bind fun t360 => (if t360 = true then ((impl_Selection_indices.f k a1_0 l1_1 l1_2 l1_3 l1_4 l1_5 l0).bind fun t361 => (some t361)) else (some ([] : List Int)))) = some r := h
 clear h
 obtain ⟨t360, A30, H⟩ := zW_ H
 replace H : (if t360 = true then ((impl_Selection_indices.f k a1_0 l1_1 l1_2 l1_3 l1_4 l1_5 l0).bind fun t361 => (some t361)) else (some ([] : List Int))) = some r := H
 have A3 := yD A30
 clear A30
 by_cases c4 : t360 = true
 ·
  subst c4
  have H1 : ((impl_Selection_indices.f k a1_0 l1_1 l1_2 l1_3 l1_4 l1_5 l0).bind fun t361 => (some t361)) = some r := by rw [if_pos rfl] at H; exact H
  clear H; have H := H1; clear H1
  obtain ⟨t361, A50, H⟩ := zW_ H
  replace H : (some t361) = some r := H
  have A5 := yD A50
  clear A50; obtain rfl := Option.some.inj H; go_enter Try.func41, Try.ntmps41
  go_wp2_with (first | ((with_reducible refine gate_dst (N := 3) rfl ?_); refine box_event ?hg (N := 3) ?hd (cs := #[.int .i64 a1_0, .slice A1_1 l1_1.length c1_1, .slice A1_2 l1_2.length c1_2, .slice A1_3 l1_3.length c1_3, .slice A1_4 l1_4.length c1_4, .slice A1_5 l1_5.length c1_5]) (t := 55) ?hr ?_; (case hd => rfl); (case hg => rfl); (case hr => first | (go_simp; done) | (go_simp; rfl)); intro gb359 hg w6 hbox hb; have n0_ := yD (zC (kB HB) hb); have n1_ := yD (hbox); have n2_ := yD ((by rw [hg]; exact (below_size (kB HB)) : w.heap.size ≤ gb359)); have n3_ := yD ((by rw [hg]; exact (below_size (kB HB)) : w.heap.size ≤ gb359)); clear HB; have HB := n0_; have BK359 := n1_; have GW359 := n2_; have GE359 := n3_; clear n0_ n1_ n2_ n3_; clear hb hbox hg; obtain ⟨hcz7_0, hcz7_1, hcz7_2, hcz7_3, hcz7_4, hcz7_5⟩ := cz6 BK359.out; obtain ⟨hfz7_0, hfz7_1, hfz7_2, hfz7_3, hfz7_4, hfz7_5⟩ := fz6 BK359.out) | ((with_reducible refine gate_callee (f := 80) rfl ?_); refine gL 7 Try.func80 #[.slice A0 l0.length c0, .agg #[.int .i64 a1_0, .slice A1_1 l1_1.length c1_1, .slice A1_2 l1_2.length c1_2, .slice A1_3 l1_3.length c1_3, .slice A1_4 l1_4.length c1_4, .slice A1_5 l1_5.length c1_5]] ?_; (with_reducible refine (impl_ValidSelection.calls k _ _ l0 a1_0 _ _ l1_1 _ _ l1_2 _ _ l1_3 _ _ l1_4 _ _ l1_5 true _ ?side1 ?side2 ?side3 ?side4 ?side5 ?side6 ?side7 ?side8 ?side9 ?side10 ?side11 ?side12 A3.out).mono ?_); (case side1 => exact kV (yY HR0.out HB.out)); (case side2 => exact HC0.out); (case side3 => exact kV (yY HR1_1.out HB.out)); (case side4 => exact HC1_1.out); (case side5 => exact kV (yY HR1_2.out HB.out)); (case side6 => exact HC1_2.out); (case side7 => exact kV (yY HR1_3.out HB.out)); (case side8 => exact HC1_3.out); (case side9 => exact kV (yY HR1_4.out HB.out)); (case side10 => exact HC1_4.out); (case side11 => exact kV (yY HR1_5.out HB.out)); (case side12 => exact HC1_5.out); rintro e w8 ⟨rfl, hb⟩; refine ⟨_, rfl, ?_⟩; have n0_ := yD (zB (kN BK359) hb); have n1_ := yD (zC (kB HB) hb); clear BK359; clear HB; have BK359 := n0_; have HB := n1_; clear n0_ n1_; (try clear hb); (try clear hb2); (try clear hk); (try clear hi); obtain ⟨hcz9_0, hcz9_1, hcz9_2, hcz9_3, hcz9_4, hcz9_5⟩ := cz6 BK359.out; obtain ⟨hfz9_0, hfz9_1, hfz9_2, hfz9_3, hfz9_4, hfz9_5⟩ := fz6 BK359.out) | ((with_reducible refine gate_callee (f := 81) rfl ?_); refine gL 11 Try.func81 #[.agg #[.int .i64 a1_0, .slice A1_1 l1_1.length c1_1, .slice A1_2 l1_2.length c1_2, .slice A1_3 l1_3.length c1_3, .slice A1_4 l1_4.length c1_4, .slice A1_5 l1_5.length c1_5], .slice A0 l0.length c0] ?_; (with_reducible refine (impl_Selection_indices.calls k a1_0 _ _ l1_1 _ _ l1_2 _ _ l1_3 _ _ l1_4 _ _ l1_5 _ _ l0 t361 _ ?side1 ?side2 ?side3 ?side4 ?side5 ?side6 ?side7 ?side8 ?side9 ?side10 ?side11 ?side12 A5.out).mono ?_); (case side1 => exact kV (yY HR1_1.out HB.out)); (case side2 => exact HC1_1.out); (case side3 => exact kV (yY HR1_2.out HB.out)); (case side4 => exact HC1_2.out); (case side5 => exact kV (yY HR1_3.out HB.out)); (case side6 => exact HC1_3.out); (case side7 => exact kV (yY HR1_4.out HB.out)); (case side8 => exact HC1_4.out); (case side9 => exact kV (yY HR1_5.out HB.out)); (case side10 => exact HC1_5.out); (case side11 => exact kV (yY HR0.out HB.out)); (case side12 => exact HC0.out); rintro e w10 ⟨v362, rfl, ho0, hb⟩; refine ⟨_, rfl, ?_⟩; have n0_ := yD (yZ ho0 (below_size (kB HB))); have n1_ := yD (zB (kN BK359) hb); have n2_ := yD (zC (kB HB) hb); clear BK359; clear HB; have HO363 := n0_; have BK359 := n1_; have HB := n2_; clear n0_ n1_ n2_; (try clear hb); (try clear hb2); (try clear hk); (try clear hi); (try clear ho0)))
  go_ret
  exact ⟨_, by first | rfl | (simp <;> rfl) | (simp [*] <;> rfl), by (with_reducible repeat (first | apply yA | apply yB | apply yC)); exact HO363.out, kR0 HB⟩
 ·
  replace c4 := Bool.eq_false_iff.mpr c4
  subst c4
  have H1 : (some ([] : List Int)) = some r := by rw [if_neg (show ¬ (false = true) by decide)] at H; exact H
  clear H; have H := H1; clear H1; obtain rfl := Option.some.inj H; go_enter Try.func41, Try.ntmps41
  go_wp2_with (first | ((with_reducible refine gate_dst (N := 3) rfl ?_); refine box_event ?hg (N := 3) ?hd (cs := #[.int .i64 a1_0, .slice A1_1 l1_1.length c1_1, .slice A1_2 l1_2.length c1_2, .slice A1_3 l1_3.length c1_3, .slice A1_4 l1_4.length c1_4, .slice A1_5 l1_5.length c1_5]) (t := 55) ?hr ?_; (case hd => rfl); (case hg => rfl); (case hr => first | (go_simp; done) | (go_simp; rfl)); intro gb359 hg w11 hbox hb; have n0_ := yD (zC (kB HB) hb); have n1_ := yD (hbox); have n2_ := yD ((by rw [hg]; exact (below_size (kB HB)) : w.heap.size ≤ gb359)); have n3_ := yD ((by rw [hg]; exact (below_size (kB HB)) : w.heap.size ≤ gb359)); clear HB; have HB := n0_; have BK359 := n1_; have GW359 := n2_; have GE359 := n3_; clear n0_ n1_ n2_ n3_; clear hb hbox hg; obtain ⟨hcz12_0, hcz12_1, hcz12_2, hcz12_3, hcz12_4, hcz12_5⟩ := cz6 BK359.out; obtain ⟨hfz12_0, hfz12_1, hfz12_2, hfz12_3, hfz12_4, hfz12_5⟩ := fz6 BK359.out) | ((with_reducible refine gate_callee (f := 80) rfl ?_); refine gL 7 Try.func80 #[.slice A0 l0.length c0, .agg #[.int .i64 a1_0, .slice A1_1 l1_1.length c1_1, .slice A1_2 l1_2.length c1_2, .slice A1_3 l1_3.length c1_3, .slice A1_4 l1_4.length c1_4, .slice A1_5 l1_5.length c1_5]] ?_; (with_reducible refine (impl_ValidSelection.calls k _ _ l0 a1_0 _ _ l1_1 _ _ l1_2 _ _ l1_3 _ _ l1_4 _ _ l1_5 false _ ?side1 ?side2 ?side3 ?side4 ?side5 ?side6 ?side7 ?side8 ?side9 ?side10 ?side11 ?side12 A3.out).mono ?_); (case side1 => exact kV (yY HR0.out HB.out)); (case side2 => exact HC0.out); (case side3 => exact kV (yY HR1_1.out HB.out)); (case side4 => exact HC1_1.out); (case side5 => exact kV (yY HR1_2.out HB.out)); (case side6 => exact HC1_2.out); (case side7 => exact kV (yY HR1_3.out HB.out)); (case side8 => exact HC1_3.out); (case side9 => exact kV (yY HR1_4.out HB.out)); (case side10 => exact HC1_4.out); (case side11 => exact kV (yY HR1_5.out HB.out)); (case side12 => exact HC1_5.out); rintro e w13 ⟨rfl, hb⟩; refine ⟨_, rfl, ?_⟩; have n0_ := yD (zB (kN BK359) hb); have n1_ := yD (zC (kB HB) hb); clear BK359; clear HB; have BK359 := n0_; have HB := n1_; clear n0_ n1_; (try clear hb); (try clear hb2); (try clear hk); (try clear hi)))
  go_ret
  exact ⟨_, by first | rfl | (simp <;> rfl) | (simp [*] <;> rfl), by first | exact Kd.R_nil _ _ _ _ _ | exact Kd.N_nil _ _ _ _ _ | exact Kd.V_nil _ _ _ _ _ | exact Kd.Q_nil _ _ _ _ _ | exact Kd.S_nil _ _ _ _ _, kR0 HB⟩

/-! ### laws_eqInt64S: function 42 -/
def laws_eqInt64S.l0 : Nat → List Int → List Int → Int → Option (Bool)
 | 0, _, _, _ => none
 | k + 1, x0, x1, x5 => if x5 < (x0.length : Int) then (if 0 ≤ x5 then (if x5 < (x1.length : Int) then (if (rd x0 x5) = (rd x1 x5) then (laws_eqInt64S.l0 k x0 x1 (wrap64 (x5 + 1))) else (some false)) else (none)) else (none)) else (some true)
def laws_eqInt64S.f (k : Nat) (l0 : List Int) (l1 : List Int) : Option (Bool) := if (l0.length : Int) = (l1.length : Int) then (laws_eqInt64S.l0 k l0 l1 0) else (some false)
theorem laws_eqInt64S.mono_l : ∀ k, (∀ y0 y1 y2, LeO (laws_eqInt64S.l0 k y0 y1 y2) (laws_eqInt64S.l0 (k + 1) y0 y1 y2))
 | 0 => fun _ _ _ r h => by simp [laws_eqInt64S.l0] at h
 | k + 1 => by
  have ih0 := laws_eqInt64S.mono_l k
  ·
   intro y0 y1 y2
   unfold laws_eqInt64S.l0
   repeat' (with_reducible first | exact ih0 _ _ _ | exact LeO.refl _ | exact LeO.none _ | refine LeO.ite ?_ ?_ | refine LeO.bind ?_ (fun _ => ?_))
theorem laws_eqInt64S.mono : ∀ a0 a1 k, LeO (laws_eqInt64S.f k a0 a1) (laws_eqInt64S.f (k + 1) a0 a1) := by
 intro a0 a1 k
 have ih0 := laws_eqInt64S.mono_l k
 unfold laws_eqInt64S.f
 repeat' (with_reducible first | exact ih0 _ _ _ | exact LeO.refl _ | exact LeO.none _ | refine LeO.ite ?_ ?_ | refine LeO.bind ?_ (fun _ => ?_))
set_option maxHeartbeats 8000000 in
set_option maxRecDepth 100000 in
theorem laws_eqInt64S.calls (k : Nat) (A0 : Option Addr) (c0 : Nat) (l0 : List Int) (A1 : Option Addr) (c1 : Nat) (l1 : List Int) (r : Bool) (w : World) (hr0 : Kd.C (Kd.int .i64) w A0 l0.length l0) (hc0 : l0.length ≤ c0) (hr1 : Kd.C (Kd.int .i64) w A1 l1.length l1) (hc1 : l1.length ≤ c1) (h : laws_eqInt64S.f k l0 l1 = some r) :
 Calls Try.prog 42 #[.slice A0 l0.length c0, .slice A1 l1.length c1] w fun e w' => e = .returned (.bool r) ∧ Drawn0 w w' := by
 have HR0 := yD hr0
 have HC0 := yD hc0
 clear hr0 hc0
 have HR1 := yD hr1
 have HC1 := yD hc1
 clear hr1 hc1
 have H : (if (l0.length : Int) = (l1.length : Int) then (laws_eqInt64S.l0 k l0 l1 0) else (some false)) = some r := h
 clear h
 by_cases c3 : (l0.length : Int) = (l1.length : Int)
 ·
  rw [if_pos c3] at H
  have c3b0 : ((l0.length : Int) == (l1.length : Int)) = true := beq_iff_eq.mpr c3
  have c3b1 : ((l0.length : Int) != (l1.length : Int)) = false := bne_eq_false_iff_eq.mpr c3
  have c3b2 : (l0.length == l1.length) = true := by first | simpa using c3 | (simp at c3 ⊢; omega)
  clear c3
  have H' := yD H
  clear H; go_enter Try.func42, Try.ntmps42
  go_wp2
  repeat (go_quiet (fail); try go_wp2)
  go_loopg [5] k (fun kq v5 w' => ∃ (x5_1 : Int), v5 = .int .i64 x5_1 ∧ Aside0 (laws_eqInt64S.l0 kq l0 l1 x5_1 = some r) ∧ Aside0 (kq ≤ k) ∧ Drawn0 w w')
  case atStart => exact ⟨(0), (by first | rfl | (simp; done) | (simp [*]; done)), H', ⟨Nat.le_refl _⟩, by repeat (first | exact Drawn0.refl _ | apply Drawn0.step)⟩
  case round =>
   clear H'
   try clear c1; try clear p2; try clear c3; try clear c3b0; try clear c3b1; try clear c3b2
   obtain ⟨x5_1, rfl, HA, HK1, ⟨m1, rfl⟩⟩ := hrel
   cases gk with
   | zero => exact absurd HA.out (by simp [laws_eqInt64S.l0])
   | succ k1 =>
    have H := HA.out; clear HA
    simp only [laws_eqInt64S.l0] at H
    by_cases c4 : x5_1 < (l0.length : Int)
    ·
     rw [if_pos c4] at H; have c4b0 : decide (x5_1 < (l0.length : Int)) = true := zR c4; clear c4
     by_cases c5 : 0 ≤ x5_1
     ·
      rw [if_pos c5] at H; have c5b0 : decide (0 ≤ x5_1) = true := zR c5; clear c5
      by_cases c6 : x5_1 < (l1.length : Int)
      ·
       rw [if_pos c6] at H; have c6b0 : decide (x5_1 < (l1.length : Int)) = true := zR c6; clear c6
       by_cases c7 : (rd l0 x5_1) = (rd l1 x5_1)
       ·
        rw [if_pos c7] at H
        have c7b0 : ((rd l0 x5_1) == (rd l1 x5_1)) = true := beq_iff_eq.mpr c7
        have c7b1 : ((rd l0 x5_1) != (rd l1 x5_1)) = false := bne_eq_false_iff_eq.mpr c7
        clear c7
        have H' := yD H
        clear H
        have p364 : 0 ≤ (x5_1 : Int) := zP (by assumption)
        have q364 : x5_1 < (l0.length : Int) := zP (by assumption)
        obtain ⟨ad364, e364, hx364_0⟩ := Kd.at_int HR0.out x5_1 p364 q364
        cases e364; replace p364 := eq_true p364; replace q364 := eq_true q364
        have p365 : 0 ≤ (x5_1 : Int) := zP (by assumption)
        have q365 : x5_1 < (l1.length : Int) := zP (by assumption)
        obtain ⟨ad365, e365, hx365_0⟩ := Kd.at_int HR1.out x5_1 p365 q365
        cases e365; replace p365 := eq_true p365; replace q365 := eq_true q365
        go_wp2
        repeat (go_quiet (fail); try go_wp2)
        go_roundg k1
        case measure => have := HK1.out; omega
        case rel => exact ⟨(wrap64 (x5_1 + 1)), (by first | rfl | (simp; done) | (simp [*]; done)), H', ⟨by have := HK1.out; omega⟩, by repeat (first | exact Drawn0.refl _ | apply Drawn0.step)⟩
       ·
        rw [if_neg c7] at H
        have c7b0 : ((rd l0 x5_1) == (rd l1 x5_1)) = false := beq_eq_false_iff_ne.mpr c7
        have c7b1 : ((rd l0 x5_1) != (rd l1 x5_1)) = true := bne_iff_ne.mpr c7
        obtain rfl := Option.some.inj H
        have p364 : 0 ≤ (x5_1 : Int) := zP (by assumption)
        have q364 : x5_1 < (l0.length : Int) := zP (by assumption)
        obtain ⟨ad364, e364, hx364_0⟩ := Kd.at_int HR0.out x5_1 p364 q364
        cases e364; replace p364 := eq_true p364; replace q364 := eq_true q364
        have p365 : 0 ≤ (x5_1 : Int) := zP (by assumption)
        have q365 : x5_1 < (l1.length : Int) := zP (by assumption)
        obtain ⟨ad365, e365, hx365_0⟩ := Kd.at_int HR1.out x5_1 p365 q365
        cases e365; replace p365 := eq_true p365; replace q365 := eq_true q365
        go_wp2
        repeat (go_quiet (fail); try go_wp2)
        go_ret
        exact ⟨by first | rfl | (simp; done) | (simp [*]; done), by repeat (first | exact Drawn0.refl _ | apply Drawn0.step)⟩
      ·
       rw [if_neg c6] at H
       exact absurd H (by simp)
     ·
      rw [if_neg c5] at H
      exact absurd H (by simp)
    ·
     rw [if_neg c4] at H; have c4b0 : decide (x5_1 < (l0.length : Int)) = false := zS c4; clear c4; obtain rfl := Option.some.inj H
     go_wp2
     repeat (go_quiet (fail); try go_wp2)
     go_ret
     exact ⟨by first | rfl | (simp; done) | (simp [*]; done), by repeat (first | exact Drawn0.refl _ | apply Drawn0.step)⟩
 ·
  rw [if_neg c3] at H
  have c3b0 : ((l0.length : Int) == (l1.length : Int)) = false := beq_eq_false_iff_ne.mpr c3
  have c3b1 : ((l0.length : Int) != (l1.length : Int)) = true := bne_iff_ne.mpr c3
  have c3b2 : (l0.length == l1.length) = false := by first | simpa using c3 | (simp at c3 ⊢; omega)
  obtain rfl := Option.some.inj H; go_enter Try.func42, Try.ntmps42
  go_wp2
  repeat (go_quiet (fail); try go_wp2)
  go_ret
  exact ⟨by first | rfl | (simp; done) | (simp [*]; done), by repeat (first | exact Drawn0.refl _ | apply Drawn0.step)⟩

end Go.Proofs.Ytdiaebjbiddefaa.PFnExactSelectedIndices
