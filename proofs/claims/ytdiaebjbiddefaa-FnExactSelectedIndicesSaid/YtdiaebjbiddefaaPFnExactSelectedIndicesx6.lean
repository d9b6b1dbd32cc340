/- Each Go function here comes to what the plain function of its name says, where that says something. Made by a program of this session, over the print. -/
import Derived.Test.YtdiaebjbiddefaaPFnExactSelectedIndicesx0
namespace Go.Proofs.Ytdiaebjbiddefaa.PFnExactSelectedIndices
open Go.RowKit Go.Proofs.YtdiaebjbiddefaaW.PrintWords Go.Proofs.YtdiaebjbiddefaaW.PrintLast Go.Proofs.YtdiaebjbiddefaaW.PrintMore
attribute [local go_sem] max2_int min2_int max_two min_two max_three min_three max_four min_four   -- for this text's walks alone
set_option linter.unusedVariables false
set_option linter.unusedSimpArgs false

/-! ### spec_l06Axis: function 112 -/
mutual
def spec_l06Axis.l0 : Nat → Int → List Int → Int → Int → List Int → List Int → List Int → List Int → List (S110) → Option (List Int)
 | 0, _, _, _, _, _, _, _, _, _ => none
 | k + 1, x1, x5, x6, x195000, x195001, x195002, x195003, x195004, x195005 => if 0 ≤ x1 then (if x1 < (x195003.length : Int) then (if x6 < (rd x195003 x1) then (spec_l06Axis.l1 k x1 x5 x6 0 x195000 x195001 x195002 x195003 x195004 x195005) else (some x5)) else (none)) else (none)
def spec_l06Axis.l1 : Nat → Int → List Int → Int → Int → Int → List Int → List Int → List Int → List Int → List (S110) → Option (List Int)
 | 0, _, _, _, _, _, _, _, _, _, _ => none
 | k + 1, x1, x5, x6, x7, x195000, x195001, x195002, x195003, x195004, x195005 => if 0 ≤ x1 then (if x1 < (x195004.length : Int) then (if x7 < (rd x195004 x1) then (if x1 < (x195001.length : Int) then (if x1 < (x195002.length : Int) then (if x5.length < 17592186044416 then (spec_l06Axis.l1 k x1 (x5 ++ [wrap64 ((wrap64 ((rd x195001 x1) + (wrap64 (x6 * (rd x195002 x1))))) + x7)]) x6 (wrap64 (x7 + 1)) x195000 x195001 x195002 x195003 x195004 x195005) else (none)) else (none)) else (none)) else (spec_l06Axis.l0 k x1 x5 (wrap64 (x6 + 1)) x195000 x195001 x195002 x195003 x195004 x195005)) else (none)) else (none)
end
def spec_l06Axis.f (k : Nat) (a0_0 : Int) (l0_1 : List Int) (l0_2 : List Int) (l0_3 : List Int) (l0_4 : List Int) (l0_5 : List (S110)) (a1 : Int) : Option (List Int) := spec_l06Axis.l0 k a1 (([] : List Int)) 0 a0_0 l0_1 l0_2 l0_3 l0_4 l0_5
theorem spec_l06Axis.mono_l : ∀ k, (∀ y0 y1 y2 y3 y4 y5 y6 y7 y8, LeO (spec_l06Axis.l0 k y0 y1 y2 y3 y4 y5 y6 y7 y8) (spec_l06Axis.l0 (k + 1) y0 y1 y2 y3 y4 y5 y6 y7 y8)) ∧ (∀ y0 y1 y2 y3 y4 y5 y6 y7 y8 y9, LeO (spec_l06Axis.l1 k y0 y1 y2 y3 y4 y5 y6 y7 y8 y9) (spec_l06Axis.l1 (k + 1) y0 y1 y2 y3 y4 y5 y6 y7 y8 y9))
 | 0 => ⟨fun _ _ _ _ _ _ _ _ _ r h => by simp [spec_l06Axis.l0] at h, fun _ _ _ _ _ _ _ _ _ _ r h => by simp [spec_l06Axis.l1] at h⟩
 | k + 1 => by
  obtain ⟨ih0, ih1⟩ := spec_l06Axis.mono_l k
  refine ⟨?_, ?_⟩
  ·
   intro y0 y1 y2 y3 y4 y5 y6 y7 y8
   unfold spec_l06Axis.l0
   repeat' (with_reducible first | exact ih0 _ _ _ _ _ _ _ _ _ | exact ih1 _ _ _ _ _ _ _ _ _ _ | exact LeO.refl _ | exact LeO.none _ | refine LeO.ite ?_ ?_ | refine LeO.bind ?_ (fun _ => ?_))
  ·
   intro y0 y1 y2 y3 y4 y5 y6 y7 y8 y9
   unfold spec_l06Axis.l1
   repeat' (with_reducible first | exact ih0 _ _ _ _ _ _ _ _ _ | exact ih1 _ _ _ _ _ _ _ _ _ _ | exact LeO.refl _ | exact LeO.none _ | refine LeO.ite ?_ ?_ | refine LeO.bind ?_ (fun _ => ?_))
theorem spec_l06Axis.mono : ∀ a0 a1 a2 a3 a4 a5 a6 k, LeO (spec_l06Axis.f k a0 a1 a2 a3 a4 a5 a6) (spec_l06Axis.f (k + 1) a0 a1 a2 a3 a4 a5 a6) := by
 intro a0 a1 a2 a3 a4 a5 a6 k
 obtain ⟨ih0, ih1⟩ := spec_l06Axis.mono_l k
 unfold spec_l06Axis.f
 repeat' (with_reducible first | exact ih0 _ _ _ _ _ _ _ _ _ | exact ih1 _ _ _ _ _ _ _ _ _ _ | exact LeO.refl _ | exact LeO.none _ | refine LeO.ite ?_ ?_ | refine LeO.bind ?_ (fun _ => ?_))
def spec_l06Axis.T8 : Bool × List (List Nat × List Nat) := (true, [([], []), ([], []), ([1], [1]), ([], []), ([2, 3], [2, 3]), ([4], [4]), ([], []), ([], []), ([7], [7]), ([], []), ([8, 9], [8, 9]), ([10], [10]), ([6, 11], [6, 11]), ([5, 12], [5, 12]), ([], []), ([13, 14], [13, 14]), ([15], [15]), ([0, 16], [0, 16]), ([17, 17, 0, 1, 2, 3, 4, 5, 6, 7, 8, 9, 10, 11, 12, 13, 14, 15, 16, 17], [0, 17])])
def spec_l06Axis.B8 : List Nat := [0, 0, 2, 0, 14, 30, 0, 0, 128, 0, 896, 1920, 4032, 8190, 0, 32766, 65534, 131071, 262143]
theorem spec_l06Axis.tab8 : rtab .any (opsOf Try.f112 8) = spec_l06Axis.T8 := by kernel_rfl
theorem spec_l06Axis.bits8 : waitsOk spec_l06Axis.T8.2 spec_l06Axis.B8 = true := by kernel_rfl
abbrev spec_l06Axis.Q_0 : Array Bool := (bz 19 0)
abbrev spec_l06Axis.Q_1 : Array Bool := (bz 19 1)
abbrev spec_l06Axis.Q_2 : Array Bool := (bz 19 3)
abbrev spec_l06Axis.Q_3 : Array Bool := (bz 19 11)
abbrev spec_l06Axis.Q_4 : Array Bool := (bz 19 75)
abbrev spec_l06Axis.Q_5 : Array Bool := (bz 19 203)
abbrev spec_l06Axis.Q_6 : Array Bool := (bz 19 715)
abbrev spec_l06Axis.Q_7 : Array Bool := (bz 19 17099)
abbrev spec_l06Axis.Q_8 : Array Bool := (bz 19 17103)
abbrev spec_l06Axis.Q_9 : Array Bool := (bz 19 17119)
abbrev spec_l06Axis.Q_10 : Array Bool := (bz 19 17151)
abbrev spec_l06Axis.Q_11 : Array Bool := (bz 19 17407)
abbrev spec_l06Axis.Q_12 : Array Bool := (bz 19 18431)
abbrev spec_l06Axis.Q_13 : Array Bool := (bz 19 20479)
abbrev spec_l06Axis.Q_14 : Array Bool := (bz 19 24575)
abbrev spec_l06Axis.Q_15 : Array Bool := (bz 19 32767)
abbrev spec_l06Axis.Q_16 : Array Bool := (bz 19 65535)
abbrev spec_l06Axis.Q_17 : Array Bool := (bz 19 131071)
abbrev spec_l06Axis.Q_18 : Array Bool := (bz 19 262143)
abbrev spec_l06Axis.Q_19 : Array Bool := (bz 19 524287)
set_option maxHeartbeats 8000000 in
set_option maxRecDepth 100000 in
theorem spec_l06Axis.calls (k : Nat) (a0_0 : Int) (A0_1 : Option Addr) (c0_1 : Nat) (l0_1 : List Int) (A0_2 : Option Addr) (c0_2 : Nat) (l0_2 : List Int) (A0_3 : Option Addr) (c0_3 : Nat) (l0_3 : List Int) (A0_4 : Option Addr) (c0_4 : Nat) (l0_4 : List Int) (A0_5 : Option Addr) (c0_5 : Nat) (l0_5 : List (S110)) (a1 : Int) (r : List Int) (w : World) (hr0_1 : Kd.C (Kd.int .i64) w A0_1 l0_1.length l0_1) (hc0_1 : l0_1.length ≤ c0_1) (hr0_2 : Kd.C (Kd.int .i64) w A0_2 l0_2.length l0_2) (hc0_2 : l0_2.length ≤ c0_2) (hr0_3 : Kd.C (Kd.int .i64) w A0_3 l0_3.length l0_3) (hc0_3 : l0_3.length ≤ c0_3) (hr0_4 : Kd.C (Kd.int .i64) w A0_4 l0_4.length l0_4) (hc0_4 : l0_4.length ≤ c0_4) (hr0_5 : Kd.C k110 w A0_5 l0_5.length l0_5) (hc0_5 : l0_5.length ≤ c0_5) (h : spec_l06Axis.f k a0_0 l0_1 l0_2 l0_3 l0_4 l0_5 a1 = some r) :
 Calls Try.prog 112 #[.agg #[.int .i64 a0_0, .slice A0_1 l0_1.length c0_1, .slice A0_2 l0_2.length c0_2, .slice A0_3 l0_3.length c0_3, .slice A0_4 l0_4.length c0_4, .slice A0_5 l0_5.length c0_5], .int .i64 a1] w fun e w' => ∃ v0_ : Value, e = .returned (v0_) ∧ Kd.R (Kd.int .i64) 2 w' w.heap.size (fun _ => True) v0_ r ∧ Below w.heap.size w w' := by
 have hu55 := Try.underlying55
 have HR0_1 := yD hr0_1
 have HC0_1 := yD hc0_1
 clear hr0_1 hc0_1
 have HR0_2 := yD hr0_2
 have HC0_2 := yD hc0_2
 clear hr0_2 hc0_2
 have HR0_3 := yD hr0_3
 have HC0_3 := yD hc0_3
 clear hr0_3 hc0_3
 have HR0_4 := yD hr0_4
 have HC0_4 := yD hc0_4
 clear hr0_4 hc0_4
 have HR0_5 := yD hr0_5
 have HC0_5 := yD hc0_5
 clear hr0_5 hc0_5
 have HB := yD (Below.refl w.heap.size w)
 have H : (spec_l06Axis.l0 k a1 (([] : List Int)) 0 a0_0 l0_1 l0_2 l0_3 l0_4 l0_5) = some r := h
 clear h
 obtain ⟨y195, hy195⟩ : ∃ y_ : List Int, y_ = (([] : List Int)) := ⟨_, rfl⟩
 replace H : (spec_l06Axis.l0 k a1 y195 0 a0_0 l0_1 l0_2 l0_3 l0_4 l0_5) = some r := by first | (rw [hy195]; with_reducible exact H) | (have H2_ := (Option.bind_some _ _).symm.trans H; rw [hy195]; with_reducible exact H2_) | (have H2_ := (Option.bind_some _ _).symm.trans H; with_reducible exact H2_) | with_reducible exact H | (rw [hy195]; exact H) | exact H
 have Ny195 := yD hy195
 clear hy195
 have H' := yD H
 clear H; go_enter Try.func112, Try.ntmps112
 go_wp2_with (first | ((with_reducible refine gate_dst (N := 2) rfl ?_); refine box_event ?hg (N := 2) ?hd (cs := #[.int .i64 a0_0, .slice A0_1 l0_1.length c0_1, .slice A0_2 l0_2.length c0_2, .slice A0_3 l0_3.length c0_3, .slice A0_4 l0_4.length c0_4, .slice A0_5 l0_5.length c0_5]) (t := 55) ?hr ?_; (case hd => rfl); (case hg => rfl); (case hr => first | (go_simp; done) | (go_simp; rfl)); intro gb194 hg w3 hbox hb; have n0_ := yD (zC (kB HB) hb); have n1_ := yD (hbox); have n2_ := yD ((by rw [hg]; exact (below_size (kB HB)) : w.heap.size ≤ gb194)); have n3_ := yD ((by rw [hg]; exact (below_size (kB HB)) : w.heap.size ≤ gb194)); clear HB; have HB := n0_; have BK194 := n1_; have GW194 := n2_; have GE194 := n3_; clear n0_ n1_ n2_ n3_; clear hb hbox hg) | ((with_reducible refine gate_dst (N := 8) rfl ?_); refine Kd.R_lit (Kd.int .i64) _ 2 ?hg (N := 8) ?hd (xs := ([] : List Int)) (inner := []) (ok := fun _ => True) (okp := fun _ => True) ?hr ?hp (fun _ hk => hk) trivial (Below.refl _ _) (Nat.le_refl _) (by simp) ?_; (case hd => rfl); (case hg => rfl); (case hr => first | (go_simp; done) | (go_simp; rfl)); (case hp => exact (Reps.none _ _)); intro v196 w4 ho5 hb hg_ hnew_; clear hg_ hnew_; (first | rw [← Ny195.out] at ho5 | (simp only [Int.reduceToNat] at ho5; rw [← Ny195.out] at ho5)); have n0_ := yD (yZ ho5 (below_size (kB HB))); have n1_ := yD (zB (kN BK194) hb); have n2_ := yD (zC (kB HB) hb); clear BK194; clear HB; have HO197 := n0_; have BK194 := n1_; have HB := n2_; clear n0_ n1_ n2_; clear hb ho5))
 (try simp only [Act.put, zH, zI, zJ])
 go_loopg [5, 6] k (fun kq v5 v6 w' => ∃ (x5_1 : List Int) (x6_1 : Int), v6 = .int .i64 x6_1 ∧ Aside0 (spec_l06Axis.l0 kq a1 x5_1 x6_1 a0_0 l0_1 l0_2 l0_3 l0_4 l0_5 = some r) ∧ Aside0 (kq ≤ k) ∧ Aside0 (Kd.R (Kd.int .i64) 2 w' w.heap.size (fun _ => True) v5 x5_1) ∧ Aside0 (w'.heap[gb194]? = some (.cells #[.int .i64 a0_0, (.slice A0_1 l0_1.length c0_1), (.slice A0_2 l0_2.length c0_2), (.slice A0_3 l0_3.length c0_3), (.slice A0_4 l0_4.length c0_4), (.slice A0_5 l0_5.length c0_5)] 55 (0, 0))) ∧ Aside0 (Below w.heap.size w w'))
 case atStart => exact ⟨(y195), (0), (by first | rfl | (simp; done) | (simp [*]; done)), H', ⟨Nat.le_refl _⟩, ⟨by (with_reducible repeat (first | apply yA | apply yB | apply yC)); exact HO197.out⟩, ⟨by (with_reducible repeat (first | refine yM ?_ _ | refine yO ?_ | refine yN ?_ _)); exact BK194.out⟩, ⟨kR0 HB⟩⟩
 case round =>
  clear H'
  try clear c1; try clear p2
  obtain ⟨x5_1, x6_1, rfl, HA, HK1, HO_5, BK194, HB⟩ := hrel
  cases gk with
  | zero => exact absurd HA.out (by simp [spec_l06Axis.l0])
  | succ k1 =>
   have H := HA.out; clear HA
   simp only [spec_l06Axis.l0] at H
   by_cases c6 : 0 ≤ a1
   ·
    rw [if_pos c6] at H; have c6b0 : decide (0 ≤ a1) = true := zR c6; clear c6
    by_cases c7 : a1 < (l0_3.length : Int)
    ·
     rw [if_pos c7] at H; have c7b0 : decide (a1 < (l0_3.length : Int)) = true := zR c7; clear c7
     by_cases c8 : x6_1 < (rd l0_3 a1)
     ·
      rw [if_pos c8] at H; have c8b0 : decide (x6_1 < (rd l0_3 a1)) = true := zR c8; clear c8
      have H' := yD H
      clear H
      obtain ⟨hcz9_0, hcz9_1, hcz9_2, hcz9_3, hcz9_4, hcz9_5⟩ := cz6 BK194.out
      obtain ⟨hfz9_0, hfz9_1, hfz9_2, hfz9_3, hfz9_4, hfz9_5⟩ := fz6 BK194.out
      have p198 : 0 ≤ (a1 : Int) := zP (by assumption)
      have q198 : a1 < (l0_3.length : Int) := zP (by assumption)
      obtain ⟨ad198, e198, hx198_0⟩ := Kd.at_int HR0_3.out a1 p198 q198
      cases e198
      replace hx198_0 := (HB.out.cell (zQ w _ hx198_0)).trans hx198_0
      replace p198 := eq_true p198; replace q198 := eq_true q198
      go_wp2
      go_loopg [5, 7] k1 (fun kq v5 v7 w' => ∃ (x5_2 : List Int) (x7_2 : Int), v7 = .int .i64 x7_2 ∧ Aside0 (spec_l06Axis.l1 kq a1 x5_2 x6_1 x7_2 a0_0 l0_1 l0_2 l0_3 l0_4 l0_5 = some r) ∧ Aside0 (kq ≤ k1) ∧ Aside0 (Kd.R (Kd.int .i64) 2 w' w.heap.size (fun _ => True) v5 x5_2) ∧ Aside0 (w'.heap[gb194]? = some (.cells #[.int .i64 a0_0, (.slice A0_1 l0_1.length c0_1), (.slice A0_2 l0_2.length c0_2), (.slice (some ad198) l0_3.length c0_3), (.slice A0_4 l0_4.length c0_4), (.slice A0_5 l0_5.length c0_5)] 55 (0, 0))) ∧ Aside0 (Below w.heap.size w w'))
      case atStart => exact ⟨(x5_1), (0), (by first | rfl | (simp; done) | (simp [*]; done)), H', ⟨Nat.le_refl _⟩, ⟨by (with_reducible repeat (first | apply yA | apply yB | apply yC)); exact HO_5.out⟩, ⟨by (with_reducible repeat (first | refine yM ?_ _ | refine yO ?_ | refine yN ?_ _)); exact BK194.out⟩, ⟨kR0 HB⟩⟩
      case round =>
       clear H'
       try clear c1; try clear p1; try clear q1; try clear hx1; try clear p2; try clear c6; try clear c6b0; try clear c7; try clear c7b0; try clear c8; try clear c8b0; try clear hcz9_0; try clear hcz9_1; try clear hcz9_2; try clear hcz9_3; try clear hcz9_4; try clear hcz9_5; try clear hfz9_0; try clear hfz9_1; try clear hfz9_2; try clear hfz9_3; try clear hfz9_4; try clear hfz9_5; try clear hx198_0; try clear p198; try clear p2; try clear q198
       obtain ⟨x5_2, x7_2, rfl, HA, HK2, HO_5, BK194, HB⟩ := hrel
       cases gk with
       | zero => exact absurd HA.out (by simp [spec_l06Axis.l1])
       | succ k2 =>
        have H := HA.out; clear HA
        simp only [spec_l06Axis.l1] at H
        by_cases c10 : 0 ≤ a1
        ·
         rw [if_pos c10] at H; have c10b0 : decide (0 ≤ a1) = true := zR c10; clear c10
         by_cases c11 : a1 < (l0_4.length : Int)
         ·
          rw [if_pos c11] at H; have c11b0 : decide (a1 < (l0_4.length : Int)) = true := zR c11; clear c11
          by_cases c12 : x7_2 < (rd l0_4 a1)
          ·
           rw [if_pos c12] at H; have c12b0 : decide (x7_2 < (rd l0_4 a1)) = true := zR c12; clear c12
           by_cases c13 : a1 < (l0_1.length : Int)
           ·
            rw [if_pos c13] at H; have c13b0 : decide (a1 < (l0_1.length : Int)) = true := zR c13; clear c13
            by_cases c14 : a1 < (l0_2.length : Int)
            ·
             rw [if_pos c14] at H; have c14b0 : decide (a1 < (l0_2.length : Int)) = true := zR c14; clear c14
             by_cases c15 : x5_2.length < 17592186044416
             ·
              rw [if_pos c15] at H
              have LMc15 := yD c15
              clear c15
              obtain ⟨y202, hy202⟩ : ∃ y_ : List Int, y_ = (x5_2 ++ [wrap64 ((wrap64 ((rd l0_1 a1) + (wrap64 (x6_1 * (rd l0_2 a1))))) + x7_2)]) := ⟨_, rfl⟩
              replace H : (spec_l06Axis.l1 k2 a1 y202 x6_1 (wrap64 (x7_2 + 1)) a0_0 l0_1 l0_2 l0_3 l0_4 l0_5) = some r := by first | (rw [hy202]; with_reducible exact H) | (have H2_ := (Option.bind_some _ _).symm.trans H; rw [hy202]; with_reducible exact H2_) | (have H2_ := (Option.bind_some _ _).symm.trans H; with_reducible exact H2_) | with_reducible exact H | (rw [hy202]; exact H) | exact H
              have Ny202 := yD hy202
              clear hy202
              have H' := yD H
              clear H
              obtain ⟨hcz16_0, hcz16_1, hcz16_2, hcz16_3, hcz16_4, hcz16_5⟩ := cz6 BK194.out
              obtain ⟨hfz16_0, hfz16_1, hfz16_2, hfz16_3, hfz16_4, hfz16_5⟩ := fz6 BK194.out
              have p199 : 0 ≤ (a1 : Int) := zP (by assumption)
              have q199 : a1 < (l0_4.length : Int) := zP (by assumption)
              obtain ⟨ad199, e199, hx199_0⟩ := Kd.at_int HR0_4.out a1 p199 q199
              cases e199
              replace hx199_0 := (HB.out.cell (zQ w _ hx199_0)).trans hx199_0
              replace p199 := eq_true p199; replace q199 := eq_true q199
              try go_wp2
              have n0_ := yD (yC HO_5.out)
              have n1_ := yD (yO BK194.out)
              have n2_ := yD (yP HB.out)
              clear HO_5 BK194 HB; have HO_5 := n0_; have BK194 := n1_; have HB := n2_; clear n0_ n1_ n2_
              have p200 : 0 ≤ (a1 : Int) := zP (by assumption)
              have q200 : a1 < (l0_1.length : Int) := zP (by assumption)
              obtain ⟨ad200, e200, hx200_0⟩ := Kd.at_int HR0_1.out a1 p200 q200
              have hw200_0 := hx200_0; cases e200
              replace hx200_0 := (HB.out.cell (zQ w _ hx200_0)).trans hx200_0
              replace p200 := eq_true p200; replace q200 := eq_true q200
              have p201 : 0 ≤ (a1 : Int) := zP (by assumption)
              have q201 : a1 < (l0_2.length : Int) := zP (by assumption)
              obtain ⟨ad201, e201, hx201_0⟩ := Kd.at_int HR0_2.out a1 p201 q201
              have hw201_0 := hx201_0; cases e201
              replace hx201_0 := (HB.out.cell (zQ w _ hx201_0)).trans hx201_0
              replace p201 := eq_true p201; replace q201 := eq_true q201
              refine start_ (n := 19) (S := fun w' => w'.cell? ⟨gb194, 0, none⟩ = some (.int .i64 a0_0) ∧ w'.cell? ⟨gb194, 1, none⟩ = some (.slice (some ad200) l0_1.length c0_1) ∧ w'.cell? ⟨gb194, 2, none⟩ = some (.slice (some ad201) l0_2.length c0_2) ∧ w'.cell? ⟨gb194, 3, none⟩ = some (.slice (some ad198) l0_3.length c0_3) ∧ w'.cell? ⟨gb194, 4, none⟩ = some (.slice (some ad199) l0_4.length c0_4) ∧ w'.cell? ⟨gb194, 5, none⟩ = some (.slice A0_5 l0_5.length c0_5) ∧ w'.cell? (ad200.add (a1).toNat) = some (.int .i64 (rd l0_1 a1)) ∧ w'.cell? (ad201.add (a1).toNat) = some (.int .i64 (rd l0_2 a1))) (ds := []) Q_0 (by kernel_rfl) rfl rfl ⟨(yG BK194.out 0).trans rfl, (yG BK194.out 1).trans rfl, (yG BK194.out 2).trans rfl, (yG BK194.out 3).trans rfl, (yG BK194.out 4).trans rfl, (yG BK194.out 5).trans rfl, ((HB.out.cell (zQ w _ hw200_0)).trans hw200_0), ((HB.out.cell (zQ w _ hw201_0)).trans hw201_0)⟩ (fun hHeld => ?_); refine with_tabW spec_l06Axis.tab8 spec_l06Axis.bits8 (fun HT_ HW_ => ?_)
              generalize wr.drew = w17 at HO_5 BK194 HB hx200_0 hx201_0 hHeld ⊢
              refine qA 0 27 Q_1 HT_ ?_
              refine qA 1 28 Q_2 HT_ ?_
              refine qA 3 30 Q_3 HT_ ?_
              refine qA 6 33 Q_4 HT_ ?_
              refine qA 7 34 Q_5 HT_ ?_
              refine qA 9 36 Q_6 HT_ ?_
              refine qA 14 41 Q_7 HT_ ?_
              refine qC 2 29 Q_8 HT_ HW_ hHeld ?_ (hy := by rintro w' ⟨s0, s1, s2, s3, s4, s5, s6, s7⟩; go_simp; with_reducible rfl)
              refine qA 4 31 Q_9 HT_ ?_
              refine qC 5 32 Q_10 HT_ HW_ hHeld ?_ (hy := by rintro w' ⟨s0, s1, s2, s3, s4, s5, s6, s7⟩; go_simp; with_reducible rfl)
              refine qC 8 35 Q_11 HT_ HW_ hHeld ?_ (hy := by rintro w' ⟨s0, s1, s2, s3, s4, s5, s6, s7⟩; go_simp; with_reducible rfl)
              refine qA 10 37 Q_12 HT_ ?_
              refine qC 11 38 Q_13 HT_ HW_ hHeld ?_ (hy := by rintro w' ⟨s0, s1, s2, s3, s4, s5, s6, s7⟩; go_simp; with_reducible rfl)
              refine qA 12 39 Q_14 HT_ ?_
              refine qA 13 40 Q_15 HT_ ?_
              refine qA 15 42 Q_16 HT_ ?_
              refine one_ (i := 16) (N := some 43) Q_17 rfl rfl (one_of HT_.out (by kernel_rfl)) (by decide) (fun K hK => ?_)
              refine value_ (w1 := ?_) (v := ?_) (by rfl) rfl ?_ ?_
              rotate_left 2
              ·
               go_simp
               constructor
               ·
                rfl
               ·
                rfl
              refine hK.out _ _ ⟨(yG (yN BK194.out _) 0).trans rfl, (yG (yN BK194.out _) 1).trans rfl, (yG (yN BK194.out _) 2).trans rfl, (yG (yN BK194.out _) 3).trans rfl, (yG (yN BK194.out _) 4).trans rfl, (yG (yN BK194.out _) 5).trans rfl, (World.cell?_alloc_lt _ _ _ (zQ _ _ (((HB.out.cell (zQ w _ hw200_0)).trans hw200_0)))).trans (((HB.out.cell (zQ w _ hw200_0)).trans hw200_0)), (World.cell?_alloc_lt _ _ _ (zQ _ _ (((HB.out.cell (zQ w _ hw201_0)).trans hw201_0)))).trans (((HB.out.cell (zQ w _ hw201_0)).trans hw201_0))⟩ (fun hHeld => ?_)
              clear hK K
              refine norm_ (by show Act.put _ (some 43) _ = _; simp only [Act.put, zH, zI, zJ, i64_w, i32_w]; rfl) ?_
              refine one_ (i := 17) (N := some 44) Q_18 rfl rfl (one_of HT_.out (by kernel_rfl)) (by decide) (fun K hK => ?_)
              refine Kd.R_append_step (Kd.int .i64) (w0 := w) w.heap.size (by rfl) (.tmp 27) (.tmp 43) 36 2 (.int .i64 0) 8 rfl Try.underlying36 info2 rfl (by decide) (by omega) u5 x5_2 (wrap64 ((wrap64 ((rd l0_1 a1) + (wrap64 (x6_1 * (rd l0_2 a1))))) + x7_2)) [.int .i64 (wrap64 ((wrap64 ((rd l0_1 a1) + (wrap64 (x6_1 * (rd l0_2 a1))))) + x7_2))] (fun _ => True) (fun _ => False) rfl rfl ?aP (fun _ hk => hk.elim) ?aF ?aO ?aB ?aS ?aL ?_
              (case aP => exact rfl)
              (case aB => exact (kB HB))
              (case aF => exact (fun _ _ => trivial))
              (case aO => exact (kA HO_5))
              (case aS => exact (below_size (kB HB)))
              (case aL => have := LMc15.out; omega)
              intro v203 w18 ho hb hg hat
              rw [← Ny202.out] at ho
              have n0_ := yD (blk_grown (g := gb194) (o := .cells #[.int .i64 a0_0, .slice (some ad200) l0_1.length c0_1, .slice (some ad201) l0_2.length c0_2, .slice (some ad198) l0_3.length c0_3, .slice (some ad199) l0_4.length c0_4, .slice A0_5 l0_5.length c0_5] 55 (0, 0)) (kM BK194) hg (Kd.R_ne HO_5.out BK194.out (by decide)))
              have n1_ := yD (hb)
              have n2_ := yD (ho)
              clear BK194 HB HO_5; have BK194 := n0_; have HB := n1_; have HO204 := n2_; clear n0_ n1_ n2_ ho hb hg hat
              refine hK.out _ _ ⟨(yG BK194.out 0).trans rfl, (yG BK194.out 1).trans rfl, (yG BK194.out 2).trans rfl, (yG BK194.out 3).trans rfl, (yG BK194.out 4).trans rfl, (yG BK194.out 5).trans rfl, ((HB.out.cell (zQ w _ hw200_0)).trans hw200_0), ((HB.out.cell (zQ w _ hw201_0)).trans hw201_0)⟩ (fun hHeld => ?_)
              clear hK K
              refine norm_ (by show Act.put _ (some 44) _ = _; simp only [Act.put, zH, zI, zJ, i64_w, i32_w]; rfl) ?_
              refine qA 18 5 Q_19 HT_ ?_
              refine done_ (done_of HT_.out (by kernel_rfl)) ?_
              try go_wp2
              go_roundg k2
              case measure => have := HK1.out; have := HK2.out; omega
              case rel => exact ⟨(y202), (wrap64 (x7_2 + 1)), (by first | rfl | (simp; done) | (simp [*]; done)), H', ⟨by have := HK1.out; have := HK2.out; omega⟩, ⟨by (with_reducible repeat (first | apply yA | apply yB | apply yC)); exact HO204.out⟩, ⟨by (with_reducible repeat (first | refine yM ?_ _ | refine yO ?_ | refine yN ?_ _)); exact BK194.out⟩, ⟨kR0 HB⟩⟩
             ·
              rw [if_neg c15] at H
              exact absurd H (by simp)
            ·
             rw [if_neg c14] at H
             exact absurd H (by simp)
           ·
            rw [if_neg c13] at H
            exact absurd H (by simp)
          ·
           rw [if_neg c12] at H; have c12b0 : decide (x7_2 < (rd l0_4 a1)) = false := zS c12; clear c12
           have H' := yD H
           clear H
           obtain ⟨hcz19_0, hcz19_1, hcz19_2, hcz19_3, hcz19_4, hcz19_5⟩ := cz6 BK194.out
           obtain ⟨hfz19_0, hfz19_1, hfz19_2, hfz19_3, hfz19_4, hfz19_5⟩ := fz6 BK194.out
           have p199 : 0 ≤ (a1 : Int) := zP (by assumption)
           have q199 : a1 < (l0_4.length : Int) := zP (by assumption)
           obtain ⟨ad199, e199, hx199_0⟩ := Kd.at_int HR0_4.out a1 p199 q199
           cases e199
           replace hx199_0 := (HB.out.cell (zQ w _ hx199_0)).trans hx199_0
           replace p199 := eq_true p199; replace q199 := eq_true q199
           go_wp2
           go_roundg k2
           case measure => have := HK1.out; have := HK2.out; omega
           case rel => exact ⟨(x5_2), (wrap64 (x6_1 + 1)), (by first | rfl | (simp; done) | (simp [*]; done)), H', ⟨by have := HK1.out; have := HK2.out; omega⟩, ⟨by (with_reducible repeat (first | apply yA | apply yB | apply yC)); exact HO_5.out⟩, ⟨by (with_reducible repeat (first | refine yM ?_ _ | refine yO ?_ | refine yN ?_ _)); exact BK194.out⟩, ⟨kR0 HB⟩⟩
         ·
          rw [if_neg c11] at H
          exact absurd H (by simp)
        ·
         rw [if_neg c10] at H
         exact absurd H (by simp)
     ·
      rw [if_neg c8] at H; have c8b0 : decide (x6_1 < (rd l0_3 a1)) = false := zS c8; clear c8; obtain rfl := Option.some.inj H
      obtain ⟨hcz20_0, hcz20_1, hcz20_2, hcz20_3, hcz20_4, hcz20_5⟩ := cz6 BK194.out
      obtain ⟨hfz20_0, hfz20_1, hfz20_2, hfz20_3, hfz20_4, hfz20_5⟩ := fz6 BK194.out
      have p198 : 0 ≤ (a1 : Int) := zP (by assumption)
      have q198 : a1 < (l0_3.length : Int) := zP (by assumption)
      obtain ⟨ad198, e198, hx198_0⟩ := Kd.at_int HR0_3.out a1 p198 q198
      cases e198
      replace hx198_0 := (HB.out.cell (zQ w _ hx198_0)).trans hx198_0
      replace p198 := eq_true p198; replace q198 := eq_true q198
      go_wp2
      go_ret
      exact ⟨_, by first | rfl | (simp <;> rfl) | (simp [*] <;> rfl), by (with_reducible repeat (first | apply yA | apply yB | apply yC)); exact HO_5.out, kR0 HB⟩
    ·
     rw [if_neg c7] at H
     exact absurd H (by simp)
   ·
    rw [if_neg c6] at H
    exact absurd H (by simp)

end Go.Proofs.Ytdiaebjbiddefaa.PFnExactSelectedIndices
