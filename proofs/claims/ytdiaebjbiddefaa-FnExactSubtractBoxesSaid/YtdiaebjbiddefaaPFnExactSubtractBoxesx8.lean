/- Each Go function here comes to what the plain function of its name says, where that says something. Made by a program of this session, over the print. -/
import Derived.Test.YtdiaebjbiddefaaPFnExactSubtractBoxesx0
import Derived.Test.YtdiaebjbiddefaaPFnExactSubtractBoxesx3
import Derived.Test.YtdiaebjbiddefaaPFnExactSubtractBoxesx7
namespace Go.Proofs.Ytdiaebjbiddefaa.PFnExactSubtractBoxes
open Go.RowKit Go.Proofs.YtdiaebjbiddefaaW.PrintWords Go.Proofs.YtdiaebjbiddefaaW.PrintLast Go.Proofs.YtdiaebjbiddefaaW.PrintMore
attribute [local go_sem] max2_int min2_int max_two min_two max_three min_three max_four min_four   -- for this text's walks alone
set_option linter.unusedVariables false
set_option linter.unusedSimpArgs false

/-! ### spec_l07Do: function 54 -/
def spec_l07Do.j0 : Nat → Int → List (S42) → List (S42) → Bool → Option ((List (S42)) × Int)
 | 0, _, _, _, _ => none
 | k + 1, x0, x1, x2, x39 => if x39 = true then (some (([] : List (S42)), 1)) else ((spec_l07Rank.f x1 x2).bind fun t265 => ((spec_l07Combine.f k x0 x1 x2 t265).bind fun t266 => (if (t266.length : Int) > 32 then (some (([] : List (S42)), 5)) else (some (t266, 0)))))
def spec_l07Do.f (k : Nat) (a0 : Int) (l1 : List (S42)) (l2 : List (S42)) : Option ((List (S42)) × Int) := (spec_l07List.f k l1).bind fun t261 => (if t261 = true then ((spec_l07List.f k l2).bind fun t262 => (if t262 = true then (if (l1.length : Int) > 0 then (if (l2.length : Int) > 0 then (if 0 < (l1.length : Int) then (if 0 < (l2.length : Int) then (spec_l07Do.j0 k a0 l1 l2 ((((rd_T42 l1 0).f0).length : Int) != (((rd_T42 l2 0).f0).length : Int))) else (none)) else (none)) else (spec_l07Do.j0 k a0 l1 l2 false)) else (spec_l07Do.j0 k a0 l1 l2 false)) else (spec_l07Do.j0 k a0 l1 l2 true))) else (spec_l07Do.j0 k a0 l1 l2 true))
theorem spec_l07Do.mono_l : ∀ k, (∀ y0 y1 y2 y3, LeO (spec_l07Do.j0 k y0 y1 y2 y3) (spec_l07Do.j0 (k + 1) y0 y1 y2 y3))
 | 0 => fun _ _ _ _ r h => by simp [spec_l07Do.j0] at h
 | k + 1 => by
  have ih0 := spec_l07Do.mono_l k
  · intro y0 y1 y2 y3
    unfold spec_l07Do.j0
    repeat' (with_reducible first | exact ih0 _ _ _ _ | exact spec_l07Combine.mono _ _ _ _ _ | exact spec_l07List.mono _ _ | exact LeO.refl _ | exact LeO.none _ | refine LeO.ite ?_ ?_ | refine LeO.bind ?_ (fun _ => ?_))
theorem spec_l07Do.mono : ∀ a0 a1 a2 k, LeO (spec_l07Do.f k a0 a1 a2) (spec_l07Do.f (k + 1) a0 a1 a2) := by
 intro a0 a1 a2 k
 have ih0 := spec_l07Do.mono_l k
 unfold spec_l07Do.f
 repeat' (with_reducible first | exact ih0 _ _ _ _ | exact spec_l07Combine.mono _ _ _ _ _ | exact spec_l07List.mono _ _ | exact LeO.refl _ | exact LeO.none _ | refine LeO.ite ?_ ?_ | refine LeO.bind ?_ (fun _ => ?_))
def spec_l07Do.T1 : Bool × List (List Nat × List Nat) := (true, [([], []), ([0], [0]), ([1], [1]), ([2, 1], [2]), ([3], [3]), ([4, 3, 3], [3, 4]), ([5, 3], [3, 5]), ([3, 6], [3, 6]), ([7, 5], [7]), ([8], [8]), ([9, 8], [8, 9]), ([10, 8], [8, 10]), ([11, 8, 8], [8, 11]), ([12], [12]), ([13, 12], [12, 13]), ([14, 12], [12, 14]), ([12, 15, 8], [8, 12, 15]), ([16, 12, 8], [8, 16]), ([17], [17]), ([18, 17], [17, 18]), ([19, 17], [17, 19]), ([20, 17], [17, 20]), ([21, 17], [17, 21]), ([17], [17]), ([23, 17], [17, 23]), ([24, 17], [17, 24]), ([25, 17], [17, 25]), ([26, 17], [17, 26]), ([22, 27, 17], [17, 22, 27]), ([17, 28, 8], [8, 17, 28]), ([8, 29], [8, 29])])
def spec_l07Do.B1 : List Nat := [0, 1, 3, 7, 15, 31, 63, 127, 255, 511, 1023, 2047, 4095, 8191, 16383, 32767, 65535, 131071, 262143, 524287, 1048575, 2097151, 4194303, 262143, 8650751, 25427967, 58982399, 126091263, 268435455, 536870911, 1073741823]
theorem spec_l07Do.tab1 : rtab .any (opsOf Try.f54 1) = spec_l07Do.T1 := by kernel_rfl
theorem spec_l07Do.bits1 : waitsOk spec_l07Do.T1.2 spec_l07Do.B1 = true := by kernel_rfl
set_option maxHeartbeats 8000000 in
set_option maxRecDepth 100000 in
theorem spec_l07Do.calls (k : Nat) (a0 : Int) (A1 : Option Addr) (c1 : Nat) (l1 : List (S42)) (A2 : Option Addr) (c2 : Nat) (l2 : List (S42)) (r1 : List (S42)) (r2 : Int) (w : World) (hr1 : Kd.C k42 w A1 l1.length l1) (hc1 : l1.length ≤ c1) (hr2 : Kd.C k42 w A2 l2.length l2) (hc2 : l2.length ≤ c2) (h : spec_l07Do.f k a0 l1 l2 = some (r1, r2)) :
 Calls Try.prog 54 #[.int .i64 a0, .slice A1 l1.length c1, .slice A2 l2.length c2] w fun e w' => ∃ v0_ : Value, e = .returned (.tuple #[v0_, .int .i64 r2]) ∧ Kd.S k42 42 w' w.heap.size (fun _ => True) v0_ r1 ∧ Below w.heap.size w w' := by
 have HR1 := yD hr1
 have HC1 := yD hc1
 clear hr1 hc1
 have HR2 := yD hr2
 have HC2 := yD hc2
 clear hr2 hc2
 have HB := yD (Below.refl w.heap.size w)
 have H : ((spec_l07List.f k l1).bind fun t261 => (if t261 = true then ((spec_l07List.f k l2).bind fun t262 => (if t262 = true then (if (l1.length : Int) > 0 then (if (l2.length : Int) > 0 then (if 0 < (l1.length : Int) then (if 0 < (l2.length : Int) then (spec_l07Do.j0 k a0 l1 l2 ((((rd_T42 l1 0).f0).length : Int) != (((rd_T42 l2 0).f0).length : Int))) else (none)) else (none)) else (spec_l07Do.j0 k a0 l1 l2 false)) else (spec_l07Do.j0 k a0 l1 l2 false)) else (spec_l07Do.j0 k a0 l1 l2 true))) else (spec_l07Do.j0 k a0 l1 l2 true))) = some (r1, r2) := h
 clear h
 have HC4 := yD H
 clear H; go_enter Try.func54, Try.ntmps54
 go_upto_region 1 with (fail)
 go_cut [39] (fun v39 wc => ∃ (kq : Nat) (x39_3 : Bool), v39 = .bool x39_3 ∧ Aside0 (spec_l07Do.j0 kq a0 l1 l2 x39_3 = some (r1, r2)) ∧ Aside0 (kq ≤ k) ∧ Aside0 (Below w.heap.size w wc))
 case first =>
  have H := HC4.out; clear HC4
  obtain ⟨t261, A50, H⟩ := zW_ H
  replace H : (if t261 = true then ((spec_l07List.f k l2).bind fun t262 => (if t262 = true then (if (l1.length : Int) > 0 then (if (l2.length : Int) > 0 then (if 0 < (l1.length : Int) then (if 0 < (l2.length : Int) then (spec_l07Do.j0 k a0 l1 l2 ((((rd_T42 l1 0).f0).length : Int) != (((rd_T42 l2 0).f0).length : Int))) else (none)) else (none)) else (spec_l07Do.j0 k a0 l1 l2 false)) else (spec_l07Do.j0 k a0 l1 l2 false)) else (spec_l07Do.j0 k a0 l1 l2 true))) else (spec_l07Do.j0 k a0 l1 l2 true)) = some (r1, r2) := H
  have A5 := yD A50
  clear A50
  by_cases c6 : t261 = true
  ·
   subst c6
   replace H : ((spec_l07List.f k l2).bind fun t262 => (if t262 = true then (if (l1.length : Int) > 0 then (if (l2.length : Int) > 0 then (if 0 < (l1.length : Int) then (if 0 < (l2.length : Int) then (spec_l07Do.j0 k a0 l1 l2 ((((rd_T42 l1 0).f0).length : Int) != (((rd_T42 l2 0).f0).length : Int))) else (none)) else (none)) else (spec_l07Do.j0 k a0 l1 l2 false)) else (spec_l07Do.j0 k a0 l1 l2 false)) else (spec_l07Do.j0 k a0 l1 l2 true))) = some (r1, r2) := (by rw [if_pos rfl] at H; exact H)
   obtain ⟨t262, A70, H⟩ := zW_ H
   replace H : (if t262 = true then (if (l1.length : Int) > 0 then (if (l2.length : Int) > 0 then (if 0 < (l1.length : Int) then (if 0 < (l2.length : Int) then (spec_l07Do.j0 k a0 l1 l2 ((((rd_T42 l1 0).f0).length : Int) != (((rd_T42 l2 0).f0).length : Int))) else (none)) else (none)) else (spec_l07Do.j0 k a0 l1 l2 false)) else (spec_l07Do.j0 k a0 l1 l2 false)) else (spec_l07Do.j0 k a0 l1 l2 true)) = some (r1, r2) := H
   have A7 := yD A70
   clear A70
   by_cases c8 : t262 = true
   ·
    subst c8
    replace H : (if (l1.length : Int) > 0 then (if (l2.length : Int) > 0 then (if 0 < (l1.length : Int) then (if 0 < (l2.length : Int) then (spec_l07Do.j0 k a0 l1 l2 ((((rd_T42 l1 0).f0).length : Int) != (((rd_T42 l2 0).f0).length : Int))) else (none)) else (none)) else (spec_l07Do.j0 k a0 l1 l2 false)) else (spec_l07Do.j0 k a0 l1 l2 false)) = some (r1, r2) := (by rw [if_pos rfl] at H; exact H)
    by_cases c9 : (l1.length : Int) > 0
    ·
     rw [if_pos c9] at H
     have c9b0 : decide (0 < (l1.length : Int)) = true := zR c9
     have c9b1 : decide (0 < l1.length) = true := zR (by omega)
     clear c9
     (first | rw [c9b0] | (simp only [i64_w, i32_w]; rw [c9b0]) | (simp only [bne] at c9b0; rw [c9b0]) | skip)
     by_cases c10 : (l2.length : Int) > 0
     ·
      rw [if_pos c10] at H
      have c10b0 : decide (0 < (l2.length : Int)) = true := zR c10
      have c10b1 : decide (0 < l2.length) = true := zR (by omega)
      clear c10
      by_cases c11 : 0 < (l1.length : Int)
      ·
       rw [if_pos c11] at H
       have c11b0 : decide (0 < (l1.length : Int)) = true := zR c11
       have c11b1 : decide (0 < l1.length) = true := zR (by omega)
       clear c11
       by_cases c12 : 0 < (l2.length : Int)
       ·
        rw [if_pos c12] at H
        have c12b0 : decide (0 < (l2.length : Int)) = true := zR c12
        have c12b1 : decide (0 < l2.length) = true := zR (by omega)
        clear c12
        have H' := yD H
        clear H
        try go_wp2
        have n0_ := yD (yP HB.out)
        clear HB; have HB := n0_; clear n0_
        have p263 : 0 ≤ (0 : Int) := (by omega)
        have q263 : 0 < (l1.length : Int) := zP (by assumption)
        obtain ⟨ad263, A263_0, c263_0, A263_1, c263_1, e263, hx263_0, hx263_1, hl263_0, hi263_0, hl263_1, hi263_1⟩ := at_T42 HR1.out 0 p263 q263
        have hw263_1 := hx263_1
        (try rw [show ((0 : Int)).toNat = 0 from rfl] at hw263_1)
        (try rw [show 0 * 2 = 0 from rfl] at hw263_1)
        (try rw [Addr.add_zero'] at hw263_1)
        have hw263_0 := hx263_0
        (try rw [show ((0 : Int)).toNat = 0 from rfl] at hw263_0)
        (try rw [show 0 * 2 = 0 from rfl] at hw263_0)
        (try rw [Addr.add_zero'] at hw263_0)
        cases e263
        have qi263 : (0 < l1.length) = True := eq_true (by omega)
        (try rw [show ((0 : Int)).toNat = 0 from rfl] at hx263_0)
        (try rw [show 0 * 2 = 0 from rfl] at hx263_0)
        (try rw [Addr.add_zero'] at hx263_0)
        (try rw [show ((0 : Int)).toNat = 0 from rfl] at hx263_1)
        (try rw [show 0 * 2 = 0 from rfl] at hx263_1)
        (try rw [Addr.add_zero'] at hx263_1)
        replace hx263_0 := (HB.out.cell (zQ w _ hx263_0)).trans hx263_0
        replace hx263_1 := (HB.out.cell (zQ w _ hx263_1)).trans hx263_1
        have HR263_0 := yD hi263_0
        have HC263_0 := yD hl263_0
        clear hi263_0 hl263_0
        have HR263_1 := yD hi263_1
        have HC263_1 := yD hl263_1
        clear hi263_1 hl263_1; replace p263 := eq_true p263; replace q263 := eq_true q263
        have p264 : 0 ≤ (0 : Int) := (by omega)
        have q264 : 0 < (l2.length : Int) := zP (by assumption)
        obtain ⟨ad264, A264_0, c264_0, A264_1, c264_1, e264, hx264_0, hx264_1, hl264_0, hi264_0, hl264_1, hi264_1⟩ := at_T42 HR2.out 0 p264 q264
        have hw264_1 := hx264_1
        (try rw [show ((0 : Int)).toNat = 0 from rfl] at hw264_1)
        (try rw [show 0 * 2 = 0 from rfl] at hw264_1)
        (try rw [Addr.add_zero'] at hw264_1)
        have hw264_0 := hx264_0
        (try rw [show ((0 : Int)).toNat = 0 from rfl] at hw264_0)
        (try rw [show 0 * 2 = 0 from rfl] at hw264_0)
        (try rw [Addr.add_zero'] at hw264_0)
        cases e264
        have qi264 : (0 < l2.length) = True := eq_true (by omega)
        (try rw [show ((0 : Int)).toNat = 0 from rfl] at hx264_0)
        (try rw [show 0 * 2 = 0 from rfl] at hx264_0)
        (try rw [Addr.add_zero'] at hx264_0)
        (try rw [show ((0 : Int)).toNat = 0 from rfl] at hx264_1)
        (try rw [show 0 * 2 = 0 from rfl] at hx264_1)
        (try rw [Addr.add_zero'] at hx264_1)
        replace hx264_0 := (HB.out.cell (zQ w _ hx264_0)).trans hx264_0
        replace hx264_1 := (HB.out.cell (zQ w _ hx264_1)).trans hx264_1
        have HR264_0 := yD hi264_0
        have HC264_0 := yD hl264_0
        clear hi264_0 hl264_0
        have HR264_1 := yD hi264_1
        have HC264_1 := yD hl264_1
        clear hi264_1 hl264_1; replace p264 := eq_true p264; replace q264 := eq_true q264
        refine start_ (n := 31) (S := fun w' => w'.cell? ad263 = some (.slice A263_0 ((rd_T42 l1 0).f0).length c263_0) ∧ w'.cell? ⟨ad263.block, ad263.off + 1, none⟩ = some (.slice A263_1 ((rd_T42 l1 0).f1).length c263_1) ∧ w'.cell? ad264 = some (.slice A264_0 ((rd_T42 l2 0).f0).length c264_0) ∧ w'.cell? ⟨ad264.block, ad264.off + 1, none⟩ = some (.slice A264_1 ((rd_T42 l2 0).f1).length c264_1)) (ds := []) (bz 31 0) (by kernel_rfl) rfl rfl ⟨((HB.out.cell (zQ w _ hw263_0)).trans hw263_0), ((HB.out.cell (zQ w _ hw263_1)).trans hw263_1), ((HB.out.cell (zQ w _ hw264_0)).trans hw264_0), ((HB.out.cell (zQ w _ hw264_1)).trans hw264_1)⟩ (fun hHeld => ?_); refine with_tabW spec_l07Do.tab1 spec_l07Do.bits1 (fun HT_ HW_ => ?_)
        generalize w.drew = w13 at HB HR263_0 HR263_1 HR264_0 HR264_1 hx263_0 hx263_1 hx264_0 hx264_1 hHeld ⊢
        refine qA 0 9 (bz 31 1) HT_ ?_
        refine one_ (i := 1) (N := some 10) (bz 31 3) rfl rfl (one_of HT_.out (by kernel_rfl)) (by decide) (fun K hK => ?_)
        refine goes_ Try.func70 (by kernel_rfl) rfl #[.slice (some ad263) l1.length c1] (by rfl) rfl rfl (by (try simp only [zK, zL, zM]); first | done | rfl | (simp only [zN, zO]; rfl)) ?_
        with_reducible refine (spec_l07List.calls k _ _ l1 true _ ?side1 ?side2 A5.out).mono ?_
        (case side1 => exact kV (yY HR1.out HB.out))
        (case side2 => exact HC1.out)
        rintro e w14 ⟨rfl, hb⟩
        refine ⟨_, rfl, ?_⟩
        have n0_ := yD (zC (kB HB) hb)
        clear HB; have HB := n0_; clear n0_; (try clear hb); (try clear hb2); (try clear hk); (try clear hi)
        refine hK.out _ _ ⟨((HB.out.cell (zQ w _ hw263_0)).trans hw263_0), ((HB.out.cell (zQ w _ hw263_1)).trans hw263_1), ((HB.out.cell (zQ w _ hw264_0)).trans hw264_0), ((HB.out.cell (zQ w _ hw264_1)).trans hw264_1)⟩ (fun hHeld => ?_)
        clear hK K
        refine norm_ (a' := ?_) ?_ ?_
        rotate_left
        · show Act.put _ (some 10) _ = _
          simp only [Act.put, zH, zI, zJ, i64_w, i32_w]
          rfl
        refine qA 2 11 (bz 31 7) HT_ ?_
        refine qA 3 12 (bz 31 15) HT_ ?_
        refine qA 4 13 (bz 31 31) HT_ ?_
        refine one_ (i := 5) (N := some 14) (bz 31 63) rfl rfl (one_of HT_.out (by kernel_rfl)) (by decide) (fun K hK => ?_)
        refine goes_ Try.func70 (by kernel_rfl) rfl #[.slice (some ad264) l2.length c2] (by rfl) rfl rfl (by (try simp only [zK, zL, zM]); first | done | rfl | (simp only [zN, zO]; rfl)) ?_
        with_reducible refine (spec_l07List.calls k _ _ l2 true _ ?side1 ?side2 A7.out).mono ?_
        (case side1 => exact kV (yY HR2.out HB.out))
        (case side2 => exact HC2.out)
        rintro e w15 ⟨rfl, hb⟩
        refine ⟨_, rfl, ?_⟩
        have n0_ := yD (zC (kB HB) hb)
        clear HB; have HB := n0_; clear n0_; (try clear hb); (try clear hb2); (try clear hk); (try clear hi)
        refine hK.out _ _ ⟨((HB.out.cell (zQ w _ hw263_0)).trans hw263_0), ((HB.out.cell (zQ w _ hw263_1)).trans hw263_1), ((HB.out.cell (zQ w _ hw264_0)).trans hw264_0), ((HB.out.cell (zQ w _ hw264_1)).trans hw264_1)⟩ (fun hHeld => ?_)
        clear hK K
        refine norm_ (a' := ?_) ?_ ?_
        rotate_left
        · show Act.put _ (some 14) _ = _
          simp only [Act.put, zH, zI, zJ, i64_w, i32_w]
          rfl
        refine qA 6 15 (bz 31 127) HT_ ?_
        refine qA 7 16 (bz 31 255) HT_ ?_
        refine qA 8 17 (bz 31 511) HT_ ?_
        refine qA 9 18 (bz 31 1023) HT_ ?_
        refine qA 10 19 (bz 31 2047) HT_ ?_
        refine qA 11 20 (bz 31 4095) HT_ ?_
        refine qA 12 21 (bz 31 8191) HT_ ?_
        refine qA 13 22 (bz 31 16383) HT_ ?_
        refine qA 14 23 (bz 31 32767) HT_ ?_
        refine qA 15 24 (bz 31 65535) HT_ ?_
        refine qA 16 25 (bz 31 131071) HT_ ?_
        refine qA 17 26 (bz 31 262143) HT_ ?_
        refine qA 18 27 (bz 31 524287) HT_ ?_
        refine qA 19 28 (bz 31 1048575) HT_ ?_
        refine qA 20 29 (bz 31 2097151) HT_ ?_
        refine qA 23 32 (bz 31 10485759) HT_ ?_
        refine qA 24 33 (bz 31 27262975) HT_ ?_
        refine qA 25 34 (bz 31 60817407) HT_ ?_
        refine qC 21 30 (bz 31 62914559) HT_ HW_ hHeld ?_ (hy := by rintro w' ⟨s0, s1, s2, s3⟩; go_simp; with_reducible rfl)
        refine qA 22 31 (bz 31 67108863) HT_ ?_
        refine qC 26 35 (bz 31 134217727) HT_ HW_ hHeld ?_ (hy := by rintro w' ⟨s0, s1, s2, s3⟩; go_simp; with_reducible rfl)
        refine qA 27 36 (bz 31 268435455) HT_ ?_
        refine qA 28 37 (bz 31 536870911) HT_ ?_
        refine qA 29 38 (bz 31 1073741823) HT_ ?_
        refine qA 30 39 (bz 31 2147483647) HT_ ?_
        refine done_ (done_of HT_.out (by kernel_rfl)) ?_
        try go_wp2
        go_meet
        case rel => exact ⟨_, (((((rd_T42 l1 0).f0).length : Int) != (((rd_T42 l2 0).f0).length : Int))), (by first | rfl | (simp; done) | (simp [*]; done)), H', ⟨by first | omega | exact Nat.le_refl _⟩, ⟨kR1 HB⟩⟩
       · rw [if_neg c12] at H
         exact absurd H (by simp)
      · rw [if_neg c11] at H
        exact absurd H (by simp)
     ·
      rw [if_neg c10] at H
      have c10b0 : decide (0 < (l2.length : Int)) = false := zS c10
      have c10b1 : decide (0 < l2.length) = false := zS (by omega)
      clear c10
      have H' := yD H
      clear H
      try go_wp2
      have n0_ := yD (yP HB.out)
      clear HB; have HB := n0_; clear n0_
      refine start_ (n := 31) (S := fun w' => True) (ds := []) (bz 31 0) (by kernel_rfl) rfl rfl trivial (fun hHeld => ?_); refine with_tabW spec_l07Do.tab1 spec_l07Do.bits1 (fun HT_ HW_ => ?_)
      generalize w.drew = w16 at HB hHeld ⊢
      refine qA 0 9 (bz 31 1) HT_ ?_
      refine one_ (i := 1) (N := some 10) (bz 31 3) rfl rfl (one_of HT_.out (by kernel_rfl)) (by decide) (fun K hK => ?_)
      refine goes_ Try.func70 (by kernel_rfl) rfl #[.slice A1 l1.length c1] (by rfl) rfl rfl (by (try simp only [zK, zL, zM]); first | done | rfl | (simp only [zN, zO]; rfl)) ?_
      with_reducible refine (spec_l07List.calls k _ _ l1 true _ ?side1 ?side2 A5.out).mono ?_
      (case side1 => exact kV (yY HR1.out HB.out))
      (case side2 => exact HC1.out)
      rintro e w17 ⟨rfl, hb⟩
      refine ⟨_, rfl, ?_⟩
      have n0_ := yD (zC (kB HB) hb)
      clear HB; have HB := n0_; clear n0_; (try clear hb); (try clear hb2); (try clear hk); (try clear hi)
      refine hK.out _ _ trivial (fun hHeld => ?_)
      clear hK K
      refine norm_ (a' := ?_) ?_ ?_
      rotate_left
      · show Act.put _ (some 10) _ = _
        simp only [Act.put, zH, zI, zJ, i64_w, i32_w]
        rfl
      refine qA 2 11 (bz 31 7) HT_ ?_
      refine qA 3 12 (bz 31 15) HT_ ?_
      refine qA 4 13 (bz 31 31) HT_ ?_
      refine one_ (i := 5) (N := some 14) (bz 31 63) rfl rfl (one_of HT_.out (by kernel_rfl)) (by decide) (fun K hK => ?_)
      refine goes_ Try.func70 (by kernel_rfl) rfl #[.slice A2 l2.length c2] (by rfl) rfl rfl (by (try simp only [zK, zL, zM]); first | done | rfl | (simp only [zN, zO]; rfl)) ?_
      with_reducible refine (spec_l07List.calls k _ _ l2 true _ ?side1 ?side2 A7.out).mono ?_
      (case side1 => exact kV (yY HR2.out HB.out))
      (case side2 => exact HC2.out)
      rintro e w18 ⟨rfl, hb⟩
      refine ⟨_, rfl, ?_⟩
      have n0_ := yD (zC (kB HB) hb)
      clear HB; have HB := n0_; clear n0_; (try clear hb); (try clear hb2); (try clear hk); (try clear hi)
      refine hK.out _ _ trivial (fun hHeld => ?_)
      clear hK K
      refine norm_ (a' := ?_) ?_ ?_
      rotate_left
      · show Act.put _ (some 14) _ = _
        simp only [Act.put, zH, zI, zJ, i64_w, i32_w]
        rfl
      refine qA 6 15 (bz 31 127) HT_ ?_
      refine qA 7 16 (bz 31 255) HT_ ?_
      refine qA 8 17 (bz 31 511) HT_ ?_
      refine qA 9 18 (bz 31 1023) HT_ ?_
      refine qA 10 19 (bz 31 2047) HT_ ?_
      refine qA 11 20 (bz 31 4095) HT_ ?_
      refine qA 12 21 (bz 31 8191) HT_ ?_
      refine qA 13 22 (bz 31 16383) HT_ ?_
      refine qA 14 23 (bz 31 32767) HT_ ?_
      refine qA 15 24 (bz 31 65535) HT_ ?_
      refine qA 16 25 (bz 31 131071) HT_ ?_
      refine qA 17 26 (bz 31 262143) HT_ ?_
      refine qB 18 27 (bz 31 524287) HT_ ?_
      refine qB 19 28 (bz 31 1048575) HT_ ?_
      refine qB 20 29 (bz 31 2097151) HT_ ?_
      refine qB 21 30 (bz 31 4194303) HT_ ?_
      refine qB 22 31 (bz 31 8388607) HT_ ?_
      refine qB 23 32 (bz 31 16777215) HT_ ?_
      refine qB 24 33 (bz 31 33554431) HT_ ?_
      refine qB 25 34 (bz 31 67108863) HT_ ?_
      refine qB 26 35 (bz 31 134217727) HT_ ?_
      refine qB 27 36 (bz 31 268435455) HT_ ?_
      refine qB 28 37 (bz 31 536870911) HT_ ?_
      refine qA 29 38 (bz 31 1073741823) HT_ ?_
      refine qA 30 39 (bz 31 2147483647) HT_ ?_
      refine done_ (done_of HT_.out (by kernel_rfl)) ?_
      try go_wp2
      go_meet
      case rel => exact ⟨_, (false), (by first | rfl | (simp; done) | (simp [*]; done)), H', ⟨by first | omega | exact Nat.le_refl _⟩, ⟨kR1 HB⟩⟩
    ·
     rw [if_neg c9] at H
     have c9b0 : decide (0 < (l1.length : Int)) = false := zS c9
     have c9b1 : decide (0 < l1.length) = false := zS (by omega)
     clear c9
     (first | rw [c9b0] | (simp only [i64_w, i32_w]; rw [c9b0]) | (simp only [bne] at c9b0; rw [c9b0]) | skip)
     have H' := yD H
     clear H
     try go_wp2
     have n0_ := yD (yP HB.out)
     clear HB; have HB := n0_; clear n0_
     refine start_ (n := 31) (S := fun w' => True) (ds := []) (bz 31 0) (by kernel_rfl) rfl rfl trivial (fun hHeld => ?_); refine with_tabW spec_l07Do.tab1 spec_l07Do.bits1 (fun HT_ HW_ => ?_)
     generalize w.drew = w19 at HB hHeld ⊢
     refine qA 0 9 (bz 31 1) HT_ ?_
     refine one_ (i := 1) (N := some 10) (bz 31 3) rfl rfl (one_of HT_.out (by kernel_rfl)) (by decide) (fun K hK => ?_)
     refine goes_ Try.func70 (by kernel_rfl) rfl #[.slice A1 l1.length c1] (by rfl) rfl rfl (by (try simp only [zK, zL, zM]); first | done | rfl | (simp only [zN, zO]; rfl)) ?_
     with_reducible refine (spec_l07List.calls k _ _ l1 true _ ?side1 ?side2 A5.out).mono ?_
     (case side1 => exact kV (yY HR1.out HB.out))
     (case side2 => exact HC1.out)
     rintro e w20 ⟨rfl, hb⟩
     refine ⟨_, rfl, ?_⟩
     have n0_ := yD (zC (kB HB) hb)
     clear HB; have HB := n0_; clear n0_; (try clear hb); (try clear hb2); (try clear hk); (try clear hi)
     refine hK.out _ _ trivial (fun hHeld => ?_)
     clear hK K
     refine norm_ (a' := ?_) ?_ ?_
     rotate_left
     · show Act.put _ (some 10) _ = _
       simp only [Act.put, zH, zI, zJ, i64_w, i32_w]
       rfl
     refine qA 2 11 (bz 31 7) HT_ ?_
     refine qA 3 12 (bz 31 15) HT_ ?_
     refine qA 4 13 (bz 31 31) HT_ ?_
     refine one_ (i := 5) (N := some 14) (bz 31 63) rfl rfl (one_of HT_.out (by kernel_rfl)) (by decide) (fun K hK => ?_)
     refine goes_ Try.func70 (by kernel_rfl) rfl #[.slice A2 l2.length c2] (by rfl) rfl rfl (by (try simp only [zK, zL, zM]); first | done | rfl | (simp only [zN, zO]; rfl)) ?_
     with_reducible refine (spec_l07List.calls k _ _ l2 true _ ?side1 ?side2 A7.out).mono ?_
     (case side1 => exact kV (yY HR2.out HB.out))
     (case side2 => exact HC2.out)
     rintro e w21 ⟨rfl, hb⟩
     refine ⟨_, rfl, ?_⟩
     have n0_ := yD (zC (kB HB) hb)
     clear HB; have HB := n0_; clear n0_; (try clear hb); (try clear hb2); (try clear hk); (try clear hi)
     refine hK.out _ _ trivial (fun hHeld => ?_)
     clear hK K
     refine norm_ (a' := ?_) ?_ ?_
     rotate_left
     · show Act.put _ (some 14) _ = _
       simp only [Act.put, zH, zI, zJ, i64_w, i32_w]
       rfl
     refine qA 6 15 (bz 31 127) HT_ ?_
     refine qA 7 16 (bz 31 255) HT_ ?_
     refine qA 8 17 (bz 31 511) HT_ ?_
     refine qA 9 18 (bz 31 1023) HT_ ?_
     refine qA 10 19 (bz 31 2047) HT_ ?_
     refine qA 11 20 (bz 31 4095) HT_ ?_
     refine qA 12 21 (bz 31 8191) HT_ ?_
     refine qB 13 22 (bz 31 16383) HT_ ?_
     refine qB 14 23 (bz 31 32767) HT_ ?_
     refine qB 15 24 (bz 31 65535) HT_ ?_
     refine qA 16 25 (bz 31 131071) HT_ ?_
     refine qA 17 26 (bz 31 262143) HT_ ?_
     refine qB 18 27 (bz 31 524287) HT_ ?_
     refine qB 19 28 (bz 31 1048575) HT_ ?_
     refine qB 20 29 (bz 31 2097151) HT_ ?_
     refine qB 21 30 (bz 31 4194303) HT_ ?_
     refine qB 22 31 (bz 31 8388607) HT_ ?_
     refine qB 23 32 (bz 31 16777215) HT_ ?_
     refine qB 24 33 (bz 31 33554431) HT_ ?_
     refine qB 25 34 (bz 31 67108863) HT_ ?_
     refine qB 26 35 (bz 31 134217727) HT_ ?_
     refine qB 27 36 (bz 31 268435455) HT_ ?_
     refine qB 28 37 (bz 31 536870911) HT_ ?_
     refine qA 29 38 (bz 31 1073741823) HT_ ?_
     refine qA 30 39 (bz 31 2147483647) HT_ ?_
     refine done_ (done_of HT_.out (by kernel_rfl)) ?_
     try go_wp2
     go_meet
     case rel => exact ⟨_, (false), (by first | rfl | (simp; done) | (simp [*]; done)), H', ⟨by first | omega | exact Nat.le_refl _⟩, ⟨kR1 HB⟩⟩
   ·
    replace c8 := Bool.eq_false_iff.mpr c8
    subst c8
    replace H : (spec_l07Do.j0 k a0 l1 l2 true) = some (r1, r2) := (by rw [if_neg (show ¬ (false = true) by decide)] at H; exact H)
    have H' := yD H
    clear H
    try go_wp2
    have n0_ := yD (yP HB.out)
    clear HB; have HB := n0_; clear n0_
    refine start_ (n := 31) (S := fun w' => True) (ds := []) (bz 31 0) (by kernel_rfl) rfl rfl trivial (fun hHeld => ?_); refine with_tabW spec_l07Do.tab1 spec_l07Do.bits1 (fun HT_ HW_ => ?_)
    generalize w.drew = w22 at HB hHeld ⊢
    refine qA 0 9 (bz 31 1) HT_ ?_
    refine one_ (i := 1) (N := some 10) (bz 31 3) rfl rfl (one_of HT_.out (by kernel_rfl)) (by decide) (fun K hK => ?_)
    refine goes_ Try.func70 (by kernel_rfl) rfl #[.slice A1 l1.length c1] (by rfl) rfl rfl (by (try simp only [zK, zL, zM]); first | done | rfl | (simp only [zN, zO]; rfl)) ?_
    with_reducible refine (spec_l07List.calls k _ _ l1 true _ ?side1 ?side2 A5.out).mono ?_
    (case side1 => exact kV (yY HR1.out HB.out))
    (case side2 => exact HC1.out)
    rintro e w23 ⟨rfl, hb⟩
    refine ⟨_, rfl, ?_⟩
    have n0_ := yD (zC (kB HB) hb)
    clear HB; have HB := n0_; clear n0_; (try clear hb); (try clear hb2); (try clear hk); (try clear hi)
    refine hK.out _ _ trivial (fun hHeld => ?_)
    clear hK K
    refine norm_ (a' := ?_) ?_ ?_
    rotate_left
    · show Act.put _ (some 10) _ = _
      simp only [Act.put, zH, zI, zJ, i64_w, i32_w]
      rfl
    refine qA 2 11 (bz 31 7) HT_ ?_
    refine qA 3 12 (bz 31 15) HT_ ?_
    refine qA 4 13 (bz 31 31) HT_ ?_
    refine one_ (i := 5) (N := some 14) (bz 31 63) rfl rfl (one_of HT_.out (by kernel_rfl)) (by decide) (fun K hK => ?_)
    refine goes_ Try.func70 (by kernel_rfl) rfl #[.slice A2 l2.length c2] (by rfl) rfl rfl (by (try simp only [zK, zL, zM]); first | done | rfl | (simp only [zN, zO]; rfl)) ?_
    with_reducible refine (spec_l07List.calls k _ _ l2 false _ ?side1 ?side2 A7.out).mono ?_
    (case side1 => exact kV (yY HR2.out HB.out))
    (case side2 => exact HC2.out)
    rintro e w24 ⟨rfl, hb⟩
    refine ⟨_, rfl, ?_⟩
    have n0_ := yD (zC (kB HB) hb)
    clear HB; have HB := n0_; clear n0_; (try clear hb); (try clear hb2); (try clear hk); (try clear hi)
    refine hK.out _ _ trivial (fun hHeld => ?_)
    clear hK K
    refine norm_ (a' := ?_) ?_ ?_
    rotate_left
    · show Act.put _ (some 14) _ = _
      simp only [Act.put, zH, zI, zJ, i64_w, i32_w]
      rfl
    refine qA 6 15 (bz 31 127) HT_ ?_
    refine qA 7 16 (bz 31 255) HT_ ?_
    refine qA 8 17 (bz 31 511) HT_ ?_
    refine qB 9 18 (bz 31 1023) HT_ ?_
    refine qB 10 19 (bz 31 2047) HT_ ?_
    refine qB 11 20 (bz 31 4095) HT_ ?_
    refine qB 12 21 (bz 31 8191) HT_ ?_
    refine qB 13 22 (bz 31 16383) HT_ ?_
    refine qB 14 23 (bz 31 32767) HT_ ?_
    refine qB 15 24 (bz 31 65535) HT_ ?_
    refine qB 16 25 (bz 31 131071) HT_ ?_
    refine qB 17 26 (bz 31 262143) HT_ ?_
    refine qB 18 27 (bz 31 524287) HT_ ?_
    refine qB 19 28 (bz 31 1048575) HT_ ?_
    refine qB 20 29 (bz 31 2097151) HT_ ?_
    refine qB 21 30 (bz 31 4194303) HT_ ?_
    refine qB 22 31 (bz 31 8388607) HT_ ?_
    refine qB 23 32 (bz 31 16777215) HT_ ?_
    refine qB 24 33 (bz 31 33554431) HT_ ?_
    refine qB 25 34 (bz 31 67108863) HT_ ?_
    refine qB 26 35 (bz 31 134217727) HT_ ?_
    refine qB 27 36 (bz 31 268435455) HT_ ?_
    refine qB 28 37 (bz 31 536870911) HT_ ?_
    refine qB 29 38 (bz 31 1073741823) HT_ ?_
    refine qA 30 39 (bz 31 2147483647) HT_ ?_
    refine done_ (done_of HT_.out (by kernel_rfl)) ?_
    try go_wp2
    go_meet
    case rel => exact ⟨_, (true), (by first | rfl | (simp; done) | (simp [*]; done)), H', ⟨by first | omega | exact Nat.le_refl _⟩, ⟨kR1 HB⟩⟩
  ·
   replace c6 := Bool.eq_false_iff.mpr c6
   subst c6
   replace H : (spec_l07Do.j0 k a0 l1 l2 true) = some (r1, r2) := (by rw [if_neg (show ¬ (false = true) by decide)] at H; exact H)
   have H' := yD H
   clear H
   try go_wp2
   have n0_ := yD (yP HB.out)
   clear HB; have HB := n0_; clear n0_
   refine start_ (n := 31) (S := fun w' => True) (ds := []) (bz 31 0) (by kernel_rfl) rfl rfl trivial (fun hHeld => ?_); refine with_tabW spec_l07Do.tab1 spec_l07Do.bits1 (fun HT_ HW_ => ?_)
   generalize w.drew = w25 at HB hHeld ⊢
   refine qA 0 9 (bz 31 1) HT_ ?_
   refine one_ (i := 1) (N := some 10) (bz 31 3) rfl rfl (one_of HT_.out (by kernel_rfl)) (by decide) (fun K hK => ?_)
   refine goes_ Try.func70 (by kernel_rfl) rfl #[.slice A1 l1.length c1] (by rfl) rfl rfl (by (try simp only [zK, zL, zM]); first | done | rfl | (simp only [zN, zO]; rfl)) ?_
   with_reducible refine (spec_l07List.calls k _ _ l1 false _ ?side1 ?side2 A5.out).mono ?_
   (case side1 => exact kV (yY HR1.out HB.out))
   (case side2 => exact HC1.out)
   rintro e w26 ⟨rfl, hb⟩
   refine ⟨_, rfl, ?_⟩
   have n0_ := yD (zC (kB HB) hb)
   clear HB; have HB := n0_; clear n0_; (try clear hb); (try clear hb2); (try clear hk); (try clear hi)
   refine hK.out _ _ trivial (fun hHeld => ?_)
   clear hK K
   refine norm_ (a' := ?_) ?_ ?_
   rotate_left
   · show Act.put _ (some 10) _ = _
     simp only [Act.put, zH, zI, zJ, i64_w, i32_w]
     rfl
   refine qA 2 11 (bz 31 7) HT_ ?_
   refine qA 3 12 (bz 31 15) HT_ ?_
   refine qB 4 13 (bz 31 31) HT_ ?_
   refine qB 5 14 (bz 31 63) HT_ ?_
   refine qB 6 15 (bz 31 127) HT_ ?_
   refine qA 7 16 (bz 31 255) HT_ ?_
   refine qA 8 17 (bz 31 511) HT_ ?_
   refine qB 9 18 (bz 31 1023) HT_ ?_
   refine qB 10 19 (bz 31 2047) HT_ ?_
   refine qB 11 20 (bz 31 4095) HT_ ?_
   refine qB 12 21 (bz 31 8191) HT_ ?_
   refine qB 13 22 (bz 31 16383) HT_ ?_
   refine qB 14 23 (bz 31 32767) HT_ ?_
   refine qB 15 24 (bz 31 65535) HT_ ?_
   refine qB 16 25 (bz 31 131071) HT_ ?_
   refine qB 17 26 (bz 31 262143) HT_ ?_
   refine qB 18 27 (bz 31 524287) HT_ ?_
   refine qB 19 28 (bz 31 1048575) HT_ ?_
   refine qB 20 29 (bz 31 2097151) HT_ ?_
   refine qB 21 30 (bz 31 4194303) HT_ ?_
   refine qB 22 31 (bz 31 8388607) HT_ ?_
   refine qB 23 32 (bz 31 16777215) HT_ ?_
   refine qB 24 33 (bz 31 33554431) HT_ ?_
   refine qB 25 34 (bz 31 67108863) HT_ ?_
   refine qB 26 35 (bz 31 134217727) HT_ ?_
   refine qB 27 36 (bz 31 268435455) HT_ ?_
   refine qB 28 37 (bz 31 536870911) HT_ ?_
   refine qB 29 38 (bz 31 1073741823) HT_ ?_
   refine qA 30 39 (bz 31 2147483647) HT_ ?_
   refine done_ (done_of HT_.out (by kernel_rfl)) ?_
   try go_wp2
   go_meet
   case rel => exact ⟨_, (true), (by first | rfl | (simp; done) | (simp [*]; done)), H', ⟨by first | omega | exact Nat.le_refl _⟩, ⟨kR1 HB⟩⟩
 case rest =>
  clear HC4; try clear c1; try clear c2; try clear c6; try clear c8
  obtain ⟨kq, x39_3, rfl, HA, HJ3, HB⟩ := hcut
  cases kq with
  | zero => exact absurd HA.out (by simp [spec_l07Do.j0])
  | succ kj3 =>
   have H := HA.out; clear HA
   simp only [spec_l07Do.j0] at H
   by_cases c27 : x39_3 = true
   · subst c27
     replace H : (some (([] : List (S42)), 1)) = some (r1, r2) := (by rw [if_pos rfl] at H; exact H)
     simp only [Option.some.injEq, Prod.mk.injEq] at H
     obtain ⟨rfl, rfl⟩ := H
     go_wp2
     go_ret2
     exact ⟨_, by first | rfl | (simp <;> rfl) | (simp [*] <;> rfl), by first | exact Kd.S_nil _ _ _ _ _ | exact Kd.N_nil _ _ _ _ _ | exact Kd.V_nil _ _ _ _ _ | exact Kd.Q_nil _ _ _ _ _ | exact Kd.R_nil _ _ _ _ _, kR1 HB⟩
   ·
    replace c27 := Bool.eq_false_iff.mpr c27
    subst c27
    replace H : ((spec_l07Rank.f l1 l2).bind fun t265 => ((spec_l07Combine.f kj3 a0 l1 l2 t265).bind fun t266 => (if (t266.length : Int) > 32 then (some (([] : List (S42)), 5)) else (some (t266, 0))))) = some (r1, r2) := (by rw [if_neg (show ¬ (false = true) by decide)] at H; exact H)
    obtain ⟨t265, A280, H⟩ := zW_ H
    replace H : ((spec_l07Combine.f kj3 a0 l1 l2 t265).bind fun t266 => (if (t266.length : Int) > 32 then (some (([] : List (S42)), 5)) else (some (t266, 0)))) = some (r1, r2) := H
    have A28 := yD A280
    clear A280
    obtain ⟨t266, A290, H⟩ := zW_ H
    replace H : (if (t266.length : Int) > 32 then (some (([] : List (S42)), 5)) else (some (t266, 0))) = some (r1, r2) := H
    have A29 := yD A290
    clear A290
    by_cases c30 : (t266.length : Int) > 32
    ·
     rw [if_pos c30] at H
     have c30b0 : decide (32 < (t266.length : Int)) = true := zR c30
     have c30b1 : decide (32 < t266.length) = true := zR (by omega)
     clear c30
     simp only [Option.some.injEq, Prod.mk.injEq] at H
     obtain ⟨rfl, rfl⟩ := H
     go_wp2_with (first | ((with_reducible refine gate_callee (f := 98) rfl ?_); refine gL 45 Try.func98 #[.slice A1 l1.length c1, .slice A2 l2.length c2] ?_; (with_reducible refine (spec_l07Rank.calls _ _ l1 _ _ l2 t265 _ ?side1 ?side2 ?side3 ?side4 A28.out).mono ?_); (case side1 => exact kV (yY HR1.out HB.out)); (case side2 => exact HC1.out); (case side3 => exact kV (yY HR2.out HB.out)); (case side4 => exact HC2.out); rintro e w' ⟨rfl, ⟨nd, rfl⟩⟩; refine ⟨_, rfl, ?_⟩) | ((with_reducible refine gate_callee (f := 97) rfl ?_); refine gL 46 Try.func97 #[.int .i64 a0, .slice A1 l1.length c1, .slice A2 l2.length c2, .int .i64 t265] ?_; (with_reducible refine (spec_l07Combine.calls kj3 a0 _ _ l1 _ _ l2 t265 t266 _ ?side1 ?side2 ?side3 ?side4 A29.out).mono ?_); (case side1 => repeat (first | exact (yY HR1.out (kB HB)) | (with_reducible first | refine yV ?_ _ | refine yW ?_ _ | refine yX ?_))); (case side2 => exact HC1.out); (case side3 => repeat (first | exact (yY HR2.out (kB HB)) | (with_reducible first | refine yV ?_ _ | refine yW ?_ _ | refine yX ?_))); (case side4 => exact HC2.out); rintro e w31 ⟨v267, rfl, ho0, hb⟩; refine ⟨_, rfl, ?_⟩; have HO268 := yD (zG ho0 (below_size (kB HB))); replace HB := yD (zC (kB HB) hb); clear hb ho0; obtain ⟨Ao32, co32, eo32⟩ := Kd.S_slice HO268.out; subst eo32))
     go_ret2
     exact ⟨_, by first | rfl | (simp <;> rfl) | (simp [*] <;> rfl), by first | exact Kd.S_nil _ _ _ _ _ | exact Kd.N_nil _ _ _ _ _ | exact Kd.V_nil _ _ _ _ _ | exact Kd.Q_nil _ _ _ _ _ | exact Kd.R_nil _ _ _ _ _, kR1 HB⟩
    ·
     rw [if_neg c30] at H
     have c30b0 : decide (32 < (t266.length : Int)) = false := zS c30
     have c30b1 : decide (32 < t266.length) = false := zS (by omega)
     clear c30
     simp only [Option.some.injEq, Prod.mk.injEq] at H
     obtain ⟨rfl, rfl⟩ := H
     go_wp2_with (first | ((with_reducible refine gate_callee (f := 98) rfl ?_); refine gL 45 Try.func98 #[.slice A1 l1.length c1, .slice A2 l2.length c2] ?_; (with_reducible refine (spec_l07Rank.calls _ _ l1 _ _ l2 t265 _ ?side1 ?side2 ?side3 ?side4 A28.out).mono ?_); (case side1 => exact kV (yY HR1.out HB.out)); (case side2 => exact HC1.out); (case side3 => exact kV (yY HR2.out HB.out)); (case side4 => exact HC2.out); rintro e w' ⟨rfl, ⟨nd, rfl⟩⟩; refine ⟨_, rfl, ?_⟩) | ((with_reducible refine gate_callee (f := 97) rfl ?_); refine gL 46 Try.func97 #[.int .i64 a0, .slice A1 l1.length c1, .slice A2 l2.length c2, .int .i64 t265] ?_; (with_reducible refine (spec_l07Combine.calls kj3 a0 _ _ l1 _ _ l2 t265 t266 _ ?side1 ?side2 ?side3 ?side4 A29.out).mono ?_); (case side1 => repeat (first | exact (yY HR1.out (kB HB)) | (with_reducible first | refine yV ?_ _ | refine yW ?_ _ | refine yX ?_))); (case side2 => exact HC1.out); (case side3 => repeat (first | exact (yY HR2.out (kB HB)) | (with_reducible first | refine yV ?_ _ | refine yW ?_ _ | refine yX ?_))); (case side4 => exact HC2.out); rintro e w33 ⟨v267, rfl, ho0, hb⟩; refine ⟨_, rfl, ?_⟩; have HO268 := yD (zG ho0 (below_size (kB HB))); replace HB := yD (zC (kB HB) hb); clear hb ho0; obtain ⟨Ao34, co34, eo34⟩ := Kd.S_slice HO268.out; subst eo34))
     go_ret2
     exact ⟨_, by first | rfl | (simp <;> rfl) | (simp [*] <;> rfl), kS HO268, kR1 HB⟩

end Go.Proofs.Ytdiaebjbiddefaa.PFnExactSubtractBoxes
