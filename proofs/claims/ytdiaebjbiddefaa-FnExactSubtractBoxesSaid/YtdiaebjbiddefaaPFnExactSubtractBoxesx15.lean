/- Each Go function here comes to what the plain function of its name says, where that says something. Made by a program of this session, over the print. -/
import Derived.Test.YtdiaebjbiddefaaPFnExactSubtractBoxesx0
import Derived.Test.YtdiaebjbiddefaaPFnExactSubtractBoxesx9
import Derived.Test.YtdiaebjbiddefaaPFnExactSubtractBoxesx10
import Derived.Test.YtdiaebjbiddefaaPFnExactSubtractBoxesx14
namespace Go.Proofs.Ytdiaebjbiddefaa.PFnExactSubtractBoxes
open Go.RowKit Go.Proofs.YtdiaebjbiddefaaW.PrintWords Go.Proofs.YtdiaebjbiddefaaW.PrintLast Go.Proofs.YtdiaebjbiddefaaW.PrintMore
attribute [local go_sem] max2_int min2_int max_two min_two max_three min_three max_four min_four   -- for this text's walks alone
set_option linter.unusedVariables false
set_option linter.unusedSimpArgs false

/-! ### impl_combine_impl_without: function 56 -/
def impl_combine_impl_without.j0 : Nat → List (S42) → List (S42) → Bool → Option ((List (S42)) × Int)
 | 0, _, _, _ => none
 | k + 1, x0, x1, x38 => if x38 = true then (some (([] : List (S42)), 1)) else ((impl_rankOf.f k x0 x1).bind fun t386 => ((impl_combined_impl_without.f k t386 x0 x1).bind fun t387 => ((impl_normalFull.f t387).bind fun bt390 => (some (bt390.1, bt390.2)))))
def impl_combine_impl_without.f (k : Nat) (l0 : List (S42)) (l1 : List (S42))  : Option ((List (S42)) × Int) := (impl_boxesOk.f k l0).bind fun t382 => (if t382 = true then ((impl_boxesOk.f k l1).bind fun t383 => (if t383 = true then (if (l0.length : Int) > 0 then (if (l1.length : Int) > 0 then (if 0 < (l0.length : Int) then (if 0 < (l1.length : Int) then (impl_combine_impl_without.j0 k l0 l1 ((((rd_T42 l0 0).f0).length : Int) != (((rd_T42 l1 0).f0).length : Int))) else (none)) else (none)) else (impl_combine_impl_without.j0 k l0 l1 false)) else (impl_combine_impl_without.j0 k l0 l1 false)) else (impl_combine_impl_without.j0 k l0 l1 true))) else (impl_combine_impl_without.j0 k l0 l1 true))
theorem impl_combine_impl_without.mono_l : ∀ k, (∀ y0 y1 y2, LeO (impl_combine_impl_without.j0 k y0 y1 y2) (impl_combine_impl_without.j0 (k + 1) y0 y1 y2))
 | 0 => fun _ _ _ r h => by simp [impl_combine_impl_without.j0] at h
 | k + 1 => by
  have ih0 := impl_combine_impl_without.mono_l k
  · intro y0 y1 y2
    unfold impl_combine_impl_without.j0
    repeat' (with_reducible first | exact ih0 _ _ _ | exact impl_boxesOk.mono _ _ | exact impl_combined_impl_without.mono _ _ _ _ | exact impl_rankOf.mono _ _ _ | exact LeO.refl _ | exact LeO.none _ | refine LeO.ite ?_ ?_ | refine LeO.bind ?_ (fun _ => ?_))
theorem impl_combine_impl_without.mono : ∀ a0 a1 k, LeO (impl_combine_impl_without.f k a0 a1) (impl_combine_impl_without.f (k + 1) a0 a1) := by
 intro a0 a1 k
 have ih0 := impl_combine_impl_without.mono_l k
 unfold impl_combine_impl_without.f
 repeat' (with_reducible first | exact ih0 _ _ _ | exact impl_boxesOk.mono _ _ | exact impl_combined_impl_without.mono _ _ _ _ | exact impl_rankOf.mono _ _ _ | exact LeO.refl _ | exact LeO.none _ | refine LeO.ite ?_ ?_ | refine LeO.bind ?_ (fun _ => ?_))
def impl_combine_impl_without.T1 : Bool × List (List Nat × List Nat) := (true, [([], []), ([0], [0]), ([1], [1]), ([2, 1], [2]), ([3], [3]), ([4, 3, 3], [3, 4]), ([5, 3], [3, 5]), ([3, 6], [3, 6]), ([7, 5], [7]), ([8], [8]), ([9, 8], [8, 9]), ([10, 8], [8, 10]), ([11, 8, 8], [8, 11]), ([12], [12]), ([13, 12], [12, 13]), ([14, 12], [12, 14]), ([12, 15, 8], [8, 12, 15]), ([16, 12, 8], [8, 16]), ([17], [17]), ([18, 17], [17, 18]), ([19, 17], [17, 19]), ([20, 17], [17, 20]), ([21, 17], [17, 21]), ([17], [17]), ([23, 17], [17, 23]), ([24, 17], [17, 24]), ([25, 17], [17, 25]), ([26, 17], [17, 26]), ([22, 27, 17], [17, 22, 27]), ([17, 28, 8], [8, 17, 28]), ([8, 29], [8, 29])])
def impl_combine_impl_without.B1 : List Nat := [0, 1, 3, 7, 15, 31, 63, 127, 255, 511, 1023, 2047, 4095, 8191, 16383, 32767, 65535, 131071, 262143, 524287, 1048575, 2097151, 4194303, 262143, 8650751, 25427967, 58982399, 126091263, 268435455, 536870911, 1073741823]
theorem impl_combine_impl_without.tab1 : rtab .any (opsOf Try.f56 1) = impl_combine_impl_without.T1 := by kernel_rfl
theorem impl_combine_impl_without.bits1 : waitsOk impl_combine_impl_without.T1.2 impl_combine_impl_without.B1 = true := by kernel_rfl
set_option maxHeartbeats 8000000 in
set_option maxRecDepth 100000 in
theorem impl_combine_impl_without.calls (k : Nat) (A0 : Option Addr) (c0 : Nat) (l0 : List (S42)) (A1 : Option Addr) (c1 : Nat) (l1 : List (S42))  (r1 : List (S42)) (r2 : Int) (w : World) (hr0 : Kd.C k42 w A0 l0.length l0) (hc0 : l0.length ≤ c0) (hr1 : Kd.C k42 w A1 l1.length l1) (hc1 : l1.length ≤ c1) (h : impl_combine_impl_without.f k l0 l1 = some (r1, r2)) :
 Calls Try.prog 56 #[.slice A0 l0.length c0, .slice A1 l1.length c1, .func (.func 59) #[] #[]] w fun e w' => ∃ v0_ : Value, e = .returned (.tuple #[v0_, .int .i64 r2]) ∧ Kd.S k42 42 w' w.heap.size (fun _ => True) v0_ r1 ∧ Below w.heap.size w w' := by
 have HR0 := yD hr0
 have HC0 := yD hc0
 clear hr0 hc0
 have HR1 := yD hr1
 have HC1 := yD hc1
 clear hr1 hc1
 have HB := yD (Below.refl w.heap.size w)
 have H : ((impl_boxesOk.f k l0).bind fun t382 => (if t382 = true then ((impl_boxesOk.f k l1).bind fun t383 => (if t383 = true then (if (l0.length : Int) > 0 then (if (l1.length : Int) > 0 then (if 0 < (l0.length : Int) then (if 0 < (l1.length : Int) then (impl_combine_impl_without.j0 k l0 l1 ((((rd_T42 l0 0).f0).length : Int) != (((rd_T42 l1 0).f0).length : Int))) else (none)) else (none)) else (impl_combine_impl_without.j0 k l0 l1 false)) else (impl_combine_impl_without.j0 k l0 l1 false)) else (impl_combine_impl_without.j0 k l0 l1 true))) else (impl_combine_impl_without.j0 k l0 l1 true))) = some (r1, r2) := h
 clear h
 have HC4 := yD H
 clear H; go_enter Try.func56, Try.ntmps56
 go_upto_region 1 with (fail)
 go_cut [38] (fun v38 wc => ∃ (kq : Nat) (x38_3 : Bool), v38 = .bool x38_3 ∧ Aside0 (impl_combine_impl_without.j0 kq l0 l1 x38_3 = some (r1, r2)) ∧ Aside0 (kq ≤ k) ∧ Aside0 (Below w.heap.size w wc))
 case first =>
  have H := HC4.out; clear HC4
  obtain ⟨t382, A50, H⟩ := zW_ H
  replace H : (if t382 = true then ((impl_boxesOk.f k l1).bind fun t383 => (if t383 = true then (if (l0.length : Int) > 0 then (if (l1.length : Int) > 0 then (if 0 < (l0.length : Int) then (if 0 < (l1.length : Int) then (impl_combine_impl_without.j0 k l0 l1 ((((rd_T42 l0 0).f0).length : Int) != (((rd_T42 l1 0).f0).length : Int))) else (none)) else (none)) else (impl_combine_impl_without.j0 k l0 l1 false)) else (impl_combine_impl_without.j0 k l0 l1 false)) else (impl_combine_impl_without.j0 k l0 l1 true))) else (impl_combine_impl_without.j0 k l0 l1 true)) = some (r1, r2) := H
  have A5 := yD A50
  clear A50
  by_cases c6 : t382 = true
  ·
   subst c6
   replace H : ((impl_boxesOk.f k l1).bind fun t383 => (if t383 = true then (if (l0.length : Int) > 0 then (if (l1.length : Int) > 0 then (if 0 < (l0.length : Int) then (if 0 < (l1.length : Int) then (impl_combine_impl_without.j0 k l0 l1 ((((rd_T42 l0 0).f0).length : Int) != (((rd_T42 l1 0).f0).length : Int))) else (none)) else (none)) else (impl_combine_impl_without.j0 k l0 l1 false)) else (impl_combine_impl_without.j0 k l0 l1 false)) else (impl_combine_impl_without.j0 k l0 l1 true))) = some (r1, r2) := (by rw [if_pos rfl] at H; exact H)
   obtain ⟨t383, A70, H⟩ := zW_ H
   replace H : (if t383 = true then (if (l0.length : Int) > 0 then (if (l1.length : Int) > 0 then (if 0 < (l0.length : Int) then (if 0 < (l1.length : Int) then (impl_combine_impl_without.j0 k l0 l1 ((((rd_T42 l0 0).f0).length : Int) != (((rd_T42 l1 0).f0).length : Int))) else (none)) else (none)) else (impl_combine_impl_without.j0 k l0 l1 false)) else (impl_combine_impl_without.j0 k l0 l1 false)) else (impl_combine_impl_without.j0 k l0 l1 true)) = some (r1, r2) := H
   have A7 := yD A70
   clear A70
   by_cases c8 : t383 = true
   ·
    subst c8
    replace H : (if (l0.length : Int) > 0 then (if (l1.length : Int) > 0 then (if 0 < (l0.length : Int) then (if 0 < (l1.length : Int) then (impl_combine_impl_without.j0 k l0 l1 ((((rd_T42 l0 0).f0).length : Int) != (((rd_T42 l1 0).f0).length : Int))) else (none)) else (none)) else (impl_combine_impl_without.j0 k l0 l1 false)) else (impl_combine_impl_without.j0 k l0 l1 false)) = some (r1, r2) := (by rw [if_pos rfl] at H; exact H)
    by_cases c9 : (l0.length : Int) > 0
    ·
     rw [if_pos c9] at H
     have c9b0 : decide (0 < (l0.length : Int)) = true := zR c9
     have c9b1 : decide (0 < l0.length) = true := zR (by omega)
     clear c9
     (first | rw [c9b0] | (simp only [i64_w, i32_w]; rw [c9b0]) | (simp only [bne] at c9b0; rw [c9b0]) | skip)
     by_cases c10 : (l1.length : Int) > 0
     ·
      rw [if_pos c10] at H
      have c10b0 : decide (0 < (l1.length : Int)) = true := zR c10
      have c10b1 : decide (0 < l1.length) = true := zR (by omega)
      clear c10
      by_cases c11 : 0 < (l0.length : Int)
      ·
       rw [if_pos c11] at H
       have c11b0 : decide (0 < (l0.length : Int)) = true := zR c11
       have c11b1 : decide (0 < l0.length) = true := zR (by omega)
       clear c11
       by_cases c12 : 0 < (l1.length : Int)
       ·
        rw [if_pos c12] at H
        have c12b0 : decide (0 < (l1.length : Int)) = true := zR c12
        have c12b1 : decide (0 < l1.length) = true := zR (by omega)
        clear c12
        have H' := yD H
        clear H
        try go_wp2
        have n0_ := yD (yP HB.out)
        clear HB; have HB := n0_; clear n0_
        have p384 : 0 ≤ (0 : Int) := (by omega)
        have q384 : 0 < (l0.length : Int) := zP (by assumption)
        obtain ⟨ad384, A384_0, c384_0, A384_1, c384_1, e384, hx384_0, hx384_1, hl384_0, hi384_0, hl384_1, hi384_1⟩ := at_T42 HR0.out 0 p384 q384
        have hw384_1 := hx384_1
        (try rw [show ((0 : Int)).toNat = 0 from rfl] at hw384_1)
        (try rw [show 0 * 2 = 0 from rfl] at hw384_1)
        (try rw [Addr.add_zero'] at hw384_1)
        have hw384_0 := hx384_0
        (try rw [show ((0 : Int)).toNat = 0 from rfl] at hw384_0)
        (try rw [show 0 * 2 = 0 from rfl] at hw384_0)
        (try rw [Addr.add_zero'] at hw384_0)
        cases e384
        have qi384 : (0 < l0.length) = True := eq_true (by omega)
        (try rw [show ((0 : Int)).toNat = 0 from rfl] at hx384_0)
        (try rw [show 0 * 2 = 0 from rfl] at hx384_0)
        (try rw [Addr.add_zero'] at hx384_0)
        (try rw [show ((0 : Int)).toNat = 0 from rfl] at hx384_1)
        (try rw [show 0 * 2 = 0 from rfl] at hx384_1)
        (try rw [Addr.add_zero'] at hx384_1)
        replace hx384_0 := (HB.out.cell (zQ w _ hx384_0)).trans hx384_0
        replace hx384_1 := (HB.out.cell (zQ w _ hx384_1)).trans hx384_1
        have HR384_0 := yD hi384_0
        have HC384_0 := yD hl384_0
        clear hi384_0 hl384_0
        have HR384_1 := yD hi384_1
        have HC384_1 := yD hl384_1
        clear hi384_1 hl384_1; replace p384 := eq_true p384; replace q384 := eq_true q384
        have p385 : 0 ≤ (0 : Int) := (by omega)
        have q385 : 0 < (l1.length : Int) := zP (by assumption)
        obtain ⟨ad385, A385_0, c385_0, A385_1, c385_1, e385, hx385_0, hx385_1, hl385_0, hi385_0, hl385_1, hi385_1⟩ := at_T42 HR1.out 0 p385 q385
        have hw385_1 := hx385_1
        (try rw [show ((0 : Int)).toNat = 0 from rfl] at hw385_1)
        (try rw [show 0 * 2 = 0 from rfl] at hw385_1)
        (try rw [Addr.add_zero'] at hw385_1)
        have hw385_0 := hx385_0
        (try rw [show ((0 : Int)).toNat = 0 from rfl] at hw385_0)
        (try rw [show 0 * 2 = 0 from rfl] at hw385_0)
        (try rw [Addr.add_zero'] at hw385_0)
        cases e385
        have qi385 : (0 < l1.length) = True := eq_true (by omega)
        (try rw [show ((0 : Int)).toNat = 0 from rfl] at hx385_0)
        (try rw [show 0 * 2 = 0 from rfl] at hx385_0)
        (try rw [Addr.add_zero'] at hx385_0)
        (try rw [show ((0 : Int)).toNat = 0 from rfl] at hx385_1)
        (try rw [show 0 * 2 = 0 from rfl] at hx385_1)
        (try rw [Addr.add_zero'] at hx385_1)
        replace hx385_0 := (HB.out.cell (zQ w _ hx385_0)).trans hx385_0
        replace hx385_1 := (HB.out.cell (zQ w _ hx385_1)).trans hx385_1
        have HR385_0 := yD hi385_0
        have HC385_0 := yD hl385_0
        clear hi385_0 hl385_0
        have HR385_1 := yD hi385_1
        have HC385_1 := yD hl385_1
        clear hi385_1 hl385_1; replace p385 := eq_true p385; replace q385 := eq_true q385
        refine start_ (n := 31) (S := fun w' => w'.cell? ad384 = some (.slice A384_0 ((rd_T42 l0 0).f0).length c384_0) ∧ w'.cell? ⟨ad384.block, ad384.off + 1, none⟩ = some (.slice A384_1 ((rd_T42 l0 0).f1).length c384_1) ∧ w'.cell? ad385 = some (.slice A385_0 ((rd_T42 l1 0).f0).length c385_0) ∧ w'.cell? ⟨ad385.block, ad385.off + 1, none⟩ = some (.slice A385_1 ((rd_T42 l1 0).f1).length c385_1)) (ds := []) (bz 31 0) (by kernel_rfl) rfl rfl ⟨((HB.out.cell (zQ w _ hw384_0)).trans hw384_0), ((HB.out.cell (zQ w _ hw384_1)).trans hw384_1), ((HB.out.cell (zQ w _ hw385_0)).trans hw385_0), ((HB.out.cell (zQ w _ hw385_1)).trans hw385_1)⟩ (fun hHeld => ?_); refine with_tabW impl_combine_impl_without.tab1 impl_combine_impl_without.bits1 (fun HT_ HW_ => ?_)
        generalize w.drew = w13 at HB HR384_0 HR384_1 HR385_0 HR385_1 hx384_0 hx384_1 hx385_0 hx385_1 hHeld ⊢
        refine qA 0 8 (bz 31 1) HT_ ?_
        refine one_ (i := 1) (N := some 9) (bz 31 3) rfl rfl (one_of HT_.out (by kernel_rfl)) (by decide) (fun K hK => ?_)
        refine goes_ Try.func63 (by kernel_rfl) rfl #[.slice (some ad384) l0.length c0] (by rfl) rfl rfl (by (try simp only [zK, zL, zM]); first | done | rfl | (simp only [zN, zO]; rfl)) ?_
        with_reducible refine (impl_boxesOk.calls k _ _ l0 true _ ?side1 ?side2 A5.out).mono ?_
        (case side1 => exact kV (yY HR0.out HB.out))
        (case side2 => exact HC0.out)
        rintro e w14 ⟨rfl, hb⟩
        refine ⟨_, rfl, ?_⟩
        have n0_ := yD (zC (kB HB) hb)
        clear HB; have HB := n0_; clear n0_; (try clear hb); (try clear hb2); (try clear hk); (try clear hi)
        refine hK.out _ _ ⟨((HB.out.cell (zQ w _ hw384_0)).trans hw384_0), ((HB.out.cell (zQ w _ hw384_1)).trans hw384_1), ((HB.out.cell (zQ w _ hw385_0)).trans hw385_0), ((HB.out.cell (zQ w _ hw385_1)).trans hw385_1)⟩ (fun hHeld => ?_)
        clear hK K
        refine norm_ (a' := ?_) ?_ ?_
        rotate_left
        · show Act.put _ (some 9) _ = _
          simp only [Act.put, zH, zI, zJ, i64_w, i32_w]
          rfl
        refine qA 2 10 (bz 31 7) HT_ ?_
        refine qA 3 11 (bz 31 15) HT_ ?_
        refine qA 4 12 (bz 31 31) HT_ ?_
        refine one_ (i := 5) (N := some 13) (bz 31 63) rfl rfl (one_of HT_.out (by kernel_rfl)) (by decide) (fun K hK => ?_)
        refine goes_ Try.func63 (by kernel_rfl) rfl #[.slice (some ad385) l1.length c1] (by rfl) rfl rfl (by (try simp only [zK, zL, zM]); first | done | rfl | (simp only [zN, zO]; rfl)) ?_
        with_reducible refine (impl_boxesOk.calls k _ _ l1 true _ ?side1 ?side2 A7.out).mono ?_
        (case side1 => exact kV (yY HR1.out HB.out))
        (case side2 => exact HC1.out)
        rintro e w15 ⟨rfl, hb⟩
        refine ⟨_, rfl, ?_⟩
        have n0_ := yD (zC (kB HB) hb)
        clear HB; have HB := n0_; clear n0_; (try clear hb); (try clear hb2); (try clear hk); (try clear hi)
        refine hK.out _ _ ⟨((HB.out.cell (zQ w _ hw384_0)).trans hw384_0), ((HB.out.cell (zQ w _ hw384_1)).trans hw384_1), ((HB.out.cell (zQ w _ hw385_0)).trans hw385_0), ((HB.out.cell (zQ w _ hw385_1)).trans hw385_1)⟩ (fun hHeld => ?_)
        clear hK K
        refine norm_ (a' := ?_) ?_ ?_
        rotate_left
        · show Act.put _ (some 13) _ = _
          simp only [Act.put, zH, zI, zJ, i64_w, i32_w]
          rfl
        refine qA 6 14 (bz 31 127) HT_ ?_
        refine qA 7 15 (bz 31 255) HT_ ?_
        refine qA 8 16 (bz 31 511) HT_ ?_
        refine qA 9 17 (bz 31 1023) HT_ ?_
        refine qA 10 18 (bz 31 2047) HT_ ?_
        refine qA 11 19 (bz 31 4095) HT_ ?_
        refine qA 12 20 (bz 31 8191) HT_ ?_
        refine qA 13 21 (bz 31 16383) HT_ ?_
        refine qA 14 22 (bz 31 32767) HT_ ?_
        refine qA 15 23 (bz 31 65535) HT_ ?_
        refine qA 16 24 (bz 31 131071) HT_ ?_
        refine qA 17 25 (bz 31 262143) HT_ ?_
        refine qA 18 26 (bz 31 524287) HT_ ?_
        refine qA 19 27 (bz 31 1048575) HT_ ?_
        refine qA 20 28 (bz 31 2097151) HT_ ?_
        refine qA 23 31 (bz 31 10485759) HT_ ?_
        refine qA 24 32 (bz 31 27262975) HT_ ?_
        refine qA 25 33 (bz 31 60817407) HT_ ?_
        refine qC 21 29 (bz 31 62914559) HT_ HW_ hHeld ?_ (hy := by rintro w' ⟨s0, s1, s2, s3⟩; go_simp; with_reducible rfl)
        refine qA 22 30 (bz 31 67108863) HT_ ?_
        refine qC 26 34 (bz 31 134217727) HT_ HW_ hHeld ?_ (hy := by rintro w' ⟨s0, s1, s2, s3⟩; go_simp; with_reducible rfl)
        refine qA 27 35 (bz 31 268435455) HT_ ?_
        refine qA 28 36 (bz 31 536870911) HT_ ?_
        refine qA 29 37 (bz 31 1073741823) HT_ ?_
        refine qA 30 38 (bz 31 2147483647) HT_ ?_
        refine done_ (done_of HT_.out (by kernel_rfl)) ?_
        try go_wp2
        go_meet
        case rel => exact ⟨_, (((((rd_T42 l0 0).f0).length : Int) != (((rd_T42 l1 0).f0).length : Int))), (by first | rfl | (simp; done) | (simp [*]; done)), H', ⟨by first | omega | exact Nat.le_refl _⟩, ⟨kR1 HB⟩⟩
       · rw [if_neg c12] at H
         exact absurd H (by simp)
      · rw [if_neg c11] at H
        exact absurd H (by simp)
     ·
      rw [if_neg c10] at H
      have c10b0 : decide (0 < (l1.length : Int)) = false := zS c10
      have c10b1 : decide (0 < l1.length) = false := zS (by omega)
      clear c10
      have H' := yD H
      clear H
      try go_wp2
      have n0_ := yD (yP HB.out)
      clear HB; have HB := n0_; clear n0_
      refine start_ (n := 31) (S := fun w' => True) (ds := []) (bz 31 0) (by kernel_rfl) rfl rfl trivial (fun hHeld => ?_); refine with_tabW impl_combine_impl_without.tab1 impl_combine_impl_without.bits1 (fun HT_ HW_ => ?_)
      generalize w.drew = w16 at HB hHeld ⊢
      refine qA 0 8 (bz 31 1) HT_ ?_
      refine one_ (i := 1) (N := some 9) (bz 31 3) rfl rfl (one_of HT_.out (by kernel_rfl)) (by decide) (fun K hK => ?_)
      refine goes_ Try.func63 (by kernel_rfl) rfl #[.slice A0 l0.length c0] (by rfl) rfl rfl (by (try simp only [zK, zL, zM]); first | done | rfl | (simp only [zN, zO]; rfl)) ?_
      with_reducible refine (impl_boxesOk.calls k _ _ l0 true _ ?side1 ?side2 A5.out).mono ?_
      (case side1 => exact kV (yY HR0.out HB.out))
      (case side2 => exact HC0.out)
      rintro e w17 ⟨rfl, hb⟩
      refine ⟨_, rfl, ?_⟩
      have n0_ := yD (zC (kB HB) hb)
      clear HB; have HB := n0_; clear n0_; (try clear hb); (try clear hb2); (try clear hk); (try clear hi)
      refine hK.out _ _ trivial (fun hHeld => ?_)
      clear hK K
      refine norm_ (a' := ?_) ?_ ?_
      rotate_left
      · show Act.put _ (some 9) _ = _
        simp only [Act.put, zH, zI, zJ, i64_w, i32_w]
        rfl
      refine qA 2 10 (bz 31 7) HT_ ?_
      refine qA 3 11 (bz 31 15) HT_ ?_
      refine qA 4 12 (bz 31 31) HT_ ?_
      refine one_ (i := 5) (N := some 13) (bz 31 63) rfl rfl (one_of HT_.out (by kernel_rfl)) (by decide) (fun K hK => ?_)
      refine goes_ Try.func63 (by kernel_rfl) rfl #[.slice A1 l1.length c1] (by rfl) rfl rfl (by (try simp only [zK, zL, zM]); first | done | rfl | (simp only [zN, zO]; rfl)) ?_
      with_reducible refine (impl_boxesOk.calls k _ _ l1 true _ ?side1 ?side2 A7.out).mono ?_
      (case side1 => exact kV (yY HR1.out HB.out))
      (case side2 => exact HC1.out)
      rintro e w18 ⟨rfl, hb⟩
      refine ⟨_, rfl, ?_⟩
      have n0_ := yD (zC (kB HB) hb)
      clear HB; have HB := n0_; clear n0_; (try clear hb); (try clear hb2); (try clear hk); (try clear hi)
      refine hK.out _ _ trivial (fun hHeld => ?_)
      clear hK K
      refine norm_ (a' := ?_) ?_ ?_
      rotate_left
      · show Act.put _ (some 13) _ = _
        simp only [Act.put, zH, zI, zJ, i64_w, i32_w]
        rfl
      refine qA 6 14 (bz 31 127) HT_ ?_
      refine qA 7 15 (bz 31 255) HT_ ?_
      refine qA 8 16 (bz 31 511) HT_ ?_
      refine qA 9 17 (bz 31 1023) HT_ ?_
      refine qA 10 18 (bz 31 2047) HT_ ?_
      refine qA 11 19 (bz 31 4095) HT_ ?_
      refine qA 12 20 (bz 31 8191) HT_ ?_
      refine qA 13 21 (bz 31 16383) HT_ ?_
      refine qA 14 22 (bz 31 32767) HT_ ?_
      refine qA 15 23 (bz 31 65535) HT_ ?_
      refine qA 16 24 (bz 31 131071) HT_ ?_
      refine qA 17 25 (bz 31 262143) HT_ ?_
      refine qB 18 26 (bz 31 524287) HT_ ?_
      refine qB 19 27 (bz 31 1048575) HT_ ?_
      refine qB 20 28 (bz 31 2097151) HT_ ?_
      refine qB 21 29 (bz 31 4194303) HT_ ?_
      refine qB 22 30 (bz 31 8388607) HT_ ?_
      refine qB 23 31 (bz 31 16777215) HT_ ?_
      refine qB 24 32 (bz 31 33554431) HT_ ?_
      refine qB 25 33 (bz 31 67108863) HT_ ?_
      refine qB 26 34 (bz 31 134217727) HT_ ?_
      refine qB 27 35 (bz 31 268435455) HT_ ?_
      refine qB 28 36 (bz 31 536870911) HT_ ?_
      refine qA 29 37 (bz 31 1073741823) HT_ ?_
      refine qA 30 38 (bz 31 2147483647) HT_ ?_
      refine done_ (done_of HT_.out (by kernel_rfl)) ?_
      try go_wp2
      go_meet
      case rel => exact ⟨_, (false), (by first | rfl | (simp; done) | (simp [*]; done)), H', ⟨by first | omega | exact Nat.le_refl _⟩, ⟨kR1 HB⟩⟩
    ·
     rw [if_neg c9] at H
     have c9b0 : decide (0 < (l0.length : Int)) = false := zS c9
     have c9b1 : decide (0 < l0.length) = false := zS (by omega)
     clear c9
     (first | rw [c9b0] | (simp only [i64_w, i32_w]; rw [c9b0]) | (simp only [bne] at c9b0; rw [c9b0]) | skip)
     have H' := yD H
     clear H
     try go_wp2
     have n0_ := yD (yP HB.out)
     clear HB; have HB := n0_; clear n0_
     refine start_ (n := 31) (S := fun w' => True) (ds := []) (bz 31 0) (by kernel_rfl) rfl rfl trivial (fun hHeld => ?_); refine with_tabW impl_combine_impl_without.tab1 impl_combine_impl_without.bits1 (fun HT_ HW_ => ?_)
     generalize w.drew = w19 at HB hHeld ⊢
     refine qA 0 8 (bz 31 1) HT_ ?_
     refine one_ (i := 1) (N := some 9) (bz 31 3) rfl rfl (one_of HT_.out (by kernel_rfl)) (by decide) (fun K hK => ?_)
     refine goes_ Try.func63 (by kernel_rfl) rfl #[.slice A0 l0.length c0] (by rfl) rfl rfl (by (try simp only [zK, zL, zM]); first | done | rfl | (simp only [zN, zO]; rfl)) ?_
     with_reducible refine (impl_boxesOk.calls k _ _ l0 true _ ?side1 ?side2 A5.out).mono ?_
     (case side1 => exact kV (yY HR0.out HB.out))
     (case side2 => exact HC0.out)
     rintro e w20 ⟨rfl, hb⟩
     refine ⟨_, rfl, ?_⟩
     have n0_ := yD (zC (kB HB) hb)
     clear HB; have HB := n0_; clear n0_; (try clear hb); (try clear hb2); (try clear hk); (try clear hi)
     refine hK.out _ _ trivial (fun hHeld => ?_)
     clear hK K
     refine norm_ (a' := ?_) ?_ ?_
     rotate_left
     · show Act.put _ (some 9) _ = _
       simp only [Act.put, zH, zI, zJ, i64_w, i32_w]
       rfl
     refine qA 2 10 (bz 31 7) HT_ ?_
     refine qA 3 11 (bz 31 15) HT_ ?_
     refine qA 4 12 (bz 31 31) HT_ ?_
     refine one_ (i := 5) (N := some 13) (bz 31 63) rfl rfl (one_of HT_.out (by kernel_rfl)) (by decide) (fun K hK => ?_)
     refine goes_ Try.func63 (by kernel_rfl) rfl #[.slice A1 l1.length c1] (by rfl) rfl rfl (by (try simp only [zK, zL, zM]); first | done | rfl | (simp only [zN, zO]; rfl)) ?_
     with_reducible refine (impl_boxesOk.calls k _ _ l1 true _ ?side1 ?side2 A7.out).mono ?_
     (case side1 => exact kV (yY HR1.out HB.out))
     (case side2 => exact HC1.out)
     rintro e w21 ⟨rfl, hb⟩
     refine ⟨_, rfl, ?_⟩
     have n0_ := yD (zC (kB HB) hb)
     clear HB; have HB := n0_; clear n0_; (try clear hb); (try clear hb2); (try clear hk); (try clear hi)
     refine hK.out _ _ trivial (fun hHeld => ?_)
     clear hK K
     refine norm_ (a' := ?_) ?_ ?_
     rotate_left
     · show Act.put _ (some 13) _ = _
       simp only [Act.put, zH, zI, zJ, i64_w, i32_w]
       rfl
     refine qA 6 14 (bz 31 127) HT_ ?_
     refine qA 7 15 (bz 31 255) HT_ ?_
     refine qA 8 16 (bz 31 511) HT_ ?_
     refine qA 9 17 (bz 31 1023) HT_ ?_
     refine qA 10 18 (bz 31 2047) HT_ ?_
     refine qA 11 19 (bz 31 4095) HT_ ?_
     refine qA 12 20 (bz 31 8191) HT_ ?_
     refine qB 13 21 (bz 31 16383) HT_ ?_
     refine qB 14 22 (bz 31 32767) HT_ ?_
     refine qB 15 23 (bz 31 65535) HT_ ?_
     refine qA 16 24 (bz 31 131071) HT_ ?_
     refine qA 17 25 (bz 31 262143) HT_ ?_
     refine qB 18 26 (bz 31 524287) HT_ ?_
     refine qB 19 27 (bz 31 1048575) HT_ ?_
     refine qB 20 28 (bz 31 2097151) HT_ ?_
     refine qB 21 29 (bz 31 4194303) HT_ ?_
     refine qB 22 30 (bz 31 8388607) HT_ ?_
     refine qB 23 31 (bz 31 16777215) HT_ ?_
     refine qB 24 32 (bz 31 33554431) HT_ ?_
     refine qB 25 33 (bz 31 67108863) HT_ ?_
     refine qB 26 34 (bz 31 134217727) HT_ ?_
     refine qB 27 35 (bz 31 268435455) HT_ ?_
     refine qB 28 36 (bz 31 536870911) HT_ ?_
     refine qA 29 37 (bz 31 1073741823) HT_ ?_
     refine qA 30 38 (bz 31 2147483647) HT_ ?_
     refine done_ (done_of HT_.out (by kernel_rfl)) ?_
     try go_wp2
     go_meet
     case rel => exact ⟨_, (false), (by first | rfl | (simp; done) | (simp [*]; done)), H', ⟨by first | omega | exact Nat.le_refl _⟩, ⟨kR1 HB⟩⟩
   ·
    replace c8 := Bool.eq_false_iff.mpr c8
    subst c8
    replace H : (impl_combine_impl_without.j0 k l0 l1 true) = some (r1, r2) := (by rw [if_neg (show ¬ (false = true) by decide)] at H; exact H)
    have H' := yD H
    clear H
    try go_wp2
    have n0_ := yD (yP HB.out)
    clear HB; have HB := n0_; clear n0_
    refine start_ (n := 31) (S := fun w' => True) (ds := []) (bz 31 0) (by kernel_rfl) rfl rfl trivial (fun hHeld => ?_); refine with_tabW impl_combine_impl_without.tab1 impl_combine_impl_without.bits1 (fun HT_ HW_ => ?_)
    generalize w.drew = w22 at HB hHeld ⊢
    refine qA 0 8 (bz 31 1) HT_ ?_
    refine one_ (i := 1) (N := some 9) (bz 31 3) rfl rfl (one_of HT_.out (by kernel_rfl)) (by decide) (fun K hK => ?_)
    refine goes_ Try.func63 (by kernel_rfl) rfl #[.slice A0 l0.length c0] (by rfl) rfl rfl (by (try simp only [zK, zL, zM]); first | done | rfl | (simp only [zN, zO]; rfl)) ?_
    with_reducible refine (impl_boxesOk.calls k _ _ l0 true _ ?side1 ?side2 A5.out).mono ?_
    (case side1 => exact kV (yY HR0.out HB.out))
    (case side2 => exact HC0.out)
    rintro e w23 ⟨rfl, hb⟩
    refine ⟨_, rfl, ?_⟩
    have n0_ := yD (zC (kB HB) hb)
    clear HB; have HB := n0_; clear n0_; (try clear hb); (try clear hb2); (try clear hk); (try clear hi)
    refine hK.out _ _ trivial (fun hHeld => ?_)
    clear hK K
    refine norm_ (a' := ?_) ?_ ?_
    rotate_left
    · show Act.put _ (some 9) _ = _
      simp only [Act.put, zH, zI, zJ, i64_w, i32_w]
      rfl
    refine qA 2 10 (bz 31 7) HT_ ?_
    refine qA 3 11 (bz 31 15) HT_ ?_
    refine qA 4 12 (bz 31 31) HT_ ?_
    refine one_ (i := 5) (N := some 13) (bz 31 63) rfl rfl (one_of HT_.out (by kernel_rfl)) (by decide) (fun K hK => ?_)
    refine goes_ Try.func63 (by kernel_rfl) rfl #[.slice A1 l1.length c1] (by rfl) rfl rfl (by (try simp only [zK, zL, zM]); first | done | rfl | (simp only [zN, zO]; rfl)) ?_
    with_reducible refine (impl_boxesOk.calls k _ _ l1 false _ ?side1 ?side2 A7.out).mono ?_
    (case side1 => exact kV (yY HR1.out HB.out))
    (case side2 => exact HC1.out)
    rintro e w24 ⟨rfl, hb⟩
    refine ⟨_, rfl, ?_⟩
    have n0_ := yD (zC (kB HB) hb)
    clear HB; have HB := n0_; clear n0_; (try clear hb); (try clear hb2); (try clear hk); (try clear hi)
    refine hK.out _ _ trivial (fun hHeld => ?_)
    clear hK K
    refine norm_ (a' := ?_) ?_ ?_
    rotate_left
    · show Act.put _ (some 13) _ = _
      simp only [Act.put, zH, zI, zJ, i64_w, i32_w]
      rfl
    refine qA 6 14 (bz 31 127) HT_ ?_
    refine qA 7 15 (bz 31 255) HT_ ?_
    refine qA 8 16 (bz 31 511) HT_ ?_
    refine qB 9 17 (bz 31 1023) HT_ ?_
    refine qB 10 18 (bz 31 2047) HT_ ?_
    refine qB 11 19 (bz 31 4095) HT_ ?_
    refine qB 12 20 (bz 31 8191) HT_ ?_
    refine qB 13 21 (bz 31 16383) HT_ ?_
    refine qB 14 22 (bz 31 32767) HT_ ?_
    refine qB 15 23 (bz 31 65535) HT_ ?_
    refine qB 16 24 (bz 31 131071) HT_ ?_
    refine qB 17 25 (bz 31 262143) HT_ ?_
    refine qB 18 26 (bz 31 524287) HT_ ?_
    refine qB 19 27 (bz 31 1048575) HT_ ?_
    refine qB 20 28 (bz 31 2097151) HT_ ?_
    refine qB 21 29 (bz 31 4194303) HT_ ?_
    refine qB 22 30 (bz 31 8388607) HT_ ?_
    refine qB 23 31 (bz 31 16777215) HT_ ?_
    refine qB 24 32 (bz 31 33554431) HT_ ?_
    refine qB 25 33 (bz 31 67108863) HT_ ?_
    refine qB 26 34 (bz 31 134217727) HT_ ?_
    refine qB 27 35 (bz 31 268435455) HT_ ?_
    refine qB 28 36 (bz 31 536870911) HT_ ?_
    refine qB 29 37 (bz 31 1073741823) HT_ ?_
    refine qA 30 38 (bz 31 2147483647) HT_ ?_
    refine done_ (done_of HT_.out (by kernel_rfl)) ?_
    try go_wp2
    go_meet
    case rel => exact ⟨_, (true), (by first | rfl | (simp; done) | (simp [*]; done)), H', ⟨by first | omega | exact Nat.le_refl _⟩, ⟨kR1 HB⟩⟩
  ·
   replace c6 := Bool.eq_false_iff.mpr c6
   subst c6
   replace H : (impl_combine_impl_without.j0 k l0 l1 true) = some (r1, r2) := (by rw [if_neg (show ¬ (false = true) by decide)] at H; exact H)
   have H' := yD H
   clear H
   try go_wp2
   have n0_ := yD (yP HB.out)
   clear HB; have HB := n0_; clear n0_
   refine start_ (n := 31) (S := fun w' => True) (ds := []) (bz 31 0) (by kernel_rfl) rfl rfl trivial (fun hHeld => ?_); refine with_tabW impl_combine_impl_without.tab1 impl_combine_impl_without.bits1 (fun HT_ HW_ => ?_)
   generalize w.drew = w25 at HB hHeld ⊢
   refine qA 0 8 (bz 31 1) HT_ ?_
   refine one_ (i := 1) (N := some 9) (bz 31 3) rfl rfl (one_of HT_.out (by kernel_rfl)) (by decide) (fun K hK => ?_)
   refine goes_ Try.func63 (by kernel_rfl) rfl #[.slice A0 l0.length c0] (by rfl) rfl rfl (by (try simp only [zK, zL, zM]); first | done | rfl | (simp only [zN, zO]; rfl)) ?_
   with_reducible refine (impl_boxesOk.calls k _ _ l0 false _ ?side1 ?side2 A5.out).mono ?_
   (case side1 => exact kV (yY HR0.out HB.out))
   (case side2 => exact HC0.out)
   rintro e w26 ⟨rfl, hb⟩
   refine ⟨_, rfl, ?_⟩
   have n0_ := yD (zC (kB HB) hb)
   clear HB; have HB := n0_; clear n0_; (try clear hb); (try clear hb2); (try clear hk); (try clear hi)
   refine hK.out _ _ trivial (fun hHeld => ?_)
   clear hK K
   refine norm_ (a' := ?_) ?_ ?_
   rotate_left
   · show Act.put _ (some 9) _ = _
     simp only [Act.put, zH, zI, zJ, i64_w, i32_w]
     rfl
   refine qA 2 10 (bz 31 7) HT_ ?_
   refine qA 3 11 (bz 31 15) HT_ ?_
   refine qB 4 12 (bz 31 31) HT_ ?_
   refine qB 5 13 (bz 31 63) HT_ ?_
   refine qB 6 14 (bz 31 127) HT_ ?_
   refine qA 7 15 (bz 31 255) HT_ ?_
   refine qA 8 16 (bz 31 511) HT_ ?_
   refine qB 9 17 (bz 31 1023) HT_ ?_
   refine qB 10 18 (bz 31 2047) HT_ ?_
   refine qB 11 19 (bz 31 4095) HT_ ?_
   refine qB 12 20 (bz 31 8191) HT_ ?_
   refine qB 13 21 (bz 31 16383) HT_ ?_
   refine qB 14 22 (bz 31 32767) HT_ ?_
   refine qB 15 23 (bz 31 65535) HT_ ?_
   refine qB 16 24 (bz 31 131071) HT_ ?_
   refine qB 17 25 (bz 31 262143) HT_ ?_
   refine qB 18 26 (bz 31 524287) HT_ ?_
   refine qB 19 27 (bz 31 1048575) HT_ ?_
   refine qB 20 28 (bz 31 2097151) HT_ ?_
   refine qB 21 29 (bz 31 4194303) HT_ ?_
   refine qB 22 30 (bz 31 8388607) HT_ ?_
   refine qB 23 31 (bz 31 16777215) HT_ ?_
   refine qB 24 32 (bz 31 33554431) HT_ ?_
   refine qB 25 33 (bz 31 67108863) HT_ ?_
   refine qB 26 34 (bz 31 134217727) HT_ ?_
   refine qB 27 35 (bz 31 268435455) HT_ ?_
   refine qB 28 36 (bz 31 536870911) HT_ ?_
   refine qB 29 37 (bz 31 1073741823) HT_ ?_
   refine qA 30 38 (bz 31 2147483647) HT_ ?_
   refine done_ (done_of HT_.out (by kernel_rfl)) ?_
   try go_wp2
   go_meet
   case rel => exact ⟨_, (true), (by first | rfl | (simp; done) | (simp [*]; done)), H', ⟨by first | omega | exact Nat.le_refl _⟩, ⟨kR1 HB⟩⟩
 case rest =>
  clear HC4; try clear c1; try clear c6; try clear c8
  obtain ⟨kq, x38_3, rfl, HA, HJ3, HB⟩ := hcut
  cases kq with
  | zero => exact absurd HA.out (by simp [impl_combine_impl_without.j0])
  | succ kj3 =>
   have H := HA.out; clear HA
   simp only [impl_combine_impl_without.j0] at H
   by_cases c27 : x38_3 = true
   · subst c27
     replace H : (some (([] : List (S42)), 1)) = some (r1, r2) := (by rw [if_pos rfl] at H; exact H)
     simp only [Option.some.injEq, Prod.mk.injEq] at H
     obtain ⟨rfl, rfl⟩ := H
     go_wp2
     go_ret2
     exact ⟨_, by first | rfl | (simp <;> rfl) | (simp [*] <;> rfl), by first | exact Kd.S_nil _ _ _ _ _ | exact Kd.N_nil _ _ _ _ _ | exact Kd.V_nil _ _ _ _ _ | exact Kd.Q_nil _ _ _ _ _ | exact Kd.R_nil _ _ _ _ _, kR1 HB⟩
   ·
    replace c27 := Bool.eq_false_iff.mpr c27
    subst c27
    replace H : ((impl_rankOf.f kj3 l0 l1).bind fun t386 => ((impl_combined_impl_without.f kj3 t386 l0 l1).bind fun t387 => ((impl_normalFull.f t387).bind fun bt390 => (some (bt390.1, bt390.2))))) = some (r1, r2) := (by rw [if_neg (show ¬ (false = true) by decide)] at H; exact H)
    obtain ⟨t386, A280, H⟩ := zW_ H
    replace H : ((impl_combined_impl_without.f kj3 t386 l0 l1).bind fun t387 => ((impl_normalFull.f t387).bind fun bt390 => (some (bt390.1, bt390.2)))) = some (r1, r2) := H
    have A28 := yD A280
    clear A280
    obtain ⟨t387, A290, H⟩ := zW_ H
    replace H : ((impl_normalFull.f t387).bind fun bt390 => (some (bt390.1, bt390.2))) = some (r1, r2) := H
    have A29 := yD A290
    clear A290
    obtain ⟨⟨t390, t393⟩, A300, H⟩ := zW_ H
    replace H : (some (t390, t393)) = some (r1, r2) := H
    have A30 := yD A300
    clear A300
    simp only [Option.some.injEq, Prod.mk.injEq] at H
    obtain ⟨rfl, rfl⟩ := H
    go_wp2_with (first | ((with_reducible refine gate_callee (f := 99) rfl ?_); refine gL 41 Try.func99 #[.slice A0 l0.length c0, .slice A1 l1.length c1] ?_; (with_reducible refine (impl_rankOf.calls kj3 (fun k_ => k_ < w.heap.size) _ _ l0 (fun k_ => k_ < w.heap.size) _ _ l1 t386 _ ?side1 ?side2 A28.out).mono ?_); (case side1 => exact Kd.V_mk HC0.out (Kd.F_below (Kd.C_F k42_heap HR0.out) (kB HB))); (case side2 => exact Kd.V_mk HC1.out (Kd.F_below (Kd.C_F k42_heap HR1.out) (kB HB))); rintro e w31 ⟨rfl, hb⟩; refine ⟨_, rfl, ?_⟩; replace HB := yD (zC (kB HB) hb); clear hb) | ((with_reducible refine gate_callee (f := 87) rfl ?_); refine gL 45 Try.func87 #[.int .i64 t386, .slice A0 l0.length c0, .slice A1 l1.length c1, .func (.func 59) #[] #[]] ?_; (with_reducible refine (impl_combined_impl_without.calls kj3 t386 _ _ l0 _ _ l1  t387 _ ?side1 ?side2 ?side3 ?side4 A29.out).mono ?_); (case side1 => exact kV (yY HR0.out HB.out)); (case side2 => exact HC0.out); (case side3 => exact kV (yY HR1.out HB.out)); (case side4 => exact HC1.out); rintro e w32 ⟨v388, rfl, ho0, hb⟩; refine ⟨_, rfl, ?_⟩; have HO389 := yD (zG ho0 (below_size (kB HB))); replace HB := yD (zC (kB HB) hb); clear hb ho0; obtain ⟨Ao33, co33, eo33⟩ := Kd.S_slice HO389.out; subst eo33) | ((with_reducible refine gate_callee (f := 86) rfl ?_); refine gL 46 Try.func86 #[.slice Ao33 t387.length co33] ?_; (with_reducible refine (impl_normalFull.calls ?P5_1 (.slice Ao33 t387.length co33) t387 t390 t393 w _ ?side1 ?side2 A30.out).mono ?_); (case side1 => exact kR1 HB); (case side2 => exact HO389.out); rintro e w34 ⟨v391, rfl, ho0, hb, hkp⟩; refine ⟨_, rfl, ?_⟩; have HO392 := yD (Kd.S_mono (ok' := fun k_ => True) ho0 (fun k_ hk_ => trivial)); replace HB := yD (hb); clear HO389; clear hb hkp ho0))
    go_ret2
    exact ⟨_, by first | rfl | (simp <;> rfl) | (simp [*] <;> rfl), kS HO392, kR1 HB⟩

end Go.Proofs.Ytdiaebjbiddefaa.PFnExactSubtractBoxes
