/- Each Go function here comes to what the plain function of its name says, where that says something. Made by a program of this session, over the print. -/
import Derived.Test.YtfblodggimjoaaaPFnMergedx0
import Derived.Test.YtfblodggimjoaaaPFnMergedx2
namespace Go.Proofs.Ytfblodggimjoaaa.PFnMerged
open Go.RowKit Go.Proofs.YtfblodggimjoaaaW.PrintWords Go.Proofs.YtfblodggimjoaaaW.PrintLast Go.Proofs.YtfblodggimjoaaaW.PrintMore
attribute [local go_sem] max2_int min2_int max_two min_two max_three min_three max_four min_four   -- for this text's walks alone
set_option linter.unusedVariables false
set_option linter.unusedSimpArgs false

/-! ### spec_l11Pages: function 49 -/
def spec_l11Pages.l0 : Nat → List (S79) → Int → Option (Bool)
 | 0, _, _ => none
 | k + 1, x0, x3 => if x3 < (x0.length : Int) then (if 0 ≤ x3 then ((spec_l00In.f ((rd_T79 x0 x3).f0) 0 255).bind fun t218 => (if t218 = true then (if (((rd_T79 x0 x3).f1).size : Int) = 64 then (if x3 > 0 then (if 0 ≤ (wrap64 (x3 - 1)) then (if (wrap64 (x3 - 1)) < (x0.length : Int) then (if ((rd_T79 x0 (wrap64 (x3 - 1))).f0) ≥ ((rd_T79 x0 x3).f0) then (some false) else (spec_l11Pages.l0 k x0 (wrap64 (x3 + 1)))) else (none)) else (none)) else (spec_l11Pages.l0 k x0 (wrap64 (x3 + 1)))) else (some false)) else (some false))) else (none)) else (some true)
def spec_l11Pages.f (k : Nat) (l0 : List (S79)) : Option (Bool) := if (l0.length : Int) > 256 then (some false) else (spec_l11Pages.l0 k l0 0)
theorem spec_l11Pages.mono_l : ∀ k, (∀ y0 y1, LeO (spec_l11Pages.l0 k y0 y1) (spec_l11Pages.l0 (k + 1) y0 y1))
 | 0 => fun _ _ r h => by simp [spec_l11Pages.l0] at h
 | k + 1 => by
  have ih0 := spec_l11Pages.mono_l k
  · intro y0 y1
    unfold spec_l11Pages.l0
    repeat' (with_reducible first | exact ih0 _ _ | exact LeO.refl _ | exact LeO.none _ | refine LeO.ite ?_ ?_ | refine LeO.bind ?_ (fun _ => ?_))
theorem spec_l11Pages.mono : ∀ a0 k, LeO (spec_l11Pages.f k a0) (spec_l11Pages.f (k + 1) a0) := by
 intro a0 k
 have ih0 := spec_l11Pages.mono_l k
 unfold spec_l11Pages.f
 repeat' (with_reducible first | exact ih0 _ _ | exact LeO.refl _ | exact LeO.none _ | refine LeO.ite ?_ ?_ | refine LeO.bind ?_ (fun _ => ?_))
def spec_l11Pages.T6 : Bool × List (List Nat × List Nat) := (true, [([], []), ([], []), ([0, 1], [0, 1]), ([2], [2]), ([3], [3]), ([4], [4]), ([5], [5]), ([6, 5], [6]), ([7], [7]), ([7], [7]), ([8, 9, 7], [7, 8, 9]), ([10, 7], [7, 10]), ([11, 7], [7, 11]), ([12, 7], [7, 12]), ([13, 7], [7, 13]), ([7, 14], [7, 14]), ([15, 7], [15]), ([16], [16]), ([17, 16], [16, 17]), ([18, 16, 16], [16, 18]), ([19], [19]), ([19], [19]), ([21, 19], [19, 21]), ([20, 22, 19], [19, 20, 22]), ([23, 19], [19, 23]), ([24, 19], [19, 24]), ([19], [19]), ([19], [19]), ([26, 27, 19], [19, 26, 27]), ([28, 19], [19, 28]), ([29, 19], [19, 29]), ([25, 30, 19], [19, 25, 30]), ([19, 31, 16], [16, 19, 31]), ([16, 32], [16, 32])])
def spec_l11Pages.B6 : List Nat := [0, 0, 3, 7, 15, 31, 63, 127, 255, 255, 1023, 2047, 4095, 8191, 16383, 32767, 65535, 131071, 262143, 524287, 1048575, 1048575, 3145727, 8388607, 16777215, 33554431, 1048575, 1048575, 202375167, 470810623, 1007681535, 2147483647, 4294967295, 8589934591]
theorem spec_l11Pages.tab6 : rtab .any (opsOf Try.f49 6) = spec_l11Pages.T6 := by kernel_rfl
theorem spec_l11Pages.bits6 : waitsOk spec_l11Pages.T6.2 spec_l11Pages.B6 = true := by kernel_rfl
set_option maxHeartbeats 8000000 in
set_option maxRecDepth 100000 in
theorem spec_l11Pages.calls (k : Nat) (A0 : Option Addr) (c0 : Nat) (l0 : List (S79)) (r : Bool) (w : World) (hr0 : Kd.C k79 w A0 l0.length l0) (hc0 : l0.length ≤ c0) (h : spec_l11Pages.f k l0 = some r) :
 Calls Try.prog 49 #[.slice A0 l0.length c0] w fun e w' => e = .returned (.bool r) ∧ Below w.heap.size w w' := by
 have HR0 := yD hr0
 have HC0 := yD hc0
 clear hr0 hc0
 have HB := yD (Below.refl w.heap.size w)
 have H : (if (l0.length : Int) > 256 then (some false) else (spec_l11Pages.l0 k l0 0)) = some r := h
 clear h
 by_cases c2 : (l0.length : Int) > 256
 ·
  rw [if_pos c2] at H
  have c2b0 : decide (256 < (l0.length : Int)) = true := zR c2
  have c2b1 : decide (256 < l0.length) = true := zR (by omega)
  clear c2; obtain rfl := Option.some.inj H; go_enter Try.func49, Try.ntmps49
  go_wp2
  go_ret
  exact ⟨by first | rfl | (simp <;> rfl) | (simp [*] <;> rfl), kR0 HB⟩
 ·
  rw [if_neg c2] at H
  have c2b0 : decide (256 < (l0.length : Int)) = false := zS c2
  have c2b1 : decide (256 < l0.length) = false := zS (by omega)
  clear c2
  have H' := yD H
  clear H; go_enter Try.func49, Try.ntmps49
  go_wp2
  go_loopg [3] k (fun kq v3 w' => ∃ (x3_1 : Int), v3 = .int .i64 x3_1 ∧ Aside0 (spec_l11Pages.l0 kq l0 x3_1 = some r) ∧ Aside0 (kq ≤ k) ∧ Aside0 (Below w.heap.size w w'))
  case atStart => exact ⟨(0), (by first | rfl | (simp; done) | (simp [*]; done)), H', ⟨Nat.le_refl _⟩, ⟨kR0 HB⟩⟩
  case round =>
   clear H'
   try clear c2; try clear c2b0; try clear c2b1
   obtain ⟨x3_1, rfl, HA, HK1, HB⟩ := hrel
   cases gk with
   | zero => exact absurd HA.out (by simp [spec_l11Pages.l0])
   | succ k1 =>
    have H := HA.out; clear HA
    simp only [spec_l11Pages.l0] at H
    by_cases c3 : x3_1 < (l0.length : Int)
    ·
     rw [if_pos c3] at H
     have c3b0 : decide (x3_1 < (l0.length : Int)) = true := zR c3; clear c3
     by_cases c4 : 0 ≤ x3_1
     ·
      rw [if_pos c4] at H
      have c4b0 : decide (0 ≤ x3_1) = true := zR c4; clear c4
      obtain ⟨t218, A50, H⟩ := zW_ H
      replace H : (if t218 = true then (if (((rd_T79 l0 x3_1).f1).size : Int) = 64 then (if x3_1 > 0 then (if 0 ≤ (wrap64 (x3_1 - 1)) then (if (wrap64 (x3_1 - 1)) < (l0.length : Int) then (if ((rd_T79 l0 (wrap64 (x3_1 - 1))).f0) ≥ ((rd_T79 l0 x3_1).f0) then (some false) else (spec_l11Pages.l0 k1 l0 (wrap64 (x3_1 + 1)))) else (none)) else (none)) else (spec_l11Pages.l0 k1 l0 (wrap64 (x3_1 + 1)))) else (some false)) else (some false)) = some r := H
      have A5 := yD A50
      clear A50
      by_cases c6 : t218 = true
      ·
       subst c6
       replace H : (if (((rd_T79 l0 x3_1).f1).size : Int) = 64 then (if x3_1 > 0 then (if 0 ≤ (wrap64 (x3_1 - 1)) then (if (wrap64 (x3_1 - 1)) < (l0.length : Int) then (if ((rd_T79 l0 (wrap64 (x3_1 - 1))).f0) ≥ ((rd_T79 l0 x3_1).f0) then (some false) else (spec_l11Pages.l0 k1 l0 (wrap64 (x3_1 + 1)))) else (none)) else (none)) else (spec_l11Pages.l0 k1 l0 (wrap64 (x3_1 + 1)))) else (some false)) = some r := (by rw [if_pos rfl] at H; exact H)
       by_cases c7 : (((rd_T79 l0 x3_1).f1).size : Int) = 64
       ·
        rw [if_pos c7] at H
        have c7b0 : ((((rd_T79 l0 x3_1).f1).size : Int) == 64) = true := beq_iff_eq.mpr c7
        have c7b1 : ((((rd_T79 l0 x3_1).f1).size : Int) != 64) = false := bne_eq_false_iff_eq.mpr c7
        clear c7
        by_cases c8 : x3_1 > 0
        ·
         rw [if_pos c8] at H
         have c8b0 : decide (0 < x3_1) = true := zR c8; clear c8
         obtain ⟨ji9, hji9⟩ : ∃ j_ : Int, (wrap64 (x3_1 - 1)) = j_ := ⟨_, rfl⟩
         replace H : (if 0 ≤ (ji9) then (if (ji9) < (l0.length : Int) then (if ((rd_T79 l0 (ji9)).f0) ≥ ((rd_T79 l0 x3_1).f0) then (some false) else (spec_l11Pages.l0 k1 l0 (wrap64 (x3_1 + 1)))) else (none)) else (none)) = some r := by first | (rw [hji9] at H; exact H) | (simp only [hji9] at H ⊢; exact H)
         (try rw [hji9] at A5)
         have hji9w : (IntKind.i64.wrap (x3_1 - 1)) = ji9 := (i64_w _).trans hji9
         by_cases c10 : 0 ≤ (ji9)
         ·
          rw [if_pos c10] at H
          have c10b0 : decide (0 ≤ (ji9)) = true := zR c10; clear c10
          by_cases c11 : (ji9) < (l0.length : Int)
          ·
           rw [if_pos c11] at H
           have c11b0 : decide ((ji9) < (l0.length : Int)) = true := zR c11; clear c11
           by_cases c12 : ((rd_T79 l0 (ji9)).f0) ≥ ((rd_T79 l0 x3_1).f0)
           ·
            rw [if_pos c12] at H
            have c12b0 : decide (((rd_T79 l0 x3_1).f0) ≤ ((rd_T79 l0 (ji9)).f0)) = true := zR c12; clear c12; obtain rfl := Option.some.inj H
            try go_wp2
            have n0_ := yD (yP HB.out)
            clear HB; have HB := n0_; clear n0_
            have p217 : 0 ≤ (x3_1 : Int) := zP (by assumption)
            have q217 : x3_1 < (l0.length : Int) := zP (by assumption)
            obtain ⟨ad217, e217, hx217_0, hx217_1⟩ := at_T79 HR0.out x3_1 p217 q217
            have hw217_1 := hx217_1; have hw217_0 := hx217_0; cases e217
            replace hx217_0 := (HB.out.cell (zQ w _ hx217_0)).trans hx217_0
            replace hx217_1 := (HB.out.cell (zQ w _ hx217_1)).trans hx217_1
            replace p217 := eq_true p217; replace q217 := eq_true q217
            have p219 : 0 ≤ (x3_1 : Int) := zP (by assumption)
            have q219 : x3_1 < (l0.length : Int) := zP (by assumption)
            obtain ⟨ad219, e219, hx219_0, hx219_1⟩ := at_T79 HR0.out x3_1 p219 q219
            have hw219_1 := hx219_1; have hw219_0 := hx219_0
            obtain rfl : ad217 = ad219 := (by injection e219)
            replace hx219_0 := (HB.out.cell (zQ w _ hx219_0)).trans hx219_0
            replace hx219_1 := (HB.out.cell (zQ w _ hx219_1)).trans hx219_1
            replace p219 := eq_true p219; replace q219 := eq_true q219
            have p220 : 0 ≤ ((ji9) : Int) := zP (by assumption)
            have q220 : (ji9) < (l0.length : Int) := zP (by assumption)
            obtain ⟨ad220, e220, hx220_0, hx220_1⟩ := at_T79 HR0.out (ji9) p220 q220
            have hw220_1 := hx220_1; have hw220_0 := hx220_0
            obtain rfl : ad217 = ad220 := (by injection e220)
            replace hx220_0 := (HB.out.cell (zQ w _ hx220_0)).trans hx220_0
            replace hx220_1 := (HB.out.cell (zQ w _ hx220_1)).trans hx220_1
            replace p220 := eq_true p220; replace q220 := eq_true q220
            have p221 : 0 ≤ (x3_1 : Int) := zP (by assumption)
            have q221 : x3_1 < (l0.length : Int) := zP (by assumption)
            obtain ⟨ad221, e221, hx221_0, hx221_1⟩ := at_T79 HR0.out x3_1 p221 q221
            have hw221_1 := hx221_1; have hw221_0 := hx221_0
            obtain rfl : ad217 = ad221 := (by injection e221)
            replace hx221_0 := (HB.out.cell (zQ w _ hx221_0)).trans hx221_0
            replace hx221_1 := (HB.out.cell (zQ w _ hx221_1)).trans hx221_1
            replace p221 := eq_true p221; replace q221 := eq_true q221
            refine start_ (n := 34) (S := fun w' => w'.cell? (ad217.add ((x3_1).toNat * 2)) = some (.int .i64 ((rd_T79 l0 x3_1).f0)) ∧ w'.cell? ⟨(ad217.add ((x3_1).toNat * 2)).block, (ad217.add ((x3_1).toNat * 2)).off + 1, none⟩ = some (.string ((rd_T79 l0 x3_1).f1)) ∧ w'.cell? (ad217.add ((x3_1).toNat * 2)) = some (.int .i64 ((rd_T79 l0 x3_1).f0)) ∧ w'.cell? ⟨(ad217.add ((x3_1).toNat * 2)).block, (ad217.add ((x3_1).toNat * 2)).off + 1, none⟩ = some (.string ((rd_T79 l0 x3_1).f1)) ∧ w'.cell? (ad217.add (((ji9)).toNat * 2)) = some (.int .i64 ((rd_T79 l0 (ji9)).f0)) ∧ w'.cell? ⟨(ad217.add (((ji9)).toNat * 2)).block, (ad217.add (((ji9)).toNat * 2)).off + 1, none⟩ = some (.string ((rd_T79 l0 (ji9)).f1)) ∧ w'.cell? (ad217.add ((x3_1).toNat * 2)) = some (.int .i64 ((rd_T79 l0 x3_1).f0)) ∧ w'.cell? ⟨(ad217.add ((x3_1).toNat * 2)).block, (ad217.add ((x3_1).toNat * 2)).off + 1, none⟩ = some (.string ((rd_T79 l0 x3_1).f1))) (ds := []) (bz 34 0) (by kernel_rfl) rfl rfl ⟨((HB.out.cell (zQ w _ hw217_0)).trans hw217_0), ((HB.out.cell (zQ w _ hw217_1)).trans hw217_1), ((HB.out.cell (zQ w _ hw219_0)).trans hw219_0), ((HB.out.cell (zQ w _ hw219_1)).trans hw219_1), ((HB.out.cell (zQ w _ hw220_0)).trans hw220_0), ((HB.out.cell (zQ w _ hw220_1)).trans hw220_1), ((HB.out.cell (zQ w _ hw221_0)).trans hw221_0), ((HB.out.cell (zQ w _ hw221_1)).trans hw221_1)⟩ (fun hHeld => ?_); refine with_tabW spec_l11Pages.tab6 spec_l11Pages.bits6 (fun HT_ HW_ => ?_)
            generalize wr.drew = w13 at HB hx217_0 hx217_1 hx219_0 hx219_1 hx220_0 hx220_1 hx221_0 hx221_1 hHeld ⊢
            refine qA 0 13 (bz 34 1) HT_ ?_
            refine qA 1 14 (bz 34 3) HT_ ?_
            refine qA 2 15 (bz 34 7) HT_ ?_
            refine qA 3 16 (bz 34 15) HT_ ?_
            refine qC 4 17 (bz 34 31) HT_ HW_ hHeld ?_ (hy := by rintro w' ⟨s0, s1, s2, s3, s4, s5, s6, s7⟩; go_simp; with_reducible rfl)
            refine one_ (i := 5) (N := some 18) (bz 34 63) rfl rfl (one_of HT_.out (by kernel_rfl)) (by decide) (fun K hK => ?_)
            refine goes_ Try.func65 (by kernel_rfl) rfl #[.int .i64 ((rd_T79 l0 x3_1).f0), .int .i64 0, .int .i64 255] (by rfl) rfl rfl (by (try simp only [zK, zL, zM]); first | done | rfl | (simp only [zN, zO]; rfl)) ?_
            with_reducible refine (spec_l00In.calls ((rd_T79 l0 x3_1).f0) 0 255 true _ A5.out).mono ?_
            rintro e w' ⟨rfl, ⟨nd, rfl⟩⟩
            refine ⟨_, rfl, ?_⟩
            refine hK.out _ _ ⟨((HB.out.cell (zQ w _ hw217_0)).trans hw217_0), ((HB.out.cell (zQ w _ hw217_1)).trans hw217_1), ((HB.out.cell (zQ w _ hw219_0)).trans hw219_0), ((HB.out.cell (zQ w _ hw219_1)).trans hw219_1), ((HB.out.cell (zQ w _ hw220_0)).trans hw220_0), ((HB.out.cell (zQ w _ hw220_1)).trans hw220_1), ((HB.out.cell (zQ w _ hw221_0)).trans hw221_0), ((HB.out.cell (zQ w _ hw221_1)).trans hw221_1)⟩ (fun hHeld => ?_)
            clear hK K
            refine norm_ (a' := ?_) ?_ ?_
            rotate_left
            · show Act.put _ (some 18) _ = _
              simp only [Act.put, zH, zI, zJ, i64_w, i32_w]
              rfl
            refine qA 6 19 (bz 34 127) HT_ ?_
            refine qA 7 20 (bz 34 255) HT_ ?_
            refine qA 8 21 (bz 34 511) HT_ ?_
            refine qA 9 22 (bz 34 1023) HT_ ?_
            refine qA 10 23 (bz 34 2047) HT_ ?_
            refine qA 11 24 (bz 34 4095) HT_ ?_
            refine qC 12 25 (bz 34 8191) HT_ HW_ hHeld ?_ (hy := by rintro w' ⟨s0, s1, s2, s3, s4, s5, s6, s7⟩; go_simp; with_reducible rfl)
            refine qA 13 26 (bz 34 16383) HT_ ?_
            refine qA 14 27 (bz 34 32767) HT_ ?_
            refine qA 15 28 (bz 34 65535) HT_ ?_
            refine qA 16 29 (bz 34 131071) HT_ ?_
            refine qA 17 30 (bz 34 262143) HT_ ?_
            refine qA 18 31 (bz 34 524287) HT_ ?_
            refine qA 19 32 (bz 34 1048575) HT_ ?_
            refine qA 20 33 (bz 34 2097151) HT_ ?_
            refine qA 21 34 (bz 34 4194303) HT_ ?_
            refine qA 22 35 (bz 34 8388607) HT_ ?_
            refine qA 23 36 (bz 34 16777215) HT_ ?_
            refine qA 24 37 (bz 34 33554431) HT_ ?_
            refine qA 26 39 (bz 34 100663295) HT_ ?_
            refine qA 27 40 (bz 34 234881023) HT_ ?_
            refine qA 28 41 (bz 34 503316479) HT_ ?_
            refine qA 29 42 (bz 34 1040187391) HT_ ?_
            refine qC 25 38 (bz 34 1073741823) HT_ HW_ hHeld ?_ (hy := by rintro w' ⟨s0, s1, s2, s3, s4, s5, s6, s7⟩; go_simp; with_reducible rfl)
            refine qC 30 43 (bz 34 2147483647) HT_ HW_ hHeld ?_ (hy := by rintro w' ⟨s0, s1, s2, s3, s4, s5, s6, s7⟩; go_simp; with_reducible rfl)
            refine qA 31 44 (bz 34 4294967295) HT_ ?_
            refine qA 32 45 (bz 34 8589934591) HT_ ?_
            refine qA 33 46 (bz 34 17179869183) HT_ ?_
            refine done_ (done_of HT_.out (by kernel_rfl)) ?_
            try go_wp2
            go_ret
            exact ⟨by first | rfl | (simp [errW_none, errW_some] <;> rfl) | (simp only [← hji9]; first | rfl | (simp [errW_none, errW_some] <;> rfl)) | (simp [*, errW_none, errW_some] <;> rfl), kR0 HB⟩
           ·
            rw [if_neg c12] at H
            have c12b0 : decide (((rd_T79 l0 x3_1).f0) ≤ ((rd_T79 l0 (ji9)).f0)) = false := zS c12; clear c12
            have H' := yD H
            clear H
            try go_wp2
            have n0_ := yD (yP HB.out)
            clear HB; have HB := n0_; clear n0_
            have p217 : 0 ≤ (x3_1 : Int) := zP (by assumption)
            have q217 : x3_1 < (l0.length : Int) := zP (by assumption)
            obtain ⟨ad217, e217, hx217_0, hx217_1⟩ := at_T79 HR0.out x3_1 p217 q217
            have hw217_1 := hx217_1; have hw217_0 := hx217_0; cases e217
            replace hx217_0 := (HB.out.cell (zQ w _ hx217_0)).trans hx217_0
            replace hx217_1 := (HB.out.cell (zQ w _ hx217_1)).trans hx217_1
            replace p217 := eq_true p217; replace q217 := eq_true q217
            have p219 : 0 ≤ (x3_1 : Int) := zP (by assumption)
            have q219 : x3_1 < (l0.length : Int) := zP (by assumption)
            obtain ⟨ad219, e219, hx219_0, hx219_1⟩ := at_T79 HR0.out x3_1 p219 q219
            have hw219_1 := hx219_1; have hw219_0 := hx219_0
            obtain rfl : ad217 = ad219 := (by injection e219)
            replace hx219_0 := (HB.out.cell (zQ w _ hx219_0)).trans hx219_0
            replace hx219_1 := (HB.out.cell (zQ w _ hx219_1)).trans hx219_1
            replace p219 := eq_true p219; replace q219 := eq_true q219
            have p220 : 0 ≤ ((ji9) : Int) := zP (by assumption)
            have q220 : (ji9) < (l0.length : Int) := zP (by assumption)
            obtain ⟨ad220, e220, hx220_0, hx220_1⟩ := at_T79 HR0.out (ji9) p220 q220
            have hw220_1 := hx220_1; have hw220_0 := hx220_0
            obtain rfl : ad217 = ad220 := (by injection e220)
            replace hx220_0 := (HB.out.cell (zQ w _ hx220_0)).trans hx220_0
            replace hx220_1 := (HB.out.cell (zQ w _ hx220_1)).trans hx220_1
            replace p220 := eq_true p220; replace q220 := eq_true q220
            have p221 : 0 ≤ (x3_1 : Int) := zP (by assumption)
            have q221 : x3_1 < (l0.length : Int) := zP (by assumption)
            obtain ⟨ad221, e221, hx221_0, hx221_1⟩ := at_T79 HR0.out x3_1 p221 q221
            have hw221_1 := hx221_1; have hw221_0 := hx221_0
            obtain rfl : ad217 = ad221 := (by injection e221)
            replace hx221_0 := (HB.out.cell (zQ w _ hx221_0)).trans hx221_0
            replace hx221_1 := (HB.out.cell (zQ w _ hx221_1)).trans hx221_1
            replace p221 := eq_true p221; replace q221 := eq_true q221
            refine start_ (n := 34) (S := fun w' => w'.cell? (ad217.add ((x3_1).toNat * 2)) = some (.int .i64 ((rd_T79 l0 x3_1).f0)) ∧ w'.cell? ⟨(ad217.add ((x3_1).toNat * 2)).block, (ad217.add ((x3_1).toNat * 2)).off + 1, none⟩ = some (.string ((rd_T79 l0 x3_1).f1)) ∧ w'.cell? (ad217.add ((x3_1).toNat * 2)) = some (.int .i64 ((rd_T79 l0 x3_1).f0)) ∧ w'.cell? ⟨(ad217.add ((x3_1).toNat * 2)).block, (ad217.add ((x3_1).toNat * 2)).off + 1, none⟩ = some (.string ((rd_T79 l0 x3_1).f1)) ∧ w'.cell? (ad217.add (((ji9)).toNat * 2)) = some (.int .i64 ((rd_T79 l0 (ji9)).f0)) ∧ w'.cell? ⟨(ad217.add (((ji9)).toNat * 2)).block, (ad217.add (((ji9)).toNat * 2)).off + 1, none⟩ = some (.string ((rd_T79 l0 (ji9)).f1)) ∧ w'.cell? (ad217.add ((x3_1).toNat * 2)) = some (.int .i64 ((rd_T79 l0 x3_1).f0)) ∧ w'.cell? ⟨(ad217.add ((x3_1).toNat * 2)).block, (ad217.add ((x3_1).toNat * 2)).off + 1, none⟩ = some (.string ((rd_T79 l0 x3_1).f1))) (ds := []) (bz 34 0) (by kernel_rfl) rfl rfl ⟨((HB.out.cell (zQ w _ hw217_0)).trans hw217_0), ((HB.out.cell (zQ w _ hw217_1)).trans hw217_1), ((HB.out.cell (zQ w _ hw219_0)).trans hw219_0), ((HB.out.cell (zQ w _ hw219_1)).trans hw219_1), ((HB.out.cell (zQ w _ hw220_0)).trans hw220_0), ((HB.out.cell (zQ w _ hw220_1)).trans hw220_1), ((HB.out.cell (zQ w _ hw221_0)).trans hw221_0), ((HB.out.cell (zQ w _ hw221_1)).trans hw221_1)⟩ (fun hHeld => ?_); refine with_tabW spec_l11Pages.tab6 spec_l11Pages.bits6 (fun HT_ HW_ => ?_)
            generalize wr.drew = w14 at HB hx217_0 hx217_1 hx219_0 hx219_1 hx220_0 hx220_1 hx221_0 hx221_1 hHeld ⊢
            refine qA 0 13 (bz 34 1) HT_ ?_
            refine qA 1 14 (bz 34 3) HT_ ?_
            refine qA 2 15 (bz 34 7) HT_ ?_
            refine qA 3 16 (bz 34 15) HT_ ?_
            refine qC 4 17 (bz 34 31) HT_ HW_ hHeld ?_ (hy := by rintro w' ⟨s0, s1, s2, s3, s4, s5, s6, s7⟩; go_simp; with_reducible rfl)
            refine one_ (i := 5) (N := some 18) (bz 34 63) rfl rfl (one_of HT_.out (by kernel_rfl)) (by decide) (fun K hK => ?_)
            refine goes_ Try.func65 (by kernel_rfl) rfl #[.int .i64 ((rd_T79 l0 x3_1).f0), .int .i64 0, .int .i64 255] (by rfl) rfl rfl (by (try simp only [zK, zL, zM]); first | done | rfl | (simp only [zN, zO]; rfl)) ?_
            with_reducible refine (spec_l00In.calls ((rd_T79 l0 x3_1).f0) 0 255 true _ A5.out).mono ?_
            rintro e w' ⟨rfl, ⟨nd, rfl⟩⟩
            refine ⟨_, rfl, ?_⟩
            refine hK.out _ _ ⟨((HB.out.cell (zQ w _ hw217_0)).trans hw217_0), ((HB.out.cell (zQ w _ hw217_1)).trans hw217_1), ((HB.out.cell (zQ w _ hw219_0)).trans hw219_0), ((HB.out.cell (zQ w _ hw219_1)).trans hw219_1), ((HB.out.cell (zQ w _ hw220_0)).trans hw220_0), ((HB.out.cell (zQ w _ hw220_1)).trans hw220_1), ((HB.out.cell (zQ w _ hw221_0)).trans hw221_0), ((HB.out.cell (zQ w _ hw221_1)).trans hw221_1)⟩ (fun hHeld => ?_)
            clear hK K
            refine norm_ (a' := ?_) ?_ ?_
            rotate_left
            · show Act.put _ (some 18) _ = _
              simp only [Act.put, zH, zI, zJ, i64_w, i32_w]
              rfl
            refine qA 6 19 (bz 34 127) HT_ ?_
            refine qA 7 20 (bz 34 255) HT_ ?_
            refine qA 8 21 (bz 34 511) HT_ ?_
            refine qA 9 22 (bz 34 1023) HT_ ?_
            refine qA 10 23 (bz 34 2047) HT_ ?_
            refine qA 11 24 (bz 34 4095) HT_ ?_
            refine qC 12 25 (bz 34 8191) HT_ HW_ hHeld ?_ (hy := by rintro w' ⟨s0, s1, s2, s3, s4, s5, s6, s7⟩; go_simp; with_reducible rfl)
            refine qA 13 26 (bz 34 16383) HT_ ?_
            refine qA 14 27 (bz 34 32767) HT_ ?_
            refine qA 15 28 (bz 34 65535) HT_ ?_
            refine qA 16 29 (bz 34 131071) HT_ ?_
            refine qA 17 30 (bz 34 262143) HT_ ?_
            refine qA 18 31 (bz 34 524287) HT_ ?_
            refine qA 19 32 (bz 34 1048575) HT_ ?_
            refine qA 20 33 (bz 34 2097151) HT_ ?_
            refine qA 21 34 (bz 34 4194303) HT_ ?_
            refine qA 22 35 (bz 34 8388607) HT_ ?_
            refine qA 23 36 (bz 34 16777215) HT_ ?_
            refine qA 24 37 (bz 34 33554431) HT_ ?_
            refine qA 26 39 (bz 34 100663295) HT_ ?_
            refine qA 27 40 (bz 34 234881023) HT_ ?_
            refine qA 28 41 (bz 34 503316479) HT_ ?_
            refine qA 29 42 (bz 34 1040187391) HT_ ?_
            refine qC 25 38 (bz 34 1073741823) HT_ HW_ hHeld ?_ (hy := by rintro w' ⟨s0, s1, s2, s3, s4, s5, s6, s7⟩; go_simp; with_reducible rfl)
            refine qC 30 43 (bz 34 2147483647) HT_ HW_ hHeld ?_ (hy := by rintro w' ⟨s0, s1, s2, s3, s4, s5, s6, s7⟩; go_simp; with_reducible rfl)
            refine qA 31 44 (bz 34 4294967295) HT_ ?_
            refine qA 32 45 (bz 34 8589934591) HT_ ?_
            refine qA 33 46 (bz 34 17179869183) HT_ ?_
            refine done_ (done_of HT_.out (by kernel_rfl)) ?_
            try go_wp2
            go_roundg k1
            case measure => have := HK1.out; omega
            case rel => exact ⟨(wrap64 (x3_1 + 1)), (by first | rfl | (simp; done) | (simp [*]; done)), H', ⟨by have := HK1.out; omega⟩, ⟨kR0 HB⟩⟩
          · rw [if_neg c11] at H
            exact absurd H (by simp)
         · rw [if_neg c10] at H
           exact absurd H (by simp)
        ·
         rw [if_neg c8] at H
         have c8b0 : decide (0 < x3_1) = false := zS c8; clear c8
         have H' := yD H
         clear H
         try go_wp2
         have n0_ := yD (yP HB.out)
         clear HB; have HB := n0_; clear n0_
         have p217 : 0 ≤ (x3_1 : Int) := zP (by assumption)
         have q217 : x3_1 < (l0.length : Int) := zP (by assumption)
         obtain ⟨ad217, e217, hx217_0, hx217_1⟩ := at_T79 HR0.out x3_1 p217 q217
         have hw217_1 := hx217_1; have hw217_0 := hx217_0; cases e217
         replace hx217_0 := (HB.out.cell (zQ w _ hx217_0)).trans hx217_0
         replace hx217_1 := (HB.out.cell (zQ w _ hx217_1)).trans hx217_1
         replace p217 := eq_true p217; replace q217 := eq_true q217
         have p219 : 0 ≤ (x3_1 : Int) := zP (by assumption)
         have q219 : x3_1 < (l0.length : Int) := zP (by assumption)
         obtain ⟨ad219, e219, hx219_0, hx219_1⟩ := at_T79 HR0.out x3_1 p219 q219
         have hw219_1 := hx219_1; have hw219_0 := hx219_0
         obtain rfl : ad217 = ad219 := (by injection e219)
         replace hx219_0 := (HB.out.cell (zQ w _ hx219_0)).trans hx219_0
         replace hx219_1 := (HB.out.cell (zQ w _ hx219_1)).trans hx219_1
         replace p219 := eq_true p219; replace q219 := eq_true q219
         refine start_ (n := 34) (S := fun w' => w'.cell? (ad217.add ((x3_1).toNat * 2)) = some (.int .i64 ((rd_T79 l0 x3_1).f0)) ∧ w'.cell? ⟨(ad217.add ((x3_1).toNat * 2)).block, (ad217.add ((x3_1).toNat * 2)).off + 1, none⟩ = some (.string ((rd_T79 l0 x3_1).f1)) ∧ w'.cell? (ad217.add ((x3_1).toNat * 2)) = some (.int .i64 ((rd_T79 l0 x3_1).f0)) ∧ w'.cell? ⟨(ad217.add ((x3_1).toNat * 2)).block, (ad217.add ((x3_1).toNat * 2)).off + 1, none⟩ = some (.string ((rd_T79 l0 x3_1).f1))) (ds := []) (bz 34 0) (by kernel_rfl) rfl rfl ⟨((HB.out.cell (zQ w _ hw217_0)).trans hw217_0), ((HB.out.cell (zQ w _ hw217_1)).trans hw217_1), ((HB.out.cell (zQ w _ hw219_0)).trans hw219_0), ((HB.out.cell (zQ w _ hw219_1)).trans hw219_1)⟩ (fun hHeld => ?_); refine with_tabW spec_l11Pages.tab6 spec_l11Pages.bits6 (fun HT_ HW_ => ?_)
         generalize wr.drew = w15 at HB hx217_0 hx217_1 hx219_0 hx219_1 hHeld ⊢
         refine qA 0 13 (bz 34 1) HT_ ?_
         refine qA 1 14 (bz 34 3) HT_ ?_
         refine qA 2 15 (bz 34 7) HT_ ?_
         refine qA 3 16 (bz 34 15) HT_ ?_
         refine qC 4 17 (bz 34 31) HT_ HW_ hHeld ?_ (hy := by rintro w' ⟨s0, s1, s2, s3⟩; go_simp; with_reducible rfl)
         refine one_ (i := 5) (N := some 18) (bz 34 63) rfl rfl (one_of HT_.out (by kernel_rfl)) (by decide) (fun K hK => ?_)
         refine goes_ Try.func65 (by kernel_rfl) rfl #[.int .i64 ((rd_T79 l0 x3_1).f0), .int .i64 0, .int .i64 255] (by rfl) rfl rfl (by (try simp only [zK, zL, zM]); first | done | rfl | (simp only [zN, zO]; rfl)) ?_
         with_reducible refine (spec_l00In.calls ((rd_T79 l0 x3_1).f0) 0 255 true _ A5.out).mono ?_
         rintro e w' ⟨rfl, ⟨nd, rfl⟩⟩
         refine ⟨_, rfl, ?_⟩
         refine hK.out _ _ ⟨((HB.out.cell (zQ w _ hw217_0)).trans hw217_0), ((HB.out.cell (zQ w _ hw217_1)).trans hw217_1), ((HB.out.cell (zQ w _ hw219_0)).trans hw219_0), ((HB.out.cell (zQ w _ hw219_1)).trans hw219_1)⟩ (fun hHeld => ?_)
         clear hK K
         refine norm_ (a' := ?_) ?_ ?_
         rotate_left
         · show Act.put _ (some 18) _ = _
           simp only [Act.put, zH, zI, zJ, i64_w, i32_w]
           rfl
         refine qA 6 19 (bz 34 127) HT_ ?_
         refine qA 7 20 (bz 34 255) HT_ ?_
         refine qA 8 21 (bz 34 511) HT_ ?_
         refine qA 9 22 (bz 34 1023) HT_ ?_
         refine qA 10 23 (bz 34 2047) HT_ ?_
         refine qA 11 24 (bz 34 4095) HT_ ?_
         refine qC 12 25 (bz 34 8191) HT_ HW_ hHeld ?_ (hy := by rintro w' ⟨s0, s1, s2, s3⟩; go_simp; with_reducible rfl)
         refine qA 13 26 (bz 34 16383) HT_ ?_
         refine qA 14 27 (bz 34 32767) HT_ ?_
         refine qA 15 28 (bz 34 65535) HT_ ?_
         refine qA 16 29 (bz 34 131071) HT_ ?_
         refine qA 17 30 (bz 34 262143) HT_ ?_
         refine qA 18 31 (bz 34 524287) HT_ ?_
         refine qA 19 32 (bz 34 1048575) HT_ ?_
         refine qB 20 33 (bz 34 2097151) HT_ ?_
         refine qB 21 34 (bz 34 4194303) HT_ ?_
         refine qB 22 35 (bz 34 8388607) HT_ ?_
         refine qB 23 36 (bz 34 16777215) HT_ ?_
         refine qB 24 37 (bz 34 33554431) HT_ ?_
         refine qB 25 38 (bz 34 67108863) HT_ ?_
         refine qB 26 39 (bz 34 134217727) HT_ ?_
         refine qB 27 40 (bz 34 268435455) HT_ ?_
         refine qB 28 41 (bz 34 536870911) HT_ ?_
         refine qB 29 42 (bz 34 1073741823) HT_ ?_
         refine qB 30 43 (bz 34 2147483647) HT_ ?_
         refine qB 31 44 (bz 34 4294967295) HT_ ?_
         refine qA 32 45 (bz 34 8589934591) HT_ ?_
         refine qA 33 46 (bz 34 17179869183) HT_ ?_
         refine done_ (done_of HT_.out (by kernel_rfl)) ?_
         try go_wp2
         go_roundg k1
         case measure => have := HK1.out; omega
         case rel => exact ⟨(wrap64 (x3_1 + 1)), (by first | rfl | (simp; done) | (simp [*]; done)), H', ⟨by have := HK1.out; omega⟩, ⟨kR0 HB⟩⟩
       ·
        rw [if_neg c7] at H
        have c7b0 : ((((rd_T79 l0 x3_1).f1).size : Int) == 64) = false := beq_eq_false_iff_ne.mpr c7
        have c7b1 : ((((rd_T79 l0 x3_1).f1).size : Int) != 64) = true := bne_iff_ne.mpr c7
        obtain rfl := Option.some.inj H
        try go_wp2
        have n0_ := yD (yP HB.out)
        clear HB; have HB := n0_; clear n0_
        have p217 : 0 ≤ (x3_1 : Int) := zP (by assumption)
        have q217 : x3_1 < (l0.length : Int) := zP (by assumption)
        obtain ⟨ad217, e217, hx217_0, hx217_1⟩ := at_T79 HR0.out x3_1 p217 q217
        have hw217_1 := hx217_1; have hw217_0 := hx217_0; cases e217
        replace hx217_0 := (HB.out.cell (zQ w _ hx217_0)).trans hx217_0
        replace hx217_1 := (HB.out.cell (zQ w _ hx217_1)).trans hx217_1
        replace p217 := eq_true p217; replace q217 := eq_true q217
        have p219 : 0 ≤ (x3_1 : Int) := zP (by assumption)
        have q219 : x3_1 < (l0.length : Int) := zP (by assumption)
        obtain ⟨ad219, e219, hx219_0, hx219_1⟩ := at_T79 HR0.out x3_1 p219 q219
        have hw219_1 := hx219_1; have hw219_0 := hx219_0
        obtain rfl : ad217 = ad219 := (by injection e219)
        replace hx219_0 := (HB.out.cell (zQ w _ hx219_0)).trans hx219_0
        replace hx219_1 := (HB.out.cell (zQ w _ hx219_1)).trans hx219_1
        replace p219 := eq_true p219; replace q219 := eq_true q219
        refine start_ (n := 34) (S := fun w' => w'.cell? (ad217.add ((x3_1).toNat * 2)) = some (.int .i64 ((rd_T79 l0 x3_1).f0)) ∧ w'.cell? ⟨(ad217.add ((x3_1).toNat * 2)).block, (ad217.add ((x3_1).toNat * 2)).off + 1, none⟩ = some (.string ((rd_T79 l0 x3_1).f1)) ∧ w'.cell? (ad217.add ((x3_1).toNat * 2)) = some (.int .i64 ((rd_T79 l0 x3_1).f0)) ∧ w'.cell? ⟨(ad217.add ((x3_1).toNat * 2)).block, (ad217.add ((x3_1).toNat * 2)).off + 1, none⟩ = some (.string ((rd_T79 l0 x3_1).f1))) (ds := []) (bz 34 0) (by kernel_rfl) rfl rfl ⟨((HB.out.cell (zQ w _ hw217_0)).trans hw217_0), ((HB.out.cell (zQ w _ hw217_1)).trans hw217_1), ((HB.out.cell (zQ w _ hw219_0)).trans hw219_0), ((HB.out.cell (zQ w _ hw219_1)).trans hw219_1)⟩ (fun hHeld => ?_); refine with_tabW spec_l11Pages.tab6 spec_l11Pages.bits6 (fun HT_ HW_ => ?_)
        generalize wr.drew = w16 at HB hx217_0 hx217_1 hx219_0 hx219_1 hHeld ⊢
        refine qA 0 13 (bz 34 1) HT_ ?_
        refine qA 1 14 (bz 34 3) HT_ ?_
        refine qA 2 15 (bz 34 7) HT_ ?_
        refine qA 3 16 (bz 34 15) HT_ ?_
        refine qC 4 17 (bz 34 31) HT_ HW_ hHeld ?_ (hy := by rintro w' ⟨s0, s1, s2, s3⟩; go_simp; with_reducible rfl)
        refine one_ (i := 5) (N := some 18) (bz 34 63) rfl rfl (one_of HT_.out (by kernel_rfl)) (by decide) (fun K hK => ?_)
        refine goes_ Try.func65 (by kernel_rfl) rfl #[.int .i64 ((rd_T79 l0 x3_1).f0), .int .i64 0, .int .i64 255] (by rfl) rfl rfl (by (try simp only [zK, zL, zM]); first | done | rfl | (simp only [zN, zO]; rfl)) ?_
        with_reducible refine (spec_l00In.calls ((rd_T79 l0 x3_1).f0) 0 255 true _ A5.out).mono ?_
        rintro e w' ⟨rfl, ⟨nd, rfl⟩⟩
        refine ⟨_, rfl, ?_⟩
        refine hK.out _ _ ⟨((HB.out.cell (zQ w _ hw217_0)).trans hw217_0), ((HB.out.cell (zQ w _ hw217_1)).trans hw217_1), ((HB.out.cell (zQ w _ hw219_0)).trans hw219_0), ((HB.out.cell (zQ w _ hw219_1)).trans hw219_1)⟩ (fun hHeld => ?_)
        clear hK K
        refine norm_ (a' := ?_) ?_ ?_
        rotate_left
        · show Act.put _ (some 18) _ = _
          simp only [Act.put, zH, zI, zJ, i64_w, i32_w]
          rfl
        refine qA 6 19 (bz 34 127) HT_ ?_
        refine qA 7 20 (bz 34 255) HT_ ?_
        refine qA 8 21 (bz 34 511) HT_ ?_
        refine qA 9 22 (bz 34 1023) HT_ ?_
        refine qA 10 23 (bz 34 2047) HT_ ?_
        refine qA 11 24 (bz 34 4095) HT_ ?_
        refine qC 12 25 (bz 34 8191) HT_ HW_ hHeld ?_ (hy := by rintro w' ⟨s0, s1, s2, s3⟩; go_simp; with_reducible rfl)
        refine qA 13 26 (bz 34 16383) HT_ ?_
        refine qA 14 27 (bz 34 32767) HT_ ?_
        refine qA 15 28 (bz 34 65535) HT_ ?_
        refine qA 16 29 (bz 34 131071) HT_ ?_
        refine qB 17 30 (bz 34 262143) HT_ ?_
        refine qB 18 31 (bz 34 524287) HT_ ?_
        refine qB 19 32 (bz 34 1048575) HT_ ?_
        refine qB 20 33 (bz 34 2097151) HT_ ?_
        refine qB 21 34 (bz 34 4194303) HT_ ?_
        refine qB 22 35 (bz 34 8388607) HT_ ?_
        refine qB 23 36 (bz 34 16777215) HT_ ?_
        refine qB 24 37 (bz 34 33554431) HT_ ?_
        refine qB 25 38 (bz 34 67108863) HT_ ?_
        refine qB 26 39 (bz 34 134217727) HT_ ?_
        refine qB 27 40 (bz 34 268435455) HT_ ?_
        refine qB 28 41 (bz 34 536870911) HT_ ?_
        refine qB 29 42 (bz 34 1073741823) HT_ ?_
        refine qB 30 43 (bz 34 2147483647) HT_ ?_
        refine qB 31 44 (bz 34 4294967295) HT_ ?_
        refine qB 32 45 (bz 34 8589934591) HT_ ?_
        refine qA 33 46 (bz 34 17179869183) HT_ ?_
        refine done_ (done_of HT_.out (by kernel_rfl)) ?_
        try go_wp2
        go_ret
        exact ⟨by first | rfl | (simp <;> rfl) | (simp [*] <;> rfl), kR0 HB⟩
      ·
       replace c6 := Bool.eq_false_iff.mpr c6
       subst c6
       replace H : (some false) = some r := (by rw [if_neg (show ¬ (false = true) by decide)] at H; exact H); obtain rfl := Option.some.inj H
       try go_wp2
       have n0_ := yD (yP HB.out)
       clear HB; have HB := n0_; clear n0_
       have p217 : 0 ≤ (x3_1 : Int) := zP (by assumption)
       have q217 : x3_1 < (l0.length : Int) := zP (by assumption)
       obtain ⟨ad217, e217, hx217_0, hx217_1⟩ := at_T79 HR0.out x3_1 p217 q217
       have hw217_1 := hx217_1; have hw217_0 := hx217_0; cases e217
       replace hx217_0 := (HB.out.cell (zQ w _ hx217_0)).trans hx217_0
       replace hx217_1 := (HB.out.cell (zQ w _ hx217_1)).trans hx217_1
       replace p217 := eq_true p217; replace q217 := eq_true q217
       refine start_ (n := 34) (S := fun w' => w'.cell? (ad217.add ((x3_1).toNat * 2)) = some (.int .i64 ((rd_T79 l0 x3_1).f0)) ∧ w'.cell? ⟨(ad217.add ((x3_1).toNat * 2)).block, (ad217.add ((x3_1).toNat * 2)).off + 1, none⟩ = some (.string ((rd_T79 l0 x3_1).f1))) (ds := []) (bz 34 0) (by kernel_rfl) rfl rfl ⟨((HB.out.cell (zQ w _ hw217_0)).trans hw217_0), ((HB.out.cell (zQ w _ hw217_1)).trans hw217_1)⟩ (fun hHeld => ?_); refine with_tabW spec_l11Pages.tab6 spec_l11Pages.bits6 (fun HT_ HW_ => ?_)
       generalize wr.drew = w17 at HB hx217_0 hx217_1 hHeld ⊢
       refine qA 0 13 (bz 34 1) HT_ ?_
       refine qA 1 14 (bz 34 3) HT_ ?_
       refine qA 2 15 (bz 34 7) HT_ ?_
       refine qA 3 16 (bz 34 15) HT_ ?_
       refine qC 4 17 (bz 34 31) HT_ HW_ hHeld ?_ (hy := by rintro w' ⟨s0, s1⟩; go_simp; with_reducible rfl)
       refine one_ (i := 5) (N := some 18) (bz 34 63) rfl rfl (one_of HT_.out (by kernel_rfl)) (by decide) (fun K hK => ?_)
       refine goes_ Try.func65 (by kernel_rfl) rfl #[.int .i64 ((rd_T79 l0 x3_1).f0), .int .i64 0, .int .i64 255] (by rfl) rfl rfl (by (try simp only [zK, zL, zM]); first | done | rfl | (simp only [zN, zO]; rfl)) ?_
       with_reducible refine (spec_l00In.calls ((rd_T79 l0 x3_1).f0) 0 255 false _ A5.out).mono ?_
       rintro e w' ⟨rfl, ⟨nd, rfl⟩⟩
       refine ⟨_, rfl, ?_⟩
       refine hK.out _ _ ⟨((HB.out.cell (zQ w _ hw217_0)).trans hw217_0), ((HB.out.cell (zQ w _ hw217_1)).trans hw217_1)⟩ (fun hHeld => ?_)
       clear hK K
       refine norm_ (a' := ?_) ?_ ?_
       rotate_left
       · show Act.put _ (some 18) _ = _
         simp only [Act.put, zH, zI, zJ, i64_w, i32_w]
         rfl
       refine qA 6 19 (bz 34 127) HT_ ?_
       refine qA 7 20 (bz 34 255) HT_ ?_
       refine qB 8 21 (bz 34 511) HT_ ?_
       refine qB 9 22 (bz 34 1023) HT_ ?_
       refine qB 10 23 (bz 34 2047) HT_ ?_
       refine qB 11 24 (bz 34 4095) HT_ ?_
       refine qB 12 25 (bz 34 8191) HT_ ?_
       refine qB 13 26 (bz 34 16383) HT_ ?_
       refine qB 14 27 (bz 34 32767) HT_ ?_
       refine qA 15 28 (bz 34 65535) HT_ ?_
       refine qA 16 29 (bz 34 131071) HT_ ?_
       refine qB 17 30 (bz 34 262143) HT_ ?_
       refine qB 18 31 (bz 34 524287) HT_ ?_
       refine qB 19 32 (bz 34 1048575) HT_ ?_
       refine qB 20 33 (bz 34 2097151) HT_ ?_
       refine qB 21 34 (bz 34 4194303) HT_ ?_
       refine qB 22 35 (bz 34 8388607) HT_ ?_
       refine qB 23 36 (bz 34 16777215) HT_ ?_
       refine qB 24 37 (bz 34 33554431) HT_ ?_
       refine qB 25 38 (bz 34 67108863) HT_ ?_
       refine qB 26 39 (bz 34 134217727) HT_ ?_
       refine qB 27 40 (bz 34 268435455) HT_ ?_
       refine qB 28 41 (bz 34 536870911) HT_ ?_
       refine qB 29 42 (bz 34 1073741823) HT_ ?_
       refine qB 30 43 (bz 34 2147483647) HT_ ?_
       refine qB 31 44 (bz 34 4294967295) HT_ ?_
       refine qB 32 45 (bz 34 8589934591) HT_ ?_
       refine qA 33 46 (bz 34 17179869183) HT_ ?_
       refine done_ (done_of HT_.out (by kernel_rfl)) ?_
       try go_wp2
       go_ret
       exact ⟨by first | rfl | (simp <;> rfl) | (simp [*] <;> rfl), kR0 HB⟩
     · rw [if_neg c4] at H
       exact absurd H (by simp)
    · rw [if_neg c3] at H
      have c3b0 : decide (x3_1 < (l0.length : Int)) = false := zS c3; clear c3; obtain rfl := Option.some.inj H
      go_wp2
      go_ret
      exact ⟨by first | rfl | (simp <;> rfl) | (simp [*] <;> rfl), kR0 HB⟩

end Go.Proofs.Ytfblodggimjoaaa.PFnMerged
