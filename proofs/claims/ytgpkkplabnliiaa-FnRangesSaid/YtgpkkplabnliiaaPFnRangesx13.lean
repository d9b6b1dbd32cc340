/- Each Go function here comes to what the plain function of its name says, where that says something. Made by a program of this session, over the print. -/
import Derived.Test.YtgpkkplabnliiaaPFnRangesx0
import Derived.Test.YtgpkkplabnliiaaPFnRangesx8
import Derived.Test.YtgpkkplabnliiaaPFnRangesx10
import Derived.Test.YtgpkkplabnliiaaPFnRangesx12
namespace Go.Proofs.Ytgpkkplabnliiaa.PFnRanges
open Go.RowKit Go.Proofs.YtgpkkplabnliiaaW.PrintWords Go.Proofs.YtgpkkplabnliiaaW.PrintLast Go.Proofs.YtgpkkplabnliiaaW.PrintMore
attribute [local go_sem] max2_int min2_int max_two min_two max_three min_three max_four min_four   -- for this text's walks alone
set_option linter.unusedVariables false
set_option linter.unusedSimpArgs false

/-! ### impl_Selection_fits: function 69 -/
def impl_Selection_fits.l0 : Nat → List Int → Int → Int → Int → List Int → List Int → List Int → List Int → List (S97) → Option (Bool)
 | 0, _, _, _, _, _, _, _, _, _ => none
 | k + 1, x17, x18, x19, x414000, x414001, x414002, x414003, x414004, x414005 => if x19 < x18 then (if 0 ≤ x19 then (if x19 < (x17.length : Int) then ((impl_Selection_end.f x414000 x414001 x414002 x414003 x414004 x414005 x19).bind fun t416 => (if t416 > (rd x17 x19) then (some false) else (impl_Selection_fits.l0 k x17 x18 (wrap64 (x19 + 1)) x414000 x414001 x414002 x414003 x414004 x414005))) else (none)) else (none)) else (some true)
def impl_Selection_fits.f (k : Nat) (a0_0 : Int) (l0_1 : List Int) (l0_2 : List Int) (l0_3 : List Int) (l0_4 : List Int) (l0_5 : List (S97)) (l1 : List Int) : Option (Bool) := if a0_0 = 3 then (if (l0_1.length : Int) = (l1.length : Int) then (impl_Selection_fits.l0 k l1 (l1.length : Int) 0 a0_0 l0_1 l0_2 l0_3 l0_4 l0_5) else (some false)) else (if a0_0 = 4 then ((slices_ContainsFunc_impl_Selection_fits_1.f k l0_5 l1).bind fun t417 => (some (!t417))) else (some true))
theorem impl_Selection_fits.mono_l : ∀ k, (∀ y0 y1 y2 y3 y4 y5 y6 y7 y8, LeO (impl_Selection_fits.l0 k y0 y1 y2 y3 y4 y5 y6 y7 y8) (impl_Selection_fits.l0 (k + 1) y0 y1 y2 y3 y4 y5 y6 y7 y8))
 | 0 => fun _ _ _ _ _ _ _ _ _ r h => by simp [impl_Selection_fits.l0] at h
 | k + 1 => by
  have ih0 := impl_Selection_fits.mono_l k
  ·
   intro y0 y1 y2 y3 y4 y5 y6 y7 y8
   unfold impl_Selection_fits.l0
   repeat' first
   | (with_reducible exact ih0 _ _ _ _ _ _ _ _ _)
   | (with_reducible exact slices_ContainsFunc_impl_Selection_fits_1.mono _ _ _)
   | (with_reducible exact LeO.refl _)
   | (with_reducible exact LeO.none _)
   | (with_reducible refine LeO.ite ?_ ?_)
   | (with_reducible refine LeO.bind ?_ (fun _ => ?_))
   | exact ih0 _ _ _ _ _ _ _ _ _
   | exact slices_ContainsFunc_impl_Selection_fits_1.mono _ _ _
   | exact LeO.none _
   | refine LeO.ite ?_ ?_
   | refine LeO.bind ?_ (fun _ => ?_)
theorem impl_Selection_fits.mono : ∀ a0 a1 a2 a3 a4 a5 a6 k, LeO (impl_Selection_fits.f k a0 a1 a2 a3 a4 a5 a6) (impl_Selection_fits.f (k + 1) a0 a1 a2 a3 a4 a5 a6) := by
 intro a0 a1 a2 a3 a4 a5 a6 k
 have ih0 := impl_Selection_fits.mono_l k
 unfold impl_Selection_fits.f
 repeat' first
  | (with_reducible exact ih0 _ _ _ _ _ _ _ _ _)
  | (with_reducible exact slices_ContainsFunc_impl_Selection_fits_1.mono _ _ _)
  | (with_reducible exact LeO.refl _)
  | (with_reducible exact LeO.none _)
  | (with_reducible refine LeO.ite ?_ ?_)
  | (with_reducible refine LeO.bind ?_ (fun _ => ?_))
  | exact ih0 _ _ _ _ _ _ _ _ _
  | exact slices_ContainsFunc_impl_Selection_fits_1.mono _ _ _
  | exact LeO.none _
  | refine LeO.ite ?_ ?_
  | refine LeO.bind ?_ (fun _ => ?_)
set_option maxHeartbeats 8000000 in
set_option maxRecDepth 100000 in
theorem impl_Selection_fits.calls (k : Nat) (a0_0 : Int) (A0_1 : Option Addr) (c0_1 : Nat) (l0_1 : List Int) (A0_2 : Option Addr) (c0_2 : Nat) (l0_2 : List Int) (A0_3 : Option Addr) (c0_3 : Nat) (l0_3 : List Int) (A0_4 : Option Addr) (c0_4 : Nat) (l0_4 : List Int) (A0_5 : Option Addr) (c0_5 : Nat) (l0_5 : List (S97)) (A1 : Option Addr) (c1 : Nat) (l1 : List Int) (r : Bool) (w : World) (hr0_1 : Kd.C (Kd.int .i64) w A0_1 l0_1.length l0_1) (hc0_1 : l0_1.length ≤ c0_1) (hr0_2 : Kd.C (Kd.int .i64) w A0_2 l0_2.length l0_2) (hc0_2 : l0_2.length ≤ c0_2) (hr0_3 : Kd.C (Kd.int .i64) w A0_3 l0_3.length l0_3) (hc0_3 : l0_3.length ≤ c0_3) (hr0_4 : Kd.C (Kd.int .i64) w A0_4 l0_4.length l0_4) (hc0_4 : l0_4.length ≤ c0_4) (hr0_5 : Kd.C k97 w A0_5 l0_5.length l0_5) (hc0_5 : l0_5.length ≤ c0_5) (hr1 : Kd.C (Kd.int .i64) w A1 l1.length l1) (hc1 : l1.length ≤ c1) (h : impl_Selection_fits.f k a0_0 l0_1 l0_2 l0_3 l0_4 l0_5 l1 = some r) :
 Calls Try.prog 69 #[.agg #[.int .i64 a0_0, .slice A0_1 l0_1.length c0_1, .slice A0_2 l0_2.length c0_2, .slice A0_3 l0_3.length c0_3, .slice A0_4 l0_4.length c0_4, .slice A0_5 l0_5.length c0_5], .slice A1 l1.length c1] w fun e w' => e = .returned (.bool r) ∧ Below w.heap.size w w' := by
 have hu28 := Try.underlying28
 have HR0_1 := yD hr0_1
 have HC0_1 := yD hc0_1
 clear hr0_1 hc0_1
 have HR0_2 := yD hr0_2
 have HC0_2 := yD hc0_2
 clear hr0_2 hc0_2
 have HR0_3 := yD hr0_3
 have HC0_3 := yD hc0_3
 clear hr0_3 hc0_3
 have HR0_4 := yD hr0_4
 have HC0_4 := yD hc0_4
 clear hr0_4 hc0_4
 have HR0_5 := yD hr0_5
 have HC0_5 := yD hc0_5
 clear hr0_5 hc0_5
 have HR1 := yD hr1
 have HC1 := yD hc1
 clear hr1 hc1
 have HB := yD (Below.refl w.heap.size w)
 have H : (if a0_0 = 3 then (if (l0_1.length : Int) = (l1.length : Int) then (impl_Selection_fits.l0 k l1 (l1.length : Int) 0 a0_0 l0_1 l0_2 l0_3 l0_4 l0_5) else (some false)) else (if a0_0 = 4 then ((slices_ContainsFunc_impl_Selection_fits_1.f k l0_5 l1).bind fun t417 => (some (!t417))) else (some true))) = some r := h
 clear h
 by_cases c3 : a0_0 = 3
 ·
  rw [if_pos c3] at H
  have c3b0 : (a0_0 == 3) = true := beq_iff_eq.mpr c3
  have c3b1 : (a0_0 != 3) = false := bne_eq_false_iff_eq.mpr c3
  clear c3
  by_cases c4 : (l0_1.length : Int) = (l1.length : Int)
  ·
   rw [if_pos c4] at H
   have c4b0 : ((l0_1.length : Int) == (l1.length : Int)) = true := beq_iff_eq.mpr c4
   have c4b1 : ((l0_1.length : Int) != (l1.length : Int)) = false := bne_eq_false_iff_eq.mpr c4
   have c4b2 : (l0_1.length == l1.length) = true := by first | simpa using c4 | (simp at c4 ⊢; omega)
   clear c4
   have H' := yD H
   clear H; go_enter Try.func69, Try.ntmps69
   go_wp2_with (first | ((with_reducible refine gate_dst (N := 2) rfl ?_); refine box_event ?hg (N := 2) ?hd (cs := #[.int .i64 a0_0, .slice A0_1 l0_1.length c0_1, .slice A0_2 l0_2.length c0_2, .slice A0_3 l0_3.length c0_3, .slice A0_4 l0_4.length c0_4, .slice A0_5 l0_5.length c0_5]) (t := 28) ?hr ?_; (case hd => rfl); (case hg => rfl); (case hr => first | (go_simp; done) | (go_simp; rfl)); intro gb413 hg w5 hbox hb; have n0_ := yD (zC (kB HB) hb); have n1_ := yD (hbox); have n2_ := yD ((by rw [hg]; exact (below_size (kB HB)) : w.heap.size ≤ gb413)); have n3_ := yD ((by rw [hg]; exact (below_size (kB HB)) : w.heap.size ≤ gb413)); clear HB; have HB := n0_; have BK413 := n1_; have GW413 := n2_; have GE413 := n3_; clear n0_ n1_ n2_ n3_; clear hb hbox hg) | ((with_reducible refine gate_dst (N := 3) rfl ?_); refine box_event ?hg (N := 3) ?hd (cs := #[.slice A1 l1.length c1]) (t := 23) ?hr ?_; (case hd => rfl); (case hg => rfl); (case hr => first | (go_simp; done) | (go_simp; rfl)); intro gb414 hg w6 hbox hb; have n0_ := yD (zB (g := gb413) (o := .cells #[.int .i64 a0_0, .slice A0_1 l0_1.length c0_1, .slice A0_2 l0_2.length c0_2, .slice A0_3 l0_3.length c0_3, .slice A0_4 l0_4.length c0_4, .slice A0_5 l0_5.length c0_5] 28 (0, 0)) (kM BK413) hb); have n1_ := yD (zC (kB HB) hb); have n2_ := yD (hbox); have n3_ := yD ((by rw [hg]; exact (below_size (kB HB)) : w.heap.size ≤ gb414)); have n4_ := yD ((by rw [hg]; exact (below_size (kB HB)) : w.heap.size ≤ gb414)); have n5_ := yD ((by rw [hg]; exact Nat.ne_of_lt (blk_lt (g := gb413) (o := .cells #[.int .i64 a0_0, .slice A0_1 l0_1.length c0_1, .slice A0_2 l0_2.length c0_2, .slice A0_3 l0_3.length c0_3, .slice A0_4 l0_4.length c0_4, .slice A0_5 l0_5.length c0_5] 28 (0, 0)) (kM BK413)) : gb413 ≠ gb414)); have n6_ := yD ((by rw [hg]; exact Nat.ne_of_gt (blk_lt (g := gb413) (o := .cells #[.int .i64 a0_0, .slice A0_1 l0_1.length c0_1, .slice A0_2 l0_2.length c0_2, .slice A0_3 l0_3.length c0_3, .slice A0_4 l0_4.length c0_4, .slice A0_5 l0_5.length c0_5] 28 (0, 0)) (kM BK413)) : gb414 ≠ gb413)); clear BK413; clear HB; have BK413 := n0_; have HB := n1_; have BK414 := n2_; have GW414 := n3_; have GE414 := n4_; have NB413_414 := n5_; have NB414_413 := n6_; clear n0_ n1_ n2_ n3_ n4_ n5_ n6_; clear hb hbox hg; have hnb7 := NB413_414.out; have hnc7 := NB414_413.out; obtain ⟨hcz8_0, hcz8_1, hcz8_2, hcz8_3, hcz8_4, hcz8_5⟩ := cz6 BK413.out; obtain ⟨hfz8_0, hfz8_1, hfz8_2, hfz8_3, hfz8_4, hfz8_5⟩ := fz6 BK413.out; have hcz9_0 : w6.cell? ⟨gb414, 0, none⟩ = some (.slice A1 l1.length c1) := (yG BK414.out 0).trans rfl; have hfz9_0 := yR BK414.out 0))
   go_loopg [19] k (fun kq v19 w' => ∃ (x19_1 : Int), v19 = .int .i64 x19_1 ∧ Aside0 (impl_Selection_fits.l0 kq l1 (l1.length : Int) x19_1 a0_0 l0_1 l0_2 l0_3 l0_4 l0_5 = some r) ∧ Aside0 (kq ≤ k) ∧ Aside0 (w'.heap[gb413]? = some (.cells #[.int .i64 a0_0, (.slice A0_1 l0_1.length c0_1), (.slice A0_2 l0_2.length c0_2), (.slice A0_3 l0_3.length c0_3), (.slice A0_4 l0_4.length c0_4), (.slice A0_5 l0_5.length c0_5)] 28 (0, 0))) ∧ Aside0 (w'.heap[gb414]? = some (.cells #[(.slice A1 l1.length c1)] 23 (0, 0))) ∧ Aside0 (Below w.heap.size w w'))
   case atStart => exact ⟨(0), (by first | rfl | (simp; done) | (simp [*]; done)), H', ⟨Nat.le_refl _⟩, ⟨by (with_reducible repeat (first | refine yM ?_ _ | refine yO ?_ | refine yN ?_ _)); exact BK413.out⟩, ⟨by (with_reducible repeat (first | refine yM ?_ _ | refine yO ?_ | refine yN ?_ _)); exact BK414.out⟩, ⟨kR1 HB⟩⟩
   case round =>
    clear H'
    try clear c1; try clear p2; try clear c3; try clear c3b0; try clear c3b1; try clear c4; try clear c4b0; try clear c4b1; try clear c4b2; try clear c6; try clear c7; try clear hcz8_0; try clear hcz8_1; try clear hcz8_2; try clear hcz8_3; try clear hcz8_4; try clear hcz8_5; try clear hcz9_0; try clear hfz8_0; try clear hfz8_1; try clear hfz8_2; try clear hfz8_3; try clear hfz8_4; try clear hfz8_5; try clear hfz9_0
    obtain ⟨x19_1, rfl, HA, HK1, BK413, BK414, HB⟩ := hrel
    cases gk with
    | zero => exact absurd HA.out (by simp [impl_Selection_fits.l0])
    | succ k1 =>
     have H := HA.out; clear HA
     simp only [impl_Selection_fits.l0] at H
     by_cases c10 : x19_1 < (l1.length : Int)
     ·
      rw [if_pos c10] at H
      have c10b0 : decide (x19_1 < (l1.length : Int)) = true := zR c10; clear c10
      by_cases c11 : 0 ≤ x19_1
      ·
       rw [if_pos c11] at H
       have c11b0 : decide (0 ≤ x19_1) = true := zR c11; clear c11
       by_cases c12 : x19_1 < (l1.length : Int)
       ·
        rw [if_pos c12] at H
        have c12b0 : decide (x19_1 < (l1.length : Int)) = true := zR c12; clear c12
        obtain ⟨t416, A130, H⟩ := zW_ H
        replace H : (if t416 > (rd l1 x19_1) then (some false) else (impl_Selection_fits.l0 k1 l1 (l1.length : Int) (wrap64 (x19_1 + 1)) a0_0 l0_1 l0_2 l0_3 l0_4 l0_5)) = some r := H
        have A13 := yD A130
        clear A130
        by_cases c14 : t416 > (rd l1 x19_1)
        ·
         rw [if_pos c14] at H
         have c14b0 : decide ((rd l1 x19_1) < t416) = true := zR c14; clear c14; obtain rfl := Option.some.inj H
         have p415 : 0 ≤ (x19_1 : Int) := zP (by assumption)
         have q415 : x19_1 < (l1.length : Int) := zP (by assumption)
         obtain ⟨ad415, e415, hx415_0⟩ := Kd.at_int HR1.out x19_1 p415 q415
         cases e415
         replace hx415_0 := (HB.out.cell (zQ w _ hx415_0)).trans hx415_0
         replace p415 := eq_true p415; replace q415 := eq_true q415; have hnb15 := NB413_414.out; have hnc15 := NB414_413.out
         obtain ⟨hcz16_0, hcz16_1, hcz16_2, hcz16_3, hcz16_4, hcz16_5⟩ := cz6 BK413.out
         obtain ⟨hfz16_0, hfz16_1, hfz16_2, hfz16_3, hfz16_4, hfz16_5⟩ := fz6 BK413.out
         go_wp2_with (first | ((with_reducible refine gate_callee (f := 96) rfl ?_); refine goesL_ (some 26) rfl rfl Try.func96 (by kernel_rfl) rfl #[.agg #[.int .i64 a0_0, .slice A0_1 l0_1.length c0_1, .slice A0_2 l0_2.length c0_2, .slice A0_3 l0_3.length c0_3, .slice A0_4 l0_4.length c0_4, .slice A0_5 l0_5.length c0_5], .int .i64 x19_1] rfl (by (try simp only [zK, zL, zM]); first | done | rfl | (simp only [zN, zO]; rfl)) ?_; (with_reducible refine (impl_Selection_end.calls a0_0 _ _ l0_1 _ _ l0_2 _ _ l0_3 _ _ l0_4 _ _ l0_5 x19_1 t416 _ ?side1 ?side2 ?side3 ?side4 ?side5 ?side6 ?side7 ?side8 ?side9 ?side10 A13.out).mono ?_); (case side1 => exact kV (yY HR0_1.out HB.out)); (case side2 => exact HC0_1.out); (case side3 => exact kV (yY HR0_2.out HB.out)); (case side4 => exact HC0_2.out); (case side5 => exact kV (yY HR0_3.out HB.out)); (case side6 => exact HC0_3.out); (case side7 => exact kV (yY HR0_4.out HB.out)); (case side8 => exact HC0_4.out); (case side9 => exact kV (yY HR0_5.out HB.out)); (case side10 => exact HC0_5.out); rintro e w17 ⟨rfl, hb⟩; refine ⟨_, rfl, ?_⟩; have n0_ := yD (zB (g := gb413) (o := .cells #[.int .i64 a0_0, .slice A0_1 l0_1.length c0_1, .slice A0_2 l0_2.length c0_2, .slice A0_3 l0_3.length c0_3, .slice A0_4 l0_4.length c0_4, .slice A0_5 l0_5.length c0_5] 28 (0, 0)) (kM BK413) hb); have n1_ := yD (zB (g := gb414) (o := .cells #[.slice (some ad415) l1.length c1] 23 (0, 0)) (kM BK414) hb); have n2_ := yD (zC (kB HB) hb); clear BK413; clear BK414; clear HB; have BK413 := n0_; have BK414 := n1_; have HB := n2_; clear n0_ n1_ n2_; (try clear hb); (try clear hb2); (try clear hk); (try clear hi)))
         go_ret
         exact ⟨by first | rfl | (simp <;> rfl) | (simp [*] <;> rfl), kR1 HB⟩
        ·
         rw [if_neg c14] at H
         have c14b0 : decide ((rd l1 x19_1) < t416) = false := zS c14; clear c14
         have H' := yD H
         clear H
         have p415 : 0 ≤ (x19_1 : Int) := zP (by assumption)
         have q415 : x19_1 < (l1.length : Int) := zP (by assumption)
         obtain ⟨ad415, e415, hx415_0⟩ := Kd.at_int HR1.out x19_1 p415 q415
         cases e415
         replace hx415_0 := (HB.out.cell (zQ w _ hx415_0)).trans hx415_0
         replace p415 := eq_true p415; replace q415 := eq_true q415; have hnb18 := NB413_414.out; have hnc18 := NB414_413.out
         obtain ⟨hcz19_0, hcz19_1, hcz19_2, hcz19_3, hcz19_4, hcz19_5⟩ := cz6 BK413.out
         obtain ⟨hfz19_0, hfz19_1, hfz19_2, hfz19_3, hfz19_4, hfz19_5⟩ := fz6 BK413.out
         go_wp2_with (first | ((with_reducible refine gate_callee (f := 96) rfl ?_); refine goesL_ (some 26) rfl rfl Try.func96 (by kernel_rfl) rfl #[.agg #[.int .i64 a0_0, .slice A0_1 l0_1.length c0_1, .slice A0_2 l0_2.length c0_2, .slice A0_3 l0_3.length c0_3, .slice A0_4 l0_4.length c0_4, .slice A0_5 l0_5.length c0_5], .int .i64 x19_1] rfl (by (try simp only [zK, zL, zM]); first | done | rfl | (simp only [zN, zO]; rfl)) ?_; (with_reducible refine (impl_Selection_end.calls a0_0 _ _ l0_1 _ _ l0_2 _ _ l0_3 _ _ l0_4 _ _ l0_5 x19_1 t416 _ ?side1 ?side2 ?side3 ?side4 ?side5 ?side6 ?side7 ?side8 ?side9 ?side10 A13.out).mono ?_); (case side1 => exact kV (yY HR0_1.out HB.out)); (case side2 => exact HC0_1.out); (case side3 => exact kV (yY HR0_2.out HB.out)); (case side4 => exact HC0_2.out); (case side5 => exact kV (yY HR0_3.out HB.out)); (case side6 => exact HC0_3.out); (case side7 => exact kV (yY HR0_4.out HB.out)); (case side8 => exact HC0_4.out); (case side9 => exact kV (yY HR0_5.out HB.out)); (case side10 => exact HC0_5.out); rintro e w20 ⟨rfl, hb⟩; refine ⟨_, rfl, ?_⟩; have n0_ := yD (zB (g := gb413) (o := .cells #[.int .i64 a0_0, .slice A0_1 l0_1.length c0_1, .slice A0_2 l0_2.length c0_2, .slice A0_3 l0_3.length c0_3, .slice A0_4 l0_4.length c0_4, .slice A0_5 l0_5.length c0_5] 28 (0, 0)) (kM BK413) hb); have n1_ := yD (zB (g := gb414) (o := .cells #[.slice (some ad415) l1.length c1] 23 (0, 0)) (kM BK414) hb); have n2_ := yD (zC (kB HB) hb); clear BK413; clear BK414; clear HB; have BK413 := n0_; have BK414 := n1_; have HB := n2_; clear n0_ n1_ n2_; (try clear hb); (try clear hb2); (try clear hk); (try clear hi)))
         go_roundg k1
         case measure => have := HK1.out; omega
         case rel => exact ⟨(wrap64 (x19_1 + 1)), (by first | rfl | (simp; done) | (simp [*]; done)), H', ⟨by have := HK1.out; omega⟩, ⟨by (with_reducible repeat (first | refine yM ?_ _ | refine yO ?_ | refine yN ?_ _)); exact BK413.out⟩, ⟨by (with_reducible repeat (first | refine yM ?_ _ | refine yO ?_ | refine yN ?_ _)); exact BK414.out⟩, ⟨kR1 HB⟩⟩
       · rw [if_neg c12] at H
         exact absurd H (by simp)
      · rw [if_neg c11] at H
        exact absurd H (by simp)
     · rw [if_neg c10] at H
       have c10b0 : decide (x19_1 < (l1.length : Int)) = false := zS c10; clear c10; obtain rfl := Option.some.inj H
       go_wp2
       go_ret
       exact ⟨by first | rfl | (simp <;> rfl) | (simp [*] <;> rfl), kR1 HB⟩
  ·
   rw [if_neg c4] at H
   have c4b0 : ((l0_1.length : Int) == (l1.length : Int)) = false := beq_eq_false_iff_ne.mpr c4
   have c4b1 : ((l0_1.length : Int) != (l1.length : Int)) = true := bne_iff_ne.mpr c4
   have c4b2 : (l0_1.length == l1.length) = false := by first | simpa using c4 | (simp at c4 ⊢; omega)
   obtain rfl := Option.some.inj H; go_enter Try.func69, Try.ntmps69
   go_wp2_with (first | ((with_reducible refine gate_dst (N := 2) rfl ?_); refine box_event ?hg (N := 2) ?hd (cs := #[.int .i64 a0_0, .slice A0_1 l0_1.length c0_1, .slice A0_2 l0_2.length c0_2, .slice A0_3 l0_3.length c0_3, .slice A0_4 l0_4.length c0_4, .slice A0_5 l0_5.length c0_5]) (t := 28) ?hr ?_; (case hd => rfl); (case hg => rfl); (case hr => first | (go_simp; done) | (go_simp; rfl)); intro gb413 hg w21 hbox hb; have n0_ := yD (zC (kB HB) hb); have n1_ := yD (hbox); have n2_ := yD ((by rw [hg]; exact (below_size (kB HB)) : w.heap.size ≤ gb413)); have n3_ := yD ((by rw [hg]; exact (below_size (kB HB)) : w.heap.size ≤ gb413)); clear HB; have HB := n0_; have BK413 := n1_; have GW413 := n2_; have GE413 := n3_; clear n0_ n1_ n2_ n3_; clear hb hbox hg) | ((with_reducible refine gate_dst (N := 3) rfl ?_); refine box_event ?hg (N := 3) ?hd (cs := #[.slice A1 l1.length c1]) (t := 23) ?hr ?_; (case hd => rfl); (case hg => rfl); (case hr => first | (go_simp; done) | (go_simp; rfl)); intro gb414 hg w22 hbox hb; have n0_ := yD (zB (g := gb413) (o := .cells #[.int .i64 a0_0, .slice A0_1 l0_1.length c0_1, .slice A0_2 l0_2.length c0_2, .slice A0_3 l0_3.length c0_3, .slice A0_4 l0_4.length c0_4, .slice A0_5 l0_5.length c0_5] 28 (0, 0)) (kM BK413) hb); have n1_ := yD (zC (kB HB) hb); have n2_ := yD (hbox); have n3_ := yD ((by rw [hg]; exact (below_size (kB HB)) : w.heap.size ≤ gb414)); have n4_ := yD ((by rw [hg]; exact (below_size (kB HB)) : w.heap.size ≤ gb414)); have n5_ := yD ((by rw [hg]; exact Nat.ne_of_lt (blk_lt (g := gb413) (o := .cells #[.int .i64 a0_0, .slice A0_1 l0_1.length c0_1, .slice A0_2 l0_2.length c0_2, .slice A0_3 l0_3.length c0_3, .slice A0_4 l0_4.length c0_4, .slice A0_5 l0_5.length c0_5] 28 (0, 0)) (kM BK413)) : gb413 ≠ gb414)); have n6_ := yD ((by rw [hg]; exact Nat.ne_of_gt (blk_lt (g := gb413) (o := .cells #[.int .i64 a0_0, .slice A0_1 l0_1.length c0_1, .slice A0_2 l0_2.length c0_2, .slice A0_3 l0_3.length c0_3, .slice A0_4 l0_4.length c0_4, .slice A0_5 l0_5.length c0_5] 28 (0, 0)) (kM BK413)) : gb414 ≠ gb413)); clear BK413; clear HB; have BK413 := n0_; have HB := n1_; have BK414 := n2_; have GW414 := n3_; have GE414 := n4_; have NB413_414 := n5_; have NB414_413 := n6_; clear n0_ n1_ n2_ n3_ n4_ n5_ n6_; clear hb hbox hg; have hnb23 := NB413_414.out; have hnc23 := NB414_413.out; obtain ⟨hcz24_0, hcz24_1, hcz24_2, hcz24_3, hcz24_4, hcz24_5⟩ := cz6 BK413.out; obtain ⟨hfz24_0, hfz24_1, hfz24_2, hfz24_3, hfz24_4, hfz24_5⟩ := fz6 BK413.out; have hcz25_0 : w22.cell? ⟨gb414, 0, none⟩ = some (.slice A1 l1.length c1) := (yG BK414.out 0).trans rfl; have hfz25_0 := yR BK414.out 0))
   go_ret
   exact ⟨by first | rfl | (simp <;> rfl) | (simp [*] <;> rfl), kR1 HB⟩
 ·
  rw [if_neg c3] at H
  have c3b0 : (a0_0 == 3) = false := beq_eq_false_iff_ne.mpr c3
  have c3b1 : (a0_0 != 3) = true := bne_iff_ne.mpr c3
  by_cases c26 : a0_0 = 4
  ·
   rw [if_pos c26] at H
   have c26b0 : (a0_0 == 4) = true := beq_iff_eq.mpr c26
   have c26b1 : (a0_0 != 4) = false := bne_eq_false_iff_eq.mpr c26
   clear c26
   obtain ⟨t417, A270, H⟩ := zW_ H
   replace H : (some (!t417)) = some r := H
   have A27 := yD A270
   clear A270; obtain rfl := Option.some.inj H; go_enter Try.func69, Try.ntmps69
   go_wp2_with (first | ((with_reducible refine gate_dst (N := 2) rfl ?_); refine box_event ?hg (N := 2) ?hd (cs := #[.int .i64 a0_0, .slice A0_1 l0_1.length c0_1, .slice A0_2 l0_2.length c0_2, .slice A0_3 l0_3.length c0_3, .slice A0_4 l0_4.length c0_4, .slice A0_5 l0_5.length c0_5]) (t := 28) ?hr ?_; (case hd => rfl); (case hg => rfl); (case hr => first | (go_simp; done) | (go_simp; rfl)); intro gb413 hg w28 hbox hb; have n0_ := yD (zC (kB HB) hb); have n1_ := yD (hbox); have n2_ := yD ((by rw [hg]; exact (below_size (kB HB)) : w.heap.size ≤ gb413)); have n3_ := yD ((by rw [hg]; exact (below_size (kB HB)) : w.heap.size ≤ gb413)); clear HB; have HB := n0_; have BK413 := n1_; have GW413 := n2_; have GE413 := n3_; clear n0_ n1_ n2_ n3_; clear hb hbox hg) | ((with_reducible refine gate_dst (N := 3) rfl ?_); refine box_event ?hg (N := 3) ?hd (cs := #[.slice A1 l1.length c1]) (t := 23) ?hr ?_; (case hd => rfl); (case hg => rfl); (case hr => first | (go_simp; done) | (go_simp; rfl)); intro gb414 hg w29 hbox hb; have n0_ := yD (zB (g := gb413) (o := .cells #[.int .i64 a0_0, .slice A0_1 l0_1.length c0_1, .slice A0_2 l0_2.length c0_2, .slice A0_3 l0_3.length c0_3, .slice A0_4 l0_4.length c0_4, .slice A0_5 l0_5.length c0_5] 28 (0, 0)) (kM BK413) hb); have n1_ := yD (zC (kB HB) hb); have n2_ := yD (hbox); have n3_ := yD ((by rw [hg]; exact (below_size (kB HB)) : w.heap.size ≤ gb414)); have n4_ := yD ((by rw [hg]; exact (below_size (kB HB)) : w.heap.size ≤ gb414)); have n5_ := yD ((by rw [hg]; exact Nat.ne_of_lt (blk_lt (g := gb413) (o := .cells #[.int .i64 a0_0, .slice A0_1 l0_1.length c0_1, .slice A0_2 l0_2.length c0_2, .slice A0_3 l0_3.length c0_3, .slice A0_4 l0_4.length c0_4, .slice A0_5 l0_5.length c0_5] 28 (0, 0)) (kM BK413)) : gb413 ≠ gb414)); have n6_ := yD ((by rw [hg]; exact Nat.ne_of_gt (blk_lt (g := gb413) (o := .cells #[.int .i64 a0_0, .slice A0_1 l0_1.length c0_1, .slice A0_2 l0_2.length c0_2, .slice A0_3 l0_3.length c0_3, .slice A0_4 l0_4.length c0_4, .slice A0_5 l0_5.length c0_5] 28 (0, 0)) (kM BK413)) : gb414 ≠ gb413)); clear BK413; clear HB; have BK413 := n0_; have HB := n1_; have BK414 := n2_; have GW414 := n3_; have GE414 := n4_; have NB413_414 := n5_; have NB414_413 := n6_; clear n0_ n1_ n2_ n3_ n4_ n5_ n6_; clear hb hbox hg; have hnb30 := NB413_414.out; have hnc30 := NB414_413.out; obtain ⟨hcz31_0, hcz31_1, hcz31_2, hcz31_3, hcz31_4, hcz31_5⟩ := cz6 BK413.out; obtain ⟨hfz31_0, hfz31_1, hfz31_2, hfz31_3, hfz31_4, hfz31_5⟩ := fz6 BK413.out) | ((with_reducible refine gate_callee (f := 97) rfl ?_); refine goesL_ (some 35) rfl rfl Try.func97 (by kernel_rfl) rfl #[.slice A0_5 l0_5.length c0_5, .func (.func 98) #[] #[.pointer (some ⟨gb414, 0, none⟩)]] rfl (by (try simp only [zK, zL, zM]); first | done | rfl | (simp only [zN, zO]; rfl)) ?_; (with_reducible refine (slices_ContainsFunc_impl_Selection_fits_1.calls k _ _ l0_5 gb414 A1 c1 l1 t417 _ ?side1 ?side2 ?side3 ?side4 ?side5 A27.out).mono ?_); (case side1 => exact kV (yY HR0_5.out HB.out)); (case side2 => exact HC0_5.out); (case side3 => exact kV (yY HR1.out HB.out)); (case side4 => exact HC1.out); (case side5 => (with_reducible repeat (first | refine yM ?_ _ | refine yO ?_ | refine yN ?_ _)); exact BK414.out); rintro e w32 ⟨rfl, hb⟩; refine ⟨_, rfl, ?_⟩; have n0_ := yD (zB (g := gb413) (o := .cells #[.int .i64 a0_0, .slice A0_1 l0_1.length c0_1, .slice A0_2 l0_2.length c0_2, .slice A0_3 l0_3.length c0_3, .slice A0_4 l0_4.length c0_4, .slice A0_5 l0_5.length c0_5] 28 (0, 0)) (kM BK413) hb); have n1_ := yD (zB (g := gb414) (o := .cells #[.slice A1 l1.length c1] 23 (0, 0)) (kM BK414) hb); have n2_ := yD (zC (kB HB) hb); clear BK413; clear BK414; clear HB; have BK413 := n0_; have BK414 := n1_; have HB := n2_; clear n0_ n1_ n2_; (try clear hb); (try clear hb2); (try clear hk); (try clear hi)))
   go_ret
   exact ⟨by first | rfl | (simp <;> rfl) | (simp [*] <;> rfl), kR1 HB⟩
  ·
   rw [if_neg c26] at H
   have c26b0 : (a0_0 == 4) = false := beq_eq_false_iff_ne.mpr c26
   have c26b1 : (a0_0 != 4) = true := bne_iff_ne.mpr c26
   obtain rfl := Option.some.inj H; go_enter Try.func69, Try.ntmps69
   go_wp2_with (first | ((with_reducible refine gate_dst (N := 2) rfl ?_); refine box_event ?hg (N := 2) ?hd (cs := #[.int .i64 a0_0, .slice A0_1 l0_1.length c0_1, .slice A0_2 l0_2.length c0_2, .slice A0_3 l0_3.length c0_3, .slice A0_4 l0_4.length c0_4, .slice A0_5 l0_5.length c0_5]) (t := 28) ?hr ?_; (case hd => rfl); (case hg => rfl); (case hr => first | (go_simp; done) | (go_simp; rfl)); intro gb413 hg w33 hbox hb; have n0_ := yD (zC (kB HB) hb); have n1_ := yD (hbox); have n2_ := yD ((by rw [hg]; exact (below_size (kB HB)) : w.heap.size ≤ gb413)); have n3_ := yD ((by rw [hg]; exact (below_size (kB HB)) : w.heap.size ≤ gb413)); clear HB; have HB := n0_; have BK413 := n1_; have GW413 := n2_; have GE413 := n3_; clear n0_ n1_ n2_ n3_; clear hb hbox hg) | ((with_reducible refine gate_dst (N := 3) rfl ?_); refine box_event ?hg (N := 3) ?hd (cs := #[.slice A1 l1.length c1]) (t := 23) ?hr ?_; (case hd => rfl); (case hg => rfl); (case hr => first | (go_simp; done) | (go_simp; rfl)); intro gb414 hg w34 hbox hb; have n0_ := yD (zB (g := gb413) (o := .cells #[.int .i64 a0_0, .slice A0_1 l0_1.length c0_1, .slice A0_2 l0_2.length c0_2, .slice A0_3 l0_3.length c0_3, .slice A0_4 l0_4.length c0_4, .slice A0_5 l0_5.length c0_5] 28 (0, 0)) (kM BK413) hb); have n1_ := yD (zC (kB HB) hb); have n2_ := yD (hbox); have n3_ := yD ((by rw [hg]; exact (below_size (kB HB)) : w.heap.size ≤ gb414)); have n4_ := yD ((by rw [hg]; exact (below_size (kB HB)) : w.heap.size ≤ gb414)); have n5_ := yD ((by rw [hg]; exact Nat.ne_of_lt (blk_lt (g := gb413) (o := .cells #[.int .i64 a0_0, .slice A0_1 l0_1.length c0_1, .slice A0_2 l0_2.length c0_2, .slice A0_3 l0_3.length c0_3, .slice A0_4 l0_4.length c0_4, .slice A0_5 l0_5.length c0_5] 28 (0, 0)) (kM BK413)) : gb413 ≠ gb414)); have n6_ := yD ((by rw [hg]; exact Nat.ne_of_gt (blk_lt (g := gb413) (o := .cells #[.int .i64 a0_0, .slice A0_1 l0_1.length c0_1, .slice A0_2 l0_2.length c0_2, .slice A0_3 l0_3.length c0_3, .slice A0_4 l0_4.length c0_4, .slice A0_5 l0_5.length c0_5] 28 (0, 0)) (kM BK413)) : gb414 ≠ gb413)); clear BK413; clear HB; have BK413 := n0_; have HB := n1_; have BK414 := n2_; have GW414 := n3_; have GE414 := n4_; have NB413_414 := n5_; have NB414_413 := n6_; clear n0_ n1_ n2_ n3_ n4_ n5_ n6_; clear hb hbox hg; have hnb35 := NB413_414.out; have hnc35 := NB414_413.out; obtain ⟨hcz36_0, hcz36_1, hcz36_2, hcz36_3, hcz36_4, hcz36_5⟩ := cz6 BK413.out; obtain ⟨hfz36_0, hfz36_1, hfz36_2, hfz36_3, hfz36_4, hfz36_5⟩ := fz6 BK413.out))
   go_ret
   exact ⟨by first | rfl | (simp <;> rfl) | (simp [*] <;> rfl), kR1 HB⟩

/-! ### impl_ValidSelection: function 36 -/
def impl_ValidSelection.f (k : Nat) (l0 : List Int) (a1_0 : Int) (l1_1 : List Int) (l1_2 : List Int) (l1_3 : List Int) (l1_4 : List Int) (l1_5 : List (S97)) : Option (Bool) := (impl_ValidDims.f k l0).bind fun t419 => (if t419 = true then ((impl_FormedSelection.f k a1_0 l1_1 l1_2 l1_3 l1_4 l1_5).bind fun t420 => (if t420 = true then ((impl_Selection_fits.f k a1_0 l1_1 l1_2 l1_3 l1_4 l1_5 l0).bind fun t421 => (some t421)) else (some false))) else (some false))
theorem impl_ValidSelection.mono : ∀ a0 a1 a2 a3 a4 a5 a6 k, LeO (impl_ValidSelection.f k a0 a1 a2 a3 a4 a5 a6) (impl_ValidSelection.f (k + 1) a0 a1 a2 a3 a4 a5 a6) := by
 intro a0 a1 a2 a3 a4 a5 a6 k
 unfold impl_ValidSelection.f
 repeat' first
  | (with_reducible exact impl_FormedSelection.mono _ _ _ _ _ _ _)
  | (with_reducible exact impl_Selection_fits.mono _ _ _ _ _ _ _ _)
  | (with_reducible exact impl_ValidDims.mono _ _)
  | (with_reducible exact LeO.refl _)
  | (with_reducible exact LeO.none _)
  | (with_reducible refine LeO.ite ?_ ?_)
  | (with_reducible refine LeO.bind ?_ (fun _ => ?_))
  | exact impl_FormedSelection.mono _ _ _ _ _ _ _
  | exact impl_Selection_fits.mono _ _ _ _ _ _ _ _
  | exact impl_ValidDims.mono _ _
  | exact LeO.none _
  | refine LeO.ite ?_ ?_
  | refine LeO.bind ?_ (fun _ => ?_)
set_option maxHeartbeats 8000000 in
set_option maxRecDepth 100000 in
theorem impl_ValidSelection.calls (k : Nat) (A0 : Option Addr) (c0 : Nat) (l0 : List Int) (a1_0 : Int) (A1_1 : Option Addr) (c1_1 : Nat) (l1_1 : List Int) (A1_2 : Option Addr) (c1_2 : Nat) (l1_2 : List Int) (A1_3 : Option Addr) (c1_3 : Nat) (l1_3 : List Int) (A1_4 : Option Addr) (c1_4 : Nat) (l1_4 : List Int) (A1_5 : Option Addr) (c1_5 : Nat) (l1_5 : List (S97)) (r : Bool) (w : World) (hr0 : Kd.C (Kd.int .i64) w A0 l0.length l0) (hc0 : l0.length ≤ c0) (hr1_1 : Kd.C (Kd.int .i64) w A1_1 l1_1.length l1_1) (hc1_1 : l1_1.length ≤ c1_1) (hr1_2 : Kd.C (Kd.int .i64) w A1_2 l1_2.length l1_2) (hc1_2 : l1_2.length ≤ c1_2) (hr1_3 : Kd.C (Kd.int .i64) w A1_3 l1_3.length l1_3) (hc1_3 : l1_3.length ≤ c1_3) (hr1_4 : Kd.C (Kd.int .i64) w A1_4 l1_4.length l1_4) (hc1_4 : l1_4.length ≤ c1_4) (hr1_5 : Kd.C k97 w A1_5 l1_5.length l1_5) (hc1_5 : l1_5.length ≤ c1_5) (h : impl_ValidSelection.f k l0 a1_0 l1_1 l1_2 l1_3 l1_4 l1_5 = some r) :
 Calls Try.prog 36 #[.slice A0 l0.length c0, .agg #[.int .i64 a1_0, .slice A1_1 l1_1.length c1_1, .slice A1_2 l1_2.length c1_2, .slice A1_3 l1_3.length c1_3, .slice A1_4 l1_4.length c1_4, .slice A1_5 l1_5.length c1_5]] w fun e w' => e = .returned (.bool r) ∧ Below w.heap.size w w' := by
 have hu28 := Try.underlying28
 have HR0 := yD hr0
 have HC0 := yD hc0
 clear hr0 hc0
 have HR1_1 := yD hr1_1
 have HC1_1 := yD hc1_1
 clear hr1_1 hc1_1
 have HR1_2 := yD hr1_2
 have HC1_2 := yD hc1_2
 clear hr1_2 hc1_2
 have HR1_3 := yD hr1_3
 have HC1_3 := yD hc1_3
 clear hr1_3 hc1_3
 have HR1_4 := yD hr1_4
 have HC1_4 := yD hc1_4
 clear hr1_4 hc1_4
 have HR1_5 := yD hr1_5
 have HC1_5 := yD hc1_5
 clear hr1_5 hc1_5
 have HB := yD (Below.refl w.heap.size w)
 have H : ((impl_ValidDims.f k l0).bind fun t419 => (if t419 = true then ((impl_FormedSelection.f k a1_0 l1_1 l1_2 l1_3 l1_4 l1_5).bind fun t420 => (if t420 = true then ((impl_Selection_fits.f k a1_0 l1_1 l1_2 l1_3 l1_4 l1_5 l0).bind fun t421 => (some t421)) else (some false))) else (some false))) = some r := h
 clear h
 obtain ⟨t419, A30, H⟩ := zW_ H
 replace H : (if t419 = true then ((impl_FormedSelection.f k a1_0 l1_1 l1_2 l1_3 l1_4 l1_5).bind fun t420 => (if t420 = true then ((impl_Selection_fits.f k a1_0 l1_1 l1_2 l1_3 l1_4 l1_5 l0).bind fun t421 => (some t421)) else (some false))) else (some false)) = some r := H
 have A3 := yD A30
 clear A30
 by_cases c4 : t419 = true
 ·
  subst c4
  have H1 : ((impl_FormedSelection.f k a1_0 l1_1 l1_2 l1_3 l1_4 l1_5).bind fun t420 => (if t420 = true then ((impl_Selection_fits.f k a1_0 l1_1 l1_2 l1_3 l1_4 l1_5 l0).bind fun t421 => (some t421)) else (some false))) = some r := by rw [if_pos rfl] at H; exact H
  clear H; have H := H1; clear H1
  obtain ⟨t420, A50, H⟩ := zW_ H
  replace H : (if t420 = true then ((impl_Selection_fits.f k a1_0 l1_1 l1_2 l1_3 l1_4 l1_5 l0).bind fun t421 => (some t421)) else (some false)) = some r := H
  have A5 := yD A50
  clear A50
  by_cases c6 : t420 = true
  ·
   subst c6
   have H1 : ((impl_Selection_fits.f k a1_0 l1_1 l1_2 l1_3 l1_4 l1_5 l0).bind fun t421 => (some t421)) = some r := by rw [if_pos rfl] at H; exact H
   clear H; have H := H1; clear H1
   obtain ⟨t421, A70, H⟩ := zW_ H
   replace H : (some t421) = some r := H
   have A7 := yD A70
   clear A70; obtain rfl := Option.some.inj H; go_enter Try.func36, Try.ntmps36
   go_wp2_with (first | ((with_reducible refine gate_dst (N := 3) rfl ?_); refine box_event ?hg (N := 3) ?hd (cs := #[.int .i64 a1_0, .slice A1_1 l1_1.length c1_1, .slice A1_2 l1_2.length c1_2, .slice A1_3 l1_3.length c1_3, .slice A1_4 l1_4.length c1_4, .slice A1_5 l1_5.length c1_5]) (t := 28) ?hr ?_; (case hd => rfl); (case hg => rfl); (case hr => first | (go_simp; done) | (go_simp; rfl)); intro gb418 hg w8 hbox hb; have n0_ := yD (zC (kB HB) hb); have n1_ := yD (hbox); have n2_ := yD ((by rw [hg]; exact (below_size (kB HB)) : w.heap.size ≤ gb418)); have n3_ := yD ((by rw [hg]; exact (below_size (kB HB)) : w.heap.size ≤ gb418)); clear HB; have HB := n0_; have BK418 := n1_; have GW418 := n2_; have GE418 := n3_; clear n0_ n1_ n2_ n3_; clear hb hbox hg) | ((with_reducible refine gate_callee (f := 67) rfl ?_); refine goesL_ (some 6) rfl rfl Try.func67 (by kernel_rfl) rfl #[.slice A0 l0.length c0] rfl (by (try simp only [zK, zL, zM]); first | done | rfl | (simp only [zN, zO]; rfl)) ?_; (with_reducible refine (impl_ValidDims.calls k _ _ l0 true _ ?side1 ?side2 A3.out).mono ?_); (case side1 => exact kV (yY HR0.out HB.out)); (case side2 => exact HC0.out); rintro e w9 ⟨rfl, hb⟩; refine ⟨_, rfl, ?_⟩; have n0_ := yD (zB (g := gb418) (o := .cells #[.int .i64 a1_0, .slice A1_1 l1_1.length c1_1, .slice A1_2 l1_2.length c1_2, .slice A1_3 l1_3.length c1_3, .slice A1_4 l1_4.length c1_4, .slice A1_5 l1_5.length c1_5] 28 (0, 0)) (kM BK418) hb); have n1_ := yD (zC (kB HB) hb); clear BK418; clear HB; have BK418 := n0_; have HB := n1_; clear n0_ n1_; (try clear hb); (try clear hb2); (try clear hk); (try clear hi); obtain ⟨hcz10_0, hcz10_1, hcz10_2, hcz10_3, hcz10_4, hcz10_5⟩ := cz6 BK418.out; obtain ⟨hfz10_0, hfz10_1, hfz10_2, hfz10_3, hfz10_4, hfz10_5⟩ := fz6 BK418.out) | (go_at_call 68; (with_reducible refine (impl_FormedSelection.calls k a1_0 _ _ l1_1 _ _ l1_2 _ _ l1_3 _ _ l1_4 _ _ l1_5 true _ ?side1 ?side2 ?side3 ?side4 ?side5 ?side6 ?side7 ?side8 ?side9 ?side10 A5.out).mono ?_); (case side1 => exact kV (yY HR1_1.out HB.out)); (case side2 => exact HC1_1.out); (case side3 => exact kV (yY HR1_2.out HB.out)); (case side4 => exact HC1_2.out); (case side5 => exact kV (yY HR1_3.out HB.out)); (case side6 => exact HC1_3.out); (case side7 => exact kV (yY HR1_4.out HB.out)); (case side8 => exact HC1_4.out); (case side9 => exact kV (yY HR1_5.out HB.out)); (case side10 => exact HC1_5.out); rintro e w11 ⟨rfl, hb⟩; have n0_ := yD (zB (g := gb418) (o := .cells #[.int .i64 a1_0, .slice A1_1 l1_1.length c1_1, .slice A1_2 l1_2.length c1_2, .slice A1_3 l1_3.length c1_3, .slice A1_4 l1_4.length c1_4, .slice A1_5 l1_5.length c1_5] 28 (0, 0)) (kM BK418) hb); have n1_ := yD (zC (kB HB) hb); clear BK418; clear HB; have BK418 := n0_; have HB := n1_; clear n0_ n1_; (try clear hb); (try clear hb2); (try clear hk); (try clear hi); obtain ⟨hcz12_0, hcz12_1, hcz12_2, hcz12_3, hcz12_4, hcz12_5⟩ := cz6 BK418.out; obtain ⟨hfz12_0, hfz12_1, hfz12_2, hfz12_3, hfz12_4, hfz12_5⟩ := fz6 BK418.out) | (go_at_call 69; (with_reducible refine (impl_Selection_fits.calls k a1_0 _ _ l1_1 _ _ l1_2 _ _ l1_3 _ _ l1_4 _ _ l1_5 _ _ l0 t421 _ ?side1 ?side2 ?side3 ?side4 ?side5 ?side6 ?side7 ?side8 ?side9 ?side10 ?side11 ?side12 A7.out).mono ?_); (case side1 => exact kV (yY HR1_1.out HB.out)); (case side2 => exact HC1_1.out); (case side3 => exact kV (yY HR1_2.out HB.out)); (case side4 => exact HC1_2.out); (case side5 => exact kV (yY HR1_3.out HB.out)); (case side6 => exact HC1_3.out); (case side7 => exact kV (yY HR1_4.out HB.out)); (case side8 => exact HC1_4.out); (case side9 => exact kV (yY HR1_5.out HB.out)); (case side10 => exact HC1_5.out); (case side11 => exact kV (yY HR0.out HB.out)); (case side12 => exact HC0.out); rintro e w13 ⟨rfl, hb⟩; have n0_ := yD (zB (g := gb418) (o := .cells #[.int .i64 a1_0, .slice A1_1 l1_1.length c1_1, .slice A1_2 l1_2.length c1_2, .slice A1_3 l1_3.length c1_3, .slice A1_4 l1_4.length c1_4, .slice A1_5 l1_5.length c1_5] 28 (0, 0)) (kM BK418) hb); have n1_ := yD (zC (kB HB) hb); clear BK418; clear HB; have BK418 := n0_; have HB := n1_; clear n0_ n1_; (try clear hb); (try clear hb2); (try clear hk); (try clear hi)))
   go_ret
   exact ⟨by first | rfl | (simp <;> rfl) | (simp [*] <;> rfl), kR1 HB⟩
  ·
   replace c6 := Bool.eq_false_iff.mpr c6
   subst c6
   have H1 : (some false) = some r := by rw [if_neg (show ¬ (false = true) by decide)] at H; exact H
   clear H; have H := H1; clear H1; obtain rfl := Option.some.inj H; go_enter Try.func36, Try.ntmps36
   go_wp2_with (first | ((with_reducible refine gate_dst (N := 3) rfl ?_); refine box_event ?hg (N := 3) ?hd (cs := #[.int .i64 a1_0, .slice A1_1 l1_1.length c1_1, .slice A1_2 l1_2.length c1_2, .slice A1_3 l1_3.length c1_3, .slice A1_4 l1_4.length c1_4, .slice A1_5 l1_5.length c1_5]) (t := 28) ?hr ?_; (case hd => rfl); (case hg => rfl); (case hr => first | (go_simp; done) | (go_simp; rfl)); intro gb418 hg w14 hbox hb; have n0_ := yD (zC (kB HB) hb); have n1_ := yD (hbox); have n2_ := yD ((by rw [hg]; exact (below_size (kB HB)) : w.heap.size ≤ gb418)); have n3_ := yD ((by rw [hg]; exact (below_size (kB HB)) : w.heap.size ≤ gb418)); clear HB; have HB := n0_; have BK418 := n1_; have GW418 := n2_; have GE418 := n3_; clear n0_ n1_ n2_ n3_; clear hb hbox hg) | ((with_reducible refine gate_callee (f := 67) rfl ?_); refine goesL_ (some 6) rfl rfl Try.func67 (by kernel_rfl) rfl #[.slice A0 l0.length c0] rfl (by (try simp only [zK, zL, zM]); first | done | rfl | (simp only [zN, zO]; rfl)) ?_; (with_reducible refine (impl_ValidDims.calls k _ _ l0 true _ ?side1 ?side2 A3.out).mono ?_); (case side1 => exact kV (yY HR0.out HB.out)); (case side2 => exact HC0.out); rintro e w15 ⟨rfl, hb⟩; refine ⟨_, rfl, ?_⟩; have n0_ := yD (zB (g := gb418) (o := .cells #[.int .i64 a1_0, .slice A1_1 l1_1.length c1_1, .slice A1_2 l1_2.length c1_2, .slice A1_3 l1_3.length c1_3, .slice A1_4 l1_4.length c1_4, .slice A1_5 l1_5.length c1_5] 28 (0, 0)) (kM BK418) hb); have n1_ := yD (zC (kB HB) hb); clear BK418; clear HB; have BK418 := n0_; have HB := n1_; clear n0_ n1_; (try clear hb); (try clear hb2); (try clear hk); (try clear hi); obtain ⟨hcz16_0, hcz16_1, hcz16_2, hcz16_3, hcz16_4, hcz16_5⟩ := cz6 BK418.out; obtain ⟨hfz16_0, hfz16_1, hfz16_2, hfz16_3, hfz16_4, hfz16_5⟩ := fz6 BK418.out) | (go_at_call 68; (with_reducible refine (impl_FormedSelection.calls k a1_0 _ _ l1_1 _ _ l1_2 _ _ l1_3 _ _ l1_4 _ _ l1_5 false _ ?side1 ?side2 ?side3 ?side4 ?side5 ?side6 ?side7 ?side8 ?side9 ?side10 A5.out).mono ?_); (case side1 => exact kV (yY HR1_1.out HB.out)); (case side2 => exact HC1_1.out); (case side3 => exact kV (yY HR1_2.out HB.out)); (case side4 => exact HC1_2.out); (case side5 => exact kV (yY HR1_3.out HB.out)); (case side6 => exact HC1_3.out); (case side7 => exact kV (yY HR1_4.out HB.out)); (case side8 => exact HC1_4.out); (case side9 => exact kV (yY HR1_5.out HB.out)); (case side10 => exact HC1_5.out); rintro e w17 ⟨rfl, hb⟩; have n0_ := yD (zB (g := gb418) (o := .cells #[.int .i64 a1_0, .slice A1_1 l1_1.length c1_1, .slice A1_2 l1_2.length c1_2, .slice A1_3 l1_3.length c1_3, .slice A1_4 l1_4.length c1_4, .slice A1_5 l1_5.length c1_5] 28 (0, 0)) (kM BK418) hb); have n1_ := yD (zC (kB HB) hb); clear BK418; clear HB; have BK418 := n0_; have HB := n1_; clear n0_ n1_; (try clear hb); (try clear hb2); (try clear hk); (try clear hi)))
   go_ret
   exact ⟨by first | rfl | (simp <;> rfl) | (simp [*] <;> rfl), kR1 HB⟩
 ·
  replace c4 := Bool.eq_false_iff.mpr c4
  subst c4
  have H1 : (some false) = some r := by rw [if_neg (show ¬ (false = true) by decide)] at H; exact H
  clear H; have H := H1; clear H1; obtain rfl := Option.some.inj H; go_enter Try.func36, Try.ntmps36
  go_wp2_with (first | ((with_reducible refine gate_dst (N := 3) rfl ?_); refine box_event ?hg (N := 3) ?hd (cs := #[.int .i64 a1_0, .slice A1_1 l1_1.length c1_1, .slice A1_2 l1_2.length c1_2, .slice A1_3 l1_3.length c1_3, .slice A1_4 l1_4.length c1_4, .slice A1_5 l1_5.length c1_5]) (t := 28) ?hr ?_; (case hd => rfl); (case hg => rfl); (case hr => first | (go_simp; done) | (go_simp; rfl)); intro gb418 hg w18 hbox hb; have n0_ := yD (zC (kB HB) hb); have n1_ := yD (hbox); have n2_ := yD ((by rw [hg]; exact (below_size (kB HB)) : w.heap.size ≤ gb418)); have n3_ := yD ((by rw [hg]; exact (below_size (kB HB)) : w.heap.size ≤ gb418)); clear HB; have HB := n0_; have BK418 := n1_; have GW418 := n2_; have GE418 := n3_; clear n0_ n1_ n2_ n3_; clear hb hbox hg) | ((with_reducible refine gate_callee (f := 67) rfl ?_); refine goesL_ (some 6) rfl rfl Try.func67 (by kernel_rfl) rfl #[.slice A0 l0.length c0] rfl (by (try simp only [zK, zL, zM]); first | done | rfl | (simp only [zN, zO]; rfl)) ?_; (with_reducible refine (impl_ValidDims.calls k _ _ l0 false _ ?side1 ?side2 A3.out).mono ?_); (case side1 => exact kV (yY HR0.out HB.out)); (case side2 => exact HC0.out); rintro e w19 ⟨rfl, hb⟩; refine ⟨_, rfl, ?_⟩; have n0_ := yD (zB (g := gb418) (o := .cells #[.int .i64 a1_0, .slice A1_1 l1_1.length c1_1, .slice A1_2 l1_2.length c1_2, .slice A1_3 l1_3.length c1_3, .slice A1_4 l1_4.length c1_4, .slice A1_5 l1_5.length c1_5] 28 (0, 0)) (kM BK418) hb); have n1_ := yD (zC (kB HB) hb); clear BK418; clear HB; have BK418 := n0_; have HB := n1_; clear n0_ n1_; (try clear hb); (try clear hb2); (try clear hk); (try clear hi)))
  go_ret
  exact ⟨by first | rfl | (simp <;> rfl) | (simp [*] <;> rfl), kR1 HB⟩

/-! ### impl_Selection_coordinates: function 99 -/
mutual
def impl_Selection_coordinates.l0 : Nat → Int → List Int → Int → Int → Int → List Int → List Int → List Int → List Int → List (S97) → Option (List Int)
 | 0, _, _, _, _, _, _, _, _, _, _ => none
 | k + 1, x1, x5, x12, x13, x423000, x423001, x423002, x423003, x423004, x423005 => if x13 < x12 then (if 0 ≤ x1 then (if x1 < (x423004.length : Int) then (impl_Selection_coordinates.l1 k x1 x5 x13 x12 x13 (rd x423004 x1) 0 x423000 x423001 x423002 x423003 x423004 x423005) else (none)) else (none)) else (some x5)
def impl_Selection_coordinates.l1 : Nat → Int → List Int → Int → Int → Int → Int → Int → Int → List Int → List Int → List Int → List Int → List (S97) → Option (List Int)
 | 0, _, _, _, _, _, _, _, _, _, _, _, _, _ => none
 | k + 1, x1, x5, x6, x12, x13, x20, x21, x423000, x423001, x423002, x423003, x423004, x423005 => if x21 < x20 then (if 0 ≤ x1 then (if x1 < (x423001.length : Int) then (if x1 < (x423002.length : Int) then (if x5.length < 17592186044416 then (impl_Selection_coordinates.l1 k x1 (x5 ++ [wrap64 ((wrap64 ((rd x423001 x1) + (wrap64 (x6 * (rd x423002 x1))))) + x21)]) x6 x12 x13 x20 (wrap64 (x21 + 1)) x423000 x423001 x423002 x423003 x423004 x423005) else (none)) else (none)) else (none)) else (none)) else (impl_Selection_coordinates.l0 k x1 x5 x12 (wrap64 (x13 + 1)) x423000 x423001 x423002 x423003 x423004 x423005)
end
def impl_Selection_coordinates.f (k : Nat) (a0_0 : Int) (l0_1 : List Int) (l0_2 : List Int) (l0_3 : List Int) (l0_4 : List Int) (l0_5 : List (S97)) (a1 : Int) : Option (List Int) := if 0 ≤ a1 then (if a1 < (l0_3.length : Int) then (impl_Selection_coordinates.l0 k a1 ([] : List Int) (rd l0_3 a1) 0 a0_0 l0_1 l0_2 l0_3 l0_4 l0_5) else (none)) else (none)
theorem impl_Selection_coordinates.mono_l : ∀ k, (∀ y0 y1 y2 y3 y4 y5 y6 y7 y8 y9, LeO (impl_Selection_coordinates.l0 k y0 y1 y2 y3 y4 y5 y6 y7 y8 y9) (impl_Selection_coordinates.l0 (k + 1) y0 y1 y2 y3 y4 y5 y6 y7 y8 y9)) ∧ (∀ y0 y1 y2 y3 y4 y5 y6 y7 y8 y9 y10 y11 y12, LeO (impl_Selection_coordinates.l1 k y0 y1 y2 y3 y4 y5 y6 y7 y8 y9 y10 y11 y12) (impl_Selection_coordinates.l1 (k + 1) y0 y1 y2 y3 y4 y5 y6 y7 y8 y9 y10 y11 y12))
 | 0 => ⟨fun _ _ _ _ _ _ _ _ _ _ r h => by simp [impl_Selection_coordinates.l0] at h, fun _ _ _ _ _ _ _ _ _ _ _ _ _ r h => by simp [impl_Selection_coordinates.l1] at h⟩
 | k + 1 => by
  obtain ⟨ih0, ih1⟩ := impl_Selection_coordinates.mono_l k
  refine ⟨?_, ?_⟩
  ·
   intro y0 y1 y2 y3 y4 y5 y6 y7 y8 y9
   unfold impl_Selection_coordinates.l0
   repeat' first
   | (with_reducible exact ih0 _ _ _ _ _ _ _ _ _ _)
   | (with_reducible exact ih1 _ _ _ _ _ _ _ _ _ _ _ _ _)
   | (with_reducible exact LeO.refl _)
   | (with_reducible exact LeO.none _)
   | (with_reducible refine LeO.ite ?_ ?_)
   | (with_reducible refine LeO.bind ?_ (fun _ => ?_))
   | exact ih0 _ _ _ _ _ _ _ _ _ _
   | exact ih1 _ _ _ _ _ _ _ _ _ _ _ _ _
   | exact LeO.none _
   | refine LeO.ite ?_ ?_
   | refine LeO.bind ?_ (fun _ => ?_)
  ·
   intro y0 y1 y2 y3 y4 y5 y6 y7 y8 y9 y10 y11 y12
   unfold impl_Selection_coordinates.l1
   repeat' first
   | (with_reducible exact ih0 _ _ _ _ _ _ _ _ _ _)
   | (with_reducible exact ih1 _ _ _ _ _ _ _ _ _ _ _ _ _)
   | (with_reducible exact LeO.refl _)
   | (with_reducible exact LeO.none _)
   | (with_reducible refine LeO.ite ?_ ?_)
   | (with_reducible refine LeO.bind ?_ (fun _ => ?_))
   | exact ih0 _ _ _ _ _ _ _ _ _ _
   | exact ih1 _ _ _ _ _ _ _ _ _ _ _ _ _
   | exact LeO.none _
   | refine LeO.ite ?_ ?_
   | refine LeO.bind ?_ (fun _ => ?_)
theorem impl_Selection_coordinates.mono : ∀ a0 a1 a2 a3 a4 a5 a6 k, LeO (impl_Selection_coordinates.f k a0 a1 a2 a3 a4 a5 a6) (impl_Selection_coordinates.f (k + 1) a0 a1 a2 a3 a4 a5 a6) := by
 intro a0 a1 a2 a3 a4 a5 a6 k
 obtain ⟨ih0, ih1⟩ := impl_Selection_coordinates.mono_l k
 unfold impl_Selection_coordinates.f
 repeat' first
  | (with_reducible exact ih0 _ _ _ _ _ _ _ _ _ _)
  | (with_reducible exact ih1 _ _ _ _ _ _ _ _ _ _ _ _ _)
  | (with_reducible exact LeO.refl _)
  | (with_reducible exact LeO.none _)
  | (with_reducible refine LeO.ite ?_ ?_)
  | (with_reducible refine LeO.bind ?_ (fun _ => ?_))
  | exact ih0 _ _ _ _ _ _ _ _ _ _
  | exact ih1 _ _ _ _ _ _ _ _ _ _ _ _ _
  | exact LeO.none _
  | refine LeO.ite ?_ ?_
  | refine LeO.bind ?_ (fun _ => ?_)
def impl_Selection_coordinates.T8 : Bool × List (List Nat × List Nat) := (true, [([], []), ([], []), ([1], [1]), ([], []), ([2, 3], [2, 3]), ([4], [4]), ([], []), ([], []), ([7], [7]), ([], []), ([8, 9], [8, 9]), ([10], [10]), ([6, 11], [6, 11]), ([5, 12], [5, 12]), ([], []), ([13, 14], [13, 14]), ([15], [15]), ([0, 16], [0, 16]), ([17, 17, 0, 1, 2, 3, 4, 5, 6, 7, 8, 9, 10, 11, 12, 13, 14, 15, 16, 17], [0, 17])])
def impl_Selection_coordinates.B8 : List Nat := [0, 0, 2, 0, 14, 30, 0, 0, 128, 0, 896, 1920, 4032, 8190, 0, 32766, 65534, 131071, 262143]
theorem impl_Selection_coordinates.tab8 : rtab .any (opsOf Try.f99 8) = impl_Selection_coordinates.T8 := by kernel_rfl
theorem impl_Selection_coordinates.bits8 : waitsOk impl_Selection_coordinates.T8.2 impl_Selection_coordinates.B8 = true := by kernel_rfl
set_option maxHeartbeats 8000000 in
set_option maxRecDepth 100000 in
theorem impl_Selection_coordinates.calls (k : Nat) (a0_0 : Int) (A0_1 : Option Addr) (c0_1 : Nat) (l0_1 : List Int) (A0_2 : Option Addr) (c0_2 : Nat) (l0_2 : List Int) (A0_3 : Option Addr) (c0_3 : Nat) (l0_3 : List Int) (A0_4 : Option Addr) (c0_4 : Nat) (l0_4 : List Int) (A0_5 : Option Addr) (c0_5 : Nat) (l0_5 : List (S97)) (a1 : Int) (r : List Int) (w : World) (hr0_1 : Kd.C (Kd.int .i64) w A0_1 l0_1.length l0_1) (hc0_1 : l0_1.length ≤ c0_1) (hr0_2 : Kd.C (Kd.int .i64) w A0_2 l0_2.length l0_2) (hc0_2 : l0_2.length ≤ c0_2) (hr0_3 : Kd.C (Kd.int .i64) w A0_3 l0_3.length l0_3) (hc0_3 : l0_3.length ≤ c0_3) (hr0_4 : Kd.C (Kd.int .i64) w A0_4 l0_4.length l0_4) (hc0_4 : l0_4.length ≤ c0_4) (hr0_5 : Kd.C k97 w A0_5 l0_5.length l0_5) (hc0_5 : l0_5.length ≤ c0_5) (h : impl_Selection_coordinates.f k a0_0 l0_1 l0_2 l0_3 l0_4 l0_5 a1 = some r) :
 Calls Try.prog 99 #[.agg #[.int .i64 a0_0, .slice A0_1 l0_1.length c0_1, .slice A0_2 l0_2.length c0_2, .slice A0_3 l0_3.length c0_3, .slice A0_4 l0_4.length c0_4, .slice A0_5 l0_5.length c0_5], .int .i64 a1] w fun e w' => ∃ v0_ : Value, e = .returned (v0_) ∧ Kd.R (Kd.int .i64) 2 w' w.heap.size (fun _ => True) v0_ r ∧ Below w.heap.size w w' := by
 have hu28 := Try.underlying28
 have HR0_1 := yD hr0_1
 have HC0_1 := yD hc0_1
 clear hr0_1 hc0_1
 have HR0_2 := yD hr0_2
 have HC0_2 := yD hc0_2
 clear hr0_2 hc0_2
 have HR0_3 := yD hr0_3
 have HC0_3 := yD hc0_3
 clear hr0_3 hc0_3
 have HR0_4 := yD hr0_4
 have HC0_4 := yD hc0_4
 clear hr0_4 hc0_4
 have HR0_5 := yD hr0_5
 have HC0_5 := yD hc0_5
 clear hr0_5 hc0_5
 have HB := yD (Below.refl w.heap.size w)
 have H : (if 0 ≤ a1 then (if a1 < (l0_3.length : Int) then (impl_Selection_coordinates.l0 k a1 ([] : List Int) (rd l0_3 a1) 0 a0_0 l0_1 l0_2 l0_3 l0_4 l0_5) else (none)) else (none)) = some r := h
 clear h
 by_cases c3 : 0 ≤ a1
 ·
  rw [if_pos c3] at H
  have c3b0 : decide (0 ≤ a1) = true := zR c3; clear c3
  by_cases c4 : a1 < (l0_3.length : Int)
  ·
   rw [if_pos c4] at H
   have c4b0 : decide (a1 < (l0_3.length : Int)) = true := zR c4; clear c4
   have H' := yD H
   clear H; go_enter Try.func99, Try.ntmps99
   go_wp2_with (first | ((with_reducible refine gate_dst (N := 2) rfl ?_); refine box_event ?hg (N := 2) ?hd (cs := #[.int .i64 a0_0, .slice A0_1 l0_1.length c0_1, .slice A0_2 l0_2.length c0_2, .slice A0_3 l0_3.length c0_3, .slice A0_4 l0_4.length c0_4, .slice A0_5 l0_5.length c0_5]) (t := 28) ?hr ?_; (case hd => rfl); (case hg => rfl); (case hr => first | (go_simp; done) | (go_simp; rfl)); intro gb422 hg w5 hbox hb; have n0_ := yD (zC (kB HB) hb); have n1_ := yD (hbox); have n2_ := yD ((by rw [hg]; exact (below_size (kB HB)) : w.heap.size ≤ gb422)); have n3_ := yD ((by rw [hg]; exact (below_size (kB HB)) : w.heap.size ≤ gb422)); clear HB; have HB := n0_; have BK422 := n1_; have GW422 := n2_; have GE422 := n3_; clear n0_ n1_ n2_ n3_; clear hb hbox hg; obtain ⟨hcz6_0, hcz6_1, hcz6_2, hcz6_3, hcz6_4, hcz6_5⟩ := cz6 BK422.out; obtain ⟨hfz6_0, hfz6_1, hfz6_2, hfz6_3, hfz6_4, hfz6_5⟩ := fz6 BK422.out; have p423 : 0 ≤ (a1 : Int) := zP (by assumption); have q423 : a1 < (l0_3.length : Int) := zP (by assumption); obtain ⟨ad423, e423, hx423_0⟩ := Kd.at_int HR0_3.out a1 p423 q423; cases e423; replace hx423_0 := (HB.out.cell (zQ w _ hx423_0)).trans hx423_0; replace p423 := eq_true p423; replace q423 := eq_true q423))
   go_loopg [5, 13] k (fun kq v5 v13 w' => ∃ (x5_1 : List Int) (x13_1 : Int), v13 = .int .i64 x13_1 ∧ Aside0 (impl_Selection_coordinates.l0 kq a1 x5_1 (rd l0_3 a1) x13_1 a0_0 l0_1 l0_2 l0_3 l0_4 l0_5 = some r) ∧ Aside0 (kq ≤ k) ∧ Aside0 (Kd.R (Kd.int .i64) 2 w' w.heap.size (fun _ => True) v5 x5_1) ∧ Aside0 (w'.heap[gb422]? = some (.cells #[.int .i64 a0_0, (.slice A0_1 l0_1.length c0_1), (.slice A0_2 l0_2.length c0_2), (.slice (some ad423) l0_3.length c0_3), (.slice A0_4 l0_4.length c0_4), (.slice A0_5 l0_5.length c0_5)] 28 (0, 0))) ∧ Aside0 (Below w.heap.size w w'))
   case atStart => exact ⟨(([] : List Int)), (0), (by first | rfl | (simp; done) | (simp [*]; done)), H', ⟨Nat.le_refl _⟩, ⟨by first | exact Kd.R_nil _ _ _ _ _ | exact Kd.N_nil _ _ _ _ _ | exact Kd.V_nil _ _ _ _ _ | exact Kd.Q_nil _ _ _ _ _ | exact Kd.S_nil _ _ _ _ _⟩, ⟨by (with_reducible repeat (first | refine yM ?_ _ | refine yO ?_ | refine yN ?_ _)); exact BK422.out⟩, ⟨kR1 HB⟩⟩
   case round =>
    clear H'
    try clear p2; try clear c3; try clear c3b0; try clear c4; try clear c4b0; try clear p4; try clear q4; try clear hx4; try clear hcz6_0; try clear hcz6_1; try clear hcz6_2; try clear hcz6_3; try clear hcz6_4; try clear hcz6_5; try clear hfz6_0; try clear hfz6_1; try clear hfz6_2; try clear hfz6_3; try clear hfz6_4; try clear hfz6_5; try clear hx423_0; try clear p423; try clear q423
    obtain ⟨x5_1, x13_1, rfl, HA, HK1, HO_5, BK422, HB⟩ := hrel
    cases gk with
    | zero => exact absurd HA.out (by simp [impl_Selection_coordinates.l0])
    | succ k1 =>
     have H := HA.out; clear HA
     simp only [impl_Selection_coordinates.l0] at H
     by_cases c7 : x13_1 < (rd l0_3 a1)
     ·
      rw [if_pos c7] at H
      have c7b0 : decide (x13_1 < (rd l0_3 a1)) = true := zR c7; clear c7
      by_cases c8 : 0 ≤ a1
      ·
       rw [if_pos c8] at H
       have c8b0 : decide (0 ≤ a1) = true := zR c8; clear c8
       by_cases c9 : a1 < (l0_4.length : Int)
       ·
        rw [if_pos c9] at H
        have c9b0 : decide (a1 < (l0_4.length : Int)) = true := zR c9; clear c9
        have H' := yD H
        clear H
        obtain ⟨hcz10_0, hcz10_1, hcz10_2, hcz10_3, hcz10_4, hcz10_5⟩ := cz6 BK422.out
        obtain ⟨hfz10_0, hfz10_1, hfz10_2, hfz10_3, hfz10_4, hfz10_5⟩ := fz6 BK422.out
        have p424 : 0 ≤ (a1 : Int) := zP (by assumption)
        have q424 : a1 < (l0_4.length : Int) := zP (by assumption)
        obtain ⟨ad424, e424, hx424_0⟩ := Kd.at_int HR0_4.out a1 p424 q424
        cases e424
        replace hx424_0 := (HB.out.cell (zQ w _ hx424_0)).trans hx424_0
        replace p424 := eq_true p424; replace q424 := eq_true q424
        go_wp2
        go_loopg [5, 21] k1 (fun kq v5 v21 w' => ∃ (x5_2 : List Int) (x21_2 : Int), v21 = .int .i64 x21_2 ∧ Aside0 (impl_Selection_coordinates.l1 kq a1 x5_2 x13_1 (rd l0_3 a1) x13_1 (rd l0_4 a1) x21_2 a0_0 l0_1 l0_2 l0_3 l0_4 l0_5 = some r) ∧ Aside0 (kq ≤ k1) ∧ Aside0 (Kd.R (Kd.int .i64) 2 w' w.heap.size (fun _ => True) v5 x5_2) ∧ Aside0 (w'.heap[gb422]? = some (.cells #[.int .i64 a0_0, (.slice A0_1 l0_1.length c0_1), (.slice A0_2 l0_2.length c0_2), (.slice (some ad423) l0_3.length c0_3), (.slice (some ad424) l0_4.length c0_4), (.slice A0_5 l0_5.length c0_5)] 28 (0, 0))) ∧ Aside0 (Below w.heap.size w w'))
        case atStart => exact ⟨(x5_1), (0), (by first | rfl | (simp; done) | (simp [*]; done)), H', ⟨Nat.le_refl _⟩, ⟨by (with_reducible repeat (first | apply yA | apply yB | apply yC)); exact HO_5.out⟩, ⟨by (with_reducible repeat (first | refine yM ?_ _ | refine yO ?_ | refine yN ?_ _)); exact BK422.out⟩, ⟨kR1 HB⟩⟩
        case round =>
         clear H'
         try clear p2; try clear c3; try clear c3b0; try clear c4; try clear c4b0; try clear p4; try clear q4; try clear hx4; try clear c7; try clear c7b0; try clear c8; try clear c8b0; try clear c9; try clear c9b0; try clear hcz10_0; try clear hcz10_1; try clear hcz10_2; try clear hcz10_3; try clear hcz10_4; try clear hcz10_5; try clear hcz6_0; try clear hcz6_1; try clear hcz6_2; try clear hcz6_3; try clear hcz6_4; try clear hcz6_5; try clear hfz10_0; try clear hfz10_1; try clear hfz10_2; try clear hfz10_3; try clear hfz10_4; try clear hfz10_5; try clear hfz6_0; try clear hfz6_1; try clear hfz6_2; try clear hfz6_3; try clear hfz6_4; try clear hfz6_5; try clear hx423_0; try clear hx424_0; try clear p2; try clear p4; try clear p423; try clear p424; try clear q4; try clear q423; try clear q424
         obtain ⟨x5_2, x21_2, rfl, HA, HK2, HO_5, BK422, HB⟩ := hrel
         cases gk with
         | zero => exact absurd HA.out (by simp [impl_Selection_coordinates.l1])
         | succ k2 =>
          have H := HA.out; clear HA
          simp only [impl_Selection_coordinates.l1] at H
          by_cases c11 : x21_2 < (rd l0_4 a1)
          ·
           rw [if_pos c11] at H
           have c11b0 : decide (x21_2 < (rd l0_4 a1)) = true := zR c11; clear c11
           by_cases c12 : 0 ≤ a1
           ·
            rw [if_pos c12] at H
            have c12b0 : decide (0 ≤ a1) = true := zR c12; clear c12
            by_cases c13 : a1 < (l0_1.length : Int)
            ·
             rw [if_pos c13] at H
             have c13b0 : decide (a1 < (l0_1.length : Int)) = true := zR c13; clear c13
             by_cases c14 : a1 < (l0_2.length : Int)
             ·
              rw [if_pos c14] at H
              have c14b0 : decide (a1 < (l0_2.length : Int)) = true := zR c14; clear c14
              by_cases c15 : x5_2.length < 17592186044416
              ·
               rw [if_pos c15] at H
               have LMc15 := yD c15
               clear c15
               obtain ⟨y427, hy427⟩ : ∃ y_ : List Int, y_ = (x5_2 ++ [wrap64 ((wrap64 ((rd l0_1 a1) + (wrap64 (x13_1 * (rd l0_2 a1))))) + x21_2)]) := ⟨_, rfl⟩
               replace H : (impl_Selection_coordinates.l1 k2 a1 y427 x13_1 (rd l0_3 a1) x13_1 (rd l0_4 a1) (wrap64 (x21_2 + 1)) a0_0 l0_1 l0_2 l0_3 l0_4 l0_5) = some r := by first | (rw [hy427]; with_reducible exact H) | (have H2_ := (Option.bind_some _ _).symm.trans H; rw [hy427]; with_reducible exact H2_) | (have H2_ := (Option.bind_some _ _).symm.trans H; with_reducible exact H2_) | with_reducible exact H | (rw [hy427]; exact H) | exact H
               have Ny427 := yD hy427
               clear hy427
               have H' := yD H
               clear H
               try go_wp2
               have n0_ := yD (yC HO_5.out)
               have n1_ := yD (yO BK422.out)
               have n2_ := yD (yP HB.out)
               clear HO_5 BK422 HB; have HO_5 := n0_; have BK422 := n1_; have HB := n2_; clear n0_ n1_ n2_
               have p425 : 0 ≤ (a1 : Int) := zP (by assumption)
               have q425 : a1 < (l0_1.length : Int) := zP (by assumption)
               obtain ⟨ad425, e425, hx425_0⟩ := Kd.at_int HR0_1.out a1 p425 q425
               have hw425_0 := hx425_0; cases e425
               replace hx425_0 := (HB.out.cell (zQ w _ hx425_0)).trans hx425_0
               replace p425 := eq_true p425; replace q425 := eq_true q425
               have p426 : 0 ≤ (a1 : Int) := zP (by assumption)
               have q426 : a1 < (l0_2.length : Int) := zP (by assumption)
               obtain ⟨ad426, e426, hx426_0⟩ := Kd.at_int HR0_2.out a1 p426 q426
               have hw426_0 := hx426_0; cases e426
               replace hx426_0 := (HB.out.cell (zQ w _ hx426_0)).trans hx426_0
               replace p426 := eq_true p426; replace q426 := eq_true q426
               refine start_ (n := 19) (S := fun w' => w'.cell? ⟨gb422, 0, none⟩ = some (.int .i64 a0_0) ∧ w'.cell? ⟨gb422, 1, none⟩ = some (.slice (some ad425) l0_1.length c0_1) ∧ w'.cell? ⟨gb422, 2, none⟩ = some (.slice (some ad426) l0_2.length c0_2) ∧ w'.cell? ⟨gb422, 3, none⟩ = some (.slice (some ad423) l0_3.length c0_3) ∧ w'.cell? ⟨gb422, 4, none⟩ = some (.slice (some ad424) l0_4.length c0_4) ∧ w'.cell? ⟨gb422, 5, none⟩ = some (.slice A0_5 l0_5.length c0_5) ∧ w'.cell? (ad425.add (a1).toNat) = some (.int .i64 (rd l0_1 a1)) ∧ w'.cell? (ad426.add (a1).toNat) = some (.int .i64 (rd l0_2 a1))) (ds := []) (bz 19 0) (by kernel_rfl) rfl rfl ⟨(yG BK422.out 0).trans rfl, (yG BK422.out 1).trans rfl, (yG BK422.out 2).trans rfl, (yG BK422.out 3).trans rfl, (yG BK422.out 4).trans rfl, (yG BK422.out 5).trans rfl, ((HB.out.cell (zQ w _ hw425_0)).trans hw425_0), ((HB.out.cell (zQ w _ hw426_0)).trans hw426_0)⟩ (fun hHeld => ?_); refine with_tabW impl_Selection_coordinates.tab8 impl_Selection_coordinates.bits8 (fun HT_ HW_ => ?_)
               generalize wr.drew = w16 at HO_5 BK422 HB hx425_0 hx426_0 hHeld ⊢
               refine qA 0 24 (bz 19 1) HT_ ?_
               refine qA 1 25 (bz 19 3) HT_ ?_
               refine qA 3 27 (bz 19 11) HT_ ?_
               refine qA 6 30 (bz 19 75) HT_ ?_
               refine qA 7 31 (bz 19 203) HT_ ?_
               refine qA 9 33 (bz 19 715) HT_ ?_
               refine qA 14 38 (bz 19 17099) HT_ ?_
               refine qC 2 26 (bz 19 17103) HT_ HW_ hHeld ?_ (hy := by rintro w' ⟨s0, s1, s2, s3, s4, s5, s6, s7⟩; go_simp; with_reducible rfl)
               refine qA 4 28 (bz 19 17119) HT_ ?_
               refine qC 5 29 (bz 19 17151) HT_ HW_ hHeld ?_ (hy := by rintro w' ⟨s0, s1, s2, s3, s4, s5, s6, s7⟩; go_simp; with_reducible rfl)
               refine qC 8 32 (bz 19 17407) HT_ HW_ hHeld ?_ (hy := by rintro w' ⟨s0, s1, s2, s3, s4, s5, s6, s7⟩; go_simp; with_reducible rfl)
               refine qA 10 34 (bz 19 18431) HT_ ?_
               refine qC 11 35 (bz 19 20479) HT_ HW_ hHeld ?_ (hy := by rintro w' ⟨s0, s1, s2, s3, s4, s5, s6, s7⟩; go_simp; with_reducible rfl)
               refine qA 12 36 (bz 19 24575) HT_ ?_
               refine qA 13 37 (bz 19 32767) HT_ ?_
               refine qA 15 39 (bz 19 65535) HT_ ?_
               refine one_ (i := 16) (N := some 40) (bz 19 131071) rfl rfl (one_of HT_.out (by kernel_rfl)) (by decide) (fun K hK => ?_)
               refine value_ (w1 := ?_) (v := ?_) (by rfl) rfl ?_ ?_
               rotate_left 2
               · go_simp
                 constructor
                 · rfl
                 · rfl
               refine hK.out _ _ ⟨(yG (yN BK422.out _) 0).trans rfl, (yG (yN BK422.out _) 1).trans rfl, (yG (yN BK422.out _) 2).trans rfl, (yG (yN BK422.out _) 3).trans rfl, (yG (yN BK422.out _) 4).trans rfl, (yG (yN BK422.out _) 5).trans rfl, (World.cell?_alloc_lt _ _ _ (zQ _ _ (((HB.out.cell (zQ w _ hw425_0)).trans hw425_0)))).trans (((HB.out.cell (zQ w _ hw425_0)).trans hw425_0)), (World.cell?_alloc_lt _ _ _ (zQ _ _ (((HB.out.cell (zQ w _ hw426_0)).trans hw426_0)))).trans (((HB.out.cell (zQ w _ hw426_0)).trans hw426_0))⟩ (fun hHeld => ?_)
               clear hK K
               refine norm_ (a' := ?_) ?_ ?_
               rotate_left
               · show Act.put _ (some 40) _ = _
                 simp only [Act.put, zH, zI, zJ, i64_w, i32_w]
                 rfl
               refine one_ (i := 17) (N := some 41) (bz 19 262143) rfl rfl (one_of HT_.out (by kernel_rfl)) (by decide) (fun K hK => ?_)
               refine Kd.R_append_step (Kd.int .i64) (w0 := w) w.heap.size (by rfl) (.tmp 24) (.tmp 40) 23 2 (.int .i64 0) 8 rfl Try.underlying23 info2 rfl (by decide) (by omega) u5 x5_2 (wrap64 ((wrap64 ((rd l0_1 a1) + (wrap64 (x13_1 * (rd l0_2 a1))))) + x21_2)) [.int .i64 (wrap64 ((wrap64 ((rd l0_1 a1) + (wrap64 (x13_1 * (rd l0_2 a1))))) + x21_2))] (fun _ => True) (fun _ => False) rfl rfl ?aP (fun _ hk => hk.elim) ?aF ?aO ?aB ?aS ?aL ?_
               (case aP => exact rfl)
               (case aB => exact (kB HB))
               (case aF => exact (fun _ _ => trivial))
               (case aO => exact (kA HO_5))
               (case aS => exact (below_size (kB HB)))
               (case aL => have := LMc15.out; omega)
               intro v428 w17 ho hb hg hat
               rw [← Ny427.out] at ho
               have n0_ := yD (blk_grown (g := gb422) (o := .cells #[.int .i64 a0_0, .slice (some ad425) l0_1.length c0_1, .slice (some ad426) l0_2.length c0_2, .slice (some ad423) l0_3.length c0_3, .slice (some ad424) l0_4.length c0_4, .slice A0_5 l0_5.length c0_5] 28 (0, 0)) (kM BK422) hg (Kd.R_ne HO_5.out BK422.out (by decide)))
               have n1_ := yD (hb)
               have n2_ := yD (ho)
               clear BK422 HB HO_5; have BK422 := n0_; have HB := n1_; have HO429 := n2_; clear n0_ n1_ n2_ ho hb hg hat
               refine hK.out _ _ ⟨(yG BK422.out 0).trans rfl, (yG BK422.out 1).trans rfl, (yG BK422.out 2).trans rfl, (yG BK422.out 3).trans rfl, (yG BK422.out 4).trans rfl, (yG BK422.out 5).trans rfl, ((HB.out.cell (zQ w _ hw425_0)).trans hw425_0), ((HB.out.cell (zQ w _ hw426_0)).trans hw426_0)⟩ (fun hHeld => ?_)
               clear hK K
               refine norm_ (a' := ?_) ?_ ?_
               rotate_left
               · show Act.put _ (some 41) _ = _
                 simp only [Act.put, zH, zI, zJ, i64_w, i32_w]
                 rfl
               refine qA 18 5 (bz 19 524287) HT_ ?_
               refine done_ (done_of HT_.out (by kernel_rfl)) ?_
               try go_wp2
               go_roundg k2
               case measure => have := HK1.out; have := HK2.out; omega
               case rel => exact ⟨(y427), (wrap64 (x21_2 + 1)), (by first | rfl | (simp; done) | (simp [*]; done)), H', ⟨by have := HK1.out; have := HK2.out; omega⟩, ⟨by (with_reducible repeat (first | apply yA | apply yB | apply yC)); exact HO429.out⟩, ⟨by (with_reducible repeat (first | refine yM ?_ _ | refine yO ?_ | refine yN ?_ _)); exact BK422.out⟩, ⟨kR1 HB⟩⟩
              · rw [if_neg c15] at H
                exact absurd H (by simp)
             · rw [if_neg c14] at H
               exact absurd H (by simp)
            · rw [if_neg c13] at H
              exact absurd H (by simp)
           · rw [if_neg c12] at H
             exact absurd H (by simp)
          · rw [if_neg c11] at H
            have c11b0 : decide (x21_2 < (rd l0_4 a1)) = false := zS c11; clear c11
            have H' := yD H
            clear H
            go_wp2
            go_roundg k2
            case measure => have := HK1.out; have := HK2.out; omega
            case rel => exact ⟨(x5_2), (wrap64 (x13_1 + 1)), (by first | rfl | (simp; done) | (simp [*]; done)), H', ⟨by have := HK1.out; have := HK2.out; omega⟩, ⟨by (with_reducible repeat (first | apply yA | apply yB | apply yC)); exact HO_5.out⟩, ⟨by (with_reducible repeat (first | refine yM ?_ _ | refine yO ?_ | refine yN ?_ _)); exact BK422.out⟩, ⟨kR1 HB⟩⟩
       · rw [if_neg c9] at H
         exact absurd H (by simp)
      · rw [if_neg c8] at H
        exact absurd H (by simp)
     · rw [if_neg c7] at H
       have c7b0 : decide (x13_1 < (rd l0_3 a1)) = false := zS c7; clear c7; obtain rfl := Option.some.inj H
       go_wp2
       go_ret
       exact ⟨_, by first | rfl | (simp <;> rfl) | (simp [*] <;> rfl), by (with_reducible repeat (first | apply yA | apply yB | apply yC)); exact HO_5.out, kR1 HB⟩
  · rw [if_neg c4] at H
    exact absurd H (by simp)
 · rw [if_neg c3] at H
   exact absurd H (by simp)

end Go.Proofs.Ytgpkkplabnliiaa.PFnRanges
