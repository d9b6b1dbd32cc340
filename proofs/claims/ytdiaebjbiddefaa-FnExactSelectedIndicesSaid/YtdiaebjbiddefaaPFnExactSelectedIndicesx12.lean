/- Each Go function here comes to what the plain function of its name says, where that says something. Made by a program of this session, over the print. -/
import Derived.Test.YtdiaebjbiddefaaPFnExactSelectedIndicesx0
import Derived.Test.YtdiaebjbiddefaaPFnExactSelectedIndicesx8
import Derived.Test.YtdiaebjbiddefaaPFnExactSelectedIndicesx9
import Derived.Test.YtdiaebjbiddefaaPFnExactSelectedIndicesx11
namespace Go.Proofs.Ytdiaebjbiddefaa.PFnExactSelectedIndices
open Go.RowKit Go.Proofs.YtdiaebjbiddefaaW.PrintWords Go.Proofs.YtdiaebjbiddefaaW.PrintLast Go.Proofs.YtdiaebjbiddefaaW.PrintMore
attribute [local go_sem] max2_int min2_int max_two min_two max_three min_three max_four min_four   -- for this text's walks alone
set_option linter.unusedVariables false
set_option linter.unusedSimpArgs false

/-! ### slices_ContainsFunc_impl_Selection_fits_1: function 141 -/
def slices_ContainsFunc_impl_Selection_fits_1.f (k : Nat) (l0 : List (S110)) (l1_0 : List Int) : Option (Bool) := (slices_IndexFunc_impl_Selection_fits_1.f k l0 l1_0).bind fun t312 => (some (decide (t312 ≥ 0)))
theorem slices_ContainsFunc_impl_Selection_fits_1.mono : ∀ a0 a1 k, LeO (slices_ContainsFunc_impl_Selection_fits_1.f k a0 a1) (slices_ContainsFunc_impl_Selection_fits_1.f (k + 1) a0 a1) := by
 intro a0 a1 k
 unfold slices_ContainsFunc_impl_Selection_fits_1.f
 repeat' (with_reducible first | exact slices_IndexFunc_impl_Selection_fits_1.mono _ _ _ | exact LeO.refl _ | exact LeO.none _ | refine LeO.ite ?_ ?_ | refine LeO.bind ?_ (fun _ => ?_))
set_option maxHeartbeats 8000000 in
set_option maxRecDepth 100000 in
theorem slices_ContainsFunc_impl_Selection_fits_1.calls (k : Nat) (A0 : Option Addr) (c0 : Nat) (l0 : List (S110)) (g1_0 : Nat) (A1_0 : Option Addr) (c1_0 : Nat) (l1_0 : List Int) (r : Bool) (w : World) (hr0 : Kd.C k110 w A0 l0.length l0) (hc0 : l0.length ≤ c0) (hr1_0 : Kd.C (Kd.int .i64) w A1_0 l1_0.length l1_0) (hc1_0 : l1_0.length ≤ c1_0) (hb1_0 : w.heap[g1_0]? = some (.cells #[.slice A1_0 l1_0.length c1_0] 36 (0, 0))) (h : slices_ContainsFunc_impl_Selection_fits_1.f k l0 l1_0 = some r) :
 Calls Try.prog 141 #[.slice A0 l0.length c0, .func (.func 142) #[] #[.pointer (some ⟨g1_0, 0, none⟩)]] w fun e w' => e = .returned (.bool r) ∧ Below w.heap.size w w' := by
 have HR0 := yD hr0
 have HC0 := yD hc0
 clear hr0 hc0
 have HR1_0 := yD hr1_0
 have HC1_0 := yD hc1_0
 clear hr1_0 hc1_0
 have BK48 := yD hb1_0
 clear hb1_0
 have HB := yD (Below.refl w.heap.size w)
 have H : ((slices_IndexFunc_impl_Selection_fits_1.f k l0 l1_0).bind fun t312 => (some (decide (t312 ≥ 0)))) = some r := h
 clear h
 obtain ⟨t312, A30, H⟩ := zW_ H
 replace H : (some (decide (t312 ≥ 0))) = some r := H
 have A3 := yD A30
 clear A30; obtain rfl := Option.some.inj H; go_enter Try.func141, Try.ntmps141
 go_wp2_with (first | ((with_reducible refine gate_callee (f := 158) rfl ?_); refine gL 7 Try.func158 #[.slice A0 l0.length c0, .func (.func 142) #[] #[.pointer (some ⟨g1_0, 0, none⟩)]] ?_; (with_reducible refine (slices_IndexFunc_impl_Selection_fits_1.calls k _ _ l0 g1_0 A1_0 c1_0 l1_0 t312 _ ?side1 ?side2 ?side3 ?side4 ?side5 A3.out).mono ?_); (case side1 => exact HR0.out); (case side2 => exact HC0.out); (case side3 => exact HR1_0.out); (case side4 => exact HC1_0.out); (case side5 => (with_reducible repeat (first | refine yM ?_ _ | refine yO ?_ | refine yN ?_ _)); exact BK48.out); rintro e w4 ⟨rfl, hb⟩; refine ⟨_, rfl, ?_⟩; have n0_ := yD (zB (kN BK48) hb); have n1_ := yD (zC (kB HB) hb); clear BK48; clear HB; have BK48 := n0_; have HB := n1_; clear n0_ n1_; (try clear hb); (try clear hb2); (try clear hk); (try clear hi)))
 go_ret
 exact ⟨by first | rfl | (simp <;> rfl) | (simp [*] <;> rfl), kR0 HB⟩

/-! ### impl_Selection_fits: function 116 -/
def impl_Selection_fits.l0 : Nat → List Int → Int → Int → Int → List Int → List Int → List Int → List Int → List (S110) → Option (Bool)
 | 0, _, _, _, _, _, _, _, _, _ => none
 | k + 1, x17, x18, x19, x314000, x314001, x314002, x314003, x314004, x314005 => if x19 < x18 then (if 0 ≤ x19 then (if x19 < (x17.length : Int) then ((impl_Selection_end.f x314000 x314001 x314002 x314003 x314004 x314005 x19).bind fun t316 => (if t316 > (rd x17 x19) then (some false) else (impl_Selection_fits.l0 k x17 x18 (wrap64 (x19 + 1)) x314000 x314001 x314002 x314003 x314004 x314005))) else (none)) else (none)) else (some true)
def impl_Selection_fits.f (k : Nat) (a0_0 : Int) (l0_1 : List Int) (l0_2 : List Int) (l0_3 : List Int) (l0_4 : List Int) (l0_5 : List (S110)) (l1 : List Int) : Option (Bool) := if a0_0 = 3 then (if (l0_1.length : Int) = (l1.length : Int) then (impl_Selection_fits.l0 k l1 (l1.length : Int) 0 a0_0 l0_1 l0_2 l0_3 l0_4 l0_5) else (some false)) else (if a0_0 = 4 then ((slices_ContainsFunc_impl_Selection_fits_1.f k l0_5 l1).bind fun t317 => (some (!t317))) else (some true))
theorem impl_Selection_fits.mono_l : ∀ k, (∀ y0 y1 y2 y3 y4 y5 y6 y7 y8, LeO (impl_Selection_fits.l0 k y0 y1 y2 y3 y4 y5 y6 y7 y8) (impl_Selection_fits.l0 (k + 1) y0 y1 y2 y3 y4 y5 y6 y7 y8))
 | 0 => fun _ _ _ _ _ _ _ _ _ r h => by simp [impl_Selection_fits.l0] at h
 | k + 1 => by
  have ih0 := impl_Selection_fits.mono_l k
  ·
   intro y0 y1 y2 y3 y4 y5 y6 y7 y8
   unfold impl_Selection_fits.l0
   repeat' (with_reducible first | exact ih0 _ _ _ _ _ _ _ _ _ | exact slices_ContainsFunc_impl_Selection_fits_1.mono _ _ _ | exact LeO.refl _ | exact LeO.none _ | refine LeO.ite ?_ ?_ | refine LeO.bind ?_ (fun _ => ?_))
theorem impl_Selection_fits.mono : ∀ a0 a1 a2 a3 a4 a5 a6 k, LeO (impl_Selection_fits.f k a0 a1 a2 a3 a4 a5 a6) (impl_Selection_fits.f (k + 1) a0 a1 a2 a3 a4 a5 a6) := by
 intro a0 a1 a2 a3 a4 a5 a6 k
 have ih0 := impl_Selection_fits.mono_l k
 unfold impl_Selection_fits.f
 repeat' (with_reducible first | exact ih0 _ _ _ _ _ _ _ _ _ | exact slices_ContainsFunc_impl_Selection_fits_1.mono _ _ _ | exact LeO.refl _ | exact LeO.none _ | refine LeO.ite ?_ ?_ | refine LeO.bind ?_ (fun _ => ?_))
set_option maxHeartbeats 8000000 in
set_option maxRecDepth 100000 in
theorem impl_Selection_fits.calls (k : Nat) (a0_0 : Int) (A0_1 : Option Addr) (c0_1 : Nat) (l0_1 : List Int) (A0_2 : Option Addr) (c0_2 : Nat) (l0_2 : List Int) (A0_3 : Option Addr) (c0_3 : Nat) (l0_3 : List Int) (A0_4 : Option Addr) (c0_4 : Nat) (l0_4 : List Int) (A0_5 : Option Addr) (c0_5 : Nat) (l0_5 : List (S110)) (A1 : Option Addr) (c1 : Nat) (l1 : List Int) (r : Bool) (w : World) (hr0_1 : Kd.C (Kd.int .i64) w A0_1 l0_1.length l0_1) (hc0_1 : l0_1.length ≤ c0_1) (hr0_2 : Kd.C (Kd.int .i64) w A0_2 l0_2.length l0_2) (hc0_2 : l0_2.length ≤ c0_2) (hr0_3 : Kd.C (Kd.int .i64) w A0_3 l0_3.length l0_3) (hc0_3 : l0_3.length ≤ c0_3) (hr0_4 : Kd.C (Kd.int .i64) w A0_4 l0_4.length l0_4) (hc0_4 : l0_4.length ≤ c0_4) (hr0_5 : Kd.C k110 w A0_5 l0_5.length l0_5) (hc0_5 : l0_5.length ≤ c0_5) (hr1 : Kd.C (Kd.int .i64) w A1 l1.length l1) (hc1 : l1.length ≤ c1) (h : impl_Selection_fits.f k a0_0 l0_1 l0_2 l0_3 l0_4 l0_5 l1 = some r) :
 Calls Try.prog 116 #[.agg #[.int .i64 a0_0, .slice A0_1 l0_1.length c0_1, .slice A0_2 l0_2.length c0_2, .slice A0_3 l0_3.length c0_3, .slice A0_4 l0_4.length c0_4, .slice A0_5 l0_5.length c0_5], .slice A1 l1.length c1] w fun e w' => e = .returned (.bool r) ∧ Below w.heap.size w w' := by
 have hu55 := Try.underlying55
 have HR0_1 := yD hr0_1
 have HC0_1 := yD hc0_1
 clear hr0_1 hc0_1
 have HR0_2 := yD hr0_2
 have HC0_2 := yD hc0_2
 clear hr0_2 hc0_2
 have HR0_3 := yD hr0_3
 have HC0_3 := yD hc0_3
 clear hr0_3 hc0_3
 have HR0_4 := yD hr0_4
 have HC0_4 := yD hc0_4
 clear hr0_4 hc0_4
 have HR0_5 := yD hr0_5
 have HC0_5 := yD hc0_5
 clear hr0_5 hc0_5
 have HR1 := yD hr1
 have HC1 := yD hc1
 clear hr1 hc1
 have HB := yD (Below.refl w.heap.size w)
 have H : (if a0_0 = 3 then (if (l0_1.length : Int) = (l1.length : Int) then (impl_Selection_fits.l0 k l1 (l1.length : Int) 0 a0_0 l0_1 l0_2 l0_3 l0_4 l0_5) else (some false)) else (if a0_0 = 4 then ((slices_ContainsFunc_impl_Selection_fits_1.f k l0_5 l1).bind fun t317 => (some (!t317))) else (some true))) = some r := h
 clear h
 by_cases c3 : a0_0 = 3
 ·
  rw [if_pos c3] at H
  have c3b0 : (a0_0 == 3) = true := beq_iff_eq.mpr c3
  have c3b1 : (a0_0 != 3) = false := bne_eq_false_iff_eq.mpr c3
  clear c3
  by_cases c4 : (l0_1.length : Int) = (l1.length : Int)
  ·
   rw [if_pos c4] at H
   have c4b0 : ((l0_1.length : Int) == (l1.length : Int)) = true := beq_iff_eq.mpr c4
   have c4b1 : ((l0_1.length : Int) != (l1.length : Int)) = false := bne_eq_false_iff_eq.mpr c4
   have c4b2 : (l0_1.length == l1.length) = true := by first | simpa using c4 | (simp at c4 ⊢; omega)
   clear c4
   have H' := yD H
   clear H; go_enter Try.func116, Try.ntmps116
   go_wp2_with (first | ((with_reducible refine gate_dst (N := 2) rfl ?_); refine box_event ?hg (N := 2) ?hd (cs := #[.int .i64 a0_0, .slice A0_1 l0_1.length c0_1, .slice A0_2 l0_2.length c0_2, .slice A0_3 l0_3.length c0_3, .slice A0_4 l0_4.length c0_4, .slice A0_5 l0_5.length c0_5]) (t := 55) ?hr ?_; (case hd => rfl); (case hg => rfl); (case hr => first | (go_simp; done) | (go_simp; rfl)); intro gb313 hg w5 hbox hb; have n0_ := yD (zC (kB HB) hb); have n1_ := yD (hbox); have n2_ := yD ((by rw [hg]; exact (below_size (kB HB)) : w.heap.size ≤ gb313)); have n3_ := yD ((by rw [hg]; exact (below_size (kB HB)) : w.heap.size ≤ gb313)); clear HB; have HB := n0_; have BK313 := n1_; have GW313 := n2_; have GE313 := n3_; clear n0_ n1_ n2_ n3_; clear hb hbox hg) | ((with_reducible refine gate_dst (N := 3) rfl ?_); refine box_event ?hg (N := 3) ?hd (cs := #[.slice A1 l1.length c1]) (t := 36) ?hr ?_; (case hd => rfl); (case hg => rfl); (case hr => first | (go_simp; done) | (go_simp; rfl)); intro gb314 hg w6 hbox hb; have n0_ := yD (zB (kN BK313) hb); have n1_ := yD (zC (kB HB) hb); have n2_ := yD (hbox); have n3_ := yD ((by rw [hg]; exact (below_size (kB HB)) : w.heap.size ≤ gb314)); have n4_ := yD ((by rw [hg]; exact (below_size (kB HB)) : w.heap.size ≤ gb314)); have n5_ := yD ((by rw [hg]; exact Nat.ne_of_lt (blk_lt (kN BK313)) : gb313 ≠ gb314)); have n6_ := yD ((by rw [hg]; exact Nat.ne_of_gt (blk_lt (kN BK313)) : gb314 ≠ gb313)); clear BK313; clear HB; have BK313 := n0_; have HB := n1_; have BK314 := n2_; have GW314 := n3_; have GE314 := n4_; have NB313_314 := n5_; have NB314_313 := n6_; clear n0_ n1_ n2_ n3_ n4_ n5_ n6_; clear hb hbox hg; have hnb7 := NB313_314.out; have hnc7 := NB314_313.out; obtain ⟨hcz8_0, hcz8_1, hcz8_2, hcz8_3, hcz8_4, hcz8_5⟩ := cz6 BK313.out; obtain ⟨hfz8_0, hfz8_1, hfz8_2, hfz8_3, hfz8_4, hfz8_5⟩ := fz6 BK313.out; have hcz9_0 : w6.cell? ⟨gb314, 0, none⟩ = some (.slice A1 l1.length c1) := (yG BK314.out 0).trans rfl; have hfz9_0 := yR BK314.out 0))
   (try simp only [Act.put, zH, zI, zJ])
   go_loopg [19] k (fun kq v19 w' => ∃ (x19_1 : Int), v19 = .int .i64 x19_1 ∧ Aside0 (impl_Selection_fits.l0 kq l1 (l1.length : Int) x19_1 a0_0 l0_1 l0_2 l0_3 l0_4 l0_5 = some r) ∧ Aside0 (kq ≤ k) ∧ Aside0 (w'.heap[gb313]? = some (.cells #[.int .i64 a0_0, (.slice A0_1 l0_1.length c0_1), (.slice A0_2 l0_2.length c0_2), (.slice A0_3 l0_3.length c0_3), (.slice A0_4 l0_4.length c0_4), (.slice A0_5 l0_5.length c0_5)] 55 (0, 0))) ∧ Aside0 (w'.heap[gb314]? = some (.cells #[(.slice A1 l1.length c1)] 36 (0, 0))) ∧ Aside0 (Below w.heap.size w w'))
   case atStart => exact ⟨(0), (by first | rfl | (simp; done) | (simp [*]; done)), H', ⟨Nat.le_refl _⟩, ⟨by (with_reducible repeat (first | refine yM ?_ _ | refine yO ?_ | refine yN ?_ _)); exact BK313.out⟩, ⟨by (with_reducible repeat (first | refine yM ?_ _ | refine yO ?_ | refine yN ?_ _)); exact BK314.out⟩, ⟨kR0 HB⟩⟩
   case round =>
    clear H'
    try clear c1; try clear p2; try clear c3; try clear c3b0; try clear c3b1; try clear c4; try clear c4b0; try clear c4b1; try clear c4b2; try clear c7; try clear hcz8_0; try clear hcz8_1; try clear hcz8_2; try clear hcz8_3; try clear hcz8_4; try clear hcz8_5; try clear hcz9_0; try clear hfz8_0; try clear hfz8_1; try clear hfz8_2; try clear hfz8_3; try clear hfz8_4; try clear hfz8_5; try clear hfz9_0
    obtain ⟨x19_1, rfl, HA, HK1, BK313, BK314, HB⟩ := hrel
    cases gk with
    | zero => exact absurd HA.out (by simp [impl_Selection_fits.l0])
    | succ k1 =>
     have H := HA.out; clear HA
     simp only [impl_Selection_fits.l0] at H
     by_cases c10 : x19_1 < (l1.length : Int)
     ·
      rw [if_pos c10] at H; have c10b0 : decide (x19_1 < (l1.length : Int)) = true := zR c10; clear c10
      by_cases c11 : 0 ≤ x19_1
      ·
       rw [if_pos c11] at H; have c11b0 : decide (0 ≤ x19_1) = true := zR c11; clear c11
       by_cases c12 : x19_1 < (l1.length : Int)
       ·
        rw [if_pos c12] at H; have c12b0 : decide (x19_1 < (l1.length : Int)) = true := zR c12; clear c12
        obtain ⟨t316, A130, H⟩ := zW_ H
        replace H : (if t316 > (rd l1 x19_1) then (some false) else (impl_Selection_fits.l0 k1 l1 (l1.length : Int) (wrap64 (x19_1 + 1)) a0_0 l0_1 l0_2 l0_3 l0_4 l0_5)) = some r := H
        have A13 := yD A130
        clear A130
        by_cases c14 : t316 > (rd l1 x19_1)
        ·
         rw [if_pos c14] at H; have c14b0 : decide ((rd l1 x19_1) < t316) = true := zR c14; clear c14; obtain rfl := Option.some.inj H
         have p315 : 0 ≤ (x19_1 : Int) := zP (by assumption)
         have q315 : x19_1 < (l1.length : Int) := zP (by assumption)
         obtain ⟨ad315, e315, hx315_0⟩ := Kd.at_int HR1.out x19_1 p315 q315
         cases e315
         replace hx315_0 := (HB.out.cell (zQ w _ hx315_0)).trans hx315_0
         replace p315 := eq_true p315; replace q315 := eq_true q315; have hnb15 := NB313_314.out; have hnc15 := NB314_313.out
         obtain ⟨hcz16_0, hcz16_1, hcz16_2, hcz16_3, hcz16_4, hcz16_5⟩ := cz6 BK313.out
         obtain ⟨hfz16_0, hfz16_1, hfz16_2, hfz16_3, hfz16_4, hfz16_5⟩ := fz6 BK313.out
         go_wp2_with (first | ((with_reducible refine gate_callee (f := 140) rfl ?_); refine gL 26 Try.func140 #[.agg #[.int .i64 a0_0, .slice A0_1 l0_1.length c0_1, .slice A0_2 l0_2.length c0_2, .slice A0_3 l0_3.length c0_3, .slice A0_4 l0_4.length c0_4, .slice A0_5 l0_5.length c0_5], .int .i64 x19_1] ?_; (with_reducible refine (impl_Selection_end.calls a0_0 _ _ l0_1 _ _ l0_2 _ _ l0_3 _ _ l0_4 _ _ l0_5 x19_1 t316 _ ?side1 ?side2 ?side3 ?side4 ?side5 ?side6 ?side7 ?side8 ?side9 ?side10 A13.out).mono ?_); (case side1 => exact kV (yY HR0_1.out HB.out)); (case side2 => exact HC0_1.out); (case side3 => exact kV (yY HR0_2.out HB.out)); (case side4 => exact HC0_2.out); (case side5 => exact kV (yY HR0_3.out HB.out)); (case side6 => exact HC0_3.out); (case side7 => exact kV (yY HR0_4.out HB.out)); (case side8 => exact HC0_4.out); (case side9 => exact kV (yY HR0_5.out HB.out)); (case side10 => exact HC0_5.out); rintro e w17 ⟨rfl, hb⟩; refine ⟨_, rfl, ?_⟩; have n0_ := yD (zB (kN BK313) hb); have n1_ := yD (zB (kN BK314) hb); have n2_ := yD (zC (kB HB) hb); clear BK313; clear BK314; clear HB; have BK313 := n0_; have BK314 := n1_; have HB := n2_; clear n0_ n1_ n2_; (try clear hb); (try clear hb2); (try clear hk); (try clear hi)))
         go_ret
         exact ⟨by first | rfl | (simp <;> rfl) | (simp [*] <;> rfl), kR0 HB⟩
        ·
         rw [if_neg c14] at H; have c14b0 : decide ((rd l1 x19_1) < t316) = false := zS c14; clear c14
         have H' := yD H
         clear H
         have p315 : 0 ≤ (x19_1 : Int) := zP (by assumption)
         have q315 : x19_1 < (l1.length : Int) := zP (by assumption)
         obtain ⟨ad315, e315, hx315_0⟩ := Kd.at_int HR1.out x19_1 p315 q315
         cases e315
         replace hx315_0 := (HB.out.cell (zQ w _ hx315_0)).trans hx315_0
         replace p315 := eq_true p315; replace q315 := eq_true q315; have hnb18 := NB313_314.out; have hnc18 := NB314_313.out
         obtain ⟨hcz19_0, hcz19_1, hcz19_2, hcz19_3, hcz19_4, hcz19_5⟩ := cz6 BK313.out
         obtain ⟨hfz19_0, hfz19_1, hfz19_2, hfz19_3, hfz19_4, hfz19_5⟩ := fz6 BK313.out
         go_wp2_with (first | ((with_reducible refine gate_callee (f := 140) rfl ?_); refine gL 26 Try.func140 #[.agg #[.int .i64 a0_0, .slice A0_1 l0_1.length c0_1, .slice A0_2 l0_2.length c0_2, .slice A0_3 l0_3.length c0_3, .slice A0_4 l0_4.length c0_4, .slice A0_5 l0_5.length c0_5], .int .i64 x19_1] ?_; (with_reducible refine (impl_Selection_end.calls a0_0 _ _ l0_1 _ _ l0_2 _ _ l0_3 _ _ l0_4 _ _ l0_5 x19_1 t316 _ ?side1 ?side2 ?side3 ?side4 ?side5 ?side6 ?side7 ?side8 ?side9 ?side10 A13.out).mono ?_); (case side1 => exact kV (yY HR0_1.out HB.out)); (case side2 => exact HC0_1.out); (case side3 => exact kV (yY HR0_2.out HB.out)); (case side4 => exact HC0_2.out); (case side5 => exact kV (yY HR0_3.out HB.out)); (case side6 => exact HC0_3.out); (case side7 => exact kV (yY HR0_4.out HB.out)); (case side8 => exact HC0_4.out); (case side9 => exact kV (yY HR0_5.out HB.out)); (case side10 => exact HC0_5.out); rintro e w20 ⟨rfl, hb⟩; refine ⟨_, rfl, ?_⟩; have n0_ := yD (zB (kN BK313) hb); have n1_ := yD (zB (kN BK314) hb); have n2_ := yD (zC (kB HB) hb); clear BK313; clear BK314; clear HB; have BK313 := n0_; have BK314 := n1_; have HB := n2_; clear n0_ n1_ n2_; (try clear hb); (try clear hb2); (try clear hk); (try clear hi)))
         go_roundg k1
         case measure => have := HK1.out; omega
         case rel => exact ⟨(wrap64 (x19_1 + 1)), (by first | rfl | (simp; done) | (simp [*]; done)), H', ⟨by have := HK1.out; omega⟩, ⟨by (with_reducible repeat (first | refine yM ?_ _ | refine yO ?_ | refine yN ?_ _)); exact BK313.out⟩, ⟨by (with_reducible repeat (first | refine yM ?_ _ | refine yO ?_ | refine yN ?_ _)); exact BK314.out⟩, ⟨kR0 HB⟩⟩
       ·
        rw [if_neg c12] at H
        exact absurd H (by simp)
      ·
       rw [if_neg c11] at H
       exact absurd H (by simp)
     ·
      rw [if_neg c10] at H; have c10b0 : decide (x19_1 < (l1.length : Int)) = false := zS c10; clear c10; obtain rfl := Option.some.inj H
      go_wp2
      go_ret
      exact ⟨by first | rfl | (simp <;> rfl) | (simp [*] <;> rfl), kR0 HB⟩
  ·
   rw [if_neg c4] at H
   have c4b0 : ((l0_1.length : Int) == (l1.length : Int)) = false := beq_eq_false_iff_ne.mpr c4
   have c4b1 : ((l0_1.length : Int) != (l1.length : Int)) = true := bne_iff_ne.mpr c4
   have c4b2 : (l0_1.length == l1.length) = false := by first | simpa using c4 | (simp at c4 ⊢; omega)
   obtain rfl := Option.some.inj H; go_enter Try.func116, Try.ntmps116
   go_wp2_with (first | ((with_reducible refine gate_dst (N := 2) rfl ?_); refine box_event ?hg (N := 2) ?hd (cs := #[.int .i64 a0_0, .slice A0_1 l0_1.length c0_1, .slice A0_2 l0_2.length c0_2, .slice A0_3 l0_3.length c0_3, .slice A0_4 l0_4.length c0_4, .slice A0_5 l0_5.length c0_5]) (t := 55) ?hr ?_; (case hd => rfl); (case hg => rfl); (case hr => first | (go_simp; done) | (go_simp; rfl)); intro gb313 hg w21 hbox hb; have n0_ := yD (zC (kB HB) hb); have n1_ := yD (hbox); have n2_ := yD ((by rw [hg]; exact (below_size (kB HB)) : w.heap.size ≤ gb313)); have n3_ := yD ((by rw [hg]; exact (below_size (kB HB)) : w.heap.size ≤ gb313)); clear HB; have HB := n0_; have BK313 := n1_; have GW313 := n2_; have GE313 := n3_; clear n0_ n1_ n2_ n3_; clear hb hbox hg) | ((with_reducible refine gate_dst (N := 3) rfl ?_); refine box_event ?hg (N := 3) ?hd (cs := #[.slice A1 l1.length c1]) (t := 36) ?hr ?_; (case hd => rfl); (case hg => rfl); (case hr => first | (go_simp; done) | (go_simp; rfl)); intro gb314 hg w22 hbox hb; have n0_ := yD (zB (kN BK313) hb); have n1_ := yD (zC (kB HB) hb); have n2_ := yD (hbox); have n3_ := yD ((by rw [hg]; exact (below_size (kB HB)) : w.heap.size ≤ gb314)); have n4_ := yD ((by rw [hg]; exact (below_size (kB HB)) : w.heap.size ≤ gb314)); have n5_ := yD ((by rw [hg]; exact Nat.ne_of_lt (blk_lt (kN BK313)) : gb313 ≠ gb314)); have n6_ := yD ((by rw [hg]; exact Nat.ne_of_gt (blk_lt (kN BK313)) : gb314 ≠ gb313)); clear BK313; clear HB; have BK313 := n0_; have HB := n1_; have BK314 := n2_; have GW314 := n3_; have GE314 := n4_; have NB313_314 := n5_; have NB314_313 := n6_; clear n0_ n1_ n2_ n3_ n4_ n5_ n6_; clear hb hbox hg; have hnb23 := NB313_314.out; have hnc23 := NB314_313.out; obtain ⟨hcz24_0, hcz24_1, hcz24_2, hcz24_3, hcz24_4, hcz24_5⟩ := cz6 BK313.out; obtain ⟨hfz24_0, hfz24_1, hfz24_2, hfz24_3, hfz24_4, hfz24_5⟩ := fz6 BK313.out; have hcz25_0 : w22.cell? ⟨gb314, 0, none⟩ = some (.slice A1 l1.length c1) := (yG BK314.out 0).trans rfl; have hfz25_0 := yR BK314.out 0))
   go_ret
   exact ⟨by first | rfl | (simp <;> rfl) | (simp [*] <;> rfl), kR0 HB⟩
 ·
  rw [if_neg c3] at H
  have c3b0 : (a0_0 == 3) = false := beq_eq_false_iff_ne.mpr c3
  have c3b1 : (a0_0 != 3) = true := bne_iff_ne.mpr c3
  by_cases c26 : a0_0 = 4
  ·
   rw [if_pos c26] at H
   have c26b0 : (a0_0 == 4) = true := beq_iff_eq.mpr c26
   have c26b1 : (a0_0 != 4) = false := bne_eq_false_iff_eq.mpr c26
   clear c26
   obtain ⟨t317, A270, H⟩ := zW_ H
   replace H : (some (!t317)) = some r := H
   have A27 := yD A270
   clear A270; obtain rfl := Option.some.inj H; go_enter Try.func116, Try.ntmps116
   go_wp2_with (first | ((with_reducible refine gate_dst (N := 2) rfl ?_); refine box_event ?hg (N := 2) ?hd (cs := #[.int .i64 a0_0, .slice A0_1 l0_1.length c0_1, .slice A0_2 l0_2.length c0_2, .slice A0_3 l0_3.length c0_3, .slice A0_4 l0_4.length c0_4, .slice A0_5 l0_5.length c0_5]) (t := 55) ?hr ?_; (case hd => rfl); (case hg => rfl); (case hr => first | (go_simp; done) | (go_simp; rfl)); intro gb313 hg w28 hbox hb; have n0_ := yD (zC (kB HB) hb); have n1_ := yD (hbox); have n2_ := yD ((by rw [hg]; exact (below_size (kB HB)) : w.heap.size ≤ gb313)); have n3_ := yD ((by rw [hg]; exact (below_size (kB HB)) : w.heap.size ≤ gb313)); clear HB; have HB := n0_; have BK313 := n1_; have GW313 := n2_; have GE313 := n3_; clear n0_ n1_ n2_ n3_; clear hb hbox hg) | ((with_reducible refine gate_dst (N := 3) rfl ?_); refine box_event ?hg (N := 3) ?hd (cs := #[.slice A1 l1.length c1]) (t := 36) ?hr ?_; (case hd => rfl); (case hg => rfl); (case hr => first | (go_simp; done) | (go_simp; rfl)); intro gb314 hg w29 hbox hb; have n0_ := yD (zB (kN BK313) hb); have n1_ := yD (zC (kB HB) hb); have n2_ := yD (hbox); have n3_ := yD ((by rw [hg]; exact (below_size (kB HB)) : w.heap.size ≤ gb314)); have n4_ := yD ((by rw [hg]; exact (below_size (kB HB)) : w.heap.size ≤ gb314)); have n5_ := yD ((by rw [hg]; exact Nat.ne_of_lt (blk_lt (kN BK313)) : gb313 ≠ gb314)); have n6_ := yD ((by rw [hg]; exact Nat.ne_of_gt (blk_lt (kN BK313)) : gb314 ≠ gb313)); clear BK313; clear HB; have BK313 := n0_; have HB := n1_; have BK314 := n2_; have GW314 := n3_; have GE314 := n4_; have NB313_314 := n5_; have NB314_313 := n6_; clear n0_ n1_ n2_ n3_ n4_ n5_ n6_; clear hb hbox hg; have hnb30 := NB313_314.out; have hnc30 := NB314_313.out; obtain ⟨hcz31_0, hcz31_1, hcz31_2, hcz31_3, hcz31_4, hcz31_5⟩ := cz6 BK313.out; obtain ⟨hfz31_0, hfz31_1, hfz31_2, hfz31_3, hfz31_4, hfz31_5⟩ := fz6 BK313.out) | ((with_reducible refine gate_callee (f := 141) rfl ?_); refine gL 35 Try.func141 #[.slice A0_5 l0_5.length c0_5, .func (.func 142) #[] #[.pointer (some ⟨gb314, 0, none⟩)]] ?_; (with_reducible refine (slices_ContainsFunc_impl_Selection_fits_1.calls k _ _ l0_5 gb314 A1 c1 l1 t317 _ ?side1 ?side2 ?side3 ?side4 ?side5 A27.out).mono ?_); (case side1 => exact kV (yY HR0_5.out HB.out)); (case side2 => exact HC0_5.out); (case side3 => exact kV (yY HR1.out HB.out)); (case side4 => exact HC1.out); (case side5 => (with_reducible repeat (first | refine yM ?_ _ | refine yO ?_ | refine yN ?_ _)); exact BK314.out); rintro e w32 ⟨rfl, hb⟩; refine ⟨_, rfl, ?_⟩; have n0_ := yD (zB (kN BK313) hb); have n1_ := yD (zB (kN BK314) hb); have n2_ := yD (zC (kB HB) hb); clear BK313; clear BK314; clear HB; have BK313 := n0_; have BK314 := n1_; have HB := n2_; clear n0_ n1_ n2_; (try clear hb); (try clear hb2); (try clear hk); (try clear hi)))
   go_ret
   exact ⟨by first | rfl | (simp <;> rfl) | (simp [*] <;> rfl), kR0 HB⟩
  ·
   rw [if_neg c26] at H
   have c26b0 : (a0_0 == 4) = false := beq_eq_false_iff_ne.mpr c26
   have c26b1 : (a0_0 != 4) = true := bne_iff_ne.mpr c26
   obtain rfl := Option.some.inj H; go_enter Try.func116, Try.ntmps116
   go_wp2_with (first | ((with_reducible refine gate_dst (N := 2) rfl ?_); refine box_event ?hg (N := 2) ?hd (cs := #[.int .i64 a0_0, .slice A0_1 l0_1.length c0_1, .slice A0_2 l0_2.length c0_2, .slice A0_3 l0_3.length c0_3, .slice A0_4 l0_4.length c0_4, .slice A0_5 l0_5.length c0_5]) (t := 55) ?hr ?_; (case hd => rfl); (case hg => rfl); (case hr => first | (go_simp; done) | (go_simp; rfl)); intro gb313 hg w33 hbox hb; have n0_ := yD (zC (kB HB) hb); have n1_ := yD (hbox); have n2_ := yD ((by rw [hg]; exact (below_size (kB HB)) : w.heap.size ≤ gb313)); have n3_ := yD ((by rw [hg]; exact (below_size (kB HB)) : w.heap.size ≤ gb313)); clear HB; have HB := n0_; have BK313 := n1_; have GW313 := n2_; have GE313 := n3_; clear n0_ n1_ n2_ n3_; clear hb hbox hg) | ((with_reducible refine gate_dst (N := 3) rfl ?_); refine box_event ?hg (N := 3) ?hd (cs := #[.slice A1 l1.length c1]) (t := 36) ?hr ?_; (case hd => rfl); (case hg => rfl); (case hr => first | (go_simp; done) | (go_simp; rfl)); intro gb314 hg w34 hbox hb; have n0_ := yD (zB (kN BK313) hb); have n1_ := yD (zC (kB HB) hb); have n2_ := yD (hbox); have n3_ := yD ((by rw [hg]; exact (below_size (kB HB)) : w.heap.size ≤ gb314)); have n4_ := yD ((by rw [hg]; exact (below_size (kB HB)) : w.heap.size ≤ gb314)); have n5_ := yD ((by rw [hg]; exact Nat.ne_of_lt (blk_lt (kN BK313)) : gb313 ≠ gb314)); have n6_ := yD ((by rw [hg]; exact Nat.ne_of_gt (blk_lt (kN BK313)) : gb314 ≠ gb313)); clear BK313; clear HB; have BK313 := n0_; have HB := n1_; have BK314 := n2_; have GW314 := n3_; have GE314 := n4_; have NB313_314 := n5_; have NB314_313 := n6_; clear n0_ n1_ n2_ n3_ n4_ n5_ n6_; clear hb hbox hg; have hnb35 := NB313_314.out; have hnc35 := NB314_313.out; obtain ⟨hcz36_0, hcz36_1, hcz36_2, hcz36_3, hcz36_4, hcz36_5⟩ := cz6 BK313.out; obtain ⟨hfz36_0, hfz36_1, hfz36_2, hfz36_3, hfz36_4, hfz36_5⟩ := fz6 BK313.out))
   go_ret
   exact ⟨by first | rfl | (simp <;> rfl) | (simp [*] <;> rfl), kR0 HB⟩

/-! ### impl_ValidSelection: function 80 -/
def impl_ValidSelection.f (k : Nat) (l0 : List Int) (a1_0 : Int) (l1_1 : List Int) (l1_2 : List Int) (l1_3 : List Int) (l1_4 : List Int) (l1_5 : List (S110)) : Option (Bool) := (impl_ValidDims.f k l0).bind fun t319 => (if t319 = true then ((impl_FormedSelection.f k a1_0 l1_1 l1_2 l1_3 l1_4 l1_5).bind fun t320 => (if t320 = true then ((impl_Selection_fits.f k a1_0 l1_1 l1_2 l1_3 l1_4 l1_5 l0).bind fun t321 => (some t321)) else (some false))) else (some false))
theorem impl_ValidSelection.mono : ∀ a0 a1 a2 a3 a4 a5 a6 k, LeO (impl_ValidSelection.f k a0 a1 a2 a3 a4 a5 a6) (impl_ValidSelection.f (k + 1) a0 a1 a2 a3 a4 a5 a6) := by
 intro a0 a1 a2 a3 a4 a5 a6 k
 unfold impl_ValidSelection.f
 repeat' (with_reducible first | exact impl_FormedSelection.mono _ _ _ _ _ _ _ | exact impl_Selection_fits.mono _ _ _ _ _ _ _ _ | exact impl_ValidDims.mono _ _ | exact LeO.refl _ | exact LeO.none _ | refine LeO.ite ?_ ?_ | refine LeO.bind ?_ (fun _ => ?_))
set_option maxHeartbeats 8000000 in
set_option maxRecDepth 100000 in
theorem impl_ValidSelection.calls (k : Nat) (A0 : Option Addr) (c0 : Nat) (l0 : List Int) (a1_0 : Int) (A1_1 : Option Addr) (c1_1 : Nat) (l1_1 : List Int) (A1_2 : Option Addr) (c1_2 : Nat) (l1_2 : List Int) (A1_3 : Option Addr) (c1_3 : Nat) (l1_3 : List Int) (A1_4 : Option Addr) (c1_4 : Nat) (l1_4 : List Int) (A1_5 : Option Addr) (c1_5 : Nat) (l1_5 : List (S110)) (r : Bool) (w : World) (hr0 : Kd.C (Kd.int .i64) w A0 l0.length l0) (hc0 : l0.length ≤ c0) (hr1_1 : Kd.C (Kd.int .i64) w A1_1 l1_1.length l1_1) (hc1_1 : l1_1.length ≤ c1_1) (hr1_2 : Kd.C (Kd.int .i64) w A1_2 l1_2.length l1_2) (hc1_2 : l1_2.length ≤ c1_2) (hr1_3 : Kd.C (Kd.int .i64) w A1_3 l1_3.length l1_3) (hc1_3 : l1_3.length ≤ c1_3) (hr1_4 : Kd.C (Kd.int .i64) w A1_4 l1_4.length l1_4) (hc1_4 : l1_4.length ≤ c1_4) (hr1_5 : Kd.C k110 w A1_5 l1_5.length l1_5) (hc1_5 : l1_5.length ≤ c1_5) (h : impl_ValidSelection.f k l0 a1_0 l1_1 l1_2 l1_3 l1_4 l1_5 = some r) :
 Calls Try.prog 80 #[.slice A0 l0.length c0, .agg #[.int .i64 a1_0, .slice A1_1 l1_1.length c1_1, .slice A1_2 l1_2.length c1_2, .slice A1_3 l1_3.length c1_3, .slice A1_4 l1_4.length c1_4, .slice A1_5 l1_5.length c1_5]] w fun e w' => e = .returned (.bool r) ∧ Below w.heap.size w w' := by
 have hu55 := Try.underlying55
 have HR0 := yD hr0
 have HC0 := yD hc0
 clear hr0 hc0
 have HR1_1 := yD hr1_1
 have HC1_1 := yD hc1_1
 clear hr1_1 hc1_1
 have HR1_2 := yD hr1_2
 have HC1_2 := yD hc1_2
 clear hr1_2 hc1_2
 have HR1_3 := yD hr1_3
 have HC1_3 := yD hc1_3
 clear hr1_3 hc1_3
 have HR1_4 := yD hr1_4
 have HC1_4 := yD hc1_4
 clear hr1_4 hc1_4
 have HR1_5 := yD hr1_5
 have HC1_5 := yD hc1_5
 clear hr1_5 hc1_5
 have HB := yD (Below.refl w.heap.size w)
 have H : ((impl_ValidDims.f k l0).bind fun t319 => (if t319 = true then ((impl_FormedSelection.f k a1_0 l1_1 l1_2 l1_3 l1_4 l1_5).bind fun t320 => (if t320 = true then ((impl_Selection_fits.f k a1_0 l1_1 l1_2 l1_3 l1_4 l1_5 l0).bind fun t321 => (some t321)) else (some false))) else (some false))) = some r := h
 clear h
 obtain ⟨t319, A30, H⟩ := zW_ H
 replace H : (if t319 = true then ((impl_FormedSelection.f k a1_0 l1_1 l1_2 l1_3 l1_4 l1_5).bind fun t320 => (if t320 = true then ((impl_Selection_fits.f k a1_0 l1_1 l1_2 l1_3 l1_4 l1_5 l0).bind fun t321 => (some t321)) else (some false))) else (some false)) = some r := H
 have A3 := yD A30
 clear A30
 by_cases c4 : t319 = true
 ·
  subst c4
  have H1 : ((impl_FormedSelection.f k a1_0 l1_1 l1_2 l1_3 l1_4 l1_5).bind fun t320 => (if t320 = true then ((impl_Selection_fits.f k a1_0 l1_1 l1_2 l1_3 l1_4 l1_5 l0).bind fun t321 => (some t321)) else (some false))) = some r := by rw [if_pos rfl] at H; exact H
  clear H; have H := H1; clear H1
  obtain ⟨t320, A50, H⟩ := zW_ H
  replace H : (if t320 = true then ((impl_Selection_fits.f k a1_0 l1_1 l1_2 l1_3 l1_4 l1_5 l0).bind fun t321 => (some t321)) else (some false)) = some r := H
  have A5 := yD A50
  clear A50
  by_cases c6 : t320 = true
  ·
   subst c6
   have H1 : ((impl_Selection_fits.f k a1_0 l1_1 l1_2 l1_3 l1_4 l1_5 l0).bind fun t321 => (some t321)) = some r := by rw [if_pos rfl] at H; exact H
   clear H; have H := H1; clear H1
   obtain ⟨t321, A70, H⟩ := zW_ H
   replace H : (some t321) = some r := H
   have A7 := yD A70
   clear A70; obtain rfl := Option.some.inj H; go_enter Try.func80, Try.ntmps80
   go_wp2_with (first | ((with_reducible refine gate_dst (N := 3) rfl ?_); refine box_event ?hg (N := 3) ?hd (cs := #[.int .i64 a1_0, .slice A1_1 l1_1.length c1_1, .slice A1_2 l1_2.length c1_2, .slice A1_3 l1_3.length c1_3, .slice A1_4 l1_4.length c1_4, .slice A1_5 l1_5.length c1_5]) (t := 55) ?hr ?_; (case hd => rfl); (case hg => rfl); (case hr => first | (go_simp; done) | (go_simp; rfl)); intro gb318 hg w8 hbox hb; have n0_ := yD (zC (kB HB) hb); have n1_ := yD (hbox); have n2_ := yD ((by rw [hg]; exact (below_size (kB HB)) : w.heap.size ≤ gb318)); have n3_ := yD ((by rw [hg]; exact (below_size (kB HB)) : w.heap.size ≤ gb318)); clear HB; have HB := n0_; have BK318 := n1_; have GW318 := n2_; have GE318 := n3_; clear n0_ n1_ n2_ n3_; clear hb hbox hg) | ((with_reducible refine gate_callee (f := 114) rfl ?_); refine gL 6 Try.func114 #[.slice A0 l0.length c0] ?_; (with_reducible refine (impl_ValidDims.calls k _ _ l0 true _ ?side1 ?side2 A3.out).mono ?_); (case side1 => exact kV (yY HR0.out HB.out)); (case side2 => exact HC0.out); rintro e w9 ⟨rfl, hb⟩; refine ⟨_, rfl, ?_⟩; have n0_ := yD (zB (kN BK318) hb); have n1_ := yD (zC (kB HB) hb); clear BK318; clear HB; have BK318 := n0_; have HB := n1_; clear n0_ n1_; (try clear hb); (try clear hb2); (try clear hk); (try clear hi); obtain ⟨hcz10_0, hcz10_1, hcz10_2, hcz10_3, hcz10_4, hcz10_5⟩ := cz6 BK318.out; obtain ⟨hfz10_0, hfz10_1, hfz10_2, hfz10_3, hfz10_4, hfz10_5⟩ := fz6 BK318.out) | (go_at_call 115; (with_reducible refine (impl_FormedSelection.calls k a1_0 _ _ l1_1 _ _ l1_2 _ _ l1_3 _ _ l1_4 _ _ l1_5 true _ ?side1 ?side2 ?side3 ?side4 ?side5 ?side6 ?side7 ?side8 ?side9 ?side10 A5.out).mono ?_); (case side1 => exact kV (yY HR1_1.out HB.out)); (case side2 => exact HC1_1.out); (case side3 => exact kV (yY HR1_2.out HB.out)); (case side4 => exact HC1_2.out); (case side5 => exact kV (yY HR1_3.out HB.out)); (case side6 => exact HC1_3.out); (case side7 => exact kV (yY HR1_4.out HB.out)); (case side8 => exact HC1_4.out); (case side9 => exact kV (yY HR1_5.out HB.out)); (case side10 => exact HC1_5.out); rintro e w11 ⟨rfl, hb⟩; have n0_ := yD (zB (kN BK318) hb); have n1_ := yD (zC (kB HB) hb); clear BK318; clear HB; have BK318 := n0_; have HB := n1_; clear n0_ n1_; (try clear hb); (try clear hb2); (try clear hk); (try clear hi); obtain ⟨hcz12_0, hcz12_1, hcz12_2, hcz12_3, hcz12_4, hcz12_5⟩ := cz6 BK318.out; obtain ⟨hfz12_0, hfz12_1, hfz12_2, hfz12_3, hfz12_4, hfz12_5⟩ := fz6 BK318.out) | (go_at_call 116; (with_reducible refine (impl_Selection_fits.calls k a1_0 _ _ l1_1 _ _ l1_2 _ _ l1_3 _ _ l1_4 _ _ l1_5 _ _ l0 t321 _ ?side1 ?side2 ?side3 ?side4 ?side5 ?side6 ?side7 ?side8 ?side9 ?side10 ?side11 ?side12 A7.out).mono ?_); (case side1 => exact kV (yY HR1_1.out HB.out)); (case side2 => exact HC1_1.out); (case side3 => exact kV (yY HR1_2.out HB.out)); (case side4 => exact HC1_2.out); (case side5 => exact kV (yY HR1_3.out HB.out)); (case side6 => exact HC1_3.out); (case side7 => exact kV (yY HR1_4.out HB.out)); (case side8 => exact HC1_4.out); (case side9 => exact kV (yY HR1_5.out HB.out)); (case side10 => exact HC1_5.out); (case side11 => exact kV (yY HR0.out HB.out)); (case side12 => exact HC0.out); rintro e w13 ⟨rfl, hb⟩; have n0_ := yD (zB (kN BK318) hb); have n1_ := yD (zC (kB HB) hb); clear BK318; clear HB; have BK318 := n0_; have HB := n1_; clear n0_ n1_; (try clear hb); (try clear hb2); (try clear hk); (try clear hi)))
   go_ret
   exact ⟨by first | rfl | (simp <;> rfl) | (simp [*] <;> rfl), kR0 HB⟩
  ·
   replace c6 := Bool.eq_false_iff.mpr c6
   subst c6
   have H1 : (some false) = some r := by rw [if_neg (show ¬ (false = true) by decide)] at H; exact H
   clear H; have H := H1; clear H1; obtain rfl := Option.some.inj H; go_enter Try.func80, Try.ntmps80
   go_wp2_with (first | ((with_reducible refine gate_dst (N := 3) rfl ?_); refine box_event ?hg (N := 3) ?hd (cs := #[.int .i64 a1_0, .slice A1_1 l1_1.length c1_1, .slice A1_2 l1_2.length c1_2, .slice A1_3 l1_3.length c1_3, .slice A1_4 l1_4.length c1_4, .slice A1_5 l1_5.length c1_5]) (t := 55) ?hr ?_; (case hd => rfl); (case hg => rfl); (case hr => first | (go_simp; done) | (go_simp; rfl)); intro gb318 hg w14 hbox hb; have n0_ := yD (zC (kB HB) hb); have n1_ := yD (hbox); have n2_ := yD ((by rw [hg]; exact (below_size (kB HB)) : w.heap.size ≤ gb318)); have n3_ := yD ((by rw [hg]; exact (below_size (kB HB)) : w.heap.size ≤ gb318)); clear HB; have HB := n0_; have BK318 := n1_; have GW318 := n2_; have GE318 := n3_; clear n0_ n1_ n2_ n3_; clear hb hbox hg) | ((with_reducible refine gate_callee (f := 114) rfl ?_); refine gL 6 Try.func114 #[.slice A0 l0.length c0] ?_; (with_reducible refine (impl_ValidDims.calls k _ _ l0 true _ ?side1 ?side2 A3.out).mono ?_); (case side1 => exact kV (yY HR0.out HB.out)); (case side2 => exact HC0.out); rintro e w15 ⟨rfl, hb⟩; refine ⟨_, rfl, ?_⟩; have n0_ := yD (zB (kN BK318) hb); have n1_ := yD (zC (kB HB) hb); clear BK318; clear HB; have BK318 := n0_; have HB := n1_; clear n0_ n1_; (try clear hb); (try clear hb2); (try clear hk); (try clear hi); obtain ⟨hcz16_0, hcz16_1, hcz16_2, hcz16_3, hcz16_4, hcz16_5⟩ := cz6 BK318.out; obtain ⟨hfz16_0, hfz16_1, hfz16_2, hfz16_3, hfz16_4, hfz16_5⟩ := fz6 BK318.out) | (go_at_call 115; (with_reducible refine (impl_FormedSelection.calls k a1_0 _ _ l1_1 _ _ l1_2 _ _ l1_3 _ _ l1_4 _ _ l1_5 false _ ?side1 ?side2 ?side3 ?side4 ?side5 ?side6 ?side7 ?side8 ?side9 ?side10 A5.out).mono ?_); (case side1 => exact kV (yY HR1_1.out HB.out)); (case side2 => exact HC1_1.out); (case side3 => exact kV (yY HR1_2.out HB.out)); (case side4 => exact HC1_2.out); (case side5 => exact kV (yY HR1_3.out HB.out)); (case side6 => exact HC1_3.out); (case side7 => exact kV (yY HR1_4.out HB.out)); (case side8 => exact HC1_4.out); (case side9 => exact kV (yY HR1_5.out HB.out)); (case side10 => exact HC1_5.out); rintro e w17 ⟨rfl, hb⟩; have n0_ := yD (zB (kN BK318) hb); have n1_ := yD (zC (kB HB) hb); clear BK318; clear HB; have BK318 := n0_; have HB := n1_; clear n0_ n1_; (try clear hb); (try clear hb2); (try clear hk); (try clear hi)))
   go_ret
   exact ⟨by first | rfl | (simp <;> rfl) | (simp [*] <;> rfl), kR0 HB⟩
 ·
  replace c4 := Bool.eq_false_iff.mpr c4
  subst c4
  have H1 : (some false) = some r := by rw [if_neg (show ¬ (false = true) by decide)] at H; exact H
  clear H; have H := H1; clear H1; obtain rfl := Option.some.inj H; go_enter Try.func80, Try.ntmps80
  go_wp2_with (first | ((with_reducible refine gate_dst (N := 3) rfl ?_); refine box_event ?hg (N := 3) ?hd (cs := #[.int .i64 a1_0, .slice A1_1 l1_1.length c1_1, .slice A1_2 l1_2.length c1_2, .slice A1_3 l1_3.length c1_3, .slice A1_4 l1_4.length c1_4, .slice A1_5 l1_5.length c1_5]) (t := 55) ?hr ?_; (case hd => rfl); (case hg => rfl); (case hr => first | (go_simp; done) | (go_simp; rfl)); intro gb318 hg w18 hbox hb; have n0_ := yD (zC (kB HB) hb); have n1_ := yD (hbox); have n2_ := yD ((by rw [hg]; exact (below_size (kB HB)) : w.heap.size ≤ gb318)); have n3_ := yD ((by rw [hg]; exact (below_size (kB HB)) : w.heap.size ≤ gb318)); clear HB; have HB := n0_; have BK318 := n1_; have GW318 := n2_; have GE318 := n3_; clear n0_ n1_ n2_ n3_; clear hb hbox hg) | ((with_reducible refine gate_callee (f := 114) rfl ?_); refine gL 6 Try.func114 #[.slice A0 l0.length c0] ?_; (with_reducible refine (impl_ValidDims.calls k _ _ l0 false _ ?side1 ?side2 A3.out).mono ?_); (case side1 => exact kV (yY HR0.out HB.out)); (case side2 => exact HC0.out); rintro e w19 ⟨rfl, hb⟩; refine ⟨_, rfl, ?_⟩; have n0_ := yD (zB (kN BK318) hb); have n1_ := yD (zC (kB HB) hb); clear BK318; clear HB; have BK318 := n0_; have HB := n1_; clear n0_ n1_; (try clear hb); (try clear hb2); (try clear hk); (try clear hi)))
  go_ret
  exact ⟨by first | rfl | (simp <;> rfl) | (simp [*] <;> rfl), kR0 HB⟩

/-! ### impl_Selection_coordinates: function 144 -/
mutual
def impl_Selection_coordinates.l0 : Nat → Int → List Int → Int → Int → Int → List Int → List Int → List Int → List Int → List (S110) → Option (List Int)
 | 0, _, _, _, _, _, _, _, _, _, _ => none
 | k + 1, x1, x5, x12, x13, x323000, x323001, x323002, x323003, x323004, x323005 => if x13 < x12 then (if 0 ≤ x1 then (if x1 < (x323004.length : Int) then (impl_Selection_coordinates.l1 k x1 x5 x13 x12 x13 (rd x323004 x1) 0 x323000 x323001 x323002 x323003 x323004 x323005) else (none)) else (none)) else (some x5)
def impl_Selection_coordinates.l1 : Nat → Int → List Int → Int → Int → Int → Int → Int → Int → List Int → List Int → List Int → List Int → List (S110) → Option (List Int)
 | 0, _, _, _, _, _, _, _, _, _, _, _, _, _ => none
 | k + 1, x1, x5, x6, x12, x13, x20, x21, x323000, x323001, x323002, x323003, x323004, x323005 => if x21 < x20 then (if 0 ≤ x1 then (if x1 < (x323001.length : Int) then (if x1 < (x323002.length : Int) then (if x5.length < 17592186044416 then (impl_Selection_coordinates.l1 k x1 (x5 ++ [wrap64 ((wrap64 ((rd x323001 x1) + (wrap64 (x6 * (rd x323002 x1))))) + x21)]) x6 x12 x13 x20 (wrap64 (x21 + 1)) x323000 x323001 x323002 x323003 x323004 x323005) else (none)) else (none)) else (none)) else (none)) else (impl_Selection_coordinates.l0 k x1 x5 x12 (wrap64 (x13 + 1)) x323000 x323001 x323002 x323003 x323004 x323005)
end
def impl_Selection_coordinates.f (k : Nat) (a0_0 : Int) (l0_1 : List Int) (l0_2 : List Int) (l0_3 : List Int) (l0_4 : List Int) (l0_5 : List (S110)) (a1 : Int) : Option (List Int) := if 0 ≤ a1 then (if a1 < (l0_3.length : Int) then (impl_Selection_coordinates.l0 k a1 ([] : List Int) (rd l0_3 a1) 0 a0_0 l0_1 l0_2 l0_3 l0_4 l0_5) else (none)) else (none)
theorem impl_Selection_coordinates.mono_l : ∀ k, (∀ y0 y1 y2 y3 y4 y5 y6 y7 y8 y9, LeO (impl_Selection_coordinates.l0 k y0 y1 y2 y3 y4 y5 y6 y7 y8 y9) (impl_Selection_coordinates.l0 (k + 1) y0 y1 y2 y3 y4 y5 y6 y7 y8 y9)) ∧ (∀ y0 y1 y2 y3 y4 y5 y6 y7 y8 y9 y10 y11 y12, LeO (impl_Selection_coordinates.l1 k y0 y1 y2 y3 y4 y5 y6 y7 y8 y9 y10 y11 y12) (impl_Selection_coordinates.l1 (k + 1) y0 y1 y2 y3 y4 y5 y6 y7 y8 y9 y10 y11 y12))
 | 0 => ⟨fun _ _ _ _ _ _ _ _ _ _ r h => by simp [impl_Selection_coordinates.l0] at h, fun _ _ _ _ _ _ _ _ _ _ _ _ _ r h => by simp [impl_Selection_coordinates.l1] at h⟩
 | k + 1 => by
  obtain ⟨ih0, ih1⟩ := impl_Selection_coordinates.mono_l k
  refine ⟨?_, ?_⟩
  ·
   intro y0 y1 y2 y3 y4 y5 y6 y7 y8 y9
   unfold impl_Selection_coordinates.l0
   repeat' (with_reducible first | exact ih0 _ _ _ _ _ _ _ _ _ _ | exact ih1 _ _ _ _ _ _ _ _ _ _ _ _ _ | exact LeO.refl _ | exact LeO.none _ | refine LeO.ite ?_ ?_ | refine LeO.bind ?_ (fun _ => ?_))
  ·
   intro y0 y1 y2 y3 y4 y5 y6 y7 y8 y9 y10 y11 y12
   unfold impl_Selection_coordinates.l1
   repeat' (with_reducible first | exact ih0 _ _ _ _ _ _ _ _ _ _ | exact ih1 _ _ _ _ _ _ _ _ _ _ _ _ _ | exact LeO.refl _ | exact LeO.none _ | refine LeO.ite ?_ ?_ | refine LeO.bind ?_ (fun _ => ?_))
theorem impl_Selection_coordinates.mono : ∀ a0 a1 a2 a3 a4 a5 a6 k, LeO (impl_Selection_coordinates.f k a0 a1 a2 a3 a4 a5 a6) (impl_Selection_coordinates.f (k + 1) a0 a1 a2 a3 a4 a5 a6) := by
 intro a0 a1 a2 a3 a4 a5 a6 k
 obtain ⟨ih0, ih1⟩ := impl_Selection_coordinates.mono_l k
 unfold impl_Selection_coordinates.f
 repeat' (with_reducible first | exact ih0 _ _ _ _ _ _ _ _ _ _ | exact ih1 _ _ _ _ _ _ _ _ _ _ _ _ _ | exact LeO.refl _ | exact LeO.none _ | refine LeO.ite ?_ ?_ | refine LeO.bind ?_ (fun _ => ?_))
def impl_Selection_coordinates.T8 : Bool × List (List Nat × List Nat) := (true, [([], []), ([], []), ([1], [1]), ([], []), ([2, 3], [2, 3]), ([4], [4]), ([], []), ([], []), ([7], [7]), ([], []), ([8, 9], [8, 9]), ([10], [10]), ([6, 11], [6, 11]), ([5, 12], [5, 12]), ([], []), ([13, 14], [13, 14]), ([15], [15]), ([0, 16], [0, 16]), ([17, 17, 0, 1, 2, 3, 4, 5, 6, 7, 8, 9, 10, 11, 12, 13, 14, 15, 16, 17], [0, 17])])
def impl_Selection_coordinates.B8 : List Nat := [0, 0, 2, 0, 14, 30, 0, 0, 128, 0, 896, 1920, 4032, 8190, 0, 32766, 65534, 131071, 262143]
theorem impl_Selection_coordinates.tab8 : rtab .any (opsOf Try.f144 8) = impl_Selection_coordinates.T8 := by kernel_rfl
theorem impl_Selection_coordinates.bits8 : waitsOk impl_Selection_coordinates.T8.2 impl_Selection_coordinates.B8 = true := by kernel_rfl
abbrev impl_Selection_coordinates.Q_0 : Array Bool := (bz 19 0)
abbrev impl_Selection_coordinates.Q_1 : Array Bool := (bz 19 1)
abbrev impl_Selection_coordinates.Q_2 : Array Bool := (bz 19 3)
abbrev impl_Selection_coordinates.Q_3 : Array Bool := (bz 19 11)
abbrev impl_Selection_coordinates.Q_4 : Array Bool := (bz 19 75)
abbrev impl_Selection_coordinates.Q_5 : Array Bool := (bz 19 203)
abbrev impl_Selection_coordinates.Q_6 : Array Bool := (bz 19 715)
abbrev impl_Selection_coordinates.Q_7 : Array Bool := (bz 19 17099)
abbrev impl_Selection_coordinates.Q_8 : Array Bool := (bz 19 17103)
abbrev impl_Selection_coordinates.Q_9 : Array Bool := (bz 19 17119)
abbrev impl_Selection_coordinates.Q_10 : Array Bool := (bz 19 17151)
abbrev impl_Selection_coordinates.Q_11 : Array Bool := (bz 19 17407)
abbrev impl_Selection_coordinates.Q_12 : Array Bool := (bz 19 18431)
abbrev impl_Selection_coordinates.Q_13 : Array Bool := (bz 19 20479)
abbrev impl_Selection_coordinates.Q_14 : Array Bool := (bz 19 24575)
abbrev impl_Selection_coordinates.Q_15 : Array Bool := (bz 19 32767)
abbrev impl_Selection_coordinates.Q_16 : Array Bool := (bz 19 65535)
abbrev impl_Selection_coordinates.Q_17 : Array Bool := (bz 19 131071)
abbrev impl_Selection_coordinates.Q_18 : Array Bool := (bz 19 262143)
abbrev impl_Selection_coordinates.Q_19 : Array Bool := (bz 19 524287)
set_option maxHeartbeats 8000000 in
set_option maxRecDepth 100000 in
theorem impl_Selection_coordinates.calls (k : Nat) (a0_0 : Int) (A0_1 : Option Addr) (c0_1 : Nat) (l0_1 : List Int) (A0_2 : Option Addr) (c0_2 : Nat) (l0_2 : List Int) (A0_3 : Option Addr) (c0_3 : Nat) (l0_3 : List Int) (A0_4 : Option Addr) (c0_4 : Nat) (l0_4 : List Int) (A0_5 : Option Addr) (c0_5 : Nat) (l0_5 : List (S110)) (a1 : Int) (r : List Int) (w : World) (hr0_1 : Kd.C (Kd.int .i64) w A0_1 l0_1.length l0_1) (hc0_1 : l0_1.length ≤ c0_1) (hr0_2 : Kd.C (Kd.int .i64) w A0_2 l0_2.length l0_2) (hc0_2 : l0_2.length ≤ c0_2) (hr0_3 : Kd.C (Kd.int .i64) w A0_3 l0_3.length l0_3) (hc0_3 : l0_3.length ≤ c0_3) (hr0_4 : Kd.C (Kd.int .i64) w A0_4 l0_4.length l0_4) (hc0_4 : l0_4.length ≤ c0_4) (hr0_5 : Kd.C k110 w A0_5 l0_5.length l0_5) (hc0_5 : l0_5.length ≤ c0_5) (h : impl_Selection_coordinates.f k a0_0 l0_1 l0_2 l0_3 l0_4 l0_5 a1 = some r) :
 Calls Try.prog 144 #[.agg #[.int .i64 a0_0, .slice A0_1 l0_1.length c0_1, .slice A0_2 l0_2.length c0_2, .slice A0_3 l0_3.length c0_3, .slice A0_4 l0_4.length c0_4, .slice A0_5 l0_5.length c0_5], .int .i64 a1] w fun e w' => ∃ v0_ : Value, e = .returned (v0_) ∧ Kd.R (Kd.int .i64) 2 w' w.heap.size (fun _ => True) v0_ r ∧ Below w.heap.size w w' := by
 have hu55 := Try.underlying55
 have HR0_1 := yD hr0_1
 have HC0_1 := yD hc0_1
 clear hr0_1 hc0_1
 have HR0_2 := yD hr0_2
 have HC0_2 := yD hc0_2
 clear hr0_2 hc0_2
 have HR0_3 := yD hr0_3
 have HC0_3 := yD hc0_3
 clear hr0_3 hc0_3
 have HR0_4 := yD hr0_4
 have HC0_4 := yD hc0_4
 clear hr0_4 hc0_4
 have HR0_5 := yD hr0_5
 have HC0_5 := yD hc0_5
 clear hr0_5 hc0_5
 have HB := yD (Below.refl w.heap.size w)
 have H : (if 0 ≤ a1 then (if a1 < (l0_3.length : Int) then (impl_Selection_coordinates.l0 k a1 ([] : List Int) (rd l0_3 a1) 0 a0_0 l0_1 l0_2 l0_3 l0_4 l0_5) else (none)) else (none)) = some r := h
 clear h
 by_cases c3 : 0 ≤ a1
 ·
  rw [if_pos c3] at H; have c3b0 : decide (0 ≤ a1) = true := zR c3; clear c3
  by_cases c4 : a1 < (l0_3.length : Int)
  ·
   rw [if_pos c4] at H; have c4b0 : decide (a1 < (l0_3.length : Int)) = true := zR c4; clear c4
   have H' := yD H
   clear H; go_enter Try.func144, Try.ntmps144
   go_wp2_with (first | ((with_reducible refine gate_dst (N := 2) rfl ?_); refine box_event ?hg (N := 2) ?hd (cs := #[.int .i64 a0_0, .slice A0_1 l0_1.length c0_1, .slice A0_2 l0_2.length c0_2, .slice A0_3 l0_3.length c0_3, .slice A0_4 l0_4.length c0_4, .slice A0_5 l0_5.length c0_5]) (t := 55) ?hr ?_; (case hd => rfl); (case hg => rfl); (case hr => first | (go_simp; done) | (go_simp; rfl)); intro gb322 hg w5 hbox hb; have n0_ := yD (zC (kB HB) hb); have n1_ := yD (hbox); have n2_ := yD ((by rw [hg]; exact (below_size (kB HB)) : w.heap.size ≤ gb322)); have n3_ := yD ((by rw [hg]; exact (below_size (kB HB)) : w.heap.size ≤ gb322)); clear HB; have HB := n0_; have BK322 := n1_; have GW322 := n2_; have GE322 := n3_; clear n0_ n1_ n2_ n3_; clear hb hbox hg; obtain ⟨hcz6_0, hcz6_1, hcz6_2, hcz6_3, hcz6_4, hcz6_5⟩ := cz6 BK322.out; obtain ⟨hfz6_0, hfz6_1, hfz6_2, hfz6_3, hfz6_4, hfz6_5⟩ := fz6 BK322.out; have p323 : 0 ≤ (a1 : Int) := zP (by assumption); have q323 : a1 < (l0_3.length : Int) := zP (by assumption); obtain ⟨ad323, e323, hx323_0⟩ := Kd.at_int HR0_3.out a1 p323 q323; cases e323; replace hx323_0 := (HB.out.cell (zQ w _ hx323_0)).trans hx323_0; replace p323 := eq_true p323; replace q323 := eq_true q323))
   (try simp only [Act.put, zH, zI, zJ])
   go_loopg [5, 13] k (fun kq v5 v13 w' => ∃ (x5_1 : List Int) (x13_1 : Int), v13 = .int .i64 x13_1 ∧ Aside0 (impl_Selection_coordinates.l0 kq a1 x5_1 (rd l0_3 a1) x13_1 a0_0 l0_1 l0_2 l0_3 l0_4 l0_5 = some r) ∧ Aside0 (kq ≤ k) ∧ Aside0 (Kd.R (Kd.int .i64) 2 w' w.heap.size (fun _ => True) v5 x5_1) ∧ Aside0 (w'.heap[gb322]? = some (.cells #[.int .i64 a0_0, (.slice A0_1 l0_1.length c0_1), (.slice A0_2 l0_2.length c0_2), (.slice (some ad323) l0_3.length c0_3), (.slice A0_4 l0_4.length c0_4), (.slice A0_5 l0_5.length c0_5)] 55 (0, 0))) ∧ Aside0 (Below w.heap.size w w'))
   case atStart => exact ⟨(([] : List Int)), (0), (by first | rfl | (simp; done) | (simp [*]; done)), H', ⟨Nat.le_refl _⟩, ⟨by first | exact Kd.R_nil _ _ _ _ _ | exact Kd.N_nil _ _ _ _ _ | exact Kd.V_nil _ _ _ _ _ | exact Kd.Q_nil _ _ _ _ _ | exact Kd.S_nil _ _ _ _ _⟩, ⟨by (with_reducible repeat (first | refine yM ?_ _ | refine yO ?_ | refine yN ?_ _)); exact BK322.out⟩, ⟨kR0 HB⟩⟩
   case round =>
    clear H'
    try clear c1; try clear p2; try clear c3; try clear c3b0; try clear p3; try clear q3; try clear hx3; try clear c4; try clear c4b0; try clear hcz6_0; try clear hcz6_1; try clear hcz6_2; try clear hcz6_3; try clear hcz6_4; try clear hcz6_5; try clear hfz6_0; try clear hfz6_1; try clear hfz6_2; try clear hfz6_3; try clear hfz6_4; try clear hfz6_5; try clear hx323_0; try clear p323; try clear q323
    obtain ⟨x5_1, x13_1, rfl, HA, HK1, HO_5, BK322, HB⟩ := hrel
    cases gk with
    | zero => exact absurd HA.out (by simp [impl_Selection_coordinates.l0])
    | succ k1 =>
     have H := HA.out; clear HA
     simp only [impl_Selection_coordinates.l0] at H
     by_cases c7 : x13_1 < (rd l0_3 a1)
     ·
      rw [if_pos c7] at H; have c7b0 : decide (x13_1 < (rd l0_3 a1)) = true := zR c7; clear c7
      by_cases c8 : 0 ≤ a1
      ·
       rw [if_pos c8] at H; have c8b0 : decide (0 ≤ a1) = true := zR c8; clear c8
       by_cases c9 : a1 < (l0_4.length : Int)
       ·
        rw [if_pos c9] at H; have c9b0 : decide (a1 < (l0_4.length : Int)) = true := zR c9; clear c9
        have H' := yD H
        clear H
        obtain ⟨hcz10_0, hcz10_1, hcz10_2, hcz10_3, hcz10_4, hcz10_5⟩ := cz6 BK322.out
        obtain ⟨hfz10_0, hfz10_1, hfz10_2, hfz10_3, hfz10_4, hfz10_5⟩ := fz6 BK322.out
        have p324 : 0 ≤ (a1 : Int) := zP (by assumption)
        have q324 : a1 < (l0_4.length : Int) := zP (by assumption)
        obtain ⟨ad324, e324, hx324_0⟩ := Kd.at_int HR0_4.out a1 p324 q324
        cases e324
        replace hx324_0 := (HB.out.cell (zQ w _ hx324_0)).trans hx324_0
        replace p324 := eq_true p324; replace q324 := eq_true q324
        go_wp2
        go_loopg [5, 21] k1 (fun kq v5 v21 w' => ∃ (x5_2 : List Int) (x21_2 : Int), v21 = .int .i64 x21_2 ∧ Aside0 (impl_Selection_coordinates.l1 kq a1 x5_2 x13_1 (rd l0_3 a1) x13_1 (rd l0_4 a1) x21_2 a0_0 l0_1 l0_2 l0_3 l0_4 l0_5 = some r) ∧ Aside0 (kq ≤ k1) ∧ Aside0 (Kd.R (Kd.int .i64) 2 w' w.heap.size (fun _ => True) v5 x5_2) ∧ Aside0 (w'.heap[gb322]? = some (.cells #[.int .i64 a0_0, (.slice A0_1 l0_1.length c0_1), (.slice A0_2 l0_2.length c0_2), (.slice (some ad323) l0_3.length c0_3), (.slice (some ad324) l0_4.length c0_4), (.slice A0_5 l0_5.length c0_5)] 55 (0, 0))) ∧ Aside0 (Below w.heap.size w w'))
        case atStart => exact ⟨(x5_1), (0), (by first | rfl | (simp; done) | (simp [*]; done)), H', ⟨Nat.le_refl _⟩, ⟨by (with_reducible repeat (first | apply yA | apply yB | apply yC)); exact HO_5.out⟩, ⟨by (with_reducible repeat (first | refine yM ?_ _ | refine yO ?_ | refine yN ?_ _)); exact BK322.out⟩, ⟨kR0 HB⟩⟩
        case round =>
         clear H'
         try clear c1; try clear p2; try clear c3; try clear c3b0; try clear p3; try clear q3; try clear hx3; try clear c4; try clear c4b0; try clear c7; try clear c7b0; try clear c8; try clear c8b0; try clear c9; try clear c9b0; try clear hcz10_0; try clear hcz10_1; try clear hcz10_2; try clear hcz10_3; try clear hcz10_4; try clear hcz10_5; try clear hcz6_0; try clear hcz6_1; try clear hcz6_2; try clear hcz6_3; try clear hcz6_4; try clear hcz6_5; try clear hfz10_0; try clear hfz10_1; try clear hfz10_2; try clear hfz10_3; try clear hfz10_4; try clear hfz10_5; try clear hfz6_0; try clear hfz6_1; try clear hfz6_2; try clear hfz6_3; try clear hfz6_4; try clear hfz6_5; try clear hx323_0; try clear hx324_0; try clear p2; try clear p3; try clear p323; try clear p324; try clear q3; try clear q323; try clear q324
         obtain ⟨x5_2, x21_2, rfl, HA, HK2, HO_5, BK322, HB⟩ := hrel
         cases gk with
         | zero => exact absurd HA.out (by simp [impl_Selection_coordinates.l1])
         | succ k2 =>
          have H := HA.out; clear HA
          simp only [impl_Selection_coordinates.l1] at H
          by_cases c11 : x21_2 < (rd l0_4 a1)
          ·
           rw [if_pos c11] at H; have c11b0 : decide (x21_2 < (rd l0_4 a1)) = true := zR c11; clear c11
           by_cases c12 : 0 ≤ a1
           ·
            rw [if_pos c12] at H; have c12b0 : decide (0 ≤ a1) = true := zR c12; clear c12
            by_cases c13 : a1 < (l0_1.length : Int)
            ·
             rw [if_pos c13] at H; have c13b0 : decide (a1 < (l0_1.length : Int)) = true := zR c13; clear c13
             by_cases c14 : a1 < (l0_2.length : Int)
             ·
              rw [if_pos c14] at H; have c14b0 : decide (a1 < (l0_2.length : Int)) = true := zR c14; clear c14
              by_cases c15 : x5_2.length < 17592186044416
              ·
               rw [if_pos c15] at H
               have LMc15 := yD c15
               clear c15
               obtain ⟨y327, hy327⟩ : ∃ y_ : List Int, y_ = (x5_2 ++ [wrap64 ((wrap64 ((rd l0_1 a1) + (wrap64 (x13_1 * (rd l0_2 a1))))) + x21_2)]) := ⟨_, rfl⟩
               replace H : (impl_Selection_coordinates.l1 k2 a1 y327 x13_1 (rd l0_3 a1) x13_1 (rd l0_4 a1) (wrap64 (x21_2 + 1)) a0_0 l0_1 l0_2 l0_3 l0_4 l0_5) = some r := by first | (rw [hy327]; with_reducible exact H) | (have H2_ := (Option.bind_some _ _).symm.trans H; rw [hy327]; with_reducible exact H2_) | (have H2_ := (Option.bind_some _ _).symm.trans H; with_reducible exact H2_) | with_reducible exact H | (rw [hy327]; exact H) | exact H
               have Ny327 := yD hy327
               clear hy327
               have H' := yD H
               clear H
               try go_wp2
               have n0_ := yD (yC HO_5.out)
               have n1_ := yD (yO BK322.out)
               have n2_ := yD (yP HB.out)
               clear HO_5 BK322 HB; have HO_5 := n0_; have BK322 := n1_; have HB := n2_; clear n0_ n1_ n2_
               have p325 : 0 ≤ (a1 : Int) := zP (by assumption)
               have q325 : a1 < (l0_1.length : Int) := zP (by assumption)
               obtain ⟨ad325, e325, hx325_0⟩ := Kd.at_int HR0_1.out a1 p325 q325
               have hw325_0 := hx325_0; cases e325
               replace hx325_0 := (HB.out.cell (zQ w _ hx325_0)).trans hx325_0
               replace p325 := eq_true p325; replace q325 := eq_true q325
               have p326 : 0 ≤ (a1 : Int) := zP (by assumption)
               have q326 : a1 < (l0_2.length : Int) := zP (by assumption)
               obtain ⟨ad326, e326, hx326_0⟩ := Kd.at_int HR0_2.out a1 p326 q326
               have hw326_0 := hx326_0; cases e326
               replace hx326_0 := (HB.out.cell (zQ w _ hx326_0)).trans hx326_0
               replace p326 := eq_true p326; replace q326 := eq_true q326
               refine start_ (n := 19) (S := fun w' => w'.cell? ⟨gb322, 0, none⟩ = some (.int .i64 a0_0) ∧ w'.cell? ⟨gb322, 1, none⟩ = some (.slice (some ad325) l0_1.length c0_1) ∧ w'.cell? ⟨gb322, 2, none⟩ = some (.slice (some ad326) l0_2.length c0_2) ∧ w'.cell? ⟨gb322, 3, none⟩ = some (.slice (some ad323) l0_3.length c0_3) ∧ w'.cell? ⟨gb322, 4, none⟩ = some (.slice (some ad324) l0_4.length c0_4) ∧ w'.cell? ⟨gb322, 5, none⟩ = some (.slice A0_5 l0_5.length c0_5) ∧ w'.cell? (ad325.add (a1).toNat) = some (.int .i64 (rd l0_1 a1)) ∧ w'.cell? (ad326.add (a1).toNat) = some (.int .i64 (rd l0_2 a1))) (ds := []) Q_0 (by kernel_rfl) rfl rfl ⟨(yG BK322.out 0).trans rfl, (yG BK322.out 1).trans rfl, (yG BK322.out 2).trans rfl, (yG BK322.out 3).trans rfl, (yG BK322.out 4).trans rfl, (yG BK322.out 5).trans rfl, ((HB.out.cell (zQ w _ hw325_0)).trans hw325_0), ((HB.out.cell (zQ w _ hw326_0)).trans hw326_0)⟩ (fun hHeld => ?_); refine with_tabW impl_Selection_coordinates.tab8 impl_Selection_coordinates.bits8 (fun HT_ HW_ => ?_)
               generalize wr.drew = w16 at HO_5 BK322 HB hx325_0 hx326_0 hHeld ⊢
               refine qA 0 24 Q_1 HT_ ?_
               refine qA 1 25 Q_2 HT_ ?_
               refine qA 3 27 Q_3 HT_ ?_
               refine qA 6 30 Q_4 HT_ ?_
               refine qA 7 31 Q_5 HT_ ?_
               refine qA 9 33 Q_6 HT_ ?_
               refine qA 14 38 Q_7 HT_ ?_
               refine qC 2 26 Q_8 HT_ HW_ hHeld ?_ (hy := by rintro w' ⟨s0, s1, s2, s3, s4, s5, s6, s7⟩; go_simp; with_reducible rfl)
               refine qA 4 28 Q_9 HT_ ?_
               refine qC 5 29 Q_10 HT_ HW_ hHeld ?_ (hy := by rintro w' ⟨s0, s1, s2, s3, s4, s5, s6, s7⟩; go_simp; with_reducible rfl)
               refine qC 8 32 Q_11 HT_ HW_ hHeld ?_ (hy := by rintro w' ⟨s0, s1, s2, s3, s4, s5, s6, s7⟩; go_simp; with_reducible rfl)
               refine qA 10 34 Q_12 HT_ ?_
               refine qC 11 35 Q_13 HT_ HW_ hHeld ?_ (hy := by rintro w' ⟨s0, s1, s2, s3, s4, s5, s6, s7⟩; go_simp; with_reducible rfl)
               refine qA 12 36 Q_14 HT_ ?_
               refine qA 13 37 Q_15 HT_ ?_
               refine qA 15 39 Q_16 HT_ ?_
               refine one_ (i := 16) (N := some 40) Q_17 rfl rfl (one_of HT_.out (by kernel_rfl)) (by decide) (fun K hK => ?_)
               refine value_ (w1 := ?_) (v := ?_) (by rfl) rfl ?_ ?_
               rotate_left 2
               ·
                go_simp
                constructor
                ·
                 rfl
                ·
                 rfl
               refine hK.out _ _ ⟨(yG (yN BK322.out _) 0).trans rfl, (yG (yN BK322.out _) 1).trans rfl, (yG (yN BK322.out _) 2).trans rfl, (yG (yN BK322.out _) 3).trans rfl, (yG (yN BK322.out _) 4).trans rfl, (yG (yN BK322.out _) 5).trans rfl, (World.cell?_alloc_lt _ _ _ (zQ _ _ (((HB.out.cell (zQ w _ hw325_0)).trans hw325_0)))).trans (((HB.out.cell (zQ w _ hw325_0)).trans hw325_0)), (World.cell?_alloc_lt _ _ _ (zQ _ _ (((HB.out.cell (zQ w _ hw326_0)).trans hw326_0)))).trans (((HB.out.cell (zQ w _ hw326_0)).trans hw326_0))⟩ (fun hHeld => ?_)
               clear hK K
               refine norm_ (by show Act.put _ (some 40) _ = _; simp only [Act.put, zH, zI, zJ, i64_w, i32_w]; rfl) ?_
               refine one_ (i := 17) (N := some 41) Q_18 rfl rfl (one_of HT_.out (by kernel_rfl)) (by decide) (fun K hK => ?_)
               refine Kd.R_append_step (Kd.int .i64) (w0 := w) w.heap.size (by rfl) (.tmp 24) (.tmp 40) 36 2 (.int .i64 0) 8 rfl Try.underlying36 info2 rfl (by decide) (by omega) u5 x5_2 (wrap64 ((wrap64 ((rd l0_1 a1) + (wrap64 (x13_1 * (rd l0_2 a1))))) + x21_2)) [.int .i64 (wrap64 ((wrap64 ((rd l0_1 a1) + (wrap64 (x13_1 * (rd l0_2 a1))))) + x21_2))] (fun _ => True) (fun _ => False) rfl rfl ?aP (fun _ hk => hk.elim) ?aF ?aO ?aB ?aS ?aL ?_
               (case aP => exact rfl)
               (case aB => exact (kB HB))
               (case aF => exact (fun _ _ => trivial))
               (case aO => exact (kA HO_5))
               (case aS => exact (below_size (kB HB)))
               (case aL => have := LMc15.out; omega)
               intro v328 w17 ho hb hg hat
               rw [← Ny327.out] at ho
               have n0_ := yD (blk_grown (g := gb322) (o := .cells #[.int .i64 a0_0, .slice (some ad325) l0_1.length c0_1, .slice (some ad326) l0_2.length c0_2, .slice (some ad323) l0_3.length c0_3, .slice (some ad324) l0_4.length c0_4, .slice A0_5 l0_5.length c0_5] 55 (0, 0)) (kM BK322) hg (Kd.R_ne HO_5.out BK322.out (by decide)))
               have n1_ := yD (hb)
               have n2_ := yD (ho)
               clear BK322 HB HO_5; have BK322 := n0_; have HB := n1_; have HO329 := n2_; clear n0_ n1_ n2_ ho hb hg hat
               refine hK.out _ _ ⟨(yG BK322.out 0).trans rfl, (yG BK322.out 1).trans rfl, (yG BK322.out 2).trans rfl, (yG BK322.out 3).trans rfl, (yG BK322.out 4).trans rfl, (yG BK322.out 5).trans rfl, ((HB.out.cell (zQ w _ hw325_0)).trans hw325_0), ((HB.out.cell (zQ w _ hw326_0)).trans hw326_0)⟩ (fun hHeld => ?_)
               clear hK K
               refine norm_ (by show Act.put _ (some 41) _ = _; simp only [Act.put, zH, zI, zJ, i64_w, i32_w]; rfl) ?_
               refine qA 18 5 Q_19 HT_ ?_
               refine done_ (done_of HT_.out (by kernel_rfl)) ?_
               try go_wp2
               go_roundg k2
               case measure => have := HK1.out; have := HK2.out; omega
               case rel => exact ⟨(y327), (wrap64 (x21_2 + 1)), (by first | rfl | (simp; done) | (simp [*]; done)), H', ⟨by have := HK1.out; have := HK2.out; omega⟩, ⟨by (with_reducible repeat (first | apply yA | apply yB | apply yC)); exact HO329.out⟩, ⟨by (with_reducible repeat (first | refine yM ?_ _ | refine yO ?_ | refine yN ?_ _)); exact BK322.out⟩, ⟨kR0 HB⟩⟩
              ·
               rw [if_neg c15] at H
               exact absurd H (by simp)
             ·
              rw [if_neg c14] at H
              exact absurd H (by simp)
            ·
             rw [if_neg c13] at H
             exact absurd H (by simp)
           ·
            rw [if_neg c12] at H
            exact absurd H (by simp)
          ·
           rw [if_neg c11] at H; have c11b0 : decide (x21_2 < (rd l0_4 a1)) = false := zS c11; clear c11
           have H' := yD H
           clear H
           go_wp2
           go_roundg k2
           case measure => have := HK1.out; have := HK2.out; omega
           case rel => exact ⟨(x5_2), (wrap64 (x13_1 + 1)), (by first | rfl | (simp; done) | (simp [*]; done)), H', ⟨by have := HK1.out; have := HK2.out; omega⟩, ⟨by (with_reducible repeat (first | apply yA | apply yB | apply yC)); exact HO_5.out⟩, ⟨by (with_reducible repeat (first | refine yM ?_ _ | refine yO ?_ | refine yN ?_ _)); exact BK322.out⟩, ⟨kR0 HB⟩⟩
       ·
        rw [if_neg c9] at H
        exact absurd H (by simp)
      ·
       rw [if_neg c8] at H
       exact absurd H (by simp)
     ·
      rw [if_neg c7] at H; have c7b0 : decide (x13_1 < (rd l0_3 a1)) = false := zS c7; clear c7; obtain rfl := Option.some.inj H
      go_wp2
      go_ret
      exact ⟨_, by first | rfl | (simp <;> rfl) | (simp [*] <;> rfl), by (with_reducible repeat (first | apply yA | apply yB | apply yC)); exact HO_5.out, kR0 HB⟩
  ·
   rw [if_neg c4] at H
   exact absurd H (by simp)
 ·
  rw [if_neg c3] at H
  exact absurd H (by simp)

end Go.Proofs.Ytdiaebjbiddefaa.PFnExactSelectedIndices
