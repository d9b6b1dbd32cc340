/- Each Go function here comes to what the plain function of its name says, where that says something. Made by a program of this session, over the print. -/
import Derived.Test.YtdiaebjbiddefaaPFnExactSelectedIndicesx0
import Derived.Test.YtdiaebjbiddefaaPFnExactSelectedIndicesx7
import Derived.Test.YtdiaebjbiddefaaPFnExactSelectedIndicesx8
import Derived.Test.YtdiaebjbiddefaaPFnExactSelectedIndicesx9
import Derived.Test.YtdiaebjbiddefaaPFnExactSelectedIndicesx10
namespace Go.Proofs.Ytdiaebjbiddefaa.PFnExactSelectedIndices
open Go.RowKit Go.Proofs.YtdiaebjbiddefaaW.PrintWords Go.Proofs.YtdiaebjbiddefaaW.PrintLast Go.Proofs.YtdiaebjbiddefaaW.PrintMore
attribute [local go_sem] max2_int min2_int max_two min_two max_three min_three max_four min_four   -- for this text's walks alone
set_option linter.unusedVariables false
set_option linter.unusedSimpArgs false

/-! ### impl_Selection_pointsFormed_1: function 157 -/
def impl_Selection_pointsFormed_1.f (k : Nat) (l0_0 : List Int) (a1_0 : Int) : Option (Bool) := if (l0_0.length : Int) = a1_0 then ((impl_allWithin.f k l0_0 0 39).bind fun t292 => (some (!t292))) else (some true)
theorem impl_Selection_pointsFormed_1.mono : ∀ a0 a1 k, LeO (impl_Selection_pointsFormed_1.f k a0 a1) (impl_Selection_pointsFormed_1.f (k + 1) a0 a1) := by
 intro a0 a1 k
 unfold impl_Selection_pointsFormed_1.f
 repeat' (with_reducible first | exact impl_allWithin.mono _ _ _ _ | exact LeO.refl _ | exact LeO.none _ | refine LeO.ite ?_ ?_ | refine LeO.bind ?_ (fun _ => ?_))
set_option maxHeartbeats 8000000 in
set_option maxRecDepth 100000 in
theorem impl_Selection_pointsFormed_1.calls (k : Nat) (A0_0 : Option Addr) (c0_0 : Nat) (l0_0 : List Int) (g1_0 : Nat) (a1_0 : Int) (r : Bool) (w : World) (hr0_0 : Kd.C (Kd.int .i64) w A0_0 l0_0.length l0_0) (hc0_0 : l0_0.length ≤ c0_0) (hb1_0 : w.heap[g1_0]? = some (.cells #[.int .i64 a1_0] 3 (0, 0))) (h : impl_Selection_pointsFormed_1.f k l0_0 a1_0 = some r) :
 Calls Try.prog 157 #[.agg #[.slice A0_0 l0_0.length c0_0], .pointer (some ⟨g1_0, 0, none⟩)] w fun e w' => e = .returned (.bool r) ∧ Below w.heap.size w w' := by
 have hu110 := Try.underlying110
 have HR0_0 := yD hr0_0
 have HC0_0 := yD hc0_0
 clear hr0_0 hc0_0
 have BK48 := yD hb1_0
 clear hb1_0
 have HB := yD (Below.refl w.heap.size w)
 have H : (if (l0_0.length : Int) = a1_0 then ((impl_allWithin.f k l0_0 0 39).bind fun t292 => (some (!t292))) else (some true)) = some r := h
 clear h
 by_cases c3 : (l0_0.length : Int) = a1_0
 ·
  rw [if_pos c3] at H
  have c3b0 : ((l0_0.length : Int) == a1_0) = true := beq_iff_eq.mpr c3
  have c3b1 : ((l0_0.length : Int) != a1_0) = false := bne_eq_false_iff_eq.mpr c3
  clear c3
  obtain ⟨t292, A40, H⟩ := zW_ H
  replace H : (some (!t292)) = some r := H
  have A4 := yD A40
  clear A40; obtain rfl := Option.some.inj H; go_enter Try.func157, Try.ntmps157
  go_wp2_with (first | ((with_reducible refine gate_dst (N := 2) rfl ?_); refine box_event ?hg (N := 2) ?hd (cs := #[.slice A0_0 l0_0.length c0_0]) (t := 110) ?hr ?_; (case hd => rfl); (case hg => rfl); (case hr => first | (go_simp; done) | (go_simp; rfl)); intro gb291 hg w5 hbox hb; have n0_ := yD (zB (kN BK48) hb); have n1_ := yD (zC (kB HB) hb); have n2_ := yD (hbox); have n3_ := yD ((by rw [hg]; exact (below_size (kB HB)) : w.heap.size ≤ gb291)); have n4_ := yD ((by rw [hg]; exact (below_size (kB HB)) : w.heap.size ≤ gb291)); have n5_ := yD ((by rw [hg]; exact Nat.ne_of_lt (blk_lt (kN BK48)) : g1_0 ≠ gb291)); have n6_ := yD ((by rw [hg]; exact Nat.ne_of_gt (blk_lt (kN BK48)) : gb291 ≠ g1_0)); clear BK48; clear HB; have BK48 := n0_; have HB := n1_; have BK291 := n2_; have GW291 := n3_; have GE291 := n4_; have NB48_291 := n5_; have NB291_48 := n6_; clear n0_ n1_ n2_ n3_ n4_ n5_ n6_; clear hb hbox hg; have hnb6 := NB291_48.out; have hnc6 := NB48_291.out; have hcz7_0 : w5.cell? ⟨gb291, 0, none⟩ = some (.slice A0_0 l0_0.length c0_0) := (yG BK291.out 0).trans rfl; have hfz7_0 := yR BK291.out 0; have hcz8_0 : w5.cell? ⟨g1_0, 0, none⟩ = some (.int .i64 a1_0) := (yG BK48.out 0).trans rfl; have hfz8_0 := yR BK48.out 0) | (go_at_call 136; (with_reducible refine (impl_allWithin.calls k _ _ l0_0 0 39 t292 _ ?side1 ?side2 A4.out).mono ?_); (case side1 => exact kV (yY HR0_0.out HB.out)); (case side2 => exact HC0_0.out); rintro e w9 ⟨rfl, hb⟩; have n0_ := yD (zB (kN BK48) hb); have n1_ := yD (zB (kN BK291) hb); have n2_ := yD (zC (kB HB) hb); clear BK48; clear BK291; clear HB; have BK48 := n0_; have BK291 := n1_; have HB := n2_; clear n0_ n1_ n2_; (try clear hb); (try clear hb2); (try clear hk); (try clear hi)))
  go_ret
  exact ⟨by first | rfl | (simp <;> rfl) | (simp [*] <;> rfl), kR0 HB⟩
 ·
  rw [if_neg c3] at H
  have c3b0 : ((l0_0.length : Int) == a1_0) = false := beq_eq_false_iff_ne.mpr c3
  have c3b1 : ((l0_0.length : Int) != a1_0) = true := bne_iff_ne.mpr c3
  obtain rfl := Option.some.inj H; go_enter Try.func157, Try.ntmps157
  go_wp2_with (first | ((with_reducible refine gate_dst (N := 2) rfl ?_); refine box_event ?hg (N := 2) ?hd (cs := #[.slice A0_0 l0_0.length c0_0]) (t := 110) ?hr ?_; (case hd => rfl); (case hg => rfl); (case hr => first | (go_simp; done) | (go_simp; rfl)); intro gb291 hg w10 hbox hb; have n0_ := yD (zB (kN BK48) hb); have n1_ := yD (zC (kB HB) hb); have n2_ := yD (hbox); have n3_ := yD ((by rw [hg]; exact (below_size (kB HB)) : w.heap.size ≤ gb291)); have n4_ := yD ((by rw [hg]; exact (below_size (kB HB)) : w.heap.size ≤ gb291)); have n5_ := yD ((by rw [hg]; exact Nat.ne_of_lt (blk_lt (kN BK48)) : g1_0 ≠ gb291)); have n6_ := yD ((by rw [hg]; exact Nat.ne_of_gt (blk_lt (kN BK48)) : gb291 ≠ g1_0)); clear BK48; clear HB; have BK48 := n0_; have HB := n1_; have BK291 := n2_; have GW291 := n3_; have GE291 := n4_; have NB48_291 := n5_; have NB291_48 := n6_; clear n0_ n1_ n2_ n3_ n4_ n5_ n6_; clear hb hbox hg; have hnb11 := NB291_48.out; have hnc11 := NB48_291.out; have hcz12_0 : w10.cell? ⟨gb291, 0, none⟩ = some (.slice A0_0 l0_0.length c0_0) := (yG BK291.out 0).trans rfl; have hfz12_0 := yR BK291.out 0; have hcz13_0 : w10.cell? ⟨g1_0, 0, none⟩ = some (.int .i64 a1_0) := (yG BK48.out 0).trans rfl; have hfz13_0 := yR BK48.out 0))
  go_ret
  exact ⟨by first | rfl | (simp <;> rfl) | (simp [*] <;> rfl), kR0 HB⟩

/-! ### slices_IndexFunc_impl_Selection_pointsFormed_1: function 158 -/
def slices_IndexFunc_impl_Selection_pointsFormed_1.l0 : Nat → List (S110) → Int → Int → Int → Option (Int)
 | 0, _, _, _, _ => none
 | k + 1, x0, x7, x8, x49000 => if x8 < x7 then (if 0 ≤ x8 then (if x8 < (x0.length : Int) then ((impl_Selection_pointsFormed_1.f k ((rd_T110 x0 x8).f0) x49000).bind fun t294 => (if t294 = true then (some x8) else (slices_IndexFunc_impl_Selection_pointsFormed_1.l0 k x0 x7 (wrap64 (x8 + 1)) x49000))) else (none)) else (none)) else (some (-1))
def slices_IndexFunc_impl_Selection_pointsFormed_1.f (k : Nat) (l0 : List (S110)) (a1_0 : Int) : Option (Int) := slices_IndexFunc_impl_Selection_pointsFormed_1.l0 k l0 (l0.length : Int) 0 a1_0
theorem slices_IndexFunc_impl_Selection_pointsFormed_1.mono_l : ∀ k, (∀ y0 y1 y2 y3, LeO (slices_IndexFunc_impl_Selection_pointsFormed_1.l0 k y0 y1 y2 y3) (slices_IndexFunc_impl_Selection_pointsFormed_1.l0 (k + 1) y0 y1 y2 y3))
 | 0 => fun _ _ _ _ r h => by simp [slices_IndexFunc_impl_Selection_pointsFormed_1.l0] at h
 | k + 1 => by
  have ih0 := slices_IndexFunc_impl_Selection_pointsFormed_1.mono_l k
  ·
   intro y0 y1 y2 y3
   unfold slices_IndexFunc_impl_Selection_pointsFormed_1.l0
   repeat' (with_reducible first | exact ih0 _ _ _ _ | exact impl_Selection_pointsFormed_1.mono _ _ _ | exact LeO.refl _ | exact LeO.none _ | refine LeO.ite ?_ ?_ | refine LeO.bind ?_ (fun _ => ?_))
theorem slices_IndexFunc_impl_Selection_pointsFormed_1.mono : ∀ a0 a1 k, LeO (slices_IndexFunc_impl_Selection_pointsFormed_1.f k a0 a1) (slices_IndexFunc_impl_Selection_pointsFormed_1.f (k + 1) a0 a1) := by
 intro a0 a1 k
 have ih0 := slices_IndexFunc_impl_Selection_pointsFormed_1.mono_l k
 unfold slices_IndexFunc_impl_Selection_pointsFormed_1.f
 repeat' (with_reducible first | exact ih0 _ _ _ _ | exact impl_Selection_pointsFormed_1.mono _ _ _ | exact LeO.refl _ | exact LeO.none _ | refine LeO.ite ?_ ?_ | refine LeO.bind ?_ (fun _ => ?_))
set_option maxHeartbeats 8000000 in
set_option maxRecDepth 100000 in
theorem slices_IndexFunc_impl_Selection_pointsFormed_1.calls (k : Nat) (A0 : Option Addr) (c0 : Nat) (l0 : List (S110)) (g1_0 : Nat) (a1_0 : Int) (r : Int) (w : World) (hr0 : Kd.C k110 w A0 l0.length l0) (hc0 : l0.length ≤ c0) (hb1_0 : w.heap[g1_0]? = some (.cells #[.int .i64 a1_0] 3 (0, 0))) (h : slices_IndexFunc_impl_Selection_pointsFormed_1.f k l0 a1_0 = some r) :
 Calls Try.prog 158 #[.slice A0 l0.length c0, .func (.func 157) #[] #[.pointer (some ⟨g1_0, 0, none⟩)]] w fun e w' => e = .returned (.int .i64 r) ∧ Below w.heap.size w w' := by
 have hu110 := Try.underlying110
 have HR0 := yD hr0
 have HC0 := yD hc0
 clear hr0 hc0
 have BK48 := yD hb1_0
 clear hb1_0
 have HB := yD (Below.refl w.heap.size w)
 have H : (slices_IndexFunc_impl_Selection_pointsFormed_1.l0 k l0 (l0.length : Int) 0 a1_0) = some r := h
 clear h
 have H' := yD H
 clear H; go_enter Try.func158, Try.ntmps158
 go_wp2
 go_loopg [8] k (fun kq v8 w' => ∃ (x8_1 : Int), v8 = .int .i64 x8_1 ∧ Aside0 (slices_IndexFunc_impl_Selection_pointsFormed_1.l0 kq l0 (l0.length : Int) x8_1 a1_0 = some r) ∧ Aside0 (kq ≤ k) ∧ Aside0 (w'.heap[g1_0]? = some (.cells #[.int .i64 a1_0] 3 (0, 0))) ∧ Aside0 (Below w.heap.size w w'))
 case atStart => exact ⟨(0), (by first | rfl | (simp; done) | (simp [*]; done)), H', ⟨Nat.le_refl _⟩, ⟨by (with_reducible repeat (first | refine yM ?_ _ | refine yO ?_ | refine yN ?_ _)); exact BK48.out⟩, ⟨kR0 HB⟩⟩
 case round =>
  clear H'
  try clear p2
  obtain ⟨x8_1, rfl, HA, HK1, BK48, HB⟩ := hrel
  cases gk with
  | zero => exact absurd HA.out (by simp [slices_IndexFunc_impl_Selection_pointsFormed_1.l0])
  | succ k1 =>
   have H := HA.out; clear HA
   simp only [slices_IndexFunc_impl_Selection_pointsFormed_1.l0] at H
   by_cases c3 : x8_1 < (l0.length : Int)
   ·
    rw [if_pos c3] at H; have c3b0 : decide (x8_1 < (l0.length : Int)) = true := zR c3; clear c3
    by_cases c4 : 0 ≤ x8_1
    ·
     rw [if_pos c4] at H; have c4b0 : decide (0 ≤ x8_1) = true := zR c4; clear c4
     by_cases c5 : x8_1 < (l0.length : Int)
     ·
      rw [if_pos c5] at H; have c5b0 : decide (x8_1 < (l0.length : Int)) = true := zR c5; clear c5
      obtain ⟨t294, A60, H⟩ := zW_ H
      replace H : (if t294 = true then (some x8_1) else (slices_IndexFunc_impl_Selection_pointsFormed_1.l0 k1 l0 (l0.length : Int) (wrap64 (x8_1 + 1)) a1_0)) = some r := H
      have A6 := yD A60
      clear A60
      by_cases c7 : t294 = true
      ·
       subst c7
       have H1 : (some x8_1) = some r := by rw [if_pos rfl] at H; exact H
       clear H; have H := H1; clear H1; obtain rfl := Option.some.inj H
       have p293 : 0 ≤ (x8_1 : Int) := zP (by assumption)
       have q293 : x8_1 < (l0.length : Int) := zP (by assumption)
       obtain ⟨ad293, A293_0, c293_0, e293, hx293_0, hl293_0, hi293_0⟩ := at_T110 HR0.out x8_1 p293 q293
       cases e293
       replace hx293_0 := (HB.out.cell (zQ w _ hx293_0)).trans hx293_0
       have HR293_0 := yD hi293_0
       have HC293_0 := yD hl293_0
       clear hi293_0 hl293_0; replace p293 := eq_true p293; replace q293 := eq_true q293
       go_wp2_with (first | (go_at_call 157; (with_reducible refine (impl_Selection_pointsFormed_1.calls k1 _ _ ((rd_T110 l0 x8_1).f0) g1_0 a1_0 true _ ?side1 ?side2 ?side3 A6.out).mono ?_); (case side1 => exact kV (yY HR293_0.out HB.out)); (case side2 => exact HC293_0.out); (case side3 => (with_reducible repeat (first | refine yM ?_ _ | refine yO ?_ | refine yN ?_ _)); exact BK48.out); rintro e w8 ⟨rfl, hb⟩; have n0_ := yD (zB (kN BK48) hb); have n1_ := yD (zC (kB HB) hb); clear BK48; clear HB; have BK48 := n0_; have HB := n1_; clear n0_ n1_; (try clear hb); (try clear hb2); (try clear hk); (try clear hi)))
       go_ret
       exact ⟨by first | rfl | (simp <;> rfl) | (simp [*] <;> rfl), kR0 HB⟩
      ·
       replace c7 := Bool.eq_false_iff.mpr c7
       subst c7
       have H1 : (slices_IndexFunc_impl_Selection_pointsFormed_1.l0 k1 l0 (l0.length : Int) (wrap64 (x8_1 + 1)) a1_0) = some r := by rw [if_neg (show ¬ (false = true) by decide)] at H; exact H
       clear H; have H := H1; clear H1
       have H' := yD H
       clear H
       have p293 : 0 ≤ (x8_1 : Int) := zP (by assumption)
       have q293 : x8_1 < (l0.length : Int) := zP (by assumption)
       obtain ⟨ad293, A293_0, c293_0, e293, hx293_0, hl293_0, hi293_0⟩ := at_T110 HR0.out x8_1 p293 q293
       cases e293
       replace hx293_0 := (HB.out.cell (zQ w _ hx293_0)).trans hx293_0
       have HR293_0 := yD hi293_0
       have HC293_0 := yD hl293_0
       clear hi293_0 hl293_0; replace p293 := eq_true p293; replace q293 := eq_true q293
       go_wp2_with (first | (go_at_call 157; (with_reducible refine (impl_Selection_pointsFormed_1.calls k1 _ _ ((rd_T110 l0 x8_1).f0) g1_0 a1_0 false _ ?side1 ?side2 ?side3 A6.out).mono ?_); (case side1 => exact kV (yY HR293_0.out HB.out)); (case side2 => exact HC293_0.out); (case side3 => (with_reducible repeat (first | refine yM ?_ _ | refine yO ?_ | refine yN ?_ _)); exact BK48.out); rintro e w9 ⟨rfl, hb⟩; have n0_ := yD (zB (kN BK48) hb); have n1_ := yD (zC (kB HB) hb); clear BK48; clear HB; have BK48 := n0_; have HB := n1_; clear n0_ n1_; (try clear hb); (try clear hb2); (try clear hk); (try clear hi)))
       go_roundg k1
       case measure => have := HK1.out; omega
       case rel => exact ⟨(wrap64 (x8_1 + 1)), (by first | rfl | (simp; done) | (simp [*]; done)), H', ⟨by have := HK1.out; omega⟩, ⟨by (with_reducible repeat (first | refine yM ?_ _ | refine yO ?_ | refine yN ?_ _)); exact BK48.out⟩, ⟨kR0 HB⟩⟩
     ·
      rw [if_neg c5] at H
      exact absurd H (by simp)
    ·
     rw [if_neg c4] at H
     exact absurd H (by simp)
   ·
    rw [if_neg c3] at H; have c3b0 : decide (x8_1 < (l0.length : Int)) = false := zS c3; clear c3; obtain rfl := Option.some.inj H
    go_wp2
    go_ret
    exact ⟨by first | rfl | (simp <;> rfl) | (simp [*] <;> rfl), kR0 HB⟩

/-! ### slices_ContainsFunc_impl_Selection_pointsFormed_1: function 141 -/
def slices_ContainsFunc_impl_Selection_pointsFormed_1.f (k : Nat) (l0 : List (S110)) (a1_0 : Int) : Option (Bool) := (slices_IndexFunc_impl_Selection_pointsFormed_1.f k l0 a1_0).bind fun t295 => (some (decide (t295 ≥ 0)))
theorem slices_ContainsFunc_impl_Selection_pointsFormed_1.mono : ∀ a0 a1 k, LeO (slices_ContainsFunc_impl_Selection_pointsFormed_1.f k a0 a1) (slices_ContainsFunc_impl_Selection_pointsFormed_1.f (k + 1) a0 a1) := by
 intro a0 a1 k
 unfold slices_ContainsFunc_impl_Selection_pointsFormed_1.f
 repeat' (with_reducible first | exact slices_IndexFunc_impl_Selection_pointsFormed_1.mono _ _ _ | exact LeO.refl _ | exact LeO.none _ | refine LeO.ite ?_ ?_ | refine LeO.bind ?_ (fun _ => ?_))
set_option maxHeartbeats 8000000 in
set_option maxRecDepth 100000 in
theorem slices_ContainsFunc_impl_Selection_pointsFormed_1.calls (k : Nat) (A0 : Option Addr) (c0 : Nat) (l0 : List (S110)) (g1_0 : Nat) (a1_0 : Int) (r : Bool) (w : World) (hr0 : Kd.C k110 w A0 l0.length l0) (hc0 : l0.length ≤ c0) (hb1_0 : w.heap[g1_0]? = some (.cells #[.int .i64 a1_0] 3 (0, 0))) (h : slices_ContainsFunc_impl_Selection_pointsFormed_1.f k l0 a1_0 = some r) :
 Calls Try.prog 141 #[.slice A0 l0.length c0, .func (.func 157) #[] #[.pointer (some ⟨g1_0, 0, none⟩)]] w fun e w' => e = .returned (.bool r) ∧ Below w.heap.size w w' := by
 have HR0 := yD hr0
 have HC0 := yD hc0
 clear hr0 hc0
 have BK48 := yD hb1_0
 clear hb1_0
 have HB := yD (Below.refl w.heap.size w)
 have H : ((slices_IndexFunc_impl_Selection_pointsFormed_1.f k l0 a1_0).bind fun t295 => (some (decide (t295 ≥ 0)))) = some r := h
 clear h
 obtain ⟨t295, A30, H⟩ := zW_ H
 replace H : (some (decide (t295 ≥ 0))) = some r := H
 have A3 := yD A30
 clear A30; obtain rfl := Option.some.inj H; go_enter Try.func141, Try.ntmps141
 go_wp2_with (first | ((with_reducible refine gate_callee (f := 158) rfl ?_); refine gL 7 Try.func158 #[.slice A0 l0.length c0, .func (.func 157) #[] #[.pointer (some ⟨g1_0, 0, none⟩)]] ?_; (with_reducible refine (slices_IndexFunc_impl_Selection_pointsFormed_1.calls k _ _ l0 g1_0 a1_0 t295 _ ?side1 ?side2 ?side3 A3.out).mono ?_); (case side1 => exact HR0.out); (case side2 => exact HC0.out); (case side3 => (with_reducible repeat (first | refine yM ?_ _ | refine yO ?_ | refine yN ?_ _)); exact BK48.out); rintro e w4 ⟨rfl, hb⟩; refine ⟨_, rfl, ?_⟩; have n0_ := yD (zB (kN BK48) hb); have n1_ := yD (zC (kB HB) hb); clear BK48; clear HB; have BK48 := n0_; have HB := n1_; clear n0_ n1_; (try clear hb); (try clear hb2); (try clear hk); (try clear hi)))
 go_ret
 exact ⟨by first | rfl | (simp <;> rfl) | (simp [*] <;> rfl), kR0 HB⟩

/-! ### impl_Selection_pointsFormed: function 139 -/
def impl_Selection_pointsFormed.f (k : Nat) (a0_0 : Int) (l0_1 : List Int) (l0_2 : List Int) (l0_3 : List Int) (l0_4 : List Int) (l0_5 : List (S110)) : Option (Bool) := (impl_within.f (l0_5.length : Int) 1 24).bind fun t297 => (if t297 = true then (if 0 < (l0_5.length : Int) then (if (((rd_T110 l0_5 0).f0).length : Int) ≤ 3 then ((slices_ContainsFunc_impl_Selection_pointsFormed_1.f k l0_5 (((rd_T110 l0_5 0).f0).length : Int)).bind fun t300 => (some (!t300))) else (some false)) else (none)) else (some false))
theorem impl_Selection_pointsFormed.mono : ∀ a0 a1 a2 a3 a4 a5 k, LeO (impl_Selection_pointsFormed.f k a0 a1 a2 a3 a4 a5) (impl_Selection_pointsFormed.f (k + 1) a0 a1 a2 a3 a4 a5) := by
 intro a0 a1 a2 a3 a4 a5 k
 unfold impl_Selection_pointsFormed.f
 repeat' (with_reducible first | exact slices_ContainsFunc_impl_Selection_pointsFormed_1.mono _ _ _ | exact LeO.refl _ | exact LeO.none _ | refine LeO.ite ?_ ?_ | refine LeO.bind ?_ (fun _ => ?_))
set_option maxHeartbeats 8000000 in
set_option maxRecDepth 100000 in
theorem impl_Selection_pointsFormed.calls (k : Nat) (a0_0 : Int) (A0_1 : Option Addr) (c0_1 : Nat) (l0_1 : List Int) (A0_2 : Option Addr) (c0_2 : Nat) (l0_2 : List Int) (A0_3 : Option Addr) (c0_3 : Nat) (l0_3 : List Int) (A0_4 : Option Addr) (c0_4 : Nat) (l0_4 : List Int) (A0_5 : Option Addr) (c0_5 : Nat) (l0_5 : List (S110)) (r : Bool) (w : World) (hr0_1 : Kd.C (Kd.int .i64) w A0_1 l0_1.length l0_1) (hc0_1 : l0_1.length ≤ c0_1) (hr0_2 : Kd.C (Kd.int .i64) w A0_2 l0_2.length l0_2) (hc0_2 : l0_2.length ≤ c0_2) (hr0_3 : Kd.C (Kd.int .i64) w A0_3 l0_3.length l0_3) (hc0_3 : l0_3.length ≤ c0_3) (hr0_4 : Kd.C (Kd.int .i64) w A0_4 l0_4.length l0_4) (hc0_4 : l0_4.length ≤ c0_4) (hr0_5 : Kd.C k110 w A0_5 l0_5.length l0_5) (hc0_5 : l0_5.length ≤ c0_5) (h : impl_Selection_pointsFormed.f k a0_0 l0_1 l0_2 l0_3 l0_4 l0_5 = some r) :
 Calls Try.prog 139 #[.agg #[.int .i64 a0_0, .slice A0_1 l0_1.length c0_1, .slice A0_2 l0_2.length c0_2, .slice A0_3 l0_3.length c0_3, .slice A0_4 l0_4.length c0_4, .slice A0_5 l0_5.length c0_5]] w fun e w' => e = .returned (.bool r) ∧ Below w.heap.size w w' := by
 have hu55 := Try.underlying55
 have HR0_1 := yD hr0_1
 have HC0_1 := yD hc0_1
 clear hr0_1 hc0_1
 have HR0_2 := yD hr0_2
 have HC0_2 := yD hc0_2
 clear hr0_2 hc0_2
 have HR0_3 := yD hr0_3
 have HC0_3 := yD hc0_3
 clear hr0_3 hc0_3
 have HR0_4 := yD hr0_4
 have HC0_4 := yD hc0_4
 clear hr0_4 hc0_4
 have HR0_5 := yD hr0_5
 have HC0_5 := yD hc0_5
 clear hr0_5 hc0_5
 have HB := yD (Below.refl w.heap.size w)
 have H : ((impl_within.f (l0_5.length : Int) 1 24).bind fun t297 => (if t297 = true then (if 0 < (l0_5.length : Int) then (if (((rd_T110 l0_5 0).f0).length : Int) ≤ 3 then ((slices_ContainsFunc_impl_Selection_pointsFormed_1.f k l0_5 (((rd_T110 l0_5 0).f0).length : Int)).bind fun t300 => (some (!t300))) else (some false)) else (none)) else (some false))) = some r := h
 clear h
 obtain ⟨t297, A20, H⟩ := zW_ H
 replace H : (if t297 = true then (if 0 < (l0_5.length : Int) then (if (((rd_T110 l0_5 0).f0).length : Int) ≤ 3 then ((slices_ContainsFunc_impl_Selection_pointsFormed_1.f k l0_5 (((rd_T110 l0_5 0).f0).length : Int)).bind fun t300 => (some (!t300))) else (some false)) else (none)) else (some false)) = some r := H
 have A2 := yD A20
 clear A20
 by_cases c3 : t297 = true
 ·
  subst c3
  have H1 : (if 0 < (l0_5.length : Int) then (if (((rd_T110 l0_5 0).f0).length : Int) ≤ 3 then ((slices_ContainsFunc_impl_Selection_pointsFormed_1.f k l0_5 (((rd_T110 l0_5 0).f0).length : Int)).bind fun t300 => (some (!t300))) else (some false)) else (none)) = some r := by rw [if_pos rfl] at H; exact H
  clear H; have H := H1; clear H1
  by_cases c4 : 0 < (l0_5.length : Int)
  ·
   rw [if_pos c4] at H; have c4b0 : decide (0 < (l0_5.length : Int)) = true := zR c4
   have c4b1 : decide (0 < l0_5.length) = true := zR (by omega)
   clear c4
   by_cases c5 : (((rd_T110 l0_5 0).f0).length : Int) ≤ 3
   ·
    rw [if_pos c5] at H; have c5b0 : decide ((((rd_T110 l0_5 0).f0).length : Int) ≤ 3) = true := zR c5
    have c5b1 : decide (((rd_T110 l0_5 0).f0).length ≤ 3) = true := zR (by omega)
    clear c5
    obtain ⟨t300, A60, H⟩ := zW_ H
    replace H : (some (!t300)) = some r := H
    have A6 := yD A60
    clear A60; obtain rfl := Option.some.inj H; go_enter Try.func139, Try.ntmps139
    go_wp2_with (first | ((with_reducible refine gate_dst (N := 1) rfl ?_); refine box_event ?hg (N := 1) ?hd (cs := #[.int .i64 a0_0, .slice A0_1 l0_1.length c0_1, .slice A0_2 l0_2.length c0_2, .slice A0_3 l0_3.length c0_3, .slice A0_4 l0_4.length c0_4, .slice A0_5 l0_5.length c0_5]) (t := 55) ?hr ?_; (case hd => rfl); (case hg => rfl); (case hr => first | (go_simp; done) | (go_simp; rfl)); intro gb296 hg w7 hbox hb; have n0_ := yD (zC (kB HB) hb); have n1_ := yD (hbox); have n2_ := yD ((by rw [hg]; exact (below_size (kB HB)) : w.heap.size ≤ gb296)); have n3_ := yD ((by rw [hg]; exact (below_size (kB HB)) : w.heap.size ≤ gb296)); clear HB; have HB := n0_; have BK296 := n1_; have GW296 := n2_; have GE296 := n3_; clear n0_ n1_ n2_ n3_; clear hb hbox hg; obtain ⟨hcz8_0, hcz8_1, hcz8_2, hcz8_3, hcz8_4, hcz8_5⟩ := cz6 BK296.out; obtain ⟨hfz8_0, hfz8_1, hfz8_2, hfz8_3, hfz8_4, hfz8_5⟩ := fz6 BK296.out) | ((with_reducible refine gate_callee (f := 106) rfl ?_); refine gL 7 Try.func106 #[.int .i64 (l0_5.length : Int), .int .i64 1, .int .i64 24] ?_; (with_reducible refine (impl_within.calls (l0_5.length : Int) 1 24 true _ A2.out).mono ?_); rintro e w' ⟨rfl, ⟨nd, rfl⟩⟩; refine ⟨_, rfl, ?_⟩; (try (rw [drewN_self w7]; generalize hq_ : World.drewN w7 _ = w7; have n0_ : Aside0 (w7.heap[gb296]? = some (.cells #[.int .i64 a0_0, .slice A0_1 l0_1.length c0_1, .slice A0_2 l0_2.length c0_2, .slice A0_3 l0_3.length c0_3, .slice A0_4 l0_4.length c0_4, .slice A0_5 l0_5.length c0_5] 55 (0, 0))) := ⟨by rw [← hq_]; exact (kM BK296)⟩; have n1_ : Aside0 (Below w.heap.size w w7) := ⟨by rw [← hq_]; exact (kB HB)⟩; clear BK296 HB hq_; have BK296 := n0_; have HB := n1_; clear n0_ n1_)); obtain ⟨hcz9_0, hcz9_1, hcz9_2, hcz9_3, hcz9_4, hcz9_5⟩ := cz6 BK296.out; obtain ⟨hfz9_0, hfz9_1, hfz9_2, hfz9_3, hfz9_4, hfz9_5⟩ := fz6 BK296.out; have p298 : 0 ≤ (0 : Int) := (by omega); have q298 : 0 < (l0_5.length : Int) := zP (by assumption); obtain ⟨ad298, A298_0, c298_0, e298, hx298_0, hl298_0, hi298_0⟩ := at_T110 HR0_5.out 0 p298 q298; cases e298; have qi298 : (0 < l0_5.length) = True := eq_true (by omega); (try rw [show ((0 : Int)).toNat = 0 from rfl] at hx298_0); (try rw [Addr.add_zero'] at hx298_0); replace hx298_0 := (HB.out.cell (zQ w _ hx298_0)).trans hx298_0; have HR298_0 := yD hi298_0; have HC298_0 := yD hl298_0; clear hi298_0 hl298_0; replace p298 := eq_true p298; replace q298 := eq_true q298) | ((with_reducible refine gate_dst (N := 3) rfl ?_); refine box_event ?hg (N := 3) ?hd (cs := #[.int .i64 0]) (t := 3) ?hr ?_; (case hd => rfl); (case hg => rfl); (case hr => first | (go_simp; done) | (go_simp; rfl)); intro gb299 hg w10 hbox hb; have n0_ := yD (zB (kN BK296) hb); have n1_ := yD (zC (kB HB) hb); have n2_ := yD (hbox); have n3_ := yD ((by rw [hg]; exact (below_size (kB HB)) : w.heap.size ≤ gb299)); have n4_ := yD ((by rw [hg]; exact (below_size (kB HB)) : w.heap.size ≤ gb299)); have n5_ := yD ((by rw [hg]; exact Nat.ne_of_lt (blk_lt (kN BK296)) : gb296 ≠ gb299)); have n6_ := yD ((by rw [hg]; exact Nat.ne_of_gt (blk_lt (kN BK296)) : gb299 ≠ gb296)); clear BK296; clear HB; have BK296 := n0_; have HB := n1_; have BK299 := n2_; have GW299 := n3_; have GE299 := n4_; have NB296_299 := n5_; have NB299_296 := n6_; clear n0_ n1_ n2_ n3_ n4_ n5_ n6_; clear hb hbox hg; have hnb11 := NB299_296.out; have hnc11 := NB296_299.out; have hcz12_0 : w10.cell? ⟨gb299, 0, none⟩ = some (.int .i64 0) := (yG BK299.out 0).trans rfl; have hfz12_0 := yR BK299.out 0; obtain ⟨hcz13_0, hcz13_1, hcz13_2, hcz13_3, hcz13_4, hcz13_5⟩ := cz6 BK296.out; obtain ⟨hfz13_0, hfz13_1, hfz13_2, hfz13_3, hfz13_4, hfz13_5⟩ := fz6 BK296.out) | (go_at_call 141; (with_reducible refine (slices_ContainsFunc_impl_Selection_pointsFormed_1.calls k _ _ l0_5 gb299 (((rd_T110 l0_5 0).f0).length : Int) t300 _ ?side1 ?side2 ?side3 A6.out).mono ?_); (case side1 => exact yY HR0_5.out (kB HB)); (case side2 => exact HC0_5.out); (case side3 => (with_reducible repeat (first | refine yM ?_ _ | refine yO ?_ | refine yN ?_ _)); refine blk_put (cs := #[.int .i64 0]) ?_ 0 _ rfl; (with_reducible repeat (first | refine yM ?_ _ | refine yO ?_ | refine yN ?_ _)); exact BK299.out); rintro e w14 ⟨rfl, hb⟩; have n0_ := yD (zB (g := gb296) (o := .cells #[.int .i64 a0_0, .slice A0_1 l0_1.length c0_1, .slice A0_2 l0_2.length c0_2, .slice A0_3 l0_3.length c0_3, .slice A0_4 l0_4.length c0_4, .slice (some ad298) l0_5.length c0_5] 55 (0, 0)) (by (with_reducible repeat (first | refine yM ?_ _ | refine yO ?_ | refine yN ?_ _)); refine blk_far ?_ NB296_299.out _; (with_reducible repeat (first | refine yM ?_ _ | refine yO ?_ | refine yN ?_ _)); exact BK296.out) hb); have n1_ := yD (zB (g := gb299) (o := .cells #[.int .i64 (((rd_T110 l0_5 0).f0).length : Int)] 3 (0, 0)) (by (with_reducible repeat (first | refine yM ?_ _ | refine yO ?_ | refine yN ?_ _)); refine blk_put (cs := #[.int .i64 0]) ?_ 0 _ rfl; (with_reducible repeat (first | refine yM ?_ _ | refine yO ?_ | refine yN ?_ _)); exact BK299.out) hb); have n2_ := yD (zC (kB HB) hb); clear BK296; clear BK299; clear HB; have BK296 := n0_; have BK299 := n1_; have HB := n2_; clear n0_ n1_ n2_; (try clear hb); (try clear hb2); (try clear hk); (try clear hi)))
    go_ret
    exact ⟨by first | rfl | (simp <;> rfl) | (simp [*] <;> rfl), kR0 HB⟩
   ·
    rw [if_neg c5] at H; have c5b0 : decide ((((rd_T110 l0_5 0).f0).length : Int) ≤ 3) = false := zS c5
    have c5b1 : decide (((rd_T110 l0_5 0).f0).length ≤ 3) = false := zS (by omega)
    clear c5; obtain rfl := Option.some.inj H; go_enter Try.func139, Try.ntmps139
    go_wp2_with (first | ((with_reducible refine gate_dst (N := 1) rfl ?_); refine box_event ?hg (N := 1) ?hd (cs := #[.int .i64 a0_0, .slice A0_1 l0_1.length c0_1, .slice A0_2 l0_2.length c0_2, .slice A0_3 l0_3.length c0_3, .slice A0_4 l0_4.length c0_4, .slice A0_5 l0_5.length c0_5]) (t := 55) ?hr ?_; (case hd => rfl); (case hg => rfl); (case hr => first | (go_simp; done) | (go_simp; rfl)); intro gb296 hg w15 hbox hb; have n0_ := yD (zC (kB HB) hb); have n1_ := yD (hbox); have n2_ := yD ((by rw [hg]; exact (below_size (kB HB)) : w.heap.size ≤ gb296)); have n3_ := yD ((by rw [hg]; exact (below_size (kB HB)) : w.heap.size ≤ gb296)); clear HB; have HB := n0_; have BK296 := n1_; have GW296 := n2_; have GE296 := n3_; clear n0_ n1_ n2_ n3_; clear hb hbox hg; obtain ⟨hcz16_0, hcz16_1, hcz16_2, hcz16_3, hcz16_4, hcz16_5⟩ := cz6 BK296.out; obtain ⟨hfz16_0, hfz16_1, hfz16_2, hfz16_3, hfz16_4, hfz16_5⟩ := fz6 BK296.out) | ((with_reducible refine gate_callee (f := 106) rfl ?_); refine gL 7 Try.func106 #[.int .i64 (l0_5.length : Int), .int .i64 1, .int .i64 24] ?_; (with_reducible refine (impl_within.calls (l0_5.length : Int) 1 24 true _ A2.out).mono ?_); rintro e w' ⟨rfl, ⟨nd, rfl⟩⟩; refine ⟨_, rfl, ?_⟩; (try (rw [drewN_self w15]; generalize hq_ : World.drewN w15 _ = w15; have n0_ : Aside0 (w15.heap[gb296]? = some (.cells #[.int .i64 a0_0, .slice A0_1 l0_1.length c0_1, .slice A0_2 l0_2.length c0_2, .slice A0_3 l0_3.length c0_3, .slice A0_4 l0_4.length c0_4, .slice A0_5 l0_5.length c0_5] 55 (0, 0))) := ⟨by rw [← hq_]; exact (kM BK296)⟩; have n1_ : Aside0 (Below w.heap.size w w15) := ⟨by rw [← hq_]; exact (kB HB)⟩; clear BK296 HB hq_; have BK296 := n0_; have HB := n1_; clear n0_ n1_)); obtain ⟨hcz17_0, hcz17_1, hcz17_2, hcz17_3, hcz17_4, hcz17_5⟩ := cz6 BK296.out; obtain ⟨hfz17_0, hfz17_1, hfz17_2, hfz17_3, hfz17_4, hfz17_5⟩ := fz6 BK296.out; have p298 : 0 ≤ (0 : Int) := (by omega); have q298 : 0 < (l0_5.length : Int) := zP (by assumption); obtain ⟨ad298, A298_0, c298_0, e298, hx298_0, hl298_0, hi298_0⟩ := at_T110 HR0_5.out 0 p298 q298; cases e298; have qi298 : (0 < l0_5.length) = True := eq_true (by omega); (try rw [show ((0 : Int)).toNat = 0 from rfl] at hx298_0); (try rw [Addr.add_zero'] at hx298_0); replace hx298_0 := (HB.out.cell (zQ w _ hx298_0)).trans hx298_0; have HR298_0 := yD hi298_0; have HC298_0 := yD hl298_0; clear hi298_0 hl298_0; replace p298 := eq_true p298; replace q298 := eq_true q298) | ((with_reducible refine gate_dst (N := 3) rfl ?_); refine box_event ?hg (N := 3) ?hd (cs := #[.int .i64 0]) (t := 3) ?hr ?_; (case hd => rfl); (case hg => rfl); (case hr => first | (go_simp; done) | (go_simp; rfl)); intro gb299 hg w18 hbox hb; have n0_ := yD (zB (kN BK296) hb); have n1_ := yD (zC (kB HB) hb); have n2_ := yD (hbox); have n3_ := yD ((by rw [hg]; exact (below_size (kB HB)) : w.heap.size ≤ gb299)); have n4_ := yD ((by rw [hg]; exact (below_size (kB HB)) : w.heap.size ≤ gb299)); have n5_ := yD ((by rw [hg]; exact Nat.ne_of_lt (blk_lt (kN BK296)) : gb296 ≠ gb299)); have n6_ := yD ((by rw [hg]; exact Nat.ne_of_gt (blk_lt (kN BK296)) : gb299 ≠ gb296)); clear BK296; clear HB; have BK296 := n0_; have HB := n1_; have BK299 := n2_; have GW299 := n3_; have GE299 := n4_; have NB296_299 := n5_; have NB299_296 := n6_; clear n0_ n1_ n2_ n3_ n4_ n5_ n6_; clear hb hbox hg; have hnb19 := NB299_296.out; have hnc19 := NB296_299.out; have hcz20_0 : w18.cell? ⟨gb299, 0, none⟩ = some (.int .i64 0) := (yG BK299.out 0).trans rfl; have hfz20_0 := yR BK299.out 0))
    go_ret
    exact ⟨by first | rfl | (simp <;> rfl) | (simp [*] <;> rfl), kR0 HB⟩
  ·
   rw [if_neg c4] at H
   exact absurd H (by simp)
 ·
  replace c3 := Bool.eq_false_iff.mpr c3
  subst c3
  have H1 : (some false) = some r := by rw [if_neg (show ¬ (false = true) by decide)] at H; exact H
  clear H; have H := H1; clear H1; obtain rfl := Option.some.inj H; go_enter Try.func139, Try.ntmps139
  go_wp2_with (first | ((with_reducible refine gate_dst (N := 1) rfl ?_); refine box_event ?hg (N := 1) ?hd (cs := #[.int .i64 a0_0, .slice A0_1 l0_1.length c0_1, .slice A0_2 l0_2.length c0_2, .slice A0_3 l0_3.length c0_3, .slice A0_4 l0_4.length c0_4, .slice A0_5 l0_5.length c0_5]) (t := 55) ?hr ?_; (case hd => rfl); (case hg => rfl); (case hr => first | (go_simp; done) | (go_simp; rfl)); intro gb296 hg w21 hbox hb; have n0_ := yD (zC (kB HB) hb); have n1_ := yD (hbox); have n2_ := yD ((by rw [hg]; exact (below_size (kB HB)) : w.heap.size ≤ gb296)); have n3_ := yD ((by rw [hg]; exact (below_size (kB HB)) : w.heap.size ≤ gb296)); clear HB; have HB := n0_; have BK296 := n1_; have GW296 := n2_; have GE296 := n3_; clear n0_ n1_ n2_ n3_; clear hb hbox hg; obtain ⟨hcz22_0, hcz22_1, hcz22_2, hcz22_3, hcz22_4, hcz22_5⟩ := cz6 BK296.out; obtain ⟨hfz22_0, hfz22_1, hfz22_2, hfz22_3, hfz22_4, hfz22_5⟩ := fz6 BK296.out) | ((with_reducible refine gate_callee (f := 106) rfl ?_); refine gL 7 Try.func106 #[.int .i64 (l0_5.length : Int), .int .i64 1, .int .i64 24] ?_; (with_reducible refine (impl_within.calls (l0_5.length : Int) 1 24 false _ A2.out).mono ?_); rintro e w' ⟨rfl, ⟨nd, rfl⟩⟩; refine ⟨_, rfl, ?_⟩))
  go_ret
  exact ⟨by first | rfl | (simp <;> rfl) | (simp [*] <;> rfl), kR0 HB⟩

/-! ### impl_FormedSelection: function 115 -/
def impl_FormedSelection.j0 : Nat → Bool → Int → Bool → Int → List Int → List Int → List Int → List Int → List (S110) → Option (Bool)
 | 0, _, _, _, _, _, _, _, _, _ => none
 | k + 1, x3, x12, x13, x302000, x302001, x302002, x302003, x302004, x302005 => if x13 = true then (if x3 = true then (some ((x302005.length : Int) == 0)) else (some false)) else (if x12 = 3 then (if (x302005.length : Int) = 0 then ((impl_Selection_slabFormed.f k x302000 x302001 x302002 x302003 x302004 x302005).bind fun t303 => (some t303)) else (some false)) else (if x12 = 4 then (if x3 = true then ((impl_Selection_pointsFormed.f k x302000 x302001 x302002 x302003 x302004 x302005).bind fun t304 => (some t304)) else (some false)) else (some false)))
def impl_FormedSelection.f (k : Nat) (a0_0 : Int) (l0_1 : List Int) (l0_2 : List Int) (l0_3 : List Int) (l0_4 : List Int) (l0_5 : List (S110)) : Option (Bool) := (impl_SameSelection.f k a0_0 ([] : List Int) ([] : List Int) ([] : List Int) ([] : List Int) l0_5 a0_0 l0_1 l0_2 l0_3 l0_4 l0_5).bind fun t302 => (if a0_0 = 1 then (impl_FormedSelection.j0 k t302 a0_0 (a0_0 == 1) a0_0 l0_1 l0_2 l0_3 l0_4 l0_5) else (impl_FormedSelection.j0 k t302 a0_0 (a0_0 == 2) a0_0 l0_1 l0_2 l0_3 l0_4 l0_5))
theorem impl_FormedSelection.mono_l : ∀ k, (∀ y0 y1 y2 y3 y4 y5 y6 y7 y8, LeO (impl_FormedSelection.j0 k y0 y1 y2 y3 y4 y5 y6 y7 y8) (impl_FormedSelection.j0 (k + 1) y0 y1 y2 y3 y4 y5 y6 y7 y8))
 | 0 => fun _ _ _ _ _ _ _ _ _ r h => by simp [impl_FormedSelection.j0] at h
 | k + 1 => by
  have ih0 := impl_FormedSelection.mono_l k
  ·
   intro y0 y1 y2 y3 y4 y5 y6 y7 y8
   unfold impl_FormedSelection.j0
   repeat' (with_reducible first | exact ih0 _ _ _ _ _ _ _ _ _ | exact impl_SameSelection.mono _ _ _ _ _ _ _ _ _ _ _ _ _ | exact impl_Selection_pointsFormed.mono _ _ _ _ _ _ _ | exact impl_Selection_slabFormed.mono _ _ _ _ _ _ _ | exact LeO.refl _ | exact LeO.none _ | refine LeO.ite ?_ ?_ | refine LeO.bind ?_ (fun _ => ?_))
theorem impl_FormedSelection.mono : ∀ a0 a1 a2 a3 a4 a5 k, LeO (impl_FormedSelection.f k a0 a1 a2 a3 a4 a5) (impl_FormedSelection.f (k + 1) a0 a1 a2 a3 a4 a5) := by
 intro a0 a1 a2 a3 a4 a5 k
 have ih0 := impl_FormedSelection.mono_l k
 unfold impl_FormedSelection.f
 repeat' (with_reducible first | exact ih0 _ _ _ _ _ _ _ _ _ | exact impl_SameSelection.mono _ _ _ _ _ _ _ _ _ _ _ _ _ | exact impl_Selection_pointsFormed.mono _ _ _ _ _ _ _ | exact impl_Selection_slabFormed.mono _ _ _ _ _ _ _ | exact LeO.refl _ | exact LeO.none _ | refine LeO.ite ?_ ?_ | refine LeO.bind ?_ (fun _ => ?_))
set_option maxHeartbeats 8000000 in
set_option maxRecDepth 100000 in
theorem impl_FormedSelection.calls (k : Nat) (a0_0 : Int) (A0_1 : Option Addr) (c0_1 : Nat) (l0_1 : List Int) (A0_2 : Option Addr) (c0_2 : Nat) (l0_2 : List Int) (A0_3 : Option Addr) (c0_3 : Nat) (l0_3 : List Int) (A0_4 : Option Addr) (c0_4 : Nat) (l0_4 : List Int) (A0_5 : Option Addr) (c0_5 : Nat) (l0_5 : List (S110)) (r : Bool) (w : World) (hr0_1 : Kd.C (Kd.int .i64) w A0_1 l0_1.length l0_1) (hc0_1 : l0_1.length ≤ c0_1) (hr0_2 : Kd.C (Kd.int .i64) w A0_2 l0_2.length l0_2) (hc0_2 : l0_2.length ≤ c0_2) (hr0_3 : Kd.C (Kd.int .i64) w A0_3 l0_3.length l0_3) (hc0_3 : l0_3.length ≤ c0_3) (hr0_4 : Kd.C (Kd.int .i64) w A0_4 l0_4.length l0_4) (hc0_4 : l0_4.length ≤ c0_4) (hr0_5 : Kd.C k110 w A0_5 l0_5.length l0_5) (hc0_5 : l0_5.length ≤ c0_5) (h : impl_FormedSelection.f k a0_0 l0_1 l0_2 l0_3 l0_4 l0_5 = some r) :
 Calls Try.prog 115 #[.agg #[.int .i64 a0_0, .slice A0_1 l0_1.length c0_1, .slice A0_2 l0_2.length c0_2, .slice A0_3 l0_3.length c0_3, .slice A0_4 l0_4.length c0_4, .slice A0_5 l0_5.length c0_5]] w fun e w' => e = .returned (.bool r) ∧ Below w.heap.size w w' := by
 have hu55 := Try.underlying55
 have HR0_1 := yD hr0_1
 have HC0_1 := yD hc0_1
 clear hr0_1 hc0_1
 have HR0_2 := yD hr0_2
 have HC0_2 := yD hc0_2
 clear hr0_2 hc0_2
 have HR0_3 := yD hr0_3
 have HC0_3 := yD hc0_3
 clear hr0_3 hc0_3
 have HR0_4 := yD hr0_4
 have HC0_4 := yD hc0_4
 clear hr0_4 hc0_4
 have HR0_5 := yD hr0_5
 have HC0_5 := yD hc0_5
 clear hr0_5 hc0_5
 have HB := yD (Below.refl w.heap.size w)
 have H : ((impl_SameSelection.f k a0_0 ([] : List Int) ([] : List Int) ([] : List Int) ([] : List Int) l0_5 a0_0 l0_1 l0_2 l0_3 l0_4 l0_5).bind fun t302 => (if a0_0 = 1 then (impl_FormedSelection.j0 k t302 a0_0 (a0_0 == 1) a0_0 l0_1 l0_2 l0_3 l0_4 l0_5) else (impl_FormedSelection.j0 k t302 a0_0 (a0_0 == 2) a0_0 l0_1 l0_2 l0_3 l0_4 l0_5))) = some r := h
 clear h
 obtain ⟨t302, A20, H⟩ := zW_ H
 replace H : (if a0_0 = 1 then (impl_FormedSelection.j0 k t302 a0_0 (a0_0 == 1) a0_0 l0_1 l0_2 l0_3 l0_4 l0_5) else (impl_FormedSelection.j0 k t302 a0_0 (a0_0 == 2) a0_0 l0_1 l0_2 l0_3 l0_4 l0_5)) = some r := H
 have A2 := yD A20
 clear A20
 have HC3 := yD H
 clear H; go_enter Try.func115, Try.ntmps115
 go_upto_if 13 with (first | ((with_reducible refine gate_dst (N := 1) rfl ?_); (try (refine gate_guard (by rfl) ?_; dsimp only)); refine box_event ?hg (N := 1) ?hd (cs := #[.int .i64 a0_0, .slice A0_1 l0_1.length c0_1, .slice A0_2 l0_2.length c0_2, .slice A0_3 l0_3.length c0_3, .slice A0_4 l0_4.length c0_4, .slice A0_5 l0_5.length c0_5]) (t := 55) ?hr ?_; (case hd => rfl); (case hg => rfl); (case hr => first | (go_simp; done) | (go_simp; rfl)); intro gb301 hg w4 hbox hb; have n0_ := yD (zC (kB HB) hb); have n1_ := yD (hbox); have n2_ := yD ((by rw [hg]; exact (below_size (kB HB)) : w.heap.size ≤ gb301)); have n3_ := yD ((by rw [hg]; exact (below_size (kB HB)) : w.heap.size ≤ gb301)); clear HB; have HB := n0_; have BK301 := n1_; have GW301 := n2_; have GE301 := n3_; clear n0_ n1_ n2_ n3_; clear hb hbox hg; obtain ⟨hcz5_0, hcz5_1, hcz5_2, hcz5_3, hcz5_4, hcz5_5⟩ := cz6 BK301.out; obtain ⟨hfz5_0, hfz5_1, hfz5_2, hfz5_3, hfz5_4, hfz5_5⟩ := fz6 BK301.out) | ((with_reducible refine gate_callee (f := 137) rfl ?_); refine gL 10 Try.func137 #[.agg #[.int .i64 a0_0, .slice none 0 0, .slice none 0 0, .slice none 0 0, .slice none 0 0, .slice A0_5 l0_5.length c0_5], .agg #[.int .i64 a0_0, .slice A0_1 l0_1.length c0_1, .slice A0_2 l0_2.length c0_2, .slice A0_3 l0_3.length c0_3, .slice A0_4 l0_4.length c0_4, .slice A0_5 l0_5.length c0_5]] ?_; (refine (impl_SameSelection.calls k a0_0 _ _ ([] : List Int) _ _ ([] : List Int) _ _ ([] : List Int) _ _ ([] : List Int) _ _ l0_5 a0_0 _ _ l0_1 _ _ l0_2 _ _ l0_3 _ _ l0_4 _ _ l0_5 t302 _ ?side1 ?side2 ?side3 ?side4 ?side5 ?side6 ?side7 ?side8 ?side9 ?side10 ?side11 ?side12 ?side13 ?side14 ?side15 ?side16 ?side17 ?side18 ?side19 ?side20 A2.out).mono ?_); (case side1 => exact Kd.C_nil _ _); (case side2 => exact Nat.le_refl _); (case side3 => exact Kd.C_nil _ _); (case side4 => exact Nat.le_refl _); (case side5 => exact Kd.C_nil _ _); (case side6 => exact Nat.le_refl _); (case side7 => exact Kd.C_nil _ _); (case side8 => exact Nat.le_refl _); (case side9 => exact kV (yY HR0_5.out HB.out)); (case side10 => exact HC0_5.out); (case side11 => exact kV (yY HR0_1.out HB.out)); (case side12 => exact HC0_1.out); (case side13 => exact kV (yY HR0_2.out HB.out)); (case side14 => exact HC0_2.out); (case side15 => exact kV (yY HR0_3.out HB.out)); (case side16 => exact HC0_3.out); (case side17 => exact kV (yY HR0_4.out HB.out)); (case side18 => exact HC0_4.out); (case side19 => exact kV (yY HR0_5.out HB.out)); (case side20 => exact HC0_5.out); rintro e w6 ⟨rfl, hb⟩; refine ⟨_, rfl, ?_⟩; have n0_ := yD (zB (kN BK301) hb); have n1_ := yD (zC (kB HB) hb); clear BK301; clear HB; have BK301 := n0_; have HB := n1_; clear n0_ n1_; (try clear hb); (try clear hb2); (try clear hk); (try clear hi); obtain ⟨hcz7_0, hcz7_1, hcz7_2, hcz7_3, hcz7_4, hcz7_5⟩ := cz6 BK301.out; obtain ⟨hfz7_0, hfz7_1, hfz7_2, hfz7_3, hfz7_4, hfz7_5⟩ := fz6 BK301.out))
 (try simp only [Act.put, zH, zI, zJ])
 go_cut [13] (fun v13 wc => ∃ (kq : Nat) (x13_2 : Bool), v13 = .bool x13_2 ∧ Aside0 (impl_FormedSelection.j0 kq t302 a0_0 x13_2 a0_0 l0_1 l0_2 l0_3 l0_4 l0_5 = some r) ∧ Aside0 (kq ≤ k) ∧ Aside0 (wc.heap[gb301]? = some (.cells #[.int .i64 a0_0, (.slice A0_1 l0_1.length c0_1), (.slice A0_2 l0_2.length c0_2), (.slice A0_3 l0_3.length c0_3), (.slice A0_4 l0_4.length c0_4), (.slice A0_5 l0_5.length c0_5)] 55 (0, 0))) ∧ Aside0 (Below w.heap.size w wc))
 case first =>
  have H := HC3.out; clear HC3
  by_cases c8 : a0_0 = 1
  ·
   rw [if_pos c8] at H
   have c8b0 : (a0_0 == 1) = true := beq_iff_eq.mpr c8
   have c8b1 : (a0_0 != 1) = false := bne_eq_false_iff_eq.mpr c8
   clear c8
   (first | rw [c8b0] | (simp only [i64_w, i32_w]; rw [c8b0]) | (simp only [bne] at c8b0; rw [c8b0]) | skip)
   have H' := yD H
   clear H
   go_wp2
   go_meet
   case rel => exact ⟨_, ((a0_0 == 1)), (by first | rfl | (simp; done) | (simp [*]; done)), H', ⟨by first | omega | exact Nat.le_refl _⟩, ⟨by (with_reducible repeat (first | refine yM ?_ _ | refine yO ?_ | refine yN ?_ _)); exact BK301.out⟩, ⟨kR0 HB⟩⟩
  ·
   rw [if_neg c8] at H
   have c8b0 : (a0_0 == 1) = false := beq_eq_false_iff_ne.mpr c8
   have c8b1 : (a0_0 != 1) = true := bne_iff_ne.mpr c8
   (first | rw [c8b0] | (simp only [i64_w, i32_w]; rw [c8b0]) | (simp only [bne] at c8b0; rw [c8b0]) | skip)
   have H' := yD H
   clear H
   go_wp2
   go_meet
   case rel => exact ⟨_, ((a0_0 == 2)), (by first | rfl | (simp; done) | (simp [*]; done)), H', ⟨by first | omega | exact Nat.le_refl _⟩, ⟨by (with_reducible repeat (first | refine yM ?_ _ | refine yO ?_ | refine yN ?_ _)); exact BK301.out⟩, ⟨kR0 HB⟩⟩
 case rest =>
  clear HC3; try clear c1; try clear p2; try clear c8; try clear c8b0; try clear c8b1; try clear hcz5_0; try clear hcz5_1; try clear hcz5_2; try clear hcz5_3; try clear hcz5_4; try clear hcz5_5; try clear hcz7_0; try clear hcz7_1; try clear hcz7_2; try clear hcz7_3; try clear hcz7_4; try clear hcz7_5; try clear hfz5_0; try clear hfz5_1; try clear hfz5_2; try clear hfz5_3; try clear hfz5_4; try clear hfz5_5; try clear hfz7_0; try clear hfz7_1; try clear hfz7_2; try clear hfz7_3; try clear hfz7_4; try clear hfz7_5
  obtain ⟨kq, x13_2, rfl, HA, HJ2, BK301, HB⟩ := hcut
  cases kq with
  | zero => exact absurd HA.out (by simp [impl_FormedSelection.j0])
  | succ kj2 =>
   have H := HA.out; clear HA
   simp only [impl_FormedSelection.j0] at H
   by_cases c9 : x13_2 = true
   ·
    subst c9
    have H1 : (if t302 = true then (some ((l0_5.length : Int) == 0)) else (some false)) = some r := by rw [if_pos rfl] at H; exact H
    clear H; have H := H1; clear H1
    by_cases c10 : t302 = true
    ·
     subst c10
     have H1 : (some ((l0_5.length : Int) == 0)) = some r := by rw [if_pos rfl] at H; exact H
     clear H; have H := H1; clear H1; obtain rfl := Option.some.inj H
     obtain ⟨hcz11_0, hcz11_1, hcz11_2, hcz11_3, hcz11_4, hcz11_5⟩ := cz6 BK301.out
     obtain ⟨hfz11_0, hfz11_1, hfz11_2, hfz11_3, hfz11_4, hfz11_5⟩ := fz6 BK301.out
     go_wp2
     go_ret
     exact ⟨by first | rfl | (simp <;> rfl) | (simp [*] <;> rfl), kR0 HB⟩
    ·
     replace c10 := Bool.eq_false_iff.mpr c10
     subst c10
     have H1 : (some false) = some r := by rw [if_neg (show ¬ (false = true) by decide)] at H; exact H
     clear H; have H := H1; clear H1; obtain rfl := Option.some.inj H
     go_wp2
     go_ret
     exact ⟨by first | rfl | (simp <;> rfl) | (simp [*] <;> rfl), kR0 HB⟩
   ·
    replace c9 := Bool.eq_false_iff.mpr c9
    subst c9
    have H1 : (if a0_0 = 3 then (if (l0_5.length : Int) = 0 then ((impl_Selection_slabFormed.f kj2 a0_0 l0_1 l0_2 l0_3 l0_4 l0_5).bind fun t303 => (some t303)) else (some false)) else (if a0_0 = 4 then (if t302 = true then ((impl_Selection_pointsFormed.f kj2 a0_0 l0_1 l0_2 l0_3 l0_4 l0_5).bind fun t304 => (some t304)) else (some false)) else (some false))) = some r := by rw [if_neg (show ¬ (false = true) by decide)] at H; exact H
    clear H; have H := H1; clear H1
    by_cases c12 : a0_0 = 3
    ·
     rw [if_pos c12] at H
     have c12b0 : (a0_0 == 3) = true := beq_iff_eq.mpr c12
     have c12b1 : (a0_0 != 3) = false := bne_eq_false_iff_eq.mpr c12
     clear c12
     by_cases c13 : (l0_5.length : Int) = 0
     ·
      rw [if_pos c13] at H
      have c13b0 : ((l0_5.length : Int) == 0) = true := beq_iff_eq.mpr c13
      have c13b1 : ((l0_5.length : Int) != 0) = false := bne_eq_false_iff_eq.mpr c13
      clear c13
      obtain ⟨t303, A140, H⟩ := zW_ H
      replace H : (some t303) = some r := H
      have A14 := yD A140
      clear A140; obtain rfl := Option.some.inj H
      obtain ⟨hcz15_0, hcz15_1, hcz15_2, hcz15_3, hcz15_4, hcz15_5⟩ := cz6 BK301.out
      obtain ⟨hfz15_0, hfz15_1, hfz15_2, hfz15_3, hfz15_4, hfz15_5⟩ := fz6 BK301.out
      go_wp2_with (first | (go_at_call 138; (with_reducible refine (impl_Selection_slabFormed.calls kj2 a0_0 _ _ l0_1 _ _ l0_2 _ _ l0_3 _ _ l0_4 _ _ l0_5 t303 _ ?side1 ?side2 ?side3 ?side4 ?side5 ?side6 ?side7 ?side8 ?side9 ?side10 A14.out).mono ?_); (case side1 => exact kV (yY HR0_1.out HB.out)); (case side2 => exact HC0_1.out); (case side3 => exact kV (yY HR0_2.out HB.out)); (case side4 => exact HC0_2.out); (case side5 => exact kV (yY HR0_3.out HB.out)); (case side6 => exact HC0_3.out); (case side7 => exact kV (yY HR0_4.out HB.out)); (case side8 => exact HC0_4.out); (case side9 => exact kV (yY HR0_5.out HB.out)); (case side10 => exact HC0_5.out); rintro e w16 ⟨rfl, hb⟩; have n0_ := yD (zB (kN BK301) hb); have n1_ := yD (zC (kB HB) hb); clear BK301; clear HB; have BK301 := n0_; have HB := n1_; clear n0_ n1_; (try clear hb); (try clear hb2); (try clear hk); (try clear hi)))
      go_ret
      exact ⟨by first | rfl | (simp <;> rfl) | (simp [*] <;> rfl), kR0 HB⟩
     ·
      rw [if_neg c13] at H
      have c13b0 : ((l0_5.length : Int) == 0) = false := beq_eq_false_iff_ne.mpr c13
      have c13b1 : ((l0_5.length : Int) != 0) = true := bne_iff_ne.mpr c13
      have c13b2 : ¬ (l0_5 = []) := fun h_ => c13 (by rw [h_]; rfl)
      obtain rfl := Option.some.inj H
      obtain ⟨hcz17_0, hcz17_1, hcz17_2, hcz17_3, hcz17_4, hcz17_5⟩ := cz6 BK301.out
      obtain ⟨hfz17_0, hfz17_1, hfz17_2, hfz17_3, hfz17_4, hfz17_5⟩ := fz6 BK301.out
      go_wp2
      go_ret
      exact ⟨by first | rfl | (simp <;> rfl) | (simp [*] <;> rfl), kR0 HB⟩
    ·
     rw [if_neg c12] at H
     have c12b0 : (a0_0 == 3) = false := beq_eq_false_iff_ne.mpr c12
     have c12b1 : (a0_0 != 3) = true := bne_iff_ne.mpr c12
     by_cases c18 : a0_0 = 4
     ·
      rw [if_pos c18] at H
      have c18b0 : (a0_0 == 4) = true := beq_iff_eq.mpr c18
      have c18b1 : (a0_0 != 4) = false := bne_eq_false_iff_eq.mpr c18
      clear c18
      by_cases c19 : t302 = true
      ·
       subst c19
       have H1 : ((impl_Selection_pointsFormed.f kj2 a0_0 l0_1 l0_2 l0_3 l0_4 l0_5).bind fun t304 => (some t304)) = some r := by rw [if_pos rfl] at H; exact H
       clear H; have H := H1; clear H1
       obtain ⟨t304, A200, H⟩ := zW_ H
       replace H : (some t304) = some r := H
       have A20 := yD A200
       clear A200; obtain rfl := Option.some.inj H
       obtain ⟨hcz21_0, hcz21_1, hcz21_2, hcz21_3, hcz21_4, hcz21_5⟩ := cz6 BK301.out
       obtain ⟨hfz21_0, hfz21_1, hfz21_2, hfz21_3, hfz21_4, hfz21_5⟩ := fz6 BK301.out
       go_wp2_with (first | (go_at_call 139; (with_reducible refine (impl_Selection_pointsFormed.calls kj2 a0_0 _ _ l0_1 _ _ l0_2 _ _ l0_3 _ _ l0_4 _ _ l0_5 t304 _ ?side1 ?side2 ?side3 ?side4 ?side5 ?side6 ?side7 ?side8 ?side9 ?side10 A20.out).mono ?_); (case side1 => exact kV (yY HR0_1.out HB.out)); (case side2 => exact HC0_1.out); (case side3 => exact kV (yY HR0_2.out HB.out)); (case side4 => exact HC0_2.out); (case side5 => exact kV (yY HR0_3.out HB.out)); (case side6 => exact HC0_3.out); (case side7 => exact kV (yY HR0_4.out HB.out)); (case side8 => exact HC0_4.out); (case side9 => exact kV (yY HR0_5.out HB.out)); (case side10 => exact HC0_5.out); rintro e w22 ⟨rfl, hb⟩; have n0_ := yD (zB (kN BK301) hb); have n1_ := yD (zC (kB HB) hb); clear BK301; clear HB; have BK301 := n0_; have HB := n1_; clear n0_ n1_; (try clear hb); (try clear hb2); (try clear hk); (try clear hi)))
       go_ret
       exact ⟨by first | rfl | (simp <;> rfl) | (simp [*] <;> rfl), kR0 HB⟩
      ·
       replace c19 := Bool.eq_false_iff.mpr c19
       subst c19
       have H1 : (some false) = some r := by rw [if_neg (show ¬ (false = true) by decide)] at H; exact H
       clear H; have H := H1; clear H1; obtain rfl := Option.some.inj H
       go_wp2
       go_ret
       exact ⟨by first | rfl | (simp <;> rfl) | (simp [*] <;> rfl), kR0 HB⟩
     ·
      rw [if_neg c18] at H
      have c18b0 : (a0_0 == 4) = false := beq_eq_false_iff_ne.mpr c18
      have c18b1 : (a0_0 != 4) = true := bne_iff_ne.mpr c18
      obtain rfl := Option.some.inj H
      go_wp2
      go_ret
      exact ⟨by first | rfl | (simp <;> rfl) | (simp [*] <;> rfl), kR0 HB⟩

/-! ### impl_inDims: function 143 -/
def impl_inDims.l0 : Nat → List Int → List Int → Int → Int → Option (Bool)
 | 0, _, _, _, _ => none
 | k + 1, x0, x12, x13, x14 => if x14 < x13 then (if 0 ≤ x14 then (if x14 < (x12.length : Int) then (if x14 < (x0.length : Int) then ((impl_within.f (rd x12 x14) 0 (wrap64 ((rd x0 x14) - 1))).bind fun t307 => (if t307 = true then (impl_inDims.l0 k x0 x12 x13 (wrap64 (x14 + 1))) else (some false))) else (none)) else (none)) else (none)) else (some true)
def impl_inDims.f (k : Nat) (l0 : List Int) (l1 : List Int) : Option (Bool) := if (l1.length : Int) = (l0.length : Int) then (impl_inDims.l0 k l0 l1 (l1.length : Int) 0) else (some false)
theorem impl_inDims.mono_l : ∀ k, (∀ y0 y1 y2 y3, LeO (impl_inDims.l0 k y0 y1 y2 y3) (impl_inDims.l0 (k + 1) y0 y1 y2 y3))
 | 0 => fun _ _ _ _ r h => by simp [impl_inDims.l0] at h
 | k + 1 => by
  have ih0 := impl_inDims.mono_l k
  ·
   intro y0 y1 y2 y3
   unfold impl_inDims.l0
   repeat' (with_reducible first | exact ih0 _ _ _ _ | exact LeO.refl _ | exact LeO.none _ | refine LeO.ite ?_ ?_ | refine LeO.bind ?_ (fun _ => ?_))
theorem impl_inDims.mono : ∀ a0 a1 k, LeO (impl_inDims.f k a0 a1) (impl_inDims.f (k + 1) a0 a1) := by
 intro a0 a1 k
 have ih0 := impl_inDims.mono_l k
 unfold impl_inDims.f
 repeat' (with_reducible first | exact ih0 _ _ _ _ | exact LeO.refl _ | exact LeO.none _ | refine LeO.ite ?_ ?_ | refine LeO.bind ?_ (fun _ => ?_))
set_option maxHeartbeats 8000000 in
set_option maxRecDepth 100000 in
theorem impl_inDims.calls (k : Nat) (A0 : Option Addr) (c0 : Nat) (l0 : List Int) (A1 : Option Addr) (c1 : Nat) (l1 : List Int) (r : Bool) (w : World) (hr0 : Kd.C (Kd.int .i64) w A0 l0.length l0) (hc0 : l0.length ≤ c0) (hr1 : Kd.C (Kd.int .i64) w A1 l1.length l1) (hc1 : l1.length ≤ c1) (h : impl_inDims.f k l0 l1 = some r) :
 Calls Try.prog 143 #[.slice A0 l0.length c0, .slice A1 l1.length c1] w fun e w' => e = .returned (.bool r) ∧ Drawn0 w w' := by
 have HR0 := yD hr0
 have HC0 := yD hc0
 clear hr0 hc0
 have HR1 := yD hr1
 have HC1 := yD hc1
 clear hr1 hc1
 have H : (if (l1.length : Int) = (l0.length : Int) then (impl_inDims.l0 k l0 l1 (l1.length : Int) 0) else (some false)) = some r := h
 clear h
 by_cases c3 : (l1.length : Int) = (l0.length : Int)
 ·
  rw [if_pos c3] at H
  have c3b0 : ((l1.length : Int) == (l0.length : Int)) = true := beq_iff_eq.mpr c3
  have c3b1 : ((l1.length : Int) != (l0.length : Int)) = false := bne_eq_false_iff_eq.mpr c3
  have c3b2 : (l1.length == l0.length) = true := by first | simpa using c3 | (simp at c3 ⊢; omega)
  clear c3
  have H' := yD H
  clear H; go_enter Try.func143, Try.ntmps143
  go_wp2
  go_loopg [14] k (fun kq v14 w' => ∃ (x14_1 : Int), v14 = .int .i64 x14_1 ∧ Aside0 (impl_inDims.l0 kq l0 l1 (l1.length : Int) x14_1 = some r) ∧ Aside0 (kq ≤ k) ∧ Drawn0 w w')
  case atStart => exact ⟨(0), (by first | rfl | (simp; done) | (simp [*]; done)), H', ⟨Nat.le_refl _⟩, by repeat (first | exact Drawn0.refl _ | apply Drawn0.step)⟩
  case round =>
   clear H'
   try clear c1; try clear p2; try clear c3; try clear c3b0; try clear c3b1; try clear c3b2
   obtain ⟨x14_1, rfl, HA, HK1, ⟨m1, rfl⟩⟩ := hrel
   cases gk with
   | zero => exact absurd HA.out (by simp [impl_inDims.l0])
   | succ k1 =>
    have H := HA.out; clear HA
    simp only [impl_inDims.l0] at H
    by_cases c4 : x14_1 < (l1.length : Int)
    ·
     rw [if_pos c4] at H; have c4b0 : decide (x14_1 < (l1.length : Int)) = true := zR c4; clear c4
     by_cases c5 : 0 ≤ x14_1
     ·
      rw [if_pos c5] at H; have c5b0 : decide (0 ≤ x14_1) = true := zR c5; clear c5
      by_cases c6 : x14_1 < (l1.length : Int)
      ·
       rw [if_pos c6] at H; have c6b0 : decide (x14_1 < (l1.length : Int)) = true := zR c6; clear c6
       by_cases c7 : x14_1 < (l0.length : Int)
       ·
        rw [if_pos c7] at H; have c7b0 : decide (x14_1 < (l0.length : Int)) = true := zR c7; clear c7
        obtain ⟨t307, A80, H⟩ := zW_ H
        replace H : (if t307 = true then (impl_inDims.l0 k1 l0 l1 (l1.length : Int) (wrap64 (x14_1 + 1))) else (some false)) = some r := H
        have A8 := yD A80
        clear A80
        by_cases c9 : t307 = true
        ·
         subst c9
         have H1 : (impl_inDims.l0 k1 l0 l1 (l1.length : Int) (wrap64 (x14_1 + 1))) = some r := by rw [if_pos rfl] at H; exact H
         clear H; have H := H1; clear H1
         have H' := yD H
         clear H
         have p305 : 0 ≤ (x14_1 : Int) := zP (by assumption)
         have q305 : x14_1 < (l1.length : Int) := zP (by assumption)
         obtain ⟨ad305, e305, hx305_0⟩ := Kd.at_int HR1.out x14_1 p305 q305
         cases e305; replace p305 := eq_true p305; replace q305 := eq_true q305
         have p306 : 0 ≤ (x14_1 : Int) := zP (by assumption)
         have q306 : x14_1 < (l0.length : Int) := zP (by assumption)
         obtain ⟨ad306, e306, hx306_0⟩ := Kd.at_int HR0.out x14_1 p306 q306
         cases e306; replace p306 := eq_true p306; replace q306 := eq_true q306
         go_wp2_with (first | ((with_reducible refine gate_callee (f := 106) rfl ?_); refine gL 25 Try.func106 #[.int .i64 (rd l1 x14_1), .int .i64 0, .int .i64 (wrap64 ((rd l0 x14_1) - 1))] ?_; (with_reducible refine (impl_within.calls (rd l1 x14_1) 0 (wrap64 ((rd l0 x14_1) - 1)) true _ A8.out).mono ?_); rintro e w' ⟨rfl, ⟨nd, rfl⟩⟩; refine ⟨_, rfl, ?_⟩))
         go_roundg k1
         case measure => have := HK1.out; omega
         case rel => exact ⟨(wrap64 (x14_1 + 1)), (by first | rfl | (simp; done) | (simp [*]; done)), H', ⟨by have := HK1.out; omega⟩, by repeat (first | exact Drawn0.refl _ | apply Drawn0.step)⟩
        ·
         replace c9 := Bool.eq_false_iff.mpr c9
         subst c9
         have H1 : (some false) = some r := by rw [if_neg (show ¬ (false = true) by decide)] at H; exact H
         clear H; have H := H1; clear H1; obtain rfl := Option.some.inj H
         have p305 : 0 ≤ (x14_1 : Int) := zP (by assumption)
         have q305 : x14_1 < (l1.length : Int) := zP (by assumption)
         obtain ⟨ad305, e305, hx305_0⟩ := Kd.at_int HR1.out x14_1 p305 q305
         cases e305; replace p305 := eq_true p305; replace q305 := eq_true q305
         have p306 : 0 ≤ (x14_1 : Int) := zP (by assumption)
         have q306 : x14_1 < (l0.length : Int) := zP (by assumption)
         obtain ⟨ad306, e306, hx306_0⟩ := Kd.at_int HR0.out x14_1 p306 q306
         cases e306; replace p306 := eq_true p306; replace q306 := eq_true q306
         go_wp2_with (first | ((with_reducible refine gate_callee (f := 106) rfl ?_); refine gL 25 Try.func106 #[.int .i64 (rd l1 x14_1), .int .i64 0, .int .i64 (wrap64 ((rd l0 x14_1) - 1))] ?_; (with_reducible refine (impl_within.calls (rd l1 x14_1) 0 (wrap64 ((rd l0 x14_1) - 1)) false _ A8.out).mono ?_); rintro e w' ⟨rfl, ⟨nd, rfl⟩⟩; refine ⟨_, rfl, ?_⟩))
         go_ret
         exact ⟨by first | rfl | (simp; done) | (simp [*]; done), by repeat (first | exact Drawn0.refl _ | apply Drawn0.step)⟩
       ·
        rw [if_neg c7] at H
        exact absurd H (by simp)
      ·
       rw [if_neg c6] at H
       exact absurd H (by simp)
     ·
      rw [if_neg c5] at H
      exact absurd H (by simp)
    ·
     rw [if_neg c4] at H; have c4b0 : decide (x14_1 < (l1.length : Int)) = false := zS c4; clear c4; obtain rfl := Option.some.inj H
     go_wp2
     go_ret
     exact ⟨by first | rfl | (simp; done) | (simp [*]; done), by repeat (first | exact Drawn0.refl _ | apply Drawn0.step)⟩
 ·
  rw [if_neg c3] at H
  have c3b0 : ((l1.length : Int) == (l0.length : Int)) = false := beq_eq_false_iff_ne.mpr c3
  have c3b1 : ((l1.length : Int) != (l0.length : Int)) = true := bne_iff_ne.mpr c3
  have c3b2 : (l1.length == l0.length) = false := by first | simpa using c3 | (simp at c3 ⊢; omega)
  obtain rfl := Option.some.inj H; go_enter Try.func143, Try.ntmps143
  go_wp2
  go_ret
  exact ⟨by first | rfl | (simp; done) | (simp [*]; done), by repeat (first | exact Drawn0.refl _ | apply Drawn0.step)⟩

/-! ### impl_Selection_fits_1: function 142 -/
def impl_Selection_fits_1.f (k : Nat) (l0_0 : List Int) (l1_0 : List Int) : Option (Bool) := (impl_inDims.f k l1_0 l0_0).bind fun t309 => (some (!t309))
theorem impl_Selection_fits_1.mono : ∀ a0 a1 k, LeO (impl_Selection_fits_1.f k a0 a1) (impl_Selection_fits_1.f (k + 1) a0 a1) := by
 intro a0 a1 k
 unfold impl_Selection_fits_1.f
 repeat' (with_reducible first | exact impl_inDims.mono _ _ _ | exact LeO.refl _ | exact LeO.none _ | refine LeO.ite ?_ ?_ | refine LeO.bind ?_ (fun _ => ?_))
set_option maxHeartbeats 8000000 in
set_option maxRecDepth 100000 in
theorem impl_Selection_fits_1.calls (k : Nat) (A0_0 : Option Addr) (c0_0 : Nat) (l0_0 : List Int) (g1_0 : Nat) (A1_0 : Option Addr) (c1_0 : Nat) (l1_0 : List Int) (r : Bool) (w : World) (hr0_0 : Kd.C (Kd.int .i64) w A0_0 l0_0.length l0_0) (hc0_0 : l0_0.length ≤ c0_0) (hr1_0 : Kd.C (Kd.int .i64) w A1_0 l1_0.length l1_0) (hc1_0 : l1_0.length ≤ c1_0) (hb1_0 : w.heap[g1_0]? = some (.cells #[.slice A1_0 l1_0.length c1_0] 36 (0, 0))) (h : impl_Selection_fits_1.f k l0_0 l1_0 = some r) :
 Calls Try.prog 142 #[.agg #[.slice A0_0 l0_0.length c0_0], .pointer (some ⟨g1_0, 0, none⟩)] w fun e w' => e = .returned (.bool r) ∧ Below w.heap.size w w' := by
 have hu110 := Try.underlying110
 have HR0_0 := yD hr0_0
 have HC0_0 := yD hc0_0
 clear hr0_0 hc0_0
 have HR1_0 := yD hr1_0
 have HC1_0 := yD hc1_0
 clear hr1_0 hc1_0
 have BK48 := yD hb1_0
 clear hb1_0
 have HB := yD (Below.refl w.heap.size w)
 have H : ((impl_inDims.f k l1_0 l0_0).bind fun t309 => (some (!t309))) = some r := h
 clear h
 obtain ⟨t309, A30, H⟩ := zW_ H
 replace H : (some (!t309)) = some r := H
 have A3 := yD A30
 clear A30; obtain rfl := Option.some.inj H; go_enter Try.func142, Try.ntmps142
 go_wp2_with (first | ((with_reducible refine gate_dst (N := 2) rfl ?_); refine box_event ?hg (N := 2) ?hd (cs := #[.slice A0_0 l0_0.length c0_0]) (t := 110) ?hr ?_; (case hd => rfl); (case hg => rfl); (case hr => first | (go_simp; done) | (go_simp; rfl)); intro gb308 hg w4 hbox hb; have n0_ := yD (zB (kN BK48) hb); have n1_ := yD (zC (kB HB) hb); have n2_ := yD (hbox); have n3_ := yD ((by rw [hg]; exact (below_size (kB HB)) : w.heap.size ≤ gb308)); have n4_ := yD ((by rw [hg]; exact (below_size (kB HB)) : w.heap.size ≤ gb308)); have n5_ := yD ((by rw [hg]; exact Nat.ne_of_lt (blk_lt (kN BK48)) : g1_0 ≠ gb308)); have n6_ := yD ((by rw [hg]; exact Nat.ne_of_gt (blk_lt (kN BK48)) : gb308 ≠ g1_0)); clear BK48; clear HB; have BK48 := n0_; have HB := n1_; have BK308 := n2_; have GW308 := n3_; have GE308 := n4_; have NB48_308 := n5_; have NB308_48 := n6_; clear n0_ n1_ n2_ n3_ n4_ n5_ n6_; clear hb hbox hg; have hnb5 := NB48_308.out; have hnc5 := NB308_48.out; have hcz6_0 : w4.cell? ⟨g1_0, 0, none⟩ = some (.slice A1_0 l1_0.length c1_0) := (yG BK48.out 0).trans rfl; have hfz6_0 := yR BK48.out 0; have hcz7_0 : w4.cell? ⟨gb308, 0, none⟩ = some (.slice A0_0 l0_0.length c0_0) := (yG BK308.out 0).trans rfl; have hfz7_0 := yR BK308.out 0) | ((with_reducible refine gate_callee (f := 143) rfl ?_); refine gL 7 Try.func143 #[.slice A1_0 l1_0.length c1_0, .slice A0_0 l0_0.length c0_0] ?_; (with_reducible refine (impl_inDims.calls k _ _ l1_0 _ _ l0_0 t309 _ ?side1 ?side2 ?side3 ?side4 A3.out).mono ?_); (case side1 => exact kV (yY HR1_0.out HB.out)); (case side2 => exact HC1_0.out); (case side3 => exact kV (yY HR0_0.out HB.out)); (case side4 => exact HC0_0.out); rintro e w' ⟨rfl, ⟨nd, rfl⟩⟩; refine ⟨_, rfl, ?_⟩))
 go_ret
 exact ⟨by first | rfl | (simp <;> rfl) | (simp [*] <;> rfl), kR0 HB⟩

/-! ### slices_IndexFunc_impl_Selection_fits_1: function 158 -/
def slices_IndexFunc_impl_Selection_fits_1.l0 : Nat → List (S110) → Int → Int → List Int → Option (Int)
 | 0, _, _, _, _ => none
 | k + 1, x0, x7, x8, x49000 => if x8 < x7 then (if 0 ≤ x8 then (if x8 < (x0.length : Int) then ((impl_Selection_fits_1.f k ((rd_T110 x0 x8).f0) x49000).bind fun t311 => (if t311 = true then (some x8) else (slices_IndexFunc_impl_Selection_fits_1.l0 k x0 x7 (wrap64 (x8 + 1)) x49000))) else (none)) else (none)) else (some (-1))
def slices_IndexFunc_impl_Selection_fits_1.f (k : Nat) (l0 : List (S110)) (l1_0 : List Int) : Option (Int) := slices_IndexFunc_impl_Selection_fits_1.l0 k l0 (l0.length : Int) 0 l1_0
theorem slices_IndexFunc_impl_Selection_fits_1.mono_l : ∀ k, (∀ y0 y1 y2 y3, LeO (slices_IndexFunc_impl_Selection_fits_1.l0 k y0 y1 y2 y3) (slices_IndexFunc_impl_Selection_fits_1.l0 (k + 1) y0 y1 y2 y3))
 | 0 => fun _ _ _ _ r h => by simp [slices_IndexFunc_impl_Selection_fits_1.l0] at h
 | k + 1 => by
  have ih0 := slices_IndexFunc_impl_Selection_fits_1.mono_l k
  ·
   intro y0 y1 y2 y3
   unfold slices_IndexFunc_impl_Selection_fits_1.l0
   repeat' (with_reducible first | exact ih0 _ _ _ _ | exact impl_Selection_fits_1.mono _ _ _ | exact LeO.refl _ | exact LeO.none _ | refine LeO.ite ?_ ?_ | refine LeO.bind ?_ (fun _ => ?_))
theorem slices_IndexFunc_impl_Selection_fits_1.mono : ∀ a0 a1 k, LeO (slices_IndexFunc_impl_Selection_fits_1.f k a0 a1) (slices_IndexFunc_impl_Selection_fits_1.f (k + 1) a0 a1) := by
 intro a0 a1 k
 have ih0 := slices_IndexFunc_impl_Selection_fits_1.mono_l k
 unfold slices_IndexFunc_impl_Selection_fits_1.f
 repeat' (with_reducible first | exact ih0 _ _ _ _ | exact impl_Selection_fits_1.mono _ _ _ | exact LeO.refl _ | exact LeO.none _ | refine LeO.ite ?_ ?_ | refine LeO.bind ?_ (fun _ => ?_))
set_option maxHeartbeats 8000000 in
set_option maxRecDepth 100000 in
theorem slices_IndexFunc_impl_Selection_fits_1.calls (k : Nat) (A0 : Option Addr) (c0 : Nat) (l0 : List (S110)) (g1_0 : Nat) (A1_0 : Option Addr) (c1_0 : Nat) (l1_0 : List Int) (r : Int) (w : World) (hr0 : Kd.C k110 w A0 l0.length l0) (hc0 : l0.length ≤ c0) (hr1_0 : Kd.C (Kd.int .i64) w A1_0 l1_0.length l1_0) (hc1_0 : l1_0.length ≤ c1_0) (hb1_0 : w.heap[g1_0]? = some (.cells #[.slice A1_0 l1_0.length c1_0] 36 (0, 0))) (h : slices_IndexFunc_impl_Selection_fits_1.f k l0 l1_0 = some r) :
 Calls Try.prog 158 #[.slice A0 l0.length c0, .func (.func 142) #[] #[.pointer (some ⟨g1_0, 0, none⟩)]] w fun e w' => e = .returned (.int .i64 r) ∧ Below w.heap.size w w' := by
 have hu110 := Try.underlying110
 have HR0 := yD hr0
 have HC0 := yD hc0
 clear hr0 hc0
 have HR1_0 := yD hr1_0
 have HC1_0 := yD hc1_0
 clear hr1_0 hc1_0
 have BK48 := yD hb1_0
 clear hb1_0
 have HB := yD (Below.refl w.heap.size w)
 have H : (slices_IndexFunc_impl_Selection_fits_1.l0 k l0 (l0.length : Int) 0 l1_0) = some r := h
 clear h
 have H' := yD H
 clear H; go_enter Try.func158, Try.ntmps158
 go_wp2
 go_loopg [8] k (fun kq v8 w' => ∃ (x8_1 : Int), v8 = .int .i64 x8_1 ∧ Aside0 (slices_IndexFunc_impl_Selection_fits_1.l0 kq l0 (l0.length : Int) x8_1 l1_0 = some r) ∧ Aside0 (kq ≤ k) ∧ Aside0 (w'.heap[g1_0]? = some (.cells #[(.slice A1_0 l1_0.length c1_0)] 36 (0, 0))) ∧ Aside0 (Below w.heap.size w w'))
 case atStart => exact ⟨(0), (by first | rfl | (simp; done) | (simp [*]; done)), H', ⟨Nat.le_refl _⟩, ⟨by (with_reducible repeat (first | refine yM ?_ _ | refine yO ?_ | refine yN ?_ _)); exact BK48.out⟩, ⟨kR0 HB⟩⟩
 case round =>
  clear H'
  try clear c1; try clear p2
  obtain ⟨x8_1, rfl, HA, HK1, BK48, HB⟩ := hrel
  cases gk with
  | zero => exact absurd HA.out (by simp [slices_IndexFunc_impl_Selection_fits_1.l0])
  | succ k1 =>
   have H := HA.out; clear HA
   simp only [slices_IndexFunc_impl_Selection_fits_1.l0] at H
   by_cases c3 : x8_1 < (l0.length : Int)
   ·
    rw [if_pos c3] at H; have c3b0 : decide (x8_1 < (l0.length : Int)) = true := zR c3; clear c3
    by_cases c4 : 0 ≤ x8_1
    ·
     rw [if_pos c4] at H; have c4b0 : decide (0 ≤ x8_1) = true := zR c4; clear c4
     by_cases c5 : x8_1 < (l0.length : Int)
     ·
      rw [if_pos c5] at H; have c5b0 : decide (x8_1 < (l0.length : Int)) = true := zR c5; clear c5
      obtain ⟨t311, A60, H⟩ := zW_ H
      replace H : (if t311 = true then (some x8_1) else (slices_IndexFunc_impl_Selection_fits_1.l0 k1 l0 (l0.length : Int) (wrap64 (x8_1 + 1)) l1_0)) = some r := H
      have A6 := yD A60
      clear A60
      by_cases c7 : t311 = true
      ·
       subst c7
       have H1 : (some x8_1) = some r := by rw [if_pos rfl] at H; exact H
       clear H; have H := H1; clear H1; obtain rfl := Option.some.inj H
       have p310 : 0 ≤ (x8_1 : Int) := zP (by assumption)
       have q310 : x8_1 < (l0.length : Int) := zP (by assumption)
       obtain ⟨ad310, A310_0, c310_0, e310, hx310_0, hl310_0, hi310_0⟩ := at_T110 HR0.out x8_1 p310 q310
       cases e310
       replace hx310_0 := (HB.out.cell (zQ w _ hx310_0)).trans hx310_0
       have HR310_0 := yD hi310_0
       have HC310_0 := yD hl310_0
       clear hi310_0 hl310_0; replace p310 := eq_true p310; replace q310 := eq_true q310
       go_wp2_with (first | (go_at_call 142; (with_reducible refine (impl_Selection_fits_1.calls k1 _ _ ((rd_T110 l0 x8_1).f0) g1_0 A1_0 c1_0 l1_0 true _ ?side1 ?side2 ?side3 ?side4 ?side5 A6.out).mono ?_); (case side1 => exact kV (yY HR310_0.out HB.out)); (case side2 => exact HC310_0.out); (case side3 => exact kV (yY HR1_0.out HB.out)); (case side4 => exact HC1_0.out); (case side5 => (with_reducible repeat (first | refine yM ?_ _ | refine yO ?_ | refine yN ?_ _)); exact BK48.out); rintro e w8 ⟨rfl, hb⟩; have n0_ := yD (zB (kN BK48) hb); have n1_ := yD (zC (kB HB) hb); clear BK48; clear HB; have BK48 := n0_; have HB := n1_; clear n0_ n1_; (try clear hb); (try clear hb2); (try clear hk); (try clear hi)))
       go_ret
       exact ⟨by first | rfl | (simp <;> rfl) | (simp [*] <;> rfl), kR0 HB⟩
      ·
       replace c7 := Bool.eq_false_iff.mpr c7
       subst c7
       have H1 : (slices_IndexFunc_impl_Selection_fits_1.l0 k1 l0 (l0.length : Int) (wrap64 (x8_1 + 1)) l1_0) = some r := by rw [if_neg (show ¬ (false = true) by decide)] at H; exact H
       clear H; have H := H1; clear H1
       have H' := yD H
       clear H
       have p310 : 0 ≤ (x8_1 : Int) := zP (by assumption)
       have q310 : x8_1 < (l0.length : Int) := zP (by assumption)
       obtain ⟨ad310, A310_0, c310_0, e310, hx310_0, hl310_0, hi310_0⟩ := at_T110 HR0.out x8_1 p310 q310
       cases e310
       replace hx310_0 := (HB.out.cell (zQ w _ hx310_0)).trans hx310_0
       have HR310_0 := yD hi310_0
       have HC310_0 := yD hl310_0
       clear hi310_0 hl310_0; replace p310 := eq_true p310; replace q310 := eq_true q310
       go_wp2_with (first | (go_at_call 142; (with_reducible refine (impl_Selection_fits_1.calls k1 _ _ ((rd_T110 l0 x8_1).f0) g1_0 A1_0 c1_0 l1_0 false _ ?side1 ?side2 ?side3 ?side4 ?side5 A6.out).mono ?_); (case side1 => exact kV (yY HR310_0.out HB.out)); (case side2 => exact HC310_0.out); (case side3 => exact kV (yY HR1_0.out HB.out)); (case side4 => exact HC1_0.out); (case side5 => (with_reducible repeat (first | refine yM ?_ _ | refine yO ?_ | refine yN ?_ _)); exact BK48.out); rintro e w9 ⟨rfl, hb⟩; have n0_ := yD (zB (kN BK48) hb); have n1_ := yD (zC (kB HB) hb); clear BK48; clear HB; have BK48 := n0_; have HB := n1_; clear n0_ n1_; (try clear hb); (try clear hb2); (try clear hk); (try clear hi)))
       go_roundg k1
       case measure => have := HK1.out; omega
       case rel => exact ⟨(wrap64 (x8_1 + 1)), (by first | rfl | (simp; done) | (simp [*]; done)), H', ⟨by have := HK1.out; omega⟩, ⟨by (with_reducible repeat (first | refine yM ?_ _ | refine yO ?_ | refine yN ?_ _)); exact BK48.out⟩, ⟨kR0 HB⟩⟩
     ·
      rw [if_neg c5] at H
      exact absurd H (by simp)
    ·
     rw [if_neg c4] at H
     exact absurd H (by simp)
   ·
    rw [if_neg c3] at H; have c3b0 : decide (x8_1 < (l0.length : Int)) = false := zS c3; clear c3; obtain rfl := Option.some.inj H
    go_wp2
    go_ret
    exact ⟨by first | rfl | (simp <;> rfl) | (simp [*] <;> rfl), kR0 HB⟩

end Go.Proofs.Ytdiaebjbiddefaa.PFnExactSelectedIndices
