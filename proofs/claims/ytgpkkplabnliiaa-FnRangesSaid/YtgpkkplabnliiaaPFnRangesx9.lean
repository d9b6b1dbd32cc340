/- Each Go function here comes to what the plain function of its name says, where that says something. Made by a program of this session, over the print. -/
import Derived.Test.YtgpkkplabnliiaaPFnRangesx0
import Derived.Test.YtgpkkplabnliiaaPFnRangesx8
namespace Go.Proofs.Ytgpkkplabnliiaa.PFnRanges
open Go.RowKit Go.Proofs.YtgpkkplabnliiaaW.PrintWords Go.Proofs.YtgpkkplabnliiaaW.PrintLast Go.Proofs.YtgpkkplabnliiaaW.PrintMore
attribute [local go_sem] max2_int min2_int max_two min_two max_three min_three max_four min_four   -- for this text's walks alone
set_option linter.unusedVariables false
set_option linter.unusedSimpArgs false

/-! ### slices_EqualFunc_slices_Equal_int64_int64: function 105 -/
def slices_EqualFunc_slices_Equal_int64_int64.l0 : Nat → List (List Int) → List (List Int) → Int → Int → Option (Bool)
 | 0, _, _, _, _ => none
 | k + 1, x1, x15, x16, x17 => if x17 < x16 then (if 0 ≤ x17 then (if x17 < (x15.length : Int) then (if x17 < (x1.length : Int) then ((slices_Equal_int64_int64.f k (rd_L2 x15 x17) (rd_L2 x1 x17)).bind fun t356 => (if t356 = true then (slices_EqualFunc_slices_Equal_int64_int64.l0 k x1 x15 x16 (wrap64 (x17 + 1))) else (some false))) else (none)) else (none)) else (none)) else (some true)
def slices_EqualFunc_slices_Equal_int64_int64.f (k : Nat) (l0 : List (List Int)) (l1 : List (List Int))  : Option (Bool) := if (l0.length : Int) = (l1.length : Int) then (slices_EqualFunc_slices_Equal_int64_int64.l0 k l1 l0 (l0.length : Int) 0) else (some false)
theorem slices_EqualFunc_slices_Equal_int64_int64.mono_l : ∀ k, (∀ y0 y1 y2 y3, LeO (slices_EqualFunc_slices_Equal_int64_int64.l0 k y0 y1 y2 y3) (slices_EqualFunc_slices_Equal_int64_int64.l0 (k + 1) y0 y1 y2 y3))
 | 0 => fun _ _ _ _ r h => by simp [slices_EqualFunc_slices_Equal_int64_int64.l0] at h
 | k + 1 => by
  have ih0 := slices_EqualFunc_slices_Equal_int64_int64.mono_l k
  ·
   intro y0 y1 y2 y3
   unfold slices_EqualFunc_slices_Equal_int64_int64.l0
   repeat' first
   | (with_reducible exact ih0 _ _ _ _)
   | (with_reducible exact slices_Equal_int64_int64.mono _ _ _)
   | (with_reducible exact LeO.refl _)
   | (with_reducible exact LeO.none _)
   | (with_reducible refine LeO.ite ?_ ?_)
   | (with_reducible refine LeO.bind ?_ (fun _ => ?_))
   | exact ih0 _ _ _ _
   | exact slices_Equal_int64_int64.mono _ _ _
   | exact LeO.none _
   | refine LeO.ite ?_ ?_
   | refine LeO.bind ?_ (fun _ => ?_)
theorem slices_EqualFunc_slices_Equal_int64_int64.mono : ∀ a0 a1 k, LeO (slices_EqualFunc_slices_Equal_int64_int64.f k a0 a1) (slices_EqualFunc_slices_Equal_int64_int64.f (k + 1) a0 a1) := by
 intro a0 a1 k
 have ih0 := slices_EqualFunc_slices_Equal_int64_int64.mono_l k
 unfold slices_EqualFunc_slices_Equal_int64_int64.f
 repeat' first
  | (with_reducible exact ih0 _ _ _ _)
  | (with_reducible exact slices_Equal_int64_int64.mono _ _ _)
  | (with_reducible exact LeO.refl _)
  | (with_reducible exact LeO.none _)
  | (with_reducible refine LeO.ite ?_ ?_)
  | (with_reducible refine LeO.bind ?_ (fun _ => ?_))
  | exact ih0 _ _ _ _
  | exact slices_Equal_int64_int64.mono _ _ _
  | exact LeO.none _
  | refine LeO.ite ?_ ?_
  | refine LeO.bind ?_ (fun _ => ?_)
set_option maxHeartbeats 8000000 in
set_option maxRecDepth 100000 in
theorem slices_EqualFunc_slices_Equal_int64_int64.calls (k : Nat) (A0 : Option Addr) (c0 : Nat) (l0 : List (List Int)) (A1 : Option Addr) (c1 : Nat) (l1 : List (List Int))  (r : Bool) (w : World) (hr0 : Kd.C (Kd.slice 2 (Kd.int .i64)) w A0 l0.length l0) (hc0 : l0.length ≤ c0) (hr1 : Kd.C (Kd.slice 2 (Kd.int .i64)) w A1 l1.length l1) (hc1 : l1.length ≤ c1) (h : slices_EqualFunc_slices_Equal_int64_int64.f k l0 l1 = some r) :
 Calls Try.prog 105 #[.slice A0 l0.length c0, .slice A1 l1.length c1, .func (.func 107) #[] #[]] w fun e w' => e = .returned (.bool r) ∧ Below w.heap.size w w' := by
 have HR0 := yD hr0
 have HC0 := yD hc0
 clear hr0 hc0
 have HR1 := yD hr1
 have HC1 := yD hc1
 clear hr1 hc1
 have HB := yD (Below.refl w.heap.size w)
 have H : (if (l0.length : Int) = (l1.length : Int) then (slices_EqualFunc_slices_Equal_int64_int64.l0 k l1 l0 (l0.length : Int) 0) else (some false)) = some r := h
 clear h
 by_cases c4 : (l0.length : Int) = (l1.length : Int)
 ·
  rw [if_pos c4] at H
  have c4b0 : ((l0.length : Int) == (l1.length : Int)) = true := beq_iff_eq.mpr c4
  have c4b1 : ((l0.length : Int) != (l1.length : Int)) = false := bne_eq_false_iff_eq.mpr c4
  have c4b2 : (l0.length == l1.length) = true := by first | simpa using c4 | (simp at c4 ⊢; omega)
  clear c4
  have H' := yD H
  clear H; go_enter Try.func105, Try.ntmps105
  go_wp2
  go_loopg [17] k (fun kq v17 w' => ∃ (x17_1 : Int), v17 = .int .i64 x17_1 ∧ Aside0 (slices_EqualFunc_slices_Equal_int64_int64.l0 kq l1 l0 (l0.length : Int) x17_1 = some r) ∧ Aside0 (kq ≤ k) ∧ Aside0 (Below w.heap.size w w'))
  case atStart => exact ⟨(0), (by first | rfl | (simp; done) | (simp [*]; done)), H', ⟨Nat.le_refl _⟩, ⟨kR0 HB⟩⟩
  case round =>
   clear H'
   try clear c1; try clear p2; try clear c4; try clear c4b0; try clear c4b1; try clear c4b2
   obtain ⟨x17_1, rfl, HA, HK1, HB⟩ := hrel
   cases gk with
   | zero => exact absurd HA.out (by simp [slices_EqualFunc_slices_Equal_int64_int64.l0])
   | succ k1 =>
    have H := HA.out; clear HA
    simp only [slices_EqualFunc_slices_Equal_int64_int64.l0] at H
    by_cases c5 : x17_1 < (l0.length : Int)
    ·
     rw [if_pos c5] at H
     have c5b0 : decide (x17_1 < (l0.length : Int)) = true := zR c5; clear c5
     by_cases c6 : 0 ≤ x17_1
     ·
      rw [if_pos c6] at H
      have c6b0 : decide (0 ≤ x17_1) = true := zR c6; clear c6
      by_cases c7 : x17_1 < (l0.length : Int)
      ·
       rw [if_pos c7] at H
       have c7b0 : decide (x17_1 < (l0.length : Int)) = true := zR c7; clear c7
       by_cases c8 : x17_1 < (l1.length : Int)
       ·
        rw [if_pos c8] at H
        have c8b0 : decide (x17_1 < (l1.length : Int)) = true := zR c8; clear c8
        obtain ⟨t356, A90, H⟩ := zW_ H
        replace H : (if t356 = true then (slices_EqualFunc_slices_Equal_int64_int64.l0 k1 l1 l0 (l0.length : Int) (wrap64 (x17_1 + 1))) else (some false)) = some r := H
        have A9 := yD A90
        clear A90
        by_cases c10 : t356 = true
        ·
         subst c10
         have H1 : (slices_EqualFunc_slices_Equal_int64_int64.l0 k1 l1 l0 (l0.length : Int) (wrap64 (x17_1 + 1))) = some r := by rw [if_pos rfl] at H; exact H
         clear H; have H := H1; clear H1
         have H' := yD H
         clear H
         have p354 : 0 ≤ (x17_1 : Int) := zP (by assumption)
         have q354 : x17_1 < (l0.length : Int) := zP (by assumption)
         obtain ⟨ad354, A354_0, c354_0, e354, hx354_0, hl354_0, hi354_0⟩ := at_L2 HR0.out x17_1 p354 q354
         cases e354
         replace hx354_0 := (HB.out.cell (zQ w _ hx354_0)).trans hx354_0
         have HR354_0 := yD hi354_0
         have HC354_0 := yD hl354_0
         clear hi354_0 hl354_0; replace p354 := eq_true p354; replace q354 := eq_true q354
         have p355 : 0 ≤ (x17_1 : Int) := zP (by assumption)
         have q355 : x17_1 < (l1.length : Int) := zP (by assumption)
         obtain ⟨ad355, A355_0, c355_0, e355, hx355_0, hl355_0, hi355_0⟩ := at_L2 HR1.out x17_1 p355 q355
         cases e355
         replace hx355_0 := (HB.out.cell (zQ w _ hx355_0)).trans hx355_0
         have HR355_0 := yD hi355_0
         have HC355_0 := yD hl355_0
         clear hi355_0 hl355_0; replace p355 := eq_true p355; replace q355 := eq_true q355
         go_wp2_with (first | (go_at_call 107; (with_reducible refine (slices_Equal_int64_int64.calls k1 _ _ (rd_L2 l0 x17_1) _ _ (rd_L2 l1 x17_1) true _ ?side1 ?side2 ?side3 ?side4 A9.out).mono ?_); (case side1 => exact kV (yY HR354_0.out HB.out)); (case side2 => exact HC354_0.out); (case side3 => exact kV (yY HR355_0.out HB.out)); (case side4 => exact HC355_0.out); rintro e w' ⟨rfl, ⟨nd, rfl⟩⟩))
         go_roundg k1
         case measure => have := HK1.out; omega
         case rel => exact ⟨(wrap64 (x17_1 + 1)), (by first | rfl | (simp; done) | (simp [*]; done)), H', ⟨by have := HK1.out; omega⟩, ⟨kR0 HB⟩⟩
        ·
         replace c10 := Bool.eq_false_iff.mpr c10
         subst c10
         have H1 : (some false) = some r := by rw [if_neg (show ¬ (false = true) by decide)] at H; exact H
         clear H; have H := H1; clear H1; obtain rfl := Option.some.inj H
         have p354 : 0 ≤ (x17_1 : Int) := zP (by assumption)
         have q354 : x17_1 < (l0.length : Int) := zP (by assumption)
         obtain ⟨ad354, A354_0, c354_0, e354, hx354_0, hl354_0, hi354_0⟩ := at_L2 HR0.out x17_1 p354 q354
         cases e354
         replace hx354_0 := (HB.out.cell (zQ w _ hx354_0)).trans hx354_0
         have HR354_0 := yD hi354_0
         have HC354_0 := yD hl354_0
         clear hi354_0 hl354_0; replace p354 := eq_true p354; replace q354 := eq_true q354
         have p355 : 0 ≤ (x17_1 : Int) := zP (by assumption)
         have q355 : x17_1 < (l1.length : Int) := zP (by assumption)
         obtain ⟨ad355, A355_0, c355_0, e355, hx355_0, hl355_0, hi355_0⟩ := at_L2 HR1.out x17_1 p355 q355
         cases e355
         replace hx355_0 := (HB.out.cell (zQ w _ hx355_0)).trans hx355_0
         have HR355_0 := yD hi355_0
         have HC355_0 := yD hl355_0
         clear hi355_0 hl355_0; replace p355 := eq_true p355; replace q355 := eq_true q355
         go_wp2_with (first | (go_at_call 107; (with_reducible refine (slices_Equal_int64_int64.calls k1 _ _ (rd_L2 l0 x17_1) _ _ (rd_L2 l1 x17_1) false _ ?side1 ?side2 ?side3 ?side4 A9.out).mono ?_); (case side1 => exact kV (yY HR354_0.out HB.out)); (case side2 => exact HC354_0.out); (case side3 => exact kV (yY HR355_0.out HB.out)); (case side4 => exact HC355_0.out); rintro e w' ⟨rfl, ⟨nd, rfl⟩⟩))
         go_ret
         exact ⟨by first | rfl | (simp <;> rfl) | (simp [*] <;> rfl), kR0 HB⟩
       · rw [if_neg c8] at H
         exact absurd H (by simp)
      · rw [if_neg c7] at H
        exact absurd H (by simp)
     · rw [if_neg c6] at H
       exact absurd H (by simp)
    · rw [if_neg c5] at H
      have c5b0 : decide (x17_1 < (l0.length : Int)) = false := zS c5; clear c5; obtain rfl := Option.some.inj H
      go_wp2
      go_ret
      exact ⟨by first | rfl | (simp <;> rfl) | (simp [*] <;> rfl), kR0 HB⟩
 ·
  rw [if_neg c4] at H
  have c4b0 : ((l0.length : Int) == (l1.length : Int)) = false := beq_eq_false_iff_ne.mpr c4
  have c4b1 : ((l0.length : Int) != (l1.length : Int)) = true := bne_iff_ne.mpr c4
  have c4b2 : (l0.length == l1.length) = false := by first | simpa using c4 | (simp at c4 ⊢; omega)
  obtain rfl := Option.some.inj H; go_enter Try.func105, Try.ntmps105
  go_wp2
  go_ret
  exact ⟨by first | rfl | (simp <;> rfl) | (simp [*] <;> rfl), kR0 HB⟩

/-! ### impl_samePoint: function 109 -/
def impl_samePoint.f (k : Nat) (l0_0 : List Int) (l1_0 : List Int) : Option (Bool) := (slices_Equal_int64_int64.f k l0_0 l1_0).bind fun t359 => (some t359)
theorem impl_samePoint.mono : ∀ a0 a1 k, LeO (impl_samePoint.f k a0 a1) (impl_samePoint.f (k + 1) a0 a1) := by
 intro a0 a1 k
 unfold impl_samePoint.f
 repeat' first
  | (with_reducible exact slices_Equal_int64_int64.mono _ _ _)
  | (with_reducible exact LeO.refl _)
  | (with_reducible exact LeO.none _)
  | (with_reducible refine LeO.ite ?_ ?_)
  | (with_reducible refine LeO.bind ?_ (fun _ => ?_))
  | exact slices_Equal_int64_int64.mono _ _ _
  | exact LeO.none _
  | refine LeO.ite ?_ ?_
  | refine LeO.bind ?_ (fun _ => ?_)
set_option maxHeartbeats 8000000 in
set_option maxRecDepth 100000 in
theorem impl_samePoint.calls (k : Nat) (A0_0 : Option Addr) (c0_0 : Nat) (l0_0 : List Int) (A1_0 : Option Addr) (c1_0 : Nat) (l1_0 : List Int) (r : Bool) (w : World) (hr0_0 : Kd.C (Kd.int .i64) w A0_0 l0_0.length l0_0) (hc0_0 : l0_0.length ≤ c0_0) (hr1_0 : Kd.C (Kd.int .i64) w A1_0 l1_0.length l1_0) (hc1_0 : l1_0.length ≤ c1_0) (h : impl_samePoint.f k l0_0 l1_0 = some r) :
 Calls Try.prog 109 #[.agg #[.slice A0_0 l0_0.length c0_0], .agg #[.slice A1_0 l1_0.length c1_0]] w fun e w' => e = .returned (.bool r) ∧ Below w.heap.size w w' := by
 have hu97 := Try.underlying97
 have HR0_0 := yD hr0_0
 have HC0_0 := yD hc0_0
 clear hr0_0 hc0_0
 have HR1_0 := yD hr1_0
 have HC1_0 := yD hc1_0
 clear hr1_0 hc1_0
 have HB := yD (Below.refl w.heap.size w)
 have H : ((slices_Equal_int64_int64.f k l0_0 l1_0).bind fun t359 => (some t359)) = some r := h
 clear h
 obtain ⟨t359, A30, H⟩ := zW_ H
 replace H : (some t359) = some r := H
 have A3 := yD A30
 clear A30; obtain rfl := Option.some.inj H; go_enter Try.func109, Try.ntmps109
 go_wp2_with (first | ((with_reducible refine gate_dst (N := 2) rfl ?_); refine box_event ?hg (N := 2) ?hd (cs := #[.slice A0_0 l0_0.length c0_0]) (t := 97) ?hr ?_; (case hd => rfl); (case hg => rfl); (case hr => first | (go_simp; done) | (go_simp; rfl)); intro gb357 hg w4 hbox hb; have n0_ := yD (zC (kB HB) hb); have n1_ := yD (hbox); have n2_ := yD ((by rw [hg]; exact (below_size (kB HB)) : w.heap.size ≤ gb357)); have n3_ := yD ((by rw [hg]; exact (below_size (kB HB)) : w.heap.size ≤ gb357)); clear HB; have HB := n0_; have BK357 := n1_; have GW357 := n2_; have GE357 := n3_; clear n0_ n1_ n2_ n3_; clear hb hbox hg) | ((with_reducible refine gate_dst (N := 3) rfl ?_); refine box_event ?hg (N := 3) ?hd (cs := #[.slice A1_0 l1_0.length c1_0]) (t := 97) ?hr ?_; (case hd => rfl); (case hg => rfl); (case hr => first | (go_simp; done) | (go_simp; rfl)); intro gb358 hg w5 hbox hb; have n0_ := yD (zB (g := gb357) (o := .cells #[.slice A0_0 l0_0.length c0_0] 97 (0, 0)) (kM BK357) hb); have n1_ := yD (zC (kB HB) hb); have n2_ := yD (hbox); have n3_ := yD ((by rw [hg]; exact (below_size (kB HB)) : w.heap.size ≤ gb358)); have n4_ := yD ((by rw [hg]; exact (below_size (kB HB)) : w.heap.size ≤ gb358)); have n5_ := yD ((by rw [hg]; exact Nat.ne_of_lt (blk_lt (g := gb357) (o := .cells #[.slice A0_0 l0_0.length c0_0] 97 (0, 0)) (kM BK357)) : gb357 ≠ gb358)); have n6_ := yD ((by rw [hg]; exact Nat.ne_of_gt (blk_lt (g := gb357) (o := .cells #[.slice A0_0 l0_0.length c0_0] 97 (0, 0)) (kM BK357)) : gb358 ≠ gb357)); clear BK357; clear HB; have BK357 := n0_; have HB := n1_; have BK358 := n2_; have GW358 := n3_; have GE358 := n4_; have NB357_358 := n5_; have NB358_357 := n6_; clear n0_ n1_ n2_ n3_ n4_ n5_ n6_; clear hb hbox hg; have hnb6 := NB357_358.out; have hnc6 := NB358_357.out; have hcz7_0 : w5.cell? ⟨gb357, 0, none⟩ = some (.slice A0_0 l0_0.length c0_0) := (yG BK357.out 0).trans rfl; have hfz7_0 := yR BK357.out 0; have hcz8_0 : w5.cell? ⟨gb358, 0, none⟩ = some (.slice A1_0 l1_0.length c1_0) := (yG BK358.out 0).trans rfl; have hfz8_0 := yR BK358.out 0) | ((with_reducible refine gate_callee (f := 107) rfl ?_); refine goesL_ (some 9) rfl rfl Try.func107 (by kernel_rfl) rfl #[.slice A0_0 l0_0.length c0_0, .slice A1_0 l1_0.length c1_0] rfl (by (try simp only [zK, zL, zM]); first | done | rfl | (simp only [zN, zO]; rfl)) ?_; (with_reducible refine (slices_Equal_int64_int64.calls k _ _ l0_0 _ _ l1_0 t359 _ ?side1 ?side2 ?side3 ?side4 A3.out).mono ?_); (case side1 => exact kV (yY HR0_0.out HB.out)); (case side2 => exact HC0_0.out); (case side3 => exact kV (yY HR1_0.out HB.out)); (case side4 => exact HC1_0.out); rintro e w' ⟨rfl, ⟨nd, rfl⟩⟩; refine ⟨_, rfl, ?_⟩))
 go_ret
 exact ⟨by first | rfl | (simp <;> rfl) | (simp [*] <;> rfl), kR1 HB⟩

/-! ### slices_EqualFunc_impl_samePoint: function 108 -/
def slices_EqualFunc_impl_samePoint.l0 : Nat → List (S97) → List (S97) → Int → Int → Option (Bool)
 | 0, _, _, _, _ => none
 | k + 1, x1, x15, x16, x17 => if x17 < x16 then (if 0 ≤ x17 then (if x17 < (x15.length : Int) then (if x17 < (x1.length : Int) then ((impl_samePoint.f k ((rd_T97 x15 x17).f0) ((rd_T97 x1 x17).f0)).bind fun t364 => (if t364 = true then (slices_EqualFunc_impl_samePoint.l0 k x1 x15 x16 (wrap64 (x17 + 1))) else (some false))) else (none)) else (none)) else (none)) else (some true)
def slices_EqualFunc_impl_samePoint.f (k : Nat) (l0 : List (S97)) (l1 : List (S97))  : Option (Bool) := if (l0.length : Int) = (l1.length : Int) then (slices_EqualFunc_impl_samePoint.l0 k l1 l0 (l0.length : Int) 0) else (some false)
theorem slices_EqualFunc_impl_samePoint.mono_l : ∀ k, (∀ y0 y1 y2 y3, LeO (slices_EqualFunc_impl_samePoint.l0 k y0 y1 y2 y3) (slices_EqualFunc_impl_samePoint.l0 (k + 1) y0 y1 y2 y3))
 | 0 => fun _ _ _ _ r h => by simp [slices_EqualFunc_impl_samePoint.l0] at h
 | k + 1 => by
  have ih0 := slices_EqualFunc_impl_samePoint.mono_l k
  ·
   intro y0 y1 y2 y3
   unfold slices_EqualFunc_impl_samePoint.l0
   repeat' first
   | (with_reducible exact ih0 _ _ _ _)
   | (with_reducible exact impl_samePoint.mono _ _ _)
   | (with_reducible exact LeO.refl _)
   | (with_reducible exact LeO.none _)
   | (with_reducible refine LeO.ite ?_ ?_)
   | (with_reducible refine LeO.bind ?_ (fun _ => ?_))
   | exact ih0 _ _ _ _
   | exact impl_samePoint.mono _ _ _
   | exact LeO.none _
   | refine LeO.ite ?_ ?_
   | refine LeO.bind ?_ (fun _ => ?_)
theorem slices_EqualFunc_impl_samePoint.mono : ∀ a0 a1 k, LeO (slices_EqualFunc_impl_samePoint.f k a0 a1) (slices_EqualFunc_impl_samePoint.f (k + 1) a0 a1) := by
 intro a0 a1 k
 have ih0 := slices_EqualFunc_impl_samePoint.mono_l k
 unfold slices_EqualFunc_impl_samePoint.f
 repeat' first
  | (with_reducible exact ih0 _ _ _ _)
  | (with_reducible exact impl_samePoint.mono _ _ _)
  | (with_reducible exact LeO.refl _)
  | (with_reducible exact LeO.none _)
  | (with_reducible refine LeO.ite ?_ ?_)
  | (with_reducible refine LeO.bind ?_ (fun _ => ?_))
  | exact ih0 _ _ _ _
  | exact impl_samePoint.mono _ _ _
  | exact LeO.none _
  | refine LeO.ite ?_ ?_
  | refine LeO.bind ?_ (fun _ => ?_)
set_option maxHeartbeats 8000000 in
set_option maxRecDepth 100000 in
theorem slices_EqualFunc_impl_samePoint.calls (k : Nat) (A0 : Option Addr) (c0 : Nat) (l0 : List (S97)) (A1 : Option Addr) (c1 : Nat) (l1 : List (S97))  (r : Bool) (w : World) (hr0 : Kd.C k97 w A0 l0.length l0) (hc0 : l0.length ≤ c0) (hr1 : Kd.C k97 w A1 l1.length l1) (hc1 : l1.length ≤ c1) (h : slices_EqualFunc_impl_samePoint.f k l0 l1 = some r) :
 Calls Try.prog 108 #[.slice A0 l0.length c0, .slice A1 l1.length c1, .func (.func 109) #[] #[]] w fun e w' => e = .returned (.bool r) ∧ Below w.heap.size w w' := by
 have hu97 := Try.underlying97
 have HR0 := yD hr0
 have HC0 := yD hc0
 clear hr0 hc0
 have HR1 := yD hr1
 have HC1 := yD hc1
 clear hr1 hc1
 have HB := yD (Below.refl w.heap.size w)
 have H : (if (l0.length : Int) = (l1.length : Int) then (slices_EqualFunc_impl_samePoint.l0 k l1 l0 (l0.length : Int) 0) else (some false)) = some r := h
 clear h
 by_cases c4 : (l0.length : Int) = (l1.length : Int)
 ·
  rw [if_pos c4] at H
  have c4b0 : ((l0.length : Int) == (l1.length : Int)) = true := beq_iff_eq.mpr c4
  have c4b1 : ((l0.length : Int) != (l1.length : Int)) = false := bne_eq_false_iff_eq.mpr c4
  have c4b2 : (l0.length == l1.length) = true := by first | simpa using c4 | (simp at c4 ⊢; omega)
  clear c4
  have H' := yD H
  clear H; go_enter Try.func108, Try.ntmps108
  go_wp2
  go_loopg [17] k (fun kq v17 w' => ∃ (x17_1 : Int), v17 = .int .i64 x17_1 ∧ Aside0 (slices_EqualFunc_impl_samePoint.l0 kq l1 l0 (l0.length : Int) x17_1 = some r) ∧ Aside0 (kq ≤ k) ∧ Aside0 (Below w.heap.size w w'))
  case atStart => exact ⟨(0), (by first | rfl | (simp; done) | (simp [*]; done)), H', ⟨Nat.le_refl _⟩, ⟨kR0 HB⟩⟩
  case round =>
   clear H'
   try clear c1; try clear p2; try clear c4; try clear c4b0; try clear c4b1; try clear c4b2
   obtain ⟨x17_1, rfl, HA, HK1, HB⟩ := hrel
   cases gk with
   | zero => exact absurd HA.out (by simp [slices_EqualFunc_impl_samePoint.l0])
   | succ k1 =>
    have H := HA.out; clear HA
    simp only [slices_EqualFunc_impl_samePoint.l0] at H
    by_cases c5 : x17_1 < (l0.length : Int)
    ·
     rw [if_pos c5] at H
     have c5b0 : decide (x17_1 < (l0.length : Int)) = true := zR c5; clear c5
     by_cases c6 : 0 ≤ x17_1
     ·
      rw [if_pos c6] at H
      have c6b0 : decide (0 ≤ x17_1) = true := zR c6; clear c6
      by_cases c7 : x17_1 < (l0.length : Int)
      ·
       rw [if_pos c7] at H
       have c7b0 : decide (x17_1 < (l0.length : Int)) = true := zR c7; clear c7
       by_cases c8 : x17_1 < (l1.length : Int)
       ·
        rw [if_pos c8] at H
        have c8b0 : decide (x17_1 < (l1.length : Int)) = true := zR c8; clear c8
        obtain ⟨t364, A90, H⟩ := zW_ H
        replace H : (if t364 = true then (slices_EqualFunc_impl_samePoint.l0 k1 l1 l0 (l0.length : Int) (wrap64 (x17_1 + 1))) else (some false)) = some r := H
        have A9 := yD A90
        clear A90
        by_cases c10 : t364 = true
        ·
         subst c10
         have H1 : (slices_EqualFunc_impl_samePoint.l0 k1 l1 l0 (l0.length : Int) (wrap64 (x17_1 + 1))) = some r := by rw [if_pos rfl] at H; exact H
         clear H; have H := H1; clear H1
         have H' := yD H
         clear H
         have p360 : 0 ≤ (x17_1 : Int) := zP (by assumption)
         have q360 : x17_1 < (l0.length : Int) := zP (by assumption)
         obtain ⟨ad360, A360_0, c360_0, e360, hx360_0, hl360_0, hi360_0⟩ := at_T97 HR0.out x17_1 p360 q360
         cases e360
         replace hx360_0 := (HB.out.cell (zQ w _ hx360_0)).trans hx360_0
         have HR360_0 := yD hi360_0
         have HC360_0 := yD hl360_0
         clear hi360_0 hl360_0; replace p360 := eq_true p360; replace q360 := eq_true q360
         go_wp2_with (first | ((with_reducible refine gate_dst (N := 8) rfl ?_); refine box_event ?hg (N := 8) ?hd (cs := #[.slice none 0 0]) (t := 97) ?hr ?_; (case hd => rfl); (case hg => rfl); (case hr => first | (go_simp; done) | (go_simp; rfl)); intro gb361 hg w11 hbox hb; have n0_ := yD (zC (kB HB) hb); have n1_ := yD (hbox); have n2_ := yD ((by rw [hg]; exact (below_size (kB HB)) : w.heap.size ≤ gb361)); have n3_ := yD ((by rw [hg]; exact (below_size (kB HB)) : w.heap.size ≤ gb361)); clear HB; have HB := n0_; have BK361 := n1_; have GW361 := n2_; have GE361 := n3_; clear n0_ n1_ n2_ n3_; clear hb hbox hg; have hcz12_0 : w11.cell? ⟨gb361, 0, none⟩ = some (.slice none 0 0) := (yG BK361.out 0).trans rfl; have hfz12_0 := yR BK361.out 0; have p362 : 0 ≤ (x17_1 : Int) := zP (by assumption); have q362 : x17_1 < (l1.length : Int) := zP (by assumption); obtain ⟨ad362, A362_0, c362_0, e362, hx362_0, hl362_0, hi362_0⟩ := at_T97 HR1.out x17_1 p362 q362; cases e362; have hn362_0 : ad362.block ≠ gb361 := Nat.ne_of_lt (Nat.lt_of_lt_of_le (by have := zQ _ _ hx362_0; first | rwa [add_block] at this | exact this) GW361.out); replace hx362_0 := (HB.out.cell (zQ w _ hx362_0)).trans hx362_0; have HR362_0 := yD hi362_0; have HC362_0 := yD hl362_0; clear hi362_0 hl362_0; replace hx362_0 := (cell_far (p := ⟨gb361, 0, none⟩) (by first | (rw [add_block]; exact hn362_0) | (show (Addr.add _ _).block ≠ _; rw [add_block]; exact hn362_0) | exact hn362_0) (.slice A360_0 ((rd_T97 l0 x17_1).f0).length c360_0)).trans hx362_0; clear hn362_0; replace p362 := eq_true p362; replace q362 := eq_true q362) | ((with_reducible refine gate_dst (N := 9) rfl ?_); refine box_event ?hg (N := 9) ?hd (cs := #[.slice none 0 0]) (t := 97) ?hr ?_; (case hd => rfl); (case hg => rfl); (case hr => first | (go_simp; done) | (go_simp; rfl)); intro gb363 hg w13 hbox hb; have n0_ := yD (zB (g := gb361) (o := .cells #[.slice A360_0 ((rd_T97 l0 x17_1).f0).length c360_0] 97 (0, 0)) (by (with_reducible repeat (first | refine yM ?_ _ | refine yO ?_ | refine yN ?_ _)); refine blk_put (cs := #[.slice none 0 0]) ?_ 0 _ rfl; (with_reducible repeat (first | refine yM ?_ _ | refine yO ?_ | refine yN ?_ _)); exact BK361.out) hb); have n1_ := yD (zC (kB HB) hb); have n2_ := yD (hbox); have n3_ := yD ((by rw [hg]; exact (below_size (kB HB)) : w.heap.size ≤ gb363)); have n4_ := yD ((by rw [hg]; exact (below_size (kB HB)) : w.heap.size ≤ gb363)); have n5_ := yD ((by rw [hg]; exact Nat.ne_of_lt (blk_lt (g := gb361) (o := .cells #[.slice A360_0 ((rd_T97 l0 x17_1).f0).length c360_0] 97 (0, 0)) (by (with_reducible repeat (first | refine yM ?_ _ | refine yO ?_ | refine yN ?_ _)); refine blk_put (cs := #[.slice none 0 0]) ?_ 0 _ rfl; (with_reducible repeat (first | refine yM ?_ _ | refine yO ?_ | refine yN ?_ _)); exact BK361.out)) : gb361 ≠ gb363)); have n6_ := yD ((by rw [hg]; exact Nat.ne_of_gt (blk_lt (g := gb361) (o := .cells #[.slice A360_0 ((rd_T97 l0 x17_1).f0).length c360_0] 97 (0, 0)) (by (with_reducible repeat (first | refine yM ?_ _ | refine yO ?_ | refine yN ?_ _)); refine blk_put (cs := #[.slice none 0 0]) ?_ 0 _ rfl; (with_reducible repeat (first | refine yM ?_ _ | refine yO ?_ | refine yN ?_ _)); exact BK361.out)) : gb363 ≠ gb361)); clear BK361; clear HB; have BK361 := n0_; have HB := n1_; have BK363 := n2_; have GW363 := n3_; have GE363 := n4_; have NB361_363 := n5_; have NB363_361 := n6_; clear n0_ n1_ n2_ n3_ n4_ n5_ n6_; clear hb hbox hg; have hnb14 := NB363_361.out; have hnc14 := NB361_363.out; have hcz15_0 : w13.cell? ⟨gb363, 0, none⟩ = some (.slice none 0 0) := (yG BK363.out 0).trans rfl; have hfz15_0 := yR BK363.out 0; have hcz16_0 : w13.cell? ⟨gb361, 0, none⟩ = some (.slice A360_0 ((rd_T97 l0 x17_1).f0).length c360_0) := (yG BK361.out 0).trans rfl; have hfz16_0 := yR BK361.out 0) | (go_at_call 109; (with_reducible refine (impl_samePoint.calls k1 _ _ ((rd_T97 l0 x17_1).f0) _ _ ((rd_T97 l1 x17_1).f0) true _ ?side1 ?side2 ?side3 ?side4 A9.out).mono ?_); (case side1 => exact yY HR360_0.out (kB HB)); (case side2 => exact HC360_0.out); (case side3 => exact yY HR362_0.out (kB HB)); (case side4 => exact HC362_0.out); rintro e w17 ⟨rfl, hb⟩; have n0_ := yD (zB (g := gb361) (o := .cells #[.slice A360_0 ((rd_T97 l0 x17_1).f0).length c360_0] 97 (0, 0)) (by (with_reducible repeat (first | refine yM ?_ _ | refine yO ?_ | refine yN ?_ _)); refine blk_far ?_ NB361_363.out _; (with_reducible repeat (first | refine yM ?_ _ | refine yO ?_ | refine yN ?_ _)); exact BK361.out) hb); have n1_ := yD (zB (g := gb363) (o := .cells #[.slice A362_0 ((rd_T97 l1 x17_1).f0).length c362_0] 97 (0, 0)) (by (with_reducible repeat (first | refine yM ?_ _ | refine yO ?_ | refine yN ?_ _)); refine blk_put (cs := #[.slice none 0 0]) ?_ 0 _ rfl; (with_reducible repeat (first | refine yM ?_ _ | refine yO ?_ | refine yN ?_ _)); exact BK363.out) hb); have n2_ := yD (zC (kB HB) hb); clear BK361; clear BK363; clear HB; have BK361 := n0_; have BK363 := n1_; have HB := n2_; clear n0_ n1_ n2_; (try clear hb); (try clear hb2); (try clear hk); (try clear hi)))
         go_roundg k1
         case measure => have := HK1.out; omega
         case rel => exact ⟨(wrap64 (x17_1 + 1)), (by first | rfl | (simp; done) | (simp [*]; done)), H', ⟨by have := HK1.out; omega⟩, ⟨kR1 HB⟩⟩
        ·
         replace c10 := Bool.eq_false_iff.mpr c10
         subst c10
         have H1 : (some false) = some r := by rw [if_neg (show ¬ (false = true) by decide)] at H; exact H
         clear H; have H := H1; clear H1; obtain rfl := Option.some.inj H
         have p360 : 0 ≤ (x17_1 : Int) := zP (by assumption)
         have q360 : x17_1 < (l0.length : Int) := zP (by assumption)
         obtain ⟨ad360, A360_0, c360_0, e360, hx360_0, hl360_0, hi360_0⟩ := at_T97 HR0.out x17_1 p360 q360
         cases e360
         replace hx360_0 := (HB.out.cell (zQ w _ hx360_0)).trans hx360_0
         have HR360_0 := yD hi360_0
         have HC360_0 := yD hl360_0
         clear hi360_0 hl360_0; replace p360 := eq_true p360; replace q360 := eq_true q360
         go_wp2_with (first | ((with_reducible refine gate_dst (N := 8) rfl ?_); refine box_event ?hg (N := 8) ?hd (cs := #[.slice none 0 0]) (t := 97) ?hr ?_; (case hd => rfl); (case hg => rfl); (case hr => first | (go_simp; done) | (go_simp; rfl)); intro gb361 hg w18 hbox hb; have n0_ := yD (zC (kB HB) hb); have n1_ := yD (hbox); have n2_ := yD ((by rw [hg]; exact (below_size (kB HB)) : w.heap.size ≤ gb361)); have n3_ := yD ((by rw [hg]; exact (below_size (kB HB)) : w.heap.size ≤ gb361)); clear HB; have HB := n0_; have BK361 := n1_; have GW361 := n2_; have GE361 := n3_; clear n0_ n1_ n2_ n3_; clear hb hbox hg; have hcz19_0 : w18.cell? ⟨gb361, 0, none⟩ = some (.slice none 0 0) := (yG BK361.out 0).trans rfl; have hfz19_0 := yR BK361.out 0; have p362 : 0 ≤ (x17_1 : Int) := zP (by assumption); have q362 : x17_1 < (l1.length : Int) := zP (by assumption); obtain ⟨ad362, A362_0, c362_0, e362, hx362_0, hl362_0, hi362_0⟩ := at_T97 HR1.out x17_1 p362 q362; cases e362; have hn362_0 : ad362.block ≠ gb361 := Nat.ne_of_lt (Nat.lt_of_lt_of_le (by have := zQ _ _ hx362_0; first | rwa [add_block] at this | exact this) GW361.out); replace hx362_0 := (HB.out.cell (zQ w _ hx362_0)).trans hx362_0; have HR362_0 := yD hi362_0; have HC362_0 := yD hl362_0; clear hi362_0 hl362_0; replace hx362_0 := (cell_far (p := ⟨gb361, 0, none⟩) (by first | (rw [add_block]; exact hn362_0) | (show (Addr.add _ _).block ≠ _; rw [add_block]; exact hn362_0) | exact hn362_0) (.slice A360_0 ((rd_T97 l0 x17_1).f0).length c360_0)).trans hx362_0; clear hn362_0; replace p362 := eq_true p362; replace q362 := eq_true q362) | ((with_reducible refine gate_dst (N := 9) rfl ?_); refine box_event ?hg (N := 9) ?hd (cs := #[.slice none 0 0]) (t := 97) ?hr ?_; (case hd => rfl); (case hg => rfl); (case hr => first | (go_simp; done) | (go_simp; rfl)); intro gb363 hg w20 hbox hb; have n0_ := yD (zB (g := gb361) (o := .cells #[.slice A360_0 ((rd_T97 l0 x17_1).f0).length c360_0] 97 (0, 0)) (by (with_reducible repeat (first | refine yM ?_ _ | refine yO ?_ | refine yN ?_ _)); refine blk_put (cs := #[.slice none 0 0]) ?_ 0 _ rfl; (with_reducible repeat (first | refine yM ?_ _ | refine yO ?_ | refine yN ?_ _)); exact BK361.out) hb); have n1_ := yD (zC (kB HB) hb); have n2_ := yD (hbox); have n3_ := yD ((by rw [hg]; exact (below_size (kB HB)) : w.heap.size ≤ gb363)); have n4_ := yD ((by rw [hg]; exact (below_size (kB HB)) : w.heap.size ≤ gb363)); have n5_ := yD ((by rw [hg]; exact Nat.ne_of_lt (blk_lt (g := gb361) (o := .cells #[.slice A360_0 ((rd_T97 l0 x17_1).f0).length c360_0] 97 (0, 0)) (by (with_reducible repeat (first | refine yM ?_ _ | refine yO ?_ | refine yN ?_ _)); refine blk_put (cs := #[.slice none 0 0]) ?_ 0 _ rfl; (with_reducible repeat (first | refine yM ?_ _ | refine yO ?_ | refine yN ?_ _)); exact BK361.out)) : gb361 ≠ gb363)); have n6_ := yD ((by rw [hg]; exact Nat.ne_of_gt (blk_lt (g := gb361) (o := .cells #[.slice A360_0 ((rd_T97 l0 x17_1).f0).length c360_0] 97 (0, 0)) (by (with_reducible repeat (first | refine yM ?_ _ | refine yO ?_ | refine yN ?_ _)); refine blk_put (cs := #[.slice none 0 0]) ?_ 0 _ rfl; (with_reducible repeat (first | refine yM ?_ _ | refine yO ?_ | refine yN ?_ _)); exact BK361.out)) : gb363 ≠ gb361)); clear BK361; clear HB; have BK361 := n0_; have HB := n1_; have BK363 := n2_; have GW363 := n3_; have GE363 := n4_; have NB361_363 := n5_; have NB363_361 := n6_; clear n0_ n1_ n2_ n3_ n4_ n5_ n6_; clear hb hbox hg; have hnb21 := NB363_361.out; have hnc21 := NB361_363.out; have hcz22_0 : w20.cell? ⟨gb363, 0, none⟩ = some (.slice none 0 0) := (yG BK363.out 0).trans rfl; have hfz22_0 := yR BK363.out 0; have hcz23_0 : w20.cell? ⟨gb361, 0, none⟩ = some (.slice A360_0 ((rd_T97 l0 x17_1).f0).length c360_0) := (yG BK361.out 0).trans rfl; have hfz23_0 := yR BK361.out 0) | (go_at_call 109; (with_reducible refine (impl_samePoint.calls k1 _ _ ((rd_T97 l0 x17_1).f0) _ _ ((rd_T97 l1 x17_1).f0) false _ ?side1 ?side2 ?side3 ?side4 A9.out).mono ?_); (case side1 => exact yY HR360_0.out (kB HB)); (case side2 => exact HC360_0.out); (case side3 => exact yY HR362_0.out (kB HB)); (case side4 => exact HC362_0.out); rintro e w24 ⟨rfl, hb⟩; have n0_ := yD (zB (g := gb361) (o := .cells #[.slice A360_0 ((rd_T97 l0 x17_1).f0).length c360_0] 97 (0, 0)) (by (with_reducible repeat (first | refine yM ?_ _ | refine yO ?_ | refine yN ?_ _)); refine blk_far ?_ NB361_363.out _; (with_reducible repeat (first | refine yM ?_ _ | refine yO ?_ | refine yN ?_ _)); exact BK361.out) hb); have n1_ := yD (zB (g := gb363) (o := .cells #[.slice A362_0 ((rd_T97 l1 x17_1).f0).length c362_0] 97 (0, 0)) (by (with_reducible repeat (first | refine yM ?_ _ | refine yO ?_ | refine yN ?_ _)); refine blk_put (cs := #[.slice none 0 0]) ?_ 0 _ rfl; (with_reducible repeat (first | refine yM ?_ _ | refine yO ?_ | refine yN ?_ _)); exact BK363.out) hb); have n2_ := yD (zC (kB HB) hb); clear BK361; clear BK363; clear HB; have BK361 := n0_; have BK363 := n1_; have HB := n2_; clear n0_ n1_ n2_; (try clear hb); (try clear hb2); (try clear hk); (try clear hi)))
         go_ret
         exact ⟨by first | rfl | (simp <;> rfl) | (simp [*] <;> rfl), kR1 HB⟩
       · rw [if_neg c8] at H
         exact absurd H (by simp)
      · rw [if_neg c7] at H
        exact absurd H (by simp)
     · rw [if_neg c6] at H
       exact absurd H (by simp)
    · rw [if_neg c5] at H
      have c5b0 : decide (x17_1 < (l0.length : Int)) = false := zS c5; clear c5; obtain rfl := Option.some.inj H
      go_wp2
      go_ret
      exact ⟨by first | rfl | (simp <;> rfl) | (simp [*] <;> rfl), kR0 HB⟩
 ·
  rw [if_neg c4] at H
  have c4b0 : ((l0.length : Int) == (l1.length : Int)) = false := beq_eq_false_iff_ne.mpr c4
  have c4b1 : ((l0.length : Int) != (l1.length : Int)) = true := bne_iff_ne.mpr c4
  have c4b2 : (l0.length == l1.length) = false := by first | simpa using c4 | (simp at c4 ⊢; omega)
  obtain rfl := Option.some.inj H; go_enter Try.func108, Try.ntmps108
  go_wp2
  go_ret
  exact ⟨by first | rfl | (simp <;> rfl) | (simp [*] <;> rfl), kR0 HB⟩

end Go.Proofs.Ytgpkkplabnliiaa.PFnRanges
