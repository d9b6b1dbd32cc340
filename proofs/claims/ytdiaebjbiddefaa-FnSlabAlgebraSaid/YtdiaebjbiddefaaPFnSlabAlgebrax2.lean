/- Each Go function here comes to what the plain function of its name says, where that says something. Made by a program of this session, over the print. -/
import Derived.Test.YtdiaebjbiddefaaPFnSlabAlgebrax0
namespace Go.Proofs.Ytdiaebjbiddefaa.PFnSlabAlgebra
open Go.RowKit Go.Proofs.YtdiaebjbiddefaaW.PrintWords Go.Proofs.YtdiaebjbiddefaaW.PrintLast Go.Proofs.YtdiaebjbiddefaaW.PrintMore
attribute [local go_sem] max2_int min2_int max_two min_two max_three min_three max_four min_four   -- for this text's walks alone
set_option linter.unusedVariables false
set_option linter.unusedSimpArgs false

/-! ### slices_Equal_int64_int64: function 107 -/
def slices_Equal_int64_int64.l0 : Nat → List Int → List Int → Int → Int → Option (Bool)
 | 0, _, _, _, _ => none
 | k + 1, x0, x1, x12, x13 => if x13 < x12 then (if 0 ≤ x13 then (if x13 < (x0.length : Int) then (if x13 < (x1.length : Int) then (if (rd x0 x13) = (rd x1 x13) then (slices_Equal_int64_int64.l0 k x0 x1 x12 (wrap64 (x13 + 1))) else (some false)) else (none)) else (none)) else (none)) else (some true)
def slices_Equal_int64_int64.f (k : Nat) (l0 : List Int) (l1 : List Int) : Option (Bool) := if (l0.length : Int) = (l1.length : Int) then (slices_Equal_int64_int64.l0 k l0 l1 (l0.length : Int) 0) else (some false)
theorem slices_Equal_int64_int64.mono_l : ∀ k, (∀ y0 y1 y2 y3, LeO (slices_Equal_int64_int64.l0 k y0 y1 y2 y3) (slices_Equal_int64_int64.l0 (k + 1) y0 y1 y2 y3))
 | 0 => fun _ _ _ _ r h => by simp [slices_Equal_int64_int64.l0] at h
 | k + 1 => by
  have ih0 := slices_Equal_int64_int64.mono_l k
  · intro y0 y1 y2 y3
    unfold slices_Equal_int64_int64.l0
    repeat' (with_reducible first | exact ih0 _ _ _ _ | exact LeO.refl _ | exact LeO.none _ | refine LeO.ite ?_ ?_ | refine LeO.bind ?_ (fun _ => ?_))
theorem slices_Equal_int64_int64.mono : ∀ a0 a1 k, LeO (slices_Equal_int64_int64.f k a0 a1) (slices_Equal_int64_int64.f (k + 1) a0 a1) := by
 intro a0 a1 k
 have ih0 := slices_Equal_int64_int64.mono_l k
 unfold slices_Equal_int64_int64.f
 repeat' (with_reducible first | exact ih0 _ _ _ _ | exact LeO.refl _ | exact LeO.none _ | refine LeO.ite ?_ ?_ | refine LeO.bind ?_ (fun _ => ?_))
set_option maxHeartbeats 8000000 in
set_option maxRecDepth 100000 in
theorem slices_Equal_int64_int64.calls (k : Nat) (A0 : Option Addr) (c0 : Nat) (l0 : List Int) (A1 : Option Addr) (c1 : Nat) (l1 : List Int) (r : Bool) (w : World) (hr0 : Kd.C (Kd.int .i64) w A0 l0.length l0) (hc0 : l0.length ≤ c0) (hr1 : Kd.C (Kd.int .i64) w A1 l1.length l1) (hc1 : l1.length ≤ c1) (h : slices_Equal_int64_int64.f k l0 l1 = some r) :
 Calls Try.prog 107 #[.slice A0 l0.length c0, .slice A1 l1.length c1] w fun e w' => e = .returned (.bool r) ∧ Drawn0 w w' := by
 have HR0 := yD hr0
 have HC0 := yD hc0
 clear hr0 hc0
 have HR1 := yD hr1
 have HC1 := yD hc1
 clear hr1 hc1
 have H : (if (l0.length : Int) = (l1.length : Int) then (slices_Equal_int64_int64.l0 k l0 l1 (l0.length : Int) 0) else (some false)) = some r := h
 clear h
 by_cases c3 : (l0.length : Int) = (l1.length : Int)
 ·
  rw [if_pos c3] at H
  have c3b0 : ((l0.length : Int) == (l1.length : Int)) = true := beq_iff_eq.mpr c3
  have c3b1 : ((l0.length : Int) != (l1.length : Int)) = false := bne_eq_false_iff_eq.mpr c3
  have c3b2 : (l0.length == l1.length) = true := by first | simpa using c3 | (simp at c3 ⊢; omega)
  clear c3
  have H' := yD H
  clear H; go_enter Try.func107, Try.ntmps107
  go_wp2
  repeat (go_quiet (fail); try go_wp2)
  go_loopg [13] k (fun kq v13 w' => ∃ (x13_1 : Int), v13 = .int .i64 x13_1 ∧ Aside0 (slices_Equal_int64_int64.l0 kq l0 l1 (l0.length : Int) x13_1 = some r) ∧ Aside0 (kq ≤ k) ∧ Drawn0 w w')
  case atStart => exact ⟨(0), (by first | rfl | (simp; done) | (simp [*]; done)), H', ⟨Nat.le_refl _⟩, by repeat (first | exact Drawn0.refl _ | apply Drawn0.step)⟩
  case round =>
   clear H'
   try clear c1; try clear c3; try clear c3b0; try clear c3b1; try clear c3b2
   obtain ⟨x13_1, rfl, HA, HK1, ⟨m1, rfl⟩⟩ := hrel
   cases gk with
   | zero => exact absurd HA.out (by simp [slices_Equal_int64_int64.l0])
   | succ k1 =>
    have H := HA.out; clear HA
    simp only [slices_Equal_int64_int64.l0] at H
    by_cases c4 : x13_1 < (l0.length : Int)
    ·
     rw [if_pos c4] at H
     have c4b0 : decide (x13_1 < (l0.length : Int)) = true := zR c4; clear c4
     by_cases c5 : 0 ≤ x13_1
     ·
      rw [if_pos c5] at H
      have c5b0 : decide (0 ≤ x13_1) = true := zR c5; clear c5
      by_cases c6 : x13_1 < (l0.length : Int)
      ·
       rw [if_pos c6] at H
       have c6b0 : decide (x13_1 < (l0.length : Int)) = true := zR c6; clear c6
       by_cases c7 : x13_1 < (l1.length : Int)
       ·
        rw [if_pos c7] at H
        have c7b0 : decide (x13_1 < (l1.length : Int)) = true := zR c7; clear c7
        by_cases c8 : (rd l0 x13_1) = (rd l1 x13_1)
        ·
         rw [if_pos c8] at H
         have c8b0 : ((rd l0 x13_1) == (rd l1 x13_1)) = true := beq_iff_eq.mpr c8
         have c8b1 : ((rd l0 x13_1) != (rd l1 x13_1)) = false := bne_eq_false_iff_eq.mpr c8
         clear c8
         have H' := yD H
         clear H
         have p213 : 0 ≤ (x13_1 : Int) := zP (by assumption)
         have q213 : x13_1 < (l0.length : Int) := zP (by assumption)
         obtain ⟨ad213, e213, hx213_0⟩ := Kd.at_int HR0.out x13_1 p213 q213
         cases e213; replace p213 := eq_true p213; replace q213 := eq_true q213
         have p214 : 0 ≤ (x13_1 : Int) := zP (by assumption)
         have q214 : x13_1 < (l1.length : Int) := zP (by assumption)
         obtain ⟨ad214, e214, hx214_0⟩ := Kd.at_int HR1.out x13_1 p214 q214
         cases e214; replace p214 := eq_true p214; replace q214 := eq_true q214
         go_wp2
         repeat (go_quiet (fail); try go_wp2)
         go_roundg k1
         case measure => have := HK1.out; omega
         case rel => exact ⟨(wrap64 (x13_1 + 1)), (by first | rfl | (simp; done) | (simp [*]; done)), H', ⟨by have := HK1.out; omega⟩, by repeat (first | exact Drawn0.refl _ | apply Drawn0.step)⟩
        ·
         rw [if_neg c8] at H
         have c8b0 : ((rd l0 x13_1) == (rd l1 x13_1)) = false := beq_eq_false_iff_ne.mpr c8
         have c8b1 : ((rd l0 x13_1) != (rd l1 x13_1)) = true := bne_iff_ne.mpr c8
         obtain rfl := Option.some.inj H
         have p213 : 0 ≤ (x13_1 : Int) := zP (by assumption)
         have q213 : x13_1 < (l0.length : Int) := zP (by assumption)
         obtain ⟨ad213, e213, hx213_0⟩ := Kd.at_int HR0.out x13_1 p213 q213
         cases e213; replace p213 := eq_true p213; replace q213 := eq_true q213
         have p214 : 0 ≤ (x13_1 : Int) := zP (by assumption)
         have q214 : x13_1 < (l1.length : Int) := zP (by assumption)
         obtain ⟨ad214, e214, hx214_0⟩ := Kd.at_int HR1.out x13_1 p214 q214
         cases e214; replace p214 := eq_true p214; replace q214 := eq_true q214
         go_wp2
         repeat (go_quiet (fail); try go_wp2)
         go_ret
         exact ⟨by first | rfl | (simp; done) | (simp [*]; done), by repeat (first | exact Drawn0.refl _ | apply Drawn0.step)⟩
       · rw [if_neg c7] at H
         exact absurd H (by simp)
      · rw [if_neg c6] at H
        exact absurd H (by simp)
     · rw [if_neg c5] at H
       exact absurd H (by simp)
    · rw [if_neg c4] at H
      have c4b0 : decide (x13_1 < (l0.length : Int)) = false := zS c4; clear c4; obtain rfl := Option.some.inj H
      go_wp2
      repeat (go_quiet (fail); try go_wp2)
      go_ret
      exact ⟨by first | rfl | (simp; done) | (simp [*]; done), by repeat (first | exact Drawn0.refl _ | apply Drawn0.step)⟩
 ·
  rw [if_neg c3] at H
  have c3b0 : ((l0.length : Int) == (l1.length : Int)) = false := beq_eq_false_iff_ne.mpr c3
  have c3b1 : ((l0.length : Int) != (l1.length : Int)) = true := bne_iff_ne.mpr c3
  have c3b2 : (l0.length == l1.length) = false := by first | simpa using c3 | (simp at c3 ⊢; omega)
  obtain rfl := Option.some.inj H; go_enter Try.func107, Try.ntmps107
  go_wp2
  repeat (go_quiet (fail); try go_wp2)
  go_ret
  exact ⟨by first | rfl | (simp; done) | (simp [*]; done), by repeat (first | exact Drawn0.refl _ | apply Drawn0.step)⟩

/-! ### impl_sameBox: function 69 -/
def impl_sameBox.f (k : Nat) (l0_0 : List Int) (l0_1 : List Int) (l1_0 : List Int) (l1_1 : List Int) : Option (Bool) := (slices_Equal_int64_int64.f k l0_0 l1_0).bind fun t217 => (if t217 = true then ((slices_Equal_int64_int64.f k l0_1 l1_1).bind fun t218 => (some t218)) else (some false))
theorem impl_sameBox.mono : ∀ a0 a1 a2 a3 k, LeO (impl_sameBox.f k a0 a1 a2 a3) (impl_sameBox.f (k + 1) a0 a1 a2 a3) := by
 intro a0 a1 a2 a3 k
 unfold impl_sameBox.f
 repeat' (with_reducible first | exact slices_Equal_int64_int64.mono _ _ _ | exact LeO.refl _ | exact LeO.none _ | refine LeO.ite ?_ ?_ | refine LeO.bind ?_ (fun _ => ?_))
set_option maxHeartbeats 8000000 in
set_option maxRecDepth 100000 in
theorem impl_sameBox.calls (k : Nat) (A0_0 : Option Addr) (c0_0 : Nat) (l0_0 : List Int) (A0_1 : Option Addr) (c0_1 : Nat) (l0_1 : List Int) (A1_0 : Option Addr) (c1_0 : Nat) (l1_0 : List Int) (A1_1 : Option Addr) (c1_1 : Nat) (l1_1 : List Int) (r : Bool) (w : World) (hr0_0 : Kd.C (Kd.int .i64) w A0_0 l0_0.length l0_0) (hc0_0 : l0_0.length ≤ c0_0) (hr0_1 : Kd.C (Kd.int .i64) w A0_1 l0_1.length l0_1) (hc0_1 : l0_1.length ≤ c0_1) (hr1_0 : Kd.C (Kd.int .i64) w A1_0 l1_0.length l1_0) (hc1_0 : l1_0.length ≤ c1_0) (hr1_1 : Kd.C (Kd.int .i64) w A1_1 l1_1.length l1_1) (hc1_1 : l1_1.length ≤ c1_1) (h : impl_sameBox.f k l0_0 l0_1 l1_0 l1_1 = some r) :
 Calls Try.prog 69 #[.agg #[.slice A0_0 l0_0.length c0_0, .slice A0_1 l0_1.length c0_1], .agg #[.slice A1_0 l1_0.length c1_0, .slice A1_1 l1_1.length c1_1]] w fun e w' => e = .returned (.bool r) ∧ Below w.heap.size w w' := by
 have hu42 := Try.underlying42
 have HR0_0 := yD hr0_0
 have HC0_0 := yD hc0_0
 clear hr0_0 hc0_0
 have HR0_1 := yD hr0_1
 have HC0_1 := yD hc0_1
 clear hr0_1 hc0_1
 have HR1_0 := yD hr1_0
 have HC1_0 := yD hc1_0
 clear hr1_0 hc1_0
 have HR1_1 := yD hr1_1
 have HC1_1 := yD hc1_1
 clear hr1_1 hc1_1
 have HB := yD (Below.refl w.heap.size w)
 have H : ((slices_Equal_int64_int64.f k l0_0 l1_0).bind fun t217 => (if t217 = true then ((slices_Equal_int64_int64.f k l0_1 l1_1).bind fun t218 => (some t218)) else (some false))) = some r := h
 clear h
 obtain ⟨t217, A30, H⟩ := zW_ H
 replace H : (if t217 = true then ((slices_Equal_int64_int64.f k l0_1 l1_1).bind fun t218 => (some t218)) else (some false)) = some r := H
 have A3 := yD A30
 clear A30
 by_cases c4 : t217 = true
 ·
  subst c4
  replace H : ((slices_Equal_int64_int64.f k l0_1 l1_1).bind fun t218 => (some t218)) = some r := (by rw [if_pos rfl] at H; exact H)
  obtain ⟨t218, A50, H⟩ := zW_ H
  replace H : (some t218) = some r := H
  have A5 := yD A50
  clear A50; obtain rfl := Option.some.inj H; go_enter Try.func69, Try.ntmps69
  go_wp2_with (first | ((with_reducible refine gate_dst (N := 2) rfl ?_); refine box_event ?hg (N := 2) ?hd (cs := #[.slice A0_0 l0_0.length c0_0, .slice A0_1 l0_1.length c0_1]) (t := 42) ?hr ?_; (case hd => rfl); (case hg => rfl); (case hr => first | (go_simp; done) | (go_simp; rfl)); intro gb215 hg w6 hbox hb; have BK215 := yD (hbox); have GW215 := yD ((by rw [hg]; exact (below_size (kB HB)) : w.heap.size ≤ gb215)); have GE215 := yD ((by rw [hg]; exact (below_size (kB HB)) : w.heap.size ≤ gb215)); replace HB := yD (zC (kB HB) hb); clear hb hbox hg) | ((with_reducible refine gate_dst (N := 3) rfl ?_); refine box_event ?hg (N := 3) ?hd (cs := #[.slice A1_0 l1_0.length c1_0, .slice A1_1 l1_1.length c1_1]) (t := 42) ?hr ?_; (case hd => rfl); (case hg => rfl); (case hr => first | (go_simp; done) | (go_simp; rfl)); intro gb216 hg w7 hbox hb; have BK216 := yD (hbox); have GW216 := yD ((by rw [hg]; exact (below_size (kB HB)) : w.heap.size ≤ gb216)); have GE216 := yD ((by rw [hg]; exact (below_size (kB HB)) : w.heap.size ≤ gb216)); replace HB := yD (zC (kB HB) hb); have NB215_216 := yD ((by rw [hg]; exact Nat.ne_of_lt (blk_lt (kN BK215)) : gb215 ≠ gb216)); have NB216_215 := yD ((by rw [hg]; exact Nat.ne_of_gt (blk_lt (kN BK215)) : gb216 ≠ gb215)); replace BK215 := yD (zB (kN BK215) hb); clear hb hbox hg; have hnb8 := NB215_216.out; have hnc8 := NB216_215.out; obtain ⟨hcz9_0, hcz9_1⟩ := cz2 BK215.out; obtain ⟨hfz9_0, hfz9_1⟩ := fz2 BK215.out; obtain ⟨hcz10_0, hcz10_1⟩ := cz2 BK216.out; obtain ⟨hfz10_0, hfz10_1⟩ := fz2 BK216.out) | ((with_reducible refine gate_callee (f := 107) rfl ?_); refine gL 9 Try.func107 #[.slice A0_0 l0_0.length c0_0, .slice A1_0 l1_0.length c1_0] ?_; (with_reducible refine (slices_Equal_int64_int64.calls k _ _ l0_0 _ _ l1_0 true _ ?side1 ?side2 ?side3 ?side4 A3.out).mono ?_); (case side1 => exact kV (yY HR0_0.out HB.out)); (case side2 => exact HC0_0.out); (case side3 => exact kV (yY HR1_0.out HB.out)); (case side4 => exact HC1_0.out); rintro e w' ⟨rfl, ⟨nd, rfl⟩⟩; refine ⟨_, rfl, ?_⟩) | (go_at_call 107; (with_reducible refine (slices_Equal_int64_int64.calls k _ _ l0_1 _ _ l1_1 t218 _ ?side1 ?side2 ?side3 ?side4 A5.out).mono ?_); (case side1 => repeat (first | exact (yY HR0_1.out (kB HB)) | (with_reducible first | refine yV ?_ _ | refine yW ?_ _ | refine yX ?_))); (case side2 => exact HC0_1.out); (case side3 => repeat (first | exact (yY HR1_1.out (kB HB)) | (with_reducible first | refine yV ?_ _ | refine yW ?_ _ | refine yX ?_))); (case side4 => exact HC1_1.out); rintro e w' ⟨rfl, ⟨nd, rfl⟩⟩))
  go_ret
  exact ⟨by first | rfl | (simp <;> rfl) | (simp [*] <;> rfl), kR1 HB⟩
 ·
  replace c4 := Bool.eq_false_iff.mpr c4
  subst c4
  replace H : (some false) = some r := (by rw [if_neg (show ¬ (false = true) by decide)] at H; exact H); obtain rfl := Option.some.inj H; go_enter Try.func69, Try.ntmps69
  go_wp2_with (first | ((with_reducible refine gate_dst (N := 2) rfl ?_); refine box_event ?hg (N := 2) ?hd (cs := #[.slice A0_0 l0_0.length c0_0, .slice A0_1 l0_1.length c0_1]) (t := 42) ?hr ?_; (case hd => rfl); (case hg => rfl); (case hr => first | (go_simp; done) | (go_simp; rfl)); intro gb215 hg w11 hbox hb; have BK215 := yD (hbox); have GW215 := yD ((by rw [hg]; exact (below_size (kB HB)) : w.heap.size ≤ gb215)); have GE215 := yD ((by rw [hg]; exact (below_size (kB HB)) : w.heap.size ≤ gb215)); replace HB := yD (zC (kB HB) hb); clear hb hbox hg) | ((with_reducible refine gate_dst (N := 3) rfl ?_); refine box_event ?hg (N := 3) ?hd (cs := #[.slice A1_0 l1_0.length c1_0, .slice A1_1 l1_1.length c1_1]) (t := 42) ?hr ?_; (case hd => rfl); (case hg => rfl); (case hr => first | (go_simp; done) | (go_simp; rfl)); intro gb216 hg w12 hbox hb; have BK216 := yD (hbox); have GW216 := yD ((by rw [hg]; exact (below_size (kB HB)) : w.heap.size ≤ gb216)); have GE216 := yD ((by rw [hg]; exact (below_size (kB HB)) : w.heap.size ≤ gb216)); replace HB := yD (zC (kB HB) hb); have NB215_216 := yD ((by rw [hg]; exact Nat.ne_of_lt (blk_lt (kN BK215)) : gb215 ≠ gb216)); have NB216_215 := yD ((by rw [hg]; exact Nat.ne_of_gt (blk_lt (kN BK215)) : gb216 ≠ gb215)); replace BK215 := yD (zB (kN BK215) hb); clear hb hbox hg; have hnb13 := NB215_216.out; have hnc13 := NB216_215.out; obtain ⟨hcz14_0, hcz14_1⟩ := cz2 BK215.out; obtain ⟨hfz14_0, hfz14_1⟩ := fz2 BK215.out; obtain ⟨hcz15_0, hcz15_1⟩ := cz2 BK216.out; obtain ⟨hfz15_0, hfz15_1⟩ := fz2 BK216.out) | ((with_reducible refine gate_callee (f := 107) rfl ?_); refine gL 9 Try.func107 #[.slice A0_0 l0_0.length c0_0, .slice A1_0 l1_0.length c1_0] ?_; (with_reducible refine (slices_Equal_int64_int64.calls k _ _ l0_0 _ _ l1_0 false _ ?side1 ?side2 ?side3 ?side4 A3.out).mono ?_); (case side1 => exact kV (yY HR0_0.out HB.out)); (case side2 => exact HC0_0.out); (case side3 => exact kV (yY HR1_0.out HB.out)); (case side4 => exact HC1_0.out); rintro e w' ⟨rfl, ⟨nd, rfl⟩⟩; refine ⟨_, rfl, ?_⟩))
  go_ret
  exact ⟨by first | rfl | (simp <;> rfl) | (simp [*] <;> rfl), kR1 HB⟩

/-! ### slices_EqualFunc_impl_sameBox: function 68 -/
def slices_EqualFunc_impl_sameBox.l0 : Nat → List (S42) → List (S42) → Int → Int → Option (Bool)
 | 0, _, _, _, _ => none
 | k + 1, x1, x15, x16, x17 => if x17 < x16 then (if 0 ≤ x17 then (if x17 < (x15.length : Int) then (if x17 < (x1.length : Int) then ((impl_sameBox.f k ((rd_T42 x15 x17).f0) ((rd_T42 x15 x17).f1) ((rd_T42 x1 x17).f0) ((rd_T42 x1 x17).f1)).bind fun t223 => (if t223 = true then (slices_EqualFunc_impl_sameBox.l0 k x1 x15 x16 (wrap64 (x17 + 1))) else (some false))) else (none)) else (none)) else (none)) else (some true)
def slices_EqualFunc_impl_sameBox.f (k : Nat) (l0 : List (S42)) (l1 : List (S42))  : Option (Bool) := if (l0.length : Int) = (l1.length : Int) then (slices_EqualFunc_impl_sameBox.l0 k l1 l0 (l0.length : Int) 0) else (some false)
theorem slices_EqualFunc_impl_sameBox.mono_l : ∀ k, (∀ y0 y1 y2 y3, LeO (slices_EqualFunc_impl_sameBox.l0 k y0 y1 y2 y3) (slices_EqualFunc_impl_sameBox.l0 (k + 1) y0 y1 y2 y3))
 | 0 => fun _ _ _ _ r h => by simp [slices_EqualFunc_impl_sameBox.l0] at h
 | k + 1 => by
  have ih0 := slices_EqualFunc_impl_sameBox.mono_l k
  · intro y0 y1 y2 y3
    unfold slices_EqualFunc_impl_sameBox.l0
    repeat' (with_reducible first | exact ih0 _ _ _ _ | exact impl_sameBox.mono _ _ _ _ _ | exact LeO.refl _ | exact LeO.none _ | refine LeO.ite ?_ ?_ | refine LeO.bind ?_ (fun _ => ?_))
theorem slices_EqualFunc_impl_sameBox.mono : ∀ a0 a1 k, LeO (slices_EqualFunc_impl_sameBox.f k a0 a1) (slices_EqualFunc_impl_sameBox.f (k + 1) a0 a1) := by
 intro a0 a1 k
 have ih0 := slices_EqualFunc_impl_sameBox.mono_l k
 unfold slices_EqualFunc_impl_sameBox.f
 repeat' (with_reducible first | exact ih0 _ _ _ _ | exact impl_sameBox.mono _ _ _ _ _ | exact LeO.refl _ | exact LeO.none _ | refine LeO.ite ?_ ?_ | refine LeO.bind ?_ (fun _ => ?_))
set_option maxHeartbeats 8000000 in
set_option maxRecDepth 100000 in
theorem slices_EqualFunc_impl_sameBox.calls (k : Nat) (A0 : Option Addr) (c0 : Nat) (l0 : List (S42)) (A1 : Option Addr) (c1 : Nat) (l1 : List (S42))  (r : Bool) (w : World) (hr0 : Kd.C k42 w A0 l0.length l0) (hc0 : l0.length ≤ c0) (hr1 : Kd.C k42 w A1 l1.length l1) (hc1 : l1.length ≤ c1) (h : slices_EqualFunc_impl_sameBox.f k l0 l1 = some r) :
 Calls Try.prog 68 #[.slice A0 l0.length c0, .slice A1 l1.length c1, .func (.func 69) #[] #[]] w fun e w' => e = .returned (.bool r) ∧ Below w.heap.size w w' := by
 have hu42 := Try.underlying42
 have HR0 := yD hr0
 have HC0 := yD hc0
 clear hr0 hc0
 have HR1 := yD hr1
 have HC1 := yD hc1
 clear hr1 hc1
 have HB := yD (Below.refl w.heap.size w)
 have H : (if (l0.length : Int) = (l1.length : Int) then (slices_EqualFunc_impl_sameBox.l0 k l1 l0 (l0.length : Int) 0) else (some false)) = some r := h
 clear h
 by_cases c4 : (l0.length : Int) = (l1.length : Int)
 ·
  rw [if_pos c4] at H
  have c4b0 : ((l0.length : Int) == (l1.length : Int)) = true := beq_iff_eq.mpr c4
  have c4b1 : ((l0.length : Int) != (l1.length : Int)) = false := bne_eq_false_iff_eq.mpr c4
  have c4b2 : (l0.length == l1.length) = true := by first | simpa using c4 | (simp at c4 ⊢; omega)
  clear c4
  have H' := yD H
  clear H; go_enter Try.func68, Try.ntmps68
  go_wp2
  go_loopg [17] k (fun kq v17 w' => ∃ (x17_1 : Int), v17 = .int .i64 x17_1 ∧ Aside0 (slices_EqualFunc_impl_sameBox.l0 kq l1 l0 (l0.length : Int) x17_1 = some r) ∧ Aside0 (kq ≤ k) ∧ Aside0 (Below w.heap.size w w'))
  case atStart => exact ⟨(0), (by first | rfl | (simp; done) | (simp [*]; done)), H', ⟨Nat.le_refl _⟩, ⟨kR0 HB⟩⟩
  case round =>
   clear H'
   try clear c1; try clear c4; try clear c4b0; try clear c4b1; try clear c4b2
   obtain ⟨x17_1, rfl, HA, HK1, HB⟩ := hrel
   cases gk with
   | zero => exact absurd HA.out (by simp [slices_EqualFunc_impl_sameBox.l0])
   | succ k1 =>
    have H := HA.out; clear HA
    simp only [slices_EqualFunc_impl_sameBox.l0] at H
    by_cases c5 : x17_1 < (l0.length : Int)
    ·
     rw [if_pos c5] at H
     have c5b0 : decide (x17_1 < (l0.length : Int)) = true := zR c5; clear c5
     by_cases c6 : 0 ≤ x17_1
     ·
      rw [if_pos c6] at H
      have c6b0 : decide (0 ≤ x17_1) = true := zR c6; clear c6
      by_cases c7 : x17_1 < (l0.length : Int)
      ·
       rw [if_pos c7] at H
       have c7b0 : decide (x17_1 < (l0.length : Int)) = true := zR c7; clear c7
       by_cases c8 : x17_1 < (l1.length : Int)
       ·
        rw [if_pos c8] at H
        have c8b0 : decide (x17_1 < (l1.length : Int)) = true := zR c8; clear c8
        obtain ⟨t223, A90, H⟩ := zW_ H
        replace H : (if t223 = true then (slices_EqualFunc_impl_sameBox.l0 k1 l1 l0 (l0.length : Int) (wrap64 (x17_1 + 1))) else (some false)) = some r := H
        have A9 := yD A90
        clear A90
        by_cases c10 : t223 = true
        ·
         subst c10
         replace H : (slices_EqualFunc_impl_sameBox.l0 k1 l1 l0 (l0.length : Int) (wrap64 (x17_1 + 1))) = some r := (by rw [if_pos rfl] at H; exact H)
         have H' := yD H
         clear H
         have p219 : 0 ≤ (x17_1 : Int) := zP (by assumption)
         have q219 : x17_1 < (l0.length : Int) := zP (by assumption)
         obtain ⟨ad219, A219_0, c219_0, A219_1, c219_1, e219, hx219_0, hx219_1, hl219_0, hi219_0, hl219_1, hi219_1⟩ := at_T42 HR0.out x17_1 p219 q219
         cases e219
         replace hx219_0 := (HB.out.cell (zQ w _ hx219_0)).trans hx219_0
         replace hx219_1 := (HB.out.cell (zQ w _ hx219_1)).trans hx219_1
         have HR219_0 := yD hi219_0
         have HC219_0 := yD hl219_0
         clear hi219_0 hl219_0
         have HR219_1 := yD hi219_1
         have HC219_1 := yD hl219_1
         clear hi219_1 hl219_1; replace p219 := eq_true p219; replace q219 := eq_true q219
         go_wp2_with (first | ((with_reducible refine gate_dst (N := 8) rfl ?_); refine box_event ?hg (N := 8) ?hd (cs := #[.slice none 0 0, .slice none 0 0]) (t := 42) ?hr ?_; (case hd => rfl); (case hg => rfl); (case hr => first | (go_simp; done) | (go_simp; rfl)); intro gb220 hg w11 hbox hb; have BK220 := yD (hbox); have GW220 := yD ((by rw [hg]; exact (below_size (kB HB)) : w.heap.size ≤ gb220)); have GE220 := yD ((by rw [hg]; exact (below_size (kB HB)) : w.heap.size ≤ gb220)); replace HB := yD (zC (kB HB) hb); clear hb hbox hg; obtain ⟨hcz12_0, hcz12_1⟩ := cz2 BK220.out; obtain ⟨hfz12_0, hfz12_1⟩ := fz2 BK220.out; have p221 : 0 ≤ (x17_1 : Int) := zP (by assumption); have q221 : x17_1 < (l1.length : Int) := zP (by assumption); obtain ⟨ad221, A221_0, c221_0, A221_1, c221_1, e221, hx221_0, hx221_1, hl221_0, hi221_0, hl221_1, hi221_1⟩ := at_T42 HR1.out x17_1 p221 q221; cases e221; have hn221_0 : ad221.block ≠ gb220 := Nat.ne_of_lt (Nat.lt_of_lt_of_le (by have := zQ _ _ hx221_0; first | rwa [add_block] at this | exact this) GW220.out); have hn221_1 : ad221.block ≠ gb220 := Nat.ne_of_lt (Nat.lt_of_lt_of_le (by have := zQ _ _ hx221_0; first | rwa [add_block] at this | exact this) GW220.out); replace hx221_0 := (HB.out.cell (zQ w _ hx221_0)).trans hx221_0; replace hx221_1 := (HB.out.cell (zQ w _ hx221_1)).trans hx221_1; have HR221_0 := yD hi221_0; have HC221_0 := yD hl221_0; clear hi221_0 hl221_0; have HR221_1 := yD hi221_1; have HC221_1 := yD hl221_1; clear hi221_1 hl221_1; replace hx221_0 := (cell_far (p := ⟨gb220, 0, none⟩) (by first | (rw [add_block]; exact hn221_0) | (show (Addr.add _ _).block ≠ _; rw [add_block]; exact hn221_0) | exact hn221_0) (.slice A219_0 ((rd_T42 l0 x17_1).f0).length c219_0)).trans hx221_0; replace hx221_1 := (cell_far (p := ⟨gb220, 0, none⟩) (by first | (rw [add_block]; exact hn221_0) | (show (Addr.add _ _).block ≠ _; rw [add_block]; exact hn221_0) | exact hn221_0) (.slice A219_0 ((rd_T42 l0 x17_1).f0).length c219_0)).trans hx221_1; replace hx221_0 := (cell_far (p := ⟨gb220, 1, none⟩) (by first | (rw [add_block]; exact hn221_1) | (show (Addr.add _ _).block ≠ _; rw [add_block]; exact hn221_1) | exact hn221_1) (.slice A219_1 ((rd_T42 l0 x17_1).f1).length c219_1)).trans hx221_0; replace hx221_1 := (cell_far (p := ⟨gb220, 1, none⟩) (by first | (rw [add_block]; exact hn221_1) | (show (Addr.add _ _).block ≠ _; rw [add_block]; exact hn221_1) | exact hn221_1) (.slice A219_1 ((rd_T42 l0 x17_1).f1).length c219_1)).trans hx221_1; clear hn221_0; clear hn221_1; replace p221 := eq_true p221; replace q221 := eq_true q221) | ((with_reducible refine gate_dst (N := 9) rfl ?_); refine box_event ?hg (N := 9) ?hd (cs := #[.slice none 0 0, .slice none 0 0]) (t := 42) ?hr ?_; (case hd => rfl); (case hg => rfl); (case hr => first | (go_simp; done) | (go_simp; rfl)); intro gb222 hg w13 hbox hb; have BK222 := yD (hbox); have GW222 := yD ((by rw [hg]; exact (below_size (kB HB)) : w.heap.size ≤ gb222)); have GE222 := yD ((by rw [hg]; exact (below_size (kB HB)) : w.heap.size ≤ gb222)); replace HB := yD (zC (kB HB) hb); have NB220_222 := yD ((by rw [hg]; exact Nat.ne_of_lt (blk_lt (g := gb220) (o := .cells #[.slice A219_0 ((rd_T42 l0 x17_1).f0).length c219_0, .slice A219_1 ((rd_T42 l0 x17_1).f1).length c219_1] 42 (0, 0)) (by (with_reducible repeat (first | refine yM ?_ _ | refine yO ?_ | refine yN ?_ _)); refine blk_put (cs := #[.slice A219_0 ((rd_T42 l0 x17_1).f0).length c219_0, .slice none 0 0]) ?_ 1 _ rfl; (with_reducible repeat (first | refine yM ?_ _ | refine yO ?_ | refine yN ?_ _)); refine blk_put (cs := #[.slice none 0 0, .slice none 0 0]) ?_ 0 _ rfl; (with_reducible repeat (first | refine yM ?_ _ | refine yO ?_ | refine yN ?_ _)); exact BK220.out)) : gb220 ≠ gb222)); have NB222_220 := yD ((by rw [hg]; exact Nat.ne_of_gt (blk_lt (g := gb220) (o := .cells #[.slice A219_0 ((rd_T42 l0 x17_1).f0).length c219_0, .slice A219_1 ((rd_T42 l0 x17_1).f1).length c219_1] 42 (0, 0)) (by (with_reducible repeat (first | refine yM ?_ _ | refine yO ?_ | refine yN ?_ _)); refine blk_put (cs := #[.slice A219_0 ((rd_T42 l0 x17_1).f0).length c219_0, .slice none 0 0]) ?_ 1 _ rfl; (with_reducible repeat (first | refine yM ?_ _ | refine yO ?_ | refine yN ?_ _)); refine blk_put (cs := #[.slice none 0 0, .slice none 0 0]) ?_ 0 _ rfl; (with_reducible repeat (first | refine yM ?_ _ | refine yO ?_ | refine yN ?_ _)); exact BK220.out)) : gb222 ≠ gb220)); replace BK220 := yD (zB (g := gb220) (o := .cells #[.slice A219_0 ((rd_T42 l0 x17_1).f0).length c219_0, .slice A219_1 ((rd_T42 l0 x17_1).f1).length c219_1] 42 (0, 0)) (by (with_reducible repeat (first | refine yM ?_ _ | refine yO ?_ | refine yN ?_ _)); refine blk_put (cs := #[.slice A219_0 ((rd_T42 l0 x17_1).f0).length c219_0, .slice none 0 0]) ?_ 1 _ rfl; (with_reducible repeat (first | refine yM ?_ _ | refine yO ?_ | refine yN ?_ _)); refine blk_put (cs := #[.slice none 0 0, .slice none 0 0]) ?_ 0 _ rfl; (with_reducible repeat (first | refine yM ?_ _ | refine yO ?_ | refine yN ?_ _)); exact BK220.out) hb); clear hb hbox hg; have hnb14 := NB222_220.out; have hnc14 := NB220_222.out; obtain ⟨hcz15_0, hcz15_1⟩ := cz2 BK222.out; obtain ⟨hfz15_0, hfz15_1⟩ := fz2 BK222.out; obtain ⟨hcz16_0, hcz16_1⟩ := cz2 BK220.out; obtain ⟨hfz16_0, hfz16_1⟩ := fz2 BK220.out) | (go_at_call 69; (with_reducible refine (impl_sameBox.calls k1 _ _ ((rd_T42 l0 x17_1).f0) _ _ ((rd_T42 l0 x17_1).f1) _ _ ((rd_T42 l1 x17_1).f0) _ _ ((rd_T42 l1 x17_1).f1) true _ ?side1 ?side2 ?side3 ?side4 ?side5 ?side6 ?side7 ?side8 A9.out).mono ?_); (case side1 => exact yY HR219_0.out (kB HB)); (case side2 => exact HC219_0.out); (case side3 => exact yY HR219_1.out (kB HB)); (case side4 => exact HC219_1.out); (case side5 => exact yY HR221_0.out (kB HB)); (case side6 => exact HC221_0.out); (case side7 => exact yY HR221_1.out (kB HB)); (case side8 => exact HC221_1.out); rintro e w17 ⟨rfl, hb⟩; replace BK220 := yD (zB (g := gb220) (o := .cells #[.slice A219_0 ((rd_T42 l0 x17_1).f0).length c219_0, .slice A219_1 ((rd_T42 l0 x17_1).f1).length c219_1] 42 (0, 0)) (by (with_reducible repeat (first | refine yM ?_ _ | refine yO ?_ | refine yN ?_ _)); refine blk_far ?_ NB220_222.out _; (with_reducible repeat (first | refine yM ?_ _ | refine yO ?_ | refine yN ?_ _)); refine blk_far ?_ NB220_222.out _; (with_reducible repeat (first | refine yM ?_ _ | refine yO ?_ | refine yN ?_ _)); exact BK220.out) hb); replace BK222 := yD (zB (g := gb222) (o := .cells #[.slice A221_0 ((rd_T42 l1 x17_1).f0).length c221_0, .slice A221_1 ((rd_T42 l1 x17_1).f1).length c221_1] 42 (0, 0)) (by (with_reducible repeat (first | refine yM ?_ _ | refine yO ?_ | refine yN ?_ _)); refine blk_put (cs := #[.slice A221_0 ((rd_T42 l1 x17_1).f0).length c221_0, .slice none 0 0]) ?_ 1 _ rfl; (with_reducible repeat (first | refine yM ?_ _ | refine yO ?_ | refine yN ?_ _)); refine blk_put (cs := #[.slice none 0 0, .slice none 0 0]) ?_ 0 _ rfl; (with_reducible repeat (first | refine yM ?_ _ | refine yO ?_ | refine yN ?_ _)); exact BK222.out) hb); replace HB := yD (zC (kB HB) hb); clear hb))
         go_roundg k1
         case measure => have := HK1.out; omega
         case rel => exact ⟨(wrap64 (x17_1 + 1)), (by first | rfl | (simp; done) | (simp [*]; done)), H', ⟨by have := HK1.out; omega⟩, ⟨kR1 HB⟩⟩
        ·
         replace c10 := Bool.eq_false_iff.mpr c10
         subst c10
         replace H : (some false) = some r := (by rw [if_neg (show ¬ (false = true) by decide)] at H; exact H); obtain rfl := Option.some.inj H
         have p219 : 0 ≤ (x17_1 : Int) := zP (by assumption)
         have q219 : x17_1 < (l0.length : Int) := zP (by assumption)
         obtain ⟨ad219, A219_0, c219_0, A219_1, c219_1, e219, hx219_0, hx219_1, hl219_0, hi219_0, hl219_1, hi219_1⟩ := at_T42 HR0.out x17_1 p219 q219
         cases e219
         replace hx219_0 := (HB.out.cell (zQ w _ hx219_0)).trans hx219_0
         replace hx219_1 := (HB.out.cell (zQ w _ hx219_1)).trans hx219_1
         have HR219_0 := yD hi219_0
         have HC219_0 := yD hl219_0
         clear hi219_0 hl219_0
         have HR219_1 := yD hi219_1
         have HC219_1 := yD hl219_1
         clear hi219_1 hl219_1; replace p219 := eq_true p219; replace q219 := eq_true q219
         go_wp2_with (first | ((with_reducible refine gate_dst (N := 8) rfl ?_); refine box_event ?hg (N := 8) ?hd (cs := #[.slice none 0 0, .slice none 0 0]) (t := 42) ?hr ?_; (case hd => rfl); (case hg => rfl); (case hr => first | (go_simp; done) | (go_simp; rfl)); intro gb220 hg w18 hbox hb; have BK220 := yD (hbox); have GW220 := yD ((by rw [hg]; exact (below_size (kB HB)) : w.heap.size ≤ gb220)); have GE220 := yD ((by rw [hg]; exact (below_size (kB HB)) : w.heap.size ≤ gb220)); replace HB := yD (zC (kB HB) hb); clear hb hbox hg; obtain ⟨hcz19_0, hcz19_1⟩ := cz2 BK220.out; obtain ⟨hfz19_0, hfz19_1⟩ := fz2 BK220.out; have p221 : 0 ≤ (x17_1 : Int) := zP (by assumption); have q221 : x17_1 < (l1.length : Int) := zP (by assumption); obtain ⟨ad221, A221_0, c221_0, A221_1, c221_1, e221, hx221_0, hx221_1, hl221_0, hi221_0, hl221_1, hi221_1⟩ := at_T42 HR1.out x17_1 p221 q221; cases e221; have hn221_0 : ad221.block ≠ gb220 := Nat.ne_of_lt (Nat.lt_of_lt_of_le (by have := zQ _ _ hx221_0; first | rwa [add_block] at this | exact this) GW220.out); have hn221_1 : ad221.block ≠ gb220 := Nat.ne_of_lt (Nat.lt_of_lt_of_le (by have := zQ _ _ hx221_0; first | rwa [add_block] at this | exact this) GW220.out); replace hx221_0 := (HB.out.cell (zQ w _ hx221_0)).trans hx221_0; replace hx221_1 := (HB.out.cell (zQ w _ hx221_1)).trans hx221_1; have HR221_0 := yD hi221_0; have HC221_0 := yD hl221_0; clear hi221_0 hl221_0; have HR221_1 := yD hi221_1; have HC221_1 := yD hl221_1; clear hi221_1 hl221_1; replace hx221_0 := (cell_far (p := ⟨gb220, 0, none⟩) (by first | (rw [add_block]; exact hn221_0) | (show (Addr.add _ _).block ≠ _; rw [add_block]; exact hn221_0) | exact hn221_0) (.slice A219_0 ((rd_T42 l0 x17_1).f0).length c219_0)).trans hx221_0; replace hx221_1 := (cell_far (p := ⟨gb220, 0, none⟩) (by first | (rw [add_block]; exact hn221_0) | (show (Addr.add _ _).block ≠ _; rw [add_block]; exact hn221_0) | exact hn221_0) (.slice A219_0 ((rd_T42 l0 x17_1).f0).length c219_0)).trans hx221_1; replace hx221_0 := (cell_far (p := ⟨gb220, 1, none⟩) (by first | (rw [add_block]; exact hn221_1) | (show (Addr.add _ _).block ≠ _; rw [add_block]; exact hn221_1) | exact hn221_1) (.slice A219_1 ((rd_T42 l0 x17_1).f1).length c219_1)).trans hx221_0; replace hx221_1 := (cell_far (p := ⟨gb220, 1, none⟩) (by first | (rw [add_block]; exact hn221_1) | (show (Addr.add _ _).block ≠ _; rw [add_block]; exact hn221_1) | exact hn221_1) (.slice A219_1 ((rd_T42 l0 x17_1).f1).length c219_1)).trans hx221_1; clear hn221_0; clear hn221_1; replace p221 := eq_true p221; replace q221 := eq_true q221) | ((with_reducible refine gate_dst (N := 9) rfl ?_); refine box_event ?hg (N := 9) ?hd (cs := #[.slice none 0 0, .slice none 0 0]) (t := 42) ?hr ?_; (case hd => rfl); (case hg => rfl); (case hr => first | (go_simp; done) | (go_simp; rfl)); intro gb222 hg w20 hbox hb; have BK222 := yD (hbox); have GW222 := yD ((by rw [hg]; exact (below_size (kB HB)) : w.heap.size ≤ gb222)); have GE222 := yD ((by rw [hg]; exact (below_size (kB HB)) : w.heap.size ≤ gb222)); replace HB := yD (zC (kB HB) hb); have NB220_222 := yD ((by rw [hg]; exact Nat.ne_of_lt (blk_lt (g := gb220) (o := .cells #[.slice A219_0 ((rd_T42 l0 x17_1).f0).length c219_0, .slice A219_1 ((rd_T42 l0 x17_1).f1).length c219_1] 42 (0, 0)) (by (with_reducible repeat (first | refine yM ?_ _ | refine yO ?_ | refine yN ?_ _)); refine blk_put (cs := #[.slice A219_0 ((rd_T42 l0 x17_1).f0).length c219_0, .slice none 0 0]) ?_ 1 _ rfl; (with_reducible repeat (first | refine yM ?_ _ | refine yO ?_ | refine yN ?_ _)); refine blk_put (cs := #[.slice none 0 0, .slice none 0 0]) ?_ 0 _ rfl; (with_reducible repeat (first | refine yM ?_ _ | refine yO ?_ | refine yN ?_ _)); exact BK220.out)) : gb220 ≠ gb222)); have NB222_220 := yD ((by rw [hg]; exact Nat.ne_of_gt (blk_lt (g := gb220) (o := .cells #[.slice A219_0 ((rd_T42 l0 x17_1).f0).length c219_0, .slice A219_1 ((rd_T42 l0 x17_1).f1).length c219_1] 42 (0, 0)) (by (with_reducible repeat (first | refine yM ?_ _ | refine yO ?_ | refine yN ?_ _)); refine blk_put (cs := #[.slice A219_0 ((rd_T42 l0 x17_1).f0).length c219_0, .slice none 0 0]) ?_ 1 _ rfl; (with_reducible repeat (first | refine yM ?_ _ | refine yO ?_ | refine yN ?_ _)); refine blk_put (cs := #[.slice none 0 0, .slice none 0 0]) ?_ 0 _ rfl; (with_reducible repeat (first | refine yM ?_ _ | refine yO ?_ | refine yN ?_ _)); exact BK220.out)) : gb222 ≠ gb220)); replace BK220 := yD (zB (g := gb220) (o := .cells #[.slice A219_0 ((rd_T42 l0 x17_1).f0).length c219_0, .slice A219_1 ((rd_T42 l0 x17_1).f1).length c219_1] 42 (0, 0)) (by (with_reducible repeat (first | refine yM ?_ _ | refine yO ?_ | refine yN ?_ _)); refine blk_put (cs := #[.slice A219_0 ((rd_T42 l0 x17_1).f0).length c219_0, .slice none 0 0]) ?_ 1 _ rfl; (with_reducible repeat (first | refine yM ?_ _ | refine yO ?_ | refine yN ?_ _)); refine blk_put (cs := #[.slice none 0 0, .slice none 0 0]) ?_ 0 _ rfl; (with_reducible repeat (first | refine yM ?_ _ | refine yO ?_ | refine yN ?_ _)); exact BK220.out) hb); clear hb hbox hg; have hnb21 := NB222_220.out; have hnc21 := NB220_222.out; obtain ⟨hcz22_0, hcz22_1⟩ := cz2 BK222.out; obtain ⟨hfz22_0, hfz22_1⟩ := fz2 BK222.out; obtain ⟨hcz23_0, hcz23_1⟩ := cz2 BK220.out; obtain ⟨hfz23_0, hfz23_1⟩ := fz2 BK220.out) | (go_at_call 69; (with_reducible refine (impl_sameBox.calls k1 _ _ ((rd_T42 l0 x17_1).f0) _ _ ((rd_T42 l0 x17_1).f1) _ _ ((rd_T42 l1 x17_1).f0) _ _ ((rd_T42 l1 x17_1).f1) false _ ?side1 ?side2 ?side3 ?side4 ?side5 ?side6 ?side7 ?side8 A9.out).mono ?_); (case side1 => exact yY HR219_0.out (kB HB)); (case side2 => exact HC219_0.out); (case side3 => exact yY HR219_1.out (kB HB)); (case side4 => exact HC219_1.out); (case side5 => exact yY HR221_0.out (kB HB)); (case side6 => exact HC221_0.out); (case side7 => exact yY HR221_1.out (kB HB)); (case side8 => exact HC221_1.out); rintro e w24 ⟨rfl, hb⟩; replace BK220 := yD (zB (g := gb220) (o := .cells #[.slice A219_0 ((rd_T42 l0 x17_1).f0).length c219_0, .slice A219_1 ((rd_T42 l0 x17_1).f1).length c219_1] 42 (0, 0)) (by (with_reducible repeat (first | refine yM ?_ _ | refine yO ?_ | refine yN ?_ _)); refine blk_far ?_ NB220_222.out _; (with_reducible repeat (first | refine yM ?_ _ | refine yO ?_ | refine yN ?_ _)); refine blk_far ?_ NB220_222.out _; (with_reducible repeat (first | refine yM ?_ _ | refine yO ?_ | refine yN ?_ _)); exact BK220.out) hb); replace BK222 := yD (zB (g := gb222) (o := .cells #[.slice A221_0 ((rd_T42 l1 x17_1).f0).length c221_0, .slice A221_1 ((rd_T42 l1 x17_1).f1).length c221_1] 42 (0, 0)) (by (with_reducible repeat (first | refine yM ?_ _ | refine yO ?_ | refine yN ?_ _)); refine blk_put (cs := #[.slice A221_0 ((rd_T42 l1 x17_1).f0).length c221_0, .slice none 0 0]) ?_ 1 _ rfl; (with_reducible repeat (first | refine yM ?_ _ | refine yO ?_ | refine yN ?_ _)); refine blk_put (cs := #[.slice none 0 0, .slice none 0 0]) ?_ 0 _ rfl; (with_reducible repeat (first | refine yM ?_ _ | refine yO ?_ | refine yN ?_ _)); exact BK222.out) hb); replace HB := yD (zC (kB HB) hb); clear hb))
         go_ret
         exact ⟨by first | rfl | (simp <;> rfl) | (simp [*] <;> rfl), kR1 HB⟩
       · rw [if_neg c8] at H
         exact absurd H (by simp)
      · rw [if_neg c7] at H
        exact absurd H (by simp)
     · rw [if_neg c6] at H
       exact absurd H (by simp)
    · rw [if_neg c5] at H
      have c5b0 : decide (x17_1 < (l0.length : Int)) = false := zS c5; clear c5; obtain rfl := Option.some.inj H
      go_wp2
      go_ret
      exact ⟨by first | rfl | (simp <;> rfl) | (simp [*] <;> rfl), kR0 HB⟩
 ·
  rw [if_neg c4] at H
  have c4b0 : ((l0.length : Int) == (l1.length : Int)) = false := beq_eq_false_iff_ne.mpr c4
  have c4b1 : ((l0.length : Int) != (l1.length : Int)) = true := bne_iff_ne.mpr c4
  have c4b2 : (l0.length == l1.length) = false := by first | simpa using c4 | (simp at c4 ⊢; omega)
  obtain rfl := Option.some.inj H; go_enter Try.func68, Try.ntmps68
  go_wp2
  go_ret
  exact ⟨by first | rfl | (simp <;> rfl) | (simp [*] <;> rfl), kR0 HB⟩

/-! ### impl_SameBoxes: function 31 -/
def impl_SameBoxes.f (k : Nat) (l0 : List (S42)) (l1 : List (S42)) : Option (Bool) := (slices_EqualFunc_impl_sameBox.f k l0 l1).bind fun t224 => (some t224)
theorem impl_SameBoxes.mono : ∀ a0 a1 k, LeO (impl_SameBoxes.f k a0 a1) (impl_SameBoxes.f (k + 1) a0 a1) := by
 intro a0 a1 k
 unfold impl_SameBoxes.f
 repeat' (with_reducible first | exact slices_EqualFunc_impl_sameBox.mono _ _ _ | exact LeO.refl _ | exact LeO.none _ | refine LeO.ite ?_ ?_ | refine LeO.bind ?_ (fun _ => ?_))
set_option maxHeartbeats 8000000 in
set_option maxRecDepth 100000 in
theorem impl_SameBoxes.calls (k : Nat) (A0 : Option Addr) (c0 : Nat) (l0 : List (S42)) (A1 : Option Addr) (c1 : Nat) (l1 : List (S42)) (r : Bool) (w : World) (hr0 : Kd.C k42 w A0 l0.length l0) (hc0 : l0.length ≤ c0) (hr1 : Kd.C k42 w A1 l1.length l1) (hc1 : l1.length ≤ c1) (h : impl_SameBoxes.f k l0 l1 = some r) :
 Calls Try.prog 31 #[.slice A0 l0.length c0, .slice A1 l1.length c1] w fun e w' => e = .returned (.bool r) ∧ Below w.heap.size w w' := by
 have HR0 := yD hr0
 have HC0 := yD hc0
 clear hr0 hc0
 have HR1 := yD hr1
 have HC1 := yD hc1
 clear hr1 hc1
 have HB := yD (Below.refl w.heap.size w)
 have H : ((slices_EqualFunc_impl_sameBox.f k l0 l1).bind fun t224 => (some t224)) = some r := h
 clear h
 obtain ⟨t224, A30, H⟩ := zW_ H
 replace H : (some t224) = some r := H
 have A3 := yD A30
 clear A30; obtain rfl := Option.some.inj H; go_enter Try.func31, Try.ntmps31
 go_wp2_with (first | ((with_reducible refine gate_callee (f := 68) rfl ?_); refine gL 7 Try.func68 #[.slice A0 l0.length c0, .slice A1 l1.length c1, .func (.func 69) #[] #[]] ?_; (with_reducible refine (slices_EqualFunc_impl_sameBox.calls k _ _ l0 _ _ l1  t224 _ ?side1 ?side2 ?side3 ?side4 A3.out).mono ?_); (case side1 => repeat (first | exact HR0.out | (with_reducible first | refine yV ?_ _ | refine yW ?_ _ | refine yX ?_))); (case side2 => exact HC0.out); (case side3 => repeat (first | exact HR1.out | (with_reducible first | refine yV ?_ _ | refine yW ?_ _ | refine yX ?_))); (case side4 => exact HC1.out); rintro e w4 ⟨rfl, hb⟩; refine ⟨_, rfl, ?_⟩; replace HB := yD (zC (kB HB) hb); clear hb))
 go_ret
 exact ⟨by first | rfl | (simp <;> rfl) | (simp [*] <;> rfl), kR0 HB⟩

/-! ### slices_Grow_nil_900008: function 159 -/
section
open Go.Shelf
def slices_Grow_nil_900008.ren : Go.Shelf.Ren := ⟨fun | 4 => 159 | n => n, fun | 22 => 36 | 25 => 2 | 3 => 3 | 4 => 4 | 9 => 9 | 20 => 20 | 0 => 0 | n => n, fun n => n⟩
theorem slices_Grow_nil_900008.lays : Go.Proofs.Lays8.n4 Try.prog slices_Grow_nil_900008.ren :=
 { mixed := by kernel_rfl, f4 := ⟨Try.f159.name, by decide, Try.func159.trans (congrArg some (by kernel_rfl))⟩, t0 := Try.underlying0, a0 := Try.isAgg0, z0 := Try.sizeOf0, v0 := Try.zeroValue0, t3 := Try.underlying3, a3 := Try.isAgg3, z3 := Try.sizeOf3, v3 := Try.zeroValue3, t4 := Try.underlying4, a4 := Try.isAgg4, z4 := Try.sizeOf4, v4 := Try.zeroValue4, t9 := Try.underlying9, a9 := Try.isAgg9, z9 := Try.sizeOf9, v9 := Try.zeroValue9, t20 := Try.underlying20, a20 := Try.isAgg20, z20 := Try.sizeOf20, v20 := Try.zeroValue20, t22 := Try.underlying36, a22 := Try.isAgg36, z22 := Try.sizeOf36, v22 := Try.zeroValue36 }

def slices_Grow_nil_900008.f (a1 : Int) : Option (List Int) := if 0 ≤ a1 ∧ a1 ≤ 1073741824 then some [] else none
theorem slices_Grow_nil_900008.info : (Try.prog.info? 2).map (fun i => (i.zero, i.size, i.bytes)) = some (some (.int .i64 0), 1, 8) := by kernel_rfl
theorem slices_Grow_nil_900008.calls (a1 : Int) (r : List Int) (w : World) (h : slices_Grow_nil_900008.f a1 = some r) :
 Calls Try.prog 159 #[.slice none 0 0, .int .i64 a1] w fun e w' => ∃ v0_ : Value, e = .returned (v0_) ∧ Kd.R (Kd.int .i64) 2 w' w.heap.size (fun _ => True) v0_ r ∧ Below w.heap.size w w' := by
 unfold slices_Grow_nil_900008.f at h
 split at h
 ·
  rename_i hc
  obtain ⟨h0, h1⟩ := hc
  obtain ⟨c, rfl⟩ : ∃ c : Nat, a1 = (c : Int) := ⟨a1.toNat, by omega⟩
  obtain rfl := Option.some.inj h
  by_cases hc0 : c = 0
  · subst hc0
    refine (Any8.slices_Grow_room slices_Grow_nil_900008.lays none 0 0 0 w (Nat.le_refl _) (by omega) (by omega) (by omega)).mono ?_
    rintro e w' ⟨rfl, rfl⟩
    exact ⟨_, rfl, Kd.R_nil _ _ _ _ _, Below.refl _ _⟩
  ·
   obtain ⟨i0, hi0, hz⟩ := Option.map_eq_some_iff.1 slices_Grow_nil_900008.info
   simp only [Prod.mk.injEq] at hz
   obtain ⟨hz0, hs0, hb0⟩ := hz
   refine (Any8.slices_Grow_grow slices_Grow_nil_900008.lays i0 _ hi0 hz0 (by omega) none 0 0 c [] w (Nat.le_refl _) (by omega) (by rw [hb0]; omega) (by omega) (by simp) (fun _ => rfl) (fun a ha => by cases ha)).mono ?_
   have hG := grownCap_le_maxLen w (0 + c) 0 2 (by unfold maxLen; omega)
   have hg := grownCap_ge w (0 + c) 0 2
   change grownCap w (0 + c) 0 (slices_Grow_nil_900008.ren.t 25) ≤ maxLen at hG
   change 0 + c ≤ grownCap w (0 + c) 0 (slices_Grow_nil_900008.ren.t 25) at hg
   generalize grownCap w (0 + c) 0 (slices_Grow_nil_900008.ren.t 25) = G at hG hg ⊢
   rintro e w' ⟨rfl, rfl⟩
   refine ⟨_, rfl, ⟨fun _ _ => trivial, [], ⟨by simp, .inr ⟨w.heap.size, G, ([] : List Value).toArray ++ Builtin.zeroCells (.int .i64 0 : Value).cells (0 + c - 0) ++ Builtin.zeroCells (.int .i64 0 : Value).cells (G - (0 + c)), rfl, Nat.le_refl _, ?_, Nat.zero_le _, hG, ?_, by simp⟩⟩, Reps.none _ _⟩, below_alloc (below_drew (Below.refl _ _)) _⟩
   · show (w.heap.push _)[w.heap.size]? = _
     rw [Array.getElem?_push_size]
     rfl
   · simp only [Array.size_append, size_zeroCells, List.size_toArray, List.length_nil, Nat.zero_add, Nat.sub_zero, ← Nat.add_mul]
     show _ = G * 1
     have : c + (G - c) = G := by omega
     rw [this]
     rfl
 · cases h
end

/-! ### slices_Concat_int64_int64: function 146 -/
mutual
def slices_Concat_int64_int64.l0 : Nat → List (List Int) → Int → List (List Int) → Int → Int → Option (List Int)
 | 0, _, _, _, _, _ => none
 | k + 1, x0, x3, x9, x10, x11 => if x11 < x10 then (if 0 ≤ x11 then (if x11 < (x9.length : Int) then (if (wrap64 (x3 + ((rd_L2 x9 x11).length : Int))) < 0 then (none) else (slices_Concat_int64_int64.l0 k x0 (wrap64 (x3 + ((rd_L2 x9 x11).length : Int))) x9 x10 (wrap64 (x11 + 1)))) else (none)) else (none)) else ((slices_Grow_nil_900008.f x3).bind fun t226 => (slices_Concat_int64_int64.l1 k t226 x0 (x0.length : Int) 0))
def slices_Concat_int64_int64.l1 : Nat → List Int → List (List Int) → Int → Int → Option (List Int)
 | 0, _, _, _, _ => none
 | k + 1, x6, x25, x26, x27 => if x27 < x26 then (if 0 ≤ x27 then (if x27 < (x25.length : Int) then (if x6.length + (rd_L2 x25 x27).length < 17592186044416 then (slices_Concat_int64_int64.l1 k (x6 ++ (rd_L2 x25 x27)) x25 x26 (wrap64 (x27 + 1))) else (none)) else (none)) else (none)) else (some x6)
end
def slices_Concat_int64_int64.f (k : Nat) (l0 : List (List Int)) : Option (List Int) := slices_Concat_int64_int64.l0 k l0 0 l0 (l0.length : Int) 0
theorem slices_Concat_int64_int64.mono_l : ∀ k, (∀ y0 y1 y2 y3 y4, LeO (slices_Concat_int64_int64.l0 k y0 y1 y2 y3 y4) (slices_Concat_int64_int64.l0 (k + 1) y0 y1 y2 y3 y4)) ∧ (∀ y0 y1 y2 y3, LeO (slices_Concat_int64_int64.l1 k y0 y1 y2 y3) (slices_Concat_int64_int64.l1 (k + 1) y0 y1 y2 y3))
 | 0 => ⟨fun _ _ _ _ _ r h => by simp [slices_Concat_int64_int64.l0] at h, fun _ _ _ _ r h => by simp [slices_Concat_int64_int64.l1] at h⟩
 | k + 1 => by
  obtain ⟨ih0, ih1⟩ := slices_Concat_int64_int64.mono_l k
  refine ⟨?_, ?_⟩
  · intro y0 y1 y2 y3 y4
    unfold slices_Concat_int64_int64.l0
    repeat' (with_reducible first | exact ih0 _ _ _ _ _ | exact ih1 _ _ _ _ | exact LeO.refl _ | exact LeO.none _ | refine LeO.ite ?_ ?_ | refine LeO.bind ?_ (fun _ => ?_))
  · intro y0 y1 y2 y3
    unfold slices_Concat_int64_int64.l1
    repeat' (with_reducible first | exact ih0 _ _ _ _ _ | exact ih1 _ _ _ _ | exact LeO.refl _ | exact LeO.none _ | refine LeO.ite ?_ ?_ | refine LeO.bind ?_ (fun _ => ?_))
theorem slices_Concat_int64_int64.mono : ∀ a0 k, LeO (slices_Concat_int64_int64.f k a0) (slices_Concat_int64_int64.f (k + 1) a0) := by
 intro a0 k
 obtain ⟨ih0, ih1⟩ := slices_Concat_int64_int64.mono_l k
 unfold slices_Concat_int64_int64.f
 repeat' (with_reducible first | exact ih0 _ _ _ _ _ | exact ih1 _ _ _ _ | exact LeO.refl _ | exact LeO.none _ | refine LeO.ite ?_ ?_ | refine LeO.bind ?_ (fun _ => ?_))
set_option maxHeartbeats 8000000 in
set_option maxRecDepth 100000 in
theorem slices_Concat_int64_int64.calls (k : Nat) (A0 : Option Addr) (c0 : Nat) (l0 : List (List Int)) (r : List Int) (w : World) (hr0 : Kd.C (Kd.slice 2 (Kd.int .i64)) w A0 l0.length l0) (hc0 : l0.length ≤ c0) (h : slices_Concat_int64_int64.f k l0 = some r) :
 Calls Try.prog 146 #[.slice A0 l0.length c0] w fun e w' => ∃ v0_ : Value, e = .returned (v0_) ∧ Kd.R (Kd.int .i64) 2 w' w.heap.size (fun _ => True) v0_ r ∧ Below w.heap.size w w' := by
 have HR0 := yD hr0
 have HC0 := yD hc0
 clear hr0 hc0
 have HB := yD (Below.refl w.heap.size w)
 have H : (slices_Concat_int64_int64.l0 k l0 0 l0 (l0.length : Int) 0) = some r := h
 clear h
 have H' := yD H
 clear H; go_enter Try.func146, Try.ntmps146
 go_wp2
 go_loopg [3, 11] k (fun kq v3 v11 w' => ∃ (x3_1 : Int) (x11_1 : Int), v3 = .int .i64 x3_1 ∧ v11 = .int .i64 x11_1 ∧ Aside0 (slices_Concat_int64_int64.l0 kq l0 x3_1 l0 (l0.length : Int) x11_1 = some r) ∧ Aside0 (kq ≤ k) ∧ Aside0 (Below w.heap.size w w'))
 case atStart => exact ⟨(0), (0), (by first | rfl | (simp; done) | (simp [*]; done)), (by first | rfl | (simp; done) | (simp [*]; done)), H', ⟨Nat.le_refl _⟩, ⟨kR0 HB⟩⟩
 case round =>
  clear H'
  try clear c1
  obtain ⟨x3_1, x11_1, rfl, rfl, HA, HK1, HB⟩ := hrel
  cases gk with
  | zero => exact absurd HA.out (by simp [slices_Concat_int64_int64.l0])
  | succ k1 =>
   have H := HA.out; clear HA
   simp only [slices_Concat_int64_int64.l0] at H
   by_cases c2 : x11_1 < (l0.length : Int)
   ·
    rw [if_pos c2] at H
    have c2b0 : decide (x11_1 < (l0.length : Int)) = true := zR c2; clear c2
    by_cases c3 : 0 ≤ x11_1
    ·
     rw [if_pos c3] at H
     have c3b0 : decide (0 ≤ x11_1) = true := zR c3; clear c3
     by_cases c4 : x11_1 < (l0.length : Int)
     ·
      rw [if_pos c4] at H
      have c4b0 : decide (x11_1 < (l0.length : Int)) = true := zR c4; clear c4
      by_cases c5 : (wrap64 (x3_1 + ((rd_L2 l0 x11_1).length : Int))) < 0
      · rw [if_pos c5] at H
        exact absurd H (by simp)
      ·
       rw [if_neg c5] at H
       have c5b0 : decide ((wrap64 (x3_1 + ((rd_L2 l0 x11_1).length : Int))) < 0) = false := zS c5; clear c5
       have H' := yD H
       clear H
       have p225 : 0 ≤ (x11_1 : Int) := zP (by assumption)
       have q225 : x11_1 < (l0.length : Int) := zP (by assumption)
       obtain ⟨ad225, A225_0, c225_0, e225, hx225_0, hl225_0, hi225_0⟩ := at_L2 HR0.out x11_1 p225 q225
       cases e225
       replace hx225_0 := (HB.out.cell (zQ w _ hx225_0)).trans hx225_0
       have HR225_0 := yD hi225_0
       have HC225_0 := yD hl225_0
       clear hi225_0 hl225_0; replace p225 := eq_true p225; replace q225 := eq_true q225
       go_wp2
       go_roundg k1
       case measure => have := HK1.out; omega
       case rel => exact ⟨(wrap64 (x3_1 + ((rd_L2 l0 x11_1).length : Int))), (wrap64 (x11_1 + 1)), (by first | rfl | (simp; done) | (simp [*]; done)), (by first | rfl | (simp; done) | (simp [*]; done)), H', ⟨by have := HK1.out; omega⟩, ⟨kR0 HB⟩⟩
     · rw [if_neg c4] at H
       exact absurd H (by simp)
    · rw [if_neg c3] at H
      exact absurd H (by simp)
   ·
    rw [if_neg c2] at H
    have c2b0 : decide (x11_1 < (l0.length : Int)) = false := zS c2; clear c2
    obtain ⟨t226, A60, H⟩ := zW_ H
    replace H : (slices_Concat_int64_int64.l1 k1 t226 l0 (l0.length : Int) 0) = some r := H
    have A6 := yD A60
    clear A60
    have H' := yD H
    clear H
    go_wp2_with (first | ((with_reducible refine gate_callee (f := 159) rfl ?_); refine gL 24 Try.func159 #[.slice none 0 0, .int .i64 x3_1] ?_; (with_reducible refine (slices_Grow_nil_900008.calls  x3_1 t226 _ A6.out).mono ?_); rintro e w7 ⟨v227, rfl, ho0, hb⟩; refine ⟨_, rfl, ?_⟩; have HO228 := yD (yZ ho0 (below_size (kB HB))); replace HB := yD (zC (kB HB) hb); clear hb ho0))
    (try simp only [Act.put, zH, zI, zJ])
    go_loopg [6, 27] k1 (fun kq v6 v27 w' => ∃ (x6_2 : List Int) (x27_2 : Int), v27 = .int .i64 x27_2 ∧ Aside0 (slices_Concat_int64_int64.l1 kq x6_2 l0 (l0.length : Int) x27_2 = some r) ∧ Aside0 (kq ≤ k1) ∧ Aside0 (Kd.R (Kd.int .i64) 2 w' w.heap.size (fun _ => True) v6 x6_2) ∧ Aside0 (Below w.heap.size w w'))
    case atStart => exact ⟨(t226), (0), (by first | rfl | (simp; done) | (simp [*]; done)), H', ⟨Nat.le_refl _⟩, ⟨kA HO228⟩, ⟨kR0 HB⟩⟩
    case round =>
     clear H'
     try clear c1; try clear c2; try clear c2b0; try clear c3; try clear c3b0; try clear c4; try clear c4b0; try clear c5; try clear c5b0; try clear hx225_0; try clear p225; try clear q225
     obtain ⟨x6_2, x27_2, rfl, HA, HK2, HO_6, HB⟩ := hrel
     cases gk with
     | zero => exact absurd HA.out (by simp [slices_Concat_int64_int64.l1])
     | succ k2 =>
      have H := HA.out; clear HA
      simp only [slices_Concat_int64_int64.l1] at H
      by_cases c8 : x27_2 < (l0.length : Int)
      ·
       rw [if_pos c8] at H
       have c8b0 : decide (x27_2 < (l0.length : Int)) = true := zR c8; clear c8
       by_cases c9 : 0 ≤ x27_2
       ·
        rw [if_pos c9] at H
        have c9b0 : decide (0 ≤ x27_2) = true := zR c9; clear c9
        by_cases c10 : x27_2 < (l0.length : Int)
        ·
         rw [if_pos c10] at H
         have c10b0 : decide (x27_2 < (l0.length : Int)) = true := zR c10; clear c10
         by_cases c11 : x6_2.length + (rd_L2 l0 x27_2).length < 17592186044416
         ·
          rw [if_pos c11] at H
          have LMc11 := yD c11
          clear c11
          obtain ⟨y230, hy230⟩ : ∃ y_ : List Int, y_ = (x6_2 ++ (rd_L2 l0 x27_2)) := ⟨_, rfl⟩
          replace H : (slices_Concat_int64_int64.l1 k2 y230 l0 (l0.length : Int) (wrap64 (x27_2 + 1))) = some r := by first | (rw [hy230]; with_reducible exact H) | (have H2_ := (Option.bind_some _ _).symm.trans H; rw [hy230]; with_reducible exact H2_) | (have H2_ := (Option.bind_some _ _).symm.trans H; with_reducible exact H2_) | with_reducible exact H | (rw [hy230]; exact H) | exact H
          have Ny230 := yD hy230
          clear hy230
          have H' := yD H
          clear H
          have p229 : 0 ≤ (x27_2 : Int) := zP (by assumption)
          have q229 : x27_2 < (l0.length : Int) := zP (by assumption)
          obtain ⟨ad229, A229_0, c229_0, e229, hx229_0, hl229_0, hi229_0⟩ := at_L2 HR0.out x27_2 p229 q229
          cases e229
          replace hx229_0 := (HB.out.cell (zQ w _ hx229_0)).trans hx229_0
          have HR229_0 := yD hi229_0
          have HC229_0 := yD hl229_0
          clear hi229_0 hl229_0; replace p229 := eq_true p229; replace q229 := eq_true q229
          go_wp2_with (first | ((with_reducible refine gate_builtin (b := .append) (xs := #[.tmp 31, .tmp 32]) rfl ?_); at_builtin; refine Kd.R_append_rows (Kd.int .i64) (w0 := w) w.heap.size rfl (.tmp 31) (.tmp 32) 36 2 (.int .i64 0) 8 rfl Try.underlying36 info2 rfl (by decide) (by omega) u6 x6_2 (rd_L2 l0 x27_2) _ _ _ (fun _ => True) (fun _ => False) rfl rfl ?aO ?aR (fun _ _ h => h) (fun _ h => h.elim) ?aF ?aB ?aS ?aL ?_; (case aR => exact kV (yY HR229_0.out HB.out)); (case aB => exact (kB HB)); (case aF => exact (fun _ _ => trivial)); (case aO => exact (kA HO_6)); (case aS => exact (below_size (kB HB))); (case aL => have := LMc11.out; omega); intro v231 w12 ho hb hg hat; rw [← Ny230.out] at ho; replace HB := yD (hb); have HO232 := yD (ho); clear HO_6; clear ho hb hg hat))
          go_roundg k2
          case measure => have := HK1.out; have := HK2.out; omega
          case rel => exact ⟨(y230), (wrap64 (x27_2 + 1)), (by first | rfl | (simp; done) | (simp [*]; done)), H', ⟨by have := HK1.out; have := HK2.out; omega⟩, ⟨kA HO232⟩, ⟨kR0 HB⟩⟩
         · rw [if_neg c11] at H
           exact absurd H (by simp)
        · rw [if_neg c10] at H
          exact absurd H (by simp)
       · rw [if_neg c9] at H
         exact absurd H (by simp)
      · rw [if_neg c8] at H
        have c8b0 : decide (x27_2 < (l0.length : Int)) = false := zS c8; clear c8; obtain rfl := Option.some.inj H
        go_wp2
        go_ret
        exact ⟨_, by first | rfl | (simp <;> rfl) | (simp [*] <;> rfl), kA HO_6, kR0 HB⟩
/-! ### impl_prefixed: function 124 -/
def impl_prefixed.l0 : Nat → Int → Int → List (S42) → List (S42) → Int → Int → Option ((List (S42)))
 | 0, _, _, _, _, _, _ => none
 | k + 1, x1, x2, x7, x10, x11, x12 => if x12 < x11 then (if 0 ≤ x12 then (if x12 < (x10.length : Int) then ((slices_Concat_int64_int64.f k (([(([x1] : List Int)), (rd_T42 x10 x12).f0] : List (List Int)))).bind fun t241 => ((slices_Concat_int64_int64.f k (([(([x2] : List Int)), (rd_T42 x10 x12).f1] : List (List Int)))).bind fun t250 => (if x7.length < 2932031007402 then (impl_prefixed.l0 k x1 x2 (x7 ++ [(⟨t241, t250⟩ : S42)]) x10 x11 (wrap64 (x12 + 1))) else (none)))) else (none)) else (none)) else (some x7)
def impl_prefixed.f (k : Nat) (l0 : List (S42)) (a1 : Int) (a2 : Int) : Option ((List (S42))) := impl_prefixed.l0 k a1 a2 ([] : List (S42)) l0 (l0.length : Int) 0
theorem impl_prefixed.mono_l : ∀ k, (∀ y0 y1 y2 y3 y4 y5, LeO (impl_prefixed.l0 k y0 y1 y2 y3 y4 y5) (impl_prefixed.l0 (k + 1) y0 y1 y2 y3 y4 y5))
 | 0 => fun _ _ _ _ _ _ r h => by simp [impl_prefixed.l0] at h
 | k + 1 => by
  have ih0 := impl_prefixed.mono_l k
  · intro y0 y1 y2 y3 y4 y5
    unfold impl_prefixed.l0
    repeat' (with_reducible first | exact ih0 _ _ _ _ _ _ | exact slices_Concat_int64_int64.mono _ _ | exact LeO.refl _ | exact LeO.none _ | refine LeO.ite ?_ ?_ | refine LeO.bind ?_ (fun _ => ?_))
theorem impl_prefixed.mono : ∀ a0 a1 a2 k, LeO (impl_prefixed.f k a0 a1 a2) (impl_prefixed.f (k + 1) a0 a1 a2) := by
 intro a0 a1 a2 k
 have ih0 := impl_prefixed.mono_l k
 unfold impl_prefixed.f
 repeat' (with_reducible first | exact ih0 _ _ _ _ _ _ | exact slices_Concat_int64_int64.mono _ _ | exact LeO.refl _ | exact LeO.none _ | refine LeO.ite ?_ ?_ | refine LeO.bind ?_ (fun _ => ?_))
def impl_prefixed.T5 : Bool × List (List Nat × List Nat) := (true, [([], []), ([], []), ([1], [1]), ([], []), ([3], [3]), ([2, 4], [2, 4]), ([5], [5]), ([], []), ([7], [7]), ([], []), ([9], [9]), ([8, 10], [8, 10]), ([11, 6], [11]), ([6, 12], [6, 12]), ([13], [13]), ([0, 14, 12], [0, 14]), ([15, 15, 0, 1, 2, 3, 4, 5, 6, 7, 8, 9, 10, 11, 12, 13, 14, 15], [0, 15])])
def impl_prefixed.B5 : List Nat := [0, 0, 2, 0, 8, 30, 62, 0, 128, 0, 512, 1920, 4094, 8190, 16382, 32767, 65535]
theorem impl_prefixed.tab5 : rtab .any (opsOf Try.f124 5) = impl_prefixed.T5 := by kernel_rfl
theorem impl_prefixed.bits5 : waitsOk impl_prefixed.T5.2 impl_prefixed.B5 = true := by kernel_rfl
set_option maxHeartbeats 8000000 in
set_option maxRecDepth 100000 in
theorem impl_prefixed.calls (k : Nat) (P0_ : Nat → Prop) (A0 : Option Addr) (c0 : Nat) (l0 : List (S42)) (a1 : Int) (a2 : Int) (r : List (S42)) (w : World) (hs0 : Kd.V k42 42 w w.heap.size (fun k_ => P0_ k_) (.slice A0 l0.length c0) l0) (h : impl_prefixed.f k l0 a1 a2 = some r) :
 Calls Try.prog 124 #[.slice A0 l0.length c0, .int .i64 a1, .int .i64 a2] w fun e w' => ∃ v0_ : Value, e = .returned (v0_) ∧ Kd.S k42 42 w' w.heap.size (fun k_ => (w.heap.size ≤ k_)) v0_ r ∧ Below w.heap.size w w' := by
 have hu42 := Try.underlying42
 have HO0 := yD (show Kd.V k42 42 w w.heap.size (fun k_ => (P0_ k_ ∨ w.heap.size ≤ k_)) (.slice A0 l0.length c0) l0 from Kd.V_mono hs0 (fun k_ hk => .inl hk))
 have HB := yD (Below.refl w.heap.size w)
 have H : (impl_prefixed.l0 k a1 a2 ([] : List (S42)) l0 (l0.length : Int) 0) = some r := h
 clear h
 have H' := yD H
 clear H; go_enter Try.func124, Try.ntmps124
 go_wp2
 go_loopg [7, 12] k (fun kq v7 v12 w' => ∃ (x7_1 : List (S42)) (x12_1 : Int), v12 = .int .i64 x12_1 ∧ Aside0 (impl_prefixed.l0 kq a1 a2 x7_1 l0 (l0.length : Int) x12_1 = some r) ∧ Aside0 (kq ≤ k) ∧ Aside0 (Kd.S k42 42 w' w.heap.size (fun k_ => (w.heap.size ≤ k_)) v7 x7_1) ∧ Aside0 (Kd.V k42 42 w' w.heap.size (fun k_ => (P0_ k_ ∨ w.heap.size ≤ k_) ∧ oB v7 k_) (.slice A0 l0.length c0) l0) ∧ Aside0 (Below w.heap.size w w'))
 case atStart => exact ⟨(([] : List (S42))), (0), (by first | rfl | (simp; done) | (simp [*]; done)), H', ⟨Nat.le_refl _⟩, ⟨by first | exact Kd.S_nil _ _ _ _ _ | exact Kd.N_nil _ _ _ _ _ | exact Kd.V_nil _ _ _ _ _ | exact Kd.Q_nil _ _ _ _ _ | exact Kd.R_nil _ _ _ _ _⟩, ⟨mV HO0 (fun _ hk => ⟨hk, (by simp [oB, Value.ownBlock])⟩)⟩, ⟨kR0 HB⟩⟩
 case round =>
  clear H'
  try clear c1
  obtain ⟨x7_1, x12_1, rfl, HA, HK1, HO_7, HO_10, HB⟩ := hrel
  cases gk with
  | zero => exact absurd HA.out (by simp [impl_prefixed.l0])
  | succ k1 =>
   have H := HA.out; clear HA
   simp only [impl_prefixed.l0] at H
   by_cases c4 : x12_1 < (l0.length : Int)
   ·
    rw [if_pos c4] at H
    have c4b0 : decide (x12_1 < (l0.length : Int)) = true := zR c4; clear c4
    by_cases c5 : 0 ≤ x12_1
    ·
     rw [if_pos c5] at H
     have c5b0 : decide (0 ≤ x12_1) = true := zR c5; clear c5
     by_cases c6 : x12_1 < (l0.length : Int)
     ·
      rw [if_pos c6] at H
      have c6b0 : decide (x12_1 < (l0.length : Int)) = true := zR c6; clear c6
      obtain ⟨y235, hy235⟩ : ∃ y_ : List Int, y_ = (([a1] : List Int)) := ⟨_, rfl⟩
      replace H : ((slices_Concat_int64_int64.f k1 (([y235, (rd_T42 l0 x12_1).f0] : List (List Int)))).bind fun t241 => ((slices_Concat_int64_int64.f k1 (([(([a2] : List Int)), (rd_T42 l0 x12_1).f1] : List (List Int)))).bind fun t250 => (if x7_1.length < 2932031007402 then (impl_prefixed.l0 k1 a1 a2 (x7_1 ++ [(⟨t241, t250⟩ : S42)]) l0 (l0.length : Int) (wrap64 (x12_1 + 1))) else (none)))) = some r := by first | (rw [hy235]; with_reducible exact H) | (have H2_ := (Option.bind_some _ _).symm.trans H; rw [hy235]; with_reducible exact H2_) | (have H2_ := (Option.bind_some _ _).symm.trans H; with_reducible exact H2_) | with_reducible exact H | (rw [hy235]; exact H) | exact H
      have Ny235 := yD hy235
      clear hy235
      obtain ⟨y238, hy238⟩ : ∃ y_ : List (List Int), y_ = (([y235, (rd_T42 l0 x12_1).f0] : List (List Int))) := ⟨_, rfl⟩
      replace H : ((slices_Concat_int64_int64.f k1 y238).bind fun t241 => ((slices_Concat_int64_int64.f k1 (([(([a2] : List Int)), (rd_T42 l0 x12_1).f1] : List (List Int)))).bind fun t250 => (if x7_1.length < 2932031007402 then (impl_prefixed.l0 k1 a1 a2 (x7_1 ++ [(⟨t241, t250⟩ : S42)]) l0 (l0.length : Int) (wrap64 (x12_1 + 1))) else (none)))) = some r := by first | (rw [hy238]; with_reducible exact H) | (have H2_ := (Option.bind_some _ _).symm.trans H; rw [hy238]; with_reducible exact H2_) | (have H2_ := (Option.bind_some _ _).symm.trans H; with_reducible exact H2_) | with_reducible exact H | (rw [hy238]; exact H) | exact H
      have Ny238 := yD hy238
      clear hy238
      obtain ⟨t241, A70, H⟩ := zW_ H
      replace H : ((slices_Concat_int64_int64.f k1 (([(([a2] : List Int)), (rd_T42 l0 x12_1).f1] : List (List Int)))).bind fun t250 => (if x7_1.length < 2932031007402 then (impl_prefixed.l0 k1 a1 a2 (x7_1 ++ [(⟨t241, t250⟩ : S42)]) l0 (l0.length : Int) (wrap64 (x12_1 + 1))) else (none))) = some r := H
      have A7 := yD A70
      clear A70
      obtain ⟨y244, hy244⟩ : ∃ y_ : List Int, y_ = (([a2] : List Int)) := ⟨_, rfl⟩
      replace H : ((slices_Concat_int64_int64.f k1 (([y244, (rd_T42 l0 x12_1).f1] : List (List Int)))).bind fun t250 => (if x7_1.length < 2932031007402 then (impl_prefixed.l0 k1 a1 a2 (x7_1 ++ [(⟨t241, t250⟩ : S42)]) l0 (l0.length : Int) (wrap64 (x12_1 + 1))) else (none))) = some r := by first | (rw [hy244]; with_reducible exact H) | (have H2_ := (Option.bind_some _ _).symm.trans H; rw [hy244]; with_reducible exact H2_) | (have H2_ := (Option.bind_some _ _).symm.trans H; with_reducible exact H2_) | with_reducible exact H | (rw [hy244]; exact H) | exact H
      have Ny244 := yD hy244
      clear hy244
      obtain ⟨y247, hy247⟩ : ∃ y_ : List (List Int), y_ = (([y244, (rd_T42 l0 x12_1).f1] : List (List Int))) := ⟨_, rfl⟩
      replace H : ((slices_Concat_int64_int64.f k1 y247).bind fun t250 => (if x7_1.length < 2932031007402 then (impl_prefixed.l0 k1 a1 a2 (x7_1 ++ [(⟨t241, t250⟩ : S42)]) l0 (l0.length : Int) (wrap64 (x12_1 + 1))) else (none))) = some r := by first | (rw [hy247]; with_reducible exact H) | (have H2_ := (Option.bind_some _ _).symm.trans H; rw [hy247]; with_reducible exact H2_) | (have H2_ := (Option.bind_some _ _).symm.trans H; with_reducible exact H2_) | with_reducible exact H | (rw [hy247]; exact H) | exact H
      have Ny247 := yD hy247
      clear hy247
      obtain ⟨t250, A80, H⟩ := zW_ H
      replace H : (if x7_1.length < 2932031007402 then (impl_prefixed.l0 k1 a1 a2 (x7_1 ++ [(⟨t241, t250⟩ : S42)]) l0 (l0.length : Int) (wrap64 (x12_1 + 1))) else (none)) = some r := H
      have A8 := yD A80
      clear A80
      by_cases c9 : x7_1.length < 2932031007402
      ·
       rw [if_pos c9] at H
       have LMc9 := yD c9
       clear c9
       obtain ⟨y253, hy253⟩ : ∃ y_ : List (S42), y_ = (x7_1 ++ [(⟨t241, t250⟩ : S42)]) := ⟨_, rfl⟩
       replace H : (impl_prefixed.l0 k1 a1 a2 y253 l0 (l0.length : Int) (wrap64 (x12_1 + 1))) = some r := by first | (rw [hy253]; with_reducible exact H) | (have H2_ := (Option.bind_some _ _).symm.trans H; rw [hy253]; with_reducible exact H2_) | (have H2_ := (Option.bind_some _ _).symm.trans H; with_reducible exact H2_) | with_reducible exact H | (rw [hy253]; exact H) | exact H
       have Ny253 := yD hy253
       clear hy253
       have H' := yD H
       clear H
       have p233 : 0 ≤ (x12_1 : Int) := zP (by assumption)
       have q233 : x12_1 < (l0.length : Int) := zP (by assumption)
       obtain ⟨ad233, A233_0, c233_0, A233_1, c233_1, e233, hx233_0, hx233_1, hl233_0, hi233_0, hl233_1, hi233_1⟩ := at_T42 (Kd.V_reads' HO_10.out).2.2 x12_1 p233 q233
       cases e233
       obtain ⟨ce233, hce233, hMe233, hcc233⟩ := Kd.V_get HO_10.out z42 x12_1 p233 (by first | exact q233 | exact zP (by assumption) | (have e_ := (Kd.V_reads' HO_10.out).1; omega))
       obtain ⟨ua233_0, uc233_0, ua233_1, uc233_1, rfl, ul233_0, ge233_0, ul233_1, ge233_1⟩ := k42_openF hMe233
       have hv233_0 := hcc233 0 _ rfl
       rw [Nat.add_zero] at hv233_0
       replace hv233_0 := Option.some.inj (hv233_0.symm.trans hx233_0)
       injection hv233_0 with hva_ hvn_ hvc_
       rw [hva_] at ge233_0
       rw [hvc_] at ul233_0
       have HL233_0 := yD (show Kd.V (Kd.int .i64) 2 _ w.heap.size _ _ ((rd_T42 l0 x12_1).f0) from Kd.V_mk ul233_0 ge233_0)
       clear hva_ hvn_ hvc_ ge233_0 ul233_0
       have hv233_1 := hcc233 1 _ rfl
       rw [add_field _ _ 1 (by omega)] at hv233_1
       replace hv233_1 := Option.some.inj (hv233_1.symm.trans hx233_1)
       injection hv233_1 with hva_ hvn_ hvc_
       rw [hva_] at ge233_1
       rw [hvc_] at ul233_1
       have HL233_1 := yD (show Kd.V (Kd.int .i64) 2 _ w.heap.size _ _ ((rd_T42 l0 x12_1).f1) from Kd.V_mk ul233_1 ge233_1)
       clear hva_ hvn_ hvc_ ge233_1 ul233_1 hcc233 hce233
       have HR233_0 := yD hi233_0
       have HC233_0 := yD hl233_0
       clear hi233_0 hl233_0
       have HR233_1 := yD hi233_1
       have HC233_1 := yD hl233_1
       clear hi233_1 hl233_1; replace p233 := eq_true p233; replace q233 := eq_true q233
       try go_wp2_with (first | ((with_reducible refine gate_dst (N := 9) rfl ?_); refine box_event ?hg (N := 9) ?hd (cs := #[.slice none 0 0, .slice none 0 0]) (t := 42) ?hr ?_; (case hd => rfl); (case hg => rfl); (case hr => first | (go_simp; done) | (go_simp; rfl)); intro gb234 hg w10 hbox hb; replace HO_7 := yD (Kd.S_below (Kd.S_elderB (kS HO_7) gb234 (Nat.le_of_eq hg.symm)) hb); replace HO_10 := yD (Kd.V_below (Kd.V_elderB (kU HO_10) gb234 (Nat.le_of_eq hg.symm)) hb); replace HL233_0 := yD (Kd.V_below (Kd.V_elderB (kU HL233_0) gb234 (Nat.le_of_eq hg.symm)) hb); replace HL233_1 := yD (Kd.V_below (Kd.V_elderB (kU HL233_1) gb234 (Nat.le_of_eq hg.symm)) hb); replace HR233_0 := yD (yY (by repeat (first | (with_reducible exact HR233_0.out) | (with_reducible first | refine yV ?_ _ | refine yW ?_ _ | refine yX ?_) | exact HR233_0.out)) hb); replace HR233_1 := yD (yY (by repeat (first | (with_reducible exact HR233_1.out) | (with_reducible first | refine yV ?_ _ | refine yW ?_ _ | refine yX ?_) | exact HR233_1.out)) hb); have BK234 := yD (hbox); have GW234 := yD ((by rw [hg]; exact (below_size (kB HB)) : w.heap.size ≤ gb234)); have GE234 := yD ((by rw [hg]; exact (below_size (kB HB)) : w.heap.size ≤ gb234)); replace HB := yD (zC (kB HB) hb); clear hb hbox hg; obtain ⟨hcz11_0, hcz11_1⟩ := cz2 BK234.out; obtain ⟨hfz11_0, hfz11_1⟩ := fz2 BK234.out; obtain ⟨Ao12, co12, eo12⟩ := Kd.S_slice HO_7.out; subst eo12))
       have n0_ : Aside0 (Kd.S k42 42 ((w10.setCell ⟨gb234, 0, none⟩ (.slice A233_0 ((rd_T42 l0 x12_1).f0).length c233_0)).setCell ⟨gb234, 1, none⟩ (.slice A233_1 ((rd_T42 l0 x12_1).f1).length c233_1)) w.heap.size (fun k_ => (w.heap.size ≤ k_) ∧ k_ ≠ gb234) (.slice Ao12 x7_1.length co12) x7_1) := ⟨by (with_reducible repeat (first | apply yS | apply yT | apply yU)); exact Kd.S_mono (Kd.S_far (p := ⟨gb234, 1, none⟩) (Kd.S_far (p := ⟨gb234, 0, none⟩) (Kd.S_mono HO_7.out (fun k_ hk => (⟨hk, hk.2⟩ : _ ∧ k_ ≠ gb234))) (fun _ hk => hk.2) (.slice A233_0 ((rd_T42 l0 x12_1).f0).length c233_0)) (fun _ hk => hk.2) (.slice A233_1 ((rd_T42 l0 x12_1).f1).length c233_1)) (fun _ hk => ⟨hk.1.1, hk.1.2⟩)⟩
       have n1_ : Aside0 (Kd.V k42 42 ((w10.setCell ⟨gb234, 0, none⟩ (.slice A233_0 ((rd_T42 l0 x12_1).f0).length c233_0)).setCell ⟨gb234, 1, none⟩ (.slice A233_1 ((rd_T42 l0 x12_1).f1).length c233_1)) w.heap.size (fun k_ => (P0_ k_ ∨ w.heap.size ≤ k_) ∧ oB (.slice Ao12 x7_1.length co12) k_ ∧ k_ ≠ gb234) (.slice (some ad233) l0.length c0) l0) := ⟨by (with_reducible repeat (first | apply Kd.V_alloc | apply Kd.V_drewN | apply Kd.V_drew)); exact Kd.V_mono (Kd.V_far (p := ⟨gb234, 1, none⟩) (Kd.V_far (p := ⟨gb234, 0, none⟩) (Kd.V_mono HO_10.out (fun k_ hk => (⟨hk, hk.2⟩ : _ ∧ k_ ≠ gb234))) (fun _ hk => hk.2) (.slice A233_0 ((rd_T42 l0 x12_1).f0).length c233_0)) (fun _ hk => hk.2) (.slice A233_1 ((rd_T42 l0 x12_1).f1).length c233_1)) (fun _ hk => ⟨hk.1.1.1, ⟨hk.1.1.2, hk.1.2⟩⟩)⟩
       have n2_ : Aside0 (Kd.V (Kd.int .i64) 2 ((w10.setCell ⟨gb234, 0, none⟩ (.slice A233_0 ((rd_T42 l0 x12_1).f0).length c233_0)).setCell ⟨gb234, 1, none⟩ (.slice A233_1 ((rd_T42 l0 x12_1).f1).length c233_1)) w.heap.size (fun k_ => (P0_ k_ ∨ w.heap.size ≤ k_) ∧ oB (.slice Ao12 x7_1.length co12) k_ ∧ k_ ≠ gb234) (.slice A233_0 ((rd_T42 l0 x12_1).f0).length c233_0) ((rd_T42 l0 x12_1).f0)) := ⟨by (with_reducible repeat (first | apply Kd.V_alloc | apply Kd.V_drewN | apply Kd.V_drew)); exact Kd.V_mono (Kd.V_far (p := ⟨gb234, 1, none⟩) (Kd.V_far (p := ⟨gb234, 0, none⟩) (Kd.V_mono HL233_0.out (fun k_ hk => (⟨hk, hk.2⟩ : _ ∧ k_ ≠ gb234))) (fun _ hk => hk.2) (.slice A233_0 ((rd_T42 l0 x12_1).f0).length c233_0)) (fun _ hk => hk.2) (.slice A233_1 ((rd_T42 l0 x12_1).f1).length c233_1)) (fun _ hk => ⟨hk.1.1.1, ⟨hk.1.1.2, hk.1.2⟩⟩)⟩
       have n3_ : Aside0 (Kd.V (Kd.int .i64) 2 ((w10.setCell ⟨gb234, 0, none⟩ (.slice A233_0 ((rd_T42 l0 x12_1).f0).length c233_0)).setCell ⟨gb234, 1, none⟩ (.slice A233_1 ((rd_T42 l0 x12_1).f1).length c233_1)) w.heap.size (fun k_ => (P0_ k_ ∨ w.heap.size ≤ k_) ∧ oB (.slice Ao12 x7_1.length co12) k_ ∧ k_ ≠ gb234) (.slice A233_1 ((rd_T42 l0 x12_1).f1).length c233_1) ((rd_T42 l0 x12_1).f1)) := ⟨by (with_reducible repeat (first | apply Kd.V_alloc | apply Kd.V_drewN | apply Kd.V_drew)); exact Kd.V_mono (Kd.V_far (p := ⟨gb234, 1, none⟩) (Kd.V_far (p := ⟨gb234, 0, none⟩) (Kd.V_mono HL233_1.out (fun k_ hk => (⟨hk, hk.2⟩ : _ ∧ k_ ≠ gb234))) (fun _ hk => hk.2) (.slice A233_0 ((rd_T42 l0 x12_1).f0).length c233_0)) (fun _ hk => hk.2) (.slice A233_1 ((rd_T42 l0 x12_1).f1).length c233_1)) (fun _ hk => ⟨hk.1.1.1, ⟨hk.1.1.2, hk.1.2⟩⟩)⟩
       have n4_ : Aside0 (((w10.setCell ⟨gb234, 0, none⟩ (.slice A233_0 ((rd_T42 l0 x12_1).f0).length c233_0)).setCell ⟨gb234, 1, none⟩ (.slice A233_1 ((rd_T42 l0 x12_1).f1).length c233_1)).heap[gb234]? = some (.cells #[.slice A233_0 ((rd_T42 l0 x12_1).f0).length c233_0, .slice A233_1 ((rd_T42 l0 x12_1).f1).length c233_1] 42 (0, 0))) := ⟨by (with_reducible repeat (first | refine yM ?_ _ | refine yO ?_ | refine yN ?_ _)); refine blk_put (cs := #[.slice A233_0 ((rd_T42 l0 x12_1).f0).length c233_0, .slice none 0 0]) ?_ 1 _ rfl; (with_reducible repeat (first | refine yM ?_ _ | refine yO ?_ | refine yN ?_ _)); refine blk_put (cs := #[.slice none 0 0, .slice none 0 0]) ?_ 0 _ rfl; (with_reducible repeat (first | refine yM ?_ _ | refine yO ?_ | refine yN ?_ _)); exact BK234.out⟩
       have n5_ : Aside0 (Below w.heap.size w ((w10.setCell ⟨gb234, 0, none⟩ (.slice A233_0 ((rd_T42 l0 x12_1).f0).length c233_0)).setCell ⟨gb234, 1, none⟩ (.slice A233_1 ((rd_T42 l0 x12_1).f1).length c233_1))) := ⟨kR1 HB⟩
       (try clear HO_7); (try clear HO_10); (try clear HL233_0); (try clear HL233_1); (try clear BK234); (try clear HB)
       generalize ((w10.setCell ⟨gb234, 0, none⟩ (.slice A233_0 ((rd_T42 l0 x12_1).f0).length c233_0)).setCell ⟨gb234, 1, none⟩ (.slice A233_1 ((rd_T42 l0 x12_1).f1).length c233_1)) = w13 at n0_ n1_ n2_ n3_ n4_ n5_ ⊢
       have HO_7 := n0_; have HO_10 := n1_; have HL233_0 := n2_; have HL233_1 := n3_; have BK234 := n4_; have HB := n5_; clear n0_ n1_ n2_ n3_ n4_ n5_
       have n0_ := yD (yU HO_7.out)
       have n1_ := yD (Kd.V_drew HO_10.out)
       have n2_ := yD (Kd.V_drew HL233_0.out)
       have n3_ := yD (Kd.V_drew HL233_1.out)
       have n4_ := yD (yO BK234.out)
       have n5_ := yD (yP HB.out)
       clear HO_7 HO_10 HL233_0 HL233_1 BK234 HB; have HO_7 := n0_; have HO_10 := n1_; have HL233_0 := n2_; have HL233_1 := n3_; have BK234 := n4_; have HB := n5_; clear n0_ n1_ n2_ n3_ n4_ n5_
       refine start_ (n := 17) (S := fun w' => w'.cell? ⟨gb234, 0, none⟩ = some (.slice A233_0 ((rd_T42 l0 x12_1).f0).length c233_0) ∧ w'.cell? ⟨gb234, 1, none⟩ = some (.slice A233_1 ((rd_T42 l0 x12_1).f1).length c233_1)) (ds := []) (bz 17 0) (by kernel_rfl) rfl rfl ⟨(yG BK234.out 0).trans rfl, (yG BK234.out 1).trans rfl⟩ (fun hHeld => ?_); refine with_tabW impl_prefixed.tab5 impl_prefixed.bits5 (fun HT_ HW_ => ?_)
       generalize w13.drew = w14 at HO_7 HO_10 HL233_0 HL233_1 BK234 HB hHeld ⊢
       refine qA 0 16 (bz 17 1) HT_ ?_
       refine qA 1 17 (bz 17 3) HT_ ?_
       refine qA 3 19 (bz 17 11) HT_ ?_
       refine qA 7 23 (bz 17 139) HT_ ?_
       refine qA 9 25 (bz 17 651) HT_ ?_
       refine qC 4 20 (bz 17 667) HT_ HW_ hHeld ?_ (hy := by rintro w' ⟨s0, s1⟩; go_simp; with_reducible rfl)
       refine qC 10 26 (bz 17 1691) HT_ HW_ hHeld ?_ (hy := by rintro w' ⟨s0, s1⟩; go_simp; with_reducible rfl)
       refine join_ (σ := Value × Value × Value × Value × Value) 5 #[true, true, true, true, true, true, true, true, true, true, true, true, false, false, false, false, false] (fun s_ => [(18, s_.1), (21, s_.2.1), (22, s_.2.2.1), (24, s_.2.2.2.1), (27, s_.2.2.2.2)]) (fun s_ w' => (w'.cell? ⟨gb234, 0, none⟩ = some (.slice A233_0 ((rd_T42 l0 x12_1).f0).length c233_0) ∧ w'.cell? ⟨gb234, 1, none⟩ = some (.slice A233_1 ((rd_T42 l0 x12_1).f1).length c233_1)) ∧ (Kd.V (Kd.int .i64) 2 w' w.heap.size (fun k_ => (P0_ k_ ∨ w.heap.size ≤ k_) ∧ some k_ ≠ (s_.2.1 : Value).ownBlock ∧ some k_ ≠ (s_.2.2.1 : Value).ownBlock ∧ some k_ ≠ (s_.2.2.2.2 : Value).ownBlock ∧ oB (.slice Ao12 x7_1.length co12) k_ ∧ k_ ≠ gb234) (.slice A233_0 ((rd_T42 l0 x12_1).f0).length c233_0) ((rd_T42 l0 x12_1).f0)) ∧ (Kd.V (Kd.int .i64) 2 w' w.heap.size (fun k_ => (P0_ k_ ∨ w.heap.size ≤ k_) ∧ some k_ ≠ (s_.2.1 : Value).ownBlock ∧ some k_ ≠ (s_.2.2.1 : Value).ownBlock ∧ some k_ ≠ (s_.2.2.2.2 : Value).ownBlock ∧ oB (.slice Ao12 x7_1.length co12) k_ ∧ k_ ≠ gb234) (.slice A233_1 ((rd_T42 l0 x12_1).f1).length c233_1) ((rd_T42 l0 x12_1).f1)) ∧ (Kd.N (Kd.slice 2 (Kd.int .i64)) 36 w' w.heap.size (fun k_ => (P0_ k_ ∨ w.heap.size ≤ k_) ∧ some k_ ≠ (s_.2.2.1 : Value).ownBlock ∧ some k_ ≠ (s_.2.2.2.2 : Value).ownBlock ∧ oB (.slice Ao12 x7_1.length co12) k_ ∧ k_ ≠ gb234) s_.2.1 y238) ∧ (Kd.R (Kd.int .i64) 2 w' w.heap.size (fun k_ => (w.heap.size ≤ k_)) s_.2.2.1 t241) ∧ (Kd.N (Kd.slice 2 (Kd.int .i64)) 36 w' w.heap.size (fun k_ => (P0_ k_ ∨ w.heap.size ≤ k_) ∧ some k_ ≠ (s_.2.1 : Value).ownBlock ∧ some k_ ≠ (s_.2.2.1 : Value).ownBlock ∧ oB (.slice Ao12 x7_1.length co12) k_ ∧ k_ ≠ gb234) s_.2.2.2.2 y247) ∧ (Kd.V k42 42 w' w.heap.size (fun k_ => (P0_ k_ ∨ w.heap.size ≤ k_) ∧ some k_ ≠ (s_.2.1 : Value).ownBlock ∧ some k_ ≠ (s_.2.2.1 : Value).ownBlock ∧ some k_ ≠ (s_.2.2.2.2 : Value).ownBlock ∧ oB (.slice Ao12 x7_1.length co12) k_ ∧ k_ ≠ gb234) (.slice (some ad233) l0.length c0) l0) ∧ (Kd.S k42 42 w' w.heap.size (fun k_ => (w.heap.size ≤ k_) ∧ some k_ ≠ (s_.2.2.1 : Value).ownBlock ∧ k_ ≠ gb234) (.slice Ao12 x7_1.length co12) x7_1) ∧ (w'.heap[gb234]? = some (.cells #[.slice A233_0 ((rd_T42 l0 x12_1).f0).length c233_0, .slice A233_1 ((rd_T42 l0 x12_1).f1).length c233_1] 42 (0, 0))) ∧ (Below w.heap.size w w')) ?_ ?_
       rotate_left
       ·
        intro hJ2_5_6_8_11
        refine join_ (σ := Value × Value × Value × Value) 6 #[true, true, true, true, true, true, true, true, true, true, true, false, false, false, false, false, false] (fun s_ => [(18, s_.1), (21, s_.2.1), (22, s_.2.2.1), (24, s_.2.2.2)]) (fun s_ w' => (w'.cell? ⟨gb234, 0, none⟩ = some (.slice A233_0 ((rd_T42 l0 x12_1).f0).length c233_0) ∧ w'.cell? ⟨gb234, 1, none⟩ = some (.slice A233_1 ((rd_T42 l0 x12_1).f1).length c233_1)) ∧ (Kd.V (Kd.int .i64) 2 w' w.heap.size (fun k_ => (P0_ k_ ∨ w.heap.size ≤ k_) ∧ some k_ ≠ (s_.2.1 : Value).ownBlock ∧ some k_ ≠ (s_.2.2.1 : Value).ownBlock ∧ some k_ ≠ (s_.2.2.2 : Value).ownBlock ∧ oB (.slice Ao12 x7_1.length co12) k_ ∧ k_ ≠ gb234) (.slice A233_0 ((rd_T42 l0 x12_1).f0).length c233_0) ((rd_T42 l0 x12_1).f0)) ∧ (Kd.V (Kd.int .i64) 2 w' w.heap.size (fun k_ => (P0_ k_ ∨ w.heap.size ≤ k_) ∧ some k_ ≠ (s_.2.1 : Value).ownBlock ∧ some k_ ≠ (s_.2.2.1 : Value).ownBlock ∧ some k_ ≠ (s_.2.2.2 : Value).ownBlock ∧ oB (.slice Ao12 x7_1.length co12) k_ ∧ k_ ≠ gb234) (.slice A233_1 ((rd_T42 l0 x12_1).f1).length c233_1) ((rd_T42 l0 x12_1).f1)) ∧ (Kd.N (Kd.slice 2 (Kd.int .i64)) 36 w' w.heap.size (fun k_ => (P0_ k_ ∨ w.heap.size ≤ k_) ∧ some k_ ≠ (s_.2.2.1 : Value).ownBlock ∧ some k_ ≠ (s_.2.2.2 : Value).ownBlock ∧ oB (.slice Ao12 x7_1.length co12) k_ ∧ k_ ≠ gb234) s_.2.1 y238) ∧ (Kd.R (Kd.int .i64) 2 w' w.heap.size (fun k_ => (w.heap.size ≤ k_) ∧ some k_ ≠ (s_.2.2.2 : Value).ownBlock) s_.2.2.1 t241) ∧ (Kd.R (Kd.int .i64) 2 w' w.heap.size (fun k_ => (w.heap.size ≤ k_) ∧ some k_ ≠ (s_.2.2.1 : Value).ownBlock) s_.2.2.2 y244) ∧ (Kd.V k42 42 w' w.heap.size (fun k_ => (P0_ k_ ∨ w.heap.size ≤ k_) ∧ some k_ ≠ (s_.2.1 : Value).ownBlock ∧ some k_ ≠ (s_.2.2.1 : Value).ownBlock ∧ some k_ ≠ (s_.2.2.2 : Value).ownBlock ∧ oB (.slice Ao12 x7_1.length co12) k_ ∧ k_ ≠ gb234) (.slice (some ad233) l0.length c0) l0) ∧ (Kd.S k42 42 w' w.heap.size (fun k_ => (w.heap.size ≤ k_) ∧ some k_ ≠ (s_.2.2.1 : Value).ownBlock ∧ some k_ ≠ (s_.2.2.2 : Value).ownBlock ∧ k_ ≠ gb234) (.slice Ao12 x7_1.length co12) x7_1) ∧ (w'.heap[gb234]? = some (.cells #[.slice A233_0 ((rd_T42 l0 x12_1).f0).length c233_0, .slice A233_1 ((rd_T42 l0 x12_1).f1).length c233_1] 42 (0, 0))) ∧ (Below w.heap.size w w')) ?_ ?_
        rotate_left
        ·
         intro hJ2_5_6_8
         refine join_ (σ := Value × Value × Value × Value) 6 #[true, true, true, true, true, true, false, true, true, true, true, true, false, false, false, false, false] (fun s_ => [(18, s_.1), (21, s_.2.1), (24, s_.2.2.1), (27, s_.2.2.2)]) (fun s_ w' => (w'.cell? ⟨gb234, 0, none⟩ = some (.slice A233_0 ((rd_T42 l0 x12_1).f0).length c233_0) ∧ w'.cell? ⟨gb234, 1, none⟩ = some (.slice A233_1 ((rd_T42 l0 x12_1).f1).length c233_1)) ∧ (Kd.V (Kd.int .i64) 2 w' w.heap.size (fun k_ => (P0_ k_ ∨ w.heap.size ≤ k_) ∧ some k_ ≠ (s_.2.1 : Value).ownBlock ∧ some k_ ≠ (s_.2.2.2 : Value).ownBlock ∧ oB (.slice Ao12 x7_1.length co12) k_ ∧ k_ ≠ gb234) (.slice A233_0 ((rd_T42 l0 x12_1).f0).length c233_0) ((rd_T42 l0 x12_1).f0)) ∧ (Kd.V (Kd.int .i64) 2 w' w.heap.size (fun k_ => (P0_ k_ ∨ w.heap.size ≤ k_) ∧ some k_ ≠ (s_.2.1 : Value).ownBlock ∧ some k_ ≠ (s_.2.2.2 : Value).ownBlock ∧ oB (.slice Ao12 x7_1.length co12) k_ ∧ k_ ≠ gb234) (.slice A233_1 ((rd_T42 l0 x12_1).f1).length c233_1) ((rd_T42 l0 x12_1).f1)) ∧ (Kd.N (Kd.slice 2 (Kd.int .i64)) 36 w' w.heap.size (fun k_ => (P0_ k_ ∨ w.heap.size ≤ k_) ∧ some k_ ≠ (s_.2.2.2 : Value).ownBlock ∧ oB (.slice Ao12 x7_1.length co12) k_ ∧ k_ ≠ gb234) s_.2.1 y238) ∧ (Kd.N (Kd.slice 2 (Kd.int .i64)) 36 w' w.heap.size (fun k_ => (P0_ k_ ∨ w.heap.size ≤ k_) ∧ some k_ ≠ (s_.2.1 : Value).ownBlock ∧ oB (.slice Ao12 x7_1.length co12) k_ ∧ k_ ≠ gb234) s_.2.2.2 y247) ∧ (Kd.V k42 42 w' w.heap.size (fun k_ => (P0_ k_ ∨ w.heap.size ≤ k_) ∧ some k_ ≠ (s_.2.1 : Value).ownBlock ∧ some k_ ≠ (s_.2.2.2 : Value).ownBlock ∧ oB (.slice Ao12 x7_1.length co12) k_ ∧ k_ ≠ gb234) (.slice (some ad233) l0.length c0) l0) ∧ (Kd.S k42 42 w' w.heap.size (fun k_ => (w.heap.size ≤ k_) ∧ k_ ≠ gb234) (.slice Ao12 x7_1.length co12) x7_1) ∧ (w'.heap[gb234]? = some (.cells #[.slice A233_0 ((rd_T42 l0 x12_1).f0).length c233_0, .slice A233_1 ((rd_T42 l0 x12_1).f1).length c233_1] 42 (0, 0))) ∧ (Below w.heap.size w w')) ?_ ?_
         rotate_left
         ·
          intro hJ2_5_8_11
          refine join_ (σ := Value × Value × Value) 7 #[true, true, true, true, true, true, true, true, false, true, true, false, false, false, false, false, false] (fun s_ => [(18, s_.1), (21, s_.2.1), (22, s_.2.2)]) (fun s_ w' => (w'.cell? ⟨gb234, 0, none⟩ = some (.slice A233_0 ((rd_T42 l0 x12_1).f0).length c233_0) ∧ w'.cell? ⟨gb234, 1, none⟩ = some (.slice A233_1 ((rd_T42 l0 x12_1).f1).length c233_1)) ∧ (Kd.V (Kd.int .i64) 2 w' w.heap.size (fun k_ => (P0_ k_ ∨ w.heap.size ≤ k_) ∧ some k_ ≠ (s_.2.1 : Value).ownBlock ∧ some k_ ≠ (s_.2.2 : Value).ownBlock ∧ oB (.slice Ao12 x7_1.length co12) k_ ∧ k_ ≠ gb234) (.slice A233_0 ((rd_T42 l0 x12_1).f0).length c233_0) ((rd_T42 l0 x12_1).f0)) ∧ (Kd.V (Kd.int .i64) 2 w' w.heap.size (fun k_ => (P0_ k_ ∨ w.heap.size ≤ k_) ∧ some k_ ≠ (s_.2.1 : Value).ownBlock ∧ some k_ ≠ (s_.2.2 : Value).ownBlock ∧ oB (.slice Ao12 x7_1.length co12) k_ ∧ k_ ≠ gb234) (.slice A233_1 ((rd_T42 l0 x12_1).f1).length c233_1) ((rd_T42 l0 x12_1).f1)) ∧ (Kd.N (Kd.slice 2 (Kd.int .i64)) 36 w' w.heap.size (fun k_ => (P0_ k_ ∨ w.heap.size ≤ k_) ∧ some k_ ≠ (s_.2.2 : Value).ownBlock ∧ oB (.slice Ao12 x7_1.length co12) k_ ∧ k_ ≠ gb234) s_.2.1 y238) ∧ (Kd.R (Kd.int .i64) 2 w' w.heap.size (fun k_ => (w.heap.size ≤ k_)) s_.2.2 t241) ∧ (Kd.V k42 42 w' w.heap.size (fun k_ => (P0_ k_ ∨ w.heap.size ≤ k_) ∧ some k_ ≠ (s_.2.1 : Value).ownBlock ∧ some k_ ≠ (s_.2.2 : Value).ownBlock ∧ oB (.slice Ao12 x7_1.length co12) k_ ∧ k_ ≠ gb234) (.slice (some ad233) l0.length c0) l0) ∧ (Kd.S k42 42 w' w.heap.size (fun k_ => (w.heap.size ≤ k_) ∧ some k_ ≠ (s_.2.2 : Value).ownBlock ∧ k_ ≠ gb234) (.slice Ao12 x7_1.length co12) x7_1) ∧ (w'.heap[gb234]? = some (.cells #[.slice A233_0 ((rd_T42 l0 x12_1).f0).length c233_0, .slice A233_1 ((rd_T42 l0 x12_1).f1).length c233_1] 42 (0, 0))) ∧ (Below w.heap.size w w')) ?_ ?_
          rotate_left
          ·
           intro hJ2_5_6
           refine join_ (σ := Value × Value × Value) 7 #[true, true, true, true, true, true, false, true, true, true, true, false, false, false, false, false, false] (fun s_ => [(18, s_.1), (21, s_.2.1), (24, s_.2.2)]) (fun s_ w' => (w'.cell? ⟨gb234, 0, none⟩ = some (.slice A233_0 ((rd_T42 l0 x12_1).f0).length c233_0) ∧ w'.cell? ⟨gb234, 1, none⟩ = some (.slice A233_1 ((rd_T42 l0 x12_1).f1).length c233_1)) ∧ (Kd.V (Kd.int .i64) 2 w' w.heap.size (fun k_ => (P0_ k_ ∨ w.heap.size ≤ k_) ∧ some k_ ≠ (s_.2.1 : Value).ownBlock ∧ some k_ ≠ (s_.2.2 : Value).ownBlock ∧ oB (.slice Ao12 x7_1.length co12) k_ ∧ k_ ≠ gb234) (.slice A233_0 ((rd_T42 l0 x12_1).f0).length c233_0) ((rd_T42 l0 x12_1).f0)) ∧ (Kd.V (Kd.int .i64) 2 w' w.heap.size (fun k_ => (P0_ k_ ∨ w.heap.size ≤ k_) ∧ some k_ ≠ (s_.2.1 : Value).ownBlock ∧ some k_ ≠ (s_.2.2 : Value).ownBlock ∧ oB (.slice Ao12 x7_1.length co12) k_ ∧ k_ ≠ gb234) (.slice A233_1 ((rd_T42 l0 x12_1).f1).length c233_1) ((rd_T42 l0 x12_1).f1)) ∧ (Kd.N (Kd.slice 2 (Kd.int .i64)) 36 w' w.heap.size (fun k_ => (P0_ k_ ∨ w.heap.size ≤ k_) ∧ some k_ ≠ (s_.2.2 : Value).ownBlock ∧ oB (.slice Ao12 x7_1.length co12) k_ ∧ k_ ≠ gb234) s_.2.1 y238) ∧ (Kd.R (Kd.int .i64) 2 w' w.heap.size (fun k_ => (w.heap.size ≤ k_)) s_.2.2 y244) ∧ (Kd.V k42 42 w' w.heap.size (fun k_ => (P0_ k_ ∨ w.heap.size ≤ k_) ∧ some k_ ≠ (s_.2.1 : Value).ownBlock ∧ some k_ ≠ (s_.2.2 : Value).ownBlock ∧ oB (.slice Ao12 x7_1.length co12) k_ ∧ k_ ≠ gb234) (.slice (some ad233) l0.length c0) l0) ∧ (Kd.S k42 42 w' w.heap.size (fun k_ => (w.heap.size ≤ k_) ∧ some k_ ≠ (s_.2.2 : Value).ownBlock ∧ k_ ≠ gb234) (.slice Ao12 x7_1.length co12) x7_1) ∧ (w'.heap[gb234]? = some (.cells #[.slice A233_0 ((rd_T42 l0 x12_1).f0).length c233_0, .slice A233_1 ((rd_T42 l0 x12_1).f1).length c233_1] 42 (0, 0))) ∧ (Below w.heap.size w w')) ?_ ?_
           rotate_left
           ·
            intro hJ2_5_8
            refine join_ (σ := Value × Value × Value) 7 #[true, true, true, true, true, false, false, true, true, true, true, true, false, false, false, false, false] (fun s_ => [(18, s_.1), (24, s_.2.1), (27, s_.2.2)]) (fun s_ w' => (w'.cell? ⟨gb234, 0, none⟩ = some (.slice A233_0 ((rd_T42 l0 x12_1).f0).length c233_0) ∧ w'.cell? ⟨gb234, 1, none⟩ = some (.slice A233_1 ((rd_T42 l0 x12_1).f1).length c233_1)) ∧ (Kd.V (Kd.int .i64) 2 w' w.heap.size (fun k_ => (P0_ k_ ∨ w.heap.size ≤ k_) ∧ some k_ ≠ (s_.1 : Value).ownBlock ∧ some k_ ≠ (s_.2.2 : Value).ownBlock ∧ oB (.slice Ao12 x7_1.length co12) k_ ∧ k_ ≠ gb234) (.slice A233_0 ((rd_T42 l0 x12_1).f0).length c233_0) ((rd_T42 l0 x12_1).f0)) ∧ (Kd.V (Kd.int .i64) 2 w' w.heap.size (fun k_ => (P0_ k_ ∨ w.heap.size ≤ k_) ∧ some k_ ≠ (s_.1 : Value).ownBlock ∧ some k_ ≠ (s_.2.2 : Value).ownBlock ∧ oB (.slice Ao12 x7_1.length co12) k_ ∧ k_ ≠ gb234) (.slice A233_1 ((rd_T42 l0 x12_1).f1).length c233_1) ((rd_T42 l0 x12_1).f1)) ∧ (Kd.R (Kd.int .i64) 2 w' w.heap.size (fun k_ => (w.heap.size ≤ k_)) s_.1 y235) ∧ (Kd.N (Kd.slice 2 (Kd.int .i64)) 36 w' w.heap.size (fun k_ => (P0_ k_ ∨ w.heap.size ≤ k_) ∧ some k_ ≠ (s_.1 : Value).ownBlock ∧ oB (.slice Ao12 x7_1.length co12) k_ ∧ k_ ≠ gb234) s_.2.2 y247) ∧ (Kd.V k42 42 w' w.heap.size (fun k_ => (P0_ k_ ∨ w.heap.size ≤ k_) ∧ some k_ ≠ (s_.1 : Value).ownBlock ∧ some k_ ≠ (s_.2.2 : Value).ownBlock ∧ oB (.slice Ao12 x7_1.length co12) k_ ∧ k_ ≠ gb234) (.slice (some ad233) l0.length c0) l0) ∧ (Kd.S k42 42 w' w.heap.size (fun k_ => (w.heap.size ≤ k_) ∧ some k_ ≠ (s_.1 : Value).ownBlock ∧ k_ ≠ gb234) (.slice Ao12 x7_1.length co12) x7_1) ∧ (w'.heap[gb234]? = some (.cells #[.slice A233_0 ((rd_T42 l0 x12_1).f0).length c233_0, .slice A233_1 ((rd_T42 l0 x12_1).f1).length c233_1] 42 (0, 0))) ∧ (Below w.heap.size w w')) ?_ ?_
            rotate_left
            ·
             intro hJ2_8_11
             refine join_ (σ := Value × Value) 8 #[true, true, true, true, true, true, false, true, false, true, true, false, false, false, false, false, false] (fun s_ => [(18, s_.1), (21, s_.2)]) (fun s_ w' => (w'.cell? ⟨gb234, 0, none⟩ = some (.slice A233_0 ((rd_T42 l0 x12_1).f0).length c233_0) ∧ w'.cell? ⟨gb234, 1, none⟩ = some (.slice A233_1 ((rd_T42 l0 x12_1).f1).length c233_1)) ∧ (Kd.V (Kd.int .i64) 2 w' w.heap.size (fun k_ => (P0_ k_ ∨ w.heap.size ≤ k_) ∧ some k_ ≠ (s_.2 : Value).ownBlock ∧ oB (.slice Ao12 x7_1.length co12) k_ ∧ k_ ≠ gb234) (.slice A233_0 ((rd_T42 l0 x12_1).f0).length c233_0) ((rd_T42 l0 x12_1).f0)) ∧ (Kd.V (Kd.int .i64) 2 w' w.heap.size (fun k_ => (P0_ k_ ∨ w.heap.size ≤ k_) ∧ some k_ ≠ (s_.2 : Value).ownBlock ∧ oB (.slice Ao12 x7_1.length co12) k_ ∧ k_ ≠ gb234) (.slice A233_1 ((rd_T42 l0 x12_1).f1).length c233_1) ((rd_T42 l0 x12_1).f1)) ∧ (Kd.N (Kd.slice 2 (Kd.int .i64)) 36 w' w.heap.size (fun k_ => (P0_ k_ ∨ w.heap.size ≤ k_) ∧ oB (.slice Ao12 x7_1.length co12) k_ ∧ k_ ≠ gb234) s_.2 y238) ∧ (Kd.V k42 42 w' w.heap.size (fun k_ => (P0_ k_ ∨ w.heap.size ≤ k_) ∧ some k_ ≠ (s_.2 : Value).ownBlock ∧ oB (.slice Ao12 x7_1.length co12) k_ ∧ k_ ≠ gb234) (.slice (some ad233) l0.length c0) l0) ∧ (Kd.S k42 42 w' w.heap.size (fun k_ => (w.heap.size ≤ k_) ∧ k_ ≠ gb234) (.slice Ao12 x7_1.length co12) x7_1) ∧ (w'.heap[gb234]? = some (.cells #[.slice A233_0 ((rd_T42 l0 x12_1).f0).length c233_0, .slice A233_1 ((rd_T42 l0 x12_1).f1).length c233_1] 42 (0, 0))) ∧ (Below w.heap.size w w')) ?_ ?_
             rotate_left
             ·
              intro hJ2_5
              refine join_ (σ := Value × Value) 8 #[true, true, true, true, true, false, false, true, true, true, true, false, false, false, false, false, false] (fun s_ => [(18, s_.1), (24, s_.2)]) (fun s_ w' => (w'.cell? ⟨gb234, 0, none⟩ = some (.slice A233_0 ((rd_T42 l0 x12_1).f0).length c233_0) ∧ w'.cell? ⟨gb234, 1, none⟩ = some (.slice A233_1 ((rd_T42 l0 x12_1).f1).length c233_1)) ∧ (Kd.V (Kd.int .i64) 2 w' w.heap.size (fun k_ => (P0_ k_ ∨ w.heap.size ≤ k_) ∧ some k_ ≠ (s_.1 : Value).ownBlock ∧ some k_ ≠ (s_.2 : Value).ownBlock ∧ oB (.slice Ao12 x7_1.length co12) k_ ∧ k_ ≠ gb234) (.slice A233_0 ((rd_T42 l0 x12_1).f0).length c233_0) ((rd_T42 l0 x12_1).f0)) ∧ (Kd.V (Kd.int .i64) 2 w' w.heap.size (fun k_ => (P0_ k_ ∨ w.heap.size ≤ k_) ∧ some k_ ≠ (s_.1 : Value).ownBlock ∧ some k_ ≠ (s_.2 : Value).ownBlock ∧ oB (.slice Ao12 x7_1.length co12) k_ ∧ k_ ≠ gb234) (.slice A233_1 ((rd_T42 l0 x12_1).f1).length c233_1) ((rd_T42 l0 x12_1).f1)) ∧ (Kd.R (Kd.int .i64) 2 w' w.heap.size (fun k_ => (w.heap.size ≤ k_) ∧ some k_ ≠ (s_.2 : Value).ownBlock) s_.1 y235) ∧ (Kd.R (Kd.int .i64) 2 w' w.heap.size (fun k_ => (w.heap.size ≤ k_) ∧ some k_ ≠ (s_.1 : Value).ownBlock) s_.2 y244) ∧ (Kd.V k42 42 w' w.heap.size (fun k_ => (P0_ k_ ∨ w.heap.size ≤ k_) ∧ some k_ ≠ (s_.1 : Value).ownBlock ∧ some k_ ≠ (s_.2 : Value).ownBlock ∧ oB (.slice Ao12 x7_1.length co12) k_ ∧ k_ ≠ gb234) (.slice (some ad233) l0.length c0) l0) ∧ (Kd.S k42 42 w' w.heap.size (fun k_ => (w.heap.size ≤ k_) ∧ some k_ ≠ (s_.1 : Value).ownBlock ∧ some k_ ≠ (s_.2 : Value).ownBlock ∧ k_ ≠ gb234) (.slice Ao12 x7_1.length co12) x7_1) ∧ (w'.heap[gb234]? = some (.cells #[.slice A233_0 ((rd_T42 l0 x12_1).f0).length c233_0, .slice A233_1 ((rd_T42 l0 x12_1).f1).length c233_1] 42 (0, 0))) ∧ (Below w.heap.size w w')) ?_ ?_
              rotate_left
              ·
               intro hJ2_8
               refine join_ (σ := Value × Value) 8 #[true, true, false, true, true, false, false, true, true, true, true, true, false, false, false, false, false] (fun s_ => [(24, s_.1), (27, s_.2)]) (fun s_ w' => (w'.cell? ⟨gb234, 0, none⟩ = some (.slice A233_0 ((rd_T42 l0 x12_1).f0).length c233_0) ∧ w'.cell? ⟨gb234, 1, none⟩ = some (.slice A233_1 ((rd_T42 l0 x12_1).f1).length c233_1)) ∧ (Kd.V (Kd.int .i64) 2 w' w.heap.size (fun k_ => (P0_ k_ ∨ w.heap.size ≤ k_) ∧ some k_ ≠ (s_.2 : Value).ownBlock ∧ oB (.slice Ao12 x7_1.length co12) k_ ∧ k_ ≠ gb234) (.slice A233_0 ((rd_T42 l0 x12_1).f0).length c233_0) ((rd_T42 l0 x12_1).f0)) ∧ (Kd.V (Kd.int .i64) 2 w' w.heap.size (fun k_ => (P0_ k_ ∨ w.heap.size ≤ k_) ∧ some k_ ≠ (s_.2 : Value).ownBlock ∧ oB (.slice Ao12 x7_1.length co12) k_ ∧ k_ ≠ gb234) (.slice A233_1 ((rd_T42 l0 x12_1).f1).length c233_1) ((rd_T42 l0 x12_1).f1)) ∧ (Kd.N (Kd.slice 2 (Kd.int .i64)) 36 w' w.heap.size (fun k_ => (P0_ k_ ∨ w.heap.size ≤ k_) ∧ oB (.slice Ao12 x7_1.length co12) k_ ∧ k_ ≠ gb234) s_.2 y247) ∧ (Kd.V k42 42 w' w.heap.size (fun k_ => (P0_ k_ ∨ w.heap.size ≤ k_) ∧ some k_ ≠ (s_.2 : Value).ownBlock ∧ oB (.slice Ao12 x7_1.length co12) k_ ∧ k_ ≠ gb234) (.slice (some ad233) l0.length c0) l0) ∧ (Kd.S k42 42 w' w.heap.size (fun k_ => (w.heap.size ≤ k_) ∧ k_ ≠ gb234) (.slice Ao12 x7_1.length co12) x7_1) ∧ (w'.heap[gb234]? = some (.cells #[.slice A233_0 ((rd_T42 l0 x12_1).f0).length c233_0, .slice A233_1 ((rd_T42 l0 x12_1).f1).length c233_1] 42 (0, 0))) ∧ (Below w.heap.size w w')) ?_ ?_
               rotate_left
               ·
                intro hJ8_11
                refine join_ (σ := Value) 9 #[true, true, true, true, true, false, false, true, false, true, true, false, false, false, false, false, false] (fun s_ => [(18, s_)]) (fun s_ w' => (w'.cell? ⟨gb234, 0, none⟩ = some (.slice A233_0 ((rd_T42 l0 x12_1).f0).length c233_0) ∧ w'.cell? ⟨gb234, 1, none⟩ = some (.slice A233_1 ((rd_T42 l0 x12_1).f1).length c233_1)) ∧ (Kd.V (Kd.int .i64) 2 w' w.heap.size (fun k_ => (P0_ k_ ∨ w.heap.size ≤ k_) ∧ some k_ ≠ (s_ : Value).ownBlock ∧ oB (.slice Ao12 x7_1.length co12) k_ ∧ k_ ≠ gb234) (.slice A233_0 ((rd_T42 l0 x12_1).f0).length c233_0) ((rd_T42 l0 x12_1).f0)) ∧ (Kd.V (Kd.int .i64) 2 w' w.heap.size (fun k_ => (P0_ k_ ∨ w.heap.size ≤ k_) ∧ some k_ ≠ (s_ : Value).ownBlock ∧ oB (.slice Ao12 x7_1.length co12) k_ ∧ k_ ≠ gb234) (.slice A233_1 ((rd_T42 l0 x12_1).f1).length c233_1) ((rd_T42 l0 x12_1).f1)) ∧ (Kd.R (Kd.int .i64) 2 w' w.heap.size (fun k_ => (w.heap.size ≤ k_)) s_ y235) ∧ (Kd.V k42 42 w' w.heap.size (fun k_ => (P0_ k_ ∨ w.heap.size ≤ k_) ∧ some k_ ≠ (s_ : Value).ownBlock ∧ oB (.slice Ao12 x7_1.length co12) k_ ∧ k_ ≠ gb234) (.slice (some ad233) l0.length c0) l0) ∧ (Kd.S k42 42 w' w.heap.size (fun k_ => (w.heap.size ≤ k_) ∧ some k_ ≠ (s_ : Value).ownBlock ∧ k_ ≠ gb234) (.slice Ao12 x7_1.length co12) x7_1) ∧ (w'.heap[gb234]? = some (.cells #[.slice A233_0 ((rd_T42 l0 x12_1).f0).length c233_0, .slice A233_1 ((rd_T42 l0 x12_1).f1).length c233_1] 42 (0, 0))) ∧ (Below w.heap.size w w')) ?_ ?_
                rotate_left
                ·
                 intro hJ2
                 refine join_ (σ := Value) 9 #[true, true, false, true, true, false, false, true, true, true, true, false, false, false, false, false, false] (fun s_ => [(24, s_)]) (fun s_ w' => (w'.cell? ⟨gb234, 0, none⟩ = some (.slice A233_0 ((rd_T42 l0 x12_1).f0).length c233_0) ∧ w'.cell? ⟨gb234, 1, none⟩ = some (.slice A233_1 ((rd_T42 l0 x12_1).f1).length c233_1)) ∧ (Kd.V (Kd.int .i64) 2 w' w.heap.size (fun k_ => (P0_ k_ ∨ w.heap.size ≤ k_) ∧ some k_ ≠ (s_ : Value).ownBlock ∧ oB (.slice Ao12 x7_1.length co12) k_ ∧ k_ ≠ gb234) (.slice A233_0 ((rd_T42 l0 x12_1).f0).length c233_0) ((rd_T42 l0 x12_1).f0)) ∧ (Kd.V (Kd.int .i64) 2 w' w.heap.size (fun k_ => (P0_ k_ ∨ w.heap.size ≤ k_) ∧ some k_ ≠ (s_ : Value).ownBlock ∧ oB (.slice Ao12 x7_1.length co12) k_ ∧ k_ ≠ gb234) (.slice A233_1 ((rd_T42 l0 x12_1).f1).length c233_1) ((rd_T42 l0 x12_1).f1)) ∧ (Kd.R (Kd.int .i64) 2 w' w.heap.size (fun k_ => (w.heap.size ≤ k_)) s_ y244) ∧ (Kd.V k42 42 w' w.heap.size (fun k_ => (P0_ k_ ∨ w.heap.size ≤ k_) ∧ some k_ ≠ (s_ : Value).ownBlock ∧ oB (.slice Ao12 x7_1.length co12) k_ ∧ k_ ≠ gb234) (.slice (some ad233) l0.length c0) l0) ∧ (Kd.S k42 42 w' w.heap.size (fun k_ => (w.heap.size ≤ k_) ∧ some k_ ≠ (s_ : Value).ownBlock ∧ k_ ≠ gb234) (.slice Ao12 x7_1.length co12) x7_1) ∧ (w'.heap[gb234]? = some (.cells #[.slice A233_0 ((rd_T42 l0 x12_1).f0).length c233_0, .slice A233_1 ((rd_T42 l0 x12_1).f1).length c233_1] 42 (0, 0))) ∧ (Below w.heap.size w w')) ?_ ?_
                 rotate_left
                 ·
                  intro hJ8
                  refine two_ (i := 2) (j := 8) (Ni := some 18) (Nj := some 24) #[true, true, true, true, true, false, false, true, false, true, true, false, false, false, false, false, false] #[true, true, false, true, true, false, false, true, true, true, true, false, false, false, false, false, false] rfl rfl rfl rfl (two_of HT_.out (by kernel_rfl)) (by decide) (by decide) (fun K hK => ?_) (fun K hK => ?_)
                  · skip
                    refine Kd.R_lit_step (Kd.int .i64) _ 2 ?hg (N := 18) ?hd (xs := ([a1] : List Int)) (inner := [.int .i64 a1]) (ok := fun _ => True) (okp := fun _ => True) ?hr ?hp (fun _ hk => hk) trivial (Below.refl _ _) (Nat.le_refl _) (by simp) ?_; (case hd => rfl); (case hg => rfl); (case hr => first | (go_simp; done) | (go_simp; rfl)); (case hp => exact (Reps.one (show Kd.M (Kd.int .i64) _ _ _ a1 [.int .i64 a1] from rfl) (Reps.none _ _)))
                    intro v236 w15 ho16 hb hg_ hnew_
                    clear hg_ hnew_
                    (first | rw [← Ny235.out] at ho16 | (simp only [Int.reduceToNat] at ho16; rw [← Ny235.out] at ho16))
                    have n0_ := yD (Kd.S_elder' (kS HO_7) (yH ho16) hb)
                    have n1_ := yD (Kd.V_elder' (kU HO_10) (yH ho16) hb)
                    have n2_ := yD (Kd.V_elder' (kU HL233_0) (yH ho16) hb)
                    have n3_ := yD (Kd.V_elder' (kU HL233_1) (yH ho16) hb)
                    have n4_ := yD (yZ (Kd.R_newM (M := fun k_ => (w.heap.size ≤ k_)) ho16 (below_size (kB HB)) (fun k_ h_ => h_)) (below_size (kB HB)))
                    have n5_ := yD (zB (kN BK234) hb)
                    have n6_ := yD (zC (kB HB) hb)
                    clear HO_7 HO_10 HL233_0 HL233_1 BK234 HB; have HO_7 := n0_; have HO_10 := n1_; have HL233_0 := n2_; have HL233_1 := n3_; have HO237 := n4_; have BK234 := n5_; have HB := n6_; clear n0_ n1_ n2_ n3_ n4_ n5_ n6_ hb ho16
                    refine hK.out _ _ ⟨(yG BK234.out 0).trans rfl, (yG BK234.out 1).trans rfl⟩ (fun hHeld => ?_)
                    clear hK K
                    refine norm_ (a' := ?_) ?_ ?_
                    rotate_left
                    · show Act.put _ (some 18) _ = _
                      simp only [Act.put, zH, zI, zJ, i64_w, i32_w]
                      rfl
                    exact norm_ (by first | (simp only [putAll, Act.put, zH, zI, zJ]; done) | (simp only [putAll, Act.put, zH, zI, zJ]; rfl)) (hJ2 (v236) _ ⟨hHeld, (mV HL233_0 (fun _ hk => ⟨hk.1.1, ⟨hk.2, ⟨hk.1.2.1, hk.1.2.2⟩⟩⟩)), (mV HL233_1 (fun _ hk => ⟨hk.1.1, ⟨hk.2, ⟨hk.1.2.1, hk.1.2.2⟩⟩⟩)), (mR HO237 (fun _ hk => hk.1)), (mV HO_10 (fun _ hk => ⟨hk.1.1, ⟨hk.2, ⟨hk.1.2.1, hk.1.2.2⟩⟩⟩)), (mS HO_7 (fun _ hk => ⟨hk.1.1, ⟨hk.2, hk.1.2⟩⟩)), (kM BK234), (kB HB)⟩)
                  · skip
                    refine Kd.R_lit_step (Kd.int .i64) _ 2 ?hg (N := 24) ?hd (xs := ([a2] : List Int)) (inner := [.int .i64 a2]) (ok := fun _ => True) (okp := fun _ => True) ?hr ?hp (fun _ hk => hk) trivial (Below.refl _ _) (Nat.le_refl _) (by simp) ?_; (case hd => rfl); (case hg => rfl); (case hr => first | (go_simp; done) | (go_simp; rfl)); (case hp => exact (Reps.one (show Kd.M (Kd.int .i64) _ _ _ a2 [.int .i64 a2] from rfl) (Reps.none _ _)))
                    intro v245 w15 ho16 hb hg_ hnew_
                    clear hg_ hnew_
                    (first | rw [← Ny244.out] at ho16 | (simp only [Int.reduceToNat] at ho16; rw [← Ny244.out] at ho16))
                    have n0_ := yD (Kd.S_elder' (kS HO_7) (yH ho16) hb)
                    have n1_ := yD (Kd.V_elder' (kU HO_10) (yH ho16) hb)
                    have n2_ := yD (Kd.V_elder' (kU HL233_0) (yH ho16) hb)
                    have n3_ := yD (Kd.V_elder' (kU HL233_1) (yH ho16) hb)
                    have n4_ := yD (yZ (Kd.R_newM (M := fun k_ => (w.heap.size ≤ k_)) ho16 (below_size (kB HB)) (fun k_ h_ => h_)) (below_size (kB HB)))
                    have n5_ := yD (zB (kN BK234) hb)
                    have n6_ := yD (zC (kB HB) hb)
                    clear HO_7 HO_10 HL233_0 HL233_1 BK234 HB; have HO_7 := n0_; have HO_10 := n1_; have HL233_0 := n2_; have HL233_1 := n3_; have HO246 := n4_; have BK234 := n5_; have HB := n6_; clear n0_ n1_ n2_ n3_ n4_ n5_ n6_ hb ho16
                    refine hK.out _ _ ⟨(yG BK234.out 0).trans rfl, (yG BK234.out 1).trans rfl⟩ (fun hHeld => ?_)
                    clear hK K
                    refine norm_ (a' := ?_) ?_ ?_
                    rotate_left
                    · show Act.put _ (some 24) _ = _
                      simp only [Act.put, zH, zI, zJ, i64_w, i32_w]
                      rfl
                    exact norm_ (by first | (simp only [putAll, Act.put, zH, zI, zJ]; done) | (simp only [putAll, Act.put, zH, zI, zJ]; rfl)) (hJ8 (v245) _ ⟨hHeld, (mV HL233_0 (fun _ hk => ⟨hk.1.1, ⟨hk.2, ⟨hk.1.2.1, hk.1.2.2⟩⟩⟩)), (mV HL233_1 (fun _ hk => ⟨hk.1.1, ⟨hk.2, ⟨hk.1.2.1, hk.1.2.2⟩⟩⟩)), (mR HO246 (fun _ hk => hk.1)), (mV HO_10 (fun _ hk => ⟨hk.1.1, ⟨hk.2, ⟨hk.1.2.1, hk.1.2.2⟩⟩⟩)), (mS HO_7 (fun _ hk => ⟨hk.1.1, ⟨hk.2, hk.1.2⟩⟩)), (kM BK234), (kB HB)⟩)
                 ·
                  skip
                  rintro v245 w17 ⟨hS_, h0_, h1_, h2_, h3_, h4_, h5_, h6_⟩
                  have n0_ : Aside0 (Kd.V (Kd.int .i64) 2 w17 w.heap.size (fun k_ => (P0_ k_ ∨ w.heap.size ≤ k_) ∧ oB v245 k_ ∧ oB (.slice Ao12 x7_1.length co12) k_ ∧ k_ ≠ gb234) (.slice A233_0 ((rd_T42 l0 x12_1).f0).length c233_0) ((rd_T42 l0 x12_1).f0)) := ⟨h0_⟩
                  have n1_ : Aside0 (Kd.V (Kd.int .i64) 2 w17 w.heap.size (fun k_ => (P0_ k_ ∨ w.heap.size ≤ k_) ∧ oB v245 k_ ∧ oB (.slice Ao12 x7_1.length co12) k_ ∧ k_ ≠ gb234) (.slice A233_1 ((rd_T42 l0 x12_1).f1).length c233_1) ((rd_T42 l0 x12_1).f1)) := ⟨h1_⟩
                  have n2_ : Aside0 (Kd.R (Kd.int .i64) 2 w17 w.heap.size (fun k_ => (w.heap.size ≤ k_)) v245 y244) := ⟨h2_⟩
                  have n3_ : Aside0 (Kd.V k42 42 w17 w.heap.size (fun k_ => (P0_ k_ ∨ w.heap.size ≤ k_) ∧ oB v245 k_ ∧ oB (.slice Ao12 x7_1.length co12) k_ ∧ k_ ≠ gb234) (.slice (some ad233) l0.length c0) l0) := ⟨h3_⟩
                  have n4_ : Aside0 (Kd.S k42 42 w17 w.heap.size (fun k_ => (w.heap.size ≤ k_) ∧ oB v245 k_ ∧ k_ ≠ gb234) (.slice Ao12 x7_1.length co12) x7_1) := ⟨h4_⟩
                  have n5_ : Aside0 (w17.heap[gb234]? = some (.cells #[.slice A233_0 ((rd_T42 l0 x12_1).f0).length c233_0, .slice A233_1 ((rd_T42 l0 x12_1).f1).length c233_1] 42 (0, 0))) := ⟨h5_⟩
                  have n6_ : Aside0 (Below w.heap.size w w17) := ⟨h6_⟩
                  clear HO_7 HO_10 HL233_0 HL233_1 BK234 HB h0_ h1_ h2_ h3_ h4_ h5_ h6_; have HL233_0 := n0_; have HL233_1 := n1_; have HO246 := n2_; have HO_10 := n3_; have HO_7 := n4_; have BK234 := n5_; have HB := n6_; clear n0_ n1_ n2_ n3_ n4_ n5_ n6_
                  have hHeld : w17.cell? ⟨gb234, 0, none⟩ = some (.slice A233_0 ((rd_T42 l0 x12_1).f0).length c233_0) ∧ w17.cell? ⟨gb234, 1, none⟩ = some (.slice A233_1 ((rd_T42 l0 x12_1).f1).length c233_1) := hS_
                  refine norm_ (a' := ?_) ?_ ?_
                  rotate_left
                  · simp only [putAll, Act.put, zH, zI, zJ]
                    rfl
                  refine two_ (i := 2) (j := 11) (Ni := some 18) (Nj := some 27) #[true, true, true, true, true, false, false, true, true, true, true, false, false, false, false, false, false] #[true, true, false, true, true, false, false, true, true, true, true, true, false, false, false, false, false] rfl rfl rfl rfl (two_of HT_.out (by kernel_rfl)) (by decide) (by decide) (fun K hK => ?_) (fun K hK => ?_)
                  · skip
                    refine Kd.R_lit_step (Kd.int .i64) _ 2 ?hg (N := 18) ?hd (xs := ([a1] : List Int)) (inner := [.int .i64 a1]) (ok := fun _ => True) (okp := fun _ => True) ?hr ?hp (fun _ hk => hk) trivial (Below.refl _ _) (Nat.le_refl _) (by simp) ?_; (case hd => rfl); (case hg => rfl); (case hr => first | (go_simp; done) | (go_simp; rfl)); (case hp => exact (Reps.one (show Kd.M (Kd.int .i64) _ _ _ a1 [.int .i64 a1] from rfl) (Reps.none _ _)))
                    intro v236 w18 ho19 hb hg_ hnew_
                    clear hg_ hnew_
                    (first | rw [← Ny235.out] at ho19 | (simp only [Int.reduceToNat] at ho19; rw [← Ny235.out] at ho19))
                    have n0_ := yD (Kd.S_elder' (kS HO_7) (yH ho19) hb)
                    have n1_ := yD (Kd.V_elder' (kU HO_10) (yH ho19) hb)
                    have n2_ := yD (Kd.V_elder' (kU HL233_0) (yH ho19) hb)
                    have n3_ := yD (Kd.V_elder' (kU HL233_1) (yH ho19) hb)
                    have n4_ := yD (Kd.R_elder' (kA HO246) (yH ho19) hb)
                    have n5_ := yD (yZ (yJ (Kd.R_newM (M := fun k_ => (w.heap.size ≤ k_)) ho19 (below_size (kB HB)) (fun k_ h_ => h_)) (yK (kA HO246))) (below_size (kB HB)))
                    have n6_ := yD (zB (kN BK234) hb)
                    have n7_ := yD (zC (kB HB) hb)
                    clear HO_7 HO_10 HL233_0 HL233_1 HO246 BK234 HB; have HO_7 := n0_; have HO_10 := n1_; have HL233_0 := n2_; have HL233_1 := n3_; have HO246 := n4_; have HO237 := n5_; have BK234 := n6_; have HB := n7_; clear n0_ n1_ n2_ n3_ n4_ n5_ n6_ n7_ hb ho19
                    refine hK.out _ _ ⟨(yG BK234.out 0).trans rfl, (yG BK234.out 1).trans rfl⟩ (fun hHeld => ?_)
                    clear hK K
                    refine norm_ (a' := ?_) ?_ ?_
                    rotate_left
                    · show Act.put _ (some 18) _ = _
                      simp only [Act.put, zH, zI, zJ, i64_w, i32_w]
                      rfl
                    exact norm_ (by first | (simp only [putAll, Act.put, zH, zI, zJ]; done) | (simp only [putAll, Act.put, zH, zI, zJ]; rfl)) (hJ2_8 (v236, v245) _ ⟨hHeld, (mV HL233_0 (fun _ hk => ⟨hk.1.1, ⟨hk.2, ⟨hk.1.2.1, ⟨hk.1.2.2.1, hk.1.2.2.2⟩⟩⟩⟩)), (mV HL233_1 (fun _ hk => ⟨hk.1.1, ⟨hk.2, ⟨hk.1.2.1, ⟨hk.1.2.2.1, hk.1.2.2.2⟩⟩⟩⟩)), (mR HO237 (fun _ hk => ⟨hk.1.1, hk.2⟩)), (kA HO246), (mV HO_10 (fun _ hk => ⟨hk.1.1, ⟨hk.2, ⟨hk.1.2.1, ⟨hk.1.2.2.1, hk.1.2.2.2⟩⟩⟩⟩)), (mS HO_7 (fun _ hk => ⟨hk.1.1, ⟨hk.2, ⟨hk.1.2.1, hk.1.2.2⟩⟩⟩)), (kM BK234), (kB HB)⟩)
                  ·
                   skip
                   obtain ⟨Ao18, co18, eo18⟩ := Kd.R_slice HO246.out
                   subst eo18
                   refine Kd.N_lit_step (Kd.slice 2 (Kd.int .i64)) _ 36 ?hg (N' := 27) ?hd (xs := ([y244, (rd_T42 l0 x12_1).f1] : List (List Int))) (inner := [.slice Ao18 y244.length co18, .slice A233_1 ((rd_T42 l0 x12_1).f1).length c233_1]) (ok := (fun k_ => (P0_ k_ ∨ w.heap.size ≤ k_) ∧ oB (.slice Ao12 x7_1.length co12) k_ ∧ k_ ≠ gb234)) (okp := (fun k_ => (P0_ k_ ∨ w.heap.size ≤ k_) ∧ oB (.slice Ao12 x7_1.length co12) k_ ∧ k_ ≠ gb234)) ?hr ?hp (fun _ hk => hk) ((show ∀ k_, w17.heap.size ≤ k_ → (fun k_ => (P0_ k_ ∨ w.heap.size ≤ k_) ∧ oB (.slice Ao12 x7_1.length co12) k_ ∧ k_ ≠ gb234) k_ from fun k_ hk => ⟨(.inr (Nat.le_trans (below_size (kB HB)) hk)), Kd.fresh' (Kd.S_lt (kS HO_7)) k_ hk, Kd.freshB (g := gb234) (o := .cells #[.slice A233_0 ((rd_T42 l0 x12_1).f0).length c233_0, .slice A233_1 ((rd_T42 l0 x12_1).f1).length c233_1] 42 (0, 0)) (kM BK234) k_ hk⟩) _ (Nat.le_refl _)) (Below.refl _ _) (Nat.le_refl _) (by simp) ?_; (case hd => rfl); (case hg => rfl); (case hr => first | (go_simp; done) | (go_simp; rfl)); (case hp => exact (Reps.one (show Kd.FK (Kd.slice 2 (Kd.int .i64)) _ _ y244 [.slice Ao18 y244.length co18] from (Kd.FK_slice_mk (zA (zF (ok' := (fun k_ => (P0_ k_ ∨ w.heap.size ≤ k_) ∧ oB (.slice Ao12 x7_1.length co12) k_ ∧ k_ ≠ gb234)) (Kd.R_types (Kd.R_apart' (HO246.out) (Kd.S_typed HO_7.out) (by decide)) BK234.out (by decide)) (fun k_ hk => ⟨(.inr (hk.1.1)), ⟨hk.1.2, hk.2⟩⟩))).2.1 (Kd.R_F (zF (ok' := (fun k_ => (P0_ k_ ∨ w.heap.size ≤ k_) ∧ oB (.slice Ao12 x7_1.length co12) k_ ∧ k_ ≠ gb234)) (Kd.R_types (Kd.R_apart' (HO246.out) (Kd.S_typed HO_7.out) (by decide)) BK234.out (by decide)) (fun k_ hk => ⟨(.inr (hk.1.1)), ⟨hk.1.2, hk.2⟩⟩))))) (Reps.one (show Kd.FK (Kd.slice 2 (Kd.int .i64)) _ _ ((rd_T42 l0 x12_1).f1) [.slice A233_1 ((rd_T42 l0 x12_1).f1).length c233_1] from (Kd.FK_slice_mk (Kd.V_reads' (Kd.V_mono (ok' := (fun k_ => (P0_ k_ ∨ w.heap.size ≤ k_) ∧ oB (.slice Ao12 x7_1.length co12) k_ ∧ k_ ≠ gb234)) (HL233_1.out) (fun k_ hk => ⟨hk.1, ⟨hk.2.2.1, hk.2.2.2⟩⟩))).2.1 (Kd.V_F (Kd.V_mono (ok' := (fun k_ => (P0_ k_ ∨ w.heap.size ≤ k_) ∧ oB (.slice Ao12 x7_1.length co12) k_ ∧ k_ ≠ gb234)) (HL233_1.out) (fun k_ hk => ⟨hk.1, ⟨hk.2.2.1, hk.2.2.2⟩⟩))))) (Reps.none _ _))))
                   intro v248 w19 ho20 hb hg_ hnew_
                   clear hg_ hnew_
                   (first | rw [← Ny247.out] at ho20 | (simp only [Int.reduceToNat] at ho20; rw [← Ny247.out] at ho20))
                   have n0_ := yD (Kd.S_below (kS HO_7) hb)
                   have n1_ := yD (Kd.V_elder' (kU HO_10) (Kd.N_base ho20) hb)
                   have n2_ := yD (Kd.V_elder' (kU HL233_0) (Kd.N_base ho20) hb)
                   have n3_ := yD (Kd.V_elder' (kU HL233_1) (Kd.N_base ho20) hb)
                   have n4_ := yD (Kd.N_lower ho20 (below_size (kB HB)))
                   have n5_ := yD (zB (kN BK234) hb)
                   have n6_ := yD (zC (kB HB) hb)
                   clear HO_7 HO_10 HL233_0 HL233_1 BK234 HB HO246; have HO_7 := n0_; have HO_10 := n1_; have HL233_0 := n2_; have HL233_1 := n3_; have HO249 := n4_; have BK234 := n5_; have HB := n6_; clear n0_ n1_ n2_ n3_ n4_ n5_ n6_ hb ho20
                   refine hK.out _ _ ⟨(yG BK234.out 0).trans rfl, (yG BK234.out 1).trans rfl⟩ (fun hHeld => ?_)
                   clear hK K
                   refine norm_ (a' := ?_) ?_ ?_
                   rotate_left
                   · show Act.put _ (some 27) _ = _
                     simp only [Act.put, zH, zI, zJ, i64_w, i32_w]
                     rfl
                   exact norm_ (by first | (simp only [putAll, Act.put, zH, zI, zJ]; done) | (simp only [putAll, Act.put, zH, zI, zJ]; rfl)) (hJ8_11 (.slice Ao18 y244.length co18, v248) _ ⟨hHeld, (mV HL233_0 (fun _ hk => ⟨hk.1.1, ⟨hk.2, ⟨hk.1.2.2.1, hk.1.2.2.2⟩⟩⟩)), (mV HL233_1 (fun _ hk => ⟨hk.1.1, ⟨hk.2, ⟨hk.1.2.2.1, hk.1.2.2.2⟩⟩⟩)), (kQ HO249), (mV HO_10 (fun _ hk => ⟨hk.1.1, ⟨hk.2, ⟨hk.1.2.2.1, hk.1.2.2.2⟩⟩⟩)), (mS HO_7 (fun _ hk => ⟨hk.1, hk.2.2⟩)), (kM BK234), (kB HB)⟩)
                ·
                 skip
                 rintro v236 w17 ⟨hS_, h0_, h1_, h2_, h3_, h4_, h5_, h6_⟩
                 have n0_ : Aside0 (Kd.V (Kd.int .i64) 2 w17 w.heap.size (fun k_ => (P0_ k_ ∨ w.heap.size ≤ k_) ∧ oB v236 k_ ∧ oB (.slice Ao12 x7_1.length co12) k_ ∧ k_ ≠ gb234) (.slice A233_0 ((rd_T42 l0 x12_1).f0).length c233_0) ((rd_T42 l0 x12_1).f0)) := ⟨h0_⟩
                 have n1_ : Aside0 (Kd.V (Kd.int .i64) 2 w17 w.heap.size (fun k_ => (P0_ k_ ∨ w.heap.size ≤ k_) ∧ oB v236 k_ ∧ oB (.slice Ao12 x7_1.length co12) k_ ∧ k_ ≠ gb234) (.slice A233_1 ((rd_T42 l0 x12_1).f1).length c233_1) ((rd_T42 l0 x12_1).f1)) := ⟨h1_⟩
                 have n2_ : Aside0 (Kd.R (Kd.int .i64) 2 w17 w.heap.size (fun k_ => (w.heap.size ≤ k_)) v236 y235) := ⟨h2_⟩
                 have n3_ : Aside0 (Kd.V k42 42 w17 w.heap.size (fun k_ => (P0_ k_ ∨ w.heap.size ≤ k_) ∧ oB v236 k_ ∧ oB (.slice Ao12 x7_1.length co12) k_ ∧ k_ ≠ gb234) (.slice (some ad233) l0.length c0) l0) := ⟨h3_⟩
                 have n4_ : Aside0 (Kd.S k42 42 w17 w.heap.size (fun k_ => (w.heap.size ≤ k_) ∧ oB v236 k_ ∧ k_ ≠ gb234) (.slice Ao12 x7_1.length co12) x7_1) := ⟨h4_⟩
                 have n5_ : Aside0 (w17.heap[gb234]? = some (.cells #[.slice A233_0 ((rd_T42 l0 x12_1).f0).length c233_0, .slice A233_1 ((rd_T42 l0 x12_1).f1).length c233_1] 42 (0, 0))) := ⟨h5_⟩
                 have n6_ : Aside0 (Below w.heap.size w w17) := ⟨h6_⟩
                 clear HO_7 HO_10 HL233_0 HL233_1 BK234 HB h0_ h1_ h2_ h3_ h4_ h5_ h6_; have HL233_0 := n0_; have HL233_1 := n1_; have HO237 := n2_; have HO_10 := n3_; have HO_7 := n4_; have BK234 := n5_; have HB := n6_; clear n0_ n1_ n2_ n3_ n4_ n5_ n6_
                 have hHeld : w17.cell? ⟨gb234, 0, none⟩ = some (.slice A233_0 ((rd_T42 l0 x12_1).f0).length c233_0) ∧ w17.cell? ⟨gb234, 1, none⟩ = some (.slice A233_1 ((rd_T42 l0 x12_1).f1).length c233_1) := hS_
                 obtain ⟨Ao18, co18, eo18⟩ := Kd.R_slice HO237.out
                 (first | subst eo18 | (injection eo18 with f1_ f2_ f3_; have f4_ := f1_.symm; have f5_ := f3_.symm; clear f1_ f2_ f3_; subst f4_; subst f5_))
                 refine norm_ (a' := ?_) ?_ ?_
                 rotate_left
                 · simp only [putAll, Act.put, zH, zI, zJ]
                   rfl
                 refine two_ (i := 5) (j := 8) (Ni := some 21) (Nj := some 24) #[true, true, true, true, true, true, false, true, false, true, true, false, false, false, false, false, false] #[true, true, true, true, true, false, false, true, true, true, true, false, false, false, false, false, false] rfl rfl rfl rfl (two_of HT_.out (by kernel_rfl)) (by decide) (by decide) (fun K hK => ?_) (fun K hK => ?_)
                 · skip
                   refine Kd.N_lit_step (Kd.slice 2 (Kd.int .i64)) _ 36 ?hg (N' := 21) ?hd (xs := ([y235, (rd_T42 l0 x12_1).f0] : List (List Int))) (inner := [.slice Ao18 y235.length co18, .slice A233_0 ((rd_T42 l0 x12_1).f0).length c233_0]) (ok := (fun k_ => (P0_ k_ ∨ w.heap.size ≤ k_) ∧ oB (.slice Ao12 x7_1.length co12) k_ ∧ k_ ≠ gb234)) (okp := (fun k_ => (P0_ k_ ∨ w.heap.size ≤ k_) ∧ oB (.slice Ao12 x7_1.length co12) k_ ∧ k_ ≠ gb234)) ?hr ?hp (fun _ hk => hk) ((show ∀ k_, w17.heap.size ≤ k_ → (fun k_ => (P0_ k_ ∨ w.heap.size ≤ k_) ∧ oB (.slice Ao12 x7_1.length co12) k_ ∧ k_ ≠ gb234) k_ from fun k_ hk => ⟨(.inr (Nat.le_trans (below_size (kB HB)) hk)), Kd.fresh' (Kd.S_lt (kS HO_7)) k_ hk, Kd.freshB (g := gb234) (o := .cells #[.slice A233_0 ((rd_T42 l0 x12_1).f0).length c233_0, .slice A233_1 ((rd_T42 l0 x12_1).f1).length c233_1] 42 (0, 0)) (kM BK234) k_ hk⟩) _ (Nat.le_refl _)) (Below.refl _ _) (Nat.le_refl _) (by simp) ?_; (case hd => rfl); (case hg => rfl); (case hr => first | (go_simp; done) | (go_simp; rfl)); (case hp => exact (Reps.one (show Kd.FK (Kd.slice 2 (Kd.int .i64)) _ _ y235 [.slice Ao18 y235.length co18] from (Kd.FK_slice_mk (zA (zF (ok' := (fun k_ => (P0_ k_ ∨ w.heap.size ≤ k_) ∧ oB (.slice Ao12 x7_1.length co12) k_ ∧ k_ ≠ gb234)) (Kd.R_types (Kd.R_apart' (HO237.out) (Kd.S_typed HO_7.out) (by decide)) BK234.out (by decide)) (fun k_ hk => ⟨(.inr (hk.1.1)), ⟨hk.1.2, hk.2⟩⟩))).2.1 (Kd.R_F (zF (ok' := (fun k_ => (P0_ k_ ∨ w.heap.size ≤ k_) ∧ oB (.slice Ao12 x7_1.length co12) k_ ∧ k_ ≠ gb234)) (Kd.R_types (Kd.R_apart' (HO237.out) (Kd.S_typed HO_7.out) (by decide)) BK234.out (by decide)) (fun k_ hk => ⟨(.inr (hk.1.1)), ⟨hk.1.2, hk.2⟩⟩))))) (Reps.one (show Kd.FK (Kd.slice 2 (Kd.int .i64)) _ _ ((rd_T42 l0 x12_1).f0) [.slice A233_0 ((rd_T42 l0 x12_1).f0).length c233_0] from (Kd.FK_slice_mk (Kd.V_reads' (Kd.V_mono (ok' := (fun k_ => (P0_ k_ ∨ w.heap.size ≤ k_) ∧ oB (.slice Ao12 x7_1.length co12) k_ ∧ k_ ≠ gb234)) (HL233_0.out) (fun k_ hk => ⟨hk.1, ⟨hk.2.2.1, hk.2.2.2⟩⟩))).2.1 (Kd.V_F (Kd.V_mono (ok' := (fun k_ => (P0_ k_ ∨ w.heap.size ≤ k_) ∧ oB (.slice Ao12 x7_1.length co12) k_ ∧ k_ ≠ gb234)) (HL233_0.out) (fun k_ hk => ⟨hk.1, ⟨hk.2.2.1, hk.2.2.2⟩⟩))))) (Reps.none _ _))))
                   intro v239 w19 ho20 hb hg_ hnew_
                   clear hg_ hnew_
                   (first | rw [← Ny238.out] at ho20 | (simp only [Int.reduceToNat] at ho20; rw [← Ny238.out] at ho20))
                   have n0_ := yD (Kd.S_below (kS HO_7) hb)
                   have n1_ := yD (Kd.V_elder' (kU HO_10) (Kd.N_base ho20) hb)
                   have n2_ := yD (Kd.V_elder' (kU HL233_0) (Kd.N_base ho20) hb)
                   have n3_ := yD (Kd.V_elder' (kU HL233_1) (Kd.N_base ho20) hb)
                   have n4_ := yD (Kd.N_lower ho20 (below_size (kB HB)))
                   have n5_ := yD (zB (kN BK234) hb)
                   have n6_ := yD (zC (kB HB) hb)
                   clear HO_7 HO_10 HL233_0 HL233_1 BK234 HB HO237; have HO_7 := n0_; have HO_10 := n1_; have HL233_0 := n2_; have HL233_1 := n3_; have HO240 := n4_; have BK234 := n5_; have HB := n6_; clear n0_ n1_ n2_ n3_ n4_ n5_ n6_ hb ho20
                   refine hK.out _ _ ⟨(yG BK234.out 0).trans rfl, (yG BK234.out 1).trans rfl⟩ (fun hHeld => ?_)
                   clear hK K
                   refine norm_ (a' := ?_) ?_ ?_
                   rotate_left
                   · show Act.put _ (some 21) _ = _
                     simp only [Act.put, zH, zI, zJ, i64_w, i32_w]
                     rfl
                   exact norm_ (by first | (simp only [putAll, Act.put, zH, zI, zJ]; done) | (simp only [putAll, Act.put, zH, zI, zJ]; rfl)) (hJ2_5 (.slice Ao18 y235.length co18, v239) _ ⟨hHeld, (mV HL233_0 (fun _ hk => ⟨hk.1.1, ⟨hk.2, ⟨hk.1.2.2.1, hk.1.2.2.2⟩⟩⟩)), (mV HL233_1 (fun _ hk => ⟨hk.1.1, ⟨hk.2, ⟨hk.1.2.2.1, hk.1.2.2.2⟩⟩⟩)), (kQ HO240), (mV HO_10 (fun _ hk => ⟨hk.1.1, ⟨hk.2, ⟨hk.1.2.2.1, hk.1.2.2.2⟩⟩⟩)), (mS HO_7 (fun _ hk => ⟨hk.1, hk.2.2⟩)), (kM BK234), (kB HB)⟩)
                 ·
                  skip
                  refine Kd.R_lit_step (Kd.int .i64) _ 2 ?hg (N := 24) ?hd (xs := ([a2] : List Int)) (inner := [.int .i64 a2]) (ok := fun _ => True) (okp := fun _ => True) ?hr ?hp (fun _ hk => hk) trivial (Below.refl _ _) (Nat.le_refl _) (by simp) ?_; (case hd => rfl); (case hg => rfl); (case hr => first | (go_simp; done) | (go_simp; rfl)); (case hp => exact (Reps.one (show Kd.M (Kd.int .i64) _ _ _ a2 [.int .i64 a2] from rfl) (Reps.none _ _)))
                  intro v245 w18 ho19 hb hg_ hnew_
                  clear hg_ hnew_
                  (first | rw [← Ny244.out] at ho19 | (simp only [Int.reduceToNat] at ho19; rw [← Ny244.out] at ho19))
                  have n0_ := yD (Kd.S_elder' (kS HO_7) (yH ho19) hb)
                  have n1_ := yD (Kd.V_elder' (kU HO_10) (yH ho19) hb)
                  have n2_ := yD (Kd.V_elder' (kU HL233_0) (yH ho19) hb)
                  have n3_ := yD (Kd.V_elder' (kU HL233_1) (yH ho19) hb)
                  have n4_ := yD (Kd.R_elder' (kA HO237) (yH ho19) hb)
                  have n5_ := yD (yZ (yJ (Kd.R_newM (M := fun k_ => (w.heap.size ≤ k_)) ho19 (below_size (kB HB)) (fun k_ h_ => h_)) (yK (kA HO237))) (below_size (kB HB)))
                  have n6_ := yD (zB (kN BK234) hb)
                  have n7_ := yD (zC (kB HB) hb)
                  clear HO_7 HO_10 HL233_0 HL233_1 HO237 BK234 HB; have HO_7 := n0_; have HO_10 := n1_; have HL233_0 := n2_; have HL233_1 := n3_; have HO237 := n4_; have HO246 := n5_; have BK234 := n6_; have HB := n7_; clear n0_ n1_ n2_ n3_ n4_ n5_ n6_ n7_ hb ho19
                  refine hK.out _ _ ⟨(yG BK234.out 0).trans rfl, (yG BK234.out 1).trans rfl⟩ (fun hHeld => ?_)
                  clear hK K
                  refine norm_ (a' := ?_) ?_ ?_
                  rotate_left
                  · show Act.put _ (some 24) _ = _
                    simp only [Act.put, zH, zI, zJ, i64_w, i32_w]
                    rfl
                  exact norm_ (by first | (simp only [putAll, Act.put, zH, zI, zJ]; done) | (simp only [putAll, Act.put, zH, zI, zJ]; rfl)) (hJ2_8 ((.slice Ao18 y235.length co18), v245) _ ⟨hHeld, (mV HL233_0 (fun _ hk => ⟨hk.1.1, ⟨hk.1.2.1, ⟨hk.2, ⟨hk.1.2.2.1, hk.1.2.2.2⟩⟩⟩⟩)), (mV HL233_1 (fun _ hk => ⟨hk.1.1, ⟨hk.1.2.1, ⟨hk.2, ⟨hk.1.2.2.1, hk.1.2.2.2⟩⟩⟩⟩)), (kA HO237), (mR HO246 (fun _ hk => ⟨hk.1.1, hk.2⟩)), (mV HO_10 (fun _ hk => ⟨hk.1.1, ⟨hk.1.2.1, ⟨hk.2, ⟨hk.1.2.2.1, hk.1.2.2.2⟩⟩⟩⟩)), (mS HO_7 (fun _ hk => ⟨hk.1.1, ⟨hk.1.2.1, ⟨hk.2, hk.1.2.2⟩⟩⟩)), (kM BK234), (kB HB)⟩)
               ·
                skip
                rintro ⟨v245, v248⟩ w20 ⟨hS_, h0_, h1_, h2_, h3_, h4_, h5_, h6_⟩
                have n0_ : Aside0 (Kd.V (Kd.int .i64) 2 w20 w.heap.size (fun k_ => (P0_ k_ ∨ w.heap.size ≤ k_) ∧ oB v248 k_ ∧ oB (.slice Ao12 x7_1.length co12) k_ ∧ k_ ≠ gb234) (.slice A233_0 ((rd_T42 l0 x12_1).f0).length c233_0) ((rd_T42 l0 x12_1).f0)) := ⟨h0_⟩
                have n1_ : Aside0 (Kd.V (Kd.int .i64) 2 w20 w.heap.size (fun k_ => (P0_ k_ ∨ w.heap.size ≤ k_) ∧ oB v248 k_ ∧ oB (.slice Ao12 x7_1.length co12) k_ ∧ k_ ≠ gb234) (.slice A233_1 ((rd_T42 l0 x12_1).f1).length c233_1) ((rd_T42 l0 x12_1).f1)) := ⟨h1_⟩
                have n2_ : Aside0 (Kd.N (Kd.slice 2 (Kd.int .i64)) 36 w20 w.heap.size (fun k_ => (P0_ k_ ∨ w.heap.size ≤ k_) ∧ oB (.slice Ao12 x7_1.length co12) k_ ∧ k_ ≠ gb234) v248 y247) := ⟨h2_⟩
                have n3_ : Aside0 (Kd.V k42 42 w20 w.heap.size (fun k_ => (P0_ k_ ∨ w.heap.size ≤ k_) ∧ oB v248 k_ ∧ oB (.slice Ao12 x7_1.length co12) k_ ∧ k_ ≠ gb234) (.slice (some ad233) l0.length c0) l0) := ⟨h3_⟩
                have n4_ : Aside0 (Kd.S k42 42 w20 w.heap.size (fun k_ => (w.heap.size ≤ k_) ∧ k_ ≠ gb234) (.slice Ao12 x7_1.length co12) x7_1) := ⟨h4_⟩
                have n5_ : Aside0 (w20.heap[gb234]? = some (.cells #[.slice A233_0 ((rd_T42 l0 x12_1).f0).length c233_0, .slice A233_1 ((rd_T42 l0 x12_1).f1).length c233_1] 42 (0, 0))) := ⟨h5_⟩
                have n6_ : Aside0 (Below w.heap.size w w20) := ⟨h6_⟩
                clear HO_7 HO_10 HL233_0 HL233_1 BK234 HB h0_ h1_ h2_ h3_ h4_ h5_ h6_; have HL233_0 := n0_; have HL233_1 := n1_; have HO249 := n2_; have HO_10 := n3_; have HO_7 := n4_; have BK234 := n5_; have HB := n6_; clear n0_ n1_ n2_ n3_ n4_ n5_ n6_
                have hHeld : w20.cell? ⟨gb234, 0, none⟩ = some (.slice A233_0 ((rd_T42 l0 x12_1).f0).length c233_0) ∧ w20.cell? ⟨gb234, 1, none⟩ = some (.slice A233_1 ((rd_T42 l0 x12_1).f1).length c233_1) := hS_
                refine norm_ (a' := ?_) ?_ ?_
                rotate_left
                · simp only [putAll, Act.put, zH, zI, zJ]
                  rfl
                refine one_ (i := 2) (N := some 18) (bz 17 3999) rfl rfl (one_of HT_.out (by kernel_rfl)) (by decide) (fun K hK => ?_)
                refine Kd.R_lit_step (Kd.int .i64) _ 2 ?hg (N := 18) ?hd (xs := ([a1] : List Int)) (inner := [.int .i64 a1]) (ok := fun _ => True) (okp := fun _ => True) ?hr ?hp (fun _ hk => hk) trivial (Below.refl _ _) (Nat.le_refl _) (by simp) ?_; (case hd => rfl); (case hg => rfl); (case hr => first | (go_simp; done) | (go_simp; rfl)); (case hp => exact (Reps.one (show Kd.M (Kd.int .i64) _ _ _ a1 [.int .i64 a1] from rfl) (Reps.none _ _)))
                intro v236 w21 ho22 hb hg_ hnew_
                clear hg_ hnew_
                (first | rw [← Ny235.out] at ho22 | (simp only [Int.reduceToNat] at ho22; rw [← Ny235.out] at ho22))
                have n0_ := yD (Kd.S_elder' (kS HO_7) (yH ho22) hb)
                have n1_ := yD (Kd.V_elder' (kU HO_10) (yH ho22) hb)
                have n2_ := yD (Kd.V_elder' (kU HL233_0) (yH ho22) hb)
                have n3_ := yD (Kd.V_elder' (kU HL233_1) (yH ho22) hb)
                have n4_ := yD (Kd.N_elder' (kQ HO249) (yH ho22) hb)
                have n5_ := yD (yZ (Kd.R_newM (M := fun k_ => (w.heap.size ≤ k_)) ho22 (below_size (kB HB)) (fun k_ h_ => h_)) (below_size (kB HB)))
                have n6_ := yD (zB (kN BK234) hb)
                have n7_ := yD (zC (kB HB) hb)
                clear HO_7 HO_10 HL233_0 HL233_1 HO249 BK234 HB; have HO_7 := n0_; have HO_10 := n1_; have HL233_0 := n2_; have HL233_1 := n3_; have HO249 := n4_; have HO237 := n5_; have BK234 := n6_; have HB := n7_; clear n0_ n1_ n2_ n3_ n4_ n5_ n6_ n7_ hb ho22
                refine hK.out _ _ ⟨(yG BK234.out 0).trans rfl, (yG BK234.out 1).trans rfl⟩ (fun hHeld => ?_)
                clear hK K
                refine norm_ (a' := ?_) ?_ ?_
                rotate_left
                · show Act.put _ (some 18) _ = _
                  simp only [Act.put, zH, zI, zJ, i64_w, i32_w]
                  rfl
                exact norm_ (by first | (simp only [putAll, Act.put, zH, zI, zJ]; done) | (simp only [putAll, Act.put, zH, zI, zJ]; rfl)) (hJ2_8_11 (v236, v245, v248) _ ⟨hHeld, (mV HL233_0 (fun _ hk => ⟨hk.1.1, ⟨hk.2, ⟨hk.1.2.1, ⟨hk.1.2.2.1, hk.1.2.2.2⟩⟩⟩⟩)), (mV HL233_1 (fun _ hk => ⟨hk.1.1, ⟨hk.2, ⟨hk.1.2.1, ⟨hk.1.2.2.1, hk.1.2.2.2⟩⟩⟩⟩)), (mR HO237 (fun _ hk => hk.1)), (mN HO249 (fun _ hk => ⟨hk.1.1, ⟨hk.2, ⟨hk.1.2.1, hk.1.2.2⟩⟩⟩)), (mV HO_10 (fun _ hk => ⟨hk.1.1, ⟨hk.2, ⟨hk.1.2.1, ⟨hk.1.2.2.1, hk.1.2.2.2⟩⟩⟩⟩)), (mS HO_7 (fun _ hk => ⟨hk.1.1, ⟨hk.2, hk.1.2⟩⟩)), (kM BK234), (kB HB)⟩)
              ·
               skip
               rintro ⟨v236, v245⟩ w19 ⟨hS_, h0_, h1_, h2_, h3_, h4_, h5_, h6_, h7_⟩
               have n0_ : Aside0 (Kd.V (Kd.int .i64) 2 w19 w.heap.size (fun k_ => (P0_ k_ ∨ w.heap.size ≤ k_) ∧ oB v236 k_ ∧ oB v245 k_ ∧ oB (.slice Ao12 x7_1.length co12) k_ ∧ k_ ≠ gb234) (.slice A233_0 ((rd_T42 l0 x12_1).f0).length c233_0) ((rd_T42 l0 x12_1).f0)) := ⟨h0_⟩
               have n1_ : Aside0 (Kd.V (Kd.int .i64) 2 w19 w.heap.size (fun k_ => (P0_ k_ ∨ w.heap.size ≤ k_) ∧ oB v236 k_ ∧ oB v245 k_ ∧ oB (.slice Ao12 x7_1.length co12) k_ ∧ k_ ≠ gb234) (.slice A233_1 ((rd_T42 l0 x12_1).f1).length c233_1) ((rd_T42 l0 x12_1).f1)) := ⟨h1_⟩
               have n2_ : Aside0 (Kd.R (Kd.int .i64) 2 w19 w.heap.size (fun k_ => (w.heap.size ≤ k_) ∧ oB v245 k_) v236 y235) := ⟨h2_⟩
               have n3_ : Aside0 (Kd.R (Kd.int .i64) 2 w19 w.heap.size (fun k_ => (w.heap.size ≤ k_) ∧ oB v236 k_) v245 y244) := ⟨h3_⟩
               have n4_ : Aside0 (Kd.V k42 42 w19 w.heap.size (fun k_ => (P0_ k_ ∨ w.heap.size ≤ k_) ∧ oB v236 k_ ∧ oB v245 k_ ∧ oB (.slice Ao12 x7_1.length co12) k_ ∧ k_ ≠ gb234) (.slice (some ad233) l0.length c0) l0) := ⟨h4_⟩
               have n5_ : Aside0 (Kd.S k42 42 w19 w.heap.size (fun k_ => (w.heap.size ≤ k_) ∧ oB v236 k_ ∧ oB v245 k_ ∧ k_ ≠ gb234) (.slice Ao12 x7_1.length co12) x7_1) := ⟨h5_⟩
               have n6_ : Aside0 (w19.heap[gb234]? = some (.cells #[.slice A233_0 ((rd_T42 l0 x12_1).f0).length c233_0, .slice A233_1 ((rd_T42 l0 x12_1).f1).length c233_1] 42 (0, 0))) := ⟨h6_⟩
               have n7_ : Aside0 (Below w.heap.size w w19) := ⟨h7_⟩
               clear HO_7 HO_10 HL233_0 HL233_1 BK234 HB h0_ h1_ h2_ h3_ h4_ h5_ h6_ h7_; have HL233_0 := n0_; have HL233_1 := n1_; have HO237 := n2_; have HO246 := n3_; have HO_10 := n4_; have HO_7 := n5_; have BK234 := n6_; have HB := n7_; clear n0_ n1_ n2_ n3_ n4_ n5_ n6_ n7_
               have hHeld : w19.cell? ⟨gb234, 0, none⟩ = some (.slice A233_0 ((rd_T42 l0 x12_1).f0).length c233_0) ∧ w19.cell? ⟨gb234, 1, none⟩ = some (.slice A233_1 ((rd_T42 l0 x12_1).f1).length c233_1) := hS_
               obtain ⟨Ao20, co20, eo20⟩ := Kd.R_slice HO237.out
               (first | subst eo20 | (injection eo20 with f1_ f2_ f3_; have f4_ := f1_.symm; have f5_ := f3_.symm; clear f1_ f2_ f3_; subst f4_; subst f5_))
               refine norm_ (a' := ?_) ?_ ?_
               rotate_left
               · simp only [putAll, Act.put, zH, zI, zJ]
                 rfl
               refine two_ (i := 5) (j := 11) (Ni := some 21) (Nj := some 27) #[true, true, true, true, true, true, false, true, true, true, true, false, false, false, false, false, false] #[true, true, true, true, true, false, false, true, true, true, true, true, false, false, false, false, false] rfl rfl rfl rfl (two_of HT_.out (by kernel_rfl)) (by decide) (by decide) (fun K hK => ?_) (fun K hK => ?_)
               ·
                skip
                refine Kd.N_lit_step (Kd.slice 2 (Kd.int .i64)) _ 36 ?hg (N' := 21) ?hd (xs := ([y235, (rd_T42 l0 x12_1).f0] : List (List Int))) (inner := [.slice Ao20 y235.length co20, .slice A233_0 ((rd_T42 l0 x12_1).f0).length c233_0]) (ok := (fun k_ => (P0_ k_ ∨ w.heap.size ≤ k_) ∧ oB (.slice Ao12 x7_1.length co12) k_ ∧ oB v245 k_ ∧ k_ ≠ gb234)) (okp := (fun k_ => (P0_ k_ ∨ w.heap.size ≤ k_) ∧ oB (.slice Ao12 x7_1.length co12) k_ ∧ oB v245 k_ ∧ k_ ≠ gb234)) ?hr ?hp (fun _ hk => hk) ((show ∀ k_, w19.heap.size ≤ k_ → (fun k_ => (P0_ k_ ∨ w.heap.size ≤ k_) ∧ oB (.slice Ao12 x7_1.length co12) k_ ∧ oB v245 k_ ∧ k_ ≠ gb234) k_ from fun k_ hk => ⟨(.inr (Nat.le_trans (below_size (kB HB)) hk)), Kd.fresh' (Kd.S_lt (kS HO_7)) k_ hk, Kd.fresh' (yK (kA HO246)) k_ hk, Kd.freshB (g := gb234) (o := .cells #[.slice A233_0 ((rd_T42 l0 x12_1).f0).length c233_0, .slice A233_1 ((rd_T42 l0 x12_1).f1).length c233_1] 42 (0, 0)) (kM BK234) k_ hk⟩) _ (Nat.le_refl _)) (Below.refl _ _) (Nat.le_refl _) (by simp) ?_; (case hd => rfl); (case hg => rfl); (case hr => first | (go_simp; done) | (go_simp; rfl)); (case hp => exact (Reps.one (show Kd.FK (Kd.slice 2 (Kd.int .i64)) _ _ y235 [.slice Ao20 y235.length co20] from (Kd.FK_slice_mk (zA (zF (ok' := (fun k_ => (P0_ k_ ∨ w.heap.size ≤ k_) ∧ oB (.slice Ao12 x7_1.length co12) k_ ∧ oB v245 k_ ∧ k_ ≠ gb234)) (Kd.R_types (Kd.R_apart' (HO237.out) (Kd.S_typed HO_7.out) (by decide)) BK234.out (by decide)) (fun k_ hk => ⟨(.inr (hk.1.1.1)), ⟨hk.1.2, ⟨hk.1.1.2, hk.2⟩⟩⟩))).2.1 (Kd.R_F (zF (ok' := (fun k_ => (P0_ k_ ∨ w.heap.size ≤ k_) ∧ oB (.slice Ao12 x7_1.length co12) k_ ∧ oB v245 k_ ∧ k_ ≠ gb234)) (Kd.R_types (Kd.R_apart' (HO237.out) (Kd.S_typed HO_7.out) (by decide)) BK234.out (by decide)) (fun k_ hk => ⟨(.inr (hk.1.1.1)), ⟨hk.1.2, ⟨hk.1.1.2, hk.2⟩⟩⟩))))) (Reps.one (show Kd.FK (Kd.slice 2 (Kd.int .i64)) _ _ ((rd_T42 l0 x12_1).f0) [.slice A233_0 ((rd_T42 l0 x12_1).f0).length c233_0] from (Kd.FK_slice_mk (Kd.V_reads' (Kd.V_mono (ok' := (fun k_ => (P0_ k_ ∨ w.heap.size ≤ k_) ∧ oB (.slice Ao12 x7_1.length co12) k_ ∧ oB v245 k_ ∧ k_ ≠ gb234)) (HL233_0.out) (fun k_ hk => ⟨hk.1, ⟨hk.2.2.2.1, ⟨hk.2.2.1, hk.2.2.2.2⟩⟩⟩))).2.1 (Kd.V_F (Kd.V_mono (ok' := (fun k_ => (P0_ k_ ∨ w.heap.size ≤ k_) ∧ oB (.slice Ao12 x7_1.length co12) k_ ∧ oB v245 k_ ∧ k_ ≠ gb234)) (HL233_0.out) (fun k_ hk => ⟨hk.1, ⟨hk.2.2.2.1, ⟨hk.2.2.1, hk.2.2.2.2⟩⟩⟩))))) (Reps.none _ _))))
                intro v239 w21 ho22 hb hg_ hnew_
                clear hg_ hnew_
                (first | rw [← Ny238.out] at ho22 | (simp only [Int.reduceToNat] at ho22; rw [← Ny238.out] at ho22))
                have n0_ := yD (Kd.S_below (kS HO_7) hb)
                have n1_ := yD (Kd.V_elder' (kU HO_10) (Kd.N_base ho22) hb)
                have n2_ := yD (Kd.V_elder' (kU HL233_0) (Kd.N_base ho22) hb)
                have n3_ := yD (Kd.V_elder' (kU HL233_1) (Kd.N_base ho22) hb)
                have n4_ := yD (zE (kA HO246) hb)
                have n5_ := yD (Kd.N_lower ho22 (below_size (kB HB)))
                have n6_ := yD (zB (kN BK234) hb)
                have n7_ := yD (zC (kB HB) hb)
                clear HO_7 HO_10 HL233_0 HL233_1 HO246 BK234 HB HO237; have HO_7 := n0_; have HO_10 := n1_; have HL233_0 := n2_; have HL233_1 := n3_; have HO246 := n4_; have HO240 := n5_; have BK234 := n6_; have HB := n7_; clear n0_ n1_ n2_ n3_ n4_ n5_ n6_ n7_ hb ho22
                refine hK.out _ _ ⟨(yG BK234.out 0).trans rfl, (yG BK234.out 1).trans rfl⟩ (fun hHeld => ?_)
                clear hK K
                refine norm_ (a' := ?_) ?_ ?_
                rotate_left
                · show Act.put _ (some 21) _ = _
                  simp only [Act.put, zH, zI, zJ, i64_w, i32_w]
                  rfl
                exact norm_ (by first | (simp only [putAll, Act.put, zH, zI, zJ]; done) | (simp only [putAll, Act.put, zH, zI, zJ]; rfl)) (hJ2_5_8 (.slice Ao20 y235.length co20, v239, v245) _ ⟨hHeld, (mV HL233_0 (fun _ hk => ⟨hk.1.1, ⟨hk.2, ⟨hk.1.2.2.1, ⟨hk.1.2.2.2.1, hk.1.2.2.2.2⟩⟩⟩⟩)), (mV HL233_1 (fun _ hk => ⟨hk.1.1, ⟨hk.2, ⟨hk.1.2.2.1, ⟨hk.1.2.2.2.1, hk.1.2.2.2.2⟩⟩⟩⟩)), (mN HO240 (fun _ hk => ⟨hk.1, ⟨hk.2.2.1, ⟨hk.2.1, hk.2.2.2⟩⟩⟩)), (mR HO246 (fun _ hk => hk.1)), (mV HO_10 (fun _ hk => ⟨hk.1.1, ⟨hk.2, ⟨hk.1.2.2.1, ⟨hk.1.2.2.2.1, hk.1.2.2.2.2⟩⟩⟩⟩)), (mS HO_7 (fun _ hk => ⟨hk.1, ⟨hk.2.2.1, hk.2.2.2⟩⟩)), (kM BK234), (kB HB)⟩)
               ·
                skip
                obtain ⟨Ao20b, co20b, eo20b⟩ := Kd.R_slice HO246.out
                subst eo20b
                refine Kd.N_lit_step (Kd.slice 2 (Kd.int .i64)) _ 36 ?hg (N' := 27) ?hd (xs := ([y244, (rd_T42 l0 x12_1).f1] : List (List Int))) (inner := [.slice Ao20b y244.length co20b, .slice A233_1 ((rd_T42 l0 x12_1).f1).length c233_1]) (ok := (fun k_ => (P0_ k_ ∨ w.heap.size ≤ k_) ∧ oB (.slice Ao12 x7_1.length co12) k_ ∧ oB (.slice Ao20 y235.length co20) k_ ∧ k_ ≠ gb234)) (okp := (fun k_ => (P0_ k_ ∨ w.heap.size ≤ k_) ∧ oB (.slice Ao12 x7_1.length co12) k_ ∧ oB (.slice Ao20 y235.length co20) k_ ∧ k_ ≠ gb234)) ?hr ?hp (fun _ hk => hk) ((show ∀ k_, w19.heap.size ≤ k_ → (fun k_ => (P0_ k_ ∨ w.heap.size ≤ k_) ∧ oB (.slice Ao12 x7_1.length co12) k_ ∧ oB (.slice Ao20 y235.length co20) k_ ∧ k_ ≠ gb234) k_ from fun k_ hk => ⟨(.inr (Nat.le_trans (below_size (kB HB)) hk)), Kd.fresh' (Kd.S_lt (kS HO_7)) k_ hk, Kd.fresh' (yK (kA HO237)) k_ hk, Kd.freshB (g := gb234) (o := .cells #[.slice A233_0 ((rd_T42 l0 x12_1).f0).length c233_0, .slice A233_1 ((rd_T42 l0 x12_1).f1).length c233_1] 42 (0, 0)) (kM BK234) k_ hk⟩) _ (Nat.le_refl _)) (Below.refl _ _) (Nat.le_refl _) (by simp) ?_; (case hd => rfl); (case hg => rfl); (case hr => first | (go_simp; done) | (go_simp; rfl)); (case hp => exact (Reps.one (show Kd.FK (Kd.slice 2 (Kd.int .i64)) _ _ y244 [.slice Ao20b y244.length co20b] from (Kd.FK_slice_mk (zA (zF (ok' := (fun k_ => (P0_ k_ ∨ w.heap.size ≤ k_) ∧ oB (.slice Ao12 x7_1.length co12) k_ ∧ oB (.slice Ao20 y235.length co20) k_ ∧ k_ ≠ gb234)) (Kd.R_types (Kd.R_apart' (HO246.out) (Kd.S_typed HO_7.out) (by decide)) BK234.out (by decide)) (fun k_ hk => ⟨(.inr (hk.1.1.1)), ⟨hk.1.2, ⟨hk.1.1.2, hk.2⟩⟩⟩))).2.1 (Kd.R_F (zF (ok' := (fun k_ => (P0_ k_ ∨ w.heap.size ≤ k_) ∧ oB (.slice Ao12 x7_1.length co12) k_ ∧ oB (.slice Ao20 y235.length co20) k_ ∧ k_ ≠ gb234)) (Kd.R_types (Kd.R_apart' (HO246.out) (Kd.S_typed HO_7.out) (by decide)) BK234.out (by decide)) (fun k_ hk => ⟨(.inr (hk.1.1.1)), ⟨hk.1.2, ⟨hk.1.1.2, hk.2⟩⟩⟩))))) (Reps.one (show Kd.FK (Kd.slice 2 (Kd.int .i64)) _ _ ((rd_T42 l0 x12_1).f1) [.slice A233_1 ((rd_T42 l0 x12_1).f1).length c233_1] from (Kd.FK_slice_mk (Kd.V_reads' (Kd.V_mono (ok' := (fun k_ => (P0_ k_ ∨ w.heap.size ≤ k_) ∧ oB (.slice Ao12 x7_1.length co12) k_ ∧ oB (.slice Ao20 y235.length co20) k_ ∧ k_ ≠ gb234)) (HL233_1.out) (fun k_ hk => ⟨hk.1, ⟨hk.2.2.2.1, ⟨hk.2.1, hk.2.2.2.2⟩⟩⟩))).2.1 (Kd.V_F (Kd.V_mono (ok' := (fun k_ => (P0_ k_ ∨ w.heap.size ≤ k_) ∧ oB (.slice Ao12 x7_1.length co12) k_ ∧ oB (.slice Ao20 y235.length co20) k_ ∧ k_ ≠ gb234)) (HL233_1.out) (fun k_ hk => ⟨hk.1, ⟨hk.2.2.2.1, ⟨hk.2.1, hk.2.2.2.2⟩⟩⟩))))) (Reps.none _ _))))
                intro v248 w21 ho22 hb hg_ hnew_
                clear hg_ hnew_
                (first | rw [← Ny247.out] at ho22 | (simp only [Int.reduceToNat] at ho22; rw [← Ny247.out] at ho22))
                have n0_ := yD (Kd.S_below (kS HO_7) hb)
                have n1_ := yD (Kd.V_elder' (kU HO_10) (Kd.N_base ho22) hb)
                have n2_ := yD (Kd.V_elder' (kU HL233_0) (Kd.N_base ho22) hb)
                have n3_ := yD (Kd.V_elder' (kU HL233_1) (Kd.N_base ho22) hb)
                have n4_ := yD (zE (kA HO237) hb)
                have n5_ := yD (Kd.N_lower ho22 (below_size (kB HB)))
                have n6_ := yD (zB (kN BK234) hb)
                have n7_ := yD (zC (kB HB) hb)
                clear HO_7 HO_10 HL233_0 HL233_1 HO237 BK234 HB HO246; have HO_7 := n0_; have HO_10 := n1_; have HL233_0 := n2_; have HL233_1 := n3_; have HO237 := n4_; have HO249 := n5_; have BK234 := n6_; have HB := n7_; clear n0_ n1_ n2_ n3_ n4_ n5_ n6_ n7_ hb ho22
                refine hK.out _ _ ⟨(yG BK234.out 0).trans rfl, (yG BK234.out 1).trans rfl⟩ (fun hHeld => ?_)
                clear hK K
                refine norm_ (a' := ?_) ?_ ?_
                rotate_left
                · show Act.put _ (some 27) _ = _
                  simp only [Act.put, zH, zI, zJ, i64_w, i32_w]
                  rfl
                exact norm_ (by first | (simp only [putAll, Act.put, zH, zI, zJ]; done) | (simp only [putAll, Act.put, zH, zI, zJ]; rfl)) (hJ2_8_11 ((.slice Ao20 y235.length co20), .slice Ao20b y244.length co20b, v248) _ ⟨hHeld, (mV HL233_0 (fun _ hk => ⟨hk.1.1, ⟨hk.1.2.1, ⟨hk.2, ⟨hk.1.2.2.2.1, hk.1.2.2.2.2⟩⟩⟩⟩)), (mV HL233_1 (fun _ hk => ⟨hk.1.1, ⟨hk.1.2.1, ⟨hk.2, ⟨hk.1.2.2.2.1, hk.1.2.2.2.2⟩⟩⟩⟩)), (mR HO237 (fun _ hk => hk.1)), (mN HO249 (fun _ hk => ⟨hk.1, ⟨hk.2.2.1, ⟨hk.2.1, hk.2.2.2⟩⟩⟩)), (mV HO_10 (fun _ hk => ⟨hk.1.1, ⟨hk.1.2.1, ⟨hk.2, ⟨hk.1.2.2.2.1, hk.1.2.2.2.2⟩⟩⟩⟩)), (mS HO_7 (fun _ hk => ⟨hk.1, ⟨hk.2.1, hk.2.2.2⟩⟩)), (kM BK234), (kB HB)⟩)
             ·
              skip
              rintro ⟨v236, v239⟩ w20 ⟨hS_, h0_, h1_, h2_, h3_, h4_, h5_, h6_⟩
              have n0_ : Aside0 (Kd.V (Kd.int .i64) 2 w20 w.heap.size (fun k_ => (P0_ k_ ∨ w.heap.size ≤ k_) ∧ oB v239 k_ ∧ oB (.slice Ao12 x7_1.length co12) k_ ∧ k_ ≠ gb234) (.slice A233_0 ((rd_T42 l0 x12_1).f0).length c233_0) ((rd_T42 l0 x12_1).f0)) := ⟨h0_⟩
              have n1_ : Aside0 (Kd.V (Kd.int .i64) 2 w20 w.heap.size (fun k_ => (P0_ k_ ∨ w.heap.size ≤ k_) ∧ oB v239 k_ ∧ oB (.slice Ao12 x7_1.length co12) k_ ∧ k_ ≠ gb234) (.slice A233_1 ((rd_T42 l0 x12_1).f1).length c233_1) ((rd_T42 l0 x12_1).f1)) := ⟨h1_⟩
              have n2_ : Aside0 (Kd.N (Kd.slice 2 (Kd.int .i64)) 36 w20 w.heap.size (fun k_ => (P0_ k_ ∨ w.heap.size ≤ k_) ∧ oB (.slice Ao12 x7_1.length co12) k_ ∧ k_ ≠ gb234) v239 y238) := ⟨h2_⟩
              have n3_ : Aside0 (Kd.V k42 42 w20 w.heap.size (fun k_ => (P0_ k_ ∨ w.heap.size ≤ k_) ∧ oB v239 k_ ∧ oB (.slice Ao12 x7_1.length co12) k_ ∧ k_ ≠ gb234) (.slice (some ad233) l0.length c0) l0) := ⟨h3_⟩
              have n4_ : Aside0 (Kd.S k42 42 w20 w.heap.size (fun k_ => (w.heap.size ≤ k_) ∧ k_ ≠ gb234) (.slice Ao12 x7_1.length co12) x7_1) := ⟨h4_⟩
              have n5_ : Aside0 (w20.heap[gb234]? = some (.cells #[.slice A233_0 ((rd_T42 l0 x12_1).f0).length c233_0, .slice A233_1 ((rd_T42 l0 x12_1).f1).length c233_1] 42 (0, 0))) := ⟨h5_⟩
              have n6_ : Aside0 (Below w.heap.size w w20) := ⟨h6_⟩
              clear HO_7 HO_10 HL233_0 HL233_1 BK234 HB h0_ h1_ h2_ h3_ h4_ h5_ h6_; have HL233_0 := n0_; have HL233_1 := n1_; have HO240 := n2_; have HO_10 := n3_; have HO_7 := n4_; have BK234 := n5_; have HB := n6_; clear n0_ n1_ n2_ n3_ n4_ n5_ n6_
              have hHeld : w20.cell? ⟨gb234, 0, none⟩ = some (.slice A233_0 ((rd_T42 l0 x12_1).f0).length c233_0) ∧ w20.cell? ⟨gb234, 1, none⟩ = some (.slice A233_1 ((rd_T42 l0 x12_1).f1).length c233_1) := hS_
              obtain ⟨Ao21, co21, eo21⟩ := Kd.N_slice HO240.out
              (first | subst eo21 | (injection eo21 with f1_ f2_ f3_; have f4_ := f1_.symm; have f5_ := f3_.symm; clear f1_ f2_ f3_; subst f4_; subst f5_))
              refine norm_ (a' := ?_) ?_ ?_
              rotate_left
              · simp only [putAll, Act.put, zH, zI, zJ]
                rfl
              refine two_ (i := 6) (j := 8) (Ni := some 22) (Nj := some 24) #[true, true, true, true, true, true, true, true, false, true, true, false, false, false, false, false, false] #[true, true, true, true, true, true, false, true, true, true, true, false, false, false, false, false, false] rfl rfl rfl rfl (two_of HT_.out (by kernel_rfl)) (by decide) (by decide) (fun K hK => ?_) (fun K hK => ?_)
              ·
               skip
               refine goes_ Try.func146 (by kernel_rfl) rfl #[.slice Ao21 y238.length co21] (by rfl) rfl rfl (by (try simp only [zK, zL, zM]); first | done | rfl | (simp only [zN, zO]; rfl)) ?_
               with_reducible refine (slices_Concat_int64_int64.calls k1 _ _ y238 t241 _ ?side1 ?side2 A7.out).mono ?_
               (case side1 => exact kV (Kd.N_reads' HO240.out).2.2)
               (case side2 => exact (Kd.N_reads' HO240.out).2.1)
               rintro e w22 ⟨v242, rfl, ho0, hb⟩
               refine ⟨_, rfl, ?_⟩
               have n0_ := yD (Kd.S_elder' (kS HO_7) (yH ho0) hb)
               have n1_ := yD (Kd.V_elder' (kU HO_10) (yH ho0) hb)
               have n2_ := yD (Kd.V_elder' (kU HL233_0) (yH ho0) hb)
               have n3_ := yD (Kd.V_elder' (kU HL233_1) (yH ho0) hb)
               have n4_ := yD (Kd.N_elder' (kQ HO240) (yH ho0) hb)
               have n5_ := yD (yZ (Kd.R_newM (M := fun k_ => (w.heap.size ≤ k_)) ho0 (below_size (kB HB)) (fun k_ h_ => h_)) (below_size (kB HB)))
               have n6_ := yD (zB (kN BK234) hb)
               have n7_ := yD (zC (kB HB) hb)
               clear HO_7 HO_10 HL233_0 HL233_1 HO240 BK234 HB; have HO_7 := n0_; have HO_10 := n1_; have HL233_0 := n2_; have HL233_1 := n3_; have HO240 := n4_; have HO243 := n5_; have BK234 := n6_; have HB := n7_; clear n0_ n1_ n2_ n3_ n4_ n5_ n6_ n7_; (try clear hb); (try clear hb2); (try clear hk); (try clear hi); (try clear ho0)
               refine hK.out _ _ ⟨(yG BK234.out 0).trans rfl, (yG BK234.out 1).trans rfl⟩ (fun hHeld => ?_)
               clear hK K
               refine norm_ (a' := ?_) ?_ ?_
               rotate_left
               · show Act.put _ (some 22) _ = _
                 simp only [Act.put, zH, zI, zJ, i64_w, i32_w]
                 rfl
               exact norm_ (by first | (simp only [putAll, Act.put, zH, zI, zJ]; done) | (simp only [putAll, Act.put, zH, zI, zJ]; rfl)) (hJ2_5_6 (v236, .slice Ao21 y238.length co21, v242) _ ⟨hHeld, (mV HL233_0 (fun _ hk => ⟨hk.1.1, ⟨hk.1.2.1, ⟨hk.2, ⟨hk.1.2.2.1, hk.1.2.2.2⟩⟩⟩⟩)), (mV HL233_1 (fun _ hk => ⟨hk.1.1, ⟨hk.1.2.1, ⟨hk.2, ⟨hk.1.2.2.1, hk.1.2.2.2⟩⟩⟩⟩)), (mN HO240 (fun _ hk => ⟨hk.1.1, ⟨hk.2, ⟨hk.1.2.1, hk.1.2.2⟩⟩⟩)), (mR HO243 (fun _ hk => hk.1)), (mV HO_10 (fun _ hk => ⟨hk.1.1, ⟨hk.1.2.1, ⟨hk.2, ⟨hk.1.2.2.1, hk.1.2.2.2⟩⟩⟩⟩)), (mS HO_7 (fun _ hk => ⟨hk.1.1, ⟨hk.2, hk.1.2⟩⟩)), (kM BK234), (kB HB)⟩)
              ·
               skip
               refine Kd.R_lit_step (Kd.int .i64) _ 2 ?hg (N := 24) ?hd (xs := ([a2] : List Int)) (inner := [.int .i64 a2]) (ok := fun _ => True) (okp := fun _ => True) ?hr ?hp (fun _ hk => hk) trivial (Below.refl _ _) (Nat.le_refl _) (by simp) ?_; (case hd => rfl); (case hg => rfl); (case hr => first | (go_simp; done) | (go_simp; rfl)); (case hp => exact (Reps.one (show Kd.M (Kd.int .i64) _ _ _ a2 [.int .i64 a2] from rfl) (Reps.none _ _)))
               intro v245 w21 ho22 hb hg_ hnew_
               clear hg_ hnew_
               (first | rw [← Ny244.out] at ho22 | (simp only [Int.reduceToNat] at ho22; rw [← Ny244.out] at ho22))
               have n0_ := yD (Kd.S_elder' (kS HO_7) (yH ho22) hb)
               have n1_ := yD (Kd.V_elder' (kU HO_10) (yH ho22) hb)
               have n2_ := yD (Kd.V_elder' (kU HL233_0) (yH ho22) hb)
               have n3_ := yD (Kd.V_elder' (kU HL233_1) (yH ho22) hb)
               have n4_ := yD (Kd.N_elder' (kQ HO240) (yH ho22) hb)
               have n5_ := yD (yZ (Kd.R_newM (M := fun k_ => (w.heap.size ≤ k_)) ho22 (below_size (kB HB)) (fun k_ h_ => h_)) (below_size (kB HB)))
               have n6_ := yD (zB (kN BK234) hb)
               have n7_ := yD (zC (kB HB) hb)
               clear HO_7 HO_10 HL233_0 HL233_1 HO240 BK234 HB; have HO_7 := n0_; have HO_10 := n1_; have HL233_0 := n2_; have HL233_1 := n3_; have HO240 := n4_; have HO246 := n5_; have BK234 := n6_; have HB := n7_; clear n0_ n1_ n2_ n3_ n4_ n5_ n6_ n7_ hb ho22
               refine hK.out _ _ ⟨(yG BK234.out 0).trans rfl, (yG BK234.out 1).trans rfl⟩ (fun hHeld => ?_)
               clear hK K
               refine norm_ (a' := ?_) ?_ ?_
               rotate_left
               · show Act.put _ (some 24) _ = _
                 simp only [Act.put, zH, zI, zJ, i64_w, i32_w]
                 rfl
               exact norm_ (by first | (simp only [putAll, Act.put, zH, zI, zJ]; done) | (simp only [putAll, Act.put, zH, zI, zJ]; rfl)) (hJ2_5_8 (v236, (.slice Ao21 y238.length co21), v245) _ ⟨hHeld, (mV HL233_0 (fun _ hk => ⟨hk.1.1, ⟨hk.1.2.1, ⟨hk.2, ⟨hk.1.2.2.1, hk.1.2.2.2⟩⟩⟩⟩)), (mV HL233_1 (fun _ hk => ⟨hk.1.1, ⟨hk.1.2.1, ⟨hk.2, ⟨hk.1.2.2.1, hk.1.2.2.2⟩⟩⟩⟩)), (mN HO240 (fun _ hk => ⟨hk.1.1, ⟨hk.2, ⟨hk.1.2.1, hk.1.2.2⟩⟩⟩)), (mR HO246 (fun _ hk => hk.1)), (mV HO_10 (fun _ hk => ⟨hk.1.1, ⟨hk.1.2.1, ⟨hk.2, ⟨hk.1.2.2.1, hk.1.2.2.2⟩⟩⟩⟩)), (mS HO_7 (fun _ hk => ⟨hk.1.1, ⟨hk.2, hk.1.2⟩⟩)), (kM BK234), (kB HB)⟩)
            ·
             skip
             rintro ⟨v236, v245, v248⟩ w22 ⟨hS_, h0_, h1_, h2_, h3_, h4_, h5_, h6_, h7_⟩
             have n0_ : Aside0 (Kd.V (Kd.int .i64) 2 w22 w.heap.size (fun k_ => (P0_ k_ ∨ w.heap.size ≤ k_) ∧ oB v236 k_ ∧ oB v248 k_ ∧ oB (.slice Ao12 x7_1.length co12) k_ ∧ k_ ≠ gb234) (.slice A233_0 ((rd_T42 l0 x12_1).f0).length c233_0) ((rd_T42 l0 x12_1).f0)) := ⟨h0_⟩
             have n1_ : Aside0 (Kd.V (Kd.int .i64) 2 w22 w.heap.size (fun k_ => (P0_ k_ ∨ w.heap.size ≤ k_) ∧ oB v236 k_ ∧ oB v248 k_ ∧ oB (.slice Ao12 x7_1.length co12) k_ ∧ k_ ≠ gb234) (.slice A233_1 ((rd_T42 l0 x12_1).f1).length c233_1) ((rd_T42 l0 x12_1).f1)) := ⟨h1_⟩
             have n2_ : Aside0 (Kd.R (Kd.int .i64) 2 w22 w.heap.size (fun k_ => (w.heap.size ≤ k_)) v236 y235) := ⟨h2_⟩
             have n3_ : Aside0 (Kd.N (Kd.slice 2 (Kd.int .i64)) 36 w22 w.heap.size (fun k_ => (P0_ k_ ∨ w.heap.size ≤ k_) ∧ oB v236 k_ ∧ oB (.slice Ao12 x7_1.length co12) k_ ∧ k_ ≠ gb234) v248 y247) := ⟨h3_⟩
             have n4_ : Aside0 (Kd.V k42 42 w22 w.heap.size (fun k_ => (P0_ k_ ∨ w.heap.size ≤ k_) ∧ oB v236 k_ ∧ oB v248 k_ ∧ oB (.slice Ao12 x7_1.length co12) k_ ∧ k_ ≠ gb234) (.slice (some ad233) l0.length c0) l0) := ⟨h4_⟩
             have n5_ : Aside0 (Kd.S k42 42 w22 w.heap.size (fun k_ => (w.heap.size ≤ k_) ∧ oB v236 k_ ∧ k_ ≠ gb234) (.slice Ao12 x7_1.length co12) x7_1) := ⟨h5_⟩
             have n6_ : Aside0 (w22.heap[gb234]? = some (.cells #[.slice A233_0 ((rd_T42 l0 x12_1).f0).length c233_0, .slice A233_1 ((rd_T42 l0 x12_1).f1).length c233_1] 42 (0, 0))) := ⟨h6_⟩
             have n7_ : Aside0 (Below w.heap.size w w22) := ⟨h7_⟩
             clear HO_7 HO_10 HL233_0 HL233_1 BK234 HB h0_ h1_ h2_ h3_ h4_ h5_ h6_ h7_; have HL233_0 := n0_; have HL233_1 := n1_; have HO237 := n2_; have HO249 := n3_; have HO_10 := n4_; have HO_7 := n5_; have BK234 := n6_; have HB := n7_; clear n0_ n1_ n2_ n3_ n4_ n5_ n6_ n7_
             have hHeld : w22.cell? ⟨gb234, 0, none⟩ = some (.slice A233_0 ((rd_T42 l0 x12_1).f0).length c233_0) ∧ w22.cell? ⟨gb234, 1, none⟩ = some (.slice A233_1 ((rd_T42 l0 x12_1).f1).length c233_1) := hS_
             obtain ⟨Ao23, co23, eo23⟩ := Kd.R_slice HO237.out
             (first | subst eo23 | (injection eo23 with f1_ f2_ f3_; have f4_ := f1_.symm; have f5_ := f3_.symm; clear f1_ f2_ f3_; subst f4_; subst f5_))
             refine norm_ (a' := ?_) ?_ ?_
             rotate_left
             · simp only [putAll, Act.put, zH, zI, zJ]
               rfl
             refine one_ (i := 5) (N := some 21) (bz 17 4031) rfl rfl (one_of HT_.out (by kernel_rfl)) (by decide) (fun K hK => ?_)
             refine Kd.N_lit_step (Kd.slice 2 (Kd.int .i64)) _ 36 ?hg (N' := 21) ?hd (xs := ([y235, (rd_T42 l0 x12_1).f0] : List (List Int))) (inner := [.slice Ao23 y235.length co23, .slice A233_0 ((rd_T42 l0 x12_1).f0).length c233_0]) (ok := (fun k_ => (P0_ k_ ∨ w.heap.size ≤ k_) ∧ oB (.slice Ao12 x7_1.length co12) k_ ∧ oB v248 k_ ∧ k_ ≠ gb234)) (okp := (fun k_ => (P0_ k_ ∨ w.heap.size ≤ k_) ∧ oB (.slice Ao12 x7_1.length co12) k_ ∧ oB v248 k_ ∧ k_ ≠ gb234)) ?hr ?hp (fun _ hk => hk) ((show ∀ k_, w22.heap.size ≤ k_ → (fun k_ => (P0_ k_ ∨ w.heap.size ≤ k_) ∧ oB (.slice Ao12 x7_1.length co12) k_ ∧ oB v248 k_ ∧ k_ ≠ gb234) k_ from fun k_ hk => ⟨(.inr (Nat.le_trans (below_size (kB HB)) hk)), Kd.fresh' (Kd.S_lt (kS HO_7)) k_ hk, Kd.fresh' (Kd.N_lt (kQ HO249)) k_ hk, Kd.freshB (g := gb234) (o := .cells #[.slice A233_0 ((rd_T42 l0 x12_1).f0).length c233_0, .slice A233_1 ((rd_T42 l0 x12_1).f1).length c233_1] 42 (0, 0)) (kM BK234) k_ hk⟩) _ (Nat.le_refl _)) (Below.refl _ _) (Nat.le_refl _) (by simp) ?_; (case hd => rfl); (case hg => rfl); (case hr => first | (go_simp; done) | (go_simp; rfl)); (case hp => exact (Reps.one (show Kd.FK (Kd.slice 2 (Kd.int .i64)) _ _ y235 [.slice Ao23 y235.length co23] from (Kd.FK_slice_mk (zA (zF (ok' := (fun k_ => (P0_ k_ ∨ w.heap.size ≤ k_) ∧ oB (.slice Ao12 x7_1.length co12) k_ ∧ oB v248 k_ ∧ k_ ≠ gb234)) (Kd.R_types (Kd.R_apart' (Kd.R_apart' (HO237.out) (Kd.S_typed HO_7.out) (by decide)) (Kd.N_typed HO249.out) (by decide)) BK234.out (by decide)) (fun k_ hk => ⟨(.inr (hk.1.1.1)), ⟨hk.1.1.2, ⟨hk.1.2, hk.2⟩⟩⟩))).2.1 (Kd.R_F (zF (ok' := (fun k_ => (P0_ k_ ∨ w.heap.size ≤ k_) ∧ oB (.slice Ao12 x7_1.length co12) k_ ∧ oB v248 k_ ∧ k_ ≠ gb234)) (Kd.R_types (Kd.R_apart' (Kd.R_apart' (HO237.out) (Kd.S_typed HO_7.out) (by decide)) (Kd.N_typed HO249.out) (by decide)) BK234.out (by decide)) (fun k_ hk => ⟨(.inr (hk.1.1.1)), ⟨hk.1.1.2, ⟨hk.1.2, hk.2⟩⟩⟩))))) (Reps.one (show Kd.FK (Kd.slice 2 (Kd.int .i64)) _ _ ((rd_T42 l0 x12_1).f0) [.slice A233_0 ((rd_T42 l0 x12_1).f0).length c233_0] from (Kd.FK_slice_mk (Kd.V_reads' (Kd.V_mono (ok' := (fun k_ => (P0_ k_ ∨ w.heap.size ≤ k_) ∧ oB (.slice Ao12 x7_1.length co12) k_ ∧ oB v248 k_ ∧ k_ ≠ gb234)) (HL233_0.out) (fun k_ hk => ⟨hk.1, ⟨hk.2.2.2.1, ⟨hk.2.2.1, hk.2.2.2.2⟩⟩⟩))).2.1 (Kd.V_F (Kd.V_mono (ok' := (fun k_ => (P0_ k_ ∨ w.heap.size ≤ k_) ∧ oB (.slice Ao12 x7_1.length co12) k_ ∧ oB v248 k_ ∧ k_ ≠ gb234)) (HL233_0.out) (fun k_ hk => ⟨hk.1, ⟨hk.2.2.2.1, ⟨hk.2.2.1, hk.2.2.2.2⟩⟩⟩))))) (Reps.none _ _))))
             intro v239 w24 ho25 hb hg_ hnew_
             clear hg_ hnew_
             (first | rw [← Ny238.out] at ho25 | (simp only [Int.reduceToNat] at ho25; rw [← Ny238.out] at ho25))
             have n0_ := yD (Kd.S_below (kS HO_7) hb)
             have n1_ := yD (Kd.V_elder' (kU HO_10) (Kd.N_base ho25) hb)
             have n2_ := yD (Kd.V_elder' (kU HL233_0) (Kd.N_base ho25) hb)
             have n3_ := yD (Kd.V_elder' (kU HL233_1) (Kd.N_base ho25) hb)
             have n4_ := yD (Kd.N_elder' (kQ HO249) (Kd.N_base ho25) hb)
             have n5_ := yD (Kd.N_lower ho25 (below_size (kB HB)))
             have n6_ := yD (zB (kN BK234) hb)
             have n7_ := yD (zC (kB HB) hb)
             clear HO_7 HO_10 HL233_0 HL233_1 HO249 BK234 HB HO237; have HO_7 := n0_; have HO_10 := n1_; have HL233_0 := n2_; have HL233_1 := n3_; have HO249 := n4_; have HO240 := n5_; have BK234 := n6_; have HB := n7_; clear n0_ n1_ n2_ n3_ n4_ n5_ n6_ n7_ hb ho25
             refine hK.out _ _ ⟨(yG BK234.out 0).trans rfl, (yG BK234.out 1).trans rfl⟩ (fun hHeld => ?_)
             clear hK K
             refine norm_ (a' := ?_) ?_ ?_
             rotate_left
             · show Act.put _ (some 21) _ = _
               simp only [Act.put, zH, zI, zJ, i64_w, i32_w]
               rfl
             exact norm_ (by first | (simp only [putAll, Act.put, zH, zI, zJ]; done) | (simp only [putAll, Act.put, zH, zI, zJ]; rfl)) (hJ2_5_8_11 (.slice Ao23 y235.length co23, v239, v245, v248) _ ⟨hHeld, (mV HL233_0 (fun _ hk => ⟨hk.1.1, ⟨hk.2, ⟨hk.1.2.2.1, ⟨hk.1.2.2.2.1, hk.1.2.2.2.2⟩⟩⟩⟩)), (mV HL233_1 (fun _ hk => ⟨hk.1.1, ⟨hk.2, ⟨hk.1.2.2.1, ⟨hk.1.2.2.2.1, hk.1.2.2.2.2⟩⟩⟩⟩)), (mN HO240 (fun _ hk => ⟨hk.1, ⟨hk.2.2.1, ⟨hk.2.1, hk.2.2.2⟩⟩⟩)), (mN HO249 (fun _ hk => ⟨hk.1.1, ⟨hk.2, ⟨hk.1.2.2.1, hk.1.2.2.2⟩⟩⟩)), (mV HO_10 (fun _ hk => ⟨hk.1.1, ⟨hk.2, ⟨hk.1.2.2.1, ⟨hk.1.2.2.2.1, hk.1.2.2.2.2⟩⟩⟩⟩)), (mS HO_7 (fun _ hk => ⟨hk.1, hk.2.2⟩)), (kM BK234), (kB HB)⟩)
           ·
            skip
            rintro ⟨v236, v239, v245⟩ w22 ⟨hS_, h0_, h1_, h2_, h3_, h4_, h5_, h6_, h7_⟩
            have n0_ : Aside0 (Kd.V (Kd.int .i64) 2 w22 w.heap.size (fun k_ => (P0_ k_ ∨ w.heap.size ≤ k_) ∧ oB v239 k_ ∧ oB v245 k_ ∧ oB (.slice Ao12 x7_1.length co12) k_ ∧ k_ ≠ gb234) (.slice A233_0 ((rd_T42 l0 x12_1).f0).length c233_0) ((rd_T42 l0 x12_1).f0)) := ⟨h0_⟩
            have n1_ : Aside0 (Kd.V (Kd.int .i64) 2 w22 w.heap.size (fun k_ => (P0_ k_ ∨ w.heap.size ≤ k_) ∧ oB v239 k_ ∧ oB v245 k_ ∧ oB (.slice Ao12 x7_1.length co12) k_ ∧ k_ ≠ gb234) (.slice A233_1 ((rd_T42 l0 x12_1).f1).length c233_1) ((rd_T42 l0 x12_1).f1)) := ⟨h1_⟩
            have n2_ : Aside0 (Kd.N (Kd.slice 2 (Kd.int .i64)) 36 w22 w.heap.size (fun k_ => (P0_ k_ ∨ w.heap.size ≤ k_) ∧ oB v245 k_ ∧ oB (.slice Ao12 x7_1.length co12) k_ ∧ k_ ≠ gb234) v239 y238) := ⟨h2_⟩
            have n3_ : Aside0 (Kd.R (Kd.int .i64) 2 w22 w.heap.size (fun k_ => (w.heap.size ≤ k_)) v245 y244) := ⟨h3_⟩
            have n4_ : Aside0 (Kd.V k42 42 w22 w.heap.size (fun k_ => (P0_ k_ ∨ w.heap.size ≤ k_) ∧ oB v239 k_ ∧ oB v245 k_ ∧ oB (.slice Ao12 x7_1.length co12) k_ ∧ k_ ≠ gb234) (.slice (some ad233) l0.length c0) l0) := ⟨h4_⟩
            have n5_ : Aside0 (Kd.S k42 42 w22 w.heap.size (fun k_ => (w.heap.size ≤ k_) ∧ oB v245 k_ ∧ k_ ≠ gb234) (.slice Ao12 x7_1.length co12) x7_1) := ⟨h5_⟩
            have n6_ : Aside0 (w22.heap[gb234]? = some (.cells #[.slice A233_0 ((rd_T42 l0 x12_1).f0).length c233_0, .slice A233_1 ((rd_T42 l0 x12_1).f1).length c233_1] 42 (0, 0))) := ⟨h6_⟩
            have n7_ : Aside0 (Below w.heap.size w w22) := ⟨h7_⟩
            clear HO_7 HO_10 HL233_0 HL233_1 BK234 HB h0_ h1_ h2_ h3_ h4_ h5_ h6_ h7_; have HL233_0 := n0_; have HL233_1 := n1_; have HO240 := n2_; have HO246 := n3_; have HO_10 := n4_; have HO_7 := n5_; have BK234 := n6_; have HB := n7_; clear n0_ n1_ n2_ n3_ n4_ n5_ n6_ n7_
            have hHeld : w22.cell? ⟨gb234, 0, none⟩ = some (.slice A233_0 ((rd_T42 l0 x12_1).f0).length c233_0) ∧ w22.cell? ⟨gb234, 1, none⟩ = some (.slice A233_1 ((rd_T42 l0 x12_1).f1).length c233_1) := hS_
            obtain ⟨Ao23, co23, eo23⟩ := Kd.N_slice HO240.out
            (first | subst eo23 | (injection eo23 with f1_ f2_ f3_; have f4_ := f1_.symm; have f5_ := f3_.symm; clear f1_ f2_ f3_; subst f4_; subst f5_))
            refine norm_ (a' := ?_) ?_ ?_
            rotate_left
            · simp only [putAll, Act.put, zH, zI, zJ]
              rfl
            refine two_ (i := 6) (j := 11) (Ni := some 22) (Nj := some 27) #[true, true, true, true, true, true, true, true, true, true, true, false, false, false, false, false, false] #[true, true, true, true, true, true, false, true, true, true, true, true, false, false, false, false, false] rfl rfl rfl rfl (two_of HT_.out (by kernel_rfl)) (by decide) (by decide) (fun K hK => ?_) (fun K hK => ?_)
            ·
             skip
             refine goes_ Try.func146 (by kernel_rfl) rfl #[.slice Ao23 y238.length co23] (by rfl) rfl rfl (by (try simp only [zK, zL, zM]); first | done | rfl | (simp only [zN, zO]; rfl)) ?_
             with_reducible refine (slices_Concat_int64_int64.calls k1 _ _ y238 t241 _ ?side1 ?side2 A7.out).mono ?_
             (case side1 => exact kV (Kd.N_reads' HO240.out).2.2)
             (case side2 => exact (Kd.N_reads' HO240.out).2.1)
             rintro e w24 ⟨v242, rfl, ho0, hb⟩
             refine ⟨_, rfl, ?_⟩
             have n0_ := yD (Kd.S_elder' (kS HO_7) (yH ho0) hb)
             have n1_ := yD (Kd.V_elder' (kU HO_10) (yH ho0) hb)
             have n2_ := yD (Kd.V_elder' (kU HL233_0) (yH ho0) hb)
             have n3_ := yD (Kd.V_elder' (kU HL233_1) (yH ho0) hb)
             have n4_ := yD (Kd.N_elder' (kQ HO240) (yH ho0) hb)
             have n5_ := yD (Kd.R_elder' (kA HO246) (yH ho0) hb)
             have n6_ := yD (yZ (yJ (Kd.R_newM (M := fun k_ => (w.heap.size ≤ k_)) ho0 (below_size (kB HB)) (fun k_ h_ => h_)) (yK (kA HO246))) (below_size (kB HB)))
             have n7_ := yD (zB (kN BK234) hb)
             have n8_ := yD (zC (kB HB) hb)
             clear HO_7 HO_10 HL233_0 HL233_1 HO240 HO246 BK234 HB; have HO_7 := n0_; have HO_10 := n1_; have HL233_0 := n2_; have HL233_1 := n3_; have HO240 := n4_; have HO246 := n5_; have HO243 := n6_; have BK234 := n7_; have HB := n8_; clear n0_ n1_ n2_ n3_ n4_ n5_ n6_ n7_ n8_; (try clear hb); (try clear hb2); (try clear hk); (try clear hi); (try clear ho0)
             refine hK.out _ _ ⟨(yG BK234.out 0).trans rfl, (yG BK234.out 1).trans rfl⟩ (fun hHeld => ?_)
             clear hK K
             refine norm_ (a' := ?_) ?_ ?_
             rotate_left
             · show Act.put _ (some 22) _ = _
               simp only [Act.put, zH, zI, zJ, i64_w, i32_w]
               rfl
             exact norm_ (by first | (simp only [putAll, Act.put, zH, zI, zJ]; done) | (simp only [putAll, Act.put, zH, zI, zJ]; rfl)) (hJ2_5_6_8 (v236, .slice Ao23 y238.length co23, v242, v245) _ ⟨hHeld, (mV HL233_0 (fun _ hk => ⟨hk.1.1, ⟨hk.1.2.1, ⟨hk.2, ⟨hk.1.2.2.1, ⟨hk.1.2.2.2.1, hk.1.2.2.2.2⟩⟩⟩⟩⟩)), (mV HL233_1 (fun _ hk => ⟨hk.1.1, ⟨hk.1.2.1, ⟨hk.2, ⟨hk.1.2.2.1, ⟨hk.1.2.2.2.1, hk.1.2.2.2.2⟩⟩⟩⟩⟩)), (mN HO240 (fun _ hk => ⟨hk.1.1, ⟨hk.2, ⟨hk.1.2.1, ⟨hk.1.2.2.1, hk.1.2.2.2⟩⟩⟩⟩)), (mR HO243 (fun _ hk => ⟨hk.1.1, hk.2⟩)), (kA HO246), (mV HO_10 (fun _ hk => ⟨hk.1.1, ⟨hk.1.2.1, ⟨hk.2, ⟨hk.1.2.2.1, ⟨hk.1.2.2.2.1, hk.1.2.2.2.2⟩⟩⟩⟩⟩)), (mS HO_7 (fun _ hk => ⟨hk.1.1, ⟨hk.2, ⟨hk.1.2.1, hk.1.2.2⟩⟩⟩)), (kM BK234), (kB HB)⟩)
            ·
             skip
             obtain ⟨Ao23b, co23b, eo23b⟩ := Kd.R_slice HO246.out
             subst eo23b
             refine Kd.N_lit_step (Kd.slice 2 (Kd.int .i64)) _ 36 ?hg (N' := 27) ?hd (xs := ([y244, (rd_T42 l0 x12_1).f1] : List (List Int))) (inner := [.slice Ao23b y244.length co23b, .slice A233_1 ((rd_T42 l0 x12_1).f1).length c233_1]) (ok := (fun k_ => (P0_ k_ ∨ w.heap.size ≤ k_) ∧ oB (.slice Ao12 x7_1.length co12) k_ ∧ oB (.slice Ao23 y238.length co23) k_ ∧ k_ ≠ gb234)) (okp := (fun k_ => (P0_ k_ ∨ w.heap.size ≤ k_) ∧ oB (.slice Ao12 x7_1.length co12) k_ ∧ oB (.slice Ao23 y238.length co23) k_ ∧ k_ ≠ gb234)) ?hr ?hp (fun _ hk => hk) ((show ∀ k_, w22.heap.size ≤ k_ → (fun k_ => (P0_ k_ ∨ w.heap.size ≤ k_) ∧ oB (.slice Ao12 x7_1.length co12) k_ ∧ oB (.slice Ao23 y238.length co23) k_ ∧ k_ ≠ gb234) k_ from fun k_ hk => ⟨(.inr (Nat.le_trans (below_size (kB HB)) hk)), Kd.fresh' (Kd.S_lt (kS HO_7)) k_ hk, Kd.fresh' (Kd.N_lt (kQ HO240)) k_ hk, Kd.freshB (g := gb234) (o := .cells #[.slice A233_0 ((rd_T42 l0 x12_1).f0).length c233_0, .slice A233_1 ((rd_T42 l0 x12_1).f1).length c233_1] 42 (0, 0)) (kM BK234) k_ hk⟩) _ (Nat.le_refl _)) (Below.refl _ _) (Nat.le_refl _) (by simp) ?_; (case hd => rfl); (case hg => rfl); (case hr => first | (go_simp; done) | (go_simp; rfl)); (case hp => exact (Reps.one (show Kd.FK (Kd.slice 2 (Kd.int .i64)) _ _ y244 [.slice Ao23b y244.length co23b] from (Kd.FK_slice_mk (zA (zF (ok' := (fun k_ => (P0_ k_ ∨ w.heap.size ≤ k_) ∧ oB (.slice Ao12 x7_1.length co12) k_ ∧ oB (.slice Ao23 y238.length co23) k_ ∧ k_ ≠ gb234)) (Kd.R_types (Kd.R_apart' (Kd.R_apart' (HO246.out) (Kd.S_typed HO_7.out) (by decide)) (Kd.N_typed HO240.out) (by decide)) BK234.out (by decide)) (fun k_ hk => ⟨(.inr (hk.1.1.1)), ⟨hk.1.1.2, ⟨hk.1.2, hk.2⟩⟩⟩))).2.1 (Kd.R_F (zF (ok' := (fun k_ => (P0_ k_ ∨ w.heap.size ≤ k_) ∧ oB (.slice Ao12 x7_1.length co12) k_ ∧ oB (.slice Ao23 y238.length co23) k_ ∧ k_ ≠ gb234)) (Kd.R_types (Kd.R_apart' (Kd.R_apart' (HO246.out) (Kd.S_typed HO_7.out) (by decide)) (Kd.N_typed HO240.out) (by decide)) BK234.out (by decide)) (fun k_ hk => ⟨(.inr (hk.1.1.1)), ⟨hk.1.1.2, ⟨hk.1.2, hk.2⟩⟩⟩))))) (Reps.one (show Kd.FK (Kd.slice 2 (Kd.int .i64)) _ _ ((rd_T42 l0 x12_1).f1) [.slice A233_1 ((rd_T42 l0 x12_1).f1).length c233_1] from (Kd.FK_slice_mk (Kd.V_reads' (Kd.V_mono (ok' := (fun k_ => (P0_ k_ ∨ w.heap.size ≤ k_) ∧ oB (.slice Ao12 x7_1.length co12) k_ ∧ oB (.slice Ao23 y238.length co23) k_ ∧ k_ ≠ gb234)) (HL233_1.out) (fun k_ hk => ⟨hk.1, ⟨hk.2.2.2.1, ⟨hk.2.1, hk.2.2.2.2⟩⟩⟩))).2.1 (Kd.V_F (Kd.V_mono (ok' := (fun k_ => (P0_ k_ ∨ w.heap.size ≤ k_) ∧ oB (.slice Ao12 x7_1.length co12) k_ ∧ oB (.slice Ao23 y238.length co23) k_ ∧ k_ ≠ gb234)) (HL233_1.out) (fun k_ hk => ⟨hk.1, ⟨hk.2.2.2.1, ⟨hk.2.1, hk.2.2.2.2⟩⟩⟩))))) (Reps.none _ _))))
             intro v248 w24 ho25 hb hg_ hnew_
             clear hg_ hnew_
             (first | rw [← Ny247.out] at ho25 | (simp only [Int.reduceToNat] at ho25; rw [← Ny247.out] at ho25))
             have n0_ := yD (Kd.S_below (kS HO_7) hb)
             have n1_ := yD (Kd.V_elder' (kU HO_10) (Kd.N_base ho25) hb)
             have n2_ := yD (Kd.V_elder' (kU HL233_0) (Kd.N_base ho25) hb)
             have n3_ := yD (Kd.V_elder' (kU HL233_1) (Kd.N_base ho25) hb)
             have n4_ := yD (Kd.N_elder' (kQ HO240) (Kd.N_base ho25) hb)
             have n5_ := yD (Kd.N_lower ho25 (below_size (kB HB)))
             have n6_ := yD (zB (kN BK234) hb)
             have n7_ := yD (zC (kB HB) hb)
             clear HO_7 HO_10 HL233_0 HL233_1 HO240 BK234 HB HO246; have HO_7 := n0_; have HO_10 := n1_; have HL233_0 := n2_; have HL233_1 := n3_; have HO240 := n4_; have HO249 := n5_; have BK234 := n6_; have HB := n7_; clear n0_ n1_ n2_ n3_ n4_ n5_ n6_ n7_ hb ho25
             refine hK.out _ _ ⟨(yG BK234.out 0).trans rfl, (yG BK234.out 1).trans rfl⟩ (fun hHeld => ?_)
             clear hK K
             refine norm_ (a' := ?_) ?_ ?_
             rotate_left
             · show Act.put _ (some 27) _ = _
               simp only [Act.put, zH, zI, zJ, i64_w, i32_w]
               rfl
             exact norm_ (by first | (simp only [putAll, Act.put, zH, zI, zJ]; done) | (simp only [putAll, Act.put, zH, zI, zJ]; rfl)) (hJ2_5_8_11 (v236, (.slice Ao23 y238.length co23), .slice Ao23b y244.length co23b, v248) _ ⟨hHeld, (mV HL233_0 (fun _ hk => ⟨hk.1.1, ⟨hk.1.2.1, ⟨hk.2, ⟨hk.1.2.2.2.1, hk.1.2.2.2.2⟩⟩⟩⟩)), (mV HL233_1 (fun _ hk => ⟨hk.1.1, ⟨hk.1.2.1, ⟨hk.2, ⟨hk.1.2.2.2.1, hk.1.2.2.2.2⟩⟩⟩⟩)), (mN HO240 (fun _ hk => ⟨hk.1.1, ⟨hk.2, ⟨hk.1.2.2.1, hk.1.2.2.2⟩⟩⟩)), (mN HO249 (fun _ hk => ⟨hk.1, ⟨hk.2.2.1, ⟨hk.2.1, hk.2.2.2⟩⟩⟩)), (mV HO_10 (fun _ hk => ⟨hk.1.1, ⟨hk.1.2.1, ⟨hk.2, ⟨hk.1.2.2.2.1, hk.1.2.2.2.2⟩⟩⟩⟩)), (mS HO_7 (fun _ hk => ⟨hk.1, hk.2.2⟩)), (kM BK234), (kB HB)⟩)
          ·
           skip
           rintro ⟨v236, v239, v242⟩ w22 ⟨hS_, h0_, h1_, h2_, h3_, h4_, h5_, h6_, h7_⟩
           have n0_ : Aside0 (Kd.V (Kd.int .i64) 2 w22 w.heap.size (fun k_ => (P0_ k_ ∨ w.heap.size ≤ k_) ∧ oB v239 k_ ∧ oB v242 k_ ∧ oB (.slice Ao12 x7_1.length co12) k_ ∧ k_ ≠ gb234) (.slice A233_0 ((rd_T42 l0 x12_1).f0).length c233_0) ((rd_T42 l0 x12_1).f0)) := ⟨h0_⟩
           have n1_ : Aside0 (Kd.V (Kd.int .i64) 2 w22 w.heap.size (fun k_ => (P0_ k_ ∨ w.heap.size ≤ k_) ∧ oB v239 k_ ∧ oB v242 k_ ∧ oB (.slice Ao12 x7_1.length co12) k_ ∧ k_ ≠ gb234) (.slice A233_1 ((rd_T42 l0 x12_1).f1).length c233_1) ((rd_T42 l0 x12_1).f1)) := ⟨h1_⟩
           have n2_ : Aside0 (Kd.N (Kd.slice 2 (Kd.int .i64)) 36 w22 w.heap.size (fun k_ => (P0_ k_ ∨ w.heap.size ≤ k_) ∧ oB v242 k_ ∧ oB (.slice Ao12 x7_1.length co12) k_ ∧ k_ ≠ gb234) v239 y238) := ⟨h2_⟩
           have n3_ : Aside0 (Kd.R (Kd.int .i64) 2 w22 w.heap.size (fun k_ => (w.heap.size ≤ k_)) v242 t241) := ⟨h3_⟩
           have n4_ : Aside0 (Kd.V k42 42 w22 w.heap.size (fun k_ => (P0_ k_ ∨ w.heap.size ≤ k_) ∧ oB v239 k_ ∧ oB v242 k_ ∧ oB (.slice Ao12 x7_1.length co12) k_ ∧ k_ ≠ gb234) (.slice (some ad233) l0.length c0) l0) := ⟨h4_⟩
           have n5_ : Aside0 (Kd.S k42 42 w22 w.heap.size (fun k_ => (w.heap.size ≤ k_) ∧ oB v242 k_ ∧ k_ ≠ gb234) (.slice Ao12 x7_1.length co12) x7_1) := ⟨h5_⟩
           have n6_ : Aside0 (w22.heap[gb234]? = some (.cells #[.slice A233_0 ((rd_T42 l0 x12_1).f0).length c233_0, .slice A233_1 ((rd_T42 l0 x12_1).f1).length c233_1] 42 (0, 0))) := ⟨h6_⟩
           have n7_ : Aside0 (Below w.heap.size w w22) := ⟨h7_⟩
           clear HO_7 HO_10 HL233_0 HL233_1 BK234 HB h0_ h1_ h2_ h3_ h4_ h5_ h6_ h7_; have HL233_0 := n0_; have HL233_1 := n1_; have HO240 := n2_; have HO243 := n3_; have HO_10 := n4_; have HO_7 := n5_; have BK234 := n6_; have HB := n7_; clear n0_ n1_ n2_ n3_ n4_ n5_ n6_ n7_
           have hHeld : w22.cell? ⟨gb234, 0, none⟩ = some (.slice A233_0 ((rd_T42 l0 x12_1).f0).length c233_0) ∧ w22.cell? ⟨gb234, 1, none⟩ = some (.slice A233_1 ((rd_T42 l0 x12_1).f1).length c233_1) := hS_
           refine norm_ (a' := ?_) ?_ ?_
           rotate_left
           · simp only [putAll, Act.put, zH, zI, zJ]
             rfl
           refine one_ (i := 8) (N := some 24) (bz 17 2047) rfl rfl (one_of HT_.out (by kernel_rfl)) (by decide) (fun K hK => ?_)
           refine Kd.R_lit_step (Kd.int .i64) _ 2 ?hg (N := 24) ?hd (xs := ([a2] : List Int)) (inner := [.int .i64 a2]) (ok := fun _ => True) (okp := fun _ => True) ?hr ?hp (fun _ hk => hk) trivial (Below.refl _ _) (Nat.le_refl _) (by simp) ?_; (case hd => rfl); (case hg => rfl); (case hr => first | (go_simp; done) | (go_simp; rfl)); (case hp => exact (Reps.one (show Kd.M (Kd.int .i64) _ _ _ a2 [.int .i64 a2] from rfl) (Reps.none _ _)))
           intro v245 w23 ho24 hb hg_ hnew_
           clear hg_ hnew_
           (first | rw [← Ny244.out] at ho24 | (simp only [Int.reduceToNat] at ho24; rw [← Ny244.out] at ho24))
           have n0_ := yD (Kd.S_elder' (kS HO_7) (yH ho24) hb)
           have n1_ := yD (Kd.V_elder' (kU HO_10) (yH ho24) hb)
           have n2_ := yD (Kd.V_elder' (kU HL233_0) (yH ho24) hb)
           have n3_ := yD (Kd.V_elder' (kU HL233_1) (yH ho24) hb)
           have n4_ := yD (Kd.N_elder' (kQ HO240) (yH ho24) hb)
           have n5_ := yD (Kd.R_elder' (kA HO243) (yH ho24) hb)
           have n6_ := yD (yZ (yJ (Kd.R_newM (M := fun k_ => (w.heap.size ≤ k_)) ho24 (below_size (kB HB)) (fun k_ h_ => h_)) (yK (kA HO243))) (below_size (kB HB)))
           have n7_ := yD (zB (kN BK234) hb)
           have n8_ := yD (zC (kB HB) hb)
           clear HO_7 HO_10 HL233_0 HL233_1 HO240 HO243 BK234 HB; have HO_7 := n0_; have HO_10 := n1_; have HL233_0 := n2_; have HL233_1 := n3_; have HO240 := n4_; have HO243 := n5_; have HO246 := n6_; have BK234 := n7_; have HB := n8_; clear n0_ n1_ n2_ n3_ n4_ n5_ n6_ n7_ n8_ hb ho24
           refine hK.out _ _ ⟨(yG BK234.out 0).trans rfl, (yG BK234.out 1).trans rfl⟩ (fun hHeld => ?_)
           clear hK K
           refine norm_ (a' := ?_) ?_ ?_
           rotate_left
           · show Act.put _ (some 24) _ = _
             simp only [Act.put, zH, zI, zJ, i64_w, i32_w]
             rfl
           exact norm_ (by first | (simp only [putAll, Act.put, zH, zI, zJ]; done) | (simp only [putAll, Act.put, zH, zI, zJ]; rfl)) (hJ2_5_6_8 (v236, v239, v242, v245) _ ⟨hHeld, (mV HL233_0 (fun _ hk => ⟨hk.1.1, ⟨hk.1.2.1, ⟨hk.1.2.2.1, ⟨hk.2, ⟨hk.1.2.2.2.1, hk.1.2.2.2.2⟩⟩⟩⟩⟩)), (mV HL233_1 (fun _ hk => ⟨hk.1.1, ⟨hk.1.2.1, ⟨hk.1.2.2.1, ⟨hk.2, ⟨hk.1.2.2.2.1, hk.1.2.2.2.2⟩⟩⟩⟩⟩)), (mN HO240 (fun _ hk => ⟨hk.1.1, ⟨hk.1.2.1, ⟨hk.2, ⟨hk.1.2.2.1, hk.1.2.2.2⟩⟩⟩⟩)), (kA HO243), (mR HO246 (fun _ hk => ⟨hk.1.1, hk.2⟩)), (mV HO_10 (fun _ hk => ⟨hk.1.1, ⟨hk.1.2.1, ⟨hk.1.2.2.1, ⟨hk.2, ⟨hk.1.2.2.2.1, hk.1.2.2.2.2⟩⟩⟩⟩⟩)), (mS HO_7 (fun _ hk => ⟨hk.1.1, ⟨hk.1.2.1, ⟨hk.2, hk.1.2.2⟩⟩⟩)), (kM BK234), (kB HB)⟩)
         ·
          skip
          rintro ⟨v236, v239, v245, v248⟩ w25 ⟨hS_, h0_, h1_, h2_, h3_, h4_, h5_, h6_, h7_⟩
          have n0_ : Aside0 (Kd.V (Kd.int .i64) 2 w25 w.heap.size (fun k_ => (P0_ k_ ∨ w.heap.size ≤ k_) ∧ oB v239 k_ ∧ oB v248 k_ ∧ oB (.slice Ao12 x7_1.length co12) k_ ∧ k_ ≠ gb234) (.slice A233_0 ((rd_T42 l0 x12_1).f0).length c233_0) ((rd_T42 l0 x12_1).f0)) := ⟨h0_⟩
          have n1_ : Aside0 (Kd.V (Kd.int .i64) 2 w25 w.heap.size (fun k_ => (P0_ k_ ∨ w.heap.size ≤ k_) ∧ oB v239 k_ ∧ oB v248 k_ ∧ oB (.slice Ao12 x7_1.length co12) k_ ∧ k_ ≠ gb234) (.slice A233_1 ((rd_T42 l0 x12_1).f1).length c233_1) ((rd_T42 l0 x12_1).f1)) := ⟨h1_⟩
          have n2_ : Aside0 (Kd.N (Kd.slice 2 (Kd.int .i64)) 36 w25 w.heap.size (fun k_ => (P0_ k_ ∨ w.heap.size ≤ k_) ∧ oB v248 k_ ∧ oB (.slice Ao12 x7_1.length co12) k_ ∧ k_ ≠ gb234) v239 y238) := ⟨h2_⟩
          have n3_ : Aside0 (Kd.N (Kd.slice 2 (Kd.int .i64)) 36 w25 w.heap.size (fun k_ => (P0_ k_ ∨ w.heap.size ≤ k_) ∧ oB v239 k_ ∧ oB (.slice Ao12 x7_1.length co12) k_ ∧ k_ ≠ gb234) v248 y247) := ⟨h3_⟩
          have n4_ : Aside0 (Kd.V k42 42 w25 w.heap.size (fun k_ => (P0_ k_ ∨ w.heap.size ≤ k_) ∧ oB v239 k_ ∧ oB v248 k_ ∧ oB (.slice Ao12 x7_1.length co12) k_ ∧ k_ ≠ gb234) (.slice (some ad233) l0.length c0) l0) := ⟨h4_⟩
          have n5_ : Aside0 (Kd.S k42 42 w25 w.heap.size (fun k_ => (w.heap.size ≤ k_) ∧ k_ ≠ gb234) (.slice Ao12 x7_1.length co12) x7_1) := ⟨h5_⟩
          have n6_ : Aside0 (w25.heap[gb234]? = some (.cells #[.slice A233_0 ((rd_T42 l0 x12_1).f0).length c233_0, .slice A233_1 ((rd_T42 l0 x12_1).f1).length c233_1] 42 (0, 0))) := ⟨h6_⟩
          have n7_ : Aside0 (Below w.heap.size w w25) := ⟨h7_⟩
          clear HO_7 HO_10 HL233_0 HL233_1 BK234 HB h0_ h1_ h2_ h3_ h4_ h5_ h6_ h7_; have HL233_0 := n0_; have HL233_1 := n1_; have HO240 := n2_; have HO249 := n3_; have HO_10 := n4_; have HO_7 := n5_; have BK234 := n6_; have HB := n7_; clear n0_ n1_ n2_ n3_ n4_ n5_ n6_ n7_
          have hHeld : w25.cell? ⟨gb234, 0, none⟩ = some (.slice A233_0 ((rd_T42 l0 x12_1).f0).length c233_0) ∧ w25.cell? ⟨gb234, 1, none⟩ = some (.slice A233_1 ((rd_T42 l0 x12_1).f1).length c233_1) := hS_
          obtain ⟨Ao26, co26, eo26⟩ := Kd.N_slice HO240.out
          (first | subst eo26 | (injection eo26 with f1_ f2_ f3_; have f4_ := f1_.symm; have f5_ := f3_.symm; clear f1_ f2_ f3_; subst f4_; subst f5_))
          refine norm_ (a' := ?_) ?_ ?_
          rotate_left
          · simp only [putAll, Act.put, zH, zI, zJ]
            rfl
          refine one_ (i := 6) (N := some 22) (bz 17 4095) rfl rfl (one_of HT_.out (by kernel_rfl)) (by decide) (fun K hK => ?_)
          refine goes_ Try.func146 (by kernel_rfl) rfl #[.slice Ao26 y238.length co26] (by rfl) rfl rfl (by (try simp only [zK, zL, zM]); first | done | rfl | (simp only [zN, zO]; rfl)) ?_
          with_reducible refine (slices_Concat_int64_int64.calls k1 _ _ y238 t241 _ ?side1 ?side2 A7.out).mono ?_
          (case side1 => exact kV (Kd.N_reads' HO240.out).2.2)
          (case side2 => exact (Kd.N_reads' HO240.out).2.1)
          rintro e w27 ⟨v242, rfl, ho0, hb⟩
          refine ⟨_, rfl, ?_⟩
          have n0_ := yD (Kd.S_elder' (kS HO_7) (yH ho0) hb)
          have n1_ := yD (Kd.V_elder' (kU HO_10) (yH ho0) hb)
          have n2_ := yD (Kd.V_elder' (kU HL233_0) (yH ho0) hb)
          have n3_ := yD (Kd.V_elder' (kU HL233_1) (yH ho0) hb)
          have n4_ := yD (Kd.N_elder' (kQ HO240) (yH ho0) hb)
          have n5_ := yD (Kd.N_elder' (kQ HO249) (yH ho0) hb)
          have n6_ := yD (yZ (Kd.R_newM (M := fun k_ => (w.heap.size ≤ k_)) ho0 (below_size (kB HB)) (fun k_ h_ => h_)) (below_size (kB HB)))
          have n7_ := yD (zB (kN BK234) hb)
          have n8_ := yD (zC (kB HB) hb)
          clear HO_7 HO_10 HL233_0 HL233_1 HO240 HO249 BK234 HB; have HO_7 := n0_; have HO_10 := n1_; have HL233_0 := n2_; have HL233_1 := n3_; have HO240 := n4_; have HO249 := n5_; have HO243 := n6_; have BK234 := n7_; have HB := n8_; clear n0_ n1_ n2_ n3_ n4_ n5_ n6_ n7_ n8_; (try clear hb); (try clear hb2); (try clear hk); (try clear hi); (try clear ho0)
          refine hK.out _ _ ⟨(yG BK234.out 0).trans rfl, (yG BK234.out 1).trans rfl⟩ (fun hHeld => ?_)
          clear hK K
          refine norm_ (a' := ?_) ?_ ?_
          rotate_left
          · show Act.put _ (some 22) _ = _
            simp only [Act.put, zH, zI, zJ, i64_w, i32_w]
            rfl
          exact norm_ (by first | (simp only [putAll, Act.put, zH, zI, zJ]; done) | (simp only [putAll, Act.put, zH, zI, zJ]; rfl)) (hJ2_5_6_8_11 (v236, .slice Ao26 y238.length co26, v242, v245, v248) _ ⟨hHeld, (mV HL233_0 (fun _ hk => ⟨hk.1.1, ⟨hk.1.2.1, ⟨hk.2, ⟨hk.1.2.2.1, ⟨hk.1.2.2.2.1, hk.1.2.2.2.2⟩⟩⟩⟩⟩)), (mV HL233_1 (fun _ hk => ⟨hk.1.1, ⟨hk.1.2.1, ⟨hk.2, ⟨hk.1.2.2.1, ⟨hk.1.2.2.2.1, hk.1.2.2.2.2⟩⟩⟩⟩⟩)), (mN HO240 (fun _ hk => ⟨hk.1.1, ⟨hk.2, ⟨hk.1.2.1, ⟨hk.1.2.2.1, hk.1.2.2.2⟩⟩⟩⟩)), (mR HO243 (fun _ hk => hk.1)), (mN HO249 (fun _ hk => ⟨hk.1.1, ⟨hk.1.2.1, ⟨hk.2, ⟨hk.1.2.2.1, hk.1.2.2.2⟩⟩⟩⟩)), (mV HO_10 (fun _ hk => ⟨hk.1.1, ⟨hk.1.2.1, ⟨hk.2, ⟨hk.1.2.2.1, ⟨hk.1.2.2.2.1, hk.1.2.2.2.2⟩⟩⟩⟩⟩)), (mS HO_7 (fun _ hk => ⟨hk.1.1, ⟨hk.2, hk.1.2⟩⟩)), (kM BK234), (kB HB)⟩)
        ·
         skip
         rintro ⟨v236, v239, v242, v245⟩ w24 ⟨hS_, h0_, h1_, h2_, h3_, h4_, h5_, h6_, h7_, h8_⟩
         have n0_ : Aside0 (Kd.V (Kd.int .i64) 2 w24 w.heap.size (fun k_ => (P0_ k_ ∨ w.heap.size ≤ k_) ∧ oB v239 k_ ∧ oB v242 k_ ∧ oB v245 k_ ∧ oB (.slice Ao12 x7_1.length co12) k_ ∧ k_ ≠ gb234) (.slice A233_0 ((rd_T42 l0 x12_1).f0).length c233_0) ((rd_T42 l0 x12_1).f0)) := ⟨h0_⟩
         have n1_ : Aside0 (Kd.V (Kd.int .i64) 2 w24 w.heap.size (fun k_ => (P0_ k_ ∨ w.heap.size ≤ k_) ∧ oB v239 k_ ∧ oB v242 k_ ∧ oB v245 k_ ∧ oB (.slice Ao12 x7_1.length co12) k_ ∧ k_ ≠ gb234) (.slice A233_1 ((rd_T42 l0 x12_1).f1).length c233_1) ((rd_T42 l0 x12_1).f1)) := ⟨h1_⟩
         have n2_ : Aside0 (Kd.N (Kd.slice 2 (Kd.int .i64)) 36 w24 w.heap.size (fun k_ => (P0_ k_ ∨ w.heap.size ≤ k_) ∧ oB v242 k_ ∧ oB v245 k_ ∧ oB (.slice Ao12 x7_1.length co12) k_ ∧ k_ ≠ gb234) v239 y238) := ⟨h2_⟩
         have n3_ : Aside0 (Kd.R (Kd.int .i64) 2 w24 w.heap.size (fun k_ => (w.heap.size ≤ k_) ∧ oB v245 k_) v242 t241) := ⟨h3_⟩
         have n4_ : Aside0 (Kd.R (Kd.int .i64) 2 w24 w.heap.size (fun k_ => (w.heap.size ≤ k_) ∧ oB v242 k_) v245 y244) := ⟨h4_⟩
         have n5_ : Aside0 (Kd.V k42 42 w24 w.heap.size (fun k_ => (P0_ k_ ∨ w.heap.size ≤ k_) ∧ oB v239 k_ ∧ oB v242 k_ ∧ oB v245 k_ ∧ oB (.slice Ao12 x7_1.length co12) k_ ∧ k_ ≠ gb234) (.slice (some ad233) l0.length c0) l0) := ⟨h5_⟩
         have n6_ : Aside0 (Kd.S k42 42 w24 w.heap.size (fun k_ => (w.heap.size ≤ k_) ∧ oB v242 k_ ∧ oB v245 k_ ∧ k_ ≠ gb234) (.slice Ao12 x7_1.length co12) x7_1) := ⟨h6_⟩
         have n7_ : Aside0 (w24.heap[gb234]? = some (.cells #[.slice A233_0 ((rd_T42 l0 x12_1).f0).length c233_0, .slice A233_1 ((rd_T42 l0 x12_1).f1).length c233_1] 42 (0, 0))) := ⟨h7_⟩
         have n8_ : Aside0 (Below w.heap.size w w24) := ⟨h8_⟩
         clear HO_7 HO_10 HL233_0 HL233_1 BK234 HB h0_ h1_ h2_ h3_ h4_ h5_ h6_ h7_ h8_; have HL233_0 := n0_; have HL233_1 := n1_; have HO240 := n2_; have HO243 := n3_; have HO246 := n4_; have HO_10 := n5_; have HO_7 := n6_; have BK234 := n7_; have HB := n8_; clear n0_ n1_ n2_ n3_ n4_ n5_ n6_ n7_ n8_
         have hHeld : w24.cell? ⟨gb234, 0, none⟩ = some (.slice A233_0 ((rd_T42 l0 x12_1).f0).length c233_0) ∧ w24.cell? ⟨gb234, 1, none⟩ = some (.slice A233_1 ((rd_T42 l0 x12_1).f1).length c233_1) := hS_
         obtain ⟨Ao25, co25, eo25⟩ := Kd.R_slice HO246.out
         (first | subst eo25 | (injection eo25 with f1_ f2_ f3_; have f4_ := f1_.symm; have f5_ := f3_.symm; clear f1_ f2_ f3_; subst f4_; subst f5_))
         refine norm_ (a' := ?_) ?_ ?_
         rotate_left
         · simp only [putAll, Act.put, zH, zI, zJ]
           rfl
         refine one_ (i := 11) (N := some 27) (bz 17 4095) rfl rfl (one_of HT_.out (by kernel_rfl)) (by decide) (fun K hK => ?_)
         refine Kd.N_lit_step (Kd.slice 2 (Kd.int .i64)) _ 36 ?hg (N' := 27) ?hd (xs := ([y244, (rd_T42 l0 x12_1).f1] : List (List Int))) (inner := [.slice Ao25 y244.length co25, .slice A233_1 ((rd_T42 l0 x12_1).f1).length c233_1]) (ok := (fun k_ => (P0_ k_ ∨ w.heap.size ≤ k_) ∧ oB (.slice Ao12 x7_1.length co12) k_ ∧ oB v239 k_ ∧ oB v242 k_ ∧ k_ ≠ gb234)) (okp := (fun k_ => (P0_ k_ ∨ w.heap.size ≤ k_) ∧ oB (.slice Ao12 x7_1.length co12) k_ ∧ oB v239 k_ ∧ oB v242 k_ ∧ k_ ≠ gb234)) ?hr ?hp (fun _ hk => hk) ((show ∀ k_, w24.heap.size ≤ k_ → (fun k_ => (P0_ k_ ∨ w.heap.size ≤ k_) ∧ oB (.slice Ao12 x7_1.length co12) k_ ∧ oB v239 k_ ∧ oB v242 k_ ∧ k_ ≠ gb234) k_ from fun k_ hk => ⟨(.inr (Nat.le_trans (below_size (kB HB)) hk)), Kd.fresh' (Kd.S_lt (kS HO_7)) k_ hk, Kd.fresh' (Kd.N_lt (kQ HO240)) k_ hk, Kd.fresh' (yK (kA HO243)) k_ hk, Kd.freshB (g := gb234) (o := .cells #[.slice A233_0 ((rd_T42 l0 x12_1).f0).length c233_0, .slice A233_1 ((rd_T42 l0 x12_1).f1).length c233_1] 42 (0, 0)) (kM BK234) k_ hk⟩) _ (Nat.le_refl _)) (Below.refl _ _) (Nat.le_refl _) (by simp) ?_; (case hd => rfl); (case hg => rfl); (case hr => first | (go_simp; done) | (go_simp; rfl)); (case hp => exact (Reps.one (show Kd.FK (Kd.slice 2 (Kd.int .i64)) _ _ y244 [.slice Ao25 y244.length co25] from (Kd.FK_slice_mk (zA (zF (ok' := (fun k_ => (P0_ k_ ∨ w.heap.size ≤ k_) ∧ oB (.slice Ao12 x7_1.length co12) k_ ∧ oB v239 k_ ∧ oB v242 k_ ∧ k_ ≠ gb234)) (Kd.R_types (Kd.R_apart' (Kd.R_apart' (HO246.out) (Kd.S_typed HO_7.out) (by decide)) (Kd.N_typed HO240.out) (by decide)) BK234.out (by decide)) (fun k_ hk => ⟨(.inr (hk.1.1.1.1)), ⟨hk.1.1.2, ⟨hk.1.2, ⟨hk.1.1.1.2, hk.2⟩⟩⟩⟩))).2.1 (Kd.R_F (zF (ok' := (fun k_ => (P0_ k_ ∨ w.heap.size ≤ k_) ∧ oB (.slice Ao12 x7_1.length co12) k_ ∧ oB v239 k_ ∧ oB v242 k_ ∧ k_ ≠ gb234)) (Kd.R_types (Kd.R_apart' (Kd.R_apart' (HO246.out) (Kd.S_typed HO_7.out) (by decide)) (Kd.N_typed HO240.out) (by decide)) BK234.out (by decide)) (fun k_ hk => ⟨(.inr (hk.1.1.1.1)), ⟨hk.1.1.2, ⟨hk.1.2, ⟨hk.1.1.1.2, hk.2⟩⟩⟩⟩))))) (Reps.one (show Kd.FK (Kd.slice 2 (Kd.int .i64)) _ _ ((rd_T42 l0 x12_1).f1) [.slice A233_1 ((rd_T42 l0 x12_1).f1).length c233_1] from (Kd.FK_slice_mk (Kd.V_reads' (Kd.V_mono (ok' := (fun k_ => (P0_ k_ ∨ w.heap.size ≤ k_) ∧ oB (.slice Ao12 x7_1.length co12) k_ ∧ oB v239 k_ ∧ oB v242 k_ ∧ k_ ≠ gb234)) (HL233_1.out) (fun k_ hk => ⟨hk.1, ⟨hk.2.2.2.2.1, ⟨hk.2.1, ⟨hk.2.2.1, hk.2.2.2.2.2⟩⟩⟩⟩))).2.1 (Kd.V_F (Kd.V_mono (ok' := (fun k_ => (P0_ k_ ∨ w.heap.size ≤ k_) ∧ oB (.slice Ao12 x7_1.length co12) k_ ∧ oB v239 k_ ∧ oB v242 k_ ∧ k_ ≠ gb234)) (HL233_1.out) (fun k_ hk => ⟨hk.1, ⟨hk.2.2.2.2.1, ⟨hk.2.1, ⟨hk.2.2.1, hk.2.2.2.2.2⟩⟩⟩⟩))))) (Reps.none _ _))))
         intro v248 w26 ho27 hb hg_ hnew_
         clear hg_ hnew_
         (first | rw [← Ny247.out] at ho27 | (simp only [Int.reduceToNat] at ho27; rw [← Ny247.out] at ho27))
         have n0_ := yD (Kd.S_below (kS HO_7) hb)
         have n1_ := yD (Kd.V_elder' (kU HO_10) (Kd.N_base ho27) hb)
         have n2_ := yD (Kd.V_elder' (kU HL233_0) (Kd.N_base ho27) hb)
         have n3_ := yD (Kd.V_elder' (kU HL233_1) (Kd.N_base ho27) hb)
         have n4_ := yD (Kd.N_elder' (kQ HO240) (Kd.N_base ho27) hb)
         have n5_ := yD (zE (kA HO243) hb)
         have n6_ := yD (Kd.N_lower ho27 (below_size (kB HB)))
         have n7_ := yD (zB (kN BK234) hb)
         have n8_ := yD (zC (kB HB) hb)
         clear HO_7 HO_10 HL233_0 HL233_1 HO240 HO243 BK234 HB HO246; have HO_7 := n0_; have HO_10 := n1_; have HL233_0 := n2_; have HL233_1 := n3_; have HO240 := n4_; have HO243 := n5_; have HO249 := n6_; have BK234 := n7_; have HB := n8_; clear n0_ n1_ n2_ n3_ n4_ n5_ n6_ n7_ n8_ hb ho27
         refine hK.out _ _ ⟨(yG BK234.out 0).trans rfl, (yG BK234.out 1).trans rfl⟩ (fun hHeld => ?_)
         clear hK K
         refine norm_ (a' := ?_) ?_ ?_
         rotate_left
         · show Act.put _ (some 27) _ = _
           simp only [Act.put, zH, zI, zJ, i64_w, i32_w]
           rfl
         exact norm_ (by first | (simp only [putAll, Act.put, zH, zI, zJ]; done) | (simp only [putAll, Act.put, zH, zI, zJ]; rfl)) (hJ2_5_6_8_11 (v236, v239, v242, .slice Ao25 y244.length co25, v248) _ ⟨hHeld, (mV HL233_0 (fun _ hk => ⟨hk.1.1, ⟨hk.1.2.1, ⟨hk.1.2.2.1, ⟨hk.2, ⟨hk.1.2.2.2.2.1, hk.1.2.2.2.2.2⟩⟩⟩⟩⟩)), (mV HL233_1 (fun _ hk => ⟨hk.1.1, ⟨hk.1.2.1, ⟨hk.1.2.2.1, ⟨hk.2, ⟨hk.1.2.2.2.2.1, hk.1.2.2.2.2.2⟩⟩⟩⟩⟩)), (mN HO240 (fun _ hk => ⟨hk.1.1, ⟨hk.1.2.1, ⟨hk.2, ⟨hk.1.2.2.2.1, hk.1.2.2.2.2⟩⟩⟩⟩)), (mR HO243 (fun _ hk => hk.1)), (mN HO249 (fun _ hk => ⟨hk.1, ⟨hk.2.2.1, ⟨hk.2.2.2.1, ⟨hk.2.1, hk.2.2.2.2⟩⟩⟩⟩)), (mV HO_10 (fun _ hk => ⟨hk.1.1, ⟨hk.1.2.1, ⟨hk.1.2.2.1, ⟨hk.2, ⟨hk.1.2.2.2.2.1, hk.1.2.2.2.2.2⟩⟩⟩⟩⟩)), (mS HO_7 (fun _ hk => ⟨hk.1, ⟨hk.2.1, hk.2.2.2⟩⟩)), (kM BK234), (kB HB)⟩)
       rintro ⟨v236, v239, v242, v245, v248⟩ w27 ⟨hS_, h0_, h1_, h2_, h3_, h4_, h5_, h6_, h7_, h8_⟩
       have n0_ : Aside0 (Kd.V (Kd.int .i64) 2 w27 w.heap.size (fun k_ => (P0_ k_ ∨ w.heap.size ≤ k_) ∧ oB v239 k_ ∧ oB v242 k_ ∧ oB v248 k_ ∧ oB (.slice Ao12 x7_1.length co12) k_ ∧ k_ ≠ gb234) (.slice A233_0 ((rd_T42 l0 x12_1).f0).length c233_0) ((rd_T42 l0 x12_1).f0)) := ⟨h0_⟩
       have n1_ : Aside0 (Kd.V (Kd.int .i64) 2 w27 w.heap.size (fun k_ => (P0_ k_ ∨ w.heap.size ≤ k_) ∧ oB v239 k_ ∧ oB v242 k_ ∧ oB v248 k_ ∧ oB (.slice Ao12 x7_1.length co12) k_ ∧ k_ ≠ gb234) (.slice A233_1 ((rd_T42 l0 x12_1).f1).length c233_1) ((rd_T42 l0 x12_1).f1)) := ⟨h1_⟩
       have n2_ : Aside0 (Kd.N (Kd.slice 2 (Kd.int .i64)) 36 w27 w.heap.size (fun k_ => (P0_ k_ ∨ w.heap.size ≤ k_) ∧ oB v242 k_ ∧ oB v248 k_ ∧ oB (.slice Ao12 x7_1.length co12) k_ ∧ k_ ≠ gb234) v239 y238) := ⟨h2_⟩
       have n3_ : Aside0 (Kd.R (Kd.int .i64) 2 w27 w.heap.size (fun k_ => (w.heap.size ≤ k_)) v242 t241) := ⟨h3_⟩
       have n4_ : Aside0 (Kd.N (Kd.slice 2 (Kd.int .i64)) 36 w27 w.heap.size (fun k_ => (P0_ k_ ∨ w.heap.size ≤ k_) ∧ oB v239 k_ ∧ oB v242 k_ ∧ oB (.slice Ao12 x7_1.length co12) k_ ∧ k_ ≠ gb234) v248 y247) := ⟨h4_⟩
       have n5_ : Aside0 (Kd.V k42 42 w27 w.heap.size (fun k_ => (P0_ k_ ∨ w.heap.size ≤ k_) ∧ oB v239 k_ ∧ oB v242 k_ ∧ oB v248 k_ ∧ oB (.slice Ao12 x7_1.length co12) k_ ∧ k_ ≠ gb234) (.slice (some ad233) l0.length c0) l0) := ⟨h5_⟩
       have n6_ : Aside0 (Kd.S k42 42 w27 w.heap.size (fun k_ => (w.heap.size ≤ k_) ∧ oB v242 k_ ∧ k_ ≠ gb234) (.slice Ao12 x7_1.length co12) x7_1) := ⟨h6_⟩
       have n7_ : Aside0 (w27.heap[gb234]? = some (.cells #[.slice A233_0 ((rd_T42 l0 x12_1).f0).length c233_0, .slice A233_1 ((rd_T42 l0 x12_1).f1).length c233_1] 42 (0, 0))) := ⟨h7_⟩
       have n8_ : Aside0 (Below w.heap.size w w27) := ⟨h8_⟩
       clear HO_7 HO_10 HL233_0 HL233_1 BK234 HB h0_ h1_ h2_ h3_ h4_ h5_ h6_ h7_ h8_; have HL233_0 := n0_; have HL233_1 := n1_; have HO240 := n2_; have HO243 := n3_; have HO249 := n4_; have HO_10 := n5_; have HO_7 := n6_; have BK234 := n7_; have HB := n8_; clear n0_ n1_ n2_ n3_ n4_ n5_ n6_ n7_ n8_
       have hHeld : w27.cell? ⟨gb234, 0, none⟩ = some (.slice A233_0 ((rd_T42 l0 x12_1).f0).length c233_0) ∧ w27.cell? ⟨gb234, 1, none⟩ = some (.slice A233_1 ((rd_T42 l0 x12_1).f1).length c233_1) := hS_
       obtain ⟨Ao28, co28, eo28⟩ := Kd.N_slice HO249.out
       (first | subst eo28 | (injection eo28 with f1_ f2_ f3_; have f4_ := f1_.symm; have f5_ := f3_.symm; clear f1_ f2_ f3_; subst f4_; subst f5_))
       refine norm_ (a' := ?_) ?_ ?_
       rotate_left
       · simp only [putAll, Act.put, zH, zI, zJ]
         rfl
       refine one_ (i := 12) (N := some 28) (bz 17 8191) rfl rfl (one_of HT_.out (by kernel_rfl)) (by decide) (fun K hK => ?_)
       refine goes_ Try.func146 (by kernel_rfl) rfl #[.slice Ao28 y247.length co28] (by rfl) rfl rfl (by (try simp only [zK, zL, zM]); first | done | rfl | (simp only [zN, zO]; rfl)) ?_
       with_reducible refine (slices_Concat_int64_int64.calls k1 _ _ y247 t250 _ ?side1 ?side2 A8.out).mono ?_
       (case side1 => exact kV (Kd.N_reads' HO249.out).2.2)
       (case side2 => exact (Kd.N_reads' HO249.out).2.1)
       rintro e w29 ⟨v251, rfl, ho0, hb⟩
       refine ⟨_, rfl, ?_⟩
       have n0_ := yD (Kd.S_elder' (kS HO_7) (yH ho0) hb)
       have n1_ := yD (Kd.V_elder' (kU HO_10) (yH ho0) hb)
       have n2_ := yD (Kd.V_elder' (kU HL233_0) (yH ho0) hb)
       have n3_ := yD (Kd.V_elder' (kU HL233_1) (yH ho0) hb)
       have n4_ := yD (Kd.N_elder' (kQ HO240) (yH ho0) hb)
       have n5_ := yD (Kd.R_elder' (kA HO243) (yH ho0) hb)
       have n6_ := yD (Kd.N_elder' (kQ HO249) (yH ho0) hb)
       have n7_ := yD (yZ (yJ (Kd.R_newM (M := fun k_ => (w.heap.size ≤ k_)) ho0 (below_size (kB HB)) (fun k_ h_ => h_)) (yK (kA HO243))) (below_size (kB HB)))
       have n8_ := yD (zB (kN BK234) hb)
       have n9_ := yD (zC (kB HB) hb)
       clear HO_7 HO_10 HL233_0 HL233_1 HO240 HO243 HO249 BK234 HB; have HO_7 := n0_; have HO_10 := n1_; have HL233_0 := n2_; have HL233_1 := n3_; have HO240 := n4_; have HO243 := n5_; have HO249 := n6_; have HO252 := n7_; have BK234 := n8_; have HB := n9_; clear n0_ n1_ n2_ n3_ n4_ n5_ n6_ n7_ n8_ n9_; (try clear hb); (try clear hb2); (try clear hk); (try clear hi); (try clear ho0)
       obtain ⟨Ao30, co30, eo30⟩ := Kd.R_slice HO252.out
       (first | subst eo30 | (injection eo30 with f1_ f2_ f3_; have f4_ := f1_.symm; have f5_ := f3_.symm; clear f1_ f2_ f3_; subst f4_; subst f5_))
       obtain ⟨Ao31, co31, eo31⟩ := Kd.R_slice HO243.out
       (first | subst eo31 | (injection eo31 with f1_ f2_ f3_; have f4_ := f1_.symm; have f5_ := f3_.symm; clear f1_ f2_ f3_; subst f4_; subst f5_))
       refine hK.out _ _ ⟨(yG BK234.out 0).trans rfl, (yG BK234.out 1).trans rfl⟩ (fun hHeld => ?_)
       clear hK K
       refine norm_ (a' := ?_) ?_ ?_
       rotate_left
       · show Act.put _ (some 28) _ = _
         simp only [Act.put, zH, zI, zJ, i64_w, i32_w]
         rfl
       refine qA 13 29 (bz 17 16383) HT_ ?_
       refine one_ (i := 14) (N := some 30) (bz 17 32767) rfl rfl (one_of HT_.out (by kernel_rfl)) (by decide) (fun K hK => ?_)
       refine value_ (w1 := ?_) (v := ?_) (by rfl) rfl ?_ ?_
       rotate_left 2
       · go_simp
         constructor
         · rfl
         · rfl
       refine hK.out _ _ ⟨(yG (yN BK234.out _) 0).trans rfl, (yG (yN BK234.out _) 1).trans rfl⟩ (fun hHeld => ?_)
       clear hK K
       refine norm_ (a' := ?_) ?_ ?_
       rotate_left
       · show Act.put _ (some 30) _ = _
         simp only [Act.put, zH, zI, zJ, i64_w, i32_w]
         rfl
       refine one_ (i := 15) (N := some 31) (bz 17 65535) rfl rfl (one_of HT_.out (by kernel_rfl)) (by decide) (fun K hK => ?_)
       refine Kd.S_append_step k42 (w0 := w) w.heap.size (by rfl) (.tmp 16) (.tmp 30) 24 42 (.agg #[(.slice none 0 0), (.slice none 0 0)]) 48 rfl Try.underlying24 info42 rfl (by decide) (by omega) (.slice Ao12 x7_1.length co12) x7_1 (⟨t241, t250⟩ : S42) [.slice Ao31 t241.length co31, .slice Ao30 t250.length co30] (fun k_ => (w.heap.size ≤ k_) ∧ k_ ≠ gb234) (fun k_ => some k_ = (.slice Ao31 t241.length co31 : Value).ownBlock ∨ some k_ = (.slice Ao30 t250.length co30 : Value).ownBlock) rfl rfl ?aP (fun k_ hk_ => hk_.elim (fun h_ => ((zF (ok' := fun k_ => ((fun k_ => (w.heap.size ≤ k_) ∧ k_ ≠ gb234)) k_ ∧ oB (.slice Ao12 x7_1.length co12) k_) (Kd.R_types (Kd.R_apart' (HO243.out) (Kd.S_typed HO_7.out) (by decide)) BK234.out (by decide)) (fun k_ hk => ⟨⟨hk.1.1.1, hk.2⟩, hk.1.2⟩))).1 k_ h_.symm) (fun h_ => ((zF (ok' := fun k_ => ((fun k_ => (w.heap.size ≤ k_) ∧ k_ ≠ gb234)) k_ ∧ oB (.slice Ao12 x7_1.length co12) k_) (Kd.R_types (Kd.R_apart' (HO252.out) (Kd.S_typed HO_7.out) (by decide)) BK234.out (by decide)) (fun k_ hk => ⟨⟨hk.1.1.1.1, hk.2⟩, hk.1.2⟩))).1 k_ h_.symm)) ?aF ?aO ?aB ?aS ?aL ?_
       (case aP => exact k42_mkM _ _ _ (⟨t241, t250⟩ : S42) (zF (Kd.R_tight rfl (zF (ok' := fun k_ => ((fun k_ => (w.heap.size ≤ k_) ∧ k_ ≠ gb234)) k_ ∧ oB (.slice Ao12 x7_1.length co12) k_) (Kd.R_types (Kd.R_apart' (HO243.out) (Kd.S_typed HO_7.out) (by decide)) BK234.out (by decide)) (fun k_ hk => ⟨⟨hk.1.1.1, hk.2⟩, hk.1.2⟩))) (fun _ h_ => Or.inl h_)) (zF (Kd.R_tight rfl (zF (ok' := fun k_ => ((fun k_ => (w.heap.size ≤ k_) ∧ k_ ≠ gb234)) k_ ∧ oB (.slice Ao12 x7_1.length co12) k_) (Kd.R_types (Kd.R_apart' (HO252.out) (Kd.S_typed HO_7.out) (by decide)) BK234.out (by decide)) (fun k_ hk => ⟨⟨hk.1.1.1.1, hk.2⟩, hk.1.2⟩))) (fun _ h_ => Or.inr (h_))))
       (case aB => exact (kB HB))
       (case aF => exact (fun k_ hk => ⟨(Nat.le_trans (below_size (kB HB)) hk), Kd.freshB (g := gb234) (o := .cells #[.slice A233_0 ((rd_T42 l0 x12_1).f0).length c233_0, .slice A233_1 ((rd_T42 l0 x12_1).f1).length c233_1] 42 (0, 0)) (kM BK234) k_ hk⟩))
       (case aO => exact (mS HO_7 (fun k_ hk => ⟨⟨hk.1.1, hk.1.2.2⟩, fun e_ => e_.elim (fun h_ => hk.1.2.1 h_) (fun h_ => hk.2 h_)⟩)))
       (case aS => exact (below_size (kB HB)))
       (case aL => have := LMc9.out; omega)
       intro v254 w32 ho hb hg hat
       rw [← Ny253.out] at ho
       have n0_ := yD (Kd.V_afterv (ok := (fun k_ => (P0_ k_ ∨ w.heap.size ≤ k_) ∧ oB v239 k_ ∧ oB (.slice Ao31 t241.length co31) k_ ∧ oB (.slice Ao28 y247.length co28) k_ ∧ oB (.slice Ao30 t250.length co30) k_ ∧ k_ ≠ gb234)) (mV HO_10 (fun _ hk => ⟨⟨hk.1.1, ⟨hk.1.2.1, ⟨hk.1.2.2.1, ⟨hk.1.2.2.2.1, ⟨hk.2, hk.1.2.2.2.2.2⟩⟩⟩⟩⟩, hk.1.2.2.2.2.1⟩)) hg hat)
       have n1_ := yD (Kd.V_afterv (ok := (fun k_ => (P0_ k_ ∨ w.heap.size ≤ k_) ∧ oB v239 k_ ∧ oB (.slice Ao31 t241.length co31) k_ ∧ oB (.slice Ao28 y247.length co28) k_ ∧ oB (.slice Ao30 t250.length co30) k_ ∧ k_ ≠ gb234)) (mV HL233_0 (fun _ hk => ⟨⟨hk.1.1, ⟨hk.1.2.1, ⟨hk.1.2.2.1, ⟨hk.1.2.2.2.1, ⟨hk.2, hk.1.2.2.2.2.2⟩⟩⟩⟩⟩, hk.1.2.2.2.2.1⟩)) hg hat)
       have n2_ := yD (Kd.V_afterv (ok := (fun k_ => (P0_ k_ ∨ w.heap.size ≤ k_) ∧ oB v239 k_ ∧ oB (.slice Ao31 t241.length co31) k_ ∧ oB (.slice Ao28 y247.length co28) k_ ∧ oB (.slice Ao30 t250.length co30) k_ ∧ k_ ≠ gb234)) (mV HL233_1 (fun _ hk => ⟨⟨hk.1.1, ⟨hk.1.2.1, ⟨hk.1.2.2.1, ⟨hk.1.2.2.2.1, ⟨hk.2, hk.1.2.2.2.2.2⟩⟩⟩⟩⟩, hk.1.2.2.2.2.1⟩)) hg hat)
       have n3_ := yD (blk_grown (g := gb234) (o := .cells #[.slice A233_0 ((rd_T42 l0 x12_1).f0).length c233_0, .slice A233_1 ((rd_T42 l0 x12_1).f1).length c233_1] 42 (0, 0)) (kM BK234) hg (Kd.S_away HO_7.out (fun _ hk => hk.1.2.2)))
       have n4_ := yD (Kd.N_afterv (ok := (fun k_ => (P0_ k_ ∨ w.heap.size ≤ k_) ∧ oB (.slice Ao31 t241.length co31) k_ ∧ oB (.slice Ao28 y247.length co28) k_ ∧ oB (.slice Ao30 t250.length co30) k_ ∧ k_ ≠ gb234)) (mN HO240 (fun _ hk => ⟨⟨hk.1.1, ⟨hk.1.2.1, ⟨hk.1.2.2.1, ⟨hk.2, hk.1.2.2.2.2⟩⟩⟩⟩, hk.1.2.2.2.1⟩)) hg hat)
       have n5_ := yD (Kd.N_afterv (ok := (fun k_ => (P0_ k_ ∨ w.heap.size ≤ k_) ∧ oB v239 k_ ∧ oB (.slice Ao31 t241.length co31) k_ ∧ oB (.slice Ao30 t250.length co30) k_ ∧ k_ ≠ gb234)) (mN HO249 (fun _ hk => ⟨⟨hk.1.1, ⟨hk.1.2.1, ⟨hk.1.2.2.1, ⟨hk.2, hk.1.2.2.2.2⟩⟩⟩⟩, hk.1.2.2.2.1⟩)) hg hat)
       have n6_ := yD (hb)
       have n7_ := yD (ho)
       clear HO_10 HL233_0 HL233_1 BK234 HO240 HO249 HB HO_7 HO243 HO252; have HO_10 := n0_; have HL233_0 := n1_; have HL233_1 := n2_; have BK234 := n3_; have HO240 := n4_; have HO249 := n5_; have HB := n6_; have HO255 := n7_; clear n0_ n1_ n2_ n3_ n4_ n5_ n6_ n7_ ho hb hg hat
       refine hK.out _ _ ⟨(yG BK234.out 0).trans rfl, (yG BK234.out 1).trans rfl⟩ (fun hHeld => ?_)
       clear hK K
       refine norm_ (a' := ?_) ?_ ?_
       rotate_left
       · show Act.put _ (some 31) _ = _
         simp only [Act.put, zH, zI, zJ, i64_w, i32_w]
         rfl
       refine qA 16 7 (bz 17 131071) HT_ ?_
       refine done_ (done_of HT_.out (by kernel_rfl)) ?_
       try go_wp2
       go_roundg k1
       case measure => have := HK1.out; omega
       case rel => exact ⟨(y253), (wrap64 (x12_1 + 1)), (by first | rfl | (simp; done) | (simp [*]; done)), H', ⟨by have := HK1.out; omega⟩, ⟨mS HO255 (fun _ hk => hk.1)⟩, ⟨mV HO_10 (fun _ hk => ⟨hk.1.1, hk.2⟩)⟩, ⟨kR1 HB⟩⟩
      · rw [if_neg c9] at H
        exact absurd H (by simp)
     · rw [if_neg c6] at H
       exact absurd H (by simp)
    · rw [if_neg c5] at H
      exact absurd H (by simp)
   · rw [if_neg c4] at H
     have c4b0 : decide (x12_1 < (l0.length : Int)) = false := zS c4; clear c4; obtain rfl := Option.some.inj H
     go_wp2
     go_ret
     exact ⟨_, by first | rfl | (simp <;> rfl) | (simp [*] <;> rfl), kS HO_7, kR0 HB⟩
end Go.Proofs.Ytdiaebjbiddefaa.PFnSlabAlgebra
