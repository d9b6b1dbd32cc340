/- Each Go function here comes to what the plain function of its name says, where that says something. Made by a program of this session, over the print. -/
import Derived.Test.YtdiaebjbiddefaaPFnExactSubtractBoxesx0
namespace Go.Proofs.Ytdiaebjbiddefaa.PFnExactSubtractBoxes
open Go.RowKit Go.Proofs.YtdiaebjbiddefaaW.PrintWords Go.Proofs.YtdiaebjbiddefaaW.PrintLast Go.Proofs.YtdiaebjbiddefaaW.PrintMore
attribute [local go_sem] max2_int min2_int max_two min_two max_three min_three max_four min_four   -- for this text's walks alone
set_option linter.unusedVariables false
set_option linter.unusedSimpArgs false

/-! ### spec_l00Same: function 160 -/
def spec_l00Same.l0 : Nat → List Int → List Int → Int → Option (Bool)
 | 0, _, _, _ => none
 | k + 1, x0, x1, x5 => if x5 < (x0.length : Int) then (if 0 ≤ x5 then (if x5 < (x1.length : Int) then (if (rd x0 x5) = (rd x1 x5) then (spec_l00Same.l0 k x0 x1 (wrap64 (x5 + 1))) else (some false)) else (none)) else (none)) else (some true)
def spec_l00Same.f (k : Nat) (l0 : List Int) (l1 : List Int) : Option (Bool) := if (l0.length : Int) = (l1.length : Int) then (spec_l00Same.l0 k l0 l1 0) else (some false)
theorem spec_l00Same.mono_l : ∀ k, (∀ y0 y1 y2, LeO (spec_l00Same.l0 k y0 y1 y2) (spec_l00Same.l0 (k + 1) y0 y1 y2))
 | 0 => fun _ _ _ r h => by simp [spec_l00Same.l0] at h
 | k + 1 => by
  have ih0 := spec_l00Same.mono_l k
  · intro y0 y1 y2
    unfold spec_l00Same.l0
    repeat' (with_reducible first | exact ih0 _ _ _ | exact LeO.refl _ | exact LeO.none _ | refine LeO.ite ?_ ?_ | refine LeO.bind ?_ (fun _ => ?_))
theorem spec_l00Same.mono : ∀ a0 a1 k, LeO (spec_l00Same.f k a0 a1) (spec_l00Same.f (k + 1) a0 a1) := by
 intro a0 a1 k
 have ih0 := spec_l00Same.mono_l k
 unfold spec_l00Same.f
 repeat' (with_reducible first | exact ih0 _ _ _ | exact LeO.refl _ | exact LeO.none _ | refine LeO.ite ?_ ?_ | refine LeO.bind ?_ (fun _ => ?_))
set_option maxHeartbeats 8000000 in
set_option maxRecDepth 100000 in
theorem spec_l00Same.calls (k : Nat) (A0 : Option Addr) (c0 : Nat) (l0 : List Int) (A1 : Option Addr) (c1 : Nat) (l1 : List Int) (r : Bool) (w : World) (hr0 : Kd.C (Kd.int .i64) w A0 l0.length l0) (hc0 : l0.length ≤ c0) (hr1 : Kd.C (Kd.int .i64) w A1 l1.length l1) (hc1 : l1.length ≤ c1) (h : spec_l00Same.f k l0 l1 = some r) :
 Calls Try.prog 160 #[.slice A0 l0.length c0, .slice A1 l1.length c1] w fun e w' => e = .returned (.bool r) ∧ Drawn0 w w' := by
 have HR0 := yD hr0
 have HC0 := yD hc0
 clear hr0 hc0
 have HR1 := yD hr1
 have HC1 := yD hc1
 clear hr1 hc1
 have H : (if (l0.length : Int) = (l1.length : Int) then (spec_l00Same.l0 k l0 l1 0) else (some false)) = some r := h
 clear h
 by_cases c3 : (l0.length : Int) = (l1.length : Int)
 ·
  rw [if_pos c3] at H
  have c3b0 : ((l0.length : Int) == (l1.length : Int)) = true := beq_iff_eq.mpr c3
  have c3b1 : ((l0.length : Int) != (l1.length : Int)) = false := bne_eq_false_iff_eq.mpr c3
  have c3b2 : (l0.length == l1.length) = true := by first | simpa using c3 | (simp at c3 ⊢; omega)
  clear c3
  have H' := yD H
  clear H; go_enter Try.func160, Try.ntmps160
  go_wp2
  repeat (go_quiet (fail); try go_wp2)
  go_loopg [5] k (fun kq v5 w' => ∃ (x5_1 : Int), v5 = .int .i64 x5_1 ∧ Aside0 (spec_l00Same.l0 kq l0 l1 x5_1 = some r) ∧ Aside0 (kq ≤ k) ∧ Drawn0 w w')
  case atStart => exact ⟨(0), (by first | rfl | (simp; done) | (simp [*]; done)), H', ⟨Nat.le_refl _⟩, by repeat (first | exact Drawn0.refl _ | apply Drawn0.step)⟩
  case round =>
   clear H'
   try clear c1; try clear c3; try clear c3b0; try clear c3b1; try clear c3b2
   obtain ⟨x5_1, rfl, HA, HK1, ⟨m1, rfl⟩⟩ := hrel
   cases gk with
   | zero => exact absurd HA.out (by simp [spec_l00Same.l0])
   | succ k1 =>
    have H := HA.out; clear HA
    simp only [spec_l00Same.l0] at H
    by_cases c4 : x5_1 < (l0.length : Int)
    ·
     rw [if_pos c4] at H
     have c4b0 : decide (x5_1 < (l0.length : Int)) = true := zR c4; clear c4
     by_cases c5 : 0 ≤ x5_1
     ·
      rw [if_pos c5] at H
      have c5b0 : decide (0 ≤ x5_1) = true := zR c5; clear c5
      by_cases c6 : x5_1 < (l1.length : Int)
      ·
       rw [if_pos c6] at H
       have c6b0 : decide (x5_1 < (l1.length : Int)) = true := zR c6; clear c6
       by_cases c7 : (rd l0 x5_1) = (rd l1 x5_1)
       ·
        rw [if_pos c7] at H
        have c7b0 : ((rd l0 x5_1) == (rd l1 x5_1)) = true := beq_iff_eq.mpr c7
        have c7b1 : ((rd l0 x5_1) != (rd l1 x5_1)) = false := bne_eq_false_iff_eq.mpr c7
        clear c7
        have H' := yD H
        clear H
        have p199 : 0 ≤ (x5_1 : Int) := zP (by assumption)
        have q199 : x5_1 < (l0.length : Int) := zP (by assumption)
        obtain ⟨ad199, e199, hx199_0⟩ := Kd.at_int HR0.out x5_1 p199 q199
        cases e199; replace p199 := eq_true p199; replace q199 := eq_true q199
        have p200 : 0 ≤ (x5_1 : Int) := zP (by assumption)
        have q200 : x5_1 < (l1.length : Int) := zP (by assumption)
        obtain ⟨ad200, e200, hx200_0⟩ := Kd.at_int HR1.out x5_1 p200 q200
        cases e200; replace p200 := eq_true p200; replace q200 := eq_true q200
        go_wp2
        repeat (go_quiet (fail); try go_wp2)
        go_roundg k1
        case measure => have := HK1.out; omega
        case rel => exact ⟨(wrap64 (x5_1 + 1)), (by first | rfl | (simp; done) | (simp [*]; done)), H', ⟨by have := HK1.out; omega⟩, by repeat (first | exact Drawn0.refl _ | apply Drawn0.step)⟩
       ·
        rw [if_neg c7] at H
        have c7b0 : ((rd l0 x5_1) == (rd l1 x5_1)) = false := beq_eq_false_iff_ne.mpr c7
        have c7b1 : ((rd l0 x5_1) != (rd l1 x5_1)) = true := bne_iff_ne.mpr c7
        obtain rfl := Option.some.inj H
        have p199 : 0 ≤ (x5_1 : Int) := zP (by assumption)
        have q199 : x5_1 < (l0.length : Int) := zP (by assumption)
        obtain ⟨ad199, e199, hx199_0⟩ := Kd.at_int HR0.out x5_1 p199 q199
        cases e199; replace p199 := eq_true p199; replace q199 := eq_true q199
        have p200 : 0 ≤ (x5_1 : Int) := zP (by assumption)
        have q200 : x5_1 < (l1.length : Int) := zP (by assumption)
        obtain ⟨ad200, e200, hx200_0⟩ := Kd.at_int HR1.out x5_1 p200 q200
        cases e200; replace p200 := eq_true p200; replace q200 := eq_true q200
        go_wp2
        repeat (go_quiet (fail); try go_wp2)
        go_ret
        exact ⟨by first | rfl | (simp; done) | (simp [*]; done), by repeat (first | exact Drawn0.refl _ | apply Drawn0.step)⟩
      · rw [if_neg c6] at H
        exact absurd H (by simp)
     · rw [if_neg c5] at H
       exact absurd H (by simp)
    · rw [if_neg c4] at H
      have c4b0 : decide (x5_1 < (l0.length : Int)) = false := zS c4; clear c4; obtain rfl := Option.some.inj H
      go_wp2
      repeat (go_quiet (fail); try go_wp2)
      go_ret
      exact ⟨by first | rfl | (simp; done) | (simp [*]; done), by repeat (first | exact Drawn0.refl _ | apply Drawn0.step)⟩
 ·
  rw [if_neg c3] at H
  have c3b0 : ((l0.length : Int) == (l1.length : Int)) = false := beq_eq_false_iff_ne.mpr c3
  have c3b1 : ((l0.length : Int) != (l1.length : Int)) = true := bne_iff_ne.mpr c3
  have c3b2 : (l0.length == l1.length) = false := by first | simpa using c3 | (simp at c3 ⊢; omega)
  obtain rfl := Option.some.inj H; go_enter Try.func160, Try.ntmps160
  go_wp2
  repeat (go_quiet (fail); try go_wp2)
  go_ret
  exact ⟨by first | rfl | (simp; done) | (simp [*]; done), by repeat (first | exact Drawn0.refl _ | apply Drawn0.step)⟩

/-! ### spec_l07SameBox: function 149 -/
def spec_l07SameBox.f (k : Nat) (l0_0 : List Int) (l0_1 : List Int) (l1_0 : List Int) (l1_1 : List Int) : Option (Bool) := (spec_l00Same.f k l0_0 l1_0).bind fun t203 => (if t203 = true then ((spec_l00Same.f k l0_1 l1_1).bind fun t204 => (some t204)) else (some false))
theorem spec_l07SameBox.mono : ∀ a0 a1 a2 a3 k, LeO (spec_l07SameBox.f k a0 a1 a2 a3) (spec_l07SameBox.f (k + 1) a0 a1 a2 a3) := by
 intro a0 a1 a2 a3 k
 unfold spec_l07SameBox.f
 repeat' (with_reducible first | exact spec_l00Same.mono _ _ _ | exact LeO.refl _ | exact LeO.none _ | refine LeO.ite ?_ ?_ | refine LeO.bind ?_ (fun _ => ?_))
set_option maxHeartbeats 8000000 in
set_option maxRecDepth 100000 in
theorem spec_l07SameBox.calls (k : Nat) (A0_0 : Option Addr) (c0_0 : Nat) (l0_0 : List Int) (A0_1 : Option Addr) (c0_1 : Nat) (l0_1 : List Int) (A1_0 : Option Addr) (c1_0 : Nat) (l1_0 : List Int) (A1_1 : Option Addr) (c1_1 : Nat) (l1_1 : List Int) (r : Bool) (w : World) (hr0_0 : Kd.C (Kd.int .i64) w A0_0 l0_0.length l0_0) (hc0_0 : l0_0.length ≤ c0_0) (hr0_1 : Kd.C (Kd.int .i64) w A0_1 l0_1.length l0_1) (hc0_1 : l0_1.length ≤ c0_1) (hr1_0 : Kd.C (Kd.int .i64) w A1_0 l1_0.length l1_0) (hc1_0 : l1_0.length ≤ c1_0) (hr1_1 : Kd.C (Kd.int .i64) w A1_1 l1_1.length l1_1) (hc1_1 : l1_1.length ≤ c1_1) (h : spec_l07SameBox.f k l0_0 l0_1 l1_0 l1_1 = some r) :
 Calls Try.prog 149 #[.agg #[.slice A0_0 l0_0.length c0_0, .slice A0_1 l0_1.length c0_1], .agg #[.slice A1_0 l1_0.length c1_0, .slice A1_1 l1_1.length c1_1]] w fun e w' => e = .returned (.bool r) ∧ Below w.heap.size w w' := by
 have hu42 := Try.underlying42
 have HR0_0 := yD hr0_0
 have HC0_0 := yD hc0_0
 clear hr0_0 hc0_0
 have HR0_1 := yD hr0_1
 have HC0_1 := yD hc0_1
 clear hr0_1 hc0_1
 have HR1_0 := yD hr1_0
 have HC1_0 := yD hc1_0
 clear hr1_0 hc1_0
 have HR1_1 := yD hr1_1
 have HC1_1 := yD hc1_1
 clear hr1_1 hc1_1
 have HB := yD (Below.refl w.heap.size w)
 have H : ((spec_l00Same.f k l0_0 l1_0).bind fun t203 => (if t203 = true then ((spec_l00Same.f k l0_1 l1_1).bind fun t204 => (some t204)) else (some false))) = some r := h
 clear h
 obtain ⟨t203, A30, H⟩ := zW_ H
 replace H : (if t203 = true then ((spec_l00Same.f k l0_1 l1_1).bind fun t204 => (some t204)) else (some false)) = some r := H
 have A3 := yD A30
 clear A30
 by_cases c4 : t203 = true
 ·
  subst c4
  replace H : ((spec_l00Same.f k l0_1 l1_1).bind fun t204 => (some t204)) = some r := (by rw [if_pos rfl] at H; exact H)
  obtain ⟨t204, A50, H⟩ := zW_ H
  replace H : (some t204) = some r := H
  have A5 := yD A50
  clear A50; obtain rfl := Option.some.inj H; go_enter Try.func149, Try.ntmps149
  go_wp2_with (first | ((with_reducible refine gate_dst (N := 2) rfl ?_); refine box_event ?hg (N := 2) ?hd (cs := #[.slice A0_0 l0_0.length c0_0, .slice A0_1 l0_1.length c0_1]) (t := 42) ?hr ?_; (case hd => rfl); (case hg => rfl); (case hr => first | (go_simp; done) | (go_simp; rfl)); intro gb201 hg w6 hbox hb; have BK201 := yD (hbox); have GW201 := yD ((by rw [hg]; exact (below_size (kB HB)) : w.heap.size ≤ gb201)); have GE201 := yD ((by rw [hg]; exact (below_size (kB HB)) : w.heap.size ≤ gb201)); replace HB := yD (zC (kB HB) hb); clear hb hbox hg) | ((with_reducible refine gate_dst (N := 3) rfl ?_); refine box_event ?hg (N := 3) ?hd (cs := #[.slice A1_0 l1_0.length c1_0, .slice A1_1 l1_1.length c1_1]) (t := 42) ?hr ?_; (case hd => rfl); (case hg => rfl); (case hr => first | (go_simp; done) | (go_simp; rfl)); intro gb202 hg w7 hbox hb; have BK202 := yD (hbox); have GW202 := yD ((by rw [hg]; exact (below_size (kB HB)) : w.heap.size ≤ gb202)); have GE202 := yD ((by rw [hg]; exact (below_size (kB HB)) : w.heap.size ≤ gb202)); replace HB := yD (zC (kB HB) hb); have NB201_202 := yD ((by rw [hg]; exact Nat.ne_of_lt (blk_lt (kN BK201)) : gb201 ≠ gb202)); have NB202_201 := yD ((by rw [hg]; exact Nat.ne_of_gt (blk_lt (kN BK201)) : gb202 ≠ gb201)); replace BK201 := yD (zB (kN BK201) hb); clear hb hbox hg; have hnb8 := NB201_202.out; have hnc8 := NB202_201.out; obtain ⟨hcz9_0, hcz9_1⟩ := cz2 BK201.out; obtain ⟨hfz9_0, hfz9_1⟩ := fz2 BK201.out; obtain ⟨hcz10_0, hcz10_1⟩ := cz2 BK202.out; obtain ⟨hfz10_0, hfz10_1⟩ := fz2 BK202.out) | ((with_reducible refine gate_callee (f := 160) rfl ?_); refine gL 9 Try.func160 #[.slice A0_0 l0_0.length c0_0, .slice A1_0 l1_0.length c1_0] ?_; (with_reducible refine (spec_l00Same.calls k _ _ l0_0 _ _ l1_0 true _ ?side1 ?side2 ?side3 ?side4 A3.out).mono ?_); (case side1 => exact kV (yY HR0_0.out HB.out)); (case side2 => exact HC0_0.out); (case side3 => exact kV (yY HR1_0.out HB.out)); (case side4 => exact HC1_0.out); rintro e w' ⟨rfl, ⟨nd, rfl⟩⟩; refine ⟨_, rfl, ?_⟩) | (go_at_call 160; (with_reducible refine (spec_l00Same.calls k _ _ l0_1 _ _ l1_1 t204 _ ?side1 ?side2 ?side3 ?side4 A5.out).mono ?_); (case side1 => repeat (first | exact (yY HR0_1.out (kB HB)) | (with_reducible first | refine yV ?_ _ | refine yW ?_ _ | refine yX ?_))); (case side2 => exact HC0_1.out); (case side3 => repeat (first | exact (yY HR1_1.out (kB HB)) | (with_reducible first | refine yV ?_ _ | refine yW ?_ _ | refine yX ?_))); (case side4 => exact HC1_1.out); rintro e w' ⟨rfl, ⟨nd, rfl⟩⟩))
  go_ret
  exact ⟨by first | rfl | (simp <;> rfl) | (simp [*] <;> rfl), kR0 HB⟩
 ·
  replace c4 := Bool.eq_false_iff.mpr c4
  subst c4
  replace H : (some false) = some r := (by rw [if_neg (show ¬ (false = true) by decide)] at H; exact H); obtain rfl := Option.some.inj H; go_enter Try.func149, Try.ntmps149
  go_wp2_with (first | ((with_reducible refine gate_dst (N := 2) rfl ?_); refine box_event ?hg (N := 2) ?hd (cs := #[.slice A0_0 l0_0.length c0_0, .slice A0_1 l0_1.length c0_1]) (t := 42) ?hr ?_; (case hd => rfl); (case hg => rfl); (case hr => first | (go_simp; done) | (go_simp; rfl)); intro gb201 hg w11 hbox hb; have BK201 := yD (hbox); have GW201 := yD ((by rw [hg]; exact (below_size (kB HB)) : w.heap.size ≤ gb201)); have GE201 := yD ((by rw [hg]; exact (below_size (kB HB)) : w.heap.size ≤ gb201)); replace HB := yD (zC (kB HB) hb); clear hb hbox hg) | ((with_reducible refine gate_dst (N := 3) rfl ?_); refine box_event ?hg (N := 3) ?hd (cs := #[.slice A1_0 l1_0.length c1_0, .slice A1_1 l1_1.length c1_1]) (t := 42) ?hr ?_; (case hd => rfl); (case hg => rfl); (case hr => first | (go_simp; done) | (go_simp; rfl)); intro gb202 hg w12 hbox hb; have BK202 := yD (hbox); have GW202 := yD ((by rw [hg]; exact (below_size (kB HB)) : w.heap.size ≤ gb202)); have GE202 := yD ((by rw [hg]; exact (below_size (kB HB)) : w.heap.size ≤ gb202)); replace HB := yD (zC (kB HB) hb); have NB201_202 := yD ((by rw [hg]; exact Nat.ne_of_lt (blk_lt (kN BK201)) : gb201 ≠ gb202)); have NB202_201 := yD ((by rw [hg]; exact Nat.ne_of_gt (blk_lt (kN BK201)) : gb202 ≠ gb201)); replace BK201 := yD (zB (kN BK201) hb); clear hb hbox hg; have hnb13 := NB201_202.out; have hnc13 := NB202_201.out; obtain ⟨hcz14_0, hcz14_1⟩ := cz2 BK201.out; obtain ⟨hfz14_0, hfz14_1⟩ := fz2 BK201.out; obtain ⟨hcz15_0, hcz15_1⟩ := cz2 BK202.out; obtain ⟨hfz15_0, hfz15_1⟩ := fz2 BK202.out) | ((with_reducible refine gate_callee (f := 160) rfl ?_); refine gL 9 Try.func160 #[.slice A0_0 l0_0.length c0_0, .slice A1_0 l1_0.length c1_0] ?_; (with_reducible refine (spec_l00Same.calls k _ _ l0_0 _ _ l1_0 false _ ?side1 ?side2 ?side3 ?side4 A3.out).mono ?_); (case side1 => exact kV (yY HR0_0.out HB.out)); (case side2 => exact HC0_0.out); (case side3 => exact kV (yY HR1_0.out HB.out)); (case side4 => exact HC1_0.out); rintro e w' ⟨rfl, ⟨nd, rfl⟩⟩; refine ⟨_, rfl, ?_⟩))
  go_ret
  exact ⟨by first | rfl | (simp <;> rfl) | (simp [*] <;> rfl), kR0 HB⟩

/-! ### spec_l07Same: function 130 -/
def spec_l07Same.l0 : Nat → List (S42) → List (S42) → Int → Option (Bool)
 | 0, _, _, _ => none
 | k + 1, x0, x1, x5 => if x5 < (x0.length : Int) then (if 0 ≤ x5 then (if x5 < (x1.length : Int) then ((spec_l07SameBox.f k ((rd_T42 x0 x5).f0) ((rd_T42 x0 x5).f1) ((rd_T42 x1 x5).f0) ((rd_T42 x1 x5).f1)).bind fun t207 => (if t207 = true then (spec_l07Same.l0 k x0 x1 (wrap64 (x5 + 1))) else (some false))) else (none)) else (none)) else (some true)
def spec_l07Same.f (k : Nat) (l0 : List (S42)) (l1 : List (S42)) : Option (Bool) := if (l0.length : Int) = (l1.length : Int) then (spec_l07Same.l0 k l0 l1 0) else (some false)
theorem spec_l07Same.mono_l : ∀ k, (∀ y0 y1 y2, LeO (spec_l07Same.l0 k y0 y1 y2) (spec_l07Same.l0 (k + 1) y0 y1 y2))
 | 0 => fun _ _ _ r h => by simp [spec_l07Same.l0] at h
 | k + 1 => by
  have ih0 := spec_l07Same.mono_l k
  · intro y0 y1 y2
    unfold spec_l07Same.l0
    repeat' (with_reducible first | exact ih0 _ _ _ | exact spec_l07SameBox.mono _ _ _ _ _ | exact LeO.refl _ | exact LeO.none _ | refine LeO.ite ?_ ?_ | refine LeO.bind ?_ (fun _ => ?_))
theorem spec_l07Same.mono : ∀ a0 a1 k, LeO (spec_l07Same.f k a0 a1) (spec_l07Same.f (k + 1) a0 a1) := by
 intro a0 a1 k
 have ih0 := spec_l07Same.mono_l k
 unfold spec_l07Same.f
 repeat' (with_reducible first | exact ih0 _ _ _ | exact spec_l07SameBox.mono _ _ _ _ _ | exact LeO.refl _ | exact LeO.none _ | refine LeO.ite ?_ ?_ | refine LeO.bind ?_ (fun _ => ?_))
def spec_l07Same.T6 : Bool × List (List Nat × List Nat) := (true, [([], []), ([], []), ([0, 1], [0, 1]), ([2], [2]), ([], []), ([], []), ([4, 5], [4, 5]), ([6], [6]), ([3, 7], [3, 7]), ([8], [8])])
def spec_l07Same.B6 : List Nat := [0, 0, 3, 7, 0, 0, 48, 112, 255, 511]
theorem spec_l07Same.tab6 : rtab .any (opsOf Try.f130 6) = spec_l07Same.T6 := by kernel_rfl
theorem spec_l07Same.bits6 : waitsOk spec_l07Same.T6.2 spec_l07Same.B6 = true := by kernel_rfl
set_option maxHeartbeats 8000000 in
set_option maxRecDepth 100000 in
theorem spec_l07Same.calls (k : Nat) (A0 : Option Addr) (c0 : Nat) (l0 : List (S42)) (A1 : Option Addr) (c1 : Nat) (l1 : List (S42)) (r : Bool) (w : World) (hr0 : Kd.C k42 w A0 l0.length l0) (hc0 : l0.length ≤ c0) (hr1 : Kd.C k42 w A1 l1.length l1) (hc1 : l1.length ≤ c1) (h : spec_l07Same.f k l0 l1 = some r) :
 Calls Try.prog 130 #[.slice A0 l0.length c0, .slice A1 l1.length c1] w fun e w' => e = .returned (.bool r) ∧ Below w.heap.size w w' := by
 have hu42 := Try.underlying42
 have HR0 := yD hr0
 have HC0 := yD hc0
 clear hr0 hc0
 have HR1 := yD hr1
 have HC1 := yD hc1
 clear hr1 hc1
 have HB := yD (Below.refl w.heap.size w)
 have H : (if (l0.length : Int) = (l1.length : Int) then (spec_l07Same.l0 k l0 l1 0) else (some false)) = some r := h
 clear h
 by_cases c3 : (l0.length : Int) = (l1.length : Int)
 ·
  rw [if_pos c3] at H
  have c3b0 : ((l0.length : Int) == (l1.length : Int)) = true := beq_iff_eq.mpr c3
  have c3b1 : ((l0.length : Int) != (l1.length : Int)) = false := bne_eq_false_iff_eq.mpr c3
  have c3b2 : (l0.length == l1.length) = true := by first | simpa using c3 | (simp at c3 ⊢; omega)
  clear c3
  have H' := yD H
  clear H; go_enter Try.func130, Try.ntmps130
  go_wp2
  go_loopg [5] k (fun kq v5 w' => ∃ (x5_1 : Int), v5 = .int .i64 x5_1 ∧ Aside0 (spec_l07Same.l0 kq l0 l1 x5_1 = some r) ∧ Aside0 (kq ≤ k) ∧ Aside0 (Below w.heap.size w w'))
  case atStart => exact ⟨(0), (by first | rfl | (simp; done) | (simp [*]; done)), H', ⟨Nat.le_refl _⟩, ⟨kR1 HB⟩⟩
  case round =>
   clear H'
   try clear c1; try clear c3; try clear c3b0; try clear c3b1; try clear c3b2
   obtain ⟨x5_1, rfl, HA, HK1, HB⟩ := hrel
   cases gk with
   | zero => exact absurd HA.out (by simp [spec_l07Same.l0])
   | succ k1 =>
    have H := HA.out; clear HA
    simp only [spec_l07Same.l0] at H
    by_cases c4 : x5_1 < (l0.length : Int)
    ·
     rw [if_pos c4] at H
     have c4b0 : decide (x5_1 < (l0.length : Int)) = true := zR c4; clear c4
     by_cases c5 : 0 ≤ x5_1
     ·
      rw [if_pos c5] at H
      have c5b0 : decide (0 ≤ x5_1) = true := zR c5; clear c5
      by_cases c6 : x5_1 < (l1.length : Int)
      ·
       rw [if_pos c6] at H
       have c6b0 : decide (x5_1 < (l1.length : Int)) = true := zR c6; clear c6
       obtain ⟨t207, A70, H⟩ := zW_ H
       replace H : (if t207 = true then (spec_l07Same.l0 k1 l0 l1 (wrap64 (x5_1 + 1))) else (some false)) = some r := H
       have A7 := yD A70
       clear A70
       by_cases c8 : t207 = true
       ·
        subst c8
        replace H : (spec_l07Same.l0 k1 l0 l1 (wrap64 (x5_1 + 1))) = some r := (by rw [if_pos rfl] at H; exact H)
        have H' := yD H
        clear H
        try go_wp2
        have n0_ := yD (yP HB.out)
        clear HB; have HB := n0_; clear n0_
        have p205 : 0 ≤ (x5_1 : Int) := zP (by assumption)
        have q205 : x5_1 < (l0.length : Int) := zP (by assumption)
        obtain ⟨ad205, A205_0, c205_0, A205_1, c205_1, e205, hx205_0, hx205_1, hl205_0, hi205_0, hl205_1, hi205_1⟩ := at_T42 HR0.out x5_1 p205 q205
        have hw205_1 := hx205_1; have hw205_0 := hx205_0; cases e205
        replace hx205_0 := (HB.out.cell (zQ w _ hx205_0)).trans hx205_0
        replace hx205_1 := (HB.out.cell (zQ w _ hx205_1)).trans hx205_1
        have HR205_0 := yD hi205_0
        have HC205_0 := yD hl205_0
        clear hi205_0 hl205_0
        have HR205_1 := yD hi205_1
        have HC205_1 := yD hl205_1
        clear hi205_1 hl205_1; replace p205 := eq_true p205; replace q205 := eq_true q205
        have p206 : 0 ≤ (x5_1 : Int) := zP (by assumption)
        have q206 : x5_1 < (l1.length : Int) := zP (by assumption)
        obtain ⟨ad206, A206_0, c206_0, A206_1, c206_1, e206, hx206_0, hx206_1, hl206_0, hi206_0, hl206_1, hi206_1⟩ := at_T42 HR1.out x5_1 p206 q206
        have hw206_1 := hx206_1; have hw206_0 := hx206_0; cases e206
        replace hx206_0 := (HB.out.cell (zQ w _ hx206_0)).trans hx206_0
        replace hx206_1 := (HB.out.cell (zQ w _ hx206_1)).trans hx206_1
        have HR206_0 := yD hi206_0
        have HC206_0 := yD hl206_0
        clear hi206_0 hl206_0
        have HR206_1 := yD hi206_1
        have HC206_1 := yD hl206_1
        clear hi206_1 hl206_1; replace p206 := eq_true p206; replace q206 := eq_true q206
        refine start_ (n := 10) (S := fun w' => w'.cell? (ad205.add ((x5_1).toNat * 2)) = some (.slice A205_0 ((rd_T42 l0 x5_1).f0).length c205_0) ∧ w'.cell? ⟨(ad205.add ((x5_1).toNat * 2)).block, (ad205.add ((x5_1).toNat * 2)).off + 1, none⟩ = some (.slice A205_1 ((rd_T42 l0 x5_1).f1).length c205_1) ∧ w'.cell? (ad206.add ((x5_1).toNat * 2)) = some (.slice A206_0 ((rd_T42 l1 x5_1).f0).length c206_0) ∧ w'.cell? ⟨(ad206.add ((x5_1).toNat * 2)).block, (ad206.add ((x5_1).toNat * 2)).off + 1, none⟩ = some (.slice A206_1 ((rd_T42 l1 x5_1).f1).length c206_1)) (ds := []) (bz 10 0) (by kernel_rfl) rfl rfl ⟨((HB.out.cell (zQ w _ hw205_0)).trans hw205_0), ((HB.out.cell (zQ w _ hw205_1)).trans hw205_1), ((HB.out.cell (zQ w _ hw206_0)).trans hw206_0), ((HB.out.cell (zQ w _ hw206_1)).trans hw206_1)⟩ (fun hHeld => ?_); refine with_tabW spec_l07Same.tab6 spec_l07Same.bits6 (fun HT_ HW_ => ?_)
        generalize wr.drew = w9 at HB HR205_0 HR205_1 HR206_0 HR206_1 hx205_0 hx205_1 hx206_0 hx206_1 hHeld ⊢
        refine qA 0 17 (bz 10 1) HT_ ?_
        refine qA 1 18 (bz 10 3) HT_ ?_
        refine qA 2 19 (bz 10 7) HT_ ?_
        refine qA 4 21 (bz 10 23) HT_ ?_
        refine qA 5 22 (bz 10 55) HT_ ?_
        refine qA 6 23 (bz 10 119) HT_ ?_
        refine qC 3 20 (bz 10 127) HT_ HW_ hHeld ?_ (hy := by rintro w' ⟨s0, s1, s2, s3⟩; go_simp; with_reducible rfl)
        refine qC 7 24 (bz 10 255) HT_ HW_ hHeld ?_ (hy := by rintro w' ⟨s0, s1, s2, s3⟩; go_simp; with_reducible rfl)
        refine one_ (i := 8) (N := some 25) (bz 10 511) rfl rfl (one_of HT_.out (by kernel_rfl)) (by decide) (fun K hK => ?_)
        refine goes_ Try.func149 (by kernel_rfl) rfl #[.agg #[.slice A205_0 ((rd_T42 l0 x5_1).f0).length c205_0, .slice A205_1 ((rd_T42 l0 x5_1).f1).length c205_1], .agg #[.slice A206_0 ((rd_T42 l1 x5_1).f0).length c206_0, .slice A206_1 ((rd_T42 l1 x5_1).f1).length c206_1]] (by rfl) rfl rfl (by (try simp only [zK, zL, zM]); first | done | rfl | (simp only [zN, zO]; rfl)) ?_
        with_reducible refine (spec_l07SameBox.calls k1 _ _ ((rd_T42 l0 x5_1).f0) _ _ ((rd_T42 l0 x5_1).f1) _ _ ((rd_T42 l1 x5_1).f0) _ _ ((rd_T42 l1 x5_1).f1) true _ ?side1 ?side2 ?side3 ?side4 ?side5 ?side6 ?side7 ?side8 A7.out).mono ?_
        (case side1 => exact kV (yY HR205_0.out HB.out))
        (case side2 => exact HC205_0.out)
        (case side3 => exact kV (yY HR205_1.out HB.out))
        (case side4 => exact HC205_1.out)
        (case side5 => exact kV (yY HR206_0.out HB.out))
        (case side6 => exact HC206_0.out)
        (case side7 => exact kV (yY HR206_1.out HB.out))
        (case side8 => exact HC206_1.out)
        rintro e w10 ⟨rfl, hb⟩
        refine ⟨_, rfl, ?_⟩
        have n0_ := yD (zC (kB HB) hb)
        clear HB; have HB := n0_; clear n0_; (try clear hb); (try clear hb2); (try clear hk); (try clear hi)
        refine hK.out _ _ ⟨((HB.out.cell (zQ w _ hw205_0)).trans hw205_0), ((HB.out.cell (zQ w _ hw205_1)).trans hw205_1), ((HB.out.cell (zQ w _ hw206_0)).trans hw206_0), ((HB.out.cell (zQ w _ hw206_1)).trans hw206_1)⟩ (fun hHeld => ?_)
        clear hK K
        refine norm_ (a' := ?_) ?_ ?_
        rotate_left
        · show Act.put _ (some 25) _ = _
          simp only [Act.put, zH, zI, zJ, i64_w, i32_w]
          rfl
        refine qA 9 26 (bz 10 1023) HT_ ?_
        refine done_ (done_of HT_.out (by kernel_rfl)) ?_
        try go_wp2
        go_roundg k1
        case measure => have := HK1.out; omega
        case rel => exact ⟨(wrap64 (x5_1 + 1)), (by first | rfl | (simp; done) | (simp [*]; done)), H', ⟨by have := HK1.out; omega⟩, ⟨kR1 HB⟩⟩
       ·
        replace c8 := Bool.eq_false_iff.mpr c8
        subst c8
        replace H : (some false) = some r := (by rw [if_neg (show ¬ (false = true) by decide)] at H; exact H); obtain rfl := Option.some.inj H
        try go_wp2
        have n0_ := yD (yP HB.out)
        clear HB; have HB := n0_; clear n0_
        have p205 : 0 ≤ (x5_1 : Int) := zP (by assumption)
        have q205 : x5_1 < (l0.length : Int) := zP (by assumption)
        obtain ⟨ad205, A205_0, c205_0, A205_1, c205_1, e205, hx205_0, hx205_1, hl205_0, hi205_0, hl205_1, hi205_1⟩ := at_T42 HR0.out x5_1 p205 q205
        have hw205_1 := hx205_1; have hw205_0 := hx205_0; cases e205
        replace hx205_0 := (HB.out.cell (zQ w _ hx205_0)).trans hx205_0
        replace hx205_1 := (HB.out.cell (zQ w _ hx205_1)).trans hx205_1
        have HR205_0 := yD hi205_0
        have HC205_0 := yD hl205_0
        clear hi205_0 hl205_0
        have HR205_1 := yD hi205_1
        have HC205_1 := yD hl205_1
        clear hi205_1 hl205_1; replace p205 := eq_true p205; replace q205 := eq_true q205
        have p206 : 0 ≤ (x5_1 : Int) := zP (by assumption)
        have q206 : x5_1 < (l1.length : Int) := zP (by assumption)
        obtain ⟨ad206, A206_0, c206_0, A206_1, c206_1, e206, hx206_0, hx206_1, hl206_0, hi206_0, hl206_1, hi206_1⟩ := at_T42 HR1.out x5_1 p206 q206
        have hw206_1 := hx206_1; have hw206_0 := hx206_0; cases e206
        replace hx206_0 := (HB.out.cell (zQ w _ hx206_0)).trans hx206_0
        replace hx206_1 := (HB.out.cell (zQ w _ hx206_1)).trans hx206_1
        have HR206_0 := yD hi206_0
        have HC206_0 := yD hl206_0
        clear hi206_0 hl206_0
        have HR206_1 := yD hi206_1
        have HC206_1 := yD hl206_1
        clear hi206_1 hl206_1; replace p206 := eq_true p206; replace q206 := eq_true q206
        refine start_ (n := 10) (S := fun w' => w'.cell? (ad205.add ((x5_1).toNat * 2)) = some (.slice A205_0 ((rd_T42 l0 x5_1).f0).length c205_0) ∧ w'.cell? ⟨(ad205.add ((x5_1).toNat * 2)).block, (ad205.add ((x5_1).toNat * 2)).off + 1, none⟩ = some (.slice A205_1 ((rd_T42 l0 x5_1).f1).length c205_1) ∧ w'.cell? (ad206.add ((x5_1).toNat * 2)) = some (.slice A206_0 ((rd_T42 l1 x5_1).f0).length c206_0) ∧ w'.cell? ⟨(ad206.add ((x5_1).toNat * 2)).block, (ad206.add ((x5_1).toNat * 2)).off + 1, none⟩ = some (.slice A206_1 ((rd_T42 l1 x5_1).f1).length c206_1)) (ds := []) (bz 10 0) (by kernel_rfl) rfl rfl ⟨((HB.out.cell (zQ w _ hw205_0)).trans hw205_0), ((HB.out.cell (zQ w _ hw205_1)).trans hw205_1), ((HB.out.cell (zQ w _ hw206_0)).trans hw206_0), ((HB.out.cell (zQ w _ hw206_1)).trans hw206_1)⟩ (fun hHeld => ?_); refine with_tabW spec_l07Same.tab6 spec_l07Same.bits6 (fun HT_ HW_ => ?_)
        generalize wr.drew = w11 at HB HR205_0 HR205_1 HR206_0 HR206_1 hx205_0 hx205_1 hx206_0 hx206_1 hHeld ⊢
        refine qA 0 17 (bz 10 1) HT_ ?_
        refine qA 1 18 (bz 10 3) HT_ ?_
        refine qA 2 19 (bz 10 7) HT_ ?_
        refine qA 4 21 (bz 10 23) HT_ ?_
        refine qA 5 22 (bz 10 55) HT_ ?_
        refine qA 6 23 (bz 10 119) HT_ ?_
        refine qC 3 20 (bz 10 127) HT_ HW_ hHeld ?_ (hy := by rintro w' ⟨s0, s1, s2, s3⟩; go_simp; with_reducible rfl)
        refine qC 7 24 (bz 10 255) HT_ HW_ hHeld ?_ (hy := by rintro w' ⟨s0, s1, s2, s3⟩; go_simp; with_reducible rfl)
        refine one_ (i := 8) (N := some 25) (bz 10 511) rfl rfl (one_of HT_.out (by kernel_rfl)) (by decide) (fun K hK => ?_)
        refine goes_ Try.func149 (by kernel_rfl) rfl #[.agg #[.slice A205_0 ((rd_T42 l0 x5_1).f0).length c205_0, .slice A205_1 ((rd_T42 l0 x5_1).f1).length c205_1], .agg #[.slice A206_0 ((rd_T42 l1 x5_1).f0).length c206_0, .slice A206_1 ((rd_T42 l1 x5_1).f1).length c206_1]] (by rfl) rfl rfl (by (try simp only [zK, zL, zM]); first | done | rfl | (simp only [zN, zO]; rfl)) ?_
        with_reducible refine (spec_l07SameBox.calls k1 _ _ ((rd_T42 l0 x5_1).f0) _ _ ((rd_T42 l0 x5_1).f1) _ _ ((rd_T42 l1 x5_1).f0) _ _ ((rd_T42 l1 x5_1).f1) false _ ?side1 ?side2 ?side3 ?side4 ?side5 ?side6 ?side7 ?side8 A7.out).mono ?_
        (case side1 => exact kV (yY HR205_0.out HB.out))
        (case side2 => exact HC205_0.out)
        (case side3 => exact kV (yY HR205_1.out HB.out))
        (case side4 => exact HC205_1.out)
        (case side5 => exact kV (yY HR206_0.out HB.out))
        (case side6 => exact HC206_0.out)
        (case side7 => exact kV (yY HR206_1.out HB.out))
        (case side8 => exact HC206_1.out)
        rintro e w12 ⟨rfl, hb⟩
        refine ⟨_, rfl, ?_⟩
        have n0_ := yD (zC (kB HB) hb)
        clear HB; have HB := n0_; clear n0_; (try clear hb); (try clear hb2); (try clear hk); (try clear hi)
        refine hK.out _ _ ⟨((HB.out.cell (zQ w _ hw205_0)).trans hw205_0), ((HB.out.cell (zQ w _ hw205_1)).trans hw205_1), ((HB.out.cell (zQ w _ hw206_0)).trans hw206_0), ((HB.out.cell (zQ w _ hw206_1)).trans hw206_1)⟩ (fun hHeld => ?_)
        clear hK K
        refine norm_ (a' := ?_) ?_ ?_
        rotate_left
        · show Act.put _ (some 25) _ = _
          simp only [Act.put, zH, zI, zJ, i64_w, i32_w]
          rfl
        refine qA 9 26 (bz 10 1023) HT_ ?_
        refine done_ (done_of HT_.out (by kernel_rfl)) ?_
        try go_wp2
        go_ret
        exact ⟨by first | rfl | (simp <;> rfl) | (simp [*] <;> rfl), kR1 HB⟩
      · rw [if_neg c6] at H
        exact absurd H (by simp)
     · rw [if_neg c5] at H
       exact absurd H (by simp)
    · rw [if_neg c4] at H
      have c4b0 : decide (x5_1 < (l0.length : Int)) = false := zS c4; clear c4; obtain rfl := Option.some.inj H
      go_wp2
      go_ret
      exact ⟨by first | rfl | (simp <;> rfl) | (simp [*] <;> rfl), kR1 HB⟩
 ·
  rw [if_neg c3] at H
  have c3b0 : ((l0.length : Int) == (l1.length : Int)) = false := beq_eq_false_iff_ne.mpr c3
  have c3b1 : ((l0.length : Int) != (l1.length : Int)) = true := bne_iff_ne.mpr c3
  have c3b2 : (l0.length == l1.length) = false := by first | simpa using c3 | (simp at c3 ⊢; omega)
  obtain rfl := Option.some.inj H; go_enter Try.func130, Try.ntmps130
  go_wp2
  go_ret
  exact ⟨by first | rfl | (simp <;> rfl) | (simp [*] <;> rfl), kR1 HB⟩

end Go.Proofs.Ytdiaebjbiddefaa.PFnExactSubtractBoxes
