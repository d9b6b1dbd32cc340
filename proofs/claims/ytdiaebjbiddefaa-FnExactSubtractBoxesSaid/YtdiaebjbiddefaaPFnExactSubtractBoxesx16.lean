/- Each Go function here comes to what the plain function of its name says, where that says something. Made by a program of this session, over the print. -/
import Derived.Test.YtdiaebjbiddefaaPFnExactSubtractBoxesx0
import Derived.Test.YtdiaebjbiddefaaPFnExactSubtractBoxesx15
namespace Go.Proofs.Ytdiaebjbiddefaa.PFnExactSubtractBoxes
open Go.RowKit Go.Proofs.YtdiaebjbiddefaaW.PrintWords Go.Proofs.YtdiaebjbiddefaaW.PrintLast Go.Proofs.YtdiaebjbiddefaaW.PrintMore
attribute [local go_sem] max2_int min2_int max_two min_two max_three min_three max_four min_four   -- for this text's walks alone
set_option linter.unusedVariables false
set_option linter.unusedSimpArgs false

/-! ### impl_SubtractBoxes: function 25 -/
def impl_SubtractBoxes.f (k : Nat) (l0 : List (S42)) (l1 : List (S42)) : Option ((List (S42)) × Int) := (impl_combine_impl_without.f k l0 l1).bind fun bt394 => (some (bt394.1, bt394.2))
theorem impl_SubtractBoxes.mono : ∀ a0 a1 k, LeO (impl_SubtractBoxes.f k a0 a1) (impl_SubtractBoxes.f (k + 1) a0 a1) := by
 intro a0 a1 k
 unfold impl_SubtractBoxes.f
 repeat' (with_reducible first | exact impl_combine_impl_without.mono _ _ _ | exact LeO.refl _ | exact LeO.none _ | refine LeO.ite ?_ ?_ | refine LeO.bind ?_ (fun _ => ?_))
set_option maxHeartbeats 8000000 in
set_option maxRecDepth 100000 in
theorem impl_SubtractBoxes.calls (k : Nat) (A0 : Option Addr) (c0 : Nat) (l0 : List (S42)) (A1 : Option Addr) (c1 : Nat) (l1 : List (S42)) (r1 : List (S42)) (r2 : Int) (w : World) (hr0 : Kd.C k42 w A0 l0.length l0) (hc0 : l0.length ≤ c0) (hr1 : Kd.C k42 w A1 l1.length l1) (hc1 : l1.length ≤ c1) (h : impl_SubtractBoxes.f k l0 l1 = some (r1, r2)) :
 Calls Try.prog 25 #[.slice A0 l0.length c0, .slice A1 l1.length c1] w fun e w' => ∃ v0_ : Value, e = .returned (.tuple #[v0_, .int .i64 r2]) ∧ Kd.S k42 42 w' w.heap.size (fun _ => True) v0_ r1 ∧ Below w.heap.size w w' := by
 have HR0 := yD hr0
 have HC0 := yD hc0
 clear hr0 hc0
 have HR1 := yD hr1
 have HC1 := yD hc1
 clear hr1 hc1
 have HB := yD (Below.refl w.heap.size w)
 have H : ((impl_combine_impl_without.f k l0 l1).bind fun bt394 => (some (bt394.1, bt394.2))) = some (r1, r2) := h
 clear h
 obtain ⟨⟨t394, t397⟩, A30, H⟩ := zW_ H
 replace H : (some (t394, t397)) = some (r1, r2) := H
 have A3 := yD A30
 clear A30
 simp only [Option.some.injEq, Prod.mk.injEq] at H
 obtain ⟨rfl, rfl⟩ := H
 go_enter Try.func25, Try.ntmps25
 go_wp2_with (first | ((with_reducible refine gate_callee (f := 56) rfl ?_); refine gL 8 Try.func56 #[.slice A0 l0.length c0, .slice A1 l1.length c1, .func (.func 59) #[] #[]] ?_; (with_reducible refine (impl_combine_impl_without.calls k _ _ l0 _ _ l1  t394 t397 _ ?side1 ?side2 ?side3 ?side4 A3.out).mono ?_); (case side1 => repeat (first | exact HR0.out | (with_reducible first | refine yV ?_ _ | refine yW ?_ _ | refine yX ?_))); (case side2 => exact HC0.out); (case side3 => repeat (first | exact HR1.out | (with_reducible first | refine yV ?_ _ | refine yW ?_ _ | refine yX ?_))); (case side4 => exact HC1.out); rintro e w4 ⟨v395, rfl, ho0, hb⟩; refine ⟨_, rfl, ?_⟩; have HO396 := yD (zG ho0 (below_size (kB HB))); replace HB := yD (zC (kB HB) hb); clear hb ho0))
 go_ret2
 exact ⟨_, by first | rfl | (simp <;> rfl) | (simp [*] <;> rfl), kS HO396, kR1 HB⟩

/-! ### laws_eqInt64S: function 42 -/
def laws_eqInt64S.l0 : Nat → List Int → List Int → Int → Option (Bool)
 | 0, _, _, _ => none
 | k + 1, x0, x1, x5 => if x5 < (x0.length : Int) then (if 0 ≤ x5 then (if x5 < (x1.length : Int) then (if (rd x0 x5) = (rd x1 x5) then (laws_eqInt64S.l0 k x0 x1 (wrap64 (x5 + 1))) else (some false)) else (none)) else (none)) else (some true)
def laws_eqInt64S.f (k : Nat) (l0 : List Int) (l1 : List Int) : Option (Bool) := if (l0.length : Int) = (l1.length : Int) then (laws_eqInt64S.l0 k l0 l1 0) else (some false)
theorem laws_eqInt64S.mono_l : ∀ k, (∀ y0 y1 y2, LeO (laws_eqInt64S.l0 k y0 y1 y2) (laws_eqInt64S.l0 (k + 1) y0 y1 y2))
 | 0 => fun _ _ _ r h => by simp [laws_eqInt64S.l0] at h
 | k + 1 => by
  have ih0 := laws_eqInt64S.mono_l k
  · intro y0 y1 y2
    unfold laws_eqInt64S.l0
    repeat' (with_reducible first | exact ih0 _ _ _ | exact LeO.refl _ | exact LeO.none _ | refine LeO.ite ?_ ?_ | refine LeO.bind ?_ (fun _ => ?_))
theorem laws_eqInt64S.mono : ∀ a0 a1 k, LeO (laws_eqInt64S.f k a0 a1) (laws_eqInt64S.f (k + 1) a0 a1) := by
 intro a0 a1 k
 have ih0 := laws_eqInt64S.mono_l k
 unfold laws_eqInt64S.f
 repeat' (with_reducible first | exact ih0 _ _ _ | exact LeO.refl _ | exact LeO.none _ | refine LeO.ite ?_ ?_ | refine LeO.bind ?_ (fun _ => ?_))
set_option maxHeartbeats 8000000 in
set_option maxRecDepth 100000 in
theorem laws_eqInt64S.calls (k : Nat) (A0 : Option Addr) (c0 : Nat) (l0 : List Int) (A1 : Option Addr) (c1 : Nat) (l1 : List Int) (r : Bool) (w : World) (hr0 : Kd.C (Kd.int .i64) w A0 l0.length l0) (hc0 : l0.length ≤ c0) (hr1 : Kd.C (Kd.int .i64) w A1 l1.length l1) (hc1 : l1.length ≤ c1) (h : laws_eqInt64S.f k l0 l1 = some r) :
 Calls Try.prog 42 #[.slice A0 l0.length c0, .slice A1 l1.length c1] w fun e w' => e = .returned (.bool r) ∧ Drawn0 w w' := by
 have HR0 := yD hr0
 have HC0 := yD hc0
 clear hr0 hc0
 have HR1 := yD hr1
 have HC1 := yD hc1
 clear hr1 hc1
 have H : (if (l0.length : Int) = (l1.length : Int) then (laws_eqInt64S.l0 k l0 l1 0) else (some false)) = some r := h
 clear h
 by_cases c3 : (l0.length : Int) = (l1.length : Int)
 ·
  rw [if_pos c3] at H
  have c3b0 : ((l0.length : Int) == (l1.length : Int)) = true := beq_iff_eq.mpr c3
  have c3b1 : ((l0.length : Int) != (l1.length : Int)) = false := bne_eq_false_iff_eq.mpr c3
  have c3b2 : (l0.length == l1.length) = true := by first | simpa using c3 | (simp at c3 ⊢; omega)
  clear c3
  have H' := yD H
  clear H; go_enter Try.func42, Try.ntmps42
  go_wp2
  repeat (go_quiet (fail); try go_wp2)
  go_loopg [5] k (fun kq v5 w' => ∃ (x5_1 : Int), v5 = .int .i64 x5_1 ∧ Aside0 (laws_eqInt64S.l0 kq l0 l1 x5_1 = some r) ∧ Aside0 (kq ≤ k) ∧ Drawn0 w w')
  case atStart => exact ⟨(0), (by first | rfl | (simp; done) | (simp [*]; done)), H', ⟨Nat.le_refl _⟩, by repeat (first | exact Drawn0.refl _ | apply Drawn0.step)⟩
  case round =>
   clear H'
   try clear c1; try clear c3; try clear c3b0; try clear c3b1; try clear c3b2
   obtain ⟨x5_1, rfl, HA, HK1, ⟨m1, rfl⟩⟩ := hrel
   cases gk with
   | zero => exact absurd HA.out (by simp [laws_eqInt64S.l0])
   | succ k1 =>
    have H := HA.out; clear HA
    simp only [laws_eqInt64S.l0] at H
    by_cases c4 : x5_1 < (l0.length : Int)
    ·
     rw [if_pos c4] at H
     have c4b0 : decide (x5_1 < (l0.length : Int)) = true := zR c4; clear c4
     by_cases c5 : 0 ≤ x5_1
     ·
      rw [if_pos c5] at H
      have c5b0 : decide (0 ≤ x5_1) = true := zR c5; clear c5
      by_cases c6 : x5_1 < (l1.length : Int)
      ·
       rw [if_pos c6] at H
       have c6b0 : decide (x5_1 < (l1.length : Int)) = true := zR c6; clear c6
       by_cases c7 : (rd l0 x5_1) = (rd l1 x5_1)
       ·
        rw [if_pos c7] at H
        have c7b0 : ((rd l0 x5_1) == (rd l1 x5_1)) = true := beq_iff_eq.mpr c7
        have c7b1 : ((rd l0 x5_1) != (rd l1 x5_1)) = false := bne_eq_false_iff_eq.mpr c7
        clear c7
        have H' := yD H
        clear H
        have p398 : 0 ≤ (x5_1 : Int) := zP (by assumption)
        have q398 : x5_1 < (l0.length : Int) := zP (by assumption)
        obtain ⟨ad398, e398, hx398_0⟩ := Kd.at_int HR0.out x5_1 p398 q398
        cases e398; replace p398 := eq_true p398; replace q398 := eq_true q398
        have p399 : 0 ≤ (x5_1 : Int) := zP (by assumption)
        have q399 : x5_1 < (l1.length : Int) := zP (by assumption)
        obtain ⟨ad399, e399, hx399_0⟩ := Kd.at_int HR1.out x5_1 p399 q399
        cases e399; replace p399 := eq_true p399; replace q399 := eq_true q399
        go_wp2
        repeat (go_quiet (fail); try go_wp2)
        go_roundg k1
        case measure => have := HK1.out; omega
        case rel => exact ⟨(wrap64 (x5_1 + 1)), (by first | rfl | (simp; done) | (simp [*]; done)), H', ⟨by have := HK1.out; omega⟩, by repeat (first | exact Drawn0.refl _ | apply Drawn0.step)⟩
       ·
        rw [if_neg c7] at H
        have c7b0 : ((rd l0 x5_1) == (rd l1 x5_1)) = false := beq_eq_false_iff_ne.mpr c7
        have c7b1 : ((rd l0 x5_1) != (rd l1 x5_1)) = true := bne_iff_ne.mpr c7
        obtain rfl := Option.some.inj H
        have p398 : 0 ≤ (x5_1 : Int) := zP (by assumption)
        have q398 : x5_1 < (l0.length : Int) := zP (by assumption)
        obtain ⟨ad398, e398, hx398_0⟩ := Kd.at_int HR0.out x5_1 p398 q398
        cases e398; replace p398 := eq_true p398; replace q398 := eq_true q398
        have p399 : 0 ≤ (x5_1 : Int) := zP (by assumption)
        have q399 : x5_1 < (l1.length : Int) := zP (by assumption)
        obtain ⟨ad399, e399, hx399_0⟩ := Kd.at_int HR1.out x5_1 p399 q399
        cases e399; replace p399 := eq_true p399; replace q399 := eq_true q399
        go_wp2
        repeat (go_quiet (fail); try go_wp2)
        go_ret
        exact ⟨by first | rfl | (simp; done) | (simp [*]; done), by repeat (first | exact Drawn0.refl _ | apply Drawn0.step)⟩
      · rw [if_neg c6] at H
        exact absurd H (by simp)
     · rw [if_neg c5] at H
       exact absurd H (by simp)
    · rw [if_neg c4] at H
      have c4b0 : decide (x5_1 < (l0.length : Int)) = false := zS c4; clear c4; obtain rfl := Option.some.inj H
      go_wp2
      repeat (go_quiet (fail); try go_wp2)
      go_ret
      exact ⟨by first | rfl | (simp; done) | (simp [*]; done), by repeat (first | exact Drawn0.refl _ | apply Drawn0.step)⟩
 ·
  rw [if_neg c3] at H
  have c3b0 : ((l0.length : Int) == (l1.length : Int)) = false := beq_eq_false_iff_ne.mpr c3
  have c3b1 : ((l0.length : Int) != (l1.length : Int)) = true := bne_iff_ne.mpr c3
  have c3b2 : (l0.length == l1.length) = false := by first | simpa using c3 | (simp at c3 ⊢; omega)
  obtain rfl := Option.some.inj H; go_enter Try.func42, Try.ntmps42
  go_wp2
  repeat (go_quiet (fail); try go_wp2)
  go_ret
  exact ⟨by first | rfl | (simp; done) | (simp [*]; done), by repeat (first | exact Drawn0.refl _ | apply Drawn0.step)⟩

/-! ### laws_eqBox: function 34 -/
def laws_eqBox.f (k : Nat) (l0_0 : List Int) (l0_1 : List Int) (l1_0 : List Int) (l1_1 : List Int) : Option (Bool) := (laws_eqInt64S.f k l0_0 l1_0).bind fun t402 => (if t402 = true then ((laws_eqInt64S.f k l0_1 l1_1).bind fun t403 => (if t403 = true then (some true) else (some false))) else (some false))
theorem laws_eqBox.mono : ∀ a0 a1 a2 a3 k, LeO (laws_eqBox.f k a0 a1 a2 a3) (laws_eqBox.f (k + 1) a0 a1 a2 a3) := by
 intro a0 a1 a2 a3 k
 unfold laws_eqBox.f
 repeat' (with_reducible first | exact laws_eqInt64S.mono _ _ _ | exact LeO.refl _ | exact LeO.none _ | refine LeO.ite ?_ ?_ | refine LeO.bind ?_ (fun _ => ?_))
set_option maxHeartbeats 8000000 in
set_option maxRecDepth 100000 in
theorem laws_eqBox.calls (k : Nat) (A0_0 : Option Addr) (c0_0 : Nat) (l0_0 : List Int) (A0_1 : Option Addr) (c0_1 : Nat) (l0_1 : List Int) (A1_0 : Option Addr) (c1_0 : Nat) (l1_0 : List Int) (A1_1 : Option Addr) (c1_1 : Nat) (l1_1 : List Int) (r : Bool) (w : World) (hr0_0 : Kd.C (Kd.int .i64) w A0_0 l0_0.length l0_0) (hc0_0 : l0_0.length ≤ c0_0) (hr0_1 : Kd.C (Kd.int .i64) w A0_1 l0_1.length l0_1) (hc0_1 : l0_1.length ≤ c0_1) (hr1_0 : Kd.C (Kd.int .i64) w A1_0 l1_0.length l1_0) (hc1_0 : l1_0.length ≤ c1_0) (hr1_1 : Kd.C (Kd.int .i64) w A1_1 l1_1.length l1_1) (hc1_1 : l1_1.length ≤ c1_1) (h : laws_eqBox.f k l0_0 l0_1 l1_0 l1_1 = some r) :
 Calls Try.prog 34 #[.agg #[.slice A0_0 l0_0.length c0_0, .slice A0_1 l0_1.length c0_1], .agg #[.slice A1_0 l1_0.length c1_0, .slice A1_1 l1_1.length c1_1]] w fun e w' => e = .returned (.bool r) ∧ Below w.heap.size w w' := by
 have hu42 := Try.underlying42
 have HR0_0 := yD hr0_0
 have HC0_0 := yD hc0_0
 clear hr0_0 hc0_0
 have HR0_1 := yD hr0_1
 have HC0_1 := yD hc0_1
 clear hr0_1 hc0_1
 have HR1_0 := yD hr1_0
 have HC1_0 := yD hc1_0
 clear hr1_0 hc1_0
 have HR1_1 := yD hr1_1
 have HC1_1 := yD hc1_1
 clear hr1_1 hc1_1
 have HB := yD (Below.refl w.heap.size w)
 have H : ((laws_eqInt64S.f k l0_0 l1_0).bind fun t402 => (if t402 = true then ((laws_eqInt64S.f k l0_1 l1_1).bind fun t403 => (if t403 = true then (some true) else (some false))) else (some false))) = some r := h
 clear h
 obtain ⟨t402, A30, H⟩ := zW_ H
 replace H : (if t402 = true then ((laws_eqInt64S.f k l0_1 l1_1).bind fun t403 => (if t403 = true then (some true) else (some false))) else (some false)) = some r := H
 have A3 := yD A30
 clear A30
 by_cases c4 : t402 = true
 ·
  subst c4
  replace H : ((laws_eqInt64S.f k l0_1 l1_1).bind fun t403 => (if t403 = true then (some true) else (some false))) = some r := (by rw [if_pos rfl] at H; exact H)
  obtain ⟨t403, A50, H⟩ := zW_ H
  replace H : (if t403 = true then (some true) else (some false)) = some r := H
  have A5 := yD A50
  clear A50
  by_cases c6 : t403 = true
  · subst c6
    replace H : (some true) = some r := (by rw [if_pos rfl] at H; exact H); obtain rfl := Option.some.inj H; go_enter Try.func34, Try.ntmps34
    go_wp2_with (first | ((with_reducible refine gate_dst (N := 2) rfl ?_); refine box_event ?hg (N := 2) ?hd (cs := #[.slice A0_0 l0_0.length c0_0, .slice A0_1 l0_1.length c0_1]) (t := 42) ?hr ?_; (case hd => rfl); (case hg => rfl); (case hr => first | (go_simp; done) | (go_simp; rfl)); intro gb400 hg w7 hbox hb; have BK400 := yD (hbox); have GW400 := yD ((by rw [hg]; exact (below_size (kB HB)) : w.heap.size ≤ gb400)); have GE400 := yD ((by rw [hg]; exact (below_size (kB HB)) : w.heap.size ≤ gb400)); replace HB := yD (zC (kB HB) hb); clear hb hbox hg) | ((with_reducible refine gate_dst (N := 3) rfl ?_); refine box_event ?hg (N := 3) ?hd (cs := #[.slice A1_0 l1_0.length c1_0, .slice A1_1 l1_1.length c1_1]) (t := 42) ?hr ?_; (case hd => rfl); (case hg => rfl); (case hr => first | (go_simp; done) | (go_simp; rfl)); intro gb401 hg w8 hbox hb; have BK401 := yD (hbox); have GW401 := yD ((by rw [hg]; exact (below_size (kB HB)) : w.heap.size ≤ gb401)); have GE401 := yD ((by rw [hg]; exact (below_size (kB HB)) : w.heap.size ≤ gb401)); replace HB := yD (zC (kB HB) hb); have NB400_401 := yD ((by rw [hg]; exact Nat.ne_of_lt (blk_lt (kN BK400)) : gb400 ≠ gb401)); have NB401_400 := yD ((by rw [hg]; exact Nat.ne_of_gt (blk_lt (kN BK400)) : gb401 ≠ gb400)); replace BK400 := yD (zB (kN BK400) hb); clear hb hbox hg; have hnb9 := NB400_401.out; have hnc9 := NB401_400.out; obtain ⟨hcz10_0, hcz10_1⟩ := cz2 BK400.out; obtain ⟨hfz10_0, hfz10_1⟩ := fz2 BK400.out; obtain ⟨hcz11_0, hcz11_1⟩ := cz2 BK401.out; obtain ⟨hfz11_0, hfz11_1⟩ := fz2 BK401.out) | ((with_reducible refine gate_callee (f := 42) rfl ?_); refine gL 9 Try.func42 #[.slice A0_0 l0_0.length c0_0, .slice A1_0 l1_0.length c1_0] ?_; (with_reducible refine (laws_eqInt64S.calls k _ _ l0_0 _ _ l1_0 true _ ?side1 ?side2 ?side3 ?side4 A3.out).mono ?_); (case side1 => exact kV (yY HR0_0.out HB.out)); (case side2 => exact HC0_0.out); (case side3 => exact kV (yY HR1_0.out HB.out)); (case side4 => exact HC1_0.out); rintro e w' ⟨rfl, ⟨nd, rfl⟩⟩; refine ⟨_, rfl, ?_⟩) | ((with_reducible refine gate_callee (f := 42) rfl ?_); refine gL 15 Try.func42 #[.slice A0_1 l0_1.length c0_1, .slice A1_1 l1_1.length c1_1] ?_; (with_reducible refine (laws_eqInt64S.calls k _ _ l0_1 _ _ l1_1 true _ ?side1 ?side2 ?side3 ?side4 A5.out).mono ?_); (case side1 => repeat (first | exact (yY HR0_1.out (kB HB)) | (with_reducible first | refine yV ?_ _ | refine yW ?_ _ | refine yX ?_))); (case side2 => exact HC0_1.out); (case side3 => repeat (first | exact (yY HR1_1.out (kB HB)) | (with_reducible first | refine yV ?_ _ | refine yW ?_ _ | refine yX ?_))); (case side4 => exact HC1_1.out); rintro e w' ⟨rfl, ⟨nd, rfl⟩⟩; refine ⟨_, rfl, ?_⟩))
    go_ret
    exact ⟨by first | rfl | (simp <;> rfl) | (simp [*] <;> rfl), kR0 HB⟩
  · replace c6 := Bool.eq_false_iff.mpr c6
    subst c6
    replace H : (some false) = some r := (by rw [if_neg (show ¬ (false = true) by decide)] at H; exact H); obtain rfl := Option.some.inj H; go_enter Try.func34, Try.ntmps34
    go_wp2_with (first | ((with_reducible refine gate_dst (N := 2) rfl ?_); refine box_event ?hg (N := 2) ?hd (cs := #[.slice A0_0 l0_0.length c0_0, .slice A0_1 l0_1.length c0_1]) (t := 42) ?hr ?_; (case hd => rfl); (case hg => rfl); (case hr => first | (go_simp; done) | (go_simp; rfl)); intro gb400 hg w12 hbox hb; have BK400 := yD (hbox); have GW400 := yD ((by rw [hg]; exact (below_size (kB HB)) : w.heap.size ≤ gb400)); have GE400 := yD ((by rw [hg]; exact (below_size (kB HB)) : w.heap.size ≤ gb400)); replace HB := yD (zC (kB HB) hb); clear hb hbox hg) | ((with_reducible refine gate_dst (N := 3) rfl ?_); refine box_event ?hg (N := 3) ?hd (cs := #[.slice A1_0 l1_0.length c1_0, .slice A1_1 l1_1.length c1_1]) (t := 42) ?hr ?_; (case hd => rfl); (case hg => rfl); (case hr => first | (go_simp; done) | (go_simp; rfl)); intro gb401 hg w13 hbox hb; have BK401 := yD (hbox); have GW401 := yD ((by rw [hg]; exact (below_size (kB HB)) : w.heap.size ≤ gb401)); have GE401 := yD ((by rw [hg]; exact (below_size (kB HB)) : w.heap.size ≤ gb401)); replace HB := yD (zC (kB HB) hb); have NB400_401 := yD ((by rw [hg]; exact Nat.ne_of_lt (blk_lt (kN BK400)) : gb400 ≠ gb401)); have NB401_400 := yD ((by rw [hg]; exact Nat.ne_of_gt (blk_lt (kN BK400)) : gb401 ≠ gb400)); replace BK400 := yD (zB (kN BK400) hb); clear hb hbox hg; have hnb14 := NB400_401.out; have hnc14 := NB401_400.out; obtain ⟨hcz15_0, hcz15_1⟩ := cz2 BK400.out; obtain ⟨hfz15_0, hfz15_1⟩ := fz2 BK400.out; obtain ⟨hcz16_0, hcz16_1⟩ := cz2 BK401.out; obtain ⟨hfz16_0, hfz16_1⟩ := fz2 BK401.out) | ((with_reducible refine gate_callee (f := 42) rfl ?_); refine gL 9 Try.func42 #[.slice A0_0 l0_0.length c0_0, .slice A1_0 l1_0.length c1_0] ?_; (with_reducible refine (laws_eqInt64S.calls k _ _ l0_0 _ _ l1_0 true _ ?side1 ?side2 ?side3 ?side4 A3.out).mono ?_); (case side1 => exact kV (yY HR0_0.out HB.out)); (case side2 => exact HC0_0.out); (case side3 => exact kV (yY HR1_0.out HB.out)); (case side4 => exact HC1_0.out); rintro e w' ⟨rfl, ⟨nd, rfl⟩⟩; refine ⟨_, rfl, ?_⟩) | ((with_reducible refine gate_callee (f := 42) rfl ?_); refine gL 15 Try.func42 #[.slice A0_1 l0_1.length c0_1, .slice A1_1 l1_1.length c1_1] ?_; (with_reducible refine (laws_eqInt64S.calls k _ _ l0_1 _ _ l1_1 false _ ?side1 ?side2 ?side3 ?side4 A5.out).mono ?_); (case side1 => repeat (first | exact (yY HR0_1.out (kB HB)) | (with_reducible first | refine yV ?_ _ | refine yW ?_ _ | refine yX ?_))); (case side2 => exact HC0_1.out); (case side3 => repeat (first | exact (yY HR1_1.out (kB HB)) | (with_reducible first | refine yV ?_ _ | refine yW ?_ _ | refine yX ?_))); (case side4 => exact HC1_1.out); rintro e w' ⟨rfl, ⟨nd, rfl⟩⟩; refine ⟨_, rfl, ?_⟩))
    go_ret
    exact ⟨by first | rfl | (simp <;> rfl) | (simp [*] <;> rfl), kR0 HB⟩
 ·
  replace c4 := Bool.eq_false_iff.mpr c4
  subst c4
  replace H : (some false) = some r := (by rw [if_neg (show ¬ (false = true) by decide)] at H; exact H); obtain rfl := Option.some.inj H; go_enter Try.func34, Try.ntmps34
  go_wp2_with (first | ((with_reducible refine gate_dst (N := 2) rfl ?_); refine box_event ?hg (N := 2) ?hd (cs := #[.slice A0_0 l0_0.length c0_0, .slice A0_1 l0_1.length c0_1]) (t := 42) ?hr ?_; (case hd => rfl); (case hg => rfl); (case hr => first | (go_simp; done) | (go_simp; rfl)); intro gb400 hg w17 hbox hb; have BK400 := yD (hbox); have GW400 := yD ((by rw [hg]; exact (below_size (kB HB)) : w.heap.size ≤ gb400)); have GE400 := yD ((by rw [hg]; exact (below_size (kB HB)) : w.heap.size ≤ gb400)); replace HB := yD (zC (kB HB) hb); clear hb hbox hg) | ((with_reducible refine gate_dst (N := 3) rfl ?_); refine box_event ?hg (N := 3) ?hd (cs := #[.slice A1_0 l1_0.length c1_0, .slice A1_1 l1_1.length c1_1]) (t := 42) ?hr ?_; (case hd => rfl); (case hg => rfl); (case hr => first | (go_simp; done) | (go_simp; rfl)); intro gb401 hg w18 hbox hb; have BK401 := yD (hbox); have GW401 := yD ((by rw [hg]; exact (below_size (kB HB)) : w.heap.size ≤ gb401)); have GE401 := yD ((by rw [hg]; exact (below_size (kB HB)) : w.heap.size ≤ gb401)); replace HB := yD (zC (kB HB) hb); have NB400_401 := yD ((by rw [hg]; exact Nat.ne_of_lt (blk_lt (kN BK400)) : gb400 ≠ gb401)); have NB401_400 := yD ((by rw [hg]; exact Nat.ne_of_gt (blk_lt (kN BK400)) : gb401 ≠ gb400)); replace BK400 := yD (zB (kN BK400) hb); clear hb hbox hg; have hnb19 := NB400_401.out; have hnc19 := NB401_400.out; obtain ⟨hcz20_0, hcz20_1⟩ := cz2 BK400.out; obtain ⟨hfz20_0, hfz20_1⟩ := fz2 BK400.out; obtain ⟨hcz21_0, hcz21_1⟩ := cz2 BK401.out; obtain ⟨hfz21_0, hfz21_1⟩ := fz2 BK401.out) | ((with_reducible refine gate_callee (f := 42) rfl ?_); refine gL 9 Try.func42 #[.slice A0_0 l0_0.length c0_0, .slice A1_0 l1_0.length c1_0] ?_; (with_reducible refine (laws_eqInt64S.calls k _ _ l0_0 _ _ l1_0 false _ ?side1 ?side2 ?side3 ?side4 A3.out).mono ?_); (case side1 => exact kV (yY HR0_0.out HB.out)); (case side2 => exact HC0_0.out); (case side3 => exact kV (yY HR1_0.out HB.out)); (case side4 => exact HC1_0.out); rintro e w' ⟨rfl, ⟨nd, rfl⟩⟩; refine ⟨_, rfl, ?_⟩))
  go_ret
  exact ⟨by first | rfl | (simp <;> rfl) | (simp [*] <;> rfl), kR0 HB⟩

/-! ### laws_eqBoxS: function 17 -/
def laws_eqBoxS.l0 : Nat → List (S42) → List (S42) → Int → Option (Bool)
 | 0, _, _, _ => none
 | k + 1, x0, x1, x5 => if x5 < (x0.length : Int) then (if 0 ≤ x5 then (if x5 < (x1.length : Int) then ((laws_eqBox.f k ((rd_T42 x0 x5).f0) ((rd_T42 x0 x5).f1) ((rd_T42 x1 x5).f0) ((rd_T42 x1 x5).f1)).bind fun t406 => (if t406 = true then (laws_eqBoxS.l0 k x0 x1 (wrap64 (x5 + 1))) else (some false))) else (none)) else (none)) else (some true)
def laws_eqBoxS.f (k : Nat) (l0 : List (S42)) (l1 : List (S42)) : Option (Bool) := if (l0.length : Int) = (l1.length : Int) then (laws_eqBoxS.l0 k l0 l1 0) else (some false)
theorem laws_eqBoxS.mono_l : ∀ k, (∀ y0 y1 y2, LeO (laws_eqBoxS.l0 k y0 y1 y2) (laws_eqBoxS.l0 (k + 1) y0 y1 y2))
 | 0 => fun _ _ _ r h => by simp [laws_eqBoxS.l0] at h
 | k + 1 => by
  have ih0 := laws_eqBoxS.mono_l k
  · intro y0 y1 y2
    unfold laws_eqBoxS.l0
    repeat' (with_reducible first | exact ih0 _ _ _ | exact laws_eqBox.mono _ _ _ _ _ | exact LeO.refl _ | exact LeO.none _ | refine LeO.ite ?_ ?_ | refine LeO.bind ?_ (fun _ => ?_))
theorem laws_eqBoxS.mono : ∀ a0 a1 k, LeO (laws_eqBoxS.f k a0 a1) (laws_eqBoxS.f (k + 1) a0 a1) := by
 intro a0 a1 k
 have ih0 := laws_eqBoxS.mono_l k
 unfold laws_eqBoxS.f
 repeat' (with_reducible first | exact ih0 _ _ _ | exact laws_eqBox.mono _ _ _ _ _ | exact LeO.refl _ | exact LeO.none _ | refine LeO.ite ?_ ?_ | refine LeO.bind ?_ (fun _ => ?_))
def laws_eqBoxS.T6 : Bool × List (List Nat × List Nat) := (true, [([], []), ([], []), ([0, 1], [0, 1]), ([2], [2]), ([], []), ([], []), ([4, 5], [4, 5]), ([6], [6]), ([3, 7], [3, 7]), ([8], [8])])
def laws_eqBoxS.B6 : List Nat := [0, 0, 3, 7, 0, 0, 48, 112, 255, 511]
theorem laws_eqBoxS.tab6 : rtab .any (opsOf Try.f17 6) = laws_eqBoxS.T6 := by kernel_rfl
theorem laws_eqBoxS.bits6 : waitsOk laws_eqBoxS.T6.2 laws_eqBoxS.B6 = true := by kernel_rfl
set_option maxHeartbeats 8000000 in
set_option maxRecDepth 100000 in
theorem laws_eqBoxS.calls (k : Nat) (A0 : Option Addr) (c0 : Nat) (l0 : List (S42)) (A1 : Option Addr) (c1 : Nat) (l1 : List (S42)) (r : Bool) (w : World) (hr0 : Kd.C k42 w A0 l0.length l0) (hc0 : l0.length ≤ c0) (hr1 : Kd.C k42 w A1 l1.length l1) (hc1 : l1.length ≤ c1) (h : laws_eqBoxS.f k l0 l1 = some r) :
 Calls Try.prog 17 #[.slice A0 l0.length c0, .slice A1 l1.length c1] w fun e w' => e = .returned (.bool r) ∧ Below w.heap.size w w' := by
 have hu42 := Try.underlying42
 have HR0 := yD hr0
 have HC0 := yD hc0
 clear hr0 hc0
 have HR1 := yD hr1
 have HC1 := yD hc1
 clear hr1 hc1
 have HB := yD (Below.refl w.heap.size w)
 have H : (if (l0.length : Int) = (l1.length : Int) then (laws_eqBoxS.l0 k l0 l1 0) else (some false)) = some r := h
 clear h
 by_cases c3 : (l0.length : Int) = (l1.length : Int)
 ·
  rw [if_pos c3] at H
  have c3b0 : ((l0.length : Int) == (l1.length : Int)) = true := beq_iff_eq.mpr c3
  have c3b1 : ((l0.length : Int) != (l1.length : Int)) = false := bne_eq_false_iff_eq.mpr c3
  have c3b2 : (l0.length == l1.length) = true := by first | simpa using c3 | (simp at c3 ⊢; omega)
  clear c3
  have H' := yD H
  clear H; go_enter Try.func17, Try.ntmps17
  go_wp2
  go_loopg [5] k (fun kq v5 w' => ∃ (x5_1 : Int), v5 = .int .i64 x5_1 ∧ Aside0 (laws_eqBoxS.l0 kq l0 l1 x5_1 = some r) ∧ Aside0 (kq ≤ k) ∧ Aside0 (Below w.heap.size w w'))
  case atStart => exact ⟨(0), (by first | rfl | (simp; done) | (simp [*]; done)), H', ⟨Nat.le_refl _⟩, ⟨kR1 HB⟩⟩
  case round =>
   clear H'
   try clear c1; try clear c3; try clear c3b0; try clear c3b1; try clear c3b2
   obtain ⟨x5_1, rfl, HA, HK1, HB⟩ := hrel
   cases gk with
   | zero => exact absurd HA.out (by simp [laws_eqBoxS.l0])
   | succ k1 =>
    have H := HA.out; clear HA
    simp only [laws_eqBoxS.l0] at H
    by_cases c4 : x5_1 < (l0.length : Int)
    ·
     rw [if_pos c4] at H
     have c4b0 : decide (x5_1 < (l0.length : Int)) = true := zR c4; clear c4
     by_cases c5 : 0 ≤ x5_1
     ·
      rw [if_pos c5] at H
      have c5b0 : decide (0 ≤ x5_1) = true := zR c5; clear c5
      by_cases c6 : x5_1 < (l1.length : Int)
      ·
       rw [if_pos c6] at H
       have c6b0 : decide (x5_1 < (l1.length : Int)) = true := zR c6; clear c6
       obtain ⟨t406, A70, H⟩ := zW_ H
       replace H : (if t406 = true then (laws_eqBoxS.l0 k1 l0 l1 (wrap64 (x5_1 + 1))) else (some false)) = some r := H
       have A7 := yD A70
       clear A70
       by_cases c8 : t406 = true
       ·
        subst c8
        replace H : (laws_eqBoxS.l0 k1 l0 l1 (wrap64 (x5_1 + 1))) = some r := (by rw [if_pos rfl] at H; exact H)
        have H' := yD H
        clear H
        try go_wp2
        have n0_ := yD (yP HB.out)
        clear HB; have HB := n0_; clear n0_
        have p404 : 0 ≤ (x5_1 : Int) := zP (by assumption)
        have q404 : x5_1 < (l0.length : Int) := zP (by assumption)
        obtain ⟨ad404, A404_0, c404_0, A404_1, c404_1, e404, hx404_0, hx404_1, hl404_0, hi404_0, hl404_1, hi404_1⟩ := at_T42 HR0.out x5_1 p404 q404
        have hw404_1 := hx404_1; have hw404_0 := hx404_0; cases e404
        replace hx404_0 := (HB.out.cell (zQ w _ hx404_0)).trans hx404_0
        replace hx404_1 := (HB.out.cell (zQ w _ hx404_1)).trans hx404_1
        have HR404_0 := yD hi404_0
        have HC404_0 := yD hl404_0
        clear hi404_0 hl404_0
        have HR404_1 := yD hi404_1
        have HC404_1 := yD hl404_1
        clear hi404_1 hl404_1; replace p404 := eq_true p404; replace q404 := eq_true q404
        have p405 : 0 ≤ (x5_1 : Int) := zP (by assumption)
        have q405 : x5_1 < (l1.length : Int) := zP (by assumption)
        obtain ⟨ad405, A405_0, c405_0, A405_1, c405_1, e405, hx405_0, hx405_1, hl405_0, hi405_0, hl405_1, hi405_1⟩ := at_T42 HR1.out x5_1 p405 q405
        have hw405_1 := hx405_1; have hw405_0 := hx405_0; cases e405
        replace hx405_0 := (HB.out.cell (zQ w _ hx405_0)).trans hx405_0
        replace hx405_1 := (HB.out.cell (zQ w _ hx405_1)).trans hx405_1
        have HR405_0 := yD hi405_0
        have HC405_0 := yD hl405_0
        clear hi405_0 hl405_0
        have HR405_1 := yD hi405_1
        have HC405_1 := yD hl405_1
        clear hi405_1 hl405_1; replace p405 := eq_true p405; replace q405 := eq_true q405
        refine start_ (n := 10) (S := fun w' => w'.cell? (ad404.add ((x5_1).toNat * 2)) = some (.slice A404_0 ((rd_T42 l0 x5_1).f0).length c404_0) ∧ w'.cell? ⟨(ad404.add ((x5_1).toNat * 2)).block, (ad404.add ((x5_1).toNat * 2)).off + 1, none⟩ = some (.slice A404_1 ((rd_T42 l0 x5_1).f1).length c404_1) ∧ w'.cell? (ad405.add ((x5_1).toNat * 2)) = some (.slice A405_0 ((rd_T42 l1 x5_1).f0).length c405_0) ∧ w'.cell? ⟨(ad405.add ((x5_1).toNat * 2)).block, (ad405.add ((x5_1).toNat * 2)).off + 1, none⟩ = some (.slice A405_1 ((rd_T42 l1 x5_1).f1).length c405_1)) (ds := []) (bz 10 0) (by kernel_rfl) rfl rfl ⟨((HB.out.cell (zQ w _ hw404_0)).trans hw404_0), ((HB.out.cell (zQ w _ hw404_1)).trans hw404_1), ((HB.out.cell (zQ w _ hw405_0)).trans hw405_0), ((HB.out.cell (zQ w _ hw405_1)).trans hw405_1)⟩ (fun hHeld => ?_); refine with_tabW laws_eqBoxS.tab6 laws_eqBoxS.bits6 (fun HT_ HW_ => ?_)
        generalize wr.drew = w9 at HB HR404_0 HR404_1 HR405_0 HR405_1 hx404_0 hx404_1 hx405_0 hx405_1 hHeld ⊢
        refine qA 0 17 (bz 10 1) HT_ ?_
        refine qA 1 18 (bz 10 3) HT_ ?_
        refine qA 2 19 (bz 10 7) HT_ ?_
        refine qA 4 21 (bz 10 23) HT_ ?_
        refine qA 5 22 (bz 10 55) HT_ ?_
        refine qA 6 23 (bz 10 119) HT_ ?_
        refine qC 3 20 (bz 10 127) HT_ HW_ hHeld ?_ (hy := by rintro w' ⟨s0, s1, s2, s3⟩; go_simp; with_reducible rfl)
        refine qC 7 24 (bz 10 255) HT_ HW_ hHeld ?_ (hy := by rintro w' ⟨s0, s1, s2, s3⟩; go_simp; with_reducible rfl)
        refine one_ (i := 8) (N := some 25) (bz 10 511) rfl rfl (one_of HT_.out (by kernel_rfl)) (by decide) (fun K hK => ?_)
        refine goes_ Try.func34 (by kernel_rfl) rfl #[.agg #[.slice A404_0 ((rd_T42 l0 x5_1).f0).length c404_0, .slice A404_1 ((rd_T42 l0 x5_1).f1).length c404_1], .agg #[.slice A405_0 ((rd_T42 l1 x5_1).f0).length c405_0, .slice A405_1 ((rd_T42 l1 x5_1).f1).length c405_1]] (by rfl) rfl rfl (by (try simp only [zK, zL, zM]); first | done | rfl | (simp only [zN, zO]; rfl)) ?_
        with_reducible refine (laws_eqBox.calls k1 _ _ ((rd_T42 l0 x5_1).f0) _ _ ((rd_T42 l0 x5_1).f1) _ _ ((rd_T42 l1 x5_1).f0) _ _ ((rd_T42 l1 x5_1).f1) true _ ?side1 ?side2 ?side3 ?side4 ?side5 ?side6 ?side7 ?side8 A7.out).mono ?_
        (case side1 => exact kV (yY HR404_0.out HB.out))
        (case side2 => exact HC404_0.out)
        (case side3 => exact kV (yY HR404_1.out HB.out))
        (case side4 => exact HC404_1.out)
        (case side5 => exact kV (yY HR405_0.out HB.out))
        (case side6 => exact HC405_0.out)
        (case side7 => exact kV (yY HR405_1.out HB.out))
        (case side8 => exact HC405_1.out)
        rintro e w10 ⟨rfl, hb⟩
        refine ⟨_, rfl, ?_⟩
        have n0_ := yD (zC (kB HB) hb)
        clear HB; have HB := n0_; clear n0_; (try clear hb); (try clear hb2); (try clear hk); (try clear hi)
        refine hK.out _ _ ⟨((HB.out.cell (zQ w _ hw404_0)).trans hw404_0), ((HB.out.cell (zQ w _ hw404_1)).trans hw404_1), ((HB.out.cell (zQ w _ hw405_0)).trans hw405_0), ((HB.out.cell (zQ w _ hw405_1)).trans hw405_1)⟩ (fun hHeld => ?_)
        clear hK K
        refine norm_ (a' := ?_) ?_ ?_
        rotate_left
        · show Act.put _ (some 25) _ = _
          simp only [Act.put, zH, zI, zJ, i64_w, i32_w]
          rfl
        refine qA 9 26 (bz 10 1023) HT_ ?_
        refine done_ (done_of HT_.out (by kernel_rfl)) ?_
        try go_wp2
        go_roundg k1
        case measure => have := HK1.out; omega
        case rel => exact ⟨(wrap64 (x5_1 + 1)), (by first | rfl | (simp; done) | (simp [*]; done)), H', ⟨by have := HK1.out; omega⟩, ⟨kR1 HB⟩⟩
       ·
        replace c8 := Bool.eq_false_iff.mpr c8
        subst c8
        replace H : (some false) = some r := (by rw [if_neg (show ¬ (false = true) by decide)] at H; exact H); obtain rfl := Option.some.inj H
        try go_wp2
        have n0_ := yD (yP HB.out)
        clear HB; have HB := n0_; clear n0_
        have p404 : 0 ≤ (x5_1 : Int) := zP (by assumption)
        have q404 : x5_1 < (l0.length : Int) := zP (by assumption)
        obtain ⟨ad404, A404_0, c404_0, A404_1, c404_1, e404, hx404_0, hx404_1, hl404_0, hi404_0, hl404_1, hi404_1⟩ := at_T42 HR0.out x5_1 p404 q404
        have hw404_1 := hx404_1; have hw404_0 := hx404_0; cases e404
        replace hx404_0 := (HB.out.cell (zQ w _ hx404_0)).trans hx404_0
        replace hx404_1 := (HB.out.cell (zQ w _ hx404_1)).trans hx404_1
        have HR404_0 := yD hi404_0
        have HC404_0 := yD hl404_0
        clear hi404_0 hl404_0
        have HR404_1 := yD hi404_1
        have HC404_1 := yD hl404_1
        clear hi404_1 hl404_1; replace p404 := eq_true p404; replace q404 := eq_true q404
        have p405 : 0 ≤ (x5_1 : Int) := zP (by assumption)
        have q405 : x5_1 < (l1.length : Int) := zP (by assumption)
        obtain ⟨ad405, A405_0, c405_0, A405_1, c405_1, e405, hx405_0, hx405_1, hl405_0, hi405_0, hl405_1, hi405_1⟩ := at_T42 HR1.out x5_1 p405 q405
        have hw405_1 := hx405_1; have hw405_0 := hx405_0; cases e405
        replace hx405_0 := (HB.out.cell (zQ w _ hx405_0)).trans hx405_0
        replace hx405_1 := (HB.out.cell (zQ w _ hx405_1)).trans hx405_1
        have HR405_0 := yD hi405_0
        have HC405_0 := yD hl405_0
        clear hi405_0 hl405_0
        have HR405_1 := yD hi405_1
        have HC405_1 := yD hl405_1
        clear hi405_1 hl405_1; replace p405 := eq_true p405; replace q405 := eq_true q405
        refine start_ (n := 10) (S := fun w' => w'.cell? (ad404.add ((x5_1).toNat * 2)) = some (.slice A404_0 ((rd_T42 l0 x5_1).f0).length c404_0) ∧ w'.cell? ⟨(ad404.add ((x5_1).toNat * 2)).block, (ad404.add ((x5_1).toNat * 2)).off + 1, none⟩ = some (.slice A404_1 ((rd_T42 l0 x5_1).f1).length c404_1) ∧ w'.cell? (ad405.add ((x5_1).toNat * 2)) = some (.slice A405_0 ((rd_T42 l1 x5_1).f0).length c405_0) ∧ w'.cell? ⟨(ad405.add ((x5_1).toNat * 2)).block, (ad405.add ((x5_1).toNat * 2)).off + 1, none⟩ = some (.slice A405_1 ((rd_T42 l1 x5_1).f1).length c405_1)) (ds := []) (bz 10 0) (by kernel_rfl) rfl rfl ⟨((HB.out.cell (zQ w _ hw404_0)).trans hw404_0), ((HB.out.cell (zQ w _ hw404_1)).trans hw404_1), ((HB.out.cell (zQ w _ hw405_0)).trans hw405_0), ((HB.out.cell (zQ w _ hw405_1)).trans hw405_1)⟩ (fun hHeld => ?_); refine with_tabW laws_eqBoxS.tab6 laws_eqBoxS.bits6 (fun HT_ HW_ => ?_)
        generalize wr.drew = w11 at HB HR404_0 HR404_1 HR405_0 HR405_1 hx404_0 hx404_1 hx405_0 hx405_1 hHeld ⊢
        refine qA 0 17 (bz 10 1) HT_ ?_
        refine qA 1 18 (bz 10 3) HT_ ?_
        refine qA 2 19 (bz 10 7) HT_ ?_
        refine qA 4 21 (bz 10 23) HT_ ?_
        refine qA 5 22 (bz 10 55) HT_ ?_
        refine qA 6 23 (bz 10 119) HT_ ?_
        refine qC 3 20 (bz 10 127) HT_ HW_ hHeld ?_ (hy := by rintro w' ⟨s0, s1, s2, s3⟩; go_simp; with_reducible rfl)
        refine qC 7 24 (bz 10 255) HT_ HW_ hHeld ?_ (hy := by rintro w' ⟨s0, s1, s2, s3⟩; go_simp; with_reducible rfl)
        refine one_ (i := 8) (N := some 25) (bz 10 511) rfl rfl (one_of HT_.out (by kernel_rfl)) (by decide) (fun K hK => ?_)
        refine goes_ Try.func34 (by kernel_rfl) rfl #[.agg #[.slice A404_0 ((rd_T42 l0 x5_1).f0).length c404_0, .slice A404_1 ((rd_T42 l0 x5_1).f1).length c404_1], .agg #[.slice A405_0 ((rd_T42 l1 x5_1).f0).length c405_0, .slice A405_1 ((rd_T42 l1 x5_1).f1).length c405_1]] (by rfl) rfl rfl (by (try simp only [zK, zL, zM]); first | done | rfl | (simp only [zN, zO]; rfl)) ?_
        with_reducible refine (laws_eqBox.calls k1 _ _ ((rd_T42 l0 x5_1).f0) _ _ ((rd_T42 l0 x5_1).f1) _ _ ((rd_T42 l1 x5_1).f0) _ _ ((rd_T42 l1 x5_1).f1) false _ ?side1 ?side2 ?side3 ?side4 ?side5 ?side6 ?side7 ?side8 A7.out).mono ?_
        (case side1 => exact kV (yY HR404_0.out HB.out))
        (case side2 => exact HC404_0.out)
        (case side3 => exact kV (yY HR404_1.out HB.out))
        (case side4 => exact HC404_1.out)
        (case side5 => exact kV (yY HR405_0.out HB.out))
        (case side6 => exact HC405_0.out)
        (case side7 => exact kV (yY HR405_1.out HB.out))
        (case side8 => exact HC405_1.out)
        rintro e w12 ⟨rfl, hb⟩
        refine ⟨_, rfl, ?_⟩
        have n0_ := yD (zC (kB HB) hb)
        clear HB; have HB := n0_; clear n0_; (try clear hb); (try clear hb2); (try clear hk); (try clear hi)
        refine hK.out _ _ ⟨((HB.out.cell (zQ w _ hw404_0)).trans hw404_0), ((HB.out.cell (zQ w _ hw404_1)).trans hw404_1), ((HB.out.cell (zQ w _ hw405_0)).trans hw405_0), ((HB.out.cell (zQ w _ hw405_1)).trans hw405_1)⟩ (fun hHeld => ?_)
        clear hK K
        refine norm_ (a' := ?_) ?_ ?_
        rotate_left
        · show Act.put _ (some 25) _ = _
          simp only [Act.put, zH, zI, zJ, i64_w, i32_w]
          rfl
        refine qA 9 26 (bz 10 1023) HT_ ?_
        refine done_ (done_of HT_.out (by kernel_rfl)) ?_
        try go_wp2
        go_ret
        exact ⟨by first | rfl | (simp <;> rfl) | (simp [*] <;> rfl), kR1 HB⟩
      · rw [if_neg c6] at H
        exact absurd H (by simp)
     · rw [if_neg c5] at H
       exact absurd H (by simp)
    · rw [if_neg c4] at H
      have c4b0 : decide (x5_1 < (l0.length : Int)) = false := zS c4; clear c4; obtain rfl := Option.some.inj H
      go_wp2
      go_ret
      exact ⟨by first | rfl | (simp <;> rfl) | (simp [*] <;> rfl), kR1 HB⟩
 ·
  rw [if_neg c3] at H
  have c3b0 : ((l0.length : Int) == (l1.length : Int)) = false := beq_eq_false_iff_ne.mpr c3
  have c3b1 : ((l0.length : Int) != (l1.length : Int)) = true := bne_iff_ne.mpr c3
  have c3b2 : (l0.length == l1.length) = false := by first | simpa using c3 | (simp at c3 ⊢; omega)
  obtain rfl := Option.some.inj H; go_enter Try.func17, Try.ntmps17
  go_wp2
  go_ret
  exact ⟨by first | rfl | (simp <;> rfl) | (simp [*] <;> rfl), kR1 HB⟩

/-! ### laws_markInt64S: function 44 -/
def laws_markInt64S.l0 : Nat → List Int → Int → Int → Option (Int × List Int)
 | 0, _, _, _ => none
 | k + 1, x0, x1, x5 => if x5 < (x0.length : Int) then (if 0 ≤ x5 then (laws_markInt64S.l0 k (x0.set (x5 : Int).toNat x1) (wrap64 (x1 + 1)) (wrap64 (x5 + 1))) else (none)) else (some (x1, x0))
def laws_markInt64S.f (k : Nat) (l0 : List Int) (a1 : Int) : Option (Int × List Int) := laws_markInt64S.l0 k l0 a1 0
theorem laws_markInt64S.mono_l : ∀ k, (∀ y0 y1 y2, LeO (laws_markInt64S.l0 k y0 y1 y2) (laws_markInt64S.l0 (k + 1) y0 y1 y2))
 | 0 => fun _ _ _ r h => by simp [laws_markInt64S.l0] at h
 | k + 1 => by
  have ih0 := laws_markInt64S.mono_l k
  · intro y0 y1 y2
    unfold laws_markInt64S.l0
    repeat' (with_reducible first | exact ih0 _ _ _ | exact LeO.refl _ | exact LeO.none _ | refine LeO.ite ?_ ?_ | refine LeO.bind ?_ (fun _ => ?_))
theorem laws_markInt64S.mono : ∀ a0 a1 k, LeO (laws_markInt64S.f k a0 a1) (laws_markInt64S.f (k + 1) a0 a1) := by
 intro a0 a1 k
 have ih0 := laws_markInt64S.mono_l k
 unfold laws_markInt64S.f
 repeat' (with_reducible first | exact ih0 _ _ _ | exact LeO.refl _ | exact LeO.none _ | refine LeO.ite ?_ ?_ | refine LeO.bind ?_ (fun _ => ?_))
set_option maxHeartbeats 8000000 in
set_option maxRecDepth 100000 in
theorem laws_markInt64S.calls (k : Nat) (P0_ : Nat → Prop) (u9000_ : Value) (l0 : List Int) (a1 : Int) (r1 : Int) (r2 : List Int) (w0 w : World) (hB : Below w0.heap.size w0 w) (ho0 : Kd.R (Kd.int .i64) 2 w w0.heap.size P0_ u9000_ l0) (h : laws_markInt64S.f k l0 a1 = some (r1, r2)) :
 Calls Try.prog 44 #[u9000_, .int .i64 a1] w fun e w' => e = .returned (.int .i64 r1) ∧ Kd.R (Kd.int .i64) 2 w' w0.heap.size (fun k_ => (P0_ k_ ∨ w.heap.size ≤ k_)) u9000_ r2 ∧ Below w0.heap.size w0 w' ∧ Kept w w' (fun k_ => P0_ k_) := by
 have HO0 := yD (show Kd.R (Kd.int .i64) 2 w w0.heap.size (fun k_ => (P0_ k_ ∨ w.heap.size ≤ k_)) u9000_ l0 from zF ho0 (fun k_ hk => (.inl hk)))
 have HK := yD (Kept.refl w (fun k_ => P0_ k_))
 have HW0 := yD hB.size
 have HB := yD hB
 clear hB
 have H : (laws_markInt64S.l0 k l0 a1 0) = some (r1, r2) := h
 clear h
 have H' := yD H
 clear H; go_enter Try.func44, Try.ntmps44
 go_wp2
 go_loopg [1, 5] k (fun kq v1 v5 w' => ∃ (x0_1 : List Int) (x1_1 : Int) (x5_1 : Int), v1 = .int .i64 x1_1 ∧ v5 = .int .i64 x5_1 ∧ Aside0 (laws_markInt64S.l0 kq x0_1 x1_1 x5_1 = some (r1, r2)) ∧ Aside0 (kq ≤ k) ∧ Aside0 (Kd.R (Kd.int .i64) 2 w' w0.heap.size (fun k_ => (P0_ k_ ∨ w.heap.size ≤ k_)) u9000_ x0_1) ∧ Aside0 (Kept w w' (fun k_ => P0_ k_)) ∧ Aside0 (Below w0.heap.size w0 w'))
 case atStart => exact ⟨(l0), (a1), (0), (by first | rfl | (simp; done) | (simp [*]; done)), (by first | rfl | (simp; done) | (simp [*]; done)), H', ⟨Nat.le_refl _⟩, ⟨kA HO0⟩, ⟨kR3 HK⟩, ⟨kR1 HB⟩⟩
 case round =>
  clear H'
  try clear p2
  obtain ⟨x0_1, x1_1, x5_1, rfl, rfl, HA, HK1, HO_0, HK, HB⟩ := hrel
  cases gk with
  | zero => exact absurd HA.out (by simp [laws_markInt64S.l0])
  | succ k1 =>
   have H := HA.out; clear HA
   simp only [laws_markInt64S.l0] at H
   by_cases c3 : x5_1 < (x0_1.length : Int)
   ·
    rw [if_pos c3] at H
    have c3b0 : decide (x5_1 < (x0_1.length : Int)) = true := zR c3; clear c3
    by_cases c4 : 0 ≤ x5_1
    ·
     rw [if_pos c4] at H
     have c4b0 : decide (0 ≤ x5_1) = true := zR c4; clear c4
     obtain ⟨y407, hy407⟩ : ∃ y_ : List Int, y_ = (x0_1.set (x5_1 : Int).toNat x1_1) := ⟨_, rfl⟩
     replace H : (laws_markInt64S.l0 k1 y407 (wrap64 (x1_1 + 1)) (wrap64 (x5_1 + 1))) = some (r1, r2) := by first | (rw [hy407]; with_reducible exact H) | (have H2_ := (Option.bind_some _ _).symm.trans H; rw [hy407]; with_reducible exact H2_) | (have H2_ := (Option.bind_some _ _).symm.trans H; with_reducible exact H2_) | with_reducible exact H | (rw [hy407]; exact H) | exact H
     have Ny407 := yD hy407
     clear hy407
     have H' := yD H
     clear H
     obtain ⟨Ao6, co6, eo6⟩ := Kd.R_slice HO_0.out
     subst eo6
     have p5 : 0 ≤ (x5_1 : Int) := zP (by assumption)
     have q5 : (x5_1 : Int) < ((x0_1.length : Int) : Int) := zP (by assumption)
     obtain ⟨go5, co5, eo5, gb5, gl5, cl5, HG5⟩ := Kd.R_form HO_0.out (by omega)
     (first | cases eo5 | (injection eo5 with ea_ en_ ec_; (first | subst ea_ | (injection ea_ with ea_; subst ea_)); subst ec_; clear en_))
     have GB5 := yD gb5
     have GG5 := yD HG5
     clear gb5 gl5 HG5
     have HMgo5 := yD (show (P0_ go5 ∨ w.heap.size ≤ go5) from (HO_0.out.1 _ rfl))
     obtain ⟨hx5_0, hf5_0⟩ := Kd.R_celln 0 HO_0.out (x5_1 : Int) p5 q5
     replace p5 := eq_true p5; replace q5 := eq_true q5
     have HP7 := Kd.R_putg HO_0.out (x5_1 : Int) x1_1
     go_wp2_with (first | ((with_reducible refine gate_store (t := 2) (p := 15) rfl ?_); refine store_event (t := 2) (p := 15) (v := ?vo_w8) (w1 := (wr.setCell ⟨go5, (x5_1 : Int).toNat, none⟩ (.int .i64 x1_1))) ?hg ?ho ?hn ?hr ?_; (case ho => rfl); (case hg => rfl); (case hn => rfl); (case hr => first | (go_simp; done) | (go_simp; rfl)); intro w8 hw; have hg : wr.grownBy w8 (some go5) := (by rw [hw]; exact HP7.2); have hp_ : Kd.R (Kd.int .i64) 2 w8 w0.heap.size (fun k_ => (P0_ k_ ∨ w.heap.size ≤ k_)) (.slice (some ⟨go5, 0, none⟩) x0_1.length co6) y407 := (by rw [hw, Ny407.out]; exact HP7.1); clear HP7; replace HB := yD ((by rw [hw]; exact yE (HB.out) GB5.out : Below w0.heap.size w0 w8)); replace HK := yD (Kept.of_grown (S := (fun k_ => P0_ k_)) hg (kR3 HK) (fun k_ e_ => (HO_0.out.1 k_ e_))); replace HO_0 := yD (hp_); clear hg hw hp_))
     go_roundg k1
     case measure => have := HK1.out; omega
     case rel => exact ⟨(y407), (wrap64 (x1_1 + 1)), (wrap64 (x5_1 + 1)), (by first | rfl | (simp; done) | (simp [*]; done)), (by first | rfl | (simp; done) | (simp [*]; done)), H', ⟨by have := HK1.out; omega⟩, ⟨kA HO_0⟩, ⟨kR3 HK⟩, ⟨kR1 HB⟩⟩
    · rw [if_neg c4] at H
      exact absurd H (by simp)
   ·
    rw [if_neg c3] at H
    have c3b0 : decide (x5_1 < (x0_1.length : Int)) = false := zS c3; clear c3
    simp only [Option.some.injEq, Prod.mk.injEq] at H
    obtain ⟨rfl, rfl⟩ := H
    obtain ⟨Ao9, co9, eo9⟩ := Kd.R_slice HO_0.out
    subst eo9
    go_wp2
    go_ret
    exact ⟨by first | rfl | (simp <;> rfl) | (simp [*] <;> rfl), kA HO_0, kR1 HB, kR3 HK⟩

/-! ### laws_markBoxS: function 18 -/
def laws_markBoxS.l0 : Nat → List (S42) → Int → Int → Option (Int × List (S42))
 | 0, _, _, _ => none
 | k + 1, x0, x1, x5 => if x5 < (x0.length : Int) then (if 0 ≤ x5 then ((laws_markInt64S.f k ((rd_T42 x0 x5).f0) x1).bind fun ta => ((laws_markInt64S.f k ((rd_T42 x0 x5).f1) ta.1).bind fun tb => (laws_markBoxS.l0 k (x0.set x5.toNat ⟨ta.2, tb.2⟩) tb.1 (wrap64 (x5 + 1))))) else none) else some (x1, x0)
def laws_markBoxS.f (k : Nat) (l0 : List (S42)) (a1 : Int) : Option (Int × List (S42)) := laws_markBoxS.l0 k l0 a1 0
theorem laws_markBoxS.mono_l : ∀ k, (∀ y0 y1 y2, LeO (laws_markBoxS.l0 k y0 y1 y2) (laws_markBoxS.l0 (k + 1) y0 y1 y2))
 | 0 => fun _ _ _ r h => by simp [laws_markBoxS.l0] at h
 | k + 1 => by
  have ih0 := laws_markBoxS.mono_l k
  intro y0 y1 y2
  unfold laws_markBoxS.l0
  (repeat' first | (with_reducible exact ih0 _ _ _) | (with_reducible exact laws_markInt64S.mono _ _ _) | (with_reducible exact LeO.refl _) | (with_reducible exact LeO.none _) | (with_reducible refine LeO.ite ?_ ?_) | (with_reducible refine LeO.bind ?_ (fun _ => ?_)) | exact ih0 _ _ _ | exact laws_markInt64S.mono _ _ _)
theorem laws_markBoxS.mono : ∀ a0 a1 k, LeO (laws_markBoxS.f k a0 a1) (laws_markBoxS.f (k + 1) a0 a1) := by
 intro a0 a1 k
 exact laws_markBoxS.mono_l k _ _ _
set_option maxHeartbeats 8000000 in
set_option maxRecDepth 100000 in
theorem laws_markBoxS.calls (k : Nat) (P0_ : Nat → Prop) (u9000_ : Value) (l0 : List (S42)) (a1 : Int) (r1 : Int) (r2 : List (S42)) (w0 w : World) (hB : Below w0.heap.size w0 w) (ho0 : Kd.S k42 42 w w0.heap.size P0_ u9000_ l0) (h : laws_markBoxS.f k l0 a1 = some (r1, r2)) :
 Calls Try.prog 18 #[u9000_, .int .i64 a1] w fun e w' => e = .returned (.int .i64 r1) ∧ Kd.S k42 42 w' w0.heap.size P0_ u9000_ r2 ∧ Below w0.heap.size w0 w' ∧ Kept w w' (fun k_ => P0_ k_) := by
 obtain ⟨A0, c0, rfl⟩ := Kd.S_slice ho0
 have HO_ := Aside0.mk ho0; have HB_ := Aside0.mk hB; have H' := Aside0.mk (show laws_markBoxS.l0 k l0 a1 0 = some (r1, r2) from h)
 clear ho0 hB h
 go_enter Try.func18, Try.ntmps18
 go_wp2
 go_loopg [1, 5] k (fun kq v1 v5 w' => ∃ (x1_1 : Int) (x5_1 : Int) (xs : List (S42)), v1 = .int .i64 x1_1 ∧ v5 = .int .i64 x5_1 ∧ Aside0 (laws_markBoxS.l0 kq xs x1_1 x5_1 = some (r1, r2)) ∧ Aside0 (kq ≤ k) ∧ Aside0 (xs.length = l0.length) ∧ Aside0 (Kd.S k42 42 w' w0.heap.size P0_ (.slice A0 l0.length c0) xs) ∧ Aside0 (Below w0.heap.size w0 w') ∧ Aside0 (Kept w w' (fun k_ => P0_ k_)))
 case atStart => exact ⟨a1, 0, l0, rfl, rfl, H', ⟨Nat.le_refl _⟩, ⟨rfl⟩, ⟨by (with_reducible repeat (first | apply Kd.S_alloc | apply Kd.S_drewN | apply Kd.S_drew)); exact HO_.out⟩, ⟨kR2 HB_⟩, ⟨by (with_reducible repeat (first | apply Kept.alloc | apply Kept.drewN | apply Kept.drew)); exact Kept.refl _ _⟩⟩
 case round =>
  clear H' HO_ HB_
  obtain ⟨x1_1, x5_1, xs, rfl, rfl, HA, HK1, HL, HO, HB, HK⟩ := hrel
  cases gk with
  | zero => exact absurd HA.out (by simp [laws_markBoxS.l0])
  | succ k1 =>
   have H := HA.out
   clear HA
   simp only [laws_markBoxS.l0] at H
   by_cases c3 : x5_1 < (xs.length : Int)
   ·
    rw [if_pos c3] at H
    have c3b0 : decide (x5_1 < (l0.length : Int)) = true := decide_eq_true (by rw [← HL.out]; exact c3)
    by_cases c4 : 0 ≤ x5_1
    ·
     rw [if_pos c4] at H
     have c4b0 : decide (0 ≤ x5_1) = true := decide_eq_true c4
     obtain ⟨⟨ta, la⟩, Aa0, H⟩ := Option.bind_eq_some_iff.mp H
     have Aa := Aside0.mk Aa0; clear Aa0
     obtain ⟨⟨tb, lb⟩, Ab0, H⟩ := Option.bind_eq_some_iff.mp H
     have Ab := Aside0.mk Ab0; clear Ab0
     have H' := Aside0.mk H
     clear H
     have hlt : (x5_1 : Int) < (l0.length : Int) := by rw [← HL.out]; exact c3
     obtain ⟨ad, rfl⟩ : ∃ ad, A0 = some ad := by
      obtain ⟨_, _, h2⟩ := (Kd.S_reads' HO.out).2.2
      obtain ⟨ad, he, _⟩ := h2 (by omega)
      exact ⟨ad, he⟩
     obtain ⟨go, rfl⟩ := Kd.R_head (Kd.S_R HO.out)
     obtain ⟨oki, ce, hcl, hM, hcc, hfr, hoki, hH⟩ := Kd.S_elem HO.out (rd_T42 [] 0) (x5_1 : Int) c4 hlt
     obtain ⟨v0, v1, rfl, g0, g1⟩ := k42_openM hM
     have hne := k42_ne hM
     have hx0 : wr.cell? ⟨go, (x5_1 : Int).toNat * 2, none⟩ = some (v0) := hcc 0 _ rfl
     have hx1 : wr.cell? ⟨go, (x5_1 : Int).toNat * 2 + 1, none⟩ = some (v1) := hcc 1 _ rfl
     have p3 : (0 ≤ x5_1) = True := eq_true c4
     have q3 : (x5_1 < (l0.length : Int)) = True := eq_true hlt
     have hel : (xs.getD (x5_1 : Int).toNat (rd_T42 [] 0)) = rd_T42 xs x5_1 := rfl
     rw [hel] at g0 g1
     have f0 := Aside0.mk (Kd.R_tight rfl g0); have b0 := Aside0.mk g0.1
     have f1 := Aside0.mk (Kd.R_tight rfl g1); have b1 := Aside0.mk g1.1
     obtain ⟨Ae0, ce0, rfl⟩ := Kd.R_slice f0.out
     obtain ⟨Ae1, ce1, rfl⟩ := Kd.R_slice f1.out
     go_wp2_with (first | ((with_reducible refine gate_callee (f := 44) rfl ?_); refine goesL_ (some 18) rfl rfl Try.func44 (by kernel_rfl) rfl #[.slice Ae0 (rd_T42 xs x5_1).f0.length ce0, .int .i64 x1_1] rfl (by (try simp only [List.map_toArray, List.map_cons, List.map_nil]); first | done | rfl | (simp only [List.length_drop, List.length_take]; rfl)) ?_; (refine (laws_markInt64S.calls k1 (fun k_ => some k_ = (Value.slice Ae0 (rd_T42 xs x5_1).f0.length ce0).ownBlock) _ _ x1_1 ta la w0 _ ?side1 ?side2 Aa.out).mono ?_); (case side1 => exact kR2 HB); (case side2 => (with_reducible repeat (first | apply Kd.R_alloc | apply Kd.R_drewN | apply Kd.R_drew)); exact f0.out); rintro e wq ⟨rfl, hr_, hb_, hk_⟩; refine ⟨_, rfl, ?_⟩; have kq_ := Kept.then_ (Kept.refl wr _) (Kept.then_ (S := fun k_ => some k_ = (Value.slice Ae0 (rd_T42 xs x5_1).f0.length ce0).ownBlock) (by (with_reducible repeat (first | apply Kept.alloc | apply Kept.drewN | apply Kept.drew)); exact Kept.refl _ _) hk_ (fun _ h_ => .inl h_)) (fun _ h_ => .inl h_); have n0_ := Aside0.mk (Kd.H_step hH (fun k_ h1_ h2_ h3_ => kq_.2 k_ h3_ (fun e_ => h2_ (b0.out k_ e_.symm)))); have n1_ := Aside0.mk (Kd.R_move f1.out (fun k_ h1_ => kq_.2 k_ (Kd.R_lt f1.out k_ h1_.symm) (fun e_ => hne k_ e_.symm h1_.symm))); have n2_ := Aside0.mk (Kd.R_tight rfl hr_); have hx1q : wq.cell? ⟨go, (x5_1 : Int).toNat * 2 + 1, none⟩ = some (.slice Ae1 (rd_T42 xs x5_1).f1.length ce1) := (by obtain ⟨_, _, _, _, _, h5_, _⟩ := Kd.H_raw n0_.out c4 hlt; exact h5_ 1 _ rfl); have n3_ := Aside0.mk hb_; have n4_ := Aside0.mk (Kept.then_ HK.out kq_ (fun k_ e_ => .inl (hoki k_ (b0.out k_ e_.symm)).1)); clear hr_ hb_ hk_ kq_ HB HK f1 f0 hH; have hH := n0_.out; have f1 := n1_; have f0 := n2_; have HB := n3_; have HK := n4_; clear n0_ n1_ n2_ n3_ n4_) | ((with_reducible refine gate_callee (f := 44) rfl ?_); refine goesL_ (some 25) rfl rfl Try.func44 (by kernel_rfl) rfl #[.slice Ae1 (rd_T42 xs x5_1).f1.length ce1, .int .i64 ta] rfl (by (try simp only [List.map_toArray, List.map_cons, List.map_nil]); first | done | rfl | (simp only [List.length_drop, List.length_take]; rfl)) ?_; (refine (laws_markInt64S.calls k1 (fun k_ => some k_ = (Value.slice Ae1 (rd_T42 xs x5_1).f1.length ce1).ownBlock) _ _ ta tb lb w0 _ ?side1 ?side2 Ab.out).mono ?_); (case side1 => exact kR2 HB); (case side2 => (with_reducible repeat (first | apply Kd.R_alloc | apply Kd.R_drewN | apply Kd.R_drew)); exact f1.out); rintro e wq ⟨rfl, hr_, hb_, hk_⟩; refine ⟨_, rfl, ?_⟩; have kq_ := (show Kept _ _ (fun k_ => some k_ = (Value.slice Ae1 (rd_T42 xs x5_1).f1.length ce1).ownBlock) from hk_); have n0_ := Aside0.mk (Kd.H_step hH (fun k_ h1_ h2_ h3_ => (Kept.then_ (by (with_reducible repeat (first | apply Kept.alloc | apply Kept.drewN | apply Kept.drew)); exact Kept.refl _ _) kq_ (fun _ h_ => .inl h_)).2 k_ h3_ (fun e_ => h2_ (b1.out k_ e_.symm)))); have n1_ := Aside0.mk (Kd.R_move f0.out (fun k_ h1_ => (Kept.then_ (by (with_reducible repeat (first | apply Kept.alloc | apply Kept.drewN | apply Kept.drew)); exact Kept.refl _ _) kq_ (fun _ h_ => .inl h_)).2 k_ (Kd.R_lt f0.out k_ h1_.symm) (fun e_ => hne k_ h1_.symm e_.symm))); have n2_ := Aside0.mk (Kd.R_tight rfl hr_); have n3_ := Aside0.mk hb_; have n4_ := Aside0.mk (Kept.then_ HK.out (Kept.then_ (by (with_reducible repeat (first | apply Kept.alloc | apply Kept.drewN | apply Kept.drew)); exact Kept.refl _ _) kq_ (fun _ h_ => .inl h_)) (fun k_ e_ => .inl (hoki k_ (b1.out k_ e_.symm)).1)); have HF := Aside0.mk (Kd.H_back n0_.out (x' := ⟨la, lb⟩) (k42_mkM _ _ _ (⟨la, lb⟩ : S42) (Kd.R_mono n1_.out (fun k_ e_ => b0.out k_ e_.symm)) (Kd.R_mono n2_.out (fun k_ e_ => b1.out k_ e_.symm)) hne) (fun _ h_ => h_)); clear hr_ hb_ hk_ kq_ HB HK f1 f0 hH n0_ n1_ n2_; have HB := n3_; have HK := n4_; clear n3_ n4_))
     go_roundg k1
     case measure => have := HK1.out; omega
     case rel => exact ⟨tb, (wrap64 (x5_1 + 1)), _, (by first | rfl | (simp; done)), (by first | rfl | (simp; done)), H', ⟨by have := HK1.out; omega⟩, ⟨by rw [List.length_set]; exact HL.out⟩, ⟨by (with_reducible repeat (first | apply Kd.S_alloc | apply Kd.S_drewN | apply Kd.S_drew)); exact HF.out⟩, ⟨kR2 HB⟩, ⟨by (with_reducible repeat (first | apply Kept.alloc | apply Kept.drewN | apply Kept.drew)); exact HK.out⟩⟩
    · rw [if_neg c4] at H
      exact absurd H (by simp)
   · rw [if_neg c3] at H
     have c3b0 : decide (x5_1 < (l0.length : Int)) = false := decide_eq_false (by rw [← HL.out]; exact c3)
     obtain ⟨rfl, rfl⟩ := Prod.mk.inj (Option.some.inj H)
     go_wp2
     go_ret
     exact ⟨by first | rfl | (simp; done), by (with_reducible repeat (first | apply Kd.S_alloc | apply Kd.S_drewN | apply Kd.S_drew)); exact HO.out, kR2 HB, by (with_reducible repeat (first | apply Kept.alloc | apply Kept.drewN | apply Kept.drew)); exact HK.out⟩

/-! ### laws_heldInt64S: function 46 -/
def laws_heldInt64S.l0 : Nat → List Int → Int → Int → Option (Int)
 | 0, _, _, _ => none
 | k + 1, x0, x1, x5 => if x5 < (x0.length : Int) then (if 0 ≤ x5 then (if (rd x0 x5) = x1 then (laws_heldInt64S.l0 k x0 (wrap64 (x1 + 1)) (wrap64 (x5 + 1))) else (some (-1))) else (none)) else (some x1)
def laws_heldInt64S.f (k : Nat) (l0 : List Int) (a1 : Int) : Option (Int) := laws_heldInt64S.l0 k l0 a1 0
theorem laws_heldInt64S.mono_l : ∀ k, (∀ y0 y1 y2, LeO (laws_heldInt64S.l0 k y0 y1 y2) (laws_heldInt64S.l0 (k + 1) y0 y1 y2))
 | 0 => fun _ _ _ r h => by simp [laws_heldInt64S.l0] at h
 | k + 1 => by
  have ih0 := laws_heldInt64S.mono_l k
  · intro y0 y1 y2
    unfold laws_heldInt64S.l0
    repeat' (with_reducible first | exact ih0 _ _ _ | exact LeO.refl _ | exact LeO.none _ | refine LeO.ite ?_ ?_ | refine LeO.bind ?_ (fun _ => ?_))
theorem laws_heldInt64S.mono : ∀ a0 a1 k, LeO (laws_heldInt64S.f k a0 a1) (laws_heldInt64S.f (k + 1) a0 a1) := by
 intro a0 a1 k
 have ih0 := laws_heldInt64S.mono_l k
 unfold laws_heldInt64S.f
 repeat' (with_reducible first | exact ih0 _ _ _ | exact LeO.refl _ | exact LeO.none _ | refine LeO.ite ?_ ?_ | refine LeO.bind ?_ (fun _ => ?_))
set_option maxHeartbeats 8000000 in
set_option maxRecDepth 100000 in
theorem laws_heldInt64S.calls (k : Nat) (A0 : Option Addr) (c0 : Nat) (l0 : List Int) (a1 : Int) (r : Int) (w : World) (hr0 : Kd.C (Kd.int .i64) w A0 l0.length l0) (hc0 : l0.length ≤ c0) (h : laws_heldInt64S.f k l0 a1 = some r) :
 Calls Try.prog 46 #[.slice A0 l0.length c0, .int .i64 a1] w fun e w' => e = .returned (.int .i64 r) ∧ Drawn0 w w' := by
 have HR0 := yD hr0
 have HC0 := yD hc0
 clear hr0 hc0
 have H : (laws_heldInt64S.l0 k l0 a1 0) = some r := h
 clear h
 have H' := yD H
 clear H; go_enter Try.func46, Try.ntmps46
 go_wp2
 go_loopg [1, 5] k (fun kq v1 v5 w' => ∃ (x1_1 : Int) (x5_1 : Int), v1 = .int .i64 x1_1 ∧ v5 = .int .i64 x5_1 ∧ Aside0 (laws_heldInt64S.l0 kq l0 x1_1 x5_1 = some r) ∧ Aside0 (kq ≤ k) ∧ Drawn0 w w')
 case atStart => exact ⟨(a1), (0), (by first | rfl | (simp; done) | (simp [*]; done)), (by first | rfl | (simp; done) | (simp [*]; done)), H', ⟨Nat.le_refl _⟩, by repeat (first | exact Drawn0.refl _ | apply Drawn0.step)⟩
 case round =>
  clear H'
  try clear p2
  obtain ⟨x1_1, x5_1, rfl, rfl, HA, HK1, ⟨m1, rfl⟩⟩ := hrel
  cases gk with
  | zero => exact absurd HA.out (by simp [laws_heldInt64S.l0])
  | succ k1 =>
   have H := HA.out; clear HA
   simp only [laws_heldInt64S.l0] at H
   by_cases c3 : x5_1 < (l0.length : Int)
   ·
    rw [if_pos c3] at H
    have c3b0 : decide (x5_1 < (l0.length : Int)) = true := zR c3; clear c3
    by_cases c4 : 0 ≤ x5_1
    ·
     rw [if_pos c4] at H
     have c4b0 : decide (0 ≤ x5_1) = true := zR c4; clear c4
     by_cases c5 : (rd l0 x5_1) = x1_1
     ·
      rw [if_pos c5] at H
      have c5b0 : ((rd l0 x5_1) == x1_1) = true := beq_iff_eq.mpr c5
      have c5b1 : ((rd l0 x5_1) != x1_1) = false := bne_eq_false_iff_eq.mpr c5
      clear c5
      have H' := yD H
      clear H
      have p408 : 0 ≤ (x5_1 : Int) := zP (by assumption)
      have q408 : x5_1 < (l0.length : Int) := zP (by assumption)
      obtain ⟨ad408, e408, hx408_0⟩ := Kd.at_int HR0.out x5_1 p408 q408
      cases e408; replace p408 := eq_true p408; replace q408 := eq_true q408
      go_wp2
      go_roundg k1
      case measure => have := HK1.out; omega
      case rel => exact ⟨(wrap64 (x1_1 + 1)), (wrap64 (x5_1 + 1)), (by first | rfl | (simp; done) | (simp [*]; done)), (by first | rfl | (simp; done) | (simp [*]; done)), H', ⟨by have := HK1.out; omega⟩, by repeat (first | exact Drawn0.refl _ | apply Drawn0.step)⟩
     ·
      rw [if_neg c5] at H
      have c5b0 : ((rd l0 x5_1) == x1_1) = false := beq_eq_false_iff_ne.mpr c5
      have c5b1 : ((rd l0 x5_1) != x1_1) = true := bne_iff_ne.mpr c5
      obtain rfl := Option.some.inj H
      have p408 : 0 ≤ (x5_1 : Int) := zP (by assumption)
      have q408 : x5_1 < (l0.length : Int) := zP (by assumption)
      obtain ⟨ad408, e408, hx408_0⟩ := Kd.at_int HR0.out x5_1 p408 q408
      cases e408; replace p408 := eq_true p408; replace q408 := eq_true q408
      go_wp2
      go_ret
      exact ⟨by first | rfl | (simp; done) | (simp [*]; done), by repeat (first | exact Drawn0.refl _ | apply Drawn0.step)⟩
    · rw [if_neg c4] at H
      exact absurd H (by simp)
   · rw [if_neg c3] at H
     have c3b0 : decide (x5_1 < (l0.length : Int)) = false := zS c3; clear c3; obtain rfl := Option.some.inj H
     go_wp2
     go_ret
     exact ⟨by first | rfl | (simp; done) | (simp [*]; done), by repeat (first | exact Drawn0.refl _ | apply Drawn0.step)⟩

end Go.Proofs.Ytdiaebjbiddefaa.PFnExactSubtractBoxes
