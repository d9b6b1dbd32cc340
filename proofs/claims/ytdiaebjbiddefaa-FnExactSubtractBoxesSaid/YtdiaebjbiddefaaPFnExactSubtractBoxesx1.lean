/- Each Go function here comes to what the plain function of its name says, where that says something. Made by a program of this session, over the print. -/
import Derived.Test.YtdiaebjbiddefaaPFnExactSubtractBoxesx0
namespace Go.Proofs.Ytdiaebjbiddefaa.PFnExactSubtractBoxes
open Go.RowKit Go.Proofs.YtdiaebjbiddefaaW.PrintWords Go.Proofs.YtdiaebjbiddefaaW.PrintLast Go.Proofs.YtdiaebjbiddefaaW.PrintMore
attribute [local go_sem] max2_int min2_int max_two min_two max_three min_three max_four min_four   -- for this text's walks alone
set_option linter.unusedVariables false
set_option linter.unusedSimpArgs false

/-! ### laws_szInt64S: function 75 -/
def laws_szInt64S.f (l0 : List Int) (a1 : Int) : Option (Int) := if (wrap64 (a1 - (l0.length : Int))) < 0 then (some (-1)) else (some (wrap64 (a1 - (l0.length : Int))))
set_option maxHeartbeats 8000000 in
set_option maxRecDepth 100000 in
theorem laws_szInt64S.calls (A0 : Option Addr) (c0 : Nat) (l0 : List Int) (a1 : Int) (r : Int) (w : World) (hr0 : Kd.C (Kd.int .i64) w A0 l0.length l0) (hc0 : l0.length ≤ c0) (h : laws_szInt64S.f l0 a1 = some r) :
 Calls Try.prog 75 #[.slice A0 l0.length c0, .int .i64 a1] w fun e w' => e = .returned (.int .i64 r) ∧ Drawn0 w w' := by
 have HR0 := yD hr0
 have HC0 := yD hc0
 clear hr0 hc0
 have H : (if (wrap64 (a1 - (l0.length : Int))) < 0 then (some (-1)) else (some (wrap64 (a1 - (l0.length : Int))))) = some r := h
 clear h
 by_cases c3 : (wrap64 (a1 - (l0.length : Int))) < 0
 · rw [if_pos c3] at H
   have c3b0 : decide ((wrap64 (a1 - (l0.length : Int))) < 0) = true := zR c3; clear c3; obtain rfl := Option.some.inj H; go_enter Try.func75, Try.ntmps75
   go_wp2
   go_ret
   exact ⟨by first | rfl | (simp; done) | (simp [*]; done), by repeat (first | exact Drawn0.refl _ | apply Drawn0.step)⟩
 ·
  rw [if_neg c3] at H
  have c3b0 : decide ((wrap64 (a1 - (l0.length : Int))) < 0) = false := zS c3; clear c3; obtain rfl := Option.some.inj H; go_enter Try.func75, Try.ntmps75
  go_wp2
  go_ret
  exact ⟨by first | rfl | (simp; done) | (simp [*]; done), by repeat (first | exact Drawn0.refl _ | apply Drawn0.step)⟩

/-! ### laws_szBox: function 53 -/
def laws_szBox.f (l0_0 : List Int) (l0_1 : List Int) (a1 : Int) : Option (Int) := (laws_szInt64S.f l0_0 a1).bind fun t102 => (if t102 < 0 then (some (-1)) else ((laws_szInt64S.f l0_1 t102).bind fun t103 => (if t103 < 0 then (some (-1)) else (some t103))))
set_option maxHeartbeats 8000000 in
set_option maxRecDepth 100000 in
theorem laws_szBox.calls (A0_0 : Option Addr) (c0_0 : Nat) (l0_0 : List Int) (A0_1 : Option Addr) (c0_1 : Nat) (l0_1 : List Int) (a1 : Int) (r : Int) (w : World) (hr0_0 : Kd.C (Kd.int .i64) w A0_0 l0_0.length l0_0) (hc0_0 : l0_0.length ≤ c0_0) (hr0_1 : Kd.C (Kd.int .i64) w A0_1 l0_1.length l0_1) (hc0_1 : l0_1.length ≤ c0_1) (h : laws_szBox.f l0_0 l0_1 a1 = some r) :
 Calls Try.prog 53 #[.agg #[.slice A0_0 l0_0.length c0_0, .slice A0_1 l0_1.length c0_1], .int .i64 a1] w fun e w' => e = .returned (.int .i64 r) ∧ Below w.heap.size w w' := by
 have hu69 := Try.underlying69
 have HR0_0 := yD hr0_0
 have HC0_0 := yD hc0_0
 clear hr0_0 hc0_0
 have HR0_1 := yD hr0_1
 have HC0_1 := yD hc0_1
 clear hr0_1 hc0_1
 have HB := yD (Below.refl w.heap.size w)
 have H : ((laws_szInt64S.f l0_0 a1).bind fun t102 => (if t102 < 0 then (some (-1)) else ((laws_szInt64S.f l0_1 t102).bind fun t103 => (if t103 < 0 then (some (-1)) else (some t103))))) = some r := h
 clear h
 obtain ⟨t102, A30, H⟩ := zW_ H
 replace H : (if t102 < 0 then (some (-1)) else ((laws_szInt64S.f l0_1 t102).bind fun t103 => (if t103 < 0 then (some (-1)) else (some t103)))) = some r := H
 have A3 := yD A30
 clear A30
 by_cases c4 : t102 < 0
 · rw [if_pos c4] at H
   have c4b0 : decide (t102 < 0) = true := zR c4; clear c4; obtain rfl := Option.some.inj H; go_enter Try.func53, Try.ntmps53
   go_wp2_with (first | ((with_reducible refine gate_dst (N := 2) rfl ?_); refine box_event ?hg (N := 2) ?hd (cs := #[.slice A0_0 l0_0.length c0_0, .slice A0_1 l0_1.length c0_1]) (t := 69) ?hr ?_; (case hd => rfl); (case hg => rfl); (case hr => first | (go_simp; done) | (go_simp; rfl)); intro gb101 hg w5 hbox hb; have BK101 := yD (hbox); have GW101 := yD ((by rw [hg]; exact (below_size (kB HB)) : w.heap.size ≤ gb101)); have GE101 := yD ((by rw [hg]; exact (below_size (kB HB)) : w.heap.size ≤ gb101)); replace HB := yD (zC (kB HB) hb); clear hb hbox hg; obtain ⟨hcz6_0, hcz6_1⟩ := cz2 BK101.out; obtain ⟨hfz6_0, hfz6_1⟩ := fz2 BK101.out) | ((with_reducible refine gate_callee (f := 75) rfl ?_); refine gL 8 Try.func75 #[.slice A0_0 l0_0.length c0_0, .int .i64 a1] ?_; (with_reducible refine (laws_szInt64S.calls _ _ l0_0 a1 t102 _ ?side1 ?side2 A3.out).mono ?_); (case side1 => exact kV (yY HR0_0.out HB.out)); (case side2 => exact HC0_0.out); rintro e w' ⟨rfl, ⟨nd, rfl⟩⟩; refine ⟨_, rfl, ?_⟩))
   go_ret
   exact ⟨by first | rfl | (simp <;> rfl) | (simp [*] <;> rfl), kR0 HB⟩
 ·
  rw [if_neg c4] at H
  have c4b0 : decide (t102 < 0) = false := zS c4; clear c4
  obtain ⟨t103, A70, H⟩ := zW_ H
  replace H : (if t103 < 0 then (some (-1)) else (some t103)) = some r := H
  have A7 := yD A70
  clear A70
  by_cases c8 : t103 < 0
  · rw [if_pos c8] at H
    have c8b0 : decide (t103 < 0) = true := zR c8; clear c8; obtain rfl := Option.some.inj H; go_enter Try.func53, Try.ntmps53
    go_wp2_with (first | ((with_reducible refine gate_dst (N := 2) rfl ?_); refine box_event ?hg (N := 2) ?hd (cs := #[.slice A0_0 l0_0.length c0_0, .slice A0_1 l0_1.length c0_1]) (t := 69) ?hr ?_; (case hd => rfl); (case hg => rfl); (case hr => first | (go_simp; done) | (go_simp; rfl)); intro gb101 hg w9 hbox hb; have BK101 := yD (hbox); have GW101 := yD ((by rw [hg]; exact (below_size (kB HB)) : w.heap.size ≤ gb101)); have GE101 := yD ((by rw [hg]; exact (below_size (kB HB)) : w.heap.size ≤ gb101)); replace HB := yD (zC (kB HB) hb); clear hb hbox hg; obtain ⟨hcz10_0, hcz10_1⟩ := cz2 BK101.out; obtain ⟨hfz10_0, hfz10_1⟩ := fz2 BK101.out) | ((with_reducible refine gate_callee (f := 75) rfl ?_); refine gL 8 Try.func75 #[.slice A0_0 l0_0.length c0_0, .int .i64 a1] ?_; (with_reducible refine (laws_szInt64S.calls _ _ l0_0 a1 t102 _ ?side1 ?side2 A3.out).mono ?_); (case side1 => exact kV (yY HR0_0.out HB.out)); (case side2 => exact HC0_0.out); rintro e w' ⟨rfl, ⟨nd, rfl⟩⟩; refine ⟨_, rfl, ?_⟩) | ((with_reducible refine gate_callee (f := 75) rfl ?_); refine gL 14 Try.func75 #[.slice A0_1 l0_1.length c0_1, .int .i64 t102] ?_; (with_reducible refine (laws_szInt64S.calls _ _ l0_1 t102 t103 _ ?side1 ?side2 A7.out).mono ?_); (case side1 => repeat (first | exact (yY HR0_1.out (kB HB)) | (with_reducible first | refine yV ?_ _ | refine yW ?_ _ | refine yX ?_))); (case side2 => exact HC0_1.out); rintro e w' ⟨rfl, ⟨nd, rfl⟩⟩; refine ⟨_, rfl, ?_⟩))
    go_ret
    exact ⟨by first | rfl | (simp <;> rfl) | (simp [*] <;> rfl), kR0 HB⟩
  · rw [if_neg c8] at H
    have c8b0 : decide (t103 < 0) = false := zS c8; clear c8; obtain rfl := Option.some.inj H; go_enter Try.func53, Try.ntmps53
    go_wp2_with (first | ((with_reducible refine gate_dst (N := 2) rfl ?_); refine box_event ?hg (N := 2) ?hd (cs := #[.slice A0_0 l0_0.length c0_0, .slice A0_1 l0_1.length c0_1]) (t := 69) ?hr ?_; (case hd => rfl); (case hg => rfl); (case hr => first | (go_simp; done) | (go_simp; rfl)); intro gb101 hg w11 hbox hb; have BK101 := yD (hbox); have GW101 := yD ((by rw [hg]; exact (below_size (kB HB)) : w.heap.size ≤ gb101)); have GE101 := yD ((by rw [hg]; exact (below_size (kB HB)) : w.heap.size ≤ gb101)); replace HB := yD (zC (kB HB) hb); clear hb hbox hg; obtain ⟨hcz12_0, hcz12_1⟩ := cz2 BK101.out; obtain ⟨hfz12_0, hfz12_1⟩ := fz2 BK101.out) | ((with_reducible refine gate_callee (f := 75) rfl ?_); refine gL 8 Try.func75 #[.slice A0_0 l0_0.length c0_0, .int .i64 a1] ?_; (with_reducible refine (laws_szInt64S.calls _ _ l0_0 a1 t102 _ ?side1 ?side2 A3.out).mono ?_); (case side1 => exact kV (yY HR0_0.out HB.out)); (case side2 => exact HC0_0.out); rintro e w' ⟨rfl, ⟨nd, rfl⟩⟩; refine ⟨_, rfl, ?_⟩) | ((with_reducible refine gate_callee (f := 75) rfl ?_); refine gL 14 Try.func75 #[.slice A0_1 l0_1.length c0_1, .int .i64 t102] ?_; (with_reducible refine (laws_szInt64S.calls _ _ l0_1 t102 t103 _ ?side1 ?side2 A7.out).mono ?_); (case side1 => repeat (first | exact (yY HR0_1.out (kB HB)) | (with_reducible first | refine yV ?_ _ | refine yW ?_ _ | refine yX ?_))); (case side2 => exact HC0_1.out); rintro e w' ⟨rfl, ⟨nd, rfl⟩⟩; refine ⟨_, rfl, ?_⟩))
    go_ret
    exact ⟨by first | rfl | (simp <;> rfl) | (simp [*] <;> rfl), kR0 HB⟩

/-! ### laws_szBoxS: function 13 -/
def laws_szBoxS.l0 : Nat → List (S69) → Int → Int → Option (Int)
 | 0, _, _, _ => none
 | k + 1, x0, x1, x5 => if x5 < (x0.length : Int) then (if 0 ≤ x5 then ((laws_szBox.f ((rd_T69 x0 x5).f0) ((rd_T69 x0 x5).f1) x1).bind fun t105 => (if t105 < 0 then (some (-1)) else (laws_szBoxS.l0 k x0 t105 (wrap64 (x5 + 1))))) else (none)) else (some x1)
def laws_szBoxS.f (k : Nat) (l0 : List (S69)) (a1 : Int) : Option (Int) := if (wrap64 (a1 - (l0.length : Int))) < 0 then (some (-1)) else (laws_szBoxS.l0 k l0 (wrap64 (a1 - (l0.length : Int))) 0)
theorem laws_szBoxS.mono_l : ∀ k, (∀ y0 y1 y2, LeO (laws_szBoxS.l0 k y0 y1 y2) (laws_szBoxS.l0 (k + 1) y0 y1 y2))
 | 0 => fun _ _ _ r h => by simp [laws_szBoxS.l0] at h
 | k + 1 => by
  have ih0 := laws_szBoxS.mono_l k
  · intro y0 y1 y2
    unfold laws_szBoxS.l0
    repeat' (with_reducible first | exact ih0 _ _ _ | exact LeO.refl _ | exact LeO.none _ | refine LeO.ite ?_ ?_ | refine LeO.bind ?_ (fun _ => ?_))
theorem laws_szBoxS.mono : ∀ a0 a1 k, LeO (laws_szBoxS.f k a0 a1) (laws_szBoxS.f (k + 1) a0 a1) := by
 intro a0 a1 k
 have ih0 := laws_szBoxS.mono_l k
 unfold laws_szBoxS.f
 repeat' (with_reducible first | exact ih0 _ _ _ | exact LeO.refl _ | exact LeO.none _ | refine LeO.ite ?_ ?_ | refine LeO.bind ?_ (fun _ => ?_))
set_option maxHeartbeats 8000000 in
set_option maxRecDepth 100000 in
theorem laws_szBoxS.calls (k : Nat) (A0 : Option Addr) (c0 : Nat) (l0 : List (S69)) (a1 : Int) (r : Int) (w : World) (hr0 : Kd.C k69 w A0 l0.length l0) (hc0 : l0.length ≤ c0) (h : laws_szBoxS.f k l0 a1 = some r) :
 Calls Try.prog 13 #[.slice A0 l0.length c0, .int .i64 a1] w fun e w' => e = .returned (.int .i64 r) ∧ Below w.heap.size w w' := by
 have hu69 := Try.underlying69
 have HR0 := yD hr0
 have HC0 := yD hc0
 clear hr0 hc0
 have HB := yD (Below.refl w.heap.size w)
 have H : (if (wrap64 (a1 - (l0.length : Int))) < 0 then (some (-1)) else (laws_szBoxS.l0 k l0 (wrap64 (a1 - (l0.length : Int))) 0)) = some r := h
 clear h
 by_cases c3 : (wrap64 (a1 - (l0.length : Int))) < 0
 · rw [if_pos c3] at H
   have c3b0 : decide ((wrap64 (a1 - (l0.length : Int))) < 0) = true := zR c3; clear c3; obtain rfl := Option.some.inj H; go_enter Try.func13, Try.ntmps13
   go_wp2
   go_ret
   exact ⟨by first | rfl | (simp <;> rfl) | (simp [*] <;> rfl), kR1 HB⟩
 ·
  rw [if_neg c3] at H
  have c3b0 : decide ((wrap64 (a1 - (l0.length : Int))) < 0) = false := zS c3; clear c3
  have H' := yD H
  clear H; go_enter Try.func13, Try.ntmps13
  go_wp2
  go_loopg [1, 5] k (fun kq v1 v5 w' => ∃ (x1_1 : Int) (x5_1 : Int), v1 = .int .i64 x1_1 ∧ v5 = .int .i64 x5_1 ∧ Aside0 (laws_szBoxS.l0 kq l0 x1_1 x5_1 = some r) ∧ Aside0 (kq ≤ k) ∧ Aside0 (Below w.heap.size w w'))
  case atStart => exact ⟨(wrap64 (a1 - (l0.length : Int))), (0), (by first | rfl | (simp; done) | (simp [*]; done)), (by first | rfl | (simp; done) | (simp [*]; done)), H', ⟨Nat.le_refl _⟩, ⟨kR1 HB⟩⟩
  case round =>
   clear H'
   try clear c1; try clear c3; try clear c3b0
   obtain ⟨x1_1, x5_1, rfl, rfl, HA, HK1, HB⟩ := hrel
   cases gk with
   | zero => exact absurd HA.out (by simp [laws_szBoxS.l0])
   | succ k1 =>
    have H := HA.out; clear HA
    simp only [laws_szBoxS.l0] at H
    by_cases c4 : x5_1 < (l0.length : Int)
    ·
     rw [if_pos c4] at H
     have c4b0 : decide (x5_1 < (l0.length : Int)) = true := zR c4; clear c4
     by_cases c5 : 0 ≤ x5_1
     ·
      rw [if_pos c5] at H
      have c5b0 : decide (0 ≤ x5_1) = true := zR c5; clear c5
      obtain ⟨t105, A60, H⟩ := zW_ H
      replace H : (if t105 < 0 then (some (-1)) else (laws_szBoxS.l0 k1 l0 t105 (wrap64 (x5_1 + 1)))) = some r := H
      have A6 := yD A60
      clear A60
      by_cases c7 : t105 < 0
      ·
       rw [if_pos c7] at H
       have c7b0 : decide (t105 < 0) = true := zR c7; clear c7; obtain rfl := Option.some.inj H
       have p104 : 0 ≤ (x5_1 : Int) := zP (by assumption)
       have q104 : x5_1 < (l0.length : Int) := zP (by assumption)
       obtain ⟨ad104, A104_0, c104_0, A104_1, c104_1, e104, hx104_0, hx104_1, hl104_0, hi104_0, hl104_1, hi104_1⟩ := at_T69 HR0.out x5_1 p104 q104
       cases e104
       replace hx104_0 := (HB.out.cell (zQ w _ hx104_0)).trans hx104_0
       replace hx104_1 := (HB.out.cell (zQ w _ hx104_1)).trans hx104_1
       have HR104_0 := yD hi104_0
       have HC104_0 := yD hl104_0
       clear hi104_0 hl104_0
       have HR104_1 := yD hi104_1
       have HC104_1 := yD hl104_1
       clear hi104_1 hl104_1; replace p104 := eq_true p104; replace q104 := eq_true q104
       go_wp2_with (first | ((with_reducible refine gate_callee (f := 53) rfl ?_); refine gL 23 Try.func53 #[.agg #[.slice A104_0 ((rd_T69 l0 x5_1).f0).length c104_0, .slice A104_1 ((rd_T69 l0 x5_1).f1).length c104_1], .int .i64 x1_1] ?_; (with_reducible refine (laws_szBox.calls _ _ ((rd_T69 l0 x5_1).f0) _ _ ((rd_T69 l0 x5_1).f1) x1_1 t105 _ ?side1 ?side2 ?side3 ?side4 A6.out).mono ?_); (case side1 => exact kV (yY HR104_0.out HB.out)); (case side2 => exact HC104_0.out); (case side3 => exact kV (yY HR104_1.out HB.out)); (case side4 => exact HC104_1.out); rintro e w8 ⟨rfl, hb⟩; refine ⟨_, rfl, ?_⟩; replace HB := yD (zC (kB HB) hb); clear hb))
       go_ret
       exact ⟨by first | rfl | (simp <;> rfl) | (simp [*] <;> rfl), kR1 HB⟩
      ·
       rw [if_neg c7] at H
       have c7b0 : decide (t105 < 0) = false := zS c7; clear c7
       have H' := yD H
       clear H
       have p104 : 0 ≤ (x5_1 : Int) := zP (by assumption)
       have q104 : x5_1 < (l0.length : Int) := zP (by assumption)
       obtain ⟨ad104, A104_0, c104_0, A104_1, c104_1, e104, hx104_0, hx104_1, hl104_0, hi104_0, hl104_1, hi104_1⟩ := at_T69 HR0.out x5_1 p104 q104
       cases e104
       replace hx104_0 := (HB.out.cell (zQ w _ hx104_0)).trans hx104_0
       replace hx104_1 := (HB.out.cell (zQ w _ hx104_1)).trans hx104_1
       have HR104_0 := yD hi104_0
       have HC104_0 := yD hl104_0
       clear hi104_0 hl104_0
       have HR104_1 := yD hi104_1
       have HC104_1 := yD hl104_1
       clear hi104_1 hl104_1; replace p104 := eq_true p104; replace q104 := eq_true q104
       go_wp2_with (first | ((with_reducible refine gate_callee (f := 53) rfl ?_); refine gL 23 Try.func53 #[.agg #[.slice A104_0 ((rd_T69 l0 x5_1).f0).length c104_0, .slice A104_1 ((rd_T69 l0 x5_1).f1).length c104_1], .int .i64 x1_1] ?_; (with_reducible refine (laws_szBox.calls _ _ ((rd_T69 l0 x5_1).f0) _ _ ((rd_T69 l0 x5_1).f1) x1_1 t105 _ ?side1 ?side2 ?side3 ?side4 A6.out).mono ?_); (case side1 => exact kV (yY HR104_0.out HB.out)); (case side2 => exact HC104_0.out); (case side3 => exact kV (yY HR104_1.out HB.out)); (case side4 => exact HC104_1.out); rintro e w9 ⟨rfl, hb⟩; refine ⟨_, rfl, ?_⟩; replace HB := yD (zC (kB HB) hb); clear hb))
       go_roundg k1
       case measure => have := HK1.out; omega
       case rel => exact ⟨(t105), (wrap64 (x5_1 + 1)), (by first | rfl | (simp; done) | (simp [*]; done)), (by first | rfl | (simp; done) | (simp [*]; done)), H', ⟨by have := HK1.out; omega⟩, ⟨kR1 HB⟩⟩
     · rw [if_neg c5] at H
       exact absurd H (by simp)
    · rw [if_neg c4] at H
      have c4b0 : decide (x5_1 < (l0.length : Int)) = false := zS c4; clear c4; obtain rfl := Option.some.inj H
      go_wp2
      go_ret
      exact ⟨by first | rfl | (simp <;> rfl) | (simp [*] <;> rfl), kR1 HB⟩

/-! ### laws_toInt64S: function 39 -/
def laws_toInt64S.l0 : Nat → List Int → List Int → Int → Option (List Int)
 | 0, _, _, _ => none
 | k + 1, x0, x3, x4 => if x4 < (x0.length : Int) then (if 0 ≤ x4 then (if x4 < (x3.length : Int) then (laws_toInt64S.l0 k x0 (x3.set (x4 : Int).toNat (rd x0 x4)) (wrap64 (x4 + 1))) else (none)) else (none)) else (some x3)
def laws_toInt64S.f (k : Nat) (l0 : List Int) : Option (List Int) := if 0 ≤ (l0.length : Int) then (if ((l0.length : Int) : Int).toNat ≤ 35184372088832 then (laws_toInt64S.l0 k l0 (List.replicate ((l0.length : Int) : Int).toNat 0) 0) else (none)) else (none)
theorem laws_toInt64S.mono_l : ∀ k, (∀ y0 y1 y2, LeO (laws_toInt64S.l0 k y0 y1 y2) (laws_toInt64S.l0 (k + 1) y0 y1 y2))
 | 0 => fun _ _ _ r h => by simp [laws_toInt64S.l0] at h
 | k + 1 => by
  have ih0 := laws_toInt64S.mono_l k
  · intro y0 y1 y2
    unfold laws_toInt64S.l0
    repeat' (with_reducible first | exact ih0 _ _ _ | exact LeO.refl _ | exact LeO.none _ | refine LeO.ite ?_ ?_ | refine LeO.bind ?_ (fun _ => ?_))
theorem laws_toInt64S.mono : ∀ a0 k, LeO (laws_toInt64S.f k a0) (laws_toInt64S.f (k + 1) a0) := by
 intro a0 k
 have ih0 := laws_toInt64S.mono_l k
 unfold laws_toInt64S.f
 repeat' (with_reducible first | exact ih0 _ _ _ | exact LeO.refl _ | exact LeO.none _ | refine LeO.ite ?_ ?_ | refine LeO.bind ?_ (fun _ => ?_))
set_option maxHeartbeats 8000000 in
set_option maxRecDepth 100000 in
theorem laws_toInt64S.calls (k : Nat) (A0 : Option Addr) (c0 : Nat) (l0 : List Int) (r : List Int) (w : World) (hr0 : Kd.C (Kd.int .i64) w A0 l0.length l0) (hc0 : l0.length ≤ c0) (h : laws_toInt64S.f k l0 = some r) :
 Calls Try.prog 39 #[.slice A0 l0.length c0] w fun e w' => ∃ v0_ : Value, e = .returned (v0_) ∧ Kd.R (Kd.int .i64) 2 w' w.heap.size (fun _ => True) v0_ r ∧ Below w.heap.size w w' := by
 have HR0 := yD hr0
 have HC0 := yD hc0
 clear hr0 hc0
 have HB := yD (Below.refl w.heap.size w)
 have H : (if 0 ≤ (l0.length : Int) then (if ((l0.length : Int) : Int).toNat ≤ 35184372088832 then (laws_toInt64S.l0 k l0 (List.replicate ((l0.length : Int) : Int).toNat 0) 0) else (none)) else (none)) = some r := h
 clear h
 by_cases c2 : 0 ≤ (l0.length : Int)
 ·
  rw [if_pos c2] at H
  have c2b0 := eq_true c2
  have c2b1 : decide (0 ≤ (l0.length : Int)) = true := zR c2; clear c2
  by_cases c3 : ((l0.length : Int) : Int).toNat ≤ 35184372088832
  ·
   rw [if_pos c3] at H
   have c3b0 := eq_true c3
   have c3b1 : decide (((l0.length : Int) : Int).toNat ≤ 35184372088832) = true := zR c3
   clear c3
   obtain ⟨y106, hy106⟩ : ∃ y_ : List Int, y_ = (List.replicate ((l0.length : Int) : Int).toNat 0) := ⟨_, rfl⟩
   replace H : (laws_toInt64S.l0 k l0 y106 0) = some r := by first | (rw [hy106]; with_reducible exact H) | (have H2_ := (Option.bind_some _ _).symm.trans H; rw [hy106]; with_reducible exact H2_) | (have H2_ := (Option.bind_some _ _).symm.trans H; with_reducible exact H2_) | with_reducible exact H | (rw [hy106]; exact H) | exact H
   have Ny106 := yD hy106
   clear hy106
   have H' := yD H
   clear H; go_enter Try.func39, Try.ntmps39
   go_wp2_with (first | ((with_reducible refine gate_dst (N := 7) rfl ?_); refine Kd.R_make (Kd.int .i64) _ 2 rfl (N := 7) rfl 36 _ _ rfl (l0.length : Int) rfl rfl Try.underlying36 (.int .i64 0) 8 info2 rfl (by decide) (by omega) 0 (ok := fun _ => True) (okp := fun _ => True) rfl (fun _ hk => hk) trivial (zP (by assumption)) (Nat.le_trans (Nat.mul_le_mul_right _ (zP (by assumption) : (l0.length : Int).toNat ≤ 35184372088832)) (by omega)) (Below.refl _ _) (Nat.le_refl _) ?_; intro v107 w4 ho5 hb hg_ hnew_; clear hg_ hnew_; (first | rw [← Ny106.out] at ho5 | (simp only [Int.reduceToNat] at ho5; rw [← Ny106.out] at ho5)); have HO108 := yD (yZ ho5 (below_size (kB HB))); replace HB := yD (zC (kB HB) hb); clear hb ho5))
   (try simp only [Act.put, zH, zI, zJ])
   go_loopg [4] k (fun kq v4 w' => ∃ (x3_1 : List Int) (x4_1 : Int), v4 = .int .i64 x4_1 ∧ Aside0 (laws_toInt64S.l0 kq l0 x3_1 x4_1 = some r) ∧ Aside0 (kq ≤ k) ∧ Aside0 (Kd.R (Kd.int .i64) 2 w' w.heap.size (fun _ => True) v107 x3_1) ∧ Aside0 (Below w.heap.size w w'))
   case atStart => exact ⟨(y106), (0), (by first | rfl | (simp; done) | (simp [*]; done)), H', ⟨Nat.le_refl _⟩, ⟨kA HO108⟩, ⟨kR1 HB⟩⟩
   case round =>
    clear H'
    try clear c2; try clear c2b0; try clear c2b1; try clear c3; try clear c3b0; try clear c3b1
    obtain ⟨x3_1, x4_1, rfl, HA, HK1, HO_3, HB⟩ := hrel
    cases gk with
    | zero => exact absurd HA.out (by simp [laws_toInt64S.l0])
    | succ k1 =>
     have H := HA.out; clear HA
     simp only [laws_toInt64S.l0] at H
     by_cases c6 : x4_1 < (l0.length : Int)
     ·
      rw [if_pos c6] at H
      have c6b0 : decide (x4_1 < (l0.length : Int)) = true := zR c6; clear c6
      by_cases c7 : 0 ≤ x4_1
      ·
       rw [if_pos c7] at H
       have c7b0 : decide (0 ≤ x4_1) = true := zR c7; clear c7
       by_cases c8 : x4_1 < (x3_1.length : Int)
       ·
        rw [if_pos c8] at H
        have c8b0 : decide (x4_1 < (x3_1.length : Int)) = true := zR c8; clear c8
        obtain ⟨y110, hy110⟩ : ∃ y_ : List Int, y_ = (x3_1.set (x4_1 : Int).toNat (rd l0 x4_1)) := ⟨_, rfl⟩
        replace H : (laws_toInt64S.l0 k1 l0 y110 (wrap64 (x4_1 + 1))) = some r := by first | (rw [hy110]; with_reducible exact H) | (have H2_ := (Option.bind_some _ _).symm.trans H; rw [hy110]; with_reducible exact H2_) | (have H2_ := (Option.bind_some _ _).symm.trans H; with_reducible exact H2_) | with_reducible exact H | (rw [hy110]; exact H) | exact H
        have Ny110 := yD hy110
        clear hy110
        have H' := yD H
        clear H
        have p109 : 0 ≤ (x4_1 : Int) := zP (by assumption)
        have q109 : x4_1 < (l0.length : Int) := zP (by assumption)
        obtain ⟨ad109, e109, hx109_0⟩ := Kd.at_int HR0.out x4_1 p109 q109
        cases e109
        replace hx109_0 := (HB.out.cell (zQ w _ hx109_0)).trans hx109_0
        replace p109 := eq_true p109; replace q109 := eq_true q109
        have p9 : 0 ≤ (x4_1 : Int) := zP (by assumption)
        have q9 : (x4_1 : Int) < ((x3_1.length : Int) : Int) := zP (by assumption)
        obtain ⟨go9, co9, eo9, gb9, gl9, cl9, HG9⟩ := Kd.R_form HO_3.out (by omega)
        (first | cases eo9 | (injection eo9 with ea_ en_ ec_; (first | subst ea_ | (injection ea_ with ea_; subst ea_)); subst ec_; clear en_))
        have GB9 := yD gb9
        have GG9 := yD HG9
        clear gb9 gl9 HG9
        obtain ⟨hx9_0, hf9_0⟩ := Kd.R_celln 0 HO_3.out (x4_1 : Int) p9 q9
        replace p9 := eq_true p9; replace q9 := eq_true q9
        have HP10 := Kd.R_putg HO_3.out (x4_1 : Int) (rd l0 x4_1)
        go_wp2_with (first | ((with_reducible refine gate_store (t := 2) (p := 20) rfl ?_); refine store_event (t := 2) (p := 20) (v := ?vo_w11) (w1 := (wr.setCell ⟨go9, (x4_1 : Int).toNat, none⟩ (.int .i64 (rd l0 x4_1)))) ?hg ?ho ?hn ?hr ?_; (case ho => rfl); (case hg => rfl); (case hn => rfl); (case hr => first | (go_simp; done) | (go_simp; rfl)); intro w11 hw; have hg : wr.grownBy w11 (some go9) := (by rw [hw]; exact HP10.2); have hp_ : Kd.R (Kd.int .i64) 2 w11 w.heap.size (fun _ => True) (.slice (some ⟨go9, 0, none⟩) x3_1.length co9) y110 := (by rw [hw, Ny110.out]; exact HP10.1); clear HP10; replace HO_3 := yD (hp_); replace HB := yD ((by rw [hw]; exact yE (HB.out) GB9.out : Below w.heap.size w w11)); clear hg hw hp_))
        go_roundg k1
        case measure => have := HK1.out; omega
        case rel => exact ⟨(y110), (wrap64 (x4_1 + 1)), (by first | rfl | (simp; done) | (simp [*]; done)), H', ⟨by have := HK1.out; omega⟩, ⟨kA HO_3⟩, ⟨kR1 HB⟩⟩
       · rw [if_neg c8] at H
         exact absurd H (by simp)
      · rw [if_neg c7] at H
        exact absurd H (by simp)
     · rw [if_neg c6] at H
       have c6b0 : decide (x4_1 < (l0.length : Int)) = false := zS c6; clear c6; obtain rfl := Option.some.inj H
       go_wp2
       go_ret
       exact ⟨_, by first | rfl | (simp <;> rfl) | (simp [*] <;> rfl), kA HO_3, kR1 HB⟩
  · rw [if_neg c3] at H
    exact absurd H (by simp)
 · rw [if_neg c2] at H
   exact absurd H (by simp)

/-! ### laws_toBox: function 55 -/
def laws_toBox.f (k : Nat) (l0_0 : List Int) (l0_1 : List Int) : Option (List Int × List Int) := (laws_toInt64S.f k l0_0).bind fun t114 => ((laws_toInt64S.f k l0_1).bind fun t117 => (some (t114, t117)))
theorem laws_toBox.mono : ∀ a0 a1 k, LeO (laws_toBox.f k a0 a1) (laws_toBox.f (k + 1) a0 a1) := by
 intro a0 a1 k
 unfold laws_toBox.f
 repeat' (with_reducible first | exact laws_toInt64S.mono _ _ | exact LeO.refl _ | exact LeO.none _ | refine LeO.ite ?_ ?_ | refine LeO.bind ?_ (fun _ => ?_))
set_option maxHeartbeats 8000000 in
set_option maxRecDepth 100000 in
theorem laws_toBox.calls (k : Nat) (A0_0 : Option Addr) (c0_0 : Nat) (l0_0 : List Int) (A0_1 : Option Addr) (c0_1 : Nat) (l0_1 : List Int) (r1 : List Int) (r2 : List Int) (w : World) (hr0_0 : Kd.C (Kd.int .i64) w A0_0 l0_0.length l0_0) (hc0_0 : l0_0.length ≤ c0_0) (hr0_1 : Kd.C (Kd.int .i64) w A0_1 l0_1.length l0_1) (hc0_1 : l0_1.length ≤ c0_1) (h : laws_toBox.f k l0_0 l0_1 = some (r1, r2)) :
 Calls Try.prog 55 #[.agg #[.slice A0_0 l0_0.length c0_0, .slice A0_1 l0_1.length c0_1]] w fun e w' => ∃ v0_ v1_ : Value, e = .returned (.agg #[v0_, v1_]) ∧ Kd.R (Kd.int .i64) 2 w' w.heap.size (fun k_ => some k_ ≠ (v1_ : Value).ownBlock) v0_ r1 ∧ Kd.R (Kd.int .i64) 2 w' w.heap.size (fun k_ => some k_ ≠ (v0_ : Value).ownBlock) v1_ r2 ∧ Below w.heap.size w w' := by
 have hu69 := Try.underlying69; have hu42 := Try.underlying42
 have HR0_0 := yD hr0_0
 have HC0_0 := yD hc0_0
 clear hr0_0 hc0_0
 have HR0_1 := yD hr0_1
 have HC0_1 := yD hc0_1
 clear hr0_1 hc0_1
 have HB := yD (Below.refl w.heap.size w)
 have H : ((laws_toInt64S.f k l0_0).bind fun t114 => ((laws_toInt64S.f k l0_1).bind fun t117 => (some (t114, t117)))) = some (r1, r2) := h
 clear h
 obtain ⟨t114, A20, H⟩ := zW_ H
 replace H : ((laws_toInt64S.f k l0_1).bind fun t117 => (some (t114, t117))) = some (r1, r2) := H
 have A2 := yD A20
 clear A20
 obtain ⟨t117, A30, H⟩ := zW_ H
 replace H : (some (t114, t117)) = some (r1, r2) := H
 have A3 := yD A30
 clear A30
 simp only [Option.some.injEq, Prod.mk.injEq] at H
 obtain ⟨rfl, rfl⟩ := H
 go_enter Try.func55, Try.ntmps55
 go_wp2_with (first | ((with_reducible refine gate_dst (N := 1) rfl ?_); refine box_event ?hg (N := 1) ?hd (cs := #[.slice A0_0 l0_0.length c0_0, .slice A0_1 l0_1.length c0_1]) (t := 69) ?hr ?_; (case hd => rfl); (case hg => rfl); (case hr => first | (go_simp; done) | (go_simp; rfl)); intro gb111 hg w4 hbox hb; have BK111 := yD (hbox); have GW111 := yD ((by rw [hg]; exact (below_size (kB HB)) : w.heap.size ≤ gb111)); have GE111 := yD ((by rw [hg]; exact (below_size (kB HB)) : w.heap.size ≤ gb111)); replace HB := yD (zC (kB HB) hb); clear hb hbox hg) | ((with_reducible refine gate_dst (N := 2) rfl ?_); refine box_event ?hg (N := 2) ?hd (cs := #[.slice none 0 0, .slice none 0 0]) (t := 42) ?hr ?_; (case hd => rfl); (case hg => rfl); (case hr => first | (go_simp; done) | (go_simp; rfl)); intro gb112 hg w5 hbox hb; have BK112 := yD (hbox); have GW112 := yD ((by rw [hg]; exact (below_size (kB HB)) : w.heap.size ≤ gb112)); have GE112 := yD ((by rw [hg]; exact (below_size (kB HB)) : w.heap.size ≤ gb112)); replace HB := yD (zC (kB HB) hb); have NB111_112 := yD ((by rw [hg]; exact Nat.ne_of_lt (blk_lt (kN BK111)) : gb111 ≠ gb112)); have NB112_111 := yD ((by rw [hg]; exact Nat.ne_of_gt (blk_lt (kN BK111)) : gb112 ≠ gb111)); replace BK111 := yD (zB (kN BK111) hb); clear hb hbox hg) | ((with_reducible refine gate_dst (N := 3) rfl ?_); refine box_event ?hg (N := 3) ?hd (cs := #[.slice none 0 0, .slice none 0 0]) (t := 42) ?hr ?_; (case hd => rfl); (case hg => rfl); (case hr => first | (go_simp; done) | (go_simp; rfl)); intro gb113 hg w6 hbox hb; have BK113 := yD (hbox); have GW113 := yD ((by rw [hg]; exact (below_size (kB HB)) : w.heap.size ≤ gb113)); have GE113 := yD ((by rw [hg]; exact (below_size (kB HB)) : w.heap.size ≤ gb113)); replace HB := yD (zC (kB HB) hb); have NB111_113 := yD ((by rw [hg]; exact Nat.ne_of_lt (blk_lt (kN BK111)) : gb111 ≠ gb113)); have NB113_111 := yD ((by rw [hg]; exact Nat.ne_of_gt (blk_lt (kN BK111)) : gb113 ≠ gb111)); replace BK111 := yD (zB (kN BK111) hb); have NB112_113 := yD ((by rw [hg]; exact Nat.ne_of_lt (blk_lt (kN BK112)) : gb112 ≠ gb113)); have NB113_112 := yD ((by rw [hg]; exact Nat.ne_of_gt (blk_lt (kN BK112)) : gb113 ≠ gb112)); replace BK112 := yD (zB (kN BK112) hb); clear hb hbox hg; have hnb7 := NB111_112.out; have hnc7 := NB112_111.out; have hnb8 := NB111_113.out; have hnc8 := NB113_111.out; obtain ⟨hcz9_0, hcz9_1⟩ := cz2 BK111.out; obtain ⟨hfz9_0, hfz9_1⟩ := fz2 BK111.out) | ((with_reducible refine gate_callee (f := 39) rfl ?_); refine gL 6 Try.func39 #[.slice A0_0 l0_0.length c0_0] ?_; (with_reducible refine (laws_toInt64S.calls k _ _ l0_0 t114 _ ?side1 ?side2 A2.out).mono ?_); (case side1 => exact kV (yY HR0_0.out HB.out)); (case side2 => exact HC0_0.out); rintro e w10 ⟨v115, rfl, ho0, hb⟩; refine ⟨_, rfl, ?_⟩; have HO116 := yD (yZ ho0 (below_size (kB HB))); replace BK111 := yD (zB (kN BK111) hb); replace BK112 := yD (zB (kN BK112) hb); replace BK113 := yD (zB (kN BK113) hb); replace HB := yD (zC (kB HB) hb); clear hb ho0; obtain ⟨Ao11, co11, eo11⟩ := Kd.R_slice HO116.out; subst eo11; have hnb12 := NB113_112.out; have hnc12 := NB112_113.out; obtain ⟨hcz13_0, hcz13_1⟩ := cz2 BK113.out; obtain ⟨hfz13_0, hfz13_1⟩ := fz2 BK113.out; obtain ⟨hcz14_0, hcz14_1⟩ := cz2 BK111.out; obtain ⟨hfz14_0, hfz14_1⟩ := fz2 BK111.out) | ((with_reducible refine gate_callee (f := 39) rfl ?_); refine gL 10 Try.func39 #[.slice A0_1 l0_1.length c0_1] ?_; (with_reducible refine (laws_toInt64S.calls k _ _ l0_1 t117 _ ?side1 ?side2 A3.out).mono ?_); (case side1 => exact yY HR0_1.out (kB HB)); (case side2 => exact HC0_1.out); rintro e w15 ⟨v118, rfl, ho0, hb⟩; refine ⟨_, rfl, ?_⟩; have HO119 := yD (yZ (yJ ho0 (yK (by (with_reducible repeat (first | apply yA | apply yB | apply yC)); exact (zF (yF (p := ⟨gb113, 0, none⟩) (Kd.R_types HO116.out BK113.out (by decide)) (fun _ hk => hk.2) (.slice Ao11 t114.length co11)) (fun _ h_ => h_.1))))) (below_size (kB HB))); replace HO116 := yD (Kd.R_elder' (by (with_reducible repeat (first | apply yA | apply yB | apply yC)); exact (zF (yF (p := ⟨gb113, 0, none⟩) (Kd.R_types HO116.out BK113.out (by decide)) (fun _ hk => hk.2) (.slice Ao11 t114.length co11)) (fun _ h_ => h_.1))) (yH ho0) hb); replace BK111 := yD (zB (g := gb111) (o := .cells #[.slice A0_0 l0_0.length c0_0, .slice A0_1 l0_1.length c0_1] 69 (0, 0)) (by (with_reducible repeat (first | refine yM ?_ _ | refine yO ?_ | refine yN ?_ _)); refine blk_far ?_ NB111_113.out _; (with_reducible repeat (first | refine yM ?_ _ | refine yO ?_ | refine yN ?_ _)); exact BK111.out) hb); replace BK112 := yD (zB (g := gb112) (o := .cells #[.slice none 0 0, .slice none 0 0] 42 (0, 0)) (by (with_reducible repeat (first | refine yM ?_ _ | refine yO ?_ | refine yN ?_ _)); refine blk_far ?_ NB112_113.out _; (with_reducible repeat (first | refine yM ?_ _ | refine yO ?_ | refine yN ?_ _)); exact BK112.out) hb); replace BK113 := yD (zB (g := gb113) (o := .cells #[.slice Ao11 t114.length co11, .slice none 0 0] 42 (0, 0)) (by (with_reducible repeat (first | refine yM ?_ _ | refine yO ?_ | refine yN ?_ _)); refine blk_put (cs := #[.slice none 0 0, .slice none 0 0]) ?_ 0 _ rfl; (with_reducible repeat (first | refine yM ?_ _ | refine yO ?_ | refine yN ?_ _)); exact BK113.out) hb); replace HB := yD (zC (kB HB) hb); clear hb ho0; obtain ⟨Ao16, co16, eo16⟩ := Kd.R_slice HO119.out; subst eo16; obtain ⟨hcz17_0, hcz17_1⟩ := cz2 BK113.out; obtain ⟨hfz17_0, hfz17_1⟩ := fz2 BK113.out; obtain ⟨hcz18_0, hcz18_1⟩ := cz2 BK112.out; obtain ⟨hfz18_0, hfz18_1⟩ := fz2 BK112.out))
 refine bodyPost_ret (results_cell_row rfl _ _ gb112 42 #[.slice Ao11 t114.length co11, .slice Ao16 t117.length co16] (0, 0) _ rfl (by (with_reducible repeat (first | refine yM ?_ _ | refine yO ?_ | refine yN ?_ _)); refine blk_put (cs := #[.slice Ao11 t114.length co11, .slice none 0 0]) ?_ 1 _ rfl; (with_reducible repeat (first | refine yM ?_ _ | refine yO ?_ | refine yN ?_ _)); refine blk_put (cs := #[.slice none 0 0, .slice none 0 0]) ?_ 0 _ rfl; (with_reducible repeat (first | refine yM ?_ _ | refine yO ?_ | refine yN ?_ _)); refine blk_far ?_ NB112_113.out _; (with_reducible repeat (first | refine yM ?_ _ | refine yO ?_ | refine yN ?_ _)); exact BK112.out) Try.underlying42 rfl (by kernel_rfl)) rfl ?_
 exact ⟨_, _, by first | rfl | (simp <;> rfl) | (simp [*] <;> rfl), by (with_reducible repeat (first | apply yA | apply yB | apply yC)); exact zF (yF (p := ⟨gb112, 1, none⟩) (yF (p := ⟨gb112, 0, none⟩) (yF (p := ⟨gb113, 1, none⟩) (Kd.R_types (Kd.R_types HO116.out BK113.out (by decide)) BK112.out (by decide)) (fun _ hk => hk.1.2) (.slice Ao16 t117.length co16)) (fun _ hk => hk.2) (.slice Ao11 t114.length co11)) (fun _ hk => hk.2) (.slice Ao16 t117.length co16)) (fun _ hk => hk.1.1.2), by (with_reducible repeat (first | apply yA | apply yB | apply yC)); exact zF (yF (p := ⟨gb112, 1, none⟩) (yF (p := ⟨gb112, 0, none⟩) (yF (p := ⟨gb113, 1, none⟩) (Kd.R_types (Kd.R_types HO119.out BK113.out (by decide)) BK112.out (by decide)) (fun _ hk => hk.1.2) (.slice Ao16 t117.length co16)) (fun _ hk => hk.2) (.slice Ao11 t114.length co11)) (fun _ hk => hk.2) (.slice Ao16 t117.length co16)) (fun _ hk => hk.1.1.2), kR0 HB⟩

/-! ### laws_toBoxS: function 15 -/
def laws_toBoxS.l0 : Nat → List (S69) → List (S42) → Int → Option ((List (S42)))
 | 0, _, _, _ => none
 | k + 1, x0, x3, x4 => if x4 < (x0.length : Int) then (if 0 ≤ x4 then ((laws_toBox.f k ((rd_T69 x0 x4).f0) ((rd_T69 x0 x4).f1)).bind fun bt124 => (if x4 < (x3.length : Int) then (laws_toBoxS.l0 k x0 (x3.set (x4 : Int).toNat (⟨bt124.1, bt124.2⟩ : S42)) (wrap64 (x4 + 1))) else (none))) else (none)) else (some x3)
def laws_toBoxS.f (k : Nat) (l0 : List (S69)) : Option ((List (S42))) := if 0 ≤ (l0.length : Int) then (if ((l0.length : Int) : Int).toNat ≤ 5864062014805 then (laws_toBoxS.l0 k l0 (List.replicate ((l0.length : Int) : Int).toNat z42) 0) else (none)) else (none)
theorem laws_toBoxS.mono_l : ∀ k, (∀ y0 y1 y2, LeO (laws_toBoxS.l0 k y0 y1 y2) (laws_toBoxS.l0 (k + 1) y0 y1 y2))
 | 0 => fun _ _ _ r h => by simp [laws_toBoxS.l0] at h
 | k + 1 => by
  have ih0 := laws_toBoxS.mono_l k
  · intro y0 y1 y2
    unfold laws_toBoxS.l0
    repeat' (with_reducible first | exact ih0 _ _ _ | exact laws_toBox.mono _ _ _ | exact LeO.refl _ | exact LeO.none _ | refine LeO.ite ?_ ?_ | refine LeO.bind ?_ (fun _ => ?_))
theorem laws_toBoxS.mono : ∀ a0 k, LeO (laws_toBoxS.f k a0) (laws_toBoxS.f (k + 1) a0) := by
 intro a0 k
 have ih0 := laws_toBoxS.mono_l k
 unfold laws_toBoxS.f
 repeat' (with_reducible first | exact ih0 _ _ _ | exact laws_toBox.mono _ _ _ | exact LeO.refl _ | exact LeO.none _ | refine LeO.ite ?_ ?_ | refine LeO.bind ?_ (fun _ => ?_))
set_option maxHeartbeats 8000000 in
set_option maxRecDepth 100000 in
theorem laws_toBoxS.calls (k : Nat) (A0 : Option Addr) (c0 : Nat) (l0 : List (S69)) (r : List (S42)) (w : World) (hr0 : Kd.C k69 w A0 l0.length l0) (hc0 : l0.length ≤ c0) (h : laws_toBoxS.f k l0 = some r) :
 Calls Try.prog 15 #[.slice A0 l0.length c0] w fun e w' => ∃ v0_ : Value, e = .returned (v0_) ∧ Kd.S k42 42 w' w.heap.size (fun _ => True) v0_ r ∧ Below w.heap.size w w' := by
 have hu69 := Try.underlying69; have hu42 := Try.underlying42
 have HR0 := yD hr0
 have HC0 := yD hc0
 clear hr0 hc0
 have HB := yD (Below.refl w.heap.size w)
 have H : (if 0 ≤ (l0.length : Int) then (if ((l0.length : Int) : Int).toNat ≤ 5864062014805 then (laws_toBoxS.l0 k l0 (List.replicate ((l0.length : Int) : Int).toNat z42) 0) else (none)) else (none)) = some r := h
 clear h
 by_cases c2 : 0 ≤ (l0.length : Int)
 ·
  rw [if_pos c2] at H
  have c2b0 := eq_true c2
  have c2b1 : decide (0 ≤ (l0.length : Int)) = true := zR c2; clear c2
  by_cases c3 : ((l0.length : Int) : Int).toNat ≤ 5864062014805
  ·
   rw [if_pos c3] at H
   have c3b0 := eq_true c3
   have c3b1 : decide (((l0.length : Int) : Int).toNat ≤ 5864062014805) = true := zR c3
   clear c3
   obtain ⟨y120, hy120⟩ : ∃ y_ : List (S42), y_ = (List.replicate ((l0.length : Int) : Int).toNat z42) := ⟨_, rfl⟩
   replace H : (laws_toBoxS.l0 k l0 y120 0) = some r := by first | (rw [hy120]; with_reducible exact H) | (have H2_ := (Option.bind_some _ _).symm.trans H; rw [hy120]; with_reducible exact H2_) | (have H2_ := (Option.bind_some _ _).symm.trans H; with_reducible exact H2_) | with_reducible exact H | (rw [hy120]; exact H) | exact H
   have Ny120 := yD hy120
   clear hy120
   have H' := yD H
   clear H; go_enter Try.func15, Try.ntmps15
   go_wp2_with (first | ((with_reducible refine gate_dst (N := 7) rfl ?_); refine Kd.S_make k42 _ 42 rfl (N := 7) rfl 24 _ _ rfl (l0.length : Int) rfl rfl Try.underlying24 (.agg #[(.slice none 0 0), (.slice none 0 0)]) 48 info42 rfl (by decide) (by omega) z42 (ok := fun _ => True) (okp := fun _ => True) (k42_mkM _ _ _ z42 (Kd.R_nil _ _ _ _ _) (Kd.R_nil _ _ _ _ _)) (fun _ hk => hk) trivial (zP (by assumption)) (Nat.le_trans (Nat.mul_le_mul_right _ (zP (by assumption) : (l0.length : Int).toNat ≤ 5864062014805)) (by omega)) (Below.refl _ _) (Nat.le_refl _) ?_; intro v121 w4 ho5 hb hg_ hnew_; clear hg_ hnew_; (first | rw [← Ny120.out] at ho5 | (simp only [Int.reduceToNat] at ho5; rw [← Ny120.out] at ho5)); have HO122 := yD (zG ho5 (below_size (kB HB))); replace HB := yD (zC (kB HB) hb); clear hb ho5))
   (try simp only [Act.put, zH, zI, zJ])
   go_loopg [4] k (fun kq v4 w' => ∃ (x3_1 : List (S42)) (x4_1 : Int), v4 = .int .i64 x4_1 ∧ Aside0 (laws_toBoxS.l0 kq l0 x3_1 x4_1 = some r) ∧ Aside0 (kq ≤ k) ∧ Aside0 (Kd.S k42 42 w' w.heap.size (fun _ => True) v121 x3_1) ∧ Aside0 (Below w.heap.size w w'))
   case atStart => exact ⟨(y120), (0), (by first | rfl | (simp; done) | (simp [*]; done)), H', ⟨Nat.le_refl _⟩, ⟨kS HO122⟩, ⟨kR1 HB⟩⟩
   case round =>
    clear H'
    try clear c1; try clear c2; try clear c2b0; try clear c2b1; try clear c3; try clear c3b0; try clear c3b1
    obtain ⟨x3_1, x4_1, rfl, HA, HK1, HO_3, HB⟩ := hrel
    cases gk with
    | zero => exact absurd HA.out (by simp [laws_toBoxS.l0])
    | succ k1 =>
     have H := HA.out; clear HA
     simp only [laws_toBoxS.l0] at H
     by_cases c6 : x4_1 < (l0.length : Int)
     ·
      rw [if_pos c6] at H
      have c6b0 : decide (x4_1 < (l0.length : Int)) = true := zR c6; clear c6
      by_cases c7 : 0 ≤ x4_1
      ·
       rw [if_pos c7] at H
       have c7b0 : decide (0 ≤ x4_1) = true := zR c7; clear c7
       obtain ⟨⟨t124, t127⟩, A80, H⟩ := zW_ H
       replace H : (if x4_1 < (x3_1.length : Int) then (laws_toBoxS.l0 k1 l0 (x3_1.set (x4_1 : Int).toNat (⟨t124, t127⟩ : S42)) (wrap64 (x4_1 + 1))) else (none)) = some r := H
       have A8 := yD A80
       clear A80
       by_cases c9 : x4_1 < (x3_1.length : Int)
       ·
        rw [if_pos c9] at H
        have c9b0 : decide (x4_1 < (x3_1.length : Int)) = true := zR c9; clear c9
        obtain ⟨y130, hy130⟩ : ∃ y_ : List (S42), y_ = (x3_1.set (x4_1 : Int).toNat (⟨t124, t127⟩ : S42)) := ⟨_, rfl⟩
        replace H : (laws_toBoxS.l0 k1 l0 y130 (wrap64 (x4_1 + 1))) = some r := by first | (rw [hy130]; with_reducible exact H) | (have H2_ := (Option.bind_some _ _).symm.trans H; rw [hy130]; with_reducible exact H2_) | (have H2_ := (Option.bind_some _ _).symm.trans H; with_reducible exact H2_) | with_reducible exact H | (rw [hy130]; exact H) | exact H
        have Ny130 := yD hy130
        clear hy130
        have H' := yD H
        clear H
        have p123 : 0 ≤ (x4_1 : Int) := zP (by assumption)
        have q123 : x4_1 < (l0.length : Int) := zP (by assumption)
        obtain ⟨ad123, A123_0, c123_0, A123_1, c123_1, e123, hx123_0, hx123_1, hl123_0, hi123_0, hl123_1, hi123_1⟩ := at_T69 HR0.out x4_1 p123 q123
        cases e123
        replace hx123_0 := (HB.out.cell (zQ w _ hx123_0)).trans hx123_0
        replace hx123_1 := (HB.out.cell (zQ w _ hx123_1)).trans hx123_1
        have HR123_0 := yD hi123_0
        have HC123_0 := yD hl123_0
        clear hi123_0 hl123_0
        have HR123_1 := yD hi123_1
        have HC123_1 := yD hl123_1
        clear hi123_1 hl123_1; replace p123 := eq_true p123; replace q123 := eq_true q123
        go_wp2_with (first | ((with_reducible refine gate_callee (f := 55) rfl ?_); refine gL 20 Try.func55 #[.agg #[.slice A123_0 ((rd_T69 l0 x4_1).f0).length c123_0, .slice A123_1 ((rd_T69 l0 x4_1).f1).length c123_1]] ?_; (with_reducible refine (laws_toBox.calls k1 _ _ ((rd_T69 l0 x4_1).f0) _ _ ((rd_T69 l0 x4_1).f1) t124 t127 _ ?side1 ?side2 ?side3 ?side4 A8.out).mono ?_); (case side1 => exact kV (yY HR123_0.out HB.out)); (case side2 => exact HC123_0.out); (case side3 => exact kV (yY HR123_1.out HB.out)); (case side4 => exact HC123_1.out); rintro e w11 ⟨v125, v128, rfl, ho0, ho1, hb⟩; refine ⟨_, rfl, ?_⟩; replace HO_3 := yD (Kd.S_mono (Kd.S_told (Kd.S_told (Kd.S_old (kS HO_3) hb) (yH ho0)) (yH ho1)) (fun _ h_ => h_.1)); have HO126 := yD (yZ ho0 (below_size (kB HB))); have HO129 := yD (yZ ho1 (below_size (kB HB))); replace HB := yD (zC (kB HB) hb); clear hb ho0 ho1; have p10 : 0 ≤ (x4_1 : Int) := zP (by assumption); have q10 : (x4_1 : Int) < ((x3_1.length : Int) : Int) := zP (by assumption); obtain ⟨go10, co10, eo10, gb10, gl10, cl10, HG10⟩ := Kd.S_form HO_3.out (by omega); (first | cases eo10 | (injection eo10 with ea_ en_ ec_; (first | subst ea_ | (injection ea_ with ea_; subst ea_)); subst ec_; clear en_)); have GB10 := yD gb10; have GG10 := yD HG10; clear gb10 gl10 HG10; obtain ⟨_, ce10, hcl10, hM10, hcc10, hfr10, _, _⟩ := Kd.S_elem HO_3.out z42 (x4_1 : Int) p10 q10; obtain ⟨ve10_0, ve10_1, rfl, ge10_0, ge10_1⟩ := k42_openM hM10; have hx10_0 : w11.cell? ⟨go10, (x4_1 : Int).toNat * 2, none⟩ = some (ve10_0) := hcc10 0 _ rfl; have hx10_1 : w11.cell? ⟨go10, (x4_1 : Int).toNat * 2 + 1, none⟩ = some (ve10_1) := hcc10 1 _ rfl; have hf10_0 : w11.frozen? ⟨go10, (x4_1 : Int).toNat * 2, none⟩ = false := hfr10 0; have hf10_1 : w11.frozen? ⟨go10, (x4_1 : Int).toNat * 2 + 1, none⟩ = false := hfr10 1; clear hcl10 hcc10 hfr10 hM10; replace p10 := eq_true p10; replace q10 := eq_true q10; obtain ⟨Ao14, co14, eo14⟩ := Kd.R_slice HO126.out; subst eo14; obtain ⟨Ao15, co15, eo15⟩ := Kd.R_slice HO129.out; subst eo15; have n_ := yD (Kd.S_mono (ok' := (fun k_ => oB (.slice Ao14 t124.length co14) k_ ∧ oB (.slice Ao15 t127.length co15) k_)) HO_3.out (fun k_ hk => ⟨hk.1.2, hk.2⟩)); clear HO_3; have HO_3 := n_; clear n_; have HX12 := yD (show Kd.S k42 42 w11 w.heap.size (fun k_ => ((fun _ => True)) k_ ∧ ¬ ((fun k_ => some k_ = (.slice Ao14 t124.length co14 : Value).ownBlock ∨ some k_ = (.slice Ao15 t127.length co15 : Value).ownBlock)) k_) (.slice (some ⟨go10, 0, none⟩) x3_1.length co10) x3_1 from (mS HO_3 (fun k_ hk => ⟨trivial, fun e_ => e_.elim (fun h_ => hk.1 h_) (fun h_ => hk.2 h_)⟩))); obtain ⟨oki12, ce12, hcl12, hM12, hcc12, hfr12, hoki12, hH12⟩ := Kd.S_elem HX12.out z42 (x4_1 : Int) (zP (by assumption)) (by have h_ : (x4_1 : Int) < ((x3_1.length : Int) : Int) := zP (by assumption); first | exact h_ | (have e_ := (Kd.S_reads' HO_3.out).1; omega) | simpa using h_); obtain ⟨ve12_0, ve12_1, rfl, ge12_0, ge12_1⟩ := k42_openM hM12; have HP12 := Kd.S_seg hH12 (zP (by assumption)) (by have h_ : (x4_1 : Int) < ((x3_1.length : Int) : Int) := zP (by assumption); first | exact h_ | (have e_ := (Kd.S_reads' HO_3.out).1; omega) | simpa using h_) (seg := [.slice Ao14 t124.length co14, .slice Ao15 t127.length co15]) (j := 0) (show 2 ≤ 2 from by decide) (x' := (⟨t124, t127⟩ : S42)) (k42_mkM _ _ _ (⟨t124, t127⟩ : S42) (zF (Kd.R_tight rfl (zF (ok' := fun k_ => ((fun _ => True)) k_ ∧ k_ ≠ go10) (Kd.R_apart' (HO126.out) (Kd.S_typed HO_3.out) (by decide)) (fun k_ hk => ⟨trivial, fun e_ => (hk.2) (by rw [e_]; rfl)⟩))) (fun _ h_ => Or.inr (Or.inl h_))) (zF (Kd.R_tight rfl (zF (ok' := fun k_ => ((fun _ => True)) k_ ∧ k_ ≠ go10) (Kd.R_apart' (HO129.out) (Kd.S_typed HO_3.out) (by decide)) (fun k_ hk => ⟨trivial, fun e_ => (hk.2) (by rw [e_]; rfl)⟩))) (fun _ h_ => Or.inr (Or.inr (h_))))) (fun _ hk => hk) (fun k_ hk_ => hk_.elim (fun h_ => ((zF (ok' := fun k_ => ((fun _ => True)) k_ ∧ k_ ≠ go10) (Kd.R_apart' (HO126.out) (Kd.S_typed HO_3.out) (by decide)) (fun k_ hk => ⟨trivial, fun e_ => (hk.2) (by rw [e_]; rfl)⟩))).1 k_ h_.symm) (fun h_ => ((zF (ok' := fun k_ => ((fun _ => True)) k_ ∧ k_ ≠ go10) (Kd.R_apart' (HO129.out) (Kd.S_typed HO_3.out) (by decide)) (fun k_ hk => ⟨trivial, fun e_ => (hk.2) (by rw [e_]; rfl)⟩))).1 k_ h_.symm)); have hx12_0 := hcc12 0 _ rfl; (try simp only [show (k42).sz = 2 from rfl, Nat.mul_one, Nat.add_zero] at hx12_0); have hf12_0 := hfr12 0; (try simp only [show (k42).sz = 2 from rfl, Nat.mul_one, Nat.add_zero] at hf12_0); have hx12_1 := hcc12 1 _ rfl; (try simp only [show (k42).sz = 2 from rfl, Nat.mul_one, Nat.add_zero] at hx12_1); have hf12_1 := hfr12 1; (try simp only [show (k42).sz = 2 from rfl, Nat.mul_one, Nat.add_zero] at hf12_1); clear hcl12 hcc12 hfr12 hM12 hoki12 hH12) | ((with_reducible refine gate_store (t := 42) (p := 21) rfl ?_); refine store_event (t := 42) (p := 21) (v := ?vo_w13) (w1 := ((w11.setCell ⟨go10, (x4_1 : Int).toNat * 2, none⟩ (.slice Ao14 t124.length co14)).setCell ⟨go10, (x4_1 : Int).toNat * 2 + 1, none⟩ (.slice Ao15 t127.length co15))) ?hg ?ho ?hn ?hr ?_; (case ho => rfl); (case hg => rfl); (case hn => rfl); (case hr => first | (go_simp; done) | (go_simp; rfl)); intro w13 hw; have hg : w11.grownBy w13 (some go10) := (by rw [hw]; exact HP12.2); have hp_ : Kd.S k42 42 w13 w.heap.size (fun _ => True) (.slice (some ⟨go10, 0, none⟩) x3_1.length co10) y130 := (by rw [hw, Ny130.out]; exact HP12.1); clear HP12; replace HO_3 := yD (hp_); replace HB := yD ((by rw [hw]; exact yE (yE (HB.out) GB10.out) GB10.out : Below w.heap.size w w13)); clear HO126 HO129; clear hg hw hp_))
        go_roundg k1
        case measure => have := HK1.out; omega
        case rel => exact ⟨(y130), (wrap64 (x4_1 + 1)), (by first | rfl | (simp; done) | (simp [*]; done)), H', ⟨by have := HK1.out; omega⟩, ⟨kS HO_3⟩, ⟨kR1 HB⟩⟩
       · rw [if_neg c9] at H
         exact absurd H (by simp)
      · rw [if_neg c7] at H
        exact absurd H (by simp)
     · rw [if_neg c6] at H
       have c6b0 : decide (x4_1 < (l0.length : Int)) = false := zS c6; clear c6; obtain rfl := Option.some.inj H
       go_wp2
       go_ret
       exact ⟨_, by first | rfl | (simp <;> rfl) | (simp [*] <;> rfl), kS HO_3, kR1 HB⟩
  · rw [if_neg c3] at H
    exact absurd H (by simp)
 · rw [if_neg c2] at H
   exact absurd H (by simp)

/-! ### spec_l00In: function 92 -/
def spec_l00In.f (a0 : Int) (a1 : Int) (a2 : Int) : Option (Bool) := if a0 ≥ a1 then (some (decide (a0 ≤ a2))) else (some false)
set_option maxHeartbeats 8000000 in
set_option maxRecDepth 100000 in
theorem spec_l00In.calls (a0 : Int) (a1 : Int) (a2 : Int) (r : Bool) (w : World) (h : spec_l00In.f a0 a1 a2 = some r) :
 Calls Try.prog 92 #[.int .i64 a0, .int .i64 a1, .int .i64 a2] w fun e w' => e = .returned (.bool r) ∧ Drawn0 w w' := by
 have H : (if a0 ≥ a1 then (some (decide (a0 ≤ a2))) else (some false)) = some r := h
 clear h
 by_cases c4 : a0 ≥ a1
 · rw [if_pos c4] at H
   have c4b0 : decide (a1 ≤ a0) = true := zR c4; clear c4; obtain rfl := Option.some.inj H; go_enter Try.func92, Try.ntmps92
   go_wp2
   go_ret
   exact ⟨by first | rfl | (simp; done) | (simp [*]; done), by repeat (first | exact Drawn0.refl _ | apply Drawn0.step)⟩
 ·
  rw [if_neg c4] at H
  have c4b0 : decide (a1 ≤ a0) = false := zS c4; clear c4; obtain rfl := Option.some.inj H; go_enter Try.func92, Try.ntmps92
  go_wp2
  go_ret
  exact ⟨by first | rfl | (simp; done) | (simp [*]; done), by repeat (first | exact Drawn0.refl _ | apply Drawn0.step)⟩

end Go.Proofs.Ytdiaebjbiddefaa.PFnExactSubtractBoxes
