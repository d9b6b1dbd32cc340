/- Each Go function here comes to what the plain function of its name says, where that says something. Made by a program of this session, over the print. -/
import Derived.Test.YtdiaebjbiddefaaPFnExactSelectedIndicesx0
namespace Go.Proofs.Ytdiaebjbiddefaa.PFnExactSelectedIndices
open Go.RowKit Go.Proofs.YtdiaebjbiddefaaW.PrintWords Go.Proofs.YtdiaebjbiddefaaW.PrintLast Go.Proofs.YtdiaebjbiddefaaW.PrintMore
attribute [local go_sem] max2_int min2_int max_two min_two max_three min_three max_four min_four   -- for this text's walks alone
set_option linter.unusedVariables false
set_option linter.unusedSimpArgs false

/-! ### laws_szInt64S: function 75 -/
def laws_szInt64S.f (l0 : List Int) (a1 : Int) : Option (Int) := if (wrap64 (a1 - (l0.length : Int))) < 0 then (some (-1)) else (some (wrap64 (a1 - (l0.length : Int))))
set_option maxHeartbeats 8000000 in
set_option maxRecDepth 100000 in
theorem laws_szInt64S.calls (A0 : Option Addr) (c0 : Nat) (l0 : List Int) (a1 : Int) (r : Int) (w : World) (hr0 : Kd.C (Kd.int .i64) w A0 l0.length l0) (hc0 : l0.length ≤ c0) (h : laws_szInt64S.f l0 a1 = some r) :
 Calls Try.prog 75 #[.slice A0 l0.length c0, .int .i64 a1] w fun e w' => e = .returned (.int .i64 r) ∧ Drawn0 w w' := by
 have HR0 := yD hr0
 have HC0 := yD hc0
 clear hr0 hc0
 have H : (if (wrap64 (a1 - (l0.length : Int))) < 0 then (some (-1)) else (some (wrap64 (a1 - (l0.length : Int))))) = some r := h
 clear h
 by_cases c3 : (wrap64 (a1 - (l0.length : Int))) < 0
 ·
  rw [if_pos c3] at H; have c3b0 : decide ((wrap64 (a1 - (l0.length : Int))) < 0) = true := zR c3; clear c3; obtain rfl := Option.some.inj H; go_enter Try.func75, Try.ntmps75
  go_wp2
  go_ret
  exact ⟨by first | rfl | (simp; done) | (simp [*]; done), by repeat (first | exact Drawn0.refl _ | apply Drawn0.step)⟩
 ·
  rw [if_neg c3] at H; have c3b0 : decide ((wrap64 (a1 - (l0.length : Int))) < 0) = false := zS c3; clear c3; obtain rfl := Option.some.inj H; go_enter Try.func75, Try.ntmps75
  go_wp2
  go_ret
  exact ⟨by first | rfl | (simp; done) | (simp [*]; done), by repeat (first | exact Drawn0.refl _ | apply Drawn0.step)⟩

/-! ### laws_szPoint: function 109 -/
def laws_szPoint.f (l0_0 : List Int) (a1 : Int) : Option (Int) := (laws_szInt64S.f l0_0 a1).bind fun t102 => (if t102 < 0 then (some (-1)) else (some t102))
set_option maxHeartbeats 8000000 in
set_option maxRecDepth 100000 in
theorem laws_szPoint.calls (A0_0 : Option Addr) (c0_0 : Nat) (l0_0 : List Int) (a1 : Int) (r : Int) (w : World) (hr0_0 : Kd.C (Kd.int .i64) w A0_0 l0_0.length l0_0) (hc0_0 : l0_0.length ≤ c0_0) (h : laws_szPoint.f l0_0 a1 = some r) :
 Calls Try.prog 109 #[.agg #[.slice A0_0 l0_0.length c0_0], .int .i64 a1] w fun e w' => e = .returned (.int .i64 r) ∧ Below w.heap.size w w' := by
 have hu107 := Try.underlying107
 have HR0_0 := yD hr0_0
 have HC0_0 := yD hc0_0
 clear hr0_0 hc0_0
 have HB := yD (Below.refl w.heap.size w)
 have H : ((laws_szInt64S.f l0_0 a1).bind fun t102 => (if t102 < 0 then (some (-1)) else (some t102))) = some r := h
 clear h
 obtain ⟨t102, A30, H⟩ := zW_ H
 replace H : (if t102 < 0 then (some (-1)) else (some t102)) = some r := H
 have A3 := yD A30
 clear A30
 by_cases c4 : t102 < 0
 ·
  rw [if_pos c4] at H; have c4b0 : decide (t102 < 0) = true := zR c4; clear c4; obtain rfl := Option.some.inj H; go_enter Try.func109, Try.ntmps109
  go_wp2_with (first | ((with_reducible refine gate_dst (N := 2) rfl ?_); refine box_event ?hg (N := 2) ?hd (cs := #[.slice A0_0 l0_0.length c0_0]) (t := 107) ?hr ?_; (case hd => rfl); (case hg => rfl); (case hr => first | (go_simp; done) | (go_simp; rfl)); intro gb101 hg w5 hbox hb; have n0_ := yD (zC (kB HB) hb); have n1_ := yD (hbox); have n2_ := yD ((by rw [hg]; exact (below_size (kB HB)) : w.heap.size ≤ gb101)); have n3_ := yD ((by rw [hg]; exact (below_size (kB HB)) : w.heap.size ≤ gb101)); clear HB; have HB := n0_; have BK101 := n1_; have GW101 := n2_; have GE101 := n3_; clear n0_ n1_ n2_ n3_; clear hb hbox hg; have hcz6_0 : w5.cell? ⟨gb101, 0, none⟩ = some (.slice A0_0 l0_0.length c0_0) := (yG BK101.out 0).trans rfl; have hfz6_0 := yR BK101.out 0) | ((with_reducible refine gate_callee (f := 75) rfl ?_); refine gL 8 Try.func75 #[.slice A0_0 l0_0.length c0_0, .int .i64 a1] ?_; (with_reducible refine (laws_szInt64S.calls _ _ l0_0 a1 t102 _ ?side1 ?side2 A3.out).mono ?_); (case side1 => exact kV (yY HR0_0.out HB.out)); (case side2 => exact HC0_0.out); rintro e w' ⟨rfl, ⟨nd, rfl⟩⟩; refine ⟨_, rfl, ?_⟩))
  go_ret
  exact ⟨by first | rfl | (simp <;> rfl) | (simp [*] <;> rfl), kR0 HB⟩
 ·
  rw [if_neg c4] at H; have c4b0 : decide (t102 < 0) = false := zS c4; clear c4; obtain rfl := Option.some.inj H; go_enter Try.func109, Try.ntmps109
  go_wp2_with (first | ((with_reducible refine gate_dst (N := 2) rfl ?_); refine box_event ?hg (N := 2) ?hd (cs := #[.slice A0_0 l0_0.length c0_0]) (t := 107) ?hr ?_; (case hd => rfl); (case hg => rfl); (case hr => first | (go_simp; done) | (go_simp; rfl)); intro gb101 hg w7 hbox hb; have n0_ := yD (zC (kB HB) hb); have n1_ := yD (hbox); have n2_ := yD ((by rw [hg]; exact (below_size (kB HB)) : w.heap.size ≤ gb101)); have n3_ := yD ((by rw [hg]; exact (below_size (kB HB)) : w.heap.size ≤ gb101)); clear HB; have HB := n0_; have BK101 := n1_; have GW101 := n2_; have GE101 := n3_; clear n0_ n1_ n2_ n3_; clear hb hbox hg; have hcz8_0 : w7.cell? ⟨gb101, 0, none⟩ = some (.slice A0_0 l0_0.length c0_0) := (yG BK101.out 0).trans rfl; have hfz8_0 := yR BK101.out 0) | ((with_reducible refine gate_callee (f := 75) rfl ?_); refine gL 8 Try.func75 #[.slice A0_0 l0_0.length c0_0, .int .i64 a1] ?_; (with_reducible refine (laws_szInt64S.calls _ _ l0_0 a1 t102 _ ?side1 ?side2 A3.out).mono ?_); (case side1 => exact kV (yY HR0_0.out HB.out)); (case side2 => exact HC0_0.out); rintro e w' ⟨rfl, ⟨nd, rfl⟩⟩; refine ⟨_, rfl, ?_⟩))
  go_ret
  exact ⟨by first | rfl | (simp <;> rfl) | (simp [*] <;> rfl), kR0 HB⟩

/-! ### laws_szPointS: function 76 -/
def laws_szPointS.l0 : Nat → List (S107) → Int → Int → Option (Int)
 | 0, _, _, _ => none
 | k + 1, x0, x1, x5 => if x5 < (x0.length : Int) then (if 0 ≤ x5 then ((laws_szPoint.f ((rd_T107 x0 x5).f0) x1).bind fun t104 => (if t104 < 0 then (some (-1)) else (laws_szPointS.l0 k x0 t104 (wrap64 (x5 + 1))))) else (none)) else (some x1)
def laws_szPointS.f (k : Nat) (l0 : List (S107)) (a1 : Int) : Option (Int) := if (wrap64 (a1 - (l0.length : Int))) < 0 then (some (-1)) else (laws_szPointS.l0 k l0 (wrap64 (a1 - (l0.length : Int))) 0)
theorem laws_szPointS.mono_l : ∀ k, (∀ y0 y1 y2, LeO (laws_szPointS.l0 k y0 y1 y2) (laws_szPointS.l0 (k + 1) y0 y1 y2))
 | 0 => fun _ _ _ r h => by simp [laws_szPointS.l0] at h
 | k + 1 => by
  have ih0 := laws_szPointS.mono_l k
  ·
   intro y0 y1 y2
   unfold laws_szPointS.l0
   repeat' (with_reducible first | exact ih0 _ _ _ | exact LeO.refl _ | exact LeO.none _ | refine LeO.ite ?_ ?_ | refine LeO.bind ?_ (fun _ => ?_))
theorem laws_szPointS.mono : ∀ a0 a1 k, LeO (laws_szPointS.f k a0 a1) (laws_szPointS.f (k + 1) a0 a1) := by
 intro a0 a1 k
 have ih0 := laws_szPointS.mono_l k
 unfold laws_szPointS.f
 repeat' (with_reducible first | exact ih0 _ _ _ | exact LeO.refl _ | exact LeO.none _ | refine LeO.ite ?_ ?_ | refine LeO.bind ?_ (fun _ => ?_))
set_option maxHeartbeats 8000000 in
set_option maxRecDepth 100000 in
theorem laws_szPointS.calls (k : Nat) (A0 : Option Addr) (c0 : Nat) (l0 : List (S107)) (a1 : Int) (r : Int) (w : World) (hr0 : Kd.C k107 w A0 l0.length l0) (hc0 : l0.length ≤ c0) (h : laws_szPointS.f k l0 a1 = some r) :
 Calls Try.prog 76 #[.slice A0 l0.length c0, .int .i64 a1] w fun e w' => e = .returned (.int .i64 r) ∧ Below w.heap.size w w' := by
 have hu107 := Try.underlying107
 have HR0 := yD hr0
 have HC0 := yD hc0
 clear hr0 hc0
 have HB := yD (Below.refl w.heap.size w)
 have H : (if (wrap64 (a1 - (l0.length : Int))) < 0 then (some (-1)) else (laws_szPointS.l0 k l0 (wrap64 (a1 - (l0.length : Int))) 0)) = some r := h
 clear h
 by_cases c3 : (wrap64 (a1 - (l0.length : Int))) < 0
 ·
  rw [if_pos c3] at H; have c3b0 : decide ((wrap64 (a1 - (l0.length : Int))) < 0) = true := zR c3; clear c3; obtain rfl := Option.some.inj H; go_enter Try.func76, Try.ntmps76
  go_wp2
  go_ret
  exact ⟨by first | rfl | (simp <;> rfl) | (simp [*] <;> rfl), kR1 HB⟩
 ·
  rw [if_neg c3] at H; have c3b0 : decide ((wrap64 (a1 - (l0.length : Int))) < 0) = false := zS c3; clear c3
  have H' := yD H
  clear H; go_enter Try.func76, Try.ntmps76
  go_wp2
  go_loopg [1, 5] k (fun kq v1 v5 w' => ∃ (x1_1 : Int) (x5_1 : Int), v1 = .int .i64 x1_1 ∧ v5 = .int .i64 x5_1 ∧ Aside0 (laws_szPointS.l0 kq l0 x1_1 x5_1 = some r) ∧ Aside0 (kq ≤ k) ∧ Aside0 (Below w.heap.size w w'))
  case atStart => exact ⟨(wrap64 (a1 - (l0.length : Int))), (0), (by first | rfl | (simp; done) | (simp [*]; done)), (by first | rfl | (simp; done) | (simp [*]; done)), H', ⟨Nat.le_refl _⟩, ⟨kR1 HB⟩⟩
  case round =>
   clear H'
   try clear p2; try clear c3; try clear c3b0
   obtain ⟨x1_1, x5_1, rfl, rfl, HA, HK1, HB⟩ := hrel
   cases gk with
   | zero => exact absurd HA.out (by simp [laws_szPointS.l0])
   | succ k1 =>
    have H := HA.out; clear HA
    simp only [laws_szPointS.l0] at H
    by_cases c4 : x5_1 < (l0.length : Int)
    ·
     rw [if_pos c4] at H; have c4b0 : decide (x5_1 < (l0.length : Int)) = true := zR c4; clear c4
     by_cases c5 : 0 ≤ x5_1
     ·
      rw [if_pos c5] at H; have c5b0 : decide (0 ≤ x5_1) = true := zR c5; clear c5
      obtain ⟨t104, A60, H⟩ := zW_ H
      replace H : (if t104 < 0 then (some (-1)) else (laws_szPointS.l0 k1 l0 t104 (wrap64 (x5_1 + 1)))) = some r := H
      have A6 := yD A60
      clear A60
      by_cases c7 : t104 < 0
      ·
       rw [if_pos c7] at H; have c7b0 : decide (t104 < 0) = true := zR c7; clear c7; obtain rfl := Option.some.inj H
       have p103 : 0 ≤ (x5_1 : Int) := zP (by assumption)
       have q103 : x5_1 < (l0.length : Int) := zP (by assumption)
       obtain ⟨ad103, A103_0, c103_0, e103, hx103_0, hl103_0, hi103_0⟩ := at_T107 HR0.out x5_1 p103 q103
       cases e103
       replace hx103_0 := (HB.out.cell (zQ w _ hx103_0)).trans hx103_0
       have HR103_0 := yD hi103_0
       have HC103_0 := yD hl103_0
       clear hi103_0 hl103_0; replace p103 := eq_true p103; replace q103 := eq_true q103
       go_wp2_with (first | ((with_reducible refine gate_callee (f := 109) rfl ?_); refine gL 23 Try.func109 #[.agg #[.slice A103_0 ((rd_T107 l0 x5_1).f0).length c103_0], .int .i64 x1_1] ?_; (with_reducible refine (laws_szPoint.calls _ _ ((rd_T107 l0 x5_1).f0) x1_1 t104 _ ?side1 ?side2 A6.out).mono ?_); (case side1 => exact kV (yY HR103_0.out HB.out)); (case side2 => exact HC103_0.out); rintro e w8 ⟨rfl, hb⟩; refine ⟨_, rfl, ?_⟩; have n0_ := yD (zC (kB HB) hb); clear HB; have HB := n0_; clear n0_; (try clear hb); (try clear hb2); (try clear hk); (try clear hi)))
       go_ret
       exact ⟨by first | rfl | (simp <;> rfl) | (simp [*] <;> rfl), kR1 HB⟩
      ·
       rw [if_neg c7] at H; have c7b0 : decide (t104 < 0) = false := zS c7; clear c7
       have H' := yD H
       clear H
       have p103 : 0 ≤ (x5_1 : Int) := zP (by assumption)
       have q103 : x5_1 < (l0.length : Int) := zP (by assumption)
       obtain ⟨ad103, A103_0, c103_0, e103, hx103_0, hl103_0, hi103_0⟩ := at_T107 HR0.out x5_1 p103 q103
       cases e103
       replace hx103_0 := (HB.out.cell (zQ w _ hx103_0)).trans hx103_0
       have HR103_0 := yD hi103_0
       have HC103_0 := yD hl103_0
       clear hi103_0 hl103_0; replace p103 := eq_true p103; replace q103 := eq_true q103
       go_wp2_with (first | ((with_reducible refine gate_callee (f := 109) rfl ?_); refine gL 23 Try.func109 #[.agg #[.slice A103_0 ((rd_T107 l0 x5_1).f0).length c103_0], .int .i64 x1_1] ?_; (with_reducible refine (laws_szPoint.calls _ _ ((rd_T107 l0 x5_1).f0) x1_1 t104 _ ?side1 ?side2 A6.out).mono ?_); (case side1 => exact kV (yY HR103_0.out HB.out)); (case side2 => exact HC103_0.out); rintro e w9 ⟨rfl, hb⟩; refine ⟨_, rfl, ?_⟩; have n0_ := yD (zC (kB HB) hb); clear HB; have HB := n0_; clear n0_; (try clear hb); (try clear hb2); (try clear hk); (try clear hi)))
       go_roundg k1
       case measure => have := HK1.out; omega
       case rel => exact ⟨(t104), (wrap64 (x5_1 + 1)), (by first | rfl | (simp; done) | (simp [*]; done)), (by first | rfl | (simp; done) | (simp [*]; done)), H', ⟨by have := HK1.out; omega⟩, ⟨kR1 HB⟩⟩
     ·
      rw [if_neg c5] at H
      exact absurd H (by simp)
    ·
     rw [if_neg c4] at H; have c4b0 : decide (x5_1 < (l0.length : Int)) = false := zS c4; clear c4; obtain rfl := Option.some.inj H
     go_wp2
     go_ret
     exact ⟨by first | rfl | (simp <;> rfl) | (simp [*] <;> rfl), kR1 HB⟩

/-! ### laws_szSelection: function 37 -/
def laws_szSelection.f (k : Nat) (a0_0 : Int) (l0_1 : List Int) (l0_2 : List Int) (l0_3 : List Int) (l0_4 : List Int) (l0_5 : List (S107)) (a1 : Int) : Option (Int) := (laws_szInt64S.f l0_1 a1).bind fun t106 => (if t106 < 0 then (some (-1)) else ((laws_szInt64S.f l0_2 t106).bind fun t107 => (if t107 < 0 then (some (-1)) else ((laws_szInt64S.f l0_3 t107).bind fun t108 => (if t108 < 0 then (some (-1)) else ((laws_szInt64S.f l0_4 t108).bind fun t109 => (if t109 < 0 then (some (-1)) else ((laws_szPointS.f k l0_5 t109).bind fun t110 => (if t110 < 0 then (some (-1)) else (some t110))))))))))
theorem laws_szSelection.mono : ∀ a0 a1 a2 a3 a4 a5 a6 k, LeO (laws_szSelection.f k a0 a1 a2 a3 a4 a5 a6) (laws_szSelection.f (k + 1) a0 a1 a2 a3 a4 a5 a6) := by
 intro a0 a1 a2 a3 a4 a5 a6 k
 unfold laws_szSelection.f
 repeat' (with_reducible first | exact laws_szPointS.mono _ _ _ | exact LeO.refl _ | exact LeO.none _ | refine LeO.ite ?_ ?_ | refine LeO.bind ?_ (fun _ => ?_))
set_option maxHeartbeats 8000000 in
set_option maxRecDepth 100000 in
theorem laws_szSelection.calls (k : Nat) (a0_0 : Int) (A0_1 : Option Addr) (c0_1 : Nat) (l0_1 : List Int) (A0_2 : Option Addr) (c0_2 : Nat) (l0_2 : List Int) (A0_3 : Option Addr) (c0_3 : Nat) (l0_3 : List Int) (A0_4 : Option Addr) (c0_4 : Nat) (l0_4 : List Int) (A0_5 : Option Addr) (c0_5 : Nat) (l0_5 : List (S107)) (a1 : Int) (r : Int) (w : World) (hr0_1 : Kd.C (Kd.int .i64) w A0_1 l0_1.length l0_1) (hc0_1 : l0_1.length ≤ c0_1) (hr0_2 : Kd.C (Kd.int .i64) w A0_2 l0_2.length l0_2) (hc0_2 : l0_2.length ≤ c0_2) (hr0_3 : Kd.C (Kd.int .i64) w A0_3 l0_3.length l0_3) (hc0_3 : l0_3.length ≤ c0_3) (hr0_4 : Kd.C (Kd.int .i64) w A0_4 l0_4.length l0_4) (hc0_4 : l0_4.length ≤ c0_4) (hr0_5 : Kd.C k107 w A0_5 l0_5.length l0_5) (hc0_5 : l0_5.length ≤ c0_5) (h : laws_szSelection.f k a0_0 l0_1 l0_2 l0_3 l0_4 l0_5 a1 = some r) :
 Calls Try.prog 37 #[.agg #[.int .i64 a0_0, .slice A0_1 l0_1.length c0_1, .slice A0_2 l0_2.length c0_2, .slice A0_3 l0_3.length c0_3, .slice A0_4 l0_4.length c0_4, .slice A0_5 l0_5.length c0_5], .int .i64 a1] w fun e w' => e = .returned (.int .i64 r) ∧ Below w.heap.size w w' := by
 have hu49 := Try.underlying49
 have HR0_1 := yD hr0_1
 have HC0_1 := yD hc0_1
 clear hr0_1 hc0_1
 have HR0_2 := yD hr0_2
 have HC0_2 := yD hc0_2
 clear hr0_2 hc0_2
 have HR0_3 := yD hr0_3
 have HC0_3 := yD hc0_3
 clear hr0_3 hc0_3
 have HR0_4 := yD hr0_4
 have HC0_4 := yD hc0_4
 clear hr0_4 hc0_4
 have HR0_5 := yD hr0_5
 have HC0_5 := yD hc0_5
 clear hr0_5 hc0_5
 have HB := yD (Below.refl w.heap.size w)
 have H : ((laws_szInt64S.f l0_1 a1).bind fun t106 => (if t106 < 0 then (some (-1)) else ((laws_szInt64S.f l0_2 t106).bind fun t107 => (if t107 < 0 then (some (-1)) else ((laws_szInt64S.f l0_3 t107).bind fun t108 => (if t108 < 0 then (some (-1)) else ((laws_szInt64S.f l0_4 t108).bind fun t109 => (if t109 < 0 then (some (-1)) else ((laws_szPointS.f k l0_5 t109).bind fun t110 => (if t110 < 0 then (some (-1)) else (some t110))))))))))) = some r := h
 clear h
 obtain ⟨t106, A30, H⟩ := zW_ H
 replace H : (if t106 < 0 then (some (-1)) else ((laws_szInt64S.f l0_2 t106).bind fun t107 => (if t107 < 0 then (some (-1)) else ((laws_szInt64S.f l0_3 t107).bind fun t108 => (if t108 < 0 then (some (-1)) else ((laws_szInt64S.f l0_4 t108).bind fun t109 => (if t109 < 0 then (some (-1)) else ((laws_szPointS.f k l0_5 t109).bind fun t110 => (if t110 < 0 then (some (-1)) else (some t110)))))))))) = some r := H
 have A3 := yD A30
 clear A30
 by_cases c4 : t106 < 0
 ·
  rw [if_pos c4] at H; have c4b0 : decide (t106 < 0) = true := zR c4; clear c4; obtain rfl := Option.some.inj H; go_enter Try.func37, Try.ntmps37
  go_wp2_with (first | ((with_reducible refine gate_dst (N := 2) rfl ?_); refine box_event ?hg (N := 2) ?hd (cs := #[.int .i64 a0_0, .slice A0_1 l0_1.length c0_1, .slice A0_2 l0_2.length c0_2, .slice A0_3 l0_3.length c0_3, .slice A0_4 l0_4.length c0_4, .slice A0_5 l0_5.length c0_5]) (t := 49) ?hr ?_; (case hd => rfl); (case hg => rfl); (case hr => first | (go_simp; done) | (go_simp; rfl)); intro gb105 hg w5 hbox hb; have n0_ := yD (zC (kB HB) hb); have n1_ := yD (hbox); have n2_ := yD ((by rw [hg]; exact (below_size (kB HB)) : w.heap.size ≤ gb105)); have n3_ := yD ((by rw [hg]; exact (below_size (kB HB)) : w.heap.size ≤ gb105)); clear HB; have HB := n0_; have BK105 := n1_; have GW105 := n2_; have GE105 := n3_; clear n0_ n1_ n2_ n3_; clear hb hbox hg; obtain ⟨hcz6_0, hcz6_1, hcz6_2, hcz6_3, hcz6_4, hcz6_5⟩ := cz6 BK105.out; obtain ⟨hfz6_0, hfz6_1, hfz6_2, hfz6_3, hfz6_4, hfz6_5⟩ := fz6 BK105.out) | ((with_reducible refine gate_callee (f := 75) rfl ?_); refine gL 8 Try.func75 #[.slice A0_1 l0_1.length c0_1, .int .i64 a1] ?_; (with_reducible refine (laws_szInt64S.calls _ _ l0_1 a1 t106 _ ?side1 ?side2 A3.out).mono ?_); (case side1 => exact kV (yY HR0_1.out HB.out)); (case side2 => exact HC0_1.out); rintro e w' ⟨rfl, ⟨nd, rfl⟩⟩; refine ⟨_, rfl, ?_⟩))
  go_ret
  exact ⟨by first | rfl | (simp <;> rfl) | (simp [*] <;> rfl), kR0 HB⟩
 ·
  rw [if_neg c4] at H; have c4b0 : decide (t106 < 0) = false := zS c4; clear c4
  obtain ⟨t107, A70, H⟩ := zW_ H
  replace H : (if t107 < 0 then (some (-1)) else ((laws_szInt64S.f l0_3 t107).bind fun t108 => (if t108 < 0 then (some (-1)) else ((laws_szInt64S.f l0_4 t108).bind fun t109 => (if t109 < 0 then (some (-1)) else ((laws_szPointS.f k l0_5 t109).bind fun t110 => (if t110 < 0 then (some (-1)) else (some t110)))))))) = some r := H
  have A7 := yD A70
  clear A70
  by_cases c8 : t107 < 0
  ·
   rw [if_pos c8] at H; have c8b0 : decide (t107 < 0) = true := zR c8; clear c8; obtain rfl := Option.some.inj H; go_enter Try.func37, Try.ntmps37
   go_wp2_with (first | ((with_reducible refine gate_dst (N := 2) rfl ?_); refine box_event ?hg (N := 2) ?hd (cs := #[.int .i64 a0_0, .slice A0_1 l0_1.length c0_1, .slice A0_2 l0_2.length c0_2, .slice A0_3 l0_3.length c0_3, .slice A0_4 l0_4.length c0_4, .slice A0_5 l0_5.length c0_5]) (t := 49) ?hr ?_; (case hd => rfl); (case hg => rfl); (case hr => first | (go_simp; done) | (go_simp; rfl)); intro gb105 hg w9 hbox hb; have n0_ := yD (zC (kB HB) hb); have n1_ := yD (hbox); have n2_ := yD ((by rw [hg]; exact (below_size (kB HB)) : w.heap.size ≤ gb105)); have n3_ := yD ((by rw [hg]; exact (below_size (kB HB)) : w.heap.size ≤ gb105)); clear HB; have HB := n0_; have BK105 := n1_; have GW105 := n2_; have GE105 := n3_; clear n0_ n1_ n2_ n3_; clear hb hbox hg; obtain ⟨hcz10_0, hcz10_1, hcz10_2, hcz10_3, hcz10_4, hcz10_5⟩ := cz6 BK105.out; obtain ⟨hfz10_0, hfz10_1, hfz10_2, hfz10_3, hfz10_4, hfz10_5⟩ := fz6 BK105.out) | ((with_reducible refine gate_callee (f := 75) rfl ?_); refine gL 8 Try.func75 #[.slice A0_1 l0_1.length c0_1, .int .i64 a1] ?_; (with_reducible refine (laws_szInt64S.calls _ _ l0_1 a1 t106 _ ?side1 ?side2 A3.out).mono ?_); (case side1 => exact kV (yY HR0_1.out HB.out)); (case side2 => exact HC0_1.out); rintro e w' ⟨rfl, ⟨nd, rfl⟩⟩; refine ⟨_, rfl, ?_⟩) | ((with_reducible refine gate_callee (f := 75) rfl ?_); refine gL 14 Try.func75 #[.slice A0_2 l0_2.length c0_2, .int .i64 t106] ?_; (with_reducible refine (laws_szInt64S.calls _ _ l0_2 t106 t107 _ ?side1 ?side2 A7.out).mono ?_); (case side1 => exact yY HR0_2.out (kB HB)); (case side2 => exact HC0_2.out); rintro e w' ⟨rfl, ⟨nd, rfl⟩⟩; refine ⟨_, rfl, ?_⟩))
   go_ret
   exact ⟨by first | rfl | (simp <;> rfl) | (simp [*] <;> rfl), kR0 HB⟩
  ·
   rw [if_neg c8] at H; have c8b0 : decide (t107 < 0) = false := zS c8; clear c8
   obtain ⟨t108, A110, H⟩ := zW_ H
   replace H : (if t108 < 0 then (some (-1)) else ((laws_szInt64S.f l0_4 t108).bind fun t109 => (if t109 < 0 then (some (-1)) else ((laws_szPointS.f k l0_5 t109).bind fun t110 => (if t110 < 0 then (some (-1)) else (some t110)))))) = some r := H
   have A11 := yD A110
   clear A110
   by_cases c12 : t108 < 0
   ·
    rw [if_pos c12] at H; have c12b0 : decide (t108 < 0) = true := zR c12; clear c12; obtain rfl := Option.some.inj H; go_enter Try.func37, Try.ntmps37
    go_wp2_with (first | ((with_reducible refine gate_dst (N := 2) rfl ?_); refine box_event ?hg (N := 2) ?hd (cs := #[.int .i64 a0_0, .slice A0_1 l0_1.length c0_1, .slice A0_2 l0_2.length c0_2, .slice A0_3 l0_3.length c0_3, .slice A0_4 l0_4.length c0_4, .slice A0_5 l0_5.length c0_5]) (t := 49) ?hr ?_; (case hd => rfl); (case hg => rfl); (case hr => first | (go_simp; done) | (go_simp; rfl)); intro gb105 hg w13 hbox hb; have n0_ := yD (zC (kB HB) hb); have n1_ := yD (hbox); have n2_ := yD ((by rw [hg]; exact (below_size (kB HB)) : w.heap.size ≤ gb105)); have n3_ := yD ((by rw [hg]; exact (below_size (kB HB)) : w.heap.size ≤ gb105)); clear HB; have HB := n0_; have BK105 := n1_; have GW105 := n2_; have GE105 := n3_; clear n0_ n1_ n2_ n3_; clear hb hbox hg; obtain ⟨hcz14_0, hcz14_1, hcz14_2, hcz14_3, hcz14_4, hcz14_5⟩ := cz6 BK105.out; obtain ⟨hfz14_0, hfz14_1, hfz14_2, hfz14_3, hfz14_4, hfz14_5⟩ := fz6 BK105.out) | ((with_reducible refine gate_callee (f := 75) rfl ?_); refine gL 8 Try.func75 #[.slice A0_1 l0_1.length c0_1, .int .i64 a1] ?_; (with_reducible refine (laws_szInt64S.calls _ _ l0_1 a1 t106 _ ?side1 ?side2 A3.out).mono ?_); (case side1 => exact kV (yY HR0_1.out HB.out)); (case side2 => exact HC0_1.out); rintro e w' ⟨rfl, ⟨nd, rfl⟩⟩; refine ⟨_, rfl, ?_⟩) | ((with_reducible refine gate_callee (f := 75) rfl ?_); refine gL 14 Try.func75 #[.slice A0_2 l0_2.length c0_2, .int .i64 t106] ?_; (with_reducible refine (laws_szInt64S.calls _ _ l0_2 t106 t107 _ ?side1 ?side2 A7.out).mono ?_); (case side1 => exact yY HR0_2.out (kB HB)); (case side2 => exact HC0_2.out); rintro e w' ⟨rfl, ⟨nd, rfl⟩⟩; refine ⟨_, rfl, ?_⟩) | ((with_reducible refine gate_callee (f := 75) rfl ?_); refine gL 20 Try.func75 #[.slice A0_3 l0_3.length c0_3, .int .i64 t107] ?_; (with_reducible refine (laws_szInt64S.calls _ _ l0_3 t107 t108 _ ?side1 ?side2 A11.out).mono ?_); (case side1 => exact yY HR0_3.out (kB HB)); (case side2 => exact HC0_3.out); rintro e w' ⟨rfl, ⟨nd, rfl⟩⟩; refine ⟨_, rfl, ?_⟩))
    go_ret
    exact ⟨by first | rfl | (simp <;> rfl) | (simp [*] <;> rfl), kR0 HB⟩
   ·
    rw [if_neg c12] at H; have c12b0 : decide (t108 < 0) = false := zS c12; clear c12
    obtain ⟨t109, A150, H⟩ := zW_ H
    replace H : (if t109 < 0 then (some (-1)) else ((laws_szPointS.f k l0_5 t109).bind fun t110 => (if t110 < 0 then (some (-1)) else (some t110)))) = some r := H
    have A15 := yD A150
    clear A150
    by_cases c16 : t109 < 0
    ·
     rw [if_pos c16] at H; have c16b0 : decide (t109 < 0) = true := zR c16; clear c16; obtain rfl := Option.some.inj H; go_enter Try.func37, Try.ntmps37
     go_wp2_with (first | ((with_reducible refine gate_dst (N := 2) rfl ?_); refine box_event ?hg (N := 2) ?hd (cs := #[.int .i64 a0_0, .slice A0_1 l0_1.length c0_1, .slice A0_2 l0_2.length c0_2, .slice A0_3 l0_3.length c0_3, .slice A0_4 l0_4.length c0_4, .slice A0_5 l0_5.length c0_5]) (t := 49) ?hr ?_; (case hd => rfl); (case hg => rfl); (case hr => first | (go_simp; done) | (go_simp; rfl)); intro gb105 hg w17 hbox hb; have n0_ := yD (zC (kB HB) hb); have n1_ := yD (hbox); have n2_ := yD ((by rw [hg]; exact (below_size (kB HB)) : w.heap.size ≤ gb105)); have n3_ := yD ((by rw [hg]; exact (below_size (kB HB)) : w.heap.size ≤ gb105)); clear HB; have HB := n0_; have BK105 := n1_; have GW105 := n2_; have GE105 := n3_; clear n0_ n1_ n2_ n3_; clear hb hbox hg; obtain ⟨hcz18_0, hcz18_1, hcz18_2, hcz18_3, hcz18_4, hcz18_5⟩ := cz6 BK105.out; obtain ⟨hfz18_0, hfz18_1, hfz18_2, hfz18_3, hfz18_4, hfz18_5⟩ := fz6 BK105.out) | ((with_reducible refine gate_callee (f := 75) rfl ?_); refine gL 8 Try.func75 #[.slice A0_1 l0_1.length c0_1, .int .i64 a1] ?_; (with_reducible refine (laws_szInt64S.calls _ _ l0_1 a1 t106 _ ?side1 ?side2 A3.out).mono ?_); (case side1 => exact kV (yY HR0_1.out HB.out)); (case side2 => exact HC0_1.out); rintro e w' ⟨rfl, ⟨nd, rfl⟩⟩; refine ⟨_, rfl, ?_⟩) | ((with_reducible refine gate_callee (f := 75) rfl ?_); refine gL 14 Try.func75 #[.slice A0_2 l0_2.length c0_2, .int .i64 t106] ?_; (with_reducible refine (laws_szInt64S.calls _ _ l0_2 t106 t107 _ ?side1 ?side2 A7.out).mono ?_); (case side1 => exact yY HR0_2.out (kB HB)); (case side2 => exact HC0_2.out); rintro e w' ⟨rfl, ⟨nd, rfl⟩⟩; refine ⟨_, rfl, ?_⟩) | ((with_reducible refine gate_callee (f := 75) rfl ?_); refine gL 20 Try.func75 #[.slice A0_3 l0_3.length c0_3, .int .i64 t107] ?_; (with_reducible refine (laws_szInt64S.calls _ _ l0_3 t107 t108 _ ?side1 ?side2 A11.out).mono ?_); (case side1 => exact yY HR0_3.out (kB HB)); (case side2 => exact HC0_3.out); rintro e w' ⟨rfl, ⟨nd, rfl⟩⟩; refine ⟨_, rfl, ?_⟩) | ((with_reducible refine gate_callee (f := 75) rfl ?_); refine gL 26 Try.func75 #[.slice A0_4 l0_4.length c0_4, .int .i64 t108] ?_; (with_reducible refine (laws_szInt64S.calls _ _ l0_4 t108 t109 _ ?side1 ?side2 A15.out).mono ?_); (case side1 => exact yY HR0_4.out (kB HB)); (case side2 => exact HC0_4.out); rintro e w' ⟨rfl, ⟨nd, rfl⟩⟩; refine ⟨_, rfl, ?_⟩))
     go_ret
     exact ⟨by first | rfl | (simp <;> rfl) | (simp [*] <;> rfl), kR0 HB⟩
    ·
     rw [if_neg c16] at H; have c16b0 : decide (t109 < 0) = false := zS c16; clear c16
     obtain ⟨t110, A190, H⟩ := zW_ H
     replace H : (if t110 < 0 then (some (-1)) else (some t110)) = some r := H
     have A19 := yD A190
     clear A190
     by_cases c20 : t110 < 0
     ·
      rw [if_pos c20] at H; have c20b0 : decide (t110 < 0) = true := zR c20; clear c20; obtain rfl := Option.some.inj H; go_enter Try.func37, Try.ntmps37
      go_wp2_with (first | ((with_reducible refine gate_dst (N := 2) rfl ?_); refine box_event ?hg (N := 2) ?hd (cs := #[.int .i64 a0_0, .slice A0_1 l0_1.length c0_1, .slice A0_2 l0_2.length c0_2, .slice A0_3 l0_3.length c0_3, .slice A0_4 l0_4.length c0_4, .slice A0_5 l0_5.length c0_5]) (t := 49) ?hr ?_; (case hd => rfl); (case hg => rfl); (case hr => first | (go_simp; done) | (go_simp; rfl)); intro gb105 hg w21 hbox hb; have n0_ := yD (zC (kB HB) hb); have n1_ := yD (hbox); have n2_ := yD ((by rw [hg]; exact (below_size (kB HB)) : w.heap.size ≤ gb105)); have n3_ := yD ((by rw [hg]; exact (below_size (kB HB)) : w.heap.size ≤ gb105)); clear HB; have HB := n0_; have BK105 := n1_; have GW105 := n2_; have GE105 := n3_; clear n0_ n1_ n2_ n3_; clear hb hbox hg; obtain ⟨hcz22_0, hcz22_1, hcz22_2, hcz22_3, hcz22_4, hcz22_5⟩ := cz6 BK105.out; obtain ⟨hfz22_0, hfz22_1, hfz22_2, hfz22_3, hfz22_4, hfz22_5⟩ := fz6 BK105.out) | ((with_reducible refine gate_callee (f := 75) rfl ?_); refine gL 8 Try.func75 #[.slice A0_1 l0_1.length c0_1, .int .i64 a1] ?_; (with_reducible refine (laws_szInt64S.calls _ _ l0_1 a1 t106 _ ?side1 ?side2 A3.out).mono ?_); (case side1 => exact kV (yY HR0_1.out HB.out)); (case side2 => exact HC0_1.out); rintro e w' ⟨rfl, ⟨nd, rfl⟩⟩; refine ⟨_, rfl, ?_⟩) | ((with_reducible refine gate_callee (f := 75) rfl ?_); refine gL 14 Try.func75 #[.slice A0_2 l0_2.length c0_2, .int .i64 t106] ?_; (with_reducible refine (laws_szInt64S.calls _ _ l0_2 t106 t107 _ ?side1 ?side2 A7.out).mono ?_); (case side1 => exact yY HR0_2.out (kB HB)); (case side2 => exact HC0_2.out); rintro e w' ⟨rfl, ⟨nd, rfl⟩⟩; refine ⟨_, rfl, ?_⟩) | ((with_reducible refine gate_callee (f := 75) rfl ?_); refine gL 20 Try.func75 #[.slice A0_3 l0_3.length c0_3, .int .i64 t107] ?_; (with_reducible refine (laws_szInt64S.calls _ _ l0_3 t107 t108 _ ?side1 ?side2 A11.out).mono ?_); (case side1 => exact yY HR0_3.out (kB HB)); (case side2 => exact HC0_3.out); rintro e w' ⟨rfl, ⟨nd, rfl⟩⟩; refine ⟨_, rfl, ?_⟩) | ((with_reducible refine gate_callee (f := 75) rfl ?_); refine gL 26 Try.func75 #[.slice A0_4 l0_4.length c0_4, .int .i64 t108] ?_; (with_reducible refine (laws_szInt64S.calls _ _ l0_4 t108 t109 _ ?side1 ?side2 A15.out).mono ?_); (case side1 => exact yY HR0_4.out (kB HB)); (case side2 => exact HC0_4.out); rintro e w' ⟨rfl, ⟨nd, rfl⟩⟩; refine ⟨_, rfl, ?_⟩) | ((with_reducible refine gate_callee (f := 76) rfl ?_); refine gL 32 Try.func76 #[.slice A0_5 l0_5.length c0_5, .int .i64 t109] ?_; (with_reducible refine (laws_szPointS.calls k _ _ l0_5 t109 t110 _ ?side1 ?side2 A19.out).mono ?_); (case side1 => exact yY HR0_5.out (kB HB)); (case side2 => exact HC0_5.out); rintro e w23 ⟨rfl, hb⟩; refine ⟨_, rfl, ?_⟩; have n0_ := yD (zB (kN BK105) hb); have n1_ := yD (zC (kB HB) hb); clear BK105; clear HB; have BK105 := n0_; have HB := n1_; clear n0_ n1_; (try clear hb); (try clear hb2); (try clear hk); (try clear hi)))
      go_ret
      exact ⟨by first | rfl | (simp <;> rfl) | (simp [*] <;> rfl), kR0 HB⟩
     ·
      rw [if_neg c20] at H; have c20b0 : decide (t110 < 0) = false := zS c20; clear c20; obtain rfl := Option.some.inj H; go_enter Try.func37, Try.ntmps37
      go_wp2_with (first | ((with_reducible refine gate_dst (N := 2) rfl ?_); refine box_event ?hg (N := 2) ?hd (cs := #[.int .i64 a0_0, .slice A0_1 l0_1.length c0_1, .slice A0_2 l0_2.length c0_2, .slice A0_3 l0_3.length c0_3, .slice A0_4 l0_4.length c0_4, .slice A0_5 l0_5.length c0_5]) (t := 49) ?hr ?_; (case hd => rfl); (case hg => rfl); (case hr => first | (go_simp; done) | (go_simp; rfl)); intro gb105 hg w24 hbox hb; have n0_ := yD (zC (kB HB) hb); have n1_ := yD (hbox); have n2_ := yD ((by rw [hg]; exact (below_size (kB HB)) : w.heap.size ≤ gb105)); have n3_ := yD ((by rw [hg]; exact (below_size (kB HB)) : w.heap.size ≤ gb105)); clear HB; have HB := n0_; have BK105 := n1_; have GW105 := n2_; have GE105 := n3_; clear n0_ n1_ n2_ n3_; clear hb hbox hg; obtain ⟨hcz25_0, hcz25_1, hcz25_2, hcz25_3, hcz25_4, hcz25_5⟩ := cz6 BK105.out; obtain ⟨hfz25_0, hfz25_1, hfz25_2, hfz25_3, hfz25_4, hfz25_5⟩ := fz6 BK105.out) | ((with_reducible refine gate_callee (f := 75) rfl ?_); refine gL 8 Try.func75 #[.slice A0_1 l0_1.length c0_1, .int .i64 a1] ?_; (with_reducible refine (laws_szInt64S.calls _ _ l0_1 a1 t106 _ ?side1 ?side2 A3.out).mono ?_); (case side1 => exact kV (yY HR0_1.out HB.out)); (case side2 => exact HC0_1.out); rintro e w' ⟨rfl, ⟨nd, rfl⟩⟩; refine ⟨_, rfl, ?_⟩) | ((with_reducible refine gate_callee (f := 75) rfl ?_); refine gL 14 Try.func75 #[.slice A0_2 l0_2.length c0_2, .int .i64 t106] ?_; (with_reducible refine (laws_szInt64S.calls _ _ l0_2 t106 t107 _ ?side1 ?side2 A7.out).mono ?_); (case side1 => exact yY HR0_2.out (kB HB)); (case side2 => exact HC0_2.out); rintro e w' ⟨rfl, ⟨nd, rfl⟩⟩; refine ⟨_, rfl, ?_⟩) | ((with_reducible refine gate_callee (f := 75) rfl ?_); refine gL 20 Try.func75 #[.slice A0_3 l0_3.length c0_3, .int .i64 t107] ?_; (with_reducible refine (laws_szInt64S.calls _ _ l0_3 t107 t108 _ ?side1 ?side2 A11.out).mono ?_); (case side1 => exact yY HR0_3.out (kB HB)); (case side2 => exact HC0_3.out); rintro e w' ⟨rfl, ⟨nd, rfl⟩⟩; refine ⟨_, rfl, ?_⟩) | ((with_reducible refine gate_callee (f := 75) rfl ?_); refine gL 26 Try.func75 #[.slice A0_4 l0_4.length c0_4, .int .i64 t108] ?_; (with_reducible refine (laws_szInt64S.calls _ _ l0_4 t108 t109 _ ?side1 ?side2 A15.out).mono ?_); (case side1 => exact yY HR0_4.out (kB HB)); (case side2 => exact HC0_4.out); rintro e w' ⟨rfl, ⟨nd, rfl⟩⟩; refine ⟨_, rfl, ?_⟩) | ((with_reducible refine gate_callee (f := 76) rfl ?_); refine gL 32 Try.func76 #[.slice A0_5 l0_5.length c0_5, .int .i64 t109] ?_; (with_reducible refine (laws_szPointS.calls k _ _ l0_5 t109 t110 _ ?side1 ?side2 A19.out).mono ?_); (case side1 => exact yY HR0_5.out (kB HB)); (case side2 => exact HC0_5.out); rintro e w26 ⟨rfl, hb⟩; refine ⟨_, rfl, ?_⟩; have n0_ := yD (zB (kN BK105) hb); have n1_ := yD (zC (kB HB) hb); clear BK105; clear HB; have BK105 := n0_; have HB := n1_; clear n0_ n1_; (try clear hb); (try clear hb2); (try clear hk); (try clear hi)))
      go_ret
      exact ⟨by first | rfl | (simp <;> rfl) | (simp [*] <;> rfl), kR0 HB⟩

/-! ### laws_toInt64S: function 39 -/
def laws_toInt64S.l0 : Nat → List Int → List Int → Int → Option (List Int)
 | 0, _, _, _ => none
 | k + 1, x0, x3, x4 => if x4 < (x0.length : Int) then (if 0 ≤ x4 then (if x4 < (x3.length : Int) then (laws_toInt64S.l0 k x0 (x3.set (x4 : Int).toNat (rd x0 x4)) (wrap64 (x4 + 1))) else (none)) else (none)) else (some x3)
def laws_toInt64S.f (k : Nat) (l0 : List Int) : Option (List Int) := if 0 ≤ (l0.length : Int) then (if ((l0.length : Int) : Int).toNat ≤ 35184372088832 then (laws_toInt64S.l0 k l0 (List.replicate ((l0.length : Int) : Int).toNat 0) 0) else (none)) else (none)
theorem laws_toInt64S.mono_l : ∀ k, (∀ y0 y1 y2, LeO (laws_toInt64S.l0 k y0 y1 y2) (laws_toInt64S.l0 (k + 1) y0 y1 y2))
 | 0 => fun _ _ _ r h => by simp [laws_toInt64S.l0] at h
 | k + 1 => by
  have ih0 := laws_toInt64S.mono_l k
  ·
   intro y0 y1 y2
   unfold laws_toInt64S.l0
   repeat' (with_reducible first | exact ih0 _ _ _ | exact LeO.refl _ | exact LeO.none _ | refine LeO.ite ?_ ?_ | refine LeO.bind ?_ (fun _ => ?_))
theorem laws_toInt64S.mono : ∀ a0 k, LeO (laws_toInt64S.f k a0) (laws_toInt64S.f (k + 1) a0) := by
 intro a0 k
 have ih0 := laws_toInt64S.mono_l k
 unfold laws_toInt64S.f
 repeat' (with_reducible first | exact ih0 _ _ _ | exact LeO.refl _ | exact LeO.none _ | refine LeO.ite ?_ ?_ | refine LeO.bind ?_ (fun _ => ?_))
set_option maxHeartbeats 8000000 in
set_option maxRecDepth 100000 in
theorem laws_toInt64S.calls (k : Nat) (A0 : Option Addr) (c0 : Nat) (l0 : List Int) (r : List Int) (w : World) (hr0 : Kd.C (Kd.int .i64) w A0 l0.length l0) (hc0 : l0.length ≤ c0) (h : laws_toInt64S.f k l0 = some r) :
 Calls Try.prog 39 #[.slice A0 l0.length c0] w fun e w' => ∃ v0_ : Value, e = .returned (v0_) ∧ Kd.R (Kd.int .i64) 2 w' w.heap.size (fun _ => True) v0_ r ∧ Below w.heap.size w w' := by
 have HR0 := yD hr0
 have HC0 := yD hc0
 clear hr0 hc0
 have HB := yD (Below.refl w.heap.size w)
 have H : (if 0 ≤ (l0.length : Int) then (if ((l0.length : Int) : Int).toNat ≤ 35184372088832 then (laws_toInt64S.l0 k l0 (List.replicate ((l0.length : Int) : Int).toNat 0) 0) else (none)) else (none)) = some r := h
 clear h
 by_cases c2 : 0 ≤ (l0.length : Int)
 ·
  rw [if_pos c2] at H
  have c2b0 := eq_true c2
  have c2b1 : decide (0 ≤ (l0.length : Int)) = true := zR c2; clear c2
  by_cases c3 : ((l0.length : Int) : Int).toNat ≤ 35184372088832
  ·
   rw [if_pos c3] at H
   have c3b0 := eq_true c3
   have c3b1 : decide (((l0.length : Int) : Int).toNat ≤ 35184372088832) = true := zR c3
   clear c3
   obtain ⟨y111, hy111⟩ : ∃ y_ : List Int, y_ = (List.replicate ((l0.length : Int) : Int).toNat 0) := ⟨_, rfl⟩
   replace H : (laws_toInt64S.l0 k l0 y111 0) = some r := by first | (rw [hy111]; with_reducible exact H) | (have H2_ := (Option.bind_some _ _).symm.trans H; rw [hy111]; with_reducible exact H2_) | (have H2_ := (Option.bind_some _ _).symm.trans H; with_reducible exact H2_) | with_reducible exact H | (rw [hy111]; exact H) | exact H
   have Ny111 := yD hy111
   clear hy111
   have H' := yD H
   clear H; go_enter Try.func39, Try.ntmps39
   go_wp2_with (first | ((with_reducible refine gate_dst (N := 7) rfl ?_); refine Kd.R_make (Kd.int .i64) _ 2 rfl (N := 7) rfl 36 _ _ rfl (l0.length : Int) rfl rfl Try.underlying36 (.int .i64 0) 8 info2 rfl (by decide) (by omega) 0 (ok := fun _ => True) (okp := fun _ => True) rfl (fun _ hk => hk) trivial (zP (by assumption)) (Nat.le_trans (Nat.mul_le_mul_right _ (zP (by assumption) : (l0.length : Int).toNat ≤ 35184372088832)) (by omega)) (Below.refl _ _) (Nat.le_refl _) ?_; intro v112 w4 ho5 hb hg_ hnew_; clear hg_ hnew_; (first | rw [← Ny111.out] at ho5 | (simp only [Int.reduceToNat] at ho5; rw [← Ny111.out] at ho5)); have n0_ := yD (yZ ho5 (below_size (kB HB))); have n1_ := yD (zC (kB HB) hb); clear HB; have HO113 := n0_; have HB := n1_; clear n0_ n1_; clear hb ho5))
   (try simp only [Act.put, zH, zI, zJ])
   go_loopg [4] k (fun kq v4 w' => ∃ (x3_1 : List Int) (x4_1 : Int), v4 = .int .i64 x4_1 ∧ Aside0 (laws_toInt64S.l0 kq l0 x3_1 x4_1 = some r) ∧ Aside0 (kq ≤ k) ∧ Aside0 (Kd.R (Kd.int .i64) 2 w' w.heap.size (fun _ => True) v112 x3_1) ∧ Aside0 (Below w.heap.size w w'))
   case atStart => exact ⟨(y111), (0), (by first | rfl | (simp; done) | (simp [*]; done)), H', ⟨Nat.le_refl _⟩, ⟨by (with_reducible repeat (first | apply yA | apply yB | apply yC)); exact HO113.out⟩, ⟨kR1 HB⟩⟩
   case round =>
    clear H'
    try clear c2; try clear c2b0; try clear c2b1; try clear p2; try clear c3; try clear c3b0; try clear c3b1
    obtain ⟨x3_1, x4_1, rfl, HA, HK1, HO_3, HB⟩ := hrel
    cases gk with
    | zero => exact absurd HA.out (by simp [laws_toInt64S.l0])
    | succ k1 =>
     have H := HA.out; clear HA
     simp only [laws_toInt64S.l0] at H
     by_cases c6 : x4_1 < (l0.length : Int)
     ·
      rw [if_pos c6] at H; have c6b0 : decide (x4_1 < (l0.length : Int)) = true := zR c6; clear c6
      by_cases c7 : 0 ≤ x4_1
      ·
       rw [if_pos c7] at H; have c7b0 : decide (0 ≤ x4_1) = true := zR c7; clear c7
       by_cases c8 : x4_1 < (x3_1.length : Int)
       ·
        rw [if_pos c8] at H; have c8b0 : decide (x4_1 < (x3_1.length : Int)) = true := zR c8; clear c8
        obtain ⟨y115, hy115⟩ : ∃ y_ : List Int, y_ = (x3_1.set (x4_1 : Int).toNat (rd l0 x4_1)) := ⟨_, rfl⟩
        replace H : (laws_toInt64S.l0 k1 l0 y115 (wrap64 (x4_1 + 1))) = some r := by first | (rw [hy115]; with_reducible exact H) | (have H2_ := (Option.bind_some _ _).symm.trans H; rw [hy115]; with_reducible exact H2_) | (have H2_ := (Option.bind_some _ _).symm.trans H; with_reducible exact H2_) | with_reducible exact H | (rw [hy115]; exact H) | exact H
        have Ny115 := yD hy115
        clear hy115
        have H' := yD H
        clear H
        have p114 : 0 ≤ (x4_1 : Int) := zP (by assumption)
        have q114 : x4_1 < (l0.length : Int) := zP (by assumption)
        obtain ⟨ad114, e114, hx114_0⟩ := Kd.at_int HR0.out x4_1 p114 q114
        cases e114
        replace hx114_0 := (HB.out.cell (zQ w _ hx114_0)).trans hx114_0
        replace p114 := eq_true p114; replace q114 := eq_true q114
        have p9 : 0 ≤ (x4_1 : Int) := zP (by assumption)
        have q9 : (x4_1 : Int) < ((x3_1.length : Int) : Int) := zP (by assumption)
        obtain ⟨go9, co9, eo9, gb9, gl9, cl9, HG9⟩ := Kd.R_form HO_3.out (by omega)
        (first | cases eo9 | (injection eo9 with ea_ en_ ec_; (first | subst ea_ | (injection ea_ with ea_; subst ea_)); subst ec_; clear en_))
        have GB9 := yD gb9
        have GG9 := yD HG9
        clear gb9 gl9 HG9
        obtain ⟨hx9_0, hf9_0⟩ := Kd.R_celln 0 HO_3.out (x4_1 : Int) p9 q9
        replace p9 := eq_true p9; replace q9 := eq_true q9
        have HP10 := Kd.R_putg HO_3.out (x4_1 : Int) (rd l0 x4_1)
        go_wp2_with (first | ((with_reducible refine gate_store (t := 2) (p := 20) rfl ?_); refine store_event (t := 2) (p := 20) (v := ?vo_w11) (w1 := (wr.setCell ⟨go9, (x4_1 : Int).toNat, none⟩ (.int .i64 (rd l0 x4_1)))) ?hg ?ho ?hn ?hr ?_; (case ho => rfl); (case hg => rfl); (case hn => rfl); (case hr => first | (go_simp; done) | (go_simp; rfl)); intro w11 hw; have hg : wr.grownBy w11 (some go9) := (by rw [hw]; exact HP10.2); have hp_ : Kd.R (Kd.int .i64) 2 w11 w.heap.size (fun _ => True) (.slice (some ⟨go9, 0, none⟩) x3_1.length co9) y115 := (by rw [hw, Ny115.out]; exact HP10.1); clear HP10; have n0_ := yD (hp_); have n1_ := yD ((by rw [hw]; exact yE (HB.out) GB9.out : Below w.heap.size w w11)); clear HO_3; clear HB; have HO_3 := n0_; have HB := n1_; clear n0_ n1_; clear hg hw hp_))
        go_roundg k1
        case measure => have := HK1.out; omega
        case rel => exact ⟨(y115), (wrap64 (x4_1 + 1)), (by first | rfl | (simp; done) | (simp [*]; done)), H', ⟨by have := HK1.out; omega⟩, ⟨by (with_reducible repeat (first | apply yA | apply yB | apply yC)); exact HO_3.out⟩, ⟨kR1 HB⟩⟩
       ·
        rw [if_neg c8] at H
        exact absurd H (by simp)
      ·
       rw [if_neg c7] at H
       exact absurd H (by simp)
     ·
      rw [if_neg c6] at H; have c6b0 : decide (x4_1 < (l0.length : Int)) = false := zS c6; clear c6; obtain rfl := Option.some.inj H
      go_wp2
      go_ret
      exact ⟨_, by first | rfl | (simp <;> rfl) | (simp [*] <;> rfl), by (with_reducible repeat (first | apply yA | apply yB | apply yC)); exact HO_3.out, kR1 HB⟩
  ·
   rw [if_neg c3] at H
   exact absurd H (by simp)
 ·
  rw [if_neg c2] at H
  exact absurd H (by simp)

/-! ### laws_toPoint: function 113 -/
def laws_toPoint.f (k : Nat) (l0_0 : List Int) : Option (List Int) := (laws_toInt64S.f k l0_0).bind fun t119 => (some t119)
theorem laws_toPoint.mono : ∀ a0 k, LeO (laws_toPoint.f k a0) (laws_toPoint.f (k + 1) a0) := by
 intro a0 k
 unfold laws_toPoint.f
 repeat' (with_reducible first | exact laws_toInt64S.mono _ _ | exact LeO.refl _ | exact LeO.none _ | refine LeO.ite ?_ ?_ | refine LeO.bind ?_ (fun _ => ?_))
set_option maxHeartbeats 8000000 in
set_option maxRecDepth 100000 in
theorem laws_toPoint.calls (k : Nat) (A0_0 : Option Addr) (c0_0 : Nat) (l0_0 : List Int) (r : List Int) (w : World) (hr0_0 : Kd.C (Kd.int .i64) w A0_0 l0_0.length l0_0) (hc0_0 : l0_0.length ≤ c0_0) (h : laws_toPoint.f k l0_0 = some r) :
 Calls Try.prog 113 #[.agg #[.slice A0_0 l0_0.length c0_0]] w fun e w' => ∃ v0_ : Value, e = .returned (.agg #[v0_]) ∧ Kd.R (Kd.int .i64) 2 w' w.heap.size (fun _ => True) v0_ r ∧ Below w.heap.size w w' := by
 have hu107 := Try.underlying107; have hu110 := Try.underlying110
 have HR0_0 := yD hr0_0
 have HC0_0 := yD hc0_0
 clear hr0_0 hc0_0
 have HB := yD (Below.refl w.heap.size w)
 have H : ((laws_toInt64S.f k l0_0).bind fun t119 => (some t119)) = some r := h
 clear h
 obtain ⟨t119, A20, H⟩ := zW_ H
 replace H : (some t119) = some r := H
 have A2 := yD A20
 clear A20; obtain rfl := Option.some.inj H; go_enter Try.func113, Try.ntmps113
 go_wp2_with (first | ((with_reducible refine gate_dst (N := 1) rfl ?_); refine box_event ?hg (N := 1) ?hd (cs := #[.slice A0_0 l0_0.length c0_0]) (t := 107) ?hr ?_; (case hd => rfl); (case hg => rfl); (case hr => first | (go_simp; done) | (go_simp; rfl)); intro gb116 hg w3 hbox hb; have n0_ := yD (zC (kB HB) hb); have n1_ := yD (hbox); have n2_ := yD ((by rw [hg]; exact (below_size (kB HB)) : w.heap.size ≤ gb116)); have n3_ := yD ((by rw [hg]; exact (below_size (kB HB)) : w.heap.size ≤ gb116)); clear HB; have HB := n0_; have BK116 := n1_; have GW116 := n2_; have GE116 := n3_; clear n0_ n1_ n2_ n3_; clear hb hbox hg) | ((with_reducible refine gate_dst (N := 2) rfl ?_); refine box_event ?hg (N := 2) ?hd (cs := #[.slice none 0 0]) (t := 110) ?hr ?_; (case hd => rfl); (case hg => rfl); (case hr => first | (go_simp; done) | (go_simp; rfl)); intro gb117 hg w4 hbox hb; have n0_ := yD (zB (kN BK116) hb); have n1_ := yD (zC (kB HB) hb); have n2_ := yD (hbox); have n3_ := yD ((by rw [hg]; exact (below_size (kB HB)) : w.heap.size ≤ gb117)); have n4_ := yD ((by rw [hg]; exact (below_size (kB HB)) : w.heap.size ≤ gb117)); have n5_ := yD ((by rw [hg]; exact Nat.ne_of_lt (blk_lt (kN BK116)) : gb116 ≠ gb117)); have n6_ := yD ((by rw [hg]; exact Nat.ne_of_gt (blk_lt (kN BK116)) : gb117 ≠ gb116)); clear BK116; clear HB; have BK116 := n0_; have HB := n1_; have BK117 := n2_; have GW117 := n3_; have GE117 := n4_; have NB116_117 := n5_; have NB117_116 := n6_; clear n0_ n1_ n2_ n3_ n4_ n5_ n6_; clear hb hbox hg) | ((with_reducible refine gate_dst (N := 3) rfl ?_); refine box_event ?hg (N := 3) ?hd (cs := #[.slice none 0 0]) (t := 110) ?hr ?_; (case hd => rfl); (case hg => rfl); (case hr => first | (go_simp; done) | (go_simp; rfl)); intro gb118 hg w5 hbox hb; have n0_ := yD (zB (kN BK116) hb); have n1_ := yD (zB (kN BK117) hb); have n2_ := yD (zC (kB HB) hb); have n3_ := yD (hbox); have n4_ := yD ((by rw [hg]; exact (below_size (kB HB)) : w.heap.size ≤ gb118)); have n5_ := yD ((by rw [hg]; exact (below_size (kB HB)) : w.heap.size ≤ gb118)); have n6_ := yD ((by rw [hg]; exact Nat.ne_of_lt (blk_lt (kN BK116)) : gb116 ≠ gb118)); have n7_ := yD ((by rw [hg]; exact Nat.ne_of_gt (blk_lt (kN BK116)) : gb118 ≠ gb116)); have n8_ := yD ((by rw [hg]; exact Nat.ne_of_lt (blk_lt (kN BK117)) : gb117 ≠ gb118)); have n9_ := yD ((by rw [hg]; exact Nat.ne_of_gt (blk_lt (kN BK117)) : gb118 ≠ gb117)); clear BK116; clear BK117; clear HB; have BK116 := n0_; have BK117 := n1_; have HB := n2_; have BK118 := n3_; have GW118 := n4_; have GE118 := n5_; have NB116_118 := n6_; have NB118_116 := n7_; have NB117_118 := n8_; have NB118_117 := n9_; clear n0_ n1_ n2_ n3_ n4_ n5_ n6_ n7_ n8_ n9_; clear hb hbox hg; have hnb6 := NB116_117.out; have hnc6 := NB117_116.out; have hnb7 := NB116_118.out; have hnc7 := NB118_116.out; have hcz8_0 : w5.cell? ⟨gb116, 0, none⟩ = some (.slice A0_0 l0_0.length c0_0) := (yG BK116.out 0).trans rfl; have hfz8_0 := yR BK116.out 0) | ((with_reducible refine gate_callee (f := 39) rfl ?_); refine gL 6 Try.func39 #[.slice A0_0 l0_0.length c0_0] ?_; (with_reducible refine (laws_toInt64S.calls k _ _ l0_0 t119 _ ?side1 ?side2 A2.out).mono ?_); (case side1 => exact kV (yY HR0_0.out HB.out)); (case side2 => exact HC0_0.out); rintro e w9 ⟨v120, rfl, ho0, hb⟩; refine ⟨_, rfl, ?_⟩; have n0_ := yD (yZ ho0 (below_size (kB HB))); have n1_ := yD (zB (kN BK116) hb); have n2_ := yD (zB (kN BK117) hb); have n3_ := yD (zB (kN BK118) hb); have n4_ := yD (zC (kB HB) hb); clear BK116; clear BK117; clear BK118; clear HB; have HO121 := n0_; have BK116 := n1_; have BK117 := n2_; have BK118 := n3_; have HB := n4_; clear n0_ n1_ n2_ n3_ n4_; (try clear hb); (try clear hb2); (try clear hk); (try clear hi); (try clear ho0); obtain ⟨Ao10, co10, eo10⟩ := Kd.R_slice HO121.out; subst eo10; have hnb11 := NB118_117.out; have hnc11 := NB117_118.out; have hcz12_0 : w9.cell? ⟨gb118, 0, none⟩ = some (.slice none 0 0) := (yG BK118.out 0).trans rfl; have hfz12_0 := yR BK118.out 0; have hcz13_0 : w9.cell? ⟨gb117, 0, none⟩ = some (.slice none 0 0) := (yG BK117.out 0).trans rfl; have hfz13_0 := yR BK117.out 0))
 refine bodyPost_ret (results_cell_row rfl _ _ gb117 110 #[.slice Ao10 t119.length co10] (0, 0) _ rfl (by (with_reducible repeat (first | refine yM ?_ _ | refine yO ?_ | refine yN ?_ _)); refine blk_put (cs := #[.slice none 0 0]) ?_ 0 _ rfl; (with_reducible repeat (first | refine yM ?_ _ | refine yO ?_ | refine yN ?_ _)); refine blk_far ?_ NB117_118.out _; (with_reducible repeat (first | refine yM ?_ _ | refine yO ?_ | refine yN ?_ _)); exact BK117.out) Try.underlying110 rfl (by kernel_rfl)) rfl ?_
 exact ⟨_, by first | rfl | (simp <;> rfl) | (simp [*] <;> rfl), by (with_reducible repeat (first | apply yA | apply yB | apply yC)); exact zF (yF (p := ⟨gb117, 0, none⟩) (yF (p := ⟨gb118, 0, none⟩) (Kd.R_types (Kd.R_types HO121.out BK118.out (by decide)) BK117.out (by decide)) (fun _ hk => hk.1.2) (.slice Ao10 t119.length co10)) (fun _ hk => hk.2) (.slice Ao10 t119.length co10)) (fun _ hk => trivial), kR0 HB⟩

/-! ### laws_toPointS: function 79 -/
def laws_toPointS.l0 : Nat → List (S107) → List (S110) → Int → Option ((List (S110)))
 | 0, _, _, _ => none
 | k + 1, x0, x3, x4 => if x4 < (x0.length : Int) then (if 0 ≤ x4 then ((laws_toPoint.f k ((rd_T107 x0 x4).f0)).bind fun t126 => (if x4 < (x3.length : Int) then (laws_toPointS.l0 k x0 (x3.set (x4 : Int).toNat (⟨t126⟩ : S110)) (wrap64 (x4 + 1))) else (none))) else (none)) else (some x3)
def laws_toPointS.f (k : Nat) (l0 : List (S107)) : Option ((List (S110))) := if 0 ≤ (l0.length : Int) then (if ((l0.length : Int) : Int).toNat ≤ 11728124029610 then (laws_toPointS.l0 k l0 (List.replicate ((l0.length : Int) : Int).toNat z110) 0) else (none)) else (none)
theorem laws_toPointS.mono_l : ∀ k, (∀ y0 y1 y2, LeO (laws_toPointS.l0 k y0 y1 y2) (laws_toPointS.l0 (k + 1) y0 y1 y2))
 | 0 => fun _ _ _ r h => by simp [laws_toPointS.l0] at h
 | k + 1 => by
  have ih0 := laws_toPointS.mono_l k
  ·
   intro y0 y1 y2
   unfold laws_toPointS.l0
   repeat' (with_reducible first | exact ih0 _ _ _ | exact laws_toPoint.mono _ _ | exact LeO.refl _ | exact LeO.none _ | refine LeO.ite ?_ ?_ | refine LeO.bind ?_ (fun _ => ?_))
theorem laws_toPointS.mono : ∀ a0 k, LeO (laws_toPointS.f k a0) (laws_toPointS.f (k + 1) a0) := by
 intro a0 k
 have ih0 := laws_toPointS.mono_l k
 unfold laws_toPointS.f
 repeat' (with_reducible first | exact ih0 _ _ _ | exact laws_toPoint.mono _ _ | exact LeO.refl _ | exact LeO.none _ | refine LeO.ite ?_ ?_ | refine LeO.bind ?_ (fun _ => ?_))
set_option maxHeartbeats 8000000 in
set_option maxRecDepth 100000 in
theorem laws_toPointS.calls (k : Nat) (A0 : Option Addr) (c0 : Nat) (l0 : List (S107)) (r : List (S110)) (w : World) (hr0 : Kd.C k107 w A0 l0.length l0) (hc0 : l0.length ≤ c0) (h : laws_toPointS.f k l0 = some r) :
 Calls Try.prog 79 #[.slice A0 l0.length c0] w fun e w' => ∃ v0_ : Value, e = .returned (v0_) ∧ Kd.S k110 110 w' w.heap.size (fun _ => True) v0_ r ∧ Below w.heap.size w w' := by
 have hu107 := Try.underlying107; have hu110 := Try.underlying110
 have HR0 := yD hr0
 have HC0 := yD hc0
 clear hr0 hc0
 have HB := yD (Below.refl w.heap.size w)
 have H : (if 0 ≤ (l0.length : Int) then (if ((l0.length : Int) : Int).toNat ≤ 11728124029610 then (laws_toPointS.l0 k l0 (List.replicate ((l0.length : Int) : Int).toNat z110) 0) else (none)) else (none)) = some r := h
 clear h
 by_cases c2 : 0 ≤ (l0.length : Int)
 ·
  rw [if_pos c2] at H
  have c2b0 := eq_true c2
  have c2b1 : decide (0 ≤ (l0.length : Int)) = true := zR c2; clear c2
  by_cases c3 : ((l0.length : Int) : Int).toNat ≤ 11728124029610
  ·
   rw [if_pos c3] at H
   have c3b0 := eq_true c3
   have c3b1 : decide (((l0.length : Int) : Int).toNat ≤ 11728124029610) = true := zR c3
   clear c3
   obtain ⟨y122, hy122⟩ : ∃ y_ : List (S110), y_ = (List.replicate ((l0.length : Int) : Int).toNat z110) := ⟨_, rfl⟩
   replace H : (laws_toPointS.l0 k l0 y122 0) = some r := by first | (rw [hy122]; with_reducible exact H) | (have H2_ := (Option.bind_some _ _).symm.trans H; rw [hy122]; with_reducible exact H2_) | (have H2_ := (Option.bind_some _ _).symm.trans H; with_reducible exact H2_) | with_reducible exact H | (rw [hy122]; exact H) | exact H
   have Ny122 := yD hy122
   clear hy122
   have H' := yD H
   clear H; go_enter Try.func79, Try.ntmps79
   go_wp2_with (first | ((with_reducible refine gate_dst (N := 7) rfl ?_); refine Kd.S_make k110 _ 110 rfl (N := 7) rfl 53 _ _ rfl (l0.length : Int) rfl rfl Try.underlying53 (.agg #[(.slice none 0 0)]) 24 info110 rfl (by decide) (by omega) z110 (ok := fun _ => True) (okp := fun _ => True) (k110_mkM _ _ _ z110 (Kd.R_nil _ _ _ _ _)) (fun _ hk => hk) trivial (zP (by assumption)) (Nat.le_trans (Nat.mul_le_mul_right _ (zP (by assumption) : (l0.length : Int).toNat ≤ 11728124029610)) (by omega)) (Below.refl _ _) (Nat.le_refl _) ?_; intro v123 w4 ho5 hb hg_ hnew_; clear hg_ hnew_; (first | rw [← Ny122.out] at ho5 | (simp only [Int.reduceToNat] at ho5; rw [← Ny122.out] at ho5)); have n0_ := yD (zG ho5 (below_size (kB HB))); have n1_ := yD (zC (kB HB) hb); clear HB; have HO124 := n0_; have HB := n1_; clear n0_ n1_; clear hb ho5))
   (try simp only [Act.put, zH, zI, zJ])
   go_loopg [4] k (fun kq v4 w' => ∃ (x3_1 : List (S110)) (x4_1 : Int), v4 = .int .i64 x4_1 ∧ Aside0 (laws_toPointS.l0 kq l0 x3_1 x4_1 = some r) ∧ Aside0 (kq ≤ k) ∧ Aside0 (Kd.S k110 110 w' w.heap.size (fun _ => True) v123 x3_1) ∧ Aside0 (Below w.heap.size w w'))
   case atStart => exact ⟨(y122), (0), (by first | rfl | (simp; done) | (simp [*]; done)), H', ⟨Nat.le_refl _⟩, ⟨by (with_reducible repeat (first | apply yS | apply yT | apply yU)); exact HO124.out⟩, ⟨kR1 HB⟩⟩
   case round =>
    clear H'
    try clear c2; try clear c2b0; try clear c2b1; try clear p2; try clear c3; try clear c3b0; try clear c3b1
    obtain ⟨x3_1, x4_1, rfl, HA, HK1, HO_3, HB⟩ := hrel
    cases gk with
    | zero => exact absurd HA.out (by simp [laws_toPointS.l0])
    | succ k1 =>
     have H := HA.out; clear HA
     simp only [laws_toPointS.l0] at H
     by_cases c6 : x4_1 < (l0.length : Int)
     ·
      rw [if_pos c6] at H; have c6b0 : decide (x4_1 < (l0.length : Int)) = true := zR c6; clear c6
      by_cases c7 : 0 ≤ x4_1
      ·
       rw [if_pos c7] at H; have c7b0 : decide (0 ≤ x4_1) = true := zR c7; clear c7
       obtain ⟨t126, A80, H⟩ := zW_ H
       replace H : (if x4_1 < (x3_1.length : Int) then (laws_toPointS.l0 k1 l0 (x3_1.set (x4_1 : Int).toNat (⟨t126⟩ : S110)) (wrap64 (x4_1 + 1))) else (none)) = some r := H
       have A8 := yD A80
       clear A80
       by_cases c9 : x4_1 < (x3_1.length : Int)
       ·
        rw [if_pos c9] at H; have c9b0 : decide (x4_1 < (x3_1.length : Int)) = true := zR c9; clear c9
        obtain ⟨y129, hy129⟩ : ∃ y_ : List (S110), y_ = (x3_1.set (x4_1 : Int).toNat (⟨t126⟩ : S110)) := ⟨_, rfl⟩
        replace H : (laws_toPointS.l0 k1 l0 y129 (wrap64 (x4_1 + 1))) = some r := by first | (rw [hy129]; with_reducible exact H) | (have H2_ := (Option.bind_some _ _).symm.trans H; rw [hy129]; with_reducible exact H2_) | (have H2_ := (Option.bind_some _ _).symm.trans H; with_reducible exact H2_) | with_reducible exact H | (rw [hy129]; exact H) | exact H
        have Ny129 := yD hy129
        clear hy129
        have H' := yD H
        clear H
        have p125 : 0 ≤ (x4_1 : Int) := zP (by assumption)
        have q125 : x4_1 < (l0.length : Int) := zP (by assumption)
        obtain ⟨ad125, A125_0, c125_0, e125, hx125_0, hl125_0, hi125_0⟩ := at_T107 HR0.out x4_1 p125 q125
        cases e125
        replace hx125_0 := (HB.out.cell (zQ w _ hx125_0)).trans hx125_0
        have HR125_0 := yD hi125_0
        have HC125_0 := yD hl125_0
        clear hi125_0 hl125_0; replace p125 := eq_true p125; replace q125 := eq_true q125
        go_wp2_with (first | ((with_reducible refine gate_callee (f := 113) rfl ?_); refine gL 20 Try.func113 #[.agg #[.slice A125_0 ((rd_T107 l0 x4_1).f0).length c125_0]] ?_; (with_reducible refine (laws_toPoint.calls k1 _ _ ((rd_T107 l0 x4_1).f0) t126 _ ?side1 ?side2 A8.out).mono ?_); (case side1 => exact kV (yY HR125_0.out HB.out)); (case side2 => exact HC125_0.out); rintro e w11 ⟨v127, rfl, ho0, hb⟩; refine ⟨_, rfl, ?_⟩; have n0_ := yD (Kd.S_elder' (by (with_reducible repeat (first | apply yS | apply yT | apply yU)); exact HO_3.out) (yH ho0) hb); have n1_ := yD (yZ ho0 (below_size (kB HB))); have n2_ := yD (zC (kB HB) hb); clear HO_3; clear HB; have HO_3 := n0_; have HO128 := n1_; have HB := n2_; clear n0_ n1_ n2_; (try clear hb); (try clear hb2); (try clear hk); (try clear hi); (try clear ho0); have p10 : 0 ≤ (x4_1 : Int) := zP (by assumption); have q10 : (x4_1 : Int) < ((x3_1.length : Int) : Int) := zP (by assumption); obtain ⟨go10, co10, eo10, gb10, gl10, cl10, HG10⟩ := Kd.S_form HO_3.out (by omega); (first | cases eo10 | (injection eo10 with ea_ en_ ec_; (first | subst ea_ | (injection ea_ with ea_; subst ea_)); subst ec_; clear en_)); have GB10 := yD gb10; have GG10 := yD HG10; clear gb10 gl10 HG10; obtain ⟨_, ce10, hcl10, hM10, hcc10, hfr10, _, _⟩ := Kd.S_elem HO_3.out z110 (x4_1 : Int) p10 q10; obtain ⟨ve10_0, rfl, ge10_0⟩ := k110_openM hM10; have hx10_0 := hcc10 0 _ rfl; have hf10_0 := hfr10 0; (try simp only [show (k110).sz = 1 from rfl, Nat.mul_one, Nat.add_zero] at hx10_0); (try simp only [show (k110).sz = 1 from rfl, Nat.mul_one, Nat.add_zero] at hf10_0); clear hcl10 hcc10 hfr10 hM10; replace p10 := eq_true p10; replace q10 := eq_true q10; obtain ⟨Ao14, co14, eo14⟩ := Kd.R_slice HO128.out; subst eo14; have n_ := yD (Kd.S_mono (ok' := (fun k_ => some k_ ≠ (.slice Ao14 t126.length co14 : Value).ownBlock)) HO_3.out (fun k_ hk => hk.2)); clear HO_3; have HO_3 := n_; clear n_; have HX12 := yD (show Kd.S k110 110 w11 w.heap.size (fun k_ => ((fun _ => True)) k_ ∧ ¬ ((fun k_ => some k_ = (.slice Ao14 t126.length co14 : Value).ownBlock)) k_) (.slice (some ⟨go10, 0, none⟩) x3_1.length co10) x3_1 from (by (with_reducible repeat (first | apply yS | apply yT | apply yU)); exact Kd.S_mono HO_3.out (fun k_ hk => ⟨trivial, fun e_ => hk e_⟩))); obtain ⟨oki12, ce12, hcl12, hM12, hcc12, hfr12, hoki12, hH12⟩ := Kd.S_elem HX12.out z110 (x4_1 : Int) (zP (by assumption)) (by have h_ : (x4_1 : Int) < ((x3_1.length : Int) : Int) := zP (by assumption); first | exact h_ | (have e_ := (Kd.S_reads' HO_3.out).1; omega) | simpa using h_); obtain ⟨ve12_0, rfl, ge12_0⟩ := k110_openM hM12; have HP12 := Kd.S_seg hH12 (zP (by assumption)) (by have h_ : (x4_1 : Int) < ((x3_1.length : Int) : Int) := zP (by assumption); first | exact h_ | (have e_ := (Kd.S_reads' HO_3.out).1; omega) | simpa using h_) (seg := [.slice Ao14 t126.length co14]) (j := 0) (show 1 ≤ 1 from by decide) (x' := (⟨t126⟩ : S110)) (k110_mkM _ _ _ (⟨t126⟩ : S110) (zF (Kd.R_tight rfl (zF (ok' := fun k_ => ((fun _ => True)) k_ ∧ k_ ≠ go10) (Kd.R_apart' (HO128.out) (Kd.S_typed HO_3.out) (by decide)) (fun k_ hk => ⟨trivial, fun e_ => (hk.2) (by rw [e_]; rfl)⟩))) (fun _ h_ => Or.inr (h_)))) (fun _ hk => hk) (fun k_ hk_ => ((zF (ok' := fun k_ => ((fun _ => True)) k_ ∧ k_ ≠ go10) (Kd.R_apart' (HO128.out) (Kd.S_typed HO_3.out) (by decide)) (fun k_ hk => ⟨trivial, fun e_ => (hk.2) (by rw [e_]; rfl)⟩))).1 k_ hk_.symm); have hx12_0 := hcc12 0 _ rfl; (try simp only [show (k110).sz = 1 from rfl, Nat.mul_one, Nat.add_zero] at hx12_0); have hf12_0 := hfr12 0; (try simp only [show (k110).sz = 1 from rfl, Nat.mul_one, Nat.add_zero] at hf12_0); clear hcl12 hcc12 hfr12 hM12 hoki12 hH12; (try simp only [show (k110).sz = 1 from rfl, Nat.mul_one, Nat.add_zero] at HP12)) | ((with_reducible refine gate_store (t := 110) (p := 21) rfl ?_); refine store_event (t := 110) (p := 21) (v := ?vo_w13) (w1 := (w11.setCell ⟨go10, (x4_1 : Int).toNat, none⟩ (.slice Ao14 t126.length co14))) ?hg ?ho ?hn ?hr ?_; (case ho => rfl); (case hg => rfl); (case hn => rfl); (case hr => first | (go_simp; done) | (go_simp; rfl)); intro w13 hw; have hg : w11.grownBy w13 (some go10) := (by rw [hw]; exact HP12.2); have hp_ : Kd.S k110 110 w13 w.heap.size (fun _ => True) (.slice (some ⟨go10, 0, none⟩) x3_1.length co10) y129 := (by rw [hw, Ny129.out]; exact HP12.1); clear HP12; have n0_ := yD (hp_); have n1_ := yD ((by rw [hw]; exact yE (HB.out) GB10.out : Below w.heap.size w w13)); clear HO_3; clear HB; clear HO128; have HO_3 := n0_; have HB := n1_; clear n0_ n1_; clear hg hw hp_))
        go_roundg k1
        case measure => have := HK1.out; omega
        case rel => exact ⟨(y129), (wrap64 (x4_1 + 1)), (by first | rfl | (simp; done) | (simp [*]; done)), H', ⟨by have := HK1.out; omega⟩, ⟨by (with_reducible repeat (first | apply yS | apply yT | apply yU)); exact HO_3.out⟩, ⟨kR1 HB⟩⟩
       ·
        rw [if_neg c9] at H
        exact absurd H (by simp)
      ·
       rw [if_neg c7] at H
       exact absurd H (by simp)
     ·
      rw [if_neg c6] at H; have c6b0 : decide (x4_1 < (l0.length : Int)) = false := zS c6; clear c6; obtain rfl := Option.some.inj H
      go_wp2
      go_ret
      exact ⟨_, by first | rfl | (simp <;> rfl) | (simp [*] <;> rfl), by (with_reducible repeat (first | apply yS | apply yT | apply yU)); exact HO_3.out, kR1 HB⟩
  ·
   rw [if_neg c3] at H
   exact absurd H (by simp)
 ·
  rw [if_neg c2] at H
  exact absurd H (by simp)

/-! ### laws_toSelection: function 40 -/
def laws_toSelection.f (k : Nat) (a0_0 : Int) (l0_1 : List Int) (l0_2 : List Int) (l0_3 : List Int) (l0_4 : List Int) (l0_5 : List (S107)) : Option (Int × List Int × List Int × List Int × List Int × (List (S110))) := (laws_toInt64S.f k l0_1).bind fun t133 => ((laws_toInt64S.f k l0_2).bind fun t136 => ((laws_toInt64S.f k l0_3).bind fun t139 => ((laws_toInt64S.f k l0_4).bind fun t142 => ((laws_toPointS.f k l0_5).bind fun t145 => (some (a0_0, t133, t136, t139, t142, t145))))))
theorem laws_toSelection.mono : ∀ a0 a1 a2 a3 a4 a5 k, LeO (laws_toSelection.f k a0 a1 a2 a3 a4 a5) (laws_toSelection.f (k + 1) a0 a1 a2 a3 a4 a5) := by
 intro a0 a1 a2 a3 a4 a5 k
 unfold laws_toSelection.f
 repeat' (with_reducible first | exact laws_toInt64S.mono _ _ | exact laws_toPointS.mono _ _ | exact LeO.refl _ | exact LeO.none _ | refine LeO.ite ?_ ?_ | refine LeO.bind ?_ (fun _ => ?_))
set_option maxHeartbeats 8000000 in
set_option maxRecDepth 100000 in
theorem laws_toSelection.calls (k : Nat) (a0_0 : Int) (A0_1 : Option Addr) (c0_1 : Nat) (l0_1 : List Int) (A0_2 : Option Addr) (c0_2 : Nat) (l0_2 : List Int) (A0_3 : Option Addr) (c0_3 : Nat) (l0_3 : List Int) (A0_4 : Option Addr) (c0_4 : Nat) (l0_4 : List Int) (A0_5 : Option Addr) (c0_5 : Nat) (l0_5 : List (S107)) (r1 : Int) (r2 : List Int) (r3 : List Int) (r4 : List Int) (r5 : List Int) (r6 : List (S110)) (w : World) (hr0_1 : Kd.C (Kd.int .i64) w A0_1 l0_1.length l0_1) (hc0_1 : l0_1.length ≤ c0_1) (hr0_2 : Kd.C (Kd.int .i64) w A0_2 l0_2.length l0_2) (hc0_2 : l0_2.length ≤ c0_2) (hr0_3 : Kd.C (Kd.int .i64) w A0_3 l0_3.length l0_3) (hc0_3 : l0_3.length ≤ c0_3) (hr0_4 : Kd.C (Kd.int .i64) w A0_4 l0_4.length l0_4) (hc0_4 : l0_4.length ≤ c0_4) (hr0_5 : Kd.C k107 w A0_5 l0_5.length l0_5) (hc0_5 : l0_5.length ≤ c0_5) (h : laws_toSelection.f k a0_0 l0_1 l0_2 l0_3 l0_4 l0_5 = some (r1, r2, r3, r4, r5, r6)) :
 Calls Try.prog 40 #[.agg #[.int .i64 a0_0, .slice A0_1 l0_1.length c0_1, .slice A0_2 l0_2.length c0_2, .slice A0_3 l0_3.length c0_3, .slice A0_4 l0_4.length c0_4, .slice A0_5 l0_5.length c0_5]] w fun e w' => ∃ v1_ v2_ v3_ v4_ v5_ : Value, e = .returned (.agg #[.int .i64 r1, v1_, v2_, v3_, v4_, v5_]) ∧ Kd.R (Kd.int .i64) 2 w' w.heap.size (fun k_ => some k_ ≠ (v2_ : Value).ownBlock ∧ some k_ ≠ (v3_ : Value).ownBlock ∧ some k_ ≠ (v4_ : Value).ownBlock) v1_ r2 ∧ Kd.R (Kd.int .i64) 2 w' w.heap.size (fun k_ => some k_ ≠ (v1_ : Value).ownBlock ∧ some k_ ≠ (v3_ : Value).ownBlock ∧ some k_ ≠ (v4_ : Value).ownBlock) v2_ r3 ∧ Kd.R (Kd.int .i64) 2 w' w.heap.size (fun k_ => some k_ ≠ (v1_ : Value).ownBlock ∧ some k_ ≠ (v2_ : Value).ownBlock ∧ some k_ ≠ (v4_ : Value).ownBlock) v3_ r4 ∧ Kd.R (Kd.int .i64) 2 w' w.heap.size (fun k_ => some k_ ≠ (v1_ : Value).ownBlock ∧ some k_ ≠ (v2_ : Value).ownBlock ∧ some k_ ≠ (v3_ : Value).ownBlock) v4_ r5 ∧ Kd.S k110 110 w' w.heap.size (fun k_ => some k_ ≠ (v1_ : Value).ownBlock ∧ some k_ ≠ (v2_ : Value).ownBlock ∧ some k_ ≠ (v3_ : Value).ownBlock ∧ some k_ ≠ (v4_ : Value).ownBlock) v5_ r6 ∧ Below w.heap.size w w' := by
 have hu49 := Try.underlying49; have hu55 := Try.underlying55
 have HR0_1 := yD hr0_1
 have HC0_1 := yD hc0_1
 clear hr0_1 hc0_1
 have HR0_2 := yD hr0_2
 have HC0_2 := yD hc0_2
 clear hr0_2 hc0_2
 have HR0_3 := yD hr0_3
 have HC0_3 := yD hc0_3
 clear hr0_3 hc0_3
 have HR0_4 := yD hr0_4
 have HC0_4 := yD hc0_4
 clear hr0_4 hc0_4
 have HR0_5 := yD hr0_5
 have HC0_5 := yD hc0_5
 clear hr0_5 hc0_5
 have HB := yD (Below.refl w.heap.size w)
 have H : ((laws_toInt64S.f k l0_1).bind fun t133 => ((laws_toInt64S.f k l0_2).bind fun t136 => ((laws_toInt64S.f k l0_3).bind fun t139 => ((laws_toInt64S.f k l0_4).bind fun t142 => ((laws_toPointS.f k l0_5).bind fun t145 => (some (a0_0, t133, t136, t139, t142, t145))))))) = some (r1, r2, r3, r4, r5, r6) := h
 clear h
 obtain ⟨t133, A20, H⟩ := zW_ H
 replace H : ((laws_toInt64S.f k l0_2).bind fun t136 => ((laws_toInt64S.f k l0_3).bind fun t139 => ((laws_toInt64S.f k l0_4).bind fun t142 => ((laws_toPointS.f k l0_5).bind fun t145 => (some (a0_0, t133, t136, t139, t142, t145)))))) = some (r1, r2, r3, r4, r5, r6) := H
 have A2 := yD A20
 clear A20
 obtain ⟨t136, A30, H⟩ := zW_ H
 replace H : ((laws_toInt64S.f k l0_3).bind fun t139 => ((laws_toInt64S.f k l0_4).bind fun t142 => ((laws_toPointS.f k l0_5).bind fun t145 => (some (a0_0, t133, t136, t139, t142, t145))))) = some (r1, r2, r3, r4, r5, r6) := H
 have A3 := yD A30
 clear A30
 obtain ⟨t139, A40, H⟩ := zW_ H
 replace H : ((laws_toInt64S.f k l0_4).bind fun t142 => ((laws_toPointS.f k l0_5).bind fun t145 => (some (a0_0, t133, t136, t139, t142, t145)))) = some (r1, r2, r3, r4, r5, r6) := H
 have A4 := yD A40
 clear A40
 obtain ⟨t142, A50, H⟩ := zW_ H
 replace H : ((laws_toPointS.f k l0_5).bind fun t145 => (some (a0_0, t133, t136, t139, t142, t145))) = some (r1, r2, r3, r4, r5, r6) := H
 have A5 := yD A50
 clear A50
 obtain ⟨t145, A60, H⟩ := zW_ H
 replace H : (some (a0_0, t133, t136, t139, t142, t145)) = some (r1, r2, r3, r4, r5, r6) := H
 have A6 := yD A60
 clear A60
 simp only [Option.some.injEq, Prod.mk.injEq] at H
 obtain ⟨rfl, rfl, rfl, rfl, rfl, rfl⟩ := H
 go_enter Try.func40, Try.ntmps40
 go_wp2_with (first | ((with_reducible refine gate_dst (N := 1) rfl ?_); refine box_event ?hg (N := 1) ?hd (cs := #[.int .i64 a0_0, .slice A0_1 l0_1.length c0_1, .slice A0_2 l0_2.length c0_2, .slice A0_3 l0_3.length c0_3, .slice A0_4 l0_4.length c0_4, .slice A0_5 l0_5.length c0_5]) (t := 49) ?hr ?_; (case hd => rfl); (case hg => rfl); (case hr => first | (go_simp; done) | (go_simp; rfl)); intro gb130 hg w7 hbox hb; have n0_ := yD (zC (kB HB) hb); have n1_ := yD (hbox); have n2_ := yD ((by rw [hg]; exact (below_size (kB HB)) : w.heap.size ≤ gb130)); have n3_ := yD ((by rw [hg]; exact (below_size (kB HB)) : w.heap.size ≤ gb130)); clear HB; have HB := n0_; have BK130 := n1_; have GW130 := n2_; have GE130 := n3_; clear n0_ n1_ n2_ n3_; clear hb hbox hg) | ((with_reducible refine gate_dst (N := 2) rfl ?_); refine box_event ?hg (N := 2) ?hd (cs := #[.int .i64 0, .slice none 0 0, .slice none 0 0, .slice none 0 0, .slice none 0 0, .slice none 0 0]) (t := 55) ?hr ?_; (case hd => rfl); (case hg => rfl); (case hr => first | (go_simp; done) | (go_simp; rfl)); intro gb131 hg w8 hbox hb; have n0_ := yD (zB (kN BK130) hb); have n1_ := yD (zC (kB HB) hb); have n2_ := yD (hbox); have n3_ := yD ((by rw [hg]; exact (below_size (kB HB)) : w.heap.size ≤ gb131)); have n4_ := yD ((by rw [hg]; exact (below_size (kB HB)) : w.heap.size ≤ gb131)); have n5_ := yD ((by rw [hg]; exact Nat.ne_of_lt (blk_lt (kN BK130)) : gb130 ≠ gb131)); have n6_ := yD ((by rw [hg]; exact Nat.ne_of_gt (blk_lt (kN BK130)) : gb131 ≠ gb130)); clear BK130; clear HB; have BK130 := n0_; have HB := n1_; have BK131 := n2_; have GW131 := n3_; have GE131 := n4_; have NB130_131 := n5_; have NB131_130 := n6_; clear n0_ n1_ n2_ n3_ n4_ n5_ n6_; clear hb hbox hg) | ((with_reducible refine gate_dst (N := 3) rfl ?_); refine box_event ?hg (N := 3) ?hd (cs := #[.int .i64 0, .slice none 0 0, .slice none 0 0, .slice none 0 0, .slice none 0 0, .slice none 0 0]) (t := 55) ?hr ?_; (case hd => rfl); (case hg => rfl); (case hr => first | (go_simp; done) | (go_simp; rfl)); intro gb132 hg w9 hbox hb; have n0_ := yD (zB (kN BK130) hb); have n1_ := yD (zB (kN BK131) hb); have n2_ := yD (zC (kB HB) hb); have n3_ := yD (hbox); have n4_ := yD ((by rw [hg]; exact (below_size (kB HB)) : w.heap.size ≤ gb132)); have n5_ := yD ((by rw [hg]; exact (below_size (kB HB)) : w.heap.size ≤ gb132)); have n6_ := yD ((by rw [hg]; exact Nat.ne_of_lt (blk_lt (kN BK130)) : gb130 ≠ gb132)); have n7_ := yD ((by rw [hg]; exact Nat.ne_of_gt (blk_lt (kN BK130)) : gb132 ≠ gb130)); have n8_ := yD ((by rw [hg]; exact Nat.ne_of_lt (blk_lt (kN BK131)) : gb131 ≠ gb132)); have n9_ := yD ((by rw [hg]; exact Nat.ne_of_gt (blk_lt (kN BK131)) : gb132 ≠ gb131)); clear BK130; clear BK131; clear HB; have BK130 := n0_; have BK131 := n1_; have HB := n2_; have BK132 := n3_; have GW132 := n4_; have GE132 := n5_; have NB130_132 := n6_; have NB132_130 := n7_; have NB131_132 := n8_; have NB132_131 := n9_; clear n0_ n1_ n2_ n3_ n4_ n5_ n6_ n7_ n8_ n9_; clear hb hbox hg; have hnb10 := NB130_131.out; have hnc10 := NB131_130.out; have hnb11 := NB130_132.out; have hnc11 := NB132_130.out; obtain ⟨hcz12_0, hcz12_1, hcz12_2, hcz12_3, hcz12_4, hcz12_5⟩ := cz6 BK130.out; obtain ⟨hfz12_0, hfz12_1, hfz12_2, hfz12_3, hfz12_4, hfz12_5⟩ := fz6 BK130.out; have hnb13 := NB132_131.out; have hnc13 := NB131_132.out; obtain ⟨hcz14_0, hcz14_1, hcz14_2, hcz14_3, hcz14_4, hcz14_5⟩ := cz6 BK132.out; obtain ⟨hfz14_0, hfz14_1, hfz14_2, hfz14_3, hfz14_4, hfz14_5⟩ := fz6 BK132.out) | ((with_reducible refine gate_callee (f := 39) rfl ?_); refine gL 9 Try.func39 #[.slice A0_1 l0_1.length c0_1] ?_; (with_reducible refine (laws_toInt64S.calls k _ _ l0_1 t133 _ ?side1 ?side2 A2.out).mono ?_); (case side1 => exact yY HR0_1.out (kB HB)); (case side2 => exact HC0_1.out); rintro e w15 ⟨v134, rfl, ho0, hb⟩; refine ⟨_, rfl, ?_⟩; have n0_ := yD (yZ ho0 (below_size (kB HB))); have n1_ := yD (zB (g := gb130) (o := .cells #[.int .i64 a0_0, .slice A0_1 l0_1.length c0_1, .slice A0_2 l0_2.length c0_2, .slice A0_3 l0_3.length c0_3, .slice A0_4 l0_4.length c0_4, .slice A0_5 l0_5.length c0_5] 49 (0, 0)) (by (with_reducible repeat (first | refine yM ?_ _ | refine yO ?_ | refine yN ?_ _)); refine blk_far ?_ NB130_132.out _; (with_reducible repeat (first | refine yM ?_ _ | refine yO ?_ | refine yN ?_ _)); exact BK130.out) hb); have n2_ := yD (zB (g := gb131) (o := .cells #[.int .i64 0, .slice none 0 0, .slice none 0 0, .slice none 0 0, .slice none 0 0, .slice none 0 0] 55 (0, 0)) (by (with_reducible repeat (first | refine yM ?_ _ | refine yO ?_ | refine yN ?_ _)); refine blk_far ?_ NB131_132.out _; (with_reducible repeat (first | refine yM ?_ _ | refine yO ?_ | refine yN ?_ _)); exact BK131.out) hb); have n3_ := yD (zB (g := gb132) (o := .cells #[.int .i64 a0_0, .slice none 0 0, .slice none 0 0, .slice none 0 0, .slice none 0 0, .slice none 0 0] 55 (0, 0)) (by (with_reducible repeat (first | refine yM ?_ _ | refine yO ?_ | refine yN ?_ _)); refine blk_put (cs := #[.int .i64 0, .slice none 0 0, .slice none 0 0, .slice none 0 0, .slice none 0 0, .slice none 0 0]) ?_ 0 _ rfl; (with_reducible repeat (first | refine yM ?_ _ | refine yO ?_ | refine yN ?_ _)); exact BK132.out) hb); have n4_ := yD (zC (kB HB) hb); clear BK130; clear BK131; clear BK132; clear HB; have HO135 := n0_; have BK130 := n1_; have BK131 := n2_; have BK132 := n3_; have HB := n4_; clear n0_ n1_ n2_ n3_ n4_; (try clear hb); (try clear hb2); (try clear hk); (try clear hi); (try clear ho0); obtain ⟨Ao16, co16, eo16⟩ := Kd.R_slice HO135.out; subst eo16; obtain ⟨hcz17_0, hcz17_1, hcz17_2, hcz17_3, hcz17_4, hcz17_5⟩ := cz6 BK132.out; obtain ⟨hfz17_0, hfz17_1, hfz17_2, hfz17_3, hfz17_4, hfz17_5⟩ := fz6 BK132.out; obtain ⟨hcz18_0, hcz18_1, hcz18_2, hcz18_3, hcz18_4, hcz18_5⟩ := cz6 BK130.out; obtain ⟨hfz18_0, hfz18_1, hfz18_2, hfz18_3, hfz18_4, hfz18_5⟩ := fz6 BK130.out) | ((with_reducible refine gate_callee (f := 39) rfl ?_); refine gL 13 Try.func39 #[.slice A0_2 l0_2.length c0_2] ?_; (with_reducible refine (laws_toInt64S.calls k _ _ l0_2 t136 _ ?side1 ?side2 A3.out).mono ?_); (case side1 => exact yY HR0_2.out (kB HB)); (case side2 => exact HC0_2.out); rintro e w19 ⟨v137, rfl, ho0, hb⟩; refine ⟨_, rfl, ?_⟩; have n0_ := yD (Kd.R_elder' (by exact zF (yF (p := ⟨gb132, 1, none⟩) (Kd.R_types HO135.out BK132.out (by decide)) (fun _ hk => hk.2) (.slice Ao16 t133.length co16)) (fun _ h_ => h_.1)) (yH ho0) hb); have n1_ := yD (yZ (yJ ho0 (yK (by exact zF (yF (p := ⟨gb132, 1, none⟩) (Kd.R_types HO135.out BK132.out (by decide)) (fun _ hk => hk.2) (.slice Ao16 t133.length co16)) (fun _ h_ => h_.1)))) (below_size (kB HB))); have n2_ := yD (zB (g := gb130) (o := .cells #[.int .i64 a0_0, .slice A0_1 l0_1.length c0_1, .slice A0_2 l0_2.length c0_2, .slice A0_3 l0_3.length c0_3, .slice A0_4 l0_4.length c0_4, .slice A0_5 l0_5.length c0_5] 49 (0, 0)) (by (with_reducible repeat (first | refine yM ?_ _ | refine yO ?_ | refine yN ?_ _)); refine blk_far ?_ NB130_132.out _; (with_reducible repeat (first | refine yM ?_ _ | refine yO ?_ | refine yN ?_ _)); exact BK130.out) hb); have n3_ := yD (zB (g := gb131) (o := .cells #[.int .i64 0, .slice none 0 0, .slice none 0 0, .slice none 0 0, .slice none 0 0, .slice none 0 0] 55 (0, 0)) (by (with_reducible repeat (first | refine yM ?_ _ | refine yO ?_ | refine yN ?_ _)); refine blk_far ?_ NB131_132.out _; (with_reducible repeat (first | refine yM ?_ _ | refine yO ?_ | refine yN ?_ _)); exact BK131.out) hb); have n4_ := yD (zB (g := gb132) (o := .cells #[.int .i64 a0_0, .slice Ao16 t133.length co16, .slice none 0 0, .slice none 0 0, .slice none 0 0, .slice none 0 0] 55 (0, 0)) (by (with_reducible repeat (first | refine yM ?_ _ | refine yO ?_ | refine yN ?_ _)); refine blk_put (cs := #[.int .i64 a0_0, .slice none 0 0, .slice none 0 0, .slice none 0 0, .slice none 0 0, .slice none 0 0]) ?_ 1 _ rfl; (with_reducible repeat (first | refine yM ?_ _ | refine yO ?_ | refine yN ?_ _)); exact BK132.out) hb); have n5_ := yD (zC (kB HB) hb); clear HO135; clear BK130; clear BK131; clear BK132; clear HB; have HO135 := n0_; have HO138 := n1_; have BK130 := n2_; have BK131 := n3_; have BK132 := n4_; have HB := n5_; clear n0_ n1_ n2_ n3_ n4_ n5_; (try clear hb); (try clear hb2); (try clear hk); (try clear hi); (try clear ho0); obtain ⟨Ao20, co20, eo20⟩ := Kd.R_slice HO138.out; subst eo20; obtain ⟨hcz21_0, hcz21_1, hcz21_2, hcz21_3, hcz21_4, hcz21_5⟩ := cz6 BK132.out; obtain ⟨hfz21_0, hfz21_1, hfz21_2, hfz21_3, hfz21_4, hfz21_5⟩ := fz6 BK132.out; obtain ⟨hcz22_0, hcz22_1, hcz22_2, hcz22_3, hcz22_4, hcz22_5⟩ := cz6 BK130.out; obtain ⟨hfz22_0, hfz22_1, hfz22_2, hfz22_3, hfz22_4, hfz22_5⟩ := fz6 BK130.out) | ((with_reducible refine gate_callee (f := 39) rfl ?_); refine gL 17 Try.func39 #[.slice A0_3 l0_3.length c0_3] ?_; (with_reducible refine (laws_toInt64S.calls k _ _ l0_3 t139 _ ?side1 ?side2 A4.out).mono ?_); (case side1 => exact yY HR0_3.out (kB HB)); (case side2 => exact HC0_3.out); rintro e w23 ⟨v140, rfl, ho0, hb⟩; refine ⟨_, rfl, ?_⟩; have n0_ := yD (Kd.R_elder' (by exact zF (yF (p := ⟨gb132, 2, none⟩) (Kd.R_types HO135.out BK132.out (by decide)) (fun _ hk => hk.2) (.slice Ao20 t136.length co20)) (fun _ h_ => h_.1)) (yH ho0) hb); have n1_ := yD (Kd.R_elder' (by exact zF (yF (p := ⟨gb132, 2, none⟩) (Kd.R_types HO138.out BK132.out (by decide)) (fun _ hk => hk.2) (.slice Ao20 t136.length co20)) (fun _ h_ => h_.1)) (yH ho0) hb); have n2_ := yD (yZ (yJ (yJ ho0 (yK (by exact zF (yF (p := ⟨gb132, 2, none⟩) (Kd.R_types HO135.out BK132.out (by decide)) (fun _ hk => hk.2) (.slice Ao20 t136.length co20)) (fun _ h_ => h_.1)))) (yK (by exact zF (yF (p := ⟨gb132, 2, none⟩) (Kd.R_types HO138.out BK132.out (by decide)) (fun _ hk => hk.2) (.slice Ao20 t136.length co20)) (fun _ h_ => h_.1)))) (below_size (kB HB))); have n3_ := yD (zB (g := gb130) (o := .cells #[.int .i64 a0_0, .slice A0_1 l0_1.length c0_1, .slice A0_2 l0_2.length c0_2, .slice A0_3 l0_3.length c0_3, .slice A0_4 l0_4.length c0_4, .slice A0_5 l0_5.length c0_5] 49 (0, 0)) (by (with_reducible repeat (first | refine yM ?_ _ | refine yO ?_ | refine yN ?_ _)); refine blk_far ?_ NB130_132.out _; (with_reducible repeat (first | refine yM ?_ _ | refine yO ?_ | refine yN ?_ _)); exact BK130.out) hb); have n4_ := yD (zB (g := gb131) (o := .cells #[.int .i64 0, .slice none 0 0, .slice none 0 0, .slice none 0 0, .slice none 0 0, .slice none 0 0] 55 (0, 0)) (by (with_reducible repeat (first | refine yM ?_ _ | refine yO ?_ | refine yN ?_ _)); refine blk_far ?_ NB131_132.out _; (with_reducible repeat (first | refine yM ?_ _ | refine yO ?_ | refine yN ?_ _)); exact BK131.out) hb); have n5_ := yD (zB (g := gb132) (o := .cells #[.int .i64 a0_0, .slice Ao16 t133.length co16, .slice Ao20 t136.length co20, .slice none 0 0, .slice none 0 0, .slice none 0 0] 55 (0, 0)) (by (with_reducible repeat (first | refine yM ?_ _ | refine yO ?_ | refine yN ?_ _)); refine blk_put (cs := #[.int .i64 a0_0, .slice Ao16 t133.length co16, .slice none 0 0, .slice none 0 0, .slice none 0 0, .slice none 0 0]) ?_ 2 _ rfl; (with_reducible repeat (first | refine yM ?_ _ | refine yO ?_ | refine yN ?_ _)); exact BK132.out) hb); have n6_ := yD (zC (kB HB) hb); clear HO135; clear HO138; clear BK130; clear BK131; clear BK132; clear HB; have HO135 := n0_; have HO138 := n1_; have HO141 := n2_; have BK130 := n3_; have BK131 := n4_; have BK132 := n5_; have HB := n6_; clear n0_ n1_ n2_ n3_ n4_ n5_ n6_; (try clear hb); (try clear hb2); (try clear hk); (try clear hi); (try clear ho0); obtain ⟨Ao24, co24, eo24⟩ := Kd.R_slice HO141.out; subst eo24; obtain ⟨hcz25_0, hcz25_1, hcz25_2, hcz25_3, hcz25_4, hcz25_5⟩ := cz6 BK132.out; obtain ⟨hfz25_0, hfz25_1, hfz25_2, hfz25_3, hfz25_4, hfz25_5⟩ := fz6 BK132.out; obtain ⟨hcz26_0, hcz26_1, hcz26_2, hcz26_3, hcz26_4, hcz26_5⟩ := cz6 BK130.out; obtain ⟨hfz26_0, hfz26_1, hfz26_2, hfz26_3, hfz26_4, hfz26_5⟩ := fz6 BK130.out) | ((with_reducible refine gate_callee (f := 39) rfl ?_); refine gL 21 Try.func39 #[.slice A0_4 l0_4.length c0_4] ?_; (with_reducible refine (laws_toInt64S.calls k _ _ l0_4 t142 _ ?side1 ?side2 A5.out).mono ?_); (case side1 => exact yY HR0_4.out (kB HB)); (case side2 => exact HC0_4.out); rintro e w27 ⟨v143, rfl, ho0, hb⟩; refine ⟨_, rfl, ?_⟩; have n0_ := yD (Kd.R_elder' (by exact zF (yF (p := ⟨gb132, 3, none⟩) (Kd.R_types HO135.out BK132.out (by decide)) (fun _ hk => hk.2) (.slice Ao24 t139.length co24)) (fun _ h_ => h_.1)) (yH ho0) hb); have n1_ := yD (Kd.R_elder' (by exact zF (yF (p := ⟨gb132, 3, none⟩) (Kd.R_types HO138.out BK132.out (by decide)) (fun _ hk => hk.2) (.slice Ao24 t139.length co24)) (fun _ h_ => h_.1)) (yH ho0) hb); have n2_ := yD (Kd.R_elder' (by exact zF (yF (p := ⟨gb132, 3, none⟩) (Kd.R_types HO141.out BK132.out (by decide)) (fun _ hk => hk.2) (.slice Ao24 t139.length co24)) (fun _ h_ => h_.1)) (yH ho0) hb); have n3_ := yD (yZ (yJ (yJ (yJ ho0 (yK (by exact zF (yF (p := ⟨gb132, 3, none⟩) (Kd.R_types HO135.out BK132.out (by decide)) (fun _ hk => hk.2) (.slice Ao24 t139.length co24)) (fun _ h_ => h_.1)))) (yK (by exact zF (yF (p := ⟨gb132, 3, none⟩) (Kd.R_types HO138.out BK132.out (by decide)) (fun _ hk => hk.2) (.slice Ao24 t139.length co24)) (fun _ h_ => h_.1)))) (yK (by exact zF (yF (p := ⟨gb132, 3, none⟩) (Kd.R_types HO141.out BK132.out (by decide)) (fun _ hk => hk.2) (.slice Ao24 t139.length co24)) (fun _ h_ => h_.1)))) (below_size (kB HB))); have n4_ := yD (zB (g := gb130) (o := .cells #[.int .i64 a0_0, .slice A0_1 l0_1.length c0_1, .slice A0_2 l0_2.length c0_2, .slice A0_3 l0_3.length c0_3, .slice A0_4 l0_4.length c0_4, .slice A0_5 l0_5.length c0_5] 49 (0, 0)) (by (with_reducible repeat (first | refine yM ?_ _ | refine yO ?_ | refine yN ?_ _)); refine blk_far ?_ NB130_132.out _; (with_reducible repeat (first | refine yM ?_ _ | refine yO ?_ | refine yN ?_ _)); exact BK130.out) hb); have n5_ := yD (zB (g := gb131) (o := .cells #[.int .i64 0, .slice none 0 0, .slice none 0 0, .slice none 0 0, .slice none 0 0, .slice none 0 0] 55 (0, 0)) (by (with_reducible repeat (first | refine yM ?_ _ | refine yO ?_ | refine yN ?_ _)); refine blk_far ?_ NB131_132.out _; (with_reducible repeat (first | refine yM ?_ _ | refine yO ?_ | refine yN ?_ _)); exact BK131.out) hb); have n6_ := yD (zB (g := gb132) (o := .cells #[.int .i64 a0_0, .slice Ao16 t133.length co16, .slice Ao20 t136.length co20, .slice Ao24 t139.length co24, .slice none 0 0, .slice none 0 0] 55 (0, 0)) (by (with_reducible repeat (first | refine yM ?_ _ | refine yO ?_ | refine yN ?_ _)); refine blk_put (cs := #[.int .i64 a0_0, .slice Ao16 t133.length co16, .slice Ao20 t136.length co20, .slice none 0 0, .slice none 0 0, .slice none 0 0]) ?_ 3 _ rfl; (with_reducible repeat (first | refine yM ?_ _ | refine yO ?_ | refine yN ?_ _)); exact BK132.out) hb); have n7_ := yD (zC (kB HB) hb); clear HO135; clear HO138; clear HO141; clear BK130; clear BK131; clear BK132; clear HB; have HO135 := n0_; have HO138 := n1_; have HO141 := n2_; have HO144 := n3_; have BK130 := n4_; have BK131 := n5_; have BK132 := n6_; have HB := n7_; clear n0_ n1_ n2_ n3_ n4_ n5_ n6_ n7_; (try clear hb); (try clear hb2); (try clear hk); (try clear hi); (try clear ho0); obtain ⟨Ao28, co28, eo28⟩ := Kd.R_slice HO144.out; subst eo28; obtain ⟨hcz29_0, hcz29_1, hcz29_2, hcz29_3, hcz29_4, hcz29_5⟩ := cz6 BK132.out; obtain ⟨hfz29_0, hfz29_1, hfz29_2, hfz29_3, hfz29_4, hfz29_5⟩ := fz6 BK132.out; obtain ⟨hcz30_0, hcz30_1, hcz30_2, hcz30_3, hcz30_4, hcz30_5⟩ := cz6 BK130.out; obtain ⟨hfz30_0, hfz30_1, hfz30_2, hfz30_3, hfz30_4, hfz30_5⟩ := fz6 BK130.out) | ((with_reducible refine gate_callee (f := 79) rfl ?_); refine gL 25 Try.func79 #[.slice A0_5 l0_5.length c0_5] ?_; (with_reducible refine (laws_toPointS.calls k _ _ l0_5 t145 _ ?side1 ?side2 A6.out).mono ?_); (case side1 => exact yY HR0_5.out (kB HB)); (case side2 => exact HC0_5.out); rintro e w31 ⟨v146, rfl, ho0, hb⟩; refine ⟨_, rfl, ?_⟩; have n0_ := yD (zE (by exact zF (yF (p := ⟨gb132, 4, none⟩) (Kd.R_types HO135.out BK132.out (by decide)) (fun _ hk => hk.2) (.slice Ao28 t142.length co28)) (fun _ h_ => h_.1)) hb); have n1_ := yD (zE (by exact zF (yF (p := ⟨gb132, 4, none⟩) (Kd.R_types HO138.out BK132.out (by decide)) (fun _ hk => hk.2) (.slice Ao28 t142.length co28)) (fun _ h_ => h_.1)) hb); have n2_ := yD (zE (by exact zF (yF (p := ⟨gb132, 4, none⟩) (Kd.R_types HO141.out BK132.out (by decide)) (fun _ hk => hk.2) (.slice Ao28 t142.length co28)) (fun _ h_ => h_.1)) hb); have n3_ := yD (zE (by exact zF (yF (p := ⟨gb132, 4, none⟩) (Kd.R_types HO144.out BK132.out (by decide)) (fun _ hk => hk.2) (.slice Ao28 t142.length co28)) (fun _ h_ => h_.1)) hb); have n4_ := yD (zG (zD (zD (zD (zD ho0 (yK (by exact zF (yF (p := ⟨gb132, 4, none⟩) (Kd.R_types HO135.out BK132.out (by decide)) (fun _ hk => hk.2) (.slice Ao28 t142.length co28)) (fun _ h_ => h_.1)))) (yK (by exact zF (yF (p := ⟨gb132, 4, none⟩) (Kd.R_types HO138.out BK132.out (by decide)) (fun _ hk => hk.2) (.slice Ao28 t142.length co28)) (fun _ h_ => h_.1)))) (yK (by exact zF (yF (p := ⟨gb132, 4, none⟩) (Kd.R_types HO141.out BK132.out (by decide)) (fun _ hk => hk.2) (.slice Ao28 t142.length co28)) (fun _ h_ => h_.1)))) (yK (by exact zF (yF (p := ⟨gb132, 4, none⟩) (Kd.R_types HO144.out BK132.out (by decide)) (fun _ hk => hk.2) (.slice Ao28 t142.length co28)) (fun _ h_ => h_.1)))) (below_size (kB HB))); have n5_ := yD (zB (g := gb130) (o := .cells #[.int .i64 a0_0, .slice A0_1 l0_1.length c0_1, .slice A0_2 l0_2.length c0_2, .slice A0_3 l0_3.length c0_3, .slice A0_4 l0_4.length c0_4, .slice A0_5 l0_5.length c0_5] 49 (0, 0)) (by (with_reducible repeat (first | refine yM ?_ _ | refine yO ?_ | refine yN ?_ _)); refine blk_far ?_ NB130_132.out _; (with_reducible repeat (first | refine yM ?_ _ | refine yO ?_ | refine yN ?_ _)); exact BK130.out) hb); have n6_ := yD (zB (g := gb131) (o := .cells #[.int .i64 0, .slice none 0 0, .slice none 0 0, .slice none 0 0, .slice none 0 0, .slice none 0 0] 55 (0, 0)) (by (with_reducible repeat (first | refine yM ?_ _ | refine yO ?_ | refine yN ?_ _)); refine blk_far ?_ NB131_132.out _; (with_reducible repeat (first | refine yM ?_ _ | refine yO ?_ | refine yN ?_ _)); exact BK131.out) hb); have n7_ := yD (zB (g := gb132) (o := .cells #[.int .i64 a0_0, .slice Ao16 t133.length co16, .slice Ao20 t136.length co20, .slice Ao24 t139.length co24, .slice Ao28 t142.length co28, .slice none 0 0] 55 (0, 0)) (by (with_reducible repeat (first | refine yM ?_ _ | refine yO ?_ | refine yN ?_ _)); refine blk_put (cs := #[.int .i64 a0_0, .slice Ao16 t133.length co16, .slice Ao20 t136.length co20, .slice Ao24 t139.length co24, .slice none 0 0, .slice none 0 0]) ?_ 4 _ rfl; (with_reducible repeat (first | refine yM ?_ _ | refine yO ?_ | refine yN ?_ _)); exact BK132.out) hb); have n8_ := yD (zC (kB HB) hb); clear HO135; clear HO138; clear HO141; clear HO144; clear BK130; clear BK131; clear BK132; clear HB; have HO135 := n0_; have HO138 := n1_; have HO141 := n2_; have HO144 := n3_; have HO147 := n4_; have BK130 := n5_; have BK131 := n6_; have BK132 := n7_; have HB := n8_; clear n0_ n1_ n2_ n3_ n4_ n5_ n6_ n7_ n8_; (try clear hb); (try clear hb2); (try clear hk); (try clear hi); (try clear ho0); obtain ⟨Ao32, co32, eo32⟩ := Kd.S_slice HO147.out; subst eo32; obtain ⟨hcz33_0, hcz33_1, hcz33_2, hcz33_3, hcz33_4, hcz33_5⟩ := cz6 BK132.out; obtain ⟨hfz33_0, hfz33_1, hfz33_2, hfz33_3, hfz33_4, hfz33_5⟩ := fz6 BK132.out; obtain ⟨hcz34_0, hcz34_1, hcz34_2, hcz34_3, hcz34_4, hcz34_5⟩ := cz6 BK131.out; obtain ⟨hfz34_0, hfz34_1, hfz34_2, hfz34_3, hfz34_4, hfz34_5⟩ := fz6 BK131.out))
 refine bodyPost_ret (results_cell_row rfl _ _ gb131 55 #[.int .i64 a0_0, .slice Ao16 t133.length co16, .slice Ao20 t136.length co20, .slice Ao24 t139.length co24, .slice Ao28 t142.length co28, .slice Ao32 t145.length co32] (0, 0) _ rfl (by (with_reducible repeat (first | refine yM ?_ _ | refine yO ?_ | refine yN ?_ _)); refine blk_put (cs := #[.int .i64 a0_0, .slice Ao16 t133.length co16, .slice Ao20 t136.length co20, .slice Ao24 t139.length co24, .slice Ao28 t142.length co28, .slice none 0 0]) ?_ 5 _ rfl; (with_reducible repeat (first | refine yM ?_ _ | refine yO ?_ | refine yN ?_ _)); refine blk_put (cs := #[.int .i64 a0_0, .slice Ao16 t133.length co16, .slice Ao20 t136.length co20, .slice Ao24 t139.length co24, .slice none 0 0, .slice none 0 0]) ?_ 4 _ rfl; (with_reducible repeat (first | refine yM ?_ _ | refine yO ?_ | refine yN ?_ _)); refine blk_put (cs := #[.int .i64 a0_0, .slice Ao16 t133.length co16, .slice Ao20 t136.length co20, .slice none 0 0, .slice none 0 0, .slice none 0 0]) ?_ 3 _ rfl; (with_reducible repeat (first | refine yM ?_ _ | refine yO ?_ | refine yN ?_ _)); refine blk_put (cs := #[.int .i64 a0_0, .slice Ao16 t133.length co16, .slice none 0 0, .slice none 0 0, .slice none 0 0, .slice none 0 0]) ?_ 2 _ rfl; (with_reducible repeat (first | refine yM ?_ _ | refine yO ?_ | refine yN ?_ _)); refine blk_put (cs := #[.int .i64 a0_0, .slice none 0 0, .slice none 0 0, .slice none 0 0, .slice none 0 0, .slice none 0 0]) ?_ 1 _ rfl; (with_reducible repeat (first | refine yM ?_ _ | refine yO ?_ | refine yN ?_ _)); refine blk_put (cs := #[.int .i64 0, .slice none 0 0, .slice none 0 0, .slice none 0 0, .slice none 0 0, .slice none 0 0]) ?_ 0 _ rfl; (with_reducible repeat (first | refine yM ?_ _ | refine yO ?_ | refine yN ?_ _)); refine blk_far ?_ NB131_132.out _; (with_reducible repeat (first | refine yM ?_ _ | refine yO ?_ | refine yN ?_ _)); exact BK131.out) Try.underlying55 rfl (by kernel_rfl)) rfl ?_
 exact ⟨_, _, _, _, _, by first | rfl | (simp <;> rfl) | (simp [*] <;> rfl), by (with_reducible repeat (first | apply yA | apply yB | apply yC)); exact zF (yF (p := ⟨gb131, 5, none⟩) (yF (p := ⟨gb131, 4, none⟩) (yF (p := ⟨gb131, 3, none⟩) (yF (p := ⟨gb131, 2, none⟩) (yF (p := ⟨gb131, 1, none⟩) (yF (p := ⟨gb131, 0, none⟩) (yF (p := ⟨gb132, 5, none⟩) (Kd.R_types (Kd.R_types HO135.out BK132.out (by decide)) BK131.out (by decide)) (fun _ hk => hk.1.2) (.slice Ao32 t145.length co32)) (fun _ hk => hk.2) (.int .i64 a0_0)) (fun _ hk => hk.2) (.slice Ao16 t133.length co16)) (fun _ hk => hk.2) (.slice Ao20 t136.length co20)) (fun _ hk => hk.2) (.slice Ao24 t139.length co24)) (fun _ hk => hk.2) (.slice Ao28 t142.length co28)) (fun _ hk => hk.2) (.slice Ao32 t145.length co32)) (fun _ hk => ⟨hk.1.1.1.1.2, ⟨hk.1.1.1.2, hk.1.1.2⟩⟩), by (with_reducible repeat (first | apply yA | apply yB | apply yC)); exact zF (yF (p := ⟨gb131, 5, none⟩) (yF (p := ⟨gb131, 4, none⟩) (yF (p := ⟨gb131, 3, none⟩) (yF (p := ⟨gb131, 2, none⟩) (yF (p := ⟨gb131, 1, none⟩) (yF (p := ⟨gb131, 0, none⟩) (yF (p := ⟨gb132, 5, none⟩) (Kd.R_types (Kd.R_types HO138.out BK132.out (by decide)) BK131.out (by decide)) (fun _ hk => hk.1.2) (.slice Ao32 t145.length co32)) (fun _ hk => hk.2) (.int .i64 a0_0)) (fun _ hk => hk.2) (.slice Ao16 t133.length co16)) (fun _ hk => hk.2) (.slice Ao20 t136.length co20)) (fun _ hk => hk.2) (.slice Ao24 t139.length co24)) (fun _ hk => hk.2) (.slice Ao28 t142.length co28)) (fun _ hk => hk.2) (.slice Ao32 t145.length co32)) (fun _ hk => ⟨hk.1.1.1.1.2, ⟨hk.1.1.1.2, hk.1.1.2⟩⟩), by (with_reducible repeat (first | apply yA | apply yB | apply yC)); exact zF (yF (p := ⟨gb131, 5, none⟩) (yF (p := ⟨gb131, 4, none⟩) (yF (p := ⟨gb131, 3, none⟩) (yF (p := ⟨gb131, 2, none⟩) (yF (p := ⟨gb131, 1, none⟩) (yF (p := ⟨gb131, 0, none⟩) (yF (p := ⟨gb132, 5, none⟩) (Kd.R_types (Kd.R_types HO141.out BK132.out (by decide)) BK131.out (by decide)) (fun _ hk => hk.1.2) (.slice Ao32 t145.length co32)) (fun _ hk => hk.2) (.int .i64 a0_0)) (fun _ hk => hk.2) (.slice Ao16 t133.length co16)) (fun _ hk => hk.2) (.slice Ao20 t136.length co20)) (fun _ hk => hk.2) (.slice Ao24 t139.length co24)) (fun _ hk => hk.2) (.slice Ao28 t142.length co28)) (fun _ hk => hk.2) (.slice Ao32 t145.length co32)) (fun _ hk => ⟨hk.1.1.1.1.2, ⟨hk.1.1.1.2, hk.1.1.2⟩⟩), by (with_reducible repeat (first | apply yA | apply yB | apply yC)); exact zF (yF (p := ⟨gb131, 5, none⟩) (yF (p := ⟨gb131, 4, none⟩) (yF (p := ⟨gb131, 3, none⟩) (yF (p := ⟨gb131, 2, none⟩) (yF (p := ⟨gb131, 1, none⟩) (yF (p := ⟨gb131, 0, none⟩) (yF (p := ⟨gb132, 5, none⟩) (Kd.R_types (Kd.R_types HO144.out BK132.out (by decide)) BK131.out (by decide)) (fun _ hk => hk.1.2) (.slice Ao32 t145.length co32)) (fun _ hk => hk.2) (.int .i64 a0_0)) (fun _ hk => hk.2) (.slice Ao16 t133.length co16)) (fun _ hk => hk.2) (.slice Ao20 t136.length co20)) (fun _ hk => hk.2) (.slice Ao24 t139.length co24)) (fun _ hk => hk.2) (.slice Ao28 t142.length co28)) (fun _ hk => hk.2) (.slice Ao32 t145.length co32)) (fun _ hk => ⟨hk.1.1.1.1.2, ⟨hk.1.1.1.2, hk.1.1.2⟩⟩), by (with_reducible repeat (first | apply yS | apply yT | apply yU)); exact Kd.S_mono (Kd.S_far (p := ⟨gb131, 5, none⟩) (Kd.S_far (p := ⟨gb131, 4, none⟩) (Kd.S_far (p := ⟨gb131, 3, none⟩) (Kd.S_far (p := ⟨gb131, 2, none⟩) (Kd.S_far (p := ⟨gb131, 1, none⟩) (Kd.S_far (p := ⟨gb131, 0, none⟩) (Kd.S_far (p := ⟨gb132, 5, none⟩) (Kd.S_types (Kd.S_types HO147.out BK132.out (by decide)) BK131.out (by decide)) (fun _ hk => hk.1.2) (.slice Ao32 t145.length co32)) (fun _ hk => hk.2) (.int .i64 a0_0)) (fun _ hk => hk.2) (.slice Ao16 t133.length co16)) (fun _ hk => hk.2) (.slice Ao20 t136.length co20)) (fun _ hk => hk.2) (.slice Ao24 t139.length co24)) (fun _ hk => hk.2) (.slice Ao28 t142.length co28)) (fun _ hk => hk.2) (.slice Ao32 t145.length co32)) (fun _ hk => ⟨hk.1.1.1.1.1.2, ⟨hk.1.1.1.1.2, ⟨hk.1.1.1.2, hk.1.1.2⟩⟩⟩), kR0 HB⟩

/-! ### spec_l00In: function 92 -/
def spec_l00In.f (a0 : Int) (a1 : Int) (a2 : Int) : Option (Bool) := if a0 ≥ a1 then (some (decide (a0 ≤ a2))) else (some false)
set_option maxHeartbeats 8000000 in
set_option maxRecDepth 100000 in
theorem spec_l00In.calls (a0 : Int) (a1 : Int) (a2 : Int) (r : Bool) (w : World) (h : spec_l00In.f a0 a1 a2 = some r) :
 Calls Try.prog 92 #[.int .i64 a0, .int .i64 a1, .int .i64 a2] w fun e w' => e = .returned (.bool r) ∧ Drawn0 w w' := by
 have H : (if a0 ≥ a1 then (some (decide (a0 ≤ a2))) else (some false)) = some r := h
 clear h
 by_cases c4 : a0 ≥ a1
 ·
  rw [if_pos c4] at H; have c4b0 : decide (a1 ≤ a0) = true := zR c4; clear c4; obtain rfl := Option.some.inj H; go_enter Try.func92, Try.ntmps92
  go_wp2
  go_ret
  exact ⟨by first | rfl | (simp; done) | (simp [*]; done), by repeat (first | exact Drawn0.refl _ | apply Drawn0.step)⟩
 ·
  rw [if_neg c4] at H; have c4b0 : decide (a1 ≤ a0) = false := zS c4; clear c4; obtain rfl := Option.some.inj H; go_enter Try.func92, Try.ntmps92
  go_wp2
  go_ret
  exact ⟨by first | rfl | (simp; done) | (simp [*]; done), by repeat (first | exact Drawn0.refl _ | apply Drawn0.step)⟩

/-! ### spec_l05Dims: function 90 -/
def spec_l05Dims.l0 : Nat → List Int → Int → Int → Option (Bool)
 | 0, _, _, _ => none
 | k + 1, x0, x3, x4 => if x4 < (x0.length : Int) then (if 0 ≤ x4 then ((spec_l00In.f (rd x0 x4) 0 40).bind fun t149 => (if t149 = true then (spec_l05Dims.l0 k x0 (wrap64 (x3 * (rd x0 x4))) (wrap64 (x4 + 1))) else (some false))) else (none)) else (some (decide (x3 ≤ 600)))
def spec_l05Dims.f (k : Nat) (l0 : List Int) : Option (Bool) := if (l0.length : Int) > 3 then (some false) else (spec_l05Dims.l0 k l0 1 0)
theorem spec_l05Dims.mono_l : ∀ k, (∀ y0 y1 y2, LeO (spec_l05Dims.l0 k y0 y1 y2) (spec_l05Dims.l0 (k + 1) y0 y1 y2))
 | 0 => fun _ _ _ r h => by simp [spec_l05Dims.l0] at h
 | k + 1 => by
  have ih0 := spec_l05Dims.mono_l k
  ·
   intro y0 y1 y2
   unfold spec_l05Dims.l0
   repeat' (with_reducible first | exact ih0 _ _ _ | exact LeO.refl _ | exact LeO.none _ | refine LeO.ite ?_ ?_ | refine LeO.bind ?_ (fun _ => ?_))
theorem spec_l05Dims.mono : ∀ a0 k, LeO (spec_l05Dims.f k a0) (spec_l05Dims.f (k + 1) a0) := by
 intro a0 k
 have ih0 := spec_l05Dims.mono_l k
 unfold spec_l05Dims.f
 repeat' (with_reducible first | exact ih0 _ _ _ | exact LeO.refl _ | exact LeO.none _ | refine LeO.ite ?_ ?_ | refine LeO.bind ?_ (fun _ => ?_))
set_option maxHeartbeats 8000000 in
set_option maxRecDepth 100000 in
theorem spec_l05Dims.calls (k : Nat) (A0 : Option Addr) (c0 : Nat) (l0 : List Int) (r : Bool) (w : World) (hr0 : Kd.C (Kd.int .i64) w A0 l0.length l0) (hc0 : l0.length ≤ c0) (h : spec_l05Dims.f k l0 = some r) :
 Calls Try.prog 90 #[.slice A0 l0.length c0] w fun e w' => e = .returned (.bool r) ∧ Drawn0 w w' := by
 have HR0 := yD hr0
 have HC0 := yD hc0
 clear hr0 hc0
 have H : (if (l0.length : Int) > 3 then (some false) else (spec_l05Dims.l0 k l0 1 0)) = some r := h
 clear h
 by_cases c2 : (l0.length : Int) > 3
 ·
  rw [if_pos c2] at H; have c2b0 : decide (3 < (l0.length : Int)) = true := zR c2
  have c2b1 : decide (3 < l0.length) = true := zR (by omega)
  clear c2; obtain rfl := Option.some.inj H; go_enter Try.func90, Try.ntmps90
  go_wp2
  go_ret
  exact ⟨by first | rfl | (simp; done) | (simp [*]; done), by repeat (first | exact Drawn0.refl _ | apply Drawn0.step)⟩
 ·
  rw [if_neg c2] at H; have c2b0 : decide (3 < (l0.length : Int)) = false := zS c2
  have c2b1 : decide (3 < l0.length) = false := zS (by omega)
  clear c2
  have H' := yD H
  clear H; go_enter Try.func90, Try.ntmps90
  go_wp2
  go_loopg [3, 4] k (fun kq v3 v4 w' => ∃ (x3_1 : Int) (x4_1 : Int), v3 = .int .i64 x3_1 ∧ v4 = .int .i64 x4_1 ∧ Aside0 (spec_l05Dims.l0 kq l0 x3_1 x4_1 = some r) ∧ Aside0 (kq ≤ k) ∧ Drawn0 w w')
  case atStart => exact ⟨(1), (0), (by first | rfl | (simp; done) | (simp [*]; done)), (by first | rfl | (simp; done) | (simp [*]; done)), H', ⟨Nat.le_refl _⟩, by repeat (first | exact Drawn0.refl _ | apply Drawn0.step)⟩
  case round =>
   clear H'
   try clear c2; try clear c2b0; try clear c2b1; try clear p2
   obtain ⟨x3_1, x4_1, rfl, rfl, HA, HK1, ⟨m1, rfl⟩⟩ := hrel
   cases gk with
   | zero => exact absurd HA.out (by simp [spec_l05Dims.l0])
   | succ k1 =>
    have H := HA.out; clear HA
    simp only [spec_l05Dims.l0] at H
    by_cases c3 : x4_1 < (l0.length : Int)
    ·
     rw [if_pos c3] at H; have c3b0 : decide (x4_1 < (l0.length : Int)) = true := zR c3; clear c3
     by_cases c4 : 0 ≤ x4_1
     ·
      rw [if_pos c4] at H; have c4b0 : decide (0 ≤ x4_1) = true := zR c4; clear c4
      obtain ⟨t149, A50, H⟩ := zW_ H
      replace H : (if t149 = true then (spec_l05Dims.l0 k1 l0 (wrap64 (x3_1 * (rd l0 x4_1))) (wrap64 (x4_1 + 1))) else (some false)) = some r := H
      have A5 := yD A50
      clear A50
      by_cases c6 : t149 = true
      ·
       subst c6
       have H1 : (spec_l05Dims.l0 k1 l0 (wrap64 (x3_1 * (rd l0 x4_1))) (wrap64 (x4_1 + 1))) = some r := by rw [if_pos rfl] at H; exact H
       clear H; have H := H1; clear H1
       have H' := yD H
       clear H
       have p148 : 0 ≤ (x4_1 : Int) := zP (by assumption)
       have q148 : x4_1 < (l0.length : Int) := zP (by assumption)
       obtain ⟨ad148, e148, hx148_0⟩ := Kd.at_int HR0.out x4_1 p148 q148
       cases e148; replace p148 := eq_true p148; replace q148 := eq_true q148
       go_wp2_with (first | ((with_reducible refine gate_callee (f := 92) rfl ?_); refine gL 18 Try.func92 #[.int .i64 (rd l0 x4_1), .int .i64 0, .int .i64 40] ?_; (with_reducible refine (spec_l00In.calls (rd l0 x4_1) 0 40 true _ A5.out).mono ?_); rintro e w' ⟨rfl, ⟨nd, rfl⟩⟩; refine ⟨_, rfl, ?_⟩; have p150 : 0 ≤ (x4_1 : Int) := zP (by assumption); have q150 : x4_1 < (l0.length : Int) := zP (by assumption); obtain ⟨ad150, e150, hx150_0⟩ := Kd.at_int HR0.out x4_1 p150 q150; obtain rfl : ad148 = ad150 := (by injection e150); replace p150 := eq_true p150; replace q150 := eq_true q150))
       go_roundg k1
       case measure => have := HK1.out; omega
       case rel => exact ⟨(wrap64 (x3_1 * (rd l0 x4_1))), (wrap64 (x4_1 + 1)), (by first | rfl | (simp; done) | (simp [*]; done)), (by first | rfl | (simp; done) | (simp [*]; done)), H', ⟨by have := HK1.out; omega⟩, by repeat (first | exact Drawn0.refl _ | apply Drawn0.step)⟩
      ·
       replace c6 := Bool.eq_false_iff.mpr c6
       subst c6
       have H1 : (some false) = some r := by rw [if_neg (show ¬ (false = true) by decide)] at H; exact H
       clear H; have H := H1; clear H1; obtain rfl := Option.some.inj H
       have p148 : 0 ≤ (x4_1 : Int) := zP (by assumption)
       have q148 : x4_1 < (l0.length : Int) := zP (by assumption)
       obtain ⟨ad148, e148, hx148_0⟩ := Kd.at_int HR0.out x4_1 p148 q148
       cases e148; replace p148 := eq_true p148; replace q148 := eq_true q148
       go_wp2_with (first | ((with_reducible refine gate_callee (f := 92) rfl ?_); refine gL 18 Try.func92 #[.int .i64 (rd l0 x4_1), .int .i64 0, .int .i64 40] ?_; (with_reducible refine (spec_l00In.calls (rd l0 x4_1) 0 40 false _ A5.out).mono ?_); rintro e w' ⟨rfl, ⟨nd, rfl⟩⟩; refine ⟨_, rfl, ?_⟩))
       go_ret
       exact ⟨by first | rfl | (simp; done) | (simp [*]; done), by repeat (first | exact Drawn0.refl _ | apply Drawn0.step)⟩
     ·
      rw [if_neg c4] at H
      exact absurd H (by simp)
    ·
     rw [if_neg c3] at H; have c3b0 : decide (x4_1 < (l0.length : Int)) = false := zS c3; clear c3; obtain rfl := Option.some.inj H
     go_wp2
     go_ret
     exact ⟨by first | rfl | (simp; done) | (simp [*]; done), by repeat (first | exact Drawn0.refl _ | apply Drawn0.step)⟩

/-! ### spec_l06Plain: function 133 -/
def spec_l06Plain.f (a0_0 : Int) (l0_1 : List Int) (l0_2 : List Int) (l0_3 : List Int) (l0_4 : List Int) (l0_5 : List (S110)) : Option (Bool) := if (l0_1.length : Int) = 0 then (if (l0_2.length : Int) = 0 then (if (l0_3.length : Int) = 0 then (some ((l0_4.length : Int) == 0)) else (some false)) else (some false)) else (some false)
set_option maxHeartbeats 8000000 in
set_option maxRecDepth 100000 in
theorem spec_l06Plain.calls (a0_0 : Int) (A0_1 : Option Addr) (c0_1 : Nat) (l0_1 : List Int) (A0_2 : Option Addr) (c0_2 : Nat) (l0_2 : List Int) (A0_3 : Option Addr) (c0_3 : Nat) (l0_3 : List Int) (A0_4 : Option Addr) (c0_4 : Nat) (l0_4 : List Int) (A0_5 : Option Addr) (c0_5 : Nat) (l0_5 : List (S110)) (r : Bool) (w : World) (hr0_1 : Kd.C (Kd.int .i64) w A0_1 l0_1.length l0_1) (hc0_1 : l0_1.length ≤ c0_1) (hr0_2 : Kd.C (Kd.int .i64) w A0_2 l0_2.length l0_2) (hc0_2 : l0_2.length ≤ c0_2) (hr0_3 : Kd.C (Kd.int .i64) w A0_3 l0_3.length l0_3) (hc0_3 : l0_3.length ≤ c0_3) (hr0_4 : Kd.C (Kd.int .i64) w A0_4 l0_4.length l0_4) (hc0_4 : l0_4.length ≤ c0_4) (hr0_5 : Kd.C k110 w A0_5 l0_5.length l0_5) (hc0_5 : l0_5.length ≤ c0_5) (h : spec_l06Plain.f a0_0 l0_1 l0_2 l0_3 l0_4 l0_5 = some r) :
 Calls Try.prog 133 #[.agg #[.int .i64 a0_0, .slice A0_1 l0_1.length c0_1, .slice A0_2 l0_2.length c0_2, .slice A0_3 l0_3.length c0_3, .slice A0_4 l0_4.length c0_4, .slice A0_5 l0_5.length c0_5]] w fun e w' => e = .returned (.bool r) ∧ Below w.heap.size w w' := by
 have hu55 := Try.underlying55
 have HR0_1 := yD hr0_1
 have HC0_1 := yD hc0_1
 clear hr0_1 hc0_1
 have HR0_2 := yD hr0_2
 have HC0_2 := yD hc0_2
 clear hr0_2 hc0_2
 have HR0_3 := yD hr0_3
 have HC0_3 := yD hc0_3
 clear hr0_3 hc0_3
 have HR0_4 := yD hr0_4
 have HC0_4 := yD hc0_4
 clear hr0_4 hc0_4
 have HR0_5 := yD hr0_5
 have HC0_5 := yD hc0_5
 clear hr0_5 hc0_5
 have HB := yD (Below.refl w.heap.size w)
 have H : (if (l0_1.length : Int) = 0 then (if (l0_2.length : Int) = 0 then (if (l0_3.length : Int) = 0 then (some ((l0_4.length : Int) == 0)) else (some false)) else (some false)) else (some false)) = some r := h
 clear h
 by_cases c2 : (l0_1.length : Int) = 0
 ·
  rw [if_pos c2] at H
  have c2b0 : ((l0_1.length : Int) == 0) = true := beq_iff_eq.mpr c2
  have c2b1 : ((l0_1.length : Int) != 0) = false := bne_eq_false_iff_eq.mpr c2
  clear c2
  by_cases c3 : (l0_2.length : Int) = 0
  ·
   rw [if_pos c3] at H
   have c3b0 : ((l0_2.length : Int) == 0) = true := beq_iff_eq.mpr c3
   have c3b1 : ((l0_2.length : Int) != 0) = false := bne_eq_false_iff_eq.mpr c3
   clear c3
   by_cases c4 : (l0_3.length : Int) = 0
   ·
    rw [if_pos c4] at H
    have c4b0 : ((l0_3.length : Int) == 0) = true := beq_iff_eq.mpr c4
    have c4b1 : ((l0_3.length : Int) != 0) = false := bne_eq_false_iff_eq.mpr c4
    clear c4; obtain rfl := Option.some.inj H; go_enter Try.func133, Try.ntmps133
    go_wp2_with (first | ((with_reducible refine gate_dst (N := 1) rfl ?_); (try (refine gate_guard (by rfl) ?_; dsimp only)); refine box_event ?hg (N := 1) ?hd (cs := #[.int .i64 a0_0, .slice A0_1 l0_1.length c0_1, .slice A0_2 l0_2.length c0_2, .slice A0_3 l0_3.length c0_3, .slice A0_4 l0_4.length c0_4, .slice A0_5 l0_5.length c0_5]) (t := 55) ?hr ?_; (case hd => rfl); (case hg => rfl); (case hr => first | (go_simp; done) | (go_simp; rfl)); intro gb151 hg w5 hbox hb; have n0_ := yD (zC (kB HB) hb); have n1_ := yD (hbox); have n2_ := yD ((by rw [hg]; exact (below_size (kB HB)) : w.heap.size ≤ gb151)); have n3_ := yD ((by rw [hg]; exact (below_size (kB HB)) : w.heap.size ≤ gb151)); clear HB; have HB := n0_; have BK151 := n1_; have GW151 := n2_; have GE151 := n3_; clear n0_ n1_ n2_ n3_; clear hb hbox hg; obtain ⟨hcz6_0, hcz6_1, hcz6_2, hcz6_3, hcz6_4, hcz6_5⟩ := cz6 BK151.out; obtain ⟨hfz6_0, hfz6_1, hfz6_2, hfz6_3, hfz6_4, hfz6_5⟩ := fz6 BK151.out))
    go_ret
    exact ⟨by first | rfl | (simp <;> rfl) | (simp [*] <;> rfl), kR0 HB⟩
   ·
    rw [if_neg c4] at H
    have c4b0 : ((l0_3.length : Int) == 0) = false := beq_eq_false_iff_ne.mpr c4
    have c4b1 : ((l0_3.length : Int) != 0) = true := bne_iff_ne.mpr c4
    have c4b2 : ¬ (l0_3 = []) := fun h_ => c4 (by rw [h_]; rfl)
    obtain rfl := Option.some.inj H; go_enter Try.func133, Try.ntmps133
    go_wp2_with (first | ((with_reducible refine gate_dst (N := 1) rfl ?_); (try (refine gate_guard (by rfl) ?_; dsimp only)); refine box_event ?hg (N := 1) ?hd (cs := #[.int .i64 a0_0, .slice A0_1 l0_1.length c0_1, .slice A0_2 l0_2.length c0_2, .slice A0_3 l0_3.length c0_3, .slice A0_4 l0_4.length c0_4, .slice A0_5 l0_5.length c0_5]) (t := 55) ?hr ?_; (case hd => rfl); (case hg => rfl); (case hr => first | (go_simp; done) | (go_simp; rfl)); intro gb151 hg w7 hbox hb; have n0_ := yD (zC (kB HB) hb); have n1_ := yD (hbox); have n2_ := yD ((by rw [hg]; exact (below_size (kB HB)) : w.heap.size ≤ gb151)); have n3_ := yD ((by rw [hg]; exact (below_size (kB HB)) : w.heap.size ≤ gb151)); clear HB; have HB := n0_; have BK151 := n1_; have GW151 := n2_; have GE151 := n3_; clear n0_ n1_ n2_ n3_; clear hb hbox hg; obtain ⟨hcz8_0, hcz8_1, hcz8_2, hcz8_3, hcz8_4, hcz8_5⟩ := cz6 BK151.out; obtain ⟨hfz8_0, hfz8_1, hfz8_2, hfz8_3, hfz8_4, hfz8_5⟩ := fz6 BK151.out))
    go_ret
    exact ⟨by first | rfl | (simp <;> rfl) | (simp [*] <;> rfl), kR0 HB⟩
  ·
   rw [if_neg c3] at H
   have c3b0 : ((l0_2.length : Int) == 0) = false := beq_eq_false_iff_ne.mpr c3
   have c3b1 : ((l0_2.length : Int) != 0) = true := bne_iff_ne.mpr c3
   have c3b2 : ¬ (l0_2 = []) := fun h_ => c3 (by rw [h_]; rfl)
   obtain rfl := Option.some.inj H; go_enter Try.func133, Try.ntmps133
   go_wp2_with (first | ((with_reducible refine gate_dst (N := 1) rfl ?_); (try (refine gate_guard (by rfl) ?_; dsimp only)); refine box_event ?hg (N := 1) ?hd (cs := #[.int .i64 a0_0, .slice A0_1 l0_1.length c0_1, .slice A0_2 l0_2.length c0_2, .slice A0_3 l0_3.length c0_3, .slice A0_4 l0_4.length c0_4, .slice A0_5 l0_5.length c0_5]) (t := 55) ?hr ?_; (case hd => rfl); (case hg => rfl); (case hr => first | (go_simp; done) | (go_simp; rfl)); intro gb151 hg w9 hbox hb; have n0_ := yD (zC (kB HB) hb); have n1_ := yD (hbox); have n2_ := yD ((by rw [hg]; exact (below_size (kB HB)) : w.heap.size ≤ gb151)); have n3_ := yD ((by rw [hg]; exact (below_size (kB HB)) : w.heap.size ≤ gb151)); clear HB; have HB := n0_; have BK151 := n1_; have GW151 := n2_; have GE151 := n3_; clear n0_ n1_ n2_ n3_; clear hb hbox hg; obtain ⟨hcz10_0, hcz10_1, hcz10_2, hcz10_3, hcz10_4, hcz10_5⟩ := cz6 BK151.out; obtain ⟨hfz10_0, hfz10_1, hfz10_2, hfz10_3, hfz10_4, hfz10_5⟩ := fz6 BK151.out))
   go_ret
   exact ⟨by first | rfl | (simp <;> rfl) | (simp [*] <;> rfl), kR0 HB⟩
 ·
  rw [if_neg c2] at H
  have c2b0 : ((l0_1.length : Int) == 0) = false := beq_eq_false_iff_ne.mpr c2
  have c2b1 : ((l0_1.length : Int) != 0) = true := bne_iff_ne.mpr c2
  have c2b2 : ¬ (l0_1 = []) := fun h_ => c2 (by rw [h_]; rfl)
  obtain rfl := Option.some.inj H; go_enter Try.func133, Try.ntmps133
  go_wp2_with (first | ((with_reducible refine gate_dst (N := 1) rfl ?_); (try (refine gate_guard (by rfl) ?_; dsimp only)); refine box_event ?hg (N := 1) ?hd (cs := #[.int .i64 a0_0, .slice A0_1 l0_1.length c0_1, .slice A0_2 l0_2.length c0_2, .slice A0_3 l0_3.length c0_3, .slice A0_4 l0_4.length c0_4, .slice A0_5 l0_5.length c0_5]) (t := 55) ?hr ?_; (case hd => rfl); (case hg => rfl); (case hr => first | (go_simp; done) | (go_simp; rfl)); intro gb151 hg w11 hbox hb; have n0_ := yD (zC (kB HB) hb); have n1_ := yD (hbox); have n2_ := yD ((by rw [hg]; exact (below_size (kB HB)) : w.heap.size ≤ gb151)); have n3_ := yD ((by rw [hg]; exact (below_size (kB HB)) : w.heap.size ≤ gb151)); clear HB; have HB := n0_; have BK151 := n1_; have GW151 := n2_; have GE151 := n3_; clear n0_ n1_ n2_ n3_; clear hb hbox hg; obtain ⟨hcz12_0, hcz12_1, hcz12_2, hcz12_3, hcz12_4, hcz12_5⟩ := cz6 BK151.out; obtain ⟨hfz12_0, hfz12_1, hfz12_2, hfz12_3, hfz12_4, hfz12_5⟩ := fz6 BK151.out))
  go_ret
  exact ⟨by first | rfl | (simp <;> rfl) | (simp [*] <;> rfl), kR0 HB⟩

end Go.Proofs.Ytdiaebjbiddefaa.PFnExactSelectedIndices
