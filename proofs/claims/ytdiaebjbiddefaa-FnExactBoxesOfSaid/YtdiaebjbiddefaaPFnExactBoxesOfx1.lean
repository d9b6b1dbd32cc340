/- Each function here comes to its plain form. It holds without a condition. -/
import Derived.Test.YtdiaebjbiddefaaPFnExactBoxesOfx0
namespace Go.Proofs.Ytdiaebjbiddefaa.PFnExactBoxesOf
open Go.RowKit Go.Proofs.YtdiaebjbiddefaaW.PrintWords Go.Proofs.YtdiaebjbiddefaaW.PrintLast Go.Proofs.YtdiaebjbiddefaaW.PrintMore
attribute [local go_sem] max2_int min2_int max_two min_two max_three min_three max_four min_four   -- for this text's walks alone
set_option linter.unusedVariables false
set_option linter.unusedSimpArgs false
set_option maxHeartbeats 8000000
set_option maxRecDepth 100000

/-! ### laws_szInt64S: function 75 -/
def laws_szInt64S.f (l0 : List Int) (a1 : Int) : Option (Int) := if (wrap64 (a1 - (l0.length : Int))) < 0 then (some (-1)) else (some (wrap64 (a1 - (l0.length : Int))))
theorem laws_szInt64S.calls (A0 : Option Addr) (c0 : Nat) (l0 : List Int) (a1 : Int) (r : Int) (w : World) (C0 : Cm (Kd.int .i64) w A0 c0 l0) (h : laws_szInt64S.f l0 a1 = some r) :
 Calls Try.prog 75 #[.slice A0 l0.length c0, .int .i64 a1] w fun e w' => e = .returned (.int .i64 r) ∧ Drawn0 w w' := by
 have H : (if (wrap64 (a1 - (l0.length : Int))) < 0 then (some (-1)) else (some (wrap64 (a1 - (l0.length : Int))))) = some r := h
 clear h
 replace H := sG H; rcases H with ⟨c3b0, H⟩ | ⟨c3b0, H⟩
 ·
  obtain rfl := sJ H; go_enter Try.func75, Try.ntmps75
  go_wp2
  go_ret
  exact ⟨by first | rfl | (simp; done) | (simp [*]; done), by repeat (first | exact Drawn0.refl _ | apply Drawn0.step)⟩
 obtain rfl := sJ H; go_enter Try.func75, Try.ntmps75
 go_wp2
 go_ret
 exact ⟨by first | rfl | (simp; done) | (simp [*]; done), by repeat (first | exact Drawn0.refl _ | apply Drawn0.step)⟩

/-! ### laws_szPoint: function 109 -/
def laws_szPoint.f (l0_0 : List Int) (a1 : Int) : Option (Int) := (laws_szInt64S.f l0_0 a1).bind fun t102 => (if t102 < 0 then (some (-1)) else (some t102))
theorem laws_szPoint.calls (A0_0 : Option Addr) (c0_0 : Nat) (l0_0 : List Int) (a1 : Int) (r : Int) (w : World) (C0_0 : Cm (Kd.int .i64) w A0_0 c0_0 l0_0) (h : laws_szPoint.f l0_0 a1 = some r) :
 Calls Try.prog 109 #[.agg #[.slice A0_0 l0_0.length c0_0], .int .i64 a1] w fun e w' => e = .returned (.int .i64 r) ∧ Below w.heap.size w w' := by
 have hu107 := Try.underlying107
 have HB := yD (Below.refl w.heap.size w)
 have H : ((laws_szInt64S.f l0_0 a1).bind fun t102 => (if t102 < 0 then (some (-1)) else (some t102))) = some r := h
 clear h
 replace ⟨t102, A3, H⟩ := sV H
 replace H := sG H; rcases H with ⟨c4b0, H⟩ | ⟨c4b0, H⟩
 ·
  obtain rfl := sJ H; go_enter Try.func109, Try.ntmps109
  go_wp2_with (first | ((with_reducible refine gate_dst (N := 2) rfl ?_); refine bF (N := 2) (cs := #[.slice A0_0 l0_0.length c0_0]) (t := 107) HB ?_; intro gb101 w7 BK101 GW101 HB; have hcz8_0 : w7.cell? ⟨gb101, 0, none⟩ = some (.slice A0_0 l0_0.length c0_0) := (yG BK101.out 0).trans rfl; have hfz8_0 := yR BK101.out 0) | ((with_reducible refine gate_callee (f := 75) rfl ?_); refine gL 8 Try.func75 _ (dm (laws_szInt64S.calls _ _ l0_0 a1 t102 _ (C0_0.b HB) A3.out) fun nd => ?_)))
  go_ret
  exact ⟨kE, kR0 HB⟩
 obtain rfl := sJ H; go_enter Try.func109, Try.ntmps109
 go_wp2_with (first | ((with_reducible refine gate_dst (N := 2) rfl ?_); refine bF (N := 2) (cs := #[.slice A0_0 l0_0.length c0_0]) (t := 107) HB ?_; intro gb101 w5 BK101 GW101 HB; have hcz6_0 : w5.cell? ⟨gb101, 0, none⟩ = some (.slice A0_0 l0_0.length c0_0) := (yG BK101.out 0).trans rfl; have hfz6_0 := yR BK101.out 0) | ((with_reducible refine gate_callee (f := 75) rfl ?_); refine gL 8 Try.func75 _ (dm (laws_szInt64S.calls _ _ l0_0 a1 t102 _ (C0_0.b HB) A3.out) fun nd => ?_)))
 go_ret
 exact ⟨kE, kR0 HB⟩

/-! ### laws_szPointS: function 76 -/
def laws_szPointS.l0 : Nat → List (S107) → Int → Int → Option (Int)
 | 0, _, _, _ => none
 | k + 1, x0, x1, x5 => if x5 < (x0.length : Int) then (if 0 ≤ x5 then ((laws_szPoint.f ((rd_T107 x0 x5).f0) x1).bind fun t104 => (if t104 < 0 then (some (-1)) else (laws_szPointS.l0 k x0 t104 (wrap64 (x5 + 1))))) else (none)) else (some x1)
def laws_szPointS.f (k : Nat) (l0 : List (S107)) (a1 : Int) : Option (Int) := if (wrap64 (a1 - (l0.length : Int))) < 0 then (some (-1)) else (laws_szPointS.l0 k l0 (wrap64 (a1 - (l0.length : Int))) 0)
theorem laws_szPointS.calls (k : Nat) (A0 : Option Addr) (c0 : Nat) (l0 : List (S107)) (a1 : Int) (r : Int) (w : World) (C0 : Cm k107 w A0 c0 l0) (h : laws_szPointS.f k l0 a1 = some r) :
 Calls Try.prog 76 #[.slice A0 l0.length c0, .int .i64 a1] w fun e w' => e = .returned (.int .i64 r) ∧ Below w.heap.size w w' := by
 have hu107 := Try.underlying107
 have HB := yD (Below.refl w.heap.size w)
 have H : (if (wrap64 (a1 - (l0.length : Int))) < 0 then (some (-1)) else (laws_szPointS.l0 k l0 (wrap64 (a1 - (l0.length : Int))) 0)) = some r := h
 clear h
 replace H := sF H; rcases H with ⟨c3b0, H⟩ | ⟨c3b0, H⟩
 ·
  obtain rfl := sJ H; go_enter Try.func76, Try.ntmps76
  go_wp2
  go_ret
  exact ⟨kE, kR1 HB⟩
 have H' := yD H
 clear H; go_enter Try.func76, Try.ntmps76
 go_wp2
 go_loopg [1, 5] k (fun kq v1 v5 w' => ∃ (x1_1 : Int) (x5_1 : Int), v1 = .int .i64 x1_1 ∧ v5 = .int .i64 x5_1 ∧ Aside0 (laws_szPointS.l0 kq l0 x1_1 x5_1 = some r) ∧ Aside0 (kq ≤ k) ∧ Aside0 (Below w.heap.size w w'))
 case atStart => exact ⟨(wrap64 (a1 - (l0.length : Int))), (0), kF, kF, H', ⟨Nat.le_refl _⟩, ⟨kR1 HB⟩⟩
 case round =>
  clear H'
  obtain ⟨x1_1, x5_1, rfl, rfl, HA, HK1, HB⟩ := hrel
  cases gk with
  | zero => exact absurd HA.out (by simp [laws_szPointS.l0])
  | succ k1 =>
   have H := HA.out; clear HA
   simp only [laws_szPointS.l0] at H
   replace H := sG H; rcases H with ⟨c4b0, H⟩ | ⟨c4b0, H⟩
   · obtain rfl := sJ H
     go_wp2
     go_ret
     exact ⟨kE, kR1 HB⟩
   replace ⟨c5b0, H⟩ := sE H
   replace ⟨t104, A6, H⟩ := sV H
   replace H := sF H; rcases H with ⟨c7b0, H⟩ | ⟨c7b0, H⟩
   ·
    obtain rfl := sJ H
    obtain ⟨p103, q103, ad103, A103_0, c103_0, e103, hx103_0, HC103_0, HR103_0⟩ := sI (at_T107 C0.r x5_1)
    cases e103
    replace hx103_0 := kD HB hx103_0
    go_wp2_with (first | ((with_reducible refine gate_callee (f := 109) rfl ?_); refine gL 23 Try.func109 _ ((laws_szPoint.calls _ _ ((rd_T107 l0 x5_1).f0) x1_1 t104 _ (cB HR103_0 HC103_0 HB) A6.out).mono ?_); rintro e w8 ⟨rfl, hb⟩; refine ⟨_, rfl, ?_⟩; replace HB := zX HB hb; clear hb))
    go_ret
    exact ⟨kE, kR1 HB⟩
   have H' := yD H
   clear H
   obtain ⟨p103, q103, ad103, A103_0, c103_0, e103, hx103_0, HC103_0, HR103_0⟩ := sI (at_T107 C0.r x5_1)
   cases e103
   replace hx103_0 := kD HB hx103_0
   go_wp2_with (first | ((with_reducible refine gate_callee (f := 109) rfl ?_); refine gL 23 Try.func109 _ ((laws_szPoint.calls _ _ ((rd_T107 l0 x5_1).f0) x1_1 t104 _ (cB HR103_0 HC103_0 HB) A6.out).mono ?_); rintro e w9 ⟨rfl, hb⟩; refine ⟨_, rfl, ?_⟩; replace HB := zX HB hb; clear hb))
   go_roundg k1
   case measure => have := HK1.out; omega
   case rel => exact ⟨(t104), (wrap64 (x5_1 + 1)), kF, kF, H', ⟨by have := HK1.out; omega⟩, ⟨kR1 HB⟩⟩

/-! ### laws_szSelection: function 37 -/
def laws_szSelection.f (k : Nat) (a0_0 : Int) (l0_1 : List Int) (l0_2 : List Int) (l0_3 : List Int) (l0_4 : List Int) (l0_5 : List (S107)) (a1 : Int) : Option (Int) := (laws_szInt64S.f l0_1 a1).bind fun t106 => (if t106 < 0 then (some (-1)) else ((laws_szInt64S.f l0_2 t106).bind fun t107 => (if t107 < 0 then (some (-1)) else ((laws_szInt64S.f l0_3 t107).bind fun t108 => (if t108 < 0 then (some (-1)) else ((laws_szInt64S.f l0_4 t108).bind fun t109 => (if t109 < 0 then (some (-1)) else ((laws_szPointS.f k l0_5 t109).bind fun t110 => (if t110 < 0 then (some (-1)) else (some t110))))))))))
theorem laws_szSelection.calls (k : Nat) (a0_0 : Int) (A0_1 : Option Addr) (c0_1 : Nat) (l0_1 : List Int) (A0_2 : Option Addr) (c0_2 : Nat) (l0_2 : List Int) (A0_3 : Option Addr) (c0_3 : Nat) (l0_3 : List Int) (A0_4 : Option Addr) (c0_4 : Nat) (l0_4 : List Int) (A0_5 : Option Addr) (c0_5 : Nat) (l0_5 : List (S107)) (a1 : Int) (r : Int) (w : World) (C0_1 : Cm (Kd.int .i64) w A0_1 c0_1 l0_1) (C0_2 : Cm (Kd.int .i64) w A0_2 c0_2 l0_2) (C0_3 : Cm (Kd.int .i64) w A0_3 c0_3 l0_3) (C0_4 : Cm (Kd.int .i64) w A0_4 c0_4 l0_4) (C0_5 : Cm k107 w A0_5 c0_5 l0_5) (h : laws_szSelection.f k a0_0 l0_1 l0_2 l0_3 l0_4 l0_5 a1 = some r) :
 Calls Try.prog 37 #[.agg #[.int .i64 a0_0, .slice A0_1 l0_1.length c0_1, .slice A0_2 l0_2.length c0_2, .slice A0_3 l0_3.length c0_3, .slice A0_4 l0_4.length c0_4, .slice A0_5 l0_5.length c0_5], .int .i64 a1] w fun e w' => e = .returned (.int .i64 r) ∧ Below w.heap.size w w' := by
 have hu49 := Try.underlying49
 have HB := yD (Below.refl w.heap.size w)
 have H : ((laws_szInt64S.f l0_1 a1).bind fun t106 => (if t106 < 0 then (some (-1)) else ((laws_szInt64S.f l0_2 t106).bind fun t107 => (if t107 < 0 then (some (-1)) else ((laws_szInt64S.f l0_3 t107).bind fun t108 => (if t108 < 0 then (some (-1)) else ((laws_szInt64S.f l0_4 t108).bind fun t109 => (if t109 < 0 then (some (-1)) else ((laws_szPointS.f k l0_5 t109).bind fun t110 => (if t110 < 0 then (some (-1)) else (some t110))))))))))) = some r := h
 clear h
 replace ⟨t106, A3, H⟩ := sV H
 replace H := sF H; rcases H with ⟨c4b0, H⟩ | ⟨c4b0, H⟩
 ·
  obtain rfl := sJ H; go_enter Try.func37, Try.ntmps37
  go_wp2_with (first | ((with_reducible refine gate_dst (N := 2) rfl ?_); refine bF (N := 2) (cs := #[.int .i64 a0_0, .slice A0_1 l0_1.length c0_1, .slice A0_2 l0_2.length c0_2, .slice A0_3 l0_3.length c0_3, .slice A0_4 l0_4.length c0_4, .slice A0_5 l0_5.length c0_5]) (t := 49) HB ?_; intro gb105 w5 BK105 GW105 HB; have := cf6_ BK105.out) | ((with_reducible refine gate_callee (f := 75) rfl ?_); refine gL 8 Try.func75 _ (dm (laws_szInt64S.calls _ _ l0_1 a1 t106 _ (C0_1.b HB) A3.out) fun nd => ?_)))
  go_ret
  exact ⟨kE, kR0 HB⟩
 replace ⟨t107, A7, H⟩ := sV H
 replace H := sF H; rcases H with ⟨c8b0, H⟩ | ⟨c8b0, H⟩
 ·
  obtain rfl := sJ H; go_enter Try.func37, Try.ntmps37
  go_wp2_with (first | ((with_reducible refine gate_dst (N := 2) rfl ?_); refine bF (N := 2) (cs := #[.int .i64 a0_0, .slice A0_1 l0_1.length c0_1, .slice A0_2 l0_2.length c0_2, .slice A0_3 l0_3.length c0_3, .slice A0_4 l0_4.length c0_4, .slice A0_5 l0_5.length c0_5]) (t := 49) HB ?_; intro gb105 w9 BK105 GW105 HB; have := cf6_ BK105.out) | ((with_reducible refine gate_callee (f := 75) rfl ?_); refine gL 8 Try.func75 _ (dm (laws_szInt64S.calls _ _ l0_1 a1 t106 _ (C0_1.b HB) A3.out) fun nd => ?_)) | ((with_reducible refine gate_callee (f := 75) rfl ?_); refine gL 14 Try.func75 _ (dm (laws_szInt64S.calls _ _ l0_2 t106 t107 _ (C0_2.b HB) A7.out) fun nd => ?_)))
  go_ret
  exact ⟨kE, kR0 HB⟩
 replace ⟨t108, A11, H⟩ := sV H
 replace H := sF H; rcases H with ⟨c12b0, H⟩ | ⟨c12b0, H⟩
 ·
  obtain rfl := sJ H; go_enter Try.func37, Try.ntmps37
  go_wp2_with (first | ((with_reducible refine gate_dst (N := 2) rfl ?_); refine bF (N := 2) (cs := #[.int .i64 a0_0, .slice A0_1 l0_1.length c0_1, .slice A0_2 l0_2.length c0_2, .slice A0_3 l0_3.length c0_3, .slice A0_4 l0_4.length c0_4, .slice A0_5 l0_5.length c0_5]) (t := 49) HB ?_; intro gb105 w13 BK105 GW105 HB; have := cf6_ BK105.out) | ((with_reducible refine gate_callee (f := 75) rfl ?_); refine gL 8 Try.func75 _ (dm (laws_szInt64S.calls _ _ l0_1 a1 t106 _ (C0_1.b HB) A3.out) fun nd => ?_)) | ((with_reducible refine gate_callee (f := 75) rfl ?_); refine gL 14 Try.func75 _ (dm (laws_szInt64S.calls _ _ l0_2 t106 t107 _ (C0_2.b HB) A7.out) fun nd => ?_)) | ((with_reducible refine gate_callee (f := 75) rfl ?_); refine gL 20 Try.func75 _ (dm (laws_szInt64S.calls _ _ l0_3 t107 t108 _ (C0_3.b HB) A11.out) fun nd => ?_)))
  go_ret
  exact ⟨kE, kR0 HB⟩
 replace ⟨t109, A15, H⟩ := sV H
 replace H := sF H; rcases H with ⟨c16b0, H⟩ | ⟨c16b0, H⟩
 ·
  obtain rfl := sJ H; go_enter Try.func37, Try.ntmps37
  go_wp2_with (first | ((with_reducible refine gate_dst (N := 2) rfl ?_); refine bF (N := 2) (cs := #[.int .i64 a0_0, .slice A0_1 l0_1.length c0_1, .slice A0_2 l0_2.length c0_2, .slice A0_3 l0_3.length c0_3, .slice A0_4 l0_4.length c0_4, .slice A0_5 l0_5.length c0_5]) (t := 49) HB ?_; intro gb105 w17 BK105 GW105 HB; have := cf6_ BK105.out) | ((with_reducible refine gate_callee (f := 75) rfl ?_); refine gL 8 Try.func75 _ (dm (laws_szInt64S.calls _ _ l0_1 a1 t106 _ (C0_1.b HB) A3.out) fun nd => ?_)) | ((with_reducible refine gate_callee (f := 75) rfl ?_); refine gL 14 Try.func75 _ (dm (laws_szInt64S.calls _ _ l0_2 t106 t107 _ (C0_2.b HB) A7.out) fun nd => ?_)) | ((with_reducible refine gate_callee (f := 75) rfl ?_); refine gL 20 Try.func75 _ (dm (laws_szInt64S.calls _ _ l0_3 t107 t108 _ (C0_3.b HB) A11.out) fun nd => ?_)) | ((with_reducible refine gate_callee (f := 75) rfl ?_); refine gL 26 Try.func75 _ (dm (laws_szInt64S.calls _ _ l0_4 t108 t109 _ (C0_4.b HB) A15.out) fun nd => ?_)))
  go_ret
  exact ⟨kE, kR0 HB⟩
 replace ⟨t110, A19, H⟩ := sV H
 replace H := sG H; rcases H with ⟨c20b0, H⟩ | ⟨c20b0, H⟩
 ·
  obtain rfl := sJ H; go_enter Try.func37, Try.ntmps37
  go_wp2_with (first | ((with_reducible refine gate_dst (N := 2) rfl ?_); refine bF (N := 2) (cs := #[.int .i64 a0_0, .slice A0_1 l0_1.length c0_1, .slice A0_2 l0_2.length c0_2, .slice A0_3 l0_3.length c0_3, .slice A0_4 l0_4.length c0_4, .slice A0_5 l0_5.length c0_5]) (t := 49) HB ?_; intro gb105 w24 BK105 GW105 HB; have := cf6_ BK105.out) | ((with_reducible refine gate_callee (f := 75) rfl ?_); refine gL 8 Try.func75 _ (dm (laws_szInt64S.calls _ _ l0_1 a1 t106 _ (C0_1.b HB) A3.out) fun nd => ?_)) | ((with_reducible refine gate_callee (f := 75) rfl ?_); refine gL 14 Try.func75 _ (dm (laws_szInt64S.calls _ _ l0_2 t106 t107 _ (C0_2.b HB) A7.out) fun nd => ?_)) | ((with_reducible refine gate_callee (f := 75) rfl ?_); refine gL 20 Try.func75 _ (dm (laws_szInt64S.calls _ _ l0_3 t107 t108 _ (C0_3.b HB) A11.out) fun nd => ?_)) | ((with_reducible refine gate_callee (f := 75) rfl ?_); refine gL 26 Try.func75 _ (dm (laws_szInt64S.calls _ _ l0_4 t108 t109 _ (C0_4.b HB) A15.out) fun nd => ?_)) | ((with_reducible refine gate_callee (f := 76) rfl ?_); refine gL 32 Try.func76 _ ((laws_szPointS.calls k _ _ l0_5 t109 t110 _ (C0_5.b HB) A19.out).mono ?_); rintro e w26 ⟨rfl, hb⟩; refine ⟨_, rfl, ?_⟩; replace BK105 := zY BK105 hb; replace HB := zX HB hb; clear hb))
  go_ret
  exact ⟨kE, kR0 HB⟩
 obtain rfl := sJ H; go_enter Try.func37, Try.ntmps37
 go_wp2_with (first | ((with_reducible refine gate_dst (N := 2) rfl ?_); refine bF (N := 2) (cs := #[.int .i64 a0_0, .slice A0_1 l0_1.length c0_1, .slice A0_2 l0_2.length c0_2, .slice A0_3 l0_3.length c0_3, .slice A0_4 l0_4.length c0_4, .slice A0_5 l0_5.length c0_5]) (t := 49) HB ?_; intro gb105 w21 BK105 GW105 HB; have := cf6_ BK105.out) | ((with_reducible refine gate_callee (f := 75) rfl ?_); refine gL 8 Try.func75 _ (dm (laws_szInt64S.calls _ _ l0_1 a1 t106 _ (C0_1.b HB) A3.out) fun nd => ?_)) | ((with_reducible refine gate_callee (f := 75) rfl ?_); refine gL 14 Try.func75 _ (dm (laws_szInt64S.calls _ _ l0_2 t106 t107 _ (C0_2.b HB) A7.out) fun nd => ?_)) | ((with_reducible refine gate_callee (f := 75) rfl ?_); refine gL 20 Try.func75 _ (dm (laws_szInt64S.calls _ _ l0_3 t107 t108 _ (C0_3.b HB) A11.out) fun nd => ?_)) | ((with_reducible refine gate_callee (f := 75) rfl ?_); refine gL 26 Try.func75 _ (dm (laws_szInt64S.calls _ _ l0_4 t108 t109 _ (C0_4.b HB) A15.out) fun nd => ?_)) | ((with_reducible refine gate_callee (f := 76) rfl ?_); refine gL 32 Try.func76 _ ((laws_szPointS.calls k _ _ l0_5 t109 t110 _ (C0_5.b HB) A19.out).mono ?_); rintro e w23 ⟨rfl, hb⟩; refine ⟨_, rfl, ?_⟩; replace BK105 := zY BK105 hb; replace HB := zX HB hb; clear hb))
 go_ret
 exact ⟨kE, kR0 HB⟩

/-! ### laws_toInt64S: function 39 -/
def laws_toInt64S.l0 : Nat → List Int → List Int → Int → Option (List Int)
 | 0, _, _, _ => none
 | k + 1, x0, x3, x4 => if x4 < (x0.length : Int) then (if 0 ≤ x4 then (if x4 < (x3.length : Int) then (laws_toInt64S.l0 k x0 (x3.set (x4 : Int).toNat (rd x0 x4)) (wrap64 (x4 + 1))) else (none)) else (none)) else (some x3)
def laws_toInt64S.f (k : Nat) (l0 : List Int) : Option (List Int) := if 0 ≤ (l0.length : Int) then (if ((l0.length : Int) : Int).toNat ≤ 35184372088832 then (laws_toInt64S.l0 k l0 (List.replicate ((l0.length : Int) : Int).toNat 0) 0) else (none)) else (none)
theorem laws_toInt64S.calls (k : Nat) (A0 : Option Addr) (c0 : Nat) (l0 : List Int) (r : List Int) (w : World) (C0 : Cm (Kd.int .i64) w A0 c0 l0) (h : laws_toInt64S.f k l0 = some r) :
 Calls Try.prog 39 #[.slice A0 l0.length c0] w fun e w' => ∃ v0_ : Value, e = .returned (v0_) ∧ Kd.R (Kd.int .i64) 2 w' w.heap.size (fun _ => True) v0_ r ∧ Below w.heap.size w w' := by
 have HB := yD (Below.refl w.heap.size w)
 have H : (if 0 ≤ (l0.length : Int) then (if ((l0.length : Int) : Int).toNat ≤ 35184372088832 then (laws_toInt64S.l0 k l0 (List.replicate ((l0.length : Int) : Int).toNat 0) 0) else (none)) else (none)) = some r := h
 clear h
 replace ⟨c2, H⟩ := sD H
 have c2b0 := eq_true c2
 have c2b1 : decide (0 ≤ (l0.length : Int)) = true := zR c2; clear c2
 replace ⟨c3, H⟩ := sD H
 have c3b0 := eq_true c3
 have c3b1 : decide (((l0.length : Int) : Int).toNat ≤ 35184372088832) = true := zR c3
 clear c3
 generalize hy111 : ((List.replicate ((l0.length : Int) : Int).toNat 0) : List Int) = y111 at H
 have Ny111 := yD hy111.symm
 clear hy111
 have H' := yD H
 clear H; go_enter Try.func39, Try.ntmps39
 go_wp2_with (first | ((with_reducible refine gate_dst (N := 7) rfl ?_); refine Kd.R_make (Kd.int .i64) _ 2 rfl (N := 7) rfl 36 _ _ rfl (l0.length : Int) rfl rfl Try.underlying36 (.int .i64 0) 8 info2 rfl (by decide) (by omega) 0 (ok := fun _ => True) (okp := fun _ => True) rfl (fun _ hk => hk) trivial (zP (by assumption)) (Nat.le_trans (Nat.mul_le_mul_right _ (zP (by assumption) : (l0.length : Int).toNat ≤ 35184372088832)) (by omega)) (Below.refl _ _) (Nat.le_refl _) ?_; intro v112 w4 ho5 hb hg_ hnew_; clear hg_ hnew_; (first | rw [← Ny111.out] at ho5 | (simp only [Int.reduceToNat] at ho5; rw [← Ny111.out] at ho5)); have HO113 := yD (yZ ho5 (below_size (kB HB))); replace HB := zX HB hb; clear hb ho5))
 (try simp only [Act.put, zH, zI, zJ])
 go_loopg [4] k (fun kq v4 w' => ∃ (x3_1 : List Int) (x4_1 : Int), v4 = .int .i64 x4_1 ∧ Aside0 (laws_toInt64S.l0 kq l0 x3_1 x4_1 = some r) ∧ Aside0 (kq ≤ k) ∧ Aside0 (Kd.R (Kd.int .i64) 2 w' w.heap.size (fun _ => True) v112 x3_1) ∧ Aside0 (Below w.heap.size w w'))
 case atStart => exact ⟨(y111), (0), kF, H', ⟨Nat.le_refl _⟩, ⟨kA HO113⟩, ⟨kR1 HB⟩⟩
 case round =>
  clear H'
  obtain ⟨x3_1, x4_1, rfl, HA, HK1, HO_3, HB⟩ := hrel
  cases gk with
  | zero => exact absurd HA.out (by simp [laws_toInt64S.l0])
  | succ k1 =>
   have H := HA.out; clear HA
   simp only [laws_toInt64S.l0] at H
   replace H := sG H; rcases H with ⟨c6b0, H⟩ | ⟨c6b0, H⟩
   · obtain rfl := sJ H
     go_wp2
     go_ret
     exact ⟨_, kE, kA HO_3, kR1 HB⟩
   replace ⟨c7b0, H⟩ := sE H
   replace ⟨c8b0, H⟩ := sE H
   generalize hy115 : ((x3_1.set (x4_1 : Int).toNat (rd l0 x4_1)) : List Int) = y115 at H
   have Ny115 := yD hy115.symm
   clear hy115
   have H' := yD H
   clear H
   obtain ⟨p114, q114, ad114, e114, hx114_0⟩ := sI (Kd.at_int C0.r x4_1)
   cases e114
   replace hx114_0 := kD HB hx114_0
   have p9 : 0 ≤ (x4_1 : Int) := zP (by assumption)
   have q9 : (x4_1 : Int) < ((x3_1.length : Int) : Int) := zP (by assumption)
   obtain ⟨go9, co9, eo9, gb9, gl9, cl9, HG9⟩ := Kd.R_form HO_3.out (by omega)
   (first | cases eo9 | (injection eo9 with ea_ en_ ec_; (first | subst ea_ | (injection ea_ with ea_; subst ea_)); subst ec_; clear en_))
   have GB9 := yD gb9
   have GG9 := yD HG9
   clear gb9 gl9 HG9
   obtain ⟨hx9_0, hf9_0⟩ := Kd.R_celln 0 HO_3.out (x4_1 : Int) p9 q9
   replace p9 := eq_true p9; replace q9 := eq_true q9
   have HP10 := Kd.R_putg HO_3.out (x4_1 : Int) (rd l0 x4_1)
   go_wp2_with (first | ((with_reducible refine gate_store (t := 2) (p := 20) rfl ?_); refine store_event (t := 2) (p := 20) (v := ?vo_w11) (w1 := (wr.setCell ⟨go9, (x4_1 : Int).toNat, none⟩ (.int .i64 (rd l0 x4_1)))) ?hg ?ho ?hn ?hr ?_; (case ho => rfl); (case hg => rfl); (case hn => rfl); (case hr => first | (go_simp; done) | (go_simp; rfl)); intro w11 hw; have hg : wr.grownBy w11 (some go9) := (by rw [hw]; exact HP10.2); have hp_ : Kd.R (Kd.int .i64) 2 w11 w.heap.size (fun _ => True) (.slice (some ⟨go9, 0, none⟩) x3_1.length co9) y115 := (by rw [hw, Ny115.out]; exact HP10.1); clear HP10; replace HO_3 := yD (hp_); replace HB := yD ((by rw [hw]; exact yE (HB.out) GB9.out : Below w.heap.size w w11)); clear hg hw hp_))
   go_roundg k1
   case measure => have := HK1.out; omega
   case rel => exact ⟨(y115), (wrap64 (x4_1 + 1)), kF, H', ⟨by have := HK1.out; omega⟩, ⟨kA HO_3⟩, ⟨kR1 HB⟩⟩

/-! ### laws_toPoint: function 113 -/
def laws_toPoint.f (k : Nat) (l0_0 : List Int) : Option (List Int) := (laws_toInt64S.f k l0_0).bind fun t119 => (some t119)
theorem laws_toPoint.calls (k : Nat) (A0_0 : Option Addr) (c0_0 : Nat) (l0_0 : List Int) (r : List Int) (w : World) (C0_0 : Cm (Kd.int .i64) w A0_0 c0_0 l0_0) (h : laws_toPoint.f k l0_0 = some r) :
 Calls Try.prog 113 #[.agg #[.slice A0_0 l0_0.length c0_0]] w fun e w' => ∃ v0_ : Value, e = .returned (.agg #[v0_]) ∧ Kd.R (Kd.int .i64) 2 w' w.heap.size (fun _ => True) v0_ r ∧ Below w.heap.size w w' := by
 have hu107 := Try.underlying107; have hu110 := Try.underlying110
 have HB := yD (Below.refl w.heap.size w)
 have H : ((laws_toInt64S.f k l0_0).bind fun t119 => (some t119)) = some r := h
 clear h
 replace ⟨t119, A2, H⟩ := sV H
 obtain rfl := sJ H; go_enter Try.func113, Try.ntmps113
 go_wp2_with (first | ((with_reducible refine gate_dst (N := 1) rfl ?_); refine bF (N := 1) (cs := #[.slice A0_0 l0_0.length c0_0]) (t := 107) HB ?_; intro gb116 w3 BK116 GW116 HB) | ((with_reducible refine gate_dst (N := 2) rfl ?_); refine bE (N := 2) (cs := #[.slice none 0 0]) (t := 110) ?_; intro gb117 hg w4 hbox hb; have BK117 := yD (hbox); have GW117 := sW hg HB; replace HB := zX HB hb; have NB116_117 := yD ((by rw [hg]; exact Nat.ne_of_lt (blk_lt (kN BK116)) : gb116 ≠ gb117)); have NB117_116 := yD ((by rw [hg]; exact Nat.ne_of_gt (blk_lt (kN BK116)) : gb117 ≠ gb116)); replace BK116 := zY BK116 hb; clear hb hbox hg) | ((with_reducible refine gate_dst (N := 3) rfl ?_); refine bE (N := 3) (cs := #[.slice none 0 0]) (t := 110) ?_; intro gb118 hg w5 hbox hb; have BK118 := yD (hbox); have GW118 := sW hg HB; replace HB := zX HB hb; have NB116_118 := yD ((by rw [hg]; exact Nat.ne_of_lt (blk_lt (kN BK116)) : gb116 ≠ gb118)); have NB118_116 := yD ((by rw [hg]; exact Nat.ne_of_gt (blk_lt (kN BK116)) : gb118 ≠ gb116)); replace BK116 := zY BK116 hb; have NB117_118 := yD ((by rw [hg]; exact Nat.ne_of_lt (blk_lt (kN BK117)) : gb117 ≠ gb118)); have NB118_117 := yD ((by rw [hg]; exact Nat.ne_of_gt (blk_lt (kN BK117)) : gb118 ≠ gb117)); replace BK117 := zY BK117 hb; clear hb hbox hg; have hnb6 := NB116_117.out; have hnc6 := NB117_116.out; have hnb7 := NB116_118.out; have hnc7 := NB118_116.out; have hcz8_0 : w5.cell? ⟨gb116, 0, none⟩ = some (.slice A0_0 l0_0.length c0_0) := (yG BK116.out 0).trans rfl; have hfz8_0 := yR BK116.out 0) | ((with_reducible refine gate_callee (f := 39) rfl ?_); refine gL 6 Try.func39 _ ((laws_toInt64S.calls k _ _ l0_0 t119 _ (C0_0.b HB) A2.out).mono ?_); rintro e w9 ⟨v120, rfl, ho0, hb⟩; refine ⟨_, rfl, ?_⟩; have HO121 := yD (yZ ho0 (below_size (kB HB))); replace BK116 := zY BK116 hb; replace BK117 := zY BK117 hb; replace BK118 := zY BK118 hb; replace HB := zX HB hb; clear hb ho0; obtain ⟨Ao10, co10, eo10⟩ := Kd.R_slice HO121.out; subst eo10; have hnb11 := NB118_117.out; have hnc11 := NB117_118.out; have hcz12_0 : w9.cell? ⟨gb118, 0, none⟩ = some (.slice none 0 0) := (yG BK118.out 0).trans rfl; have hfz12_0 := yR BK118.out 0; have hcz13_0 : w9.cell? ⟨gb117, 0, none⟩ = some (.slice none 0 0) := (yG BK117.out 0).trans rfl; have hfz13_0 := yR BK117.out 0))
 refine bodyPost_ret (results_cell_row rfl _ _ gb117 110 #[.slice Ao10 t119.length co10] (0, 0) _ rfl (by (with_reducible repeat (first | refine yM ?_ _ | refine yO ?_ | refine yN ?_ _)); refine blk_put (cs := #[.slice none 0 0]) ?_ 0 _ rfl; (with_reducible repeat (first | refine yM ?_ _ | refine yO ?_ | refine yN ?_ _)); refine blk_far ?_ NB117_118.out _; (with_reducible repeat (first | refine yM ?_ _ | refine yO ?_ | refine yN ?_ _)); exact BK117.out) Try.underlying110 rfl (by kernel_rfl)) rfl ?_
 exact ⟨_, kE, by (with_reducible repeat (first | apply yA | apply yB | apply yC)); exact zF (yF (p := ⟨gb117, 0, none⟩) (yF (p := ⟨gb118, 0, none⟩) (Kd.R_types (Kd.R_types HO121.out BK118.out (by decide)) BK117.out (by decide)) (fun _ hk => hk.1.2) (.slice Ao10 t119.length co10)) (fun _ hk => hk.2) (.slice Ao10 t119.length co10)) (fun _ hk => trivial), kR0 HB⟩

/-! ### laws_toPointS: function 79 -/
def laws_toPointS.l0 : Nat → List (S107) → List (S110) → Int → Option ((List (S110)))
 | 0, _, _, _ => none
 | k + 1, x0, x3, x4 => if x4 < (x0.length : Int) then (if 0 ≤ x4 then ((laws_toPoint.f k ((rd_T107 x0 x4).f0)).bind fun t126 => (if x4 < (x3.length : Int) then (laws_toPointS.l0 k x0 (x3.set (x4 : Int).toNat (⟨t126⟩ : S110)) (wrap64 (x4 + 1))) else (none))) else (none)) else (some x3)
def laws_toPointS.f (k : Nat) (l0 : List (S107)) : Option ((List (S110))) := if 0 ≤ (l0.length : Int) then (if ((l0.length : Int) : Int).toNat ≤ 11728124029610 then (laws_toPointS.l0 k l0 (List.replicate ((l0.length : Int) : Int).toNat z110) 0) else (none)) else (none)
theorem laws_toPointS.calls (k : Nat) (A0 : Option Addr) (c0 : Nat) (l0 : List (S107)) (r : List (S110)) (w : World) (C0 : Cm k107 w A0 c0 l0) (h : laws_toPointS.f k l0 = some r) :
 Calls Try.prog 79 #[.slice A0 l0.length c0] w fun e w' => ∃ v0_ : Value, e = .returned (v0_) ∧ Kd.S k110 110 w' w.heap.size (fun _ => True) v0_ r ∧ Below w.heap.size w w' := by
 have hu107 := Try.underlying107; have hu110 := Try.underlying110
 have HB := yD (Below.refl w.heap.size w)
 have H : (if 0 ≤ (l0.length : Int) then (if ((l0.length : Int) : Int).toNat ≤ 11728124029610 then (laws_toPointS.l0 k l0 (List.replicate ((l0.length : Int) : Int).toNat z110) 0) else (none)) else (none)) = some r := h
 clear h
 replace ⟨c2, H⟩ := sD H
 have c2b0 := eq_true c2
 have c2b1 : decide (0 ≤ (l0.length : Int)) = true := zR c2; clear c2
 replace ⟨c3, H⟩ := sD H
 have c3b0 := eq_true c3
 have c3b1 : decide (((l0.length : Int) : Int).toNat ≤ 11728124029610) = true := zR c3
 clear c3
 generalize hy122 : ((List.replicate ((l0.length : Int) : Int).toNat z110) : List (S110)) = y122 at H
 have Ny122 := yD hy122.symm
 clear hy122
 have H' := yD H
 clear H; go_enter Try.func79, Try.ntmps79
 go_wp2_with (first | ((with_reducible refine gate_dst (N := 7) rfl ?_); refine Kd.S_make k110 _ 110 rfl (N := 7) rfl 53 _ _ rfl (l0.length : Int) rfl rfl Try.underlying53 (.agg #[(.slice none 0 0)]) 24 info110 rfl (by decide) (by omega) z110 (ok := fun _ => True) (okp := fun _ => True) (k110_mkM _ _ _ z110 (Kd.R_nil _ _ _ _ _)) (fun _ hk => hk) trivial (zP (by assumption)) (Nat.le_trans (Nat.mul_le_mul_right _ (zP (by assumption) : (l0.length : Int).toNat ≤ 11728124029610)) (by omega)) (Below.refl _ _) (Nat.le_refl _) ?_; intro v123 w4 ho5 hb hg_ hnew_; clear hg_ hnew_; (first | rw [← Ny122.out] at ho5 | (simp only [Int.reduceToNat] at ho5; rw [← Ny122.out] at ho5)); have HO124 := yD (zG ho5 (below_size (kB HB))); replace HB := zX HB hb; clear hb ho5))
 (try simp only [Act.put, zH, zI, zJ])
 go_loopg [4] k (fun kq v4 w' => ∃ (x3_1 : List (S110)) (x4_1 : Int), v4 = .int .i64 x4_1 ∧ Aside0 (laws_toPointS.l0 kq l0 x3_1 x4_1 = some r) ∧ Aside0 (kq ≤ k) ∧ Aside0 (Kd.S k110 110 w' w.heap.size (fun _ => True) v123 x3_1) ∧ Aside0 (Below w.heap.size w w'))
 case atStart => exact ⟨(y122), (0), kF, H', ⟨Nat.le_refl _⟩, ⟨kS HO124⟩, ⟨kR1 HB⟩⟩
 case round =>
  clear H'
  obtain ⟨x3_1, x4_1, rfl, HA, HK1, HO_3, HB⟩ := hrel
  cases gk with
  | zero => exact absurd HA.out (by simp [laws_toPointS.l0])
  | succ k1 =>
   have H := HA.out; clear HA
   simp only [laws_toPointS.l0] at H
   replace H := sG H; rcases H with ⟨c6b0, H⟩ | ⟨c6b0, H⟩
   · obtain rfl := sJ H
     go_wp2
     go_ret
     exact ⟨_, kE, kS HO_3, kR1 HB⟩
   replace ⟨c7b0, H⟩ := sE H
   replace ⟨t126, A8, H⟩ := sV H
   replace ⟨c9b0, H⟩ := sE H
   generalize hy129 : ((x3_1.set (x4_1 : Int).toNat (⟨t126⟩ : S110)) : List (S110)) = y129 at H
   have Ny129 := yD hy129.symm
   clear hy129
   have H' := yD H
   clear H
   obtain ⟨p125, q125, ad125, A125_0, c125_0, e125, hx125_0, HC125_0, HR125_0⟩ := sI (at_T107 C0.r x4_1)
   cases e125
   replace hx125_0 := kD HB hx125_0
   go_wp2_with (first | ((with_reducible refine gate_callee (f := 113) rfl ?_); refine gL 20 Try.func113 _ ((laws_toPoint.calls k1 _ _ ((rd_T107 l0 x4_1).f0) t126 _ (cB HR125_0 HC125_0 HB) A8.out).mono ?_); rintro e w11 ⟨v127, rfl, ho0, hb⟩; refine ⟨_, rfl, ?_⟩; replace HO_3 := yD (Kd.S_elder' (kS HO_3) (yH ho0) hb); have HO128 := yD (yZ ho0 (below_size (kB HB))); replace HB := zX HB hb; clear hb ho0; have p10 : 0 ≤ (x4_1 : Int) := zP (by assumption); have q10 : (x4_1 : Int) < ((x3_1.length : Int) : Int) := zP (by assumption); obtain ⟨go10, co10, eo10, gb10, gl10, cl10, HG10⟩ := Kd.S_form HO_3.out (by omega); (first | cases eo10 | (injection eo10 with ea_ en_ ec_; (first | subst ea_ | (injection ea_ with ea_; subst ea_)); subst ec_; clear en_)); have GB10 := yD gb10; have GG10 := yD HG10; clear gb10 gl10 HG10; obtain ⟨_, ce10, hcl10, hM10, hcc10, hfr10, _, _⟩ := Kd.S_elem HO_3.out z110 (x4_1 : Int) p10 q10; obtain ⟨ve10_0, rfl, ge10_0⟩ := k110_openM hM10; have hx10_0 := hcc10 0 _ rfl; have hf10_0 := hfr10 0; (try simp only [show (k110).sz = 1 from rfl, Nat.mul_one, Nat.add_zero] at hx10_0); (try simp only [show (k110).sz = 1 from rfl, Nat.mul_one, Nat.add_zero] at hf10_0); clear hcl10 hcc10 hfr10 hM10; replace p10 := eq_true p10; replace q10 := eq_true q10; obtain ⟨Ao14, co14, eo14⟩ := Kd.R_slice HO128.out; subst eo14; have n_ := yD (Kd.S_mono (ok' := (fun k_ => oB (.slice Ao14 t126.length co14) k_)) HO_3.out (fun k_ hk => hk.2)); clear HO_3; have HO_3 := n_; clear n_; have HX12 := yD (show Kd.S k110 110 w11 w.heap.size (fun k_ => ((fun _ => True)) k_ ∧ ¬ ((fun k_ => some k_ = (.slice Ao14 t126.length co14 : Value).ownBlock)) k_) (.slice (some ⟨go10, 0, none⟩) x3_1.length co10) x3_1 from (mS HO_3 (fun k_ hk => ⟨trivial, fun e_ => hk e_⟩))); obtain ⟨oki12, ce12, hcl12, hM12, hcc12, hfr12, hoki12, hH12⟩ := Kd.S_elem HX12.out z110 (x4_1 : Int) (zP (by assumption)) (by have h_ : (x4_1 : Int) < ((x3_1.length : Int) : Int) := zP (by assumption); first | exact h_ | (have e_ := (Kd.S_reads' HO_3.out).1; omega) | simpa using h_); obtain ⟨ve12_0, rfl, ge12_0⟩ := k110_openM hM12; have HP12 := Kd.S_seg hH12 (zP (by assumption)) (by have h_ : (x4_1 : Int) < ((x3_1.length : Int) : Int) := zP (by assumption); first | exact h_ | (have e_ := (Kd.S_reads' HO_3.out).1; omega) | simpa using h_) (seg := [.slice Ao14 t126.length co14]) (j := 0) (show 1 ≤ 1 from by decide) (x' := (⟨t126⟩ : S110)) (k110_mkM _ _ _ (⟨t126⟩ : S110) (zF (Kd.R_tight rfl (zF (ok' := fun k_ => ((fun _ => True)) k_ ∧ k_ ≠ go10) (Kd.R_apart' (HO128.out) (Kd.S_typed HO_3.out) (by decide)) (fun k_ hk => ⟨trivial, fun e_ => (hk.2) (by rw [e_]; rfl)⟩))) (fun _ h_ => Or.inr (h_)))) (fun _ hk => hk) (fun k_ hk_ => ((zF (ok' := fun k_ => ((fun _ => True)) k_ ∧ k_ ≠ go10) (Kd.R_apart' (HO128.out) (Kd.S_typed HO_3.out) (by decide)) (fun k_ hk => ⟨trivial, fun e_ => (hk.2) (by rw [e_]; rfl)⟩))).1 k_ hk_.symm); have hx12_0 := hcc12 0 _ rfl; (try simp only [show (k110).sz = 1 from rfl, Nat.mul_one, Nat.add_zero] at hx12_0); have hf12_0 := hfr12 0; (try simp only [show (k110).sz = 1 from rfl, Nat.mul_one, Nat.add_zero] at hf12_0); clear hcl12 hcc12 hfr12 hM12 hoki12 hH12; (try simp only [show (k110).sz = 1 from rfl, Nat.mul_one, Nat.add_zero] at HP12)) | ((with_reducible refine gate_store (t := 110) (p := 21) rfl ?_); refine store_event (t := 110) (p := 21) (v := ?vo_w13) (w1 := (w11.setCell ⟨go10, (x4_1 : Int).toNat, none⟩ (.slice Ao14 t126.length co14))) ?hg ?ho ?hn ?hr ?_; (case ho => rfl); (case hg => rfl); (case hn => rfl); (case hr => first | (go_simp; done) | (go_simp; rfl)); intro w13 hw; have hg : w11.grownBy w13 (some go10) := (by rw [hw]; exact HP12.2); have hp_ : Kd.S k110 110 w13 w.heap.size (fun _ => True) (.slice (some ⟨go10, 0, none⟩) x3_1.length co10) y129 := (by rw [hw, Ny129.out]; exact HP12.1); clear HP12; replace HO_3 := yD (hp_); replace HB := yD ((by rw [hw]; exact yE (HB.out) GB10.out : Below w.heap.size w w13)); clear HO128; clear hg hw hp_))
   go_roundg k1
   case measure => have := HK1.out; omega
   case rel => exact ⟨(y129), (wrap64 (x4_1 + 1)), kF, H', ⟨by have := HK1.out; omega⟩, ⟨kS HO_3⟩, ⟨kR1 HB⟩⟩

/-! ### laws_toSelection: function 40 -/
def laws_toSelection.f (k : Nat) (a0_0 : Int) (l0_1 : List Int) (l0_2 : List Int) (l0_3 : List Int) (l0_4 : List Int) (l0_5 : List (S107)) : Option (Int × List Int × List Int × List Int × List Int × (List (S110))) := (laws_toInt64S.f k l0_1).bind fun t133 => ((laws_toInt64S.f k l0_2).bind fun t136 => ((laws_toInt64S.f k l0_3).bind fun t139 => ((laws_toInt64S.f k l0_4).bind fun t142 => ((laws_toPointS.f k l0_5).bind fun t145 => (some (a0_0, t133, t136, t139, t142, t145))))))
theorem laws_toSelection.calls (k : Nat) (a0_0 : Int) (A0_1 : Option Addr) (c0_1 : Nat) (l0_1 : List Int) (A0_2 : Option Addr) (c0_2 : Nat) (l0_2 : List Int) (A0_3 : Option Addr) (c0_3 : Nat) (l0_3 : List Int) (A0_4 : Option Addr) (c0_4 : Nat) (l0_4 : List Int) (A0_5 : Option Addr) (c0_5 : Nat) (l0_5 : List (S107)) (r1 : Int) (r2 : List Int) (r3 : List Int) (r4 : List Int) (r5 : List Int) (r6 : List (S110)) (w : World) (C0_1 : Cm (Kd.int .i64) w A0_1 c0_1 l0_1) (C0_2 : Cm (Kd.int .i64) w A0_2 c0_2 l0_2) (C0_3 : Cm (Kd.int .i64) w A0_3 c0_3 l0_3) (C0_4 : Cm (Kd.int .i64) w A0_4 c0_4 l0_4) (C0_5 : Cm k107 w A0_5 c0_5 l0_5) (h : laws_toSelection.f k a0_0 l0_1 l0_2 l0_3 l0_4 l0_5 = some (r1, r2, r3, r4, r5, r6)) :
 Calls Try.prog 40 #[.agg #[.int .i64 a0_0, .slice A0_1 l0_1.length c0_1, .slice A0_2 l0_2.length c0_2, .slice A0_3 l0_3.length c0_3, .slice A0_4 l0_4.length c0_4, .slice A0_5 l0_5.length c0_5]] w fun e w' => ∃ v1_ v2_ v3_ v4_ v5_ : Value, e = .returned (.agg #[.int .i64 r1, v1_, v2_, v3_, v4_, v5_]) ∧ Kd.R (Kd.int .i64) 2 w' w.heap.size (fun k_ => some k_ ≠ (v2_ : Value).ownBlock ∧ some k_ ≠ (v3_ : Value).ownBlock ∧ some k_ ≠ (v4_ : Value).ownBlock) v1_ r2 ∧ Kd.R (Kd.int .i64) 2 w' w.heap.size (fun k_ => some k_ ≠ (v1_ : Value).ownBlock ∧ some k_ ≠ (v3_ : Value).ownBlock ∧ some k_ ≠ (v4_ : Value).ownBlock) v2_ r3 ∧ Kd.R (Kd.int .i64) 2 w' w.heap.size (fun k_ => some k_ ≠ (v1_ : Value).ownBlock ∧ some k_ ≠ (v2_ : Value).ownBlock ∧ some k_ ≠ (v4_ : Value).ownBlock) v3_ r4 ∧ Kd.R (Kd.int .i64) 2 w' w.heap.size (fun k_ => some k_ ≠ (v1_ : Value).ownBlock ∧ some k_ ≠ (v2_ : Value).ownBlock ∧ some k_ ≠ (v3_ : Value).ownBlock) v4_ r5 ∧ Kd.S k110 110 w' w.heap.size (fun k_ => some k_ ≠ (v1_ : Value).ownBlock ∧ some k_ ≠ (v2_ : Value).ownBlock ∧ some k_ ≠ (v3_ : Value).ownBlock ∧ some k_ ≠ (v4_ : Value).ownBlock) v5_ r6 ∧ Below w.heap.size w w' := by
 have hu49 := Try.underlying49; have hu55 := Try.underlying55
 have HB := yD (Below.refl w.heap.size w)
 have H : ((laws_toInt64S.f k l0_1).bind fun t133 => ((laws_toInt64S.f k l0_2).bind fun t136 => ((laws_toInt64S.f k l0_3).bind fun t139 => ((laws_toInt64S.f k l0_4).bind fun t142 => ((laws_toPointS.f k l0_5).bind fun t145 => (some (a0_0, t133, t136, t139, t142, t145))))))) = some (r1, r2, r3, r4, r5, r6) := h
 clear h
 replace ⟨t133, A2, H⟩ := sV H
 replace ⟨t136, A3, H⟩ := sV H
 replace ⟨t139, A4, H⟩ := sV H
 replace ⟨t142, A5, H⟩ := sV H
 replace ⟨t145, A6, H⟩ := sV H
 simp only [Option.some.injEq, Prod.mk.injEq] at H
 obtain ⟨rfl, rfl, rfl, rfl, rfl, rfl⟩ := H
 go_enter Try.func40, Try.ntmps40
 go_wp2_with (first | ((with_reducible refine gate_dst (N := 1) rfl ?_); refine bF (N := 1) (cs := #[.int .i64 a0_0, .slice A0_1 l0_1.length c0_1, .slice A0_2 l0_2.length c0_2, .slice A0_3 l0_3.length c0_3, .slice A0_4 l0_4.length c0_4, .slice A0_5 l0_5.length c0_5]) (t := 49) HB ?_; intro gb130 w7 BK130 GW130 HB) | ((with_reducible refine gate_dst (N := 2) rfl ?_); refine bE (N := 2) (cs := #[.int .i64 0, .slice none 0 0, .slice none 0 0, .slice none 0 0, .slice none 0 0, .slice none 0 0]) (t := 55) ?_; intro gb131 hg w8 hbox hb; have BK131 := yD (hbox); have GW131 := sW hg HB; replace HB := zX HB hb; have NB130_131 := yD ((by rw [hg]; exact Nat.ne_of_lt (blk_lt (kN BK130)) : gb130 ≠ gb131)); have NB131_130 := yD ((by rw [hg]; exact Nat.ne_of_gt (blk_lt (kN BK130)) : gb131 ≠ gb130)); replace BK130 := zY BK130 hb; clear hb hbox hg) | ((with_reducible refine gate_dst (N := 3) rfl ?_); refine bE (N := 3) (cs := #[.int .i64 0, .slice none 0 0, .slice none 0 0, .slice none 0 0, .slice none 0 0, .slice none 0 0]) (t := 55) ?_; intro gb132 hg w9 hbox hb; have BK132 := yD (hbox); have GW132 := sW hg HB; replace HB := zX HB hb; have NB130_132 := yD ((by rw [hg]; exact Nat.ne_of_lt (blk_lt (kN BK130)) : gb130 ≠ gb132)); have NB132_130 := yD ((by rw [hg]; exact Nat.ne_of_gt (blk_lt (kN BK130)) : gb132 ≠ gb130)); replace BK130 := zY BK130 hb; have NB131_132 := yD ((by rw [hg]; exact Nat.ne_of_lt (blk_lt (kN BK131)) : gb131 ≠ gb132)); have NB132_131 := yD ((by rw [hg]; exact Nat.ne_of_gt (blk_lt (kN BK131)) : gb132 ≠ gb131)); replace BK131 := zY BK131 hb; clear hb hbox hg; have hnb10 := NB130_131.out; have hnc10 := NB131_130.out; have hnb11 := NB130_132.out; have hnc11 := NB132_130.out; have := cf6_ BK130.out; have hnb13 := NB132_131.out; have hnc13 := NB131_132.out; have := cf6_ BK132.out) | ((with_reducible refine gate_callee (f := 39) rfl ?_); refine gL 9 Try.func39 _ ((laws_toInt64S.calls k _ _ l0_1 t133 _ (C0_1.b HB) A2.out).mono ?_); rintro e w15 ⟨v134, rfl, ho0, hb⟩; refine ⟨_, rfl, ?_⟩; have HO135 := yD (yZ ho0 (below_size (kB HB))); replace BK130 := yD (zB (g := gb130) (o := .cells #[.int .i64 a0_0, .slice A0_1 l0_1.length c0_1, .slice A0_2 l0_2.length c0_2, .slice A0_3 l0_3.length c0_3, .slice A0_4 l0_4.length c0_4, .slice A0_5 l0_5.length c0_5] 49 (0, 0)) (by (with_reducible repeat (first | refine yM ?_ _ | refine yO ?_ | refine yN ?_ _)); refine blk_far ?_ NB130_132.out _; (with_reducible repeat (first | refine yM ?_ _ | refine yO ?_ | refine yN ?_ _)); exact BK130.out) hb); replace BK131 := yD (zB (g := gb131) (o := .cells #[.int .i64 0, .slice none 0 0, .slice none 0 0, .slice none 0 0, .slice none 0 0, .slice none 0 0] 55 (0, 0)) (by (with_reducible repeat (first | refine yM ?_ _ | refine yO ?_ | refine yN ?_ _)); refine blk_far ?_ NB131_132.out _; (with_reducible repeat (first | refine yM ?_ _ | refine yO ?_ | refine yN ?_ _)); exact BK131.out) hb); replace BK132 := yD (zB (g := gb132) (o := .cells #[.int .i64 a0_0, .slice none 0 0, .slice none 0 0, .slice none 0 0, .slice none 0 0, .slice none 0 0] 55 (0, 0)) (by (with_reducible repeat (first | refine yM ?_ _ | refine yO ?_ | refine yN ?_ _)); refine blk_put (cs := #[.int .i64 0, .slice none 0 0, .slice none 0 0, .slice none 0 0, .slice none 0 0, .slice none 0 0]) ?_ 0 _ rfl; (with_reducible repeat (first | refine yM ?_ _ | refine yO ?_ | refine yN ?_ _)); exact BK132.out) hb); replace HB := zX HB hb; clear hb ho0; obtain ⟨Ao16, co16, eo16⟩ := Kd.R_slice HO135.out; subst eo16; have := cf6_ BK132.out; have := cf6_ BK130.out) | ((with_reducible refine gate_callee (f := 39) rfl ?_); refine gL 13 Try.func39 _ ((laws_toInt64S.calls k _ _ l0_2 t136 _ (C0_2.b HB) A3.out).mono ?_); rintro e w19 ⟨v137, rfl, ho0, hb⟩; refine ⟨_, rfl, ?_⟩; have HO138 := yD (yZ (yJ ho0 (yK (by (with_reducible repeat (first | apply yA | apply yB | apply yC)); exact (zF (yF (p := ⟨gb132, 1, none⟩) (Kd.R_types HO135.out BK132.out (by decide)) (fun _ hk => hk.2) (.slice Ao16 t133.length co16)) (fun _ h_ => h_.1))))) (below_size (kB HB))); replace HO135 := yD (Kd.R_elder' (by (with_reducible repeat (first | apply yA | apply yB | apply yC)); exact (zF (yF (p := ⟨gb132, 1, none⟩) (Kd.R_types HO135.out BK132.out (by decide)) (fun _ hk => hk.2) (.slice Ao16 t133.length co16)) (fun _ h_ => h_.1))) (yH ho0) hb); replace BK130 := yD (zB (g := gb130) (o := .cells #[.int .i64 a0_0, .slice A0_1 l0_1.length c0_1, .slice A0_2 l0_2.length c0_2, .slice A0_3 l0_3.length c0_3, .slice A0_4 l0_4.length c0_4, .slice A0_5 l0_5.length c0_5] 49 (0, 0)) (by (with_reducible repeat (first | refine yM ?_ _ | refine yO ?_ | refine yN ?_ _)); refine blk_far ?_ NB130_132.out _; (with_reducible repeat (first | refine yM ?_ _ | refine yO ?_ | refine yN ?_ _)); exact BK130.out) hb); replace BK131 := yD (zB (g := gb131) (o := .cells #[.int .i64 0, .slice none 0 0, .slice none 0 0, .slice none 0 0, .slice none 0 0, .slice none 0 0] 55 (0, 0)) (by (with_reducible repeat (first | refine yM ?_ _ | refine yO ?_ | refine yN ?_ _)); refine blk_far ?_ NB131_132.out _; (with_reducible repeat (first | refine yM ?_ _ | refine yO ?_ | refine yN ?_ _)); exact BK131.out) hb); replace BK132 := yD (zB (g := gb132) (o := .cells #[.int .i64 a0_0, .slice Ao16 t133.length co16, .slice none 0 0, .slice none 0 0, .slice none 0 0, .slice none 0 0] 55 (0, 0)) (by (with_reducible repeat (first | refine yM ?_ _ | refine yO ?_ | refine yN ?_ _)); refine blk_put (cs := #[.int .i64 a0_0, .slice none 0 0, .slice none 0 0, .slice none 0 0, .slice none 0 0, .slice none 0 0]) ?_ 1 _ rfl; (with_reducible repeat (first | refine yM ?_ _ | refine yO ?_ | refine yN ?_ _)); exact BK132.out) hb); replace HB := zX HB hb; clear hb ho0; obtain ⟨Ao20, co20, eo20⟩ := Kd.R_slice HO138.out; subst eo20; have := cf6_ BK132.out; have := cf6_ BK130.out) | ((with_reducible refine gate_callee (f := 39) rfl ?_); refine gL 17 Try.func39 _ ((laws_toInt64S.calls k _ _ l0_3 t139 _ (C0_3.b HB) A4.out).mono ?_); rintro e w23 ⟨v140, rfl, ho0, hb⟩; refine ⟨_, rfl, ?_⟩; have HO141 := yD (yZ (yJ (yJ ho0 (yK (by (with_reducible repeat (first | apply yA | apply yB | apply yC)); exact (zF (yF (p := ⟨gb132, 2, none⟩) (Kd.R_types HO135.out BK132.out (by decide)) (fun _ hk => hk.2) (.slice Ao20 t136.length co20)) (fun _ h_ => h_.1))))) (yK (by (with_reducible repeat (first | apply yA | apply yB | apply yC)); exact (zF (yF (p := ⟨gb132, 2, none⟩) (Kd.R_types HO138.out BK132.out (by decide)) (fun _ hk => hk.2) (.slice Ao20 t136.length co20)) (fun _ h_ => h_.1))))) (below_size (kB HB))); replace HO135 := yD (Kd.R_elder' (by (with_reducible repeat (first | apply yA | apply yB | apply yC)); exact (zF (yF (p := ⟨gb132, 2, none⟩) (Kd.R_types HO135.out BK132.out (by decide)) (fun _ hk => hk.2) (.slice Ao20 t136.length co20)) (fun _ h_ => h_.1))) (yH ho0) hb); replace HO138 := yD (Kd.R_elder' (by (with_reducible repeat (first | apply yA | apply yB | apply yC)); exact (zF (yF (p := ⟨gb132, 2, none⟩) (Kd.R_types HO138.out BK132.out (by decide)) (fun _ hk => hk.2) (.slice Ao20 t136.length co20)) (fun _ h_ => h_.1))) (yH ho0) hb); replace BK130 := yD (zB (g := gb130) (o := .cells #[.int .i64 a0_0, .slice A0_1 l0_1.length c0_1, .slice A0_2 l0_2.length c0_2, .slice A0_3 l0_3.length c0_3, .slice A0_4 l0_4.length c0_4, .slice A0_5 l0_5.length c0_5] 49 (0, 0)) (by (with_reducible repeat (first | refine yM ?_ _ | refine yO ?_ | refine yN ?_ _)); refine blk_far ?_ NB130_132.out _; (with_reducible repeat (first | refine yM ?_ _ | refine yO ?_ | refine yN ?_ _)); exact BK130.out) hb); replace BK131 := yD (zB (g := gb131) (o := .cells #[.int .i64 0, .slice none 0 0, .slice none 0 0, .slice none 0 0, .slice none 0 0, .slice none 0 0] 55 (0, 0)) (by (with_reducible repeat (first | refine yM ?_ _ | refine yO ?_ | refine yN ?_ _)); refine blk_far ?_ NB131_132.out _; (with_reducible repeat (first | refine yM ?_ _ | refine yO ?_ | refine yN ?_ _)); exact BK131.out) hb); replace BK132 := yD (zB (g := gb132) (o := .cells #[.int .i64 a0_0, .slice Ao16 t133.length co16, .slice Ao20 t136.length co20, .slice none 0 0, .slice none 0 0, .slice none 0 0] 55 (0, 0)) (by (with_reducible repeat (first | refine yM ?_ _ | refine yO ?_ | refine yN ?_ _)); refine blk_put (cs := #[.int .i64 a0_0, .slice Ao16 t133.length co16, .slice none 0 0, .slice none 0 0, .slice none 0 0, .slice none 0 0]) ?_ 2 _ rfl; (with_reducible repeat (first | refine yM ?_ _ | refine yO ?_ | refine yN ?_ _)); exact BK132.out) hb); replace HB := zX HB hb; clear hb ho0; obtain ⟨Ao24, co24, eo24⟩ := Kd.R_slice HO141.out; subst eo24; have := cf6_ BK132.out; have := cf6_ BK130.out) | ((with_reducible refine gate_callee (f := 39) rfl ?_); refine gL 21 Try.func39 _ ((laws_toInt64S.calls k _ _ l0_4 t142 _ (C0_4.b HB) A5.out).mono ?_); rintro e w27 ⟨v143, rfl, ho0, hb⟩; refine ⟨_, rfl, ?_⟩; have HO144 := yD (yZ (yJ (yJ (yJ ho0 (yK (by (with_reducible repeat (first | apply yA | apply yB | apply yC)); exact (zF (yF (p := ⟨gb132, 3, none⟩) (Kd.R_types HO135.out BK132.out (by decide)) (fun _ hk => hk.2) (.slice Ao24 t139.length co24)) (fun _ h_ => h_.1))))) (yK (by (with_reducible repeat (first | apply yA | apply yB | apply yC)); exact (zF (yF (p := ⟨gb132, 3, none⟩) (Kd.R_types HO138.out BK132.out (by decide)) (fun _ hk => hk.2) (.slice Ao24 t139.length co24)) (fun _ h_ => h_.1))))) (yK (by (with_reducible repeat (first | apply yA | apply yB | apply yC)); exact (zF (yF (p := ⟨gb132, 3, none⟩) (Kd.R_types HO141.out BK132.out (by decide)) (fun _ hk => hk.2) (.slice Ao24 t139.length co24)) (fun _ h_ => h_.1))))) (below_size (kB HB))); replace HO135 := yD (Kd.R_elder' (by (with_reducible repeat (first | apply yA | apply yB | apply yC)); exact (zF (yF (p := ⟨gb132, 3, none⟩) (Kd.R_types HO135.out BK132.out (by decide)) (fun _ hk => hk.2) (.slice Ao24 t139.length co24)) (fun _ h_ => h_.1))) (yH ho0) hb); replace HO138 := yD (Kd.R_elder' (by (with_reducible repeat (first | apply yA | apply yB | apply yC)); exact (zF (yF (p := ⟨gb132, 3, none⟩) (Kd.R_types HO138.out BK132.out (by decide)) (fun _ hk => hk.2) (.slice Ao24 t139.length co24)) (fun _ h_ => h_.1))) (yH ho0) hb); replace HO141 := yD (Kd.R_elder' (by (with_reducible repeat (first | apply yA | apply yB | apply yC)); exact (zF (yF (p := ⟨gb132, 3, none⟩) (Kd.R_types HO141.out BK132.out (by decide)) (fun _ hk => hk.2) (.slice Ao24 t139.length co24)) (fun _ h_ => h_.1))) (yH ho0) hb); replace BK130 := yD (zB (g := gb130) (o := .cells #[.int .i64 a0_0, .slice A0_1 l0_1.length c0_1, .slice A0_2 l0_2.length c0_2, .slice A0_3 l0_3.length c0_3, .slice A0_4 l0_4.length c0_4, .slice A0_5 l0_5.length c0_5] 49 (0, 0)) (by (with_reducible repeat (first | refine yM ?_ _ | refine yO ?_ | refine yN ?_ _)); refine blk_far ?_ NB130_132.out _; (with_reducible repeat (first | refine yM ?_ _ | refine yO ?_ | refine yN ?_ _)); exact BK130.out) hb); replace BK131 := yD (zB (g := gb131) (o := .cells #[.int .i64 0, .slice none 0 0, .slice none 0 0, .slice none 0 0, .slice none 0 0, .slice none 0 0] 55 (0, 0)) (by (with_reducible repeat (first | refine yM ?_ _ | refine yO ?_ | refine yN ?_ _)); refine blk_far ?_ NB131_132.out _; (with_reducible repeat (first | refine yM ?_ _ | refine yO ?_ | refine yN ?_ _)); exact BK131.out) hb); replace BK132 := yD (zB (g := gb132) (o := .cells #[.int .i64 a0_0, .slice Ao16 t133.length co16, .slice Ao20 t136.length co20, .slice Ao24 t139.length co24, .slice none 0 0, .slice none 0 0] 55 (0, 0)) (by (with_reducible repeat (first | refine yM ?_ _ | refine yO ?_ | refine yN ?_ _)); refine blk_put (cs := #[.int .i64 a0_0, .slice Ao16 t133.length co16, .slice Ao20 t136.length co20, .slice none 0 0, .slice none 0 0, .slice none 0 0]) ?_ 3 _ rfl; (with_reducible repeat (first | refine yM ?_ _ | refine yO ?_ | refine yN ?_ _)); exact BK132.out) hb); replace HB := zX HB hb; clear hb ho0; obtain ⟨Ao28, co28, eo28⟩ := Kd.R_slice HO144.out; subst eo28; have := cf6_ BK132.out; have := cf6_ BK130.out) | ((with_reducible refine gate_callee (f := 79) rfl ?_); refine gL 25 Try.func79 _ ((laws_toPointS.calls k _ _ l0_5 t145 _ (C0_5.b HB) A6.out).mono ?_); rintro e w31 ⟨v146, rfl, ho0, hb⟩; refine ⟨_, rfl, ?_⟩; have HO147 := yD (zG (zD (zD (zD (zD ho0 (yK (by (with_reducible repeat (first | apply yA | apply yB | apply yC)); exact (zF (yF (p := ⟨gb132, 4, none⟩) (Kd.R_types HO135.out BK132.out (by decide)) (fun _ hk => hk.2) (.slice Ao28 t142.length co28)) (fun _ h_ => h_.1))))) (yK (by (with_reducible repeat (first | apply yA | apply yB | apply yC)); exact (zF (yF (p := ⟨gb132, 4, none⟩) (Kd.R_types HO138.out BK132.out (by decide)) (fun _ hk => hk.2) (.slice Ao28 t142.length co28)) (fun _ h_ => h_.1))))) (yK (by (with_reducible repeat (first | apply yA | apply yB | apply yC)); exact (zF (yF (p := ⟨gb132, 4, none⟩) (Kd.R_types HO141.out BK132.out (by decide)) (fun _ hk => hk.2) (.slice Ao28 t142.length co28)) (fun _ h_ => h_.1))))) (yK (by (with_reducible repeat (first | apply yA | apply yB | apply yC)); exact (zF (yF (p := ⟨gb132, 4, none⟩) (Kd.R_types HO144.out BK132.out (by decide)) (fun _ hk => hk.2) (.slice Ao28 t142.length co28)) (fun _ h_ => h_.1))))) (below_size (kB HB))); replace HO135 := yD (zE (by (with_reducible repeat (first | apply yA | apply yB | apply yC)); exact (zF (yF (p := ⟨gb132, 4, none⟩) (Kd.R_types HO135.out BK132.out (by decide)) (fun _ hk => hk.2) (.slice Ao28 t142.length co28)) (fun _ h_ => h_.1))) hb); replace HO138 := yD (zE (by (with_reducible repeat (first | apply yA | apply yB | apply yC)); exact (zF (yF (p := ⟨gb132, 4, none⟩) (Kd.R_types HO138.out BK132.out (by decide)) (fun _ hk => hk.2) (.slice Ao28 t142.length co28)) (fun _ h_ => h_.1))) hb); replace HO141 := yD (zE (by (with_reducible repeat (first | apply yA | apply yB | apply yC)); exact (zF (yF (p := ⟨gb132, 4, none⟩) (Kd.R_types HO141.out BK132.out (by decide)) (fun _ hk => hk.2) (.slice Ao28 t142.length co28)) (fun _ h_ => h_.1))) hb); replace HO144 := yD (zE (by (with_reducible repeat (first | apply yA | apply yB | apply yC)); exact (zF (yF (p := ⟨gb132, 4, none⟩) (Kd.R_types HO144.out BK132.out (by decide)) (fun _ hk => hk.2) (.slice Ao28 t142.length co28)) (fun _ h_ => h_.1))) hb); replace BK130 := yD (zB (g := gb130) (o := .cells #[.int .i64 a0_0, .slice A0_1 l0_1.length c0_1, .slice A0_2 l0_2.length c0_2, .slice A0_3 l0_3.length c0_3, .slice A0_4 l0_4.length c0_4, .slice A0_5 l0_5.length c0_5] 49 (0, 0)) (by (with_reducible repeat (first | refine yM ?_ _ | refine yO ?_ | refine yN ?_ _)); refine blk_far ?_ NB130_132.out _; (with_reducible repeat (first | refine yM ?_ _ | refine yO ?_ | refine yN ?_ _)); exact BK130.out) hb); replace BK131 := yD (zB (g := gb131) (o := .cells #[.int .i64 0, .slice none 0 0, .slice none 0 0, .slice none 0 0, .slice none 0 0, .slice none 0 0] 55 (0, 0)) (by (with_reducible repeat (first | refine yM ?_ _ | refine yO ?_ | refine yN ?_ _)); refine blk_far ?_ NB131_132.out _; (with_reducible repeat (first | refine yM ?_ _ | refine yO ?_ | refine yN ?_ _)); exact BK131.out) hb); replace BK132 := yD (zB (g := gb132) (o := .cells #[.int .i64 a0_0, .slice Ao16 t133.length co16, .slice Ao20 t136.length co20, .slice Ao24 t139.length co24, .slice Ao28 t142.length co28, .slice none 0 0] 55 (0, 0)) (by (with_reducible repeat (first | refine yM ?_ _ | refine yO ?_ | refine yN ?_ _)); refine blk_put (cs := #[.int .i64 a0_0, .slice Ao16 t133.length co16, .slice Ao20 t136.length co20, .slice Ao24 t139.length co24, .slice none 0 0, .slice none 0 0]) ?_ 4 _ rfl; (with_reducible repeat (first | refine yM ?_ _ | refine yO ?_ | refine yN ?_ _)); exact BK132.out) hb); replace HB := zX HB hb; clear hb ho0; obtain ⟨Ao32, co32, eo32⟩ := Kd.S_slice HO147.out; subst eo32; have := cf6_ BK132.out; have := cf6_ BK131.out))
 refine bodyPost_ret (results_cell_row rfl _ _ gb131 55 #[.int .i64 a0_0, .slice Ao16 t133.length co16, .slice Ao20 t136.length co20, .slice Ao24 t139.length co24, .slice Ao28 t142.length co28, .slice Ao32 t145.length co32] (0, 0) _ rfl (by (with_reducible repeat (first | refine yM ?_ _ | refine yO ?_ | refine yN ?_ _)); refine blk_put (cs := #[.int .i64 a0_0, .slice Ao16 t133.length co16, .slice Ao20 t136.length co20, .slice Ao24 t139.length co24, .slice Ao28 t142.length co28, .slice none 0 0]) ?_ 5 _ rfl; (with_reducible repeat (first | refine yM ?_ _ | refine yO ?_ | refine yN ?_ _)); refine blk_put (cs := #[.int .i64 a0_0, .slice Ao16 t133.length co16, .slice Ao20 t136.length co20, .slice Ao24 t139.length co24, .slice none 0 0, .slice none 0 0]) ?_ 4 _ rfl; (with_reducible repeat (first | refine yM ?_ _ | refine yO ?_ | refine yN ?_ _)); refine blk_put (cs := #[.int .i64 a0_0, .slice Ao16 t133.length co16, .slice Ao20 t136.length co20, .slice none 0 0, .slice none 0 0, .slice none 0 0]) ?_ 3 _ rfl; (with_reducible repeat (first | refine yM ?_ _ | refine yO ?_ | refine yN ?_ _)); refine blk_put (cs := #[.int .i64 a0_0, .slice Ao16 t133.length co16, .slice none 0 0, .slice none 0 0, .slice none 0 0, .slice none 0 0]) ?_ 2 _ rfl; (with_reducible repeat (first | refine yM ?_ _ | refine yO ?_ | refine yN ?_ _)); refine blk_put (cs := #[.int .i64 a0_0, .slice none 0 0, .slice none 0 0, .slice none 0 0, .slice none 0 0, .slice none 0 0]) ?_ 1 _ rfl; (with_reducible repeat (first | refine yM ?_ _ | refine yO ?_ | refine yN ?_ _)); refine blk_put (cs := #[.int .i64 0, .slice none 0 0, .slice none 0 0, .slice none 0 0, .slice none 0 0, .slice none 0 0]) ?_ 0 _ rfl; (with_reducible repeat (first | refine yM ?_ _ | refine yO ?_ | refine yN ?_ _)); refine blk_far ?_ NB131_132.out _; (with_reducible repeat (first | refine yM ?_ _ | refine yO ?_ | refine yN ?_ _)); exact BK131.out) Try.underlying55 rfl (by kernel_rfl)) rfl ?_
 exact ⟨_, _, _, _, _, kE, by (with_reducible repeat (first | apply yA | apply yB | apply yC)); exact zF (yF (p := ⟨gb131, 5, none⟩) (yF (p := ⟨gb131, 4, none⟩) (yF (p := ⟨gb131, 3, none⟩) (yF (p := ⟨gb131, 2, none⟩) (yF (p := ⟨gb131, 1, none⟩) (yF (p := ⟨gb131, 0, none⟩) (yF (p := ⟨gb132, 5, none⟩) (Kd.R_types (Kd.R_types HO135.out BK132.out (by decide)) BK131.out (by decide)) (fun _ hk => hk.1.2) (.slice Ao32 t145.length co32)) (fun _ hk => hk.2) (.int .i64 a0_0)) (fun _ hk => hk.2) (.slice Ao16 t133.length co16)) (fun _ hk => hk.2) (.slice Ao20 t136.length co20)) (fun _ hk => hk.2) (.slice Ao24 t139.length co24)) (fun _ hk => hk.2) (.slice Ao28 t142.length co28)) (fun _ hk => hk.2) (.slice Ao32 t145.length co32)) (fun _ hk => ⟨hk.1.1.1.1.2, ⟨hk.1.1.1.2, hk.1.1.2⟩⟩), by (with_reducible repeat (first | apply yA | apply yB | apply yC)); exact zF (yF (p := ⟨gb131, 5, none⟩) (yF (p := ⟨gb131, 4, none⟩) (yF (p := ⟨gb131, 3, none⟩) (yF (p := ⟨gb131, 2, none⟩) (yF (p := ⟨gb131, 1, none⟩) (yF (p := ⟨gb131, 0, none⟩) (yF (p := ⟨gb132, 5, none⟩) (Kd.R_types (Kd.R_types HO138.out BK132.out (by decide)) BK131.out (by decide)) (fun _ hk => hk.1.2) (.slice Ao32 t145.length co32)) (fun _ hk => hk.2) (.int .i64 a0_0)) (fun _ hk => hk.2) (.slice Ao16 t133.length co16)) (fun _ hk => hk.2) (.slice Ao20 t136.length co20)) (fun _ hk => hk.2) (.slice Ao24 t139.length co24)) (fun _ hk => hk.2) (.slice Ao28 t142.length co28)) (fun _ hk => hk.2) (.slice Ao32 t145.length co32)) (fun _ hk => ⟨hk.1.1.1.1.2, ⟨hk.1.1.1.2, hk.1.1.2⟩⟩), by (with_reducible repeat (first | apply yA | apply yB | apply yC)); exact zF (yF (p := ⟨gb131, 5, none⟩) (yF (p := ⟨gb131, 4, none⟩) (yF (p := ⟨gb131, 3, none⟩) (yF (p := ⟨gb131, 2, none⟩) (yF (p := ⟨gb131, 1, none⟩) (yF (p := ⟨gb131, 0, none⟩) (yF (p := ⟨gb132, 5, none⟩) (Kd.R_types (Kd.R_types HO141.out BK132.out (by decide)) BK131.out (by decide)) (fun _ hk => hk.1.2) (.slice Ao32 t145.length co32)) (fun _ hk => hk.2) (.int .i64 a0_0)) (fun _ hk => hk.2) (.slice Ao16 t133.length co16)) (fun _ hk => hk.2) (.slice Ao20 t136.length co20)) (fun _ hk => hk.2) (.slice Ao24 t139.length co24)) (fun _ hk => hk.2) (.slice Ao28 t142.length co28)) (fun _ hk => hk.2) (.slice Ao32 t145.length co32)) (fun _ hk => ⟨hk.1.1.1.1.2, ⟨hk.1.1.1.2, hk.1.1.2⟩⟩), by (with_reducible repeat (first | apply yA | apply yB | apply yC)); exact zF (yF (p := ⟨gb131, 5, none⟩) (yF (p := ⟨gb131, 4, none⟩) (yF (p := ⟨gb131, 3, none⟩) (yF (p := ⟨gb131, 2, none⟩) (yF (p := ⟨gb131, 1, none⟩) (yF (p := ⟨gb131, 0, none⟩) (yF (p := ⟨gb132, 5, none⟩) (Kd.R_types (Kd.R_types HO144.out BK132.out (by decide)) BK131.out (by decide)) (fun _ hk => hk.1.2) (.slice Ao32 t145.length co32)) (fun _ hk => hk.2) (.int .i64 a0_0)) (fun _ hk => hk.2) (.slice Ao16 t133.length co16)) (fun _ hk => hk.2) (.slice Ao20 t136.length co20)) (fun _ hk => hk.2) (.slice Ao24 t139.length co24)) (fun _ hk => hk.2) (.slice Ao28 t142.length co28)) (fun _ hk => hk.2) (.slice Ao32 t145.length co32)) (fun _ hk => ⟨hk.1.1.1.1.2, ⟨hk.1.1.1.2, hk.1.1.2⟩⟩), by (with_reducible repeat (first | apply yS | apply yT | apply yU)); exact Kd.S_mono (Kd.S_far (p := ⟨gb131, 5, none⟩) (Kd.S_far (p := ⟨gb131, 4, none⟩) (Kd.S_far (p := ⟨gb131, 3, none⟩) (Kd.S_far (p := ⟨gb131, 2, none⟩) (Kd.S_far (p := ⟨gb131, 1, none⟩) (Kd.S_far (p := ⟨gb131, 0, none⟩) (Kd.S_far (p := ⟨gb132, 5, none⟩) (Kd.S_types (Kd.S_types HO147.out BK132.out (by decide)) BK131.out (by decide)) (fun _ hk => hk.1.2) (.slice Ao32 t145.length co32)) (fun _ hk => hk.2) (.int .i64 a0_0)) (fun _ hk => hk.2) (.slice Ao16 t133.length co16)) (fun _ hk => hk.2) (.slice Ao20 t136.length co20)) (fun _ hk => hk.2) (.slice Ao24 t139.length co24)) (fun _ hk => hk.2) (.slice Ao28 t142.length co28)) (fun _ hk => hk.2) (.slice Ao32 t145.length co32)) (fun _ hk => ⟨hk.1.1.1.1.1.2, ⟨hk.1.1.1.1.2, ⟨hk.1.1.1.2, hk.1.1.2⟩⟩⟩), kR0 HB⟩

/-! ### spec_l00In: function 92 -/
def spec_l00In.f (a0 : Int) (a1 : Int) (a2 : Int) : Option (Bool) := if a0 ≥ a1 then (some (decide (a0 ≤ a2))) else (some false)
theorem spec_l00In.calls (a0 : Int) (a1 : Int) (a2 : Int) (r : Bool) (w : World) (h : spec_l00In.f a0 a1 a2 = some r) :
 Calls Try.prog 92 #[.int .i64 a0, .int .i64 a1, .int .i64 a2] w fun e w' => e = .returned (.bool r) ∧ Drawn0 w w' := by
 have H : (if a0 ≥ a1 then (some (decide (a0 ≤ a2))) else (some false)) = some r := h
 clear h
 replace H := sC H; rcases H with ⟨c4, H⟩ | ⟨c4, H⟩
 ·
  have c4b0 : decide (a1 ≤ a0) = false := zS c4; clear c4; obtain rfl := sJ H; go_enter Try.func92, Try.ntmps92
  go_wp2
  go_ret
  exact ⟨by first | rfl | (simp; done) | (simp [*]; done), by repeat (first | exact Drawn0.refl _ | apply Drawn0.step)⟩
 have c4b0 : decide (a1 ≤ a0) = true := zR c4; clear c4; obtain rfl := sJ H; go_enter Try.func92, Try.ntmps92
 go_wp2
 go_ret
 exact ⟨by first | rfl | (simp; done) | (simp [*]; done), by repeat (first | exact Drawn0.refl _ | apply Drawn0.step)⟩

/-! ### spec_l05Dims: function 90 -/
def spec_l05Dims.l0 : Nat → List Int → Int → Int → Option (Bool)
 | 0, _, _, _ => none
 | k + 1, x0, x3, x4 => if x4 < (x0.length : Int) then (if 0 ≤ x4 then ((spec_l00In.f (rd x0 x4) 0 40).bind fun t149 => (if t149 = true then (spec_l05Dims.l0 k x0 (wrap64 (x3 * (rd x0 x4))) (wrap64 (x4 + 1))) else (some false))) else (none)) else (some (decide (x3 ≤ 600)))
def spec_l05Dims.f (k : Nat) (l0 : List Int) : Option (Bool) := if (l0.length : Int) > 3 then (some false) else (spec_l05Dims.l0 k l0 1 0)
theorem spec_l05Dims.calls (k : Nat) (A0 : Option Addr) (c0 : Nat) (l0 : List Int) (r : Bool) (w : World) (C0 : Cm (Kd.int .i64) w A0 c0 l0) (h : spec_l05Dims.f k l0 = some r) :
 Calls Try.prog 90 #[.slice A0 l0.length c0] w fun e w' => e = .returned (.bool r) ∧ Drawn0 w w' := by
 have H : (if (l0.length : Int) > 3 then (some false) else (spec_l05Dims.l0 k l0 1 0)) = some r := h
 clear h
 replace H := sB H; rcases H with ⟨c2, H⟩ | ⟨c2, H⟩
 ·
  have c2b0 : decide (3 < (l0.length : Int)) = true := zR c2
  have c2b1 : decide (3 < l0.length) = true := zR (by omega)
  clear c2; obtain rfl := sJ H; go_enter Try.func90, Try.ntmps90
  go_wp2
  go_ret
  exact ⟨by first | rfl | (simp; done) | (simp [*]; done), by repeat (first | exact Drawn0.refl _ | apply Drawn0.step)⟩
 have c2b0 : decide (3 < (l0.length : Int)) = false := zS c2
 have c2b1 : decide (3 < l0.length) = false := zS (by omega)
 clear c2
 have H' := yD H
 clear H; go_enter Try.func90, Try.ntmps90
 go_wp2
 go_loopg [3, 4] k (fun kq v3 v4 w' => ∃ (x3_1 : Int) (x4_1 : Int), v3 = .int .i64 x3_1 ∧ v4 = .int .i64 x4_1 ∧ Aside0 (spec_l05Dims.l0 kq l0 x3_1 x4_1 = some r) ∧ Aside0 (kq ≤ k) ∧ Drawn0 w w')
 case atStart => exact ⟨(1), (0), kF, kF, H', ⟨Nat.le_refl _⟩, by repeat (first | exact Drawn0.refl _ | apply Drawn0.step)⟩
 case round =>
  clear H'
  obtain ⟨x3_1, x4_1, rfl, rfl, HA, HK1, ⟨m1, rfl⟩⟩ := hrel
  cases gk with
  | zero => exact absurd HA.out (by simp [spec_l05Dims.l0])
  | succ k1 =>
   have H := HA.out; clear HA
   simp only [spec_l05Dims.l0] at H
   replace H := sG H; rcases H with ⟨c3b0, H⟩ | ⟨c3b0, H⟩
   · obtain rfl := sJ H
     go_wp2
     go_ret
     exact ⟨by first | rfl | (simp; done) | (simp [*]; done), by repeat (first | exact Drawn0.refl _ | apply Drawn0.step)⟩
   replace ⟨c4b0, H⟩ := sE H
   replace ⟨t149, A5, H⟩ := sV H
   replace H := sS H; rcases H with ⟨rfl, H⟩ | ⟨rfl, H⟩
   ·
    obtain rfl := sJ H
    obtain ⟨p148, q148, ad148, e148, hx148_0⟩ := sI (Kd.at_int C0.r x4_1)
    cases e148
    go_wp2_with (first | ((with_reducible refine gate_callee (f := 92) rfl ?_); refine gL 18 Try.func92 _ (dm (spec_l00In.calls (rd l0 x4_1) 0 40 false _ A5.out) fun nd => ?_)))
    go_ret
    exact ⟨by first | rfl | (simp; done) | (simp [*]; done), by repeat (first | exact Drawn0.refl _ | apply Drawn0.step)⟩
   have H' := yD H
   clear H
   obtain ⟨p148, q148, ad148, e148, hx148_0⟩ := sI (Kd.at_int C0.r x4_1)
   cases e148
   go_wp2_with (first | ((with_reducible refine gate_callee (f := 92) rfl ?_); refine gL 18 Try.func92 _ (dm (spec_l00In.calls (rd l0 x4_1) 0 40 true _ A5.out) fun nd => ?_); have p150 : 0 ≤ (x4_1 : Int) := zP (by assumption); have q150 : x4_1 < (l0.length : Int) := zP (by assumption); obtain ⟨ad150, e150, hx150_0⟩ := Kd.at_int C0.r x4_1 p150 q150; obtain rfl : ad148 = ad150 := (by injection e150); replace p150 := eq_true p150; replace q150 := eq_true q150))
   go_roundg k1
   case measure => have := HK1.out; omega
   case rel => exact ⟨(wrap64 (x3_1 * (rd l0 x4_1))), (wrap64 (x4_1 + 1)), kF, kF, H', ⟨by have := HK1.out; omega⟩, by repeat (first | exact Drawn0.refl _ | apply Drawn0.step)⟩

/-! ### spec_l06Plain: function 133 -/
def spec_l06Plain.f (a0_0 : Int) (l0_1 : List Int) (l0_2 : List Int) (l0_3 : List Int) (l0_4 : List Int) (l0_5 : List (S110)) : Option (Bool) := if (l0_1.length : Int) = 0 then (if (l0_2.length : Int) = 0 then (if (l0_3.length : Int) = 0 then (some ((l0_4.length : Int) == 0)) else (some false)) else (some false)) else (some false)
theorem spec_l06Plain.calls (a0_0 : Int) (A0_1 : Option Addr) (c0_1 : Nat) (l0_1 : List Int) (A0_2 : Option Addr) (c0_2 : Nat) (l0_2 : List Int) (A0_3 : Option Addr) (c0_3 : Nat) (l0_3 : List Int) (A0_4 : Option Addr) (c0_4 : Nat) (l0_4 : List Int) (A0_5 : Option Addr) (c0_5 : Nat) (l0_5 : List (S110)) (r : Bool) (w : World) (C0_1 : Cm (Kd.int .i64) w A0_1 c0_1 l0_1) (C0_2 : Cm (Kd.int .i64) w A0_2 c0_2 l0_2) (C0_3 : Cm (Kd.int .i64) w A0_3 c0_3 l0_3) (C0_4 : Cm (Kd.int .i64) w A0_4 c0_4 l0_4) (C0_5 : Cm k110 w A0_5 c0_5 l0_5) (h : spec_l06Plain.f a0_0 l0_1 l0_2 l0_3 l0_4 l0_5 = some r) :
 Calls Try.prog 133 #[.agg #[.int .i64 a0_0, .slice A0_1 l0_1.length c0_1, .slice A0_2 l0_2.length c0_2, .slice A0_3 l0_3.length c0_3, .slice A0_4 l0_4.length c0_4, .slice A0_5 l0_5.length c0_5]] w fun e w' => e = .returned (.bool r) ∧ Below w.heap.size w w' := by
 have hu55 := Try.underlying55
 have HB := yD (Below.refl w.heap.size w)
 have H : (if (l0_1.length : Int) = 0 then (if (l0_2.length : Int) = 0 then (if (l0_3.length : Int) = 0 then (some ((l0_4.length : Int) == 0)) else (some false)) else (some false)) else (some false)) = some r := h
 clear h
 replace H := sP H; rcases H with ⟨c2, c2b0, c2b1, H⟩ | ⟨-, c2b0, c2b1, H⟩
 ·
  have c2b2 : ¬ (l0_1 = []) := fun h_ => c2 (by rw [h_]; rfl)
  obtain rfl := sJ H; go_enter Try.func133, Try.ntmps133
  go_wp2_with (first | ((with_reducible refine gate_dst (N := 1) rfl ?_); (try (refine gate_guard (by rfl) ?_; dsimp only)); refine bF (N := 1) (cs := #[.int .i64 a0_0, .slice A0_1 l0_1.length c0_1, .slice A0_2 l0_2.length c0_2, .slice A0_3 l0_3.length c0_3, .slice A0_4 l0_4.length c0_4, .slice A0_5 l0_5.length c0_5]) (t := 55) HB ?_; intro gb151 w11 BK151 GW151 HB; have := cf6_ BK151.out))
  go_ret
  exact ⟨kE, kR0 HB⟩
 replace H := sP H; rcases H with ⟨c3, c3b0, c3b1, H⟩ | ⟨-, c3b0, c3b1, H⟩
 ·
  have c3b2 : ¬ (l0_2 = []) := fun h_ => c3 (by rw [h_]; rfl)
  obtain rfl := sJ H; go_enter Try.func133, Try.ntmps133
  go_wp2_with (first | ((with_reducible refine gate_dst (N := 1) rfl ?_); (try (refine gate_guard (by rfl) ?_; dsimp only)); refine bF (N := 1) (cs := #[.int .i64 a0_0, .slice A0_1 l0_1.length c0_1, .slice A0_2 l0_2.length c0_2, .slice A0_3 l0_3.length c0_3, .slice A0_4 l0_4.length c0_4, .slice A0_5 l0_5.length c0_5]) (t := 55) HB ?_; intro gb151 w9 BK151 GW151 HB; have := cf6_ BK151.out))
  go_ret
  exact ⟨kE, kR0 HB⟩
 replace H := sQ H; rcases H with ⟨-, c4b0, c4b1, H⟩ | ⟨c4, c4b0, c4b1, H⟩
 ·
  obtain rfl := sJ H; go_enter Try.func133, Try.ntmps133
  go_wp2_with (first | ((with_reducible refine gate_dst (N := 1) rfl ?_); (try (refine gate_guard (by rfl) ?_; dsimp only)); refine bF (N := 1) (cs := #[.int .i64 a0_0, .slice A0_1 l0_1.length c0_1, .slice A0_2 l0_2.length c0_2, .slice A0_3 l0_3.length c0_3, .slice A0_4 l0_4.length c0_4, .slice A0_5 l0_5.length c0_5]) (t := 55) HB ?_; intro gb151 w5 BK151 GW151 HB; have := cf6_ BK151.out))
  go_ret
  exact ⟨kE, kR0 HB⟩
 have c4b2 : ¬ (l0_3 = []) := fun h_ => c4 (by rw [h_]; rfl)
 obtain rfl := sJ H; go_enter Try.func133, Try.ntmps133
 go_wp2_with (first | ((with_reducible refine gate_dst (N := 1) rfl ?_); (try (refine gate_guard (by rfl) ?_; dsimp only)); refine bF (N := 1) (cs := #[.int .i64 a0_0, .slice A0_1 l0_1.length c0_1, .slice A0_2 l0_2.length c0_2, .slice A0_3 l0_3.length c0_3, .slice A0_4 l0_4.length c0_4, .slice A0_5 l0_5.length c0_5]) (t := 55) HB ?_; intro gb151 w7 BK151 GW151 HB; have := cf6_ BK151.out))
 go_ret
 exact ⟨kE, kR0 HB⟩

/-! ### spec_l06End: function 111 -/
def spec_l06End.f (a0_0 : Int) (l0_1 : List Int) (l0_2 : List Int) (l0_3 : List Int) (l0_4 : List Int) (l0_5 : List (S110)) (a1 : Int) : Option (Int) := if 0 ≤ a1 then (if a1 < (l0_1.length : Int) then (if a1 < (l0_3.length : Int) then (if a1 < (l0_2.length : Int) then (if a1 < (l0_4.length : Int) then (some (wrap64 ((wrap64 ((rd l0_1 a1) + (wrap64 ((wrap64 ((rd l0_3 a1) - 1)) * (rd l0_2 a1))))) + (rd l0_4 a1)))) else (none)) else (none)) else (none)) else (none)) else (none)
theorem spec_l06End.calls (a0_0 : Int) (A0_1 : Option Addr) (c0_1 : Nat) (l0_1 : List Int) (A0_2 : Option Addr) (c0_2 : Nat) (l0_2 : List Int) (A0_3 : Option Addr) (c0_3 : Nat) (l0_3 : List Int) (A0_4 : Option Addr) (c0_4 : Nat) (l0_4 : List Int) (A0_5 : Option Addr) (c0_5 : Nat) (l0_5 : List (S110)) (a1 : Int) (r : Int) (w : World) (C0_1 : Cm (Kd.int .i64) w A0_1 c0_1 l0_1) (C0_2 : Cm (Kd.int .i64) w A0_2 c0_2 l0_2) (C0_3 : Cm (Kd.int .i64) w A0_3 c0_3 l0_3) (C0_4 : Cm (Kd.int .i64) w A0_4 c0_4 l0_4) (C0_5 : Cm k110 w A0_5 c0_5 l0_5) (h : spec_l06End.f a0_0 l0_1 l0_2 l0_3 l0_4 l0_5 a1 = some r) :
 Calls Try.prog 111 #[.agg #[.int .i64 a0_0, .slice A0_1 l0_1.length c0_1, .slice A0_2 l0_2.length c0_2, .slice A0_3 l0_3.length c0_3, .slice A0_4 l0_4.length c0_4, .slice A0_5 l0_5.length c0_5], .int .i64 a1] w fun e w' => e = .returned (.int .i64 r) ∧ Below w.heap.size w w' := by
 have hu55 := Try.underlying55
 have HB := yD (Below.refl w.heap.size w)
 have H : (if 0 ≤ a1 then (if a1 < (l0_1.length : Int) then (if a1 < (l0_3.length : Int) then (if a1 < (l0_2.length : Int) then (if a1 < (l0_4.length : Int) then (some (wrap64 ((wrap64 ((rd l0_1 a1) + (wrap64 ((wrap64 ((rd l0_3 a1) - 1)) * (rd l0_2 a1))))) + (rd l0_4 a1)))) else (none)) else (none)) else (none)) else (none)) else (none)) = some r := h
 clear h
 replace ⟨c3b0, H⟩ := sE H
 replace ⟨c4b0, H⟩ := sE H
 replace ⟨c5b0, H⟩ := sE H
 replace ⟨c6b0, H⟩ := sE H
 replace ⟨c7b0, H⟩ := sE H
 obtain rfl := sJ H; go_enter Try.func111, Try.ntmps111
 go_wp2_with (first | ((with_reducible refine gate_dst (N := 2) rfl ?_); refine bF (N := 2) (cs := #[.int .i64 a0_0, .slice A0_1 l0_1.length c0_1, .slice A0_2 l0_2.length c0_2, .slice A0_3 l0_3.length c0_3, .slice A0_4 l0_4.length c0_4, .slice A0_5 l0_5.length c0_5]) (t := 55) HB ?_; intro gb152 w8 BK152 GW152 HB; have := cf6_ BK152.out; have p153 : 0 ≤ (a1 : Int) := zP (by assumption); have q153 : a1 < (l0_1.length : Int) := zP (by assumption); obtain ⟨ad153, e153, hx153_0⟩ := Kd.at_int C0_1.r a1 p153 q153; cases e153; replace hx153_0 := kD HB hx153_0; replace p153 := eq_true p153; replace q153 := eq_true q153; have p154 : 0 ≤ (a1 : Int) := zP (by assumption); have q154 : a1 < (l0_3.length : Int) := zP (by assumption); obtain ⟨ad154, e154, hx154_0⟩ := Kd.at_int C0_3.r a1 p154 q154; cases e154; replace hx154_0 := kD HB hx154_0; replace p154 := eq_true p154; replace q154 := eq_true q154; have p155 : 0 ≤ (a1 : Int) := zP (by assumption); have q155 : a1 < (l0_2.length : Int) := zP (by assumption); obtain ⟨ad155, e155, hx155_0⟩ := Kd.at_int C0_2.r a1 p155 q155; cases e155; replace hx155_0 := kD HB hx155_0; replace p155 := eq_true p155; replace q155 := eq_true q155; have p156 : 0 ≤ (a1 : Int) := zP (by assumption); have q156 : a1 < (l0_4.length : Int) := zP (by assumption); obtain ⟨ad156, e156, hx156_0⟩ := Kd.at_int C0_4.r a1 p156 q156; cases e156; replace hx156_0 := kD HB hx156_0; replace p156 := eq_true p156; replace q156 := eq_true q156))
 repeat (go_quiet (first | ((with_reducible refine gate_dst (N := 2) rfl ?_); refine bF (N := 2) (cs := #[.int .i64 a0_0, .slice A0_1 l0_1.length c0_1, .slice A0_2 l0_2.length c0_2, .slice A0_3 l0_3.length c0_3, .slice A0_4 l0_4.length c0_4, .slice A0_5 l0_5.length c0_5]) (t := 55) HB ?_; intro gb152 w8 BK152 GW152 HB; have := cf6_ BK152.out; have p153 : 0 ≤ (a1 : Int) := zP (by assumption); have q153 : a1 < (l0_1.length : Int) := zP (by assumption); obtain ⟨ad153, e153, hx153_0⟩ := Kd.at_int C0_1.r a1 p153 q153; cases e153; replace hx153_0 := kD HB hx153_0; replace p153 := eq_true p153; replace q153 := eq_true q153; have p154 : 0 ≤ (a1 : Int) := zP (by assumption); have q154 : a1 < (l0_3.length : Int) := zP (by assumption); obtain ⟨ad154, e154, hx154_0⟩ := Kd.at_int C0_3.r a1 p154 q154; cases e154; replace hx154_0 := kD HB hx154_0; replace p154 := eq_true p154; replace q154 := eq_true q154; have p155 : 0 ≤ (a1 : Int) := zP (by assumption); have q155 : a1 < (l0_2.length : Int) := zP (by assumption); obtain ⟨ad155, e155, hx155_0⟩ := Kd.at_int C0_2.r a1 p155 q155; cases e155; replace hx155_0 := kD HB hx155_0; replace p155 := eq_true p155; replace q155 := eq_true q155; have p156 : 0 ≤ (a1 : Int) := zP (by assumption); have q156 : a1 < (l0_4.length : Int) := zP (by assumption); obtain ⟨ad156, e156, hx156_0⟩ := Kd.at_int C0_4.r a1 p156 q156; cases e156; replace hx156_0 := kD HB hx156_0; replace p156 := eq_true p156; replace q156 := eq_true q156)); try go_wp2_with (first | ((with_reducible refine gate_dst (N := 2) rfl ?_); refine bF (N := 2) (cs := #[.int .i64 a0_0, .slice A0_1 l0_1.length c0_1, .slice A0_2 l0_2.length c0_2, .slice A0_3 l0_3.length c0_3, .slice A0_4 l0_4.length c0_4, .slice A0_5 l0_5.length c0_5]) (t := 55) HB ?_; intro gb152 w8 BK152 GW152 HB; have := cf6_ BK152.out; have p153 : 0 ≤ (a1 : Int) := zP (by assumption); have q153 : a1 < (l0_1.length : Int) := zP (by assumption); obtain ⟨ad153, e153, hx153_0⟩ := Kd.at_int C0_1.r a1 p153 q153; cases e153; replace hx153_0 := kD HB hx153_0; replace p153 := eq_true p153; replace q153 := eq_true q153; have p154 : 0 ≤ (a1 : Int) := zP (by assumption); have q154 : a1 < (l0_3.length : Int) := zP (by assumption); obtain ⟨ad154, e154, hx154_0⟩ := Kd.at_int C0_3.r a1 p154 q154; cases e154; replace hx154_0 := kD HB hx154_0; replace p154 := eq_true p154; replace q154 := eq_true q154; have p155 : 0 ≤ (a1 : Int) := zP (by assumption); have q155 : a1 < (l0_2.length : Int) := zP (by assumption); obtain ⟨ad155, e155, hx155_0⟩ := Kd.at_int C0_2.r a1 p155 q155; cases e155; replace hx155_0 := kD HB hx155_0; replace p155 := eq_true p155; replace q155 := eq_true q155; have p156 : 0 ≤ (a1 : Int) := zP (by assumption); have q156 : a1 < (l0_4.length : Int) := zP (by assumption); obtain ⟨ad156, e156, hx156_0⟩ := Kd.at_int C0_4.r a1 p156 q156; cases e156; replace hx156_0 := kD HB hx156_0; replace p156 := eq_true p156; replace q156 := eq_true q156)))
 go_ret
 exact ⟨kE, kR0 HB⟩
/-! ### spec_l06Slab: function 134 -/
mutual
def spec_l06Slab.j0 : Nat → Int → Bool → Int → List Int → List Int → List Int → List Int → List (S110) → Option (Bool)
 | 0, _, _, _, _, _, _, _, _ => none
 | k + 1, x3, x36, x158000, x158001, x158002, x158003, x158004, x158005 => if x36 = true then (some false) else (spec_l06Slab.l0 k x3 0 x158000 x158001 x158002 x158003 x158004 x158005)
def spec_l06Slab.l0 : Nat → Int → Int → Int → List Int → List Int → List Int → List Int → List (S110) → Option (Bool)
 | 0, _, _, _, _, _, _, _, _ => none
 | k + 1, x3, x4, x158000, x158001, x158002, x158003, x158004, x158005 => if x4 < x3 then (if 0 ≤ x4 then (if x4 < (x158001.length : Int) then ((spec_l00In.f (rd x158001 x4) 0 40).bind fun t159 => (if t159 = true then (if x4 < (x158003.length : Int) then ((spec_l00In.f (rd x158003 x4) 1 40).bind fun t161 => (if t161 = true then (if x4 < (x158004.length : Int) then ((spec_l00In.f (rd x158004 x4) 1 40).bind fun t163 => (if t163 = true then (if x4 < (x158002.length : Int) then ((spec_l00In.f (rd x158002 x4) (rd x158004 x4) 40).bind fun t166 => (if t166 = true then ((spec_l06End.f x158000 x158001 x158002 x158003 x158004 x158005 x4).bind fun t167 => (if t167 > 40 then (some false) else (spec_l06Slab.l0 k x3 (wrap64 (x4 + 1)) x158000 x158001 x158002 x158003 x158004 x158005))) else (some false))) else (none)) else (some false))) else (none)) else (some false))) else (none)) else (some false))) else (none)) else (none)) else (some true)
end
def spec_l06Slab.f (k : Nat) (a0_0 : Int) (l0_1 : List Int) (l0_2 : List Int) (l0_3 : List Int) (l0_4 : List Int) (l0_5 : List (S110)) : Option (Bool) := if (l0_1.length : Int) > 3 then (spec_l06Slab.j0 k (l0_1.length : Int) true a0_0 l0_1 l0_2 l0_3 l0_4 l0_5) else (if (l0_2.length : Int) = (l0_1.length : Int) then (if (l0_3.length : Int) = (l0_1.length : Int) then (if (l0_4.length : Int) = (l0_1.length : Int) then (spec_l06Slab.j0 k (l0_1.length : Int) (decide ((l0_5.length : Int) > 0)) a0_0 l0_1 l0_2 l0_3 l0_4 l0_5) else (spec_l06Slab.j0 k (l0_1.length : Int) true a0_0 l0_1 l0_2 l0_3 l0_4 l0_5)) else (spec_l06Slab.j0 k (l0_1.length : Int) true a0_0 l0_1 l0_2 l0_3 l0_4 l0_5)) else (spec_l06Slab.j0 k (l0_1.length : Int) true a0_0 l0_1 l0_2 l0_3 l0_4 l0_5))
def spec_l06Slab.T7 : Bool × List (List Nat × List Nat) := (true, [([], []), ([0], [0]), ([], []), ([1, 2], [1, 2]), ([3], [3]), ([4], [4]), ([5], [5]), ([6, 5], [6]), ([7], [7]), ([8, 7], [7, 8]), ([7], [7]), ([9, 10, 7], [7, 9, 10]), ([11, 7], [7, 11]), ([12, 7, 7], [7, 12]), ([13, 7], [7, 13]), ([7, 14], [7, 14]), ([15, 13], [15]), ([16], [16]), ([17, 16], [16, 17]), ([16], [16]), ([18, 19, 16], [16, 18, 19]), ([20, 16], [16, 20]), ([21, 16, 16], [16, 21]), ([22, 16], [16, 22]), ([16, 23], [16, 23]), ([24, 22], [24]), ([25], [25]), ([26, 25], [25, 26]), ([25], [25]), ([27, 28, 25], [25, 27, 28]), ([29, 25], [25, 29]), ([25], [25]), ([31, 25], [25, 31]), ([25], [25]), ([32, 33, 25], [25, 32, 33]), ([34, 25], [25, 34]), ([30, 35, 25, 25], [25, 30, 35]), ([36, 25], [25, 36]), ([25, 37], [25, 37]), ([38, 36], [38]), ([39], [39]), ([39], [39]), ([40, 41, 39, 39], [39, 40, 41]), ([42, 39], [39, 42]), ([39, 43], [39, 43])])
def spec_l06Slab.B7 : List Nat := [0, 1, 0, 7, 15, 31, 63, 127, 255, 511, 255, 2047, 4095, 8191, 16383, 32767, 65535, 131071, 262143, 131071, 1048575, 2097151, 4194303, 8388607, 16777215, 33554431, 67108863, 134217727, 67108863, 536870911, 1073741823, 67108863, 2214592511, 67108863, 15099494399, 32279363583, 68719476735, 137438953471, 274877906943, 549755813887, 1099511627775, 1099511627775, 4398046511103, 8796093022207, 17592186044415]
theorem spec_l06Slab.tab7 : rtab .any (opsOf Try.f134 7) = spec_l06Slab.T7 := by kernel_rfl
theorem spec_l06Slab.bits7 : waitsOk spec_l06Slab.T7.2 spec_l06Slab.B7 = true := by kernel_rfl
theorem spec_l06Slab.calls (k : Nat) (a0_0 : Int) (A0_1 : Option Addr) (c0_1 : Nat) (l0_1 : List Int) (A0_2 : Option Addr) (c0_2 : Nat) (l0_2 : List Int) (A0_3 : Option Addr) (c0_3 : Nat) (l0_3 : List Int) (A0_4 : Option Addr) (c0_4 : Nat) (l0_4 : List Int) (A0_5 : Option Addr) (c0_5 : Nat) (l0_5 : List (S110)) (r : Bool) (w : World) (C0_1 : Cm (Kd.int .i64) w A0_1 c0_1 l0_1) (C0_2 : Cm (Kd.int .i64) w A0_2 c0_2 l0_2) (C0_3 : Cm (Kd.int .i64) w A0_3 c0_3 l0_3) (C0_4 : Cm (Kd.int .i64) w A0_4 c0_4 l0_4) (C0_5 : Cm k110 w A0_5 c0_5 l0_5) (h : spec_l06Slab.f k a0_0 l0_1 l0_2 l0_3 l0_4 l0_5 = some r) :
 Calls Try.prog 134 #[.agg #[.int .i64 a0_0, .slice A0_1 l0_1.length c0_1, .slice A0_2 l0_2.length c0_2, .slice A0_3 l0_3.length c0_3, .slice A0_4 l0_4.length c0_4, .slice A0_5 l0_5.length c0_5]] w fun e w' => e = .returned (.bool r) ∧ Below w.heap.size w w' := by
 have hu55 := Try.underlying55
 have HB := yD (Below.refl w.heap.size w)
 have H : (if (l0_1.length : Int) > 3 then (spec_l06Slab.j0 k (l0_1.length : Int) true a0_0 l0_1 l0_2 l0_3 l0_4 l0_5) else (if (l0_2.length : Int) = (l0_1.length : Int) then (if (l0_3.length : Int) = (l0_1.length : Int) then (if (l0_4.length : Int) = (l0_1.length : Int) then (spec_l06Slab.j0 k (l0_1.length : Int) (decide ((l0_5.length : Int) > 0)) a0_0 l0_1 l0_2 l0_3 l0_4 l0_5) else (spec_l06Slab.j0 k (l0_1.length : Int) true a0_0 l0_1 l0_2 l0_3 l0_4 l0_5)) else (spec_l06Slab.j0 k (l0_1.length : Int) true a0_0 l0_1 l0_2 l0_3 l0_4 l0_5)) else (spec_l06Slab.j0 k (l0_1.length : Int) true a0_0 l0_1 l0_2 l0_3 l0_4 l0_5))) = some r := h
 clear h
 have HC2 := yD H
 clear H; go_enter Try.func134, Try.ntmps134
 go_upto_region 2 with (first | ((with_reducible refine gate_dst (N := 1) rfl ?_); (try (refine gate_guard (by rfl) ?_; dsimp only)); refine bF (N := 1) (cs := #[.int .i64 a0_0, .slice A0_1 l0_1.length c0_1, .slice A0_2 l0_2.length c0_2, .slice A0_3 l0_3.length c0_3, .slice A0_4 l0_4.length c0_4, .slice A0_5 l0_5.length c0_5]) (t := 55) HB ?_; intro gb157 w3 BK157 GW157 HB; have := cf6_ BK157.out))
 (try simp only [Act.put, zH, zI, zJ])
 go_cut [36] (fun v36 wc => ∃ (kq : Nat) (x36_1 : Bool), v36 = .bool x36_1 ∧ Aside0 (spec_l06Slab.j0 kq (l0_1.length : Int) x36_1 a0_0 l0_1 l0_2 l0_3 l0_4 l0_5 = some r) ∧ Aside0 (kq ≤ k) ∧ Aside0 (wc.heap[gb157]? = some (.cells #[.int .i64 a0_0, (.slice A0_1 l0_1.length c0_1), (.slice A0_2 l0_2.length c0_2), (.slice A0_3 l0_3.length c0_3), (.slice A0_4 l0_4.length c0_4), (.slice A0_5 l0_5.length c0_5)] 55 (0, 0))) ∧ Aside0 (Below w.heap.size w wc))
 case first =>
  have H := HC2.out; clear HC2
  replace H := sB H; rcases H with ⟨c5, H⟩ | ⟨c5, H⟩
  ·
   have c5b0 : decide (3 < (l0_1.length : Int)) = true := zR c5
   have c5b1 : decide (3 < l0_1.length) = true := zR (by omega)
   clear c5
   (first | rw [c5b0] | (simp only [i64_w, i32_w]; rw [c5b0]) | (simp only [bne] at c5b0; rw [c5b0]) | skip)
   have H' := yD H
   clear H
   go_wp2
   go_meet
   case rel => exact ⟨_, (true), kF, H', ⟨by first | omega | exact Nat.le_refl _⟩, ⟨kM BK157⟩, ⟨kR0 HB⟩⟩
  have c5b0 : decide (3 < (l0_1.length : Int)) = false := zS c5
  have c5b1 : decide (3 < l0_1.length) = false := zS (by omega)
  clear c5
  (first | rw [c5b0] | (simp only [i64_w, i32_w]; rw [c5b0]) | (simp only [bne] at c5b0; rw [c5b0]) | skip)
  replace H := sP H; rcases H with ⟨c6, c6b0, c6b1, H⟩ | ⟨c6, c6b0, c6b1, H⟩
  ·
   have c6b2 : (l0_2.length == l0_1.length) = false := by first | simpa using c6 | (simp at c6 ⊢; omega)
   have H' := yD H
   clear H
   have := cf6_ BK157.out
   go_wp2
   go_meet
   case rel => exact ⟨_, (true), kF, H', ⟨by first | omega | exact Nat.le_refl _⟩, ⟨kM BK157⟩, ⟨kR0 HB⟩⟩
  have c6b2 : (l0_2.length == l0_1.length) = true := by first | simpa using c6 | (simp at c6 ⊢; omega)
  clear c6
  replace H := sP H; rcases H with ⟨c7, c7b0, c7b1, H⟩ | ⟨c7, c7b0, c7b1, H⟩
  ·
   have c7b2 : (l0_3.length == l0_1.length) = false := by first | simpa using c7 | (simp at c7 ⊢; omega)
   have H' := yD H
   clear H
   have := cf6_ BK157.out
   go_wp2
   go_meet
   case rel => exact ⟨_, (true), kF, H', ⟨by first | omega | exact Nat.le_refl _⟩, ⟨kM BK157⟩, ⟨kR0 HB⟩⟩
  have c7b2 : (l0_3.length == l0_1.length) = true := by first | simpa using c7 | (simp at c7 ⊢; omega)
  clear c7
  replace H := sP H; rcases H with ⟨c8, c8b0, c8b1, H⟩ | ⟨c8, c8b0, c8b1, H⟩
  ·
   have c8b2 : (l0_4.length == l0_1.length) = false := by first | simpa using c8 | (simp at c8 ⊢; omega)
   have H' := yD H
   clear H
   have := cf6_ BK157.out
   go_wp2
   go_meet
   case rel => exact ⟨_, (true), kF, H', ⟨by first | omega | exact Nat.le_refl _⟩, ⟨kM BK157⟩, ⟨kR0 HB⟩⟩
  have c8b2 : (l0_4.length == l0_1.length) = true := by first | simpa using c8 | (simp at c8 ⊢; omega)
  clear c8
  have H' := yD H
  clear H
  have := cf6_ BK157.out
  go_wp2
  go_meet
  case rel => exact ⟨_, (decide ((l0_5.length : Int) > 0)), kF, H', ⟨by first | omega | exact Nat.le_refl _⟩, ⟨kM BK157⟩, ⟨kR0 HB⟩⟩
 case rest =>
  clear HC2
  obtain ⟨kq, x36_1, rfl, HA, HJ1, BK157, HB⟩ := hcut
  cases kq with
  | zero => exact absurd HA.out (by simp [spec_l06Slab.j0])
  | succ kj1 =>
   have H := HA.out; clear HA
   simp only [spec_l06Slab.j0] at H
   replace H := sT H; rcases H with ⟨rfl, H⟩ | ⟨rfl, H⟩
   · obtain rfl := sJ H
     go_wp2
     go_ret
     exact ⟨kE, kR0 HB⟩
   have H' := yD H
   clear H
   go_wp2
   go_loopg [4] kj1 (fun kq v4 w' => ∃ (x4_2 : Int), v4 = .int .i64 x4_2 ∧ Aside0 (spec_l06Slab.l0 kq (l0_1.length : Int) x4_2 a0_0 l0_1 l0_2 l0_3 l0_4 l0_5 = some r) ∧ Aside0 (kq ≤ kj1) ∧ Aside0 (w'.heap[gb157]? = some (.cells #[.int .i64 a0_0, (.slice A0_1 l0_1.length c0_1), (.slice A0_2 l0_2.length c0_2), (.slice A0_3 l0_3.length c0_3), (.slice A0_4 l0_4.length c0_4), (.slice A0_5 l0_5.length c0_5)] 55 (0, 0))) ∧ Aside0 (Below w.heap.size w w'))
   case atStart => exact ⟨(0), kF, H', ⟨Nat.le_refl _⟩, ⟨kM BK157⟩, ⟨kR0 HB⟩⟩
   case round =>
    clear H'
    obtain ⟨x4_2, rfl, HA, HK2, BK157, HB⟩ := hrel
    cases gk with
    | zero => exact absurd HA.out (by simp [spec_l06Slab.l0])
    | succ k2 =>
     have H := HA.out; clear HA
     simp only [spec_l06Slab.l0] at H
     replace H := sG H; rcases H with ⟨c14b0, H⟩ | ⟨c14b0, H⟩
     · obtain rfl := sJ H
       go_wp2
       go_ret
       exact ⟨kE, kR0 HB⟩
     replace ⟨c15b0, H⟩ := sE H
     replace ⟨c16b0, H⟩ := sE H
     replace ⟨t159, A17, H⟩ := sV H
     replace H := sS H; rcases H with ⟨rfl, H⟩ | ⟨rfl, H⟩
     ·
      obtain rfl := sJ H
      try go_wp2
      replace BK157 := yD (yO BK157.out); replace HB := yD (yP HB.out)
      obtain ⟨p158, q158, ad158, e158, hx158_0⟩ := sI (Kd.at_int C0_1.r x4_2)
      have hw158_0 := hx158_0; cases e158
      replace hx158_0 := kD HB hx158_0
      refine s0 (m := 45) (S := fun w' => cl w' gb157 0 (.int .i64 a0_0) ∧ cl w' gb157 1 (.slice (some ad158) l0_1.length c0_1) ∧ cl w' gb157 2 (.slice A0_2 l0_2.length c0_2) ∧ cl w' gb157 3 (.slice A0_3 l0_3.length c0_3) ∧ cl w' gb157 4 (.slice A0_4 l0_4.length c0_4) ∧ cl w' gb157 5 (.slice A0_5 l0_5.length c0_5) ∧ w'.cell? (ad158.add (x4_2).toNat) = some (.int .i64 (rd l0_1 x4_2))) spec_l06Slab.tab7 spec_l06Slab.bits7 (ca6_ BK157.out ((kC HB hw158_0))) fun hHeld HT_ HW_ => ?_
      generalize wr.drew = w37 at BK157 HB hx158_0 hHeld ⊢
      refine qa 45 0 1 ?_; refine qa 45 2 5 ?_; refine qc 45 1 7 hHeld ?_; refine qa 45 3 15 ?_; refine qc 45 4 31 hHeld ?_
      refine qo 45 5 63 (some 47) fun K hK => ?_
      refine qg Try.func92 _ (dm (spec_l00In.calls (rd l0_1 x4_2) 0 40 false _ A17.out) fun nd => ?_)
      refine hK.out _ _ (ca6_ BK157.out ((kC HB hw158_0))) (fun hHeld => ?_)
      clear hK K
      refine nZ 47 ?_
      refine qa 45 6 127 ?_; refine qa 45 7 255 ?_; refine qb 45 8 511 ?_; refine qb 45 9 1023 ?_; refine qb 45 10 2047 ?_; refine qb 45 11 4095 ?_; refine qb 45 12 8191 ?_; refine qb 45 13 16383 ?_; refine qb 45 14 32767 ?_; refine qa 45 15 65535 ?_; refine qa 45 16 131071 ?_; refine qb 45 17 262143 ?_; refine qb 45 18 524287 ?_; refine qb 45 19 1048575 ?_; refine qb 45 20 2097151 ?_; refine qb 45 21 4194303 ?_; refine qb 45 22 8388607 ?_; refine qb 45 23 16777215 ?_; refine qa 45 24 33554431 ?_; refine qa 45 25 67108863 ?_; refine qb 45 26 134217727 ?_; refine qb 45 27 268435455 ?_; refine qb 45 28 536870911 ?_; refine qb 45 29 1073741823 ?_; refine qb 45 30 2147483647 ?_; refine qb 45 31 4294967295 ?_; refine qb 45 32 8589934591 ?_; refine qb 45 33 17179869183 ?_; refine qb 45 34 34359738367 ?_; refine qb 45 35 68719476735 ?_; refine qb 45 36 137438953471 ?_; refine qb 45 37 274877906943 ?_; refine qa 45 38 549755813887 ?_; refine qa 45 39 1099511627775 ?_; refine qb 45 40 2199023255551 ?_; refine qb 45 41 4398046511103 ?_; refine qb 45 42 8796093022207 ?_; refine qb 45 43 17592186044415 ?_; refine qa 45 44 35184372088831 ?_
      refine qd ?_
      try go_wp2
      go_ret
      exact ⟨kE, kR0 HB⟩
     replace ⟨c19b0, H⟩ := sE H
     replace ⟨t161, A20, H⟩ := sV H
     replace H := sS H; rcases H with ⟨rfl, H⟩ | ⟨rfl, H⟩
     ·
      obtain rfl := sJ H
      try go_wp2
      replace BK157 := yD (yO BK157.out); replace HB := yD (yP HB.out)
      obtain ⟨p158, q158, ad158, e158, hx158_0⟩ := sI (Kd.at_int C0_1.r x4_2)
      have hw158_0 := hx158_0; cases e158
      replace hx158_0 := kD HB hx158_0
      obtain ⟨p160, q160, ad160, e160, hx160_0⟩ := sI (Kd.at_int C0_3.r x4_2)
      have hw160_0 := hx160_0; cases e160
      replace hx160_0 := kD HB hx160_0
      refine s0 (m := 45) (S := fun w' => cl w' gb157 0 (.int .i64 a0_0) ∧ cl w' gb157 1 (.slice (some ad158) l0_1.length c0_1) ∧ cl w' gb157 2 (.slice A0_2 l0_2.length c0_2) ∧ cl w' gb157 3 (.slice (some ad160) l0_3.length c0_3) ∧ cl w' gb157 4 (.slice A0_4 l0_4.length c0_4) ∧ cl w' gb157 5 (.slice A0_5 l0_5.length c0_5) ∧ w'.cell? (ad158.add (x4_2).toNat) = some (.int .i64 (rd l0_1 x4_2)) ∧ w'.cell? (ad160.add (x4_2).toNat) = some (.int .i64 (rd l0_3 x4_2))) spec_l06Slab.tab7 spec_l06Slab.bits7 (ca6_ BK157.out ⟨(kC HB hw158_0), (kC HB hw160_0)⟩) fun hHeld HT_ HW_ => ?_
      generalize wr.drew = w36 at BK157 HB hx158_0 hx160_0 hHeld ⊢
      refine qa 45 0 1 ?_; refine qa 45 2 5 ?_; refine qc 45 1 7 hHeld ?_; refine qa 45 3 15 ?_; refine qc 45 4 31 hHeld ?_
      refine qo 45 5 63 (some 47) fun K hK => ?_
      refine qg Try.func92 _ (dm (spec_l00In.calls (rd l0_1 x4_2) 0 40 true _ A17.out) fun nd => ?_)
      refine hK.out _ _ (ca6_ BK157.out ⟨(kC HB hw158_0), (kC HB hw160_0)⟩) (fun hHeld => ?_)
      clear hK K
      refine nZ 47 ?_
      refine qa 45 6 127 ?_; refine qa 45 7 255 ?_; refine qa 45 8 511 ?_; refine qa 45 10 1535 ?_; refine qc 45 9 2047 hHeld ?_; refine qa 45 11 4095 ?_; refine qc 45 12 8191 hHeld ?_
      refine qo 45 13 16383 (some 55) fun K hK => ?_
      refine qg Try.func92 _ (dm (spec_l00In.calls (rd l0_3 x4_2) 1 40 false _ A20.out) fun nd => ?_)
      refine hK.out _ _ (ca6_ BK157.out ⟨(kC HB hw158_0), (kC HB hw160_0)⟩) (fun hHeld => ?_)
      clear hK K
      refine nZ 55 ?_
      refine qa 45 14 32767 ?_; refine qa 45 15 65535 ?_; refine qa 45 16 131071 ?_; refine qb 45 17 262143 ?_; refine qb 45 18 524287 ?_; refine qb 45 19 1048575 ?_; refine qb 45 20 2097151 ?_; refine qb 45 21 4194303 ?_; refine qb 45 22 8388607 ?_; refine qb 45 23 16777215 ?_; refine qa 45 24 33554431 ?_; refine qa 45 25 67108863 ?_; refine qb 45 26 134217727 ?_; refine qb 45 27 268435455 ?_; refine qb 45 28 536870911 ?_; refine qb 45 29 1073741823 ?_; refine qb 45 30 2147483647 ?_; refine qb 45 31 4294967295 ?_; refine qb 45 32 8589934591 ?_; refine qb 45 33 17179869183 ?_; refine qb 45 34 34359738367 ?_; refine qb 45 35 68719476735 ?_; refine qb 45 36 137438953471 ?_; refine qb 45 37 274877906943 ?_; refine qa 45 38 549755813887 ?_; refine qa 45 39 1099511627775 ?_; refine qb 45 40 2199023255551 ?_; refine qb 45 41 4398046511103 ?_; refine qb 45 42 8796093022207 ?_; refine qb 45 43 17592186044415 ?_; refine qa 45 44 35184372088831 ?_
      refine qd ?_
      try go_wp2
      go_ret
      exact ⟨kE, kR0 HB⟩
     replace ⟨c22b0, H⟩ := sE H
     replace ⟨t163, A23, H⟩ := sV H
     replace H := sS H; rcases H with ⟨rfl, H⟩ | ⟨rfl, H⟩
     ·
      obtain rfl := sJ H
      try go_wp2
      replace BK157 := yD (yO BK157.out); replace HB := yD (yP HB.out)
      obtain ⟨p158, q158, ad158, e158, hx158_0⟩ := sI (Kd.at_int C0_1.r x4_2)
      have hw158_0 := hx158_0; cases e158
      replace hx158_0 := kD HB hx158_0
      obtain ⟨p160, q160, ad160, e160, hx160_0⟩ := sI (Kd.at_int C0_3.r x4_2)
      have hw160_0 := hx160_0; cases e160
      replace hx160_0 := kD HB hx160_0
      obtain ⟨p162, q162, ad162, e162, hx162_0⟩ := sI (Kd.at_int C0_4.r x4_2)
      have hw162_0 := hx162_0; cases e162
      replace hx162_0 := kD HB hx162_0
      refine s0 (m := 45) (S := fun w' => cl w' gb157 0 (.int .i64 a0_0) ∧ cl w' gb157 1 (.slice (some ad158) l0_1.length c0_1) ∧ cl w' gb157 2 (.slice A0_2 l0_2.length c0_2) ∧ cl w' gb157 3 (.slice (some ad160) l0_3.length c0_3) ∧ cl w' gb157 4 (.slice (some ad162) l0_4.length c0_4) ∧ cl w' gb157 5 (.slice A0_5 l0_5.length c0_5) ∧ w'.cell? (ad158.add (x4_2).toNat) = some (.int .i64 (rd l0_1 x4_2)) ∧ w'.cell? (ad160.add (x4_2).toNat) = some (.int .i64 (rd l0_3 x4_2)) ∧ w'.cell? (ad162.add (x4_2).toNat) = some (.int .i64 (rd l0_4 x4_2))) spec_l06Slab.tab7 spec_l06Slab.bits7 (ca6_ BK157.out ⟨(kC HB hw158_0), (kC HB hw160_0), (kC HB hw162_0)⟩) fun hHeld HT_ HW_ => ?_
      generalize wr.drew = w35 at BK157 HB hx158_0 hx160_0 hx162_0 hHeld ⊢
      refine qa 45 0 1 ?_; refine qa 45 2 5 ?_; refine qc 45 1 7 hHeld ?_; refine qa 45 3 15 ?_; refine qc 45 4 31 hHeld ?_
      refine qo 45 5 63 (some 47) fun K hK => ?_
      refine qg Try.func92 _ (dm (spec_l00In.calls (rd l0_1 x4_2) 0 40 true _ A17.out) fun nd => ?_)
      refine hK.out _ _ (ca6_ BK157.out ⟨(kC HB hw158_0), (kC HB hw160_0), (kC HB hw162_0)⟩) (fun hHeld => ?_)
      clear hK K
      refine nZ 47 ?_
      refine qa 45 6 127 ?_; refine qa 45 7 255 ?_; refine qa 45 8 511 ?_; refine qa 45 10 1535 ?_; refine qc 45 9 2047 hHeld ?_; refine qa 45 11 4095 ?_; refine qc 45 12 8191 hHeld ?_
      refine qo 45 13 16383 (some 55) fun K hK => ?_
      refine qg Try.func92 _ (dm (spec_l00In.calls (rd l0_3 x4_2) 1 40 true _ A20.out) fun nd => ?_)
      refine hK.out _ _ (ca6_ BK157.out ⟨(kC HB hw158_0), (kC HB hw160_0), (kC HB hw162_0)⟩) (fun hHeld => ?_)
      clear hK K
      refine nZ 55 ?_
      refine qa 45 14 32767 ?_; refine qa 45 15 65535 ?_; refine qa 45 16 131071 ?_; refine qa 45 17 262143 ?_; refine qa 45 19 786431 ?_; refine qc 45 18 1048575 hHeld ?_; refine qa 45 20 2097151 ?_; refine qc 45 21 4194303 hHeld ?_
      refine qo 45 22 8388607 (some 64) fun K hK => ?_
      refine qg Try.func92 _ (dm (spec_l00In.calls (rd l0_4 x4_2) 1 40 false _ A23.out) fun nd => ?_)
      refine hK.out _ _ (ca6_ BK157.out ⟨(kC HB hw158_0), (kC HB hw160_0), (kC HB hw162_0)⟩) (fun hHeld => ?_)
      clear hK K
      refine nZ 64 ?_
      refine qa 45 23 16777215 ?_; refine qa 45 24 33554431 ?_; refine qa 45 25 67108863 ?_; refine qb 45 26 134217727 ?_; refine qb 45 27 268435455 ?_; refine qb 45 28 536870911 ?_; refine qb 45 29 1073741823 ?_; refine qb 45 30 2147483647 ?_; refine qb 45 31 4294967295 ?_; refine qb 45 32 8589934591 ?_; refine qb 45 33 17179869183 ?_; refine qb 45 34 34359738367 ?_; refine qb 45 35 68719476735 ?_; refine qb 45 36 137438953471 ?_; refine qb 45 37 274877906943 ?_; refine qa 45 38 549755813887 ?_; refine qa 45 39 1099511627775 ?_; refine qb 45 40 2199023255551 ?_; refine qb 45 41 4398046511103 ?_; refine qb 45 42 8796093022207 ?_; refine qb 45 43 17592186044415 ?_; refine qa 45 44 35184372088831 ?_
      refine qd ?_
      try go_wp2
      go_ret
      exact ⟨kE, kR0 HB⟩
     replace ⟨c25b0, H⟩ := sE H
     replace ⟨t166, A26, H⟩ := sV H
     replace H := sS H; rcases H with ⟨rfl, H⟩ | ⟨rfl, H⟩
     ·
      obtain rfl := sJ H
      try go_wp2
      replace BK157 := yD (yO BK157.out); replace HB := yD (yP HB.out)
      obtain ⟨p158, q158, ad158, e158, hx158_0⟩ := sI (Kd.at_int C0_1.r x4_2)
      have hw158_0 := hx158_0; cases e158
      replace hx158_0 := kD HB hx158_0
      obtain ⟨p160, q160, ad160, e160, hx160_0⟩ := sI (Kd.at_int C0_3.r x4_2)
      have hw160_0 := hx160_0; cases e160
      replace hx160_0 := kD HB hx160_0
      obtain ⟨p162, q162, ad162, e162, hx162_0⟩ := sI (Kd.at_int C0_4.r x4_2)
      have hw162_0 := hx162_0; cases e162
      replace hx162_0 := kD HB hx162_0
      obtain ⟨p164, q164, ad164, e164, hx164_0⟩ := sI (Kd.at_int C0_2.r x4_2)
      have hw164_0 := hx164_0; cases e164
      replace hx164_0 := kD HB hx164_0
      obtain ⟨p165, q165, ad165, e165, hx165_0⟩ := sI (Kd.at_int C0_4.r x4_2)
      have hw165_0 := hx165_0
      obtain rfl : ad162 = ad165 := (by injection e165)
      replace hx165_0 := kD HB hx165_0
      refine s0 (m := 45) (S := fun w' => cl w' gb157 0 (.int .i64 a0_0) ∧ cl w' gb157 1 (.slice (some ad158) l0_1.length c0_1) ∧ cl w' gb157 2 (.slice (some ad164) l0_2.length c0_2) ∧ cl w' gb157 3 (.slice (some ad160) l0_3.length c0_3) ∧ cl w' gb157 4 (.slice (some ad162) l0_4.length c0_4) ∧ cl w' gb157 5 (.slice A0_5 l0_5.length c0_5) ∧ w'.cell? (ad158.add (x4_2).toNat) = some (.int .i64 (rd l0_1 x4_2)) ∧ w'.cell? (ad160.add (x4_2).toNat) = some (.int .i64 (rd l0_3 x4_2)) ∧ w'.cell? (ad162.add (x4_2).toNat) = some (.int .i64 (rd l0_4 x4_2)) ∧ w'.cell? (ad164.add (x4_2).toNat) = some (.int .i64 (rd l0_2 x4_2)) ∧ w'.cell? (ad162.add (x4_2).toNat) = some (.int .i64 (rd l0_4 x4_2))) spec_l06Slab.tab7 spec_l06Slab.bits7 (ca6_ BK157.out ⟨(kC HB hw158_0), (kC HB hw160_0), (kC HB hw162_0), (kC HB hw164_0), (kC HB hw165_0)⟩) fun hHeld HT_ HW_ => ?_
      generalize wr.drew = w34 at BK157 HB hx158_0 hx160_0 hx162_0 hx164_0 hx165_0 hHeld ⊢
      refine qa 45 0 1 ?_; refine qa 45 2 5 ?_; refine qc 45 1 7 hHeld ?_; refine qa 45 3 15 ?_; refine qc 45 4 31 hHeld ?_
      refine qo 45 5 63 (some 47) fun K hK => ?_
      refine qg Try.func92 _ (dm (spec_l00In.calls (rd l0_1 x4_2) 0 40 true _ A17.out) fun nd => ?_)
      refine hK.out _ _ (ca6_ BK157.out ⟨(kC HB hw158_0), (kC HB hw160_0), (kC HB hw162_0), (kC HB hw164_0), (kC HB hw165_0)⟩) (fun hHeld => ?_)
      clear hK K
      refine nZ 47 ?_
      refine qa 45 6 127 ?_; refine qa 45 7 255 ?_; refine qa 45 8 511 ?_; refine qa 45 10 1535 ?_; refine qc 45 9 2047 hHeld ?_; refine qa 45 11 4095 ?_; refine qc 45 12 8191 hHeld ?_
      refine qo 45 13 16383 (some 55) fun K hK => ?_
      refine qg Try.func92 _ (dm (spec_l00In.calls (rd l0_3 x4_2) 1 40 true _ A20.out) fun nd => ?_)
      refine hK.out _ _ (ca6_ BK157.out ⟨(kC HB hw158_0), (kC HB hw160_0), (kC HB hw162_0), (kC HB hw164_0), (kC HB hw165_0)⟩) (fun hHeld => ?_)
      clear hK K
      refine nZ 55 ?_
      refine qa 45 14 32767 ?_; refine qa 45 15 65535 ?_; refine qa 45 16 131071 ?_; refine qa 45 17 262143 ?_; refine qa 45 19 786431 ?_; refine qc 45 18 1048575 hHeld ?_; refine qa 45 20 2097151 ?_; refine qc 45 21 4194303 hHeld ?_
      refine qo 45 22 8388607 (some 64) fun K hK => ?_
      refine qg Try.func92 _ (dm (spec_l00In.calls (rd l0_4 x4_2) 1 40 true _ A23.out) fun nd => ?_)
      refine hK.out _ _ (ca6_ BK157.out ⟨(kC HB hw158_0), (kC HB hw160_0), (kC HB hw162_0), (kC HB hw164_0), (kC HB hw165_0)⟩) (fun hHeld => ?_)
      clear hK K
      refine nZ 64 ?_
      refine qa 45 23 16777215 ?_; refine qa 45 24 33554431 ?_; refine qa 45 25 67108863 ?_; refine qa 45 26 134217727 ?_; refine qa 45 28 402653183 ?_; refine qa 45 31 2550136831 ?_; refine qa 45 33 11140071423 ?_; refine qc 45 27 11274289151 hHeld ?_; refine qa 45 29 11811160063 ?_; refine qc 45 30 12884901887 hHeld ?_; refine qc 45 32 17179869183 hHeld ?_; refine qa 45 34 34359738367 ?_; refine qc 45 35 68719476735 hHeld ?_
      refine qo 45 36 137438953471 (some 78) fun K hK => ?_
      refine qg Try.func92 _ (dm (spec_l00In.calls (rd l0_2 x4_2) (rd l0_4 x4_2) 40 false _ A26.out) fun nd => ?_)
      refine hK.out _ _ (ca6_ BK157.out ⟨(kC HB hw158_0), (kC HB hw160_0), (kC HB hw162_0), (kC HB hw164_0), (kC HB hw165_0)⟩) (fun hHeld => ?_)
      clear hK K
      refine nZ 78 ?_
      refine qa 45 37 274877906943 ?_; refine qa 45 38 549755813887 ?_; refine qa 45 39 1099511627775 ?_; refine qb 45 40 2199023255551 ?_; refine qb 45 41 4398046511103 ?_; refine qb 45 42 8796093022207 ?_; refine qb 45 43 17592186044415 ?_; refine qa 45 44 35184372088831 ?_
      refine qd ?_
      try go_wp2
      go_ret
      exact ⟨kE, kR0 HB⟩
     replace ⟨t167, A28, H⟩ := sV H
     replace H := sB H; rcases H with ⟨c29, H⟩ | ⟨c29, H⟩
     ·
      have c29b0 : decide (40 < t167) = true := zR c29; clear c29; obtain rfl := sJ H
      try go_wp2
      replace BK157 := yD (yO BK157.out); replace HB := yD (yP HB.out)
      obtain ⟨p158, q158, ad158, e158, hx158_0⟩ := sI (Kd.at_int C0_1.r x4_2)
      have hw158_0 := hx158_0; cases e158
      replace hx158_0 := kD HB hx158_0
      obtain ⟨p160, q160, ad160, e160, hx160_0⟩ := sI (Kd.at_int C0_3.r x4_2)
      have hw160_0 := hx160_0; cases e160
      replace hx160_0 := kD HB hx160_0
      obtain ⟨p162, q162, ad162, e162, hx162_0⟩ := sI (Kd.at_int C0_4.r x4_2)
      have hw162_0 := hx162_0; cases e162
      replace hx162_0 := kD HB hx162_0
      obtain ⟨p164, q164, ad164, e164, hx164_0⟩ := sI (Kd.at_int C0_2.r x4_2)
      have hw164_0 := hx164_0; cases e164
      replace hx164_0 := kD HB hx164_0
      obtain ⟨p165, q165, ad165, e165, hx165_0⟩ := sI (Kd.at_int C0_4.r x4_2)
      have hw165_0 := hx165_0
      obtain rfl : ad162 = ad165 := (by injection e165)
      replace hx165_0 := kD HB hx165_0
      refine s0 (m := 45) (S := fun w' => cl w' gb157 0 (.int .i64 a0_0) ∧ cl w' gb157 1 (.slice (some ad158) l0_1.length c0_1) ∧ cl w' gb157 2 (.slice (some ad164) l0_2.length c0_2) ∧ cl w' gb157 3 (.slice (some ad160) l0_3.length c0_3) ∧ cl w' gb157 4 (.slice (some ad162) l0_4.length c0_4) ∧ cl w' gb157 5 (.slice A0_5 l0_5.length c0_5) ∧ w'.cell? (ad158.add (x4_2).toNat) = some (.int .i64 (rd l0_1 x4_2)) ∧ w'.cell? (ad160.add (x4_2).toNat) = some (.int .i64 (rd l0_3 x4_2)) ∧ w'.cell? (ad162.add (x4_2).toNat) = some (.int .i64 (rd l0_4 x4_2)) ∧ w'.cell? (ad164.add (x4_2).toNat) = some (.int .i64 (rd l0_2 x4_2)) ∧ w'.cell? (ad162.add (x4_2).toNat) = some (.int .i64 (rd l0_4 x4_2))) spec_l06Slab.tab7 spec_l06Slab.bits7 (ca6_ BK157.out ⟨(kC HB hw158_0), (kC HB hw160_0), (kC HB hw162_0), (kC HB hw164_0), (kC HB hw165_0)⟩) fun hHeld HT_ HW_ => ?_
      generalize wr.drew = w30 at BK157 HB hx158_0 hx160_0 hx162_0 hx164_0 hx165_0 hHeld ⊢
      refine qa 45 0 1 ?_; refine qa 45 2 5 ?_; refine qc 45 1 7 hHeld ?_; refine qa 45 3 15 ?_; refine qc 45 4 31 hHeld ?_
      refine qo 45 5 63 (some 47) fun K hK => ?_
      refine qg Try.func92 _ (dm (spec_l00In.calls (rd l0_1 x4_2) 0 40 true _ A17.out) fun nd => ?_)
      refine hK.out _ _ (ca6_ BK157.out ⟨(kC HB hw158_0), (kC HB hw160_0), (kC HB hw162_0), (kC HB hw164_0), (kC HB hw165_0)⟩) (fun hHeld => ?_)
      clear hK K
      refine nZ 47 ?_
      refine qa 45 6 127 ?_; refine qa 45 7 255 ?_; refine qa 45 8 511 ?_; refine qa 45 10 1535 ?_; refine qc 45 9 2047 hHeld ?_; refine qa 45 11 4095 ?_; refine qc 45 12 8191 hHeld ?_
      refine qo 45 13 16383 (some 55) fun K hK => ?_
      refine qg Try.func92 _ (dm (spec_l00In.calls (rd l0_3 x4_2) 1 40 true _ A20.out) fun nd => ?_)
      refine hK.out _ _ (ca6_ BK157.out ⟨(kC HB hw158_0), (kC HB hw160_0), (kC HB hw162_0), (kC HB hw164_0), (kC HB hw165_0)⟩) (fun hHeld => ?_)
      clear hK K
      refine nZ 55 ?_
      refine qa 45 14 32767 ?_; refine qa 45 15 65535 ?_; refine qa 45 16 131071 ?_; refine qa 45 17 262143 ?_; refine qa 45 19 786431 ?_; refine qc 45 18 1048575 hHeld ?_; refine qa 45 20 2097151 ?_; refine qc 45 21 4194303 hHeld ?_
      refine qo 45 22 8388607 (some 64) fun K hK => ?_
      refine qg Try.func92 _ (dm (spec_l00In.calls (rd l0_4 x4_2) 1 40 true _ A23.out) fun nd => ?_)
      refine hK.out _ _ (ca6_ BK157.out ⟨(kC HB hw158_0), (kC HB hw160_0), (kC HB hw162_0), (kC HB hw164_0), (kC HB hw165_0)⟩) (fun hHeld => ?_)
      clear hK K
      refine nZ 64 ?_
      refine qa 45 23 16777215 ?_; refine qa 45 24 33554431 ?_; refine qa 45 25 67108863 ?_; refine qa 45 26 134217727 ?_; refine qa 45 28 402653183 ?_; refine qa 45 31 2550136831 ?_; refine qa 45 33 11140071423 ?_; refine qc 45 27 11274289151 hHeld ?_; refine qa 45 29 11811160063 ?_; refine qc 45 30 12884901887 hHeld ?_; refine qc 45 32 17179869183 hHeld ?_; refine qa 45 34 34359738367 ?_; refine qc 45 35 68719476735 hHeld ?_
      refine qo 45 36 137438953471 (some 78) fun K hK => ?_
      refine qg Try.func92 _ (dm (spec_l00In.calls (rd l0_2 x4_2) (rd l0_4 x4_2) 40 true _ A26.out) fun nd => ?_)
      refine hK.out _ _ (ca6_ BK157.out ⟨(kC HB hw158_0), (kC HB hw160_0), (kC HB hw162_0), (kC HB hw164_0), (kC HB hw165_0)⟩) (fun hHeld => ?_)
      clear hK K
      refine nZ 78 ?_
      refine qa 45 37 274877906943 ?_; refine qa 45 38 549755813887 ?_; refine qa 45 39 1099511627775 ?_; refine qa 45 41 3298534883327 ?_; refine qc 45 40 4398046511103 hHeld ?_
      refine qo 45 42 8796093022207 (some 84) fun K hK => ?_
      refine qg Try.func111 _ ((spec_l06End.calls a0_0 _ _ l0_1 _ _ l0_2 _ _ l0_3 _ _ l0_4 _ _ l0_5 x4_2 t167 _ (C0_1.b HB) (C0_2.b HB) (C0_3.b HB) (C0_4.b HB) (C0_5.b HB) A28.out).mono ?_)
      rintro e w31 ⟨rfl, hb⟩
      refine ⟨_, rfl, ?_⟩
      replace BK157 := zY BK157 hb; replace HB := zX HB hb
      refine hK.out _ _ (ca6_ BK157.out ⟨(kC HB hw158_0), (kC HB hw160_0), (kC HB hw162_0), (kC HB hw164_0), (kC HB hw165_0)⟩) (fun hHeld => ?_)
      clear hK K
      refine nZ 84 ?_
      refine qa 45 43 17592186044415 ?_; refine qa 45 44 35184372088831 ?_
      refine qd ?_
      try go_wp2
      go_ret
      exact ⟨kE, kR0 HB⟩
     have c29b0 : decide (40 < t167) = false := zS c29; clear c29
     have H' := yD H
     clear H
     try go_wp2
     replace BK157 := yD (yO BK157.out); replace HB := yD (yP HB.out)
     obtain ⟨p158, q158, ad158, e158, hx158_0⟩ := sI (Kd.at_int C0_1.r x4_2)
     have hw158_0 := hx158_0; cases e158
     replace hx158_0 := kD HB hx158_0
     obtain ⟨p160, q160, ad160, e160, hx160_0⟩ := sI (Kd.at_int C0_3.r x4_2)
     have hw160_0 := hx160_0; cases e160
     replace hx160_0 := kD HB hx160_0
     obtain ⟨p162, q162, ad162, e162, hx162_0⟩ := sI (Kd.at_int C0_4.r x4_2)
     have hw162_0 := hx162_0; cases e162
     replace hx162_0 := kD HB hx162_0
     obtain ⟨p164, q164, ad164, e164, hx164_0⟩ := sI (Kd.at_int C0_2.r x4_2)
     have hw164_0 := hx164_0; cases e164
     replace hx164_0 := kD HB hx164_0
     obtain ⟨p165, q165, ad165, e165, hx165_0⟩ := sI (Kd.at_int C0_4.r x4_2)
     have hw165_0 := hx165_0
     obtain rfl : ad162 = ad165 := (by injection e165)
     replace hx165_0 := kD HB hx165_0
     refine s0 (m := 45) (S := fun w' => cl w' gb157 0 (.int .i64 a0_0) ∧ cl w' gb157 1 (.slice (some ad158) l0_1.length c0_1) ∧ cl w' gb157 2 (.slice (some ad164) l0_2.length c0_2) ∧ cl w' gb157 3 (.slice (some ad160) l0_3.length c0_3) ∧ cl w' gb157 4 (.slice (some ad162) l0_4.length c0_4) ∧ cl w' gb157 5 (.slice A0_5 l0_5.length c0_5) ∧ w'.cell? (ad158.add (x4_2).toNat) = some (.int .i64 (rd l0_1 x4_2)) ∧ w'.cell? (ad160.add (x4_2).toNat) = some (.int .i64 (rd l0_3 x4_2)) ∧ w'.cell? (ad162.add (x4_2).toNat) = some (.int .i64 (rd l0_4 x4_2)) ∧ w'.cell? (ad164.add (x4_2).toNat) = some (.int .i64 (rd l0_2 x4_2)) ∧ w'.cell? (ad162.add (x4_2).toNat) = some (.int .i64 (rd l0_4 x4_2))) spec_l06Slab.tab7 spec_l06Slab.bits7 (ca6_ BK157.out ⟨(kC HB hw158_0), (kC HB hw160_0), (kC HB hw162_0), (kC HB hw164_0), (kC HB hw165_0)⟩) fun hHeld HT_ HW_ => ?_
     generalize wr.drew = w32 at BK157 HB hx158_0 hx160_0 hx162_0 hx164_0 hx165_0 hHeld ⊢
     refine qa 45 0 1 ?_; refine qa 45 2 5 ?_; refine qc 45 1 7 hHeld ?_; refine qa 45 3 15 ?_; refine qc 45 4 31 hHeld ?_
     refine qo 45 5 63 (some 47) fun K hK => ?_
     refine qg Try.func92 _ (dm (spec_l00In.calls (rd l0_1 x4_2) 0 40 true _ A17.out) fun nd => ?_)
     refine hK.out _ _ (ca6_ BK157.out ⟨(kC HB hw158_0), (kC HB hw160_0), (kC HB hw162_0), (kC HB hw164_0), (kC HB hw165_0)⟩) (fun hHeld => ?_)
     clear hK K
     refine nZ 47 ?_
     refine qa 45 6 127 ?_; refine qa 45 7 255 ?_; refine qa 45 8 511 ?_; refine qa 45 10 1535 ?_; refine qc 45 9 2047 hHeld ?_; refine qa 45 11 4095 ?_; refine qc 45 12 8191 hHeld ?_
     refine qo 45 13 16383 (some 55) fun K hK => ?_
     refine qg Try.func92 _ (dm (spec_l00In.calls (rd l0_3 x4_2) 1 40 true _ A20.out) fun nd => ?_)
     refine hK.out _ _ (ca6_ BK157.out ⟨(kC HB hw158_0), (kC HB hw160_0), (kC HB hw162_0), (kC HB hw164_0), (kC HB hw165_0)⟩) (fun hHeld => ?_)
     clear hK K
     refine nZ 55 ?_
     refine qa 45 14 32767 ?_; refine qa 45 15 65535 ?_; refine qa 45 16 131071 ?_; refine qa 45 17 262143 ?_; refine qa 45 19 786431 ?_; refine qc 45 18 1048575 hHeld ?_; refine qa 45 20 2097151 ?_; refine qc 45 21 4194303 hHeld ?_
     refine qo 45 22 8388607 (some 64) fun K hK => ?_
     refine qg Try.func92 _ (dm (spec_l00In.calls (rd l0_4 x4_2) 1 40 true _ A23.out) fun nd => ?_)
     refine hK.out _ _ (ca6_ BK157.out ⟨(kC HB hw158_0), (kC HB hw160_0), (kC HB hw162_0), (kC HB hw164_0), (kC HB hw165_0)⟩) (fun hHeld => ?_)
     clear hK K
     refine nZ 64 ?_
     refine qa 45 23 16777215 ?_; refine qa 45 24 33554431 ?_; refine qa 45 25 67108863 ?_; refine qa 45 26 134217727 ?_; refine qa 45 28 402653183 ?_; refine qa 45 31 2550136831 ?_; refine qa 45 33 11140071423 ?_; refine qc 45 27 11274289151 hHeld ?_; refine qa 45 29 11811160063 ?_; refine qc 45 30 12884901887 hHeld ?_; refine qc 45 32 17179869183 hHeld ?_; refine qa 45 34 34359738367 ?_; refine qc 45 35 68719476735 hHeld ?_
     refine qo 45 36 137438953471 (some 78) fun K hK => ?_
     refine qg Try.func92 _ (dm (spec_l00In.calls (rd l0_2 x4_2) (rd l0_4 x4_2) 40 true _ A26.out) fun nd => ?_)
     refine hK.out _ _ (ca6_ BK157.out ⟨(kC HB hw158_0), (kC HB hw160_0), (kC HB hw162_0), (kC HB hw164_0), (kC HB hw165_0)⟩) (fun hHeld => ?_)
     clear hK K
     refine nZ 78 ?_
     refine qa 45 37 274877906943 ?_; refine qa 45 38 549755813887 ?_; refine qa 45 39 1099511627775 ?_; refine qa 45 41 3298534883327 ?_; refine qc 45 40 4398046511103 hHeld ?_
     refine qo 45 42 8796093022207 (some 84) fun K hK => ?_
     refine qg Try.func111 _ ((spec_l06End.calls a0_0 _ _ l0_1 _ _ l0_2 _ _ l0_3 _ _ l0_4 _ _ l0_5 x4_2 t167 _ (C0_1.b HB) (C0_2.b HB) (C0_3.b HB) (C0_4.b HB) (C0_5.b HB) A28.out).mono ?_)
     rintro e w33 ⟨rfl, hb⟩
     refine ⟨_, rfl, ?_⟩
     replace BK157 := zY BK157 hb; replace HB := zX HB hb
     refine hK.out _ _ (ca6_ BK157.out ⟨(kC HB hw158_0), (kC HB hw160_0), (kC HB hw162_0), (kC HB hw164_0), (kC HB hw165_0)⟩) (fun hHeld => ?_)
     clear hK K
     refine nZ 84 ?_
     refine qa 45 43 17592186044415 ?_; refine qa 45 44 35184372088831 ?_
     refine qd ?_
     try go_wp2
     go_roundg k2
     case measure => have := HJ1.out; have := HK2.out; omega
     case rel => exact ⟨(wrap64 (x4_2 + 1)), kF, H', ⟨by have := HJ1.out; have := HK2.out; omega⟩, ⟨kM BK157⟩, ⟨kR0 HB⟩⟩
/-! ### spec_l06Points: function 135 -/
mutual
def spec_l06Points.l0 : Nat → List (S110) → Int → Option (Bool)
 | 0, _, _ => none
 | k + 1, x0, x3 => if x3 < (x0.length : Int) then (if 0 ≤ x3 then (if 0 < (x0.length : Int) then (if (((rd_T110 x0 x3).f0).length : Int) = (((rd_T110 x0 0).f0).length : Int) then (spec_l06Points.j1 k x0 x3 (decide ((((rd_T110 x0 x3).f0).length : Int) > 3))) else (spec_l06Points.j1 k x0 x3 true)) else (none)) else (none)) else (some true)
def spec_l06Points.j1 : Nat → List (S110) → Int → Bool → Option (Bool)
 | 0, _, _, _ => none
 | k + 1, x0, x3, x35 => if x35 = true then (some false) else (spec_l06Points.l1 k x0 x3 0)
def spec_l06Points.l1 : Nat → List (S110) → Int → Int → Option (Bool)
 | 0, _, _, _ => none
 | k + 1, x0, x3, x4 => if 0 ≤ x3 then (if x3 < (x0.length : Int) then (if x4 < (((rd_T110 x0 x3).f0).length : Int) then (if 0 ≤ x4 then ((spec_l00In.f (rd ((rd_T110 x0 x3).f0) x4) 0 39).bind fun t175 => (if t175 = true then (spec_l06Points.l1 k x0 x3 (wrap64 (x4 + 1))) else (some false))) else (none)) else (spec_l06Points.l0 k x0 (wrap64 (x3 + 1)))) else (none)) else (none)
end
def spec_l06Points.f (k : Nat) (l0 : List (S110)) : Option (Bool) := (spec_l00In.f (l0.length : Int) 1 24).bind fun t168 => (if t168 = true then (spec_l06Points.l0 k l0 0) else (some false))
theorem spec_l06Points.calls (k : Nat) (A0 : Option Addr) (c0 : Nat) (l0 : List (S110)) (r : Bool) (w : World) (C0 : Cm k110 w A0 c0 l0) (h : spec_l06Points.f k l0 = some r) :
 Calls Try.prog 135 #[.slice A0 l0.length c0] w fun e w' => e = .returned (.bool r) ∧ Drawn0 w w' := by
 have H : ((spec_l00In.f (l0.length : Int) 1 24).bind fun t168 => (if t168 = true then (spec_l06Points.l0 k l0 0) else (some false))) = some r := h
 clear h
 replace ⟨t168, A2, H⟩ := sV H
 replace H := sS H; rcases H with ⟨rfl, H⟩ | ⟨rfl, H⟩
 ·
  obtain rfl := sJ H; go_enter Try.func135, Try.ntmps135
  go_wp2_with (first | (go_at_call 92; (with_reducible refine (spec_l00In.calls (l0.length : Int) 1 24 false _ A2.out).mono ?_); rintro e w' ⟨rfl, ⟨nd, rfl⟩⟩; (try first | exact ⟨rfl, _, World.drewN_drewN _ _ _⟩ | exact ⟨rfl, _, Eq.trans (World.drewN_drewN _ _ _) (congrArg (World.drewN _) (Nat.add_assoc _ _ _))⟩)))
  repeat (go_quiet (first | (go_at_call 92; (with_reducible refine (spec_l00In.calls (l0.length : Int) 1 24 false _ A2.out).mono ?_); rintro e w' ⟨rfl, ⟨nd, rfl⟩⟩; (try first | exact ⟨rfl, _, World.drewN_drewN _ _ _⟩ | exact ⟨rfl, _, Eq.trans (World.drewN_drewN _ _ _) (congrArg (World.drewN _) (Nat.add_assoc _ _ _))⟩))); try go_wp2_with (first | (go_at_call 92; (with_reducible refine (spec_l00In.calls (l0.length : Int) 1 24 false _ A2.out).mono ?_); rintro e w' ⟨rfl, ⟨nd, rfl⟩⟩; (try first | exact ⟨rfl, _, World.drewN_drewN _ _ _⟩ | exact ⟨rfl, _, Eq.trans (World.drewN_drewN _ _ _) (congrArg (World.drewN _) (Nat.add_assoc _ _ _))⟩))))
  go_ret
  exact ⟨by first | rfl | (simp; done) | (simp [*]; done), by repeat (first | exact Drawn0.refl _ | apply Drawn0.step)⟩
 have H' := yD H
 clear H; go_enter Try.func135, Try.ntmps135
 go_wp2_with (first | (go_at_call 92; (with_reducible refine (spec_l00In.calls (l0.length : Int) 1 24 true _ A2.out).mono ?_); rintro e w' ⟨rfl, ⟨nd, rfl⟩⟩; (try first | exact ⟨rfl, _, World.drewN_drewN _ _ _⟩ | exact ⟨rfl, _, Eq.trans (World.drewN_drewN _ _ _) (congrArg (World.drewN _) (Nat.add_assoc _ _ _))⟩)))
 repeat (go_quiet (first | (go_at_call 92; (with_reducible refine (spec_l00In.calls (l0.length : Int) 1 24 true _ A2.out).mono ?_); rintro e w' ⟨rfl, ⟨nd, rfl⟩⟩; (try first | exact ⟨rfl, _, World.drewN_drewN _ _ _⟩ | exact ⟨rfl, _, Eq.trans (World.drewN_drewN _ _ _) (congrArg (World.drewN _) (Nat.add_assoc _ _ _))⟩))); try go_wp2_with (first | (go_at_call 92; (with_reducible refine (spec_l00In.calls (l0.length : Int) 1 24 true _ A2.out).mono ?_); rintro e w' ⟨rfl, ⟨nd, rfl⟩⟩; (try first | exact ⟨rfl, _, World.drewN_drewN _ _ _⟩ | exact ⟨rfl, _, Eq.trans (World.drewN_drewN _ _ _) (congrArg (World.drewN _) (Nat.add_assoc _ _ _))⟩))))
 go_loopg [3] k (fun kq v3 w' => ∃ (x3_1 : Int), v3 = .int .i64 x3_1 ∧ Aside0 (spec_l06Points.l0 kq l0 x3_1 = some r) ∧ Aside0 (kq ≤ k) ∧ Drawn0 w w')
 case atStart => exact ⟨(0), kF, H', ⟨Nat.le_refl _⟩, by repeat (first | exact Drawn0.refl _ | apply Drawn0.step)⟩
 case round =>
  clear H'
  obtain ⟨x3_1, rfl, HA, HK1, ⟨m1, rfl⟩⟩ := hrel
  cases gk with
  | zero => exact absurd HA.out (by simp [spec_l06Points.l0])
  | succ k1 =>
   have H := HA.out; clear HA
   simp only [spec_l06Points.l0] at H
   replace H := sG H; rcases H with ⟨c4b0, H⟩ | ⟨c4b0, H⟩
   ·
    obtain rfl := sJ H
    go_wp2
    repeat (go_quiet (fail); try go_wp2)
    go_ret
    exact ⟨by first | rfl | (simp; done) | (simp [*]; done), by repeat (first | exact Drawn0.refl _ | apply Drawn0.step)⟩
   have HC5 := yD H
   clear H
   go_upto_region 6 with (fail)
   repeat (go_quiet (fail); go_upto_region 6 with (fail))
   go_cut [35] (fun v35 wc => ∃ (kq : Nat) (x35_4 : Bool), v35 = .bool x35_4 ∧ Aside0 (spec_l06Points.j1 kq l0 x3_1 x35_4 = some r) ∧ Aside0 (kq ≤ k1) ∧ Drawn0 w wc)
   case first =>
    have H := HC5.out; clear HC5
    replace ⟨c6b0, H⟩ := sE H
    (first | rw [c6b0] | (simp only [i64_w, i32_w]; rw [c6b0]) | (simp only [bne] at c6b0; rw [c6b0]) | skip)
    replace ⟨c7, H⟩ := sD H
    have c7b0 : decide (0 < (l0.length : Int)) = true := zR c7
    have c7b1 : decide (0 < l0.length) = true := zR (by omega)
    clear c7
    replace H := sP H; rcases H with ⟨c8, c8b0, c8b1, H⟩ | ⟨c8, c8b0, c8b1, H⟩
    ·
     have c8b2 : (((rd_T110 l0 x3_1).f0).length == ((rd_T110 l0 0).f0).length) = false := by first | simpa using c8 | (simp at c8 ⊢; omega)
     have H' := yD H
     clear H
     obtain ⟨p169, q169, ad169, A169_0, c169_0, e169, hx169_0, HC169_0, HR169_0⟩ := sI (at_T110 C0.r x3_1)
     cases e169
     have p170 : 0 ≤ (0 : Int) := (by omega)
     have q170 : 0 < (l0.length : Int) := zP (by assumption)
     obtain ⟨ad170, A170_0, c170_0, e170, hx170_0, HC170_0, HR170_0⟩ := at_T110 C0.r 0 p170 q170
     obtain rfl : ad169 = ad170 := (by injection e170)
     have qi170 : (0 < l0.length) = True := eq_true (by omega)
     (try rw [show ((0 : Int)).toNat = 0 from rfl] at hx170_0)
     (try rw [Addr.add_zero'] at hx170_0)
     replace p170 := eq_true p170; replace q170 := eq_true q170
     go_wp2
     repeat (go_quiet (fail); try go_wp2)
     go_meet
     case rel => exact ⟨_, (true), kF, H', ⟨by have := HK1.out; first | omega | exact Nat.le_refl _⟩, by repeat (first | exact Drawn0.refl _ | apply Drawn0.step)⟩
    have c8b2 : (((rd_T110 l0 x3_1).f0).length == ((rd_T110 l0 0).f0).length) = true := by first | simpa using c8 | (simp at c8 ⊢; omega)
    clear c8
    have H' := yD H
    clear H
    obtain ⟨p169, q169, ad169, A169_0, c169_0, e169, hx169_0, HC169_0, HR169_0⟩ := sI (at_T110 C0.r x3_1)
    cases e169
    have p170 : 0 ≤ (0 : Int) := (by omega)
    have q170 : 0 < (l0.length : Int) := zP (by assumption)
    obtain ⟨ad170, A170_0, c170_0, e170, hx170_0, HC170_0, HR170_0⟩ := at_T110 C0.r 0 p170 q170
    obtain rfl : ad169 = ad170 := (by injection e170)
    have qi170 : (0 < l0.length) = True := eq_true (by omega)
    (try rw [show ((0 : Int)).toNat = 0 from rfl] at hx170_0)
    (try rw [Addr.add_zero'] at hx170_0)
    replace p170 := eq_true p170; replace q170 := eq_true q170
    obtain ⟨p171, q171, ad171, A171_0, c171_0, e171, hx171_0, HC171_0, HR171_0⟩ := sI (at_T110 C0.r x3_1)
    obtain rfl : ad169 = ad171 := (by injection e171)
    have ea_ := Option.some.inj (hx169_0.symm.trans hx171_0)
    injection ea_ with ea_ en_ ec_
    subst ea_; subst ec_; clear en_
    go_wp2
    repeat (go_quiet (fail); try go_wp2)
    go_meet
    case rel => exact ⟨_, (decide ((((rd_T110 l0 x3_1).f0).length : Int) > 3)), kF, H', ⟨by have := HK1.out; first | omega | exact Nat.le_refl _⟩, by repeat (first | exact Drawn0.refl _ | apply Drawn0.step)⟩
   case rest =>
    clear HC5
    obtain ⟨kq, x35_4, rfl, HA, HJ4, ⟨mc4, rfl⟩⟩ := hcut
    cases kq with
    | zero => exact absurd HA.out (by simp [spec_l06Points.j1])
    | succ kj4 =>
     have H := HA.out; clear HA
     simp only [spec_l06Points.j1] at H
     replace H := sT H; rcases H with ⟨rfl, H⟩ | ⟨rfl, H⟩
     ·
      obtain rfl := sJ H
      go_wp2
      repeat (go_quiet (fail); try go_wp2)
      go_ret
      exact ⟨by first | rfl | (simp; done) | (simp [*]; done), by repeat (first | exact Drawn0.refl _ | apply Drawn0.step)⟩
     have H' := yD H
     clear H
     go_wp2
     repeat (go_quiet (fail); try go_wp2)
     go_loopg [4] kj4 (fun kq v4 w' => ∃ (x4_3 : Int), v4 = .int .i64 x4_3 ∧ Aside0 (spec_l06Points.l1 kq l0 x3_1 x4_3 = some r) ∧ Aside0 (kq ≤ kj4) ∧ Drawn0 w w')
     case atStart => exact ⟨(0), kF, H', ⟨Nat.le_refl _⟩, by repeat (first | exact Drawn0.refl _ | apply Drawn0.step)⟩
     case round =>
      clear H'
      obtain ⟨x4_3, rfl, HA, HK3, ⟨m3, rfl⟩⟩ := hrel
      cases gk with
      | zero => exact absurd HA.out (by simp [spec_l06Points.l1])
      | succ k3 =>
       have H := HA.out; clear HA
       simp only [spec_l06Points.l1] at H
       replace ⟨c10b0, H⟩ := sE H
       replace ⟨c11b0, H⟩ := sE H
       replace H := sG H; rcases H with ⟨c12b0, H⟩ | ⟨c12b0, H⟩
       ·
        have H' := yD H
        clear H
        obtain ⟨p172, q172, ad172, A172_0, c172_0, e172, hx172_0, HC172_0, HR172_0⟩ := sI (at_T110 C0.r x3_1)
        cases e172
        go_wp2
        repeat (go_quiet (fail); try go_wp2)
        go_roundg k3
        case measure => have := HK1.out; have := HJ4.out; have := HK3.out; omega
        case rel => exact ⟨(wrap64 (x3_1 + 1)), kF, H', ⟨by have := HK1.out; have := HJ4.out; have := HK3.out; omega⟩, by repeat (first | exact Drawn0.refl _ | apply Drawn0.step)⟩
       replace ⟨c13b0, H⟩ := sE H
       replace ⟨t175, A14, H⟩ := sV H
       replace H := sS H; rcases H with ⟨rfl, H⟩ | ⟨rfl, H⟩
       ·
        obtain rfl := sJ H
        obtain ⟨p172, q172, ad172, A172_0, c172_0, e172, hx172_0, HC172_0, HR172_0⟩ := sI (at_T110 C0.r x3_1)
        cases e172
        obtain ⟨p173, q173, ad173, A173_0, c173_0, e173, hx173_0, HC173_0, HR173_0⟩ := sI (at_T110 C0.r x3_1)
        obtain rfl : ad172 = ad173 := (by injection e173)
        have ea_ := Option.some.inj (hx172_0.symm.trans hx173_0)
        injection ea_ with ea_ en_ ec_
        subst ea_; subst ec_; clear en_
        obtain ⟨p174, q174, ad174, e174, hx174_0⟩ := sI (Kd.at_int HR173_0.out x4_3)
        cases e174
        go_wp2_with (first | (go_at_call 92; (with_reducible refine (spec_l00In.calls (rd ((rd_T110 l0 x3_1).f0) x4_3) 0 39 false _ A14.out).mono ?_); rintro e w' ⟨rfl, ⟨nd, rfl⟩⟩; (try first | exact ⟨rfl, _, World.drewN_drewN _ _ _⟩ | exact ⟨rfl, _, Eq.trans (World.drewN_drewN _ _ _) (congrArg (World.drewN _) (Nat.add_assoc _ _ _))⟩)))
        repeat (go_quiet (first | (go_at_call 92; (with_reducible refine (spec_l00In.calls (rd ((rd_T110 l0 x3_1).f0) x4_3) 0 39 false _ A14.out).mono ?_); rintro e w' ⟨rfl, ⟨nd, rfl⟩⟩; (try first | exact ⟨rfl, _, World.drewN_drewN _ _ _⟩ | exact ⟨rfl, _, Eq.trans (World.drewN_drewN _ _ _) (congrArg (World.drewN _) (Nat.add_assoc _ _ _))⟩))); try go_wp2_with (first | (go_at_call 92; (with_reducible refine (spec_l00In.calls (rd ((rd_T110 l0 x3_1).f0) x4_3) 0 39 false _ A14.out).mono ?_); rintro e w' ⟨rfl, ⟨nd, rfl⟩⟩; (try first | exact ⟨rfl, _, World.drewN_drewN _ _ _⟩ | exact ⟨rfl, _, Eq.trans (World.drewN_drewN _ _ _) (congrArg (World.drewN _) (Nat.add_assoc _ _ _))⟩))))
        go_ret
        exact ⟨by first | rfl | (simp; done) | (simp [*]; done), by repeat (first | exact Drawn0.refl _ | apply Drawn0.step)⟩
       have H' := yD H
       clear H
       obtain ⟨p172, q172, ad172, A172_0, c172_0, e172, hx172_0, HC172_0, HR172_0⟩ := sI (at_T110 C0.r x3_1)
       cases e172
       obtain ⟨p173, q173, ad173, A173_0, c173_0, e173, hx173_0, HC173_0, HR173_0⟩ := sI (at_T110 C0.r x3_1)
       obtain rfl : ad172 = ad173 := (by injection e173)
       have ea_ := Option.some.inj (hx172_0.symm.trans hx173_0)
       injection ea_ with ea_ en_ ec_
       subst ea_; subst ec_; clear en_
       obtain ⟨p174, q174, ad174, e174, hx174_0⟩ := sI (Kd.at_int HR173_0.out x4_3)
       cases e174
       go_wp2_with (first | (go_at_call 92; (with_reducible refine (spec_l00In.calls (rd ((rd_T110 l0 x3_1).f0) x4_3) 0 39 true _ A14.out).mono ?_); rintro e w' ⟨rfl, ⟨nd, rfl⟩⟩; (try first | exact ⟨rfl, _, World.drewN_drewN _ _ _⟩ | exact ⟨rfl, _, Eq.trans (World.drewN_drewN _ _ _) (congrArg (World.drewN _) (Nat.add_assoc _ _ _))⟩)))
       repeat (go_quiet (first | (go_at_call 92; (with_reducible refine (spec_l00In.calls (rd ((rd_T110 l0 x3_1).f0) x4_3) 0 39 true _ A14.out).mono ?_); rintro e w' ⟨rfl, ⟨nd, rfl⟩⟩; (try first | exact ⟨rfl, _, World.drewN_drewN _ _ _⟩ | exact ⟨rfl, _, Eq.trans (World.drewN_drewN _ _ _) (congrArg (World.drewN _) (Nat.add_assoc _ _ _))⟩))); try go_wp2_with (first | (go_at_call 92; (with_reducible refine (spec_l00In.calls (rd ((rd_T110 l0 x3_1).f0) x4_3) 0 39 true _ A14.out).mono ?_); rintro e w' ⟨rfl, ⟨nd, rfl⟩⟩; (try first | exact ⟨rfl, _, World.drewN_drewN _ _ _⟩ | exact ⟨rfl, _, Eq.trans (World.drewN_drewN _ _ _) (congrArg (World.drewN _) (Nat.add_assoc _ _ _))⟩))))
       go_roundg k3
       case measure => have := HK1.out; have := HJ4.out; have := HK3.out; omega
       case rel => exact ⟨(wrap64 (x4_3 + 1)), kF, H', ⟨by have := HK1.out; have := HJ4.out; have := HK3.out; omega⟩, by repeat (first | exact Drawn0.refl _ | apply Drawn0.step)⟩

/-! ### spec_l06Formed: function 110 -/
def spec_l06Formed.j0 : Nat → Int → Bool → Int → List Int → List Int → List Int → List Int → List (S110) → Option (Bool)
 | 0, _, _, _, _, _, _, _, _ => none
 | k + 1, x4, x5, x177000, x177001, x177002, x177003, x177004, x177005 => if x5 = true then ((spec_l06Plain.f x177000 x177001 x177002 x177003 x177004 x177005).bind fun t177 => (if t177 = true then (some ((x177005.length : Int) == 0)) else (some false))) else (if x4 = 3 then ((spec_l06Slab.f k x177000 x177001 x177002 x177003 x177004 x177005).bind fun t178 => (some t178)) else (if x4 = 4 then ((spec_l06Plain.f x177000 x177001 x177002 x177003 x177004 x177005).bind fun t179 => (if t179 = true then ((spec_l06Points.f k x177005).bind fun t180 => (some t180)) else (some false))) else (some false)))
def spec_l06Formed.f (k : Nat) (a0_0 : Int) (l0_1 : List Int) (l0_2 : List Int) (l0_3 : List Int) (l0_4 : List Int) (l0_5 : List (S110)) : Option (Bool) := if a0_0 = 1 then (spec_l06Formed.j0 k a0_0 (a0_0 == 1) a0_0 l0_1 l0_2 l0_3 l0_4 l0_5) else (spec_l06Formed.j0 k a0_0 (a0_0 == 2) a0_0 l0_1 l0_2 l0_3 l0_4 l0_5)
theorem spec_l06Formed.calls (k : Nat) (a0_0 : Int) (A0_1 : Option Addr) (c0_1 : Nat) (l0_1 : List Int) (A0_2 : Option Addr) (c0_2 : Nat) (l0_2 : List Int) (A0_3 : Option Addr) (c0_3 : Nat) (l0_3 : List Int) (A0_4 : Option Addr) (c0_4 : Nat) (l0_4 : List Int) (A0_5 : Option Addr) (c0_5 : Nat) (l0_5 : List (S110)) (r : Bool) (w : World) (C0_1 : Cm (Kd.int .i64) w A0_1 c0_1 l0_1) (C0_2 : Cm (Kd.int .i64) w A0_2 c0_2 l0_2) (C0_3 : Cm (Kd.int .i64) w A0_3 c0_3 l0_3) (C0_4 : Cm (Kd.int .i64) w A0_4 c0_4 l0_4) (C0_5 : Cm k110 w A0_5 c0_5 l0_5) (h : spec_l06Formed.f k a0_0 l0_1 l0_2 l0_3 l0_4 l0_5 = some r) :
 Calls Try.prog 110 #[.agg #[.int .i64 a0_0, .slice A0_1 l0_1.length c0_1, .slice A0_2 l0_2.length c0_2, .slice A0_3 l0_3.length c0_3, .slice A0_4 l0_4.length c0_4, .slice A0_5 l0_5.length c0_5]] w fun e w' => e = .returned (.bool r) ∧ Below w.heap.size w w' := by
 have hu55 := Try.underlying55
 have HB := yD (Below.refl w.heap.size w)
 have H : (if a0_0 = 1 then (spec_l06Formed.j0 k a0_0 (a0_0 == 1) a0_0 l0_1 l0_2 l0_3 l0_4 l0_5) else (spec_l06Formed.j0 k a0_0 (a0_0 == 2) a0_0 l0_1 l0_2 l0_3 l0_4 l0_5)) = some r := h
 clear h
 have HC2 := yD H
 clear H; go_enter Try.func110, Try.ntmps110
 go_upto_if 5 with (first | ((with_reducible refine gate_dst (N := 1) rfl ?_); (try (refine gate_guard (by rfl) ?_; dsimp only)); refine bF (N := 1) (cs := #[.int .i64 a0_0, .slice A0_1 l0_1.length c0_1, .slice A0_2 l0_2.length c0_2, .slice A0_3 l0_3.length c0_3, .slice A0_4 l0_4.length c0_4, .slice A0_5 l0_5.length c0_5]) (t := 55) HB ?_; intro gb176 w3 BK176 GW176 HB; have := cf6_ BK176.out))
 (try simp only [Act.put, zH, zI, zJ])
 go_cut [5] (fun v5 wc => ∃ (kq : Nat) (x5_1 : Bool), v5 = .bool x5_1 ∧ Aside0 (spec_l06Formed.j0 kq a0_0 x5_1 a0_0 l0_1 l0_2 l0_3 l0_4 l0_5 = some r) ∧ Aside0 (kq ≤ k) ∧ Aside0 (wc.heap[gb176]? = some (.cells #[.int .i64 a0_0, (.slice A0_1 l0_1.length c0_1), (.slice A0_2 l0_2.length c0_2), (.slice A0_3 l0_3.length c0_3), (.slice A0_4 l0_4.length c0_4), (.slice A0_5 l0_5.length c0_5)] 55 (0, 0))) ∧ Aside0 (Below w.heap.size w wc))
 case first =>
  have H := HC2.out; clear HC2
  replace H := sP H; rcases H with ⟨c5, c5b0, c5b1, H⟩ | ⟨-, c5b0, c5b1, H⟩
  ·
   (first | rw [c5b0] | (simp only [i64_w, i32_w]; rw [c5b0]) | (simp only [bne] at c5b0; rw [c5b0]) | skip)
   have H' := yD H
   clear H
   go_wp2
   go_meet
   case rel => exact ⟨_, ((a0_0 == 2)), kF, H', ⟨by first | omega | exact Nat.le_refl _⟩, ⟨kM BK176⟩, ⟨kR0 HB⟩⟩
  (first | rw [c5b0] | (simp only [i64_w, i32_w]; rw [c5b0]) | (simp only [bne] at c5b0; rw [c5b0]) | skip)
  have H' := yD H
  clear H
  go_wp2
  go_meet
  case rel => exact ⟨_, ((a0_0 == 1)), kF, H', ⟨by first | omega | exact Nat.le_refl _⟩, ⟨kM BK176⟩, ⟨kR0 HB⟩⟩
 case rest =>
  clear HC2
  obtain ⟨kq, x5_1, rfl, HA, HJ1, BK176, HB⟩ := hcut
  cases kq with
  | zero => exact absurd HA.out (by simp [spec_l06Formed.j0])
  | succ kj1 =>
   have H := HA.out; clear HA
   simp only [spec_l06Formed.j0] at H
   replace H := sT H; rcases H with ⟨rfl, H⟩ | ⟨rfl, H⟩
   ·
    replace ⟨t177, A7, H⟩ := sV H
    replace H := sS H; rcases H with ⟨rfl, H⟩ | ⟨rfl, H⟩
    ·
     obtain rfl := sJ H
     have := cf6_ BK176.out
     go_wp2_with (first | ((with_reducible refine gate_callee (f := 133) rfl ?_); refine gL 9 Try.func133 _ ((spec_l06Plain.calls a0_0 _ _ l0_1 _ _ l0_2 _ _ l0_3 _ _ l0_4 _ _ l0_5 false _ (C0_1.b HB) (C0_2.b HB) (C0_3.b HB) (C0_4.b HB) (C0_5.b HB) A7.out).mono ?_); rintro e w13 ⟨rfl, hb⟩; refine ⟨_, rfl, ?_⟩; replace BK176 := zY BK176 hb; replace HB := zX HB hb; clear hb))
     go_ret
     exact ⟨kE, kR0 HB⟩
    obtain rfl := sJ H
    have := cf6_ BK176.out
    go_wp2_with (first | ((with_reducible refine gate_callee (f := 133) rfl ?_); refine gL 9 Try.func133 _ ((spec_l06Plain.calls a0_0 _ _ l0_1 _ _ l0_2 _ _ l0_3 _ _ l0_4 _ _ l0_5 true _ (C0_1.b HB) (C0_2.b HB) (C0_3.b HB) (C0_4.b HB) (C0_5.b HB) A7.out).mono ?_); rintro e w10 ⟨rfl, hb⟩; refine ⟨_, rfl, ?_⟩; replace BK176 := zY BK176 hb; replace HB := zX HB hb; clear hb; have := cf6_ BK176.out))
    go_ret
    exact ⟨kE, kR0 HB⟩
   replace H := sQ H; rcases H with ⟨-, c14b0, c14b1, H⟩ | ⟨c14, c14b0, c14b1, H⟩
   ·
    replace ⟨t178, A15, H⟩ := sV H
    obtain rfl := sJ H
    have := cf6_ BK176.out
    go_wp2_with (first | ((with_reducible refine gate_callee (f := 134) rfl ?_); refine gL 19 Try.func134 _ ((spec_l06Slab.calls kj1 a0_0 _ _ l0_1 _ _ l0_2 _ _ l0_3 _ _ l0_4 _ _ l0_5 t178 _ (C0_1.b HB) (C0_2.b HB) (C0_3.b HB) (C0_4.b HB) (C0_5.b HB) A15.out).mono ?_); rintro e w17 ⟨rfl, hb⟩; refine ⟨_, rfl, ?_⟩; replace BK176 := zY BK176 hb; replace HB := zX HB hb; clear hb))
    go_ret
    exact ⟨kE, kR0 HB⟩
   replace H := sP H; rcases H with ⟨c18, c18b0, c18b1, H⟩ | ⟨-, c18b0, c18b1, H⟩
   ·
    obtain rfl := sJ H
    go_wp2
    go_ret
    exact ⟨kE, kR0 HB⟩
   replace ⟨t179, A19, H⟩ := sV H
   replace H := sS H; rcases H with ⟨rfl, H⟩ | ⟨rfl, H⟩
   ·
    obtain rfl := sJ H
    have := cf6_ BK176.out
    go_wp2_with (first | ((with_reducible refine gate_callee (f := 133) rfl ?_); refine gL 23 Try.func133 _ ((spec_l06Plain.calls a0_0 _ _ l0_1 _ _ l0_2 _ _ l0_3 _ _ l0_4 _ _ l0_5 false _ (C0_1.b HB) (C0_2.b HB) (C0_3.b HB) (C0_4.b HB) (C0_5.b HB) A19.out).mono ?_); rintro e w26 ⟨rfl, hb⟩; refine ⟨_, rfl, ?_⟩; replace BK176 := zY BK176 hb; replace HB := zX HB hb; clear hb))
    go_ret
    exact ⟨kE, kR0 HB⟩
   replace ⟨t180, A21, H⟩ := sV H
   obtain rfl := sJ H
   have := cf6_ BK176.out
   go_wp2_with (first | ((with_reducible refine gate_callee (f := 133) rfl ?_); refine gL 23 Try.func133 _ ((spec_l06Plain.calls a0_0 _ _ l0_1 _ _ l0_2 _ _ l0_3 _ _ l0_4 _ _ l0_5 true _ (C0_1.b HB) (C0_2.b HB) (C0_3.b HB) (C0_4.b HB) (C0_5.b HB) A19.out).mono ?_); rintro e w23 ⟨rfl, hb⟩; refine ⟨_, rfl, ?_⟩; replace BK176 := zY BK176 hb; replace HB := zX HB hb; clear hb; have := cf6_ BK176.out) | (go_at_call 135; (with_reducible refine (spec_l06Points.calls kj1 _ _ l0_5 t180 _ (C0_5.b HB) A21.out).mono ?_); rintro e w' ⟨rfl, ⟨nd, rfl⟩⟩))
   go_ret
   exact ⟨kE, kR0 HB⟩

/-! ### spec_l05Inside: function 94 -/
def spec_l05Inside.l0 : Nat → List Int → List Int → Int → Option (Bool)
 | 0, _, _, _ => none
 | k + 1, x0, x1, x5 => if x5 < (x1.length : Int) then (if 0 ≤ x5 then (if x5 < (x0.length : Int) then ((spec_l00In.f (rd x1 x5) 0 (wrap64 ((rd x0 x5) - 1))).bind fun t183 => (if t183 = true then (spec_l05Inside.l0 k x0 x1 (wrap64 (x5 + 1))) else (some false))) else (none)) else (none)) else (some true)
def spec_l05Inside.f (k : Nat) (l0 : List Int) (l1 : List Int) : Option (Bool) := if (l1.length : Int) = (l0.length : Int) then (spec_l05Inside.l0 k l0 l1 0) else (some false)
theorem spec_l05Inside.calls (k : Nat) (A0 : Option Addr) (c0 : Nat) (l0 : List Int) (A1 : Option Addr) (c1 : Nat) (l1 : List Int) (r : Bool) (w : World) (C0 : Cm (Kd.int .i64) w A0 c0 l0) (C1 : Cm (Kd.int .i64) w A1 c1 l1) (h : spec_l05Inside.f k l0 l1 = some r) :
 Calls Try.prog 94 #[.slice A0 l0.length c0, .slice A1 l1.length c1] w fun e w' => e = .returned (.bool r) ∧ Drawn0 w w' := by
 have H : (if (l1.length : Int) = (l0.length : Int) then (spec_l05Inside.l0 k l0 l1 0) else (some false)) = some r := h
 clear h
 replace H := sP H; rcases H with ⟨c3, c3b0, c3b1, H⟩ | ⟨c3, c3b0, c3b1, H⟩
 ·
  have c3b2 : (l1.length == l0.length) = false := by first | simpa using c3 | (simp at c3 ⊢; omega)
  obtain rfl := sJ H; go_enter Try.func94, Try.ntmps94
  go_wp2
  repeat (go_quiet (fail); try go_wp2)
  go_ret
  exact ⟨by first | rfl | (simp; done) | (simp [*]; done), by repeat (first | exact Drawn0.refl _ | apply Drawn0.step)⟩
 have c3b2 : (l1.length == l0.length) = true := by first | simpa using c3 | (simp at c3 ⊢; omega)
 clear c3
 have H' := yD H
 clear H; go_enter Try.func94, Try.ntmps94
 go_wp2
 repeat (go_quiet (fail); try go_wp2)
 go_loopg [5] k (fun kq v5 w' => ∃ (x5_1 : Int), v5 = .int .i64 x5_1 ∧ Aside0 (spec_l05Inside.l0 kq l0 l1 x5_1 = some r) ∧ Aside0 (kq ≤ k) ∧ Drawn0 w w')
 case atStart => exact ⟨(0), kF, H', ⟨Nat.le_refl _⟩, by repeat (first | exact Drawn0.refl _ | apply Drawn0.step)⟩
 case round =>
  clear H'
  obtain ⟨x5_1, rfl, HA, HK1, ⟨m1, rfl⟩⟩ := hrel
  cases gk with
  | zero => exact absurd HA.out (by simp [spec_l05Inside.l0])
  | succ k1 =>
   have H := HA.out; clear HA
   simp only [spec_l05Inside.l0] at H
   replace H := sG H; rcases H with ⟨c4b0, H⟩ | ⟨c4b0, H⟩
   ·
    obtain rfl := sJ H
    go_wp2
    repeat (go_quiet (fail); try go_wp2)
    go_ret
    exact ⟨by first | rfl | (simp; done) | (simp [*]; done), by repeat (first | exact Drawn0.refl _ | apply Drawn0.step)⟩
   replace ⟨c5b0, H⟩ := sE H
   replace ⟨c6b0, H⟩ := sE H
   replace ⟨t183, A7, H⟩ := sV H
   replace H := sS H; rcases H with ⟨rfl, H⟩ | ⟨rfl, H⟩
   ·
    obtain rfl := sJ H
    obtain ⟨p181, q181, ad181, e181, hx181_0⟩ := sI (Kd.at_int C1.r x5_1)
    cases e181
    obtain ⟨p182, q182, ad182, e182, hx182_0⟩ := sI (Kd.at_int C0.r x5_1)
    cases e182
    go_wp2_with (first | (go_at_call 92; (with_reducible refine (spec_l00In.calls (rd l1 x5_1) 0 (wrap64 ((rd l0 x5_1) - 1)) false _ A7.out).mono ?_); rintro e w' ⟨rfl, ⟨nd, rfl⟩⟩; (try first | exact ⟨rfl, _, World.drewN_drewN _ _ _⟩ | exact ⟨rfl, _, Eq.trans (World.drewN_drewN _ _ _) (congrArg (World.drewN _) (Nat.add_assoc _ _ _))⟩)))
    repeat (go_quiet (first | (go_at_call 92; (with_reducible refine (spec_l00In.calls (rd l1 x5_1) 0 (wrap64 ((rd l0 x5_1) - 1)) false _ A7.out).mono ?_); rintro e w' ⟨rfl, ⟨nd, rfl⟩⟩; (try first | exact ⟨rfl, _, World.drewN_drewN _ _ _⟩ | exact ⟨rfl, _, Eq.trans (World.drewN_drewN _ _ _) (congrArg (World.drewN _) (Nat.add_assoc _ _ _))⟩))); try go_wp2_with (first | (go_at_call 92; (with_reducible refine (spec_l00In.calls (rd l1 x5_1) 0 (wrap64 ((rd l0 x5_1) - 1)) false _ A7.out).mono ?_); rintro e w' ⟨rfl, ⟨nd, rfl⟩⟩; (try first | exact ⟨rfl, _, World.drewN_drewN _ _ _⟩ | exact ⟨rfl, _, Eq.trans (World.drewN_drewN _ _ _) (congrArg (World.drewN _) (Nat.add_assoc _ _ _))⟩))))
    go_ret
    exact ⟨by first | rfl | (simp; done) | (simp [*]; done), by repeat (first | exact Drawn0.refl _ | apply Drawn0.step)⟩
   have H' := yD H
   clear H
   obtain ⟨p181, q181, ad181, e181, hx181_0⟩ := sI (Kd.at_int C1.r x5_1)
   cases e181
   obtain ⟨p182, q182, ad182, e182, hx182_0⟩ := sI (Kd.at_int C0.r x5_1)
   cases e182
   go_wp2_with (first | (go_at_call 92; (with_reducible refine (spec_l00In.calls (rd l1 x5_1) 0 (wrap64 ((rd l0 x5_1) - 1)) true _ A7.out).mono ?_); rintro e w' ⟨rfl, ⟨nd, rfl⟩⟩; (try first | exact ⟨rfl, _, World.drewN_drewN _ _ _⟩ | exact ⟨rfl, _, Eq.trans (World.drewN_drewN _ _ _) (congrArg (World.drewN _) (Nat.add_assoc _ _ _))⟩)))
   repeat (go_quiet (first | (go_at_call 92; (with_reducible refine (spec_l00In.calls (rd l1 x5_1) 0 (wrap64 ((rd l0 x5_1) - 1)) true _ A7.out).mono ?_); rintro e w' ⟨rfl, ⟨nd, rfl⟩⟩; (try first | exact ⟨rfl, _, World.drewN_drewN _ _ _⟩ | exact ⟨rfl, _, Eq.trans (World.drewN_drewN _ _ _) (congrArg (World.drewN _) (Nat.add_assoc _ _ _))⟩))); try go_wp2_with (first | (go_at_call 92; (with_reducible refine (spec_l00In.calls (rd l1 x5_1) 0 (wrap64 ((rd l0 x5_1) - 1)) true _ A7.out).mono ?_); rintro e w' ⟨rfl, ⟨nd, rfl⟩⟩; (try first | exact ⟨rfl, _, World.drewN_drewN _ _ _⟩ | exact ⟨rfl, _, Eq.trans (World.drewN_drewN _ _ _) (congrArg (World.drewN _) (Nat.add_assoc _ _ _))⟩))))
   go_roundg k1
   case measure => have := HK1.out; omega
   case rel => exact ⟨(wrap64 (x5_1 + 1)), kF, H', ⟨by have := HK1.out; omega⟩, by repeat (first | exact Drawn0.refl _ | apply Drawn0.step)⟩
end Go.Proofs.Ytdiaebjbiddefaa.PFnExactBoxesOf
