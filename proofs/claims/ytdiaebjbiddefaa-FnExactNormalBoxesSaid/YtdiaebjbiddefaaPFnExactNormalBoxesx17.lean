/- Each Go function here comes to what the plain function of its name says, where that says something. Made by a program of this session, over the print. -/
import Derived.Test.YtdiaebjbiddefaaPFnExactNormalBoxesx0
import Derived.Test.YtdiaebjbiddefaaPFnExactNormalBoxesx1
import Derived.Test.YtdiaebjbiddefaaPFnExactNormalBoxesx9
import Derived.Test.YtdiaebjbiddefaaPFnExactNormalBoxesx16
namespace Go.Proofs.Ytdiaebjbiddefaa.PFnExactNormalBoxes
open Go.RowKit Go.Proofs.YtdiaebjbiddefaaW.PrintWords Go.Proofs.YtdiaebjbiddefaaW.PrintLast Go.Proofs.YtdiaebjbiddefaaW.PrintMore
attribute [local go_sem] max2_int min2_int max_two min_two max_three min_three max_four min_four   -- for this text's walks alone
set_option linter.unusedVariables false
set_option linter.unusedSimpArgs false

/-! ### laws_heldBoxS: function 19 -/
def laws_heldBoxS.l0 : Nat → List (S42) → Int → Int → Option (Int)
 | 0, _, _, _ => none
 | k + 1, x0, x1, x5 => if x5 < (x0.length : Int) then (if 0 ≤ x5 then ((laws_heldInt64S.f k ((rd_T42 x0 x5).f0) x1).bind fun t410 => (if t410 < 0 then (some (-1)) else ((laws_heldInt64S.f k ((rd_T42 x0 x5).f1) t410).bind fun t412 => (if t412 < 0 then (some (-1)) else (laws_heldBoxS.l0 k x0 t412 (wrap64 (x5 + 1))))))) else (none)) else (some x1)
def laws_heldBoxS.f (k : Nat) (l0 : List (S42)) (a1 : Int) : Option (Int) := laws_heldBoxS.l0 k l0 a1 0
theorem laws_heldBoxS.mono_l : ∀ k, (∀ y0 y1 y2, LeO (laws_heldBoxS.l0 k y0 y1 y2) (laws_heldBoxS.l0 (k + 1) y0 y1 y2))
 | 0 => fun _ _ _ r h => by simp [laws_heldBoxS.l0] at h
 | k + 1 => by
  have ih0 := laws_heldBoxS.mono_l k
  · intro y0 y1 y2
    unfold laws_heldBoxS.l0
    repeat' (with_reducible first | exact ih0 _ _ _ | exact laws_heldInt64S.mono _ _ _ | exact LeO.refl _ | exact LeO.none _ | refine LeO.ite ?_ ?_ | refine LeO.bind ?_ (fun _ => ?_))
theorem laws_heldBoxS.mono : ∀ a0 a1 k, LeO (laws_heldBoxS.f k a0 a1) (laws_heldBoxS.f (k + 1) a0 a1) := by
 intro a0 a1 k
 have ih0 := laws_heldBoxS.mono_l k
 unfold laws_heldBoxS.f
 repeat' (with_reducible first | exact ih0 _ _ _ | exact laws_heldInt64S.mono _ _ _ | exact LeO.refl _ | exact LeO.none _ | refine LeO.ite ?_ ?_ | refine LeO.bind ?_ (fun _ => ?_))
set_option maxHeartbeats 8000000 in
set_option maxRecDepth 100000 in
theorem laws_heldBoxS.calls (k : Nat) (A0 : Option Addr) (c0 : Nat) (l0 : List (S42)) (a1 : Int) (r : Int) (w : World) (hr0 : Kd.C k42 w A0 l0.length l0) (hc0 : l0.length ≤ c0) (h : laws_heldBoxS.f k l0 a1 = some r) :
 Calls Try.prog 19 #[.slice A0 l0.length c0, .int .i64 a1] w fun e w' => e = .returned (.int .i64 r) ∧ Drawn0 w w' := by
 have HR0 := yD hr0
 have HC0 := yD hc0
 clear hr0 hc0
 have H : (laws_heldBoxS.l0 k l0 a1 0) = some r := h
 clear h
 have H' := yD H
 clear H; go_enter Try.func19, Try.ntmps19
 go_wp2
 go_loopg [1, 5] k (fun kq v1 v5 w' => ∃ (x1_1 : Int) (x5_1 : Int), v1 = .int .i64 x1_1 ∧ v5 = .int .i64 x5_1 ∧ Aside0 (laws_heldBoxS.l0 kq l0 x1_1 x5_1 = some r) ∧ Aside0 (kq ≤ k) ∧ Drawn0 w w')
 case atStart => exact ⟨(a1), (0), (by first | rfl | (simp; done) | (simp [*]; done)), (by first | rfl | (simp; done) | (simp [*]; done)), H', ⟨Nat.le_refl _⟩, by repeat (first | exact Drawn0.refl _ | apply Drawn0.step)⟩
 case round =>
  clear H'
  try clear c1; try clear p2
  obtain ⟨x1_1, x5_1, rfl, rfl, HA, HK1, ⟨m1, rfl⟩⟩ := hrel
  cases gk with
  | zero => exact absurd HA.out (by simp [laws_heldBoxS.l0])
  | succ k1 =>
   have H := HA.out; clear HA
   simp only [laws_heldBoxS.l0] at H
   by_cases c3 : x5_1 < (l0.length : Int)
   ·
    rw [if_pos c3] at H
    have c3b0 : decide (x5_1 < (l0.length : Int)) = true := zR c3; clear c3
    by_cases c4 : 0 ≤ x5_1
    ·
     rw [if_pos c4] at H
     have c4b0 : decide (0 ≤ x5_1) = true := zR c4; clear c4
     obtain ⟨t410, A50, H⟩ := zW_ H
     replace H : (if t410 < 0 then (some (-1)) else ((laws_heldInt64S.f k1 ((rd_T42 l0 x5_1).f1) t410).bind fun t412 => (if t412 < 0 then (some (-1)) else (laws_heldBoxS.l0 k1 l0 t412 (wrap64 (x5_1 + 1)))))) = some r := H
     have A5 := yD A50
     clear A50
     by_cases c6 : t410 < 0
     ·
      rw [if_pos c6] at H
      have c6b0 : decide (t410 < 0) = true := zR c6; clear c6; obtain rfl := Option.some.inj H
      have p409 : 0 ≤ (x5_1 : Int) := zP (by assumption)
      have q409 : x5_1 < (l0.length : Int) := zP (by assumption)
      obtain ⟨ad409, A409_0, c409_0, A409_1, c409_1, e409, hx409_0, hx409_1, hl409_0, hi409_0, hl409_1, hi409_1⟩ := at_T42 HR0.out x5_1 p409 q409
      cases e409
      have HR409_0 := yD hi409_0
      have HC409_0 := yD hl409_0
      clear hi409_0 hl409_0
      have HR409_1 := yD hi409_1
      have HC409_1 := yD hl409_1
      clear hi409_1 hl409_1; replace p409 := eq_true p409; replace q409 := eq_true q409
      go_wp2_with (first | ((with_reducible refine gate_callee (f := 46) rfl ?_); refine gL 18 Try.func46 #[.slice A409_0 ((rd_T42 l0 x5_1).f0).length c409_0, .int .i64 x1_1] ?_; (with_reducible refine (laws_heldInt64S.calls k1 _ _ ((rd_T42 l0 x5_1).f0) x1_1 t410 _ ?side1 ?side2 A5.out).mono ?_); (case side1 => repeat (first | exact HR409_0.out | (with_reducible first | refine yV ?_ _ | refine yW ?_ _ | refine yX ?_))); (case side2 => exact HC409_0.out); rintro e w' ⟨rfl, ⟨nd, rfl⟩⟩; refine ⟨_, rfl, ?_⟩))
      go_ret
      exact ⟨by first | rfl | (simp; done) | (simp [*]; done), by repeat (first | exact Drawn0.refl _ | apply Drawn0.step)⟩
     ·
      rw [if_neg c6] at H
      have c6b0 : decide (t410 < 0) = false := zS c6; clear c6
      obtain ⟨t412, A70, H⟩ := zW_ H
      replace H : (if t412 < 0 then (some (-1)) else (laws_heldBoxS.l0 k1 l0 t412 (wrap64 (x5_1 + 1)))) = some r := H
      have A7 := yD A70
      clear A70
      by_cases c8 : t412 < 0
      ·
       rw [if_pos c8] at H
       have c8b0 : decide (t412 < 0) = true := zR c8; clear c8; obtain rfl := Option.some.inj H
       have p409 : 0 ≤ (x5_1 : Int) := zP (by assumption)
       have q409 : x5_1 < (l0.length : Int) := zP (by assumption)
       obtain ⟨ad409, A409_0, c409_0, A409_1, c409_1, e409, hx409_0, hx409_1, hl409_0, hi409_0, hl409_1, hi409_1⟩ := at_T42 HR0.out x5_1 p409 q409
       cases e409
       have HR409_0 := yD hi409_0
       have HC409_0 := yD hl409_0
       clear hi409_0 hl409_0
       have HR409_1 := yD hi409_1
       have HC409_1 := yD hl409_1
       clear hi409_1 hl409_1; replace p409 := eq_true p409; replace q409 := eq_true q409
       go_wp2_with (first | ((with_reducible refine gate_callee (f := 46) rfl ?_); refine gL 18 Try.func46 #[.slice A409_0 ((rd_T42 l0 x5_1).f0).length c409_0, .int .i64 x1_1] ?_; (with_reducible refine (laws_heldInt64S.calls k1 _ _ ((rd_T42 l0 x5_1).f0) x1_1 t410 _ ?side1 ?side2 A5.out).mono ?_); (case side1 => repeat (first | exact HR409_0.out | (with_reducible first | refine yV ?_ _ | refine yW ?_ _ | refine yX ?_))); (case side2 => exact HC409_0.out); rintro e w' ⟨rfl, ⟨nd, rfl⟩⟩; refine ⟨_, rfl, ?_⟩; have p411 : 0 ≤ (x5_1 : Int) := zP (by assumption); have q411 : x5_1 < (l0.length : Int) := zP (by assumption); obtain ⟨ad411, A411_0, c411_0, A411_1, c411_1, e411, hx411_0, hx411_1, hl411_0, hi411_0, hl411_1, hi411_1⟩ := at_T42 HR0.out x5_1 p411 q411; obtain rfl : ad409 = ad411 := (by injection e411); have HR411_0 := yD hi411_0; have HC411_0 := yD hl411_0; clear hi411_0 hl411_0; have HR411_1 := yD hi411_1; have HC411_1 := yD hl411_1; clear hi411_1 hl411_1; replace p411 := eq_true p411; replace q411 := eq_true q411; have ea_ := Option.some.inj (hx409_0.symm.trans hx411_0); injection ea_ with ea_ en_ ec_; subst ea_; subst ec_; clear en_; have ea_ := Option.some.inj (hx409_1.symm.trans hx411_1); injection ea_ with ea_ en_ ec_; subst ea_; subst ec_; clear en_) | ((with_reducible refine gate_callee (f := 46) rfl ?_); refine gL 27 Try.func46 #[.slice A409_1 ((rd_T42 l0 x5_1).f1).length c409_1, .int .i64 t410] ?_; (with_reducible refine (laws_heldInt64S.calls k1 _ _ ((rd_T42 l0 x5_1).f1) t410 t412 _ ?side1 ?side2 A7.out).mono ?_); (case side1 => repeat (first | exact HR411_1.out | (with_reducible first | refine yV ?_ _ | refine yW ?_ _ | refine yX ?_))); (case side2 => exact HC411_1.out); rintro e w' ⟨rfl, ⟨nd, rfl⟩⟩; refine ⟨_, rfl, ?_⟩))
       go_ret
       exact ⟨by first | rfl | (simp; done) | (simp [*]; done), by repeat (first | exact Drawn0.refl _ | apply Drawn0.step)⟩
      ·
       rw [if_neg c8] at H
       have c8b0 : decide (t412 < 0) = false := zS c8; clear c8
       have H' := yD H
       clear H
       have p409 : 0 ≤ (x5_1 : Int) := zP (by assumption)
       have q409 : x5_1 < (l0.length : Int) := zP (by assumption)
       obtain ⟨ad409, A409_0, c409_0, A409_1, c409_1, e409, hx409_0, hx409_1, hl409_0, hi409_0, hl409_1, hi409_1⟩ := at_T42 HR0.out x5_1 p409 q409
       cases e409
       have HR409_0 := yD hi409_0
       have HC409_0 := yD hl409_0
       clear hi409_0 hl409_0
       have HR409_1 := yD hi409_1
       have HC409_1 := yD hl409_1
       clear hi409_1 hl409_1; replace p409 := eq_true p409; replace q409 := eq_true q409
       go_wp2_with (first | ((with_reducible refine gate_callee (f := 46) rfl ?_); refine gL 18 Try.func46 #[.slice A409_0 ((rd_T42 l0 x5_1).f0).length c409_0, .int .i64 x1_1] ?_; (with_reducible refine (laws_heldInt64S.calls k1 _ _ ((rd_T42 l0 x5_1).f0) x1_1 t410 _ ?side1 ?side2 A5.out).mono ?_); (case side1 => repeat (first | exact HR409_0.out | (with_reducible first | refine yV ?_ _ | refine yW ?_ _ | refine yX ?_))); (case side2 => exact HC409_0.out); rintro e w' ⟨rfl, ⟨nd, rfl⟩⟩; refine ⟨_, rfl, ?_⟩; have p411 : 0 ≤ (x5_1 : Int) := zP (by assumption); have q411 : x5_1 < (l0.length : Int) := zP (by assumption); obtain ⟨ad411, A411_0, c411_0, A411_1, c411_1, e411, hx411_0, hx411_1, hl411_0, hi411_0, hl411_1, hi411_1⟩ := at_T42 HR0.out x5_1 p411 q411; obtain rfl : ad409 = ad411 := (by injection e411); have HR411_0 := yD hi411_0; have HC411_0 := yD hl411_0; clear hi411_0 hl411_0; have HR411_1 := yD hi411_1; have HC411_1 := yD hl411_1; clear hi411_1 hl411_1; replace p411 := eq_true p411; replace q411 := eq_true q411; have ea_ := Option.some.inj (hx409_0.symm.trans hx411_0); injection ea_ with ea_ en_ ec_; subst ea_; subst ec_; clear en_; have ea_ := Option.some.inj (hx409_1.symm.trans hx411_1); injection ea_ with ea_ en_ ec_; subst ea_; subst ec_; clear en_) | ((with_reducible refine gate_callee (f := 46) rfl ?_); refine gL 27 Try.func46 #[.slice A409_1 ((rd_T42 l0 x5_1).f1).length c409_1, .int .i64 t410] ?_; (with_reducible refine (laws_heldInt64S.calls k1 _ _ ((rd_T42 l0 x5_1).f1) t410 t412 _ ?side1 ?side2 A7.out).mono ?_); (case side1 => repeat (first | exact HR411_1.out | (with_reducible first | refine yV ?_ _ | refine yW ?_ _ | refine yX ?_))); (case side2 => exact HC411_1.out); rintro e w' ⟨rfl, ⟨nd, rfl⟩⟩; refine ⟨_, rfl, ?_⟩))
       go_roundg k1
       case measure => have := HK1.out; omega
       case rel => exact ⟨(t412), (wrap64 (x5_1 + 1)), (by first | rfl | (simp; done) | (simp [*]; done)), (by first | rfl | (simp; done) | (simp [*]; done)), H', ⟨by have := HK1.out; omega⟩, by repeat (first | exact Drawn0.refl _ | apply Drawn0.step)⟩
    · rw [if_neg c4] at H
      exact absurd H (by simp)
   · rw [if_neg c3] at H
     have c3b0 : decide (x5_1 < (l0.length : Int)) = false := zS c3; clear c3; obtain rfl := Option.some.inj H
     go_wp2
     go_ret
     exact ⟨by first | rfl | (simp; done) | (simp [*]; done), by repeat (first | exact Drawn0.refl _ | apply Drawn0.step)⟩

/-! ### laws_FnExactNormalBoxes: function 3 -/
mutual
def laws_FnExactNormalBoxes.j0 : Nat → List (S69) → List (S42) → Int → List (S42) → List (S42) → Int → Bool → Option (Bool)
 | 0, _, _, _, _, _, _, _ => none
 | k + 1, x0, x4, x5, x6, x7, x8, x40 => if x40 = true then (some false) else ((laws_toBoxS.f k x0).bind fun t429 => ((laws_eqBoxS.f k x6 t429).bind fun t432 => (if t432 = true then ((laws_markBoxS.f k x6 1).bind fun bt433 => (if bt433.1 < 0 then (laws_FnExactNormalBoxes.j1 k x0 x4 x5 x7 true) else ((laws_eqBoxS.f k x7 x4).bind fun t435 => (if t435 = true then (laws_FnExactNormalBoxes.j1 k x0 x4 x5 x7 (x8 != x5)) else (laws_FnExactNormalBoxes.j1 k x0 x4 x5 x7 true))))) else (some false))))
def laws_FnExactNormalBoxes.j1 : Nat → List (S69) → List (S42) → Int → List (S42) → Bool → Option (Bool)
 | 0, _, _, _, _, _ => none
 | k + 1, x0, x4, x5, x7, x61 => if x61 = true then (some false) else ((laws_markBoxS.f k x7 1).bind fun bt436 => ((laws_heldBoxS.f k bt436.2 1).bind fun t438 => (if t438 < 0 then (some false) else (if t438 = bt436.1 then ((laws_toBoxS.f k x0).bind fun t439 => ((impl_NormalBoxes.f k t439).bind fun bt442 => ((laws_eqBoxS.f k bt442.1 x4).bind fun t446 => (if t446 = true then (laws_FnExactNormalBoxes.j2 k bt436.2 bt436.1 (bt442.2 != x5)) else (laws_FnExactNormalBoxes.j2 k bt436.2 bt436.1 true))))) else (some false)))))
def laws_FnExactNormalBoxes.j2 : Nat → List (S42) → Int → Bool → Option (Bool)
 | 0, _, _, _ => none
 | k + 1, x7, x10, x87 => if x87 = true then (some false) else ((laws_heldBoxS.f k x7 1).bind fun t447 => (if t447 < 0 then (some false) else (if t447 = x10 then (some true) else (some false))))
end
def laws_FnExactNormalBoxes.f (k : Nat) (l0 : List (S69)) : Option (Bool) := (laws_szBoxS.f k l0 1048576).bind fun t413 => (if t413 < 0 then (some true) else ((laws_toBoxS.f k l0).bind fun t414 => ((spec_NormalBoxes.f k t414).bind fun bt417 => ((laws_toBoxS.f k l0).bind fun t421 => ((impl_NormalBoxes.f k t421).bind fun bt424 => ((laws_eqBoxS.f k bt424.1 bt417.1).bind fun t428 => (if t428 = true then (laws_FnExactNormalBoxes.j0 k l0 bt417.1 bt417.2 t421 bt424.1 bt424.2 (bt424.2 != bt417.2)) else (laws_FnExactNormalBoxes.j0 k l0 bt417.1 bt417.2 t421 bt424.1 bt424.2 true))))))))
theorem laws_FnExactNormalBoxes.mono_l : ∀ k, (∀ y0 y1 y2 y3 y4 y5 y6, LeO (laws_FnExactNormalBoxes.j0 k y0 y1 y2 y3 y4 y5 y6) (laws_FnExactNormalBoxes.j0 (k + 1) y0 y1 y2 y3 y4 y5 y6)) ∧ (∀ y0 y1 y2 y3 y4, LeO (laws_FnExactNormalBoxes.j1 k y0 y1 y2 y3 y4) (laws_FnExactNormalBoxes.j1 (k + 1) y0 y1 y2 y3 y4)) ∧ (∀ y0 y1 y2, LeO (laws_FnExactNormalBoxes.j2 k y0 y1 y2) (laws_FnExactNormalBoxes.j2 (k + 1) y0 y1 y2))
 | 0 => ⟨fun _ _ _ _ _ _ _ r h => by simp [laws_FnExactNormalBoxes.j0] at h, fun _ _ _ _ _ r h => by simp [laws_FnExactNormalBoxes.j1] at h, fun _ _ _ r h => by simp [laws_FnExactNormalBoxes.j2] at h⟩
 | k + 1 => by
  obtain ⟨ih0, ih1, ih2⟩ := laws_FnExactNormalBoxes.mono_l k
  refine ⟨?_, ?_, ?_⟩
  · intro y0 y1 y2 y3 y4 y5 y6
    unfold laws_FnExactNormalBoxes.j0
    repeat' (with_reducible first | exact ih0 _ _ _ _ _ _ _ | exact ih1 _ _ _ _ _ | exact ih2 _ _ _ | exact impl_NormalBoxes.mono _ _ | exact laws_eqBoxS.mono _ _ _ | exact laws_heldBoxS.mono _ _ _ | exact laws_markBoxS.mono _ _ _ | exact laws_szBoxS.mono _ _ _ | exact laws_toBoxS.mono _ _ | exact spec_NormalBoxes.mono _ _ | exact LeO.refl _ | exact LeO.none _ | refine LeO.ite ?_ ?_ | refine LeO.bind ?_ (fun _ => ?_))
  · intro y0 y1 y2 y3 y4
    unfold laws_FnExactNormalBoxes.j1
    repeat' (with_reducible first | exact ih0 _ _ _ _ _ _ _ | exact ih1 _ _ _ _ _ | exact ih2 _ _ _ | exact impl_NormalBoxes.mono _ _ | exact laws_eqBoxS.mono _ _ _ | exact laws_heldBoxS.mono _ _ _ | exact laws_markBoxS.mono _ _ _ | exact laws_szBoxS.mono _ _ _ | exact laws_toBoxS.mono _ _ | exact spec_NormalBoxes.mono _ _ | exact LeO.refl _ | exact LeO.none _ | refine LeO.ite ?_ ?_ | refine LeO.bind ?_ (fun _ => ?_))
  · intro y0 y1 y2
    unfold laws_FnExactNormalBoxes.j2
    repeat' (with_reducible first | exact ih0 _ _ _ _ _ _ _ | exact ih1 _ _ _ _ _ | exact ih2 _ _ _ | exact impl_NormalBoxes.mono _ _ | exact laws_eqBoxS.mono _ _ _ | exact laws_heldBoxS.mono _ _ _ | exact laws_markBoxS.mono _ _ _ | exact laws_szBoxS.mono _ _ _ | exact laws_toBoxS.mono _ _ | exact spec_NormalBoxes.mono _ _ | exact LeO.refl _ | exact LeO.none _ | refine LeO.ite ?_ ?_ | refine LeO.bind ?_ (fun _ => ?_))
theorem laws_FnExactNormalBoxes.mono : ∀ a0 k, LeO (laws_FnExactNormalBoxes.f k a0) (laws_FnExactNormalBoxes.f (k + 1) a0) := by
 intro a0 k
 obtain ⟨ih0, ih1, ih2⟩ := laws_FnExactNormalBoxes.mono_l k
 unfold laws_FnExactNormalBoxes.f
 repeat' (with_reducible first | exact ih0 _ _ _ _ _ _ _ | exact ih1 _ _ _ _ _ | exact ih2 _ _ _ | exact impl_NormalBoxes.mono _ _ | exact laws_eqBoxS.mono _ _ _ | exact laws_heldBoxS.mono _ _ _ | exact laws_markBoxS.mono _ _ _ | exact laws_szBoxS.mono _ _ _ | exact laws_toBoxS.mono _ _ | exact spec_NormalBoxes.mono _ _ | exact LeO.refl _ | exact LeO.none _ | refine LeO.ite ?_ ?_ | refine LeO.bind ?_ (fun _ => ?_))
theorem lo_ex {n : Nat} {W w1 : World} (_ : Below n W w1) : ∃ N, N = n := ⟨n, rfl⟩
theorem S_eldN {α : Type} {d : Kd α} {e base N : Nat} {W w1 : World} {ok : Nat → Prop} {u v : Value} {xs : List α} (hN : N = W.heap.size) (h : Kd.S d e W base ok u xs) (hbase : ∀ k, v.ownBlock = some k → W.heap.size ≤ k) (hb : Below W.heap.size W w1) : Kd.S d e w1 base (fun k => ok k ∧ (some k ≠ v.ownBlock ∧ k < N)) u xs :=
 Kd.S_mono (Kd.S_old h hb) (fun k hk => ⟨hk.1, fun he => by have := hbase k he.symm; have := hk.2; omega, by rw [hN]; exact hk.2⟩)
theorem S_newN {α : Type} {d : Kd α} {e N : Nat} {W w1 : World} {ok : Nat → Prop} {u v : Value} {xs : List α} (hN : N = W.heap.size) (h : Kd.S d e w1 W.heap.size ok v xs) (hlt : ∀ k, u.ownBlock = some k → k < W.heap.size) : Kd.S d e w1 W.heap.size (fun k => ok k ∧ (some k ≠ u.ownBlock ∧ N ≤ k)) v xs :=
 Kd.S_mono (Kd.S_bound h) (fun k hk => ⟨hk.1, fun he => by have := hlt k he.symm; have := hk.2.1; omega, by rw [hN]; exact hk.2.1⟩)
set_option maxHeartbeats 8000000 in
set_option maxRecDepth 100000 in
theorem laws_FnExactNormalBoxes.calls (k : Nat) (A0 : Option Addr) (c0 : Nat) (l0 : List (S69)) (r : Bool) (w : World) (hr0 : Kd.C k69 w A0 l0.length l0) (hc0 : l0.length ≤ c0) (h : laws_FnExactNormalBoxes.f k l0 = some r) :
 Calls Try.prog 3 #[.slice A0 l0.length c0] w fun e w' => e = .returned (.bool r) ∧ Below w.heap.size w w' := by
 have HR0 := yD hr0
 have HC0 := yD hc0
 clear hr0 hc0
 have HB := yD (Below.refl w.heap.size w)
 have H : ((laws_szBoxS.f k l0 1048576).bind fun t413 => (if t413 < 0 then (some true) else ((laws_toBoxS.f k l0).bind fun t414 => ((spec_NormalBoxes.f k t414).bind fun bt417 => ((laws_toBoxS.f k l0).bind fun t421 => ((impl_NormalBoxes.f k t421).bind fun bt424 => ((laws_eqBoxS.f k bt424.1 bt417.1).bind fun t428 => (if t428 = true then (laws_FnExactNormalBoxes.j0 k l0 bt417.1 bt417.2 t421 bt424.1 bt424.2 (bt424.2 != bt417.2)) else (laws_FnExactNormalBoxes.j0 k l0 bt417.1 bt417.2 t421 bt424.1 bt424.2 true))))))))) = some r := h
 clear h
 obtain ⟨t413, A20, H⟩ := zW_ H
 replace H : (if t413 < 0 then (some true) else ((laws_toBoxS.f k l0).bind fun t414 => ((spec_NormalBoxes.f k t414).bind fun bt417 => ((laws_toBoxS.f k l0).bind fun t421 => ((impl_NormalBoxes.f k t421).bind fun bt424 => ((laws_eqBoxS.f k bt424.1 bt417.1).bind fun t428 => (if t428 = true then (laws_FnExactNormalBoxes.j0 k l0 bt417.1 bt417.2 t421 bt424.1 bt424.2 (bt424.2 != bt417.2)) else (laws_FnExactNormalBoxes.j0 k l0 bt417.1 bt417.2 t421 bt424.1 bt424.2 true)))))))) = some r := H
 have A2 := yD A20
 clear A20
 by_cases c3 : t413 < 0
 · rw [if_pos c3] at H
   have c3b0 : decide (t413 < 0) = true := zR c3; clear c3; obtain rfl := Option.some.inj H; go_enter Try.func3, Try.ntmps3
   go_wp2_with (first | ((with_reducible refine gate_callee (f := 13) rfl ?_); refine gL 16 Try.func13 #[.slice A0 l0.length c0, .int .i64 1048576] ?_; (with_reducible refine (laws_szBoxS.calls k _ _ l0 1048576 t413 _ ?side1 ?side2 A2.out).mono ?_); (case side1 => repeat (first | exact HR0.out | (with_reducible first | refine yV ?_ _ | refine yW ?_ _ | refine yX ?_))); (case side2 => exact HC0.out); rintro e w4 ⟨rfl, hb⟩; refine ⟨_, rfl, ?_⟩; have n0_ := yD (zC (kB HB) hb); clear HB; have HB := n0_; clear n0_; (try clear hb); (try clear hb2); (try clear hk); (try clear hi)))
   go_ret
   exact ⟨by first | rfl | (simp <;> rfl) | (simp [*] <;> rfl), kR1 HB⟩
 ·
  rw [if_neg c3] at H
  have c3b0 : decide (t413 < 0) = false := zS c3; clear c3
  obtain ⟨t414, A50, H⟩ := zW_ H
  replace H : ((spec_NormalBoxes.f k t414).bind fun bt417 => ((laws_toBoxS.f k l0).bind fun t421 => ((impl_NormalBoxes.f k t421).bind fun bt424 => ((laws_eqBoxS.f k bt424.1 bt417.1).bind fun t428 => (if t428 = true then (laws_FnExactNormalBoxes.j0 k l0 bt417.1 bt417.2 t421 bt424.1 bt424.2 (bt424.2 != bt417.2)) else (laws_FnExactNormalBoxes.j0 k l0 bt417.1 bt417.2 t421 bt424.1 bt424.2 true)))))) = some r := H
  have A5 := yD A50
  clear A50
  obtain ⟨⟨t417, t418⟩, A60, H⟩ := zW_ H
  replace H : ((laws_toBoxS.f k l0).bind fun t421 => ((impl_NormalBoxes.f k t421).bind fun bt424 => ((laws_eqBoxS.f k bt424.1 t417).bind fun t428 => (if t428 = true then (laws_FnExactNormalBoxes.j0 k l0 t417 t418 t421 bt424.1 bt424.2 (bt424.2 != t418)) else (laws_FnExactNormalBoxes.j0 k l0 t417 t418 t421 bt424.1 bt424.2 true))))) = some r := H
  have A6 := yD A60
  clear A60
  obtain ⟨t421, A70, H⟩ := zW_ H
  replace H : ((impl_NormalBoxes.f k t421).bind fun bt424 => ((laws_eqBoxS.f k bt424.1 t417).bind fun t428 => (if t428 = true then (laws_FnExactNormalBoxes.j0 k l0 t417 t418 t421 bt424.1 bt424.2 (bt424.2 != t418)) else (laws_FnExactNormalBoxes.j0 k l0 t417 t418 t421 bt424.1 bt424.2 true)))) = some r := H
  have A7 := yD A70
  clear A70
  obtain ⟨⟨t424, t425⟩, A80, H⟩ := zW_ H
  replace H : ((laws_eqBoxS.f k t424 t417).bind fun t428 => (if t428 = true then (laws_FnExactNormalBoxes.j0 k l0 t417 t418 t421 t424 t425 (t425 != t418)) else (laws_FnExactNormalBoxes.j0 k l0 t417 t418 t421 t424 t425 true))) = some r := H
  have A8 := yD A80
  clear A80
  have HC9 := yD H
  clear H; go_enter Try.func3, Try.ntmps3
  go_upto_region 8 with (first | ((with_reducible refine gate_callee (f := 13) rfl ?_); refine gL 16 Try.func13 #[.slice A0 l0.length c0, .int .i64 1048576] ?_; (with_reducible refine (laws_szBoxS.calls k _ _ l0 1048576 t413 _ ?side1 ?side2 A2.out).mono ?_); (case side1 => repeat (first | exact HR0.out | (with_reducible first | refine yV ?_ _ | refine yW ?_ _ | refine yX ?_))); (case side2 => exact HC0.out); rintro e w10 ⟨rfl, hb⟩; refine ⟨_, rfl, ?_⟩; have n0_ := yD (zC (kB HB) hb); clear HB; have HB := n0_; clear n0_; (try clear hb); (try clear hb2); (try clear hk); (try clear hi)) | ((with_reducible refine gate_callee (f := 15) rfl ?_); refine gL 21 Try.func15 #[.slice A0 l0.length c0] ?_; (with_reducible refine (laws_toBoxS.calls k _ _ l0 t414 _ ?side1 ?side2 A5.out).mono ?_); (case side1 => exact kV (yY HR0.out HB.out)); (case side2 => exact HC0.out); rintro e w11 ⟨v415, rfl, ho0, hb⟩; refine ⟨_, rfl, ?_⟩; obtain ⟨lo415, hlo415⟩ := lo_ex hb; have n0_ := yD (zG ho0 (below_size (kB HB))); have n1_ := yD (zC (kB HB) hb); clear HB; have HO416 := n0_; have HB := n1_; clear n0_ n1_; (try clear hb); (try clear hb2); (try clear hk); (try clear hi); (try clear ho0); obtain ⟨Ao12, co12, eo12⟩ := Kd.S_slice HO416.out; subst eo12) | ((with_reducible refine gate_callee (f := 14) rfl ?_); refine gL 22 Try.func14 #[.slice Ao12 t414.length co12] ?_; (with_reducible refine (spec_NormalBoxes.calls k _ _ t414 t417 t418 _ ?side1 ?side2 A6.out).mono ?_); (case side1 => exact kV (Kd.S_reads' HO416.out).2.2); (case side2 => exact (Kd.S_reads' HO416.out).2.1); rintro e w13 ⟨v419, rfl, ho0, hb⟩; refine ⟨_, rfl, ?_⟩; obtain ⟨lo419, hlo419⟩ := lo_ex hb; have n0_ := yD (S_eldN hlo419 (by (with_reducible repeat (first | apply yS | apply yT | apply yU)); exact HO416.out) (Kd.S_base ho0) hb); have n1_ := yD (zG (S_newN hlo419 ho0 (Kd.S_lt (by (with_reducible repeat (first | apply yS | apply yT | apply yU)); exact HO416.out))) (below_size (kB HB))); have n2_ := yD (zC (kB HB) hb); clear HO416; clear HB; have HO416 := n0_; have HO420 := n1_; have HB := n2_; clear n0_ n1_ n2_; (try clear hb); (try clear hb2); (try clear hk); (try clear hi); (try clear ho0)) | ((with_reducible refine gate_callee (f := 15) rfl ?_); refine gL 26 Try.func15 #[.slice A0 l0.length c0] ?_; (with_reducible refine (laws_toBoxS.calls k _ _ l0 t421 _ ?side1 ?side2 A7.out).mono ?_); (case side1 => exact kV (yY HR0.out HB.out)); (case side2 => exact HC0.out); rintro e w14 ⟨v422, rfl, ho0, hb⟩; refine ⟨_, rfl, ?_⟩; obtain ⟨lo422, hlo422⟩ := lo_ex hb; have n0_ := yD (S_eldN hlo422 (by (with_reducible repeat (first | apply yS | apply yT | apply yU)); exact HO416.out) (Kd.S_base ho0) hb); have n1_ := yD (S_eldN hlo422 (by (with_reducible repeat (first | apply yS | apply yT | apply yU)); exact HO420.out) (Kd.S_base ho0) hb); have n2_ := yD (zG (S_newN hlo422 (S_newN hlo422 ho0 (Kd.S_lt (by (with_reducible repeat (first | apply yS | apply yT | apply yU)); exact HO416.out))) (Kd.S_lt (by (with_reducible repeat (first | apply yS | apply yT | apply yU)); exact HO420.out))) (below_size (kB HB))); have n3_ := yD (zC (kB HB) hb); clear HO416; clear HO420; clear HB; have HO416 := n0_; have HO420 := n1_; have HO423 := n2_; have HB := n3_; clear n0_ n1_ n2_ n3_; (try clear hb); (try clear hb2); (try clear hk); (try clear hi); (try clear ho0); obtain ⟨Ao15, co15, eo15⟩ := Kd.S_slice HO423.out; subst eo15) | ((with_reducible refine gate_callee (f := 16) rfl ?_); refine gL 29 Try.func16 #[.slice Ao15 t421.length co15] ?_; (with_reducible refine (impl_NormalBoxes.calls k _ _ t421 t424 t425 _ ?side1 ?side2 A8.out).mono ?_); (case side1 => exact kV (Kd.S_reads' HO423.out).2.2); (case side2 => exact (Kd.S_reads' HO423.out).2.1); rintro e w16 ⟨v426, rfl, ho0, hb⟩; refine ⟨_, rfl, ?_⟩; obtain ⟨lo426, hlo426⟩ := lo_ex hb; have n0_ := yD (S_eldN hlo426 (by (with_reducible repeat (first | apply yS | apply yT | apply yU)); exact HO416.out) (Kd.S_base ho0) hb); have n1_ := yD (S_eldN hlo426 (by (with_reducible repeat (first | apply yS | apply yT | apply yU)); exact HO420.out) (Kd.S_base ho0) hb); have n2_ := yD (S_eldN hlo426 (by (with_reducible repeat (first | apply yS | apply yT | apply yU)); exact HO423.out) (Kd.S_base ho0) hb); have n3_ := yD (zG (S_newN hlo426 (S_newN hlo426 (S_newN hlo426 ho0 (Kd.S_lt (by (with_reducible repeat (first | apply yS | apply yT | apply yU)); exact HO416.out))) (Kd.S_lt (by (with_reducible repeat (first | apply yS | apply yT | apply yU)); exact HO420.out))) (Kd.S_lt (by (with_reducible repeat (first | apply yS | apply yT | apply yU)); exact HO423.out))) (below_size (kB HB))); have n4_ := yD (zC (kB HB) hb); clear HO416; clear HO420; clear HO423; clear HB; have HO416 := n0_; have HO420 := n1_; have HO423 := n2_; have HO427 := n3_; have HB := n4_; clear n0_ n1_ n2_ n3_ n4_; (try clear hb); (try clear hb2); (try clear hk); (try clear hi); (try clear ho0)))
  (try simp only [Act.put, zH, zI, zJ])
  go_cut [40] (fun v40 wc => ∃ (kq : Nat) (x40_8 : Bool), v40 = .bool x40_8 ∧ Aside0 (laws_FnExactNormalBoxes.j0 kq l0 t417 t418 t421 t424 t425 x40_8 = some r) ∧ Aside0 (kq ≤ k) ∧ Aside0 (Kd.S k42 42 wc w.heap.size (fun k_ => (some k_ ≠ ((.slice Ao15 t421.length co15) : Value).ownBlock ∧ k_ < lo422) ∧ (some k_ ≠ (v426 : Value).ownBlock ∧ k_ < lo426)) v419 t417) ∧ Aside0 (Kd.S k42 42 wc w.heap.size (fun k_ => (some k_ ≠ (v419 : Value).ownBlock ∧ lo422 ≤ k_) ∧ (some k_ ≠ (v426 : Value).ownBlock ∧ k_ < lo426)) (.slice Ao15 t421.length co15) t421) ∧ Aside0 (Kd.S k42 42 wc w.heap.size (fun k_ => (some k_ ≠ (v419 : Value).ownBlock ∧ lo426 ≤ k_) ∧ (some k_ ≠ ((.slice Ao15 t421.length co15) : Value).ownBlock ∧ lo426 ≤ k_)) v426 t424) ∧ Aside0 (Below w.heap.size w wc))
  case first =>
   have H := HC9.out; clear HC9
   obtain ⟨t428, A170, H⟩ := zW_ H
   replace H : (if t428 = true then (laws_FnExactNormalBoxes.j0 k l0 t417 t418 t421 t424 t425 (t425 != t418)) else (laws_FnExactNormalBoxes.j0 k l0 t417 t418 t421 t424 t425 true)) = some r := H
   have A17 := yD A170
   clear A170
   by_cases c18 : t428 = true
   ·
    subst c18
    have H1 : (laws_FnExactNormalBoxes.j0 k l0 t417 t418 t421 t424 t425 (t425 != t418)) = some r := by rw [if_pos rfl] at H; exact H
    clear H; have H := H1; clear H1
    have H' := yD H
    clear H
    obtain ⟨Ao19, co19, eo19⟩ := Kd.S_slice HO427.out
    subst eo19
    obtain ⟨Ao20, co20, eo20⟩ := Kd.S_slice HO420.out
    subst eo20
    go_wp2_with (first | ((with_reducible refine gate_callee (f := 17) rfl ?_); refine gL 34 Try.func17 #[.slice Ao19 t424.length co19, .slice Ao20 t417.length co20] ?_; (with_reducible refine (laws_eqBoxS.calls k _ _ t424 _ _ t417 true _ ?side1 ?side2 ?side3 ?side4 A17.out).mono ?_); (case side1 => exact kV (Kd.S_reads' HO427.out).2.2); (case side2 => exact (Kd.S_reads' HO427.out).2.1); (case side3 => exact kV (Kd.S_reads' HO420.out).2.2); (case side4 => exact (Kd.S_reads' HO420.out).2.1); rintro e w21 ⟨rfl, hb⟩; refine ⟨_, rfl, ?_⟩; have n0_ := yD (Kd.S_below (by (with_reducible repeat (first | apply yS | apply yT | apply yU)); exact HO416.out) hb); have n1_ := yD (Kd.S_below (by (with_reducible repeat (first | apply yS | apply yT | apply yU)); exact HO420.out) hb); have n2_ := yD (Kd.S_below (by (with_reducible repeat (first | apply yS | apply yT | apply yU)); exact HO423.out) hb); have n3_ := yD (Kd.S_below (by (with_reducible repeat (first | apply yS | apply yT | apply yU)); exact HO427.out) hb); have n4_ := yD (zC (kB HB) hb); clear HO416; clear HO420; clear HO423; clear HO427; clear HB; have HO416 := n0_; have HO420 := n1_; have HO423 := n2_; have HO427 := n3_; have HB := n4_; clear n0_ n1_ n2_ n3_ n4_; (try clear hb); (try clear hb2); (try clear hk); (try clear hi)))
    go_meet
    case rel => exact ⟨_, ((t425 != t418)), (by first | rfl | (simp; done) | (simp [*]; done)), H', ⟨by first | omega | exact Nat.le_refl _⟩, ⟨by (with_reducible repeat (first | apply yS | apply yT | apply yU)); exact Kd.S_mono HO420.out (fun _ hk => ⟨hk.1.2, hk.2⟩)⟩, ⟨by (with_reducible repeat (first | apply yS | apply yT | apply yU)); exact Kd.S_mono HO423.out (fun _ hk => ⟨hk.1.2, hk.2⟩)⟩, ⟨by (with_reducible repeat (first | apply yS | apply yT | apply yU)); exact Kd.S_mono HO427.out (fun _ hk => ⟨hk.1.2, hk.2⟩)⟩, ⟨kR1 HB⟩⟩
   ·
    replace c18 := Bool.eq_false_iff.mpr c18
    subst c18
    have H1 : (laws_FnExactNormalBoxes.j0 k l0 t417 t418 t421 t424 t425 true) = some r := by rw [if_neg (show ¬ (false = true) by decide)] at H; exact H
    clear H; have H := H1; clear H1
    have H' := yD H
    clear H
    obtain ⟨Ao22, co22, eo22⟩ := Kd.S_slice HO427.out
    subst eo22
    obtain ⟨Ao23, co23, eo23⟩ := Kd.S_slice HO420.out
    subst eo23
    go_wp2_with (first | ((with_reducible refine gate_callee (f := 17) rfl ?_); refine gL 34 Try.func17 #[.slice Ao22 t424.length co22, .slice Ao23 t417.length co23] ?_; (with_reducible refine (laws_eqBoxS.calls k _ _ t424 _ _ t417 false _ ?side1 ?side2 ?side3 ?side4 A17.out).mono ?_); (case side1 => exact kV (Kd.S_reads' HO427.out).2.2); (case side2 => exact (Kd.S_reads' HO427.out).2.1); (case side3 => exact kV (Kd.S_reads' HO420.out).2.2); (case side4 => exact (Kd.S_reads' HO420.out).2.1); rintro e w24 ⟨rfl, hb⟩; refine ⟨_, rfl, ?_⟩; have n0_ := yD (Kd.S_below (by (with_reducible repeat (first | apply yS | apply yT | apply yU)); exact HO416.out) hb); have n1_ := yD (Kd.S_below (by (with_reducible repeat (first | apply yS | apply yT | apply yU)); exact HO420.out) hb); have n2_ := yD (Kd.S_below (by (with_reducible repeat (first | apply yS | apply yT | apply yU)); exact HO423.out) hb); have n3_ := yD (Kd.S_below (by (with_reducible repeat (first | apply yS | apply yT | apply yU)); exact HO427.out) hb); have n4_ := yD (zC (kB HB) hb); clear HO416; clear HO420; clear HO423; clear HO427; clear HB; have HO416 := n0_; have HO420 := n1_; have HO423 := n2_; have HO427 := n3_; have HB := n4_; clear n0_ n1_ n2_ n3_ n4_; (try clear hb); (try clear hb2); (try clear hk); (try clear hi)))
    go_meet
    case rel => exact ⟨_, (true), (by first | rfl | (simp; done) | (simp [*]; done)), H', ⟨by first | omega | exact Nat.le_refl _⟩, ⟨by (with_reducible repeat (first | apply yS | apply yT | apply yU)); exact Kd.S_mono HO420.out (fun _ hk => ⟨hk.1.2, hk.2⟩)⟩, ⟨by (with_reducible repeat (first | apply yS | apply yT | apply yU)); exact Kd.S_mono HO423.out (fun _ hk => ⟨hk.1.2, hk.2⟩)⟩, ⟨by (with_reducible repeat (first | apply yS | apply yT | apply yU)); exact Kd.S_mono HO427.out (fun _ hk => ⟨hk.1.2, hk.2⟩)⟩, ⟨kR1 HB⟩⟩
  case rest =>
   clear HC9; try clear c1; try clear p2; try clear c3; try clear c3b0; try clear c13; try clear c14; try clear c15; try clear c16; try clear c17; try clear c18
   obtain ⟨kq, x40_8, rfl, HA, HJ8, HO_4, HO_6, HO_7, HB⟩ := hcut
   cases kq with
   | zero => exact absurd HA.out (by simp [laws_FnExactNormalBoxes.j0])
   | succ kj8 =>
    have H := HA.out; clear HA
    simp only [laws_FnExactNormalBoxes.j0] at H
    by_cases c25 : x40_8 = true
    · subst c25
      have H1 : (some false) = some r := by rw [if_pos rfl] at H; exact H
      clear H; have H := H1; clear H1; obtain rfl := Option.some.inj H
      go_wp2
      go_ret
      exact ⟨by first | rfl | (simp <;> rfl) | (simp [*] <;> rfl), kR1 HB⟩
    ·
     replace c25 := Bool.eq_false_iff.mpr c25
     subst c25
     have H1 : ((laws_toBoxS.f kj8 l0).bind fun t429 => ((laws_eqBoxS.f kj8 t421 t429).bind fun t432 => (if t432 = true then ((laws_markBoxS.f kj8 t421 1).bind fun bt433 => (if bt433.1 < 0 then (laws_FnExactNormalBoxes.j1 kj8 l0 t417 t418 t424 true) else ((laws_eqBoxS.f kj8 t424 t417).bind fun t435 => (if t435 = true then (laws_FnExactNormalBoxes.j1 kj8 l0 t417 t418 t424 (t425 != t418)) else (laws_FnExactNormalBoxes.j1 kj8 l0 t417 t418 t424 true))))) else (some false)))) = some r := by rw [if_neg (show ¬ (false = true) by decide)] at H; exact H
     clear H; have H := H1; clear H1
     obtain ⟨t429, A260, H⟩ := zW_ H
     replace H : ((laws_eqBoxS.f kj8 t421 t429).bind fun t432 => (if t432 = true then ((laws_markBoxS.f kj8 t421 1).bind fun bt433 => (if bt433.1 < 0 then (laws_FnExactNormalBoxes.j1 kj8 l0 t417 t418 t424 true) else ((laws_eqBoxS.f kj8 t424 t417).bind fun t435 => (if t435 = true then (laws_FnExactNormalBoxes.j1 kj8 l0 t417 t418 t424 (t425 != t418)) else (laws_FnExactNormalBoxes.j1 kj8 l0 t417 t418 t424 true))))) else (some false))) = some r := H
     have A26 := yD A260
     clear A260
     obtain ⟨t432, A270, H⟩ := zW_ H
     replace H : (if t432 = true then ((laws_markBoxS.f kj8 t421 1).bind fun bt433 => (if bt433.1 < 0 then (laws_FnExactNormalBoxes.j1 kj8 l0 t417 t418 t424 true) else ((laws_eqBoxS.f kj8 t424 t417).bind fun t435 => (if t435 = true then (laws_FnExactNormalBoxes.j1 kj8 l0 t417 t418 t424 (t425 != t418)) else (laws_FnExactNormalBoxes.j1 kj8 l0 t417 t418 t424 true))))) else (some false)) = some r := H
     have A27 := yD A270
     clear A270
     by_cases c28 : t432 = true
     ·
      subst c28
      have H1 : ((laws_markBoxS.f kj8 t421 1).bind fun bt433 => (if bt433.1 < 0 then (laws_FnExactNormalBoxes.j1 kj8 l0 t417 t418 t424 true) else ((laws_eqBoxS.f kj8 t424 t417).bind fun t435 => (if t435 = true then (laws_FnExactNormalBoxes.j1 kj8 l0 t417 t418 t424 (t425 != t418)) else (laws_FnExactNormalBoxes.j1 kj8 l0 t417 t418 t424 true))))) = some r := by rw [if_pos rfl] at H; exact H
      clear H; have H := H1; clear H1
      obtain ⟨⟨t433, t434⟩, A290, H⟩ := zW_ H
      replace H : (if t433 < 0 then (laws_FnExactNormalBoxes.j1 kj8 l0 t417 t418 t424 true) else ((laws_eqBoxS.f kj8 t424 t417).bind fun t435 => (if t435 = true then (laws_FnExactNormalBoxes.j1 kj8 l0 t417 t418 t424 (t425 != t418)) else (laws_FnExactNormalBoxes.j1 kj8 l0 t417 t418 t424 true)))) = some r := H
      have A29 := yD A290
      clear A290
      have HC30 := yD H
      clear H
      go_upto_region 14 with (first | ((with_reducible refine gate_callee (f := 15) rfl ?_); refine gL 43 Try.func15 #[.slice A0 l0.length c0] ?_; (with_reducible refine (laws_toBoxS.calls kj8 _ _ l0 t429 _ ?side1 ?side2 A26.out).mono ?_); (case side1 => exact kV (yY HR0.out HB.out)); (case side2 => exact HC0.out); rintro e w31 ⟨v430, rfl, ho0, hb⟩; refine ⟨_, rfl, ?_⟩; obtain ⟨lo430, hlo430⟩ := lo_ex hb; have n0_ := yD (S_eldN hlo430 (by (with_reducible repeat (first | apply yS | apply yT | apply yU)); exact HO_4.out) (Kd.S_base ho0) hb); have n1_ := yD (S_eldN hlo430 (by (with_reducible repeat (first | apply yS | apply yT | apply yU)); exact HO_6.out) (Kd.S_base ho0) hb); have n2_ := yD (S_eldN hlo430 (by (with_reducible repeat (first | apply yS | apply yT | apply yU)); exact HO_7.out) (Kd.S_base ho0) hb); have n3_ := yD (zG (S_newN hlo430 (S_newN hlo430 (S_newN hlo430 ho0 (Kd.S_lt (by (with_reducible repeat (first | apply yS | apply yT | apply yU)); exact HO_4.out))) (Kd.S_lt (by (with_reducible repeat (first | apply yS | apply yT | apply yU)); exact HO_6.out))) (Kd.S_lt (by (with_reducible repeat (first | apply yS | apply yT | apply yU)); exact HO_7.out))) (below_size (kB HB))); have n4_ := yD (zC (kB HB) hb); clear HO_4; clear HO_6; clear HO_7; clear HB; have HO_4 := n0_; have HO_6 := n1_; have HO_7 := n2_; have HO431 := n3_; have HB := n4_; clear n0_ n1_ n2_ n3_ n4_; (try clear hb); (try clear hb2); (try clear hk); (try clear hi); (try clear ho0); obtain ⟨Ao32, co32, eo32⟩ := Kd.S_slice HO431.out; subst eo32) | ((with_reducible refine gate_callee (f := 17) rfl ?_); refine gL 44 Try.func17 #[.slice Ao15 t421.length co15, .slice Ao32 t429.length co32] ?_; (with_reducible refine (laws_eqBoxS.calls kj8 _ _ t421 _ _ t429 true _ ?side1 ?side2 ?side3 ?side4 A27.out).mono ?_); (case side1 => exact kV (Kd.S_reads' HO_6.out).2.2); (case side2 => exact (Kd.S_reads' HO_6.out).2.1); (case side3 => exact kV (Kd.S_reads' HO431.out).2.2); (case side4 => exact (Kd.S_reads' HO431.out).2.1); rintro e w33 ⟨rfl, hb⟩; refine ⟨_, rfl, ?_⟩; have n0_ := yD (Kd.S_below (by (with_reducible repeat (first | apply yS | apply yT | apply yU)); exact HO_4.out) hb); have n1_ := yD (Kd.S_below (by (with_reducible repeat (first | apply yS | apply yT | apply yU)); exact HO_6.out) hb); have n2_ := yD (Kd.S_below (by (with_reducible repeat (first | apply yS | apply yT | apply yU)); exact HO_7.out) hb); have n3_ := yD (Kd.S_below (by (with_reducible repeat (first | apply yS | apply yT | apply yU)); exact HO431.out) hb); have n4_ := yD (zC (kB HB) hb); clear HO_4; clear HO_6; clear HO_7; clear HO431; clear HB; have HO_4 := n0_; have HO_6 := n1_; have HO_7 := n2_; have HO431 := n3_; have HB := n4_; clear n0_ n1_ n2_ n3_ n4_; (try clear hb); (try clear hb2); (try clear hk); (try clear hi)) | ((with_reducible refine gate_callee (f := 18) rfl ?_); refine gL 48 Try.func18 #[.slice Ao15 t421.length co15, .int .i64 1] ?_; (with_reducible refine (laws_markBoxS.calls kj8 ?P5_2 (.slice Ao15 t421.length co15) t421 1 t433 t434 w _ ?side1 ?side2 A29.out).mono ?_); (case side1 => exact kR1 HB); (case side2 => exact HO_6.out); rintro e w34 ⟨rfl, hy0, hb, hkp⟩; refine ⟨_, rfl, ?_⟩; have n0_ := yD (Kd.S_mono (ok' := fun k_ => (some k_ ≠ (.slice Ao15 t421.length co15 : Value).ownBlock ∧ k_ < lo422) ∧ (some k_ ≠ (v426 : Value).ownBlock ∧ k_ < lo426) ∧ (some k_ ≠ (.slice Ao32 t429.length co32 : Value).ownBlock ∧ k_ < lo430)) (Kd.S_keptB (HO_4.out) hkp (fun k_ hk_ hs_ => (fun hq_ => by have h1_ := (hk_.1.1).2; have h2_ := (hq_.1.1).2; omega) hs_)) (fun k_ hk_ => ⟨hk_.1.1.1, hk_.1.1.2, hk_.1.2⟩)); have n1_ := yD (hy0); have n2_ := yD (Kd.S_mono (ok' := fun k_ => (some k_ ≠ (v419 : Value).ownBlock ∧ lo426 ≤ k_) ∧ (some k_ ≠ (.slice Ao15 t421.length co15 : Value).ownBlock ∧ lo426 ≤ k_) ∧ (some k_ ≠ (.slice Ao32 t429.length co32 : Value).ownBlock ∧ k_ < lo430)) (Kd.S_keptB (HO_7.out) hkp (fun k_ hk_ hs_ => (fun hq_ => by have h1_ := (hk_.1.2).2; have h2_ := (hq_.1.2).2; omega) hs_)) (fun k_ hk_ => ⟨hk_.1.1.1, hk_.1.1.2, hk_.1.2⟩)); have n3_ := yD (Kd.S_mono (ok' := fun k_ => (some k_ ≠ (v419 : Value).ownBlock ∧ lo430 ≤ k_) ∧ (some k_ ≠ (.slice Ao15 t421.length co15 : Value).ownBlock ∧ lo430 ≤ k_) ∧ (some k_ ≠ (v426 : Value).ownBlock ∧ lo430 ≤ k_)) (Kd.S_keptB (HO431.out) hkp (fun k_ hk_ hs_ => (fun hq_ => by have h1_ := (hk_.1.2).2; have h2_ := (hq_.2).2; omega) hs_)) (fun k_ hk_ => ⟨hk_.1.1.1.2, hk_.1.1.2, hk_.1.2⟩)); have n4_ := yD (hb); clear HO_4; clear HO_6; clear HO_7; clear HO431; clear HB; have HO_4 := n0_; have HO_6 := n1_; have HO_7 := n2_; have HO431 := n3_; have HB := n4_; clear n0_ n1_ n2_ n3_ n4_; (try clear hb); (try clear hkp); (try clear hy0)))
      (try simp only [Act.put, zH, zI, zJ])
      go_cut [61] (fun v61 wc => ∃ (kq : Nat) (x61_29 : Bool), v61 = .bool x61_29 ∧ Aside0 (laws_FnExactNormalBoxes.j1 kq l0 t417 t418 t424 x61_29 = some r) ∧ Aside0 (kq ≤ kj8) ∧ Aside0 (Kd.S k42 42 wc w.heap.size (fun k_ => (some k_ ≠ (v426 : Value).ownBlock ∧ k_ < lo426)) v419 t417) ∧ Aside0 (Kd.S k42 42 wc w.heap.size (fun k_ => (some k_ ≠ (v419 : Value).ownBlock ∧ lo426 ≤ k_)) v426 t424) ∧ Aside0 (Below w.heap.size w wc))
      case first =>
       have H := HC30.out; clear HC30
       by_cases c35 : t433 < 0
       · rw [if_pos c35] at H
         have c35b0 : decide (t433 < 0) = true := zR c35; clear c35
         (first | rw [c35b0] | (simp only [i64_w, i32_w]; rw [c35b0]) | (simp only [bne] at c35b0; rw [c35b0]) | skip)
         have H' := yD H
         clear H
         go_wp2
         go_meet
         case rel => exact ⟨_, (true), (by first | rfl | (simp; done) | (simp [*]; done)), H', ⟨by have := HJ8.out; first | omega | exact Nat.le_refl _⟩, ⟨by (with_reducible repeat (first | apply yS | apply yT | apply yU)); exact Kd.S_mono HO_4.out (fun _ hk => hk.2.1)⟩, ⟨by (with_reducible repeat (first | apply yS | apply yT | apply yU)); exact Kd.S_mono HO_7.out (fun _ hk => hk.1)⟩, ⟨kR1 HB⟩⟩
       ·
        rw [if_neg c35] at H
        have c35b0 : decide (t433 < 0) = false := zS c35; clear c35
        (first | rw [c35b0] | (simp only [i64_w, i32_w]; rw [c35b0]) | (simp only [bne] at c35b0; rw [c35b0]) | skip)
        obtain ⟨t435, A360, H⟩ := zW_ H
        replace H : (if t435 = true then (laws_FnExactNormalBoxes.j1 kj8 l0 t417 t418 t424 (t425 != t418)) else (laws_FnExactNormalBoxes.j1 kj8 l0 t417 t418 t424 true)) = some r := H
        have A36 := yD A360
        clear A360
        by_cases c37 : t435 = true
        · subst c37
          have H1 : (laws_FnExactNormalBoxes.j1 kj8 l0 t417 t418 t424 (t425 != t418)) = some r := by rw [if_pos rfl] at H; exact H
          clear H; have H := H1; clear H1
          have H' := yD H
          clear H
          obtain ⟨Ao38, co38, eo38⟩ := Kd.S_slice HO_7.out
          subst eo38
          obtain ⟨Ao39, co39, eo39⟩ := Kd.S_slice HO_4.out
          subst eo39
          go_wp2_with (first | (go_at_call 17; (with_reducible refine (laws_eqBoxS.calls kj8 _ _ t424 _ _ t417 true _ ?side1 ?side2 ?side3 ?side4 A36.out).mono ?_); (case side1 => exact kV (Kd.S_reads' HO_7.out).2.2); (case side2 => exact (Kd.S_reads' HO_7.out).2.1); (case side3 => exact kV (Kd.S_reads' HO_4.out).2.2); (case side4 => exact (Kd.S_reads' HO_4.out).2.1); rintro e w40 ⟨rfl, hb⟩; have n0_ := yD (Kd.S_below (by (with_reducible repeat (first | apply yS | apply yT | apply yU)); exact HO_4.out) hb); have n1_ := yD (Kd.S_below (by (with_reducible repeat (first | apply yS | apply yT | apply yU)); exact HO_6.out) hb); have n2_ := yD (Kd.S_below (by (with_reducible repeat (first | apply yS | apply yT | apply yU)); exact HO_7.out) hb); have n3_ := yD (Kd.S_below (by (with_reducible repeat (first | apply yS | apply yT | apply yU)); exact HO431.out) hb); have n4_ := yD (zC (kB HB) hb); clear HO_4; clear HO_6; clear HO_7; clear HO431; clear HB; have HO_4 := n0_; have HO_6 := n1_; have HO_7 := n2_; have HO431 := n3_; have HB := n4_; clear n0_ n1_ n2_ n3_ n4_; (try clear hb); (try clear hb2); (try clear hk); (try clear hi)))
          go_meet
          case rel => exact ⟨_, ((t425 != t418)), (by first | rfl | (simp; done) | (simp [*]; done)), H', ⟨by have := HJ8.out; first | omega | exact Nat.le_refl _⟩, ⟨by (with_reducible repeat (first | apply yS | apply yT | apply yU)); exact Kd.S_mono HO_4.out (fun _ hk => hk.2.1)⟩, ⟨by (with_reducible repeat (first | apply yS | apply yT | apply yU)); exact Kd.S_mono HO_7.out (fun _ hk => hk.1)⟩, ⟨kR1 HB⟩⟩
        ·
         replace c37 := Bool.eq_false_iff.mpr c37
         subst c37
         have H1 : (laws_FnExactNormalBoxes.j1 kj8 l0 t417 t418 t424 true) = some r := by rw [if_neg (show ¬ (false = true) by decide)] at H; exact H
         clear H; have H := H1; clear H1
         have H' := yD H
         clear H
         obtain ⟨Ao41, co41, eo41⟩ := Kd.S_slice HO_7.out
         subst eo41
         obtain ⟨Ao42, co42, eo42⟩ := Kd.S_slice HO_4.out
         subst eo42
         go_wp2_with (first | (go_at_call 17; (with_reducible refine (laws_eqBoxS.calls kj8 _ _ t424 _ _ t417 false _ ?side1 ?side2 ?side3 ?side4 A36.out).mono ?_); (case side1 => exact kV (Kd.S_reads' HO_7.out).2.2); (case side2 => exact (Kd.S_reads' HO_7.out).2.1); (case side3 => exact kV (Kd.S_reads' HO_4.out).2.2); (case side4 => exact (Kd.S_reads' HO_4.out).2.1); rintro e w43 ⟨rfl, hb⟩; have n0_ := yD (Kd.S_below (by (with_reducible repeat (first | apply yS | apply yT | apply yU)); exact HO_4.out) hb); have n1_ := yD (Kd.S_below (by (with_reducible repeat (first | apply yS | apply yT | apply yU)); exact HO_6.out) hb); have n2_ := yD (Kd.S_below (by (with_reducible repeat (first | apply yS | apply yT | apply yU)); exact HO_7.out) hb); have n3_ := yD (Kd.S_below (by (with_reducible repeat (first | apply yS | apply yT | apply yU)); exact HO431.out) hb); have n4_ := yD (zC (kB HB) hb); clear HO_4; clear HO_6; clear HO_7; clear HO431; clear HB; have HO_4 := n0_; have HO_6 := n1_; have HO_7 := n2_; have HO431 := n3_; have HB := n4_; clear n0_ n1_ n2_ n3_ n4_; (try clear hb); (try clear hb2); (try clear hk); (try clear hi)))
         go_meet
         case rel => exact ⟨_, (true), (by first | rfl | (simp; done) | (simp [*]; done)), H', ⟨by have := HJ8.out; first | omega | exact Nat.le_refl _⟩, ⟨by (with_reducible repeat (first | apply yS | apply yT | apply yU)); exact Kd.S_mono HO_4.out (fun _ hk => hk.2.1)⟩, ⟨by (with_reducible repeat (first | apply yS | apply yT | apply yU)); exact Kd.S_mono HO_7.out (fun _ hk => hk.1)⟩, ⟨kR1 HB⟩⟩
      case rest =>
       clear HC30; try clear c1; try clear c2; try clear p2; try clear c3; try clear c3b0; try clear c13; try clear c14; try clear c15; try clear c16; try clear c17; try clear c18; try clear c25; try clear c28; try clear c35; try clear c35b0; try clear c37; try clear p2
       obtain ⟨kq, x61_29, rfl, HA, HJ29, HO_4, HO_7, HB⟩ := hcut
       cases kq with
       | zero => exact absurd HA.out (by simp [laws_FnExactNormalBoxes.j1])
       | succ kj29 =>
        have H := HA.out; clear HA
        simp only [laws_FnExactNormalBoxes.j1] at H
        by_cases c44 : x61_29 = true
        · subst c44
          have H1 : (some false) = some r := by rw [if_pos rfl] at H; exact H
          clear H; have H := H1; clear H1; obtain rfl := Option.some.inj H
          go_wp2
          go_ret
          exact ⟨by first | rfl | (simp <;> rfl) | (simp [*] <;> rfl), kR1 HB⟩
        ·
         replace c44 := Bool.eq_false_iff.mpr c44
         subst c44
         have H1 : ((laws_markBoxS.f kj29 t424 1).bind fun bt436 => ((laws_heldBoxS.f kj29 bt436.2 1).bind fun t438 => (if t438 < 0 then (some false) else (if t438 = bt436.1 then ((laws_toBoxS.f kj29 l0).bind fun t439 => ((impl_NormalBoxes.f kj29 t439).bind fun bt442 => ((laws_eqBoxS.f kj29 bt442.1 t417).bind fun t446 => (if t446 = true then (laws_FnExactNormalBoxes.j2 kj29 bt436.2 bt436.1 (bt442.2 != t418)) else (laws_FnExactNormalBoxes.j2 kj29 bt436.2 bt436.1 true))))) else (some false))))) = some r := by rw [if_neg (show ¬ (false = true) by decide)] at H; exact H
         clear H; have H := H1; clear H1
         obtain ⟨⟨t436, t437⟩, A450, H⟩ := zW_ H
         replace H : ((laws_heldBoxS.f kj29 t437 1).bind fun t438 => (if t438 < 0 then (some false) else (if t438 = t436 then ((laws_toBoxS.f kj29 l0).bind fun t439 => ((impl_NormalBoxes.f kj29 t439).bind fun bt442 => ((laws_eqBoxS.f kj29 bt442.1 t417).bind fun t446 => (if t446 = true then (laws_FnExactNormalBoxes.j2 kj29 t437 t436 (bt442.2 != t418)) else (laws_FnExactNormalBoxes.j2 kj29 t437 t436 true))))) else (some false)))) = some r := H
         have A45 := yD A450
         clear A450
         obtain ⟨t438, A460, H⟩ := zW_ H
         replace H : (if t438 < 0 then (some false) else (if t438 = t436 then ((laws_toBoxS.f kj29 l0).bind fun t439 => ((impl_NormalBoxes.f kj29 t439).bind fun bt442 => ((laws_eqBoxS.f kj29 bt442.1 t417).bind fun t446 => (if t446 = true then (laws_FnExactNormalBoxes.j2 kj29 t437 t436 (bt442.2 != t418)) else (laws_FnExactNormalBoxes.j2 kj29 t437 t436 true))))) else (some false))) = some r := H
         have A46 := yD A460
         clear A460
         by_cases c47 : t438 < 0
         · rw [if_pos c47] at H
           have c47b0 : decide (t438 < 0) = true := zR c47; clear c47; obtain rfl := Option.some.inj H
           obtain ⟨Ao48, co48, eo48⟩ := Kd.S_slice HO_7.out
           subst eo48
           go_wp2_with (first | ((with_reducible refine gate_callee (f := 18) rfl ?_); refine gL 64 Try.func18 #[.slice Ao48 t424.length co48, .int .i64 1] ?_; (with_reducible refine (laws_markBoxS.calls kj29 ?P5_3 (.slice Ao48 t424.length co48) t424 1 t436 t437 w _ ?side1 ?side2 A45.out).mono ?_); (case side1 => exact kR1 HB); (case side2 => exact HO_7.out); rintro e w49 ⟨rfl, hy0, hb, hkp⟩; refine ⟨_, rfl, ?_⟩; have n0_ := yD (Kd.S_mono (ok' := fun k_ => (some k_ ≠ (.slice Ao48 t424.length co48 : Value).ownBlock ∧ k_ < lo426)) (Kd.S_keptB (HO_4.out) hkp (fun k_ hk_ hs_ => (fun hq_ => by have h1_ := (hk_).2; have h2_ := (hq_).2; omega) hs_)) (fun k_ hk_ => hk_.1)); have n1_ := yD (hy0); have n2_ := yD (hb); clear HO_4; clear HO_7; clear HB; have HO_4 := n0_; have HO_7 := n1_; have HB := n2_; clear n0_ n1_ n2_; (try clear hb); (try clear hkp); (try clear hy0)) | ((with_reducible refine gate_callee (f := 19) rfl ?_); refine goesL_ (some 67) rfl rfl Try.func19 (by kernel_rfl) rfl #[.slice Ao48 t437.length co48, .int .i64 1] rfl (by (try simp only [zK, zL, zM]); first | done | (rw [show t437.length = t424.length from (Kd.S_reads' HO_7.out).1.symm] <;> rfl) | rfl | (simp only [zN, zO]; rfl)) ?_; (with_reducible refine (laws_heldBoxS.calls kj29 _ _ t437 1 t438 _ ?side1 ?side2 A46.out).mono ?_); (case side1 => exact kV (Kd.S_reads' HO_7.out).2.2); (case side2 => rw [show t437.length = t424.length from (Kd.S_reads' HO_7.out).1.symm]; exact (Kd.S_reads' HO_7.out).2.1); rintro e w' ⟨rfl, ⟨nd, rfl⟩⟩; refine ⟨_, rfl, ?_⟩))
           go_ret
           exact ⟨by first | rfl | (simp <;> rfl) | (simp [*] <;> rfl), kR1 HB⟩
         ·
          rw [if_neg c47] at H
          have c47b0 : decide (t438 < 0) = false := zS c47; clear c47
          by_cases c50 : t438 = t436
          ·
           rw [if_pos c50] at H
           have c50b0 : (t438 == t436) = true := beq_iff_eq.mpr c50
           have c50b1 : (t438 != t436) = false := bne_eq_false_iff_eq.mpr c50
           clear c50
           obtain ⟨t439, A510, H⟩ := zW_ H
           replace H : ((impl_NormalBoxes.f kj29 t439).bind fun bt442 => ((laws_eqBoxS.f kj29 bt442.1 t417).bind fun t446 => (if t446 = true then (laws_FnExactNormalBoxes.j2 kj29 t437 t436 (bt442.2 != t418)) else (laws_FnExactNormalBoxes.j2 kj29 t437 t436 true)))) = some r := H
           have A51 := yD A510
           clear A510
           obtain ⟨⟨t442, t443⟩, A520, H⟩ := zW_ H
           replace H : ((laws_eqBoxS.f kj29 t442 t417).bind fun t446 => (if t446 = true then (laws_FnExactNormalBoxes.j2 kj29 t437 t436 (t443 != t418)) else (laws_FnExactNormalBoxes.j2 kj29 t437 t436 true))) = some r := H
           have A52 := yD A520
           clear A520
           have HC53 := yD H
           clear H
           obtain ⟨Ao54, co54, eo54⟩ := Kd.S_slice HO_7.out
           subst eo54
           go_upto_region 25 with (first | ((with_reducible refine gate_callee (f := 18) rfl ?_); refine gL 64 Try.func18 #[.slice Ao54 t424.length co54, .int .i64 1] ?_; (with_reducible refine (laws_markBoxS.calls kj29 ?P5_4 (.slice Ao54 t424.length co54) t424 1 t436 t437 w _ ?side1 ?side2 A45.out).mono ?_); (case side1 => exact kR1 HB); (case side2 => exact HO_7.out); rintro e w55 ⟨rfl, hy0, hb, hkp⟩; refine ⟨_, rfl, ?_⟩; have n0_ := yD (Kd.S_mono (ok' := fun k_ => (some k_ ≠ (.slice Ao54 t424.length co54 : Value).ownBlock ∧ k_ < lo426)) (Kd.S_keptB (HO_4.out) hkp (fun k_ hk_ hs_ => (fun hq_ => by have h1_ := (hk_).2; have h2_ := (hq_).2; omega) hs_)) (fun k_ hk_ => hk_.1)); have n1_ := yD (hy0); have n2_ := yD (hb); clear HO_4; clear HO_7; clear HB; have HO_4 := n0_; have HO_7 := n1_; have HB := n2_; clear n0_ n1_ n2_; (try clear hb); (try clear hkp); (try clear hy0)) | ((with_reducible refine gate_callee (f := 19) rfl ?_); refine goesL_ (some 67) rfl rfl Try.func19 (by kernel_rfl) rfl #[.slice Ao54 t437.length co54, .int .i64 1] rfl (by (try simp only [zK, zL, zM]); first | done | (rw [show t437.length = t424.length from (Kd.S_reads' HO_7.out).1.symm] <;> rfl) | rfl | (simp only [zN, zO]; rfl)) ?_; (with_reducible refine (laws_heldBoxS.calls kj29 _ _ t437 1 t438 _ ?side1 ?side2 A46.out).mono ?_); (case side1 => exact kV (Kd.S_reads' HO_7.out).2.2); (case side2 => rw [show t437.length = t424.length from (Kd.S_reads' HO_7.out).1.symm]; exact (Kd.S_reads' HO_7.out).2.1); rintro e w' ⟨rfl, ⟨nd, rfl⟩⟩; refine ⟨_, rfl, ?_⟩) | ((with_reducible refine gate_callee (f := 15) rfl ?_); refine gL 75 Try.func15 #[.slice A0 l0.length c0] ?_; (with_reducible refine (laws_toBoxS.calls kj29 _ _ l0 t439 _ ?side1 ?side2 A51.out).mono ?_); (case side1 => repeat (first | exact (yY HR0.out (kB HB)) | (with_reducible first | refine yV ?_ _ | refine yW ?_ _ | refine yX ?_))); (case side2 => exact HC0.out); rintro e w56 ⟨v440, rfl, ho0, hb⟩; refine ⟨_, rfl, ?_⟩; obtain ⟨lo440, hlo440⟩ := lo_ex hb; have n0_ := yD (S_eldN hlo440 (by (with_reducible repeat (first | apply yS | apply yT | apply yU)); exact HO_4.out) (Kd.S_base ho0) hb); have n1_ := yD (S_eldN hlo440 (by (with_reducible repeat (first | apply yS | apply yT | apply yU)); exact HO_7.out) (Kd.S_base ho0) hb); have n2_ := yD (zG (S_newN hlo440 (S_newN hlo440 ho0 (Kd.S_lt (by (with_reducible repeat (first | apply yS | apply yT | apply yU)); exact HO_4.out))) (Kd.S_lt (by (with_reducible repeat (first | apply yS | apply yT | apply yU)); exact HO_7.out))) (below_size (kB HB))); have n3_ := yD (zC (kB HB) hb); clear HO_4; clear HO_7; clear HB; have HO_4 := n0_; have HO_7 := n1_; have HO441 := n2_; have HB := n3_; clear n0_ n1_ n2_ n3_; (try clear hb); (try clear hb2); (try clear hk); (try clear hi); (try clear ho0); obtain ⟨Ao57, co57, eo57⟩ := Kd.S_slice HO441.out; subst eo57) | ((with_reducible refine gate_callee (f := 16) rfl ?_); refine gL 76 Try.func16 #[.slice Ao57 t439.length co57] ?_; (with_reducible refine (impl_NormalBoxes.calls kj29 _ _ t439 t442 t443 _ ?side1 ?side2 A52.out).mono ?_); (case side1 => exact kV (Kd.S_reads' HO441.out).2.2); (case side2 => exact (Kd.S_reads' HO441.out).2.1); rintro e w58 ⟨v444, rfl, ho0, hb⟩; refine ⟨_, rfl, ?_⟩; obtain ⟨lo444, hlo444⟩ := lo_ex hb; have n0_ := yD (S_eldN hlo444 (by (with_reducible repeat (first | apply yS | apply yT | apply yU)); exact HO_4.out) (Kd.S_base ho0) hb); have n1_ := yD (S_eldN hlo444 (by (with_reducible repeat (first | apply yS | apply yT | apply yU)); exact HO_7.out) (Kd.S_base ho0) hb); have n2_ := yD (S_eldN hlo444 (by (with_reducible repeat (first | apply yS | apply yT | apply yU)); exact HO441.out) (Kd.S_base ho0) hb); have n3_ := yD (zG (S_newN hlo444 (S_newN hlo444 (S_newN hlo444 ho0 (Kd.S_lt (by (with_reducible repeat (first | apply yS | apply yT | apply yU)); exact HO_4.out))) (Kd.S_lt (by (with_reducible repeat (first | apply yS | apply yT | apply yU)); exact HO_7.out))) (Kd.S_lt (by (with_reducible repeat (first | apply yS | apply yT | apply yU)); exact HO441.out))) (below_size (kB HB))); have n4_ := yD (zC (kB HB) hb); clear HO_4; clear HO_7; clear HO441; clear HB; have HO_4 := n0_; have HO_7 := n1_; have HO441 := n2_; have HO445 := n3_; have HB := n4_; clear n0_ n1_ n2_ n3_ n4_; (try clear hb); (try clear hb2); (try clear hk); (try clear hi); (try clear ho0)))
           (try simp only [Act.put, zH, zI, zJ])
           go_cut [87] (fun v87 wc => ∃ (kq : Nat) (x87_52 : Bool), v87 = .bool x87_52 ∧ Aside0 (laws_FnExactNormalBoxes.j2 kq t437 t436 x87_52 = some r) ∧ Aside0 (kq ≤ kj29) ∧ Aside0 (Kd.S k42 42 wc w.heap.size (fun _ => True) (.slice Ao54 t424.length co54) t437) ∧ Aside0 (Below w.heap.size w wc))
           case first =>
            have H := HC53.out; clear HC53
            obtain ⟨t446, A590, H⟩ := zW_ H
            replace H : (if t446 = true then (laws_FnExactNormalBoxes.j2 kj29 t437 t436 (t443 != t418)) else (laws_FnExactNormalBoxes.j2 kj29 t437 t436 true)) = some r := H
            have A59 := yD A590
            clear A590
            by_cases c60 : t446 = true
            · subst c60
              have H1 : (laws_FnExactNormalBoxes.j2 kj29 t437 t436 (t443 != t418)) = some r := by rw [if_pos rfl] at H; exact H
              clear H; have H := H1; clear H1
              have H' := yD H
              clear H
              obtain ⟨Ao61, co61, eo61⟩ := Kd.S_slice HO445.out
              subst eo61
              obtain ⟨Ao62, co62, eo62⟩ := Kd.S_slice HO_4.out
              subst eo62
              go_wp2_with (first | ((with_reducible refine gate_callee (f := 17) rfl ?_); refine gL 81 Try.func17 #[.slice Ao61 t442.length co61, .slice Ao62 t417.length co62] ?_; (with_reducible refine (laws_eqBoxS.calls kj29 _ _ t442 _ _ t417 true _ ?side1 ?side2 ?side3 ?side4 A59.out).mono ?_); (case side1 => exact kV (Kd.S_reads' HO445.out).2.2); (case side2 => exact (Kd.S_reads' HO445.out).2.1); (case side3 => exact kV (Kd.S_reads' HO_4.out).2.2); (case side4 => exact (Kd.S_reads' HO_4.out).2.1); rintro e w63 ⟨rfl, hb⟩; refine ⟨_, rfl, ?_⟩; have n0_ := yD (Kd.S_below (by (with_reducible repeat (first | apply yS | apply yT | apply yU)); exact HO_4.out) hb); have n1_ := yD (Kd.S_below (by (with_reducible repeat (first | apply yS | apply yT | apply yU)); exact HO_7.out) hb); have n2_ := yD (Kd.S_below (by (with_reducible repeat (first | apply yS | apply yT | apply yU)); exact HO441.out) hb); have n3_ := yD (Kd.S_below (by (with_reducible repeat (first | apply yS | apply yT | apply yU)); exact HO445.out) hb); have n4_ := yD (zC (kB HB) hb); clear HO_4; clear HO_7; clear HO441; clear HO445; clear HB; have HO_4 := n0_; have HO_7 := n1_; have HO441 := n2_; have HO445 := n3_; have HB := n4_; clear n0_ n1_ n2_ n3_ n4_; (try clear hb); (try clear hb2); (try clear hk); (try clear hi)))
              go_meet
              case rel => exact ⟨_, ((t443 != t418)), (by first | rfl | (simp; done) | (simp [*]; done)), H', ⟨by have := HJ8.out; have := HJ29.out; first | omega | exact Nat.le_refl _⟩, ⟨by (with_reducible repeat (first | apply yS | apply yT | apply yU)); exact Kd.S_mono HO_7.out (fun _ hk => trivial)⟩, ⟨kR1 HB⟩⟩
            · replace c60 := Bool.eq_false_iff.mpr c60
              subst c60
              have H1 : (laws_FnExactNormalBoxes.j2 kj29 t437 t436 true) = some r := by rw [if_neg (show ¬ (false = true) by decide)] at H; exact H
              clear H; have H := H1; clear H1
              have H' := yD H
              clear H
              obtain ⟨Ao64, co64, eo64⟩ := Kd.S_slice HO445.out
              subst eo64
              obtain ⟨Ao65, co65, eo65⟩ := Kd.S_slice HO_4.out
              subst eo65
              go_wp2_with (first | ((with_reducible refine gate_callee (f := 17) rfl ?_); refine gL 81 Try.func17 #[.slice Ao64 t442.length co64, .slice Ao65 t417.length co65] ?_; (with_reducible refine (laws_eqBoxS.calls kj29 _ _ t442 _ _ t417 false _ ?side1 ?side2 ?side3 ?side4 A59.out).mono ?_); (case side1 => exact kV (Kd.S_reads' HO445.out).2.2); (case side2 => exact (Kd.S_reads' HO445.out).2.1); (case side3 => exact kV (Kd.S_reads' HO_4.out).2.2); (case side4 => exact (Kd.S_reads' HO_4.out).2.1); rintro e w66 ⟨rfl, hb⟩; refine ⟨_, rfl, ?_⟩; have n0_ := yD (Kd.S_below (by (with_reducible repeat (first | apply yS | apply yT | apply yU)); exact HO_4.out) hb); have n1_ := yD (Kd.S_below (by (with_reducible repeat (first | apply yS | apply yT | apply yU)); exact HO_7.out) hb); have n2_ := yD (Kd.S_below (by (with_reducible repeat (first | apply yS | apply yT | apply yU)); exact HO441.out) hb); have n3_ := yD (Kd.S_below (by (with_reducible repeat (first | apply yS | apply yT | apply yU)); exact HO445.out) hb); have n4_ := yD (zC (kB HB) hb); clear HO_4; clear HO_7; clear HO441; clear HO445; clear HB; have HO_4 := n0_; have HO_7 := n1_; have HO441 := n2_; have HO445 := n3_; have HB := n4_; clear n0_ n1_ n2_ n3_ n4_; (try clear hb); (try clear hb2); (try clear hk); (try clear hi)))
              go_meet
              case rel => exact ⟨_, (true), (by first | rfl | (simp; done) | (simp [*]; done)), H', ⟨by have := HJ8.out; have := HJ29.out; first | omega | exact Nat.le_refl _⟩, ⟨by (with_reducible repeat (first | apply yS | apply yT | apply yU)); exact Kd.S_mono HO_7.out (fun _ hk => trivial)⟩, ⟨kR1 HB⟩⟩
           case rest =>
            clear HC53; try clear c1; try clear c2; try clear p2; try clear c3; try clear c3b0; try clear c4; try clear c5; try clear c6; try clear c13; try clear c14; try clear c15; try clear c16; try clear c17; try clear c18; try clear c19; try clear c25; try clear c28; try clear c35; try clear c35b0; try clear c37; try clear c44; try clear c47; try clear c47b0; try clear c50; try clear c50b0; try clear c50b1; try clear c60; try clear p2
            obtain ⟨kq, x87_52, rfl, HA, HJ52, HO_7, HB⟩ := hcut
            have hl7_52 := (Kd.S_reads' HO_7.out).1
            rw [hl7_52] at HO_7
            (try simp only [hl7_52])
            cases kq with
            | zero => exact absurd HA.out (by simp [laws_FnExactNormalBoxes.j2])
            | succ kj52 =>
             have H := HA.out; clear HA
             simp only [laws_FnExactNormalBoxes.j2] at H
             by_cases c67 : x87_52 = true
             · subst c67
               have H1 : (some false) = some r := by rw [if_pos rfl] at H; exact H
               clear H; have H := H1; clear H1; obtain rfl := Option.some.inj H
               go_wp2
               go_ret
               exact ⟨by first | rfl | (simp <;> rfl) | (simp [*] <;> rfl), kR1 HB⟩
             ·
              replace c67 := Bool.eq_false_iff.mpr c67
              subst c67
              have H1 : ((laws_heldBoxS.f kj52 t437 1).bind fun t447 => (if t447 < 0 then (some false) else (if t447 = t436 then (some true) else (some false)))) = some r := by rw [if_neg (show ¬ (false = true) by decide)] at H; exact H
              clear H; have H := H1; clear H1
              obtain ⟨t447, A680, H⟩ := zW_ H
              replace H : (if t447 < 0 then (some false) else (if t447 = t436 then (some true) else (some false))) = some r := H
              have A68 := yD A680
              clear A680
              by_cases c69 : t447 < 0
              · rw [if_pos c69] at H
                have c69b0 : decide (t447 < 0) = true := zR c69
                (try (have c69b0h := c69b0; simp only [hl7_52] at c69b0h))
                clear c69; obtain rfl := Option.some.inj H
                go_wp2_with (first | ((with_reducible refine gate_callee (f := 19) rfl ?_); refine gL 90 Try.func19 #[.slice Ao54 t437.length co54, .int .i64 1] ?_; (with_reducible refine (laws_heldBoxS.calls kj52 _ _ t437 1 t447 _ ?side1 ?side2 A68.out).mono ?_); (case side1 => exact kV (Kd.S_reads' HO_7.out).2.2); (case side2 => exact (Kd.S_reads' HO_7.out).2.1); rintro e w' ⟨rfl, ⟨nd, rfl⟩⟩; refine ⟨_, rfl, ?_⟩))
                go_ret
                exact ⟨by first | rfl | (simp <;> rfl) | (simp [*] <;> rfl), kR1 HB⟩
              ·
               rw [if_neg c69] at H
               have c69b0 : decide (t447 < 0) = false := zS c69
               (try (have c69b0h := c69b0; simp only [hl7_52] at c69b0h))
               clear c69
               by_cases c70 : t447 = t436
               · rw [if_pos c70] at H
                 have c70b0 : (t447 == t436) = true := beq_iff_eq.mpr c70
                 (try (have c70b0h := c70b0; simp only [hl7_52] at c70b0h))
                 have c70b1 : (t447 != t436) = false := bne_eq_false_iff_eq.mpr c70
                 (try (have c70b1h := c70b1; simp only [hl7_52] at c70b1h))
                 clear c70; obtain rfl := Option.some.inj H
                 go_wp2_with (first | ((with_reducible refine gate_callee (f := 19) rfl ?_); refine gL 90 Try.func19 #[.slice Ao54 t437.length co54, .int .i64 1] ?_; (with_reducible refine (laws_heldBoxS.calls kj52 _ _ t437 1 t447 _ ?side1 ?side2 A68.out).mono ?_); (case side1 => exact kV (Kd.S_reads' HO_7.out).2.2); (case side2 => exact (Kd.S_reads' HO_7.out).2.1); rintro e w' ⟨rfl, ⟨nd, rfl⟩⟩; refine ⟨_, rfl, ?_⟩))
                 go_ret
                 exact ⟨by first | rfl | (simp <;> rfl) | (simp [*] <;> rfl), kR1 HB⟩
               · rw [if_neg c70] at H
                 have c70b0 : (t447 == t436) = false := beq_eq_false_iff_ne.mpr c70
                 (try (have c70b0h := c70b0; simp only [hl7_52] at c70b0h))
                 have c70b1 : (t447 != t436) = true := bne_iff_ne.mpr c70
                 (try (have c70b1h := c70b1; simp only [hl7_52] at c70b1h))
                 obtain rfl := Option.some.inj H
                 go_wp2_with (first | ((with_reducible refine gate_callee (f := 19) rfl ?_); refine gL 90 Try.func19 #[.slice Ao54 t437.length co54, .int .i64 1] ?_; (with_reducible refine (laws_heldBoxS.calls kj52 _ _ t437 1 t447 _ ?side1 ?side2 A68.out).mono ?_); (case side1 => exact kV (Kd.S_reads' HO_7.out).2.2); (case side2 => exact (Kd.S_reads' HO_7.out).2.1); rintro e w' ⟨rfl, ⟨nd, rfl⟩⟩; refine ⟨_, rfl, ?_⟩))
                 go_ret
                 exact ⟨by first | rfl | (simp <;> rfl) | (simp [*] <;> rfl), kR1 HB⟩
          · rw [if_neg c50] at H
            have c50b0 : (t438 == t436) = false := beq_eq_false_iff_ne.mpr c50
            have c50b1 : (t438 != t436) = true := bne_iff_ne.mpr c50
            obtain rfl := Option.some.inj H
            obtain ⟨Ao71, co71, eo71⟩ := Kd.S_slice HO_7.out
            subst eo71
            go_wp2_with (first | ((with_reducible refine gate_callee (f := 18) rfl ?_); refine gL 64 Try.func18 #[.slice Ao71 t424.length co71, .int .i64 1] ?_; (with_reducible refine (laws_markBoxS.calls kj29 ?P5_5 (.slice Ao71 t424.length co71) t424 1 t436 t437 w _ ?side1 ?side2 A45.out).mono ?_); (case side1 => exact kR1 HB); (case side2 => exact HO_7.out); rintro e w72 ⟨rfl, hy0, hb, hkp⟩; refine ⟨_, rfl, ?_⟩; have n0_ := yD (Kd.S_mono (ok' := fun k_ => (some k_ ≠ (.slice Ao71 t424.length co71 : Value).ownBlock ∧ k_ < lo426)) (Kd.S_keptB (HO_4.out) hkp (fun k_ hk_ hs_ => (fun hq_ => by have h1_ := (hk_).2; have h2_ := (hq_).2; omega) hs_)) (fun k_ hk_ => hk_.1)); have n1_ := yD (hy0); have n2_ := yD (hb); clear HO_4; clear HO_7; clear HB; have HO_4 := n0_; have HO_7 := n1_; have HB := n2_; clear n0_ n1_ n2_; (try clear hb); (try clear hkp); (try clear hy0)) | ((with_reducible refine gate_callee (f := 19) rfl ?_); refine goesL_ (some 67) rfl rfl Try.func19 (by kernel_rfl) rfl #[.slice Ao71 t437.length co71, .int .i64 1] rfl (by (try simp only [zK, zL, zM]); first | done | (rw [show t437.length = t424.length from (Kd.S_reads' HO_7.out).1.symm] <;> rfl) | rfl | (simp only [zN, zO]; rfl)) ?_; (with_reducible refine (laws_heldBoxS.calls kj29 _ _ t437 1 t438 _ ?side1 ?side2 A46.out).mono ?_); (case side1 => exact kV (Kd.S_reads' HO_7.out).2.2); (case side2 => rw [show t437.length = t424.length from (Kd.S_reads' HO_7.out).1.symm]; exact (Kd.S_reads' HO_7.out).2.1); rintro e w' ⟨rfl, ⟨nd, rfl⟩⟩; refine ⟨_, rfl, ?_⟩))
            go_ret
            exact ⟨by first | rfl | (simp <;> rfl) | (simp [*] <;> rfl), kR1 HB⟩
     · replace c28 := Bool.eq_false_iff.mpr c28
       subst c28
       have H1 : (some false) = some r := by rw [if_neg (show ¬ (false = true) by decide)] at H; exact H
       clear H; have H := H1; clear H1; obtain rfl := Option.some.inj H
       go_wp2_with (first | ((with_reducible refine gate_callee (f := 15) rfl ?_); refine gL 43 Try.func15 #[.slice A0 l0.length c0] ?_; (with_reducible refine (laws_toBoxS.calls kj8 _ _ l0 t429 _ ?side1 ?side2 A26.out).mono ?_); (case side1 => exact kV (yY HR0.out HB.out)); (case side2 => exact HC0.out); rintro e w73 ⟨v430, rfl, ho0, hb⟩; refine ⟨_, rfl, ?_⟩; obtain ⟨lo430, hlo430⟩ := lo_ex hb; have n0_ := yD (S_eldN hlo430 (by (with_reducible repeat (first | apply yS | apply yT | apply yU)); exact HO_4.out) (Kd.S_base ho0) hb); have n1_ := yD (S_eldN hlo430 (by (with_reducible repeat (first | apply yS | apply yT | apply yU)); exact HO_6.out) (Kd.S_base ho0) hb); have n2_ := yD (S_eldN hlo430 (by (with_reducible repeat (first | apply yS | apply yT | apply yU)); exact HO_7.out) (Kd.S_base ho0) hb); have n3_ := yD (zG (S_newN hlo430 (S_newN hlo430 (S_newN hlo430 ho0 (Kd.S_lt (by (with_reducible repeat (first | apply yS | apply yT | apply yU)); exact HO_4.out))) (Kd.S_lt (by (with_reducible repeat (first | apply yS | apply yT | apply yU)); exact HO_6.out))) (Kd.S_lt (by (with_reducible repeat (first | apply yS | apply yT | apply yU)); exact HO_7.out))) (below_size (kB HB))); have n4_ := yD (zC (kB HB) hb); clear HO_4; clear HO_6; clear HO_7; clear HB; have HO_4 := n0_; have HO_6 := n1_; have HO_7 := n2_; have HO431 := n3_; have HB := n4_; clear n0_ n1_ n2_ n3_ n4_; (try clear hb); (try clear hb2); (try clear hk); (try clear hi); (try clear ho0); obtain ⟨Ao74, co74, eo74⟩ := Kd.S_slice HO431.out; subst eo74) | ((with_reducible refine gate_callee (f := 17) rfl ?_); refine gL 44 Try.func17 #[.slice Ao15 t421.length co15, .slice Ao74 t429.length co74] ?_; (with_reducible refine (laws_eqBoxS.calls kj8 _ _ t421 _ _ t429 false _ ?side1 ?side2 ?side3 ?side4 A27.out).mono ?_); (case side1 => exact kV (Kd.S_reads' HO_6.out).2.2); (case side2 => exact (Kd.S_reads' HO_6.out).2.1); (case side3 => exact kV (Kd.S_reads' HO431.out).2.2); (case side4 => exact (Kd.S_reads' HO431.out).2.1); rintro e w75 ⟨rfl, hb⟩; refine ⟨_, rfl, ?_⟩; have n0_ := yD (Kd.S_below (by (with_reducible repeat (first | apply yS | apply yT | apply yU)); exact HO_4.out) hb); have n1_ := yD (Kd.S_below (by (with_reducible repeat (first | apply yS | apply yT | apply yU)); exact HO_6.out) hb); have n2_ := yD (Kd.S_below (by (with_reducible repeat (first | apply yS | apply yT | apply yU)); exact HO_7.out) hb); have n3_ := yD (Kd.S_below (by (with_reducible repeat (first | apply yS | apply yT | apply yU)); exact HO431.out) hb); have n4_ := yD (zC (kB HB) hb); clear HO_4; clear HO_6; clear HO_7; clear HO431; clear HB; have HO_4 := n0_; have HO_6 := n1_; have HO_7 := n2_; have HO431 := n3_; have HB := n4_; clear n0_ n1_ n2_ n3_ n4_; (try clear hb); (try clear hb2); (try clear hk); (try clear hi)))
       go_ret
       exact ⟨by first | rfl | (simp <;> rfl) | (simp [*] <;> rfl), kR1 HB⟩

-- what data that come in are: numbers of their kinds, lengths that a length can be
def okS69 (x : S69) : Prop := (x.f0.length ≤ maxLen ∧ ∀ x_ ∈ x.f0, (Lit.int .i64 x_).wf = true) ∧ (x.f1.length ≤ maxLen ∧ ∀ x_ ∈ x.f1, (Lit.int .i64 x_).wf = true)
/-- THE ONE PURE STATEMENT of laws_FnExactNormalBoxes: ours. -/
def laws_FnExactNormalBoxes.Pure : Prop := ∀ (l0 : List (S69)), (l0.length ≤ maxLen ∧ ∀ x_ ∈ l0, okS69 x_) → ∃ k, laws_FnExactNormalBoxes.f k l0 = some true
theorem laws_FnExactNormalBoxes.walk (P : laws_FnExactNormalBoxes.Pure) (A0 : Option Addr) (c0 : Nat) (l0 : List (S69)) (w : World) (hr0 : Kd.C k69 w A0 l0.length l0) (hc0 : l0.length ≤ c0) (o0 : (l0.length ≤ maxLen ∧ ∀ x_ ∈ l0, okS69 x_)) :
 Calls Try.prog 3 #[.slice A0 l0.length c0] w fun e w' => e = .returned (.bool true) ∧ Below w.heap.size w w' := by
 obtain ⟨k, h⟩ := P l0 o0
 refine (laws_FnExactNormalBoxes.calls k _ _ l0 true w hr0 hc0 h).mono ?_
 rintro e w' ⟨rfl, hd⟩
 exact ⟨rfl, hd⟩

end Go.Proofs.Ytdiaebjbiddefaa.PFnExactNormalBoxes
