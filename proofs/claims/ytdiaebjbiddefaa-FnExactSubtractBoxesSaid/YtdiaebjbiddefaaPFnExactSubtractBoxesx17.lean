/- Each Go function here comes to what the plain function of its name says, where that says something. Made by a program of this session, over the print. -/
import Derived.Test.YtdiaebjbiddefaaPFnExactSubtractBoxesx0
import Derived.Test.YtdiaebjbiddefaaPFnExactSubtractBoxesx1
import Derived.Test.YtdiaebjbiddefaaPFnExactSubtractBoxesx9
import Derived.Test.YtdiaebjbiddefaaPFnExactSubtractBoxesx16
namespace Go.Proofs.Ytdiaebjbiddefaa.PFnExactSubtractBoxes
open Go.RowKit Go.Proofs.YtdiaebjbiddefaaW.PrintWords Go.Proofs.YtdiaebjbiddefaaW.PrintLast Go.Proofs.YtdiaebjbiddefaaW.PrintMore
attribute [local go_sem] max2_int min2_int max_two min_two max_three min_three max_four min_four   -- for this text's walks alone
set_option linter.unusedVariables false
set_option linter.unusedSimpArgs false

/-! ### laws_heldBoxS: function 19 -/
def laws_heldBoxS.l0 : Nat → List (S42) → Int → Int → Option (Int)
 | 0, _, _, _ => none
 | k + 1, x0, x1, x5 => if x5 < (x0.length : Int) then (if 0 ≤ x5 then ((laws_heldInt64S.f k ((rd_T42 x0 x5).f0) x1).bind fun t410 => (if t410 < 0 then (some (-1)) else ((laws_heldInt64S.f k ((rd_T42 x0 x5).f1) t410).bind fun t412 => (if t412 < 0 then (some (-1)) else (laws_heldBoxS.l0 k x0 t412 (wrap64 (x5 + 1))))))) else (none)) else (some x1)
def laws_heldBoxS.f (k : Nat) (l0 : List (S42)) (a1 : Int) : Option (Int) := laws_heldBoxS.l0 k l0 a1 0
theorem laws_heldBoxS.mono_l : ∀ k, (∀ y0 y1 y2, LeO (laws_heldBoxS.l0 k y0 y1 y2) (laws_heldBoxS.l0 (k + 1) y0 y1 y2))
 | 0 => fun _ _ _ r h => by simp [laws_heldBoxS.l0] at h
 | k + 1 => by
  have ih0 := laws_heldBoxS.mono_l k
  · intro y0 y1 y2
    unfold laws_heldBoxS.l0
    repeat' (with_reducible first | exact ih0 _ _ _ | exact laws_heldInt64S.mono _ _ _ | exact LeO.refl _ | exact LeO.none _ | refine LeO.ite ?_ ?_ | refine LeO.bind ?_ (fun _ => ?_))
theorem laws_heldBoxS.mono : ∀ a0 a1 k, LeO (laws_heldBoxS.f k a0 a1) (laws_heldBoxS.f (k + 1) a0 a1) := by
 intro a0 a1 k
 have ih0 := laws_heldBoxS.mono_l k
 unfold laws_heldBoxS.f
 repeat' (with_reducible first | exact ih0 _ _ _ | exact laws_heldInt64S.mono _ _ _ | exact LeO.refl _ | exact LeO.none _ | refine LeO.ite ?_ ?_ | refine LeO.bind ?_ (fun _ => ?_))
set_option maxHeartbeats 8000000 in
set_option maxRecDepth 100000 in
theorem laws_heldBoxS.calls (k : Nat) (A0 : Option Addr) (c0 : Nat) (l0 : List (S42)) (a1 : Int) (r : Int) (w : World) (hr0 : Kd.C k42 w A0 l0.length l0) (hc0 : l0.length ≤ c0) (h : laws_heldBoxS.f k l0 a1 = some r) :
 Calls Try.prog 19 #[.slice A0 l0.length c0, .int .i64 a1] w fun e w' => e = .returned (.int .i64 r) ∧ Drawn0 w w' := by
 have HR0 := yD hr0
 have HC0 := yD hc0
 clear hr0 hc0
 have H : (laws_heldBoxS.l0 k l0 a1 0) = some r := h
 clear h
 have H' := yD H
 clear H; go_enter Try.func19, Try.ntmps19
 go_wp2
 go_loopg [1, 5] k (fun kq v1 v5 w' => ∃ (x1_1 : Int) (x5_1 : Int), v1 = .int .i64 x1_1 ∧ v5 = .int .i64 x5_1 ∧ Aside0 (laws_heldBoxS.l0 kq l0 x1_1 x5_1 = some r) ∧ Aside0 (kq ≤ k) ∧ Drawn0 w w')
 case atStart => exact ⟨(a1), (0), (by first | rfl | (simp; done) | (simp [*]; done)), (by first | rfl | (simp; done) | (simp [*]; done)), H', ⟨Nat.le_refl _⟩, by repeat (first | exact Drawn0.refl _ | apply Drawn0.step)⟩
 case round =>
  clear H'
  try clear c1
  obtain ⟨x1_1, x5_1, rfl, rfl, HA, HK1, ⟨m1, rfl⟩⟩ := hrel
  cases gk with
  | zero => exact absurd HA.out (by simp [laws_heldBoxS.l0])
  | succ k1 =>
   have H := HA.out; clear HA
   simp only [laws_heldBoxS.l0] at H
   by_cases c3 : x5_1 < (l0.length : Int)
   ·
    rw [if_pos c3] at H
    have c3b0 : decide (x5_1 < (l0.length : Int)) = true := zR c3; clear c3
    by_cases c4 : 0 ≤ x5_1
    ·
     rw [if_pos c4] at H
     have c4b0 : decide (0 ≤ x5_1) = true := zR c4; clear c4
     obtain ⟨t410, A50, H⟩ := zW_ H
     replace H : (if t410 < 0 then (some (-1)) else ((laws_heldInt64S.f k1 ((rd_T42 l0 x5_1).f1) t410).bind fun t412 => (if t412 < 0 then (some (-1)) else (laws_heldBoxS.l0 k1 l0 t412 (wrap64 (x5_1 + 1)))))) = some r := H
     have A5 := yD A50
     clear A50
     by_cases c6 : t410 < 0
     ·
      rw [if_pos c6] at H
      have c6b0 : decide (t410 < 0) = true := zR c6; clear c6; obtain rfl := Option.some.inj H
      have p409 : 0 ≤ (x5_1 : Int) := zP (by assumption)
      have q409 : x5_1 < (l0.length : Int) := zP (by assumption)
      obtain ⟨ad409, A409_0, c409_0, A409_1, c409_1, e409, hx409_0, hx409_1, hl409_0, hi409_0, hl409_1, hi409_1⟩ := at_T42 HR0.out x5_1 p409 q409
      cases e409
      have HR409_0 := yD hi409_0
      have HC409_0 := yD hl409_0
      clear hi409_0 hl409_0
      have HR409_1 := yD hi409_1
      have HC409_1 := yD hl409_1
      clear hi409_1 hl409_1; replace p409 := eq_true p409; replace q409 := eq_true q409
      go_wp2_with (first | ((with_reducible refine gate_callee (f := 46) rfl ?_); refine gL 18 Try.func46 #[.slice A409_0 ((rd_T42 l0 x5_1).f0).length c409_0, .int .i64 x1_1] ?_; (with_reducible refine (laws_heldInt64S.calls k1 _ _ ((rd_T42 l0 x5_1).f0) x1_1 t410 _ ?side1 ?side2 A5.out).mono ?_); (case side1 => repeat (first | exact HR409_0.out | (with_reducible first | refine yV ?_ _ | refine yW ?_ _ | refine yX ?_))); (case side2 => exact HC409_0.out); rintro e w' ⟨rfl, ⟨nd, rfl⟩⟩; refine ⟨_, rfl, ?_⟩))
      go_ret
      exact ⟨by first | rfl | (simp; done) | (simp [*]; done), by repeat (first | exact Drawn0.refl _ | apply Drawn0.step)⟩
     ·
      rw [if_neg c6] at H
      have c6b0 : decide (t410 < 0) = false := zS c6; clear c6
      obtain ⟨t412, A70, H⟩ := zW_ H
      replace H : (if t412 < 0 then (some (-1)) else (laws_heldBoxS.l0 k1 l0 t412 (wrap64 (x5_1 + 1)))) = some r := H
      have A7 := yD A70
      clear A70
      by_cases c8 : t412 < 0
      ·
       rw [if_pos c8] at H
       have c8b0 : decide (t412 < 0) = true := zR c8; clear c8; obtain rfl := Option.some.inj H
       have p409 : 0 ≤ (x5_1 : Int) := zP (by assumption)
       have q409 : x5_1 < (l0.length : Int) := zP (by assumption)
       obtain ⟨ad409, A409_0, c409_0, A409_1, c409_1, e409, hx409_0, hx409_1, hl409_0, hi409_0, hl409_1, hi409_1⟩ := at_T42 HR0.out x5_1 p409 q409
       cases e409
       have HR409_0 := yD hi409_0
       have HC409_0 := yD hl409_0
       clear hi409_0 hl409_0
       have HR409_1 := yD hi409_1
       have HC409_1 := yD hl409_1
       clear hi409_1 hl409_1; replace p409 := eq_true p409; replace q409 := eq_true q409
       go_wp2_with (first | ((with_reducible refine gate_callee (f := 46) rfl ?_); refine gL 18 Try.func46 #[.slice A409_0 ((rd_T42 l0 x5_1).f0).length c409_0, .int .i64 x1_1] ?_; (with_reducible refine (laws_heldInt64S.calls k1 _ _ ((rd_T42 l0 x5_1).f0) x1_1 t410 _ ?side1 ?side2 A5.out).mono ?_); (case side1 => repeat (first | exact HR409_0.out | (with_reducible first | refine yV ?_ _ | refine yW ?_ _ | refine yX ?_))); (case side2 => exact HC409_0.out); rintro e w' ⟨rfl, ⟨nd, rfl⟩⟩; refine ⟨_, rfl, ?_⟩; have p411 : 0 ≤ (x5_1 : Int) := zP (by assumption); have q411 : x5_1 < (l0.length : Int) := zP (by assumption); obtain ⟨ad411, A411_0, c411_0, A411_1, c411_1, e411, hx411_0, hx411_1, hl411_0, hi411_0, hl411_1, hi411_1⟩ := at_T42 HR0.out x5_1 p411 q411; obtain rfl : ad409 = ad411 := (by injection e411); have HR411_0 := yD hi411_0; have HC411_0 := yD hl411_0; clear hi411_0 hl411_0; have HR411_1 := yD hi411_1; have HC411_1 := yD hl411_1; clear hi411_1 hl411_1; replace p411 := eq_true p411; replace q411 := eq_true q411; have ea_ := Option.some.inj (hx409_0.symm.trans hx411_0); injection ea_ with ea_ en_ ec_; subst ea_; subst ec_; clear en_; have ea_ := Option.some.inj (hx409_1.symm.trans hx411_1); injection ea_ with ea_ en_ ec_; subst ea_; subst ec_; clear en_) | ((with_reducible refine gate_callee (f := 46) rfl ?_); refine gL 27 Try.func46 #[.slice A409_1 ((rd_T42 l0 x5_1).f1).length c409_1, .int .i64 t410] ?_; (with_reducible refine (laws_heldInt64S.calls k1 _ _ ((rd_T42 l0 x5_1).f1) t410 t412 _ ?side1 ?side2 A7.out).mono ?_); (case side1 => repeat (first | exact HR411_1.out | (with_reducible first | refine yV ?_ _ | refine yW ?_ _ | refine yX ?_))); (case side2 => exact HC411_1.out); rintro e w' ⟨rfl, ⟨nd, rfl⟩⟩; refine ⟨_, rfl, ?_⟩))
       go_ret
       exact ⟨by first | rfl | (simp; done) | (simp [*]; done), by repeat (first | exact Drawn0.refl _ | apply Drawn0.step)⟩
      ·
       rw [if_neg c8] at H
       have c8b0 : decide (t412 < 0) = false := zS c8; clear c8
       have H' := yD H
       clear H
       have p409 : 0 ≤ (x5_1 : Int) := zP (by assumption)
       have q409 : x5_1 < (l0.length : Int) := zP (by assumption)
       obtain ⟨ad409, A409_0, c409_0, A409_1, c409_1, e409, hx409_0, hx409_1, hl409_0, hi409_0, hl409_1, hi409_1⟩ := at_T42 HR0.out x5_1 p409 q409
       cases e409
       have HR409_0 := yD hi409_0
       have HC409_0 := yD hl409_0
       clear hi409_0 hl409_0
       have HR409_1 := yD hi409_1
       have HC409_1 := yD hl409_1
       clear hi409_1 hl409_1; replace p409 := eq_true p409; replace q409 := eq_true q409
       go_wp2_with (first | ((with_reducible refine gate_callee (f := 46) rfl ?_); refine gL 18 Try.func46 #[.slice A409_0 ((rd_T42 l0 x5_1).f0).length c409_0, .int .i64 x1_1] ?_; (with_reducible refine (laws_heldInt64S.calls k1 _ _ ((rd_T42 l0 x5_1).f0) x1_1 t410 _ ?side1 ?side2 A5.out).mono ?_); (case side1 => repeat (first | exact HR409_0.out | (with_reducible first | refine yV ?_ _ | refine yW ?_ _ | refine yX ?_))); (case side2 => exact HC409_0.out); rintro e w' ⟨rfl, ⟨nd, rfl⟩⟩; refine ⟨_, rfl, ?_⟩; have p411 : 0 ≤ (x5_1 : Int) := zP (by assumption); have q411 : x5_1 < (l0.length : Int) := zP (by assumption); obtain ⟨ad411, A411_0, c411_0, A411_1, c411_1, e411, hx411_0, hx411_1, hl411_0, hi411_0, hl411_1, hi411_1⟩ := at_T42 HR0.out x5_1 p411 q411; obtain rfl : ad409 = ad411 := (by injection e411); have HR411_0 := yD hi411_0; have HC411_0 := yD hl411_0; clear hi411_0 hl411_0; have HR411_1 := yD hi411_1; have HC411_1 := yD hl411_1; clear hi411_1 hl411_1; replace p411 := eq_true p411; replace q411 := eq_true q411; have ea_ := Option.some.inj (hx409_0.symm.trans hx411_0); injection ea_ with ea_ en_ ec_; subst ea_; subst ec_; clear en_; have ea_ := Option.some.inj (hx409_1.symm.trans hx411_1); injection ea_ with ea_ en_ ec_; subst ea_; subst ec_; clear en_) | ((with_reducible refine gate_callee (f := 46) rfl ?_); refine gL 27 Try.func46 #[.slice A409_1 ((rd_T42 l0 x5_1).f1).length c409_1, .int .i64 t410] ?_; (with_reducible refine (laws_heldInt64S.calls k1 _ _ ((rd_T42 l0 x5_1).f1) t410 t412 _ ?side1 ?side2 A7.out).mono ?_); (case side1 => repeat (first | exact HR411_1.out | (with_reducible first | refine yV ?_ _ | refine yW ?_ _ | refine yX ?_))); (case side2 => exact HC411_1.out); rintro e w' ⟨rfl, ⟨nd, rfl⟩⟩; refine ⟨_, rfl, ?_⟩))
       go_roundg k1
       case measure => have := HK1.out; omega
       case rel => exact ⟨(t412), (wrap64 (x5_1 + 1)), (by first | rfl | (simp; done) | (simp [*]; done)), (by first | rfl | (simp; done) | (simp [*]; done)), H', ⟨by have := HK1.out; omega⟩, by repeat (first | exact Drawn0.refl _ | apply Drawn0.step)⟩
    · rw [if_neg c4] at H
      exact absurd H (by simp)
   · rw [if_neg c3] at H
     have c3b0 : decide (x5_1 < (l0.length : Int)) = false := zS c3; clear c3; obtain rfl := Option.some.inj H
     go_wp2
     go_ret
     exact ⟨by first | rfl | (simp; done) | (simp [*]; done), by repeat (first | exact Drawn0.refl _ | apply Drawn0.step)⟩

/-! ### laws_FnExactSubtractBoxes: function 6 -/
mutual
def laws_FnExactSubtractBoxes.j0 : Nat → List (S69) → List (S69) → List (S42) → Int → List (S42) → List (S42) → List (S42) → Int → Bool → Option (Bool)
 | 0, _, _, _, _, _, _, _, _, _ => none
 | k + 1, x0, x1, x6, x7, x8, x9, x10, x11, x53 => if x53 = true then (some false) else ((laws_toBoxS.f k x0).bind fun t436 => ((laws_eqBoxS.f k x8 t436).bind fun t439 => (if t439 = true then ((laws_toBoxS.f k x1).bind fun t440 => ((laws_eqBoxS.f k x9 t440).bind fun t443 => (if t443 = true then ((laws_markBoxS.f k x8 1).bind fun bt444 => ((laws_markBoxS.f k x9 bt444.1).bind fun bt446 => (if bt446.1 < 0 then (laws_FnExactSubtractBoxes.j1 k x0 x1 x6 x7 x10 true) else ((laws_eqBoxS.f k x10 x6).bind fun t448 => (if t448 = true then (laws_FnExactSubtractBoxes.j1 k x0 x1 x6 x7 x10 (x11 != x7)) else (laws_FnExactSubtractBoxes.j1 k x0 x1 x6 x7 x10 true)))))) else (some false)))) else (some false))))
def laws_FnExactSubtractBoxes.j1 : Nat → List (S69) → List (S69) → List (S42) → Int → List (S42) → Bool → Option (Bool)
 | 0, _, _, _, _, _, _ => none
 | k + 1, x0, x1, x6, x7, x10, x82 => if x82 = true then (some false) else ((laws_markBoxS.f k x10 1).bind fun bt449 => ((laws_heldBoxS.f k bt449.2 1).bind fun t451 => (if t451 < 0 then (some false) else (if t451 = bt449.1 then ((laws_toBoxS.f k x0).bind fun t452 => ((laws_toBoxS.f k x1).bind fun t455 => ((impl_SubtractBoxes.f k t452 t455).bind fun bt458 => ((laws_eqBoxS.f k bt458.1 x6).bind fun t462 => (if t462 = true then (laws_FnExactSubtractBoxes.j2 k bt449.2 bt449.1 (bt458.2 != x7)) else (laws_FnExactSubtractBoxes.j2 k bt449.2 bt449.1 true)))))) else (some false)))))
def laws_FnExactSubtractBoxes.j2 : Nat → List (S42) → Int → Bool → Option (Bool)
 | 0, _, _, _ => none
 | k + 1, x10, x13, x110 => if x110 = true then (some false) else ((laws_heldBoxS.f k x10 1).bind fun t463 => (if t463 < 0 then (some false) else (if t463 = x13 then (some true) else (some false))))
end
def laws_FnExactSubtractBoxes.f (k : Nat) (l0 : List (S69)) (l1 : List (S69)) : Option (Bool) := (laws_szBoxS.f k l0 1048576).bind fun t413 => (if t413 < 0 then (some true) else ((laws_szBoxS.f k l1 t413).bind fun t414 => (if t414 < 0 then (some true) else ((laws_toBoxS.f k l0).bind fun t415 => ((laws_toBoxS.f k l1).bind fun t418 => ((spec_SubtractBoxes.f k t415 t418).bind fun bt421 => ((laws_toBoxS.f k l0).bind fun t425 => ((laws_toBoxS.f k l1).bind fun t428 => ((impl_SubtractBoxes.f k t425 t428).bind fun bt431 => ((laws_eqBoxS.f k bt431.1 bt421.1).bind fun t435 => (if t435 = true then (laws_FnExactSubtractBoxes.j0 k l0 l1 bt421.1 bt421.2 t425 t428 bt431.1 bt431.2 (bt431.2 != bt421.2)) else (laws_FnExactSubtractBoxes.j0 k l0 l1 bt421.1 bt421.2 t425 t428 bt431.1 bt431.2 true))))))))))))
theorem laws_FnExactSubtractBoxes.mono_l : ∀ k, (∀ y0 y1 y2 y3 y4 y5 y6 y7 y8, LeO (laws_FnExactSubtractBoxes.j0 k y0 y1 y2 y3 y4 y5 y6 y7 y8) (laws_FnExactSubtractBoxes.j0 (k + 1) y0 y1 y2 y3 y4 y5 y6 y7 y8)) ∧ (∀ y0 y1 y2 y3 y4 y5, LeO (laws_FnExactSubtractBoxes.j1 k y0 y1 y2 y3 y4 y5) (laws_FnExactSubtractBoxes.j1 (k + 1) y0 y1 y2 y3 y4 y5)) ∧ (∀ y0 y1 y2, LeO (laws_FnExactSubtractBoxes.j2 k y0 y1 y2) (laws_FnExactSubtractBoxes.j2 (k + 1) y0 y1 y2))
 | 0 => ⟨fun _ _ _ _ _ _ _ _ _ r h => by simp [laws_FnExactSubtractBoxes.j0] at h, fun _ _ _ _ _ _ r h => by simp [laws_FnExactSubtractBoxes.j1] at h, fun _ _ _ r h => by simp [laws_FnExactSubtractBoxes.j2] at h⟩
 | k + 1 => by
  obtain ⟨ih0, ih1, ih2⟩ := laws_FnExactSubtractBoxes.mono_l k
  refine ⟨?_, ?_, ?_⟩
  · intro y0 y1 y2 y3 y4 y5 y6 y7 y8
    unfold laws_FnExactSubtractBoxes.j0
    repeat' (with_reducible first | exact ih0 _ _ _ _ _ _ _ _ _ | exact ih1 _ _ _ _ _ _ | exact ih2 _ _ _ | exact impl_SubtractBoxes.mono _ _ _ | exact laws_eqBoxS.mono _ _ _ | exact laws_heldBoxS.mono _ _ _ | exact laws_markBoxS.mono _ _ _ | exact laws_szBoxS.mono _ _ _ | exact laws_toBoxS.mono _ _ | exact spec_SubtractBoxes.mono _ _ _ | exact LeO.refl _ | exact LeO.none _ | refine LeO.ite ?_ ?_ | refine LeO.bind ?_ (fun _ => ?_))
  · intro y0 y1 y2 y3 y4 y5
    unfold laws_FnExactSubtractBoxes.j1
    repeat' (with_reducible first | exact ih0 _ _ _ _ _ _ _ _ _ | exact ih1 _ _ _ _ _ _ | exact ih2 _ _ _ | exact impl_SubtractBoxes.mono _ _ _ | exact laws_eqBoxS.mono _ _ _ | exact laws_heldBoxS.mono _ _ _ | exact laws_markBoxS.mono _ _ _ | exact laws_szBoxS.mono _ _ _ | exact laws_toBoxS.mono _ _ | exact spec_SubtractBoxes.mono _ _ _ | exact LeO.refl _ | exact LeO.none _ | refine LeO.ite ?_ ?_ | refine LeO.bind ?_ (fun _ => ?_))
  · intro y0 y1 y2
    unfold laws_FnExactSubtractBoxes.j2
    repeat' (with_reducible first | exact ih0 _ _ _ _ _ _ _ _ _ | exact ih1 _ _ _ _ _ _ | exact ih2 _ _ _ | exact impl_SubtractBoxes.mono _ _ _ | exact laws_eqBoxS.mono _ _ _ | exact laws_heldBoxS.mono _ _ _ | exact laws_markBoxS.mono _ _ _ | exact laws_szBoxS.mono _ _ _ | exact laws_toBoxS.mono _ _ | exact spec_SubtractBoxes.mono _ _ _ | exact LeO.refl _ | exact LeO.none _ | refine LeO.ite ?_ ?_ | refine LeO.bind ?_ (fun _ => ?_))
theorem laws_FnExactSubtractBoxes.mono : ∀ a0 a1 k, LeO (laws_FnExactSubtractBoxes.f k a0 a1) (laws_FnExactSubtractBoxes.f (k + 1) a0 a1) := by
 intro a0 a1 k
 obtain ⟨ih0, ih1, ih2⟩ := laws_FnExactSubtractBoxes.mono_l k
 unfold laws_FnExactSubtractBoxes.f
 repeat' (with_reducible first | exact ih0 _ _ _ _ _ _ _ _ _ | exact ih1 _ _ _ _ _ _ | exact ih2 _ _ _ | exact impl_SubtractBoxes.mono _ _ _ | exact laws_eqBoxS.mono _ _ _ | exact laws_heldBoxS.mono _ _ _ | exact laws_markBoxS.mono _ _ _ | exact laws_szBoxS.mono _ _ _ | exact laws_toBoxS.mono _ _ | exact spec_SubtractBoxes.mono _ _ _ | exact LeO.refl _ | exact LeO.none _ | refine LeO.ite ?_ ?_ | refine LeO.bind ?_ (fun _ => ?_))
theorem lo_ex {n : Nat} {W w1 : World} (_ : Below n W w1) : ∃ N, N = n := ⟨n, rfl⟩
theorem S_eldN {α : Type} {d : Kd α} {e base N : Nat} {W w1 : World} {ok : Nat → Prop} {u v : Value} {xs : List α} (hN : N = W.heap.size) (h : Kd.S d e W base ok u xs) (hbase : ∀ k, v.ownBlock = some k → W.heap.size ≤ k) (hb : Below W.heap.size W w1) : Kd.S d e w1 base (fun k => ok k ∧ (some k ≠ v.ownBlock ∧ k < N)) u xs :=
 Kd.S_mono (Kd.S_old h hb) (fun k hk => ⟨hk.1, fun he => by have := hbase k he.symm; have := hk.2; omega, by rw [hN]; exact hk.2⟩)
theorem S_newN {α : Type} {d : Kd α} {e N : Nat} {W w1 : World} {ok : Nat → Prop} {u v : Value} {xs : List α} (hN : N = W.heap.size) (h : Kd.S d e w1 W.heap.size ok v xs) (hlt : ∀ k, u.ownBlock = some k → k < W.heap.size) : Kd.S d e w1 W.heap.size (fun k => ok k ∧ (some k ≠ u.ownBlock ∧ N ≤ k)) v xs :=
 Kd.S_mono (Kd.S_bound h) (fun k hk => ⟨hk.1, fun he => by have := hlt k he.symm; have := hk.2.1; omega, by rw [hN]; exact hk.2.1⟩)
set_option maxHeartbeats 8000000 in
set_option maxRecDepth 100000 in
theorem laws_FnExactSubtractBoxes.calls (k : Nat) (A0 : Option Addr) (c0 : Nat) (l0 : List (S69)) (A1 : Option Addr) (c1 : Nat) (l1 : List (S69)) (r : Bool) (w : World) (hr0 : Kd.C k69 w A0 l0.length l0) (hc0 : l0.length ≤ c0) (hr1 : Kd.C k69 w A1 l1.length l1) (hc1 : l1.length ≤ c1) (h : laws_FnExactSubtractBoxes.f k l0 l1 = some r) :
 Calls Try.prog 6 #[.slice A0 l0.length c0, .slice A1 l1.length c1] w fun e w' => e = .returned (.bool r) ∧ Below w.heap.size w w' := by
 have HR0 := yD hr0
 have HC0 := yD hc0
 clear hr0 hc0
 have HR1 := yD hr1
 have HC1 := yD hc1
 clear hr1 hc1
 have HB := yD (Below.refl w.heap.size w)
 have H : ((laws_szBoxS.f k l0 1048576).bind fun t413 => (if t413 < 0 then (some true) else ((laws_szBoxS.f k l1 t413).bind fun t414 => (if t414 < 0 then (some true) else ((laws_toBoxS.f k l0).bind fun t415 => ((laws_toBoxS.f k l1).bind fun t418 => ((spec_SubtractBoxes.f k t415 t418).bind fun bt421 => ((laws_toBoxS.f k l0).bind fun t425 => ((laws_toBoxS.f k l1).bind fun t428 => ((impl_SubtractBoxes.f k t425 t428).bind fun bt431 => ((laws_eqBoxS.f k bt431.1 bt421.1).bind fun t435 => (if t435 = true then (laws_FnExactSubtractBoxes.j0 k l0 l1 bt421.1 bt421.2 t425 t428 bt431.1 bt431.2 (bt431.2 != bt421.2)) else (laws_FnExactSubtractBoxes.j0 k l0 l1 bt421.1 bt421.2 t425 t428 bt431.1 bt431.2 true))))))))))))) = some r := h
 clear h
 obtain ⟨t413, A30, H⟩ := zW_ H
 replace H : (if t413 < 0 then (some true) else ((laws_szBoxS.f k l1 t413).bind fun t414 => (if t414 < 0 then (some true) else ((laws_toBoxS.f k l0).bind fun t415 => ((laws_toBoxS.f k l1).bind fun t418 => ((spec_SubtractBoxes.f k t415 t418).bind fun bt421 => ((laws_toBoxS.f k l0).bind fun t425 => ((laws_toBoxS.f k l1).bind fun t428 => ((impl_SubtractBoxes.f k t425 t428).bind fun bt431 => ((laws_eqBoxS.f k bt431.1 bt421.1).bind fun t435 => (if t435 = true then (laws_FnExactSubtractBoxes.j0 k l0 l1 bt421.1 bt421.2 t425 t428 bt431.1 bt431.2 (bt431.2 != bt421.2)) else (laws_FnExactSubtractBoxes.j0 k l0 l1 bt421.1 bt421.2 t425 t428 bt431.1 bt431.2 true)))))))))))) = some r := H
 have A3 := yD A30
 clear A30
 by_cases c4 : t413 < 0
 · rw [if_pos c4] at H
   have c4b0 : decide (t413 < 0) = true := zR c4; clear c4; obtain rfl := Option.some.inj H; go_enter Try.func6, Try.ntmps6
   go_wp2_with (first | ((with_reducible refine gate_callee (f := 13) rfl ?_); refine gL 19 Try.func13 #[.slice A0 l0.length c0, .int .i64 1048576] ?_; (with_reducible refine (laws_szBoxS.calls k _ _ l0 1048576 t413 _ ?side1 ?side2 A3.out).mono ?_); (case side1 => repeat (first | exact HR0.out | (with_reducible first | refine yV ?_ _ | refine yW ?_ _ | refine yX ?_))); (case side2 => exact HC0.out); rintro e w5 ⟨rfl, hb⟩; refine ⟨_, rfl, ?_⟩; replace HB := yD (zC (kB HB) hb); clear hb))
   go_ret
   exact ⟨by first | rfl | (simp <;> rfl) | (simp [*] <;> rfl), kR1 HB⟩
 ·
  rw [if_neg c4] at H
  have c4b0 : decide (t413 < 0) = false := zS c4; clear c4
  obtain ⟨t414, A60, H⟩ := zW_ H
  replace H : (if t414 < 0 then (some true) else ((laws_toBoxS.f k l0).bind fun t415 => ((laws_toBoxS.f k l1).bind fun t418 => ((spec_SubtractBoxes.f k t415 t418).bind fun bt421 => ((laws_toBoxS.f k l0).bind fun t425 => ((laws_toBoxS.f k l1).bind fun t428 => ((impl_SubtractBoxes.f k t425 t428).bind fun bt431 => ((laws_eqBoxS.f k bt431.1 bt421.1).bind fun t435 => (if t435 = true then (laws_FnExactSubtractBoxes.j0 k l0 l1 bt421.1 bt421.2 t425 t428 bt431.1 bt431.2 (bt431.2 != bt421.2)) else (laws_FnExactSubtractBoxes.j0 k l0 l1 bt421.1 bt421.2 t425 t428 bt431.1 bt431.2 true)))))))))) = some r := H
  have A6 := yD A60
  clear A60
  by_cases c7 : t414 < 0
  · rw [if_pos c7] at H
    have c7b0 : decide (t414 < 0) = true := zR c7; clear c7; obtain rfl := Option.some.inj H; go_enter Try.func6, Try.ntmps6
    go_wp2_with (first | ((with_reducible refine gate_callee (f := 13) rfl ?_); refine gL 19 Try.func13 #[.slice A0 l0.length c0, .int .i64 1048576] ?_; (with_reducible refine (laws_szBoxS.calls k _ _ l0 1048576 t413 _ ?side1 ?side2 A3.out).mono ?_); (case side1 => repeat (first | exact HR0.out | (with_reducible first | refine yV ?_ _ | refine yW ?_ _ | refine yX ?_))); (case side2 => exact HC0.out); rintro e w8 ⟨rfl, hb⟩; refine ⟨_, rfl, ?_⟩; replace HB := yD (zC (kB HB) hb); clear hb) | ((with_reducible refine gate_callee (f := 13) rfl ?_); refine gL 24 Try.func13 #[.slice A1 l1.length c1, .int .i64 t413] ?_; (with_reducible refine (laws_szBoxS.calls k _ _ l1 t413 t414 _ ?side1 ?side2 A6.out).mono ?_); (case side1 => exact kV (yY HR1.out HB.out)); (case side2 => exact HC1.out); rintro e w9 ⟨rfl, hb⟩; refine ⟨_, rfl, ?_⟩; replace HB := yD (zC (kB HB) hb); clear hb))
    go_ret
    exact ⟨by first | rfl | (simp <;> rfl) | (simp [*] <;> rfl), kR1 HB⟩
  ·
   rw [if_neg c7] at H
   have c7b0 : decide (t414 < 0) = false := zS c7; clear c7
   obtain ⟨t415, A100, H⟩ := zW_ H
   replace H : ((laws_toBoxS.f k l1).bind fun t418 => ((spec_SubtractBoxes.f k t415 t418).bind fun bt421 => ((laws_toBoxS.f k l0).bind fun t425 => ((laws_toBoxS.f k l1).bind fun t428 => ((impl_SubtractBoxes.f k t425 t428).bind fun bt431 => ((laws_eqBoxS.f k bt431.1 bt421.1).bind fun t435 => (if t435 = true then (laws_FnExactSubtractBoxes.j0 k l0 l1 bt421.1 bt421.2 t425 t428 bt431.1 bt431.2 (bt431.2 != bt421.2)) else (laws_FnExactSubtractBoxes.j0 k l0 l1 bt421.1 bt421.2 t425 t428 bt431.1 bt431.2 true)))))))) = some r := H
   have A10 := yD A100
   clear A100
   obtain ⟨t418, A110, H⟩ := zW_ H
   replace H : ((spec_SubtractBoxes.f k t415 t418).bind fun bt421 => ((laws_toBoxS.f k l0).bind fun t425 => ((laws_toBoxS.f k l1).bind fun t428 => ((impl_SubtractBoxes.f k t425 t428).bind fun bt431 => ((laws_eqBoxS.f k bt431.1 bt421.1).bind fun t435 => (if t435 = true then (laws_FnExactSubtractBoxes.j0 k l0 l1 bt421.1 bt421.2 t425 t428 bt431.1 bt431.2 (bt431.2 != bt421.2)) else (laws_FnExactSubtractBoxes.j0 k l0 l1 bt421.1 bt421.2 t425 t428 bt431.1 bt431.2 true))))))) = some r := H
   have A11 := yD A110
   clear A110
   obtain ⟨⟨t421, t422⟩, A120, H⟩ := zW_ H
   replace H : ((laws_toBoxS.f k l0).bind fun t425 => ((laws_toBoxS.f k l1).bind fun t428 => ((impl_SubtractBoxes.f k t425 t428).bind fun bt431 => ((laws_eqBoxS.f k bt431.1 t421).bind fun t435 => (if t435 = true then (laws_FnExactSubtractBoxes.j0 k l0 l1 t421 t422 t425 t428 bt431.1 bt431.2 (bt431.2 != t422)) else (laws_FnExactSubtractBoxes.j0 k l0 l1 t421 t422 t425 t428 bt431.1 bt431.2 true)))))) = some r := H
   have A12 := yD A120
   clear A120
   obtain ⟨t425, A130, H⟩ := zW_ H
   replace H : ((laws_toBoxS.f k l1).bind fun t428 => ((impl_SubtractBoxes.f k t425 t428).bind fun bt431 => ((laws_eqBoxS.f k bt431.1 t421).bind fun t435 => (if t435 = true then (laws_FnExactSubtractBoxes.j0 k l0 l1 t421 t422 t425 t428 bt431.1 bt431.2 (bt431.2 != t422)) else (laws_FnExactSubtractBoxes.j0 k l0 l1 t421 t422 t425 t428 bt431.1 bt431.2 true))))) = some r := H
   have A13 := yD A130
   clear A130
   obtain ⟨t428, A140, H⟩ := zW_ H
   replace H : ((impl_SubtractBoxes.f k t425 t428).bind fun bt431 => ((laws_eqBoxS.f k bt431.1 t421).bind fun t435 => (if t435 = true then (laws_FnExactSubtractBoxes.j0 k l0 l1 t421 t422 t425 t428 bt431.1 bt431.2 (bt431.2 != t422)) else (laws_FnExactSubtractBoxes.j0 k l0 l1 t421 t422 t425 t428 bt431.1 bt431.2 true)))) = some r := H
   have A14 := yD A140
   clear A140
   obtain ⟨⟨t431, t432⟩, A150, H⟩ := zW_ H
   replace H : ((laws_eqBoxS.f k t431 t421).bind fun t435 => (if t435 = true then (laws_FnExactSubtractBoxes.j0 k l0 l1 t421 t422 t425 t428 t431 t432 (t432 != t422)) else (laws_FnExactSubtractBoxes.j0 k l0 l1 t421 t422 t425 t428 t431 t432 true))) = some r := H
   have A15 := yD A150
   clear A150
   have HC16 := yD H
   clear H; go_enter Try.func6, Try.ntmps6
   go_upto_region 12 with (first | ((with_reducible refine gate_callee (f := 13) rfl ?_); refine gL 19 Try.func13 #[.slice A0 l0.length c0, .int .i64 1048576] ?_; (with_reducible refine (laws_szBoxS.calls k _ _ l0 1048576 t413 _ ?side1 ?side2 A3.out).mono ?_); (case side1 => repeat (first | exact HR0.out | (with_reducible first | refine yV ?_ _ | refine yW ?_ _ | refine yX ?_))); (case side2 => exact HC0.out); rintro e w17 ⟨rfl, hb⟩; refine ⟨_, rfl, ?_⟩; replace HB := yD (zC (kB HB) hb); clear hb) | ((with_reducible refine gate_callee (f := 13) rfl ?_); refine gL 24 Try.func13 #[.slice A1 l1.length c1, .int .i64 t413] ?_; (with_reducible refine (laws_szBoxS.calls k _ _ l1 t413 t414 _ ?side1 ?side2 A6.out).mono ?_); (case side1 => exact kV (yY HR1.out HB.out)); (case side2 => exact HC1.out); rintro e w18 ⟨rfl, hb⟩; refine ⟨_, rfl, ?_⟩; replace HB := yD (zC (kB HB) hb); clear hb) | ((with_reducible refine gate_callee (f := 15) rfl ?_); refine gL 29 Try.func15 #[.slice A0 l0.length c0] ?_; (with_reducible refine (laws_toBoxS.calls k _ _ l0 t415 _ ?side1 ?side2 A10.out).mono ?_); (case side1 => exact kV (yY HR0.out HB.out)); (case side2 => exact HC0.out); rintro e w19 ⟨v416, rfl, ho0, hb⟩; refine ⟨_, rfl, ?_⟩; obtain ⟨lo416, hlo416⟩ := lo_ex hb; have HO417 := yD (zG ho0 (below_size (kB HB))); replace HB := yD (zC (kB HB) hb); clear hb ho0) | ((with_reducible refine gate_callee (f := 15) rfl ?_); refine gL 31 Try.func15 #[.slice A1 l1.length c1] ?_; (with_reducible refine (laws_toBoxS.calls k _ _ l1 t418 _ ?side1 ?side2 A11.out).mono ?_); (case side1 => exact kV (yY HR1.out HB.out)); (case side2 => exact HC1.out); rintro e w20 ⟨v419, rfl, ho0, hb⟩; refine ⟨_, rfl, ?_⟩; obtain ⟨lo419, hlo419⟩ := lo_ex hb; have HO420 := yD (zG (S_newN hlo419 ho0 (Kd.S_lt (kS HO417))) (below_size (kB HB))); replace HO417 := yD (S_eldN hlo419 (kS HO417) (Kd.S_base ho0) hb); replace HB := yD (zC (kB HB) hb); clear hb ho0; obtain ⟨Ao21, co21, eo21⟩ := Kd.S_slice HO417.out; subst eo21; obtain ⟨Ao22, co22, eo22⟩ := Kd.S_slice HO420.out; subst eo22) | ((with_reducible refine gate_callee (f := 24) rfl ?_); refine gL 32 Try.func24 #[.slice Ao21 t415.length co21, .slice Ao22 t418.length co22] ?_; (with_reducible refine (spec_SubtractBoxes.calls k _ _ t415 _ _ t418 t421 t422 _ ?side1 ?side2 ?side3 ?side4 A12.out).mono ?_); (case side1 => exact kV (Kd.S_reads' HO417.out).2.2); (case side2 => exact (Kd.S_reads' HO417.out).2.1); (case side3 => exact kV (Kd.S_reads' HO420.out).2.2); (case side4 => exact (Kd.S_reads' HO420.out).2.1); rintro e w23 ⟨v423, rfl, ho0, hb⟩; refine ⟨_, rfl, ?_⟩; obtain ⟨lo423, hlo423⟩ := lo_ex hb; have HO424 := yD (zG (S_newN hlo423 (S_newN hlo423 ho0 (Kd.S_lt (kS HO417))) (Kd.S_lt (kS HO420))) (below_size (kB HB))); replace HO417 := yD (S_eldN hlo423 (kS HO417) (Kd.S_base ho0) hb); replace HO420 := yD (S_eldN hlo423 (kS HO420) (Kd.S_base ho0) hb); replace HB := yD (zC (kB HB) hb); clear hb ho0) | ((with_reducible refine gate_callee (f := 15) rfl ?_); refine gL 36 Try.func15 #[.slice A0 l0.length c0] ?_; (with_reducible refine (laws_toBoxS.calls k _ _ l0 t425 _ ?side1 ?side2 A13.out).mono ?_); (case side1 => exact kV (yY HR0.out HB.out)); (case side2 => exact HC0.out); rintro e w24 ⟨v426, rfl, ho0, hb⟩; refine ⟨_, rfl, ?_⟩; obtain ⟨lo426, hlo426⟩ := lo_ex hb; have HO427 := yD (zG (S_newN hlo426 (S_newN hlo426 (S_newN hlo426 ho0 (Kd.S_lt (kS HO417))) (Kd.S_lt (kS HO420))) (Kd.S_lt (kS HO424))) (below_size (kB HB))); replace HO417 := yD (S_eldN hlo426 (kS HO417) (Kd.S_base ho0) hb); replace HO420 := yD (S_eldN hlo426 (kS HO420) (Kd.S_base ho0) hb); replace HO424 := yD (S_eldN hlo426 (kS HO424) (Kd.S_base ho0) hb); replace HB := yD (zC (kB HB) hb); clear hb ho0) | ((with_reducible refine gate_callee (f := 15) rfl ?_); refine gL 38 Try.func15 #[.slice A1 l1.length c1] ?_; (with_reducible refine (laws_toBoxS.calls k _ _ l1 t428 _ ?side1 ?side2 A14.out).mono ?_); (case side1 => exact kV (yY HR1.out HB.out)); (case side2 => exact HC1.out); rintro e w25 ⟨v429, rfl, ho0, hb⟩; refine ⟨_, rfl, ?_⟩; obtain ⟨lo429, hlo429⟩ := lo_ex hb; have HO430 := yD (zG (S_newN hlo429 (S_newN hlo429 (S_newN hlo429 (S_newN hlo429 ho0 (Kd.S_lt (kS HO417))) (Kd.S_lt (kS HO420))) (Kd.S_lt (kS HO424))) (Kd.S_lt (kS HO427))) (below_size (kB HB))); replace HO417 := yD (S_eldN hlo429 (kS HO417) (Kd.S_base ho0) hb); replace HO420 := yD (S_eldN hlo429 (kS HO420) (Kd.S_base ho0) hb); replace HO424 := yD (S_eldN hlo429 (kS HO424) (Kd.S_base ho0) hb); replace HO427 := yD (S_eldN hlo429 (kS HO427) (Kd.S_base ho0) hb); replace HB := yD (zC (kB HB) hb); clear hb ho0; obtain ⟨Ao26, co26, eo26⟩ := Kd.S_slice HO427.out; subst eo26; obtain ⟨Ao27, co27, eo27⟩ := Kd.S_slice HO430.out; subst eo27) | ((with_reducible refine gate_callee (f := 25) rfl ?_); refine gL 42 Try.func25 #[.slice Ao26 t425.length co26, .slice Ao27 t428.length co27] ?_; (with_reducible refine (impl_SubtractBoxes.calls k _ _ t425 _ _ t428 t431 t432 _ ?side1 ?side2 ?side3 ?side4 A15.out).mono ?_); (case side1 => exact kV (Kd.S_reads' HO427.out).2.2); (case side2 => exact (Kd.S_reads' HO427.out).2.1); (case side3 => exact kV (Kd.S_reads' HO430.out).2.2); (case side4 => exact (Kd.S_reads' HO430.out).2.1); rintro e w28 ⟨v433, rfl, ho0, hb⟩; refine ⟨_, rfl, ?_⟩; obtain ⟨lo433, hlo433⟩ := lo_ex hb; have HO434 := yD (zG (S_newN hlo433 (S_newN hlo433 (S_newN hlo433 (S_newN hlo433 (S_newN hlo433 ho0 (Kd.S_lt (kS HO417))) (Kd.S_lt (kS HO420))) (Kd.S_lt (kS HO424))) (Kd.S_lt (kS HO427))) (Kd.S_lt (kS HO430))) (below_size (kB HB))); replace HO417 := yD (S_eldN hlo433 (kS HO417) (Kd.S_base ho0) hb); replace HO420 := yD (S_eldN hlo433 (kS HO420) (Kd.S_base ho0) hb); replace HO424 := yD (S_eldN hlo433 (kS HO424) (Kd.S_base ho0) hb); replace HO427 := yD (S_eldN hlo433 (kS HO427) (Kd.S_base ho0) hb); replace HO430 := yD (S_eldN hlo433 (kS HO430) (Kd.S_base ho0) hb); replace HB := yD (zC (kB HB) hb); clear hb ho0))
   (try simp only [Act.put, zH, zI, zJ])
   go_cut [53] (fun v53 wc => ∃ (kq : Nat) (x53_15 : Bool), v53 = .bool x53_15 ∧ Aside0 (laws_FnExactSubtractBoxes.j0 kq l0 l1 t421 t422 t425 t428 t431 t432 x53_15 = some r) ∧ Aside0 (kq ≤ k) ∧ Aside0 (Kd.S k42 42 wc w.heap.size (fun k_ => (oB (.slice Ao26 t425.length co26) k_ ∧ k_ < lo426) ∧ (oB (.slice Ao27 t428.length co27) k_ ∧ k_ < lo429) ∧ (oB v433 k_ ∧ k_ < lo433)) v423 t421) ∧ Aside0 (Kd.S k42 42 wc w.heap.size (fun k_ => (oB v423 k_ ∧ lo426 ≤ k_) ∧ (oB (.slice Ao27 t428.length co27) k_ ∧ k_ < lo429) ∧ (oB v433 k_ ∧ k_ < lo433)) (.slice Ao26 t425.length co26) t425) ∧ Aside0 (Kd.S k42 42 wc w.heap.size (fun k_ => (oB v423 k_ ∧ lo429 ≤ k_) ∧ (oB (.slice Ao26 t425.length co26) k_ ∧ lo429 ≤ k_) ∧ (oB v433 k_ ∧ k_ < lo433)) (.slice Ao27 t428.length co27) t428) ∧ Aside0 (Kd.S k42 42 wc w.heap.size (fun k_ => (oB v423 k_ ∧ lo433 ≤ k_) ∧ (oB (.slice Ao26 t425.length co26) k_ ∧ lo433 ≤ k_) ∧ (oB (.slice Ao27 t428.length co27) k_ ∧ lo433 ≤ k_)) v433 t431) ∧ Aside0 (Below w.heap.size w wc))
   case first =>
    have H := HC16.out; clear HC16
    obtain ⟨t435, A290, H⟩ := zW_ H
    replace H : (if t435 = true then (laws_FnExactSubtractBoxes.j0 k l0 l1 t421 t422 t425 t428 t431 t432 (t432 != t422)) else (laws_FnExactSubtractBoxes.j0 k l0 l1 t421 t422 t425 t428 t431 t432 true)) = some r := H
    have A29 := yD A290
    clear A290
    by_cases c30 : t435 = true
    ·
     subst c30
     replace H : (laws_FnExactSubtractBoxes.j0 k l0 l1 t421 t422 t425 t428 t431 t432 (t432 != t422)) = some r := (by rw [if_pos rfl] at H; exact H)
     have H' := yD H
     clear H
     obtain ⟨Ao31, co31, eo31⟩ := Kd.S_slice HO434.out
     subst eo31
     obtain ⟨Ao32, co32, eo32⟩ := Kd.S_slice HO424.out
     subst eo32
     go_wp2_with (first | ((with_reducible refine gate_callee (f := 17) rfl ?_); refine gL 47 Try.func17 #[.slice Ao31 t431.length co31, .slice Ao32 t421.length co32] ?_; (with_reducible refine (laws_eqBoxS.calls k _ _ t431 _ _ t421 true _ ?side1 ?side2 ?side3 ?side4 A29.out).mono ?_); (case side1 => exact kV (Kd.S_reads' HO434.out).2.2); (case side2 => exact (Kd.S_reads' HO434.out).2.1); (case side3 => exact kV (Kd.S_reads' HO424.out).2.2); (case side4 => exact (Kd.S_reads' HO424.out).2.1); rintro e w33 ⟨rfl, hb⟩; refine ⟨_, rfl, ?_⟩; replace HO417 := yD (Kd.S_below (kS HO417) hb); replace HO420 := yD (Kd.S_below (kS HO420) hb); replace HO424 := yD (Kd.S_below (kS HO424) hb); replace HO427 := yD (Kd.S_below (kS HO427) hb); replace HO430 := yD (Kd.S_below (kS HO430) hb); replace HO434 := yD (Kd.S_below (kS HO434) hb); replace HB := yD (zC (kB HB) hb); clear hb))
     go_meet
     case rel => exact ⟨_, ((t432 != t422)), (by first | rfl | (simp; done) | (simp [*]; done)), H', ⟨by first | omega | exact Nat.le_refl _⟩, ⟨mS HO424 (fun _ hk => ⟨hk.1.1.2, ⟨hk.1.2, hk.2⟩⟩)⟩, ⟨mS HO427 (fun _ hk => ⟨hk.1.1.2, ⟨hk.1.2, hk.2⟩⟩)⟩, ⟨mS HO430 (fun _ hk => ⟨hk.1.1.2, ⟨hk.1.2, hk.2⟩⟩)⟩, ⟨mS HO434 (fun _ hk => ⟨hk.1.1.2, ⟨hk.1.2, hk.2⟩⟩)⟩, ⟨kR1 HB⟩⟩
    ·
     replace c30 := Bool.eq_false_iff.mpr c30
     subst c30
     replace H : (laws_FnExactSubtractBoxes.j0 k l0 l1 t421 t422 t425 t428 t431 t432 true) = some r := (by rw [if_neg (show ¬ (false = true) by decide)] at H; exact H)
     have H' := yD H
     clear H
     obtain ⟨Ao34, co34, eo34⟩ := Kd.S_slice HO434.out
     subst eo34
     obtain ⟨Ao35, co35, eo35⟩ := Kd.S_slice HO424.out
     subst eo35
     go_wp2_with (first | ((with_reducible refine gate_callee (f := 17) rfl ?_); refine gL 47 Try.func17 #[.slice Ao34 t431.length co34, .slice Ao35 t421.length co35] ?_; (with_reducible refine (laws_eqBoxS.calls k _ _ t431 _ _ t421 false _ ?side1 ?side2 ?side3 ?side4 A29.out).mono ?_); (case side1 => exact kV (Kd.S_reads' HO434.out).2.2); (case side2 => exact (Kd.S_reads' HO434.out).2.1); (case side3 => exact kV (Kd.S_reads' HO424.out).2.2); (case side4 => exact (Kd.S_reads' HO424.out).2.1); rintro e w36 ⟨rfl, hb⟩; refine ⟨_, rfl, ?_⟩; replace HO417 := yD (Kd.S_below (kS HO417) hb); replace HO420 := yD (Kd.S_below (kS HO420) hb); replace HO424 := yD (Kd.S_below (kS HO424) hb); replace HO427 := yD (Kd.S_below (kS HO427) hb); replace HO430 := yD (Kd.S_below (kS HO430) hb); replace HO434 := yD (Kd.S_below (kS HO434) hb); replace HB := yD (zC (kB HB) hb); clear hb))
     go_meet
     case rel => exact ⟨_, (true), (by first | rfl | (simp; done) | (simp [*]; done)), H', ⟨by first | omega | exact Nat.le_refl _⟩, ⟨mS HO424 (fun _ hk => ⟨hk.1.1.2, ⟨hk.1.2, hk.2⟩⟩)⟩, ⟨mS HO427 (fun _ hk => ⟨hk.1.1.2, ⟨hk.1.2, hk.2⟩⟩)⟩, ⟨mS HO430 (fun _ hk => ⟨hk.1.1.2, ⟨hk.1.2, hk.2⟩⟩)⟩, ⟨mS HO434 (fun _ hk => ⟨hk.1.1.2, ⟨hk.1.2, hk.2⟩⟩)⟩, ⟨kR1 HB⟩⟩
   case rest =>
    clear HC16; try clear c1; try clear c4; try clear c4b0; try clear c7; try clear c7b0; try clear c30
    obtain ⟨kq, x53_15, rfl, HA, HJ15, HO_6, HO_8, HO_9, HO_10, HB⟩ := hcut
    cases kq with
    | zero => exact absurd HA.out (by simp [laws_FnExactSubtractBoxes.j0])
    | succ kj15 =>
     have H := HA.out; clear HA
     simp only [laws_FnExactSubtractBoxes.j0] at H
     by_cases c37 : x53_15 = true
     · subst c37
       replace H : (some false) = some r := (by rw [if_pos rfl] at H; exact H); obtain rfl := Option.some.inj H
       go_wp2
       go_ret
       exact ⟨by first | rfl | (simp <;> rfl) | (simp [*] <;> rfl), kR1 HB⟩
     ·
      replace c37 := Bool.eq_false_iff.mpr c37
      subst c37
      replace H : ((laws_toBoxS.f kj15 l0).bind fun t436 => ((laws_eqBoxS.f kj15 t425 t436).bind fun t439 => (if t439 = true then ((laws_toBoxS.f kj15 l1).bind fun t440 => ((laws_eqBoxS.f kj15 t428 t440).bind fun t443 => (if t443 = true then ((laws_markBoxS.f kj15 t425 1).bind fun bt444 => ((laws_markBoxS.f kj15 t428 bt444.1).bind fun bt446 => (if bt446.1 < 0 then (laws_FnExactSubtractBoxes.j1 kj15 l0 l1 t421 t422 t431 true) else ((laws_eqBoxS.f kj15 t431 t421).bind fun t448 => (if t448 = true then (laws_FnExactSubtractBoxes.j1 kj15 l0 l1 t421 t422 t431 (t432 != t422)) else (laws_FnExactSubtractBoxes.j1 kj15 l0 l1 t421 t422 t431 true)))))) else (some false)))) else (some false)))) = some r := (by rw [if_neg (show ¬ (false = true) by decide)] at H; exact H)
      obtain ⟨t436, A380, H⟩ := zW_ H
      replace H : ((laws_eqBoxS.f kj15 t425 t436).bind fun t439 => (if t439 = true then ((laws_toBoxS.f kj15 l1).bind fun t440 => ((laws_eqBoxS.f kj15 t428 t440).bind fun t443 => (if t443 = true then ((laws_markBoxS.f kj15 t425 1).bind fun bt444 => ((laws_markBoxS.f kj15 t428 bt444.1).bind fun bt446 => (if bt446.1 < 0 then (laws_FnExactSubtractBoxes.j1 kj15 l0 l1 t421 t422 t431 true) else ((laws_eqBoxS.f kj15 t431 t421).bind fun t448 => (if t448 = true then (laws_FnExactSubtractBoxes.j1 kj15 l0 l1 t421 t422 t431 (t432 != t422)) else (laws_FnExactSubtractBoxes.j1 kj15 l0 l1 t421 t422 t431 true)))))) else (some false)))) else (some false))) = some r := H
      have A38 := yD A380
      clear A380
      obtain ⟨t439, A390, H⟩ := zW_ H
      replace H : (if t439 = true then ((laws_toBoxS.f kj15 l1).bind fun t440 => ((laws_eqBoxS.f kj15 t428 t440).bind fun t443 => (if t443 = true then ((laws_markBoxS.f kj15 t425 1).bind fun bt444 => ((laws_markBoxS.f kj15 t428 bt444.1).bind fun bt446 => (if bt446.1 < 0 then (laws_FnExactSubtractBoxes.j1 kj15 l0 l1 t421 t422 t431 true) else ((laws_eqBoxS.f kj15 t431 t421).bind fun t448 => (if t448 = true then (laws_FnExactSubtractBoxes.j1 kj15 l0 l1 t421 t422 t431 (t432 != t422)) else (laws_FnExactSubtractBoxes.j1 kj15 l0 l1 t421 t422 t431 true)))))) else (some false)))) else (some false)) = some r := H
      have A39 := yD A390
      clear A390
      by_cases c40 : t439 = true
      ·
       subst c40
       replace H : ((laws_toBoxS.f kj15 l1).bind fun t440 => ((laws_eqBoxS.f kj15 t428 t440).bind fun t443 => (if t443 = true then ((laws_markBoxS.f kj15 t425 1).bind fun bt444 => ((laws_markBoxS.f kj15 t428 bt444.1).bind fun bt446 => (if bt446.1 < 0 then (laws_FnExactSubtractBoxes.j1 kj15 l0 l1 t421 t422 t431 true) else ((laws_eqBoxS.f kj15 t431 t421).bind fun t448 => (if t448 = true then (laws_FnExactSubtractBoxes.j1 kj15 l0 l1 t421 t422 t431 (t432 != t422)) else (laws_FnExactSubtractBoxes.j1 kj15 l0 l1 t421 t422 t431 true)))))) else (some false)))) = some r := (by rw [if_pos rfl] at H; exact H)
       obtain ⟨t440, A410, H⟩ := zW_ H
       replace H : ((laws_eqBoxS.f kj15 t428 t440).bind fun t443 => (if t443 = true then ((laws_markBoxS.f kj15 t425 1).bind fun bt444 => ((laws_markBoxS.f kj15 t428 bt444.1).bind fun bt446 => (if bt446.1 < 0 then (laws_FnExactSubtractBoxes.j1 kj15 l0 l1 t421 t422 t431 true) else ((laws_eqBoxS.f kj15 t431 t421).bind fun t448 => (if t448 = true then (laws_FnExactSubtractBoxes.j1 kj15 l0 l1 t421 t422 t431 (t432 != t422)) else (laws_FnExactSubtractBoxes.j1 kj15 l0 l1 t421 t422 t431 true)))))) else (some false))) = some r := H
       have A41 := yD A410
       clear A410
       obtain ⟨t443, A420, H⟩ := zW_ H
       replace H : (if t443 = true then ((laws_markBoxS.f kj15 t425 1).bind fun bt444 => ((laws_markBoxS.f kj15 t428 bt444.1).bind fun bt446 => (if bt446.1 < 0 then (laws_FnExactSubtractBoxes.j1 kj15 l0 l1 t421 t422 t431 true) else ((laws_eqBoxS.f kj15 t431 t421).bind fun t448 => (if t448 = true then (laws_FnExactSubtractBoxes.j1 kj15 l0 l1 t421 t422 t431 (t432 != t422)) else (laws_FnExactSubtractBoxes.j1 kj15 l0 l1 t421 t422 t431 true)))))) else (some false)) = some r := H
       have A42 := yD A420
       clear A420
       by_cases c43 : t443 = true
       ·
        subst c43
        replace H : ((laws_markBoxS.f kj15 t425 1).bind fun bt444 => ((laws_markBoxS.f kj15 t428 bt444.1).bind fun bt446 => (if bt446.1 < 0 then (laws_FnExactSubtractBoxes.j1 kj15 l0 l1 t421 t422 t431 true) else ((laws_eqBoxS.f kj15 t431 t421).bind fun t448 => (if t448 = true then (laws_FnExactSubtractBoxes.j1 kj15 l0 l1 t421 t422 t431 (t432 != t422)) else (laws_FnExactSubtractBoxes.j1 kj15 l0 l1 t421 t422 t431 true)))))) = some r := (by rw [if_pos rfl] at H; exact H)
        obtain ⟨⟨t444, t445⟩, A440, H⟩ := zW_ H
        replace H : ((laws_markBoxS.f kj15 t428 t444).bind fun bt446 => (if bt446.1 < 0 then (laws_FnExactSubtractBoxes.j1 kj15 l0 l1 t421 t422 t431 true) else ((laws_eqBoxS.f kj15 t431 t421).bind fun t448 => (if t448 = true then (laws_FnExactSubtractBoxes.j1 kj15 l0 l1 t421 t422 t431 (t432 != t422)) else (laws_FnExactSubtractBoxes.j1 kj15 l0 l1 t421 t422 t431 true))))) = some r := H
        have A44 := yD A440
        clear A440
        obtain ⟨⟨t446, t447⟩, A450, H⟩ := zW_ H
        replace H : (if t446 < 0 then (laws_FnExactSubtractBoxes.j1 kj15 l0 l1 t421 t422 t431 true) else ((laws_eqBoxS.f kj15 t431 t421).bind fun t448 => (if t448 = true then (laws_FnExactSubtractBoxes.j1 kj15 l0 l1 t421 t422 t431 (t432 != t422)) else (laws_FnExactSubtractBoxes.j1 kj15 l0 l1 t421 t422 t431 true)))) = some r := H
        have A45 := yD A450
        clear A450
        have HC46 := yD H
        clear H
        go_upto_region 21 with (first | ((with_reducible refine gate_callee (f := 15) rfl ?_); refine gL 56 Try.func15 #[.slice A0 l0.length c0] ?_; (with_reducible refine (laws_toBoxS.calls kj15 _ _ l0 t436 _ ?side1 ?side2 A38.out).mono ?_); (case side1 => exact kV (yY HR0.out HB.out)); (case side2 => exact HC0.out); rintro e w47 ⟨v437, rfl, ho0, hb⟩; refine ⟨_, rfl, ?_⟩; obtain ⟨lo437, hlo437⟩ := lo_ex hb; have HO438 := yD (zG (S_newN hlo437 (S_newN hlo437 (S_newN hlo437 (S_newN hlo437 ho0 (Kd.S_lt (kS HO_6))) (Kd.S_lt (kS HO_8))) (Kd.S_lt (kS HO_9))) (Kd.S_lt (kS HO_10))) (below_size (kB HB))); replace HO_6 := yD (S_eldN hlo437 (kS HO_6) (Kd.S_base ho0) hb); replace HO_8 := yD (S_eldN hlo437 (kS HO_8) (Kd.S_base ho0) hb); replace HO_9 := yD (S_eldN hlo437 (kS HO_9) (Kd.S_base ho0) hb); replace HO_10 := yD (S_eldN hlo437 (kS HO_10) (Kd.S_base ho0) hb); replace HB := yD (zC (kB HB) hb); clear hb ho0; obtain ⟨Ao48, co48, eo48⟩ := Kd.S_slice HO438.out; subst eo48) | ((with_reducible refine gate_callee (f := 17) rfl ?_); refine gL 57 Try.func17 #[.slice Ao26 t425.length co26, .slice Ao48 t436.length co48] ?_; (with_reducible refine (laws_eqBoxS.calls kj15 _ _ t425 _ _ t436 true _ ?side1 ?side2 ?side3 ?side4 A39.out).mono ?_); (case side1 => exact kV (Kd.S_reads' HO_8.out).2.2); (case side2 => exact (Kd.S_reads' HO_8.out).2.1); (case side3 => exact kV (Kd.S_reads' HO438.out).2.2); (case side4 => exact (Kd.S_reads' HO438.out).2.1); rintro e w49 ⟨rfl, hb⟩; refine ⟨_, rfl, ?_⟩; replace HO_6 := yD (Kd.S_below (kS HO_6) hb); replace HO_8 := yD (Kd.S_below (kS HO_8) hb); replace HO_9 := yD (Kd.S_below (kS HO_9) hb); replace HO_10 := yD (Kd.S_below (kS HO_10) hb); replace HO438 := yD (Kd.S_below (kS HO438) hb); replace HB := yD (zC (kB HB) hb); clear hb) | ((with_reducible refine gate_callee (f := 15) rfl ?_); refine gL 61 Try.func15 #[.slice A1 l1.length c1] ?_; (with_reducible refine (laws_toBoxS.calls kj15 _ _ l1 t440 _ ?side1 ?side2 A41.out).mono ?_); (case side1 => exact kV (yY HR1.out HB.out)); (case side2 => exact HC1.out); rintro e w50 ⟨v441, rfl, ho0, hb⟩; refine ⟨_, rfl, ?_⟩; obtain ⟨lo441, hlo441⟩ := lo_ex hb; have HO442 := yD (zG (S_newN hlo441 (S_newN hlo441 (S_newN hlo441 (S_newN hlo441 (S_newN hlo441 ho0 (Kd.S_lt (kS HO_6))) (Kd.S_lt (kS HO_8))) (Kd.S_lt (kS HO_9))) (Kd.S_lt (kS HO_10))) (Kd.S_lt (kS HO438))) (below_size (kB HB))); replace HO_6 := yD (S_eldN hlo441 (kS HO_6) (Kd.S_base ho0) hb); replace HO_8 := yD (S_eldN hlo441 (kS HO_8) (Kd.S_base ho0) hb); replace HO_9 := yD (S_eldN hlo441 (kS HO_9) (Kd.S_base ho0) hb); replace HO_10 := yD (S_eldN hlo441 (kS HO_10) (Kd.S_base ho0) hb); replace HO438 := yD (S_eldN hlo441 (kS HO438) (Kd.S_base ho0) hb); replace HB := yD (zC (kB HB) hb); clear hb ho0; obtain ⟨Ao51, co51, eo51⟩ := Kd.S_slice HO442.out; subst eo51) | ((with_reducible refine gate_callee (f := 17) rfl ?_); refine gL 62 Try.func17 #[.slice Ao27 t428.length co27, .slice Ao51 t440.length co51] ?_; (with_reducible refine (laws_eqBoxS.calls kj15 _ _ t428 _ _ t440 true _ ?side1 ?side2 ?side3 ?side4 A42.out).mono ?_); (case side1 => exact kV (Kd.S_reads' HO_9.out).2.2); (case side2 => exact (Kd.S_reads' HO_9.out).2.1); (case side3 => exact kV (Kd.S_reads' HO442.out).2.2); (case side4 => exact (Kd.S_reads' HO442.out).2.1); rintro e w52 ⟨rfl, hb⟩; refine ⟨_, rfl, ?_⟩; replace HO_6 := yD (Kd.S_below (kS HO_6) hb); replace HO_8 := yD (Kd.S_below (kS HO_8) hb); replace HO_9 := yD (Kd.S_below (kS HO_9) hb); replace HO_10 := yD (Kd.S_below (kS HO_10) hb); replace HO438 := yD (Kd.S_below (kS HO438) hb); replace HO442 := yD (Kd.S_below (kS HO442) hb); replace HB := yD (zC (kB HB) hb); clear hb) | ((with_reducible refine gate_callee (f := 18) rfl ?_); refine gL 66 Try.func18 #[.slice Ao26 t425.length co26, .int .i64 1] ?_; (with_reducible refine (laws_markBoxS.calls kj15 ?P5_2 (.slice Ao26 t425.length co26) t425 1 t444 t445 w _ ?side1 ?side2 A44.out).mono ?_); (case side1 => exact kR1 HB); (case side2 => exact HO_8.out); rintro e w53 ⟨rfl, hy0, hb, hkp⟩; refine ⟨_, rfl, ?_⟩; replace HO_6 := yD (Kd.S_mono (ok' := fun k_ => (oB (.slice Ao26 t425.length co26) k_ ∧ k_ < lo426) ∧ (oB (.slice Ao27 t428.length co27) k_ ∧ k_ < lo429) ∧ (oB v433 k_ ∧ k_ < lo433) ∧ (oB (.slice Ao48 t436.length co48) k_ ∧ k_ < lo437) ∧ (oB (.slice Ao51 t440.length co51) k_ ∧ k_ < lo441)) (Kd.S_keptB (HO_6.out) hkp (fun k_ hk_ hs_ => (fun hq_ => by have h1_ := (hk_.1.1.1).2; have h2_ := (hq_.1.1.1).2; omega) hs_)) (fun k_ hk_ => ⟨hk_.1.1.1.1, hk_.1.1.1.2.1, hk_.1.1.1.2.2, hk_.1.1.2, hk_.1.2⟩)); replace HO_8 := yD (hy0); replace HO_9 := yD (Kd.S_mono (ok' := fun k_ => (oB v423 k_ ∧ lo429 ≤ k_) ∧ (oB (.slice Ao26 t425.length co26) k_ ∧ lo429 ≤ k_) ∧ (oB v433 k_ ∧ k_ < lo433) ∧ (oB (.slice Ao48 t436.length co48) k_ ∧ k_ < lo437) ∧ (oB (.slice Ao51 t440.length co51) k_ ∧ k_ < lo441)) (Kd.S_keptB (HO_9.out) hkp (fun k_ hk_ hs_ => (fun hq_ => by have h1_ := (hk_.1.1.2.1).2; have h2_ := (hq_.1.1.2.1).2; omega) hs_)) (fun k_ hk_ => ⟨hk_.1.1.1.1, hk_.1.1.1.2.1, hk_.1.1.1.2.2, hk_.1.1.2, hk_.1.2⟩)); replace HO_10 := yD (Kd.S_mono (ok' := fun k_ => (oB v423 k_ ∧ lo433 ≤ k_) ∧ (oB (.slice Ao26 t425.length co26) k_ ∧ lo433 ≤ k_) ∧ (oB (.slice Ao27 t428.length co27) k_ ∧ lo433 ≤ k_) ∧ (oB (.slice Ao48 t436.length co48) k_ ∧ k_ < lo437) ∧ (oB (.slice Ao51 t440.length co51) k_ ∧ k_ < lo441)) (Kd.S_keptB (HO_10.out) hkp (fun k_ hk_ hs_ => (fun hq_ => by have h1_ := (hk_.1.1.2.1).2; have h2_ := (hq_.1.1.2.2).2; omega) hs_)) (fun k_ hk_ => ⟨hk_.1.1.1.1, hk_.1.1.1.2.1, hk_.1.1.1.2.2, hk_.1.1.2, hk_.1.2⟩)); replace HO438 := yD (Kd.S_mono (ok' := fun k_ => (oB v423 k_ ∧ lo437 ≤ k_) ∧ (oB (.slice Ao26 t425.length co26) k_ ∧ lo437 ≤ k_) ∧ (oB (.slice Ao27 t428.length co27) k_ ∧ lo437 ≤ k_) ∧ (oB v433 k_ ∧ lo437 ≤ k_) ∧ (oB (.slice Ao51 t440.length co51) k_ ∧ k_ < lo441)) (Kd.S_keptB (HO438.out) hkp (fun k_ hk_ hs_ => (fun hq_ => by have h1_ := (hk_.1.1.1.2).2; have h2_ := (hq_.1.2).2; omega) hs_)) (fun k_ hk_ => ⟨hk_.1.1.1.1.1.2, hk_.1.1.1.1.2, hk_.1.1.1.2, hk_.1.1.2, hk_.1.2⟩)); replace HO442 := yD (Kd.S_mono (ok' := fun k_ => (oB v423 k_ ∧ lo441 ≤ k_) ∧ (oB (.slice Ao26 t425.length co26) k_ ∧ lo441 ≤ k_) ∧ (oB (.slice Ao27 t428.length co27) k_ ∧ lo441 ≤ k_) ∧ (oB v433 k_ ∧ lo441 ≤ k_) ∧ (oB (.slice Ao48 t436.length co48) k_ ∧ lo441 ≤ k_)) (Kd.S_keptB (HO442.out) hkp (fun k_ hk_ hs_ => (fun hq_ => by have h1_ := (hk_.1.1.1.2).2; have h2_ := (hq_.2).2; omega) hs_)) (fun k_ hk_ => ⟨hk_.1.1.1.1.1.2, hk_.1.1.1.1.2, hk_.1.1.1.2, hk_.1.1.2, hk_.1.2⟩)); replace HB := yD (hb); clear hb hkp hy0) | ((with_reducible refine gate_callee (f := 18) rfl ?_); refine gL 69 Try.func18 #[.slice Ao27 t428.length co27, .int .i64 t444] ?_; (with_reducible refine (laws_markBoxS.calls kj15 ?P5_3 (.slice Ao27 t428.length co27) t428 t444 t446 t447 w _ ?side1 ?side2 A45.out).mono ?_); (case side1 => exact kR1 HB); (case side2 => exact HO_9.out); rintro e w54 ⟨rfl, hy0, hb, hkp⟩; refine ⟨_, rfl, ?_⟩; replace HO_6 := yD (Kd.S_mono (ok' := fun k_ => (oB (.slice Ao26 t425.length co26) k_ ∧ k_ < lo426) ∧ (oB (.slice Ao27 t428.length co27) k_ ∧ k_ < lo429) ∧ (oB v433 k_ ∧ k_ < lo433) ∧ (oB (.slice Ao48 t436.length co48) k_ ∧ k_ < lo437) ∧ (oB (.slice Ao51 t440.length co51) k_ ∧ k_ < lo441)) (Kd.S_keptB (HO_6.out) hkp (fun k_ hk_ hs_ => (fun hq_ => by have h1_ := (hk_.2.1).2; have h2_ := (hq_.1).2; omega) hs_)) (fun k_ hk_ => ⟨hk_.1.1, hk_.1.2.1, hk_.1.2.2.1, hk_.1.2.2.2.1, hk_.1.2.2.2.2⟩)); replace HO_8 := yD (Kd.S_mono (ok' := fun k_ => (oB v423 k_ ∧ lo426 ≤ k_) ∧ (oB (.slice Ao27 t428.length co27) k_ ∧ k_ < lo429) ∧ (oB v433 k_ ∧ k_ < lo433) ∧ (oB (.slice Ao48 t436.length co48) k_ ∧ k_ < lo437) ∧ (oB (.slice Ao51 t440.length co51) k_ ∧ k_ < lo441)) (Kd.S_keptB (HO_8.out) hkp (fun k_ hk_ hs_ => (fun hq_ => by have h1_ := (hk_.1.1.2.1).2; have h2_ := (hq_.2.1).2; omega) hs_)) (fun k_ hk_ => ⟨hk_.1.1.1.1, hk_.1.1.1.2.1, hk_.1.1.1.2.2, hk_.1.1.2, hk_.1.2⟩)); replace HO_9 := yD (hy0); replace HO_10 := yD (Kd.S_mono (ok' := fun k_ => (oB v423 k_ ∧ lo433 ≤ k_) ∧ (oB (.slice Ao26 t425.length co26) k_ ∧ lo433 ≤ k_) ∧ (oB (.slice Ao27 t428.length co27) k_ ∧ lo433 ≤ k_) ∧ (oB (.slice Ao48 t436.length co48) k_ ∧ k_ < lo437) ∧ (oB (.slice Ao51 t440.length co51) k_ ∧ k_ < lo441)) (Kd.S_keptB (HO_10.out) hkp (fun k_ hk_ hs_ => (fun hq_ => by have h1_ := (hk_.2.2.1).2; have h2_ := (hq_.2.2.1).2; omega) hs_)) (fun k_ hk_ => ⟨hk_.1.1, hk_.1.2.1, hk_.1.2.2.1, hk_.1.2.2.2.1, hk_.1.2.2.2.2⟩)); replace HO438 := yD (Kd.S_mono (ok' := fun k_ => (oB v423 k_ ∧ lo437 ≤ k_) ∧ (oB (.slice Ao26 t425.length co26) k_ ∧ lo437 ≤ k_) ∧ (oB (.slice Ao27 t428.length co27) k_ ∧ lo437 ≤ k_) ∧ (oB v433 k_ ∧ lo437 ≤ k_) ∧ (oB (.slice Ao51 t440.length co51) k_ ∧ k_ < lo441)) (Kd.S_keptB (HO438.out) hkp (fun k_ hk_ hs_ => (fun hq_ => by have h1_ := (hk_.2.2.1).2; have h2_ := (hq_.2.2.2.1).2; omega) hs_)) (fun k_ hk_ => ⟨hk_.1.1, hk_.1.2.1, hk_.1.2.2.1, hk_.1.2.2.2.1, hk_.1.2.2.2.2⟩)); replace HO442 := yD (Kd.S_mono (ok' := fun k_ => (oB v423 k_ ∧ lo441 ≤ k_) ∧ (oB (.slice Ao26 t425.length co26) k_ ∧ lo441 ≤ k_) ∧ (oB (.slice Ao27 t428.length co27) k_ ∧ lo441 ≤ k_) ∧ (oB v433 k_ ∧ lo441 ≤ k_) ∧ (oB (.slice Ao48 t436.length co48) k_ ∧ lo441 ≤ k_)) (Kd.S_keptB (HO442.out) hkp (fun k_ hk_ hs_ => (fun hq_ => by have h1_ := (hk_.2.2.1).2; have h2_ := (hq_.2.2.2.2).2; omega) hs_)) (fun k_ hk_ => ⟨hk_.1.1, hk_.1.2.1, hk_.1.2.2.1, hk_.1.2.2.2.1, hk_.1.2.2.2.2⟩)); replace HB := yD (hb); clear hb hkp hy0))
        (try simp only [Act.put, zH, zI, zJ])
        go_cut [82] (fun v82 wc => ∃ (kq : Nat) (x82_45 : Bool), v82 = .bool x82_45 ∧ Aside0 (laws_FnExactSubtractBoxes.j1 kq l0 l1 t421 t422 t431 x82_45 = some r) ∧ Aside0 (kq ≤ kj15) ∧ Aside0 (Kd.S k42 42 wc w.heap.size (fun k_ => (oB v433 k_ ∧ k_ < lo433)) v423 t421) ∧ Aside0 (Kd.S k42 42 wc w.heap.size (fun k_ => (oB v423 k_ ∧ lo433 ≤ k_)) v433 t431) ∧ Aside0 (Below w.heap.size w wc))
        case first =>
         have H := HC46.out; clear HC46
         by_cases c55 : t446 < 0
         · rw [if_pos c55] at H
           have c55b0 : decide (t446 < 0) = true := zR c55; clear c55
           (first | rw [c55b0] | (simp only [i64_w, i32_w]; rw [c55b0]) | (simp only [bne] at c55b0; rw [c55b0]) | skip)
           have H' := yD H
           clear H
           go_wp2
           go_meet
           case rel => exact ⟨_, (true), (by first | rfl | (simp; done) | (simp [*]; done)), H', ⟨by have := HJ15.out; first | omega | exact Nat.le_refl _⟩, ⟨mS HO_6 (fun _ hk => hk.2.2.1)⟩, ⟨mS HO_10 (fun _ hk => hk.1)⟩, ⟨kR1 HB⟩⟩
         ·
          rw [if_neg c55] at H
          have c55b0 : decide (t446 < 0) = false := zS c55; clear c55
          (first | rw [c55b0] | (simp only [i64_w, i32_w]; rw [c55b0]) | (simp only [bne] at c55b0; rw [c55b0]) | skip)
          obtain ⟨t448, A560, H⟩ := zW_ H
          replace H : (if t448 = true then (laws_FnExactSubtractBoxes.j1 kj15 l0 l1 t421 t422 t431 (t432 != t422)) else (laws_FnExactSubtractBoxes.j1 kj15 l0 l1 t421 t422 t431 true)) = some r := H
          have A56 := yD A560
          clear A560
          by_cases c57 : t448 = true
          · subst c57
            replace H : (laws_FnExactSubtractBoxes.j1 kj15 l0 l1 t421 t422 t431 (t432 != t422)) = some r := (by rw [if_pos rfl] at H; exact H)
            have H' := yD H
            clear H
            obtain ⟨Ao58, co58, eo58⟩ := Kd.S_slice HO_10.out
            subst eo58
            obtain ⟨Ao59, co59, eo59⟩ := Kd.S_slice HO_6.out
            subst eo59
            go_wp2_with (first | (go_at_call 17; (with_reducible refine (laws_eqBoxS.calls kj15 _ _ t431 _ _ t421 true _ ?side1 ?side2 ?side3 ?side4 A56.out).mono ?_); (case side1 => exact kV (Kd.S_reads' HO_10.out).2.2); (case side2 => exact (Kd.S_reads' HO_10.out).2.1); (case side3 => exact kV (Kd.S_reads' HO_6.out).2.2); (case side4 => exact (Kd.S_reads' HO_6.out).2.1); rintro e w60 ⟨rfl, hb⟩; replace HO_6 := yD (Kd.S_below (kS HO_6) hb); replace HO_8 := yD (Kd.S_below (kS HO_8) hb); replace HO_9 := yD (Kd.S_below (kS HO_9) hb); replace HO_10 := yD (Kd.S_below (kS HO_10) hb); replace HO438 := yD (Kd.S_below (kS HO438) hb); replace HO442 := yD (Kd.S_below (kS HO442) hb); replace HB := yD (zC (kB HB) hb); clear hb))
            go_meet
            case rel => exact ⟨_, ((t432 != t422)), (by first | rfl | (simp; done) | (simp [*]; done)), H', ⟨by have := HJ15.out; first | omega | exact Nat.le_refl _⟩, ⟨mS HO_6 (fun _ hk => hk.2.2.1)⟩, ⟨mS HO_10 (fun _ hk => hk.1)⟩, ⟨kR1 HB⟩⟩
          · replace c57 := Bool.eq_false_iff.mpr c57
            subst c57
            replace H : (laws_FnExactSubtractBoxes.j1 kj15 l0 l1 t421 t422 t431 true) = some r := (by rw [if_neg (show ¬ (false = true) by decide)] at H; exact H)
            have H' := yD H
            clear H
            obtain ⟨Ao61, co61, eo61⟩ := Kd.S_slice HO_10.out
            subst eo61
            obtain ⟨Ao62, co62, eo62⟩ := Kd.S_slice HO_6.out
            subst eo62
            go_wp2_with (first | (go_at_call 17; (with_reducible refine (laws_eqBoxS.calls kj15 _ _ t431 _ _ t421 false _ ?side1 ?side2 ?side3 ?side4 A56.out).mono ?_); (case side1 => exact kV (Kd.S_reads' HO_10.out).2.2); (case side2 => exact (Kd.S_reads' HO_10.out).2.1); (case side3 => exact kV (Kd.S_reads' HO_6.out).2.2); (case side4 => exact (Kd.S_reads' HO_6.out).2.1); rintro e w63 ⟨rfl, hb⟩; replace HO_6 := yD (Kd.S_below (kS HO_6) hb); replace HO_8 := yD (Kd.S_below (kS HO_8) hb); replace HO_9 := yD (Kd.S_below (kS HO_9) hb); replace HO_10 := yD (Kd.S_below (kS HO_10) hb); replace HO438 := yD (Kd.S_below (kS HO438) hb); replace HO442 := yD (Kd.S_below (kS HO442) hb); replace HB := yD (zC (kB HB) hb); clear hb))
            go_meet
            case rel => exact ⟨_, (true), (by first | rfl | (simp; done) | (simp [*]; done)), H', ⟨by have := HJ15.out; first | omega | exact Nat.le_refl _⟩, ⟨mS HO_6 (fun _ hk => hk.2.2.1)⟩, ⟨mS HO_10 (fun _ hk => hk.1)⟩, ⟨kR1 HB⟩⟩
        case rest =>
         clear HC46; try clear c1; try clear c4; try clear c4b0; try clear c7; try clear c7b0; try clear c30; try clear c37; try clear c40; try clear c43; try clear c55; try clear c55b0; try clear c57
         obtain ⟨kq, x82_45, rfl, HA, HJ45, HO_6, HO_10, HB⟩ := hcut
         cases kq with
         | zero => exact absurd HA.out (by simp [laws_FnExactSubtractBoxes.j1])
         | succ kj45 =>
          have H := HA.out; clear HA
          simp only [laws_FnExactSubtractBoxes.j1] at H
          by_cases c64 : x82_45 = true
          · subst c64
            replace H : (some false) = some r := (by rw [if_pos rfl] at H; exact H); obtain rfl := Option.some.inj H
            go_wp2
            go_ret
            exact ⟨by first | rfl | (simp <;> rfl) | (simp [*] <;> rfl), kR1 HB⟩
          ·
           replace c64 := Bool.eq_false_iff.mpr c64
           subst c64
           replace H : ((laws_markBoxS.f kj45 t431 1).bind fun bt449 => ((laws_heldBoxS.f kj45 bt449.2 1).bind fun t451 => (if t451 < 0 then (some false) else (if t451 = bt449.1 then ((laws_toBoxS.f kj45 l0).bind fun t452 => ((laws_toBoxS.f kj45 l1).bind fun t455 => ((impl_SubtractBoxes.f kj45 t452 t455).bind fun bt458 => ((laws_eqBoxS.f kj45 bt458.1 t421).bind fun t462 => (if t462 = true then (laws_FnExactSubtractBoxes.j2 kj45 bt449.2 bt449.1 (bt458.2 != t422)) else (laws_FnExactSubtractBoxes.j2 kj45 bt449.2 bt449.1 true)))))) else (some false))))) = some r := (by rw [if_neg (show ¬ (false = true) by decide)] at H; exact H)
           obtain ⟨⟨t449, t450⟩, A650, H⟩ := zW_ H
           replace H : ((laws_heldBoxS.f kj45 t450 1).bind fun t451 => (if t451 < 0 then (some false) else (if t451 = t449 then ((laws_toBoxS.f kj45 l0).bind fun t452 => ((laws_toBoxS.f kj45 l1).bind fun t455 => ((impl_SubtractBoxes.f kj45 t452 t455).bind fun bt458 => ((laws_eqBoxS.f kj45 bt458.1 t421).bind fun t462 => (if t462 = true then (laws_FnExactSubtractBoxes.j2 kj45 t450 t449 (bt458.2 != t422)) else (laws_FnExactSubtractBoxes.j2 kj45 t450 t449 true)))))) else (some false)))) = some r := H
           have A65 := yD A650
           clear A650
           obtain ⟨t451, A660, H⟩ := zW_ H
           replace H : (if t451 < 0 then (some false) else (if t451 = t449 then ((laws_toBoxS.f kj45 l0).bind fun t452 => ((laws_toBoxS.f kj45 l1).bind fun t455 => ((impl_SubtractBoxes.f kj45 t452 t455).bind fun bt458 => ((laws_eqBoxS.f kj45 bt458.1 t421).bind fun t462 => (if t462 = true then (laws_FnExactSubtractBoxes.j2 kj45 t450 t449 (bt458.2 != t422)) else (laws_FnExactSubtractBoxes.j2 kj45 t450 t449 true)))))) else (some false))) = some r := H
           have A66 := yD A660
           clear A660
           by_cases c67 : t451 < 0
           · rw [if_pos c67] at H
             have c67b0 : decide (t451 < 0) = true := zR c67; clear c67; obtain rfl := Option.some.inj H
             obtain ⟨Ao68, co68, eo68⟩ := Kd.S_slice HO_10.out
             subst eo68
             go_wp2_with (first | ((with_reducible refine gate_callee (f := 18) rfl ?_); refine gL 85 Try.func18 #[.slice Ao68 t431.length co68, .int .i64 1] ?_; (with_reducible refine (laws_markBoxS.calls kj45 ?P5_4 (.slice Ao68 t431.length co68) t431 1 t449 t450 w _ ?side1 ?side2 A65.out).mono ?_); (case side1 => exact kR1 HB); (case side2 => exact HO_10.out); rintro e w69 ⟨rfl, hy0, hb, hkp⟩; refine ⟨_, rfl, ?_⟩; replace HO_6 := yD (Kd.S_mono (ok' := fun k_ => (oB (.slice Ao68 t431.length co68) k_ ∧ k_ < lo433)) (Kd.S_keptB (HO_6.out) hkp (fun k_ hk_ hs_ => (fun hq_ => by have h1_ := (hk_).2; have h2_ := (hq_).2; omega) hs_)) (fun k_ hk_ => hk_.1)); replace HO_10 := yD (hy0); replace HB := yD (hb); clear hb hkp hy0) | ((with_reducible refine gate_callee (f := 19) rfl ?_); refine goesL_ (some 88) rfl rfl Try.func19 (by kernel_rfl) rfl #[.slice Ao68 t450.length co68, .int .i64 1] rfl (by (try simp only [zK, zL, zM]); first | done | (rw [show t450.length = t431.length from (Kd.S_reads' HO_10.out).1.symm] <;> rfl) | rfl | (simp only [zN, zO]; rfl)) ?_; (with_reducible refine (laws_heldBoxS.calls kj45 _ _ t450 1 t451 _ ?side1 ?side2 A66.out).mono ?_); (case side1 => exact kV (Kd.S_reads' HO_10.out).2.2); (case side2 => rw [show t450.length = t431.length from (Kd.S_reads' HO_10.out).1.symm]; exact (Kd.S_reads' HO_10.out).2.1); rintro e w' ⟨rfl, ⟨nd, rfl⟩⟩; refine ⟨_, rfl, ?_⟩))
             go_ret
             exact ⟨by first | rfl | (simp <;> rfl) | (simp [*] <;> rfl), kR1 HB⟩
           ·
            rw [if_neg c67] at H
            have c67b0 : decide (t451 < 0) = false := zS c67; clear c67
            by_cases c70 : t451 = t449
            ·
             rw [if_pos c70] at H
             have c70b0 : (t451 == t449) = true := beq_iff_eq.mpr c70
             have c70b1 : (t451 != t449) = false := bne_eq_false_iff_eq.mpr c70
             clear c70
             obtain ⟨t452, A710, H⟩ := zW_ H
             replace H : ((laws_toBoxS.f kj45 l1).bind fun t455 => ((impl_SubtractBoxes.f kj45 t452 t455).bind fun bt458 => ((laws_eqBoxS.f kj45 bt458.1 t421).bind fun t462 => (if t462 = true then (laws_FnExactSubtractBoxes.j2 kj45 t450 t449 (bt458.2 != t422)) else (laws_FnExactSubtractBoxes.j2 kj45 t450 t449 true))))) = some r := H
             have A71 := yD A710
             clear A710
             obtain ⟨t455, A720, H⟩ := zW_ H
             replace H : ((impl_SubtractBoxes.f kj45 t452 t455).bind fun bt458 => ((laws_eqBoxS.f kj45 bt458.1 t421).bind fun t462 => (if t462 = true then (laws_FnExactSubtractBoxes.j2 kj45 t450 t449 (bt458.2 != t422)) else (laws_FnExactSubtractBoxes.j2 kj45 t450 t449 true)))) = some r := H
             have A72 := yD A720
             clear A720
             obtain ⟨⟨t458, t459⟩, A730, H⟩ := zW_ H
             replace H : ((laws_eqBoxS.f kj45 t458 t421).bind fun t462 => (if t462 = true then (laws_FnExactSubtractBoxes.j2 kj45 t450 t449 (t459 != t422)) else (laws_FnExactSubtractBoxes.j2 kj45 t450 t449 true))) = some r := H
             have A73 := yD A730
             clear A730
             have HC74 := yD H
             clear H
             obtain ⟨Ao75, co75, eo75⟩ := Kd.S_slice HO_10.out
             subst eo75
             go_upto_region 32 with (first | ((with_reducible refine gate_callee (f := 18) rfl ?_); refine gL 85 Try.func18 #[.slice Ao75 t431.length co75, .int .i64 1] ?_; (with_reducible refine (laws_markBoxS.calls kj45 ?P5_5 (.slice Ao75 t431.length co75) t431 1 t449 t450 w _ ?side1 ?side2 A65.out).mono ?_); (case side1 => exact kR1 HB); (case side2 => exact HO_10.out); rintro e w76 ⟨rfl, hy0, hb, hkp⟩; refine ⟨_, rfl, ?_⟩; replace HO_6 := yD (Kd.S_mono (ok' := fun k_ => (oB (.slice Ao75 t431.length co75) k_ ∧ k_ < lo433)) (Kd.S_keptB (HO_6.out) hkp (fun k_ hk_ hs_ => (fun hq_ => by have h1_ := (hk_).2; have h2_ := (hq_).2; omega) hs_)) (fun k_ hk_ => hk_.1)); replace HO_10 := yD (hy0); replace HB := yD (hb); clear hb hkp hy0) | ((with_reducible refine gate_callee (f := 19) rfl ?_); refine goesL_ (some 88) rfl rfl Try.func19 (by kernel_rfl) rfl #[.slice Ao75 t450.length co75, .int .i64 1] rfl (by (try simp only [zK, zL, zM]); first | done | (rw [show t450.length = t431.length from (Kd.S_reads' HO_10.out).1.symm] <;> rfl) | rfl | (simp only [zN, zO]; rfl)) ?_; (with_reducible refine (laws_heldBoxS.calls kj45 _ _ t450 1 t451 _ ?side1 ?side2 A66.out).mono ?_); (case side1 => exact kV (Kd.S_reads' HO_10.out).2.2); (case side2 => rw [show t450.length = t431.length from (Kd.S_reads' HO_10.out).1.symm]; exact (Kd.S_reads' HO_10.out).2.1); rintro e w' ⟨rfl, ⟨nd, rfl⟩⟩; refine ⟨_, rfl, ?_⟩) | ((with_reducible refine gate_callee (f := 15) rfl ?_); refine gL 96 Try.func15 #[.slice A0 l0.length c0] ?_; (with_reducible refine (laws_toBoxS.calls kj45 _ _ l0 t452 _ ?side1 ?side2 A71.out).mono ?_); (case side1 => repeat (first | exact (yY HR0.out (kB HB)) | (with_reducible first | refine yV ?_ _ | refine yW ?_ _ | refine yX ?_))); (case side2 => exact HC0.out); rintro e w77 ⟨v453, rfl, ho0, hb⟩; refine ⟨_, rfl, ?_⟩; obtain ⟨lo453, hlo453⟩ := lo_ex hb; have HO454 := yD (zG (S_newN hlo453 (S_newN hlo453 ho0 (Kd.S_lt (kS HO_6))) (Kd.S_lt (kS HO_10))) (below_size (kB HB))); replace HO_6 := yD (S_eldN hlo453 (kS HO_6) (Kd.S_base ho0) hb); replace HO_10 := yD (S_eldN hlo453 (kS HO_10) (Kd.S_base ho0) hb); replace HB := yD (zC (kB HB) hb); clear hb ho0) | ((with_reducible refine gate_callee (f := 15) rfl ?_); refine gL 98 Try.func15 #[.slice A1 l1.length c1] ?_; (with_reducible refine (laws_toBoxS.calls kj45 _ _ l1 t455 _ ?side1 ?side2 A72.out).mono ?_); (case side1 => exact kV (yY HR1.out HB.out)); (case side2 => exact HC1.out); rintro e w78 ⟨v456, rfl, ho0, hb⟩; refine ⟨_, rfl, ?_⟩; obtain ⟨lo456, hlo456⟩ := lo_ex hb; have HO457 := yD (zG (S_newN hlo456 (S_newN hlo456 (S_newN hlo456 ho0 (Kd.S_lt (kS HO_6))) (Kd.S_lt (kS HO_10))) (Kd.S_lt (kS HO454))) (below_size (kB HB))); replace HO_6 := yD (S_eldN hlo456 (kS HO_6) (Kd.S_base ho0) hb); replace HO_10 := yD (S_eldN hlo456 (kS HO_10) (Kd.S_base ho0) hb); replace HO454 := yD (S_eldN hlo456 (kS HO454) (Kd.S_base ho0) hb); replace HB := yD (zC (kB HB) hb); clear hb ho0; obtain ⟨Ao79, co79, eo79⟩ := Kd.S_slice HO454.out; subst eo79; obtain ⟨Ao80, co80, eo80⟩ := Kd.S_slice HO457.out; subst eo80) | ((with_reducible refine gate_callee (f := 25) rfl ?_); refine gL 99 Try.func25 #[.slice Ao79 t452.length co79, .slice Ao80 t455.length co80] ?_; (with_reducible refine (impl_SubtractBoxes.calls kj45 _ _ t452 _ _ t455 t458 t459 _ ?side1 ?side2 ?side3 ?side4 A73.out).mono ?_); (case side1 => exact kV (Kd.S_reads' HO454.out).2.2); (case side2 => exact (Kd.S_reads' HO454.out).2.1); (case side3 => exact kV (Kd.S_reads' HO457.out).2.2); (case side4 => exact (Kd.S_reads' HO457.out).2.1); rintro e w81 ⟨v460, rfl, ho0, hb⟩; refine ⟨_, rfl, ?_⟩; obtain ⟨lo460, hlo460⟩ := lo_ex hb; have HO461 := yD (zG (S_newN hlo460 (S_newN hlo460 (S_newN hlo460 (S_newN hlo460 ho0 (Kd.S_lt (kS HO_6))) (Kd.S_lt (kS HO_10))) (Kd.S_lt (kS HO454))) (Kd.S_lt (kS HO457))) (below_size (kB HB))); replace HO_6 := yD (S_eldN hlo460 (kS HO_6) (Kd.S_base ho0) hb); replace HO_10 := yD (S_eldN hlo460 (kS HO_10) (Kd.S_base ho0) hb); replace HO454 := yD (S_eldN hlo460 (kS HO454) (Kd.S_base ho0) hb); replace HO457 := yD (S_eldN hlo460 (kS HO457) (Kd.S_base ho0) hb); replace HB := yD (zC (kB HB) hb); clear hb ho0))
             (try simp only [Act.put, zH, zI, zJ])
             go_cut [110] (fun v110 wc => ∃ (kq : Nat) (x110_73 : Bool), v110 = .bool x110_73 ∧ Aside0 (laws_FnExactSubtractBoxes.j2 kq t450 t449 x110_73 = some r) ∧ Aside0 (kq ≤ kj45) ∧ Aside0 (Kd.S k42 42 wc w.heap.size (fun _ => True) (.slice Ao75 t431.length co75) t450) ∧ Aside0 (Below w.heap.size w wc))
             case first =>
              have H := HC74.out; clear HC74
              obtain ⟨t462, A820, H⟩ := zW_ H
              replace H : (if t462 = true then (laws_FnExactSubtractBoxes.j2 kj45 t450 t449 (t459 != t422)) else (laws_FnExactSubtractBoxes.j2 kj45 t450 t449 true)) = some r := H
              have A82 := yD A820
              clear A820
              by_cases c83 : t462 = true
              · subst c83
                replace H : (laws_FnExactSubtractBoxes.j2 kj45 t450 t449 (t459 != t422)) = some r := (by rw [if_pos rfl] at H; exact H)
                have H' := yD H
                clear H
                obtain ⟨Ao84, co84, eo84⟩ := Kd.S_slice HO461.out
                subst eo84
                obtain ⟨Ao85, co85, eo85⟩ := Kd.S_slice HO_6.out
                subst eo85
                go_wp2_with (first | ((with_reducible refine gate_callee (f := 17) rfl ?_); refine gL 104 Try.func17 #[.slice Ao84 t458.length co84, .slice Ao85 t421.length co85] ?_; (with_reducible refine (laws_eqBoxS.calls kj45 _ _ t458 _ _ t421 true _ ?side1 ?side2 ?side3 ?side4 A82.out).mono ?_); (case side1 => exact kV (Kd.S_reads' HO461.out).2.2); (case side2 => exact (Kd.S_reads' HO461.out).2.1); (case side3 => exact kV (Kd.S_reads' HO_6.out).2.2); (case side4 => exact (Kd.S_reads' HO_6.out).2.1); rintro e w86 ⟨rfl, hb⟩; refine ⟨_, rfl, ?_⟩; replace HO_6 := yD (Kd.S_below (kS HO_6) hb); replace HO_10 := yD (Kd.S_below (kS HO_10) hb); replace HO454 := yD (Kd.S_below (kS HO454) hb); replace HO457 := yD (Kd.S_below (kS HO457) hb); replace HO461 := yD (Kd.S_below (kS HO461) hb); replace HB := yD (zC (kB HB) hb); clear hb))
                go_meet
                case rel => exact ⟨_, ((t459 != t422)), (by first | rfl | (simp; done) | (simp [*]; done)), H', ⟨by have := HJ15.out; have := HJ45.out; first | omega | exact Nat.le_refl _⟩, ⟨mS HO_10 (fun _ hk => trivial)⟩, ⟨kR1 HB⟩⟩
              · replace c83 := Bool.eq_false_iff.mpr c83
                subst c83
                replace H : (laws_FnExactSubtractBoxes.j2 kj45 t450 t449 true) = some r := (by rw [if_neg (show ¬ (false = true) by decide)] at H; exact H)
                have H' := yD H
                clear H
                obtain ⟨Ao87, co87, eo87⟩ := Kd.S_slice HO461.out
                subst eo87
                obtain ⟨Ao88, co88, eo88⟩ := Kd.S_slice HO_6.out
                subst eo88
                go_wp2_with (first | ((with_reducible refine gate_callee (f := 17) rfl ?_); refine gL 104 Try.func17 #[.slice Ao87 t458.length co87, .slice Ao88 t421.length co88] ?_; (with_reducible refine (laws_eqBoxS.calls kj45 _ _ t458 _ _ t421 false _ ?side1 ?side2 ?side3 ?side4 A82.out).mono ?_); (case side1 => exact kV (Kd.S_reads' HO461.out).2.2); (case side2 => exact (Kd.S_reads' HO461.out).2.1); (case side3 => exact kV (Kd.S_reads' HO_6.out).2.2); (case side4 => exact (Kd.S_reads' HO_6.out).2.1); rintro e w89 ⟨rfl, hb⟩; refine ⟨_, rfl, ?_⟩; replace HO_6 := yD (Kd.S_below (kS HO_6) hb); replace HO_10 := yD (Kd.S_below (kS HO_10) hb); replace HO454 := yD (Kd.S_below (kS HO454) hb); replace HO457 := yD (Kd.S_below (kS HO457) hb); replace HO461 := yD (Kd.S_below (kS HO461) hb); replace HB := yD (zC (kB HB) hb); clear hb))
                go_meet
                case rel => exact ⟨_, (true), (by first | rfl | (simp; done) | (simp [*]; done)), H', ⟨by have := HJ15.out; have := HJ45.out; first | omega | exact Nat.le_refl _⟩, ⟨mS HO_10 (fun _ hk => trivial)⟩, ⟨kR1 HB⟩⟩
             case rest =>
              clear HC74; try clear c1; try clear c4; try clear c4b0; try clear c7; try clear c7b0; try clear c30; try clear c37; try clear c40; try clear c43; try clear c55; try clear c55b0; try clear c57; try clear c64; try clear c67; try clear c67b0; try clear c70; try clear c70b0; try clear c70b1; try clear c83
              obtain ⟨kq, x110_73, rfl, HA, HJ73, HO_10, HB⟩ := hcut
              have hl10_73 := (Kd.S_reads' HO_10.out).1
              rw [hl10_73] at HO_10
              (try simp only [hl10_73])
              cases kq with
              | zero => exact absurd HA.out (by simp [laws_FnExactSubtractBoxes.j2])
              | succ kj73 =>
               have H := HA.out; clear HA
               simp only [laws_FnExactSubtractBoxes.j2] at H
               by_cases c90 : x110_73 = true
               · subst c90
                 replace H : (some false) = some r := (by rw [if_pos rfl] at H; exact H); obtain rfl := Option.some.inj H
                 go_wp2
                 go_ret
                 exact ⟨by first | rfl | (simp <;> rfl) | (simp [*] <;> rfl), kR1 HB⟩
               ·
                replace c90 := Bool.eq_false_iff.mpr c90
                subst c90
                replace H : ((laws_heldBoxS.f kj73 t450 1).bind fun t463 => (if t463 < 0 then (some false) else (if t463 = t449 then (some true) else (some false)))) = some r := (by rw [if_neg (show ¬ (false = true) by decide)] at H; exact H)
                obtain ⟨t463, A910, H⟩ := zW_ H
                replace H : (if t463 < 0 then (some false) else (if t463 = t449 then (some true) else (some false))) = some r := H
                have A91 := yD A910
                clear A910
                by_cases c92 : t463 < 0
                · rw [if_pos c92] at H
                  have c92b0 : decide (t463 < 0) = true := zR c92
                  (try (have c92b0h := c92b0; simp only [hl10_73] at c92b0h))
                  clear c92; obtain rfl := Option.some.inj H
                  go_wp2_with (first | ((with_reducible refine gate_callee (f := 19) rfl ?_); refine gL 113 Try.func19 #[.slice Ao75 t450.length co75, .int .i64 1] ?_; (with_reducible refine (laws_heldBoxS.calls kj73 _ _ t450 1 t463 _ ?side1 ?side2 A91.out).mono ?_); (case side1 => exact kV (Kd.S_reads' HO_10.out).2.2); (case side2 => exact (Kd.S_reads' HO_10.out).2.1); rintro e w' ⟨rfl, ⟨nd, rfl⟩⟩; refine ⟨_, rfl, ?_⟩))
                  go_ret
                  exact ⟨by first | rfl | (simp <;> rfl) | (simp [*] <;> rfl), kR1 HB⟩
                ·
                 rw [if_neg c92] at H
                 have c92b0 : decide (t463 < 0) = false := zS c92
                 (try (have c92b0h := c92b0; simp only [hl10_73] at c92b0h))
                 clear c92
                 by_cases c93 : t463 = t449
                 · rw [if_pos c93] at H
                   have c93b0 : (t463 == t449) = true := beq_iff_eq.mpr c93
                   (try (have c93b0h := c93b0; simp only [hl10_73] at c93b0h))
                   have c93b1 : (t463 != t449) = false := bne_eq_false_iff_eq.mpr c93
                   (try (have c93b1h := c93b1; simp only [hl10_73] at c93b1h))
                   clear c93; obtain rfl := Option.some.inj H
                   go_wp2_with (first | ((with_reducible refine gate_callee (f := 19) rfl ?_); refine gL 113 Try.func19 #[.slice Ao75 t450.length co75, .int .i64 1] ?_; (with_reducible refine (laws_heldBoxS.calls kj73 _ _ t450 1 t463 _ ?side1 ?side2 A91.out).mono ?_); (case side1 => exact kV (Kd.S_reads' HO_10.out).2.2); (case side2 => exact (Kd.S_reads' HO_10.out).2.1); rintro e w' ⟨rfl, ⟨nd, rfl⟩⟩; refine ⟨_, rfl, ?_⟩))
                   go_ret
                   exact ⟨by first | rfl | (simp <;> rfl) | (simp [*] <;> rfl), kR1 HB⟩
                 · rw [if_neg c93] at H
                   have c93b0 : (t463 == t449) = false := beq_eq_false_iff_ne.mpr c93
                   (try (have c93b0h := c93b0; simp only [hl10_73] at c93b0h))
                   have c93b1 : (t463 != t449) = true := bne_iff_ne.mpr c93
                   (try (have c93b1h := c93b1; simp only [hl10_73] at c93b1h))
                   obtain rfl := Option.some.inj H
                   go_wp2_with (first | ((with_reducible refine gate_callee (f := 19) rfl ?_); refine gL 113 Try.func19 #[.slice Ao75 t450.length co75, .int .i64 1] ?_; (with_reducible refine (laws_heldBoxS.calls kj73 _ _ t450 1 t463 _ ?side1 ?side2 A91.out).mono ?_); (case side1 => exact kV (Kd.S_reads' HO_10.out).2.2); (case side2 => exact (Kd.S_reads' HO_10.out).2.1); rintro e w' ⟨rfl, ⟨nd, rfl⟩⟩; refine ⟨_, rfl, ?_⟩))
                   go_ret
                   exact ⟨by first | rfl | (simp <;> rfl) | (simp [*] <;> rfl), kR1 HB⟩
            · rw [if_neg c70] at H
              have c70b0 : (t451 == t449) = false := beq_eq_false_iff_ne.mpr c70
              have c70b1 : (t451 != t449) = true := bne_iff_ne.mpr c70
              obtain rfl := Option.some.inj H
              obtain ⟨Ao94, co94, eo94⟩ := Kd.S_slice HO_10.out
              subst eo94
              go_wp2_with (first | ((with_reducible refine gate_callee (f := 18) rfl ?_); refine gL 85 Try.func18 #[.slice Ao94 t431.length co94, .int .i64 1] ?_; (with_reducible refine (laws_markBoxS.calls kj45 ?P5_6 (.slice Ao94 t431.length co94) t431 1 t449 t450 w _ ?side1 ?side2 A65.out).mono ?_); (case side1 => exact kR1 HB); (case side2 => exact HO_10.out); rintro e w95 ⟨rfl, hy0, hb, hkp⟩; refine ⟨_, rfl, ?_⟩; replace HO_6 := yD (Kd.S_mono (ok' := fun k_ => (oB (.slice Ao94 t431.length co94) k_ ∧ k_ < lo433)) (Kd.S_keptB (HO_6.out) hkp (fun k_ hk_ hs_ => (fun hq_ => by have h1_ := (hk_).2; have h2_ := (hq_).2; omega) hs_)) (fun k_ hk_ => hk_.1)); replace HO_10 := yD (hy0); replace HB := yD (hb); clear hb hkp hy0) | ((with_reducible refine gate_callee (f := 19) rfl ?_); refine goesL_ (some 88) rfl rfl Try.func19 (by kernel_rfl) rfl #[.slice Ao94 t450.length co94, .int .i64 1] rfl (by (try simp only [zK, zL, zM]); first | done | (rw [show t450.length = t431.length from (Kd.S_reads' HO_10.out).1.symm] <;> rfl) | rfl | (simp only [zN, zO]; rfl)) ?_; (with_reducible refine (laws_heldBoxS.calls kj45 _ _ t450 1 t451 _ ?side1 ?side2 A66.out).mono ?_); (case side1 => exact kV (Kd.S_reads' HO_10.out).2.2); (case side2 => rw [show t450.length = t431.length from (Kd.S_reads' HO_10.out).1.symm]; exact (Kd.S_reads' HO_10.out).2.1); rintro e w' ⟨rfl, ⟨nd, rfl⟩⟩; refine ⟨_, rfl, ?_⟩))
              go_ret
              exact ⟨by first | rfl | (simp <;> rfl) | (simp [*] <;> rfl), kR1 HB⟩
       · replace c43 := Bool.eq_false_iff.mpr c43
         subst c43
         replace H : (some false) = some r := (by rw [if_neg (show ¬ (false = true) by decide)] at H; exact H); obtain rfl := Option.some.inj H
         go_wp2_with (first | ((with_reducible refine gate_callee (f := 15) rfl ?_); refine gL 56 Try.func15 #[.slice A0 l0.length c0] ?_; (with_reducible refine (laws_toBoxS.calls kj15 _ _ l0 t436 _ ?side1 ?side2 A38.out).mono ?_); (case side1 => exact kV (yY HR0.out HB.out)); (case side2 => exact HC0.out); rintro e w96 ⟨v437, rfl, ho0, hb⟩; refine ⟨_, rfl, ?_⟩; obtain ⟨lo437, hlo437⟩ := lo_ex hb; have HO438 := yD (zG (S_newN hlo437 (S_newN hlo437 (S_newN hlo437 (S_newN hlo437 ho0 (Kd.S_lt (kS HO_6))) (Kd.S_lt (kS HO_8))) (Kd.S_lt (kS HO_9))) (Kd.S_lt (kS HO_10))) (below_size (kB HB))); replace HO_6 := yD (S_eldN hlo437 (kS HO_6) (Kd.S_base ho0) hb); replace HO_8 := yD (S_eldN hlo437 (kS HO_8) (Kd.S_base ho0) hb); replace HO_9 := yD (S_eldN hlo437 (kS HO_9) (Kd.S_base ho0) hb); replace HO_10 := yD (S_eldN hlo437 (kS HO_10) (Kd.S_base ho0) hb); replace HB := yD (zC (kB HB) hb); clear hb ho0; obtain ⟨Ao97, co97, eo97⟩ := Kd.S_slice HO438.out; subst eo97) | ((with_reducible refine gate_callee (f := 17) rfl ?_); refine gL 57 Try.func17 #[.slice Ao26 t425.length co26, .slice Ao97 t436.length co97] ?_; (with_reducible refine (laws_eqBoxS.calls kj15 _ _ t425 _ _ t436 true _ ?side1 ?side2 ?side3 ?side4 A39.out).mono ?_); (case side1 => exact kV (Kd.S_reads' HO_8.out).2.2); (case side2 => exact (Kd.S_reads' HO_8.out).2.1); (case side3 => exact kV (Kd.S_reads' HO438.out).2.2); (case side4 => exact (Kd.S_reads' HO438.out).2.1); rintro e w98 ⟨rfl, hb⟩; refine ⟨_, rfl, ?_⟩; replace HO_6 := yD (Kd.S_below (kS HO_6) hb); replace HO_8 := yD (Kd.S_below (kS HO_8) hb); replace HO_9 := yD (Kd.S_below (kS HO_9) hb); replace HO_10 := yD (Kd.S_below (kS HO_10) hb); replace HO438 := yD (Kd.S_below (kS HO438) hb); replace HB := yD (zC (kB HB) hb); clear hb) | ((with_reducible refine gate_callee (f := 15) rfl ?_); refine gL 61 Try.func15 #[.slice A1 l1.length c1] ?_; (with_reducible refine (laws_toBoxS.calls kj15 _ _ l1 t440 _ ?side1 ?side2 A41.out).mono ?_); (case side1 => exact kV (yY HR1.out HB.out)); (case side2 => exact HC1.out); rintro e w99 ⟨v441, rfl, ho0, hb⟩; refine ⟨_, rfl, ?_⟩; obtain ⟨lo441, hlo441⟩ := lo_ex hb; have HO442 := yD (zG (S_newN hlo441 (S_newN hlo441 (S_newN hlo441 (S_newN hlo441 (S_newN hlo441 ho0 (Kd.S_lt (kS HO_6))) (Kd.S_lt (kS HO_8))) (Kd.S_lt (kS HO_9))) (Kd.S_lt (kS HO_10))) (Kd.S_lt (kS HO438))) (below_size (kB HB))); replace HO_6 := yD (S_eldN hlo441 (kS HO_6) (Kd.S_base ho0) hb); replace HO_8 := yD (S_eldN hlo441 (kS HO_8) (Kd.S_base ho0) hb); replace HO_9 := yD (S_eldN hlo441 (kS HO_9) (Kd.S_base ho0) hb); replace HO_10 := yD (S_eldN hlo441 (kS HO_10) (Kd.S_base ho0) hb); replace HO438 := yD (S_eldN hlo441 (kS HO438) (Kd.S_base ho0) hb); replace HB := yD (zC (kB HB) hb); clear hb ho0; obtain ⟨Ao100, co100, eo100⟩ := Kd.S_slice HO442.out; subst eo100) | ((with_reducible refine gate_callee (f := 17) rfl ?_); refine gL 62 Try.func17 #[.slice Ao27 t428.length co27, .slice Ao100 t440.length co100] ?_; (with_reducible refine (laws_eqBoxS.calls kj15 _ _ t428 _ _ t440 false _ ?side1 ?side2 ?side3 ?side4 A42.out).mono ?_); (case side1 => exact kV (Kd.S_reads' HO_9.out).2.2); (case side2 => exact (Kd.S_reads' HO_9.out).2.1); (case side3 => exact kV (Kd.S_reads' HO442.out).2.2); (case side4 => exact (Kd.S_reads' HO442.out).2.1); rintro e w101 ⟨rfl, hb⟩; refine ⟨_, rfl, ?_⟩; replace HO_6 := yD (Kd.S_below (kS HO_6) hb); replace HO_8 := yD (Kd.S_below (kS HO_8) hb); replace HO_9 := yD (Kd.S_below (kS HO_9) hb); replace HO_10 := yD (Kd.S_below (kS HO_10) hb); replace HO438 := yD (Kd.S_below (kS HO438) hb); replace HO442 := yD (Kd.S_below (kS HO442) hb); replace HB := yD (zC (kB HB) hb); clear hb))
         go_ret
         exact ⟨by first | rfl | (simp <;> rfl) | (simp [*] <;> rfl), kR1 HB⟩
      · replace c40 := Bool.eq_false_iff.mpr c40
        subst c40
        replace H : (some false) = some r := (by rw [if_neg (show ¬ (false = true) by decide)] at H; exact H); obtain rfl := Option.some.inj H
        go_wp2_with (first | ((with_reducible refine gate_callee (f := 15) rfl ?_); refine gL 56 Try.func15 #[.slice A0 l0.length c0] ?_; (with_reducible refine (laws_toBoxS.calls kj15 _ _ l0 t436 _ ?side1 ?side2 A38.out).mono ?_); (case side1 => exact kV (yY HR0.out HB.out)); (case side2 => exact HC0.out); rintro e w102 ⟨v437, rfl, ho0, hb⟩; refine ⟨_, rfl, ?_⟩; obtain ⟨lo437, hlo437⟩ := lo_ex hb; have HO438 := yD (zG (S_newN hlo437 (S_newN hlo437 (S_newN hlo437 (S_newN hlo437 ho0 (Kd.S_lt (kS HO_6))) (Kd.S_lt (kS HO_8))) (Kd.S_lt (kS HO_9))) (Kd.S_lt (kS HO_10))) (below_size (kB HB))); replace HO_6 := yD (S_eldN hlo437 (kS HO_6) (Kd.S_base ho0) hb); replace HO_8 := yD (S_eldN hlo437 (kS HO_8) (Kd.S_base ho0) hb); replace HO_9 := yD (S_eldN hlo437 (kS HO_9) (Kd.S_base ho0) hb); replace HO_10 := yD (S_eldN hlo437 (kS HO_10) (Kd.S_base ho0) hb); replace HB := yD (zC (kB HB) hb); clear hb ho0; obtain ⟨Ao103, co103, eo103⟩ := Kd.S_slice HO438.out; subst eo103) | ((with_reducible refine gate_callee (f := 17) rfl ?_); refine gL 57 Try.func17 #[.slice Ao26 t425.length co26, .slice Ao103 t436.length co103] ?_; (with_reducible refine (laws_eqBoxS.calls kj15 _ _ t425 _ _ t436 false _ ?side1 ?side2 ?side3 ?side4 A39.out).mono ?_); (case side1 => exact kV (Kd.S_reads' HO_8.out).2.2); (case side2 => exact (Kd.S_reads' HO_8.out).2.1); (case side3 => exact kV (Kd.S_reads' HO438.out).2.2); (case side4 => exact (Kd.S_reads' HO438.out).2.1); rintro e w104 ⟨rfl, hb⟩; refine ⟨_, rfl, ?_⟩; replace HO_6 := yD (Kd.S_below (kS HO_6) hb); replace HO_8 := yD (Kd.S_below (kS HO_8) hb); replace HO_9 := yD (Kd.S_below (kS HO_9) hb); replace HO_10 := yD (Kd.S_below (kS HO_10) hb); replace HO438 := yD (Kd.S_below (kS HO438) hb); replace HB := yD (zC (kB HB) hb); clear hb))
        go_ret
        exact ⟨by first | rfl | (simp <;> rfl) | (simp [*] <;> rfl), kR1 HB⟩

-- what data that come in are: numbers of their kinds, lengths that a length can be
def okS69 (x : S69) : Prop := (x.f0.length ≤ maxLen ∧ ∀ x_ ∈ x.f0, (Lit.int .i64 x_).wf = true) ∧ (x.f1.length ≤ maxLen ∧ ∀ x_ ∈ x.f1, (Lit.int .i64 x_).wf = true)
/-- THE ONE PURE STATEMENT of laws_FnExactSubtractBoxes: ours. -/
def laws_FnExactSubtractBoxes.Pure : Prop := ∀ (l0 : List (S69)) (l1 : List (S69)), (l0.length ≤ maxLen ∧ ∀ x_ ∈ l0, okS69 x_) → (l1.length ≤ maxLen ∧ ∀ x_ ∈ l1, okS69 x_) → ∃ k, laws_FnExactSubtractBoxes.f k l0 l1 = some true
theorem laws_FnExactSubtractBoxes.walk (P : laws_FnExactSubtractBoxes.Pure) (A0 : Option Addr) (c0 : Nat) (l0 : List (S69)) (A1 : Option Addr) (c1 : Nat) (l1 : List (S69)) (w : World) (hr0 : Kd.C k69 w A0 l0.length l0) (hc0 : l0.length ≤ c0) (hr1 : Kd.C k69 w A1 l1.length l1) (hc1 : l1.length ≤ c1) (o0 : (l0.length ≤ maxLen ∧ ∀ x_ ∈ l0, okS69 x_)) (o1 : (l1.length ≤ maxLen ∧ ∀ x_ ∈ l1, okS69 x_)) :
 Calls Try.prog 6 #[.slice A0 l0.length c0, .slice A1 l1.length c1] w fun e w' => e = .returned (.bool true) ∧ Below w.heap.size w w' := by
 obtain ⟨k, h⟩ := P l0 l1 o0 o1
 refine (laws_FnExactSubtractBoxes.calls k _ _ l0 _ _ l1 true w hr0 hc0 hr1 hc1 h).mono ?_
 rintro e w' ⟨rfl, hd⟩
 exact ⟨rfl, hd⟩

end Go.Proofs.Ytdiaebjbiddefaa.PFnExactSubtractBoxes
