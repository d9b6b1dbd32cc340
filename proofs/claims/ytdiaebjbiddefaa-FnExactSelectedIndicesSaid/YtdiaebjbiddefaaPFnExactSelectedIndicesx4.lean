/- Each Go function here comes to what the plain function of its name says, where that says something. Made by a program of this session, over the print. -/
import Derived.Test.YtdiaebjbiddefaaPFnExactSelectedIndicesx0
import Derived.Test.YtdiaebjbiddefaaPFnExactSelectedIndicesx1
import Derived.Test.YtdiaebjbiddefaaPFnExactSelectedIndicesx3
namespace Go.Proofs.Ytdiaebjbiddefaa.PFnExactSelectedIndices
open Go.RowKit Go.Proofs.YtdiaebjbiddefaaW.PrintWords Go.Proofs.YtdiaebjbiddefaaW.PrintLast Go.Proofs.YtdiaebjbiddefaaW.PrintMore
attribute [local go_sem] max2_int min2_int max_two min_two max_three min_three max_four min_four   -- for this text's walks alone
set_option linter.unusedVariables false
set_option linter.unusedSimpArgs false

/-! ### spec_l06Points: function 135 -/
mutual
def spec_l06Points.l0 : Nat → List (S110) → Int → Option (Bool)
 | 0, _, _ => none
 | k + 1, x0, x3 => if x3 < (x0.length : Int) then (if 0 ≤ x3 then (if 0 < (x0.length : Int) then (if (((rd_T110 x0 x3).f0).length : Int) = (((rd_T110 x0 0).f0).length : Int) then (spec_l06Points.j1 k x0 x3 (decide ((((rd_T110 x0 x3).f0).length : Int) > 3))) else (spec_l06Points.j1 k x0 x3 true)) else (none)) else (none)) else (some true)
def spec_l06Points.j1 : Nat → List (S110) → Int → Bool → Option (Bool)
 | 0, _, _, _ => none
 | k + 1, x0, x3, x35 => if x35 = true then (some false) else (spec_l06Points.l1 k x0 x3 0)
def spec_l06Points.l1 : Nat → List (S110) → Int → Int → Option (Bool)
 | 0, _, _, _ => none
 | k + 1, x0, x3, x4 => if 0 ≤ x3 then (if x3 < (x0.length : Int) then (if x4 < (((rd_T110 x0 x3).f0).length : Int) then (if 0 ≤ x4 then ((spec_l00In.f (rd ((rd_T110 x0 x3).f0) x4) 0 39).bind fun t175 => (if t175 = true then (spec_l06Points.l1 k x0 x3 (wrap64 (x4 + 1))) else (some false))) else (none)) else (spec_l06Points.l0 k x0 (wrap64 (x3 + 1)))) else (none)) else (none)
end
def spec_l06Points.f (k : Nat) (l0 : List (S110)) : Option (Bool) := (spec_l00In.f (l0.length : Int) 1 24).bind fun t168 => (if t168 = true then (spec_l06Points.l0 k l0 0) else (some false))
theorem spec_l06Points.mono_l : ∀ k, (∀ y0 y1, LeO (spec_l06Points.l0 k y0 y1) (spec_l06Points.l0 (k + 1) y0 y1)) ∧ (∀ y0 y1 y2, LeO (spec_l06Points.j1 k y0 y1 y2) (spec_l06Points.j1 (k + 1) y0 y1 y2)) ∧ (∀ y0 y1 y2, LeO (spec_l06Points.l1 k y0 y1 y2) (spec_l06Points.l1 (k + 1) y0 y1 y2))
 | 0 => ⟨fun _ _ r h => by simp [spec_l06Points.l0] at h, fun _ _ _ r h => by simp [spec_l06Points.j1] at h, fun _ _ _ r h => by simp [spec_l06Points.l1] at h⟩
 | k + 1 => by
  obtain ⟨ih0, ih1, ih2⟩ := spec_l06Points.mono_l k
  refine ⟨?_, ?_, ?_⟩
  ·
   intro y0 y1
   unfold spec_l06Points.l0
   repeat' (with_reducible first | exact ih0 _ _ | exact ih1 _ _ _ | exact ih2 _ _ _ | exact LeO.refl _ | exact LeO.none _ | refine LeO.ite ?_ ?_ | refine LeO.bind ?_ (fun _ => ?_))
  ·
   intro y0 y1 y2
   unfold spec_l06Points.j1
   repeat' (with_reducible first | exact ih0 _ _ | exact ih1 _ _ _ | exact ih2 _ _ _ | exact LeO.refl _ | exact LeO.none _ | refine LeO.ite ?_ ?_ | refine LeO.bind ?_ (fun _ => ?_))
  ·
   intro y0 y1 y2
   unfold spec_l06Points.l1
   repeat' (with_reducible first | exact ih0 _ _ | exact ih1 _ _ _ | exact ih2 _ _ _ | exact LeO.refl _ | exact LeO.none _ | refine LeO.ite ?_ ?_ | refine LeO.bind ?_ (fun _ => ?_))
theorem spec_l06Points.mono : ∀ a0 k, LeO (spec_l06Points.f k a0) (spec_l06Points.f (k + 1) a0) := by
 intro a0 k
 obtain ⟨ih0, ih1, ih2⟩ := spec_l06Points.mono_l k
 unfold spec_l06Points.f
 repeat' (with_reducible first | exact ih0 _ _ | exact ih1 _ _ _ | exact ih2 _ _ _ | exact LeO.refl _ | exact LeO.none _ | refine LeO.ite ?_ ?_ | refine LeO.bind ?_ (fun _ => ?_))
set_option maxHeartbeats 8000000 in
set_option maxRecDepth 100000 in
theorem spec_l06Points.calls (k : Nat) (A0 : Option Addr) (c0 : Nat) (l0 : List (S110)) (r : Bool) (w : World) (hr0 : Kd.C k110 w A0 l0.length l0) (hc0 : l0.length ≤ c0) (h : spec_l06Points.f k l0 = some r) :
 Calls Try.prog 135 #[.slice A0 l0.length c0] w fun e w' => e = .returned (.bool r) ∧ Drawn0 w w' := by
 have HR0 := yD hr0
 have HC0 := yD hc0
 clear hr0 hc0
 have H : ((spec_l00In.f (l0.length : Int) 1 24).bind fun t168 => (if t168 = true then (spec_l06Points.l0 k l0 0) else (some false))) = some r := h
 clear h
 obtain ⟨t168, A20, H⟩ := zW_ H
 replace H : (if t168 = true then (spec_l06Points.l0 k l0 0) else (some false)) = some r := H
 have A2 := yD A20
 clear A20
 by_cases c3 : t168 = true
 ·
  subst c3
  have H1 : (spec_l06Points.l0 k l0 0) = some r := by rw [if_pos rfl] at H; exact H
  clear H; have H := H1; clear H1
  have H' := yD H
  clear H; go_enter Try.func135, Try.ntmps135
  go_wp2_with (first | (go_at_call 92; (with_reducible refine (spec_l00In.calls (l0.length : Int) 1 24 true _ A2.out).mono ?_); rintro e w' ⟨rfl, ⟨nd, rfl⟩⟩; (try first | exact ⟨rfl, _, World.drewN_drewN _ _ _⟩ | exact ⟨rfl, _, Eq.trans (World.drewN_drewN _ _ _) (congrArg (World.drewN _) (Nat.add_assoc _ _ _))⟩)))
  repeat (go_quiet (first | (go_at_call 92; (with_reducible refine (spec_l00In.calls (l0.length : Int) 1 24 true _ A2.out).mono ?_); rintro e w' ⟨rfl, ⟨nd, rfl⟩⟩; (try first | exact ⟨rfl, _, World.drewN_drewN _ _ _⟩ | exact ⟨rfl, _, Eq.trans (World.drewN_drewN _ _ _) (congrArg (World.drewN _) (Nat.add_assoc _ _ _))⟩))); try go_wp2_with (first | (go_at_call 92; (with_reducible refine (spec_l00In.calls (l0.length : Int) 1 24 true _ A2.out).mono ?_); rintro e w' ⟨rfl, ⟨nd, rfl⟩⟩; (try first | exact ⟨rfl, _, World.drewN_drewN _ _ _⟩ | exact ⟨rfl, _, Eq.trans (World.drewN_drewN _ _ _) (congrArg (World.drewN _) (Nat.add_assoc _ _ _))⟩))))
  go_loopg [3] k (fun kq v3 w' => ∃ (x3_1 : Int), v3 = .int .i64 x3_1 ∧ Aside0 (spec_l06Points.l0 kq l0 x3_1 = some r) ∧ Aside0 (kq ≤ k) ∧ Drawn0 w w')
  case atStart => exact ⟨(0), (by first | rfl | (simp; done) | (simp [*]; done)), H', ⟨Nat.le_refl _⟩, by repeat (first | exact Drawn0.refl _ | apply Drawn0.step)⟩
  case round =>
   clear H'
   try clear c1; try clear p2; try clear c3
   obtain ⟨x3_1, rfl, HA, HK1, ⟨m1, rfl⟩⟩ := hrel
   cases gk with
   | zero => exact absurd HA.out (by simp [spec_l06Points.l0])
   | succ k1 =>
    have H := HA.out; clear HA
    simp only [spec_l06Points.l0] at H
    by_cases c4 : x3_1 < (l0.length : Int)
    ·
     rw [if_pos c4] at H; have c4b0 : decide (x3_1 < (l0.length : Int)) = true := zR c4; clear c4
     have HC5 := yD H
     clear H
     go_upto_region 6 with (fail)
     repeat (go_quiet (fail); go_upto_region 6 with (fail))
     go_cut [35] (fun v35 wc => ∃ (kq : Nat) (x35_4 : Bool), v35 = .bool x35_4 ∧ Aside0 (spec_l06Points.j1 kq l0 x3_1 x35_4 = some r) ∧ Aside0 (kq ≤ k1) ∧ Drawn0 w wc)
     case first =>
      have H := HC5.out; clear HC5
      by_cases c6 : 0 ≤ x3_1
      ·
       rw [if_pos c6] at H; have c6b0 : decide (0 ≤ x3_1) = true := zR c6; clear c6
       (first | rw [c6b0] | (simp only [i64_w, i32_w]; rw [c6b0]) | (simp only [bne] at c6b0; rw [c6b0]) | skip)
       by_cases c7 : 0 < (l0.length : Int)
       ·
        rw [if_pos c7] at H; have c7b0 : decide (0 < (l0.length : Int)) = true := zR c7
        have c7b1 : decide (0 < l0.length) = true := zR (by omega)
        clear c7
        by_cases c8 : (((rd_T110 l0 x3_1).f0).length : Int) = (((rd_T110 l0 0).f0).length : Int)
        ·
         rw [if_pos c8] at H
         have c8b0 : ((((rd_T110 l0 x3_1).f0).length : Int) == (((rd_T110 l0 0).f0).length : Int)) = true := beq_iff_eq.mpr c8
         have c8b1 : ((((rd_T110 l0 x3_1).f0).length : Int) != (((rd_T110 l0 0).f0).length : Int)) = false := bne_eq_false_iff_eq.mpr c8
         have c8b2 : (((rd_T110 l0 x3_1).f0).length == ((rd_T110 l0 0).f0).length) = true := by first | simpa using c8 | (simp at c8 ⊢; omega)
         clear c8
         have H' := yD H
         clear H
         have p169 : 0 ≤ (x3_1 : Int) := zP (by assumption)
         have q169 : x3_1 < (l0.length : Int) := zP (by assumption)
         obtain ⟨ad169, A169_0, c169_0, e169, hx169_0, hl169_0, hi169_0⟩ := at_T110 HR0.out x3_1 p169 q169
         cases e169
         have HR169_0 := yD hi169_0
         have HC169_0 := yD hl169_0
         clear hi169_0 hl169_0; replace p169 := eq_true p169; replace q169 := eq_true q169
         have p170 : 0 ≤ (0 : Int) := (by omega)
         have q170 : 0 < (l0.length : Int) := zP (by assumption)
         obtain ⟨ad170, A170_0, c170_0, e170, hx170_0, hl170_0, hi170_0⟩ := at_T110 HR0.out 0 p170 q170
         obtain rfl : ad169 = ad170 := (by injection e170)
         have qi170 : (0 < l0.length) = True := eq_true (by omega)
         (try rw [show ((0 : Int)).toNat = 0 from rfl] at hx170_0)
         (try rw [Addr.add_zero'] at hx170_0)
         have HR170_0 := yD hi170_0
         have HC170_0 := yD hl170_0
         clear hi170_0 hl170_0; replace p170 := eq_true p170; replace q170 := eq_true q170
         have p171 : 0 ≤ (x3_1 : Int) := zP (by assumption)
         have q171 : x3_1 < (l0.length : Int) := zP (by assumption)
         obtain ⟨ad171, A171_0, c171_0, e171, hx171_0, hl171_0, hi171_0⟩ := at_T110 HR0.out x3_1 p171 q171
         obtain rfl : ad169 = ad171 := (by injection e171)
         have HR171_0 := yD hi171_0
         have HC171_0 := yD hl171_0
         clear hi171_0 hl171_0; replace p171 := eq_true p171; replace q171 := eq_true q171
         have ea_ := Option.some.inj (hx169_0.symm.trans hx171_0)
         injection ea_ with ea_ en_ ec_
         subst ea_; subst ec_; clear en_
         go_wp2
         repeat (go_quiet (fail); try go_wp2)
         go_meet
         case rel => exact ⟨_, (decide ((((rd_T110 l0 x3_1).f0).length : Int) > 3)), (by first | rfl | (simp; done) | (simp [*]; done)), H', ⟨by have := HK1.out; first | omega | exact Nat.le_refl _⟩, by repeat (first | exact Drawn0.refl _ | apply Drawn0.step)⟩
        ·
         rw [if_neg c8] at H
         have c8b0 : ((((rd_T110 l0 x3_1).f0).length : Int) == (((rd_T110 l0 0).f0).length : Int)) = false := beq_eq_false_iff_ne.mpr c8
         have c8b1 : ((((rd_T110 l0 x3_1).f0).length : Int) != (((rd_T110 l0 0).f0).length : Int)) = true := bne_iff_ne.mpr c8
         have c8b2 : (((rd_T110 l0 x3_1).f0).length == ((rd_T110 l0 0).f0).length) = false := by first | simpa using c8 | (simp at c8 ⊢; omega)
         have H' := yD H
         clear H
         have p169 : 0 ≤ (x3_1 : Int) := zP (by assumption)
         have q169 : x3_1 < (l0.length : Int) := zP (by assumption)
         obtain ⟨ad169, A169_0, c169_0, e169, hx169_0, hl169_0, hi169_0⟩ := at_T110 HR0.out x3_1 p169 q169
         cases e169
         have HR169_0 := yD hi169_0
         have HC169_0 := yD hl169_0
         clear hi169_0 hl169_0; replace p169 := eq_true p169; replace q169 := eq_true q169
         have p170 : 0 ≤ (0 : Int) := (by omega)
         have q170 : 0 < (l0.length : Int) := zP (by assumption)
         obtain ⟨ad170, A170_0, c170_0, e170, hx170_0, hl170_0, hi170_0⟩ := at_T110 HR0.out 0 p170 q170
         obtain rfl : ad169 = ad170 := (by injection e170)
         have qi170 : (0 < l0.length) = True := eq_true (by omega)
         (try rw [show ((0 : Int)).toNat = 0 from rfl] at hx170_0)
         (try rw [Addr.add_zero'] at hx170_0)
         have HR170_0 := yD hi170_0
         have HC170_0 := yD hl170_0
         clear hi170_0 hl170_0; replace p170 := eq_true p170; replace q170 := eq_true q170
         go_wp2
         repeat (go_quiet (fail); try go_wp2)
         go_meet
         case rel => exact ⟨_, (true), (by first | rfl | (simp; done) | (simp [*]; done)), H', ⟨by have := HK1.out; first | omega | exact Nat.le_refl _⟩, by repeat (first | exact Drawn0.refl _ | apply Drawn0.step)⟩
       ·
        rw [if_neg c7] at H
        exact absurd H (by simp)
      ·
       rw [if_neg c6] at H
       exact absurd H (by simp)
     case rest =>
      clear HC5; try clear c1; try clear p1; try clear q1; try clear hx1; try clear qi1; try clear p2; try clear c3; try clear c4; try clear c4b0; try clear c6; try clear c6b0; try clear c7; try clear c7b0; try clear c7b1; try clear c8; try clear c8b0; try clear c8b1; try clear c8b2; try clear hx169_0; try clear hx170_0; try clear hx171_0; try clear p169; try clear p170; try clear p171; try clear p2; try clear q169; try clear q170; try clear q171
      obtain ⟨kq, x35_4, rfl, HA, HJ4, ⟨mc4, rfl⟩⟩ := hcut
      cases kq with
      | zero => exact absurd HA.out (by simp [spec_l06Points.j1])
      | succ kj4 =>
       have H := HA.out; clear HA
       simp only [spec_l06Points.j1] at H
       by_cases c9 : x35_4 = true
       ·
        subst c9
        have H1 : (some false) = some r := by rw [if_pos rfl] at H; exact H
        clear H; have H := H1; clear H1; obtain rfl := Option.some.inj H
        go_wp2
        repeat (go_quiet (fail); try go_wp2)
        go_ret
        exact ⟨by first | rfl | (simp; done) | (simp [*]; done), by repeat (first | exact Drawn0.refl _ | apply Drawn0.step)⟩
       ·
        replace c9 := Bool.eq_false_iff.mpr c9
        subst c9
        have H1 : (spec_l06Points.l1 kj4 l0 x3_1 0) = some r := by rw [if_neg (show ¬ (false = true) by decide)] at H; exact H
        clear H; have H := H1; clear H1
        have H' := yD H
        clear H
        go_wp2
        repeat (go_quiet (fail); try go_wp2)
        go_loopg [4] kj4 (fun kq v4 w' => ∃ (x4_3 : Int), v4 = .int .i64 x4_3 ∧ Aside0 (spec_l06Points.l1 kq l0 x3_1 x4_3 = some r) ∧ Aside0 (kq ≤ kj4) ∧ Drawn0 w w')
        case atStart => exact ⟨(0), (by first | rfl | (simp; done) | (simp [*]; done)), H', ⟨Nat.le_refl _⟩, by repeat (first | exact Drawn0.refl _ | apply Drawn0.step)⟩
        case round =>
         clear H'
         try clear c1; try clear p1; try clear q1; try clear hx1; try clear qi1; try clear p2; try clear c3; try clear c4; try clear c4b0; try clear c6; try clear c6b0; try clear c7; try clear c7b0; try clear c7b1; try clear c8; try clear c8b0; try clear c8b1; try clear c8b2; try clear c9; try clear hx169_0; try clear hx170_0; try clear hx171_0; try clear p1; try clear p169; try clear p170; try clear p171; try clear p2; try clear q1; try clear q169; try clear q170; try clear q171
         obtain ⟨x4_3, rfl, HA, HK3, ⟨m3, rfl⟩⟩ := hrel
         cases gk with
         | zero => exact absurd HA.out (by simp [spec_l06Points.l1])
         | succ k3 =>
          have H := HA.out; clear HA
          simp only [spec_l06Points.l1] at H
          by_cases c10 : 0 ≤ x3_1
          ·
           rw [if_pos c10] at H; have c10b0 : decide (0 ≤ x3_1) = true := zR c10; clear c10
           by_cases c11 : x3_1 < (l0.length : Int)
           ·
            rw [if_pos c11] at H; have c11b0 : decide (x3_1 < (l0.length : Int)) = true := zR c11; clear c11
            by_cases c12 : x4_3 < (((rd_T110 l0 x3_1).f0).length : Int)
            ·
             rw [if_pos c12] at H; have c12b0 : decide (x4_3 < (((rd_T110 l0 x3_1).f0).length : Int)) = true := zR c12; clear c12
             by_cases c13 : 0 ≤ x4_3
             ·
              rw [if_pos c13] at H; have c13b0 : decide (0 ≤ x4_3) = true := zR c13; clear c13
              obtain ⟨t175, A140, H⟩ := zW_ H
              replace H : (if t175 = true then (spec_l06Points.l1 k3 l0 x3_1 (wrap64 (x4_3 + 1))) else (some false)) = some r := H
              have A14 := yD A140
              clear A140
              by_cases c15 : t175 = true
              ·
               subst c15
               have H1 : (spec_l06Points.l1 k3 l0 x3_1 (wrap64 (x4_3 + 1))) = some r := by rw [if_pos rfl] at H; exact H
               clear H; have H := H1; clear H1
               have H' := yD H
               clear H
               have p172 : 0 ≤ (x3_1 : Int) := zP (by assumption)
               have q172 : x3_1 < (l0.length : Int) := zP (by assumption)
               obtain ⟨ad172, A172_0, c172_0, e172, hx172_0, hl172_0, hi172_0⟩ := at_T110 HR0.out x3_1 p172 q172
               cases e172
               have HR172_0 := yD hi172_0
               have HC172_0 := yD hl172_0
               clear hi172_0 hl172_0; replace p172 := eq_true p172; replace q172 := eq_true q172
               have p173 : 0 ≤ (x3_1 : Int) := zP (by assumption)
               have q173 : x3_1 < (l0.length : Int) := zP (by assumption)
               obtain ⟨ad173, A173_0, c173_0, e173, hx173_0, hl173_0, hi173_0⟩ := at_T110 HR0.out x3_1 p173 q173
               obtain rfl : ad172 = ad173 := (by injection e173)
               have HR173_0 := yD hi173_0
               have HC173_0 := yD hl173_0
               clear hi173_0 hl173_0; replace p173 := eq_true p173; replace q173 := eq_true q173
               have ea_ := Option.some.inj (hx172_0.symm.trans hx173_0)
               injection ea_ with ea_ en_ ec_
               subst ea_; subst ec_; clear en_
               have p174 : 0 ≤ (x4_3 : Int) := zP (by assumption)
               have q174 : x4_3 < (((rd_T110 l0 x3_1).f0).length : Int) := zP (by assumption)
               obtain ⟨ad174, e174, hx174_0⟩ := Kd.at_int HR173_0.out x4_3 p174 q174
               cases e174; replace p174 := eq_true p174; replace q174 := eq_true q174
               go_wp2_with (first | (go_at_call 92; (with_reducible refine (spec_l00In.calls (rd ((rd_T110 l0 x3_1).f0) x4_3) 0 39 true _ A14.out).mono ?_); rintro e w' ⟨rfl, ⟨nd, rfl⟩⟩; (try first | exact ⟨rfl, _, World.drewN_drewN _ _ _⟩ | exact ⟨rfl, _, Eq.trans (World.drewN_drewN _ _ _) (congrArg (World.drewN _) (Nat.add_assoc _ _ _))⟩)))
               repeat (go_quiet (first | (go_at_call 92; (with_reducible refine (spec_l00In.calls (rd ((rd_T110 l0 x3_1).f0) x4_3) 0 39 true _ A14.out).mono ?_); rintro e w' ⟨rfl, ⟨nd, rfl⟩⟩; (try first | exact ⟨rfl, _, World.drewN_drewN _ _ _⟩ | exact ⟨rfl, _, Eq.trans (World.drewN_drewN _ _ _) (congrArg (World.drewN _) (Nat.add_assoc _ _ _))⟩))); try go_wp2_with (first | (go_at_call 92; (with_reducible refine (spec_l00In.calls (rd ((rd_T110 l0 x3_1).f0) x4_3) 0 39 true _ A14.out).mono ?_); rintro e w' ⟨rfl, ⟨nd, rfl⟩⟩; (try first | exact ⟨rfl, _, World.drewN_drewN _ _ _⟩ | exact ⟨rfl, _, Eq.trans (World.drewN_drewN _ _ _) (congrArg (World.drewN _) (Nat.add_assoc _ _ _))⟩))))
               go_roundg k3
               case measure => have := HK1.out; have := HJ4.out; have := HK3.out; omega
               case rel => exact ⟨(wrap64 (x4_3 + 1)), (by first | rfl | (simp; done) | (simp [*]; done)), H', ⟨by have := HK1.out; have := HJ4.out; have := HK3.out; omega⟩, by repeat (first | exact Drawn0.refl _ | apply Drawn0.step)⟩
              ·
               replace c15 := Bool.eq_false_iff.mpr c15
               subst c15
               have H1 : (some false) = some r := by rw [if_neg (show ¬ (false = true) by decide)] at H; exact H
               clear H; have H := H1; clear H1; obtain rfl := Option.some.inj H
               have p172 : 0 ≤ (x3_1 : Int) := zP (by assumption)
               have q172 : x3_1 < (l0.length : Int) := zP (by assumption)
               obtain ⟨ad172, A172_0, c172_0, e172, hx172_0, hl172_0, hi172_0⟩ := at_T110 HR0.out x3_1 p172 q172
               cases e172
               have HR172_0 := yD hi172_0
               have HC172_0 := yD hl172_0
               clear hi172_0 hl172_0; replace p172 := eq_true p172; replace q172 := eq_true q172
               have p173 : 0 ≤ (x3_1 : Int) := zP (by assumption)
               have q173 : x3_1 < (l0.length : Int) := zP (by assumption)
               obtain ⟨ad173, A173_0, c173_0, e173, hx173_0, hl173_0, hi173_0⟩ := at_T110 HR0.out x3_1 p173 q173
               obtain rfl : ad172 = ad173 := (by injection e173)
               have HR173_0 := yD hi173_0
               have HC173_0 := yD hl173_0
               clear hi173_0 hl173_0; replace p173 := eq_true p173; replace q173 := eq_true q173
               have ea_ := Option.some.inj (hx172_0.symm.trans hx173_0)
               injection ea_ with ea_ en_ ec_
               subst ea_; subst ec_; clear en_
               have p174 : 0 ≤ (x4_3 : Int) := zP (by assumption)
               have q174 : x4_3 < (((rd_T110 l0 x3_1).f0).length : Int) := zP (by assumption)
               obtain ⟨ad174, e174, hx174_0⟩ := Kd.at_int HR173_0.out x4_3 p174 q174
               cases e174; replace p174 := eq_true p174; replace q174 := eq_true q174
               go_wp2_with (first | (go_at_call 92; (with_reducible refine (spec_l00In.calls (rd ((rd_T110 l0 x3_1).f0) x4_3) 0 39 false _ A14.out).mono ?_); rintro e w' ⟨rfl, ⟨nd, rfl⟩⟩; (try first | exact ⟨rfl, _, World.drewN_drewN _ _ _⟩ | exact ⟨rfl, _, Eq.trans (World.drewN_drewN _ _ _) (congrArg (World.drewN _) (Nat.add_assoc _ _ _))⟩)))
               repeat (go_quiet (first | (go_at_call 92; (with_reducible refine (spec_l00In.calls (rd ((rd_T110 l0 x3_1).f0) x4_3) 0 39 false _ A14.out).mono ?_); rintro e w' ⟨rfl, ⟨nd, rfl⟩⟩; (try first | exact ⟨rfl, _, World.drewN_drewN _ _ _⟩ | exact ⟨rfl, _, Eq.trans (World.drewN_drewN _ _ _) (congrArg (World.drewN _) (Nat.add_assoc _ _ _))⟩))); try go_wp2_with (first | (go_at_call 92; (with_reducible refine (spec_l00In.calls (rd ((rd_T110 l0 x3_1).f0) x4_3) 0 39 false _ A14.out).mono ?_); rintro e w' ⟨rfl, ⟨nd, rfl⟩⟩; (try first | exact ⟨rfl, _, World.drewN_drewN _ _ _⟩ | exact ⟨rfl, _, Eq.trans (World.drewN_drewN _ _ _) (congrArg (World.drewN _) (Nat.add_assoc _ _ _))⟩))))
               go_ret
               exact ⟨by first | rfl | (simp; done) | (simp [*]; done), by repeat (first | exact Drawn0.refl _ | apply Drawn0.step)⟩
             ·
              rw [if_neg c13] at H
              exact absurd H (by simp)
            ·
             rw [if_neg c12] at H; have c12b0 : decide (x4_3 < (((rd_T110 l0 x3_1).f0).length : Int)) = false := zS c12; clear c12
             have H' := yD H
             clear H
             have p172 : 0 ≤ (x3_1 : Int) := zP (by assumption)
             have q172 : x3_1 < (l0.length : Int) := zP (by assumption)
             obtain ⟨ad172, A172_0, c172_0, e172, hx172_0, hl172_0, hi172_0⟩ := at_T110 HR0.out x3_1 p172 q172
             cases e172
             have HR172_0 := yD hi172_0
             have HC172_0 := yD hl172_0
             clear hi172_0 hl172_0; replace p172 := eq_true p172; replace q172 := eq_true q172
             go_wp2
             repeat (go_quiet (fail); try go_wp2)
             go_roundg k3
             case measure => have := HK1.out; have := HJ4.out; have := HK3.out; omega
             case rel => exact ⟨(wrap64 (x3_1 + 1)), (by first | rfl | (simp; done) | (simp [*]; done)), H', ⟨by have := HK1.out; have := HJ4.out; have := HK3.out; omega⟩, by repeat (first | exact Drawn0.refl _ | apply Drawn0.step)⟩
           ·
            rw [if_neg c11] at H
            exact absurd H (by simp)
          ·
           rw [if_neg c10] at H
           exact absurd H (by simp)
    ·
     rw [if_neg c4] at H; have c4b0 : decide (x3_1 < (l0.length : Int)) = false := zS c4; clear c4; obtain rfl := Option.some.inj H
     go_wp2
     repeat (go_quiet (fail); try go_wp2)
     go_ret
     exact ⟨by first | rfl | (simp; done) | (simp [*]; done), by repeat (first | exact Drawn0.refl _ | apply Drawn0.step)⟩
 ·
  replace c3 := Bool.eq_false_iff.mpr c3
  subst c3
  have H1 : (some false) = some r := by rw [if_neg (show ¬ (false = true) by decide)] at H; exact H
  clear H; have H := H1; clear H1; obtain rfl := Option.some.inj H; go_enter Try.func135, Try.ntmps135
  go_wp2_with (first | (go_at_call 92; (with_reducible refine (spec_l00In.calls (l0.length : Int) 1 24 false _ A2.out).mono ?_); rintro e w' ⟨rfl, ⟨nd, rfl⟩⟩; (try first | exact ⟨rfl, _, World.drewN_drewN _ _ _⟩ | exact ⟨rfl, _, Eq.trans (World.drewN_drewN _ _ _) (congrArg (World.drewN _) (Nat.add_assoc _ _ _))⟩)))
  repeat (go_quiet (first | (go_at_call 92; (with_reducible refine (spec_l00In.calls (l0.length : Int) 1 24 false _ A2.out).mono ?_); rintro e w' ⟨rfl, ⟨nd, rfl⟩⟩; (try first | exact ⟨rfl, _, World.drewN_drewN _ _ _⟩ | exact ⟨rfl, _, Eq.trans (World.drewN_drewN _ _ _) (congrArg (World.drewN _) (Nat.add_assoc _ _ _))⟩))); try go_wp2_with (first | (go_at_call 92; (with_reducible refine (spec_l00In.calls (l0.length : Int) 1 24 false _ A2.out).mono ?_); rintro e w' ⟨rfl, ⟨nd, rfl⟩⟩; (try first | exact ⟨rfl, _, World.drewN_drewN _ _ _⟩ | exact ⟨rfl, _, Eq.trans (World.drewN_drewN _ _ _) (congrArg (World.drewN _) (Nat.add_assoc _ _ _))⟩))))
  go_ret
  exact ⟨by first | rfl | (simp; done) | (simp [*]; done), by repeat (first | exact Drawn0.refl _ | apply Drawn0.step)⟩

/-! ### spec_l06Formed: function 110 -/
def spec_l06Formed.j0 : Nat → Int → Bool → Int → List Int → List Int → List Int → List Int → List (S110) → Option (Bool)
 | 0, _, _, _, _, _, _, _, _ => none
 | k + 1, x4, x5, x177000, x177001, x177002, x177003, x177004, x177005 => if x5 = true then ((spec_l06Plain.f x177000 x177001 x177002 x177003 x177004 x177005).bind fun t177 => (if t177 = true then (some ((x177005.length : Int) == 0)) else (some false))) else (if x4 = 3 then ((spec_l06Slab.f k x177000 x177001 x177002 x177003 x177004 x177005).bind fun t178 => (some t178)) else (if x4 = 4 then ((spec_l06Plain.f x177000 x177001 x177002 x177003 x177004 x177005).bind fun t179 => (if t179 = true then ((spec_l06Points.f k x177005).bind fun t180 => (some t180)) else (some false))) else (some false)))
def spec_l06Formed.f (k : Nat) (a0_0 : Int) (l0_1 : List Int) (l0_2 : List Int) (l0_3 : List Int) (l0_4 : List Int) (l0_5 : List (S110)) : Option (Bool) := if a0_0 = 1 then (spec_l06Formed.j0 k a0_0 (a0_0 == 1) a0_0 l0_1 l0_2 l0_3 l0_4 l0_5) else (spec_l06Formed.j0 k a0_0 (a0_0 == 2) a0_0 l0_1 l0_2 l0_3 l0_4 l0_5)
theorem spec_l06Formed.mono_l : ∀ k, (∀ y0 y1 y2 y3 y4 y5 y6 y7, LeO (spec_l06Formed.j0 k y0 y1 y2 y3 y4 y5 y6 y7) (spec_l06Formed.j0 (k + 1) y0 y1 y2 y3 y4 y5 y6 y7))
 | 0 => fun _ _ _ _ _ _ _ _ r h => by simp [spec_l06Formed.j0] at h
 | k + 1 => by
  have ih0 := spec_l06Formed.mono_l k
  ·
   intro y0 y1 y2 y3 y4 y5 y6 y7
   unfold spec_l06Formed.j0
   repeat' (with_reducible first | exact ih0 _ _ _ _ _ _ _ _ | exact spec_l06Points.mono _ _ | exact spec_l06Slab.mono _ _ _ _ _ _ _ | exact LeO.refl _ | exact LeO.none _ | refine LeO.ite ?_ ?_ | refine LeO.bind ?_ (fun _ => ?_))
theorem spec_l06Formed.mono : ∀ a0 a1 a2 a3 a4 a5 k, LeO (spec_l06Formed.f k a0 a1 a2 a3 a4 a5) (spec_l06Formed.f (k + 1) a0 a1 a2 a3 a4 a5) := by
 intro a0 a1 a2 a3 a4 a5 k
 have ih0 := spec_l06Formed.mono_l k
 unfold spec_l06Formed.f
 repeat' (with_reducible first | exact ih0 _ _ _ _ _ _ _ _ | exact spec_l06Points.mono _ _ | exact spec_l06Slab.mono _ _ _ _ _ _ _ | exact LeO.refl _ | exact LeO.none _ | refine LeO.ite ?_ ?_ | refine LeO.bind ?_ (fun _ => ?_))
set_option maxHeartbeats 8000000 in
set_option maxRecDepth 100000 in
theorem spec_l06Formed.calls (k : Nat) (a0_0 : Int) (A0_1 : Option Addr) (c0_1 : Nat) (l0_1 : List Int) (A0_2 : Option Addr) (c0_2 : Nat) (l0_2 : List Int) (A0_3 : Option Addr) (c0_3 : Nat) (l0_3 : List Int) (A0_4 : Option Addr) (c0_4 : Nat) (l0_4 : List Int) (A0_5 : Option Addr) (c0_5 : Nat) (l0_5 : List (S110)) (r : Bool) (w : World) (hr0_1 : Kd.C (Kd.int .i64) w A0_1 l0_1.length l0_1) (hc0_1 : l0_1.length ≤ c0_1) (hr0_2 : Kd.C (Kd.int .i64) w A0_2 l0_2.length l0_2) (hc0_2 : l0_2.length ≤ c0_2) (hr0_3 : Kd.C (Kd.int .i64) w A0_3 l0_3.length l0_3) (hc0_3 : l0_3.length ≤ c0_3) (hr0_4 : Kd.C (Kd.int .i64) w A0_4 l0_4.length l0_4) (hc0_4 : l0_4.length ≤ c0_4) (hr0_5 : Kd.C k110 w A0_5 l0_5.length l0_5) (hc0_5 : l0_5.length ≤ c0_5) (h : spec_l06Formed.f k a0_0 l0_1 l0_2 l0_3 l0_4 l0_5 = some r) :
 Calls Try.prog 110 #[.agg #[.int .i64 a0_0, .slice A0_1 l0_1.length c0_1, .slice A0_2 l0_2.length c0_2, .slice A0_3 l0_3.length c0_3, .slice A0_4 l0_4.length c0_4, .slice A0_5 l0_5.length c0_5]] w fun e w' => e = .returned (.bool r) ∧ Below w.heap.size w w' := by
 have hu55 := Try.underlying55
 have HR0_1 := yD hr0_1
 have HC0_1 := yD hc0_1
 clear hr0_1 hc0_1
 have HR0_2 := yD hr0_2
 have HC0_2 := yD hc0_2
 clear hr0_2 hc0_2
 have HR0_3 := yD hr0_3
 have HC0_3 := yD hc0_3
 clear hr0_3 hc0_3
 have HR0_4 := yD hr0_4
 have HC0_4 := yD hc0_4
 clear hr0_4 hc0_4
 have HR0_5 := yD hr0_5
 have HC0_5 := yD hc0_5
 clear hr0_5 hc0_5
 have HB := yD (Below.refl w.heap.size w)
 have H : (if a0_0 = 1 then (spec_l06Formed.j0 k a0_0 (a0_0 == 1) a0_0 l0_1 l0_2 l0_3 l0_4 l0_5) else (spec_l06Formed.j0 k a0_0 (a0_0 == 2) a0_0 l0_1 l0_2 l0_3 l0_4 l0_5)) = some r := h
 clear h
 have HC2 := yD H
 clear H; go_enter Try.func110, Try.ntmps110
 go_upto_if 5 with (first | ((with_reducible refine gate_dst (N := 1) rfl ?_); (try (refine gate_guard (by rfl) ?_; dsimp only)); refine box_event ?hg (N := 1) ?hd (cs := #[.int .i64 a0_0, .slice A0_1 l0_1.length c0_1, .slice A0_2 l0_2.length c0_2, .slice A0_3 l0_3.length c0_3, .slice A0_4 l0_4.length c0_4, .slice A0_5 l0_5.length c0_5]) (t := 55) ?hr ?_; (case hd => rfl); (case hg => rfl); (case hr => first | (go_simp; done) | (go_simp; rfl)); intro gb176 hg w3 hbox hb; have n0_ := yD (zC (kB HB) hb); have n1_ := yD (hbox); have n2_ := yD ((by rw [hg]; exact (below_size (kB HB)) : w.heap.size ≤ gb176)); have n3_ := yD ((by rw [hg]; exact (below_size (kB HB)) : w.heap.size ≤ gb176)); clear HB; have HB := n0_; have BK176 := n1_; have GW176 := n2_; have GE176 := n3_; clear n0_ n1_ n2_ n3_; clear hb hbox hg; obtain ⟨hcz4_0, hcz4_1, hcz4_2, hcz4_3, hcz4_4, hcz4_5⟩ := cz6 BK176.out; obtain ⟨hfz4_0, hfz4_1, hfz4_2, hfz4_3, hfz4_4, hfz4_5⟩ := fz6 BK176.out))
 (try simp only [Act.put, zH, zI, zJ])
 go_cut [5] (fun v5 wc => ∃ (kq : Nat) (x5_1 : Bool), v5 = .bool x5_1 ∧ Aside0 (spec_l06Formed.j0 kq a0_0 x5_1 a0_0 l0_1 l0_2 l0_3 l0_4 l0_5 = some r) ∧ Aside0 (kq ≤ k) ∧ Aside0 (wc.heap[gb176]? = some (.cells #[.int .i64 a0_0, (.slice A0_1 l0_1.length c0_1), (.slice A0_2 l0_2.length c0_2), (.slice A0_3 l0_3.length c0_3), (.slice A0_4 l0_4.length c0_4), (.slice A0_5 l0_5.length c0_5)] 55 (0, 0))) ∧ Aside0 (Below w.heap.size w wc))
 case first =>
  have H := HC2.out; clear HC2
  by_cases c5 : a0_0 = 1
  ·
   rw [if_pos c5] at H
   have c5b0 : (a0_0 == 1) = true := beq_iff_eq.mpr c5
   have c5b1 : (a0_0 != 1) = false := bne_eq_false_iff_eq.mpr c5
   clear c5
   (first | rw [c5b0] | (simp only [i64_w, i32_w]; rw [c5b0]) | (simp only [bne] at c5b0; rw [c5b0]) | skip)
   have H' := yD H
   clear H
   go_wp2
   go_meet
   case rel => exact ⟨_, ((a0_0 == 1)), (by first | rfl | (simp; done) | (simp [*]; done)), H', ⟨by first | omega | exact Nat.le_refl _⟩, ⟨by (with_reducible repeat (first | refine yM ?_ _ | refine yO ?_ | refine yN ?_ _)); exact BK176.out⟩, ⟨kR0 HB⟩⟩
  ·
   rw [if_neg c5] at H
   have c5b0 : (a0_0 == 1) = false := beq_eq_false_iff_ne.mpr c5
   have c5b1 : (a0_0 != 1) = true := bne_iff_ne.mpr c5
   (first | rw [c5b0] | (simp only [i64_w, i32_w]; rw [c5b0]) | (simp only [bne] at c5b0; rw [c5b0]) | skip)
   have H' := yD H
   clear H
   go_wp2
   go_meet
   case rel => exact ⟨_, ((a0_0 == 2)), (by first | rfl | (simp; done) | (simp [*]; done)), H', ⟨by first | omega | exact Nat.le_refl _⟩, ⟨by (with_reducible repeat (first | refine yM ?_ _ | refine yO ?_ | refine yN ?_ _)); exact BK176.out⟩, ⟨kR0 HB⟩⟩
 case rest =>
  clear HC2; try clear c1; try clear p2; try clear c5; try clear c5b0; try clear c5b1; try clear hcz4_0; try clear hcz4_1; try clear hcz4_2; try clear hcz4_3; try clear hcz4_4; try clear hcz4_5; try clear hfz4_0; try clear hfz4_1; try clear hfz4_2; try clear hfz4_3; try clear hfz4_4; try clear hfz4_5
  obtain ⟨kq, x5_1, rfl, HA, HJ1, BK176, HB⟩ := hcut
  cases kq with
  | zero => exact absurd HA.out (by simp [spec_l06Formed.j0])
  | succ kj1 =>
   have H := HA.out; clear HA
   simp only [spec_l06Formed.j0] at H
   by_cases c6 : x5_1 = true
   ·
    subst c6
    have H1 : ((spec_l06Plain.f a0_0 l0_1 l0_2 l0_3 l0_4 l0_5).bind fun t177 => (if t177 = true then (some ((l0_5.length : Int) == 0)) else (some false))) = some r := by rw [if_pos rfl] at H; exact H
    clear H; have H := H1; clear H1
    obtain ⟨t177, A70, H⟩ := zW_ H
    replace H : (if t177 = true then (some ((l0_5.length : Int) == 0)) else (some false)) = some r := H
    have A7 := yD A70
    clear A70
    by_cases c8 : t177 = true
    ·
     subst c8
     have H1 : (some ((l0_5.length : Int) == 0)) = some r := by rw [if_pos rfl] at H; exact H
     clear H; have H := H1; clear H1; obtain rfl := Option.some.inj H
     obtain ⟨hcz9_0, hcz9_1, hcz9_2, hcz9_3, hcz9_4, hcz9_5⟩ := cz6 BK176.out
     obtain ⟨hfz9_0, hfz9_1, hfz9_2, hfz9_3, hfz9_4, hfz9_5⟩ := fz6 BK176.out
     go_wp2_with (first | ((with_reducible refine gate_callee (f := 133) rfl ?_); refine gL 9 Try.func133 #[.agg #[.int .i64 a0_0, .slice A0_1 l0_1.length c0_1, .slice A0_2 l0_2.length c0_2, .slice A0_3 l0_3.length c0_3, .slice A0_4 l0_4.length c0_4, .slice A0_5 l0_5.length c0_5]] ?_; (with_reducible refine (spec_l06Plain.calls a0_0 _ _ l0_1 _ _ l0_2 _ _ l0_3 _ _ l0_4 _ _ l0_5 true _ ?side1 ?side2 ?side3 ?side4 ?side5 ?side6 ?side7 ?side8 ?side9 ?side10 A7.out).mono ?_); (case side1 => exact kV (yY HR0_1.out HB.out)); (case side2 => exact HC0_1.out); (case side3 => exact kV (yY HR0_2.out HB.out)); (case side4 => exact HC0_2.out); (case side5 => exact kV (yY HR0_3.out HB.out)); (case side6 => exact HC0_3.out); (case side7 => exact kV (yY HR0_4.out HB.out)); (case side8 => exact HC0_4.out); (case side9 => exact kV (yY HR0_5.out HB.out)); (case side10 => exact HC0_5.out); rintro e w10 ⟨rfl, hb⟩; refine ⟨_, rfl, ?_⟩; have n0_ := yD (zB (kN BK176) hb); have n1_ := yD (zC (kB HB) hb); clear BK176; clear HB; have BK176 := n0_; have HB := n1_; clear n0_ n1_; (try clear hb); (try clear hb2); (try clear hk); (try clear hi); obtain ⟨hcz11_0, hcz11_1, hcz11_2, hcz11_3, hcz11_4, hcz11_5⟩ := cz6 BK176.out; obtain ⟨hfz11_0, hfz11_1, hfz11_2, hfz11_3, hfz11_4, hfz11_5⟩ := fz6 BK176.out))
     go_ret
     exact ⟨by first | rfl | (simp <;> rfl) | (simp [*] <;> rfl), kR0 HB⟩
    ·
     replace c8 := Bool.eq_false_iff.mpr c8
     subst c8
     have H1 : (some false) = some r := by rw [if_neg (show ¬ (false = true) by decide)] at H; exact H
     clear H; have H := H1; clear H1; obtain rfl := Option.some.inj H
     obtain ⟨hcz12_0, hcz12_1, hcz12_2, hcz12_3, hcz12_4, hcz12_5⟩ := cz6 BK176.out
     obtain ⟨hfz12_0, hfz12_1, hfz12_2, hfz12_3, hfz12_4, hfz12_5⟩ := fz6 BK176.out
     go_wp2_with (first | ((with_reducible refine gate_callee (f := 133) rfl ?_); refine gL 9 Try.func133 #[.agg #[.int .i64 a0_0, .slice A0_1 l0_1.length c0_1, .slice A0_2 l0_2.length c0_2, .slice A0_3 l0_3.length c0_3, .slice A0_4 l0_4.length c0_4, .slice A0_5 l0_5.length c0_5]] ?_; (with_reducible refine (spec_l06Plain.calls a0_0 _ _ l0_1 _ _ l0_2 _ _ l0_3 _ _ l0_4 _ _ l0_5 false _ ?side1 ?side2 ?side3 ?side4 ?side5 ?side6 ?side7 ?side8 ?side9 ?side10 A7.out).mono ?_); (case side1 => exact kV (yY HR0_1.out HB.out)); (case side2 => exact HC0_1.out); (case side3 => exact kV (yY HR0_2.out HB.out)); (case side4 => exact HC0_2.out); (case side5 => exact kV (yY HR0_3.out HB.out)); (case side6 => exact HC0_3.out); (case side7 => exact kV (yY HR0_4.out HB.out)); (case side8 => exact HC0_4.out); (case side9 => exact kV (yY HR0_5.out HB.out)); (case side10 => exact HC0_5.out); rintro e w13 ⟨rfl, hb⟩; refine ⟨_, rfl, ?_⟩; have n0_ := yD (zB (kN BK176) hb); have n1_ := yD (zC (kB HB) hb); clear BK176; clear HB; have BK176 := n0_; have HB := n1_; clear n0_ n1_; (try clear hb); (try clear hb2); (try clear hk); (try clear hi)))
     go_ret
     exact ⟨by first | rfl | (simp <;> rfl) | (simp [*] <;> rfl), kR0 HB⟩
   ·
    replace c6 := Bool.eq_false_iff.mpr c6
    subst c6
    have H1 : (if a0_0 = 3 then ((spec_l06Slab.f kj1 a0_0 l0_1 l0_2 l0_3 l0_4 l0_5).bind fun t178 => (some t178)) else (if a0_0 = 4 then ((spec_l06Plain.f a0_0 l0_1 l0_2 l0_3 l0_4 l0_5).bind fun t179 => (if t179 = true then ((spec_l06Points.f kj1 l0_5).bind fun t180 => (some t180)) else (some false))) else (some false))) = some r := by rw [if_neg (show ¬ (false = true) by decide)] at H; exact H
    clear H; have H := H1; clear H1
    by_cases c14 : a0_0 = 3
    ·
     rw [if_pos c14] at H
     have c14b0 : (a0_0 == 3) = true := beq_iff_eq.mpr c14
     have c14b1 : (a0_0 != 3) = false := bne_eq_false_iff_eq.mpr c14
     clear c14
     obtain ⟨t178, A150, H⟩ := zW_ H
     replace H : (some t178) = some r := H
     have A15 := yD A150
     clear A150; obtain rfl := Option.some.inj H
     obtain ⟨hcz16_0, hcz16_1, hcz16_2, hcz16_3, hcz16_4, hcz16_5⟩ := cz6 BK176.out
     obtain ⟨hfz16_0, hfz16_1, hfz16_2, hfz16_3, hfz16_4, hfz16_5⟩ := fz6 BK176.out
     go_wp2_with (first | ((with_reducible refine gate_callee (f := 134) rfl ?_); refine gL 19 Try.func134 #[.agg #[.int .i64 a0_0, .slice A0_1 l0_1.length c0_1, .slice A0_2 l0_2.length c0_2, .slice A0_3 l0_3.length c0_3, .slice A0_4 l0_4.length c0_4, .slice A0_5 l0_5.length c0_5]] ?_; (with_reducible refine (spec_l06Slab.calls kj1 a0_0 _ _ l0_1 _ _ l0_2 _ _ l0_3 _ _ l0_4 _ _ l0_5 t178 _ ?side1 ?side2 ?side3 ?side4 ?side5 ?side6 ?side7 ?side8 ?side9 ?side10 A15.out).mono ?_); (case side1 => exact kV (yY HR0_1.out HB.out)); (case side2 => exact HC0_1.out); (case side3 => exact kV (yY HR0_2.out HB.out)); (case side4 => exact HC0_2.out); (case side5 => exact kV (yY HR0_3.out HB.out)); (case side6 => exact HC0_3.out); (case side7 => exact kV (yY HR0_4.out HB.out)); (case side8 => exact HC0_4.out); (case side9 => exact kV (yY HR0_5.out HB.out)); (case side10 => exact HC0_5.out); rintro e w17 ⟨rfl, hb⟩; refine ⟨_, rfl, ?_⟩; have n0_ := yD (zB (kN BK176) hb); have n1_ := yD (zC (kB HB) hb); clear BK176; clear HB; have BK176 := n0_; have HB := n1_; clear n0_ n1_; (try clear hb); (try clear hb2); (try clear hk); (try clear hi)))
     go_ret
     exact ⟨by first | rfl | (simp <;> rfl) | (simp [*] <;> rfl), kR0 HB⟩
    ·
     rw [if_neg c14] at H
     have c14b0 : (a0_0 == 3) = false := beq_eq_false_iff_ne.mpr c14
     have c14b1 : (a0_0 != 3) = true := bne_iff_ne.mpr c14
     by_cases c18 : a0_0 = 4
     ·
      rw [if_pos c18] at H
      have c18b0 : (a0_0 == 4) = true := beq_iff_eq.mpr c18
      have c18b1 : (a0_0 != 4) = false := bne_eq_false_iff_eq.mpr c18
      clear c18
      obtain ⟨t179, A190, H⟩ := zW_ H
      replace H : (if t179 = true then ((spec_l06Points.f kj1 l0_5).bind fun t180 => (some t180)) else (some false)) = some r := H
      have A19 := yD A190
      clear A190
      by_cases c20 : t179 = true
      ·
       subst c20
       have H1 : ((spec_l06Points.f kj1 l0_5).bind fun t180 => (some t180)) = some r := by rw [if_pos rfl] at H; exact H
       clear H; have H := H1; clear H1
       obtain ⟨t180, A210, H⟩ := zW_ H
       replace H : (some t180) = some r := H
       have A21 := yD A210
       clear A210; obtain rfl := Option.some.inj H
       obtain ⟨hcz22_0, hcz22_1, hcz22_2, hcz22_3, hcz22_4, hcz22_5⟩ := cz6 BK176.out
       obtain ⟨hfz22_0, hfz22_1, hfz22_2, hfz22_3, hfz22_4, hfz22_5⟩ := fz6 BK176.out
       go_wp2_with (first | ((with_reducible refine gate_callee (f := 133) rfl ?_); refine gL 23 Try.func133 #[.agg #[.int .i64 a0_0, .slice A0_1 l0_1.length c0_1, .slice A0_2 l0_2.length c0_2, .slice A0_3 l0_3.length c0_3, .slice A0_4 l0_4.length c0_4, .slice A0_5 l0_5.length c0_5]] ?_; (with_reducible refine (spec_l06Plain.calls a0_0 _ _ l0_1 _ _ l0_2 _ _ l0_3 _ _ l0_4 _ _ l0_5 true _ ?side1 ?side2 ?side3 ?side4 ?side5 ?side6 ?side7 ?side8 ?side9 ?side10 A19.out).mono ?_); (case side1 => exact kV (yY HR0_1.out HB.out)); (case side2 => exact HC0_1.out); (case side3 => exact kV (yY HR0_2.out HB.out)); (case side4 => exact HC0_2.out); (case side5 => exact kV (yY HR0_3.out HB.out)); (case side6 => exact HC0_3.out); (case side7 => exact kV (yY HR0_4.out HB.out)); (case side8 => exact HC0_4.out); (case side9 => exact kV (yY HR0_5.out HB.out)); (case side10 => exact HC0_5.out); rintro e w23 ⟨rfl, hb⟩; refine ⟨_, rfl, ?_⟩; have n0_ := yD (zB (kN BK176) hb); have n1_ := yD (zC (kB HB) hb); clear BK176; clear HB; have BK176 := n0_; have HB := n1_; clear n0_ n1_; (try clear hb); (try clear hb2); (try clear hk); (try clear hi); obtain ⟨hcz24_0, hcz24_1, hcz24_2, hcz24_3, hcz24_4, hcz24_5⟩ := cz6 BK176.out; obtain ⟨hfz24_0, hfz24_1, hfz24_2, hfz24_3, hfz24_4, hfz24_5⟩ := fz6 BK176.out) | (go_at_call 135; (with_reducible refine (spec_l06Points.calls kj1 _ _ l0_5 t180 _ ?side1 ?side2 A21.out).mono ?_); (case side1 => exact kV (yY HR0_5.out HB.out)); (case side2 => exact HC0_5.out); rintro e w' ⟨rfl, ⟨nd, rfl⟩⟩))
       go_ret
       exact ⟨by first | rfl | (simp <;> rfl) | (simp [*] <;> rfl), kR0 HB⟩
      ·
       replace c20 := Bool.eq_false_iff.mpr c20
       subst c20
       have H1 : (some false) = some r := by rw [if_neg (show ¬ (false = true) by decide)] at H; exact H
       clear H; have H := H1; clear H1; obtain rfl := Option.some.inj H
       obtain ⟨hcz25_0, hcz25_1, hcz25_2, hcz25_3, hcz25_4, hcz25_5⟩ := cz6 BK176.out
       obtain ⟨hfz25_0, hfz25_1, hfz25_2, hfz25_3, hfz25_4, hfz25_5⟩ := fz6 BK176.out
       go_wp2_with (first | ((with_reducible refine gate_callee (f := 133) rfl ?_); refine gL 23 Try.func133 #[.agg #[.int .i64 a0_0, .slice A0_1 l0_1.length c0_1, .slice A0_2 l0_2.length c0_2, .slice A0_3 l0_3.length c0_3, .slice A0_4 l0_4.length c0_4, .slice A0_5 l0_5.length c0_5]] ?_; (with_reducible refine (spec_l06Plain.calls a0_0 _ _ l0_1 _ _ l0_2 _ _ l0_3 _ _ l0_4 _ _ l0_5 false _ ?side1 ?side2 ?side3 ?side4 ?side5 ?side6 ?side7 ?side8 ?side9 ?side10 A19.out).mono ?_); (case side1 => exact kV (yY HR0_1.out HB.out)); (case side2 => exact HC0_1.out); (case side3 => exact kV (yY HR0_2.out HB.out)); (case side4 => exact HC0_2.out); (case side5 => exact kV (yY HR0_3.out HB.out)); (case side6 => exact HC0_3.out); (case side7 => exact kV (yY HR0_4.out HB.out)); (case side8 => exact HC0_4.out); (case side9 => exact kV (yY HR0_5.out HB.out)); (case side10 => exact HC0_5.out); rintro e w26 ⟨rfl, hb⟩; refine ⟨_, rfl, ?_⟩; have n0_ := yD (zB (kN BK176) hb); have n1_ := yD (zC (kB HB) hb); clear BK176; clear HB; have BK176 := n0_; have HB := n1_; clear n0_ n1_; (try clear hb); (try clear hb2); (try clear hk); (try clear hi)))
       go_ret
       exact ⟨by first | rfl | (simp <;> rfl) | (simp [*] <;> rfl), kR0 HB⟩
     ·
      rw [if_neg c18] at H
      have c18b0 : (a0_0 == 4) = false := beq_eq_false_iff_ne.mpr c18
      have c18b1 : (a0_0 != 4) = true := bne_iff_ne.mpr c18
      obtain rfl := Option.some.inj H
      go_wp2
      go_ret
      exact ⟨by first | rfl | (simp <;> rfl) | (simp [*] <;> rfl), kR0 HB⟩

/-! ### spec_l05Inside: function 94 -/
def spec_l05Inside.l0 : Nat → List Int → List Int → Int → Option (Bool)
 | 0, _, _, _ => none
 | k + 1, x0, x1, x5 => if x5 < (x1.length : Int) then (if 0 ≤ x5 then (if x5 < (x0.length : Int) then ((spec_l00In.f (rd x1 x5) 0 (wrap64 ((rd x0 x5) - 1))).bind fun t183 => (if t183 = true then (spec_l05Inside.l0 k x0 x1 (wrap64 (x5 + 1))) else (some false))) else (none)) else (none)) else (some true)
def spec_l05Inside.f (k : Nat) (l0 : List Int) (l1 : List Int) : Option (Bool) := if (l1.length : Int) = (l0.length : Int) then (spec_l05Inside.l0 k l0 l1 0) else (some false)
theorem spec_l05Inside.mono_l : ∀ k, (∀ y0 y1 y2, LeO (spec_l05Inside.l0 k y0 y1 y2) (spec_l05Inside.l0 (k + 1) y0 y1 y2))
 | 0 => fun _ _ _ r h => by simp [spec_l05Inside.l0] at h
 | k + 1 => by
  have ih0 := spec_l05Inside.mono_l k
  ·
   intro y0 y1 y2
   unfold spec_l05Inside.l0
   repeat' (with_reducible first | exact ih0 _ _ _ | exact LeO.refl _ | exact LeO.none _ | refine LeO.ite ?_ ?_ | refine LeO.bind ?_ (fun _ => ?_))
theorem spec_l05Inside.mono : ∀ a0 a1 k, LeO (spec_l05Inside.f k a0 a1) (spec_l05Inside.f (k + 1) a0 a1) := by
 intro a0 a1 k
 have ih0 := spec_l05Inside.mono_l k
 unfold spec_l05Inside.f
 repeat' (with_reducible first | exact ih0 _ _ _ | exact LeO.refl _ | exact LeO.none _ | refine LeO.ite ?_ ?_ | refine LeO.bind ?_ (fun _ => ?_))
set_option maxHeartbeats 8000000 in
set_option maxRecDepth 100000 in
theorem spec_l05Inside.calls (k : Nat) (A0 : Option Addr) (c0 : Nat) (l0 : List Int) (A1 : Option Addr) (c1 : Nat) (l1 : List Int) (r : Bool) (w : World) (hr0 : Kd.C (Kd.int .i64) w A0 l0.length l0) (hc0 : l0.length ≤ c0) (hr1 : Kd.C (Kd.int .i64) w A1 l1.length l1) (hc1 : l1.length ≤ c1) (h : spec_l05Inside.f k l0 l1 = some r) :
 Calls Try.prog 94 #[.slice A0 l0.length c0, .slice A1 l1.length c1] w fun e w' => e = .returned (.bool r) ∧ Drawn0 w w' := by
 have HR0 := yD hr0
 have HC0 := yD hc0
 clear hr0 hc0
 have HR1 := yD hr1
 have HC1 := yD hc1
 clear hr1 hc1
 have H : (if (l1.length : Int) = (l0.length : Int) then (spec_l05Inside.l0 k l0 l1 0) else (some false)) = some r := h
 clear h
 by_cases c3 : (l1.length : Int) = (l0.length : Int)
 ·
  rw [if_pos c3] at H
  have c3b0 : ((l1.length : Int) == (l0.length : Int)) = true := beq_iff_eq.mpr c3
  have c3b1 : ((l1.length : Int) != (l0.length : Int)) = false := bne_eq_false_iff_eq.mpr c3
  have c3b2 : (l1.length == l0.length) = true := by first | simpa using c3 | (simp at c3 ⊢; omega)
  clear c3
  have H' := yD H
  clear H; go_enter Try.func94, Try.ntmps94
  go_wp2
  repeat (go_quiet (fail); try go_wp2)
  go_loopg [5] k (fun kq v5 w' => ∃ (x5_1 : Int), v5 = .int .i64 x5_1 ∧ Aside0 (spec_l05Inside.l0 kq l0 l1 x5_1 = some r) ∧ Aside0 (kq ≤ k) ∧ Drawn0 w w')
  case atStart => exact ⟨(0), (by first | rfl | (simp; done) | (simp [*]; done)), H', ⟨Nat.le_refl _⟩, by repeat (first | exact Drawn0.refl _ | apply Drawn0.step)⟩
  case round =>
   clear H'
   try clear c1; try clear p2; try clear c3; try clear c3b0; try clear c3b1; try clear c3b2
   obtain ⟨x5_1, rfl, HA, HK1, ⟨m1, rfl⟩⟩ := hrel
   cases gk with
   | zero => exact absurd HA.out (by simp [spec_l05Inside.l0])
   | succ k1 =>
    have H := HA.out; clear HA
    simp only [spec_l05Inside.l0] at H
    by_cases c4 : x5_1 < (l1.length : Int)
    ·
     rw [if_pos c4] at H; have c4b0 : decide (x5_1 < (l1.length : Int)) = true := zR c4; clear c4
     by_cases c5 : 0 ≤ x5_1
     ·
      rw [if_pos c5] at H; have c5b0 : decide (0 ≤ x5_1) = true := zR c5; clear c5
      by_cases c6 : x5_1 < (l0.length : Int)
      ·
       rw [if_pos c6] at H; have c6b0 : decide (x5_1 < (l0.length : Int)) = true := zR c6; clear c6
       obtain ⟨t183, A70, H⟩ := zW_ H
       replace H : (if t183 = true then (spec_l05Inside.l0 k1 l0 l1 (wrap64 (x5_1 + 1))) else (some false)) = some r := H
       have A7 := yD A70
       clear A70
       by_cases c8 : t183 = true
       ·
        subst c8
        have H1 : (spec_l05Inside.l0 k1 l0 l1 (wrap64 (x5_1 + 1))) = some r := by rw [if_pos rfl] at H; exact H
        clear H; have H := H1; clear H1
        have H' := yD H
        clear H
        have p181 : 0 ≤ (x5_1 : Int) := zP (by assumption)
        have q181 : x5_1 < (l1.length : Int) := zP (by assumption)
        obtain ⟨ad181, e181, hx181_0⟩ := Kd.at_int HR1.out x5_1 p181 q181
        cases e181; replace p181 := eq_true p181; replace q181 := eq_true q181
        have p182 : 0 ≤ (x5_1 : Int) := zP (by assumption)
        have q182 : x5_1 < (l0.length : Int) := zP (by assumption)
        obtain ⟨ad182, e182, hx182_0⟩ := Kd.at_int HR0.out x5_1 p182 q182
        cases e182; replace p182 := eq_true p182; replace q182 := eq_true q182
        go_wp2_with (first | (go_at_call 92; (with_reducible refine (spec_l00In.calls (rd l1 x5_1) 0 (wrap64 ((rd l0 x5_1) - 1)) true _ A7.out).mono ?_); rintro e w' ⟨rfl, ⟨nd, rfl⟩⟩; (try first | exact ⟨rfl, _, World.drewN_drewN _ _ _⟩ | exact ⟨rfl, _, Eq.trans (World.drewN_drewN _ _ _) (congrArg (World.drewN _) (Nat.add_assoc _ _ _))⟩)))
        repeat (go_quiet (first | (go_at_call 92; (with_reducible refine (spec_l00In.calls (rd l1 x5_1) 0 (wrap64 ((rd l0 x5_1) - 1)) true _ A7.out).mono ?_); rintro e w' ⟨rfl, ⟨nd, rfl⟩⟩; (try first | exact ⟨rfl, _, World.drewN_drewN _ _ _⟩ | exact ⟨rfl, _, Eq.trans (World.drewN_drewN _ _ _) (congrArg (World.drewN _) (Nat.add_assoc _ _ _))⟩))); try go_wp2_with (first | (go_at_call 92; (with_reducible refine (spec_l00In.calls (rd l1 x5_1) 0 (wrap64 ((rd l0 x5_1) - 1)) true _ A7.out).mono ?_); rintro e w' ⟨rfl, ⟨nd, rfl⟩⟩; (try first | exact ⟨rfl, _, World.drewN_drewN _ _ _⟩ | exact ⟨rfl, _, Eq.trans (World.drewN_drewN _ _ _) (congrArg (World.drewN _) (Nat.add_assoc _ _ _))⟩))))
        go_roundg k1
        case measure => have := HK1.out; omega
        case rel => exact ⟨(wrap64 (x5_1 + 1)), (by first | rfl | (simp; done) | (simp [*]; done)), H', ⟨by have := HK1.out; omega⟩, by repeat (first | exact Drawn0.refl _ | apply Drawn0.step)⟩
       ·
        replace c8 := Bool.eq_false_iff.mpr c8
        subst c8
        have H1 : (some false) = some r := by rw [if_neg (show ¬ (false = true) by decide)] at H; exact H
        clear H; have H := H1; clear H1; obtain rfl := Option.some.inj H
        have p181 : 0 ≤ (x5_1 : Int) := zP (by assumption)
        have q181 : x5_1 < (l1.length : Int) := zP (by assumption)
        obtain ⟨ad181, e181, hx181_0⟩ := Kd.at_int HR1.out x5_1 p181 q181
        cases e181; replace p181 := eq_true p181; replace q181 := eq_true q181
        have p182 : 0 ≤ (x5_1 : Int) := zP (by assumption)
        have q182 : x5_1 < (l0.length : Int) := zP (by assumption)
        obtain ⟨ad182, e182, hx182_0⟩ := Kd.at_int HR0.out x5_1 p182 q182
        cases e182; replace p182 := eq_true p182; replace q182 := eq_true q182
        go_wp2_with (first | (go_at_call 92; (with_reducible refine (spec_l00In.calls (rd l1 x5_1) 0 (wrap64 ((rd l0 x5_1) - 1)) false _ A7.out).mono ?_); rintro e w' ⟨rfl, ⟨nd, rfl⟩⟩; (try first | exact ⟨rfl, _, World.drewN_drewN _ _ _⟩ | exact ⟨rfl, _, Eq.trans (World.drewN_drewN _ _ _) (congrArg (World.drewN _) (Nat.add_assoc _ _ _))⟩)))
        repeat (go_quiet (first | (go_at_call 92; (with_reducible refine (spec_l00In.calls (rd l1 x5_1) 0 (wrap64 ((rd l0 x5_1) - 1)) false _ A7.out).mono ?_); rintro e w' ⟨rfl, ⟨nd, rfl⟩⟩; (try first | exact ⟨rfl, _, World.drewN_drewN _ _ _⟩ | exact ⟨rfl, _, Eq.trans (World.drewN_drewN _ _ _) (congrArg (World.drewN _) (Nat.add_assoc _ _ _))⟩))); try go_wp2_with (first | (go_at_call 92; (with_reducible refine (spec_l00In.calls (rd l1 x5_1) 0 (wrap64 ((rd l0 x5_1) - 1)) false _ A7.out).mono ?_); rintro e w' ⟨rfl, ⟨nd, rfl⟩⟩; (try first | exact ⟨rfl, _, World.drewN_drewN _ _ _⟩ | exact ⟨rfl, _, Eq.trans (World.drewN_drewN _ _ _) (congrArg (World.drewN _) (Nat.add_assoc _ _ _))⟩))))
        go_ret
        exact ⟨by first | rfl | (simp; done) | (simp [*]; done), by repeat (first | exact Drawn0.refl _ | apply Drawn0.step)⟩
      ·
       rw [if_neg c6] at H
       exact absurd H (by simp)
     ·
      rw [if_neg c5] at H
      exact absurd H (by simp)
    ·
     rw [if_neg c4] at H; have c4b0 : decide (x5_1 < (l1.length : Int)) = false := zS c4; clear c4; obtain rfl := Option.some.inj H
     go_wp2
     repeat (go_quiet (fail); try go_wp2)
     go_ret
     exact ⟨by first | rfl | (simp; done) | (simp [*]; done), by repeat (first | exact Drawn0.refl _ | apply Drawn0.step)⟩
 ·
  rw [if_neg c3] at H
  have c3b0 : ((l1.length : Int) == (l0.length : Int)) = false := beq_eq_false_iff_ne.mpr c3
  have c3b1 : ((l1.length : Int) != (l0.length : Int)) = true := bne_iff_ne.mpr c3
  have c3b2 : (l1.length == l0.length) = false := by first | simpa using c3 | (simp at c3 ⊢; omega)
  obtain rfl := Option.some.inj H; go_enter Try.func94, Try.ntmps94
  go_wp2
  repeat (go_quiet (fail); try go_wp2)
  go_ret
  exact ⟨by first | rfl | (simp; done) | (simp [*]; done), by repeat (first | exact Drawn0.refl _ | apply Drawn0.step)⟩

end Go.Proofs.Ytdiaebjbiddefaa.PFnExactSelectedIndices
