/- Each Go function here comes to what the plain function of its name says, where that says something. Made by a program of this session, over the print. -/
import Derived.Test.YtobdoafjlbifpaaPFnExactFormedSelectionx0
import Derived.Test.YtobdoafjlbifpaaPFnExactFormedSelectionx1
import Derived.Test.YtobdoafjlbifpaaPFnExactFormedSelectionx2
namespace Go.Proofs.Ytobdoafjlbifpaa.PFnExactFormedSelection
open Go.RowKit Go.Proofs.YtobdoafjlbifpaaW.PrintWords Go.Proofs.YtobdoafjlbifpaaW.PrintLast Go.Proofs.YtobdoafjlbifpaaW.PrintMore
attribute [local go_sem] max2_int min2_int max_two min_two max_three min_three max_four min_four   -- for this text's walks alone
set_option linter.unusedVariables false
set_option linter.unusedSimpArgs false

/-! ### spec_l06Points: function 28 -/
mutual
def spec_l06Points.l0 : Nat → List (S48) → Int → Option (Bool)
 | 0, _, _ => none
 | k + 1, x0, x3 => if x3 < (x0.length : Int) then (if 0 ≤ x3 then (if 0 < (x0.length : Int) then (if (((rd_T48 x0 x3).f0).length : Int) = (((rd_T48 x0 0).f0).length : Int) then (spec_l06Points.j1 k x0 x3 (decide ((((rd_T48 x0 x3).f0).length : Int) > 3))) else (spec_l06Points.j1 k x0 x3 true)) else (none)) else (none)) else (some true)
def spec_l06Points.j1 : Nat → List (S48) → Int → Bool → Option (Bool)
 | 0, _, _, _ => none
 | k + 1, x0, x3, x35 => if x35 = true then (some false) else (spec_l06Points.l1 k x0 x3 0)
def spec_l06Points.l1 : Nat → List (S48) → Int → Int → Option (Bool)
 | 0, _, _, _ => none
 | k + 1, x0, x3, x4 => if 0 ≤ x3 then (if x3 < (x0.length : Int) then (if x4 < (((rd_T48 x0 x3).f0).length : Int) then (if 0 ≤ x4 then ((spec_l00In.f (rd ((rd_T48 x0 x3).f0) x4) 0 39).bind fun t172 => (if t172 = true then (spec_l06Points.l1 k x0 x3 (wrap64 (x4 + 1))) else (some false))) else (none)) else (spec_l06Points.l0 k x0 (wrap64 (x3 + 1)))) else (none)) else (none)
end
def spec_l06Points.f (k : Nat) (l0 : List (S48)) : Option (Bool) := (spec_l00In.f (l0.length : Int) 1 24).bind fun t165 => (if t165 = true then (spec_l06Points.l0 k l0 0) else (some false))
theorem spec_l06Points.mono_l : ∀ k, (∀ y0 y1, LeO (spec_l06Points.l0 k y0 y1) (spec_l06Points.l0 (k + 1) y0 y1)) ∧ (∀ y0 y1 y2, LeO (spec_l06Points.j1 k y0 y1 y2) (spec_l06Points.j1 (k + 1) y0 y1 y2)) ∧ (∀ y0 y1 y2, LeO (spec_l06Points.l1 k y0 y1 y2) (spec_l06Points.l1 (k + 1) y0 y1 y2))
 | 0 => ⟨fun _ _ r h => by simp [spec_l06Points.l0] at h, fun _ _ _ r h => by simp [spec_l06Points.j1] at h, fun _ _ _ r h => by simp [spec_l06Points.l1] at h⟩
 | k + 1 => by
  obtain ⟨ih0, ih1, ih2⟩ := spec_l06Points.mono_l k
  refine ⟨?_, ?_, ?_⟩
  ·
   intro y0 y1
   unfold spec_l06Points.l0
   repeat' first
   | (with_reducible exact ih0 _ _)
   | (with_reducible exact ih1 _ _ _)
   | (with_reducible exact ih2 _ _ _)
   | (with_reducible exact LeO.refl _)
   | (with_reducible exact LeO.none _)
   | (with_reducible refine LeO.ite ?_ ?_)
   | (with_reducible refine LeO.bind ?_ (fun _ => ?_))
   | exact ih0 _ _
   | exact ih1 _ _ _
   | exact ih2 _ _ _
   | exact LeO.none _
   | refine LeO.ite ?_ ?_
   | refine LeO.bind ?_ (fun _ => ?_)
  ·
   intro y0 y1 y2
   unfold spec_l06Points.j1
   repeat' first
   | (with_reducible exact ih0 _ _)
   | (with_reducible exact ih1 _ _ _)
   | (with_reducible exact ih2 _ _ _)
   | (with_reducible exact LeO.refl _)
   | (with_reducible exact LeO.none _)
   | (with_reducible refine LeO.ite ?_ ?_)
   | (with_reducible refine LeO.bind ?_ (fun _ => ?_))
   | exact ih0 _ _
   | exact ih1 _ _ _
   | exact ih2 _ _ _
   | exact LeO.none _
   | refine LeO.ite ?_ ?_
   | refine LeO.bind ?_ (fun _ => ?_)
  ·
   intro y0 y1 y2
   unfold spec_l06Points.l1
   repeat' first
   | (with_reducible exact ih0 _ _)
   | (with_reducible exact ih1 _ _ _)
   | (with_reducible exact ih2 _ _ _)
   | (with_reducible exact LeO.refl _)
   | (with_reducible exact LeO.none _)
   | (with_reducible refine LeO.ite ?_ ?_)
   | (with_reducible refine LeO.bind ?_ (fun _ => ?_))
   | exact ih0 _ _
   | exact ih1 _ _ _
   | exact ih2 _ _ _
   | exact LeO.none _
   | refine LeO.ite ?_ ?_
   | refine LeO.bind ?_ (fun _ => ?_)
theorem spec_l06Points.mono : ∀ a0 k, LeO (spec_l06Points.f k a0) (spec_l06Points.f (k + 1) a0) := by
 intro a0 k
 obtain ⟨ih0, ih1, ih2⟩ := spec_l06Points.mono_l k
 unfold spec_l06Points.f
 repeat' first
   | (with_reducible exact ih0 _ _)
   | (with_reducible exact ih1 _ _ _)
   | (with_reducible exact ih2 _ _ _)
   | (with_reducible exact LeO.refl _)
   | (with_reducible exact LeO.none _)
   | (with_reducible refine LeO.ite ?_ ?_)
   | (with_reducible refine LeO.bind ?_ (fun _ => ?_))
   | exact ih0 _ _
   | exact ih1 _ _ _
   | exact ih2 _ _ _
   | exact LeO.none _
   | refine LeO.ite ?_ ?_
   | refine LeO.bind ?_ (fun _ => ?_)
set_option maxHeartbeats 8000000 in
set_option maxRecDepth 100000 in
theorem spec_l06Points.calls (k : Nat) (A0 : Option Addr) (c0 : Nat) (l0 : List (S48)) (r : Bool) (w : World) (hr0 : Kd.C k48 w A0 l0.length l0) (hc0 : l0.length ≤ c0) (h : spec_l06Points.f k l0 = some r) :
  Calls Try.prog 28 #[.slice A0 l0.length c0] w fun e w' => e = .returned (.bool r) ∧ Drawn0 w w' := by
 have HR0 := yD hr0
 have HC0 := yD hc0
 clear hr0 hc0
 have H : ((spec_l00In.f (l0.length : Int) 1 24).bind fun t165 => (if t165 = true then (spec_l06Points.l0 k l0 0) else (some false))) = some r := h
 clear h
 obtain ⟨t165, A20, H⟩ := zW_ H
 replace H : (if t165 = true then (spec_l06Points.l0 k l0 0) else (some false)) = some r := H
 have A2 := yD A20
 clear A20
 by_cases c3 : t165 = true
 ·
  subst c3
  have H1 : (spec_l06Points.l0 k l0 0) = some r := by rw [if_pos rfl] at H; exact H
  clear H; have H := H1; clear H1
  have H' := yD H
  clear H; go_enter Try.func28, Try.ntmps28
  go_wp2_with (first | (go_at_call 47; (with_reducible refine (spec_l00In.calls (l0.length : Int) 1 24 true _ A2.out).mono ?_); rintro e w' ⟨rfl, ⟨nd, rfl⟩⟩; (try first | exact ⟨rfl, _, World.drewN_drewN _ _ _⟩ | exact ⟨rfl, _, Eq.trans (World.drewN_drewN _ _ _) (congrArg (World.drewN _) (Nat.add_assoc _ _ _))⟩)))
  repeat (go_quiet (first | (go_at_call 47; (with_reducible refine (spec_l00In.calls (l0.length : Int) 1 24 true _ A2.out).mono ?_); rintro e w' ⟨rfl, ⟨nd, rfl⟩⟩; (try first | exact ⟨rfl, _, World.drewN_drewN _ _ _⟩ | exact ⟨rfl, _, Eq.trans (World.drewN_drewN _ _ _) (congrArg (World.drewN _) (Nat.add_assoc _ _ _))⟩))); try go_wp2_with (first | (go_at_call 47; (with_reducible refine (spec_l00In.calls (l0.length : Int) 1 24 true _ A2.out).mono ?_); rintro e w' ⟨rfl, ⟨nd, rfl⟩⟩; (try first | exact ⟨rfl, _, World.drewN_drewN _ _ _⟩ | exact ⟨rfl, _, Eq.trans (World.drewN_drewN _ _ _) (congrArg (World.drewN _) (Nat.add_assoc _ _ _))⟩))))
  go_loopg [3] k (fun kq v3 w' => ∃ (x3_1 : Int), v3 = .int .i64 x3_1 ∧ Aside0 (spec_l06Points.l0 kq l0 x3_1 = some r) ∧ Aside0 (kq ≤ k) ∧ Drawn0 w w')
  case atStart => exact ⟨(0), (by first | rfl | (simp; done) | (simp [*]; done)), H', ⟨Nat.le_refl _⟩, by repeat (first | exact Drawn0.refl _ | apply Drawn0.step)⟩
  case round =>
   clear H'
   try clear c2; try clear p2; try clear c3
   obtain ⟨x3_1, rfl, HA, HK1, ⟨m1, rfl⟩⟩ := hrel
   cases gk with
   | zero => exact absurd HA.out (by simp [spec_l06Points.l0])
   | succ k1 =>
    have H := HA.out; clear HA
    simp only [spec_l06Points.l0] at H
    by_cases c4 : x3_1 < (l0.length : Int)
    ·
     rw [if_pos c4] at H; have c4b0 : decide (x3_1 < (l0.length : Int)) = true := zR c4; clear c4
     have HC5 := yD H
     clear H
     go_upto_region 6 with (fail)
     repeat (go_quiet (fail); go_upto_region 6 with (fail))
     go_cut [35] (fun v35 wc => ∃ (kq : Nat) (x35_4 : Bool), v35 = .bool x35_4 ∧ Aside0 (spec_l06Points.j1 kq l0 x3_1 x35_4 = some r) ∧ Aside0 (kq ≤ k1) ∧ Drawn0 w wc)
     case first =>
      have H := HC5.out; clear HC5
      by_cases c6 : 0 ≤ x3_1
      ·
       rw [if_pos c6] at H; have c6b0 : decide (0 ≤ x3_1) = true := zR c6; clear c6
       (first | rw [c6b0] | (simp only [i64_w, i32_w]; rw [c6b0]) | (simp only [bne] at c6b0; rw [c6b0]) | skip)
       by_cases c7 : 0 < (l0.length : Int)
       ·
        rw [if_pos c7] at H; have c7b0 : decide (0 < (l0.length : Int)) = true := zR c7
        have c7b1 : decide (0 < l0.length) = true := zR (by omega)
        clear c7
        by_cases c8 : (((rd_T48 l0 x3_1).f0).length : Int) = (((rd_T48 l0 0).f0).length : Int)
        ·
         rw [if_pos c8] at H
         have c8b0 : ((((rd_T48 l0 x3_1).f0).length : Int) == (((rd_T48 l0 0).f0).length : Int)) = true := beq_iff_eq.mpr c8
         have c8b1 : ((((rd_T48 l0 x3_1).f0).length : Int) != (((rd_T48 l0 0).f0).length : Int)) = false := bne_eq_false_iff_eq.mpr c8
         have c8b2 : (((rd_T48 l0 x3_1).f0).length == ((rd_T48 l0 0).f0).length) = true := by first | simpa using c8 | (simp at c8 ⊢; omega)
         clear c8
         have H' := yD H
         clear H
         have p166 : 0 ≤ (x3_1 : Int) := zP (by assumption)
         have q166 : x3_1 < (l0.length : Int) := zP (by assumption)
         obtain ⟨ad166, A166_0, c166_0, e166, hx166_0, hl166_0, hi166_0⟩ := at_T48 HR0.out x3_1 p166 q166
         cases e166
         have HR166_0 := yD hi166_0
         have HC166_0 := yD hl166_0
         clear hi166_0 hl166_0; replace p166 := eq_true p166; replace q166 := eq_true q166
         have p167 : 0 ≤ (0 : Int) := (by omega)
         have q167 : 0 < (l0.length : Int) := zP (by assumption)
         obtain ⟨ad167, A167_0, c167_0, e167, hx167_0, hl167_0, hi167_0⟩ := at_T48 HR0.out 0 p167 q167
         obtain rfl : ad166 = ad167 := (by injection e167)
         have qi167 : (0 < l0.length) = True := eq_true (by omega)
         (try rw [show ((0 : Int)).toNat = 0 from rfl] at hx167_0)
         (try rw [Addr.add_zero'] at hx167_0)
         have HR167_0 := yD hi167_0
         have HC167_0 := yD hl167_0
         clear hi167_0 hl167_0; replace p167 := eq_true p167; replace q167 := eq_true q167
         have p168 : 0 ≤ (x3_1 : Int) := zP (by assumption)
         have q168 : x3_1 < (l0.length : Int) := zP (by assumption)
         obtain ⟨ad168, A168_0, c168_0, e168, hx168_0, hl168_0, hi168_0⟩ := at_T48 HR0.out x3_1 p168 q168
         obtain rfl : ad166 = ad168 := (by injection e168)
         have HR168_0 := yD hi168_0
         have HC168_0 := yD hl168_0
         clear hi168_0 hl168_0; replace p168 := eq_true p168; replace q168 := eq_true q168
         have ea_ := Option.some.inj (hx166_0.symm.trans hx168_0)
         injection ea_ with ea_ en_ ec_
         subst ea_; subst ec_; clear en_
         go_wp2
         repeat (go_quiet (fail); try go_wp2)
         go_meet
         case rel => exact ⟨_, (decide ((((rd_T48 l0 x3_1).f0).length : Int) > 3)), (by first | rfl | (simp; done) | (simp [*]; done)), H', ⟨by have := HK1.out; first | omega | exact Nat.le_refl _⟩, by repeat (first | exact Drawn0.refl _ | apply Drawn0.step)⟩
        ·
         rw [if_neg c8] at H
         have c8b0 : ((((rd_T48 l0 x3_1).f0).length : Int) == (((rd_T48 l0 0).f0).length : Int)) = false := beq_eq_false_iff_ne.mpr c8
         have c8b1 : ((((rd_T48 l0 x3_1).f0).length : Int) != (((rd_T48 l0 0).f0).length : Int)) = true := bne_iff_ne.mpr c8
         have c8b2 : (((rd_T48 l0 x3_1).f0).length == ((rd_T48 l0 0).f0).length) = false := by first | simpa using c8 | (simp at c8 ⊢; omega)
         have H' := yD H
         clear H
         have p166 : 0 ≤ (x3_1 : Int) := zP (by assumption)
         have q166 : x3_1 < (l0.length : Int) := zP (by assumption)
         obtain ⟨ad166, A166_0, c166_0, e166, hx166_0, hl166_0, hi166_0⟩ := at_T48 HR0.out x3_1 p166 q166
         cases e166
         have HR166_0 := yD hi166_0
         have HC166_0 := yD hl166_0
         clear hi166_0 hl166_0; replace p166 := eq_true p166; replace q166 := eq_true q166
         have p167 : 0 ≤ (0 : Int) := (by omega)
         have q167 : 0 < (l0.length : Int) := zP (by assumption)
         obtain ⟨ad167, A167_0, c167_0, e167, hx167_0, hl167_0, hi167_0⟩ := at_T48 HR0.out 0 p167 q167
         obtain rfl : ad166 = ad167 := (by injection e167)
         have qi167 : (0 < l0.length) = True := eq_true (by omega)
         (try rw [show ((0 : Int)).toNat = 0 from rfl] at hx167_0)
         (try rw [Addr.add_zero'] at hx167_0)
         have HR167_0 := yD hi167_0
         have HC167_0 := yD hl167_0
         clear hi167_0 hl167_0; replace p167 := eq_true p167; replace q167 := eq_true q167
         go_wp2
         repeat (go_quiet (fail); try go_wp2)
         go_meet
         case rel => exact ⟨_, (true), (by first | rfl | (simp; done) | (simp [*]; done)), H', ⟨by have := HK1.out; first | omega | exact Nat.le_refl _⟩, by repeat (first | exact Drawn0.refl _ | apply Drawn0.step)⟩
       ·
        rw [if_neg c7] at H
        exact absurd H (by simp)
      ·
       rw [if_neg c6] at H
       exact absurd H (by simp)
     case rest =>
      clear HC5; try clear c1; try clear p1; try clear q1; try clear hx1; try clear qi1; try clear c2; try clear p2; try clear c3; try clear c4; try clear c4b0; try clear c6; try clear c6b0; try clear c7; try clear c7b0; try clear c7b1; try clear c8; try clear c8b0; try clear c8b1; try clear c8b2; try clear hx166_0; try clear hx167_0; try clear hx168_0; try clear p166; try clear p167; try clear p168; try clear p2; try clear q166; try clear q167; try clear q168
      obtain ⟨kq, x35_4, rfl, HA, HJ4, ⟨mc4, rfl⟩⟩ := hcut
      cases kq with
      | zero => exact absurd HA.out (by simp [spec_l06Points.j1])
      | succ kj4 =>
       have H := HA.out; clear HA
       simp only [spec_l06Points.j1] at H
       by_cases c9 : x35_4 = true
       ·
        subst c9
        have H1 : (some false) = some r := by rw [if_pos rfl] at H; exact H
        clear H; have H := H1; clear H1; obtain rfl := Option.some.inj H
        go_wp2
        repeat (go_quiet (fail); try go_wp2)
        go_ret
        exact ⟨by first | rfl | (simp; done) | (simp [*]; done), by repeat (first | exact Drawn0.refl _ | apply Drawn0.step)⟩
       ·
        replace c9 := Bool.eq_false_iff.mpr c9
        subst c9
        have H1 : (spec_l06Points.l1 kj4 l0 x3_1 0) = some r := by rw [if_neg (show ¬ (false = true) by decide)] at H; exact H
        clear H; have H := H1; clear H1
        have H' := yD H
        clear H
        go_wp2
        repeat (go_quiet (fail); try go_wp2)
        go_loopg [4] kj4 (fun kq v4 w' => ∃ (x4_3 : Int), v4 = .int .i64 x4_3 ∧ Aside0 (spec_l06Points.l1 kq l0 x3_1 x4_3 = some r) ∧ Aside0 (kq ≤ kj4) ∧ Drawn0 w w')
        case atStart => exact ⟨(0), (by first | rfl | (simp; done) | (simp [*]; done)), H', ⟨Nat.le_refl _⟩, by repeat (first | exact Drawn0.refl _ | apply Drawn0.step)⟩
        case round =>
         clear H'
         try clear c1; try clear p1; try clear q1; try clear hx1; try clear qi1; try clear c2; try clear p2; try clear c3; try clear c4; try clear c4b0; try clear c6; try clear c6b0; try clear c7; try clear c7b0; try clear c7b1; try clear c8; try clear c8b0; try clear c8b1; try clear c8b2; try clear c9; try clear hx166_0; try clear hx167_0; try clear hx168_0; try clear p1; try clear p166; try clear p167; try clear p168; try clear p2; try clear q1; try clear q166; try clear q167; try clear q168
         obtain ⟨x4_3, rfl, HA, HK3, ⟨m3, rfl⟩⟩ := hrel
         cases gk with
         | zero => exact absurd HA.out (by simp [spec_l06Points.l1])
         | succ k3 =>
          have H := HA.out; clear HA
          simp only [spec_l06Points.l1] at H
          by_cases c10 : 0 ≤ x3_1
          ·
           rw [if_pos c10] at H; have c10b0 : decide (0 ≤ x3_1) = true := zR c10; clear c10
           by_cases c11 : x3_1 < (l0.length : Int)
           ·
            rw [if_pos c11] at H; have c11b0 : decide (x3_1 < (l0.length : Int)) = true := zR c11; clear c11
            by_cases c12 : x4_3 < (((rd_T48 l0 x3_1).f0).length : Int)
            ·
             rw [if_pos c12] at H; have c12b0 : decide (x4_3 < (((rd_T48 l0 x3_1).f0).length : Int)) = true := zR c12; clear c12
             by_cases c13 : 0 ≤ x4_3
             ·
              rw [if_pos c13] at H; have c13b0 : decide (0 ≤ x4_3) = true := zR c13; clear c13
              obtain ⟨t172, A140, H⟩ := zW_ H
              replace H : (if t172 = true then (spec_l06Points.l1 k3 l0 x3_1 (wrap64 (x4_3 + 1))) else (some false)) = some r := H
              have A14 := yD A140
              clear A140
              by_cases c15 : t172 = true
              ·
               subst c15
               have H1 : (spec_l06Points.l1 k3 l0 x3_1 (wrap64 (x4_3 + 1))) = some r := by rw [if_pos rfl] at H; exact H
               clear H; have H := H1; clear H1
               have H' := yD H
               clear H
               have p169 : 0 ≤ (x3_1 : Int) := zP (by assumption)
               have q169 : x3_1 < (l0.length : Int) := zP (by assumption)
               obtain ⟨ad169, A169_0, c169_0, e169, hx169_0, hl169_0, hi169_0⟩ := at_T48 HR0.out x3_1 p169 q169
               cases e169
               have HR169_0 := yD hi169_0
               have HC169_0 := yD hl169_0
               clear hi169_0 hl169_0; replace p169 := eq_true p169; replace q169 := eq_true q169
               have p170 : 0 ≤ (x3_1 : Int) := zP (by assumption)
               have q170 : x3_1 < (l0.length : Int) := zP (by assumption)
               obtain ⟨ad170, A170_0, c170_0, e170, hx170_0, hl170_0, hi170_0⟩ := at_T48 HR0.out x3_1 p170 q170
               obtain rfl : ad169 = ad170 := (by injection e170)
               have HR170_0 := yD hi170_0
               have HC170_0 := yD hl170_0
               clear hi170_0 hl170_0; replace p170 := eq_true p170; replace q170 := eq_true q170
               have ea_ := Option.some.inj (hx169_0.symm.trans hx170_0)
               injection ea_ with ea_ en_ ec_
               subst ea_; subst ec_; clear en_
               have p171 : 0 ≤ (x4_3 : Int) := zP (by assumption)
               have q171 : x4_3 < (((rd_T48 l0 x3_1).f0).length : Int) := zP (by assumption)
               obtain ⟨ad171, e171, hx171_0⟩ := Kd.at_int HR170_0.out x4_3 p171 q171
               cases e171; replace p171 := eq_true p171; replace q171 := eq_true q171
               go_wp2_with (first | (go_at_call 47; (with_reducible refine (spec_l00In.calls (rd ((rd_T48 l0 x3_1).f0) x4_3) 0 39 true _ A14.out).mono ?_); rintro e w' ⟨rfl, ⟨nd, rfl⟩⟩; (try first | exact ⟨rfl, _, World.drewN_drewN _ _ _⟩ | exact ⟨rfl, _, Eq.trans (World.drewN_drewN _ _ _) (congrArg (World.drewN _) (Nat.add_assoc _ _ _))⟩)))
               repeat (go_quiet (first | (go_at_call 47; (with_reducible refine (spec_l00In.calls (rd ((rd_T48 l0 x3_1).f0) x4_3) 0 39 true _ A14.out).mono ?_); rintro e w' ⟨rfl, ⟨nd, rfl⟩⟩; (try first | exact ⟨rfl, _, World.drewN_drewN _ _ _⟩ | exact ⟨rfl, _, Eq.trans (World.drewN_drewN _ _ _) (congrArg (World.drewN _) (Nat.add_assoc _ _ _))⟩))); try go_wp2_with (first | (go_at_call 47; (with_reducible refine (spec_l00In.calls (rd ((rd_T48 l0 x3_1).f0) x4_3) 0 39 true _ A14.out).mono ?_); rintro e w' ⟨rfl, ⟨nd, rfl⟩⟩; (try first | exact ⟨rfl, _, World.drewN_drewN _ _ _⟩ | exact ⟨rfl, _, Eq.trans (World.drewN_drewN _ _ _) (congrArg (World.drewN _) (Nat.add_assoc _ _ _))⟩))))
               go_roundg k3
               case measure => have := HK1.out; have := HJ4.out; have := HK3.out; omega
               case rel => exact ⟨(wrap64 (x4_3 + 1)), (by first | rfl | (simp; done) | (simp [*]; done)), H', ⟨by have := HK1.out; have := HJ4.out; have := HK3.out; omega⟩, by repeat (first | exact Drawn0.refl _ | apply Drawn0.step)⟩
              ·
               replace c15 := Bool.eq_false_iff.mpr c15
               subst c15
               have H1 : (some false) = some r := by rw [if_neg (show ¬ (false = true) by decide)] at H; exact H
               clear H; have H := H1; clear H1; obtain rfl := Option.some.inj H
               have p169 : 0 ≤ (x3_1 : Int) := zP (by assumption)
               have q169 : x3_1 < (l0.length : Int) := zP (by assumption)
               obtain ⟨ad169, A169_0, c169_0, e169, hx169_0, hl169_0, hi169_0⟩ := at_T48 HR0.out x3_1 p169 q169
               cases e169
               have HR169_0 := yD hi169_0
               have HC169_0 := yD hl169_0
               clear hi169_0 hl169_0; replace p169 := eq_true p169; replace q169 := eq_true q169
               have p170 : 0 ≤ (x3_1 : Int) := zP (by assumption)
               have q170 : x3_1 < (l0.length : Int) := zP (by assumption)
               obtain ⟨ad170, A170_0, c170_0, e170, hx170_0, hl170_0, hi170_0⟩ := at_T48 HR0.out x3_1 p170 q170
               obtain rfl : ad169 = ad170 := (by injection e170)
               have HR170_0 := yD hi170_0
               have HC170_0 := yD hl170_0
               clear hi170_0 hl170_0; replace p170 := eq_true p170; replace q170 := eq_true q170
               have ea_ := Option.some.inj (hx169_0.symm.trans hx170_0)
               injection ea_ with ea_ en_ ec_
               subst ea_; subst ec_; clear en_
               have p171 : 0 ≤ (x4_3 : Int) := zP (by assumption)
               have q171 : x4_3 < (((rd_T48 l0 x3_1).f0).length : Int) := zP (by assumption)
               obtain ⟨ad171, e171, hx171_0⟩ := Kd.at_int HR170_0.out x4_3 p171 q171
               cases e171; replace p171 := eq_true p171; replace q171 := eq_true q171
               go_wp2_with (first | (go_at_call 47; (with_reducible refine (spec_l00In.calls (rd ((rd_T48 l0 x3_1).f0) x4_3) 0 39 false _ A14.out).mono ?_); rintro e w' ⟨rfl, ⟨nd, rfl⟩⟩; (try first | exact ⟨rfl, _, World.drewN_drewN _ _ _⟩ | exact ⟨rfl, _, Eq.trans (World.drewN_drewN _ _ _) (congrArg (World.drewN _) (Nat.add_assoc _ _ _))⟩)))
               repeat (go_quiet (first | (go_at_call 47; (with_reducible refine (spec_l00In.calls (rd ((rd_T48 l0 x3_1).f0) x4_3) 0 39 false _ A14.out).mono ?_); rintro e w' ⟨rfl, ⟨nd, rfl⟩⟩; (try first | exact ⟨rfl, _, World.drewN_drewN _ _ _⟩ | exact ⟨rfl, _, Eq.trans (World.drewN_drewN _ _ _) (congrArg (World.drewN _) (Nat.add_assoc _ _ _))⟩))); try go_wp2_with (first | (go_at_call 47; (with_reducible refine (spec_l00In.calls (rd ((rd_T48 l0 x3_1).f0) x4_3) 0 39 false _ A14.out).mono ?_); rintro e w' ⟨rfl, ⟨nd, rfl⟩⟩; (try first | exact ⟨rfl, _, World.drewN_drewN _ _ _⟩ | exact ⟨rfl, _, Eq.trans (World.drewN_drewN _ _ _) (congrArg (World.drewN _) (Nat.add_assoc _ _ _))⟩))))
               go_ret
               exact ⟨by first | rfl | (simp; done) | (simp [*]; done), by repeat (first | exact Drawn0.refl _ | apply Drawn0.step)⟩
             ·
              rw [if_neg c13] at H
              exact absurd H (by simp)
            ·
             rw [if_neg c12] at H; have c12b0 : decide (x4_3 < (((rd_T48 l0 x3_1).f0).length : Int)) = false := zS c12; clear c12
             have H' := yD H
             clear H
             have p169 : 0 ≤ (x3_1 : Int) := zP (by assumption)
             have q169 : x3_1 < (l0.length : Int) := zP (by assumption)
             obtain ⟨ad169, A169_0, c169_0, e169, hx169_0, hl169_0, hi169_0⟩ := at_T48 HR0.out x3_1 p169 q169
             cases e169
             have HR169_0 := yD hi169_0
             have HC169_0 := yD hl169_0
             clear hi169_0 hl169_0; replace p169 := eq_true p169; replace q169 := eq_true q169
             go_wp2
             repeat (go_quiet (fail); try go_wp2)
             go_roundg k3
             case measure => have := HK1.out; have := HJ4.out; have := HK3.out; omega
             case rel => exact ⟨(wrap64 (x3_1 + 1)), (by first | rfl | (simp; done) | (simp [*]; done)), H', ⟨by have := HK1.out; have := HJ4.out; have := HK3.out; omega⟩, by repeat (first | exact Drawn0.refl _ | apply Drawn0.step)⟩
           ·
            rw [if_neg c11] at H
            exact absurd H (by simp)
          ·
           rw [if_neg c10] at H
           exact absurd H (by simp)
    ·
     rw [if_neg c4] at H; have c4b0 : decide (x3_1 < (l0.length : Int)) = false := zS c4; clear c4; obtain rfl := Option.some.inj H
     go_wp2
     repeat (go_quiet (fail); try go_wp2)
     go_ret
     exact ⟨by first | rfl | (simp; done) | (simp [*]; done), by repeat (first | exact Drawn0.refl _ | apply Drawn0.step)⟩
 ·
  replace c3 := Bool.eq_false_iff.mpr c3
  subst c3
  have H1 : (some false) = some r := by rw [if_neg (show ¬ (false = true) by decide)] at H; exact H
  clear H; have H := H1; clear H1; obtain rfl := Option.some.inj H; go_enter Try.func28, Try.ntmps28
  go_wp2_with (first | (go_at_call 47; (with_reducible refine (spec_l00In.calls (l0.length : Int) 1 24 false _ A2.out).mono ?_); rintro e w' ⟨rfl, ⟨nd, rfl⟩⟩; (try first | exact ⟨rfl, _, World.drewN_drewN _ _ _⟩ | exact ⟨rfl, _, Eq.trans (World.drewN_drewN _ _ _) (congrArg (World.drewN _) (Nat.add_assoc _ _ _))⟩)))
  repeat (go_quiet (first | (go_at_call 47; (with_reducible refine (spec_l00In.calls (l0.length : Int) 1 24 false _ A2.out).mono ?_); rintro e w' ⟨rfl, ⟨nd, rfl⟩⟩; (try first | exact ⟨rfl, _, World.drewN_drewN _ _ _⟩ | exact ⟨rfl, _, Eq.trans (World.drewN_drewN _ _ _) (congrArg (World.drewN _) (Nat.add_assoc _ _ _))⟩))); try go_wp2_with (first | (go_at_call 47; (with_reducible refine (spec_l00In.calls (l0.length : Int) 1 24 false _ A2.out).mono ?_); rintro e w' ⟨rfl, ⟨nd, rfl⟩⟩; (try first | exact ⟨rfl, _, World.drewN_drewN _ _ _⟩ | exact ⟨rfl, _, Eq.trans (World.drewN_drewN _ _ _) (congrArg (World.drewN _) (Nat.add_assoc _ _ _))⟩))))
  go_ret
  exact ⟨by first | rfl | (simp; done) | (simp [*]; done), by repeat (first | exact Drawn0.refl _ | apply Drawn0.step)⟩

/-! ### spec_l06Formed: function 16 -/
def spec_l06Formed.j0 : Nat → Int → Bool → Int → List Int → List Int → List Int → List Int → List (S48) → Option (Bool)
 | 0, _, _, _, _, _, _, _, _ => none
 | k + 1, x4, x5, x174000, x174001, x174002, x174003, x174004, x174005 => if x5 = true then ((spec_l06Plain.f x174000 x174001 x174002 x174003 x174004 x174005).bind fun t174 => (if t174 = true then (some ((x174005.length : Int) == 0)) else (some false))) else (if x4 = 3 then ((spec_l06Slab.f k x174000 x174001 x174002 x174003 x174004 x174005).bind fun t175 => (some t175)) else (if x4 = 4 then ((spec_l06Plain.f x174000 x174001 x174002 x174003 x174004 x174005).bind fun t176 => (if t176 = true then ((spec_l06Points.f k x174005).bind fun t177 => (some t177)) else (some false))) else (some false)))
def spec_l06Formed.f (k : Nat) (a0_0 : Int) (l0_1 : List Int) (l0_2 : List Int) (l0_3 : List Int) (l0_4 : List Int) (l0_5 : List (S48)) : Option (Bool) := if a0_0 = 1 then (spec_l06Formed.j0 k a0_0 (a0_0 == 1) a0_0 l0_1 l0_2 l0_3 l0_4 l0_5) else (spec_l06Formed.j0 k a0_0 (a0_0 == 2) a0_0 l0_1 l0_2 l0_3 l0_4 l0_5)
theorem spec_l06Formed.mono_l : ∀ k, (∀ y0 y1 y2 y3 y4 y5 y6 y7, LeO (spec_l06Formed.j0 k y0 y1 y2 y3 y4 y5 y6 y7) (spec_l06Formed.j0 (k + 1) y0 y1 y2 y3 y4 y5 y6 y7))
 | 0 => fun _ _ _ _ _ _ _ _ r h => by simp [spec_l06Formed.j0] at h
 | k + 1 => by
  have ih0 := spec_l06Formed.mono_l k
  ·
   intro y0 y1 y2 y3 y4 y5 y6 y7
   unfold spec_l06Formed.j0
   repeat' first
   | (with_reducible exact ih0 _ _ _ _ _ _ _ _)
   | (with_reducible exact spec_l06Points.mono _ _)
   | (with_reducible exact spec_l06Slab.mono _ _ _ _ _ _ _)
   | (with_reducible exact LeO.refl _)
   | (with_reducible exact LeO.none _)
   | (with_reducible refine LeO.ite ?_ ?_)
   | (with_reducible refine LeO.bind ?_ (fun _ => ?_))
   | exact ih0 _ _ _ _ _ _ _ _
   | exact spec_l06Points.mono _ _
   | exact spec_l06Slab.mono _ _ _ _ _ _ _
   | exact LeO.none _
   | refine LeO.ite ?_ ?_
   | refine LeO.bind ?_ (fun _ => ?_)
theorem spec_l06Formed.mono : ∀ a0 a1 a2 a3 a4 a5 k, LeO (spec_l06Formed.f k a0 a1 a2 a3 a4 a5) (spec_l06Formed.f (k + 1) a0 a1 a2 a3 a4 a5) := by
 intro a0 a1 a2 a3 a4 a5 k
 have ih0 := spec_l06Formed.mono_l k
 unfold spec_l06Formed.f
 repeat' first
   | (with_reducible exact ih0 _ _ _ _ _ _ _ _)
   | (with_reducible exact spec_l06Points.mono _ _)
   | (with_reducible exact spec_l06Slab.mono _ _ _ _ _ _ _)
   | (with_reducible exact LeO.refl _)
   | (with_reducible exact LeO.none _)
   | (with_reducible refine LeO.ite ?_ ?_)
   | (with_reducible refine LeO.bind ?_ (fun _ => ?_))
   | exact ih0 _ _ _ _ _ _ _ _
   | exact spec_l06Points.mono _ _
   | exact spec_l06Slab.mono _ _ _ _ _ _ _
   | exact LeO.none _
   | refine LeO.ite ?_ ?_
   | refine LeO.bind ?_ (fun _ => ?_)
set_option maxHeartbeats 8000000 in
set_option maxRecDepth 100000 in
theorem spec_l06Formed.calls (k : Nat) (a0_0 : Int) (A0_1 : Option Addr) (c0_1 : Nat) (l0_1 : List Int) (A0_2 : Option Addr) (c0_2 : Nat) (l0_2 : List Int) (A0_3 : Option Addr) (c0_3 : Nat) (l0_3 : List Int) (A0_4 : Option Addr) (c0_4 : Nat) (l0_4 : List Int) (A0_5 : Option Addr) (c0_5 : Nat) (l0_5 : List (S48)) (r : Bool) (w : World) (hr0_1 : Kd.C (Kd.int .i64) w A0_1 l0_1.length l0_1) (hc0_1 : l0_1.length ≤ c0_1) (hr0_2 : Kd.C (Kd.int .i64) w A0_2 l0_2.length l0_2) (hc0_2 : l0_2.length ≤ c0_2) (hr0_3 : Kd.C (Kd.int .i64) w A0_3 l0_3.length l0_3) (hc0_3 : l0_3.length ≤ c0_3) (hr0_4 : Kd.C (Kd.int .i64) w A0_4 l0_4.length l0_4) (hc0_4 : l0_4.length ≤ c0_4) (hr0_5 : Kd.C k48 w A0_5 l0_5.length l0_5) (hc0_5 : l0_5.length ≤ c0_5) (h : spec_l06Formed.f k a0_0 l0_1 l0_2 l0_3 l0_4 l0_5 = some r) :
  Calls Try.prog 16 #[.agg #[.int .i64 a0_0, .slice A0_1 l0_1.length c0_1, .slice A0_2 l0_2.length c0_2, .slice A0_3 l0_3.length c0_3, .slice A0_4 l0_4.length c0_4, .slice A0_5 l0_5.length c0_5]] w fun e w' => e = .returned (.bool r) ∧ Below w.heap.size w w' := by
 have hu30 := Try.underlying30
 have HR0_1 := yD hr0_1
 have HC0_1 := yD hc0_1
 clear hr0_1 hc0_1
 have HR0_2 := yD hr0_2
 have HC0_2 := yD hc0_2
 clear hr0_2 hc0_2
 have HR0_3 := yD hr0_3
 have HC0_3 := yD hc0_3
 clear hr0_3 hc0_3
 have HR0_4 := yD hr0_4
 have HC0_4 := yD hc0_4
 clear hr0_4 hc0_4
 have HR0_5 := yD hr0_5
 have HC0_5 := yD hc0_5
 clear hr0_5 hc0_5
 have HB := yD (Below.refl w.heap.size w)
 have H : (if a0_0 = 1 then (spec_l06Formed.j0 k a0_0 (a0_0 == 1) a0_0 l0_1 l0_2 l0_3 l0_4 l0_5) else (spec_l06Formed.j0 k a0_0 (a0_0 == 2) a0_0 l0_1 l0_2 l0_3 l0_4 l0_5)) = some r := h
 clear h
 have HC2 := yD H
 clear H; go_enter Try.func16, Try.ntmps16
 go_upto_if 5 with (first | ((with_reducible refine gate_dst (N := 1) rfl ?_); (try (refine gate_guard (by rfl) ?_; dsimp only)); refine box_event ?hg (N := 1) ?hd (cs := #[.int .i64 a0_0, .slice A0_1 l0_1.length c0_1, .slice A0_2 l0_2.length c0_2, .slice A0_3 l0_3.length c0_3, .slice A0_4 l0_4.length c0_4, .slice A0_5 l0_5.length c0_5]) (t := 30) ?hr ?_; (case hd => rfl); (case hg => rfl); (case hr => first | (go_simp; done) | (go_simp; rfl)); intro gb173 hg w3 hbox hb; have n0_ := yD (zC (by exact HB.out) hb); have n1_ := yD (hbox); have n2_ := yD ((by rw [hg]; exact (below_size (by exact HB.out)) : w.heap.size ≤ gb173)); have n3_ := yD ((by rw [hg]; exact (below_size (by exact HB.out)) : w.heap.size ≤ gb173)); clear HB; have HB := n0_; have BK173 := n1_; have GW173 := n2_; have GE173 := n3_; clear n0_ n1_ n2_ n3_; clear hb hbox hg; have hcz4_0 : w3.cell? ⟨gb173, 0, none⟩ = some (.int .i64 a0_0) := (yG BK173.out 0).trans rfl; have hcz4_1 : w3.cell? ⟨gb173, 1, none⟩ = some (.slice A0_1 l0_1.length c0_1) := (yG BK173.out 1).trans rfl; have hcz4_2 : w3.cell? ⟨gb173, 2, none⟩ = some (.slice A0_2 l0_2.length c0_2) := (yG BK173.out 2).trans rfl; have hcz4_3 : w3.cell? ⟨gb173, 3, none⟩ = some (.slice A0_3 l0_3.length c0_3) := (yG BK173.out 3).trans rfl; have hcz4_4 : w3.cell? ⟨gb173, 4, none⟩ = some (.slice A0_4 l0_4.length c0_4) := (yG BK173.out 4).trans rfl; have hcz4_5 : w3.cell? ⟨gb173, 5, none⟩ = some (.slice A0_5 l0_5.length c0_5) := (yG BK173.out 5).trans rfl; have hfz4_0 := yR BK173.out 0; have hfz4_1 := yR BK173.out 1; have hfz4_2 := yR BK173.out 2; have hfz4_3 := yR BK173.out 3; have hfz4_4 := yR BK173.out 4; have hfz4_5 := yR BK173.out 5))
 (try simp only [Act.put, zH, zI, zJ])
 go_cut [5] (fun v5 wc => ∃ (kq : Nat) (x5_1 : Bool), v5 = .bool x5_1 ∧ Aside0 (spec_l06Formed.j0 kq a0_0 x5_1 a0_0 l0_1 l0_2 l0_3 l0_4 l0_5 = some r) ∧ Aside0 (kq ≤ k) ∧ Aside0 (wc.heap[gb173]? = some (.cells #[.int .i64 a0_0, (.slice A0_1 l0_1.length c0_1), (.slice A0_2 l0_2.length c0_2), (.slice A0_3 l0_3.length c0_3), (.slice A0_4 l0_4.length c0_4), (.slice A0_5 l0_5.length c0_5)] 30 (0, 0))) ∧ Aside0 (Below w.heap.size w wc))
 case first =>
  have H := HC2.out; clear HC2
  by_cases c5 : a0_0 = 1
  ·
   rw [if_pos c5] at H
   have c5b0 : (a0_0 == 1) = true := beq_iff_eq.mpr c5
   have c5b1 : (a0_0 != 1) = false := bne_eq_false_iff_eq.mpr c5
   clear c5
   (first | rw [c5b0] | (simp only [i64_w, i32_w]; rw [c5b0]) | (simp only [bne] at c5b0; rw [c5b0]) | skip)
   have H' := yD H
   clear H
   go_wp2
   go_meet
   case rel => exact ⟨_, ((a0_0 == 1)), (by first | rfl | (simp; done) | (simp [*]; done)), H', ⟨by first | omega | exact Nat.le_refl _⟩, ⟨by (with_reducible repeat (first | refine yM ?_ _ | refine yO ?_ | refine yN ?_ _)); exact BK173.out⟩, ⟨by repeat (first | (with_reducible first | exact HB.out | apply yQ | apply yL | apply yP | refine yE ?_ GE173.out) | exact HB.out)⟩⟩
  ·
   rw [if_neg c5] at H
   have c5b0 : (a0_0 == 1) = false := beq_eq_false_iff_ne.mpr c5
   have c5b1 : (a0_0 != 1) = true := bne_iff_ne.mpr c5
   (first | rw [c5b0] | (simp only [i64_w, i32_w]; rw [c5b0]) | (simp only [bne] at c5b0; rw [c5b0]) | skip)
   have H' := yD H
   clear H
   go_wp2
   go_meet
   case rel => exact ⟨_, ((a0_0 == 2)), (by first | rfl | (simp; done) | (simp [*]; done)), H', ⟨by first | omega | exact Nat.le_refl _⟩, ⟨by (with_reducible repeat (first | refine yM ?_ _ | refine yO ?_ | refine yN ?_ _)); exact BK173.out⟩, ⟨by repeat (first | (with_reducible first | exact HB.out | apply yQ | apply yL | apply yP | refine yE ?_ GE173.out) | exact HB.out)⟩⟩
 case rest =>
  clear HC2; try clear c1; try clear p2; try clear c5; try clear c5b0; try clear c5b1; try clear hcz4_0; try clear hcz4_1; try clear hcz4_2; try clear hcz4_3; try clear hcz4_4; try clear hcz4_5; try clear hfz4_0; try clear hfz4_1; try clear hfz4_2; try clear hfz4_3; try clear hfz4_4; try clear hfz4_5
  obtain ⟨kq, x5_1, rfl, HA, HJ1, BK173, HB⟩ := hcut
  cases kq with
  | zero => exact absurd HA.out (by simp [spec_l06Formed.j0])
  | succ kj1 =>
   have H := HA.out; clear HA
   simp only [spec_l06Formed.j0] at H
   by_cases c6 : x5_1 = true
   ·
    subst c6
    have H1 : ((spec_l06Plain.f a0_0 l0_1 l0_2 l0_3 l0_4 l0_5).bind fun t174 => (if t174 = true then (some ((l0_5.length : Int) == 0)) else (some false))) = some r := by rw [if_pos rfl] at H; exact H
    clear H; have H := H1; clear H1
    obtain ⟨t174, A70, H⟩ := zW_ H
    replace H : (if t174 = true then (some ((l0_5.length : Int) == 0)) else (some false)) = some r := H
    have A7 := yD A70
    clear A70
    by_cases c8 : t174 = true
    ·
     subst c8
     have H1 : (some ((l0_5.length : Int) == 0)) = some r := by rw [if_pos rfl] at H; exact H
     clear H; have H := H1; clear H1; obtain rfl := Option.some.inj H
     have hcz9_0 : wc.cell? ⟨gb173, 0, none⟩ = some (.int .i64 a0_0) := (yG BK173.out 0).trans rfl
     have hcz9_1 : wc.cell? ⟨gb173, 1, none⟩ = some (.slice A0_1 l0_1.length c0_1) := (yG BK173.out 1).trans rfl
     have hcz9_2 : wc.cell? ⟨gb173, 2, none⟩ = some (.slice A0_2 l0_2.length c0_2) := (yG BK173.out 2).trans rfl
     have hcz9_3 : wc.cell? ⟨gb173, 3, none⟩ = some (.slice A0_3 l0_3.length c0_3) := (yG BK173.out 3).trans rfl
     have hcz9_4 : wc.cell? ⟨gb173, 4, none⟩ = some (.slice A0_4 l0_4.length c0_4) := (yG BK173.out 4).trans rfl
     have hcz9_5 : wc.cell? ⟨gb173, 5, none⟩ = some (.slice A0_5 l0_5.length c0_5) := (yG BK173.out 5).trans rfl
     have hfz9_0 := yR BK173.out 0
     have hfz9_1 := yR BK173.out 1
     have hfz9_2 := yR BK173.out 2
     have hfz9_3 := yR BK173.out 3
     have hfz9_4 := yR BK173.out 4
     have hfz9_5 := yR BK173.out 5
     go_wp2_with (first | ((with_reducible refine gate_callee (f := 26) rfl ?_); refine goesL_ (some 9) rfl rfl Try.func26 (by kernel_rfl) rfl #[.agg #[.int .i64 a0_0, .slice A0_1 l0_1.length c0_1, .slice A0_2 l0_2.length c0_2, .slice A0_3 l0_3.length c0_3, .slice A0_4 l0_4.length c0_4, .slice A0_5 l0_5.length c0_5]] rfl (by (try simp only [zK, zL, zM]); first | done | rfl | (simp only [zN, zO]; rfl)) ?_; (with_reducible refine (spec_l06Plain.calls a0_0 _ _ l0_1 _ _ l0_2 _ _ l0_3 _ _ l0_4 _ _ l0_5 true _ ?side1 ?side2 ?side3 ?side4 ?side5 ?side6 ?side7 ?side8 ?side9 ?side10 A7.out).mono ?_); (case side1 => exact yY HR0_1.out HB.out); (case side2 => exact HC0_1.out); (case side3 => exact yY HR0_2.out HB.out); (case side4 => exact HC0_2.out); (case side5 => exact yY HR0_3.out HB.out); (case side6 => exact HC0_3.out); (case side7 => exact yY HR0_4.out HB.out); (case side8 => exact HC0_4.out); (case side9 => exact yY HR0_5.out HB.out); (case side10 => exact HC0_5.out); rintro e w10 ⟨rfl, hb⟩; refine ⟨_, rfl, ?_⟩; have n0_ := yD (zB (g := gb173) (o := .cells #[.int .i64 a0_0, .slice A0_1 l0_1.length c0_1, .slice A0_2 l0_2.length c0_2, .slice A0_3 l0_3.length c0_3, .slice A0_4 l0_4.length c0_4, .slice A0_5 l0_5.length c0_5] 30 (0, 0)) (by exact BK173.out) hb); have n1_ := yD (zC (by exact HB.out) hb); clear BK173; clear HB; have BK173 := n0_; have HB := n1_; clear n0_ n1_; (try clear hb); (try clear hb2); (try clear hk); (try clear hi); have hcz11_0 : w10.cell? ⟨gb173, 0, none⟩ = some (.int .i64 a0_0) := (yG BK173.out 0).trans rfl; have hcz11_1 : w10.cell? ⟨gb173, 1, none⟩ = some (.slice A0_1 l0_1.length c0_1) := (yG BK173.out 1).trans rfl; have hcz11_2 : w10.cell? ⟨gb173, 2, none⟩ = some (.slice A0_2 l0_2.length c0_2) := (yG BK173.out 2).trans rfl; have hcz11_3 : w10.cell? ⟨gb173, 3, none⟩ = some (.slice A0_3 l0_3.length c0_3) := (yG BK173.out 3).trans rfl; have hcz11_4 : w10.cell? ⟨gb173, 4, none⟩ = some (.slice A0_4 l0_4.length c0_4) := (yG BK173.out 4).trans rfl; have hcz11_5 : w10.cell? ⟨gb173, 5, none⟩ = some (.slice A0_5 l0_5.length c0_5) := (yG BK173.out 5).trans rfl; have hfz11_0 := yR BK173.out 0; have hfz11_1 := yR BK173.out 1; have hfz11_2 := yR BK173.out 2; have hfz11_3 := yR BK173.out 3; have hfz11_4 := yR BK173.out 4; have hfz11_5 := yR BK173.out 5))
     go_ret
     exact ⟨by first | rfl | (simp <;> rfl) | (simp [*] <;> rfl), by repeat (first | (with_reducible first | exact HB.out | apply yQ | apply yL | apply yP | refine yE ?_ GE173.out) | exact HB.out)⟩
    ·
     replace c8 := Bool.eq_false_iff.mpr c8
     subst c8
     have H1 : (some false) = some r := by rw [if_neg (show ¬ (false = true) by decide)] at H; exact H
     clear H; have H := H1; clear H1; obtain rfl := Option.some.inj H
     have hcz12_0 : wc.cell? ⟨gb173, 0, none⟩ = some (.int .i64 a0_0) := (yG BK173.out 0).trans rfl
     have hcz12_1 : wc.cell? ⟨gb173, 1, none⟩ = some (.slice A0_1 l0_1.length c0_1) := (yG BK173.out 1).trans rfl
     have hcz12_2 : wc.cell? ⟨gb173, 2, none⟩ = some (.slice A0_2 l0_2.length c0_2) := (yG BK173.out 2).trans rfl
     have hcz12_3 : wc.cell? ⟨gb173, 3, none⟩ = some (.slice A0_3 l0_3.length c0_3) := (yG BK173.out 3).trans rfl
     have hcz12_4 : wc.cell? ⟨gb173, 4, none⟩ = some (.slice A0_4 l0_4.length c0_4) := (yG BK173.out 4).trans rfl
     have hcz12_5 : wc.cell? ⟨gb173, 5, none⟩ = some (.slice A0_5 l0_5.length c0_5) := (yG BK173.out 5).trans rfl
     have hfz12_0 := yR BK173.out 0
     have hfz12_1 := yR BK173.out 1
     have hfz12_2 := yR BK173.out 2
     have hfz12_3 := yR BK173.out 3
     have hfz12_4 := yR BK173.out 4
     have hfz12_5 := yR BK173.out 5
     go_wp2_with (first | ((with_reducible refine gate_callee (f := 26) rfl ?_); refine goesL_ (some 9) rfl rfl Try.func26 (by kernel_rfl) rfl #[.agg #[.int .i64 a0_0, .slice A0_1 l0_1.length c0_1, .slice A0_2 l0_2.length c0_2, .slice A0_3 l0_3.length c0_3, .slice A0_4 l0_4.length c0_4, .slice A0_5 l0_5.length c0_5]] rfl (by (try simp only [zK, zL, zM]); first | done | rfl | (simp only [zN, zO]; rfl)) ?_; (with_reducible refine (spec_l06Plain.calls a0_0 _ _ l0_1 _ _ l0_2 _ _ l0_3 _ _ l0_4 _ _ l0_5 false _ ?side1 ?side2 ?side3 ?side4 ?side5 ?side6 ?side7 ?side8 ?side9 ?side10 A7.out).mono ?_); (case side1 => exact yY HR0_1.out HB.out); (case side2 => exact HC0_1.out); (case side3 => exact yY HR0_2.out HB.out); (case side4 => exact HC0_2.out); (case side5 => exact yY HR0_3.out HB.out); (case side6 => exact HC0_3.out); (case side7 => exact yY HR0_4.out HB.out); (case side8 => exact HC0_4.out); (case side9 => exact yY HR0_5.out HB.out); (case side10 => exact HC0_5.out); rintro e w13 ⟨rfl, hb⟩; refine ⟨_, rfl, ?_⟩; have n0_ := yD (zB (g := gb173) (o := .cells #[.int .i64 a0_0, .slice A0_1 l0_1.length c0_1, .slice A0_2 l0_2.length c0_2, .slice A0_3 l0_3.length c0_3, .slice A0_4 l0_4.length c0_4, .slice A0_5 l0_5.length c0_5] 30 (0, 0)) (by exact BK173.out) hb); have n1_ := yD (zC (by exact HB.out) hb); clear BK173; clear HB; have BK173 := n0_; have HB := n1_; clear n0_ n1_; (try clear hb); (try clear hb2); (try clear hk); (try clear hi)))
     go_ret
     exact ⟨by first | rfl | (simp <;> rfl) | (simp [*] <;> rfl), by repeat (first | (with_reducible first | exact HB.out | apply yQ | apply yL | apply yP | refine yE ?_ GE173.out) | exact HB.out)⟩
   ·
    replace c6 := Bool.eq_false_iff.mpr c6
    subst c6
    have H1 : (if a0_0 = 3 then ((spec_l06Slab.f kj1 a0_0 l0_1 l0_2 l0_3 l0_4 l0_5).bind fun t175 => (some t175)) else (if a0_0 = 4 then ((spec_l06Plain.f a0_0 l0_1 l0_2 l0_3 l0_4 l0_5).bind fun t176 => (if t176 = true then ((spec_l06Points.f kj1 l0_5).bind fun t177 => (some t177)) else (some false))) else (some false))) = some r := by rw [if_neg (show ¬ (false = true) by decide)] at H; exact H
    clear H; have H := H1; clear H1
    by_cases c14 : a0_0 = 3
    ·
     rw [if_pos c14] at H
     have c14b0 : (a0_0 == 3) = true := beq_iff_eq.mpr c14
     have c14b1 : (a0_0 != 3) = false := bne_eq_false_iff_eq.mpr c14
     clear c14
     obtain ⟨t175, A150, H⟩ := zW_ H
     replace H : (some t175) = some r := H
     have A15 := yD A150
     clear A150; obtain rfl := Option.some.inj H
     have hcz16_0 : wc.cell? ⟨gb173, 0, none⟩ = some (.int .i64 a0_0) := (yG BK173.out 0).trans rfl
     have hcz16_1 : wc.cell? ⟨gb173, 1, none⟩ = some (.slice A0_1 l0_1.length c0_1) := (yG BK173.out 1).trans rfl
     have hcz16_2 : wc.cell? ⟨gb173, 2, none⟩ = some (.slice A0_2 l0_2.length c0_2) := (yG BK173.out 2).trans rfl
     have hcz16_3 : wc.cell? ⟨gb173, 3, none⟩ = some (.slice A0_3 l0_3.length c0_3) := (yG BK173.out 3).trans rfl
     have hcz16_4 : wc.cell? ⟨gb173, 4, none⟩ = some (.slice A0_4 l0_4.length c0_4) := (yG BK173.out 4).trans rfl
     have hcz16_5 : wc.cell? ⟨gb173, 5, none⟩ = some (.slice A0_5 l0_5.length c0_5) := (yG BK173.out 5).trans rfl
     have hfz16_0 := yR BK173.out 0
     have hfz16_1 := yR BK173.out 1
     have hfz16_2 := yR BK173.out 2
     have hfz16_3 := yR BK173.out 3
     have hfz16_4 := yR BK173.out 4
     have hfz16_5 := yR BK173.out 5
     go_wp2_with (first | ((with_reducible refine gate_callee (f := 27) rfl ?_); refine goesL_ (some 19) rfl rfl Try.func27 (by kernel_rfl) rfl #[.agg #[.int .i64 a0_0, .slice A0_1 l0_1.length c0_1, .slice A0_2 l0_2.length c0_2, .slice A0_3 l0_3.length c0_3, .slice A0_4 l0_4.length c0_4, .slice A0_5 l0_5.length c0_5]] rfl (by (try simp only [zK, zL, zM]); first | done | rfl | (simp only [zN, zO]; rfl)) ?_; (with_reducible refine (spec_l06Slab.calls kj1 a0_0 _ _ l0_1 _ _ l0_2 _ _ l0_3 _ _ l0_4 _ _ l0_5 t175 _ ?side1 ?side2 ?side3 ?side4 ?side5 ?side6 ?side7 ?side8 ?side9 ?side10 A15.out).mono ?_); (case side1 => exact yY HR0_1.out HB.out); (case side2 => exact HC0_1.out); (case side3 => exact yY HR0_2.out HB.out); (case side4 => exact HC0_2.out); (case side5 => exact yY HR0_3.out HB.out); (case side6 => exact HC0_3.out); (case side7 => exact yY HR0_4.out HB.out); (case side8 => exact HC0_4.out); (case side9 => exact yY HR0_5.out HB.out); (case side10 => exact HC0_5.out); rintro e w17 ⟨rfl, hb⟩; refine ⟨_, rfl, ?_⟩; have n0_ := yD (zB (g := gb173) (o := .cells #[.int .i64 a0_0, .slice A0_1 l0_1.length c0_1, .slice A0_2 l0_2.length c0_2, .slice A0_3 l0_3.length c0_3, .slice A0_4 l0_4.length c0_4, .slice A0_5 l0_5.length c0_5] 30 (0, 0)) (by exact BK173.out) hb); have n1_ := yD (zC (by exact HB.out) hb); clear BK173; clear HB; have BK173 := n0_; have HB := n1_; clear n0_ n1_; (try clear hb); (try clear hb2); (try clear hk); (try clear hi)))
     go_ret
     exact ⟨by first | rfl | (simp <;> rfl) | (simp [*] <;> rfl), by repeat (first | (with_reducible first | exact HB.out | apply yQ | apply yL | apply yP | refine yE ?_ GE173.out) | exact HB.out)⟩
    ·
     rw [if_neg c14] at H
     have c14b0 : (a0_0 == 3) = false := beq_eq_false_iff_ne.mpr c14
     have c14b1 : (a0_0 != 3) = true := bne_iff_ne.mpr c14
     by_cases c18 : a0_0 = 4
     ·
      rw [if_pos c18] at H
      have c18b0 : (a0_0 == 4) = true := beq_iff_eq.mpr c18
      have c18b1 : (a0_0 != 4) = false := bne_eq_false_iff_eq.mpr c18
      clear c18
      obtain ⟨t176, A190, H⟩ := zW_ H
      replace H : (if t176 = true then ((spec_l06Points.f kj1 l0_5).bind fun t177 => (some t177)) else (some false)) = some r := H
      have A19 := yD A190
      clear A190
      by_cases c20 : t176 = true
      ·
       subst c20
       have H1 : ((spec_l06Points.f kj1 l0_5).bind fun t177 => (some t177)) = some r := by rw [if_pos rfl] at H; exact H
       clear H; have H := H1; clear H1
       obtain ⟨t177, A210, H⟩ := zW_ H
       replace H : (some t177) = some r := H
       have A21 := yD A210
       clear A210; obtain rfl := Option.some.inj H
       have hcz22_0 : wc.cell? ⟨gb173, 0, none⟩ = some (.int .i64 a0_0) := (yG BK173.out 0).trans rfl
       have hcz22_1 : wc.cell? ⟨gb173, 1, none⟩ = some (.slice A0_1 l0_1.length c0_1) := (yG BK173.out 1).trans rfl
       have hcz22_2 : wc.cell? ⟨gb173, 2, none⟩ = some (.slice A0_2 l0_2.length c0_2) := (yG BK173.out 2).trans rfl
       have hcz22_3 : wc.cell? ⟨gb173, 3, none⟩ = some (.slice A0_3 l0_3.length c0_3) := (yG BK173.out 3).trans rfl
       have hcz22_4 : wc.cell? ⟨gb173, 4, none⟩ = some (.slice A0_4 l0_4.length c0_4) := (yG BK173.out 4).trans rfl
       have hcz22_5 : wc.cell? ⟨gb173, 5, none⟩ = some (.slice A0_5 l0_5.length c0_5) := (yG BK173.out 5).trans rfl
       have hfz22_0 := yR BK173.out 0
       have hfz22_1 := yR BK173.out 1
       have hfz22_2 := yR BK173.out 2
       have hfz22_3 := yR BK173.out 3
       have hfz22_4 := yR BK173.out 4
       have hfz22_5 := yR BK173.out 5
       go_wp2_with (first | ((with_reducible refine gate_callee (f := 26) rfl ?_); refine goesL_ (some 23) rfl rfl Try.func26 (by kernel_rfl) rfl #[.agg #[.int .i64 a0_0, .slice A0_1 l0_1.length c0_1, .slice A0_2 l0_2.length c0_2, .slice A0_3 l0_3.length c0_3, .slice A0_4 l0_4.length c0_4, .slice A0_5 l0_5.length c0_5]] rfl (by (try simp only [zK, zL, zM]); first | done | rfl | (simp only [zN, zO]; rfl)) ?_; (with_reducible refine (spec_l06Plain.calls a0_0 _ _ l0_1 _ _ l0_2 _ _ l0_3 _ _ l0_4 _ _ l0_5 true _ ?side1 ?side2 ?side3 ?side4 ?side5 ?side6 ?side7 ?side8 ?side9 ?side10 A19.out).mono ?_); (case side1 => exact yY HR0_1.out HB.out); (case side2 => exact HC0_1.out); (case side3 => exact yY HR0_2.out HB.out); (case side4 => exact HC0_2.out); (case side5 => exact yY HR0_3.out HB.out); (case side6 => exact HC0_3.out); (case side7 => exact yY HR0_4.out HB.out); (case side8 => exact HC0_4.out); (case side9 => exact yY HR0_5.out HB.out); (case side10 => exact HC0_5.out); rintro e w23 ⟨rfl, hb⟩; refine ⟨_, rfl, ?_⟩; have n0_ := yD (zB (g := gb173) (o := .cells #[.int .i64 a0_0, .slice A0_1 l0_1.length c0_1, .slice A0_2 l0_2.length c0_2, .slice A0_3 l0_3.length c0_3, .slice A0_4 l0_4.length c0_4, .slice A0_5 l0_5.length c0_5] 30 (0, 0)) (by exact BK173.out) hb); have n1_ := yD (zC (by exact HB.out) hb); clear BK173; clear HB; have BK173 := n0_; have HB := n1_; clear n0_ n1_; (try clear hb); (try clear hb2); (try clear hk); (try clear hi); have hcz24_0 : w23.cell? ⟨gb173, 0, none⟩ = some (.int .i64 a0_0) := (yG BK173.out 0).trans rfl; have hcz24_1 : w23.cell? ⟨gb173, 1, none⟩ = some (.slice A0_1 l0_1.length c0_1) := (yG BK173.out 1).trans rfl; have hcz24_2 : w23.cell? ⟨gb173, 2, none⟩ = some (.slice A0_2 l0_2.length c0_2) := (yG BK173.out 2).trans rfl; have hcz24_3 : w23.cell? ⟨gb173, 3, none⟩ = some (.slice A0_3 l0_3.length c0_3) := (yG BK173.out 3).trans rfl; have hcz24_4 : w23.cell? ⟨gb173, 4, none⟩ = some (.slice A0_4 l0_4.length c0_4) := (yG BK173.out 4).trans rfl; have hcz24_5 : w23.cell? ⟨gb173, 5, none⟩ = some (.slice A0_5 l0_5.length c0_5) := (yG BK173.out 5).trans rfl; have hfz24_0 := yR BK173.out 0; have hfz24_1 := yR BK173.out 1; have hfz24_2 := yR BK173.out 2; have hfz24_3 := yR BK173.out 3; have hfz24_4 := yR BK173.out 4; have hfz24_5 := yR BK173.out 5) | (go_at_call 28; (with_reducible refine (spec_l06Points.calls kj1 _ _ l0_5 t177 _ ?side1 ?side2 A21.out).mono ?_); (case side1 => exact yY HR0_5.out HB.out); (case side2 => exact HC0_5.out); rintro e w' ⟨rfl, ⟨nd, rfl⟩⟩))
       go_ret
       exact ⟨by first | rfl | (simp <;> rfl) | (simp [*] <;> rfl), by repeat (first | (with_reducible first | exact HB.out | apply yQ | apply yL | apply yP | refine yE ?_ GE173.out) | exact HB.out)⟩
      ·
       replace c20 := Bool.eq_false_iff.mpr c20
       subst c20
       have H1 : (some false) = some r := by rw [if_neg (show ¬ (false = true) by decide)] at H; exact H
       clear H; have H := H1; clear H1; obtain rfl := Option.some.inj H
       have hcz25_0 : wc.cell? ⟨gb173, 0, none⟩ = some (.int .i64 a0_0) := (yG BK173.out 0).trans rfl
       have hcz25_1 : wc.cell? ⟨gb173, 1, none⟩ = some (.slice A0_1 l0_1.length c0_1) := (yG BK173.out 1).trans rfl
       have hcz25_2 : wc.cell? ⟨gb173, 2, none⟩ = some (.slice A0_2 l0_2.length c0_2) := (yG BK173.out 2).trans rfl
       have hcz25_3 : wc.cell? ⟨gb173, 3, none⟩ = some (.slice A0_3 l0_3.length c0_3) := (yG BK173.out 3).trans rfl
       have hcz25_4 : wc.cell? ⟨gb173, 4, none⟩ = some (.slice A0_4 l0_4.length c0_4) := (yG BK173.out 4).trans rfl
       have hcz25_5 : wc.cell? ⟨gb173, 5, none⟩ = some (.slice A0_5 l0_5.length c0_5) := (yG BK173.out 5).trans rfl
       have hfz25_0 := yR BK173.out 0
       have hfz25_1 := yR BK173.out 1
       have hfz25_2 := yR BK173.out 2
       have hfz25_3 := yR BK173.out 3
       have hfz25_4 := yR BK173.out 4
       have hfz25_5 := yR BK173.out 5
       go_wp2_with (first | ((with_reducible refine gate_callee (f := 26) rfl ?_); refine goesL_ (some 23) rfl rfl Try.func26 (by kernel_rfl) rfl #[.agg #[.int .i64 a0_0, .slice A0_1 l0_1.length c0_1, .slice A0_2 l0_2.length c0_2, .slice A0_3 l0_3.length c0_3, .slice A0_4 l0_4.length c0_4, .slice A0_5 l0_5.length c0_5]] rfl (by (try simp only [zK, zL, zM]); first | done | rfl | (simp only [zN, zO]; rfl)) ?_; (with_reducible refine (spec_l06Plain.calls a0_0 _ _ l0_1 _ _ l0_2 _ _ l0_3 _ _ l0_4 _ _ l0_5 false _ ?side1 ?side2 ?side3 ?side4 ?side5 ?side6 ?side7 ?side8 ?side9 ?side10 A19.out).mono ?_); (case side1 => exact yY HR0_1.out HB.out); (case side2 => exact HC0_1.out); (case side3 => exact yY HR0_2.out HB.out); (case side4 => exact HC0_2.out); (case side5 => exact yY HR0_3.out HB.out); (case side6 => exact HC0_3.out); (case side7 => exact yY HR0_4.out HB.out); (case side8 => exact HC0_4.out); (case side9 => exact yY HR0_5.out HB.out); (case side10 => exact HC0_5.out); rintro e w26 ⟨rfl, hb⟩; refine ⟨_, rfl, ?_⟩; have n0_ := yD (zB (g := gb173) (o := .cells #[.int .i64 a0_0, .slice A0_1 l0_1.length c0_1, .slice A0_2 l0_2.length c0_2, .slice A0_3 l0_3.length c0_3, .slice A0_4 l0_4.length c0_4, .slice A0_5 l0_5.length c0_5] 30 (0, 0)) (by exact BK173.out) hb); have n1_ := yD (zC (by exact HB.out) hb); clear BK173; clear HB; have BK173 := n0_; have HB := n1_; clear n0_ n1_; (try clear hb); (try clear hb2); (try clear hk); (try clear hi)))
       go_ret
       exact ⟨by first | rfl | (simp <;> rfl) | (simp [*] <;> rfl), by repeat (first | (with_reducible first | exact HB.out | apply yQ | apply yL | apply yP | refine yE ?_ GE173.out) | exact HB.out)⟩
     ·
      rw [if_neg c18] at H
      have c18b0 : (a0_0 == 4) = false := beq_eq_false_iff_ne.mpr c18
      have c18b1 : (a0_0 != 4) = true := bne_iff_ne.mpr c18
      obtain rfl := Option.some.inj H
      go_wp2
      go_ret
      exact ⟨by first | rfl | (simp <;> rfl) | (simp [*] <;> rfl), by repeat (first | (with_reducible first | exact HB.out | apply yQ | apply yL | apply yP | refine yE ?_ GE173.out) | exact HB.out)⟩

/-! ### spec_FormedSelection: function 6 -/
def spec_FormedSelection.f (k : Nat) (a0_0 : Int) (l0_1 : List Int) (l0_2 : List Int) (l0_3 : List Int) (l0_4 : List Int) (l0_5 : List (S48)) : Option (Bool) := (spec_l06Formed.f k a0_0 l0_1 l0_2 l0_3 l0_4 l0_5).bind fun t179 => (some t179)
theorem spec_FormedSelection.mono : ∀ a0 a1 a2 a3 a4 a5 k, LeO (spec_FormedSelection.f k a0 a1 a2 a3 a4 a5) (spec_FormedSelection.f (k + 1) a0 a1 a2 a3 a4 a5) := by
 intro a0 a1 a2 a3 a4 a5 k
 unfold spec_FormedSelection.f
 repeat' first
   | (with_reducible exact spec_l06Formed.mono _ _ _ _ _ _ _)
   | (with_reducible exact LeO.refl _)
   | (with_reducible exact LeO.none _)
   | (with_reducible refine LeO.ite ?_ ?_)
   | (with_reducible refine LeO.bind ?_ (fun _ => ?_))
   | exact spec_l06Formed.mono _ _ _ _ _ _ _
   | exact LeO.none _
   | refine LeO.ite ?_ ?_
   | refine LeO.bind ?_ (fun _ => ?_)
set_option maxHeartbeats 8000000 in
set_option maxRecDepth 100000 in
theorem spec_FormedSelection.calls (k : Nat) (a0_0 : Int) (A0_1 : Option Addr) (c0_1 : Nat) (l0_1 : List Int) (A0_2 : Option Addr) (c0_2 : Nat) (l0_2 : List Int) (A0_3 : Option Addr) (c0_3 : Nat) (l0_3 : List Int) (A0_4 : Option Addr) (c0_4 : Nat) (l0_4 : List Int) (A0_5 : Option Addr) (c0_5 : Nat) (l0_5 : List (S48)) (r : Bool) (w : World) (hr0_1 : Kd.C (Kd.int .i64) w A0_1 l0_1.length l0_1) (hc0_1 : l0_1.length ≤ c0_1) (hr0_2 : Kd.C (Kd.int .i64) w A0_2 l0_2.length l0_2) (hc0_2 : l0_2.length ≤ c0_2) (hr0_3 : Kd.C (Kd.int .i64) w A0_3 l0_3.length l0_3) (hc0_3 : l0_3.length ≤ c0_3) (hr0_4 : Kd.C (Kd.int .i64) w A0_4 l0_4.length l0_4) (hc0_4 : l0_4.length ≤ c0_4) (hr0_5 : Kd.C k48 w A0_5 l0_5.length l0_5) (hc0_5 : l0_5.length ≤ c0_5) (h : spec_FormedSelection.f k a0_0 l0_1 l0_2 l0_3 l0_4 l0_5 = some r) :
  Calls Try.prog 6 #[.agg #[.int .i64 a0_0, .slice A0_1 l0_1.length c0_1, .slice A0_2 l0_2.length c0_2, .slice A0_3 l0_3.length c0_3, .slice A0_4 l0_4.length c0_4, .slice A0_5 l0_5.length c0_5]] w fun e w' => e = .returned (.bool r) ∧ Below w.heap.size w w' := by
 have hu30 := Try.underlying30
 have HR0_1 := yD hr0_1
 have HC0_1 := yD hc0_1
 clear hr0_1 hc0_1
 have HR0_2 := yD hr0_2
 have HC0_2 := yD hc0_2
 clear hr0_2 hc0_2
 have HR0_3 := yD hr0_3
 have HC0_3 := yD hc0_3
 clear hr0_3 hc0_3
 have HR0_4 := yD hr0_4
 have HC0_4 := yD hc0_4
 clear hr0_4 hc0_4
 have HR0_5 := yD hr0_5
 have HC0_5 := yD hc0_5
 clear hr0_5 hc0_5
 have HB := yD (Below.refl w.heap.size w)
 have H : ((spec_l06Formed.f k a0_0 l0_1 l0_2 l0_3 l0_4 l0_5).bind fun t179 => (some t179)) = some r := h
 clear h
 obtain ⟨t179, A20, H⟩ := zW_ H
 replace H : (some t179) = some r := H
 have A2 := yD A20
 clear A20; obtain rfl := Option.some.inj H; go_enter Try.func6, Try.ntmps6
 go_wp2_with (first | ((with_reducible refine gate_dst (N := 1) rfl ?_); refine box_event ?hg (N := 1) ?hd (cs := #[.int .i64 a0_0, .slice A0_1 l0_1.length c0_1, .slice A0_2 l0_2.length c0_2, .slice A0_3 l0_3.length c0_3, .slice A0_4 l0_4.length c0_4, .slice A0_5 l0_5.length c0_5]) (t := 30) ?hr ?_; (case hd => rfl); (case hg => rfl); (case hr => first | (go_simp; done) | (go_simp; rfl)); intro gb178 hg w3 hbox hb; have n0_ := yD (zC (by exact HB.out) hb); have n1_ := yD (hbox); have n2_ := yD ((by rw [hg]; exact (below_size (by exact HB.out)) : w.heap.size ≤ gb178)); have n3_ := yD ((by rw [hg]; exact (below_size (by exact HB.out)) : w.heap.size ≤ gb178)); clear HB; have HB := n0_; have BK178 := n1_; have GW178 := n2_; have GE178 := n3_; clear n0_ n1_ n2_ n3_; clear hb hbox hg; have hcz4_0 : w3.cell? ⟨gb178, 0, none⟩ = some (.int .i64 a0_0) := (yG BK178.out 0).trans rfl; have hcz4_1 : w3.cell? ⟨gb178, 1, none⟩ = some (.slice A0_1 l0_1.length c0_1) := (yG BK178.out 1).trans rfl; have hcz4_2 : w3.cell? ⟨gb178, 2, none⟩ = some (.slice A0_2 l0_2.length c0_2) := (yG BK178.out 2).trans rfl; have hcz4_3 : w3.cell? ⟨gb178, 3, none⟩ = some (.slice A0_3 l0_3.length c0_3) := (yG BK178.out 3).trans rfl; have hcz4_4 : w3.cell? ⟨gb178, 4, none⟩ = some (.slice A0_4 l0_4.length c0_4) := (yG BK178.out 4).trans rfl; have hcz4_5 : w3.cell? ⟨gb178, 5, none⟩ = some (.slice A0_5 l0_5.length c0_5) := (yG BK178.out 5).trans rfl; have hfz4_0 := yR BK178.out 0; have hfz4_1 := yR BK178.out 1; have hfz4_2 := yR BK178.out 2; have hfz4_3 := yR BK178.out 3; have hfz4_4 := yR BK178.out 4; have hfz4_5 := yR BK178.out 5) | ((with_reducible refine gate_callee (f := 16) rfl ?_); refine goesL_ (some 4) rfl rfl Try.func16 (by kernel_rfl) rfl #[.agg #[.int .i64 a0_0, .slice A0_1 l0_1.length c0_1, .slice A0_2 l0_2.length c0_2, .slice A0_3 l0_3.length c0_3, .slice A0_4 l0_4.length c0_4, .slice A0_5 l0_5.length c0_5]] rfl (by (try simp only [zK, zL, zM]); first | done | rfl | (simp only [zN, zO]; rfl)) ?_; (with_reducible refine (spec_l06Formed.calls k a0_0 _ _ l0_1 _ _ l0_2 _ _ l0_3 _ _ l0_4 _ _ l0_5 t179 _ ?side1 ?side2 ?side3 ?side4 ?side5 ?side6 ?side7 ?side8 ?side9 ?side10 A2.out).mono ?_); (case side1 => exact yY HR0_1.out HB.out); (case side2 => exact HC0_1.out); (case side3 => exact yY HR0_2.out HB.out); (case side4 => exact HC0_2.out); (case side5 => exact yY HR0_3.out HB.out); (case side6 => exact HC0_3.out); (case side7 => exact yY HR0_4.out HB.out); (case side8 => exact HC0_4.out); (case side9 => exact yY HR0_5.out HB.out); (case side10 => exact HC0_5.out); rintro e w5 ⟨rfl, hb⟩; refine ⟨_, rfl, ?_⟩; have n0_ := yD (zB (g := gb178) (o := .cells #[.int .i64 a0_0, .slice A0_1 l0_1.length c0_1, .slice A0_2 l0_2.length c0_2, .slice A0_3 l0_3.length c0_3, .slice A0_4 l0_4.length c0_4, .slice A0_5 l0_5.length c0_5] 30 (0, 0)) (by exact BK178.out) hb); have n1_ := yD (zC (by exact HB.out) hb); clear BK178; clear HB; have BK178 := n0_; have HB := n1_; clear n0_ n1_; (try clear hb); (try clear hb2); (try clear hk); (try clear hi)))
 go_ret
 exact ⟨by first | rfl | (simp <;> rfl) | (simp [*] <;> rfl), by repeat (first | (with_reducible first | exact HB.out | apply yQ | apply yL | apply yP | refine yE ?_ GE178.out) | exact HB.out)⟩

/-! ### impl_Selection_lists: function 31 -/
def impl_Selection_lists.f (a0_0 : Int) (l0_1 : List Int) (l0_2 : List Int) (l0_3 : List Int) (l0_4 : List Int) (l0_5 : List (S48)) : Option ((List (List Int))) := some (([l0_1, l0_2, l0_3, l0_4] : List (List Int)))
set_option maxHeartbeats 8000000 in
set_option maxRecDepth 100000 in
theorem impl_Selection_lists.calls (a0_0 : Int) (P0_1_ : Nat → Prop) (A0_1 : Option Addr) (c0_1 : Nat) (l0_1 : List Int) (P0_2_ : Nat → Prop) (A0_2 : Option Addr) (c0_2 : Nat) (l0_2 : List Int) (P0_3_ : Nat → Prop) (A0_3 : Option Addr) (c0_3 : Nat) (l0_3 : List Int) (P0_4_ : Nat → Prop) (A0_4 : Option Addr) (c0_4 : Nat) (l0_4 : List Int) (A0_5 : Option Addr) (c0_5 : Nat) (l0_5 : List (S48)) (r : List (List Int)) (w : World) (hs0_1 : Kd.V (Kd.int .i64) 2 w w.heap.size (fun k_ => P0_1_ k_) (.slice A0_1 l0_1.length c0_1) l0_1) (hs0_2 : Kd.V (Kd.int .i64) 2 w w.heap.size (fun k_ => P0_2_ k_) (.slice A0_2 l0_2.length c0_2) l0_2) (hs0_3 : Kd.V (Kd.int .i64) 2 w w.heap.size (fun k_ => P0_3_ k_) (.slice A0_3 l0_3.length c0_3) l0_3) (hs0_4 : Kd.V (Kd.int .i64) 2 w w.heap.size (fun k_ => P0_4_ k_) (.slice A0_4 l0_4.length c0_4) l0_4) (hr0_5 : Kd.C k48 w A0_5 l0_5.length l0_5) (hc0_5 : l0_5.length ≤ c0_5) (h : impl_Selection_lists.f a0_0 l0_1 l0_2 l0_3 l0_4 l0_5 = some r) :
  Calls Try.prog 31 #[.agg #[.int .i64 a0_0, .slice A0_1 l0_1.length c0_1, .slice A0_2 l0_2.length c0_2, .slice A0_3 l0_3.length c0_3, .slice A0_4 l0_4.length c0_4, .slice A0_5 l0_5.length c0_5]] w fun e w' => ∃ v0_ : Value, e = .returned (v0_) ∧ Kd.N (Kd.slice 2 (Kd.int .i64)) 22 w' w.heap.size (fun k_ => ((P0_1_ k_ ∨ P0_2_ k_ ∨ P0_3_ k_ ∨ P0_4_ k_) ∨ w.heap.size ≤ k_)) v0_ r ∧ Below w.heap.size w w' := by
 have hu30 := Try.underlying30
 have HO0_1 := yD (show Kd.V (Kd.int .i64) 2 w w.heap.size (fun k_ => ((P0_1_ k_ ∨ P0_2_ k_ ∨ P0_3_ k_ ∨ P0_4_ k_) ∨ w.heap.size ≤ k_)) (.slice A0_1 l0_1.length c0_1) l0_1 from Kd.V_mono hs0_1 (fun k_ hk => .inl (.inl hk)))
 have HO0_2 := yD (show Kd.V (Kd.int .i64) 2 w w.heap.size (fun k_ => ((P0_1_ k_ ∨ P0_2_ k_ ∨ P0_3_ k_ ∨ P0_4_ k_) ∨ w.heap.size ≤ k_)) (.slice A0_2 l0_2.length c0_2) l0_2 from Kd.V_mono hs0_2 (fun k_ hk => .inl (.inr (.inl hk))))
 have HO0_3 := yD (show Kd.V (Kd.int .i64) 2 w w.heap.size (fun k_ => ((P0_1_ k_ ∨ P0_2_ k_ ∨ P0_3_ k_ ∨ P0_4_ k_) ∨ w.heap.size ≤ k_)) (.slice A0_3 l0_3.length c0_3) l0_3 from Kd.V_mono hs0_3 (fun k_ hk => .inl (.inr (.inr (.inl hk)))))
 have HO0_4 := yD (show Kd.V (Kd.int .i64) 2 w w.heap.size (fun k_ => ((P0_1_ k_ ∨ P0_2_ k_ ∨ P0_3_ k_ ∨ P0_4_ k_) ∨ w.heap.size ≤ k_)) (.slice A0_4 l0_4.length c0_4) l0_4 from Kd.V_mono hs0_4 (fun k_ hk => .inl (.inr (.inr (.inr hk)))))
 have HR0_5 := yD hr0_5
 have HC0_5 := yD hc0_5
 clear hr0_5 hc0_5
 have HB := yD (Below.refl w.heap.size w)
 have H : (some (([l0_1, l0_2, l0_3, l0_4] : List (List Int)))) = some r := h
 clear h
 obtain ⟨y181, hy181⟩ : ∃ y_ : List (List Int), y_ = (([l0_1, l0_2, l0_3, l0_4] : List (List Int))) := ⟨_, rfl⟩
 replace H : (some y181) = some r := by first | (rw [hy181]; with_reducible exact H) | (have H2_ := (Option.bind_some _ _).symm.trans H; rw [hy181]; with_reducible exact H2_) | (have H2_ := (Option.bind_some _ _).symm.trans H; with_reducible exact H2_) | with_reducible exact H | (rw [hy181]; exact H) | exact H
 have Ny181 := yD hy181
 clear hy181; obtain rfl := Option.some.inj H; go_enter Try.func31, Try.ntmps31
 go_wp2_with (first | ((with_reducible refine gate_dst (N := 1) rfl ?_); refine box_event ?hg (N := 1) ?hd (cs := #[.int .i64 a0_0, .slice A0_1 l0_1.length c0_1, .slice A0_2 l0_2.length c0_2, .slice A0_3 l0_3.length c0_3, .slice A0_4 l0_4.length c0_4, .slice A0_5 l0_5.length c0_5]) (t := 30) ?hr ?_; (case hd => rfl); (case hg => rfl); (case hr => first | (go_simp; done) | (go_simp; rfl)); intro gb180 hg w2 hbox hb; have n0_ := yD (Kd.V_below (Kd.V_elderB (by (with_reducible repeat (first | apply Kd.V_alloc | apply Kd.V_drewN | apply Kd.V_drew)); exact HO0_1.out) gb180 (Nat.le_of_eq hg.symm)) hb); have n1_ := yD (Kd.V_below (Kd.V_elderB (by (with_reducible repeat (first | apply Kd.V_alloc | apply Kd.V_drewN | apply Kd.V_drew)); exact HO0_2.out) gb180 (Nat.le_of_eq hg.symm)) hb); have n2_ := yD (Kd.V_below (Kd.V_elderB (by (with_reducible repeat (first | apply Kd.V_alloc | apply Kd.V_drewN | apply Kd.V_drew)); exact HO0_3.out) gb180 (Nat.le_of_eq hg.symm)) hb); have n3_ := yD (Kd.V_below (Kd.V_elderB (by (with_reducible repeat (first | apply Kd.V_alloc | apply Kd.V_drewN | apply Kd.V_drew)); exact HO0_4.out) gb180 (Nat.le_of_eq hg.symm)) hb); have n4_ := yD (zC (by exact HB.out) hb); have n5_ := yD (hbox); have n6_ := yD ((by rw [hg]; exact (below_size (by exact HB.out)) : w.heap.size ≤ gb180)); have n7_ := yD ((by rw [hg]; exact (below_size (by exact HB.out)) : w.heap.size ≤ gb180)); clear HO0_1; clear HO0_2; clear HO0_3; clear HO0_4; clear HB; have HO0_1 := n0_; have HO0_2 := n1_; have HO0_3 := n2_; have HO0_4 := n3_; have HB := n4_; have BK180 := n5_; have GW180 := n6_; have GE180 := n7_; clear n0_ n1_ n2_ n3_ n4_ n5_ n6_ n7_; clear hb hbox hg; have hcz3_0 : w2.cell? ⟨gb180, 0, none⟩ = some (.int .i64 a0_0) := (yG BK180.out 0).trans rfl; have hcz3_1 : w2.cell? ⟨gb180, 1, none⟩ = some (.slice A0_1 l0_1.length c0_1) := (yG BK180.out 1).trans rfl; have hcz3_2 : w2.cell? ⟨gb180, 2, none⟩ = some (.slice A0_2 l0_2.length c0_2) := (yG BK180.out 2).trans rfl; have hcz3_3 : w2.cell? ⟨gb180, 3, none⟩ = some (.slice A0_3 l0_3.length c0_3) := (yG BK180.out 3).trans rfl; have hcz3_4 : w2.cell? ⟨gb180, 4, none⟩ = some (.slice A0_4 l0_4.length c0_4) := (yG BK180.out 4).trans rfl; have hcz3_5 : w2.cell? ⟨gb180, 5, none⟩ = some (.slice A0_5 l0_5.length c0_5) := (yG BK180.out 5).trans rfl; have hfz3_0 := yR BK180.out 0; have hfz3_1 := yR BK180.out 1; have hfz3_2 := yR BK180.out 2; have hfz3_3 := yR BK180.out 3; have hfz3_4 := yR BK180.out 4; have hfz3_5 := yR BK180.out 5) | ((with_reducible refine gate_dst (N := 11) rfl ?_); refine Kd.N_lit (Kd.slice 2 (Kd.int .i64)) _ 22 ?hg (N' := 11) ?hd (xs := ([l0_1, l0_2, l0_3, l0_4] : List (List Int))) (inner := [.slice A0_1 l0_1.length c0_1, .slice A0_2 l0_2.length c0_2, .slice A0_3 l0_3.length c0_3, .slice A0_4 l0_4.length c0_4]) (ok := (fun k_ => ((P0_1_ k_ ∨ P0_2_ k_ ∨ P0_3_ k_ ∨ P0_4_ k_) ∨ w.heap.size ≤ k_) ∧ k_ ≠ gb180)) (okp := (fun k_ => ((P0_1_ k_ ∨ P0_2_ k_ ∨ P0_3_ k_ ∨ P0_4_ k_) ∨ w.heap.size ≤ k_) ∧ k_ ≠ gb180)) ?hr ?hp (fun _ hk => hk) ((show ∀ k_, w2.heap.size ≤ k_ → (fun k_ => ((P0_1_ k_ ∨ P0_2_ k_ ∨ P0_3_ k_ ∨ P0_4_ k_) ∨ w.heap.size ≤ k_) ∧ k_ ≠ gb180) k_ from fun k_ hk => ⟨(.inr (Nat.le_trans (below_size (by exact HB.out)) hk)), Kd.freshB (g := gb180) (o := .cells #[.int .i64 a0_0, .slice A0_1 l0_1.length c0_1, .slice A0_2 l0_2.length c0_2, .slice A0_3 l0_3.length c0_3, .slice A0_4 l0_4.length c0_4, .slice A0_5 l0_5.length c0_5] 30 (0, 0)) (by exact BK180.out) k_ hk⟩) _ (Nat.le_refl _)) (Below.refl _ _) (Nat.le_refl _) (by simp) ?_; (case hd => rfl); (case hg => rfl); (case hr => first | (go_simp; done) | (go_simp; rfl)); (case hp => exact (Reps.one (show Kd.FK (Kd.slice 2 (Kd.int .i64)) _ _ l0_1 [.slice A0_1 l0_1.length c0_1] from (Kd.FK_slice_mk (Kd.V_reads' (Kd.V_mono (ok' := (fun k_ => ((P0_1_ k_ ∨ P0_2_ k_ ∨ P0_3_ k_ ∨ P0_4_ k_) ∨ w.heap.size ≤ k_) ∧ k_ ≠ gb180)) (HO0_1.out) (fun k_ hk => ⟨hk.1, hk.2⟩))).2.1 (Kd.V_F (Kd.V_mono (ok' := (fun k_ => ((P0_1_ k_ ∨ P0_2_ k_ ∨ P0_3_ k_ ∨ P0_4_ k_) ∨ w.heap.size ≤ k_) ∧ k_ ≠ gb180)) (HO0_1.out) (fun k_ hk => ⟨hk.1, hk.2⟩))))) (Reps.one (show Kd.FK (Kd.slice 2 (Kd.int .i64)) _ _ l0_2 [.slice A0_2 l0_2.length c0_2] from (Kd.FK_slice_mk (Kd.V_reads' (Kd.V_mono (ok' := (fun k_ => ((P0_1_ k_ ∨ P0_2_ k_ ∨ P0_3_ k_ ∨ P0_4_ k_) ∨ w.heap.size ≤ k_) ∧ k_ ≠ gb180)) (HO0_2.out) (fun k_ hk => ⟨hk.1, hk.2⟩))).2.1 (Kd.V_F (Kd.V_mono (ok' := (fun k_ => ((P0_1_ k_ ∨ P0_2_ k_ ∨ P0_3_ k_ ∨ P0_4_ k_) ∨ w.heap.size ≤ k_) ∧ k_ ≠ gb180)) (HO0_2.out) (fun k_ hk => ⟨hk.1, hk.2⟩))))) (Reps.one (show Kd.FK (Kd.slice 2 (Kd.int .i64)) _ _ l0_3 [.slice A0_3 l0_3.length c0_3] from (Kd.FK_slice_mk (Kd.V_reads' (Kd.V_mono (ok' := (fun k_ => ((P0_1_ k_ ∨ P0_2_ k_ ∨ P0_3_ k_ ∨ P0_4_ k_) ∨ w.heap.size ≤ k_) ∧ k_ ≠ gb180)) (HO0_3.out) (fun k_ hk => ⟨hk.1, hk.2⟩))).2.1 (Kd.V_F (Kd.V_mono (ok' := (fun k_ => ((P0_1_ k_ ∨ P0_2_ k_ ∨ P0_3_ k_ ∨ P0_4_ k_) ∨ w.heap.size ≤ k_) ∧ k_ ≠ gb180)) (HO0_3.out) (fun k_ hk => ⟨hk.1, hk.2⟩))))) (Reps.one (show Kd.FK (Kd.slice 2 (Kd.int .i64)) _ _ l0_4 [.slice A0_4 l0_4.length c0_4] from (Kd.FK_slice_mk (Kd.V_reads' (Kd.V_mono (ok' := (fun k_ => ((P0_1_ k_ ∨ P0_2_ k_ ∨ P0_3_ k_ ∨ P0_4_ k_) ∨ w.heap.size ≤ k_) ∧ k_ ≠ gb180)) (HO0_4.out) (fun k_ hk => ⟨hk.1, hk.2⟩))).2.1 (Kd.V_F (Kd.V_mono (ok' := (fun k_ => ((P0_1_ k_ ∨ P0_2_ k_ ∨ P0_3_ k_ ∨ P0_4_ k_) ∨ w.heap.size ≤ k_) ∧ k_ ≠ gb180)) (HO0_4.out) (fun k_ hk => ⟨hk.1, hk.2⟩))))) (Reps.none _ _)))))); intro v182 w4 ho5 hb hg_ hnew_; clear hg_ hnew_; (first | rw [← Ny181.out] at ho5 | (simp only [Int.reduceToNat] at ho5; rw [← Ny181.out] at ho5)); have n0_ := yD (Kd.V_elder' (by (with_reducible repeat (first | apply Kd.V_alloc | apply Kd.V_drewN | apply Kd.V_drew)); exact HO0_1.out) (Kd.N_base ho5) hb); have n1_ := yD (Kd.V_elder' (by (with_reducible repeat (first | apply Kd.V_alloc | apply Kd.V_drewN | apply Kd.V_drew)); exact HO0_2.out) (Kd.N_base ho5) hb); have n2_ := yD (Kd.V_elder' (by (with_reducible repeat (first | apply Kd.V_alloc | apply Kd.V_drewN | apply Kd.V_drew)); exact HO0_3.out) (Kd.N_base ho5) hb); have n3_ := yD (Kd.V_elder' (by (with_reducible repeat (first | apply Kd.V_alloc | apply Kd.V_drewN | apply Kd.V_drew)); exact HO0_4.out) (Kd.N_base ho5) hb); have n4_ := yD (Kd.N_lower ho5 (below_size (by exact HB.out))); have n5_ := yD (zB (g := gb180) (o := .cells #[.int .i64 a0_0, .slice A0_1 l0_1.length c0_1, .slice A0_2 l0_2.length c0_2, .slice A0_3 l0_3.length c0_3, .slice A0_4 l0_4.length c0_4, .slice A0_5 l0_5.length c0_5] 30 (0, 0)) (by exact BK180.out) hb); have n6_ := yD (zC (by exact HB.out) hb); clear HO0_1; clear HO0_2; clear HO0_3; clear HO0_4; clear BK180; clear HB; have HO0_1 := n0_; have HO0_2 := n1_; have HO0_3 := n2_; have HO0_4 := n3_; have HO183 := n4_; have BK180 := n5_; have HB := n6_; clear n0_ n1_ n2_ n3_ n4_ n5_ n6_; clear hb ho5))
 go_ret
 exact ⟨_, by first | rfl | (simp <;> rfl) | (simp [*] <;> rfl), by (with_reducible repeat (first | apply Kd.N_alloc | apply Kd.N_drewN | apply Kd.N_drew)); exact Kd.N_mono HO183.out (fun _ hk => hk.1), by repeat (first | (with_reducible first | exact HB.out | apply yQ | apply yL | apply yP | refine yE ?_ GE180.out) | exact HB.out)⟩

/-! ### slices_Equal_int64_int64: function 32 -/
def slices_Equal_int64_int64.l0 : Nat → List Int → List Int → Int → Int → Option (Bool)
 | 0, _, _, _, _ => none
 | k + 1, x0, x1, x12, x13 => if x13 < x12 then (if 0 ≤ x13 then (if x13 < (x0.length : Int) then (if x13 < (x1.length : Int) then (if (rd x0 x13) = (rd x1 x13) then (slices_Equal_int64_int64.l0 k x0 x1 x12 (wrap64 (x13 + 1))) else (some false)) else (none)) else (none)) else (none)) else (some true)
def slices_Equal_int64_int64.f (k : Nat) (l0 : List Int) (l1 : List Int) : Option (Bool) := if (l0.length : Int) = (l1.length : Int) then (slices_Equal_int64_int64.l0 k l0 l1 (l0.length : Int) 0) else (some false)
theorem slices_Equal_int64_int64.mono_l : ∀ k, (∀ y0 y1 y2 y3, LeO (slices_Equal_int64_int64.l0 k y0 y1 y2 y3) (slices_Equal_int64_int64.l0 (k + 1) y0 y1 y2 y3))
 | 0 => fun _ _ _ _ r h => by simp [slices_Equal_int64_int64.l0] at h
 | k + 1 => by
  have ih0 := slices_Equal_int64_int64.mono_l k
  ·
   intro y0 y1 y2 y3
   unfold slices_Equal_int64_int64.l0
   repeat' first
   | (with_reducible exact ih0 _ _ _ _)
   | (with_reducible exact LeO.refl _)
   | (with_reducible exact LeO.none _)
   | (with_reducible refine LeO.ite ?_ ?_)
   | (with_reducible refine LeO.bind ?_ (fun _ => ?_))
   | exact ih0 _ _ _ _
   | exact LeO.none _
   | refine LeO.ite ?_ ?_
   | refine LeO.bind ?_ (fun _ => ?_)
theorem slices_Equal_int64_int64.mono : ∀ a0 a1 k, LeO (slices_Equal_int64_int64.f k a0 a1) (slices_Equal_int64_int64.f (k + 1) a0 a1) := by
 intro a0 a1 k
 have ih0 := slices_Equal_int64_int64.mono_l k
 unfold slices_Equal_int64_int64.f
 repeat' first
   | (with_reducible exact ih0 _ _ _ _)
   | (with_reducible exact LeO.refl _)
   | (with_reducible exact LeO.none _)
   | (with_reducible refine LeO.ite ?_ ?_)
   | (with_reducible refine LeO.bind ?_ (fun _ => ?_))
   | exact ih0 _ _ _ _
   | exact LeO.none _
   | refine LeO.ite ?_ ?_
   | refine LeO.bind ?_ (fun _ => ?_)
set_option maxHeartbeats 8000000 in
set_option maxRecDepth 100000 in
theorem slices_Equal_int64_int64.calls (k : Nat) (A0 : Option Addr) (c0 : Nat) (l0 : List Int) (A1 : Option Addr) (c1 : Nat) (l1 : List Int) (r : Bool) (w : World) (hr0 : Kd.C (Kd.int .i64) w A0 l0.length l0) (hc0 : l0.length ≤ c0) (hr1 : Kd.C (Kd.int .i64) w A1 l1.length l1) (hc1 : l1.length ≤ c1) (h : slices_Equal_int64_int64.f k l0 l1 = some r) :
  Calls Try.prog 32 #[.slice A0 l0.length c0, .slice A1 l1.length c1] w fun e w' => e = .returned (.bool r) ∧ Drawn0 w w' := by
 have HR0 := yD hr0
 have HC0 := yD hc0
 clear hr0 hc0
 have HR1 := yD hr1
 have HC1 := yD hc1
 clear hr1 hc1
 have H : (if (l0.length : Int) = (l1.length : Int) then (slices_Equal_int64_int64.l0 k l0 l1 (l0.length : Int) 0) else (some false)) = some r := h
 clear h
 by_cases c3 : (l0.length : Int) = (l1.length : Int)
 ·
  rw [if_pos c3] at H
  have c3b0 : ((l0.length : Int) == (l1.length : Int)) = true := beq_iff_eq.mpr c3
  have c3b1 : ((l0.length : Int) != (l1.length : Int)) = false := bne_eq_false_iff_eq.mpr c3
  have c3b2 : (l0.length == l1.length) = true := by first | simpa using c3 | (simp at c3 ⊢; omega)
  clear c3
  have H' := yD H
  clear H; go_enter Try.func32, Try.ntmps32
  go_wp2
  repeat (go_quiet (fail); try go_wp2)
  go_loopg [13] k (fun kq v13 w' => ∃ (x13_1 : Int), v13 = .int .i64 x13_1 ∧ Aside0 (slices_Equal_int64_int64.l0 kq l0 l1 (l0.length : Int) x13_1 = some r) ∧ Aside0 (kq ≤ k) ∧ Drawn0 w w')
  case atStart => exact ⟨(0), (by first | rfl | (simp; done) | (simp [*]; done)), H', ⟨Nat.le_refl _⟩, by repeat (first | exact Drawn0.refl _ | apply Drawn0.step)⟩
  case round =>
   clear H'
   try clear c1; try clear p2; try clear c3; try clear c3b0; try clear c3b1; try clear c3b2
   obtain ⟨x13_1, rfl, HA, HK1, ⟨m1, rfl⟩⟩ := hrel
   cases gk with
   | zero => exact absurd HA.out (by simp [slices_Equal_int64_int64.l0])
   | succ k1 =>
    have H := HA.out; clear HA
    simp only [slices_Equal_int64_int64.l0] at H
    by_cases c4 : x13_1 < (l0.length : Int)
    ·
     rw [if_pos c4] at H; have c4b0 : decide (x13_1 < (l0.length : Int)) = true := zR c4; clear c4
     by_cases c5 : 0 ≤ x13_1
     ·
      rw [if_pos c5] at H; have c5b0 : decide (0 ≤ x13_1) = true := zR c5; clear c5
      by_cases c6 : x13_1 < (l0.length : Int)
      ·
       rw [if_pos c6] at H; have c6b0 : decide (x13_1 < (l0.length : Int)) = true := zR c6; clear c6
       by_cases c7 : x13_1 < (l1.length : Int)
       ·
        rw [if_pos c7] at H; have c7b0 : decide (x13_1 < (l1.length : Int)) = true := zR c7; clear c7
        by_cases c8 : (rd l0 x13_1) = (rd l1 x13_1)
        ·
         rw [if_pos c8] at H
         have c8b0 : ((rd l0 x13_1) == (rd l1 x13_1)) = true := beq_iff_eq.mpr c8
         have c8b1 : ((rd l0 x13_1) != (rd l1 x13_1)) = false := bne_eq_false_iff_eq.mpr c8
         clear c8
         have H' := yD H
         clear H
         have p184 : 0 ≤ (x13_1 : Int) := zP (by assumption)
         have q184 : x13_1 < (l0.length : Int) := zP (by assumption)
         obtain ⟨ad184, e184, hx184_0⟩ := Kd.at_int HR0.out x13_1 p184 q184
         cases e184; replace p184 := eq_true p184; replace q184 := eq_true q184
         have p185 : 0 ≤ (x13_1 : Int) := zP (by assumption)
         have q185 : x13_1 < (l1.length : Int) := zP (by assumption)
         obtain ⟨ad185, e185, hx185_0⟩ := Kd.at_int HR1.out x13_1 p185 q185
         cases e185; replace p185 := eq_true p185; replace q185 := eq_true q185
         go_wp2
         repeat (go_quiet (fail); try go_wp2)
         go_roundg k1
         case measure => have := HK1.out; omega
         case rel => exact ⟨(wrap64 (x13_1 + 1)), (by first | rfl | (simp; done) | (simp [*]; done)), H', ⟨by have := HK1.out; omega⟩, by repeat (first | exact Drawn0.refl _ | apply Drawn0.step)⟩
        ·
         rw [if_neg c8] at H
         have c8b0 : ((rd l0 x13_1) == (rd l1 x13_1)) = false := beq_eq_false_iff_ne.mpr c8
         have c8b1 : ((rd l0 x13_1) != (rd l1 x13_1)) = true := bne_iff_ne.mpr c8
         obtain rfl := Option.some.inj H
         have p184 : 0 ≤ (x13_1 : Int) := zP (by assumption)
         have q184 : x13_1 < (l0.length : Int) := zP (by assumption)
         obtain ⟨ad184, e184, hx184_0⟩ := Kd.at_int HR0.out x13_1 p184 q184
         cases e184; replace p184 := eq_true p184; replace q184 := eq_true q184
         have p185 : 0 ≤ (x13_1 : Int) := zP (by assumption)
         have q185 : x13_1 < (l1.length : Int) := zP (by assumption)
         obtain ⟨ad185, e185, hx185_0⟩ := Kd.at_int HR1.out x13_1 p185 q185
         cases e185; replace p185 := eq_true p185; replace q185 := eq_true q185
         go_wp2
         repeat (go_quiet (fail); try go_wp2)
         go_ret
         exact ⟨by first | rfl | (simp; done) | (simp [*]; done), by repeat (first | exact Drawn0.refl _ | apply Drawn0.step)⟩
       ·
        rw [if_neg c7] at H
        exact absurd H (by simp)
      ·
       rw [if_neg c6] at H
       exact absurd H (by simp)
     ·
      rw [if_neg c5] at H
      exact absurd H (by simp)
    ·
     rw [if_neg c4] at H; have c4b0 : decide (x13_1 < (l0.length : Int)) = false := zS c4; clear c4; obtain rfl := Option.some.inj H
     go_wp2
     repeat (go_quiet (fail); try go_wp2)
     go_ret
     exact ⟨by first | rfl | (simp; done) | (simp [*]; done), by repeat (first | exact Drawn0.refl _ | apply Drawn0.step)⟩
 ·
  rw [if_neg c3] at H
  have c3b0 : ((l0.length : Int) == (l1.length : Int)) = false := beq_eq_false_iff_ne.mpr c3
  have c3b1 : ((l0.length : Int) != (l1.length : Int)) = true := bne_iff_ne.mpr c3
  have c3b2 : (l0.length == l1.length) = false := by first | simpa using c3 | (simp at c3 ⊢; omega)
  obtain rfl := Option.some.inj H; go_enter Try.func32, Try.ntmps32
  go_wp2
  repeat (go_quiet (fail); try go_wp2)
  go_ret
  exact ⟨by first | rfl | (simp; done) | (simp [*]; done), by repeat (first | exact Drawn0.refl _ | apply Drawn0.step)⟩

end Go.Proofs.Ytobdoafjlbifpaa.PFnExactFormedSelection
