/- Each Go function here comes to what the plain function of its name says, where that says something. Made by a program of this session, over the print. -/
import Derived.Test.YtfblodggimjoaaaPFnExactSameTypex0
import Derived.Test.YtfblodggimjoaaaPFnExactSameTypex4
import Derived.Test.YtfblodggimjoaaaPFnExactSameTypex5
namespace Go.Proofs.Ytfblodggimjoaaa.PFnExactSameType
open Go.RowKit Go.Proofs.YtfblodggimjoaaaW.PrintWords Go.Proofs.YtfblodggimjoaaaW.PrintLast Go.Proofs.YtfblodggimjoaaaW.PrintMore
attribute [local go_sem] max2_int min2_int max_two min_two max_three min_three max_four min_four   -- for this text's walks alone
set_option linter.unusedVariables false
set_option linter.unusedSimpArgs false

/-! ### laws_eqTypeS: function 47 -/
def laws_eqTypeS.l0 (Y_ : Int → Int → Bool → Bool → List ByteArray → List Int → List (S64) → List (S33) → Int → Int → Int → Bool → Bool → List ByteArray → List Int → List (S64) → List (S33) → Int → Option (Bool)) : Nat → List (S33) → List (S33) → Int → Option (Bool)
 | 0, _, _, _ => none
 | k + 1, x0, x1, x5 => if x5 < (x0.length : Int) then (if 0 ≤ x5 then (if x5 < (x1.length : Int) then ((Y_ ((rd_T33 x0 x5).f0) ((rd_T33 x0 x5).f1) ((rd_T33 x0 x5).f2) ((rd_T33 x0 x5).f3) ((rd_T33 x0 x5).f4) ((rd_T33 x0 x5).f5) ((rd_T33 x0 x5).f6) ((rd_T33 x0 x5).f7) ((rd_T33 x0 x5).f8) ((rd_T33 x1 x5).f0) ((rd_T33 x1 x5).f1) ((rd_T33 x1 x5).f2) ((rd_T33 x1 x5).f3) ((rd_T33 x1 x5).f4) ((rd_T33 x1 x5).f5) ((rd_T33 x1 x5).f6) ((rd_T33 x1 x5).f7) ((rd_T33 x1 x5).f8)).bind fun t409 => (if t409 = true then (laws_eqTypeS.l0 Y_ k x0 x1 (wrap64 (x5 + 1))) else (some false))) else (none)) else (none)) else (some true)
def laws_eqTypeS.f (Y_ : Int → Int → Bool → Bool → List ByteArray → List Int → List (S64) → List (S33) → Int → Int → Int → Bool → Bool → List ByteArray → List Int → List (S64) → List (S33) → Int → Option (Bool)) (k : Nat) (l0 : List (S33)) (l1 : List (S33)) : Option (Bool) := if (l0.length : Int) = (l1.length : Int) then (laws_eqTypeS.l0 Y_ k l0 l1 0) else (some false)
def laws_eqTypeS.T6 : Bool × List (List Nat × List Nat) := (true, [([], []), ([], []), ([0, 1], [0, 1]), ([2], [2]), ([], []), ([], []), ([4, 5], [4, 5]), ([6], [6]), ([3, 7], [3, 7]), ([8], [8])])
def laws_eqTypeS.B6 : List Nat := [0, 0, 3, 7, 0, 0, 48, 112, 255, 511]
theorem laws_eqTypeS.tab6 : rtab .any (opsOf Try.f47 6) = laws_eqTypeS.T6 := by kernel_rfl
theorem laws_eqTypeS.bits6 : waitsOk laws_eqTypeS.T6.2 laws_eqTypeS.B6 = true := by kernel_rfl
set_option maxHeartbeats 8000000 in
set_option maxRecDepth 100000 in
theorem laws_eqTypeS.calls (Y_ : Int → Int → Bool → Bool → List ByteArray → List Int → List (S64) → List (S33) → Int → Int → Int → Bool → Bool → List ByteArray → List Int → List (S64) → List (S33) → Int → Option (Bool)) (HY_ : ∀ (a0_0 : Int) (a0_1 : Int) (a0_2 : Bool) (a0_3 : Bool) (A0_4 : Option Addr) (c0_4 : Nat) (l0_4 : List ByteArray) (A0_5 : Option Addr) (c0_5 : Nat) (l0_5 : List Int) (A0_6 : Option Addr) (c0_6 : Nat) (l0_6 : List (S64)) (A0_7 : Option Addr) (c0_7 : Nat) (l0_7 : List (S33)) (a0_8 : Int) (a1_0 : Int) (a1_1 : Int) (a1_2 : Bool) (a1_3 : Bool) (A1_4 : Option Addr) (c1_4 : Nat) (l1_4 : List ByteArray) (A1_5 : Option Addr) (c1_5 : Nat) (l1_5 : List Int) (A1_6 : Option Addr) (c1_6 : Nat) (l1_6 : List (S64)) (A1_7 : Option Addr) (c1_7 : Nat) (l1_7 : List (S33)) (a1_8 : Int) (r : Bool) (w : World) (hr0_4 : Kd.C Kd.string w A0_4 l0_4.length l0_4) (hc0_4 : l0_4.length ≤ c0_4) (hr0_5 : Kd.C (Kd.int .i64) w A0_5 l0_5.length l0_5) (hc0_5 : l0_5.length ≤ c0_5) (hr0_6 : Kd.C k64 w A0_6 l0_6.length l0_6) (hc0_6 : l0_6.length ≤ c0_6) (hr0_7 : Kd.C k33 w A0_7 l0_7.length l0_7) (hc0_7 : l0_7.length ≤ c0_7) (hr1_4 : Kd.C Kd.string w A1_4 l1_4.length l1_4) (hc1_4 : l1_4.length ≤ c1_4) (hr1_5 : Kd.C (Kd.int .i64) w A1_5 l1_5.length l1_5) (hc1_5 : l1_5.length ≤ c1_5) (hr1_6 : Kd.C k64 w A1_6 l1_6.length l1_6) (hc1_6 : l1_6.length ≤ c1_6) (hr1_7 : Kd.C k33 w A1_7 l1_7.length l1_7) (hc1_7 : l1_7.length ≤ c1_7) (h : Y_ a0_0 a0_1 a0_2 a0_3 l0_4 l0_5 l0_6 l0_7 a0_8 a1_0 a1_1 a1_2 a1_3 l1_4 l1_5 l1_6 l1_7 a1_8 = some r), Calls Try.prog 11 #[.agg #[.int .i64 a0_0, .int .i64 a0_1, .bool a0_2, .bool a0_3, .slice A0_4 l0_4.length c0_4, .slice A0_5 l0_5.length c0_5, .slice A0_6 l0_6.length c0_6, .slice A0_7 l0_7.length c0_7, .int .i64 a0_8], .agg #[.int .i64 a1_0, .int .i64 a1_1, .bool a1_2, .bool a1_3, .slice A1_4 l1_4.length c1_4, .slice A1_5 l1_5.length c1_5, .slice A1_6 l1_6.length c1_6, .slice A1_7 l1_7.length c1_7, .int .i64 a1_8]] w fun e w' => e = .returned (.bool r) ∧ Below w.heap.size w w') (k : Nat) (A0 : Option Addr) (c0 : Nat) (l0 : List (S33)) (A1 : Option Addr) (c1 : Nat) (l1 : List (S33)) (r : Bool) (w : World) (hr0 : Kd.C k33 w A0 l0.length l0) (hc0 : l0.length ≤ c0) (hr1 : Kd.C k33 w A1 l1.length l1) (hc1 : l1.length ≤ c1) (h : laws_eqTypeS.f Y_ k l0 l1 = some r) :
 Calls Try.prog 47 #[.slice A0 l0.length c0, .slice A1 l1.length c1] w fun e w' => e = .returned (.bool r) ∧ Below w.heap.size w w' := by
 have hu33 := Try.underlying33
 have HR0 := yD hr0
 have HC0 := yD hc0
 clear hr0 hc0
 have HR1 := yD hr1
 have HC1 := yD hc1
 clear hr1 hc1
 have HB := yD (Below.refl w.heap.size w)
 have H : (if (l0.length : Int) = (l1.length : Int) then (laws_eqTypeS.l0 Y_ k l0 l1 0) else (some false)) = some r := h
 clear h
 by_cases c3 : (l0.length : Int) = (l1.length : Int)
 ·
  rw [if_pos c3] at H
  have c3b0 : ((l0.length : Int) == (l1.length : Int)) = true := beq_iff_eq.mpr c3
  have c3b1 : ((l0.length : Int) != (l1.length : Int)) = false := bne_eq_false_iff_eq.mpr c3
  have c3b2 : (l0.length == l1.length) = true := by first | simpa using c3 | (simp at c3 ⊢; omega)
  clear c3
  have H' := yD H
  clear H; go_enter Try.func47, Try.ntmps47
  go_wp2
  go_loopg [5] k (fun kq v5 w' => ∃ (x5_1 : Int), v5 = .int .i64 x5_1 ∧ Aside0 (laws_eqTypeS.l0 Y_ kq l0 l1 x5_1 = some r) ∧ Aside0 (kq ≤ k) ∧ Aside0 (Below w.heap.size w w'))
  case atStart => exact ⟨(0), (by first | rfl | (simp; done) | (simp [*]; done)), H', ⟨Nat.le_refl _⟩, ⟨kR1 HB⟩⟩
  case round =>
   clear H'
   try clear c1; try clear c3; try clear c3b0; try clear c3b1; try clear c3b2
   obtain ⟨x5_1, rfl, HA, HK1, HB⟩ := hrel
   cases gk with
   | zero => exact absurd HA.out (by simp [laws_eqTypeS.l0])
   | succ k1 =>
    have H := HA.out; clear HA
    simp only [laws_eqTypeS.l0] at H
    by_cases c4 : x5_1 < (l0.length : Int)
    ·
     rw [if_pos c4] at H
     have c4b0 : decide (x5_1 < (l0.length : Int)) = true := zR c4; clear c4
     by_cases c5 : 0 ≤ x5_1
     ·
      rw [if_pos c5] at H
      have c5b0 : decide (0 ≤ x5_1) = true := zR c5; clear c5
      by_cases c6 : x5_1 < (l1.length : Int)
      ·
       rw [if_pos c6] at H
       have c6b0 : decide (x5_1 < (l1.length : Int)) = true := zR c6; clear c6
       obtain ⟨t409, A70, H⟩ := zW_ H
       replace H : (if t409 = true then (laws_eqTypeS.l0 Y_ k1 l0 l1 (wrap64 (x5_1 + 1))) else (some false)) = some r := H
       have A7 := yD A70
       clear A70
       by_cases c8 : t409 = true
       ·
        subst c8
        replace H : (laws_eqTypeS.l0 Y_ k1 l0 l1 (wrap64 (x5_1 + 1))) = some r := (by rw [if_pos rfl] at H; exact H)
        have H' := yD H
        clear H
        try go_wp2
        have n0_ := yD (yP HB.out)
        clear HB; have HB := n0_; clear n0_
        have p407 : 0 ≤ (x5_1 : Int) := zP (by assumption)
        have q407 : x5_1 < (l0.length : Int) := zP (by assumption)
        obtain ⟨ad407, A407_4, c407_4, A407_5, c407_5, A407_6, c407_6, A407_7, c407_7, e407, hx407_0, hx407_1, hx407_2, hx407_3, hx407_4, hx407_5, hx407_6, hx407_7, hx407_8, hl407_4, hi407_4, hl407_5, hi407_5, hl407_6, hi407_6, hl407_7, hi407_7⟩ := at_T33 HR0.out x5_1 p407 q407
        have hw407_8 := hx407_8; have hw407_7 := hx407_7; have hw407_6 := hx407_6; have hw407_5 := hx407_5; have hw407_4 := hx407_4; have hw407_3 := hx407_3; have hw407_2 := hx407_2; have hw407_1 := hx407_1; have hw407_0 := hx407_0; cases e407
        replace hx407_0 := (HB.out.cell (zQ w _ hx407_0)).trans hx407_0
        replace hx407_1 := (HB.out.cell (zQ w _ hx407_1)).trans hx407_1
        replace hx407_2 := (HB.out.cell (zQ w _ hx407_2)).trans hx407_2
        replace hx407_3 := (HB.out.cell (zQ w _ hx407_3)).trans hx407_3
        replace hx407_4 := (HB.out.cell (zQ w _ hx407_4)).trans hx407_4
        replace hx407_5 := (HB.out.cell (zQ w _ hx407_5)).trans hx407_5
        replace hx407_6 := (HB.out.cell (zQ w _ hx407_6)).trans hx407_6
        replace hx407_7 := (HB.out.cell (zQ w _ hx407_7)).trans hx407_7
        replace hx407_8 := (HB.out.cell (zQ w _ hx407_8)).trans hx407_8
        have HR407_4 := yD hi407_4
        have HC407_4 := yD hl407_4
        clear hi407_4 hl407_4
        have HR407_5 := yD hi407_5
        have HC407_5 := yD hl407_5
        clear hi407_5 hl407_5
        have HR407_6 := yD hi407_6
        have HC407_6 := yD hl407_6
        clear hi407_6 hl407_6
        have HR407_7 := yD hi407_7
        have HC407_7 := yD hl407_7
        clear hi407_7 hl407_7; replace p407 := eq_true p407; replace q407 := eq_true q407
        have p408 : 0 ≤ (x5_1 : Int) := zP (by assumption)
        have q408 : x5_1 < (l1.length : Int) := zP (by assumption)
        obtain ⟨ad408, A408_4, c408_4, A408_5, c408_5, A408_6, c408_6, A408_7, c408_7, e408, hx408_0, hx408_1, hx408_2, hx408_3, hx408_4, hx408_5, hx408_6, hx408_7, hx408_8, hl408_4, hi408_4, hl408_5, hi408_5, hl408_6, hi408_6, hl408_7, hi408_7⟩ := at_T33 HR1.out x5_1 p408 q408
        have hw408_8 := hx408_8; have hw408_7 := hx408_7; have hw408_6 := hx408_6; have hw408_5 := hx408_5; have hw408_4 := hx408_4; have hw408_3 := hx408_3; have hw408_2 := hx408_2; have hw408_1 := hx408_1; have hw408_0 := hx408_0; cases e408
        replace hx408_0 := (HB.out.cell (zQ w _ hx408_0)).trans hx408_0
        replace hx408_1 := (HB.out.cell (zQ w _ hx408_1)).trans hx408_1
        replace hx408_2 := (HB.out.cell (zQ w _ hx408_2)).trans hx408_2
        replace hx408_3 := (HB.out.cell (zQ w _ hx408_3)).trans hx408_3
        replace hx408_4 := (HB.out.cell (zQ w _ hx408_4)).trans hx408_4
        replace hx408_5 := (HB.out.cell (zQ w _ hx408_5)).trans hx408_5
        replace hx408_6 := (HB.out.cell (zQ w _ hx408_6)).trans hx408_6
        replace hx408_7 := (HB.out.cell (zQ w _ hx408_7)).trans hx408_7
        replace hx408_8 := (HB.out.cell (zQ w _ hx408_8)).trans hx408_8
        have HR408_4 := yD hi408_4
        have HC408_4 := yD hl408_4
        clear hi408_4 hl408_4
        have HR408_5 := yD hi408_5
        have HC408_5 := yD hl408_5
        clear hi408_5 hl408_5
        have HR408_6 := yD hi408_6
        have HC408_6 := yD hl408_6
        clear hi408_6 hl408_6
        have HR408_7 := yD hi408_7
        have HC408_7 := yD hl408_7
        clear hi408_7 hl408_7; replace p408 := eq_true p408; replace q408 := eq_true q408
        refine start_ (n := 10) (S := fun w' => w'.cell? (ad407.add ((x5_1).toNat * 9)) = some (.int .i64 ((rd_T33 l0 x5_1).f0)) ∧ w'.cell? ⟨(ad407.add ((x5_1).toNat * 9)).block, (ad407.add ((x5_1).toNat * 9)).off + 1, none⟩ = some (.int .i64 ((rd_T33 l0 x5_1).f1)) ∧ w'.cell? ⟨(ad407.add ((x5_1).toNat * 9)).block, (ad407.add ((x5_1).toNat * 9)).off + 2, none⟩ = some (.bool ((rd_T33 l0 x5_1).f2)) ∧ w'.cell? ⟨(ad407.add ((x5_1).toNat * 9)).block, (ad407.add ((x5_1).toNat * 9)).off + 3, none⟩ = some (.bool ((rd_T33 l0 x5_1).f3)) ∧ w'.cell? ⟨(ad407.add ((x5_1).toNat * 9)).block, (ad407.add ((x5_1).toNat * 9)).off + 4, none⟩ = some (.slice A407_4 ((rd_T33 l0 x5_1).f4).length c407_4) ∧ w'.cell? ⟨(ad407.add ((x5_1).toNat * 9)).block, (ad407.add ((x5_1).toNat * 9)).off + 5, none⟩ = some (.slice A407_5 ((rd_T33 l0 x5_1).f5).length c407_5) ∧ w'.cell? ⟨(ad407.add ((x5_1).toNat * 9)).block, (ad407.add ((x5_1).toNat * 9)).off + 6, none⟩ = some (.slice A407_6 ((rd_T33 l0 x5_1).f6).length c407_6) ∧ w'.cell? ⟨(ad407.add ((x5_1).toNat * 9)).block, (ad407.add ((x5_1).toNat * 9)).off + 7, none⟩ = some (.slice A407_7 ((rd_T33 l0 x5_1).f7).length c407_7) ∧ w'.cell? ⟨(ad407.add ((x5_1).toNat * 9)).block, (ad407.add ((x5_1).toNat * 9)).off + 8, none⟩ = some (.int .i64 ((rd_T33 l0 x5_1).f8)) ∧ w'.cell? (ad408.add ((x5_1).toNat * 9)) = some (.int .i64 ((rd_T33 l1 x5_1).f0)) ∧ w'.cell? ⟨(ad408.add ((x5_1).toNat * 9)).block, (ad408.add ((x5_1).toNat * 9)).off + 1, none⟩ = some (.int .i64 ((rd_T33 l1 x5_1).f1)) ∧ w'.cell? ⟨(ad408.add ((x5_1).toNat * 9)).block, (ad408.add ((x5_1).toNat * 9)).off + 2, none⟩ = some (.bool ((rd_T33 l1 x5_1).f2)) ∧ w'.cell? ⟨(ad408.add ((x5_1).toNat * 9)).block, (ad408.add ((x5_1).toNat * 9)).off + 3, none⟩ = some (.bool ((rd_T33 l1 x5_1).f3)) ∧ w'.cell? ⟨(ad408.add ((x5_1).toNat * 9)).block, (ad408.add ((x5_1).toNat * 9)).off + 4, none⟩ = some (.slice A408_4 ((rd_T33 l1 x5_1).f4).length c408_4) ∧ w'.cell? ⟨(ad408.add ((x5_1).toNat * 9)).block, (ad408.add ((x5_1).toNat * 9)).off + 5, none⟩ = some (.slice A408_5 ((rd_T33 l1 x5_1).f5).length c408_5) ∧ w'.cell? ⟨(ad408.add ((x5_1).toNat * 9)).block, (ad408.add ((x5_1).toNat * 9)).off + 6, none⟩ = some (.slice A408_6 ((rd_T33 l1 x5_1).f6).length c408_6) ∧ w'.cell? ⟨(ad408.add ((x5_1).toNat * 9)).block, (ad408.add ((x5_1).toNat * 9)).off + 7, none⟩ = some (.slice A408_7 ((rd_T33 l1 x5_1).f7).length c408_7) ∧ w'.cell? ⟨(ad408.add ((x5_1).toNat * 9)).block, (ad408.add ((x5_1).toNat * 9)).off + 8, none⟩ = some (.int .i64 ((rd_T33 l1 x5_1).f8))) (ds := []) (bz 10 0) (by kernel_rfl) rfl rfl ⟨((HB.out.cell (zQ w _ hw407_0)).trans hw407_0), ((HB.out.cell (zQ w _ hw407_1)).trans hw407_1), ((HB.out.cell (zQ w _ hw407_2)).trans hw407_2), ((HB.out.cell (zQ w _ hw407_3)).trans hw407_3), ((HB.out.cell (zQ w _ hw407_4)).trans hw407_4), ((HB.out.cell (zQ w _ hw407_5)).trans hw407_5), ((HB.out.cell (zQ w _ hw407_6)).trans hw407_6), ((HB.out.cell (zQ w _ hw407_7)).trans hw407_7), ((HB.out.cell (zQ w _ hw407_8)).trans hw407_8), ((HB.out.cell (zQ w _ hw408_0)).trans hw408_0), ((HB.out.cell (zQ w _ hw408_1)).trans hw408_1), ((HB.out.cell (zQ w _ hw408_2)).trans hw408_2), ((HB.out.cell (zQ w _ hw408_3)).trans hw408_3), ((HB.out.cell (zQ w _ hw408_4)).trans hw408_4), ((HB.out.cell (zQ w _ hw408_5)).trans hw408_5), ((HB.out.cell (zQ w _ hw408_6)).trans hw408_6), ((HB.out.cell (zQ w _ hw408_7)).trans hw408_7), ((HB.out.cell (zQ w _ hw408_8)).trans hw408_8)⟩ (fun hHeld => ?_); refine with_tabW laws_eqTypeS.tab6 laws_eqTypeS.bits6 (fun HT_ HW_ => ?_)
        generalize wr.drew = w9 at HB HR407_4 HR407_5 HR407_6 HR407_7 HR408_4 HR408_5 HR408_6 HR408_7 hx407_0 hx407_1 hx407_2 hx407_3 hx407_4 hx407_5 hx407_6 hx407_7 hx407_8 hx408_0 hx408_1 hx408_2 hx408_3 hx408_4 hx408_5 hx408_6 hx408_7 hx408_8 hHeld ⊢
        refine qA 0 17 (bz 10 1) HT_ ?_
        refine qA 1 18 (bz 10 3) HT_ ?_
        refine qA 2 19 (bz 10 7) HT_ ?_
        refine qA 4 21 (bz 10 23) HT_ ?_
        refine qA 5 22 (bz 10 55) HT_ ?_
        refine qA 6 23 (bz 10 119) HT_ ?_
        refine qC 3 20 (bz 10 127) HT_ HW_ hHeld ?_ (hy := by rintro w' ⟨s0, s1, s2, s3, s4, s5, s6, s7, s8, s9, s10, s11, s12, s13, s14, s15, s16, s17⟩; go_simp; with_reducible rfl)
        refine qC 7 24 (bz 10 255) HT_ HW_ hHeld ?_ (hy := by rintro w' ⟨s0, s1, s2, s3, s4, s5, s6, s7, s8, s9, s10, s11, s12, s13, s14, s15, s16, s17⟩; go_simp; with_reducible rfl)
        refine one_ (i := 8) (N := some 25) (bz 10 511) rfl rfl (one_of HT_.out (by kernel_rfl)) (by decide) (fun K hK => ?_)
        refine goes_ Try.func11 (by kernel_rfl) rfl #[.agg #[.int .i64 ((rd_T33 l0 x5_1).f0), .int .i64 ((rd_T33 l0 x5_1).f1), .bool ((rd_T33 l0 x5_1).f2), .bool ((rd_T33 l0 x5_1).f3), .slice A407_4 ((rd_T33 l0 x5_1).f4).length c407_4, .slice A407_5 ((rd_T33 l0 x5_1).f5).length c407_5, .slice A407_6 ((rd_T33 l0 x5_1).f6).length c407_6, .slice A407_7 ((rd_T33 l0 x5_1).f7).length c407_7, .int .i64 ((rd_T33 l0 x5_1).f8)], .agg #[.int .i64 ((rd_T33 l1 x5_1).f0), .int .i64 ((rd_T33 l1 x5_1).f1), .bool ((rd_T33 l1 x5_1).f2), .bool ((rd_T33 l1 x5_1).f3), .slice A408_4 ((rd_T33 l1 x5_1).f4).length c408_4, .slice A408_5 ((rd_T33 l1 x5_1).f5).length c408_5, .slice A408_6 ((rd_T33 l1 x5_1).f6).length c408_6, .slice A408_7 ((rd_T33 l1 x5_1).f7).length c408_7, .int .i64 ((rd_T33 l1 x5_1).f8)]] (by rfl) rfl rfl (by (try simp only [zK, zL, zM]); first | done | rfl | (simp only [zN, zO]; rfl)) ?_
        with_reducible refine (HY_ ((rd_T33 l0 x5_1).f0) ((rd_T33 l0 x5_1).f1) ((rd_T33 l0 x5_1).f2) ((rd_T33 l0 x5_1).f3) _ _ ((rd_T33 l0 x5_1).f4) _ _ ((rd_T33 l0 x5_1).f5) _ _ ((rd_T33 l0 x5_1).f6) _ _ ((rd_T33 l0 x5_1).f7) ((rd_T33 l0 x5_1).f8) ((rd_T33 l1 x5_1).f0) ((rd_T33 l1 x5_1).f1) ((rd_T33 l1 x5_1).f2) ((rd_T33 l1 x5_1).f3) _ _ ((rd_T33 l1 x5_1).f4) _ _ ((rd_T33 l1 x5_1).f5) _ _ ((rd_T33 l1 x5_1).f6) _ _ ((rd_T33 l1 x5_1).f7) ((rd_T33 l1 x5_1).f8) true _ ?side1 ?side2 ?side3 ?side4 ?side5 ?side6 ?side7 ?side8 ?side9 ?side10 ?side11 ?side12 ?side13 ?side14 ?side15 ?side16 A7.out).mono ?_
        (case side1 => exact kV (yY HR407_4.out HB.out))
        (case side2 => exact HC407_4.out)
        (case side3 => exact kV (yY HR407_5.out HB.out))
        (case side4 => exact HC407_5.out)
        (case side5 => exact kV (yY HR407_6.out HB.out))
        (case side6 => exact HC407_6.out)
        (case side7 => exact kV (yY HR407_7.out HB.out))
        (case side8 => exact HC407_7.out)
        (case side9 => exact kV (yY HR408_4.out HB.out))
        (case side10 => exact HC408_4.out)
        (case side11 => exact kV (yY HR408_5.out HB.out))
        (case side12 => exact HC408_5.out)
        (case side13 => exact kV (yY HR408_6.out HB.out))
        (case side14 => exact HC408_6.out)
        (case side15 => exact kV (yY HR408_7.out HB.out))
        (case side16 => exact HC408_7.out)
        rintro e w10 ⟨rfl, hb⟩
        refine ⟨_, rfl, ?_⟩
        have n0_ := yD (zC (kB HB) hb)
        clear HB; have HB := n0_; clear n0_; (try clear hb); (try clear hb2); (try clear hk); (try clear hi)
        refine hK.out _ _ ⟨((HB.out.cell (zQ w _ hw407_0)).trans hw407_0), ((HB.out.cell (zQ w _ hw407_1)).trans hw407_1), ((HB.out.cell (zQ w _ hw407_2)).trans hw407_2), ((HB.out.cell (zQ w _ hw407_3)).trans hw407_3), ((HB.out.cell (zQ w _ hw407_4)).trans hw407_4), ((HB.out.cell (zQ w _ hw407_5)).trans hw407_5), ((HB.out.cell (zQ w _ hw407_6)).trans hw407_6), ((HB.out.cell (zQ w _ hw407_7)).trans hw407_7), ((HB.out.cell (zQ w _ hw407_8)).trans hw407_8), ((HB.out.cell (zQ w _ hw408_0)).trans hw408_0), ((HB.out.cell (zQ w _ hw408_1)).trans hw408_1), ((HB.out.cell (zQ w _ hw408_2)).trans hw408_2), ((HB.out.cell (zQ w _ hw408_3)).trans hw408_3), ((HB.out.cell (zQ w _ hw408_4)).trans hw408_4), ((HB.out.cell (zQ w _ hw408_5)).trans hw408_5), ((HB.out.cell (zQ w _ hw408_6)).trans hw408_6), ((HB.out.cell (zQ w _ hw408_7)).trans hw408_7), ((HB.out.cell (zQ w _ hw408_8)).trans hw408_8)⟩ (fun hHeld => ?_)
        clear hK K
        refine norm_ (a' := ?_) ?_ ?_
        rotate_left
        · show Act.put _ (some 25) _ = _
          simp only [Act.put, zH, zI, zJ, i64_w, i32_w]
          rfl
        refine qA 9 26 (bz 10 1023) HT_ ?_
        refine done_ (done_of HT_.out (by kernel_rfl)) ?_
        try go_wp2
        go_roundg k1
        case measure => have := HK1.out; omega
        case rel => exact ⟨(wrap64 (x5_1 + 1)), (by first | rfl | (simp; done) | (simp [*]; done)), H', ⟨by have := HK1.out; omega⟩, ⟨kR1 HB⟩⟩
       ·
        replace c8 := Bool.eq_false_iff.mpr c8
        subst c8
        replace H : (some false) = some r := (by rw [if_neg (show ¬ (false = true) by decide)] at H; exact H); obtain rfl := Option.some.inj H
        try go_wp2
        have n0_ := yD (yP HB.out)
        clear HB; have HB := n0_; clear n0_
        have p407 : 0 ≤ (x5_1 : Int) := zP (by assumption)
        have q407 : x5_1 < (l0.length : Int) := zP (by assumption)
        obtain ⟨ad407, A407_4, c407_4, A407_5, c407_5, A407_6, c407_6, A407_7, c407_7, e407, hx407_0, hx407_1, hx407_2, hx407_3, hx407_4, hx407_5, hx407_6, hx407_7, hx407_8, hl407_4, hi407_4, hl407_5, hi407_5, hl407_6, hi407_6, hl407_7, hi407_7⟩ := at_T33 HR0.out x5_1 p407 q407
        have hw407_8 := hx407_8; have hw407_7 := hx407_7; have hw407_6 := hx407_6; have hw407_5 := hx407_5; have hw407_4 := hx407_4; have hw407_3 := hx407_3; have hw407_2 := hx407_2; have hw407_1 := hx407_1; have hw407_0 := hx407_0; cases e407
        replace hx407_0 := (HB.out.cell (zQ w _ hx407_0)).trans hx407_0
        replace hx407_1 := (HB.out.cell (zQ w _ hx407_1)).trans hx407_1
        replace hx407_2 := (HB.out.cell (zQ w _ hx407_2)).trans hx407_2
        replace hx407_3 := (HB.out.cell (zQ w _ hx407_3)).trans hx407_3
        replace hx407_4 := (HB.out.cell (zQ w _ hx407_4)).trans hx407_4
        replace hx407_5 := (HB.out.cell (zQ w _ hx407_5)).trans hx407_5
        replace hx407_6 := (HB.out.cell (zQ w _ hx407_6)).trans hx407_6
        replace hx407_7 := (HB.out.cell (zQ w _ hx407_7)).trans hx407_7
        replace hx407_8 := (HB.out.cell (zQ w _ hx407_8)).trans hx407_8
        have HR407_4 := yD hi407_4
        have HC407_4 := yD hl407_4
        clear hi407_4 hl407_4
        have HR407_5 := yD hi407_5
        have HC407_5 := yD hl407_5
        clear hi407_5 hl407_5
        have HR407_6 := yD hi407_6
        have HC407_6 := yD hl407_6
        clear hi407_6 hl407_6
        have HR407_7 := yD hi407_7
        have HC407_7 := yD hl407_7
        clear hi407_7 hl407_7; replace p407 := eq_true p407; replace q407 := eq_true q407
        have p408 : 0 ≤ (x5_1 : Int) := zP (by assumption)
        have q408 : x5_1 < (l1.length : Int) := zP (by assumption)
        obtain ⟨ad408, A408_4, c408_4, A408_5, c408_5, A408_6, c408_6, A408_7, c408_7, e408, hx408_0, hx408_1, hx408_2, hx408_3, hx408_4, hx408_5, hx408_6, hx408_7, hx408_8, hl408_4, hi408_4, hl408_5, hi408_5, hl408_6, hi408_6, hl408_7, hi408_7⟩ := at_T33 HR1.out x5_1 p408 q408
        have hw408_8 := hx408_8; have hw408_7 := hx408_7; have hw408_6 := hx408_6; have hw408_5 := hx408_5; have hw408_4 := hx408_4; have hw408_3 := hx408_3; have hw408_2 := hx408_2; have hw408_1 := hx408_1; have hw408_0 := hx408_0; cases e408
        replace hx408_0 := (HB.out.cell (zQ w _ hx408_0)).trans hx408_0
        replace hx408_1 := (HB.out.cell (zQ w _ hx408_1)).trans hx408_1
        replace hx408_2 := (HB.out.cell (zQ w _ hx408_2)).trans hx408_2
        replace hx408_3 := (HB.out.cell (zQ w _ hx408_3)).trans hx408_3
        replace hx408_4 := (HB.out.cell (zQ w _ hx408_4)).trans hx408_4
        replace hx408_5 := (HB.out.cell (zQ w _ hx408_5)).trans hx408_5
        replace hx408_6 := (HB.out.cell (zQ w _ hx408_6)).trans hx408_6
        replace hx408_7 := (HB.out.cell (zQ w _ hx408_7)).trans hx408_7
        replace hx408_8 := (HB.out.cell (zQ w _ hx408_8)).trans hx408_8
        have HR408_4 := yD hi408_4
        have HC408_4 := yD hl408_4
        clear hi408_4 hl408_4
        have HR408_5 := yD hi408_5
        have HC408_5 := yD hl408_5
        clear hi408_5 hl408_5
        have HR408_6 := yD hi408_6
        have HC408_6 := yD hl408_6
        clear hi408_6 hl408_6
        have HR408_7 := yD hi408_7
        have HC408_7 := yD hl408_7
        clear hi408_7 hl408_7; replace p408 := eq_true p408; replace q408 := eq_true q408
        refine start_ (n := 10) (S := fun w' => w'.cell? (ad407.add ((x5_1).toNat * 9)) = some (.int .i64 ((rd_T33 l0 x5_1).f0)) ∧ w'.cell? ⟨(ad407.add ((x5_1).toNat * 9)).block, (ad407.add ((x5_1).toNat * 9)).off + 1, none⟩ = some (.int .i64 ((rd_T33 l0 x5_1).f1)) ∧ w'.cell? ⟨(ad407.add ((x5_1).toNat * 9)).block, (ad407.add ((x5_1).toNat * 9)).off + 2, none⟩ = some (.bool ((rd_T33 l0 x5_1).f2)) ∧ w'.cell? ⟨(ad407.add ((x5_1).toNat * 9)).block, (ad407.add ((x5_1).toNat * 9)).off + 3, none⟩ = some (.bool ((rd_T33 l0 x5_1).f3)) ∧ w'.cell? ⟨(ad407.add ((x5_1).toNat * 9)).block, (ad407.add ((x5_1).toNat * 9)).off + 4, none⟩ = some (.slice A407_4 ((rd_T33 l0 x5_1).f4).length c407_4) ∧ w'.cell? ⟨(ad407.add ((x5_1).toNat * 9)).block, (ad407.add ((x5_1).toNat * 9)).off + 5, none⟩ = some (.slice A407_5 ((rd_T33 l0 x5_1).f5).length c407_5) ∧ w'.cell? ⟨(ad407.add ((x5_1).toNat * 9)).block, (ad407.add ((x5_1).toNat * 9)).off + 6, none⟩ = some (.slice A407_6 ((rd_T33 l0 x5_1).f6).length c407_6) ∧ w'.cell? ⟨(ad407.add ((x5_1).toNat * 9)).block, (ad407.add ((x5_1).toNat * 9)).off + 7, none⟩ = some (.slice A407_7 ((rd_T33 l0 x5_1).f7).length c407_7) ∧ w'.cell? ⟨(ad407.add ((x5_1).toNat * 9)).block, (ad407.add ((x5_1).toNat * 9)).off + 8, none⟩ = some (.int .i64 ((rd_T33 l0 x5_1).f8)) ∧ w'.cell? (ad408.add ((x5_1).toNat * 9)) = some (.int .i64 ((rd_T33 l1 x5_1).f0)) ∧ w'.cell? ⟨(ad408.add ((x5_1).toNat * 9)).block, (ad408.add ((x5_1).toNat * 9)).off + 1, none⟩ = some (.int .i64 ((rd_T33 l1 x5_1).f1)) ∧ w'.cell? ⟨(ad408.add ((x5_1).toNat * 9)).block, (ad408.add ((x5_1).toNat * 9)).off + 2, none⟩ = some (.bool ((rd_T33 l1 x5_1).f2)) ∧ w'.cell? ⟨(ad408.add ((x5_1).toNat * 9)).block, (ad408.add ((x5_1).toNat * 9)).off + 3, none⟩ = some (.bool ((rd_T33 l1 x5_1).f3)) ∧ w'.cell? ⟨(ad408.add ((x5_1).toNat * 9)).block, (ad408.add ((x5_1).toNat * 9)).off + 4, none⟩ = some (.slice A408_4 ((rd_T33 l1 x5_1).f4).length c408_4) ∧ w'.cell? ⟨(ad408.add ((x5_1).toNat * 9)).block, (ad408.add ((x5_1).toNat * 9)).off + 5, none⟩ = some (.slice A408_5 ((rd_T33 l1 x5_1).f5).length c408_5) ∧ w'.cell? ⟨(ad408.add ((x5_1).toNat * 9)).block, (ad408.add ((x5_1).toNat * 9)).off + 6, none⟩ = some (.slice A408_6 ((rd_T33 l1 x5_1).f6).length c408_6) ∧ w'.cell? ⟨(ad408.add ((x5_1).toNat * 9)).block, (ad408.add ((x5_1).toNat * 9)).off + 7, none⟩ = some (.slice A408_7 ((rd_T33 l1 x5_1).f7).length c408_7) ∧ w'.cell? ⟨(ad408.add ((x5_1).toNat * 9)).block, (ad408.add ((x5_1).toNat * 9)).off + 8, none⟩ = some (.int .i64 ((rd_T33 l1 x5_1).f8))) (ds := []) (bz 10 0) (by kernel_rfl) rfl rfl ⟨((HB.out.cell (zQ w _ hw407_0)).trans hw407_0), ((HB.out.cell (zQ w _ hw407_1)).trans hw407_1), ((HB.out.cell (zQ w _ hw407_2)).trans hw407_2), ((HB.out.cell (zQ w _ hw407_3)).trans hw407_3), ((HB.out.cell (zQ w _ hw407_4)).trans hw407_4), ((HB.out.cell (zQ w _ hw407_5)).trans hw407_5), ((HB.out.cell (zQ w _ hw407_6)).trans hw407_6), ((HB.out.cell (zQ w _ hw407_7)).trans hw407_7), ((HB.out.cell (zQ w _ hw407_8)).trans hw407_8), ((HB.out.cell (zQ w _ hw408_0)).trans hw408_0), ((HB.out.cell (zQ w _ hw408_1)).trans hw408_1), ((HB.out.cell (zQ w _ hw408_2)).trans hw408_2), ((HB.out.cell (zQ w _ hw408_3)).trans hw408_3), ((HB.out.cell (zQ w _ hw408_4)).trans hw408_4), ((HB.out.cell (zQ w _ hw408_5)).trans hw408_5), ((HB.out.cell (zQ w _ hw408_6)).trans hw408_6), ((HB.out.cell (zQ w _ hw408_7)).trans hw408_7), ((HB.out.cell (zQ w _ hw408_8)).trans hw408_8)⟩ (fun hHeld => ?_); refine with_tabW laws_eqTypeS.tab6 laws_eqTypeS.bits6 (fun HT_ HW_ => ?_)
        generalize wr.drew = w11 at HB HR407_4 HR407_5 HR407_6 HR407_7 HR408_4 HR408_5 HR408_6 HR408_7 hx407_0 hx407_1 hx407_2 hx407_3 hx407_4 hx407_5 hx407_6 hx407_7 hx407_8 hx408_0 hx408_1 hx408_2 hx408_3 hx408_4 hx408_5 hx408_6 hx408_7 hx408_8 hHeld ⊢
        refine qA 0 17 (bz 10 1) HT_ ?_
        refine qA 1 18 (bz 10 3) HT_ ?_
        refine qA 2 19 (bz 10 7) HT_ ?_
        refine qA 4 21 (bz 10 23) HT_ ?_
        refine qA 5 22 (bz 10 55) HT_ ?_
        refine qA 6 23 (bz 10 119) HT_ ?_
        refine qC 3 20 (bz 10 127) HT_ HW_ hHeld ?_ (hy := by rintro w' ⟨s0, s1, s2, s3, s4, s5, s6, s7, s8, s9, s10, s11, s12, s13, s14, s15, s16, s17⟩; go_simp; with_reducible rfl)
        refine qC 7 24 (bz 10 255) HT_ HW_ hHeld ?_ (hy := by rintro w' ⟨s0, s1, s2, s3, s4, s5, s6, s7, s8, s9, s10, s11, s12, s13, s14, s15, s16, s17⟩; go_simp; with_reducible rfl)
        refine one_ (i := 8) (N := some 25) (bz 10 511) rfl rfl (one_of HT_.out (by kernel_rfl)) (by decide) (fun K hK => ?_)
        refine goes_ Try.func11 (by kernel_rfl) rfl #[.agg #[.int .i64 ((rd_T33 l0 x5_1).f0), .int .i64 ((rd_T33 l0 x5_1).f1), .bool ((rd_T33 l0 x5_1).f2), .bool ((rd_T33 l0 x5_1).f3), .slice A407_4 ((rd_T33 l0 x5_1).f4).length c407_4, .slice A407_5 ((rd_T33 l0 x5_1).f5).length c407_5, .slice A407_6 ((rd_T33 l0 x5_1).f6).length c407_6, .slice A407_7 ((rd_T33 l0 x5_1).f7).length c407_7, .int .i64 ((rd_T33 l0 x5_1).f8)], .agg #[.int .i64 ((rd_T33 l1 x5_1).f0), .int .i64 ((rd_T33 l1 x5_1).f1), .bool ((rd_T33 l1 x5_1).f2), .bool ((rd_T33 l1 x5_1).f3), .slice A408_4 ((rd_T33 l1 x5_1).f4).length c408_4, .slice A408_5 ((rd_T33 l1 x5_1).f5).length c408_5, .slice A408_6 ((rd_T33 l1 x5_1).f6).length c408_6, .slice A408_7 ((rd_T33 l1 x5_1).f7).length c408_7, .int .i64 ((rd_T33 l1 x5_1).f8)]] (by rfl) rfl rfl (by (try simp only [zK, zL, zM]); first | done | rfl | (simp only [zN, zO]; rfl)) ?_
        with_reducible refine (HY_ ((rd_T33 l0 x5_1).f0) ((rd_T33 l0 x5_1).f1) ((rd_T33 l0 x5_1).f2) ((rd_T33 l0 x5_1).f3) _ _ ((rd_T33 l0 x5_1).f4) _ _ ((rd_T33 l0 x5_1).f5) _ _ ((rd_T33 l0 x5_1).f6) _ _ ((rd_T33 l0 x5_1).f7) ((rd_T33 l0 x5_1).f8) ((rd_T33 l1 x5_1).f0) ((rd_T33 l1 x5_1).f1) ((rd_T33 l1 x5_1).f2) ((rd_T33 l1 x5_1).f3) _ _ ((rd_T33 l1 x5_1).f4) _ _ ((rd_T33 l1 x5_1).f5) _ _ ((rd_T33 l1 x5_1).f6) _ _ ((rd_T33 l1 x5_1).f7) ((rd_T33 l1 x5_1).f8) false _ ?side1 ?side2 ?side3 ?side4 ?side5 ?side6 ?side7 ?side8 ?side9 ?side10 ?side11 ?side12 ?side13 ?side14 ?side15 ?side16 A7.out).mono ?_
        (case side1 => exact kV (yY HR407_4.out HB.out))
        (case side2 => exact HC407_4.out)
        (case side3 => exact kV (yY HR407_5.out HB.out))
        (case side4 => exact HC407_5.out)
        (case side5 => exact kV (yY HR407_6.out HB.out))
        (case side6 => exact HC407_6.out)
        (case side7 => exact kV (yY HR407_7.out HB.out))
        (case side8 => exact HC407_7.out)
        (case side9 => exact kV (yY HR408_4.out HB.out))
        (case side10 => exact HC408_4.out)
        (case side11 => exact kV (yY HR408_5.out HB.out))
        (case side12 => exact HC408_5.out)
        (case side13 => exact kV (yY HR408_6.out HB.out))
        (case side14 => exact HC408_6.out)
        (case side15 => exact kV (yY HR408_7.out HB.out))
        (case side16 => exact HC408_7.out)
        rintro e w12 ⟨rfl, hb⟩
        refine ⟨_, rfl, ?_⟩
        have n0_ := yD (zC (kB HB) hb)
        clear HB; have HB := n0_; clear n0_; (try clear hb); (try clear hb2); (try clear hk); (try clear hi)
        refine hK.out _ _ ⟨((HB.out.cell (zQ w _ hw407_0)).trans hw407_0), ((HB.out.cell (zQ w _ hw407_1)).trans hw407_1), ((HB.out.cell (zQ w _ hw407_2)).trans hw407_2), ((HB.out.cell (zQ w _ hw407_3)).trans hw407_3), ((HB.out.cell (zQ w _ hw407_4)).trans hw407_4), ((HB.out.cell (zQ w _ hw407_5)).trans hw407_5), ((HB.out.cell (zQ w _ hw407_6)).trans hw407_6), ((HB.out.cell (zQ w _ hw407_7)).trans hw407_7), ((HB.out.cell (zQ w _ hw407_8)).trans hw407_8), ((HB.out.cell (zQ w _ hw408_0)).trans hw408_0), ((HB.out.cell (zQ w _ hw408_1)).trans hw408_1), ((HB.out.cell (zQ w _ hw408_2)).trans hw408_2), ((HB.out.cell (zQ w _ hw408_3)).trans hw408_3), ((HB.out.cell (zQ w _ hw408_4)).trans hw408_4), ((HB.out.cell (zQ w _ hw408_5)).trans hw408_5), ((HB.out.cell (zQ w _ hw408_6)).trans hw408_6), ((HB.out.cell (zQ w _ hw408_7)).trans hw408_7), ((HB.out.cell (zQ w _ hw408_8)).trans hw408_8)⟩ (fun hHeld => ?_)
        clear hK K
        refine norm_ (a' := ?_) ?_ ?_
        rotate_left
        · show Act.put _ (some 25) _ = _
          simp only [Act.put, zH, zI, zJ, i64_w, i32_w]
          rfl
        refine qA 9 26 (bz 10 1023) HT_ ?_
        refine done_ (done_of HT_.out (by kernel_rfl)) ?_
        try go_wp2
        go_ret
        exact ⟨by first | rfl | (simp <;> rfl) | (simp [*] <;> rfl), kR1 HB⟩
      · rw [if_neg c6] at H
        exact absurd H (by simp)
     · rw [if_neg c5] at H
       exact absurd H (by simp)
    · rw [if_neg c4] at H
      have c4b0 : decide (x5_1 < (l0.length : Int)) = false := zS c4; clear c4; obtain rfl := Option.some.inj H
      go_wp2
      go_ret
      exact ⟨by first | rfl | (simp <;> rfl) | (simp [*] <;> rfl), kR1 HB⟩
 ·
  rw [if_neg c3] at H
  have c3b0 : ((l0.length : Int) == (l1.length : Int)) = false := beq_eq_false_iff_ne.mpr c3
  have c3b1 : ((l0.length : Int) != (l1.length : Int)) = true := bne_iff_ne.mpr c3
  have c3b2 : (l0.length == l1.length) = false := by first | simpa using c3 | (simp at c3 ⊢; omega)
  obtain rfl := Option.some.inj H; go_enter Try.func47, Try.ntmps47
  go_wp2
  go_ret
  exact ⟨by first | rfl | (simp <;> rfl) | (simp [*] <;> rfl), kR1 HB⟩

/-! ### laws_eqType: function 11 -/
def laws_eqType.f : Nat → Int → Int → Bool → Bool → List ByteArray → List Int → List (S64) → List (S33) → Int → Int → Int → Bool → Bool → List ByteArray → List Int → List (S64) → List (S33) → Int → Option (Bool)
 | 0, _, _, _, _, _, _, _, _, _, _, _, _, _, _, _, _, _, _ => none
 | k + 1, a0_0, a0_1, a0_2, a0_3, l0_4, l0_5, l0_6, l0_7, a0_8, a1_0, a1_1, a1_2, a1_3, l1_4, l1_5, l1_6, l1_7, a1_8 => if a0_0 = a1_0 then (if a0_1 = a1_1 then (if (a0_2 != a1_2) = true then (some false) else (if (a0_3 != a1_3) = true then (some false) else ((laws_eqStringS.f k l0_4 l1_4).bind fun t412 => (if t412 = true then ((laws_eqInt64S.f k l0_5 l1_5).bind fun t413 => (if t413 = true then ((laws_eqMemberS.f (laws_eqType.f k) k l0_6 l1_6).bind fun t414 => (if t414 = true then ((laws_eqTypeS.f (laws_eqType.f k) k l0_7 l1_7).bind fun t415 => (if t415 = true then (if a0_8 = a1_8 then (some true) else (some false)) else (some false))) else (some false))) else (some false))) else (some false))))) else (some false)) else (some false)
set_option maxHeartbeats 8000000 in
set_option maxRecDepth 100000 in
theorem laws_eqType.calls (k : Nat) : ∀ (a0_0 : Int) (a0_1 : Int) (a0_2 : Bool) (a0_3 : Bool) (A0_4 : Option Addr) (c0_4 : Nat) (l0_4 : List ByteArray) (A0_5 : Option Addr) (c0_5 : Nat) (l0_5 : List Int) (A0_6 : Option Addr) (c0_6 : Nat) (l0_6 : List (S64)) (A0_7 : Option Addr) (c0_7 : Nat) (l0_7 : List (S33)) (a0_8 : Int) (a1_0 : Int) (a1_1 : Int) (a1_2 : Bool) (a1_3 : Bool) (A1_4 : Option Addr) (c1_4 : Nat) (l1_4 : List ByteArray) (A1_5 : Option Addr) (c1_5 : Nat) (l1_5 : List Int) (A1_6 : Option Addr) (c1_6 : Nat) (l1_6 : List (S64)) (A1_7 : Option Addr) (c1_7 : Nat) (l1_7 : List (S33)) (a1_8 : Int) (r : Bool) (w : World) (hr0_4 : Kd.C Kd.string w A0_4 l0_4.length l0_4) (hc0_4 : l0_4.length ≤ c0_4) (hr0_5 : Kd.C (Kd.int .i64) w A0_5 l0_5.length l0_5) (hc0_5 : l0_5.length ≤ c0_5) (hr0_6 : Kd.C k64 w A0_6 l0_6.length l0_6) (hc0_6 : l0_6.length ≤ c0_6) (hr0_7 : Kd.C k33 w A0_7 l0_7.length l0_7) (hc0_7 : l0_7.length ≤ c0_7) (hr1_4 : Kd.C Kd.string w A1_4 l1_4.length l1_4) (hc1_4 : l1_4.length ≤ c1_4) (hr1_5 : Kd.C (Kd.int .i64) w A1_5 l1_5.length l1_5) (hc1_5 : l1_5.length ≤ c1_5) (hr1_6 : Kd.C k64 w A1_6 l1_6.length l1_6) (hc1_6 : l1_6.length ≤ c1_6) (hr1_7 : Kd.C k33 w A1_7 l1_7.length l1_7) (hc1_7 : l1_7.length ≤ c1_7) (h : laws_eqType.f k a0_0 a0_1 a0_2 a0_3 l0_4 l0_5 l0_6 l0_7 a0_8 a1_0 a1_1 a1_2 a1_3 l1_4 l1_5 l1_6 l1_7 a1_8 = some r),
 Calls Try.prog 11 #[.agg #[.int .i64 a0_0, .int .i64 a0_1, .bool a0_2, .bool a0_3, .slice A0_4 l0_4.length c0_4, .slice A0_5 l0_5.length c0_5, .slice A0_6 l0_6.length c0_6, .slice A0_7 l0_7.length c0_7, .int .i64 a0_8], .agg #[.int .i64 a1_0, .int .i64 a1_1, .bool a1_2, .bool a1_3, .slice A1_4 l1_4.length c1_4, .slice A1_5 l1_5.length c1_5, .slice A1_6 l1_6.length c1_6, .slice A1_7 l1_7.length c1_7, .int .i64 a1_8]] w fun e w' => e = .returned (.bool r) ∧ Below w.heap.size w w' := by
 induction k using Nat.strongRecOn with
 | _ k ih =>
 intro a0_0 a0_1 a0_2 a0_3 A0_4 c0_4 l0_4 A0_5 c0_5 l0_5 A0_6 c0_6 l0_6 A0_7 c0_7 l0_7 a0_8 a1_0 a1_1 a1_2 a1_3 A1_4 c1_4 l1_4 A1_5 c1_5 l1_5 A1_6 c1_6 l1_6 A1_7 c1_7 l1_7 a1_8 r w hr0_4 hc0_4 hr0_5 hc0_5 hr0_6 hc0_6 hr0_7 hc0_7 hr1_4 hc1_4 hr1_5 hc1_5 hr1_6 hc1_6 hr1_7 hc1_7 h
 cases k with
 | zero => exact absurd h (by simp [laws_eqType.f])
 | succ k =>
 simp only [laws_eqType.f] at h
 have hu33 := Try.underlying33
 have HR0_4 := yD hr0_4
 have HC0_4 := yD hc0_4
 clear hr0_4 hc0_4
 have HR0_5 := yD hr0_5
 have HC0_5 := yD hc0_5
 clear hr0_5 hc0_5
 have HR0_6 := yD hr0_6
 have HC0_6 := yD hc0_6
 clear hr0_6 hc0_6
 have HR0_7 := yD hr0_7
 have HC0_7 := yD hc0_7
 clear hr0_7 hc0_7
 have HR1_4 := yD hr1_4
 have HC1_4 := yD hc1_4
 clear hr1_4 hc1_4
 have HR1_5 := yD hr1_5
 have HC1_5 := yD hc1_5
 clear hr1_5 hc1_5
 have HR1_6 := yD hr1_6
 have HC1_6 := yD hc1_6
 clear hr1_6 hc1_6
 have HR1_7 := yD hr1_7
 have HC1_7 := yD hc1_7
 clear hr1_7 hc1_7
 have HB := yD (Below.refl w.heap.size w)
 have H : (if a0_0 = a1_0 then (if a0_1 = a1_1 then (if (a0_2 != a1_2) = true then (some false) else (if (a0_3 != a1_3) = true then (some false) else ((laws_eqStringS.f k l0_4 l1_4).bind fun t412 => (if t412 = true then ((laws_eqInt64S.f k l0_5 l1_5).bind fun t413 => (if t413 = true then ((laws_eqMemberS.f (laws_eqType.f k) k l0_6 l1_6).bind fun t414 => (if t414 = true then ((laws_eqTypeS.f (laws_eqType.f k) k l0_7 l1_7).bind fun t415 => (if t415 = true then (if a0_8 = a1_8 then (some true) else (some false)) else (some false))) else (some false))) else (some false))) else (some false))))) else (some false)) else (some false)) = some r := h
 clear h
 by_cases c3 : a0_0 = a1_0
 ·
  rw [if_pos c3] at H
  have c3b0 : (a0_0 == a1_0) = true := beq_iff_eq.mpr c3
  have c3b1 : (a0_0 != a1_0) = false := bne_eq_false_iff_eq.mpr c3
  clear c3
  by_cases c4 : a0_1 = a1_1
  ·
   rw [if_pos c4] at H
   have c4b0 : (a0_1 == a1_1) = true := beq_iff_eq.mpr c4
   have c4b1 : (a0_1 != a1_1) = false := bne_eq_false_iff_eq.mpr c4
   clear c4
   by_cases c5 : (a0_2 != a1_2) = true
   ·
    rw [if_pos c5] at H
    have c5b0 : (a0_2 != a1_2) = true := c5
    (try (have c5b1 : decide (a0_2 = a1_2) = false := by simpa using c5))
    (try (have c5b2 : (a0_2 == a1_2) = false := by simpa using c5))
    (try (have c5b3 : ¬ (a0_2 = a1_2) := by simpa using c5))
    clear c5; obtain rfl := Option.some.inj H; go_enter Try.func11, Try.ntmps11
    go_wp2_with (first | ((with_reducible refine gate_dst (N := 2) rfl ?_); refine box_event ?hg (N := 2) ?hd (cs := #[.int .i64 a0_0, .int .i64 a0_1, .bool a0_2, .bool a0_3, .slice A0_4 l0_4.length c0_4, .slice A0_5 l0_5.length c0_5, .slice A0_6 l0_6.length c0_6, .slice A0_7 l0_7.length c0_7, .int .i64 a0_8]) (t := 33) ?hr ?_; (case hd => rfl); (case hg => rfl); (case hr => first | (go_simp; done) | (go_simp; rfl)); intro gb410 hg w6 hbox hb; have BK410 := yD (hbox); have GW410 := yD ((by rw [hg]; exact (below_size (kB HB)) : w.heap.size ≤ gb410)); have GE410 := yD ((by rw [hg]; exact (below_size (kB HB)) : w.heap.size ≤ gb410)); replace HB := yD (zC (kB HB) hb); clear hb hbox hg) | ((with_reducible refine gate_dst (N := 3) rfl ?_); refine box_event ?hg (N := 3) ?hd (cs := #[.int .i64 a1_0, .int .i64 a1_1, .bool a1_2, .bool a1_3, .slice A1_4 l1_4.length c1_4, .slice A1_5 l1_5.length c1_5, .slice A1_6 l1_6.length c1_6, .slice A1_7 l1_7.length c1_7, .int .i64 a1_8]) (t := 33) ?hr ?_; (case hd => rfl); (case hg => rfl); (case hr => first | (go_simp; done) | (go_simp; rfl)); intro gb411 hg w7 hbox hb; have BK411 := yD (hbox); have GW411 := yD ((by rw [hg]; exact (below_size (kB HB)) : w.heap.size ≤ gb411)); have GE411 := yD ((by rw [hg]; exact (below_size (kB HB)) : w.heap.size ≤ gb411)); replace HB := yD (zC (kB HB) hb); have NB410_411 := yD ((by rw [hg]; exact Nat.ne_of_lt (blk_lt (kN BK410)) : gb410 ≠ gb411)); have NB411_410 := yD ((by rw [hg]; exact Nat.ne_of_gt (blk_lt (kN BK410)) : gb411 ≠ gb410)); replace BK410 := yD (zB (kN BK410) hb); clear hb hbox hg; have hnb8 := NB410_411.out; have hnc8 := NB411_410.out; obtain ⟨hcz9_0, hcz9_1, hcz9_2, hcz9_3, hcz9_4, hcz9_5, hcz9_6, hcz9_7, hcz9_8⟩ := cz9 BK410.out; obtain ⟨hfz9_0, hfz9_1, hfz9_2, hfz9_3, hfz9_4, hfz9_5, hfz9_6, hfz9_7, hfz9_8⟩ := fz9 BK410.out; obtain ⟨hcz10_0, hcz10_1, hcz10_2, hcz10_3, hcz10_4, hcz10_5, hcz10_6, hcz10_7, hcz10_8⟩ := cz9 BK411.out; obtain ⟨hfz10_0, hfz10_1, hfz10_2, hfz10_3, hfz10_4, hfz10_5, hfz10_6, hfz10_7, hfz10_8⟩ := fz9 BK411.out))
    go_ret
    exact ⟨by first | rfl | (simp <;> rfl) | (simp [*] <;> rfl), kR0 HB⟩
   ·
    rw [if_neg c5] at H
    have c5b0 : (a0_2 != a1_2) = false := by simpa using c5
    (try (have c5b1 : decide (a0_2 = a1_2) = true := by simpa using c5))
    (try (have c5b2 : (a0_2 == a1_2) = true := by simpa using c5))
    clear c5
    by_cases c11 : (a0_3 != a1_3) = true
    ·
     rw [if_pos c11] at H
     have c11b0 : (a0_3 != a1_3) = true := c11
     (try (have c11b1 : decide (a0_3 = a1_3) = false := by simpa using c11))
     (try (have c11b2 : (a0_3 == a1_3) = false := by simpa using c11))
     (try (have c11b3 : ¬ (a0_3 = a1_3) := by simpa using c11))
     clear c11; obtain rfl := Option.some.inj H; go_enter Try.func11, Try.ntmps11
     go_wp2_with (first | ((with_reducible refine gate_dst (N := 2) rfl ?_); refine box_event ?hg (N := 2) ?hd (cs := #[.int .i64 a0_0, .int .i64 a0_1, .bool a0_2, .bool a0_3, .slice A0_4 l0_4.length c0_4, .slice A0_5 l0_5.length c0_5, .slice A0_6 l0_6.length c0_6, .slice A0_7 l0_7.length c0_7, .int .i64 a0_8]) (t := 33) ?hr ?_; (case hd => rfl); (case hg => rfl); (case hr => first | (go_simp; done) | (go_simp; rfl)); intro gb410 hg w12 hbox hb; have BK410 := yD (hbox); have GW410 := yD ((by rw [hg]; exact (below_size (kB HB)) : w.heap.size ≤ gb410)); have GE410 := yD ((by rw [hg]; exact (below_size (kB HB)) : w.heap.size ≤ gb410)); replace HB := yD (zC (kB HB) hb); clear hb hbox hg) | ((with_reducible refine gate_dst (N := 3) rfl ?_); refine box_event ?hg (N := 3) ?hd (cs := #[.int .i64 a1_0, .int .i64 a1_1, .bool a1_2, .bool a1_3, .slice A1_4 l1_4.length c1_4, .slice A1_5 l1_5.length c1_5, .slice A1_6 l1_6.length c1_6, .slice A1_7 l1_7.length c1_7, .int .i64 a1_8]) (t := 33) ?hr ?_; (case hd => rfl); (case hg => rfl); (case hr => first | (go_simp; done) | (go_simp; rfl)); intro gb411 hg w13 hbox hb; have BK411 := yD (hbox); have GW411 := yD ((by rw [hg]; exact (below_size (kB HB)) : w.heap.size ≤ gb411)); have GE411 := yD ((by rw [hg]; exact (below_size (kB HB)) : w.heap.size ≤ gb411)); replace HB := yD (zC (kB HB) hb); have NB410_411 := yD ((by rw [hg]; exact Nat.ne_of_lt (blk_lt (kN BK410)) : gb410 ≠ gb411)); have NB411_410 := yD ((by rw [hg]; exact Nat.ne_of_gt (blk_lt (kN BK410)) : gb411 ≠ gb410)); replace BK410 := yD (zB (kN BK410) hb); clear hb hbox hg; have hnb14 := NB410_411.out; have hnc14 := NB411_410.out; obtain ⟨hcz15_0, hcz15_1, hcz15_2, hcz15_3, hcz15_4, hcz15_5, hcz15_6, hcz15_7, hcz15_8⟩ := cz9 BK410.out; obtain ⟨hfz15_0, hfz15_1, hfz15_2, hfz15_3, hfz15_4, hfz15_5, hfz15_6, hfz15_7, hfz15_8⟩ := fz9 BK410.out; obtain ⟨hcz16_0, hcz16_1, hcz16_2, hcz16_3, hcz16_4, hcz16_5, hcz16_6, hcz16_7, hcz16_8⟩ := cz9 BK411.out; obtain ⟨hfz16_0, hfz16_1, hfz16_2, hfz16_3, hfz16_4, hfz16_5, hfz16_6, hfz16_7, hfz16_8⟩ := fz9 BK411.out))
     go_ret
     exact ⟨by first | rfl | (simp <;> rfl) | (simp [*] <;> rfl), kR0 HB⟩
    ·
     rw [if_neg c11] at H
     have c11b0 : (a0_3 != a1_3) = false := by simpa using c11
     (try (have c11b1 : decide (a0_3 = a1_3) = true := by simpa using c11))
     (try (have c11b2 : (a0_3 == a1_3) = true := by simpa using c11))
     clear c11
     obtain ⟨t412, A170, H⟩ := zW_ H
     replace H : (if t412 = true then ((laws_eqInt64S.f k l0_5 l1_5).bind fun t413 => (if t413 = true then ((laws_eqMemberS.f (laws_eqType.f k) k l0_6 l1_6).bind fun t414 => (if t414 = true then ((laws_eqTypeS.f (laws_eqType.f k) k l0_7 l1_7).bind fun t415 => (if t415 = true then (if a0_8 = a1_8 then (some true) else (some false)) else (some false))) else (some false))) else (some false))) else (some false)) = some r := H
     have A17 := yD A170
     clear A170
     by_cases c18 : t412 = true
     ·
      subst c18
      replace H : ((laws_eqInt64S.f k l0_5 l1_5).bind fun t413 => (if t413 = true then ((laws_eqMemberS.f (laws_eqType.f k) k l0_6 l1_6).bind fun t414 => (if t414 = true then ((laws_eqTypeS.f (laws_eqType.f k) k l0_7 l1_7).bind fun t415 => (if t415 = true then (if a0_8 = a1_8 then (some true) else (some false)) else (some false))) else (some false))) else (some false))) = some r := (by rw [if_pos rfl] at H; exact H)
      obtain ⟨t413, A190, H⟩ := zW_ H
      replace H : (if t413 = true then ((laws_eqMemberS.f (laws_eqType.f k) k l0_6 l1_6).bind fun t414 => (if t414 = true then ((laws_eqTypeS.f (laws_eqType.f k) k l0_7 l1_7).bind fun t415 => (if t415 = true then (if a0_8 = a1_8 then (some true) else (some false)) else (some false))) else (some false))) else (some false)) = some r := H
      have A19 := yD A190
      clear A190
      by_cases c20 : t413 = true
      ·
       subst c20
       replace H : ((laws_eqMemberS.f (laws_eqType.f k) k l0_6 l1_6).bind fun t414 => (if t414 = true then ((laws_eqTypeS.f (laws_eqType.f k) k l0_7 l1_7).bind fun t415 => (if t415 = true then (if a0_8 = a1_8 then (some true) else (some false)) else (some false))) else (some false))) = some r := (by rw [if_pos rfl] at H; exact H)
       obtain ⟨t414, A210, H⟩ := zW_ H
       replace H : (if t414 = true then ((laws_eqTypeS.f (laws_eqType.f k) k l0_7 l1_7).bind fun t415 => (if t415 = true then (if a0_8 = a1_8 then (some true) else (some false)) else (some false))) else (some false)) = some r := H
       have A21 := yD A210
       clear A210
       by_cases c22 : t414 = true
       ·
        subst c22
        replace H : ((laws_eqTypeS.f (laws_eqType.f k) k l0_7 l1_7).bind fun t415 => (if t415 = true then (if a0_8 = a1_8 then (some true) else (some false)) else (some false))) = some r := (by rw [if_pos rfl] at H; exact H)
        obtain ⟨t415, A230, H⟩ := zW_ H
        replace H : (if t415 = true then (if a0_8 = a1_8 then (some true) else (some false)) else (some false)) = some r := H
        have A23 := yD A230
        clear A230
        by_cases c24 : t415 = true
        ·
         subst c24
         replace H : (if a0_8 = a1_8 then (some true) else (some false)) = some r := (by rw [if_pos rfl] at H; exact H)
         by_cases c25 : a0_8 = a1_8
         · rw [if_pos c25] at H
           have c25b0 : (a0_8 == a1_8) = true := beq_iff_eq.mpr c25
           have c25b1 : (a0_8 != a1_8) = false := bne_eq_false_iff_eq.mpr c25
           clear c25; obtain rfl := Option.some.inj H; go_enter Try.func11, Try.ntmps11
           go_wp2_with (first | ((with_reducible refine gate_dst (N := 2) rfl ?_); refine box_event ?hg (N := 2) ?hd (cs := #[.int .i64 a0_0, .int .i64 a0_1, .bool a0_2, .bool a0_3, .slice A0_4 l0_4.length c0_4, .slice A0_5 l0_5.length c0_5, .slice A0_6 l0_6.length c0_6, .slice A0_7 l0_7.length c0_7, .int .i64 a0_8]) (t := 33) ?hr ?_; (case hd => rfl); (case hg => rfl); (case hr => first | (go_simp; done) | (go_simp; rfl)); intro gb410 hg w26 hbox hb; have BK410 := yD (hbox); have GW410 := yD ((by rw [hg]; exact (below_size (kB HB)) : w.heap.size ≤ gb410)); have GE410 := yD ((by rw [hg]; exact (below_size (kB HB)) : w.heap.size ≤ gb410)); replace HB := yD (zC (kB HB) hb); clear hb hbox hg) | ((with_reducible refine gate_dst (N := 3) rfl ?_); refine box_event ?hg (N := 3) ?hd (cs := #[.int .i64 a1_0, .int .i64 a1_1, .bool a1_2, .bool a1_3, .slice A1_4 l1_4.length c1_4, .slice A1_5 l1_5.length c1_5, .slice A1_6 l1_6.length c1_6, .slice A1_7 l1_7.length c1_7, .int .i64 a1_8]) (t := 33) ?hr ?_; (case hd => rfl); (case hg => rfl); (case hr => first | (go_simp; done) | (go_simp; rfl)); intro gb411 hg w27 hbox hb; have BK411 := yD (hbox); have GW411 := yD ((by rw [hg]; exact (below_size (kB HB)) : w.heap.size ≤ gb411)); have GE411 := yD ((by rw [hg]; exact (below_size (kB HB)) : w.heap.size ≤ gb411)); replace HB := yD (zC (kB HB) hb); have NB410_411 := yD ((by rw [hg]; exact Nat.ne_of_lt (blk_lt (kN BK410)) : gb410 ≠ gb411)); have NB411_410 := yD ((by rw [hg]; exact Nat.ne_of_gt (blk_lt (kN BK410)) : gb411 ≠ gb410)); replace BK410 := yD (zB (kN BK410) hb); clear hb hbox hg; have hnb28 := NB410_411.out; have hnc28 := NB411_410.out; obtain ⟨hcz29_0, hcz29_1, hcz29_2, hcz29_3, hcz29_4, hcz29_5, hcz29_6, hcz29_7, hcz29_8⟩ := cz9 BK410.out; obtain ⟨hfz29_0, hfz29_1, hfz29_2, hfz29_3, hfz29_4, hfz29_5, hfz29_6, hfz29_7, hfz29_8⟩ := fz9 BK410.out; obtain ⟨hcz30_0, hcz30_1, hcz30_2, hcz30_3, hcz30_4, hcz30_5, hcz30_6, hcz30_7, hcz30_8⟩ := cz9 BK411.out; obtain ⟨hfz30_0, hfz30_1, hfz30_2, hfz30_3, hfz30_4, hfz30_5, hfz30_6, hfz30_7, hfz30_8⟩ := fz9 BK411.out) | ((with_reducible refine gate_callee (f := 44) rfl ?_); refine gL 29 Try.func44 #[.slice A0_4 l0_4.length c0_4, .slice A1_4 l1_4.length c1_4] ?_; (with_reducible refine (laws_eqStringS.calls k _ _ l0_4 _ _ l1_4 true _ ?side1 ?side2 ?side3 ?side4 A17.out).mono ?_); (case side1 => exact kV (yY HR0_4.out HB.out)); (case side2 => exact HC0_4.out); (case side3 => exact kV (yY HR1_4.out HB.out)); (case side4 => exact HC1_4.out); rintro e w' ⟨rfl, ⟨nd, rfl⟩⟩; refine ⟨_, rfl, ?_⟩) | ((with_reducible refine gate_callee (f := 45) rfl ?_); refine gL 35 Try.func45 #[.slice A0_5 l0_5.length c0_5, .slice A1_5 l1_5.length c1_5] ?_; (with_reducible refine (laws_eqInt64S.calls k _ _ l0_5 _ _ l1_5 true _ ?side1 ?side2 ?side3 ?side4 A19.out).mono ?_); (case side1 => repeat (first | exact (yY HR0_5.out (kB HB)) | (with_reducible first | refine yV ?_ _ | refine yW ?_ _ | refine yX ?_))); (case side2 => exact HC0_5.out); (case side3 => repeat (first | exact (yY HR1_5.out (kB HB)) | (with_reducible first | refine yV ?_ _ | refine yW ?_ _ | refine yX ?_))); (case side4 => exact HC1_5.out); rintro e w' ⟨rfl, ⟨nd, rfl⟩⟩; refine ⟨_, rfl, ?_⟩) | ((with_reducible refine gate_callee (f := 46) rfl ?_); refine gL 41 Try.func46 #[.slice A0_6 l0_6.length c0_6, .slice A1_6 l1_6.length c1_6] ?_; (with_reducible refine (laws_eqMemberS.calls (laws_eqType.f k) (ih k (by omega)) k _ _ l0_6 _ _ l1_6 true _ ?side1 ?side2 ?side3 ?side4 A21.out).mono ?_); (case side1 => repeat (first | exact (yY HR0_6.out (kB HB)) | (with_reducible first | refine yV ?_ _ | refine yW ?_ _ | refine yX ?_))); (case side2 => exact HC0_6.out); (case side3 => repeat (first | exact (yY HR1_6.out (kB HB)) | (with_reducible first | refine yV ?_ _ | refine yW ?_ _ | refine yX ?_))); (case side4 => exact HC1_6.out); rintro e w31 ⟨rfl, hb⟩; refine ⟨_, rfl, ?_⟩; replace BK410 := yD (zB (kN BK410) hb); replace BK411 := yD (zB (kN BK411) hb); replace HB := yD (zC (kB HB) hb); clear hb; obtain ⟨hcz32_0, hcz32_1, hcz32_2, hcz32_3, hcz32_4, hcz32_5, hcz32_6, hcz32_7, hcz32_8⟩ := cz9 BK410.out; obtain ⟨hfz32_0, hfz32_1, hfz32_2, hfz32_3, hfz32_4, hfz32_5, hfz32_6, hfz32_7, hfz32_8⟩ := fz9 BK410.out; obtain ⟨hcz33_0, hcz33_1, hcz33_2, hcz33_3, hcz33_4, hcz33_5, hcz33_6, hcz33_7, hcz33_8⟩ := cz9 BK411.out; obtain ⟨hfz33_0, hfz33_1, hfz33_2, hfz33_3, hfz33_4, hfz33_5, hfz33_6, hfz33_7, hfz33_8⟩ := fz9 BK411.out) | ((with_reducible refine gate_callee (f := 47) rfl ?_); refine gL 47 Try.func47 #[.slice A0_7 l0_7.length c0_7, .slice A1_7 l1_7.length c1_7] ?_; (with_reducible refine (laws_eqTypeS.calls (laws_eqType.f k) (ih k (by omega)) k _ _ l0_7 _ _ l1_7 true _ ?side1 ?side2 ?side3 ?side4 A23.out).mono ?_); (case side1 => exact kV (yY HR0_7.out HB.out)); (case side2 => exact HC0_7.out); (case side3 => exact kV (yY HR1_7.out HB.out)); (case side4 => exact HC1_7.out); rintro e w34 ⟨rfl, hb⟩; refine ⟨_, rfl, ?_⟩; replace BK410 := yD (zB (kN BK410) hb); replace BK411 := yD (zB (kN BK411) hb); replace HB := yD (zC (kB HB) hb); clear hb; obtain ⟨hcz35_0, hcz35_1, hcz35_2, hcz35_3, hcz35_4, hcz35_5, hcz35_6, hcz35_7, hcz35_8⟩ := cz9 BK410.out; obtain ⟨hfz35_0, hfz35_1, hfz35_2, hfz35_3, hfz35_4, hfz35_5, hfz35_6, hfz35_7, hfz35_8⟩ := fz9 BK410.out; obtain ⟨hcz36_0, hcz36_1, hcz36_2, hcz36_3, hcz36_4, hcz36_5, hcz36_6, hcz36_7, hcz36_8⟩ := cz9 BK411.out; obtain ⟨hfz36_0, hfz36_1, hfz36_2, hfz36_3, hfz36_4, hfz36_5, hfz36_6, hfz36_7, hfz36_8⟩ := fz9 BK411.out))
           go_ret
           exact ⟨by first | rfl | (simp <;> rfl) | (simp [*] <;> rfl), kR0 HB⟩
         · rw [if_neg c25] at H
           have c25b0 : (a0_8 == a1_8) = false := beq_eq_false_iff_ne.mpr c25
           have c25b1 : (a0_8 != a1_8) = true := bne_iff_ne.mpr c25
           obtain rfl := Option.some.inj H; go_enter Try.func11, Try.ntmps11
           go_wp2_with (first | ((with_reducible refine gate_dst (N := 2) rfl ?_); refine box_event ?hg (N := 2) ?hd (cs := #[.int .i64 a0_0, .int .i64 a0_1, .bool a0_2, .bool a0_3, .slice A0_4 l0_4.length c0_4, .slice A0_5 l0_5.length c0_5, .slice A0_6 l0_6.length c0_6, .slice A0_7 l0_7.length c0_7, .int .i64 a0_8]) (t := 33) ?hr ?_; (case hd => rfl); (case hg => rfl); (case hr => first | (go_simp; done) | (go_simp; rfl)); intro gb410 hg w37 hbox hb; have BK410 := yD (hbox); have GW410 := yD ((by rw [hg]; exact (below_size (kB HB)) : w.heap.size ≤ gb410)); have GE410 := yD ((by rw [hg]; exact (below_size (kB HB)) : w.heap.size ≤ gb410)); replace HB := yD (zC (kB HB) hb); clear hb hbox hg) | ((with_reducible refine gate_dst (N := 3) rfl ?_); refine box_event ?hg (N := 3) ?hd (cs := #[.int .i64 a1_0, .int .i64 a1_1, .bool a1_2, .bool a1_3, .slice A1_4 l1_4.length c1_4, .slice A1_5 l1_5.length c1_5, .slice A1_6 l1_6.length c1_6, .slice A1_7 l1_7.length c1_7, .int .i64 a1_8]) (t := 33) ?hr ?_; (case hd => rfl); (case hg => rfl); (case hr => first | (go_simp; done) | (go_simp; rfl)); intro gb411 hg w38 hbox hb; have BK411 := yD (hbox); have GW411 := yD ((by rw [hg]; exact (below_size (kB HB)) : w.heap.size ≤ gb411)); have GE411 := yD ((by rw [hg]; exact (below_size (kB HB)) : w.heap.size ≤ gb411)); replace HB := yD (zC (kB HB) hb); have NB410_411 := yD ((by rw [hg]; exact Nat.ne_of_lt (blk_lt (kN BK410)) : gb410 ≠ gb411)); have NB411_410 := yD ((by rw [hg]; exact Nat.ne_of_gt (blk_lt (kN BK410)) : gb411 ≠ gb410)); replace BK410 := yD (zB (kN BK410) hb); clear hb hbox hg; have hnb39 := NB410_411.out; have hnc39 := NB411_410.out; obtain ⟨hcz40_0, hcz40_1, hcz40_2, hcz40_3, hcz40_4, hcz40_5, hcz40_6, hcz40_7, hcz40_8⟩ := cz9 BK410.out; obtain ⟨hfz40_0, hfz40_1, hfz40_2, hfz40_3, hfz40_4, hfz40_5, hfz40_6, hfz40_7, hfz40_8⟩ := fz9 BK410.out; obtain ⟨hcz41_0, hcz41_1, hcz41_2, hcz41_3, hcz41_4, hcz41_5, hcz41_6, hcz41_7, hcz41_8⟩ := cz9 BK411.out; obtain ⟨hfz41_0, hfz41_1, hfz41_2, hfz41_3, hfz41_4, hfz41_5, hfz41_6, hfz41_7, hfz41_8⟩ := fz9 BK411.out) | ((with_reducible refine gate_callee (f := 44) rfl ?_); refine gL 29 Try.func44 #[.slice A0_4 l0_4.length c0_4, .slice A1_4 l1_4.length c1_4] ?_; (with_reducible refine (laws_eqStringS.calls k _ _ l0_4 _ _ l1_4 true _ ?side1 ?side2 ?side3 ?side4 A17.out).mono ?_); (case side1 => exact kV (yY HR0_4.out HB.out)); (case side2 => exact HC0_4.out); (case side3 => exact kV (yY HR1_4.out HB.out)); (case side4 => exact HC1_4.out); rintro e w' ⟨rfl, ⟨nd, rfl⟩⟩; refine ⟨_, rfl, ?_⟩) | ((with_reducible refine gate_callee (f := 45) rfl ?_); refine gL 35 Try.func45 #[.slice A0_5 l0_5.length c0_5, .slice A1_5 l1_5.length c1_5] ?_; (with_reducible refine (laws_eqInt64S.calls k _ _ l0_5 _ _ l1_5 true _ ?side1 ?side2 ?side3 ?side4 A19.out).mono ?_); (case side1 => repeat (first | exact (yY HR0_5.out (kB HB)) | (with_reducible first | refine yV ?_ _ | refine yW ?_ _ | refine yX ?_))); (case side2 => exact HC0_5.out); (case side3 => repeat (first | exact (yY HR1_5.out (kB HB)) | (with_reducible first | refine yV ?_ _ | refine yW ?_ _ | refine yX ?_))); (case side4 => exact HC1_5.out); rintro e w' ⟨rfl, ⟨nd, rfl⟩⟩; refine ⟨_, rfl, ?_⟩) | ((with_reducible refine gate_callee (f := 46) rfl ?_); refine gL 41 Try.func46 #[.slice A0_6 l0_6.length c0_6, .slice A1_6 l1_6.length c1_6] ?_; (with_reducible refine (laws_eqMemberS.calls (laws_eqType.f k) (ih k (by omega)) k _ _ l0_6 _ _ l1_6 true _ ?side1 ?side2 ?side3 ?side4 A21.out).mono ?_); (case side1 => repeat (first | exact (yY HR0_6.out (kB HB)) | (with_reducible first | refine yV ?_ _ | refine yW ?_ _ | refine yX ?_))); (case side2 => exact HC0_6.out); (case side3 => repeat (first | exact (yY HR1_6.out (kB HB)) | (with_reducible first | refine yV ?_ _ | refine yW ?_ _ | refine yX ?_))); (case side4 => exact HC1_6.out); rintro e w42 ⟨rfl, hb⟩; refine ⟨_, rfl, ?_⟩; replace BK410 := yD (zB (kN BK410) hb); replace BK411 := yD (zB (kN BK411) hb); replace HB := yD (zC (kB HB) hb); clear hb; obtain ⟨hcz43_0, hcz43_1, hcz43_2, hcz43_3, hcz43_4, hcz43_5, hcz43_6, hcz43_7, hcz43_8⟩ := cz9 BK410.out; obtain ⟨hfz43_0, hfz43_1, hfz43_2, hfz43_3, hfz43_4, hfz43_5, hfz43_6, hfz43_7, hfz43_8⟩ := fz9 BK410.out; obtain ⟨hcz44_0, hcz44_1, hcz44_2, hcz44_3, hcz44_4, hcz44_5, hcz44_6, hcz44_7, hcz44_8⟩ := cz9 BK411.out; obtain ⟨hfz44_0, hfz44_1, hfz44_2, hfz44_3, hfz44_4, hfz44_5, hfz44_6, hfz44_7, hfz44_8⟩ := fz9 BK411.out) | ((with_reducible refine gate_callee (f := 47) rfl ?_); refine gL 47 Try.func47 #[.slice A0_7 l0_7.length c0_7, .slice A1_7 l1_7.length c1_7] ?_; (with_reducible refine (laws_eqTypeS.calls (laws_eqType.f k) (ih k (by omega)) k _ _ l0_7 _ _ l1_7 true _ ?side1 ?side2 ?side3 ?side4 A23.out).mono ?_); (case side1 => exact kV (yY HR0_7.out HB.out)); (case side2 => exact HC0_7.out); (case side3 => exact kV (yY HR1_7.out HB.out)); (case side4 => exact HC1_7.out); rintro e w45 ⟨rfl, hb⟩; refine ⟨_, rfl, ?_⟩; replace BK410 := yD (zB (kN BK410) hb); replace BK411 := yD (zB (kN BK411) hb); replace HB := yD (zC (kB HB) hb); clear hb; obtain ⟨hcz46_0, hcz46_1, hcz46_2, hcz46_3, hcz46_4, hcz46_5, hcz46_6, hcz46_7, hcz46_8⟩ := cz9 BK410.out; obtain ⟨hfz46_0, hfz46_1, hfz46_2, hfz46_3, hfz46_4, hfz46_5, hfz46_6, hfz46_7, hfz46_8⟩ := fz9 BK410.out; obtain ⟨hcz47_0, hcz47_1, hcz47_2, hcz47_3, hcz47_4, hcz47_5, hcz47_6, hcz47_7, hcz47_8⟩ := cz9 BK411.out; obtain ⟨hfz47_0, hfz47_1, hfz47_2, hfz47_3, hfz47_4, hfz47_5, hfz47_6, hfz47_7, hfz47_8⟩ := fz9 BK411.out))
           go_ret
           exact ⟨by first | rfl | (simp <;> rfl) | (simp [*] <;> rfl), kR0 HB⟩
        · replace c24 := Bool.eq_false_iff.mpr c24
          subst c24
          replace H : (some false) = some r := (by rw [if_neg (show ¬ (false = true) by decide)] at H; exact H); obtain rfl := Option.some.inj H; go_enter Try.func11, Try.ntmps11
          go_wp2_with (first | ((with_reducible refine gate_dst (N := 2) rfl ?_); refine box_event ?hg (N := 2) ?hd (cs := #[.int .i64 a0_0, .int .i64 a0_1, .bool a0_2, .bool a0_3, .slice A0_4 l0_4.length c0_4, .slice A0_5 l0_5.length c0_5, .slice A0_6 l0_6.length c0_6, .slice A0_7 l0_7.length c0_7, .int .i64 a0_8]) (t := 33) ?hr ?_; (case hd => rfl); (case hg => rfl); (case hr => first | (go_simp; done) | (go_simp; rfl)); intro gb410 hg w48 hbox hb; have BK410 := yD (hbox); have GW410 := yD ((by rw [hg]; exact (below_size (kB HB)) : w.heap.size ≤ gb410)); have GE410 := yD ((by rw [hg]; exact (below_size (kB HB)) : w.heap.size ≤ gb410)); replace HB := yD (zC (kB HB) hb); clear hb hbox hg) | ((with_reducible refine gate_dst (N := 3) rfl ?_); refine box_event ?hg (N := 3) ?hd (cs := #[.int .i64 a1_0, .int .i64 a1_1, .bool a1_2, .bool a1_3, .slice A1_4 l1_4.length c1_4, .slice A1_5 l1_5.length c1_5, .slice A1_6 l1_6.length c1_6, .slice A1_7 l1_7.length c1_7, .int .i64 a1_8]) (t := 33) ?hr ?_; (case hd => rfl); (case hg => rfl); (case hr => first | (go_simp; done) | (go_simp; rfl)); intro gb411 hg w49 hbox hb; have BK411 := yD (hbox); have GW411 := yD ((by rw [hg]; exact (below_size (kB HB)) : w.heap.size ≤ gb411)); have GE411 := yD ((by rw [hg]; exact (below_size (kB HB)) : w.heap.size ≤ gb411)); replace HB := yD (zC (kB HB) hb); have NB410_411 := yD ((by rw [hg]; exact Nat.ne_of_lt (blk_lt (kN BK410)) : gb410 ≠ gb411)); have NB411_410 := yD ((by rw [hg]; exact Nat.ne_of_gt (blk_lt (kN BK410)) : gb411 ≠ gb410)); replace BK410 := yD (zB (kN BK410) hb); clear hb hbox hg; have hnb50 := NB410_411.out; have hnc50 := NB411_410.out; obtain ⟨hcz51_0, hcz51_1, hcz51_2, hcz51_3, hcz51_4, hcz51_5, hcz51_6, hcz51_7, hcz51_8⟩ := cz9 BK410.out; obtain ⟨hfz51_0, hfz51_1, hfz51_2, hfz51_3, hfz51_4, hfz51_5, hfz51_6, hfz51_7, hfz51_8⟩ := fz9 BK410.out; obtain ⟨hcz52_0, hcz52_1, hcz52_2, hcz52_3, hcz52_4, hcz52_5, hcz52_6, hcz52_7, hcz52_8⟩ := cz9 BK411.out; obtain ⟨hfz52_0, hfz52_1, hfz52_2, hfz52_3, hfz52_4, hfz52_5, hfz52_6, hfz52_7, hfz52_8⟩ := fz9 BK411.out) | ((with_reducible refine gate_callee (f := 44) rfl ?_); refine gL 29 Try.func44 #[.slice A0_4 l0_4.length c0_4, .slice A1_4 l1_4.length c1_4] ?_; (with_reducible refine (laws_eqStringS.calls k _ _ l0_4 _ _ l1_4 true _ ?side1 ?side2 ?side3 ?side4 A17.out).mono ?_); (case side1 => exact kV (yY HR0_4.out HB.out)); (case side2 => exact HC0_4.out); (case side3 => exact kV (yY HR1_4.out HB.out)); (case side4 => exact HC1_4.out); rintro e w' ⟨rfl, ⟨nd, rfl⟩⟩; refine ⟨_, rfl, ?_⟩) | ((with_reducible refine gate_callee (f := 45) rfl ?_); refine gL 35 Try.func45 #[.slice A0_5 l0_5.length c0_5, .slice A1_5 l1_5.length c1_5] ?_; (with_reducible refine (laws_eqInt64S.calls k _ _ l0_5 _ _ l1_5 true _ ?side1 ?side2 ?side3 ?side4 A19.out).mono ?_); (case side1 => repeat (first | exact (yY HR0_5.out (kB HB)) | (with_reducible first | refine yV ?_ _ | refine yW ?_ _ | refine yX ?_))); (case side2 => exact HC0_5.out); (case side3 => repeat (first | exact (yY HR1_5.out (kB HB)) | (with_reducible first | refine yV ?_ _ | refine yW ?_ _ | refine yX ?_))); (case side4 => exact HC1_5.out); rintro e w' ⟨rfl, ⟨nd, rfl⟩⟩; refine ⟨_, rfl, ?_⟩) | ((with_reducible refine gate_callee (f := 46) rfl ?_); refine gL 41 Try.func46 #[.slice A0_6 l0_6.length c0_6, .slice A1_6 l1_6.length c1_6] ?_; (with_reducible refine (laws_eqMemberS.calls (laws_eqType.f k) (ih k (by omega)) k _ _ l0_6 _ _ l1_6 true _ ?side1 ?side2 ?side3 ?side4 A21.out).mono ?_); (case side1 => repeat (first | exact (yY HR0_6.out (kB HB)) | (with_reducible first | refine yV ?_ _ | refine yW ?_ _ | refine yX ?_))); (case side2 => exact HC0_6.out); (case side3 => repeat (first | exact (yY HR1_6.out (kB HB)) | (with_reducible first | refine yV ?_ _ | refine yW ?_ _ | refine yX ?_))); (case side4 => exact HC1_6.out); rintro e w53 ⟨rfl, hb⟩; refine ⟨_, rfl, ?_⟩; replace BK410 := yD (zB (kN BK410) hb); replace BK411 := yD (zB (kN BK411) hb); replace HB := yD (zC (kB HB) hb); clear hb; obtain ⟨hcz54_0, hcz54_1, hcz54_2, hcz54_3, hcz54_4, hcz54_5, hcz54_6, hcz54_7, hcz54_8⟩ := cz9 BK410.out; obtain ⟨hfz54_0, hfz54_1, hfz54_2, hfz54_3, hfz54_4, hfz54_5, hfz54_6, hfz54_7, hfz54_8⟩ := fz9 BK410.out; obtain ⟨hcz55_0, hcz55_1, hcz55_2, hcz55_3, hcz55_4, hcz55_5, hcz55_6, hcz55_7, hcz55_8⟩ := cz9 BK411.out; obtain ⟨hfz55_0, hfz55_1, hfz55_2, hfz55_3, hfz55_4, hfz55_5, hfz55_6, hfz55_7, hfz55_8⟩ := fz9 BK411.out) | ((with_reducible refine gate_callee (f := 47) rfl ?_); refine gL 47 Try.func47 #[.slice A0_7 l0_7.length c0_7, .slice A1_7 l1_7.length c1_7] ?_; (with_reducible refine (laws_eqTypeS.calls (laws_eqType.f k) (ih k (by omega)) k _ _ l0_7 _ _ l1_7 false _ ?side1 ?side2 ?side3 ?side4 A23.out).mono ?_); (case side1 => exact kV (yY HR0_7.out HB.out)); (case side2 => exact HC0_7.out); (case side3 => exact kV (yY HR1_7.out HB.out)); (case side4 => exact HC1_7.out); rintro e w56 ⟨rfl, hb⟩; refine ⟨_, rfl, ?_⟩; replace BK410 := yD (zB (kN BK410) hb); replace BK411 := yD (zB (kN BK411) hb); replace HB := yD (zC (kB HB) hb); clear hb))
          go_ret
          exact ⟨by first | rfl | (simp <;> rfl) | (simp [*] <;> rfl), kR0 HB⟩
       · replace c22 := Bool.eq_false_iff.mpr c22
         subst c22
         replace H : (some false) = some r := (by rw [if_neg (show ¬ (false = true) by decide)] at H; exact H); obtain rfl := Option.some.inj H; go_enter Try.func11, Try.ntmps11
         go_wp2_with (first | ((with_reducible refine gate_dst (N := 2) rfl ?_); refine box_event ?hg (N := 2) ?hd (cs := #[.int .i64 a0_0, .int .i64 a0_1, .bool a0_2, .bool a0_3, .slice A0_4 l0_4.length c0_4, .slice A0_5 l0_5.length c0_5, .slice A0_6 l0_6.length c0_6, .slice A0_7 l0_7.length c0_7, .int .i64 a0_8]) (t := 33) ?hr ?_; (case hd => rfl); (case hg => rfl); (case hr => first | (go_simp; done) | (go_simp; rfl)); intro gb410 hg w57 hbox hb; have BK410 := yD (hbox); have GW410 := yD ((by rw [hg]; exact (below_size (kB HB)) : w.heap.size ≤ gb410)); have GE410 := yD ((by rw [hg]; exact (below_size (kB HB)) : w.heap.size ≤ gb410)); replace HB := yD (zC (kB HB) hb); clear hb hbox hg) | ((with_reducible refine gate_dst (N := 3) rfl ?_); refine box_event ?hg (N := 3) ?hd (cs := #[.int .i64 a1_0, .int .i64 a1_1, .bool a1_2, .bool a1_3, .slice A1_4 l1_4.length c1_4, .slice A1_5 l1_5.length c1_5, .slice A1_6 l1_6.length c1_6, .slice A1_7 l1_7.length c1_7, .int .i64 a1_8]) (t := 33) ?hr ?_; (case hd => rfl); (case hg => rfl); (case hr => first | (go_simp; done) | (go_simp; rfl)); intro gb411 hg w58 hbox hb; have BK411 := yD (hbox); have GW411 := yD ((by rw [hg]; exact (below_size (kB HB)) : w.heap.size ≤ gb411)); have GE411 := yD ((by rw [hg]; exact (below_size (kB HB)) : w.heap.size ≤ gb411)); replace HB := yD (zC (kB HB) hb); have NB410_411 := yD ((by rw [hg]; exact Nat.ne_of_lt (blk_lt (kN BK410)) : gb410 ≠ gb411)); have NB411_410 := yD ((by rw [hg]; exact Nat.ne_of_gt (blk_lt (kN BK410)) : gb411 ≠ gb410)); replace BK410 := yD (zB (kN BK410) hb); clear hb hbox hg; have hnb59 := NB410_411.out; have hnc59 := NB411_410.out; obtain ⟨hcz60_0, hcz60_1, hcz60_2, hcz60_3, hcz60_4, hcz60_5, hcz60_6, hcz60_7, hcz60_8⟩ := cz9 BK410.out; obtain ⟨hfz60_0, hfz60_1, hfz60_2, hfz60_3, hfz60_4, hfz60_5, hfz60_6, hfz60_7, hfz60_8⟩ := fz9 BK410.out; obtain ⟨hcz61_0, hcz61_1, hcz61_2, hcz61_3, hcz61_4, hcz61_5, hcz61_6, hcz61_7, hcz61_8⟩ := cz9 BK411.out; obtain ⟨hfz61_0, hfz61_1, hfz61_2, hfz61_3, hfz61_4, hfz61_5, hfz61_6, hfz61_7, hfz61_8⟩ := fz9 BK411.out) | ((with_reducible refine gate_callee (f := 44) rfl ?_); refine gL 29 Try.func44 #[.slice A0_4 l0_4.length c0_4, .slice A1_4 l1_4.length c1_4] ?_; (with_reducible refine (laws_eqStringS.calls k _ _ l0_4 _ _ l1_4 true _ ?side1 ?side2 ?side3 ?side4 A17.out).mono ?_); (case side1 => exact kV (yY HR0_4.out HB.out)); (case side2 => exact HC0_4.out); (case side3 => exact kV (yY HR1_4.out HB.out)); (case side4 => exact HC1_4.out); rintro e w' ⟨rfl, ⟨nd, rfl⟩⟩; refine ⟨_, rfl, ?_⟩) | ((with_reducible refine gate_callee (f := 45) rfl ?_); refine gL 35 Try.func45 #[.slice A0_5 l0_5.length c0_5, .slice A1_5 l1_5.length c1_5] ?_; (with_reducible refine (laws_eqInt64S.calls k _ _ l0_5 _ _ l1_5 true _ ?side1 ?side2 ?side3 ?side4 A19.out).mono ?_); (case side1 => repeat (first | exact (yY HR0_5.out (kB HB)) | (with_reducible first | refine yV ?_ _ | refine yW ?_ _ | refine yX ?_))); (case side2 => exact HC0_5.out); (case side3 => repeat (first | exact (yY HR1_5.out (kB HB)) | (with_reducible first | refine yV ?_ _ | refine yW ?_ _ | refine yX ?_))); (case side4 => exact HC1_5.out); rintro e w' ⟨rfl, ⟨nd, rfl⟩⟩; refine ⟨_, rfl, ?_⟩) | ((with_reducible refine gate_callee (f := 46) rfl ?_); refine gL 41 Try.func46 #[.slice A0_6 l0_6.length c0_6, .slice A1_6 l1_6.length c1_6] ?_; (with_reducible refine (laws_eqMemberS.calls (laws_eqType.f k) (ih k (by omega)) k _ _ l0_6 _ _ l1_6 false _ ?side1 ?side2 ?side3 ?side4 A21.out).mono ?_); (case side1 => repeat (first | exact (yY HR0_6.out (kB HB)) | (with_reducible first | refine yV ?_ _ | refine yW ?_ _ | refine yX ?_))); (case side2 => exact HC0_6.out); (case side3 => repeat (first | exact (yY HR1_6.out (kB HB)) | (with_reducible first | refine yV ?_ _ | refine yW ?_ _ | refine yX ?_))); (case side4 => exact HC1_6.out); rintro e w62 ⟨rfl, hb⟩; refine ⟨_, rfl, ?_⟩; replace BK410 := yD (zB (kN BK410) hb); replace BK411 := yD (zB (kN BK411) hb); replace HB := yD (zC (kB HB) hb); clear hb))
         go_ret
         exact ⟨by first | rfl | (simp <;> rfl) | (simp [*] <;> rfl), kR0 HB⟩
      · replace c20 := Bool.eq_false_iff.mpr c20
        subst c20
        replace H : (some false) = some r := (by rw [if_neg (show ¬ (false = true) by decide)] at H; exact H); obtain rfl := Option.some.inj H; go_enter Try.func11, Try.ntmps11
        go_wp2_with (first | ((with_reducible refine gate_dst (N := 2) rfl ?_); refine box_event ?hg (N := 2) ?hd (cs := #[.int .i64 a0_0, .int .i64 a0_1, .bool a0_2, .bool a0_3, .slice A0_4 l0_4.length c0_4, .slice A0_5 l0_5.length c0_5, .slice A0_6 l0_6.length c0_6, .slice A0_7 l0_7.length c0_7, .int .i64 a0_8]) (t := 33) ?hr ?_; (case hd => rfl); (case hg => rfl); (case hr => first | (go_simp; done) | (go_simp; rfl)); intro gb410 hg w63 hbox hb; have BK410 := yD (hbox); have GW410 := yD ((by rw [hg]; exact (below_size (kB HB)) : w.heap.size ≤ gb410)); have GE410 := yD ((by rw [hg]; exact (below_size (kB HB)) : w.heap.size ≤ gb410)); replace HB := yD (zC (kB HB) hb); clear hb hbox hg) | ((with_reducible refine gate_dst (N := 3) rfl ?_); refine box_event ?hg (N := 3) ?hd (cs := #[.int .i64 a1_0, .int .i64 a1_1, .bool a1_2, .bool a1_3, .slice A1_4 l1_4.length c1_4, .slice A1_5 l1_5.length c1_5, .slice A1_6 l1_6.length c1_6, .slice A1_7 l1_7.length c1_7, .int .i64 a1_8]) (t := 33) ?hr ?_; (case hd => rfl); (case hg => rfl); (case hr => first | (go_simp; done) | (go_simp; rfl)); intro gb411 hg w64 hbox hb; have BK411 := yD (hbox); have GW411 := yD ((by rw [hg]; exact (below_size (kB HB)) : w.heap.size ≤ gb411)); have GE411 := yD ((by rw [hg]; exact (below_size (kB HB)) : w.heap.size ≤ gb411)); replace HB := yD (zC (kB HB) hb); have NB410_411 := yD ((by rw [hg]; exact Nat.ne_of_lt (blk_lt (kN BK410)) : gb410 ≠ gb411)); have NB411_410 := yD ((by rw [hg]; exact Nat.ne_of_gt (blk_lt (kN BK410)) : gb411 ≠ gb410)); replace BK410 := yD (zB (kN BK410) hb); clear hb hbox hg; have hnb65 := NB410_411.out; have hnc65 := NB411_410.out; obtain ⟨hcz66_0, hcz66_1, hcz66_2, hcz66_3, hcz66_4, hcz66_5, hcz66_6, hcz66_7, hcz66_8⟩ := cz9 BK410.out; obtain ⟨hfz66_0, hfz66_1, hfz66_2, hfz66_3, hfz66_4, hfz66_5, hfz66_6, hfz66_7, hfz66_8⟩ := fz9 BK410.out; obtain ⟨hcz67_0, hcz67_1, hcz67_2, hcz67_3, hcz67_4, hcz67_5, hcz67_6, hcz67_7, hcz67_8⟩ := cz9 BK411.out; obtain ⟨hfz67_0, hfz67_1, hfz67_2, hfz67_3, hfz67_4, hfz67_5, hfz67_6, hfz67_7, hfz67_8⟩ := fz9 BK411.out) | ((with_reducible refine gate_callee (f := 44) rfl ?_); refine gL 29 Try.func44 #[.slice A0_4 l0_4.length c0_4, .slice A1_4 l1_4.length c1_4] ?_; (with_reducible refine (laws_eqStringS.calls k _ _ l0_4 _ _ l1_4 true _ ?side1 ?side2 ?side3 ?side4 A17.out).mono ?_); (case side1 => exact kV (yY HR0_4.out HB.out)); (case side2 => exact HC0_4.out); (case side3 => exact kV (yY HR1_4.out HB.out)); (case side4 => exact HC1_4.out); rintro e w' ⟨rfl, ⟨nd, rfl⟩⟩; refine ⟨_, rfl, ?_⟩) | ((with_reducible refine gate_callee (f := 45) rfl ?_); refine gL 35 Try.func45 #[.slice A0_5 l0_5.length c0_5, .slice A1_5 l1_5.length c1_5] ?_; (with_reducible refine (laws_eqInt64S.calls k _ _ l0_5 _ _ l1_5 false _ ?side1 ?side2 ?side3 ?side4 A19.out).mono ?_); (case side1 => repeat (first | exact (yY HR0_5.out (kB HB)) | (with_reducible first | refine yV ?_ _ | refine yW ?_ _ | refine yX ?_))); (case side2 => exact HC0_5.out); (case side3 => repeat (first | exact (yY HR1_5.out (kB HB)) | (with_reducible first | refine yV ?_ _ | refine yW ?_ _ | refine yX ?_))); (case side4 => exact HC1_5.out); rintro e w' ⟨rfl, ⟨nd, rfl⟩⟩; refine ⟨_, rfl, ?_⟩))
        go_ret
        exact ⟨by first | rfl | (simp <;> rfl) | (simp [*] <;> rfl), kR0 HB⟩
     · replace c18 := Bool.eq_false_iff.mpr c18
       subst c18
       replace H : (some false) = some r := (by rw [if_neg (show ¬ (false = true) by decide)] at H; exact H); obtain rfl := Option.some.inj H; go_enter Try.func11, Try.ntmps11
       go_wp2_with (first | ((with_reducible refine gate_dst (N := 2) rfl ?_); refine box_event ?hg (N := 2) ?hd (cs := #[.int .i64 a0_0, .int .i64 a0_1, .bool a0_2, .bool a0_3, .slice A0_4 l0_4.length c0_4, .slice A0_5 l0_5.length c0_5, .slice A0_6 l0_6.length c0_6, .slice A0_7 l0_7.length c0_7, .int .i64 a0_8]) (t := 33) ?hr ?_; (case hd => rfl); (case hg => rfl); (case hr => first | (go_simp; done) | (go_simp; rfl)); intro gb410 hg w68 hbox hb; have BK410 := yD (hbox); have GW410 := yD ((by rw [hg]; exact (below_size (kB HB)) : w.heap.size ≤ gb410)); have GE410 := yD ((by rw [hg]; exact (below_size (kB HB)) : w.heap.size ≤ gb410)); replace HB := yD (zC (kB HB) hb); clear hb hbox hg) | ((with_reducible refine gate_dst (N := 3) rfl ?_); refine box_event ?hg (N := 3) ?hd (cs := #[.int .i64 a1_0, .int .i64 a1_1, .bool a1_2, .bool a1_3, .slice A1_4 l1_4.length c1_4, .slice A1_5 l1_5.length c1_5, .slice A1_6 l1_6.length c1_6, .slice A1_7 l1_7.length c1_7, .int .i64 a1_8]) (t := 33) ?hr ?_; (case hd => rfl); (case hg => rfl); (case hr => first | (go_simp; done) | (go_simp; rfl)); intro gb411 hg w69 hbox hb; have BK411 := yD (hbox); have GW411 := yD ((by rw [hg]; exact (below_size (kB HB)) : w.heap.size ≤ gb411)); have GE411 := yD ((by rw [hg]; exact (below_size (kB HB)) : w.heap.size ≤ gb411)); replace HB := yD (zC (kB HB) hb); have NB410_411 := yD ((by rw [hg]; exact Nat.ne_of_lt (blk_lt (kN BK410)) : gb410 ≠ gb411)); have NB411_410 := yD ((by rw [hg]; exact Nat.ne_of_gt (blk_lt (kN BK410)) : gb411 ≠ gb410)); replace BK410 := yD (zB (kN BK410) hb); clear hb hbox hg; have hnb70 := NB410_411.out; have hnc70 := NB411_410.out; obtain ⟨hcz71_0, hcz71_1, hcz71_2, hcz71_3, hcz71_4, hcz71_5, hcz71_6, hcz71_7, hcz71_8⟩ := cz9 BK410.out; obtain ⟨hfz71_0, hfz71_1, hfz71_2, hfz71_3, hfz71_4, hfz71_5, hfz71_6, hfz71_7, hfz71_8⟩ := fz9 BK410.out; obtain ⟨hcz72_0, hcz72_1, hcz72_2, hcz72_3, hcz72_4, hcz72_5, hcz72_6, hcz72_7, hcz72_8⟩ := cz9 BK411.out; obtain ⟨hfz72_0, hfz72_1, hfz72_2, hfz72_3, hfz72_4, hfz72_5, hfz72_6, hfz72_7, hfz72_8⟩ := fz9 BK411.out) | ((with_reducible refine gate_callee (f := 44) rfl ?_); refine gL 29 Try.func44 #[.slice A0_4 l0_4.length c0_4, .slice A1_4 l1_4.length c1_4] ?_; (with_reducible refine (laws_eqStringS.calls k _ _ l0_4 _ _ l1_4 false _ ?side1 ?side2 ?side3 ?side4 A17.out).mono ?_); (case side1 => exact kV (yY HR0_4.out HB.out)); (case side2 => exact HC0_4.out); (case side3 => exact kV (yY HR1_4.out HB.out)); (case side4 => exact HC1_4.out); rintro e w' ⟨rfl, ⟨nd, rfl⟩⟩; refine ⟨_, rfl, ?_⟩))
       go_ret
       exact ⟨by first | rfl | (simp <;> rfl) | (simp [*] <;> rfl), kR0 HB⟩
  ·
   rw [if_neg c4] at H
   have c4b0 : (a0_1 == a1_1) = false := beq_eq_false_iff_ne.mpr c4
   have c4b1 : (a0_1 != a1_1) = true := bne_iff_ne.mpr c4
   obtain rfl := Option.some.inj H; go_enter Try.func11, Try.ntmps11
   go_wp2_with (first | ((with_reducible refine gate_dst (N := 2) rfl ?_); refine box_event ?hg (N := 2) ?hd (cs := #[.int .i64 a0_0, .int .i64 a0_1, .bool a0_2, .bool a0_3, .slice A0_4 l0_4.length c0_4, .slice A0_5 l0_5.length c0_5, .slice A0_6 l0_6.length c0_6, .slice A0_7 l0_7.length c0_7, .int .i64 a0_8]) (t := 33) ?hr ?_; (case hd => rfl); (case hg => rfl); (case hr => first | (go_simp; done) | (go_simp; rfl)); intro gb410 hg w73 hbox hb; have BK410 := yD (hbox); have GW410 := yD ((by rw [hg]; exact (below_size (kB HB)) : w.heap.size ≤ gb410)); have GE410 := yD ((by rw [hg]; exact (below_size (kB HB)) : w.heap.size ≤ gb410)); replace HB := yD (zC (kB HB) hb); clear hb hbox hg) | ((with_reducible refine gate_dst (N := 3) rfl ?_); refine box_event ?hg (N := 3) ?hd (cs := #[.int .i64 a1_0, .int .i64 a1_1, .bool a1_2, .bool a1_3, .slice A1_4 l1_4.length c1_4, .slice A1_5 l1_5.length c1_5, .slice A1_6 l1_6.length c1_6, .slice A1_7 l1_7.length c1_7, .int .i64 a1_8]) (t := 33) ?hr ?_; (case hd => rfl); (case hg => rfl); (case hr => first | (go_simp; done) | (go_simp; rfl)); intro gb411 hg w74 hbox hb; have BK411 := yD (hbox); have GW411 := yD ((by rw [hg]; exact (below_size (kB HB)) : w.heap.size ≤ gb411)); have GE411 := yD ((by rw [hg]; exact (below_size (kB HB)) : w.heap.size ≤ gb411)); replace HB := yD (zC (kB HB) hb); have NB410_411 := yD ((by rw [hg]; exact Nat.ne_of_lt (blk_lt (kN BK410)) : gb410 ≠ gb411)); have NB411_410 := yD ((by rw [hg]; exact Nat.ne_of_gt (blk_lt (kN BK410)) : gb411 ≠ gb410)); replace BK410 := yD (zB (kN BK410) hb); clear hb hbox hg; have hnb75 := NB410_411.out; have hnc75 := NB411_410.out; obtain ⟨hcz76_0, hcz76_1, hcz76_2, hcz76_3, hcz76_4, hcz76_5, hcz76_6, hcz76_7, hcz76_8⟩ := cz9 BK410.out; obtain ⟨hfz76_0, hfz76_1, hfz76_2, hfz76_3, hfz76_4, hfz76_5, hfz76_6, hfz76_7, hfz76_8⟩ := fz9 BK410.out; obtain ⟨hcz77_0, hcz77_1, hcz77_2, hcz77_3, hcz77_4, hcz77_5, hcz77_6, hcz77_7, hcz77_8⟩ := cz9 BK411.out; obtain ⟨hfz77_0, hfz77_1, hfz77_2, hfz77_3, hfz77_4, hfz77_5, hfz77_6, hfz77_7, hfz77_8⟩ := fz9 BK411.out))
   go_ret
   exact ⟨by first | rfl | (simp <;> rfl) | (simp [*] <;> rfl), kR0 HB⟩
 ·
  rw [if_neg c3] at H
  have c3b0 : (a0_0 == a1_0) = false := beq_eq_false_iff_ne.mpr c3
  have c3b1 : (a0_0 != a1_0) = true := bne_iff_ne.mpr c3
  obtain rfl := Option.some.inj H; go_enter Try.func11, Try.ntmps11
  go_wp2_with (first | ((with_reducible refine gate_dst (N := 2) rfl ?_); refine box_event ?hg (N := 2) ?hd (cs := #[.int .i64 a0_0, .int .i64 a0_1, .bool a0_2, .bool a0_3, .slice A0_4 l0_4.length c0_4, .slice A0_5 l0_5.length c0_5, .slice A0_6 l0_6.length c0_6, .slice A0_7 l0_7.length c0_7, .int .i64 a0_8]) (t := 33) ?hr ?_; (case hd => rfl); (case hg => rfl); (case hr => first | (go_simp; done) | (go_simp; rfl)); intro gb410 hg w78 hbox hb; have BK410 := yD (hbox); have GW410 := yD ((by rw [hg]; exact (below_size (kB HB)) : w.heap.size ≤ gb410)); have GE410 := yD ((by rw [hg]; exact (below_size (kB HB)) : w.heap.size ≤ gb410)); replace HB := yD (zC (kB HB) hb); clear hb hbox hg) | ((with_reducible refine gate_dst (N := 3) rfl ?_); refine box_event ?hg (N := 3) ?hd (cs := #[.int .i64 a1_0, .int .i64 a1_1, .bool a1_2, .bool a1_3, .slice A1_4 l1_4.length c1_4, .slice A1_5 l1_5.length c1_5, .slice A1_6 l1_6.length c1_6, .slice A1_7 l1_7.length c1_7, .int .i64 a1_8]) (t := 33) ?hr ?_; (case hd => rfl); (case hg => rfl); (case hr => first | (go_simp; done) | (go_simp; rfl)); intro gb411 hg w79 hbox hb; have BK411 := yD (hbox); have GW411 := yD ((by rw [hg]; exact (below_size (kB HB)) : w.heap.size ≤ gb411)); have GE411 := yD ((by rw [hg]; exact (below_size (kB HB)) : w.heap.size ≤ gb411)); replace HB := yD (zC (kB HB) hb); have NB410_411 := yD ((by rw [hg]; exact Nat.ne_of_lt (blk_lt (kN BK410)) : gb410 ≠ gb411)); have NB411_410 := yD ((by rw [hg]; exact Nat.ne_of_gt (blk_lt (kN BK410)) : gb411 ≠ gb410)); replace BK410 := yD (zB (kN BK410) hb); clear hb hbox hg; have hnb80 := NB410_411.out; have hnc80 := NB411_410.out; obtain ⟨hcz81_0, hcz81_1, hcz81_2, hcz81_3, hcz81_4, hcz81_5, hcz81_6, hcz81_7, hcz81_8⟩ := cz9 BK410.out; obtain ⟨hfz81_0, hfz81_1, hfz81_2, hfz81_3, hfz81_4, hfz81_5, hfz81_6, hfz81_7, hfz81_8⟩ := fz9 BK410.out; obtain ⟨hcz82_0, hcz82_1, hcz82_2, hcz82_3, hcz82_4, hcz82_5, hcz82_6, hcz82_7, hcz82_8⟩ := cz9 BK411.out; obtain ⟨hfz82_0, hfz82_1, hfz82_2, hfz82_3, hfz82_4, hfz82_5, hfz82_6, hfz82_7, hfz82_8⟩ := fz9 BK411.out))
  go_ret
  exact ⟨by first | rfl | (simp <;> rfl) | (simp [*] <;> rfl), kR0 HB⟩

end Go.Proofs.Ytfblodggimjoaaa.PFnExactSameType
