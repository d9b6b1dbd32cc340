/- Each Go function here comes to what the plain function of its name says, where that says something. Made by a program of this session, over the print. -/
import Derived.Test.YtfblodggimjoaaaPFnExactSameArrayx0
import Derived.Test.YtfblodggimjoaaaPFnExactSameArrayx5
namespace Go.Proofs.Ytfblodggimjoaaa.PFnExactSameArray
open Go.RowKit Go.Proofs.YtfblodggimjoaaaW.PrintWords Go.Proofs.YtfblodggimjoaaaW.PrintLast Go.Proofs.YtfblodggimjoaaaW.PrintMore
attribute [local go_sem] max2_int min2_int max_two min_two max_three min_three max_four min_four   -- for this text's walks alone
set_option linter.unusedVariables false
set_option linter.unusedSimpArgs false

theorem kCx6_ {w w1 : World} {q : Addr} {u : Value} (hb : Aside0 (Below w.heap.size w w1)) (h : w.cell? q = some u) : w1.cell? q = some u := (hb.out.cell (World.block_lt_of_cell? w _ h)).trans h

/-! ### laws_eqMemberS: function 46 -/
def laws_eqMemberS.l0 (Y_ : Int → Int → Bool → Bool → List ByteArray → List Int → List (S64) → List (S33) → Int → Int → Int → Bool → Bool → List ByteArray → List Int → List (S64) → List (S33) → Int → Option (Bool)) : Nat → List (S64) → List (S64) → Int → Option (Bool)
 | 0, _, _, _ => none
 | k + 1, x0, x1, x5 => if x5 < (x0.length : Int) then (if 0 ≤ x5 then (if x5 < (x1.length : Int) then ((laws_eqMember.f Y_ k ((rd_T64 x0 x5).f0) ((rd_T64 x0 x5).f1) ((rd_T64 x0 x5).f2.f0) ((rd_T64 x0 x5).f2.f1) ((rd_T64 x0 x5).f2.f2) ((rd_T64 x0 x5).f2.f3) ((rd_T64 x0 x5).f2.f4) ((rd_T64 x0 x5).f2.f5) ((rd_T64 x0 x5).f2.f6) ((rd_T64 x0 x5).f2.f7) ((rd_T64 x0 x5).f2.f8) ((rd_T64 x1 x5).f0) ((rd_T64 x1 x5).f1) ((rd_T64 x1 x5).f2.f0) ((rd_T64 x1 x5).f2.f1) ((rd_T64 x1 x5).f2.f2) ((rd_T64 x1 x5).f2.f3) ((rd_T64 x1 x5).f2.f4) ((rd_T64 x1 x5).f2.f5) ((rd_T64 x1 x5).f2.f6) ((rd_T64 x1 x5).f2.f7) ((rd_T64 x1 x5).f2.f8)).bind fun t442 => (if t442 = true then (laws_eqMemberS.l0 Y_ k x0 x1 (wrap64 (x5 + 1))) else (some false))) else (none)) else (none)) else (some true)
def laws_eqMemberS.f (Y_ : Int → Int → Bool → Bool → List ByteArray → List Int → List (S64) → List (S33) → Int → Int → Int → Bool → Bool → List ByteArray → List Int → List (S64) → List (S33) → Int → Option (Bool)) (k : Nat) (l0 : List (S64)) (l1 : List (S64)) : Option (Bool) := if (l0.length : Int) = (l1.length : Int) then (laws_eqMemberS.l0 Y_ k l0 l1 0) else (some false)
def laws_eqMemberS.T6 : Bool × List (List Nat × List Nat) := (true, [([], []), ([], []), ([0, 1], [0, 1]), ([2], [2]), ([], []), ([], []), ([4, 5], [4, 5]), ([6], [6]), ([3, 7], [3, 7]), ([8], [8])])
def laws_eqMemberS.B6 : List Nat := [0, 0, 3, 7, 0, 0, 48, 112, 255, 511]
theorem laws_eqMemberS.tab6 : rtab .any (opsOf Try.f46 6) = laws_eqMemberS.T6 := by kernel_rfl
theorem laws_eqMemberS.bits6 : waitsOk laws_eqMemberS.T6.2 laws_eqMemberS.B6 = true := by kernel_rfl
set_option maxHeartbeats 8000000 in
set_option maxRecDepth 100000 in
theorem laws_eqMemberS.calls (Y_ : Int → Int → Bool → Bool → List ByteArray → List Int → List (S64) → List (S33) → Int → Int → Int → Bool → Bool → List ByteArray → List Int → List (S64) → List (S33) → Int → Option (Bool)) (HY_ : ∀ (a0_0 : Int) (a0_1 : Int) (a0_2 : Bool) (a0_3 : Bool) (A0_4 : Option Addr) (c0_4 : Nat) (l0_4 : List ByteArray) (A0_5 : Option Addr) (c0_5 : Nat) (l0_5 : List Int) (A0_6 : Option Addr) (c0_6 : Nat) (l0_6 : List (S64)) (A0_7 : Option Addr) (c0_7 : Nat) (l0_7 : List (S33)) (a0_8 : Int) (a1_0 : Int) (a1_1 : Int) (a1_2 : Bool) (a1_3 : Bool) (A1_4 : Option Addr) (c1_4 : Nat) (l1_4 : List ByteArray) (A1_5 : Option Addr) (c1_5 : Nat) (l1_5 : List Int) (A1_6 : Option Addr) (c1_6 : Nat) (l1_6 : List (S64)) (A1_7 : Option Addr) (c1_7 : Nat) (l1_7 : List (S33)) (a1_8 : Int) (r : Bool) (w : World) (hr0_4 : Kd.C Kd.string w A0_4 l0_4.length l0_4) (hc0_4 : l0_4.length ≤ c0_4) (hr0_5 : Kd.C (Kd.int .i64) w A0_5 l0_5.length l0_5) (hc0_5 : l0_5.length ≤ c0_5) (hr0_6 : Kd.C k64 w A0_6 l0_6.length l0_6) (hc0_6 : l0_6.length ≤ c0_6) (hr0_7 : Kd.C k33 w A0_7 l0_7.length l0_7) (hc0_7 : l0_7.length ≤ c0_7) (hr1_4 : Kd.C Kd.string w A1_4 l1_4.length l1_4) (hc1_4 : l1_4.length ≤ c1_4) (hr1_5 : Kd.C (Kd.int .i64) w A1_5 l1_5.length l1_5) (hc1_5 : l1_5.length ≤ c1_5) (hr1_6 : Kd.C k64 w A1_6 l1_6.length l1_6) (hc1_6 : l1_6.length ≤ c1_6) (hr1_7 : Kd.C k33 w A1_7 l1_7.length l1_7) (hc1_7 : l1_7.length ≤ c1_7) (h : Y_ a0_0 a0_1 a0_2 a0_3 l0_4 l0_5 l0_6 l0_7 a0_8 a1_0 a1_1 a1_2 a1_3 l1_4 l1_5 l1_6 l1_7 a1_8 = some r), Calls Try.prog 11 #[.agg #[.int .i64 a0_0, .int .i64 a0_1, .bool a0_2, .bool a0_3, .slice A0_4 l0_4.length c0_4, .slice A0_5 l0_5.length c0_5, .slice A0_6 l0_6.length c0_6, .slice A0_7 l0_7.length c0_7, .int .i64 a0_8], .agg #[.int .i64 a1_0, .int .i64 a1_1, .bool a1_2, .bool a1_3, .slice A1_4 l1_4.length c1_4, .slice A1_5 l1_5.length c1_5, .slice A1_6 l1_6.length c1_6, .slice A1_7 l1_7.length c1_7, .int .i64 a1_8]] w fun e w' => e = .returned (.bool r) ∧ Below w.heap.size w w') (k : Nat) (A0 : Option Addr) (c0 : Nat) (l0 : List (S64)) (A1 : Option Addr) (c1 : Nat) (l1 : List (S64)) (r : Bool) (w : World) (hr0 : Kd.C k64 w A0 l0.length l0) (hc0 : l0.length ≤ c0) (hr1 : Kd.C k64 w A1 l1.length l1) (hc1 : l1.length ≤ c1) (h : laws_eqMemberS.f Y_ k l0 l1 = some r) :
 Calls Try.prog 46 #[.slice A0 l0.length c0, .slice A1 l1.length c1] w fun e w' => e = .returned (.bool r) ∧ Below w.heap.size w w' := by
 have hu64 := Try.underlying64
 have HR0 := yD hr0
 have HC0 := yD hc0
 clear hr0 hc0
 have HR1 := yD hr1
 have HC1 := yD hc1
 clear hr1 hc1
 have HB := yD (Below.refl w.heap.size w)
 have H : (if (l0.length : Int) = (l1.length : Int) then (laws_eqMemberS.l0 Y_ k l0 l1 0) else (some false)) = some r := h
 clear h
 by_cases c3 : (l0.length : Int) = (l1.length : Int)
 ·
  rw [if_pos c3] at H
  have c3b0 : ((l0.length : Int) == (l1.length : Int)) = true := beq_iff_eq.mpr c3
  have c3b1 : ((l0.length : Int) != (l1.length : Int)) = false := bne_eq_false_iff_eq.mpr c3
  have c3b2 : (l0.length == l1.length) = true := by first | simpa using c3 | (simp at c3 ⊢; omega)
  clear c3
  have H' := yD H
  clear H; go_enter Try.func46, Try.ntmps46
  go_wp2
  go_loopg [5] k (fun kq v5 w' => ∃ (x5_1 : Int), v5 = .int .i64 x5_1 ∧ Aside0 (laws_eqMemberS.l0 Y_ kq l0 l1 x5_1 = some r) ∧ Aside0 (kq ≤ k) ∧ Aside0 (Below w.heap.size w w'))
  case atStart => exact ⟨(0), (by first | rfl | (simp; done) | (simp [*]; done)), H', ⟨Nat.le_refl _⟩, ⟨kR1 HB⟩⟩
  case round =>
   clear H'
   try clear c1; try clear c3; try clear c3b0; try clear c3b1; try clear c3b2
   obtain ⟨x5_1, rfl, HA, HK1, HB⟩ := hrel
   cases gk with
   | zero => exact absurd HA.out (by simp [laws_eqMemberS.l0])
   | succ k1 =>
    have H := HA.out; clear HA
    simp only [laws_eqMemberS.l0] at H
    by_cases c4 : x5_1 < (l0.length : Int)
    ·
     rw [if_pos c4] at H
     have c4b0 : decide (x5_1 < (l0.length : Int)) = true := zR c4; clear c4
     by_cases c5 : 0 ≤ x5_1
     ·
      rw [if_pos c5] at H
      have c5b0 : decide (0 ≤ x5_1) = true := zR c5; clear c5
      by_cases c6 : x5_1 < (l1.length : Int)
      ·
       rw [if_pos c6] at H
       have c6b0 : decide (x5_1 < (l1.length : Int)) = true := zR c6; clear c6
       obtain ⟨t442, A70, H⟩ := zW_ H
       replace H : (if t442 = true then (laws_eqMemberS.l0 Y_ k1 l0 l1 (wrap64 (x5_1 + 1))) else (some false)) = some r := H
       have A7 := yD A70
       clear A70
       by_cases c8 : t442 = true
       ·
        subst c8
        replace H : (laws_eqMemberS.l0 Y_ k1 l0 l1 (wrap64 (x5_1 + 1))) = some r := (by rw [if_pos rfl] at H; exact H)
        have H' := yD H
        clear H
        try go_wp2
        have n0_ := yD (yP HB.out)
        clear HB; have HB := n0_; clear n0_
        have p440 : 0 ≤ (x5_1 : Int) := zP (by assumption)
        have q440 : x5_1 < (l0.length : Int) := zP (by assumption)
        obtain ⟨ad440, A440_6, c440_6, A440_7, c440_7, A440_8, c440_8, A440_9, c440_9, e440, hx440_0, hx440_1, hx440_2, hx440_3, hx440_4, hx440_5, hx440_6, hx440_7, hx440_8, hx440_9, hx440_10, hl440_6, hi440_6, hl440_7, hi440_7, hl440_8, hi440_8, hl440_9, hi440_9⟩ := at_T64 HR0.out x5_1 p440 q440
        have hw440_10 := hx440_10; have hw440_9 := hx440_9; have hw440_8 := hx440_8; have hw440_7 := hx440_7; have hw440_6 := hx440_6; have hw440_5 := hx440_5; have hw440_4 := hx440_4; have hw440_3 := hx440_3; have hw440_2 := hx440_2; have hw440_1 := hx440_1; have hw440_0 := hx440_0; cases e440
        replace hx440_0 := kCx6_ HB hx440_0
        replace hx440_1 := kCx6_ HB hx440_1
        replace hx440_2 := kCx6_ HB hx440_2
        replace hx440_3 := kCx6_ HB hx440_3
        replace hx440_4 := kCx6_ HB hx440_4
        replace hx440_5 := kCx6_ HB hx440_5
        replace hx440_6 := kCx6_ HB hx440_6
        replace hx440_7 := kCx6_ HB hx440_7
        replace hx440_8 := kCx6_ HB hx440_8
        replace hx440_9 := kCx6_ HB hx440_9
        replace hx440_10 := kCx6_ HB hx440_10
        have HR440_6 := yD hi440_6
        have HC440_6 := yD hl440_6
        clear hi440_6 hl440_6
        have HR440_7 := yD hi440_7
        have HC440_7 := yD hl440_7
        clear hi440_7 hl440_7
        have HR440_8 := yD hi440_8
        have HC440_8 := yD hl440_8
        clear hi440_8 hl440_8
        have HR440_9 := yD hi440_9
        have HC440_9 := yD hl440_9
        clear hi440_9 hl440_9; replace p440 := eq_true p440; replace q440 := eq_true q440
        have p441 : 0 ≤ (x5_1 : Int) := zP (by assumption)
        have q441 : x5_1 < (l1.length : Int) := zP (by assumption)
        obtain ⟨ad441, A441_6, c441_6, A441_7, c441_7, A441_8, c441_8, A441_9, c441_9, e441, hx441_0, hx441_1, hx441_2, hx441_3, hx441_4, hx441_5, hx441_6, hx441_7, hx441_8, hx441_9, hx441_10, hl441_6, hi441_6, hl441_7, hi441_7, hl441_8, hi441_8, hl441_9, hi441_9⟩ := at_T64 HR1.out x5_1 p441 q441
        have hw441_10 := hx441_10; have hw441_9 := hx441_9; have hw441_8 := hx441_8; have hw441_7 := hx441_7; have hw441_6 := hx441_6; have hw441_5 := hx441_5; have hw441_4 := hx441_4; have hw441_3 := hx441_3; have hw441_2 := hx441_2; have hw441_1 := hx441_1; have hw441_0 := hx441_0; cases e441
        replace hx441_0 := kCx6_ HB hx441_0
        replace hx441_1 := kCx6_ HB hx441_1
        replace hx441_2 := kCx6_ HB hx441_2
        replace hx441_3 := kCx6_ HB hx441_3
        replace hx441_4 := kCx6_ HB hx441_4
        replace hx441_5 := kCx6_ HB hx441_5
        replace hx441_6 := kCx6_ HB hx441_6
        replace hx441_7 := kCx6_ HB hx441_7
        replace hx441_8 := kCx6_ HB hx441_8
        replace hx441_9 := kCx6_ HB hx441_9
        replace hx441_10 := kCx6_ HB hx441_10
        have HR441_6 := yD hi441_6
        have HC441_6 := yD hl441_6
        clear hi441_6 hl441_6
        have HR441_7 := yD hi441_7
        have HC441_7 := yD hl441_7
        clear hi441_7 hl441_7
        have HR441_8 := yD hi441_8
        have HC441_8 := yD hl441_8
        clear hi441_8 hl441_8
        have HR441_9 := yD hi441_9
        have HC441_9 := yD hl441_9
        clear hi441_9 hl441_9; replace p441 := eq_true p441; replace q441 := eq_true q441
        refine start_ (n := 10) (S := fun w' => w'.cell? (ad440.add ((x5_1).toNat * 11)) = some (.string ((rd_T64 l0 x5_1).f0)) ∧ w'.cell? ⟨(ad440.add ((x5_1).toNat * 11)).block, (ad440.add ((x5_1).toNat * 11)).off + 1, none⟩ = some (.int .i64 ((rd_T64 l0 x5_1).f1)) ∧ w'.cell? ⟨(ad440.add ((x5_1).toNat * 11)).block, (ad440.add ((x5_1).toNat * 11)).off + 2, none⟩ = some (.int .i64 ((rd_T64 l0 x5_1).f2.f0)) ∧ w'.cell? ⟨(ad440.add ((x5_1).toNat * 11)).block, (ad440.add ((x5_1).toNat * 11)).off + 3, none⟩ = some (.int .i64 ((rd_T64 l0 x5_1).f2.f1)) ∧ w'.cell? ⟨(ad440.add ((x5_1).toNat * 11)).block, (ad440.add ((x5_1).toNat * 11)).off + 4, none⟩ = some (.bool ((rd_T64 l0 x5_1).f2.f2)) ∧ w'.cell? ⟨(ad440.add ((x5_1).toNat * 11)).block, (ad440.add ((x5_1).toNat * 11)).off + 5, none⟩ = some (.bool ((rd_T64 l0 x5_1).f2.f3)) ∧ w'.cell? ⟨(ad440.add ((x5_1).toNat * 11)).block, (ad440.add ((x5_1).toNat * 11)).off + 6, none⟩ = some (.slice A440_6 ((rd_T64 l0 x5_1).f2.f4).length c440_6) ∧ w'.cell? ⟨(ad440.add ((x5_1).toNat * 11)).block, (ad440.add ((x5_1).toNat * 11)).off + 7, none⟩ = some (.slice A440_7 ((rd_T64 l0 x5_1).f2.f5).length c440_7) ∧ w'.cell? ⟨(ad440.add ((x5_1).toNat * 11)).block, (ad440.add ((x5_1).toNat * 11)).off + 8, none⟩ = some (.slice A440_8 ((rd_T64 l0 x5_1).f2.f6).length c440_8) ∧ w'.cell? ⟨(ad440.add ((x5_1).toNat * 11)).block, (ad440.add ((x5_1).toNat * 11)).off + 9, none⟩ = some (.slice A440_9 ((rd_T64 l0 x5_1).f2.f7).length c440_9) ∧ w'.cell? ⟨(ad440.add ((x5_1).toNat * 11)).block, (ad440.add ((x5_1).toNat * 11)).off + 10, none⟩ = some (.int .i64 ((rd_T64 l0 x5_1).f2.f8)) ∧ w'.cell? (ad441.add ((x5_1).toNat * 11)) = some (.string ((rd_T64 l1 x5_1).f0)) ∧ w'.cell? ⟨(ad441.add ((x5_1).toNat * 11)).block, (ad441.add ((x5_1).toNat * 11)).off + 1, none⟩ = some (.int .i64 ((rd_T64 l1 x5_1).f1)) ∧ w'.cell? ⟨(ad441.add ((x5_1).toNat * 11)).block, (ad441.add ((x5_1).toNat * 11)).off + 2, none⟩ = some (.int .i64 ((rd_T64 l1 x5_1).f2.f0)) ∧ w'.cell? ⟨(ad441.add ((x5_1).toNat * 11)).block, (ad441.add ((x5_1).toNat * 11)).off + 3, none⟩ = some (.int .i64 ((rd_T64 l1 x5_1).f2.f1)) ∧ w'.cell? ⟨(ad441.add ((x5_1).toNat * 11)).block, (ad441.add ((x5_1).toNat * 11)).off + 4, none⟩ = some (.bool ((rd_T64 l1 x5_1).f2.f2)) ∧ w'.cell? ⟨(ad441.add ((x5_1).toNat * 11)).block, (ad441.add ((x5_1).toNat * 11)).off + 5, none⟩ = some (.bool ((rd_T64 l1 x5_1).f2.f3)) ∧ w'.cell? ⟨(ad441.add ((x5_1).toNat * 11)).block, (ad441.add ((x5_1).toNat * 11)).off + 6, none⟩ = some (.slice A441_6 ((rd_T64 l1 x5_1).f2.f4).length c441_6) ∧ w'.cell? ⟨(ad441.add ((x5_1).toNat * 11)).block, (ad441.add ((x5_1).toNat * 11)).off + 7, none⟩ = some (.slice A441_7 ((rd_T64 l1 x5_1).f2.f5).length c441_7) ∧ w'.cell? ⟨(ad441.add ((x5_1).toNat * 11)).block, (ad441.add ((x5_1).toNat * 11)).off + 8, none⟩ = some (.slice A441_8 ((rd_T64 l1 x5_1).f2.f6).length c441_8) ∧ w'.cell? ⟨(ad441.add ((x5_1).toNat * 11)).block, (ad441.add ((x5_1).toNat * 11)).off + 9, none⟩ = some (.slice A441_9 ((rd_T64 l1 x5_1).f2.f7).length c441_9) ∧ w'.cell? ⟨(ad441.add ((x5_1).toNat * 11)).block, (ad441.add ((x5_1).toNat * 11)).off + 10, none⟩ = some (.int .i64 ((rd_T64 l1 x5_1).f2.f8))) (ds := []) (bz 10 0) (by kernel_rfl) rfl rfl ⟨((HB.out.cell (zQ w _ hw440_0)).trans hw440_0), ((HB.out.cell (zQ w _ hw440_1)).trans hw440_1), ((HB.out.cell (zQ w _ hw440_2)).trans hw440_2), ((HB.out.cell (zQ w _ hw440_3)).trans hw440_3), ((HB.out.cell (zQ w _ hw440_4)).trans hw440_4), ((HB.out.cell (zQ w _ hw440_5)).trans hw440_5), ((HB.out.cell (zQ w _ hw440_6)).trans hw440_6), ((HB.out.cell (zQ w _ hw440_7)).trans hw440_7), ((HB.out.cell (zQ w _ hw440_8)).trans hw440_8), ((HB.out.cell (zQ w _ hw440_9)).trans hw440_9), ((HB.out.cell (zQ w _ hw440_10)).trans hw440_10), ((HB.out.cell (zQ w _ hw441_0)).trans hw441_0), ((HB.out.cell (zQ w _ hw441_1)).trans hw441_1), ((HB.out.cell (zQ w _ hw441_2)).trans hw441_2), ((HB.out.cell (zQ w _ hw441_3)).trans hw441_3), ((HB.out.cell (zQ w _ hw441_4)).trans hw441_4), ((HB.out.cell (zQ w _ hw441_5)).trans hw441_5), ((HB.out.cell (zQ w _ hw441_6)).trans hw441_6), ((HB.out.cell (zQ w _ hw441_7)).trans hw441_7), ((HB.out.cell (zQ w _ hw441_8)).trans hw441_8), ((HB.out.cell (zQ w _ hw441_9)).trans hw441_9), ((HB.out.cell (zQ w _ hw441_10)).trans hw441_10)⟩ (fun hHeld => ?_); refine with_tabW laws_eqMemberS.tab6 laws_eqMemberS.bits6 (fun HT_ HW_ => ?_)
        generalize wr.drew = w9 at HB HR440_6 HR440_7 HR440_8 HR440_9 HR441_6 HR441_7 HR441_8 HR441_9 hx440_0 hx440_1 hx440_10 hx440_2 hx440_3 hx440_4 hx440_5 hx440_6 hx440_7 hx440_8 hx440_9 hx441_0 hx441_1 hx441_10 hx441_2 hx441_3 hx441_4 hx441_5 hx441_6 hx441_7 hx441_8 hx441_9 hHeld ⊢
        refine qA 0 17 (bz 10 1) HT_ ?_
        refine qA 1 18 (bz 10 3) HT_ ?_
        refine qA 2 19 (bz 10 7) HT_ ?_
        refine qA 4 21 (bz 10 23) HT_ ?_
        refine qA 5 22 (bz 10 55) HT_ ?_
        refine qA 6 23 (bz 10 119) HT_ ?_
        refine qC 3 20 (bz 10 127) HT_ HW_ hHeld ?_ (hy := by rintro w' ⟨s0, s1, s2, s3, s4, s5, s6, s7, s8, s9, s10, s11, s12, s13, s14, s15, s16, s17, s18, s19, s20, s21⟩; go_simp; with_reducible rfl)
        refine qC 7 24 (bz 10 255) HT_ HW_ hHeld ?_ (hy := by rintro w' ⟨s0, s1, s2, s3, s4, s5, s6, s7, s8, s9, s10, s11, s12, s13, s14, s15, s16, s17, s18, s19, s20, s21⟩; go_simp; with_reducible rfl)
        refine one_ (i := 8) (N := some 25) (bz 10 511) rfl rfl (one_of HT_.out (by kernel_rfl)) (by decide) (fun K hK => ?_)
        refine goes_ Try.func64 (by kernel_rfl) rfl #[.agg #[.string ((rd_T64 l0 x5_1).f0), .int .i64 ((rd_T64 l0 x5_1).f1), .int .i64 ((rd_T64 l0 x5_1).f2.f0), .int .i64 ((rd_T64 l0 x5_1).f2.f1), .bool ((rd_T64 l0 x5_1).f2.f2), .bool ((rd_T64 l0 x5_1).f2.f3), .slice A440_6 ((rd_T64 l0 x5_1).f2.f4).length c440_6, .slice A440_7 ((rd_T64 l0 x5_1).f2.f5).length c440_7, .slice A440_8 ((rd_T64 l0 x5_1).f2.f6).length c440_8, .slice A440_9 ((rd_T64 l0 x5_1).f2.f7).length c440_9, .int .i64 ((rd_T64 l0 x5_1).f2.f8)], .agg #[.string ((rd_T64 l1 x5_1).f0), .int .i64 ((rd_T64 l1 x5_1).f1), .int .i64 ((rd_T64 l1 x5_1).f2.f0), .int .i64 ((rd_T64 l1 x5_1).f2.f1), .bool ((rd_T64 l1 x5_1).f2.f2), .bool ((rd_T64 l1 x5_1).f2.f3), .slice A441_6 ((rd_T64 l1 x5_1).f2.f4).length c441_6, .slice A441_7 ((rd_T64 l1 x5_1).f2.f5).length c441_7, .slice A441_8 ((rd_T64 l1 x5_1).f2.f6).length c441_8, .slice A441_9 ((rd_T64 l1 x5_1).f2.f7).length c441_9, .int .i64 ((rd_T64 l1 x5_1).f2.f8)]] (by rfl) rfl rfl (by (try simp only [zK, zL, zM]); first | done | rfl | (simp only [zN, zO]; rfl)) ?_
        with_reducible refine (laws_eqMember.calls Y_ HY_ k1 ((rd_T64 l0 x5_1).f0) ((rd_T64 l0 x5_1).f1) ((rd_T64 l0 x5_1).f2.f0) ((rd_T64 l0 x5_1).f2.f1) ((rd_T64 l0 x5_1).f2.f2) ((rd_T64 l0 x5_1).f2.f3) _ _ ((rd_T64 l0 x5_1).f2.f4) _ _ ((rd_T64 l0 x5_1).f2.f5) _ _ ((rd_T64 l0 x5_1).f2.f6) _ _ ((rd_T64 l0 x5_1).f2.f7) ((rd_T64 l0 x5_1).f2.f8) ((rd_T64 l1 x5_1).f0) ((rd_T64 l1 x5_1).f1) ((rd_T64 l1 x5_1).f2.f0) ((rd_T64 l1 x5_1).f2.f1) ((rd_T64 l1 x5_1).f2.f2) ((rd_T64 l1 x5_1).f2.f3) _ _ ((rd_T64 l1 x5_1).f2.f4) _ _ ((rd_T64 l1 x5_1).f2.f5) _ _ ((rd_T64 l1 x5_1).f2.f6) _ _ ((rd_T64 l1 x5_1).f2.f7) ((rd_T64 l1 x5_1).f2.f8) true _ ?side1 ?side2 ?side3 ?side4 ?side5 ?side6 ?side7 ?side8 ?side9 ?side10 ?side11 ?side12 ?side13 ?side14 ?side15 ?side16 A7.out).mono ?_
        (case side1 => exact kV (yY HR440_6.out HB.out))
        (case side2 => exact HC440_6.out)
        (case side3 => exact kV (yY HR440_7.out HB.out))
        (case side4 => exact HC440_7.out)
        (case side5 => exact kV (yY HR440_8.out HB.out))
        (case side6 => exact HC440_8.out)
        (case side7 => exact kV (yY HR440_9.out HB.out))
        (case side8 => exact HC440_9.out)
        (case side9 => exact kV (yY HR441_6.out HB.out))
        (case side10 => exact HC441_6.out)
        (case side11 => exact kV (yY HR441_7.out HB.out))
        (case side12 => exact HC441_7.out)
        (case side13 => exact kV (yY HR441_8.out HB.out))
        (case side14 => exact HC441_8.out)
        (case side15 => exact kV (yY HR441_9.out HB.out))
        (case side16 => exact HC441_9.out)
        rintro e w10 ⟨rfl, hb⟩
        refine ⟨_, rfl, ?_⟩
        have n0_ := yD (zC (kB HB) hb)
        clear HB; have HB := n0_; clear n0_; (try clear hb); (try clear hb2); (try clear hk); (try clear hi)
        refine hK.out _ _ ⟨((HB.out.cell (zQ w _ hw440_0)).trans hw440_0), ((HB.out.cell (zQ w _ hw440_1)).trans hw440_1), ((HB.out.cell (zQ w _ hw440_2)).trans hw440_2), ((HB.out.cell (zQ w _ hw440_3)).trans hw440_3), ((HB.out.cell (zQ w _ hw440_4)).trans hw440_4), ((HB.out.cell (zQ w _ hw440_5)).trans hw440_5), ((HB.out.cell (zQ w _ hw440_6)).trans hw440_6), ((HB.out.cell (zQ w _ hw440_7)).trans hw440_7), ((HB.out.cell (zQ w _ hw440_8)).trans hw440_8), ((HB.out.cell (zQ w _ hw440_9)).trans hw440_9), ((HB.out.cell (zQ w _ hw440_10)).trans hw440_10), ((HB.out.cell (zQ w _ hw441_0)).trans hw441_0), ((HB.out.cell (zQ w _ hw441_1)).trans hw441_1), ((HB.out.cell (zQ w _ hw441_2)).trans hw441_2), ((HB.out.cell (zQ w _ hw441_3)).trans hw441_3), ((HB.out.cell (zQ w _ hw441_4)).trans hw441_4), ((HB.out.cell (zQ w _ hw441_5)).trans hw441_5), ((HB.out.cell (zQ w _ hw441_6)).trans hw441_6), ((HB.out.cell (zQ w _ hw441_7)).trans hw441_7), ((HB.out.cell (zQ w _ hw441_8)).trans hw441_8), ((HB.out.cell (zQ w _ hw441_9)).trans hw441_9), ((HB.out.cell (zQ w _ hw441_10)).trans hw441_10)⟩ (fun hHeld => ?_)
        clear hK K
        refine norm_ (a' := ?_) ?_ ?_
        rotate_left
        · show Act.put _ (some 25) _ = _
          simp only [Act.put, zH, zI, zJ, i64_w, i32_w]
          rfl
        refine qA 9 26 (bz 10 1023) HT_ ?_
        refine done_ (done_of HT_.out (by kernel_rfl)) ?_
        try go_wp2
        go_roundg k1
        case measure => have := HK1.out; omega
        case rel => exact ⟨(wrap64 (x5_1 + 1)), (by first | rfl | (simp; done) | (simp [*]; done)), H', ⟨by have := HK1.out; omega⟩, ⟨kR1 HB⟩⟩
       ·
        replace c8 := Bool.eq_false_iff.mpr c8
        subst c8
        replace H : (some false) = some r := (by rw [if_neg (show ¬ (false = true) by decide)] at H; exact H); obtain rfl := Option.some.inj H
        try go_wp2
        have n0_ := yD (yP HB.out)
        clear HB; have HB := n0_; clear n0_
        have p440 : 0 ≤ (x5_1 : Int) := zP (by assumption)
        have q440 : x5_1 < (l0.length : Int) := zP (by assumption)
        obtain ⟨ad440, A440_6, c440_6, A440_7, c440_7, A440_8, c440_8, A440_9, c440_9, e440, hx440_0, hx440_1, hx440_2, hx440_3, hx440_4, hx440_5, hx440_6, hx440_7, hx440_8, hx440_9, hx440_10, hl440_6, hi440_6, hl440_7, hi440_7, hl440_8, hi440_8, hl440_9, hi440_9⟩ := at_T64 HR0.out x5_1 p440 q440
        have hw440_10 := hx440_10; have hw440_9 := hx440_9; have hw440_8 := hx440_8; have hw440_7 := hx440_7; have hw440_6 := hx440_6; have hw440_5 := hx440_5; have hw440_4 := hx440_4; have hw440_3 := hx440_3; have hw440_2 := hx440_2; have hw440_1 := hx440_1; have hw440_0 := hx440_0; cases e440
        replace hx440_0 := kCx6_ HB hx440_0
        replace hx440_1 := kCx6_ HB hx440_1
        replace hx440_2 := kCx6_ HB hx440_2
        replace hx440_3 := kCx6_ HB hx440_3
        replace hx440_4 := kCx6_ HB hx440_4
        replace hx440_5 := kCx6_ HB hx440_5
        replace hx440_6 := kCx6_ HB hx440_6
        replace hx440_7 := kCx6_ HB hx440_7
        replace hx440_8 := kCx6_ HB hx440_8
        replace hx440_9 := kCx6_ HB hx440_9
        replace hx440_10 := kCx6_ HB hx440_10
        have HR440_6 := yD hi440_6
        have HC440_6 := yD hl440_6
        clear hi440_6 hl440_6
        have HR440_7 := yD hi440_7
        have HC440_7 := yD hl440_7
        clear hi440_7 hl440_7
        have HR440_8 := yD hi440_8
        have HC440_8 := yD hl440_8
        clear hi440_8 hl440_8
        have HR440_9 := yD hi440_9
        have HC440_9 := yD hl440_9
        clear hi440_9 hl440_9; replace p440 := eq_true p440; replace q440 := eq_true q440
        have p441 : 0 ≤ (x5_1 : Int) := zP (by assumption)
        have q441 : x5_1 < (l1.length : Int) := zP (by assumption)
        obtain ⟨ad441, A441_6, c441_6, A441_7, c441_7, A441_8, c441_8, A441_9, c441_9, e441, hx441_0, hx441_1, hx441_2, hx441_3, hx441_4, hx441_5, hx441_6, hx441_7, hx441_8, hx441_9, hx441_10, hl441_6, hi441_6, hl441_7, hi441_7, hl441_8, hi441_8, hl441_9, hi441_9⟩ := at_T64 HR1.out x5_1 p441 q441
        have hw441_10 := hx441_10; have hw441_9 := hx441_9; have hw441_8 := hx441_8; have hw441_7 := hx441_7; have hw441_6 := hx441_6; have hw441_5 := hx441_5; have hw441_4 := hx441_4; have hw441_3 := hx441_3; have hw441_2 := hx441_2; have hw441_1 := hx441_1; have hw441_0 := hx441_0; cases e441
        replace hx441_0 := kCx6_ HB hx441_0
        replace hx441_1 := kCx6_ HB hx441_1
        replace hx441_2 := kCx6_ HB hx441_2
        replace hx441_3 := kCx6_ HB hx441_3
        replace hx441_4 := kCx6_ HB hx441_4
        replace hx441_5 := kCx6_ HB hx441_5
        replace hx441_6 := kCx6_ HB hx441_6
        replace hx441_7 := kCx6_ HB hx441_7
        replace hx441_8 := kCx6_ HB hx441_8
        replace hx441_9 := kCx6_ HB hx441_9
        replace hx441_10 := kCx6_ HB hx441_10
        have HR441_6 := yD hi441_6
        have HC441_6 := yD hl441_6
        clear hi441_6 hl441_6
        have HR441_7 := yD hi441_7
        have HC441_7 := yD hl441_7
        clear hi441_7 hl441_7
        have HR441_8 := yD hi441_8
        have HC441_8 := yD hl441_8
        clear hi441_8 hl441_8
        have HR441_9 := yD hi441_9
        have HC441_9 := yD hl441_9
        clear hi441_9 hl441_9; replace p441 := eq_true p441; replace q441 := eq_true q441
        refine start_ (n := 10) (S := fun w' => w'.cell? (ad440.add ((x5_1).toNat * 11)) = some (.string ((rd_T64 l0 x5_1).f0)) ∧ w'.cell? ⟨(ad440.add ((x5_1).toNat * 11)).block, (ad440.add ((x5_1).toNat * 11)).off + 1, none⟩ = some (.int .i64 ((rd_T64 l0 x5_1).f1)) ∧ w'.cell? ⟨(ad440.add ((x5_1).toNat * 11)).block, (ad440.add ((x5_1).toNat * 11)).off + 2, none⟩ = some (.int .i64 ((rd_T64 l0 x5_1).f2.f0)) ∧ w'.cell? ⟨(ad440.add ((x5_1).toNat * 11)).block, (ad440.add ((x5_1).toNat * 11)).off + 3, none⟩ = some (.int .i64 ((rd_T64 l0 x5_1).f2.f1)) ∧ w'.cell? ⟨(ad440.add ((x5_1).toNat * 11)).block, (ad440.add ((x5_1).toNat * 11)).off + 4, none⟩ = some (.bool ((rd_T64 l0 x5_1).f2.f2)) ∧ w'.cell? ⟨(ad440.add ((x5_1).toNat * 11)).block, (ad440.add ((x5_1).toNat * 11)).off + 5, none⟩ = some (.bool ((rd_T64 l0 x5_1).f2.f3)) ∧ w'.cell? ⟨(ad440.add ((x5_1).toNat * 11)).block, (ad440.add ((x5_1).toNat * 11)).off + 6, none⟩ = some (.slice A440_6 ((rd_T64 l0 x5_1).f2.f4).length c440_6) ∧ w'.cell? ⟨(ad440.add ((x5_1).toNat * 11)).block, (ad440.add ((x5_1).toNat * 11)).off + 7, none⟩ = some (.slice A440_7 ((rd_T64 l0 x5_1).f2.f5).length c440_7) ∧ w'.cell? ⟨(ad440.add ((x5_1).toNat * 11)).block, (ad440.add ((x5_1).toNat * 11)).off + 8, none⟩ = some (.slice A440_8 ((rd_T64 l0 x5_1).f2.f6).length c440_8) ∧ w'.cell? ⟨(ad440.add ((x5_1).toNat * 11)).block, (ad440.add ((x5_1).toNat * 11)).off + 9, none⟩ = some (.slice A440_9 ((rd_T64 l0 x5_1).f2.f7).length c440_9) ∧ w'.cell? ⟨(ad440.add ((x5_1).toNat * 11)).block, (ad440.add ((x5_1).toNat * 11)).off + 10, none⟩ = some (.int .i64 ((rd_T64 l0 x5_1).f2.f8)) ∧ w'.cell? (ad441.add ((x5_1).toNat * 11)) = some (.string ((rd_T64 l1 x5_1).f0)) ∧ w'.cell? ⟨(ad441.add ((x5_1).toNat * 11)).block, (ad441.add ((x5_1).toNat * 11)).off + 1, none⟩ = some (.int .i64 ((rd_T64 l1 x5_1).f1)) ∧ w'.cell? ⟨(ad441.add ((x5_1).toNat * 11)).block, (ad441.add ((x5_1).toNat * 11)).off + 2, none⟩ = some (.int .i64 ((rd_T64 l1 x5_1).f2.f0)) ∧ w'.cell? ⟨(ad441.add ((x5_1).toNat * 11)).block, (ad441.add ((x5_1).toNat * 11)).off + 3, none⟩ = some (.int .i64 ((rd_T64 l1 x5_1).f2.f1)) ∧ w'.cell? ⟨(ad441.add ((x5_1).toNat * 11)).block, (ad441.add ((x5_1).toNat * 11)).off + 4, none⟩ = some (.bool ((rd_T64 l1 x5_1).f2.f2)) ∧ w'.cell? ⟨(ad441.add ((x5_1).toNat * 11)).block, (ad441.add ((x5_1).toNat * 11)).off + 5, none⟩ = some (.bool ((rd_T64 l1 x5_1).f2.f3)) ∧ w'.cell? ⟨(ad441.add ((x5_1).toNat * 11)).block, (ad441.add ((x5_1).toNat * 11)).off + 6, none⟩ = some (.slice A441_6 ((rd_T64 l1 x5_1).f2.f4).length c441_6) ∧ w'.cell? ⟨(ad441.add ((x5_1).toNat * 11)).block, (ad441.add ((x5_1).toNat * 11)).off + 7, none⟩ = some (.slice A441_7 ((rd_T64 l1 x5_1).f2.f5).length c441_7) ∧ w'.cell? ⟨(ad441.add ((x5_1).toNat * 11)).block, (ad441.add ((x5_1).toNat * 11)).off + 8, none⟩ = some (.slice A441_8 ((rd_T64 l1 x5_1).f2.f6).length c441_8) ∧ w'.cell? ⟨(ad441.add ((x5_1).toNat * 11)).block, (ad441.add ((x5_1).toNat * 11)).off + 9, none⟩ = some (.slice A441_9 ((rd_T64 l1 x5_1).f2.f7).length c441_9) ∧ w'.cell? ⟨(ad441.add ((x5_1).toNat * 11)).block, (ad441.add ((x5_1).toNat * 11)).off + 10, none⟩ = some (.int .i64 ((rd_T64 l1 x5_1).f2.f8))) (ds := []) (bz 10 0) (by kernel_rfl) rfl rfl ⟨((HB.out.cell (zQ w _ hw440_0)).trans hw440_0), ((HB.out.cell (zQ w _ hw440_1)).trans hw440_1), ((HB.out.cell (zQ w _ hw440_2)).trans hw440_2), ((HB.out.cell (zQ w _ hw440_3)).trans hw440_3), ((HB.out.cell (zQ w _ hw440_4)).trans hw440_4), ((HB.out.cell (zQ w _ hw440_5)).trans hw440_5), ((HB.out.cell (zQ w _ hw440_6)).trans hw440_6), ((HB.out.cell (zQ w _ hw440_7)).trans hw440_7), ((HB.out.cell (zQ w _ hw440_8)).trans hw440_8), ((HB.out.cell (zQ w _ hw440_9)).trans hw440_9), ((HB.out.cell (zQ w _ hw440_10)).trans hw440_10), ((HB.out.cell (zQ w _ hw441_0)).trans hw441_0), ((HB.out.cell (zQ w _ hw441_1)).trans hw441_1), ((HB.out.cell (zQ w _ hw441_2)).trans hw441_2), ((HB.out.cell (zQ w _ hw441_3)).trans hw441_3), ((HB.out.cell (zQ w _ hw441_4)).trans hw441_4), ((HB.out.cell (zQ w _ hw441_5)).trans hw441_5), ((HB.out.cell (zQ w _ hw441_6)).trans hw441_6), ((HB.out.cell (zQ w _ hw441_7)).trans hw441_7), ((HB.out.cell (zQ w _ hw441_8)).trans hw441_8), ((HB.out.cell (zQ w _ hw441_9)).trans hw441_9), ((HB.out.cell (zQ w _ hw441_10)).trans hw441_10)⟩ (fun hHeld => ?_); refine with_tabW laws_eqMemberS.tab6 laws_eqMemberS.bits6 (fun HT_ HW_ => ?_)
        generalize wr.drew = w11 at HB HR440_6 HR440_7 HR440_8 HR440_9 HR441_6 HR441_7 HR441_8 HR441_9 hx440_0 hx440_1 hx440_10 hx440_2 hx440_3 hx440_4 hx440_5 hx440_6 hx440_7 hx440_8 hx440_9 hx441_0 hx441_1 hx441_10 hx441_2 hx441_3 hx441_4 hx441_5 hx441_6 hx441_7 hx441_8 hx441_9 hHeld ⊢
        refine qA 0 17 (bz 10 1) HT_ ?_
        refine qA 1 18 (bz 10 3) HT_ ?_
        refine qA 2 19 (bz 10 7) HT_ ?_
        refine qA 4 21 (bz 10 23) HT_ ?_
        refine qA 5 22 (bz 10 55) HT_ ?_
        refine qA 6 23 (bz 10 119) HT_ ?_
        refine qC 3 20 (bz 10 127) HT_ HW_ hHeld ?_ (hy := by rintro w' ⟨s0, s1, s2, s3, s4, s5, s6, s7, s8, s9, s10, s11, s12, s13, s14, s15, s16, s17, s18, s19, s20, s21⟩; go_simp; with_reducible rfl)
        refine qC 7 24 (bz 10 255) HT_ HW_ hHeld ?_ (hy := by rintro w' ⟨s0, s1, s2, s3, s4, s5, s6, s7, s8, s9, s10, s11, s12, s13, s14, s15, s16, s17, s18, s19, s20, s21⟩; go_simp; with_reducible rfl)
        refine one_ (i := 8) (N := some 25) (bz 10 511) rfl rfl (one_of HT_.out (by kernel_rfl)) (by decide) (fun K hK => ?_)
        refine goes_ Try.func64 (by kernel_rfl) rfl #[.agg #[.string ((rd_T64 l0 x5_1).f0), .int .i64 ((rd_T64 l0 x5_1).f1), .int .i64 ((rd_T64 l0 x5_1).f2.f0), .int .i64 ((rd_T64 l0 x5_1).f2.f1), .bool ((rd_T64 l0 x5_1).f2.f2), .bool ((rd_T64 l0 x5_1).f2.f3), .slice A440_6 ((rd_T64 l0 x5_1).f2.f4).length c440_6, .slice A440_7 ((rd_T64 l0 x5_1).f2.f5).length c440_7, .slice A440_8 ((rd_T64 l0 x5_1).f2.f6).length c440_8, .slice A440_9 ((rd_T64 l0 x5_1).f2.f7).length c440_9, .int .i64 ((rd_T64 l0 x5_1).f2.f8)], .agg #[.string ((rd_T64 l1 x5_1).f0), .int .i64 ((rd_T64 l1 x5_1).f1), .int .i64 ((rd_T64 l1 x5_1).f2.f0), .int .i64 ((rd_T64 l1 x5_1).f2.f1), .bool ((rd_T64 l1 x5_1).f2.f2), .bool ((rd_T64 l1 x5_1).f2.f3), .slice A441_6 ((rd_T64 l1 x5_1).f2.f4).length c441_6, .slice A441_7 ((rd_T64 l1 x5_1).f2.f5).length c441_7, .slice A441_8 ((rd_T64 l1 x5_1).f2.f6).length c441_8, .slice A441_9 ((rd_T64 l1 x5_1).f2.f7).length c441_9, .int .i64 ((rd_T64 l1 x5_1).f2.f8)]] (by rfl) rfl rfl (by (try simp only [zK, zL, zM]); first | done | rfl | (simp only [zN, zO]; rfl)) ?_
        with_reducible refine (laws_eqMember.calls Y_ HY_ k1 ((rd_T64 l0 x5_1).f0) ((rd_T64 l0 x5_1).f1) ((rd_T64 l0 x5_1).f2.f0) ((rd_T64 l0 x5_1).f2.f1) ((rd_T64 l0 x5_1).f2.f2) ((rd_T64 l0 x5_1).f2.f3) _ _ ((rd_T64 l0 x5_1).f2.f4) _ _ ((rd_T64 l0 x5_1).f2.f5) _ _ ((rd_T64 l0 x5_1).f2.f6) _ _ ((rd_T64 l0 x5_1).f2.f7) ((rd_T64 l0 x5_1).f2.f8) ((rd_T64 l1 x5_1).f0) ((rd_T64 l1 x5_1).f1) ((rd_T64 l1 x5_1).f2.f0) ((rd_T64 l1 x5_1).f2.f1) ((rd_T64 l1 x5_1).f2.f2) ((rd_T64 l1 x5_1).f2.f3) _ _ ((rd_T64 l1 x5_1).f2.f4) _ _ ((rd_T64 l1 x5_1).f2.f5) _ _ ((rd_T64 l1 x5_1).f2.f6) _ _ ((rd_T64 l1 x5_1).f2.f7) ((rd_T64 l1 x5_1).f2.f8) false _ ?side1 ?side2 ?side3 ?side4 ?side5 ?side6 ?side7 ?side8 ?side9 ?side10 ?side11 ?side12 ?side13 ?side14 ?side15 ?side16 A7.out).mono ?_
        (case side1 => exact kV (yY HR440_6.out HB.out))
        (case side2 => exact HC440_6.out)
        (case side3 => exact kV (yY HR440_7.out HB.out))
        (case side4 => exact HC440_7.out)
        (case side5 => exact kV (yY HR440_8.out HB.out))
        (case side6 => exact HC440_8.out)
        (case side7 => exact kV (yY HR440_9.out HB.out))
        (case side8 => exact HC440_9.out)
        (case side9 => exact kV (yY HR441_6.out HB.out))
        (case side10 => exact HC441_6.out)
        (case side11 => exact kV (yY HR441_7.out HB.out))
        (case side12 => exact HC441_7.out)
        (case side13 => exact kV (yY HR441_8.out HB.out))
        (case side14 => exact HC441_8.out)
        (case side15 => exact kV (yY HR441_9.out HB.out))
        (case side16 => exact HC441_9.out)
        rintro e w12 ⟨rfl, hb⟩
        refine ⟨_, rfl, ?_⟩
        have n0_ := yD (zC (kB HB) hb)
        clear HB; have HB := n0_; clear n0_; (try clear hb); (try clear hb2); (try clear hk); (try clear hi)
        refine hK.out _ _ ⟨((HB.out.cell (zQ w _ hw440_0)).trans hw440_0), ((HB.out.cell (zQ w _ hw440_1)).trans hw440_1), ((HB.out.cell (zQ w _ hw440_2)).trans hw440_2), ((HB.out.cell (zQ w _ hw440_3)).trans hw440_3), ((HB.out.cell (zQ w _ hw440_4)).trans hw440_4), ((HB.out.cell (zQ w _ hw440_5)).trans hw440_5), ((HB.out.cell (zQ w _ hw440_6)).trans hw440_6), ((HB.out.cell (zQ w _ hw440_7)).trans hw440_7), ((HB.out.cell (zQ w _ hw440_8)).trans hw440_8), ((HB.out.cell (zQ w _ hw440_9)).trans hw440_9), ((HB.out.cell (zQ w _ hw440_10)).trans hw440_10), ((HB.out.cell (zQ w _ hw441_0)).trans hw441_0), ((HB.out.cell (zQ w _ hw441_1)).trans hw441_1), ((HB.out.cell (zQ w _ hw441_2)).trans hw441_2), ((HB.out.cell (zQ w _ hw441_3)).trans hw441_3), ((HB.out.cell (zQ w _ hw441_4)).trans hw441_4), ((HB.out.cell (zQ w _ hw441_5)).trans hw441_5), ((HB.out.cell (zQ w _ hw441_6)).trans hw441_6), ((HB.out.cell (zQ w _ hw441_7)).trans hw441_7), ((HB.out.cell (zQ w _ hw441_8)).trans hw441_8), ((HB.out.cell (zQ w _ hw441_9)).trans hw441_9), ((HB.out.cell (zQ w _ hw441_10)).trans hw441_10)⟩ (fun hHeld => ?_)
        clear hK K
        refine norm_ (a' := ?_) ?_ ?_
        rotate_left
        · show Act.put _ (some 25) _ = _
          simp only [Act.put, zH, zI, zJ, i64_w, i32_w]
          rfl
        refine qA 9 26 (bz 10 1023) HT_ ?_
        refine done_ (done_of HT_.out (by kernel_rfl)) ?_
        try go_wp2
        go_ret
        exact ⟨by first | rfl | (simp <;> rfl) | (simp [*] <;> rfl), kR1 HB⟩
      · rw [if_neg c6] at H
        exact absurd H (by simp)
     · rw [if_neg c5] at H
       exact absurd H (by simp)
    · rw [if_neg c4] at H
      have c4b0 : decide (x5_1 < (l0.length : Int)) = false := zS c4; clear c4; obtain rfl := Option.some.inj H
      go_wp2
      go_ret
      exact ⟨by first | rfl | (simp <;> rfl) | (simp [*] <;> rfl), kR1 HB⟩
 ·
  rw [if_neg c3] at H
  have c3b0 : ((l0.length : Int) == (l1.length : Int)) = false := beq_eq_false_iff_ne.mpr c3
  have c3b1 : ((l0.length : Int) != (l1.length : Int)) = true := bne_iff_ne.mpr c3
  have c3b2 : (l0.length == l1.length) = false := by first | simpa using c3 | (simp at c3 ⊢; omega)
  obtain rfl := Option.some.inj H; go_enter Try.func46, Try.ntmps46
  go_wp2
  go_ret
  exact ⟨by first | rfl | (simp <;> rfl) | (simp [*] <;> rfl), kR1 HB⟩

/-! ### laws_eqTypeS: function 47 -/
def laws_eqTypeS.l0 (Y_ : Int → Int → Bool → Bool → List ByteArray → List Int → List (S64) → List (S33) → Int → Int → Int → Bool → Bool → List ByteArray → List Int → List (S64) → List (S33) → Int → Option (Bool)) : Nat → List (S33) → List (S33) → Int → Option (Bool)
 | 0, _, _, _ => none
 | k + 1, x0, x1, x5 => if x5 < (x0.length : Int) then (if 0 ≤ x5 then (if x5 < (x1.length : Int) then ((Y_ ((rd_T33 x0 x5).f0) ((rd_T33 x0 x5).f1) ((rd_T33 x0 x5).f2) ((rd_T33 x0 x5).f3) ((rd_T33 x0 x5).f4) ((rd_T33 x0 x5).f5) ((rd_T33 x0 x5).f6) ((rd_T33 x0 x5).f7) ((rd_T33 x0 x5).f8) ((rd_T33 x1 x5).f0) ((rd_T33 x1 x5).f1) ((rd_T33 x1 x5).f2) ((rd_T33 x1 x5).f3) ((rd_T33 x1 x5).f4) ((rd_T33 x1 x5).f5) ((rd_T33 x1 x5).f6) ((rd_T33 x1 x5).f7) ((rd_T33 x1 x5).f8)).bind fun t445 => (if t445 = true then (laws_eqTypeS.l0 Y_ k x0 x1 (wrap64 (x5 + 1))) else (some false))) else (none)) else (none)) else (some true)
def laws_eqTypeS.f (Y_ : Int → Int → Bool → Bool → List ByteArray → List Int → List (S64) → List (S33) → Int → Int → Int → Bool → Bool → List ByteArray → List Int → List (S64) → List (S33) → Int → Option (Bool)) (k : Nat) (l0 : List (S33)) (l1 : List (S33)) : Option (Bool) := if (l0.length : Int) = (l1.length : Int) then (laws_eqTypeS.l0 Y_ k l0 l1 0) else (some false)
def laws_eqTypeS.T6 : Bool × List (List Nat × List Nat) := (true, [([], []), ([], []), ([0, 1], [0, 1]), ([2], [2]), ([], []), ([], []), ([4, 5], [4, 5]), ([6], [6]), ([3, 7], [3, 7]), ([8], [8])])
def laws_eqTypeS.B6 : List Nat := [0, 0, 3, 7, 0, 0, 48, 112, 255, 511]
theorem laws_eqTypeS.tab6 : rtab .any (opsOf Try.f47 6) = laws_eqTypeS.T6 := by kernel_rfl
theorem laws_eqTypeS.bits6 : waitsOk laws_eqTypeS.T6.2 laws_eqTypeS.B6 = true := by kernel_rfl
set_option maxHeartbeats 8000000 in
set_option maxRecDepth 100000 in
theorem laws_eqTypeS.calls (Y_ : Int → Int → Bool → Bool → List ByteArray → List Int → List (S64) → List (S33) → Int → Int → Int → Bool → Bool → List ByteArray → List Int → List (S64) → List (S33) → Int → Option (Bool)) (HY_ : ∀ (a0_0 : Int) (a0_1 : Int) (a0_2 : Bool) (a0_3 : Bool) (A0_4 : Option Addr) (c0_4 : Nat) (l0_4 : List ByteArray) (A0_5 : Option Addr) (c0_5 : Nat) (l0_5 : List Int) (A0_6 : Option Addr) (c0_6 : Nat) (l0_6 : List (S64)) (A0_7 : Option Addr) (c0_7 : Nat) (l0_7 : List (S33)) (a0_8 : Int) (a1_0 : Int) (a1_1 : Int) (a1_2 : Bool) (a1_3 : Bool) (A1_4 : Option Addr) (c1_4 : Nat) (l1_4 : List ByteArray) (A1_5 : Option Addr) (c1_5 : Nat) (l1_5 : List Int) (A1_6 : Option Addr) (c1_6 : Nat) (l1_6 : List (S64)) (A1_7 : Option Addr) (c1_7 : Nat) (l1_7 : List (S33)) (a1_8 : Int) (r : Bool) (w : World) (hr0_4 : Kd.C Kd.string w A0_4 l0_4.length l0_4) (hc0_4 : l0_4.length ≤ c0_4) (hr0_5 : Kd.C (Kd.int .i64) w A0_5 l0_5.length l0_5) (hc0_5 : l0_5.length ≤ c0_5) (hr0_6 : Kd.C k64 w A0_6 l0_6.length l0_6) (hc0_6 : l0_6.length ≤ c0_6) (hr0_7 : Kd.C k33 w A0_7 l0_7.length l0_7) (hc0_7 : l0_7.length ≤ c0_7) (hr1_4 : Kd.C Kd.string w A1_4 l1_4.length l1_4) (hc1_4 : l1_4.length ≤ c1_4) (hr1_5 : Kd.C (Kd.int .i64) w A1_5 l1_5.length l1_5) (hc1_5 : l1_5.length ≤ c1_5) (hr1_6 : Kd.C k64 w A1_6 l1_6.length l1_6) (hc1_6 : l1_6.length ≤ c1_6) (hr1_7 : Kd.C k33 w A1_7 l1_7.length l1_7) (hc1_7 : l1_7.length ≤ c1_7) (h : Y_ a0_0 a0_1 a0_2 a0_3 l0_4 l0_5 l0_6 l0_7 a0_8 a1_0 a1_1 a1_2 a1_3 l1_4 l1_5 l1_6 l1_7 a1_8 = some r), Calls Try.prog 11 #[.agg #[.int .i64 a0_0, .int .i64 a0_1, .bool a0_2, .bool a0_3, .slice A0_4 l0_4.length c0_4, .slice A0_5 l0_5.length c0_5, .slice A0_6 l0_6.length c0_6, .slice A0_7 l0_7.length c0_7, .int .i64 a0_8], .agg #[.int .i64 a1_0, .int .i64 a1_1, .bool a1_2, .bool a1_3, .slice A1_4 l1_4.length c1_4, .slice A1_5 l1_5.length c1_5, .slice A1_6 l1_6.length c1_6, .slice A1_7 l1_7.length c1_7, .int .i64 a1_8]] w fun e w' => e = .returned (.bool r) ∧ Below w.heap.size w w') (k : Nat) (A0 : Option Addr) (c0 : Nat) (l0 : List (S33)) (A1 : Option Addr) (c1 : Nat) (l1 : List (S33)) (r : Bool) (w : World) (hr0 : Kd.C k33 w A0 l0.length l0) (hc0 : l0.length ≤ c0) (hr1 : Kd.C k33 w A1 l1.length l1) (hc1 : l1.length ≤ c1) (h : laws_eqTypeS.f Y_ k l0 l1 = some r) :
 Calls Try.prog 47 #[.slice A0 l0.length c0, .slice A1 l1.length c1] w fun e w' => e = .returned (.bool r) ∧ Below w.heap.size w w' := by
 have hu33 := Try.underlying33
 have HR0 := yD hr0
 have HC0 := yD hc0
 clear hr0 hc0
 have HR1 := yD hr1
 have HC1 := yD hc1
 clear hr1 hc1
 have HB := yD (Below.refl w.heap.size w)
 have H : (if (l0.length : Int) = (l1.length : Int) then (laws_eqTypeS.l0 Y_ k l0 l1 0) else (some false)) = some r := h
 clear h
 by_cases c3 : (l0.length : Int) = (l1.length : Int)
 ·
  rw [if_pos c3] at H
  have c3b0 : ((l0.length : Int) == (l1.length : Int)) = true := beq_iff_eq.mpr c3
  have c3b1 : ((l0.length : Int) != (l1.length : Int)) = false := bne_eq_false_iff_eq.mpr c3
  have c3b2 : (l0.length == l1.length) = true := by first | simpa using c3 | (simp at c3 ⊢; omega)
  clear c3
  have H' := yD H
  clear H; go_enter Try.func47, Try.ntmps47
  go_wp2
  go_loopg [5] k (fun kq v5 w' => ∃ (x5_1 : Int), v5 = .int .i64 x5_1 ∧ Aside0 (laws_eqTypeS.l0 Y_ kq l0 l1 x5_1 = some r) ∧ Aside0 (kq ≤ k) ∧ Aside0 (Below w.heap.size w w'))
  case atStart => exact ⟨(0), (by first | rfl | (simp; done) | (simp [*]; done)), H', ⟨Nat.le_refl _⟩, ⟨kR1 HB⟩⟩
  case round =>
   clear H'
   try clear c1; try clear c3; try clear c3b0; try clear c3b1; try clear c3b2
   obtain ⟨x5_1, rfl, HA, HK1, HB⟩ := hrel
   cases gk with
   | zero => exact absurd HA.out (by simp [laws_eqTypeS.l0])
   | succ k1 =>
    have H := HA.out; clear HA
    simp only [laws_eqTypeS.l0] at H
    by_cases c4 : x5_1 < (l0.length : Int)
    ·
     rw [if_pos c4] at H
     have c4b0 : decide (x5_1 < (l0.length : Int)) = true := zR c4; clear c4
     by_cases c5 : 0 ≤ x5_1
     ·
      rw [if_pos c5] at H
      have c5b0 : decide (0 ≤ x5_1) = true := zR c5; clear c5
      by_cases c6 : x5_1 < (l1.length : Int)
      ·
       rw [if_pos c6] at H
       have c6b0 : decide (x5_1 < (l1.length : Int)) = true := zR c6; clear c6
       obtain ⟨t445, A70, H⟩ := zW_ H
       replace H : (if t445 = true then (laws_eqTypeS.l0 Y_ k1 l0 l1 (wrap64 (x5_1 + 1))) else (some false)) = some r := H
       have A7 := yD A70
       clear A70
       by_cases c8 : t445 = true
       ·
        subst c8
        replace H : (laws_eqTypeS.l0 Y_ k1 l0 l1 (wrap64 (x5_1 + 1))) = some r := (by rw [if_pos rfl] at H; exact H)
        have H' := yD H
        clear H
        try go_wp2
        have n0_ := yD (yP HB.out)
        clear HB; have HB := n0_; clear n0_
        have p443 : 0 ≤ (x5_1 : Int) := zP (by assumption)
        have q443 : x5_1 < (l0.length : Int) := zP (by assumption)
        obtain ⟨ad443, A443_4, c443_4, A443_5, c443_5, A443_6, c443_6, A443_7, c443_7, e443, hx443_0, hx443_1, hx443_2, hx443_3, hx443_4, hx443_5, hx443_6, hx443_7, hx443_8, hl443_4, hi443_4, hl443_5, hi443_5, hl443_6, hi443_6, hl443_7, hi443_7⟩ := at_T33 HR0.out x5_1 p443 q443
        have hw443_8 := hx443_8; have hw443_7 := hx443_7; have hw443_6 := hx443_6; have hw443_5 := hx443_5; have hw443_4 := hx443_4; have hw443_3 := hx443_3; have hw443_2 := hx443_2; have hw443_1 := hx443_1; have hw443_0 := hx443_0; cases e443
        replace hx443_0 := kCx6_ HB hx443_0
        replace hx443_1 := kCx6_ HB hx443_1
        replace hx443_2 := kCx6_ HB hx443_2
        replace hx443_3 := kCx6_ HB hx443_3
        replace hx443_4 := kCx6_ HB hx443_4
        replace hx443_5 := kCx6_ HB hx443_5
        replace hx443_6 := kCx6_ HB hx443_6
        replace hx443_7 := kCx6_ HB hx443_7
        replace hx443_8 := kCx6_ HB hx443_8
        have HR443_4 := yD hi443_4
        have HC443_4 := yD hl443_4
        clear hi443_4 hl443_4
        have HR443_5 := yD hi443_5
        have HC443_5 := yD hl443_5
        clear hi443_5 hl443_5
        have HR443_6 := yD hi443_6
        have HC443_6 := yD hl443_6
        clear hi443_6 hl443_6
        have HR443_7 := yD hi443_7
        have HC443_7 := yD hl443_7
        clear hi443_7 hl443_7; replace p443 := eq_true p443; replace q443 := eq_true q443
        have p444 : 0 ≤ (x5_1 : Int) := zP (by assumption)
        have q444 : x5_1 < (l1.length : Int) := zP (by assumption)
        obtain ⟨ad444, A444_4, c444_4, A444_5, c444_5, A444_6, c444_6, A444_7, c444_7, e444, hx444_0, hx444_1, hx444_2, hx444_3, hx444_4, hx444_5, hx444_6, hx444_7, hx444_8, hl444_4, hi444_4, hl444_5, hi444_5, hl444_6, hi444_6, hl444_7, hi444_7⟩ := at_T33 HR1.out x5_1 p444 q444
        have hw444_8 := hx444_8; have hw444_7 := hx444_7; have hw444_6 := hx444_6; have hw444_5 := hx444_5; have hw444_4 := hx444_4; have hw444_3 := hx444_3; have hw444_2 := hx444_2; have hw444_1 := hx444_1; have hw444_0 := hx444_0; cases e444
        replace hx444_0 := kCx6_ HB hx444_0
        replace hx444_1 := kCx6_ HB hx444_1
        replace hx444_2 := kCx6_ HB hx444_2
        replace hx444_3 := kCx6_ HB hx444_3
        replace hx444_4 := kCx6_ HB hx444_4
        replace hx444_5 := kCx6_ HB hx444_5
        replace hx444_6 := kCx6_ HB hx444_6
        replace hx444_7 := kCx6_ HB hx444_7
        replace hx444_8 := kCx6_ HB hx444_8
        have HR444_4 := yD hi444_4
        have HC444_4 := yD hl444_4
        clear hi444_4 hl444_4
        have HR444_5 := yD hi444_5
        have HC444_5 := yD hl444_5
        clear hi444_5 hl444_5
        have HR444_6 := yD hi444_6
        have HC444_6 := yD hl444_6
        clear hi444_6 hl444_6
        have HR444_7 := yD hi444_7
        have HC444_7 := yD hl444_7
        clear hi444_7 hl444_7; replace p444 := eq_true p444; replace q444 := eq_true q444
        refine start_ (n := 10) (S := fun w' => w'.cell? (ad443.add ((x5_1).toNat * 9)) = some (.int .i64 ((rd_T33 l0 x5_1).f0)) ∧ w'.cell? ⟨(ad443.add ((x5_1).toNat * 9)).block, (ad443.add ((x5_1).toNat * 9)).off + 1, none⟩ = some (.int .i64 ((rd_T33 l0 x5_1).f1)) ∧ w'.cell? ⟨(ad443.add ((x5_1).toNat * 9)).block, (ad443.add ((x5_1).toNat * 9)).off + 2, none⟩ = some (.bool ((rd_T33 l0 x5_1).f2)) ∧ w'.cell? ⟨(ad443.add ((x5_1).toNat * 9)).block, (ad443.add ((x5_1).toNat * 9)).off + 3, none⟩ = some (.bool ((rd_T33 l0 x5_1).f3)) ∧ w'.cell? ⟨(ad443.add ((x5_1).toNat * 9)).block, (ad443.add ((x5_1).toNat * 9)).off + 4, none⟩ = some (.slice A443_4 ((rd_T33 l0 x5_1).f4).length c443_4) ∧ w'.cell? ⟨(ad443.add ((x5_1).toNat * 9)).block, (ad443.add ((x5_1).toNat * 9)).off + 5, none⟩ = some (.slice A443_5 ((rd_T33 l0 x5_1).f5).length c443_5) ∧ w'.cell? ⟨(ad443.add ((x5_1).toNat * 9)).block, (ad443.add ((x5_1).toNat * 9)).off + 6, none⟩ = some (.slice A443_6 ((rd_T33 l0 x5_1).f6).length c443_6) ∧ w'.cell? ⟨(ad443.add ((x5_1).toNat * 9)).block, (ad443.add ((x5_1).toNat * 9)).off + 7, none⟩ = some (.slice A443_7 ((rd_T33 l0 x5_1).f7).length c443_7) ∧ w'.cell? ⟨(ad443.add ((x5_1).toNat * 9)).block, (ad443.add ((x5_1).toNat * 9)).off + 8, none⟩ = some (.int .i64 ((rd_T33 l0 x5_1).f8)) ∧ w'.cell? (ad444.add ((x5_1).toNat * 9)) = some (.int .i64 ((rd_T33 l1 x5_1).f0)) ∧ w'.cell? ⟨(ad444.add ((x5_1).toNat * 9)).block, (ad444.add ((x5_1).toNat * 9)).off + 1, none⟩ = some (.int .i64 ((rd_T33 l1 x5_1).f1)) ∧ w'.cell? ⟨(ad444.add ((x5_1).toNat * 9)).block, (ad444.add ((x5_1).toNat * 9)).off + 2, none⟩ = some (.bool ((rd_T33 l1 x5_1).f2)) ∧ w'.cell? ⟨(ad444.add ((x5_1).toNat * 9)).block, (ad444.add ((x5_1).toNat * 9)).off + 3, none⟩ = some (.bool ((rd_T33 l1 x5_1).f3)) ∧ w'.cell? ⟨(ad444.add ((x5_1).toNat * 9)).block, (ad444.add ((x5_1).toNat * 9)).off + 4, none⟩ = some (.slice A444_4 ((rd_T33 l1 x5_1).f4).length c444_4) ∧ w'.cell? ⟨(ad444.add ((x5_1).toNat * 9)).block, (ad444.add ((x5_1).toNat * 9)).off + 5, none⟩ = some (.slice A444_5 ((rd_T33 l1 x5_1).f5).length c444_5) ∧ w'.cell? ⟨(ad444.add ((x5_1).toNat * 9)).block, (ad444.add ((x5_1).toNat * 9)).off + 6, none⟩ = some (.slice A444_6 ((rd_T33 l1 x5_1).f6).length c444_6) ∧ w'.cell? ⟨(ad444.add ((x5_1).toNat * 9)).block, (ad444.add ((x5_1).toNat * 9)).off + 7, none⟩ = some (.slice A444_7 ((rd_T33 l1 x5_1).f7).length c444_7) ∧ w'.cell? ⟨(ad444.add ((x5_1).toNat * 9)).block, (ad444.add ((x5_1).toNat * 9)).off + 8, none⟩ = some (.int .i64 ((rd_T33 l1 x5_1).f8))) (ds := []) (bz 10 0) (by kernel_rfl) rfl rfl ⟨((HB.out.cell (zQ w _ hw443_0)).trans hw443_0), ((HB.out.cell (zQ w _ hw443_1)).trans hw443_1), ((HB.out.cell (zQ w _ hw443_2)).trans hw443_2), ((HB.out.cell (zQ w _ hw443_3)).trans hw443_3), ((HB.out.cell (zQ w _ hw443_4)).trans hw443_4), ((HB.out.cell (zQ w _ hw443_5)).trans hw443_5), ((HB.out.cell (zQ w _ hw443_6)).trans hw443_6), ((HB.out.cell (zQ w _ hw443_7)).trans hw443_7), ((HB.out.cell (zQ w _ hw443_8)).trans hw443_8), ((HB.out.cell (zQ w _ hw444_0)).trans hw444_0), ((HB.out.cell (zQ w _ hw444_1)).trans hw444_1), ((HB.out.cell (zQ w _ hw444_2)).trans hw444_2), ((HB.out.cell (zQ w _ hw444_3)).trans hw444_3), ((HB.out.cell (zQ w _ hw444_4)).trans hw444_4), ((HB.out.cell (zQ w _ hw444_5)).trans hw444_5), ((HB.out.cell (zQ w _ hw444_6)).trans hw444_6), ((HB.out.cell (zQ w _ hw444_7)).trans hw444_7), ((HB.out.cell (zQ w _ hw444_8)).trans hw444_8)⟩ (fun hHeld => ?_); refine with_tabW laws_eqTypeS.tab6 laws_eqTypeS.bits6 (fun HT_ HW_ => ?_)
        generalize wr.drew = w9 at HB HR443_4 HR443_5 HR443_6 HR443_7 HR444_4 HR444_5 HR444_6 HR444_7 hx443_0 hx443_1 hx443_2 hx443_3 hx443_4 hx443_5 hx443_6 hx443_7 hx443_8 hx444_0 hx444_1 hx444_2 hx444_3 hx444_4 hx444_5 hx444_6 hx444_7 hx444_8 hHeld ⊢
        refine qA 0 17 (bz 10 1) HT_ ?_
        refine qA 1 18 (bz 10 3) HT_ ?_
        refine qA 2 19 (bz 10 7) HT_ ?_
        refine qA 4 21 (bz 10 23) HT_ ?_
        refine qA 5 22 (bz 10 55) HT_ ?_
        refine qA 6 23 (bz 10 119) HT_ ?_
        refine qC 3 20 (bz 10 127) HT_ HW_ hHeld ?_ (hy := by rintro w' ⟨s0, s1, s2, s3, s4, s5, s6, s7, s8, s9, s10, s11, s12, s13, s14, s15, s16, s17⟩; go_simp; with_reducible rfl)
        refine qC 7 24 (bz 10 255) HT_ HW_ hHeld ?_ (hy := by rintro w' ⟨s0, s1, s2, s3, s4, s5, s6, s7, s8, s9, s10, s11, s12, s13, s14, s15, s16, s17⟩; go_simp; with_reducible rfl)
        refine one_ (i := 8) (N := some 25) (bz 10 511) rfl rfl (one_of HT_.out (by kernel_rfl)) (by decide) (fun K hK => ?_)
        refine goes_ Try.func11 (by kernel_rfl) rfl #[.agg #[.int .i64 ((rd_T33 l0 x5_1).f0), .int .i64 ((rd_T33 l0 x5_1).f1), .bool ((rd_T33 l0 x5_1).f2), .bool ((rd_T33 l0 x5_1).f3), .slice A443_4 ((rd_T33 l0 x5_1).f4).length c443_4, .slice A443_5 ((rd_T33 l0 x5_1).f5).length c443_5, .slice A443_6 ((rd_T33 l0 x5_1).f6).length c443_6, .slice A443_7 ((rd_T33 l0 x5_1).f7).length c443_7, .int .i64 ((rd_T33 l0 x5_1).f8)], .agg #[.int .i64 ((rd_T33 l1 x5_1).f0), .int .i64 ((rd_T33 l1 x5_1).f1), .bool ((rd_T33 l1 x5_1).f2), .bool ((rd_T33 l1 x5_1).f3), .slice A444_4 ((rd_T33 l1 x5_1).f4).length c444_4, .slice A444_5 ((rd_T33 l1 x5_1).f5).length c444_5, .slice A444_6 ((rd_T33 l1 x5_1).f6).length c444_6, .slice A444_7 ((rd_T33 l1 x5_1).f7).length c444_7, .int .i64 ((rd_T33 l1 x5_1).f8)]] (by rfl) rfl rfl (by (try simp only [zK, zL, zM]); first | done | rfl | (simp only [zN, zO]; rfl)) ?_
        with_reducible refine (HY_ ((rd_T33 l0 x5_1).f0) ((rd_T33 l0 x5_1).f1) ((rd_T33 l0 x5_1).f2) ((rd_T33 l0 x5_1).f3) _ _ ((rd_T33 l0 x5_1).f4) _ _ ((rd_T33 l0 x5_1).f5) _ _ ((rd_T33 l0 x5_1).f6) _ _ ((rd_T33 l0 x5_1).f7) ((rd_T33 l0 x5_1).f8) ((rd_T33 l1 x5_1).f0) ((rd_T33 l1 x5_1).f1) ((rd_T33 l1 x5_1).f2) ((rd_T33 l1 x5_1).f3) _ _ ((rd_T33 l1 x5_1).f4) _ _ ((rd_T33 l1 x5_1).f5) _ _ ((rd_T33 l1 x5_1).f6) _ _ ((rd_T33 l1 x5_1).f7) ((rd_T33 l1 x5_1).f8) true _ ?side1 ?side2 ?side3 ?side4 ?side5 ?side6 ?side7 ?side8 ?side9 ?side10 ?side11 ?side12 ?side13 ?side14 ?side15 ?side16 A7.out).mono ?_
        (case side1 => exact kV (yY HR443_4.out HB.out))
        (case side2 => exact HC443_4.out)
        (case side3 => exact kV (yY HR443_5.out HB.out))
        (case side4 => exact HC443_5.out)
        (case side5 => exact kV (yY HR443_6.out HB.out))
        (case side6 => exact HC443_6.out)
        (case side7 => exact kV (yY HR443_7.out HB.out))
        (case side8 => exact HC443_7.out)
        (case side9 => exact kV (yY HR444_4.out HB.out))
        (case side10 => exact HC444_4.out)
        (case side11 => exact kV (yY HR444_5.out HB.out))
        (case side12 => exact HC444_5.out)
        (case side13 => exact kV (yY HR444_6.out HB.out))
        (case side14 => exact HC444_6.out)
        (case side15 => exact kV (yY HR444_7.out HB.out))
        (case side16 => exact HC444_7.out)
        rintro e w10 ⟨rfl, hb⟩
        refine ⟨_, rfl, ?_⟩
        have n0_ := yD (zC (kB HB) hb)
        clear HB; have HB := n0_; clear n0_; (try clear hb); (try clear hb2); (try clear hk); (try clear hi)
        refine hK.out _ _ ⟨((HB.out.cell (zQ w _ hw443_0)).trans hw443_0), ((HB.out.cell (zQ w _ hw443_1)).trans hw443_1), ((HB.out.cell (zQ w _ hw443_2)).trans hw443_2), ((HB.out.cell (zQ w _ hw443_3)).trans hw443_3), ((HB.out.cell (zQ w _ hw443_4)).trans hw443_4), ((HB.out.cell (zQ w _ hw443_5)).trans hw443_5), ((HB.out.cell (zQ w _ hw443_6)).trans hw443_6), ((HB.out.cell (zQ w _ hw443_7)).trans hw443_7), ((HB.out.cell (zQ w _ hw443_8)).trans hw443_8), ((HB.out.cell (zQ w _ hw444_0)).trans hw444_0), ((HB.out.cell (zQ w _ hw444_1)).trans hw444_1), ((HB.out.cell (zQ w _ hw444_2)).trans hw444_2), ((HB.out.cell (zQ w _ hw444_3)).trans hw444_3), ((HB.out.cell (zQ w _ hw444_4)).trans hw444_4), ((HB.out.cell (zQ w _ hw444_5)).trans hw444_5), ((HB.out.cell (zQ w _ hw444_6)).trans hw444_6), ((HB.out.cell (zQ w _ hw444_7)).trans hw444_7), ((HB.out.cell (zQ w _ hw444_8)).trans hw444_8)⟩ (fun hHeld => ?_)
        clear hK K
        refine norm_ (a' := ?_) ?_ ?_
        rotate_left
        · show Act.put _ (some 25) _ = _
          simp only [Act.put, zH, zI, zJ, i64_w, i32_w]
          rfl
        refine qA 9 26 (bz 10 1023) HT_ ?_
        refine done_ (done_of HT_.out (by kernel_rfl)) ?_
        try go_wp2
        go_roundg k1
        case measure => have := HK1.out; omega
        case rel => exact ⟨(wrap64 (x5_1 + 1)), (by first | rfl | (simp; done) | (simp [*]; done)), H', ⟨by have := HK1.out; omega⟩, ⟨kR1 HB⟩⟩
       ·
        replace c8 := Bool.eq_false_iff.mpr c8
        subst c8
        replace H : (some false) = some r := (by rw [if_neg (show ¬ (false = true) by decide)] at H; exact H); obtain rfl := Option.some.inj H
        try go_wp2
        have n0_ := yD (yP HB.out)
        clear HB; have HB := n0_; clear n0_
        have p443 : 0 ≤ (x5_1 : Int) := zP (by assumption)
        have q443 : x5_1 < (l0.length : Int) := zP (by assumption)
        obtain ⟨ad443, A443_4, c443_4, A443_5, c443_5, A443_6, c443_6, A443_7, c443_7, e443, hx443_0, hx443_1, hx443_2, hx443_3, hx443_4, hx443_5, hx443_6, hx443_7, hx443_8, hl443_4, hi443_4, hl443_5, hi443_5, hl443_6, hi443_6, hl443_7, hi443_7⟩ := at_T33 HR0.out x5_1 p443 q443
        have hw443_8 := hx443_8; have hw443_7 := hx443_7; have hw443_6 := hx443_6; have hw443_5 := hx443_5; have hw443_4 := hx443_4; have hw443_3 := hx443_3; have hw443_2 := hx443_2; have hw443_1 := hx443_1; have hw443_0 := hx443_0; cases e443
        replace hx443_0 := kCx6_ HB hx443_0
        replace hx443_1 := kCx6_ HB hx443_1
        replace hx443_2 := kCx6_ HB hx443_2
        replace hx443_3 := kCx6_ HB hx443_3
        replace hx443_4 := kCx6_ HB hx443_4
        replace hx443_5 := kCx6_ HB hx443_5
        replace hx443_6 := kCx6_ HB hx443_6
        replace hx443_7 := kCx6_ HB hx443_7
        replace hx443_8 := kCx6_ HB hx443_8
        have HR443_4 := yD hi443_4
        have HC443_4 := yD hl443_4
        clear hi443_4 hl443_4
        have HR443_5 := yD hi443_5
        have HC443_5 := yD hl443_5
        clear hi443_5 hl443_5
        have HR443_6 := yD hi443_6
        have HC443_6 := yD hl443_6
        clear hi443_6 hl443_6
        have HR443_7 := yD hi443_7
        have HC443_7 := yD hl443_7
        clear hi443_7 hl443_7; replace p443 := eq_true p443; replace q443 := eq_true q443
        have p444 : 0 ≤ (x5_1 : Int) := zP (by assumption)
        have q444 : x5_1 < (l1.length : Int) := zP (by assumption)
        obtain ⟨ad444, A444_4, c444_4, A444_5, c444_5, A444_6, c444_6, A444_7, c444_7, e444, hx444_0, hx444_1, hx444_2, hx444_3, hx444_4, hx444_5, hx444_6, hx444_7, hx444_8, hl444_4, hi444_4, hl444_5, hi444_5, hl444_6, hi444_6, hl444_7, hi444_7⟩ := at_T33 HR1.out x5_1 p444 q444
        have hw444_8 := hx444_8; have hw444_7 := hx444_7; have hw444_6 := hx444_6; have hw444_5 := hx444_5; have hw444_4 := hx444_4; have hw444_3 := hx444_3; have hw444_2 := hx444_2; have hw444_1 := hx444_1; have hw444_0 := hx444_0; cases e444
        replace hx444_0 := kCx6_ HB hx444_0
        replace hx444_1 := kCx6_ HB hx444_1
        replace hx444_2 := kCx6_ HB hx444_2
        replace hx444_3 := kCx6_ HB hx444_3
        replace hx444_4 := kCx6_ HB hx444_4
        replace hx444_5 := kCx6_ HB hx444_5
        replace hx444_6 := kCx6_ HB hx444_6
        replace hx444_7 := kCx6_ HB hx444_7
        replace hx444_8 := kCx6_ HB hx444_8
        have HR444_4 := yD hi444_4
        have HC444_4 := yD hl444_4
        clear hi444_4 hl444_4
        have HR444_5 := yD hi444_5
        have HC444_5 := yD hl444_5
        clear hi444_5 hl444_5
        have HR444_6 := yD hi444_6
        have HC444_6 := yD hl444_6
        clear hi444_6 hl444_6
        have HR444_7 := yD hi444_7
        have HC444_7 := yD hl444_7
        clear hi444_7 hl444_7; replace p444 := eq_true p444; replace q444 := eq_true q444
        refine start_ (n := 10) (S := fun w' => w'.cell? (ad443.add ((x5_1).toNat * 9)) = some (.int .i64 ((rd_T33 l0 x5_1).f0)) ∧ w'.cell? ⟨(ad443.add ((x5_1).toNat * 9)).block, (ad443.add ((x5_1).toNat * 9)).off + 1, none⟩ = some (.int .i64 ((rd_T33 l0 x5_1).f1)) ∧ w'.cell? ⟨(ad443.add ((x5_1).toNat * 9)).block, (ad443.add ((x5_1).toNat * 9)).off + 2, none⟩ = some (.bool ((rd_T33 l0 x5_1).f2)) ∧ w'.cell? ⟨(ad443.add ((x5_1).toNat * 9)).block, (ad443.add ((x5_1).toNat * 9)).off + 3, none⟩ = some (.bool ((rd_T33 l0 x5_1).f3)) ∧ w'.cell? ⟨(ad443.add ((x5_1).toNat * 9)).block, (ad443.add ((x5_1).toNat * 9)).off + 4, none⟩ = some (.slice A443_4 ((rd_T33 l0 x5_1).f4).length c443_4) ∧ w'.cell? ⟨(ad443.add ((x5_1).toNat * 9)).block, (ad443.add ((x5_1).toNat * 9)).off + 5, none⟩ = some (.slice A443_5 ((rd_T33 l0 x5_1).f5).length c443_5) ∧ w'.cell? ⟨(ad443.add ((x5_1).toNat * 9)).block, (ad443.add ((x5_1).toNat * 9)).off + 6, none⟩ = some (.slice A443_6 ((rd_T33 l0 x5_1).f6).length c443_6) ∧ w'.cell? ⟨(ad443.add ((x5_1).toNat * 9)).block, (ad443.add ((x5_1).toNat * 9)).off + 7, none⟩ = some (.slice A443_7 ((rd_T33 l0 x5_1).f7).length c443_7) ∧ w'.cell? ⟨(ad443.add ((x5_1).toNat * 9)).block, (ad443.add ((x5_1).toNat * 9)).off + 8, none⟩ = some (.int .i64 ((rd_T33 l0 x5_1).f8)) ∧ w'.cell? (ad444.add ((x5_1).toNat * 9)) = some (.int .i64 ((rd_T33 l1 x5_1).f0)) ∧ w'.cell? ⟨(ad444.add ((x5_1).toNat * 9)).block, (ad444.add ((x5_1).toNat * 9)).off + 1, none⟩ = some (.int .i64 ((rd_T33 l1 x5_1).f1)) ∧ w'.cell? ⟨(ad444.add ((x5_1).toNat * 9)).block, (ad444.add ((x5_1).toNat * 9)).off + 2, none⟩ = some (.bool ((rd_T33 l1 x5_1).f2)) ∧ w'.cell? ⟨(ad444.add ((x5_1).toNat * 9)).block, (ad444.add ((x5_1).toNat * 9)).off + 3, none⟩ = some (.bool ((rd_T33 l1 x5_1).f3)) ∧ w'.cell? ⟨(ad444.add ((x5_1).toNat * 9)).block, (ad444.add ((x5_1).toNat * 9)).off + 4, none⟩ = some (.slice A444_4 ((rd_T33 l1 x5_1).f4).length c444_4) ∧ w'.cell? ⟨(ad444.add ((x5_1).toNat * 9)).block, (ad444.add ((x5_1).toNat * 9)).off + 5, none⟩ = some (.slice A444_5 ((rd_T33 l1 x5_1).f5).length c444_5) ∧ w'.cell? ⟨(ad444.add ((x5_1).toNat * 9)).block, (ad444.add ((x5_1).toNat * 9)).off + 6, none⟩ = some (.slice A444_6 ((rd_T33 l1 x5_1).f6).length c444_6) ∧ w'.cell? ⟨(ad444.add ((x5_1).toNat * 9)).block, (ad444.add ((x5_1).toNat * 9)).off + 7, none⟩ = some (.slice A444_7 ((rd_T33 l1 x5_1).f7).length c444_7) ∧ w'.cell? ⟨(ad444.add ((x5_1).toNat * 9)).block, (ad444.add ((x5_1).toNat * 9)).off + 8, none⟩ = some (.int .i64 ((rd_T33 l1 x5_1).f8))) (ds := []) (bz 10 0) (by kernel_rfl) rfl rfl ⟨((HB.out.cell (zQ w _ hw443_0)).trans hw443_0), ((HB.out.cell (zQ w _ hw443_1)).trans hw443_1), ((HB.out.cell (zQ w _ hw443_2)).trans hw443_2), ((HB.out.cell (zQ w _ hw443_3)).trans hw443_3), ((HB.out.cell (zQ w _ hw443_4)).trans hw443_4), ((HB.out.cell (zQ w _ hw443_5)).trans hw443_5), ((HB.out.cell (zQ w _ hw443_6)).trans hw443_6), ((HB.out.cell (zQ w _ hw443_7)).trans hw443_7), ((HB.out.cell (zQ w _ hw443_8)).trans hw443_8), ((HB.out.cell (zQ w _ hw444_0)).trans hw444_0), ((HB.out.cell (zQ w _ hw444_1)).trans hw444_1), ((HB.out.cell (zQ w _ hw444_2)).trans hw444_2), ((HB.out.cell (zQ w _ hw444_3)).trans hw444_3), ((HB.out.cell (zQ w _ hw444_4)).trans hw444_4), ((HB.out.cell (zQ w _ hw444_5)).trans hw444_5), ((HB.out.cell (zQ w _ hw444_6)).trans hw444_6), ((HB.out.cell (zQ w _ hw444_7)).trans hw444_7), ((HB.out.cell (zQ w _ hw444_8)).trans hw444_8)⟩ (fun hHeld => ?_); refine with_tabW laws_eqTypeS.tab6 laws_eqTypeS.bits6 (fun HT_ HW_ => ?_)
        generalize wr.drew = w11 at HB HR443_4 HR443_5 HR443_6 HR443_7 HR444_4 HR444_5 HR444_6 HR444_7 hx443_0 hx443_1 hx443_2 hx443_3 hx443_4 hx443_5 hx443_6 hx443_7 hx443_8 hx444_0 hx444_1 hx444_2 hx444_3 hx444_4 hx444_5 hx444_6 hx444_7 hx444_8 hHeld ⊢
        refine qA 0 17 (bz 10 1) HT_ ?_
        refine qA 1 18 (bz 10 3) HT_ ?_
        refine qA 2 19 (bz 10 7) HT_ ?_
        refine qA 4 21 (bz 10 23) HT_ ?_
        refine qA 5 22 (bz 10 55) HT_ ?_
        refine qA 6 23 (bz 10 119) HT_ ?_
        refine qC 3 20 (bz 10 127) HT_ HW_ hHeld ?_ (hy := by rintro w' ⟨s0, s1, s2, s3, s4, s5, s6, s7, s8, s9, s10, s11, s12, s13, s14, s15, s16, s17⟩; go_simp; with_reducible rfl)
        refine qC 7 24 (bz 10 255) HT_ HW_ hHeld ?_ (hy := by rintro w' ⟨s0, s1, s2, s3, s4, s5, s6, s7, s8, s9, s10, s11, s12, s13, s14, s15, s16, s17⟩; go_simp; with_reducible rfl)
        refine one_ (i := 8) (N := some 25) (bz 10 511) rfl rfl (one_of HT_.out (by kernel_rfl)) (by decide) (fun K hK => ?_)
        refine goes_ Try.func11 (by kernel_rfl) rfl #[.agg #[.int .i64 ((rd_T33 l0 x5_1).f0), .int .i64 ((rd_T33 l0 x5_1).f1), .bool ((rd_T33 l0 x5_1).f2), .bool ((rd_T33 l0 x5_1).f3), .slice A443_4 ((rd_T33 l0 x5_1).f4).length c443_4, .slice A443_5 ((rd_T33 l0 x5_1).f5).length c443_5, .slice A443_6 ((rd_T33 l0 x5_1).f6).length c443_6, .slice A443_7 ((rd_T33 l0 x5_1).f7).length c443_7, .int .i64 ((rd_T33 l0 x5_1).f8)], .agg #[.int .i64 ((rd_T33 l1 x5_1).f0), .int .i64 ((rd_T33 l1 x5_1).f1), .bool ((rd_T33 l1 x5_1).f2), .bool ((rd_T33 l1 x5_1).f3), .slice A444_4 ((rd_T33 l1 x5_1).f4).length c444_4, .slice A444_5 ((rd_T33 l1 x5_1).f5).length c444_5, .slice A444_6 ((rd_T33 l1 x5_1).f6).length c444_6, .slice A444_7 ((rd_T33 l1 x5_1).f7).length c444_7, .int .i64 ((rd_T33 l1 x5_1).f8)]] (by rfl) rfl rfl (by (try simp only [zK, zL, zM]); first | done | rfl | (simp only [zN, zO]; rfl)) ?_
        with_reducible refine (HY_ ((rd_T33 l0 x5_1).f0) ((rd_T33 l0 x5_1).f1) ((rd_T33 l0 x5_1).f2) ((rd_T33 l0 x5_1).f3) _ _ ((rd_T33 l0 x5_1).f4) _ _ ((rd_T33 l0 x5_1).f5) _ _ ((rd_T33 l0 x5_1).f6) _ _ ((rd_T33 l0 x5_1).f7) ((rd_T33 l0 x5_1).f8) ((rd_T33 l1 x5_1).f0) ((rd_T33 l1 x5_1).f1) ((rd_T33 l1 x5_1).f2) ((rd_T33 l1 x5_1).f3) _ _ ((rd_T33 l1 x5_1).f4) _ _ ((rd_T33 l1 x5_1).f5) _ _ ((rd_T33 l1 x5_1).f6) _ _ ((rd_T33 l1 x5_1).f7) ((rd_T33 l1 x5_1).f8) false _ ?side1 ?side2 ?side3 ?side4 ?side5 ?side6 ?side7 ?side8 ?side9 ?side10 ?side11 ?side12 ?side13 ?side14 ?side15 ?side16 A7.out).mono ?_
        (case side1 => exact kV (yY HR443_4.out HB.out))
        (case side2 => exact HC443_4.out)
        (case side3 => exact kV (yY HR443_5.out HB.out))
        (case side4 => exact HC443_5.out)
        (case side5 => exact kV (yY HR443_6.out HB.out))
        (case side6 => exact HC443_6.out)
        (case side7 => exact kV (yY HR443_7.out HB.out))
        (case side8 => exact HC443_7.out)
        (case side9 => exact kV (yY HR444_4.out HB.out))
        (case side10 => exact HC444_4.out)
        (case side11 => exact kV (yY HR444_5.out HB.out))
        (case side12 => exact HC444_5.out)
        (case side13 => exact kV (yY HR444_6.out HB.out))
        (case side14 => exact HC444_6.out)
        (case side15 => exact kV (yY HR444_7.out HB.out))
        (case side16 => exact HC444_7.out)
        rintro e w12 ⟨rfl, hb⟩
        refine ⟨_, rfl, ?_⟩
        have n0_ := yD (zC (kB HB) hb)
        clear HB; have HB := n0_; clear n0_; (try clear hb); (try clear hb2); (try clear hk); (try clear hi)
        refine hK.out _ _ ⟨((HB.out.cell (zQ w _ hw443_0)).trans hw443_0), ((HB.out.cell (zQ w _ hw443_1)).trans hw443_1), ((HB.out.cell (zQ w _ hw443_2)).trans hw443_2), ((HB.out.cell (zQ w _ hw443_3)).trans hw443_3), ((HB.out.cell (zQ w _ hw443_4)).trans hw443_4), ((HB.out.cell (zQ w _ hw443_5)).trans hw443_5), ((HB.out.cell (zQ w _ hw443_6)).trans hw443_6), ((HB.out.cell (zQ w _ hw443_7)).trans hw443_7), ((HB.out.cell (zQ w _ hw443_8)).trans hw443_8), ((HB.out.cell (zQ w _ hw444_0)).trans hw444_0), ((HB.out.cell (zQ w _ hw444_1)).trans hw444_1), ((HB.out.cell (zQ w _ hw444_2)).trans hw444_2), ((HB.out.cell (zQ w _ hw444_3)).trans hw444_3), ((HB.out.cell (zQ w _ hw444_4)).trans hw444_4), ((HB.out.cell (zQ w _ hw444_5)).trans hw444_5), ((HB.out.cell (zQ w _ hw444_6)).trans hw444_6), ((HB.out.cell (zQ w _ hw444_7)).trans hw444_7), ((HB.out.cell (zQ w _ hw444_8)).trans hw444_8)⟩ (fun hHeld => ?_)
        clear hK K
        refine norm_ (a' := ?_) ?_ ?_
        rotate_left
        · show Act.put _ (some 25) _ = _
          simp only [Act.put, zH, zI, zJ, i64_w, i32_w]
          rfl
        refine qA 9 26 (bz 10 1023) HT_ ?_
        refine done_ (done_of HT_.out (by kernel_rfl)) ?_
        try go_wp2
        go_ret
        exact ⟨by first | rfl | (simp <;> rfl) | (simp [*] <;> rfl), kR1 HB⟩
      · rw [if_neg c6] at H
        exact absurd H (by simp)
     · rw [if_neg c5] at H
       exact absurd H (by simp)
    · rw [if_neg c4] at H
      have c4b0 : decide (x5_1 < (l0.length : Int)) = false := zS c4; clear c4; obtain rfl := Option.some.inj H
      go_wp2
      go_ret
      exact ⟨by first | rfl | (simp <;> rfl) | (simp [*] <;> rfl), kR1 HB⟩
 ·
  rw [if_neg c3] at H
  have c3b0 : ((l0.length : Int) == (l1.length : Int)) = false := beq_eq_false_iff_ne.mpr c3
  have c3b1 : ((l0.length : Int) != (l1.length : Int)) = true := bne_iff_ne.mpr c3
  have c3b2 : (l0.length == l1.length) = false := by first | simpa using c3 | (simp at c3 ⊢; omega)
  obtain rfl := Option.some.inj H; go_enter Try.func47, Try.ntmps47
  go_wp2
  go_ret
  exact ⟨by first | rfl | (simp <;> rfl) | (simp [*] <;> rfl), kR1 HB⟩

end Go.Proofs.Ytfblodggimjoaaa.PFnExactSameArray
