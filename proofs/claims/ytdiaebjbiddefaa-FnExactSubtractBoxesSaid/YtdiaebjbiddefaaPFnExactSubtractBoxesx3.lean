/- Each Go function here comes to what the plain function of its name says, where that says something. Made by a program of this session, over the print. -/
import Derived.Test.YtdiaebjbiddefaaPFnExactSubtractBoxesx0
import Derived.Test.YtdiaebjbiddefaaPFnExactSubtractBoxesx2
namespace Go.Proofs.Ytdiaebjbiddefaa.PFnExactSubtractBoxes
open Go.RowKit Go.Proofs.YtdiaebjbiddefaaW.PrintWords Go.Proofs.YtdiaebjbiddefaaW.PrintLast Go.Proofs.YtdiaebjbiddefaaW.PrintMore
attribute [local go_sem] max2_int min2_int max_two min_two max_three min_three max_four min_four   -- for this text's walks alone
set_option linter.unusedVariables false
set_option linter.unusedSimpArgs false

/-! ### spec_l07List: function 70 -/
def spec_l07List.l0 : Nat → List (S42) → Int → Option (Bool)
 | 0, _, _ => none
 | k + 1, x0, x3 => if x3 < (x0.length : Int) then (if 0 ≤ x3 then ((spec_l07Box.f k ((rd_T42 x0 x3).f0) ((rd_T42 x0 x3).f1)).bind fun t138 => (if t138 = true then (if 0 < (x0.length : Int) then (if (((rd_T42 x0 x3).f0).length : Int) = (((rd_T42 x0 0).f0).length : Int) then (spec_l07List.l0 k x0 (wrap64 (x3 + 1))) else (some false)) else (none)) else (some false))) else (none)) else (some (decide ((x0.length : Int) ≤ 32)))
def spec_l07List.f (k : Nat) (l0 : List (S42)) : Option (Bool) := spec_l07List.l0 k l0 0
theorem spec_l07List.mono_l : ∀ k, (∀ y0 y1, LeO (spec_l07List.l0 k y0 y1) (spec_l07List.l0 (k + 1) y0 y1))
 | 0 => fun _ _ r h => by simp [spec_l07List.l0] at h
 | k + 1 => by
  have ih0 := spec_l07List.mono_l k
  · intro y0 y1
    unfold spec_l07List.l0
    repeat' (with_reducible first | exact ih0 _ _ | exact spec_l07Box.mono _ _ _ | exact LeO.refl _ | exact LeO.none _ | refine LeO.ite ?_ ?_ | refine LeO.bind ?_ (fun _ => ?_))
theorem spec_l07List.mono : ∀ a0 k, LeO (spec_l07List.f k a0) (spec_l07List.f (k + 1) a0) := by
 intro a0 k
 have ih0 := spec_l07List.mono_l k
 unfold spec_l07List.f
 repeat' (with_reducible first | exact ih0 _ _ | exact spec_l07Box.mono _ _ _ | exact LeO.refl _ | exact LeO.none _ | refine LeO.ite ?_ ?_ | refine LeO.bind ?_ (fun _ => ?_))
def spec_l07List.T4 : Bool × List (List Nat × List Nat) := (true, [([], []), ([], []), ([0, 1], [0, 1]), ([2], [2]), ([3], [3]), ([4], [4]), ([5, 4], [5]), ([6], [6]), ([6], [6]), ([7, 8, 6], [6, 7, 8]), ([9, 6], [6, 9]), ([10, 6], [6, 10]), ([11, 6], [6, 11]), ([6], [6]), ([13, 6], [6, 13]), ([14, 6], [6, 14]), ([15, 6], [6, 15]), ([16, 6], [6, 16]), ([12, 17, 6], [6, 12, 17]), ([6, 18], [6, 18])])
def spec_l07List.B4 : List Nat := [0, 0, 3, 7, 15, 31, 63, 127, 127, 511, 1023, 2047, 4095, 127, 8319, 24703, 57471, 123007, 262143, 524287]
theorem spec_l07List.tab4 : rtab .any (opsOf Try.f70 4) = spec_l07List.T4 := by kernel_rfl
theorem spec_l07List.bits4 : waitsOk spec_l07List.T4.2 spec_l07List.B4 = true := by kernel_rfl
set_option maxHeartbeats 8000000 in
set_option maxRecDepth 100000 in
theorem spec_l07List.calls (k : Nat) (A0 : Option Addr) (c0 : Nat) (l0 : List (S42)) (r : Bool) (w : World) (hr0 : Kd.C k42 w A0 l0.length l0) (hc0 : l0.length ≤ c0) (h : spec_l07List.f k l0 = some r) :
 Calls Try.prog 70 #[.slice A0 l0.length c0] w fun e w' => e = .returned (.bool r) ∧ Below w.heap.size w w' := by
 have hu42 := Try.underlying42
 have HR0 := yD hr0
 have HC0 := yD hc0
 clear hr0 hc0
 have HB := yD (Below.refl w.heap.size w)
 have H : (spec_l07List.l0 k l0 0) = some r := h
 clear h
 have H' := yD H
 clear H; go_enter Try.func70, Try.ntmps70
 go_wp2
 go_loopg [3] k (fun kq v3 w' => ∃ (x3_1 : Int), v3 = .int .i64 x3_1 ∧ Aside0 (spec_l07List.l0 kq l0 x3_1 = some r) ∧ Aside0 (kq ≤ k) ∧ Aside0 (Below w.heap.size w w'))
 case atStart => exact ⟨(0), (by first | rfl | (simp; done) | (simp [*]; done)), H', ⟨Nat.le_refl _⟩, ⟨kR1 HB⟩⟩
 case round =>
  clear H'
  obtain ⟨x3_1, rfl, HA, HK1, HB⟩ := hrel
  cases gk with
  | zero => exact absurd HA.out (by simp [spec_l07List.l0])
  | succ k1 =>
   have H := HA.out; clear HA
   simp only [spec_l07List.l0] at H
   by_cases c2 : x3_1 < (l0.length : Int)
   ·
    rw [if_pos c2] at H
    have c2b0 : decide (x3_1 < (l0.length : Int)) = true := zR c2; clear c2
    by_cases c3 : 0 ≤ x3_1
    ·
     rw [if_pos c3] at H
     have c3b0 : decide (0 ≤ x3_1) = true := zR c3; clear c3
     obtain ⟨t138, A40, H⟩ := zW_ H
     replace H : (if t138 = true then (if 0 < (l0.length : Int) then (if (((rd_T42 l0 x3_1).f0).length : Int) = (((rd_T42 l0 0).f0).length : Int) then (spec_l07List.l0 k1 l0 (wrap64 (x3_1 + 1))) else (some false)) else (none)) else (some false)) = some r := H
     have A4 := yD A40
     clear A40
     by_cases c5 : t138 = true
     ·
      subst c5
      replace H : (if 0 < (l0.length : Int) then (if (((rd_T42 l0 x3_1).f0).length : Int) = (((rd_T42 l0 0).f0).length : Int) then (spec_l07List.l0 k1 l0 (wrap64 (x3_1 + 1))) else (some false)) else (none)) = some r := (by rw [if_pos rfl] at H; exact H)
      by_cases c6 : 0 < (l0.length : Int)
      ·
       rw [if_pos c6] at H
       have c6b0 : decide (0 < (l0.length : Int)) = true := zR c6
       have c6b1 : decide (0 < l0.length) = true := zR (by omega)
       clear c6
       by_cases c7 : (((rd_T42 l0 x3_1).f0).length : Int) = (((rd_T42 l0 0).f0).length : Int)
       ·
        rw [if_pos c7] at H
        have c7b0 : ((((rd_T42 l0 x3_1).f0).length : Int) == (((rd_T42 l0 0).f0).length : Int)) = true := beq_iff_eq.mpr c7
        have c7b1 : ((((rd_T42 l0 x3_1).f0).length : Int) != (((rd_T42 l0 0).f0).length : Int)) = false := bne_eq_false_iff_eq.mpr c7
        have c7b2 : (((rd_T42 l0 x3_1).f0).length == ((rd_T42 l0 0).f0).length) = true := by first | simpa using c7 | (simp at c7 ⊢; omega)
        clear c7
        have H' := yD H
        clear H
        try go_wp2
        have n0_ := yD (yP HB.out)
        clear HB; have HB := n0_; clear n0_
        have p137 : 0 ≤ (x3_1 : Int) := zP (by assumption)
        have q137 : x3_1 < (l0.length : Int) := zP (by assumption)
        obtain ⟨ad137, A137_0, c137_0, A137_1, c137_1, e137, hx137_0, hx137_1, hl137_0, hi137_0, hl137_1, hi137_1⟩ := at_T42 HR0.out x3_1 p137 q137
        have hw137_1 := hx137_1; have hw137_0 := hx137_0; cases e137
        replace hx137_0 := (HB.out.cell (zQ w _ hx137_0)).trans hx137_0
        replace hx137_1 := (HB.out.cell (zQ w _ hx137_1)).trans hx137_1
        have HR137_0 := yD hi137_0
        have HC137_0 := yD hl137_0
        clear hi137_0 hl137_0
        have HR137_1 := yD hi137_1
        have HC137_1 := yD hl137_1
        clear hi137_1 hl137_1; replace p137 := eq_true p137; replace q137 := eq_true q137
        have p139 : 0 ≤ (x3_1 : Int) := zP (by assumption)
        have q139 : x3_1 < (l0.length : Int) := zP (by assumption)
        obtain ⟨ad139, A139_0, c139_0, A139_1, c139_1, e139, hx139_0, hx139_1, hl139_0, hi139_0, hl139_1, hi139_1⟩ := at_T42 HR0.out x3_1 p139 q139
        have hw139_1 := hx139_1; have hw139_0 := hx139_0
        obtain rfl : ad137 = ad139 := (by injection e139)
        replace hx139_0 := (HB.out.cell (zQ w _ hx139_0)).trans hx139_0
        replace hx139_1 := (HB.out.cell (zQ w _ hx139_1)).trans hx139_1
        have HR139_0 := yD hi139_0
        have HC139_0 := yD hl139_0
        clear hi139_0 hl139_0
        have HR139_1 := yD hi139_1
        have HC139_1 := yD hl139_1
        clear hi139_1 hl139_1; replace p139 := eq_true p139; replace q139 := eq_true q139
        have p140 : 0 ≤ (0 : Int) := (by omega)
        have q140 : 0 < (l0.length : Int) := zP (by assumption)
        obtain ⟨ad140, A140_0, c140_0, A140_1, c140_1, e140, hx140_0, hx140_1, hl140_0, hi140_0, hl140_1, hi140_1⟩ := at_T42 HR0.out 0 p140 q140
        have hw140_1 := hx140_1
        (try rw [show ((0 : Int)).toNat = 0 from rfl] at hw140_1)
        (try rw [show 0 * 2 = 0 from rfl] at hw140_1)
        (try rw [Addr.add_zero'] at hw140_1)
        have hw140_0 := hx140_0
        (try rw [show ((0 : Int)).toNat = 0 from rfl] at hw140_0)
        (try rw [show 0 * 2 = 0 from rfl] at hw140_0)
        (try rw [Addr.add_zero'] at hw140_0)
        obtain rfl : ad137 = ad140 := (by injection e140)
        have qi140 : (0 < l0.length) = True := eq_true (by omega)
        (try rw [show ((0 : Int)).toNat = 0 from rfl] at hx140_0)
        (try rw [show 0 * 2 = 0 from rfl] at hx140_0)
        (try rw [Addr.add_zero'] at hx140_0)
        (try rw [show ((0 : Int)).toNat = 0 from rfl] at hx140_1)
        (try rw [show 0 * 2 = 0 from rfl] at hx140_1)
        (try rw [Addr.add_zero'] at hx140_1)
        replace hx140_0 := (HB.out.cell (zQ w _ hx140_0)).trans hx140_0
        replace hx140_1 := (HB.out.cell (zQ w _ hx140_1)).trans hx140_1
        have HR140_0 := yD hi140_0
        have HC140_0 := yD hl140_0
        clear hi140_0 hl140_0
        have HR140_1 := yD hi140_1
        have HC140_1 := yD hl140_1
        clear hi140_1 hl140_1; replace p140 := eq_true p140; replace q140 := eq_true q140
        refine start_ (n := 20) (S := fun w' => w'.cell? (ad137.add ((x3_1).toNat * 2)) = some (.slice A137_0 ((rd_T42 l0 x3_1).f0).length c137_0) ∧ w'.cell? ⟨(ad137.add ((x3_1).toNat * 2)).block, (ad137.add ((x3_1).toNat * 2)).off + 1, none⟩ = some (.slice A137_1 ((rd_T42 l0 x3_1).f1).length c137_1) ∧ w'.cell? (ad137.add ((x3_1).toNat * 2)) = some (.slice A139_0 ((rd_T42 l0 x3_1).f0).length c139_0) ∧ w'.cell? ⟨(ad137.add ((x3_1).toNat * 2)).block, (ad137.add ((x3_1).toNat * 2)).off + 1, none⟩ = some (.slice A139_1 ((rd_T42 l0 x3_1).f1).length c139_1) ∧ w'.cell? ad137 = some (.slice A140_0 ((rd_T42 l0 0).f0).length c140_0) ∧ w'.cell? ⟨ad137.block, ad137.off + 1, none⟩ = some (.slice A140_1 ((rd_T42 l0 0).f1).length c140_1)) (ds := []) (bz 20 0) (by kernel_rfl) rfl rfl ⟨((HB.out.cell (zQ w _ hw137_0)).trans hw137_0), ((HB.out.cell (zQ w _ hw137_1)).trans hw137_1), ((HB.out.cell (zQ w _ hw139_0)).trans hw139_0), ((HB.out.cell (zQ w _ hw139_1)).trans hw139_1), ((HB.out.cell (zQ w _ hw140_0)).trans hw140_0), ((HB.out.cell (zQ w _ hw140_1)).trans hw140_1)⟩ (fun hHeld => ?_); refine with_tabW spec_l07List.tab4 spec_l07List.bits4 (fun HT_ HW_ => ?_)
        generalize wr.drew = w8 at HB HR137_0 HR137_1 HR139_0 HR139_1 HR140_0 HR140_1 hx137_0 hx137_1 hx139_0 hx139_1 hx140_0 hx140_1 hHeld ⊢
        refine qA 0 10 (bz 20 1) HT_ ?_
        refine qA 1 11 (bz 20 3) HT_ ?_
        refine qA 2 12 (bz 20 7) HT_ ?_
        refine qC 3 13 (bz 20 15) HT_ HW_ hHeld ?_ (hy := by rintro w' ⟨s0, s1, s2, s3, s4, s5⟩; go_simp; with_reducible rfl)
        refine one_ (i := 4) (N := some 14) (bz 20 31) rfl rfl (one_of HT_.out (by kernel_rfl)) (by decide) (fun K hK => ?_)
        refine goes_ Try.func108 (by kernel_rfl) rfl #[.agg #[.slice A137_0 ((rd_T42 l0 x3_1).f0).length c137_0, .slice A137_1 ((rd_T42 l0 x3_1).f1).length c137_1]] (by rfl) rfl rfl (by (try simp only [zK, zL, zM]); first | done | rfl | (simp only [zN, zO]; rfl)) ?_
        with_reducible refine (spec_l07Box.calls k1 _ _ ((rd_T42 l0 x3_1).f0) _ _ ((rd_T42 l0 x3_1).f1) true _ ?side1 ?side2 ?side3 ?side4 A4.out).mono ?_
        (case side1 => exact kV (yY HR137_0.out HB.out))
        (case side2 => exact HC137_0.out)
        (case side3 => exact kV (yY HR137_1.out HB.out))
        (case side4 => exact HC137_1.out)
        rintro e w9 ⟨rfl, hb⟩
        refine ⟨_, rfl, ?_⟩
        have n0_ := yD (zC (kB HB) hb)
        clear HB; have HB := n0_; clear n0_; (try clear hb); (try clear hb2); (try clear hk); (try clear hi)
        refine hK.out _ _ ⟨((HB.out.cell (zQ w _ hw137_0)).trans hw137_0), ((HB.out.cell (zQ w _ hw137_1)).trans hw137_1), ((HB.out.cell (zQ w _ hw139_0)).trans hw139_0), ((HB.out.cell (zQ w _ hw139_1)).trans hw139_1), ((HB.out.cell (zQ w _ hw140_0)).trans hw140_0), ((HB.out.cell (zQ w _ hw140_1)).trans hw140_1)⟩ (fun hHeld => ?_)
        clear hK K
        refine norm_ (a' := ?_) ?_ ?_
        rotate_left
        · show Act.put _ (some 14) _ = _
          simp only [Act.put, zH, zI, zJ, i64_w, i32_w]
          rfl
        refine qA 5 15 (bz 20 63) HT_ ?_
        refine qA 6 16 (bz 20 127) HT_ ?_
        refine qA 7 17 (bz 20 255) HT_ ?_
        refine qA 8 18 (bz 20 511) HT_ ?_
        refine qA 9 19 (bz 20 1023) HT_ ?_
        refine qA 10 20 (bz 20 2047) HT_ ?_
        refine qA 13 23 (bz 20 10239) HT_ ?_
        refine qA 14 24 (bz 20 26623) HT_ ?_
        refine qA 15 25 (bz 20 59391) HT_ ?_
        refine qC 11 21 (bz 20 61439) HT_ HW_ hHeld ?_ (hy := by rintro w' ⟨s0, s1, s2, s3, s4, s5⟩; go_simp; with_reducible rfl)
        refine qA 12 22 (bz 20 65535) HT_ ?_
        refine qC 16 26 (bz 20 131071) HT_ HW_ hHeld ?_ (hy := by rintro w' ⟨s0, s1, s2, s3, s4, s5⟩; go_simp; with_reducible rfl)
        refine qA 17 27 (bz 20 262143) HT_ ?_
        refine qA 18 28 (bz 20 524287) HT_ ?_
        refine qA 19 29 (bz 20 1048575) HT_ ?_
        refine done_ (done_of HT_.out (by kernel_rfl)) ?_
        try go_wp2
        go_roundg k1
        case measure => have := HK1.out; omega
        case rel => exact ⟨(wrap64 (x3_1 + 1)), (by first | rfl | (simp; done) | (simp [*]; done)), H', ⟨by have := HK1.out; omega⟩, ⟨kR1 HB⟩⟩
       ·
        rw [if_neg c7] at H
        have c7b0 : ((((rd_T42 l0 x3_1).f0).length : Int) == (((rd_T42 l0 0).f0).length : Int)) = false := beq_eq_false_iff_ne.mpr c7
        have c7b1 : ((((rd_T42 l0 x3_1).f0).length : Int) != (((rd_T42 l0 0).f0).length : Int)) = true := bne_iff_ne.mpr c7
        have c7b2 : (((rd_T42 l0 x3_1).f0).length == ((rd_T42 l0 0).f0).length) = false := by first | simpa using c7 | (simp at c7 ⊢; omega)
        obtain rfl := Option.some.inj H
        try go_wp2
        have n0_ := yD (yP HB.out)
        clear HB; have HB := n0_; clear n0_
        have p137 : 0 ≤ (x3_1 : Int) := zP (by assumption)
        have q137 : x3_1 < (l0.length : Int) := zP (by assumption)
        obtain ⟨ad137, A137_0, c137_0, A137_1, c137_1, e137, hx137_0, hx137_1, hl137_0, hi137_0, hl137_1, hi137_1⟩ := at_T42 HR0.out x3_1 p137 q137
        have hw137_1 := hx137_1; have hw137_0 := hx137_0; cases e137
        replace hx137_0 := (HB.out.cell (zQ w _ hx137_0)).trans hx137_0
        replace hx137_1 := (HB.out.cell (zQ w _ hx137_1)).trans hx137_1
        have HR137_0 := yD hi137_0
        have HC137_0 := yD hl137_0
        clear hi137_0 hl137_0
        have HR137_1 := yD hi137_1
        have HC137_1 := yD hl137_1
        clear hi137_1 hl137_1; replace p137 := eq_true p137; replace q137 := eq_true q137
        have p139 : 0 ≤ (x3_1 : Int) := zP (by assumption)
        have q139 : x3_1 < (l0.length : Int) := zP (by assumption)
        obtain ⟨ad139, A139_0, c139_0, A139_1, c139_1, e139, hx139_0, hx139_1, hl139_0, hi139_0, hl139_1, hi139_1⟩ := at_T42 HR0.out x3_1 p139 q139
        have hw139_1 := hx139_1; have hw139_0 := hx139_0
        obtain rfl : ad137 = ad139 := (by injection e139)
        replace hx139_0 := (HB.out.cell (zQ w _ hx139_0)).trans hx139_0
        replace hx139_1 := (HB.out.cell (zQ w _ hx139_1)).trans hx139_1
        have HR139_0 := yD hi139_0
        have HC139_0 := yD hl139_0
        clear hi139_0 hl139_0
        have HR139_1 := yD hi139_1
        have HC139_1 := yD hl139_1
        clear hi139_1 hl139_1; replace p139 := eq_true p139; replace q139 := eq_true q139
        have p140 : 0 ≤ (0 : Int) := (by omega)
        have q140 : 0 < (l0.length : Int) := zP (by assumption)
        obtain ⟨ad140, A140_0, c140_0, A140_1, c140_1, e140, hx140_0, hx140_1, hl140_0, hi140_0, hl140_1, hi140_1⟩ := at_T42 HR0.out 0 p140 q140
        have hw140_1 := hx140_1
        (try rw [show ((0 : Int)).toNat = 0 from rfl] at hw140_1)
        (try rw [show 0 * 2 = 0 from rfl] at hw140_1)
        (try rw [Addr.add_zero'] at hw140_1)
        have hw140_0 := hx140_0
        (try rw [show ((0 : Int)).toNat = 0 from rfl] at hw140_0)
        (try rw [show 0 * 2 = 0 from rfl] at hw140_0)
        (try rw [Addr.add_zero'] at hw140_0)
        obtain rfl : ad137 = ad140 := (by injection e140)
        have qi140 : (0 < l0.length) = True := eq_true (by omega)
        (try rw [show ((0 : Int)).toNat = 0 from rfl] at hx140_0)
        (try rw [show 0 * 2 = 0 from rfl] at hx140_0)
        (try rw [Addr.add_zero'] at hx140_0)
        (try rw [show ((0 : Int)).toNat = 0 from rfl] at hx140_1)
        (try rw [show 0 * 2 = 0 from rfl] at hx140_1)
        (try rw [Addr.add_zero'] at hx140_1)
        replace hx140_0 := (HB.out.cell (zQ w _ hx140_0)).trans hx140_0
        replace hx140_1 := (HB.out.cell (zQ w _ hx140_1)).trans hx140_1
        have HR140_0 := yD hi140_0
        have HC140_0 := yD hl140_0
        clear hi140_0 hl140_0
        have HR140_1 := yD hi140_1
        have HC140_1 := yD hl140_1
        clear hi140_1 hl140_1; replace p140 := eq_true p140; replace q140 := eq_true q140
        refine start_ (n := 20) (S := fun w' => w'.cell? (ad137.add ((x3_1).toNat * 2)) = some (.slice A137_0 ((rd_T42 l0 x3_1).f0).length c137_0) ∧ w'.cell? ⟨(ad137.add ((x3_1).toNat * 2)).block, (ad137.add ((x3_1).toNat * 2)).off + 1, none⟩ = some (.slice A137_1 ((rd_T42 l0 x3_1).f1).length c137_1) ∧ w'.cell? (ad137.add ((x3_1).toNat * 2)) = some (.slice A139_0 ((rd_T42 l0 x3_1).f0).length c139_0) ∧ w'.cell? ⟨(ad137.add ((x3_1).toNat * 2)).block, (ad137.add ((x3_1).toNat * 2)).off + 1, none⟩ = some (.slice A139_1 ((rd_T42 l0 x3_1).f1).length c139_1) ∧ w'.cell? ad137 = some (.slice A140_0 ((rd_T42 l0 0).f0).length c140_0) ∧ w'.cell? ⟨ad137.block, ad137.off + 1, none⟩ = some (.slice A140_1 ((rd_T42 l0 0).f1).length c140_1)) (ds := []) (bz 20 0) (by kernel_rfl) rfl rfl ⟨((HB.out.cell (zQ w _ hw137_0)).trans hw137_0), ((HB.out.cell (zQ w _ hw137_1)).trans hw137_1), ((HB.out.cell (zQ w _ hw139_0)).trans hw139_0), ((HB.out.cell (zQ w _ hw139_1)).trans hw139_1), ((HB.out.cell (zQ w _ hw140_0)).trans hw140_0), ((HB.out.cell (zQ w _ hw140_1)).trans hw140_1)⟩ (fun hHeld => ?_); refine with_tabW spec_l07List.tab4 spec_l07List.bits4 (fun HT_ HW_ => ?_)
        generalize wr.drew = w10 at HB HR137_0 HR137_1 HR139_0 HR139_1 HR140_0 HR140_1 hx137_0 hx137_1 hx139_0 hx139_1 hx140_0 hx140_1 hHeld ⊢
        refine qA 0 10 (bz 20 1) HT_ ?_
        refine qA 1 11 (bz 20 3) HT_ ?_
        refine qA 2 12 (bz 20 7) HT_ ?_
        refine qC 3 13 (bz 20 15) HT_ HW_ hHeld ?_ (hy := by rintro w' ⟨s0, s1, s2, s3, s4, s5⟩; go_simp; with_reducible rfl)
        refine one_ (i := 4) (N := some 14) (bz 20 31) rfl rfl (one_of HT_.out (by kernel_rfl)) (by decide) (fun K hK => ?_)
        refine goes_ Try.func108 (by kernel_rfl) rfl #[.agg #[.slice A137_0 ((rd_T42 l0 x3_1).f0).length c137_0, .slice A137_1 ((rd_T42 l0 x3_1).f1).length c137_1]] (by rfl) rfl rfl (by (try simp only [zK, zL, zM]); first | done | rfl | (simp only [zN, zO]; rfl)) ?_
        with_reducible refine (spec_l07Box.calls k1 _ _ ((rd_T42 l0 x3_1).f0) _ _ ((rd_T42 l0 x3_1).f1) true _ ?side1 ?side2 ?side3 ?side4 A4.out).mono ?_
        (case side1 => exact kV (yY HR137_0.out HB.out))
        (case side2 => exact HC137_0.out)
        (case side3 => exact kV (yY HR137_1.out HB.out))
        (case side4 => exact HC137_1.out)
        rintro e w11 ⟨rfl, hb⟩
        refine ⟨_, rfl, ?_⟩
        have n0_ := yD (zC (kB HB) hb)
        clear HB; have HB := n0_; clear n0_; (try clear hb); (try clear hb2); (try clear hk); (try clear hi)
        refine hK.out _ _ ⟨((HB.out.cell (zQ w _ hw137_0)).trans hw137_0), ((HB.out.cell (zQ w _ hw137_1)).trans hw137_1), ((HB.out.cell (zQ w _ hw139_0)).trans hw139_0), ((HB.out.cell (zQ w _ hw139_1)).trans hw139_1), ((HB.out.cell (zQ w _ hw140_0)).trans hw140_0), ((HB.out.cell (zQ w _ hw140_1)).trans hw140_1)⟩ (fun hHeld => ?_)
        clear hK K
        refine norm_ (a' := ?_) ?_ ?_
        rotate_left
        · show Act.put _ (some 14) _ = _
          simp only [Act.put, zH, zI, zJ, i64_w, i32_w]
          rfl
        refine qA 5 15 (bz 20 63) HT_ ?_
        refine qA 6 16 (bz 20 127) HT_ ?_
        refine qA 7 17 (bz 20 255) HT_ ?_
        refine qA 8 18 (bz 20 511) HT_ ?_
        refine qA 9 19 (bz 20 1023) HT_ ?_
        refine qA 10 20 (bz 20 2047) HT_ ?_
        refine qA 13 23 (bz 20 10239) HT_ ?_
        refine qA 14 24 (bz 20 26623) HT_ ?_
        refine qA 15 25 (bz 20 59391) HT_ ?_
        refine qC 11 21 (bz 20 61439) HT_ HW_ hHeld ?_ (hy := by rintro w' ⟨s0, s1, s2, s3, s4, s5⟩; go_simp; with_reducible rfl)
        refine qA 12 22 (bz 20 65535) HT_ ?_
        refine qC 16 26 (bz 20 131071) HT_ HW_ hHeld ?_ (hy := by rintro w' ⟨s0, s1, s2, s3, s4, s5⟩; go_simp; with_reducible rfl)
        refine qA 17 27 (bz 20 262143) HT_ ?_
        refine qA 18 28 (bz 20 524287) HT_ ?_
        refine qA 19 29 (bz 20 1048575) HT_ ?_
        refine done_ (done_of HT_.out (by kernel_rfl)) ?_
        try go_wp2
        go_ret
        exact ⟨by first | rfl | (simp <;> rfl) | (simp [*] <;> rfl), kR1 HB⟩
      · rw [if_neg c6] at H
        exact absurd H (by simp)
     ·
      replace c5 := Bool.eq_false_iff.mpr c5
      subst c5
      replace H : (some false) = some r := (by rw [if_neg (show ¬ (false = true) by decide)] at H; exact H); obtain rfl := Option.some.inj H
      try go_wp2
      have n0_ := yD (yP HB.out)
      clear HB; have HB := n0_; clear n0_
      have p137 : 0 ≤ (x3_1 : Int) := zP (by assumption)
      have q137 : x3_1 < (l0.length : Int) := zP (by assumption)
      obtain ⟨ad137, A137_0, c137_0, A137_1, c137_1, e137, hx137_0, hx137_1, hl137_0, hi137_0, hl137_1, hi137_1⟩ := at_T42 HR0.out x3_1 p137 q137
      have hw137_1 := hx137_1; have hw137_0 := hx137_0; cases e137
      replace hx137_0 := (HB.out.cell (zQ w _ hx137_0)).trans hx137_0
      replace hx137_1 := (HB.out.cell (zQ w _ hx137_1)).trans hx137_1
      have HR137_0 := yD hi137_0
      have HC137_0 := yD hl137_0
      clear hi137_0 hl137_0
      have HR137_1 := yD hi137_1
      have HC137_1 := yD hl137_1
      clear hi137_1 hl137_1; replace p137 := eq_true p137; replace q137 := eq_true q137
      refine start_ (n := 20) (S := fun w' => w'.cell? (ad137.add ((x3_1).toNat * 2)) = some (.slice A137_0 ((rd_T42 l0 x3_1).f0).length c137_0) ∧ w'.cell? ⟨(ad137.add ((x3_1).toNat * 2)).block, (ad137.add ((x3_1).toNat * 2)).off + 1, none⟩ = some (.slice A137_1 ((rd_T42 l0 x3_1).f1).length c137_1)) (ds := []) (bz 20 0) (by kernel_rfl) rfl rfl ⟨((HB.out.cell (zQ w _ hw137_0)).trans hw137_0), ((HB.out.cell (zQ w _ hw137_1)).trans hw137_1)⟩ (fun hHeld => ?_); refine with_tabW spec_l07List.tab4 spec_l07List.bits4 (fun HT_ HW_ => ?_)
      generalize wr.drew = w12 at HB HR137_0 HR137_1 hx137_0 hx137_1 hHeld ⊢
      refine qA 0 10 (bz 20 1) HT_ ?_
      refine qA 1 11 (bz 20 3) HT_ ?_
      refine qA 2 12 (bz 20 7) HT_ ?_
      refine qC 3 13 (bz 20 15) HT_ HW_ hHeld ?_ (hy := by rintro w' ⟨s0, s1⟩; go_simp; with_reducible rfl)
      refine one_ (i := 4) (N := some 14) (bz 20 31) rfl rfl (one_of HT_.out (by kernel_rfl)) (by decide) (fun K hK => ?_)
      refine goes_ Try.func108 (by kernel_rfl) rfl #[.agg #[.slice A137_0 ((rd_T42 l0 x3_1).f0).length c137_0, .slice A137_1 ((rd_T42 l0 x3_1).f1).length c137_1]] (by rfl) rfl rfl (by (try simp only [zK, zL, zM]); first | done | rfl | (simp only [zN, zO]; rfl)) ?_
      with_reducible refine (spec_l07Box.calls k1 _ _ ((rd_T42 l0 x3_1).f0) _ _ ((rd_T42 l0 x3_1).f1) false _ ?side1 ?side2 ?side3 ?side4 A4.out).mono ?_
      (case side1 => exact kV (yY HR137_0.out HB.out))
      (case side2 => exact HC137_0.out)
      (case side3 => exact kV (yY HR137_1.out HB.out))
      (case side4 => exact HC137_1.out)
      rintro e w13 ⟨rfl, hb⟩
      refine ⟨_, rfl, ?_⟩
      have n0_ := yD (zC (kB HB) hb)
      clear HB; have HB := n0_; clear n0_; (try clear hb); (try clear hb2); (try clear hk); (try clear hi)
      refine hK.out _ _ ⟨((HB.out.cell (zQ w _ hw137_0)).trans hw137_0), ((HB.out.cell (zQ w _ hw137_1)).trans hw137_1)⟩ (fun hHeld => ?_)
      clear hK K
      refine norm_ (a' := ?_) ?_ ?_
      rotate_left
      · show Act.put _ (some 14) _ = _
        simp only [Act.put, zH, zI, zJ, i64_w, i32_w]
        rfl
      refine qA 5 15 (bz 20 63) HT_ ?_
      refine qA 6 16 (bz 20 127) HT_ ?_
      refine qB 7 17 (bz 20 255) HT_ ?_
      refine qB 8 18 (bz 20 511) HT_ ?_
      refine qB 9 19 (bz 20 1023) HT_ ?_
      refine qB 10 20 (bz 20 2047) HT_ ?_
      refine qB 11 21 (bz 20 4095) HT_ ?_
      refine qB 12 22 (bz 20 8191) HT_ ?_
      refine qB 13 23 (bz 20 16383) HT_ ?_
      refine qB 14 24 (bz 20 32767) HT_ ?_
      refine qB 15 25 (bz 20 65535) HT_ ?_
      refine qB 16 26 (bz 20 131071) HT_ ?_
      refine qB 17 27 (bz 20 262143) HT_ ?_
      refine qB 18 28 (bz 20 524287) HT_ ?_
      refine qA 19 29 (bz 20 1048575) HT_ ?_
      refine done_ (done_of HT_.out (by kernel_rfl)) ?_
      try go_wp2
      go_ret
      exact ⟨by first | rfl | (simp <;> rfl) | (simp [*] <;> rfl), kR1 HB⟩
    · rw [if_neg c3] at H
      exact absurd H (by simp)
   · rw [if_neg c2] at H
     have c2b0 : decide (x3_1 < (l0.length : Int)) = false := zS c2; clear c2; obtain rfl := Option.some.inj H
     go_wp2
     go_ret
     exact ⟨by first | rfl | (simp <;> rfl) | (simp [*] <;> rfl), kR1 HB⟩

/-! ### spec_l07Rank: function 98 -/
def spec_l07Rank.f (l0 : List (S42)) (l1 : List (S42)) : Option (Int) := if (l0.length : Int) > 0 then (if 0 < (l0.length : Int) then (some (((rd_T42 l0 0).f0).length : Int)) else (none)) else (if (l1.length : Int) > 0 then (if 0 < (l1.length : Int) then (some (((rd_T42 l1 0).f0).length : Int)) else (none)) else (some 0))
set_option maxHeartbeats 8000000 in
set_option maxRecDepth 100000 in
theorem spec_l07Rank.calls (A0 : Option Addr) (c0 : Nat) (l0 : List (S42)) (A1 : Option Addr) (c1 : Nat) (l1 : List (S42)) (r : Int) (w : World) (hr0 : Kd.C k42 w A0 l0.length l0) (hc0 : l0.length ≤ c0) (hr1 : Kd.C k42 w A1 l1.length l1) (hc1 : l1.length ≤ c1) (h : spec_l07Rank.f l0 l1 = some r) :
 Calls Try.prog 98 #[.slice A0 l0.length c0, .slice A1 l1.length c1] w fun e w' => e = .returned (.int .i64 r) ∧ Drawn0 w w' := by
 have HR0 := yD hr0
 have HC0 := yD hc0
 clear hr0 hc0
 have HR1 := yD hr1
 have HC1 := yD hc1
 clear hr1 hc1
 have H : (if (l0.length : Int) > 0 then (if 0 < (l0.length : Int) then (some (((rd_T42 l0 0).f0).length : Int)) else (none)) else (if (l1.length : Int) > 0 then (if 0 < (l1.length : Int) then (some (((rd_T42 l1 0).f0).length : Int)) else (none)) else (some 0))) = some r := h
 clear h
 by_cases c3 : (l0.length : Int) > 0
 ·
  rw [if_pos c3] at H
  have c3b0 : decide (0 < (l0.length : Int)) = true := zR c3
  have c3b1 : decide (0 < l0.length) = true := zR (by omega)
  clear c3
  by_cases c4 : 0 < (l0.length : Int)
  ·
   rw [if_pos c4] at H
   have c4b0 : decide (0 < (l0.length : Int)) = true := zR c4
   have c4b1 : decide (0 < l0.length) = true := zR (by omega)
   clear c4; obtain rfl := Option.some.inj H
   have p141 : 0 ≤ (0 : Int) := (by omega)
   have q141 : 0 < (l0.length : Int) := zP (by assumption)
   obtain ⟨ad141, A141_0, c141_0, A141_1, c141_1, e141, hx141_0, hx141_1, hl141_0, hi141_0, hl141_1, hi141_1⟩ := at_T42 HR0.out 0 p141 q141
   cases e141
   have qi141 : (0 < l0.length) = True := eq_true (by omega)
   (try rw [show ((0 : Int)).toNat = 0 from rfl] at hx141_0)
   (try rw [show 0 * 2 = 0 from rfl] at hx141_0)
   (try rw [Addr.add_zero'] at hx141_0)
   (try rw [show ((0 : Int)).toNat = 0 from rfl] at hx141_1)
   (try rw [show 0 * 2 = 0 from rfl] at hx141_1)
   (try rw [Addr.add_zero'] at hx141_1)
   have HR141_0 := yD hi141_0
   have HC141_0 := yD hl141_0
   clear hi141_0 hl141_0
   have HR141_1 := yD hi141_1
   have HC141_1 := yD hl141_1
   clear hi141_1 hl141_1; replace p141 := eq_true p141; replace q141 := eq_true q141; go_enter Try.func98, Try.ntmps98
   go_wp2
   go_ret
   exact ⟨by first | rfl | (simp; done) | (simp [*]; done), by repeat (first | exact Drawn0.refl _ | apply Drawn0.step)⟩
  · rw [if_neg c4] at H
    exact absurd H (by simp)
 ·
  rw [if_neg c3] at H
  have c3b0 : decide (0 < (l0.length : Int)) = false := zS c3
  have c3b1 : decide (0 < l0.length) = false := zS (by omega)
  clear c3
  by_cases c5 : (l1.length : Int) > 0
  ·
   rw [if_pos c5] at H
   have c5b0 : decide (0 < (l1.length : Int)) = true := zR c5
   have c5b1 : decide (0 < l1.length) = true := zR (by omega)
   clear c5
   by_cases c6 : 0 < (l1.length : Int)
   ·
    rw [if_pos c6] at H
    have c6b0 : decide (0 < (l1.length : Int)) = true := zR c6
    have c6b1 : decide (0 < l1.length) = true := zR (by omega)
    clear c6; obtain rfl := Option.some.inj H
    have p142 : 0 ≤ (0 : Int) := (by omega)
    have q142 : 0 < (l1.length : Int) := zP (by assumption)
    obtain ⟨ad142, A142_0, c142_0, A142_1, c142_1, e142, hx142_0, hx142_1, hl142_0, hi142_0, hl142_1, hi142_1⟩ := at_T42 HR1.out 0 p142 q142
    cases e142
    have qi142 : (0 < l1.length) = True := eq_true (by omega)
    (try rw [show ((0 : Int)).toNat = 0 from rfl] at hx142_0)
    (try rw [show 0 * 2 = 0 from rfl] at hx142_0)
    (try rw [Addr.add_zero'] at hx142_0)
    (try rw [show ((0 : Int)).toNat = 0 from rfl] at hx142_1)
    (try rw [show 0 * 2 = 0 from rfl] at hx142_1)
    (try rw [Addr.add_zero'] at hx142_1)
    have HR142_0 := yD hi142_0
    have HC142_0 := yD hl142_0
    clear hi142_0 hl142_0
    have HR142_1 := yD hi142_1
    have HC142_1 := yD hl142_1
    clear hi142_1 hl142_1; replace p142 := eq_true p142; replace q142 := eq_true q142; go_enter Try.func98, Try.ntmps98
    go_wp2
    go_ret
    exact ⟨by first | rfl | (simp; done) | (simp [*]; done), by repeat (first | exact Drawn0.refl _ | apply Drawn0.step)⟩
   · rw [if_neg c6] at H
     exact absurd H (by simp)
  ·
   rw [if_neg c5] at H
   have c5b0 : decide (0 < (l1.length : Int)) = false := zS c5
   have c5b1 : decide (0 < l1.length) = false := zS (by omega)
   clear c5; obtain rfl := Option.some.inj H; go_enter Try.func98, Try.ntmps98
   go_wp2
   go_ret
   exact ⟨by first | rfl | (simp; done) | (simp [*]; done), by repeat (first | exact Drawn0.refl _ | apply Drawn0.step)⟩

/-! ### spec_l07Holds: function 127 -/
def spec_l07Holds.f (a0 : Int) (a1 : Bool) (a2 : Bool) : Option (Bool) := if a0 = 1 then (if a1 = true then (some true) else (some a2)) else (if a0 = 2 then (if a1 = true then (some a2) else (some false)) else (if a1 = true then (some (!a2)) else (some false)))
set_option maxHeartbeats 8000000 in
set_option maxRecDepth 100000 in
theorem spec_l07Holds.calls (a0 : Int) (a1 : Bool) (a2 : Bool) (r : Bool) (w : World) (h : spec_l07Holds.f a0 a1 a2 = some r) :
 Calls Try.prog 127 #[.int .i64 a0, .bool a1, .bool a2] w fun e w' => e = .returned (.bool r) ∧ Drawn0 w w' := by
 have H : (if a0 = 1 then (if a1 = true then (some true) else (some a2)) else (if a0 = 2 then (if a1 = true then (some a2) else (some false)) else (if a1 = true then (some (!a2)) else (some false)))) = some r := h
 clear h
 by_cases c4 : a0 = 1
 ·
  rw [if_pos c4] at H
  have c4b0 : (a0 == 1) = true := beq_iff_eq.mpr c4
  have c4b1 : (a0 != 1) = false := bne_eq_false_iff_eq.mpr c4
  clear c4
  by_cases c5 : a1 = true
  · subst c5
    replace H : (some true) = some r := (by rw [if_pos rfl] at H; exact H); obtain rfl := Option.some.inj H; go_enter Try.func127, Try.ntmps127
    go_wp2
    go_ret
    exact ⟨by first | rfl | (simp; done) | (simp [*]; done), by repeat (first | exact Drawn0.refl _ | apply Drawn0.step)⟩
  · replace c5 := Bool.eq_false_iff.mpr c5
    subst c5
    replace H : (some a2) = some r := (by rw [if_neg (show ¬ (false = true) by decide)] at H; exact H); obtain rfl := Option.some.inj H; go_enter Try.func127, Try.ntmps127
    go_wp2
    go_ret
    exact ⟨by first | rfl | (simp; done) | (simp [*]; done), by repeat (first | exact Drawn0.refl _ | apply Drawn0.step)⟩
 ·
  rw [if_neg c4] at H
  have c4b0 : (a0 == 1) = false := beq_eq_false_iff_ne.mpr c4
  have c4b1 : (a0 != 1) = true := bne_iff_ne.mpr c4
  by_cases c6 : a0 = 2
  ·
   rw [if_pos c6] at H
   have c6b0 : (a0 == 2) = true := beq_iff_eq.mpr c6
   have c6b1 : (a0 != 2) = false := bne_eq_false_iff_eq.mpr c6
   clear c6
   by_cases c7 : a1 = true
   · subst c7
     replace H : (some a2) = some r := (by rw [if_pos rfl] at H; exact H); obtain rfl := Option.some.inj H; go_enter Try.func127, Try.ntmps127
     go_wp2
     go_ret
     exact ⟨by first | rfl | (simp; done) | (simp [*]; done), by repeat (first | exact Drawn0.refl _ | apply Drawn0.step)⟩
   · replace c7 := Bool.eq_false_iff.mpr c7
     subst c7
     replace H : (some false) = some r := (by rw [if_neg (show ¬ (false = true) by decide)] at H; exact H); obtain rfl := Option.some.inj H; go_enter Try.func127, Try.ntmps127
     go_wp2
     go_ret
     exact ⟨by first | rfl | (simp; done) | (simp [*]; done), by repeat (first | exact Drawn0.refl _ | apply Drawn0.step)⟩
  ·
   rw [if_neg c6] at H
   have c6b0 : (a0 == 2) = false := beq_eq_false_iff_ne.mpr c6
   have c6b1 : (a0 != 2) = true := bne_iff_ne.mpr c6
   by_cases c8 : a1 = true
   · subst c8
     replace H : (some (!a2)) = some r := (by rw [if_pos rfl] at H; exact H); obtain rfl := Option.some.inj H; go_enter Try.func127, Try.ntmps127
     go_wp2
     go_ret
     exact ⟨by first | rfl | (simp; done) | (simp [*]; done), by repeat (first | exact Drawn0.refl _ | apply Drawn0.step)⟩
   · replace c8 := Bool.eq_false_iff.mpr c8
     subst c8
     replace H : (some false) = some r := (by rw [if_neg (show ¬ (false = true) by decide)] at H; exact H); obtain rfl := Option.some.inj H; go_enter Try.func127, Try.ntmps127
     go_wp2
     go_ret
     exact ⟨by first | rfl | (simp; done) | (simp [*]; done), by repeat (first | exact Drawn0.refl _ | apply Drawn0.step)⟩

end Go.Proofs.Ytdiaebjbiddefaa.PFnExactSubtractBoxes
