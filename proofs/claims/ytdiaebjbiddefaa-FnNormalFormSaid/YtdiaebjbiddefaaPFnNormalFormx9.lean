/- Each Go function here comes to what the plain function of its name says, where that says something. Made by a program of this session, over the print. -/
import Derived.Test.YtdiaebjbiddefaaPFnNormalFormx0
import Derived.Test.YtdiaebjbiddefaaPFnNormalFormx8
namespace Go.Proofs.Ytdiaebjbiddefaa.PFnNormalForm
open Go.RowKit Go.Proofs.YtdiaebjbiddefaaW.PrintWords Go.Proofs.YtdiaebjbiddefaaW.PrintLast Go.Proofs.YtdiaebjbiddefaaW.PrintMore
attribute [local go_sem] max2_int min2_int max_two min_two max_three min_three max_four min_four   -- for this text's walks alone
set_option linter.unusedVariables false
set_option linter.unusedSimpArgs false

/-! ### spec_l07List: function 70 -/
def spec_l07List.l0 : Nat → List (S42) → Int → Option (Bool)
 | 0, _, _ => none
 | k + 1, x0, x3 => if x3 < (x0.length : Int) then (if 0 ≤ x3 then ((spec_l07Box.f k ((rd_T42 x0 x3).f0) ((rd_T42 x0 x3).f1)).bind fun t299 => (if t299 = true then (if 0 < (x0.length : Int) then (if (((rd_T42 x0 x3).f0).length : Int) = (((rd_T42 x0 0).f0).length : Int) then (spec_l07List.l0 k x0 (wrap64 (x3 + 1))) else (some false)) else (none)) else (some false))) else (none)) else (some (decide ((x0.length : Int) ≤ 32)))
def spec_l07List.f (k : Nat) (l0 : List (S42)) : Option (Bool) := spec_l07List.l0 k l0 0
theorem spec_l07List.mono_l : ∀ k, (∀ y0 y1, LeO (spec_l07List.l0 k y0 y1) (spec_l07List.l0 (k + 1) y0 y1))
 | 0 => fun _ _ r h => by simp [spec_l07List.l0] at h
 | k + 1 => by
  have ih0 := spec_l07List.mono_l k
  ·
   intro y0 y1
   unfold spec_l07List.l0
   repeat' first
   | (with_reducible exact ih0 _ _)
   | (with_reducible exact spec_l07Box.mono _ _ _)
   | (with_reducible exact LeO.refl _)
   | (with_reducible exact LeO.none _)
   | (with_reducible refine LeO.ite ?_ ?_)
   | (with_reducible refine LeO.bind ?_ (fun _ => ?_))
   | exact ih0 _ _
   | exact spec_l07Box.mono _ _ _
   | exact LeO.none _
   | refine LeO.ite ?_ ?_
   | refine LeO.bind ?_ (fun _ => ?_)
theorem spec_l07List.mono : ∀ a0 k, LeO (spec_l07List.f k a0) (spec_l07List.f (k + 1) a0) := by
 intro a0 k
 have ih0 := spec_l07List.mono_l k
 unfold spec_l07List.f
 repeat' first
  | (with_reducible exact ih0 _ _)
  | (with_reducible exact spec_l07Box.mono _ _ _)
  | (with_reducible exact LeO.refl _)
  | (with_reducible exact LeO.none _)
  | (with_reducible refine LeO.ite ?_ ?_)
  | (with_reducible refine LeO.bind ?_ (fun _ => ?_))
  | exact ih0 _ _
  | exact spec_l07Box.mono _ _ _
  | exact LeO.none _
  | refine LeO.ite ?_ ?_
  | refine LeO.bind ?_ (fun _ => ?_)
def spec_l07List.T4 : Bool × List (List Nat × List Nat) := (true, [([], []), ([], []), ([0, 1], [0, 1]), ([2], [2]), ([3], [3]), ([4], [4]), ([5, 4], [5]), ([6], [6]), ([6], [6]), ([7, 8, 6], [6, 7, 8]), ([9, 6], [6, 9]), ([10, 6], [6, 10]), ([11, 6], [6, 11]), ([6], [6]), ([13, 6], [6, 13]), ([14, 6], [6, 14]), ([15, 6], [6, 15]), ([16, 6], [6, 16]), ([12, 17, 6], [6, 12, 17]), ([6, 18], [6, 18])])
def spec_l07List.B4 : List Nat := [0, 0, 3, 7, 15, 31, 63, 127, 127, 511, 1023, 2047, 4095, 127, 8319, 24703, 57471, 123007, 262143, 524287]
theorem spec_l07List.tab4 : rtab .any (opsOf Try.f70 4) = spec_l07List.T4 := by kernel_rfl
theorem spec_l07List.bits4 : waitsOk spec_l07List.T4.2 spec_l07List.B4 = true := by kernel_rfl
set_option maxHeartbeats 8000000 in
set_option maxRecDepth 100000 in
theorem spec_l07List.calls (k : Nat) (A0 : Option Addr) (c0 : Nat) (l0 : List (S42)) (r : Bool) (w : World) (hr0 : Kd.C k42 w A0 l0.length l0) (hc0 : l0.length ≤ c0) (h : spec_l07List.f k l0 = some r) :
 Calls Try.prog 70 #[.slice A0 l0.length c0] w fun e w' => e = .returned (.bool r) ∧ Below w.heap.size w w' := by
 have hu42 := Try.underlying42
 have HR0 := yD hr0
 have HC0 := yD hc0
 clear hr0 hc0
 have HB := yD (Below.refl w.heap.size w)
 have H : (spec_l07List.l0 k l0 0) = some r := h
 clear h
 have H' := yD H
 clear H; go_enter Try.func70, Try.ntmps70
 go_wp2
 go_loopg [3] k (fun kq v3 w' => ∃ (x3_1 : Int), v3 = .int .i64 x3_1 ∧ Aside0 (spec_l07List.l0 kq l0 x3_1 = some r) ∧ Aside0 (kq ≤ k) ∧ Aside0 (Below w.heap.size w w'))
 case atStart => exact ⟨(0), (by first | rfl | (simp; done) | (simp [*]; done)), H', ⟨Nat.le_refl _⟩, ⟨kR0 HB⟩⟩
 case round =>
  clear H'
  obtain ⟨x3_1, rfl, HA, HK1, HB⟩ := hrel
  cases gk with
  | zero => exact absurd HA.out (by simp [spec_l07List.l0])
  | succ k1 =>
   have H := HA.out; clear HA
   simp only [spec_l07List.l0] at H
   by_cases c2 : x3_1 < (l0.length : Int)
   ·
    rw [if_pos c2] at H
    have c2b0 : decide (x3_1 < (l0.length : Int)) = true := zR c2; clear c2
    by_cases c3 : 0 ≤ x3_1
    ·
     rw [if_pos c3] at H
     have c3b0 : decide (0 ≤ x3_1) = true := zR c3; clear c3
     obtain ⟨t299, A40, H⟩ := zW_ H
     replace H : (if t299 = true then (if 0 < (l0.length : Int) then (if (((rd_T42 l0 x3_1).f0).length : Int) = (((rd_T42 l0 0).f0).length : Int) then (spec_l07List.l0 k1 l0 (wrap64 (x3_1 + 1))) else (some false)) else (none)) else (some false)) = some r := H
     have A4 := yD A40
     clear A40
     by_cases c5 : t299 = true
     ·
      subst c5
      have H1 : (if 0 < (l0.length : Int) then (if (((rd_T42 l0 x3_1).f0).length : Int) = (((rd_T42 l0 0).f0).length : Int) then (spec_l07List.l0 k1 l0 (wrap64 (x3_1 + 1))) else (some false)) else (none)) = some r := by rw [if_pos rfl] at H; exact H
      clear H; have H := H1; clear H1
      by_cases c6 : 0 < (l0.length : Int)
      ·
       rw [if_pos c6] at H
       have c6b0 : decide (0 < (l0.length : Int)) = true := zR c6
       have c6b1 : decide (0 < l0.length) = true := zR (by omega)
       clear c6
       by_cases c7 : (((rd_T42 l0 x3_1).f0).length : Int) = (((rd_T42 l0 0).f0).length : Int)
       ·
        rw [if_pos c7] at H
        have c7b0 : ((((rd_T42 l0 x3_1).f0).length : Int) == (((rd_T42 l0 0).f0).length : Int)) = true := beq_iff_eq.mpr c7
        have c7b1 : ((((rd_T42 l0 x3_1).f0).length : Int) != (((rd_T42 l0 0).f0).length : Int)) = false := bne_eq_false_iff_eq.mpr c7
        have c7b2 : (((rd_T42 l0 x3_1).f0).length == ((rd_T42 l0 0).f0).length) = true := by first | simpa using c7 | (simp at c7 ⊢; omega)
        clear c7
        have H' := yD H
        clear H
        try go_wp2
        have n0_ := yD (yP HB.out)
        clear HB; have HB := n0_; clear n0_
        have p298 : 0 ≤ (x3_1 : Int) := zP (by assumption)
        have q298 : x3_1 < (l0.length : Int) := zP (by assumption)
        obtain ⟨ad298, A298_0, c298_0, A298_1, c298_1, e298, hx298_0, hx298_1, hl298_0, hi298_0, hl298_1, hi298_1⟩ := at_T42 HR0.out x3_1 p298 q298
        have hw298_1 := hx298_1; have hw298_0 := hx298_0; cases e298
        replace hx298_0 := (HB.out.cell (zQ w _ hx298_0)).trans hx298_0
        replace hx298_1 := (HB.out.cell (zQ w _ hx298_1)).trans hx298_1
        have HR298_0 := yD hi298_0
        have HC298_0 := yD hl298_0
        clear hi298_0 hl298_0
        have HR298_1 := yD hi298_1
        have HC298_1 := yD hl298_1
        clear hi298_1 hl298_1; replace p298 := eq_true p298; replace q298 := eq_true q298
        have p300 : 0 ≤ (x3_1 : Int) := zP (by assumption)
        have q300 : x3_1 < (l0.length : Int) := zP (by assumption)
        obtain ⟨ad300, A300_0, c300_0, A300_1, c300_1, e300, hx300_0, hx300_1, hl300_0, hi300_0, hl300_1, hi300_1⟩ := at_T42 HR0.out x3_1 p300 q300
        have hw300_1 := hx300_1; have hw300_0 := hx300_0
        obtain rfl : ad298 = ad300 := (by injection e300)
        replace hx300_0 := (HB.out.cell (zQ w _ hx300_0)).trans hx300_0
        replace hx300_1 := (HB.out.cell (zQ w _ hx300_1)).trans hx300_1
        have HR300_0 := yD hi300_0
        have HC300_0 := yD hl300_0
        clear hi300_0 hl300_0
        have HR300_1 := yD hi300_1
        have HC300_1 := yD hl300_1
        clear hi300_1 hl300_1; replace p300 := eq_true p300; replace q300 := eq_true q300
        have p301 : 0 ≤ (0 : Int) := (by omega)
        have q301 : 0 < (l0.length : Int) := zP (by assumption)
        obtain ⟨ad301, A301_0, c301_0, A301_1, c301_1, e301, hx301_0, hx301_1, hl301_0, hi301_0, hl301_1, hi301_1⟩ := at_T42 HR0.out 0 p301 q301
        have hw301_1 := hx301_1
        (try rw [show ((0 : Int)).toNat = 0 from rfl] at hw301_1)
        (try rw [show 0 * 2 = 0 from rfl] at hw301_1)
        (try rw [Addr.add_zero'] at hw301_1)
        have hw301_0 := hx301_0
        (try rw [show ((0 : Int)).toNat = 0 from rfl] at hw301_0)
        (try rw [show 0 * 2 = 0 from rfl] at hw301_0)
        (try rw [Addr.add_zero'] at hw301_0)
        obtain rfl : ad298 = ad301 := (by injection e301)
        have qi301 : (0 < l0.length) = True := eq_true (by omega)
        (try rw [show ((0 : Int)).toNat = 0 from rfl] at hx301_0)
        (try rw [show 0 * 2 = 0 from rfl] at hx301_0)
        (try rw [Addr.add_zero'] at hx301_0)
        (try rw [show ((0 : Int)).toNat = 0 from rfl] at hx301_1)
        (try rw [show 0 * 2 = 0 from rfl] at hx301_1)
        (try rw [Addr.add_zero'] at hx301_1)
        replace hx301_0 := (HB.out.cell (zQ w _ hx301_0)).trans hx301_0
        replace hx301_1 := (HB.out.cell (zQ w _ hx301_1)).trans hx301_1
        have HR301_0 := yD hi301_0
        have HC301_0 := yD hl301_0
        clear hi301_0 hl301_0
        have HR301_1 := yD hi301_1
        have HC301_1 := yD hl301_1
        clear hi301_1 hl301_1; replace p301 := eq_true p301; replace q301 := eq_true q301
        refine start_ (n := 20) (S := fun w' => w'.cell? (ad298.add ((x3_1).toNat * 2)) = some (.slice A298_0 ((rd_T42 l0 x3_1).f0).length c298_0) ∧ w'.cell? ⟨(ad298.add ((x3_1).toNat * 2)).block, (ad298.add ((x3_1).toNat * 2)).off + 1, none⟩ = some (.slice A298_1 ((rd_T42 l0 x3_1).f1).length c298_1) ∧ w'.cell? (ad298.add ((x3_1).toNat * 2)) = some (.slice A300_0 ((rd_T42 l0 x3_1).f0).length c300_0) ∧ w'.cell? ⟨(ad298.add ((x3_1).toNat * 2)).block, (ad298.add ((x3_1).toNat * 2)).off + 1, none⟩ = some (.slice A300_1 ((rd_T42 l0 x3_1).f1).length c300_1) ∧ w'.cell? ad298 = some (.slice A301_0 ((rd_T42 l0 0).f0).length c301_0) ∧ w'.cell? ⟨ad298.block, ad298.off + 1, none⟩ = some (.slice A301_1 ((rd_T42 l0 0).f1).length c301_1)) (ds := []) (bz 20 0) (by kernel_rfl) rfl rfl ⟨((HB.out.cell (zQ w _ hw298_0)).trans hw298_0), ((HB.out.cell (zQ w _ hw298_1)).trans hw298_1), ((HB.out.cell (zQ w _ hw300_0)).trans hw300_0), ((HB.out.cell (zQ w _ hw300_1)).trans hw300_1), ((HB.out.cell (zQ w _ hw301_0)).trans hw301_0), ((HB.out.cell (zQ w _ hw301_1)).trans hw301_1)⟩ (fun hHeld => ?_); refine with_tabW spec_l07List.tab4 spec_l07List.bits4 (fun HT_ HW_ => ?_)
        generalize wr.drew = w8 at HB HR298_0 HR298_1 HR300_0 HR300_1 HR301_0 HR301_1 hx298_0 hx298_1 hx300_0 hx300_1 hx301_0 hx301_1 hHeld ⊢
        refine qA 0 10 (bz 20 1) HT_ ?_
        refine qA 1 11 (bz 20 3) HT_ ?_
        refine qA 2 12 (bz 20 7) HT_ ?_
        refine qC 3 13 (bz 20 15) HT_ HW_ hHeld ?_ (hy := by rintro w' ⟨s0, s1, s2, s3, s4, s5⟩; go_simp; with_reducible rfl)
        refine one_ (i := 4) (N := some 14) (bz 20 31) rfl rfl (one_of HT_.out (by kernel_rfl)) (by decide) (fun K hK => ?_)
        refine goes_ Try.func108 (by kernel_rfl) rfl #[.agg #[.slice A298_0 ((rd_T42 l0 x3_1).f0).length c298_0, .slice A298_1 ((rd_T42 l0 x3_1).f1).length c298_1]] (by rfl) rfl rfl (by (try simp only [zK, zL, zM]); first | done | rfl | (simp only [zN, zO]; rfl)) ?_
        with_reducible refine (spec_l07Box.calls k1 _ _ ((rd_T42 l0 x3_1).f0) _ _ ((rd_T42 l0 x3_1).f1) true _ ?side1 ?side2 ?side3 ?side4 A4.out).mono ?_
        (case side1 => exact kV (yY HR298_0.out HB.out))
        (case side2 => exact HC298_0.out)
        (case side3 => exact kV (yY HR298_1.out HB.out))
        (case side4 => exact HC298_1.out)
        rintro e w9 ⟨rfl, hb⟩
        refine ⟨_, rfl, ?_⟩
        have n0_ := yD (zC (kB HB) hb)
        clear HB; have HB := n0_; clear n0_; (try clear hb); (try clear hb2); (try clear hk); (try clear hi)
        refine hK.out _ _ ⟨((HB.out.cell (zQ w _ hw298_0)).trans hw298_0), ((HB.out.cell (zQ w _ hw298_1)).trans hw298_1), ((HB.out.cell (zQ w _ hw300_0)).trans hw300_0), ((HB.out.cell (zQ w _ hw300_1)).trans hw300_1), ((HB.out.cell (zQ w _ hw301_0)).trans hw301_0), ((HB.out.cell (zQ w _ hw301_1)).trans hw301_1)⟩ (fun hHeld => ?_)
        clear hK K
        refine norm_ (a' := ?_) ?_ ?_
        rotate_left
        · show Act.put _ (some 14) _ = _
          simp only [Act.put, zH, zI, zJ, i64_w, i32_w]
          rfl
        refine qA 5 15 (bz 20 63) HT_ ?_
        refine qA 6 16 (bz 20 127) HT_ ?_
        refine qA 7 17 (bz 20 255) HT_ ?_
        refine qA 8 18 (bz 20 511) HT_ ?_
        refine qA 9 19 (bz 20 1023) HT_ ?_
        refine qA 10 20 (bz 20 2047) HT_ ?_
        refine qA 13 23 (bz 20 10239) HT_ ?_
        refine qA 14 24 (bz 20 26623) HT_ ?_
        refine qA 15 25 (bz 20 59391) HT_ ?_
        refine qC 11 21 (bz 20 61439) HT_ HW_ hHeld ?_ (hy := by rintro w' ⟨s0, s1, s2, s3, s4, s5⟩; go_simp; with_reducible rfl)
        refine qA 12 22 (bz 20 65535) HT_ ?_
        refine qC 16 26 (bz 20 131071) HT_ HW_ hHeld ?_ (hy := by rintro w' ⟨s0, s1, s2, s3, s4, s5⟩; go_simp; with_reducible rfl)
        refine qA 17 27 (bz 20 262143) HT_ ?_
        refine qA 18 28 (bz 20 524287) HT_ ?_
        refine qA 19 29 (bz 20 1048575) HT_ ?_
        refine done_ (done_of HT_.out (by kernel_rfl)) ?_
        try go_wp2
        go_roundg k1
        case measure => have := HK1.out; omega
        case rel => exact ⟨(wrap64 (x3_1 + 1)), (by first | rfl | (simp; done) | (simp [*]; done)), H', ⟨by have := HK1.out; omega⟩, ⟨kR0 HB⟩⟩
       ·
        rw [if_neg c7] at H
        have c7b0 : ((((rd_T42 l0 x3_1).f0).length : Int) == (((rd_T42 l0 0).f0).length : Int)) = false := beq_eq_false_iff_ne.mpr c7
        have c7b1 : ((((rd_T42 l0 x3_1).f0).length : Int) != (((rd_T42 l0 0).f0).length : Int)) = true := bne_iff_ne.mpr c7
        have c7b2 : (((rd_T42 l0 x3_1).f0).length == ((rd_T42 l0 0).f0).length) = false := by first | simpa using c7 | (simp at c7 ⊢; omega)
        obtain rfl := Option.some.inj H
        try go_wp2
        have n0_ := yD (yP HB.out)
        clear HB; have HB := n0_; clear n0_
        have p298 : 0 ≤ (x3_1 : Int) := zP (by assumption)
        have q298 : x3_1 < (l0.length : Int) := zP (by assumption)
        obtain ⟨ad298, A298_0, c298_0, A298_1, c298_1, e298, hx298_0, hx298_1, hl298_0, hi298_0, hl298_1, hi298_1⟩ := at_T42 HR0.out x3_1 p298 q298
        have hw298_1 := hx298_1; have hw298_0 := hx298_0; cases e298
        replace hx298_0 := (HB.out.cell (zQ w _ hx298_0)).trans hx298_0
        replace hx298_1 := (HB.out.cell (zQ w _ hx298_1)).trans hx298_1
        have HR298_0 := yD hi298_0
        have HC298_0 := yD hl298_0
        clear hi298_0 hl298_0
        have HR298_1 := yD hi298_1
        have HC298_1 := yD hl298_1
        clear hi298_1 hl298_1; replace p298 := eq_true p298; replace q298 := eq_true q298
        have p300 : 0 ≤ (x3_1 : Int) := zP (by assumption)
        have q300 : x3_1 < (l0.length : Int) := zP (by assumption)
        obtain ⟨ad300, A300_0, c300_0, A300_1, c300_1, e300, hx300_0, hx300_1, hl300_0, hi300_0, hl300_1, hi300_1⟩ := at_T42 HR0.out x3_1 p300 q300
        have hw300_1 := hx300_1; have hw300_0 := hx300_0
        obtain rfl : ad298 = ad300 := (by injection e300)
        replace hx300_0 := (HB.out.cell (zQ w _ hx300_0)).trans hx300_0
        replace hx300_1 := (HB.out.cell (zQ w _ hx300_1)).trans hx300_1
        have HR300_0 := yD hi300_0
        have HC300_0 := yD hl300_0
        clear hi300_0 hl300_0
        have HR300_1 := yD hi300_1
        have HC300_1 := yD hl300_1
        clear hi300_1 hl300_1; replace p300 := eq_true p300; replace q300 := eq_true q300
        have p301 : 0 ≤ (0 : Int) := (by omega)
        have q301 : 0 < (l0.length : Int) := zP (by assumption)
        obtain ⟨ad301, A301_0, c301_0, A301_1, c301_1, e301, hx301_0, hx301_1, hl301_0, hi301_0, hl301_1, hi301_1⟩ := at_T42 HR0.out 0 p301 q301
        have hw301_1 := hx301_1
        (try rw [show ((0 : Int)).toNat = 0 from rfl] at hw301_1)
        (try rw [show 0 * 2 = 0 from rfl] at hw301_1)
        (try rw [Addr.add_zero'] at hw301_1)
        have hw301_0 := hx301_0
        (try rw [show ((0 : Int)).toNat = 0 from rfl] at hw301_0)
        (try rw [show 0 * 2 = 0 from rfl] at hw301_0)
        (try rw [Addr.add_zero'] at hw301_0)
        obtain rfl : ad298 = ad301 := (by injection e301)
        have qi301 : (0 < l0.length) = True := eq_true (by omega)
        (try rw [show ((0 : Int)).toNat = 0 from rfl] at hx301_0)
        (try rw [show 0 * 2 = 0 from rfl] at hx301_0)
        (try rw [Addr.add_zero'] at hx301_0)
        (try rw [show ((0 : Int)).toNat = 0 from rfl] at hx301_1)
        (try rw [show 0 * 2 = 0 from rfl] at hx301_1)
        (try rw [Addr.add_zero'] at hx301_1)
        replace hx301_0 := (HB.out.cell (zQ w _ hx301_0)).trans hx301_0
        replace hx301_1 := (HB.out.cell (zQ w _ hx301_1)).trans hx301_1
        have HR301_0 := yD hi301_0
        have HC301_0 := yD hl301_0
        clear hi301_0 hl301_0
        have HR301_1 := yD hi301_1
        have HC301_1 := yD hl301_1
        clear hi301_1 hl301_1; replace p301 := eq_true p301; replace q301 := eq_true q301
        refine start_ (n := 20) (S := fun w' => w'.cell? (ad298.add ((x3_1).toNat * 2)) = some (.slice A298_0 ((rd_T42 l0 x3_1).f0).length c298_0) ∧ w'.cell? ⟨(ad298.add ((x3_1).toNat * 2)).block, (ad298.add ((x3_1).toNat * 2)).off + 1, none⟩ = some (.slice A298_1 ((rd_T42 l0 x3_1).f1).length c298_1) ∧ w'.cell? (ad298.add ((x3_1).toNat * 2)) = some (.slice A300_0 ((rd_T42 l0 x3_1).f0).length c300_0) ∧ w'.cell? ⟨(ad298.add ((x3_1).toNat * 2)).block, (ad298.add ((x3_1).toNat * 2)).off + 1, none⟩ = some (.slice A300_1 ((rd_T42 l0 x3_1).f1).length c300_1) ∧ w'.cell? ad298 = some (.slice A301_0 ((rd_T42 l0 0).f0).length c301_0) ∧ w'.cell? ⟨ad298.block, ad298.off + 1, none⟩ = some (.slice A301_1 ((rd_T42 l0 0).f1).length c301_1)) (ds := []) (bz 20 0) (by kernel_rfl) rfl rfl ⟨((HB.out.cell (zQ w _ hw298_0)).trans hw298_0), ((HB.out.cell (zQ w _ hw298_1)).trans hw298_1), ((HB.out.cell (zQ w _ hw300_0)).trans hw300_0), ((HB.out.cell (zQ w _ hw300_1)).trans hw300_1), ((HB.out.cell (zQ w _ hw301_0)).trans hw301_0), ((HB.out.cell (zQ w _ hw301_1)).trans hw301_1)⟩ (fun hHeld => ?_); refine with_tabW spec_l07List.tab4 spec_l07List.bits4 (fun HT_ HW_ => ?_)
        generalize wr.drew = w10 at HB HR298_0 HR298_1 HR300_0 HR300_1 HR301_0 HR301_1 hx298_0 hx298_1 hx300_0 hx300_1 hx301_0 hx301_1 hHeld ⊢
        refine qA 0 10 (bz 20 1) HT_ ?_
        refine qA 1 11 (bz 20 3) HT_ ?_
        refine qA 2 12 (bz 20 7) HT_ ?_
        refine qC 3 13 (bz 20 15) HT_ HW_ hHeld ?_ (hy := by rintro w' ⟨s0, s1, s2, s3, s4, s5⟩; go_simp; with_reducible rfl)
        refine one_ (i := 4) (N := some 14) (bz 20 31) rfl rfl (one_of HT_.out (by kernel_rfl)) (by decide) (fun K hK => ?_)
        refine goes_ Try.func108 (by kernel_rfl) rfl #[.agg #[.slice A298_0 ((rd_T42 l0 x3_1).f0).length c298_0, .slice A298_1 ((rd_T42 l0 x3_1).f1).length c298_1]] (by rfl) rfl rfl (by (try simp only [zK, zL, zM]); first | done | rfl | (simp only [zN, zO]; rfl)) ?_
        with_reducible refine (spec_l07Box.calls k1 _ _ ((rd_T42 l0 x3_1).f0) _ _ ((rd_T42 l0 x3_1).f1) true _ ?side1 ?side2 ?side3 ?side4 A4.out).mono ?_
        (case side1 => exact kV (yY HR298_0.out HB.out))
        (case side2 => exact HC298_0.out)
        (case side3 => exact kV (yY HR298_1.out HB.out))
        (case side4 => exact HC298_1.out)
        rintro e w11 ⟨rfl, hb⟩
        refine ⟨_, rfl, ?_⟩
        have n0_ := yD (zC (kB HB) hb)
        clear HB; have HB := n0_; clear n0_; (try clear hb); (try clear hb2); (try clear hk); (try clear hi)
        refine hK.out _ _ ⟨((HB.out.cell (zQ w _ hw298_0)).trans hw298_0), ((HB.out.cell (zQ w _ hw298_1)).trans hw298_1), ((HB.out.cell (zQ w _ hw300_0)).trans hw300_0), ((HB.out.cell (zQ w _ hw300_1)).trans hw300_1), ((HB.out.cell (zQ w _ hw301_0)).trans hw301_0), ((HB.out.cell (zQ w _ hw301_1)).trans hw301_1)⟩ (fun hHeld => ?_)
        clear hK K
        refine norm_ (a' := ?_) ?_ ?_
        rotate_left
        · show Act.put _ (some 14) _ = _
          simp only [Act.put, zH, zI, zJ, i64_w, i32_w]
          rfl
        refine qA 5 15 (bz 20 63) HT_ ?_
        refine qA 6 16 (bz 20 127) HT_ ?_
        refine qA 7 17 (bz 20 255) HT_ ?_
        refine qA 8 18 (bz 20 511) HT_ ?_
        refine qA 9 19 (bz 20 1023) HT_ ?_
        refine qA 10 20 (bz 20 2047) HT_ ?_
        refine qA 13 23 (bz 20 10239) HT_ ?_
        refine qA 14 24 (bz 20 26623) HT_ ?_
        refine qA 15 25 (bz 20 59391) HT_ ?_
        refine qC 11 21 (bz 20 61439) HT_ HW_ hHeld ?_ (hy := by rintro w' ⟨s0, s1, s2, s3, s4, s5⟩; go_simp; with_reducible rfl)
        refine qA 12 22 (bz 20 65535) HT_ ?_
        refine qC 16 26 (bz 20 131071) HT_ HW_ hHeld ?_ (hy := by rintro w' ⟨s0, s1, s2, s3, s4, s5⟩; go_simp; with_reducible rfl)
        refine qA 17 27 (bz 20 262143) HT_ ?_
        refine qA 18 28 (bz 20 524287) HT_ ?_
        refine qA 19 29 (bz 20 1048575) HT_ ?_
        refine done_ (done_of HT_.out (by kernel_rfl)) ?_
        try go_wp2
        go_ret
        exact ⟨by first | rfl | (simp <;> rfl) | (simp [*] <;> rfl), kR0 HB⟩
      · rw [if_neg c6] at H
        exact absurd H (by simp)
     ·
      replace c5 := Bool.eq_false_iff.mpr c5
      subst c5
      have H1 : (some false) = some r := by rw [if_neg (show ¬ (false = true) by decide)] at H; exact H
      clear H; have H := H1; clear H1; obtain rfl := Option.some.inj H
      try go_wp2
      have n0_ := yD (yP HB.out)
      clear HB; have HB := n0_; clear n0_
      have p298 : 0 ≤ (x3_1 : Int) := zP (by assumption)
      have q298 : x3_1 < (l0.length : Int) := zP (by assumption)
      obtain ⟨ad298, A298_0, c298_0, A298_1, c298_1, e298, hx298_0, hx298_1, hl298_0, hi298_0, hl298_1, hi298_1⟩ := at_T42 HR0.out x3_1 p298 q298
      have hw298_1 := hx298_1; have hw298_0 := hx298_0; cases e298
      replace hx298_0 := (HB.out.cell (zQ w _ hx298_0)).trans hx298_0
      replace hx298_1 := (HB.out.cell (zQ w _ hx298_1)).trans hx298_1
      have HR298_0 := yD hi298_0
      have HC298_0 := yD hl298_0
      clear hi298_0 hl298_0
      have HR298_1 := yD hi298_1
      have HC298_1 := yD hl298_1
      clear hi298_1 hl298_1; replace p298 := eq_true p298; replace q298 := eq_true q298
      refine start_ (n := 20) (S := fun w' => w'.cell? (ad298.add ((x3_1).toNat * 2)) = some (.slice A298_0 ((rd_T42 l0 x3_1).f0).length c298_0) ∧ w'.cell? ⟨(ad298.add ((x3_1).toNat * 2)).block, (ad298.add ((x3_1).toNat * 2)).off + 1, none⟩ = some (.slice A298_1 ((rd_T42 l0 x3_1).f1).length c298_1)) (ds := []) (bz 20 0) (by kernel_rfl) rfl rfl ⟨((HB.out.cell (zQ w _ hw298_0)).trans hw298_0), ((HB.out.cell (zQ w _ hw298_1)).trans hw298_1)⟩ (fun hHeld => ?_); refine with_tabW spec_l07List.tab4 spec_l07List.bits4 (fun HT_ HW_ => ?_)
      generalize wr.drew = w12 at HB HR298_0 HR298_1 hx298_0 hx298_1 hHeld ⊢
      refine qA 0 10 (bz 20 1) HT_ ?_
      refine qA 1 11 (bz 20 3) HT_ ?_
      refine qA 2 12 (bz 20 7) HT_ ?_
      refine qC 3 13 (bz 20 15) HT_ HW_ hHeld ?_ (hy := by rintro w' ⟨s0, s1⟩; go_simp; with_reducible rfl)
      refine one_ (i := 4) (N := some 14) (bz 20 31) rfl rfl (one_of HT_.out (by kernel_rfl)) (by decide) (fun K hK => ?_)
      refine goes_ Try.func108 (by kernel_rfl) rfl #[.agg #[.slice A298_0 ((rd_T42 l0 x3_1).f0).length c298_0, .slice A298_1 ((rd_T42 l0 x3_1).f1).length c298_1]] (by rfl) rfl rfl (by (try simp only [zK, zL, zM]); first | done | rfl | (simp only [zN, zO]; rfl)) ?_
      with_reducible refine (spec_l07Box.calls k1 _ _ ((rd_T42 l0 x3_1).f0) _ _ ((rd_T42 l0 x3_1).f1) false _ ?side1 ?side2 ?side3 ?side4 A4.out).mono ?_
      (case side1 => exact kV (yY HR298_0.out HB.out))
      (case side2 => exact HC298_0.out)
      (case side3 => exact kV (yY HR298_1.out HB.out))
      (case side4 => exact HC298_1.out)
      rintro e w13 ⟨rfl, hb⟩
      refine ⟨_, rfl, ?_⟩
      have n0_ := yD (zC (kB HB) hb)
      clear HB; have HB := n0_; clear n0_; (try clear hb); (try clear hb2); (try clear hk); (try clear hi)
      refine hK.out _ _ ⟨((HB.out.cell (zQ w _ hw298_0)).trans hw298_0), ((HB.out.cell (zQ w _ hw298_1)).trans hw298_1)⟩ (fun hHeld => ?_)
      clear hK K
      refine norm_ (a' := ?_) ?_ ?_
      rotate_left
      · show Act.put _ (some 14) _ = _
        simp only [Act.put, zH, zI, zJ, i64_w, i32_w]
        rfl
      refine qA 5 15 (bz 20 63) HT_ ?_
      refine qA 6 16 (bz 20 127) HT_ ?_
      refine qB 7 17 (bz 20 255) HT_ ?_
      refine qB 8 18 (bz 20 511) HT_ ?_
      refine qB 9 19 (bz 20 1023) HT_ ?_
      refine qB 10 20 (bz 20 2047) HT_ ?_
      refine qB 11 21 (bz 20 4095) HT_ ?_
      refine qB 12 22 (bz 20 8191) HT_ ?_
      refine qB 13 23 (bz 20 16383) HT_ ?_
      refine qB 14 24 (bz 20 32767) HT_ ?_
      refine qB 15 25 (bz 20 65535) HT_ ?_
      refine qB 16 26 (bz 20 131071) HT_ ?_
      refine qB 17 27 (bz 20 262143) HT_ ?_
      refine qB 18 28 (bz 20 524287) HT_ ?_
      refine qA 19 29 (bz 20 1048575) HT_ ?_
      refine done_ (done_of HT_.out (by kernel_rfl)) ?_
      try go_wp2
      go_ret
      exact ⟨by first | rfl | (simp <;> rfl) | (simp [*] <;> rfl), kR0 HB⟩
    · rw [if_neg c3] at H
      exact absurd H (by simp)
   · rw [if_neg c2] at H
     have c2b0 : decide (x3_1 < (l0.length : Int)) = false := zS c2; clear c2; obtain rfl := Option.some.inj H
     go_wp2
     go_ret
     exact ⟨by first | rfl | (simp <;> rfl) | (simp [*] <;> rfl), kR0 HB⟩

/-! ### spec_l07Rank: function 98 -/
def spec_l07Rank.f (l0 : List (S42)) (l1 : List (S42)) : Option (Int) := if (l0.length : Int) > 0 then (if 0 < (l0.length : Int) then (some (((rd_T42 l0 0).f0).length : Int)) else (none)) else (if (l1.length : Int) > 0 then (if 0 < (l1.length : Int) then (some (((rd_T42 l1 0).f0).length : Int)) else (none)) else (some 0))
set_option maxHeartbeats 8000000 in
set_option maxRecDepth 100000 in
theorem spec_l07Rank.calls (A0 : Option Addr) (c0 : Nat) (l0 : List (S42)) (A1 : Option Addr) (c1 : Nat) (l1 : List (S42)) (r : Int) (w : World) (hr0 : Kd.C k42 w A0 l0.length l0) (hc0 : l0.length ≤ c0) (hr1 : Kd.C k42 w A1 l1.length l1) (hc1 : l1.length ≤ c1) (h : spec_l07Rank.f l0 l1 = some r) :
 Calls Try.prog 98 #[.slice A0 l0.length c0, .slice A1 l1.length c1] w fun e w' => e = .returned (.int .i64 r) ∧ Drawn0 w w' := by
 have HR0 := yD hr0
 have HC0 := yD hc0
 clear hr0 hc0
 have HR1 := yD hr1
 have HC1 := yD hc1
 clear hr1 hc1
 have H : (if (l0.length : Int) > 0 then (if 0 < (l0.length : Int) then (some (((rd_T42 l0 0).f0).length : Int)) else (none)) else (if (l1.length : Int) > 0 then (if 0 < (l1.length : Int) then (some (((rd_T42 l1 0).f0).length : Int)) else (none)) else (some 0))) = some r := h
 clear h
 by_cases c3 : (l0.length : Int) > 0
 ·
  rw [if_pos c3] at H
  have c3b0 : decide (0 < (l0.length : Int)) = true := zR c3
  have c3b1 : decide (0 < l0.length) = true := zR (by omega)
  clear c3
  by_cases c4 : 0 < (l0.length : Int)
  ·
   rw [if_pos c4] at H
   have c4b0 : decide (0 < (l0.length : Int)) = true := zR c4
   have c4b1 : decide (0 < l0.length) = true := zR (by omega)
   clear c4; obtain rfl := Option.some.inj H
   have p302 : 0 ≤ (0 : Int) := (by omega)
   have q302 : 0 < (l0.length : Int) := zP (by assumption)
   obtain ⟨ad302, A302_0, c302_0, A302_1, c302_1, e302, hx302_0, hx302_1, hl302_0, hi302_0, hl302_1, hi302_1⟩ := at_T42 HR0.out 0 p302 q302
   cases e302
   have qi302 : (0 < l0.length) = True := eq_true (by omega)
   (try rw [show ((0 : Int)).toNat = 0 from rfl] at hx302_0)
   (try rw [show 0 * 2 = 0 from rfl] at hx302_0)
   (try rw [Addr.add_zero'] at hx302_0)
   (try rw [show ((0 : Int)).toNat = 0 from rfl] at hx302_1)
   (try rw [show 0 * 2 = 0 from rfl] at hx302_1)
   (try rw [Addr.add_zero'] at hx302_1)
   have HR302_0 := yD hi302_0
   have HC302_0 := yD hl302_0
   clear hi302_0 hl302_0
   have HR302_1 := yD hi302_1
   have HC302_1 := yD hl302_1
   clear hi302_1 hl302_1; replace p302 := eq_true p302; replace q302 := eq_true q302; go_enter Try.func98, Try.ntmps98
   go_wp2
   go_ret
   exact ⟨by first | rfl | (simp; done) | (simp [*]; done), by repeat (first | exact Drawn0.refl _ | apply Drawn0.step)⟩
  · rw [if_neg c4] at H
    exact absurd H (by simp)
 ·
  rw [if_neg c3] at H
  have c3b0 : decide (0 < (l0.length : Int)) = false := zS c3
  have c3b1 : decide (0 < l0.length) = false := zS (by omega)
  clear c3
  by_cases c5 : (l1.length : Int) > 0
  ·
   rw [if_pos c5] at H
   have c5b0 : decide (0 < (l1.length : Int)) = true := zR c5
   have c5b1 : decide (0 < l1.length) = true := zR (by omega)
   clear c5
   by_cases c6 : 0 < (l1.length : Int)
   ·
    rw [if_pos c6] at H
    have c6b0 : decide (0 < (l1.length : Int)) = true := zR c6
    have c6b1 : decide (0 < l1.length) = true := zR (by omega)
    clear c6; obtain rfl := Option.some.inj H
    have p303 : 0 ≤ (0 : Int) := (by omega)
    have q303 : 0 < (l1.length : Int) := zP (by assumption)
    obtain ⟨ad303, A303_0, c303_0, A303_1, c303_1, e303, hx303_0, hx303_1, hl303_0, hi303_0, hl303_1, hi303_1⟩ := at_T42 HR1.out 0 p303 q303
    cases e303
    have qi303 : (0 < l1.length) = True := eq_true (by omega)
    (try rw [show ((0 : Int)).toNat = 0 from rfl] at hx303_0)
    (try rw [show 0 * 2 = 0 from rfl] at hx303_0)
    (try rw [Addr.add_zero'] at hx303_0)
    (try rw [show ((0 : Int)).toNat = 0 from rfl] at hx303_1)
    (try rw [show 0 * 2 = 0 from rfl] at hx303_1)
    (try rw [Addr.add_zero'] at hx303_1)
    have HR303_0 := yD hi303_0
    have HC303_0 := yD hl303_0
    clear hi303_0 hl303_0
    have HR303_1 := yD hi303_1
    have HC303_1 := yD hl303_1
    clear hi303_1 hl303_1; replace p303 := eq_true p303; replace q303 := eq_true q303; go_enter Try.func98, Try.ntmps98
    go_wp2
    go_ret
    exact ⟨by first | rfl | (simp; done) | (simp [*]; done), by repeat (first | exact Drawn0.refl _ | apply Drawn0.step)⟩
   · rw [if_neg c6] at H
     exact absurd H (by simp)
  ·
   rw [if_neg c5] at H
   have c5b0 : decide (0 < (l1.length : Int)) = false := zS c5
   have c5b1 : decide (0 < l1.length) = false := zS (by omega)
   clear c5; obtain rfl := Option.some.inj H; go_enter Try.func98, Try.ntmps98
   go_wp2
   go_ret
   exact ⟨by first | rfl | (simp; done) | (simp [*]; done), by repeat (first | exact Drawn0.refl _ | apply Drawn0.step)⟩

/-! ### spec_l07Holds: function 127 -/
def spec_l07Holds.f (a0 : Int) (a1 : Bool) (a2 : Bool) : Option (Bool) := if a0 = 1 then (if a1 = true then (some true) else (some a2)) else (if a0 = 2 then (if a1 = true then (some a2) else (some false)) else (if a1 = true then (some (!a2)) else (some false)))
set_option maxHeartbeats 8000000 in
set_option maxRecDepth 100000 in
theorem spec_l07Holds.calls (a0 : Int) (a1 : Bool) (a2 : Bool) (r : Bool) (w : World) (h : spec_l07Holds.f a0 a1 a2 = some r) :
 Calls Try.prog 127 #[.int .i64 a0, .bool a1, .bool a2] w fun e w' => e = .returned (.bool r) ∧ Drawn0 w w' := by
 have H : (if a0 = 1 then (if a1 = true then (some true) else (some a2)) else (if a0 = 2 then (if a1 = true then (some a2) else (some false)) else (if a1 = true then (some (!a2)) else (some false)))) = some r := h
 clear h
 by_cases c4 : a0 = 1
 ·
  rw [if_pos c4] at H
  have c4b0 : (a0 == 1) = true := beq_iff_eq.mpr c4
  have c4b1 : (a0 != 1) = false := bne_eq_false_iff_eq.mpr c4
  clear c4
  by_cases c5 : a1 = true
  · subst c5
    have H1 : (some true) = some r := by rw [if_pos rfl] at H; exact H
    clear H; have H := H1; clear H1; obtain rfl := Option.some.inj H; go_enter Try.func127, Try.ntmps127
    go_wp2
    go_ret
    exact ⟨by first | rfl | (simp; done) | (simp [*]; done), by repeat (first | exact Drawn0.refl _ | apply Drawn0.step)⟩
  ·
   replace c5 := Bool.eq_false_iff.mpr c5
   subst c5
   have H1 : (some a2) = some r := by rw [if_neg (show ¬ (false = true) by decide)] at H; exact H
   clear H; have H := H1; clear H1; obtain rfl := Option.some.inj H; go_enter Try.func127, Try.ntmps127
   go_wp2
   go_ret
   exact ⟨by first | rfl | (simp; done) | (simp [*]; done), by repeat (first | exact Drawn0.refl _ | apply Drawn0.step)⟩
 ·
  rw [if_neg c4] at H
  have c4b0 : (a0 == 1) = false := beq_eq_false_iff_ne.mpr c4
  have c4b1 : (a0 != 1) = true := bne_iff_ne.mpr c4
  by_cases c6 : a0 = 2
  ·
   rw [if_pos c6] at H
   have c6b0 : (a0 == 2) = true := beq_iff_eq.mpr c6
   have c6b1 : (a0 != 2) = false := bne_eq_false_iff_eq.mpr c6
   clear c6
   by_cases c7 : a1 = true
   · subst c7
     have H1 : (some a2) = some r := by rw [if_pos rfl] at H; exact H
     clear H; have H := H1; clear H1; obtain rfl := Option.some.inj H; go_enter Try.func127, Try.ntmps127
     go_wp2
     go_ret
     exact ⟨by first | rfl | (simp; done) | (simp [*]; done), by repeat (first | exact Drawn0.refl _ | apply Drawn0.step)⟩
   · replace c7 := Bool.eq_false_iff.mpr c7
     subst c7
     have H1 : (some false) = some r := by rw [if_neg (show ¬ (false = true) by decide)] at H; exact H
     clear H; have H := H1; clear H1; obtain rfl := Option.some.inj H; go_enter Try.func127, Try.ntmps127
     go_wp2
     go_ret
     exact ⟨by first | rfl | (simp; done) | (simp [*]; done), by repeat (first | exact Drawn0.refl _ | apply Drawn0.step)⟩
  ·
   rw [if_neg c6] at H
   have c6b0 : (a0 == 2) = false := beq_eq_false_iff_ne.mpr c6
   have c6b1 : (a0 != 2) = true := bne_iff_ne.mpr c6
   by_cases c8 : a1 = true
   · subst c8
     have H1 : (some (!a2)) = some r := by rw [if_pos rfl] at H; exact H
     clear H; have H := H1; clear H1; obtain rfl := Option.some.inj H; go_enter Try.func127, Try.ntmps127
     go_wp2
     go_ret
     exact ⟨by first | rfl | (simp; done) | (simp [*]; done), by repeat (first | exact Drawn0.refl _ | apply Drawn0.step)⟩
   ·
    replace c8 := Bool.eq_false_iff.mpr c8
    subst c8
    have H1 : (some false) = some r := by rw [if_neg (show ¬ (false = true) by decide)] at H; exact H
    clear H; have H := H1; clear H1; obtain rfl := Option.some.inj H; go_enter Try.func127, Try.ntmps127
    go_wp2
    go_ret
    exact ⟨by first | rfl | (simp; done) | (simp [*]; done), by repeat (first | exact Drawn0.refl _ | apply Drawn0.step)⟩

end Go.Proofs.Ytdiaebjbiddefaa.PFnNormalForm
