/- Each Go function here comes to what the plain function of its name says, where that says something. Made by a program of this session, over the print. -/
import Derived.Test.YtgpkkplabnliiaaPFnRangesx0
import Derived.Test.YtgpkkplabnliiaaPFnRangesx3
import Derived.Test.YtgpkkplabnliiaaPFnRangesx4
import Derived.Test.YtgpkkplabnliiaaPFnRangesx6
namespace Go.Proofs.Ytgpkkplabnliiaa.PFnRanges
open Go.RowKit Go.Proofs.YtgpkkplabnliiaaW.PrintWords Go.Proofs.YtgpkkplabnliiaaW.PrintLast Go.Proofs.YtgpkkplabnliiaaW.PrintMore
attribute [local go_sem] max2_int min2_int max_two min_two max_three min_three max_four min_four   -- for this text's walks alone
set_option linter.unusedVariables false
set_option linter.unusedSimpArgs false

/-! ### spec_RangeOf: function 8 -/
mutual
def spec_RangeOf.l0 : Nat → List Int → List Int → Int → Option (Int × List Int × List Int × List Int × List Int × (List (S97)) × Bool)
 | 0, _, _, _ => none
 | k + 1, x0, x1, x6 => if x6 < (x0.length : Int) then (spec_RangeOf.j1 k x0 x1 x6 (decide (x6 < (x1.length : Int)))) else (spec_RangeOf.j1 k x0 x1 x6 false)
def spec_RangeOf.j1 : Nat → List Int → List Int → Int → Bool → Option (Int × List Int × List Int × List Int × List Int × (List (S97)) × Bool)
 | 0, _, _, _, _ => none
 | k + 1, x0, x1, x6, x17 => if x17 = true then (if 0 ≤ x6 then (if x6 < (x0.length : Int) then (if x6 < (x1.length : Int) then ((spec_l00In.f (rd x0 x6) 0 (wrap64 ((rd x1 x6) - 1))).bind fun t299 => (if t299 = true then (if (rd x1 x6) > 40 then (some (0, ([] : List Int), ([] : List Int), ([] : List Int), ([] : List Int), ([] : List (S97)), false)) else (spec_RangeOf.l0 k x0 x1 (wrap64 (x6 + 1)))) else (some (0, ([] : List Int), ([] : List Int), ([] : List Int), ([] : List Int), ([] : List (S97)), false)))) else (none)) else (none)) else (none)) else ((spec_l06Range.f k x0 x1).bind fun bt301 => (if (x0.length : Int) = (x1.length : Int) then ((spec_l06Formed.f k bt301.1 bt301.2.1 bt301.2.2.1 bt301.2.2.2.1 bt301.2.2.2.2.1 bt301.2.2.2.2.2).bind fun t318 => (if t318 = true then (some (bt301.1, bt301.2.1, bt301.2.2.1, bt301.2.2.2.1, bt301.2.2.2.2.1, bt301.2.2.2.2.2, true)) else (some (0, ([] : List Int), ([] : List Int), ([] : List Int), ([] : List Int), ([] : List (S97)), false)))) else (some (0, ([] : List Int), ([] : List Int), ([] : List Int), ([] : List Int), ([] : List (S97)), false))))
end
def spec_RangeOf.f (k : Nat) (l0 : List Int) (l1 : List Int) : Option (Int × List Int × List Int × List Int × List Int × (List (S97)) × Bool) := spec_RangeOf.l0 k l0 l1 0
theorem spec_RangeOf.mono_l : ∀ k, (∀ y0 y1 y2, LeO (spec_RangeOf.l0 k y0 y1 y2) (spec_RangeOf.l0 (k + 1) y0 y1 y2)) ∧ (∀ y0 y1 y2 y3, LeO (spec_RangeOf.j1 k y0 y1 y2 y3) (spec_RangeOf.j1 (k + 1) y0 y1 y2 y3))
 | 0 => ⟨fun _ _ _ r h => by simp [spec_RangeOf.l0] at h, fun _ _ _ _ r h => by simp [spec_RangeOf.j1] at h⟩
 | k + 1 => by
  obtain ⟨ih0, ih1⟩ := spec_RangeOf.mono_l k
  refine ⟨?_, ?_⟩
  ·
   intro y0 y1 y2
   unfold spec_RangeOf.l0
   repeat' first
   | (with_reducible exact ih0 _ _ _)
   | (with_reducible exact ih1 _ _ _ _)
   | (with_reducible exact spec_l06Formed.mono _ _ _ _ _ _ _)
   | (with_reducible exact spec_l06Range.mono _ _ _)
   | (with_reducible exact LeO.refl _)
   | (with_reducible exact LeO.none _)
   | (with_reducible refine LeO.ite ?_ ?_)
   | (with_reducible refine LeO.bind ?_ (fun _ => ?_))
   | exact ih0 _ _ _
   | exact ih1 _ _ _ _
   | exact spec_l06Formed.mono _ _ _ _ _ _ _
   | exact spec_l06Range.mono _ _ _
   | exact LeO.none _
   | refine LeO.ite ?_ ?_
   | refine LeO.bind ?_ (fun _ => ?_)
  ·
   intro y0 y1 y2 y3
   unfold spec_RangeOf.j1
   repeat' first
   | (with_reducible exact ih0 _ _ _)
   | (with_reducible exact ih1 _ _ _ _)
   | (with_reducible exact spec_l06Formed.mono _ _ _ _ _ _ _)
   | (with_reducible exact spec_l06Range.mono _ _ _)
   | (with_reducible exact LeO.refl _)
   | (with_reducible exact LeO.none _)
   | (with_reducible refine LeO.ite ?_ ?_)
   | (with_reducible refine LeO.bind ?_ (fun _ => ?_))
   | exact ih0 _ _ _
   | exact ih1 _ _ _ _
   | exact spec_l06Formed.mono _ _ _ _ _ _ _
   | exact spec_l06Range.mono _ _ _
   | exact LeO.none _
   | refine LeO.ite ?_ ?_
   | refine LeO.bind ?_ (fun _ => ?_)
theorem spec_RangeOf.mono : ∀ a0 a1 k, LeO (spec_RangeOf.f k a0 a1) (spec_RangeOf.f (k + 1) a0 a1) := by
 intro a0 a1 k
 obtain ⟨ih0, ih1⟩ := spec_RangeOf.mono_l k
 unfold spec_RangeOf.f
 repeat' first
  | (with_reducible exact ih0 _ _ _)
  | (with_reducible exact ih1 _ _ _ _)
  | (with_reducible exact spec_l06Formed.mono _ _ _ _ _ _ _)
  | (with_reducible exact spec_l06Range.mono _ _ _)
  | (with_reducible exact LeO.refl _)
  | (with_reducible exact LeO.none _)
  | (with_reducible refine LeO.ite ?_ ?_)
  | (with_reducible refine LeO.bind ?_ (fun _ => ?_))
  | exact ih0 _ _ _
  | exact ih1 _ _ _ _
  | exact spec_l06Formed.mono _ _ _ _ _ _ _
  | exact spec_l06Range.mono _ _ _
  | exact LeO.none _
  | refine LeO.ite ?_ ?_
  | refine LeO.bind ?_ (fun _ => ?_)
def spec_RangeOf.T4 : Bool × List (List Nat × List Nat) := (true, [([], []), ([], []), ([0, 1], [0, 1]), ([2], [2]), ([], []), ([], []), ([4, 5], [4, 5]), ([6], [6]), ([7], [7]), ([3, 8], [3, 8]), ([9], [9]), ([10, 9], [10]), ([11], [11]), ([11], [11]), ([12, 13, 11], [11, 12, 13]), ([14, 11], [11, 14]), ([15, 11], [11, 15]), ([11, 16], [11, 16])])
def spec_RangeOf.B4 : List Nat := [0, 0, 3, 7, 0, 0, 48, 112, 240, 511, 1023, 2047, 4095, 4095, 16383, 32767, 65535, 131071]
theorem spec_RangeOf.tab4 : rtab .any (opsOf Try.f8 4) = spec_RangeOf.T4 := by kernel_rfl
theorem spec_RangeOf.bits4 : waitsOk spec_RangeOf.T4.2 spec_RangeOf.B4 = true := by kernel_rfl
set_option maxHeartbeats 8000000 in
set_option maxRecDepth 100000 in
theorem spec_RangeOf.calls (k : Nat) (A0 : Option Addr) (c0 : Nat) (l0 : List Int) (A1 : Option Addr) (c1 : Nat) (l1 : List Int) (r1 : Int) (r2 : List Int) (r3 : List Int) (r4 : List Int) (r5 : List Int) (r6 : List (S97)) (r7 : Bool) (w : World) (hr0 : Kd.C (Kd.int .i64) w A0 l0.length l0) (hc0 : l0.length ≤ c0) (hr1 : Kd.C (Kd.int .i64) w A1 l1.length l1) (hc1 : l1.length ≤ c1) (h : spec_RangeOf.f k l0 l1 = some (r1, r2, r3, r4, r5, r6, r7)) :
 Calls Try.prog 8 #[.slice A0 l0.length c0, .slice A1 l1.length c1] w fun e w' => ∃ v1_ v2_ v3_ v4_ v5_ : Value, e = .returned (.tuple #[.agg #[.int .i64 r1, v1_, v2_, v3_, v4_, v5_], .bool r7]) ∧ Kd.R (Kd.int .i64) 2 w' w.heap.size (fun k_ => some k_ ≠ (v2_ : Value).ownBlock ∧ some k_ ≠ (v3_ : Value).ownBlock ∧ some k_ ≠ (v4_ : Value).ownBlock) v1_ r2 ∧ Kd.R (Kd.int .i64) 2 w' w.heap.size (fun k_ => some k_ ≠ (v1_ : Value).ownBlock ∧ some k_ ≠ (v3_ : Value).ownBlock ∧ some k_ ≠ (v4_ : Value).ownBlock) v2_ r3 ∧ Kd.R (Kd.int .i64) 2 w' w.heap.size (fun k_ => some k_ ≠ (v1_ : Value).ownBlock ∧ some k_ ≠ (v2_ : Value).ownBlock ∧ some k_ ≠ (v4_ : Value).ownBlock) v3_ r4 ∧ Kd.R (Kd.int .i64) 2 w' w.heap.size (fun k_ => some k_ ≠ (v1_ : Value).ownBlock ∧ some k_ ≠ (v2_ : Value).ownBlock ∧ some k_ ≠ (v3_ : Value).ownBlock) v4_ r5 ∧ Kd.S k97 97 w' w.heap.size (fun k_ => some k_ ≠ (v1_ : Value).ownBlock ∧ some k_ ≠ (v2_ : Value).ownBlock ∧ some k_ ≠ (v3_ : Value).ownBlock ∧ some k_ ≠ (v4_ : Value).ownBlock) v5_ r6 ∧ Below w.heap.size w w' := by
 have hu28 := Try.underlying28
 have HR0 := yD hr0
 have HC0 := yD hc0
 clear hr0 hc0
 have HR1 := yD hr1
 have HC1 := yD hc1
 clear hr1 hc1
 have HB := yD (Below.refl w.heap.size w)
 have H : (spec_RangeOf.l0 k l0 l1 0) = some (r1, r2, r3, r4, r5, r6, r7) := h
 clear h
 have H' := yD H
 clear H; go_enter Try.func8, Try.ntmps8
 go_wp2_with (first | ((with_reducible refine gate_dst (N := 4) rfl ?_); (try (refine gate_guard (by rfl) ?_; dsimp only)); refine box_event ?hg (N := 4) ?hd (cs := #[.int .i64 0, .slice none 0 0, .slice none 0 0, .slice none 0 0, .slice none 0 0, .slice none 0 0]) (t := 28) ?hr ?_; (case hd => rfl); (case hg => rfl); (case hr => first | (go_simp; done) | (go_simp; rfl)); intro gb296 hg w3 hbox hb; have n0_ := yD (zC (kB HB) hb); have n1_ := yD (hbox); have n2_ := yD ((by rw [hg]; exact (below_size (kB HB)) : w.heap.size ≤ gb296)); have n3_ := yD ((by rw [hg]; exact (below_size (kB HB)) : w.heap.size ≤ gb296)); clear HB; have HB := n0_; have BK296 := n1_; have GW296 := n2_; have GE296 := n3_; clear n0_ n1_ n2_ n3_; clear hb hbox hg))
 go_loopg [6] k (fun kq v6 w' => ∃ (x6_1 : Int) (x297000_1 : Int), v6 = .int .i64 x6_1 ∧ Aside0 (spec_RangeOf.l0 kq l0 l1 x6_1 = some (r1, r2, r3, r4, r5, r6, r7)) ∧ Aside0 (kq ≤ k) ∧ Aside0 (w'.heap[gb296]? = some (.cells #[.int .i64 x297000_1, (.slice none 0 0), (.slice none 0 0), (.slice none 0 0), (.slice none 0 0), (.slice none 0 0)] 28 (0, 0))) ∧ Aside0 (Below w.heap.size w w'))
 case atStart => exact ⟨(0), (0), (by first | rfl | (simp; done) | (simp [*]; done)), H', ⟨Nat.le_refl _⟩, ⟨by (with_reducible repeat (first | refine yM ?_ _ | refine yO ?_ | refine yN ?_ _)); exact BK296.out⟩, ⟨kR1 HB⟩⟩
 case round =>
  clear H'
  try clear c1; try clear p2
  obtain ⟨x6_1, x297000_1, rfl, HA, HK1, BK296, HB⟩ := hrel
  cases gk with
  | zero => exact absurd HA.out (by simp [spec_RangeOf.l0])
  | succ k1 =>
   have H := HA.out; clear HA
   simp only [spec_RangeOf.l0] at H
   have HC4 := yD H
   clear H
   go_upto_region 2 with (fail)
   go_cut [17] (fun v17 wc => ∃ (kq : Nat) (x17_3 : Bool), v17 = .bool x17_3 ∧ Aside0 (spec_RangeOf.j1 kq l0 l1 x6_1 x17_3 = some (r1, r2, r3, r4, r5, r6, r7)) ∧ Aside0 (kq ≤ k1) ∧ Aside0 (wc.heap[gb296]? = some (.cells #[.int .i64 x297000_1, (.slice none 0 0), (.slice none 0 0), (.slice none 0 0), (.slice none 0 0), (.slice none 0 0)] 28 (0, 0))) ∧ Aside0 (Below w.heap.size w wc))
   case first =>
    have H := HC4.out; clear HC4
    by_cases c5 : x6_1 < (l0.length : Int)
    · rw [if_pos c5] at H
      have c5b0 : decide (x6_1 < (l0.length : Int)) = true := zR c5; clear c5
      (first | rw [c5b0] | (simp only [i64_w, i32_w]; rw [c5b0]) | (simp only [bne] at c5b0; rw [c5b0]) | skip)
      have H' := yD H
      clear H
      go_wp2
      go_meet
      case rel => exact ⟨_, (decide (x6_1 < (l1.length : Int))), (by first | rfl | (simp; done) | (simp [*]; done)), H', ⟨by have := HK1.out; first | omega | exact Nat.le_refl _⟩, ⟨by (with_reducible repeat (first | refine yM ?_ _ | refine yO ?_ | refine yN ?_ _)); exact BK296.out⟩, ⟨kR1 HB⟩⟩
    · rw [if_neg c5] at H
      have c5b0 : decide (x6_1 < (l0.length : Int)) = false := zS c5; clear c5
      (first | rw [c5b0] | (simp only [i64_w, i32_w]; rw [c5b0]) | (simp only [bne] at c5b0; rw [c5b0]) | skip)
      have H' := yD H
      clear H
      go_wp2
      go_meet
      case rel => exact ⟨_, (false), (by first | rfl | (simp; done) | (simp [*]; done)), H', ⟨by have := HK1.out; first | omega | exact Nat.le_refl _⟩, ⟨by (with_reducible repeat (first | refine yM ?_ _ | refine yO ?_ | refine yN ?_ _)); exact BK296.out⟩, ⟨kR1 HB⟩⟩
   case rest =>
    clear HC4; try clear c1; try clear p2; try clear c5; try clear c5b0; try clear p2
    obtain ⟨kq, x17_3, rfl, HA, HJ3, BK296, HB⟩ := hcut
    cases kq with
    | zero => exact absurd HA.out (by simp [spec_RangeOf.j1])
    | succ kj3 =>
     have H := HA.out; clear HA
     simp only [spec_RangeOf.j1] at H
     by_cases c6 : x17_3 = true
     ·
      subst c6
      have H1 : (if 0 ≤ x6_1 then (if x6_1 < (l0.length : Int) then (if x6_1 < (l1.length : Int) then ((spec_l00In.f (rd l0 x6_1) 0 (wrap64 ((rd l1 x6_1) - 1))).bind fun t299 => (if t299 = true then (if (rd l1 x6_1) > 40 then (some (0, ([] : List Int), ([] : List Int), ([] : List Int), ([] : List Int), ([] : List (S97)), false)) else (spec_RangeOf.l0 kj3 l0 l1 (wrap64 (x6_1 + 1)))) else (some (0, ([] : List Int), ([] : List Int), ([] : List Int), ([] : List Int), ([] : List (S97)), false)))) else (none)) else (none)) else (none)) = some (r1, r2, r3, r4, r5, r6, r7) := by rw [if_pos rfl] at H; exact H
      clear H; have H := H1; clear H1
      by_cases c7 : 0 ≤ x6_1
      ·
       rw [if_pos c7] at H
       have c7b0 : decide (0 ≤ x6_1) = true := zR c7; clear c7
       by_cases c8 : x6_1 < (l0.length : Int)
       ·
        rw [if_pos c8] at H
        have c8b0 : decide (x6_1 < (l0.length : Int)) = true := zR c8; clear c8
        by_cases c9 : x6_1 < (l1.length : Int)
        ·
         rw [if_pos c9] at H
         have c9b0 : decide (x6_1 < (l1.length : Int)) = true := zR c9; clear c9
         obtain ⟨t299, A100, H⟩ := zW_ H
         replace H : (if t299 = true then (if (rd l1 x6_1) > 40 then (some (0, ([] : List Int), ([] : List Int), ([] : List Int), ([] : List Int), ([] : List (S97)), false)) else (spec_RangeOf.l0 kj3 l0 l1 (wrap64 (x6_1 + 1)))) else (some (0, ([] : List Int), ([] : List Int), ([] : List Int), ([] : List Int), ([] : List (S97)), false))) = some (r1, r2, r3, r4, r5, r6, r7) := H
         have A10 := yD A100
         clear A100
         by_cases c11 : t299 = true
         ·
          subst c11
          have H1 : (if (rd l1 x6_1) > 40 then (some (0, ([] : List Int), ([] : List Int), ([] : List Int), ([] : List Int), ([] : List (S97)), false)) else (spec_RangeOf.l0 kj3 l0 l1 (wrap64 (x6_1 + 1)))) = some (r1, r2, r3, r4, r5, r6, r7) := by rw [if_pos rfl] at H; exact H
          clear H; have H := H1; clear H1
          by_cases c12 : (rd l1 x6_1) > 40
          ·
           rw [if_pos c12] at H
           have c12b0 : decide (40 < (rd l1 x6_1)) = true := zR c12; clear c12
           simp only [Option.some.injEq, Prod.mk.injEq] at H
           obtain ⟨rfl, rfl, rfl, rfl, rfl, rfl, rfl⟩ := H
           try go_wp2
           have n0_ := yD (yO BK296.out)
           have n1_ := yD (yP HB.out)
           clear BK296 HB; have BK296 := n0_; have HB := n1_; clear n0_ n1_
           have p297 : 0 ≤ (x6_1 : Int) := zP (by assumption)
           have q297 : x6_1 < (l0.length : Int) := zP (by assumption)
           obtain ⟨ad297, e297, hx297_0⟩ := Kd.at_int HR0.out x6_1 p297 q297
           have hw297_0 := hx297_0; cases e297
           replace hx297_0 := (HB.out.cell (zQ w _ hx297_0)).trans hx297_0
           replace p297 := eq_true p297; replace q297 := eq_true q297
           have p298 : 0 ≤ (x6_1 : Int) := zP (by assumption)
           have q298 : x6_1 < (l1.length : Int) := zP (by assumption)
           obtain ⟨ad298, e298, hx298_0⟩ := Kd.at_int HR1.out x6_1 p298 q298
           have hw298_0 := hx298_0; cases e298
           replace hx298_0 := (HB.out.cell (zQ w _ hx298_0)).trans hx298_0
           replace p298 := eq_true p298; replace q298 := eq_true q298
           have p300 : 0 ≤ (x6_1 : Int) := zP (by assumption)
           have q300 : x6_1 < (l1.length : Int) := zP (by assumption)
           obtain ⟨ad300, e300, hx300_0⟩ := Kd.at_int HR1.out x6_1 p300 q300
           have hw300_0 := hx300_0
           obtain rfl : ad298 = ad300 := (by injection e300)
           replace hx300_0 := (HB.out.cell (zQ w _ hx300_0)).trans hx300_0
           replace p300 := eq_true p300; replace q300 := eq_true q300
           refine start_ (n := 18) (S := fun w' => w'.cell? (ad297.add (x6_1).toNat) = some (.int .i64 (rd l0 x6_1)) ∧ w'.cell? (ad298.add (x6_1).toNat) = some (.int .i64 (rd l1 x6_1)) ∧ w'.cell? (ad298.add (x6_1).toNat) = some (.int .i64 (rd l1 x6_1))) (ds := []) (bz 18 0) (by kernel_rfl) rfl rfl ⟨((HB.out.cell (zQ w _ hw297_0)).trans hw297_0), ((HB.out.cell (zQ w _ hw298_0)).trans hw298_0), ((HB.out.cell (zQ w _ hw300_0)).trans hw300_0)⟩ (fun hHeld => ?_); refine with_tabW spec_RangeOf.tab4 spec_RangeOf.bits4 (fun HT_ HW_ => ?_)
           generalize wc.drew = w13 at BK296 HB hx297_0 hx298_0 hx300_0 hHeld ⊢
           refine qA 0 20 (bz 18 1) HT_ ?_
           refine qA 1 21 (bz 18 3) HT_ ?_
           refine qA 2 22 (bz 18 7) HT_ ?_
           refine qA 4 24 (bz 18 23) HT_ ?_
           refine qA 5 25 (bz 18 55) HT_ ?_
           refine qA 6 26 (bz 18 119) HT_ ?_
           refine qC 3 23 (bz 18 127) HT_ HW_ hHeld ?_ (hy := by rintro w' ⟨s0, s1, s2⟩; go_simp; with_reducible rfl)
           refine qC 7 27 (bz 18 255) HT_ HW_ hHeld ?_ (hy := by rintro w' ⟨s0, s1, s2⟩; go_simp; with_reducible rfl)
           refine qA 8 28 (bz 18 511) HT_ ?_
           refine one_ (i := 9) (N := some 29) (bz 18 1023) rfl rfl (one_of HT_.out (by kernel_rfl)) (by decide) (fun K hK => ?_)
           refine goes_ Try.func30 (by kernel_rfl) rfl #[.int .i64 (rd l0 x6_1), .int .i64 0, .int .i64 (wrap64 ((rd l1 x6_1) - 1))] (by rfl) rfl rfl (by (try simp only [zK, zL, zM]); first | done | rfl | (simp only [zN, zO]; rfl)) ?_
           with_reducible refine (spec_l00In.calls (rd l0 x6_1) 0 (wrap64 ((rd l1 x6_1) - 1)) true _ A10.out).mono ?_
           rintro e w' ⟨rfl, ⟨nd, rfl⟩⟩
           refine ⟨_, rfl, ?_⟩
           refine hK.out _ _ ⟨((HB.out.cell (zQ w _ hw297_0)).trans hw297_0), ((HB.out.cell (zQ w _ hw298_0)).trans hw298_0), ((HB.out.cell (zQ w _ hw300_0)).trans hw300_0)⟩ (fun hHeld => ?_)
           clear hK K
           refine norm_ (a' := ?_) ?_ ?_
           rotate_left
           · show Act.put _ (some 29) _ = _
             simp only [Act.put, zH, zI, zJ, i64_w, i32_w]
             rfl
           refine qA 10 30 (bz 18 2047) HT_ ?_
           refine qA 11 31 (bz 18 4095) HT_ ?_
           refine qA 12 32 (bz 18 8191) HT_ ?_
           refine qA 13 33 (bz 18 16383) HT_ ?_
           refine qA 14 34 (bz 18 32767) HT_ ?_
           refine qC 15 35 (bz 18 65535) HT_ HW_ hHeld ?_ (hy := by rintro w' ⟨s0, s1, s2⟩; go_simp; with_reducible rfl)
           refine qA 16 36 (bz 18 131071) HT_ ?_
           refine qA 17 37 (bz 18 262143) HT_ ?_
           refine done_ (done_of HT_.out (by kernel_rfl)) ?_
           obtain ⟨hcz14_0, hcz14_1, hcz14_2, hcz14_3, hcz14_4, hcz14_5⟩ := cz6 BK296.out
           obtain ⟨hfz14_0, hfz14_1, hfz14_2, hfz14_3, hfz14_4, hfz14_5⟩ := fz6 BK296.out
           try go_wp2
           refine bodyPost_ret (results_ct rfl _ _ gb296 28 #[.int .i64 0, .slice none 0 0, .slice none 0 0, .slice none 0 0, .slice none 0 0, .slice none 0 0] (0, 0) _ rfl (by (with_reducible repeat (first | refine yM ?_ _ | refine yO ?_ | refine yN ?_ _)); refine blk_put (cs := #[.int .i64 0, .slice none 0 0, .slice none 0 0, .slice none 0 0, .slice none 0 0, .slice none 0 0]) ?_ 5 _ rfl; (with_reducible repeat (first | refine yM ?_ _ | refine yO ?_ | refine yN ?_ _)); refine blk_put (cs := #[.int .i64 0, .slice none 0 0, .slice none 0 0, .slice none 0 0, .slice none 0 0, .slice none 0 0]) ?_ 4 _ rfl; (with_reducible repeat (first | refine yM ?_ _ | refine yO ?_ | refine yN ?_ _)); refine blk_put (cs := #[.int .i64 0, .slice none 0 0, .slice none 0 0, .slice none 0 0, .slice none 0 0, .slice none 0 0]) ?_ 3 _ rfl; (with_reducible repeat (first | refine yM ?_ _ | refine yO ?_ | refine yN ?_ _)); refine blk_put (cs := #[.int .i64 0, .slice none 0 0, .slice none 0 0, .slice none 0 0, .slice none 0 0, .slice none 0 0]) ?_ 2 _ rfl; (with_reducible repeat (first | refine yM ?_ _ | refine yO ?_ | refine yN ?_ _)); refine blk_put (cs := #[.int .i64 0, .slice none 0 0, .slice none 0 0, .slice none 0 0, .slice none 0 0, .slice none 0 0]) ?_ 1 _ rfl; (with_reducible repeat (first | refine yM ?_ _ | refine yO ?_ | refine yN ?_ _)); refine blk_put (cs := #[.int .i64 x297000_1, .slice none 0 0, .slice none 0 0, .slice none 0 0, .slice none 0 0, .slice none 0 0]) ?_ 0 _ rfl; (with_reducible repeat (first | refine yM ?_ _ | refine yO ?_ | refine yN ?_ _)); exact BK296.out) Try.underlying28 rfl (by kernel_rfl)) rfl ?_
           exact ⟨_, _, _, _, _, by first | rfl | (simp <;> rfl) | (simp [*] <;> rfl), by first | exact Kd.R_nil _ _ _ _ _ | exact Kd.N_nil _ _ _ _ _ | exact Kd.V_nil _ _ _ _ _ | exact Kd.Q_nil _ _ _ _ _ | exact Kd.S_nil _ _ _ _ _, by first | exact Kd.R_nil _ _ _ _ _ | exact Kd.N_nil _ _ _ _ _ | exact Kd.V_nil _ _ _ _ _ | exact Kd.Q_nil _ _ _ _ _ | exact Kd.S_nil _ _ _ _ _, by first | exact Kd.R_nil _ _ _ _ _ | exact Kd.N_nil _ _ _ _ _ | exact Kd.V_nil _ _ _ _ _ | exact Kd.Q_nil _ _ _ _ _ | exact Kd.S_nil _ _ _ _ _, by first | exact Kd.R_nil _ _ _ _ _ | exact Kd.N_nil _ _ _ _ _ | exact Kd.V_nil _ _ _ _ _ | exact Kd.Q_nil _ _ _ _ _ | exact Kd.S_nil _ _ _ _ _, by first | exact Kd.S_nil _ _ _ _ _ | exact Kd.N_nil _ _ _ _ _ | exact Kd.V_nil _ _ _ _ _ | exact Kd.Q_nil _ _ _ _ _ | exact Kd.R_nil _ _ _ _ _, kR1 HB⟩
          ·
           rw [if_neg c12] at H
           have c12b0 : decide (40 < (rd l1 x6_1)) = false := zS c12; clear c12
           have H' := yD H
           clear H
           try go_wp2
           have n0_ := yD (yO BK296.out)
           have n1_ := yD (yP HB.out)
           clear BK296 HB; have BK296 := n0_; have HB := n1_; clear n0_ n1_
           have p297 : 0 ≤ (x6_1 : Int) := zP (by assumption)
           have q297 : x6_1 < (l0.length : Int) := zP (by assumption)
           obtain ⟨ad297, e297, hx297_0⟩ := Kd.at_int HR0.out x6_1 p297 q297
           have hw297_0 := hx297_0; cases e297
           replace hx297_0 := (HB.out.cell (zQ w _ hx297_0)).trans hx297_0
           replace p297 := eq_true p297; replace q297 := eq_true q297
           have p298 : 0 ≤ (x6_1 : Int) := zP (by assumption)
           have q298 : x6_1 < (l1.length : Int) := zP (by assumption)
           obtain ⟨ad298, e298, hx298_0⟩ := Kd.at_int HR1.out x6_1 p298 q298
           have hw298_0 := hx298_0; cases e298
           replace hx298_0 := (HB.out.cell (zQ w _ hx298_0)).trans hx298_0
           replace p298 := eq_true p298; replace q298 := eq_true q298
           have p300 : 0 ≤ (x6_1 : Int) := zP (by assumption)
           have q300 : x6_1 < (l1.length : Int) := zP (by assumption)
           obtain ⟨ad300, e300, hx300_0⟩ := Kd.at_int HR1.out x6_1 p300 q300
           have hw300_0 := hx300_0
           obtain rfl : ad298 = ad300 := (by injection e300)
           replace hx300_0 := (HB.out.cell (zQ w _ hx300_0)).trans hx300_0
           replace p300 := eq_true p300; replace q300 := eq_true q300
           refine start_ (n := 18) (S := fun w' => w'.cell? (ad297.add (x6_1).toNat) = some (.int .i64 (rd l0 x6_1)) ∧ w'.cell? (ad298.add (x6_1).toNat) = some (.int .i64 (rd l1 x6_1)) ∧ w'.cell? (ad298.add (x6_1).toNat) = some (.int .i64 (rd l1 x6_1))) (ds := []) (bz 18 0) (by kernel_rfl) rfl rfl ⟨((HB.out.cell (zQ w _ hw297_0)).trans hw297_0), ((HB.out.cell (zQ w _ hw298_0)).trans hw298_0), ((HB.out.cell (zQ w _ hw300_0)).trans hw300_0)⟩ (fun hHeld => ?_); refine with_tabW spec_RangeOf.tab4 spec_RangeOf.bits4 (fun HT_ HW_ => ?_)
           generalize wc.drew = w15 at BK296 HB hx297_0 hx298_0 hx300_0 hHeld ⊢
           refine qA 0 20 (bz 18 1) HT_ ?_
           refine qA 1 21 (bz 18 3) HT_ ?_
           refine qA 2 22 (bz 18 7) HT_ ?_
           refine qA 4 24 (bz 18 23) HT_ ?_
           refine qA 5 25 (bz 18 55) HT_ ?_
           refine qA 6 26 (bz 18 119) HT_ ?_
           refine qC 3 23 (bz 18 127) HT_ HW_ hHeld ?_ (hy := by rintro w' ⟨s0, s1, s2⟩; go_simp; with_reducible rfl)
           refine qC 7 27 (bz 18 255) HT_ HW_ hHeld ?_ (hy := by rintro w' ⟨s0, s1, s2⟩; go_simp; with_reducible rfl)
           refine qA 8 28 (bz 18 511) HT_ ?_
           refine one_ (i := 9) (N := some 29) (bz 18 1023) rfl rfl (one_of HT_.out (by kernel_rfl)) (by decide) (fun K hK => ?_)
           refine goes_ Try.func30 (by kernel_rfl) rfl #[.int .i64 (rd l0 x6_1), .int .i64 0, .int .i64 (wrap64 ((rd l1 x6_1) - 1))] (by rfl) rfl rfl (by (try simp only [zK, zL, zM]); first | done | rfl | (simp only [zN, zO]; rfl)) ?_
           with_reducible refine (spec_l00In.calls (rd l0 x6_1) 0 (wrap64 ((rd l1 x6_1) - 1)) true _ A10.out).mono ?_
           rintro e w' ⟨rfl, ⟨nd, rfl⟩⟩
           refine ⟨_, rfl, ?_⟩
           refine hK.out _ _ ⟨((HB.out.cell (zQ w _ hw297_0)).trans hw297_0), ((HB.out.cell (zQ w _ hw298_0)).trans hw298_0), ((HB.out.cell (zQ w _ hw300_0)).trans hw300_0)⟩ (fun hHeld => ?_)
           clear hK K
           refine norm_ (a' := ?_) ?_ ?_
           rotate_left
           · show Act.put _ (some 29) _ = _
             simp only [Act.put, zH, zI, zJ, i64_w, i32_w]
             rfl
           refine qA 10 30 (bz 18 2047) HT_ ?_
           refine qA 11 31 (bz 18 4095) HT_ ?_
           refine qA 12 32 (bz 18 8191) HT_ ?_
           refine qA 13 33 (bz 18 16383) HT_ ?_
           refine qA 14 34 (bz 18 32767) HT_ ?_
           refine qC 15 35 (bz 18 65535) HT_ HW_ hHeld ?_ (hy := by rintro w' ⟨s0, s1, s2⟩; go_simp; with_reducible rfl)
           refine qA 16 36 (bz 18 131071) HT_ ?_
           refine qA 17 37 (bz 18 262143) HT_ ?_
           refine done_ (done_of HT_.out (by kernel_rfl)) ?_
           try go_wp2
           go_roundg kj3
           case measure => have := HK1.out; have := HJ3.out; omega
           case rel => exact ⟨(wrap64 (x6_1 + 1)), (x297000_1), (by first | rfl | (simp; done) | (simp [*]; done)), H', ⟨by have := HK1.out; have := HJ3.out; omega⟩, ⟨by (with_reducible repeat (first | refine yM ?_ _ | refine yO ?_ | refine yN ?_ _)); exact BK296.out⟩, ⟨kR1 HB⟩⟩
         ·
          replace c11 := Bool.eq_false_iff.mpr c11
          subst c11
          have H1 : (some (0, ([] : List Int), ([] : List Int), ([] : List Int), ([] : List Int), ([] : List (S97)), false)) = some (r1, r2, r3, r4, r5, r6, r7) := by rw [if_neg (show ¬ (false = true) by decide)] at H; exact H
          clear H; have H := H1; clear H1
          simp only [Option.some.injEq, Prod.mk.injEq] at H
          obtain ⟨rfl, rfl, rfl, rfl, rfl, rfl, rfl⟩ := H
          try go_wp2
          have n0_ := yD (yO BK296.out)
          have n1_ := yD (yP HB.out)
          clear BK296 HB; have BK296 := n0_; have HB := n1_; clear n0_ n1_
          have p297 : 0 ≤ (x6_1 : Int) := zP (by assumption)
          have q297 : x6_1 < (l0.length : Int) := zP (by assumption)
          obtain ⟨ad297, e297, hx297_0⟩ := Kd.at_int HR0.out x6_1 p297 q297
          have hw297_0 := hx297_0; cases e297
          replace hx297_0 := (HB.out.cell (zQ w _ hx297_0)).trans hx297_0
          replace p297 := eq_true p297; replace q297 := eq_true q297
          have p298 : 0 ≤ (x6_1 : Int) := zP (by assumption)
          have q298 : x6_1 < (l1.length : Int) := zP (by assumption)
          obtain ⟨ad298, e298, hx298_0⟩ := Kd.at_int HR1.out x6_1 p298 q298
          have hw298_0 := hx298_0; cases e298
          replace hx298_0 := (HB.out.cell (zQ w _ hx298_0)).trans hx298_0
          replace p298 := eq_true p298; replace q298 := eq_true q298
          refine start_ (n := 18) (S := fun w' => w'.cell? (ad297.add (x6_1).toNat) = some (.int .i64 (rd l0 x6_1)) ∧ w'.cell? (ad298.add (x6_1).toNat) = some (.int .i64 (rd l1 x6_1))) (ds := []) (bz 18 0) (by kernel_rfl) rfl rfl ⟨((HB.out.cell (zQ w _ hw297_0)).trans hw297_0), ((HB.out.cell (zQ w _ hw298_0)).trans hw298_0)⟩ (fun hHeld => ?_); refine with_tabW spec_RangeOf.tab4 spec_RangeOf.bits4 (fun HT_ HW_ => ?_)
          generalize wc.drew = w16 at BK296 HB hx297_0 hx298_0 hHeld ⊢
          refine qA 0 20 (bz 18 1) HT_ ?_
          refine qA 1 21 (bz 18 3) HT_ ?_
          refine qA 2 22 (bz 18 7) HT_ ?_
          refine qA 4 24 (bz 18 23) HT_ ?_
          refine qA 5 25 (bz 18 55) HT_ ?_
          refine qA 6 26 (bz 18 119) HT_ ?_
          refine qC 3 23 (bz 18 127) HT_ HW_ hHeld ?_ (hy := by rintro w' ⟨s0, s1⟩; go_simp; with_reducible rfl)
          refine qC 7 27 (bz 18 255) HT_ HW_ hHeld ?_ (hy := by rintro w' ⟨s0, s1⟩; go_simp; with_reducible rfl)
          refine qA 8 28 (bz 18 511) HT_ ?_
          refine one_ (i := 9) (N := some 29) (bz 18 1023) rfl rfl (one_of HT_.out (by kernel_rfl)) (by decide) (fun K hK => ?_)
          refine goes_ Try.func30 (by kernel_rfl) rfl #[.int .i64 (rd l0 x6_1), .int .i64 0, .int .i64 (wrap64 ((rd l1 x6_1) - 1))] (by rfl) rfl rfl (by (try simp only [zK, zL, zM]); first | done | rfl | (simp only [zN, zO]; rfl)) ?_
          with_reducible refine (spec_l00In.calls (rd l0 x6_1) 0 (wrap64 ((rd l1 x6_1) - 1)) false _ A10.out).mono ?_
          rintro e w' ⟨rfl, ⟨nd, rfl⟩⟩
          refine ⟨_, rfl, ?_⟩
          refine hK.out _ _ ⟨((HB.out.cell (zQ w _ hw297_0)).trans hw297_0), ((HB.out.cell (zQ w _ hw298_0)).trans hw298_0)⟩ (fun hHeld => ?_)
          clear hK K
          refine norm_ (a' := ?_) ?_ ?_
          rotate_left
          · show Act.put _ (some 29) _ = _
            simp only [Act.put, zH, zI, zJ, i64_w, i32_w]
            rfl
          refine qA 10 30 (bz 18 2047) HT_ ?_
          refine qA 11 31 (bz 18 4095) HT_ ?_
          refine qB 12 32 (bz 18 8191) HT_ ?_
          refine qB 13 33 (bz 18 16383) HT_ ?_
          refine qB 14 34 (bz 18 32767) HT_ ?_
          refine qB 15 35 (bz 18 65535) HT_ ?_
          refine qB 16 36 (bz 18 131071) HT_ ?_
          refine qA 17 37 (bz 18 262143) HT_ ?_
          refine done_ (done_of HT_.out (by kernel_rfl)) ?_
          obtain ⟨hcz17_0, hcz17_1, hcz17_2, hcz17_3, hcz17_4, hcz17_5⟩ := cz6 BK296.out
          obtain ⟨hfz17_0, hfz17_1, hfz17_2, hfz17_3, hfz17_4, hfz17_5⟩ := fz6 BK296.out
          try go_wp2
          refine bodyPost_ret (results_ct rfl _ _ gb296 28 #[.int .i64 0, .slice none 0 0, .slice none 0 0, .slice none 0 0, .slice none 0 0, .slice none 0 0] (0, 0) _ rfl (by (with_reducible repeat (first | refine yM ?_ _ | refine yO ?_ | refine yN ?_ _)); refine blk_put (cs := #[.int .i64 0, .slice none 0 0, .slice none 0 0, .slice none 0 0, .slice none 0 0, .slice none 0 0]) ?_ 5 _ rfl; (with_reducible repeat (first | refine yM ?_ _ | refine yO ?_ | refine yN ?_ _)); refine blk_put (cs := #[.int .i64 0, .slice none 0 0, .slice none 0 0, .slice none 0 0, .slice none 0 0, .slice none 0 0]) ?_ 4 _ rfl; (with_reducible repeat (first | refine yM ?_ _ | refine yO ?_ | refine yN ?_ _)); refine blk_put (cs := #[.int .i64 0, .slice none 0 0, .slice none 0 0, .slice none 0 0, .slice none 0 0, .slice none 0 0]) ?_ 3 _ rfl; (with_reducible repeat (first | refine yM ?_ _ | refine yO ?_ | refine yN ?_ _)); refine blk_put (cs := #[.int .i64 0, .slice none 0 0, .slice none 0 0, .slice none 0 0, .slice none 0 0, .slice none 0 0]) ?_ 2 _ rfl; (with_reducible repeat (first | refine yM ?_ _ | refine yO ?_ | refine yN ?_ _)); refine blk_put (cs := #[.int .i64 0, .slice none 0 0, .slice none 0 0, .slice none 0 0, .slice none 0 0, .slice none 0 0]) ?_ 1 _ rfl; (with_reducible repeat (first | refine yM ?_ _ | refine yO ?_ | refine yN ?_ _)); refine blk_put (cs := #[.int .i64 x297000_1, .slice none 0 0, .slice none 0 0, .slice none 0 0, .slice none 0 0, .slice none 0 0]) ?_ 0 _ rfl; (with_reducible repeat (first | refine yM ?_ _ | refine yO ?_ | refine yN ?_ _)); exact BK296.out) Try.underlying28 rfl (by kernel_rfl)) rfl ?_
          exact ⟨_, _, _, _, _, by first | rfl | (simp <;> rfl) | (simp [*] <;> rfl), by first | exact Kd.R_nil _ _ _ _ _ | exact Kd.N_nil _ _ _ _ _ | exact Kd.V_nil _ _ _ _ _ | exact Kd.Q_nil _ _ _ _ _ | exact Kd.S_nil _ _ _ _ _, by first | exact Kd.R_nil _ _ _ _ _ | exact Kd.N_nil _ _ _ _ _ | exact Kd.V_nil _ _ _ _ _ | exact Kd.Q_nil _ _ _ _ _ | exact Kd.S_nil _ _ _ _ _, by first | exact Kd.R_nil _ _ _ _ _ | exact Kd.N_nil _ _ _ _ _ | exact Kd.V_nil _ _ _ _ _ | exact Kd.Q_nil _ _ _ _ _ | exact Kd.S_nil _ _ _ _ _, by first | exact Kd.R_nil _ _ _ _ _ | exact Kd.N_nil _ _ _ _ _ | exact Kd.V_nil _ _ _ _ _ | exact Kd.Q_nil _ _ _ _ _ | exact Kd.S_nil _ _ _ _ _, by first | exact Kd.S_nil _ _ _ _ _ | exact Kd.N_nil _ _ _ _ _ | exact Kd.V_nil _ _ _ _ _ | exact Kd.Q_nil _ _ _ _ _ | exact Kd.R_nil _ _ _ _ _, kR1 HB⟩
        · rw [if_neg c9] at H
          exact absurd H (by simp)
       · rw [if_neg c8] at H
         exact absurd H (by simp)
      · rw [if_neg c7] at H
        exact absurd H (by simp)
     ·
      replace c6 := Bool.eq_false_iff.mpr c6
      subst c6
      have H1 : ((spec_l06Range.f kj3 l0 l1).bind fun bt301 => (if (l0.length : Int) = (l1.length : Int) then ((spec_l06Formed.f kj3 bt301.1 bt301.2.1 bt301.2.2.1 bt301.2.2.2.1 bt301.2.2.2.2.1 bt301.2.2.2.2.2).bind fun t318 => (if t318 = true then (some (bt301.1, bt301.2.1, bt301.2.2.1, bt301.2.2.2.1, bt301.2.2.2.2.1, bt301.2.2.2.2.2, true)) else (some (0, ([] : List Int), ([] : List Int), ([] : List Int), ([] : List Int), ([] : List (S97)), false)))) else (some (0, ([] : List Int), ([] : List Int), ([] : List Int), ([] : List Int), ([] : List (S97)), false)))) = some (r1, r2, r3, r4, r5, r6, r7) := by rw [if_neg (show ¬ (false = true) by decide)] at H; exact H
      clear H; have H := H1; clear H1
      obtain ⟨⟨t301, t302, t305, t308, t311, t314⟩, A180, H⟩ := zW_ H
      replace H : (if (l0.length : Int) = (l1.length : Int) then ((spec_l06Formed.f kj3 t301 t302 t305 t308 t311 t314).bind fun t318 => (if t318 = true then (some (t301, t302, t305, t308, t311, t314, true)) else (some (0, ([] : List Int), ([] : List Int), ([] : List Int), ([] : List Int), ([] : List (S97)), false)))) else (some (0, ([] : List Int), ([] : List Int), ([] : List Int), ([] : List Int), ([] : List (S97)), false))) = some (r1, r2, r3, r4, r5, r6, r7) := H
      have A18 := yD A180
      clear A180
      by_cases c19 : (l0.length : Int) = (l1.length : Int)
      ·
       rw [if_pos c19] at H
       have c19b0 : ((l0.length : Int) == (l1.length : Int)) = true := beq_iff_eq.mpr c19
       have c19b1 : ((l0.length : Int) != (l1.length : Int)) = false := bne_eq_false_iff_eq.mpr c19
       have c19b2 : (l0.length == l1.length) = true := by first | simpa using c19 | (simp at c19 ⊢; omega)
       clear c19
       obtain ⟨t318, A200, H⟩ := zW_ H
       replace H : (if t318 = true then (some (t301, t302, t305, t308, t311, t314, true)) else (some (0, ([] : List Int), ([] : List Int), ([] : List Int), ([] : List Int), ([] : List (S97)), false))) = some (r1, r2, r3, r4, r5, r6, r7) := H
       have A20 := yD A200
       clear A200
       by_cases c21 : t318 = true
       · subst c21
         have H1 : (some (t301, t302, t305, t308, t311, t314, true)) = some (r1, r2, r3, r4, r5, r6, r7) := by rw [if_pos rfl] at H; exact H
         clear H; have H := H1; clear H1
         simp only [Option.some.injEq, Prod.mk.injEq] at H
         obtain ⟨rfl, rfl, rfl, rfl, rfl, rfl, rfl⟩ := H
         go_wp2_with (first | ((with_reducible refine gate_callee (f := 31) rfl ?_); refine goesL_ (some 41) rfl rfl Try.func31 (by kernel_rfl) rfl #[.slice A0 l0.length c0, .slice A1 l1.length c1] rfl (by (try simp only [zK, zL, zM]); first | done | rfl | (simp only [zN, zO]; rfl)) ?_; (with_reducible refine (spec_l06Range.calls kj3 _ _ l0 _ _ l1 t301 t302 t305 t308 t311 t314 _ ?side1 ?side2 ?side3 ?side4 A18.out).mono ?_); (case side1 => exact kV (yY HR0.out HB.out)); (case side2 => exact HC0.out); (case side3 => exact kV (yY HR1.out HB.out)); (case side4 => exact HC1.out); rintro e w22 ⟨v303, v306, v309, v312, v315, rfl, ho0, ho1, ho2, ho3, ho4, hb⟩; refine ⟨_, rfl, ?_⟩; have n0_ := yD (yZ ho0 (below_size (kB HB))); have n1_ := yD (yZ ho1 (below_size (kB HB))); have n2_ := yD (yZ ho2 (below_size (kB HB))); have n3_ := yD (yZ ho3 (below_size (kB HB))); have n4_ := yD (zG ho4 (below_size (kB HB))); have n5_ := yD (zB (g := gb296) (o := .cells #[.int .i64 x297000_1, .slice none 0 0, .slice none 0 0, .slice none 0 0, .slice none 0 0, .slice none 0 0] 28 (0, 0)) (kM BK296) hb); have n6_ := yD (zC (kB HB) hb); clear BK296; clear HB; have HO304 := n0_; have HO307 := n1_; have HO310 := n2_; have HO313 := n3_; have HO316 := n4_; have BK296 := n5_; have HB := n6_; clear n0_ n1_ n2_ n3_ n4_ n5_ n6_; (try clear hb); (try clear hb2); (try clear hk); (try clear hi); (try clear ho0); (try clear ho1); (try clear ho2); (try clear ho3); (try clear ho4)) | ((with_reducible refine gate_dst (N := 7) rfl ?_); (try (refine gate_guard (by rfl) ?_; dsimp only)); refine box_event ?hg (N := 7) ?hd (cs := #[.int .i64 0, .slice none 0 0, .slice none 0 0, .slice none 0 0, .slice none 0 0, .slice none 0 0]) (t := 28) ?hr ?_; (case hd => rfl); (case hg => rfl); (case hr => first | (go_simp; done) | (go_simp; rfl)); intro gb317 hg w23 hbox hb; have n0_ := yD (zE (kA HO304) hb); have n1_ := yD (zE (kA HO307) hb); have n2_ := yD (zE (kA HO310) hb); have n3_ := yD (zE (kA HO313) hb); have n4_ := yD (Kd.S_below (by (with_reducible repeat (first | apply yS | apply yT | apply yU)); exact HO316.out) hb); have n5_ := yD (zB (g := gb296) (o := .cells #[.int .i64 x297000_1, .slice none 0 0, .slice none 0 0, .slice none 0 0, .slice none 0 0, .slice none 0 0] 28 (0, 0)) (kM BK296) hb); have n6_ := yD (zC (kB HB) hb); have n7_ := yD (hbox); have n8_ := yD ((by rw [hg]; exact (below_size (kB HB)) : w.heap.size ≤ gb317)); have n9_ := yD ((by rw [hg]; exact (below_size (kB HB)) : w.heap.size ≤ gb317)); have n10_ := yD ((by rw [hg]; exact Nat.ne_of_lt (blk_lt (g := gb296) (o := .cells #[.int .i64 x297000_1, .slice none 0 0, .slice none 0 0, .slice none 0 0, .slice none 0 0, .slice none 0 0] 28 (0, 0)) (kM BK296)) : gb296 ≠ gb317)); have n11_ := yD ((by rw [hg]; exact Nat.ne_of_gt (blk_lt (g := gb296) (o := .cells #[.int .i64 x297000_1, .slice none 0 0, .slice none 0 0, .slice none 0 0, .slice none 0 0, .slice none 0 0] 28 (0, 0)) (kM BK296)) : gb317 ≠ gb296)); clear HO304; clear HO307; clear HO310; clear HO313; clear HO316; clear BK296; clear HB; have HO304 := n0_; have HO307 := n1_; have HO310 := n2_; have HO313 := n3_; have HO316 := n4_; have BK296 := n5_; have HB := n6_; have BK317 := n7_; have GW317 := n8_; have GE317 := n9_; have NB296_317 := n10_; have NB317_296 := n11_; clear n0_ n1_ n2_ n3_ n4_ n5_ n6_ n7_ n8_ n9_ n10_ n11_; clear hb hbox hg; have hnb24 := NB317_296.out; have hnc24 := NB296_317.out; obtain ⟨hcz25_0, hcz25_1, hcz25_2, hcz25_3, hcz25_4, hcz25_5⟩ := cz6 BK317.out; obtain ⟨hfz25_0, hfz25_1, hfz25_2, hfz25_3, hfz25_4, hfz25_5⟩ := fz6 BK317.out; obtain ⟨Ao26, co26, eo26⟩ := Kd.R_slice HO304.out; subst eo26; obtain ⟨Ao27, co27, eo27⟩ := Kd.R_slice HO307.out; subst eo27; obtain ⟨Ao28, co28, eo28⟩ := Kd.R_slice HO310.out; subst eo28; obtain ⟨Ao29, co29, eo29⟩ := Kd.R_slice HO313.out; subst eo29; obtain ⟨Ao30, co30, eo30⟩ := Kd.S_slice HO316.out; subst eo30) | (go_at_call 32; (with_reducible refine (spec_l06Formed.calls kj3 t301 _ _ t302 _ _ t305 _ _ t308 _ _ t311 _ _ t314 true _ ?side1 ?side2 ?side3 ?side4 ?side5 ?side6 ?side7 ?side8 ?side9 ?side10 A20.out).mono ?_); (case side1 => refine (zA (e := 2) (base := w.heap.size) (ok := fun k_ => (some k_ ≠ (.slice Ao27 t305.length co27 : Value).ownBlock ∧ (some k_ ≠ (.slice Ao28 t308.length co28 : Value).ownBlock ∧ some k_ ≠ (.slice Ao29 t311.length co29 : Value).ownBlock))) (n := t302.length) (c := co26) ?_).2.2; exact (by (with_reducible repeat (first | apply yA | apply yB | apply yC)); exact (zF (yF (p := ⟨gb317, 5, none⟩) (yF (p := ⟨gb317, 4, none⟩) (yF (p := ⟨gb317, 3, none⟩) (yF (p := ⟨gb317, 2, none⟩) (yF (p := ⟨gb317, 1, none⟩) (yF (p := ⟨gb317, 0, none⟩) (Kd.R_types HO304.out BK317.out (by decide)) (fun _ hk => hk.2) (.int .i64 t301)) (fun _ hk => hk.2) (.slice Ao26 t302.length co26)) (fun _ hk => hk.2) (.slice Ao27 t305.length co27)) (fun _ hk => hk.2) (.slice Ao28 t308.length co28)) (fun _ hk => hk.2) (.slice Ao29 t311.length co29)) (fun _ hk => hk.2) (.slice Ao30 t314.length co30)) (fun _ h_ => h_.1)))); (case side2 => exact (zA HO304.out).2.1); (case side3 => refine (zA (e := 2) (base := w.heap.size) (ok := fun k_ => (some k_ ≠ (.slice Ao26 t302.length co26 : Value).ownBlock ∧ (some k_ ≠ (.slice Ao28 t308.length co28 : Value).ownBlock ∧ some k_ ≠ (.slice Ao29 t311.length co29 : Value).ownBlock))) (n := t305.length) (c := co27) ?_).2.2; exact (by (with_reducible repeat (first | apply yA | apply yB | apply yC)); exact (zF (yF (p := ⟨gb317, 5, none⟩) (yF (p := ⟨gb317, 4, none⟩) (yF (p := ⟨gb317, 3, none⟩) (yF (p := ⟨gb317, 2, none⟩) (yF (p := ⟨gb317, 1, none⟩) (yF (p := ⟨gb317, 0, none⟩) (Kd.R_types HO307.out BK317.out (by decide)) (fun _ hk => hk.2) (.int .i64 t301)) (fun _ hk => hk.2) (.slice Ao26 t302.length co26)) (fun _ hk => hk.2) (.slice Ao27 t305.length co27)) (fun _ hk => hk.2) (.slice Ao28 t308.length co28)) (fun _ hk => hk.2) (.slice Ao29 t311.length co29)) (fun _ hk => hk.2) (.slice Ao30 t314.length co30)) (fun _ h_ => h_.1)))); (case side4 => exact (zA HO307.out).2.1); (case side5 => refine (zA (e := 2) (base := w.heap.size) (ok := fun k_ => (some k_ ≠ (.slice Ao26 t302.length co26 : Value).ownBlock ∧ (some k_ ≠ (.slice Ao27 t305.length co27 : Value).ownBlock ∧ some k_ ≠ (.slice Ao29 t311.length co29 : Value).ownBlock))) (n := t308.length) (c := co28) ?_).2.2; exact (by (with_reducible repeat (first | apply yA | apply yB | apply yC)); exact (zF (yF (p := ⟨gb317, 5, none⟩) (yF (p := ⟨gb317, 4, none⟩) (yF (p := ⟨gb317, 3, none⟩) (yF (p := ⟨gb317, 2, none⟩) (yF (p := ⟨gb317, 1, none⟩) (yF (p := ⟨gb317, 0, none⟩) (Kd.R_types HO310.out BK317.out (by decide)) (fun _ hk => hk.2) (.int .i64 t301)) (fun _ hk => hk.2) (.slice Ao26 t302.length co26)) (fun _ hk => hk.2) (.slice Ao27 t305.length co27)) (fun _ hk => hk.2) (.slice Ao28 t308.length co28)) (fun _ hk => hk.2) (.slice Ao29 t311.length co29)) (fun _ hk => hk.2) (.slice Ao30 t314.length co30)) (fun _ h_ => h_.1)))); (case side6 => exact (zA HO310.out).2.1); (case side7 => refine (zA (e := 2) (base := w.heap.size) (ok := fun k_ => (some k_ ≠ (.slice Ao26 t302.length co26 : Value).ownBlock ∧ (some k_ ≠ (.slice Ao27 t305.length co27 : Value).ownBlock ∧ some k_ ≠ (.slice Ao28 t308.length co28 : Value).ownBlock))) (n := t311.length) (c := co29) ?_).2.2; exact (by (with_reducible repeat (first | apply yA | apply yB | apply yC)); exact (zF (yF (p := ⟨gb317, 5, none⟩) (yF (p := ⟨gb317, 4, none⟩) (yF (p := ⟨gb317, 3, none⟩) (yF (p := ⟨gb317, 2, none⟩) (yF (p := ⟨gb317, 1, none⟩) (yF (p := ⟨gb317, 0, none⟩) (Kd.R_types HO313.out BK317.out (by decide)) (fun _ hk => hk.2) (.int .i64 t301)) (fun _ hk => hk.2) (.slice Ao26 t302.length co26)) (fun _ hk => hk.2) (.slice Ao27 t305.length co27)) (fun _ hk => hk.2) (.slice Ao28 t308.length co28)) (fun _ hk => hk.2) (.slice Ao29 t311.length co29)) (fun _ hk => hk.2) (.slice Ao30 t314.length co30)) (fun _ h_ => h_.1)))); (case side8 => exact (zA HO313.out).2.1); (case side9 => refine (Kd.S_reads' (e := 97) (base := w.heap.size) (ok := fun k_ => (some k_ ≠ (.slice Ao26 t302.length co26 : Value).ownBlock ∧ (some k_ ≠ (.slice Ao27 t305.length co27 : Value).ownBlock ∧ (some k_ ≠ (.slice Ao28 t308.length co28 : Value).ownBlock ∧ some k_ ≠ (.slice Ao29 t311.length co29 : Value).ownBlock)))) (n := t314.length) (c := co30) ?_).2.2; exact (by (with_reducible repeat (first | apply yS | apply yT | apply yU)); exact (Kd.S_mono (Kd.S_far (p := ⟨gb317, 5, none⟩) (Kd.S_far (p := ⟨gb317, 4, none⟩) (Kd.S_far (p := ⟨gb317, 3, none⟩) (Kd.S_far (p := ⟨gb317, 2, none⟩) (Kd.S_far (p := ⟨gb317, 1, none⟩) (Kd.S_far (p := ⟨gb317, 0, none⟩) (Kd.S_types HO316.out BK317.out (by decide)) (fun _ hk => hk.2) (.int .i64 t301)) (fun _ hk => hk.2) (.slice Ao26 t302.length co26)) (fun _ hk => hk.2) (.slice Ao27 t305.length co27)) (fun _ hk => hk.2) (.slice Ao28 t308.length co28)) (fun _ hk => hk.2) (.slice Ao29 t311.length co29)) (fun _ hk => hk.2) (.slice Ao30 t314.length co30)) (fun _ h_ => h_.1)))); (case side10 => exact (Kd.S_reads' HO316.out).2.1); rintro e w31 ⟨rfl, hb⟩; have n0_ := yD (zE (by (with_reducible repeat (first | apply yA | apply yB | apply yC)); exact (zF (yF (p := ⟨gb317, 5, none⟩) (yF (p := ⟨gb317, 4, none⟩) (yF (p := ⟨gb317, 3, none⟩) (yF (p := ⟨gb317, 2, none⟩) (yF (p := ⟨gb317, 1, none⟩) (yF (p := ⟨gb317, 0, none⟩) (Kd.R_types HO304.out BK317.out (by decide)) (fun _ hk => hk.2) (.int .i64 t301)) (fun _ hk => hk.2) (.slice Ao26 t302.length co26)) (fun _ hk => hk.2) (.slice Ao27 t305.length co27)) (fun _ hk => hk.2) (.slice Ao28 t308.length co28)) (fun _ hk => hk.2) (.slice Ao29 t311.length co29)) (fun _ hk => hk.2) (.slice Ao30 t314.length co30)) (fun _ h_ => h_.1))) hb); have n1_ := yD (zE (by (with_reducible repeat (first | apply yA | apply yB | apply yC)); exact (zF (yF (p := ⟨gb317, 5, none⟩) (yF (p := ⟨gb317, 4, none⟩) (yF (p := ⟨gb317, 3, none⟩) (yF (p := ⟨gb317, 2, none⟩) (yF (p := ⟨gb317, 1, none⟩) (yF (p := ⟨gb317, 0, none⟩) (Kd.R_types HO307.out BK317.out (by decide)) (fun _ hk => hk.2) (.int .i64 t301)) (fun _ hk => hk.2) (.slice Ao26 t302.length co26)) (fun _ hk => hk.2) (.slice Ao27 t305.length co27)) (fun _ hk => hk.2) (.slice Ao28 t308.length co28)) (fun _ hk => hk.2) (.slice Ao29 t311.length co29)) (fun _ hk => hk.2) (.slice Ao30 t314.length co30)) (fun _ h_ => h_.1))) hb); have n2_ := yD (zE (by (with_reducible repeat (first | apply yA | apply yB | apply yC)); exact (zF (yF (p := ⟨gb317, 5, none⟩) (yF (p := ⟨gb317, 4, none⟩) (yF (p := ⟨gb317, 3, none⟩) (yF (p := ⟨gb317, 2, none⟩) (yF (p := ⟨gb317, 1, none⟩) (yF (p := ⟨gb317, 0, none⟩) (Kd.R_types HO310.out BK317.out (by decide)) (fun _ hk => hk.2) (.int .i64 t301)) (fun _ hk => hk.2) (.slice Ao26 t302.length co26)) (fun _ hk => hk.2) (.slice Ao27 t305.length co27)) (fun _ hk => hk.2) (.slice Ao28 t308.length co28)) (fun _ hk => hk.2) (.slice Ao29 t311.length co29)) (fun _ hk => hk.2) (.slice Ao30 t314.length co30)) (fun _ h_ => h_.1))) hb); have n3_ := yD (zE (by (with_reducible repeat (first | apply yA | apply yB | apply yC)); exact (zF (yF (p := ⟨gb317, 5, none⟩) (yF (p := ⟨gb317, 4, none⟩) (yF (p := ⟨gb317, 3, none⟩) (yF (p := ⟨gb317, 2, none⟩) (yF (p := ⟨gb317, 1, none⟩) (yF (p := ⟨gb317, 0, none⟩) (Kd.R_types HO313.out BK317.out (by decide)) (fun _ hk => hk.2) (.int .i64 t301)) (fun _ hk => hk.2) (.slice Ao26 t302.length co26)) (fun _ hk => hk.2) (.slice Ao27 t305.length co27)) (fun _ hk => hk.2) (.slice Ao28 t308.length co28)) (fun _ hk => hk.2) (.slice Ao29 t311.length co29)) (fun _ hk => hk.2) (.slice Ao30 t314.length co30)) (fun _ h_ => h_.1))) hb); have n4_ := yD (Kd.S_below (by (with_reducible repeat (first | apply yS | apply yT | apply yU)); exact (Kd.S_mono (Kd.S_far (p := ⟨gb317, 5, none⟩) (Kd.S_far (p := ⟨gb317, 4, none⟩) (Kd.S_far (p := ⟨gb317, 3, none⟩) (Kd.S_far (p := ⟨gb317, 2, none⟩) (Kd.S_far (p := ⟨gb317, 1, none⟩) (Kd.S_far (p := ⟨gb317, 0, none⟩) (Kd.S_types HO316.out BK317.out (by decide)) (fun _ hk => hk.2) (.int .i64 t301)) (fun _ hk => hk.2) (.slice Ao26 t302.length co26)) (fun _ hk => hk.2) (.slice Ao27 t305.length co27)) (fun _ hk => hk.2) (.slice Ao28 t308.length co28)) (fun _ hk => hk.2) (.slice Ao29 t311.length co29)) (fun _ hk => hk.2) (.slice Ao30 t314.length co30)) (fun _ h_ => h_.1))) hb); have n5_ := yD (zB (g := gb296) (o := .cells #[.int .i64 x297000_1, .slice none 0 0, .slice none 0 0, .slice none 0 0, .slice none 0 0, .slice none 0 0] 28 (0, 0)) (by (with_reducible repeat (first | refine yM ?_ _ | refine yO ?_ | refine yN ?_ _)); refine blk_far ?_ NB296_317.out _; (with_reducible repeat (first | refine yM ?_ _ | refine yO ?_ | refine yN ?_ _)); refine blk_far ?_ NB296_317.out _; (with_reducible repeat (first | refine yM ?_ _ | refine yO ?_ | refine yN ?_ _)); refine blk_far ?_ NB296_317.out _; (with_reducible repeat (first | refine yM ?_ _ | refine yO ?_ | refine yN ?_ _)); refine blk_far ?_ NB296_317.out _; (with_reducible repeat (first | refine yM ?_ _ | refine yO ?_ | refine yN ?_ _)); refine blk_far ?_ NB296_317.out _; (with_reducible repeat (first | refine yM ?_ _ | refine yO ?_ | refine yN ?_ _)); refine blk_far ?_ NB296_317.out _; (with_reducible repeat (first | refine yM ?_ _ | refine yO ?_ | refine yN ?_ _)); exact BK296.out) hb); have n6_ := yD (zB (g := gb317) (o := .cells #[.int .i64 t301, .slice Ao26 t302.length co26, .slice Ao27 t305.length co27, .slice Ao28 t308.length co28, .slice Ao29 t311.length co29, .slice Ao30 t314.length co30] 28 (0, 0)) (by (with_reducible repeat (first | refine yM ?_ _ | refine yO ?_ | refine yN ?_ _)); refine blk_put (cs := #[.int .i64 t301, .slice Ao26 t302.length co26, .slice Ao27 t305.length co27, .slice Ao28 t308.length co28, .slice Ao29 t311.length co29, .slice none 0 0]) ?_ 5 _ rfl; (with_reducible repeat (first | refine yM ?_ _ | refine yO ?_ | refine yN ?_ _)); refine blk_put (cs := #[.int .i64 t301, .slice Ao26 t302.length co26, .slice Ao27 t305.length co27, .slice Ao28 t308.length co28, .slice none 0 0, .slice none 0 0]) ?_ 4 _ rfl; (with_reducible repeat (first | refine yM ?_ _ | refine yO ?_ | refine yN ?_ _)); refine blk_put (cs := #[.int .i64 t301, .slice Ao26 t302.length co26, .slice Ao27 t305.length co27, .slice none 0 0, .slice none 0 0, .slice none 0 0]) ?_ 3 _ rfl; (with_reducible repeat (first | refine yM ?_ _ | refine yO ?_ | refine yN ?_ _)); refine blk_put (cs := #[.int .i64 t301, .slice Ao26 t302.length co26, .slice none 0 0, .slice none 0 0, .slice none 0 0, .slice none 0 0]) ?_ 2 _ rfl; (with_reducible repeat (first | refine yM ?_ _ | refine yO ?_ | refine yN ?_ _)); refine blk_put (cs := #[.int .i64 t301, .slice none 0 0, .slice none 0 0, .slice none 0 0, .slice none 0 0, .slice none 0 0]) ?_ 1 _ rfl; (with_reducible repeat (first | refine yM ?_ _ | refine yO ?_ | refine yN ?_ _)); refine blk_put (cs := #[.int .i64 0, .slice none 0 0, .slice none 0 0, .slice none 0 0, .slice none 0 0, .slice none 0 0]) ?_ 0 _ rfl; (with_reducible repeat (first | refine yM ?_ _ | refine yO ?_ | refine yN ?_ _)); exact BK317.out) hb); have n7_ := yD (zC (kB HB) hb); clear HO304; clear HO307; clear HO310; clear HO313; clear HO316; clear BK296; clear BK317; clear HB; have HO304 := n0_; have HO307 := n1_; have HO310 := n2_; have HO313 := n3_; have HO316 := n4_; have BK296 := n5_; have BK317 := n6_; have HB := n7_; clear n0_ n1_ n2_ n3_ n4_ n5_ n6_ n7_; (try clear hb); (try clear hb2); (try clear hk); (try clear hi); obtain ⟨hcz32_0, hcz32_1, hcz32_2, hcz32_3, hcz32_4, hcz32_5⟩ := cz6 BK317.out; obtain ⟨hfz32_0, hfz32_1, hfz32_2, hfz32_3, hfz32_4, hfz32_5⟩ := fz6 BK317.out; obtain ⟨hcz33_0, hcz33_1, hcz33_2, hcz33_3, hcz33_4, hcz33_5⟩ := cz6 BK296.out; obtain ⟨hfz33_0, hfz33_1, hfz33_2, hfz33_3, hfz33_4, hfz33_5⟩ := fz6 BK296.out))
         refine bodyPost_ret (results_ct rfl _ _ gb296 28 #[.int .i64 t301, .slice Ao26 t302.length co26, .slice Ao27 t305.length co27, .slice Ao28 t308.length co28, .slice Ao29 t311.length co29, .slice Ao30 t314.length co30] (0, 0) _ rfl (by (with_reducible repeat (first | refine yM ?_ _ | refine yO ?_ | refine yN ?_ _)); refine blk_put (cs := #[.int .i64 t301, .slice Ao26 t302.length co26, .slice Ao27 t305.length co27, .slice Ao28 t308.length co28, .slice Ao29 t311.length co29, .slice none 0 0]) ?_ 5 _ rfl; (with_reducible repeat (first | refine yM ?_ _ | refine yO ?_ | refine yN ?_ _)); refine blk_put (cs := #[.int .i64 t301, .slice Ao26 t302.length co26, .slice Ao27 t305.length co27, .slice Ao28 t308.length co28, .slice none 0 0, .slice none 0 0]) ?_ 4 _ rfl; (with_reducible repeat (first | refine yM ?_ _ | refine yO ?_ | refine yN ?_ _)); refine blk_put (cs := #[.int .i64 t301, .slice Ao26 t302.length co26, .slice Ao27 t305.length co27, .slice none 0 0, .slice none 0 0, .slice none 0 0]) ?_ 3 _ rfl; (with_reducible repeat (first | refine yM ?_ _ | refine yO ?_ | refine yN ?_ _)); refine blk_put (cs := #[.int .i64 t301, .slice Ao26 t302.length co26, .slice none 0 0, .slice none 0 0, .slice none 0 0, .slice none 0 0]) ?_ 2 _ rfl; (with_reducible repeat (first | refine yM ?_ _ | refine yO ?_ | refine yN ?_ _)); refine blk_put (cs := #[.int .i64 t301, .slice none 0 0, .slice none 0 0, .slice none 0 0, .slice none 0 0, .slice none 0 0]) ?_ 1 _ rfl; (with_reducible repeat (first | refine yM ?_ _ | refine yO ?_ | refine yN ?_ _)); refine blk_put (cs := #[.int .i64 x297000_1, .slice none 0 0, .slice none 0 0, .slice none 0 0, .slice none 0 0, .slice none 0 0]) ?_ 0 _ rfl; (with_reducible repeat (first | refine yM ?_ _ | refine yO ?_ | refine yN ?_ _)); exact BK296.out) Try.underlying28 rfl (by kernel_rfl)) rfl ?_
         exact ⟨_, _, _, _, _, by first | rfl | (simp <;> rfl) | (simp [*] <;> rfl), by (with_reducible repeat (first | apply yA | apply yB | apply yC)); exact zF (yF (p := ⟨gb296, 5, none⟩) (yF (p := ⟨gb296, 4, none⟩) (yF (p := ⟨gb296, 3, none⟩) (yF (p := ⟨gb296, 2, none⟩) (yF (p := ⟨gb296, 1, none⟩) (yF (p := ⟨gb296, 0, none⟩) (Kd.R_types HO304.out BK296.out (by decide)) (fun _ hk => hk.2) (.int .i64 t301)) (fun _ hk => hk.2) (.slice Ao26 t302.length co26)) (fun _ hk => hk.2) (.slice Ao27 t305.length co27)) (fun _ hk => hk.2) (.slice Ao28 t308.length co28)) (fun _ hk => hk.2) (.slice Ao29 t311.length co29)) (fun _ hk => hk.2) (.slice Ao30 t314.length co30)) (fun _ hk => ⟨hk.1.1, ⟨hk.1.2.1, hk.1.2.2⟩⟩), by (with_reducible repeat (first | apply yA | apply yB | apply yC)); exact zF (yF (p := ⟨gb296, 5, none⟩) (yF (p := ⟨gb296, 4, none⟩) (yF (p := ⟨gb296, 3, none⟩) (yF (p := ⟨gb296, 2, none⟩) (yF (p := ⟨gb296, 1, none⟩) (yF (p := ⟨gb296, 0, none⟩) (Kd.R_types HO307.out BK296.out (by decide)) (fun _ hk => hk.2) (.int .i64 t301)) (fun _ hk => hk.2) (.slice Ao26 t302.length co26)) (fun _ hk => hk.2) (.slice Ao27 t305.length co27)) (fun _ hk => hk.2) (.slice Ao28 t308.length co28)) (fun _ hk => hk.2) (.slice Ao29 t311.length co29)) (fun _ hk => hk.2) (.slice Ao30 t314.length co30)) (fun _ hk => ⟨hk.1.1, ⟨hk.1.2.1, hk.1.2.2⟩⟩), by (with_reducible repeat (first | apply yA | apply yB | apply yC)); exact zF (yF (p := ⟨gb296, 5, none⟩) (yF (p := ⟨gb296, 4, none⟩) (yF (p := ⟨gb296, 3, none⟩) (yF (p := ⟨gb296, 2, none⟩) (yF (p := ⟨gb296, 1, none⟩) (yF (p := ⟨gb296, 0, none⟩) (Kd.R_types HO310.out BK296.out (by decide)) (fun _ hk => hk.2) (.int .i64 t301)) (fun _ hk => hk.2) (.slice Ao26 t302.length co26)) (fun _ hk => hk.2) (.slice Ao27 t305.length co27)) (fun _ hk => hk.2) (.slice Ao28 t308.length co28)) (fun _ hk => hk.2) (.slice Ao29 t311.length co29)) (fun _ hk => hk.2) (.slice Ao30 t314.length co30)) (fun _ hk => ⟨hk.1.1, ⟨hk.1.2.1, hk.1.2.2⟩⟩), by (with_reducible repeat (first | apply yA | apply yB | apply yC)); exact zF (yF (p := ⟨gb296, 5, none⟩) (yF (p := ⟨gb296, 4, none⟩) (yF (p := ⟨gb296, 3, none⟩) (yF (p := ⟨gb296, 2, none⟩) (yF (p := ⟨gb296, 1, none⟩) (yF (p := ⟨gb296, 0, none⟩) (Kd.R_types HO313.out BK296.out (by decide)) (fun _ hk => hk.2) (.int .i64 t301)) (fun _ hk => hk.2) (.slice Ao26 t302.length co26)) (fun _ hk => hk.2) (.slice Ao27 t305.length co27)) (fun _ hk => hk.2) (.slice Ao28 t308.length co28)) (fun _ hk => hk.2) (.slice Ao29 t311.length co29)) (fun _ hk => hk.2) (.slice Ao30 t314.length co30)) (fun _ hk => ⟨hk.1.1, ⟨hk.1.2.1, hk.1.2.2⟩⟩), by (with_reducible repeat (first | apply yS | apply yT | apply yU)); exact Kd.S_mono (Kd.S_far (p := ⟨gb296, 5, none⟩) (Kd.S_far (p := ⟨gb296, 4, none⟩) (Kd.S_far (p := ⟨gb296, 3, none⟩) (Kd.S_far (p := ⟨gb296, 2, none⟩) (Kd.S_far (p := ⟨gb296, 1, none⟩) (Kd.S_far (p := ⟨gb296, 0, none⟩) (Kd.S_types HO316.out BK296.out (by decide)) (fun _ hk => hk.2) (.int .i64 t301)) (fun _ hk => hk.2) (.slice Ao26 t302.length co26)) (fun _ hk => hk.2) (.slice Ao27 t305.length co27)) (fun _ hk => hk.2) (.slice Ao28 t308.length co28)) (fun _ hk => hk.2) (.slice Ao29 t311.length co29)) (fun _ hk => hk.2) (.slice Ao30 t314.length co30)) (fun _ hk => ⟨hk.1.1, ⟨hk.1.2.1, ⟨hk.1.2.2.1, hk.1.2.2.2⟩⟩⟩), kR1 HB⟩
       · replace c21 := Bool.eq_false_iff.mpr c21
         subst c21
         have H1 : (some (0, ([] : List Int), ([] : List Int), ([] : List Int), ([] : List Int), ([] : List (S97)), false)) = some (r1, r2, r3, r4, r5, r6, r7) := by rw [if_neg (show ¬ (false = true) by decide)] at H; exact H
         clear H; have H := H1; clear H1
         simp only [Option.some.injEq, Prod.mk.injEq] at H
         obtain ⟨rfl, rfl, rfl, rfl, rfl, rfl, rfl⟩ := H
         go_wp2_with (first | ((with_reducible refine gate_callee (f := 31) rfl ?_); refine goesL_ (some 41) rfl rfl Try.func31 (by kernel_rfl) rfl #[.slice A0 l0.length c0, .slice A1 l1.length c1] rfl (by (try simp only [zK, zL, zM]); first | done | rfl | (simp only [zN, zO]; rfl)) ?_; (with_reducible refine (spec_l06Range.calls kj3 _ _ l0 _ _ l1 t301 t302 t305 t308 t311 t314 _ ?side1 ?side2 ?side3 ?side4 A18.out).mono ?_); (case side1 => exact kV (yY HR0.out HB.out)); (case side2 => exact HC0.out); (case side3 => exact kV (yY HR1.out HB.out)); (case side4 => exact HC1.out); rintro e w34 ⟨v303, v306, v309, v312, v315, rfl, ho0, ho1, ho2, ho3, ho4, hb⟩; refine ⟨_, rfl, ?_⟩; have n0_ := yD (yZ ho0 (below_size (kB HB))); have n1_ := yD (yZ ho1 (below_size (kB HB))); have n2_ := yD (yZ ho2 (below_size (kB HB))); have n3_ := yD (yZ ho3 (below_size (kB HB))); have n4_ := yD (zG ho4 (below_size (kB HB))); have n5_ := yD (zB (g := gb296) (o := .cells #[.int .i64 x297000_1, .slice none 0 0, .slice none 0 0, .slice none 0 0, .slice none 0 0, .slice none 0 0] 28 (0, 0)) (kM BK296) hb); have n6_ := yD (zC (kB HB) hb); clear BK296; clear HB; have HO304 := n0_; have HO307 := n1_; have HO310 := n2_; have HO313 := n3_; have HO316 := n4_; have BK296 := n5_; have HB := n6_; clear n0_ n1_ n2_ n3_ n4_ n5_ n6_; (try clear hb); (try clear hb2); (try clear hk); (try clear hi); (try clear ho0); (try clear ho1); (try clear ho2); (try clear ho3); (try clear ho4)) | ((with_reducible refine gate_dst (N := 7) rfl ?_); (try (refine gate_guard (by rfl) ?_; dsimp only)); refine box_event ?hg (N := 7) ?hd (cs := #[.int .i64 0, .slice none 0 0, .slice none 0 0, .slice none 0 0, .slice none 0 0, .slice none 0 0]) (t := 28) ?hr ?_; (case hd => rfl); (case hg => rfl); (case hr => first | (go_simp; done) | (go_simp; rfl)); intro gb317 hg w35 hbox hb; have n0_ := yD (zE (kA HO304) hb); have n1_ := yD (zE (kA HO307) hb); have n2_ := yD (zE (kA HO310) hb); have n3_ := yD (zE (kA HO313) hb); have n4_ := yD (Kd.S_below (by (with_reducible repeat (first | apply yS | apply yT | apply yU)); exact HO316.out) hb); have n5_ := yD (zB (g := gb296) (o := .cells #[.int .i64 x297000_1, .slice none 0 0, .slice none 0 0, .slice none 0 0, .slice none 0 0, .slice none 0 0] 28 (0, 0)) (kM BK296) hb); have n6_ := yD (zC (kB HB) hb); have n7_ := yD (hbox); have n8_ := yD ((by rw [hg]; exact (below_size (kB HB)) : w.heap.size ≤ gb317)); have n9_ := yD ((by rw [hg]; exact (below_size (kB HB)) : w.heap.size ≤ gb317)); have n10_ := yD ((by rw [hg]; exact Nat.ne_of_lt (blk_lt (g := gb296) (o := .cells #[.int .i64 x297000_1, .slice none 0 0, .slice none 0 0, .slice none 0 0, .slice none 0 0, .slice none 0 0] 28 (0, 0)) (kM BK296)) : gb296 ≠ gb317)); have n11_ := yD ((by rw [hg]; exact Nat.ne_of_gt (blk_lt (g := gb296) (o := .cells #[.int .i64 x297000_1, .slice none 0 0, .slice none 0 0, .slice none 0 0, .slice none 0 0, .slice none 0 0] 28 (0, 0)) (kM BK296)) : gb317 ≠ gb296)); clear HO304; clear HO307; clear HO310; clear HO313; clear HO316; clear BK296; clear HB; have HO304 := n0_; have HO307 := n1_; have HO310 := n2_; have HO313 := n3_; have HO316 := n4_; have BK296 := n5_; have HB := n6_; have BK317 := n7_; have GW317 := n8_; have GE317 := n9_; have NB296_317 := n10_; have NB317_296 := n11_; clear n0_ n1_ n2_ n3_ n4_ n5_ n6_ n7_ n8_ n9_ n10_ n11_; clear hb hbox hg; have hnb36 := NB317_296.out; have hnc36 := NB296_317.out; obtain ⟨hcz37_0, hcz37_1, hcz37_2, hcz37_3, hcz37_4, hcz37_5⟩ := cz6 BK317.out; obtain ⟨hfz37_0, hfz37_1, hfz37_2, hfz37_3, hfz37_4, hfz37_5⟩ := fz6 BK317.out; obtain ⟨Ao38, co38, eo38⟩ := Kd.R_slice HO304.out; subst eo38; obtain ⟨Ao39, co39, eo39⟩ := Kd.R_slice HO307.out; subst eo39; obtain ⟨Ao40, co40, eo40⟩ := Kd.R_slice HO310.out; subst eo40; obtain ⟨Ao41, co41, eo41⟩ := Kd.R_slice HO313.out; subst eo41; obtain ⟨Ao42, co42, eo42⟩ := Kd.S_slice HO316.out; subst eo42) | (go_at_call 32; (with_reducible refine (spec_l06Formed.calls kj3 t301 _ _ t302 _ _ t305 _ _ t308 _ _ t311 _ _ t314 false _ ?side1 ?side2 ?side3 ?side4 ?side5 ?side6 ?side7 ?side8 ?side9 ?side10 A20.out).mono ?_); (case side1 => refine (zA (e := 2) (base := w.heap.size) (ok := fun k_ => (some k_ ≠ (.slice Ao39 t305.length co39 : Value).ownBlock ∧ (some k_ ≠ (.slice Ao40 t308.length co40 : Value).ownBlock ∧ some k_ ≠ (.slice Ao41 t311.length co41 : Value).ownBlock))) (n := t302.length) (c := co38) ?_).2.2; exact (by (with_reducible repeat (first | apply yA | apply yB | apply yC)); exact (zF (yF (p := ⟨gb317, 5, none⟩) (yF (p := ⟨gb317, 4, none⟩) (yF (p := ⟨gb317, 3, none⟩) (yF (p := ⟨gb317, 2, none⟩) (yF (p := ⟨gb317, 1, none⟩) (yF (p := ⟨gb317, 0, none⟩) (Kd.R_types HO304.out BK317.out (by decide)) (fun _ hk => hk.2) (.int .i64 t301)) (fun _ hk => hk.2) (.slice Ao38 t302.length co38)) (fun _ hk => hk.2) (.slice Ao39 t305.length co39)) (fun _ hk => hk.2) (.slice Ao40 t308.length co40)) (fun _ hk => hk.2) (.slice Ao41 t311.length co41)) (fun _ hk => hk.2) (.slice Ao42 t314.length co42)) (fun _ h_ => h_.1)))); (case side2 => exact (zA HO304.out).2.1); (case side3 => refine (zA (e := 2) (base := w.heap.size) (ok := fun k_ => (some k_ ≠ (.slice Ao38 t302.length co38 : Value).ownBlock ∧ (some k_ ≠ (.slice Ao40 t308.length co40 : Value).ownBlock ∧ some k_ ≠ (.slice Ao41 t311.length co41 : Value).ownBlock))) (n := t305.length) (c := co39) ?_).2.2; exact (by (with_reducible repeat (first | apply yA | apply yB | apply yC)); exact (zF (yF (p := ⟨gb317, 5, none⟩) (yF (p := ⟨gb317, 4, none⟩) (yF (p := ⟨gb317, 3, none⟩) (yF (p := ⟨gb317, 2, none⟩) (yF (p := ⟨gb317, 1, none⟩) (yF (p := ⟨gb317, 0, none⟩) (Kd.R_types HO307.out BK317.out (by decide)) (fun _ hk => hk.2) (.int .i64 t301)) (fun _ hk => hk.2) (.slice Ao38 t302.length co38)) (fun _ hk => hk.2) (.slice Ao39 t305.length co39)) (fun _ hk => hk.2) (.slice Ao40 t308.length co40)) (fun _ hk => hk.2) (.slice Ao41 t311.length co41)) (fun _ hk => hk.2) (.slice Ao42 t314.length co42)) (fun _ h_ => h_.1)))); (case side4 => exact (zA HO307.out).2.1); (case side5 => refine (zA (e := 2) (base := w.heap.size) (ok := fun k_ => (some k_ ≠ (.slice Ao38 t302.length co38 : Value).ownBlock ∧ (some k_ ≠ (.slice Ao39 t305.length co39 : Value).ownBlock ∧ some k_ ≠ (.slice Ao41 t311.length co41 : Value).ownBlock))) (n := t308.length) (c := co40) ?_).2.2; exact (by (with_reducible repeat (first | apply yA | apply yB | apply yC)); exact (zF (yF (p := ⟨gb317, 5, none⟩) (yF (p := ⟨gb317, 4, none⟩) (yF (p := ⟨gb317, 3, none⟩) (yF (p := ⟨gb317, 2, none⟩) (yF (p := ⟨gb317, 1, none⟩) (yF (p := ⟨gb317, 0, none⟩) (Kd.R_types HO310.out BK317.out (by decide)) (fun _ hk => hk.2) (.int .i64 t301)) (fun _ hk => hk.2) (.slice Ao38 t302.length co38)) (fun _ hk => hk.2) (.slice Ao39 t305.length co39)) (fun _ hk => hk.2) (.slice Ao40 t308.length co40)) (fun _ hk => hk.2) (.slice Ao41 t311.length co41)) (fun _ hk => hk.2) (.slice Ao42 t314.length co42)) (fun _ h_ => h_.1)))); (case side6 => exact (zA HO310.out).2.1); (case side7 => refine (zA (e := 2) (base := w.heap.size) (ok := fun k_ => (some k_ ≠ (.slice Ao38 t302.length co38 : Value).ownBlock ∧ (some k_ ≠ (.slice Ao39 t305.length co39 : Value).ownBlock ∧ some k_ ≠ (.slice Ao40 t308.length co40 : Value).ownBlock))) (n := t311.length) (c := co41) ?_).2.2; exact (by (with_reducible repeat (first | apply yA | apply yB | apply yC)); exact (zF (yF (p := ⟨gb317, 5, none⟩) (yF (p := ⟨gb317, 4, none⟩) (yF (p := ⟨gb317, 3, none⟩) (yF (p := ⟨gb317, 2, none⟩) (yF (p := ⟨gb317, 1, none⟩) (yF (p := ⟨gb317, 0, none⟩) (Kd.R_types HO313.out BK317.out (by decide)) (fun _ hk => hk.2) (.int .i64 t301)) (fun _ hk => hk.2) (.slice Ao38 t302.length co38)) (fun _ hk => hk.2) (.slice Ao39 t305.length co39)) (fun _ hk => hk.2) (.slice Ao40 t308.length co40)) (fun _ hk => hk.2) (.slice Ao41 t311.length co41)) (fun _ hk => hk.2) (.slice Ao42 t314.length co42)) (fun _ h_ => h_.1)))); (case side8 => exact (zA HO313.out).2.1); (case side9 => refine (Kd.S_reads' (e := 97) (base := w.heap.size) (ok := fun k_ => (some k_ ≠ (.slice Ao38 t302.length co38 : Value).ownBlock ∧ (some k_ ≠ (.slice Ao39 t305.length co39 : Value).ownBlock ∧ (some k_ ≠ (.slice Ao40 t308.length co40 : Value).ownBlock ∧ some k_ ≠ (.slice Ao41 t311.length co41 : Value).ownBlock)))) (n := t314.length) (c := co42) ?_).2.2; exact (by (with_reducible repeat (first | apply yS | apply yT | apply yU)); exact (Kd.S_mono (Kd.S_far (p := ⟨gb317, 5, none⟩) (Kd.S_far (p := ⟨gb317, 4, none⟩) (Kd.S_far (p := ⟨gb317, 3, none⟩) (Kd.S_far (p := ⟨gb317, 2, none⟩) (Kd.S_far (p := ⟨gb317, 1, none⟩) (Kd.S_far (p := ⟨gb317, 0, none⟩) (Kd.S_types HO316.out BK317.out (by decide)) (fun _ hk => hk.2) (.int .i64 t301)) (fun _ hk => hk.2) (.slice Ao38 t302.length co38)) (fun _ hk => hk.2) (.slice Ao39 t305.length co39)) (fun _ hk => hk.2) (.slice Ao40 t308.length co40)) (fun _ hk => hk.2) (.slice Ao41 t311.length co41)) (fun _ hk => hk.2) (.slice Ao42 t314.length co42)) (fun _ h_ => h_.1)))); (case side10 => exact (Kd.S_reads' HO316.out).2.1); rintro e w43 ⟨rfl, hb⟩; have n0_ := yD (zE (by (with_reducible repeat (first | apply yA | apply yB | apply yC)); exact (zF (yF (p := ⟨gb317, 5, none⟩) (yF (p := ⟨gb317, 4, none⟩) (yF (p := ⟨gb317, 3, none⟩) (yF (p := ⟨gb317, 2, none⟩) (yF (p := ⟨gb317, 1, none⟩) (yF (p := ⟨gb317, 0, none⟩) (Kd.R_types HO304.out BK317.out (by decide)) (fun _ hk => hk.2) (.int .i64 t301)) (fun _ hk => hk.2) (.slice Ao38 t302.length co38)) (fun _ hk => hk.2) (.slice Ao39 t305.length co39)) (fun _ hk => hk.2) (.slice Ao40 t308.length co40)) (fun _ hk => hk.2) (.slice Ao41 t311.length co41)) (fun _ hk => hk.2) (.slice Ao42 t314.length co42)) (fun _ h_ => h_.1))) hb); have n1_ := yD (zE (by (with_reducible repeat (first | apply yA | apply yB | apply yC)); exact (zF (yF (p := ⟨gb317, 5, none⟩) (yF (p := ⟨gb317, 4, none⟩) (yF (p := ⟨gb317, 3, none⟩) (yF (p := ⟨gb317, 2, none⟩) (yF (p := ⟨gb317, 1, none⟩) (yF (p := ⟨gb317, 0, none⟩) (Kd.R_types HO307.out BK317.out (by decide)) (fun _ hk => hk.2) (.int .i64 t301)) (fun _ hk => hk.2) (.slice Ao38 t302.length co38)) (fun _ hk => hk.2) (.slice Ao39 t305.length co39)) (fun _ hk => hk.2) (.slice Ao40 t308.length co40)) (fun _ hk => hk.2) (.slice Ao41 t311.length co41)) (fun _ hk => hk.2) (.slice Ao42 t314.length co42)) (fun _ h_ => h_.1))) hb); have n2_ := yD (zE (by (with_reducible repeat (first | apply yA | apply yB | apply yC)); exact (zF (yF (p := ⟨gb317, 5, none⟩) (yF (p := ⟨gb317, 4, none⟩) (yF (p := ⟨gb317, 3, none⟩) (yF (p := ⟨gb317, 2, none⟩) (yF (p := ⟨gb317, 1, none⟩) (yF (p := ⟨gb317, 0, none⟩) (Kd.R_types HO310.out BK317.out (by decide)) (fun _ hk => hk.2) (.int .i64 t301)) (fun _ hk => hk.2) (.slice Ao38 t302.length co38)) (fun _ hk => hk.2) (.slice Ao39 t305.length co39)) (fun _ hk => hk.2) (.slice Ao40 t308.length co40)) (fun _ hk => hk.2) (.slice Ao41 t311.length co41)) (fun _ hk => hk.2) (.slice Ao42 t314.length co42)) (fun _ h_ => h_.1))) hb); have n3_ := yD (zE (by (with_reducible repeat (first | apply yA | apply yB | apply yC)); exact (zF (yF (p := ⟨gb317, 5, none⟩) (yF (p := ⟨gb317, 4, none⟩) (yF (p := ⟨gb317, 3, none⟩) (yF (p := ⟨gb317, 2, none⟩) (yF (p := ⟨gb317, 1, none⟩) (yF (p := ⟨gb317, 0, none⟩) (Kd.R_types HO313.out BK317.out (by decide)) (fun _ hk => hk.2) (.int .i64 t301)) (fun _ hk => hk.2) (.slice Ao38 t302.length co38)) (fun _ hk => hk.2) (.slice Ao39 t305.length co39)) (fun _ hk => hk.2) (.slice Ao40 t308.length co40)) (fun _ hk => hk.2) (.slice Ao41 t311.length co41)) (fun _ hk => hk.2) (.slice Ao42 t314.length co42)) (fun _ h_ => h_.1))) hb); have n4_ := yD (Kd.S_below (by (with_reducible repeat (first | apply yS | apply yT | apply yU)); exact (Kd.S_mono (Kd.S_far (p := ⟨gb317, 5, none⟩) (Kd.S_far (p := ⟨gb317, 4, none⟩) (Kd.S_far (p := ⟨gb317, 3, none⟩) (Kd.S_far (p := ⟨gb317, 2, none⟩) (Kd.S_far (p := ⟨gb317, 1, none⟩) (Kd.S_far (p := ⟨gb317, 0, none⟩) (Kd.S_types HO316.out BK317.out (by decide)) (fun _ hk => hk.2) (.int .i64 t301)) (fun _ hk => hk.2) (.slice Ao38 t302.length co38)) (fun _ hk => hk.2) (.slice Ao39 t305.length co39)) (fun _ hk => hk.2) (.slice Ao40 t308.length co40)) (fun _ hk => hk.2) (.slice Ao41 t311.length co41)) (fun _ hk => hk.2) (.slice Ao42 t314.length co42)) (fun _ h_ => h_.1))) hb); have n5_ := yD (zB (g := gb296) (o := .cells #[.int .i64 x297000_1, .slice none 0 0, .slice none 0 0, .slice none 0 0, .slice none 0 0, .slice none 0 0] 28 (0, 0)) (by (with_reducible repeat (first | refine yM ?_ _ | refine yO ?_ | refine yN ?_ _)); refine blk_far ?_ NB296_317.out _; (with_reducible repeat (first | refine yM ?_ _ | refine yO ?_ | refine yN ?_ _)); refine blk_far ?_ NB296_317.out _; (with_reducible repeat (first | refine yM ?_ _ | refine yO ?_ | refine yN ?_ _)); refine blk_far ?_ NB296_317.out _; (with_reducible repeat (first | refine yM ?_ _ | refine yO ?_ | refine yN ?_ _)); refine blk_far ?_ NB296_317.out _; (with_reducible repeat (first | refine yM ?_ _ | refine yO ?_ | refine yN ?_ _)); refine blk_far ?_ NB296_317.out _; (with_reducible repeat (first | refine yM ?_ _ | refine yO ?_ | refine yN ?_ _)); refine blk_far ?_ NB296_317.out _; (with_reducible repeat (first | refine yM ?_ _ | refine yO ?_ | refine yN ?_ _)); exact BK296.out) hb); have n6_ := yD (zB (g := gb317) (o := .cells #[.int .i64 t301, .slice Ao38 t302.length co38, .slice Ao39 t305.length co39, .slice Ao40 t308.length co40, .slice Ao41 t311.length co41, .slice Ao42 t314.length co42] 28 (0, 0)) (by (with_reducible repeat (first | refine yM ?_ _ | refine yO ?_ | refine yN ?_ _)); refine blk_put (cs := #[.int .i64 t301, .slice Ao38 t302.length co38, .slice Ao39 t305.length co39, .slice Ao40 t308.length co40, .slice Ao41 t311.length co41, .slice none 0 0]) ?_ 5 _ rfl; (with_reducible repeat (first | refine yM ?_ _ | refine yO ?_ | refine yN ?_ _)); refine blk_put (cs := #[.int .i64 t301, .slice Ao38 t302.length co38, .slice Ao39 t305.length co39, .slice Ao40 t308.length co40, .slice none 0 0, .slice none 0 0]) ?_ 4 _ rfl; (with_reducible repeat (first | refine yM ?_ _ | refine yO ?_ | refine yN ?_ _)); refine blk_put (cs := #[.int .i64 t301, .slice Ao38 t302.length co38, .slice Ao39 t305.length co39, .slice none 0 0, .slice none 0 0, .slice none 0 0]) ?_ 3 _ rfl; (with_reducible repeat (first | refine yM ?_ _ | refine yO ?_ | refine yN ?_ _)); refine blk_put (cs := #[.int .i64 t301, .slice Ao38 t302.length co38, .slice none 0 0, .slice none 0 0, .slice none 0 0, .slice none 0 0]) ?_ 2 _ rfl; (with_reducible repeat (first | refine yM ?_ _ | refine yO ?_ | refine yN ?_ _)); refine blk_put (cs := #[.int .i64 t301, .slice none 0 0, .slice none 0 0, .slice none 0 0, .slice none 0 0, .slice none 0 0]) ?_ 1 _ rfl; (with_reducible repeat (first | refine yM ?_ _ | refine yO ?_ | refine yN ?_ _)); refine blk_put (cs := #[.int .i64 0, .slice none 0 0, .slice none 0 0, .slice none 0 0, .slice none 0 0, .slice none 0 0]) ?_ 0 _ rfl; (with_reducible repeat (first | refine yM ?_ _ | refine yO ?_ | refine yN ?_ _)); exact BK317.out) hb); have n7_ := yD (zC (kB HB) hb); clear HO304; clear HO307; clear HO310; clear HO313; clear HO316; clear BK296; clear BK317; clear HB; have HO304 := n0_; have HO307 := n1_; have HO310 := n2_; have HO313 := n3_; have HO316 := n4_; have BK296 := n5_; have BK317 := n6_; have HB := n7_; clear n0_ n1_ n2_ n3_ n4_ n5_ n6_ n7_; (try clear hb); (try clear hb2); (try clear hk); (try clear hi); obtain ⟨hcz44_0, hcz44_1, hcz44_2, hcz44_3, hcz44_4, hcz44_5⟩ := cz6 BK296.out; obtain ⟨hfz44_0, hfz44_1, hfz44_2, hfz44_3, hfz44_4, hfz44_5⟩ := fz6 BK296.out))
         refine bodyPost_ret (results_ct rfl _ _ gb296 28 #[.int .i64 0, .slice none 0 0, .slice none 0 0, .slice none 0 0, .slice none 0 0, .slice none 0 0] (0, 0) _ rfl (by (with_reducible repeat (first | refine yM ?_ _ | refine yO ?_ | refine yN ?_ _)); refine blk_put (cs := #[.int .i64 0, .slice none 0 0, .slice none 0 0, .slice none 0 0, .slice none 0 0, .slice none 0 0]) ?_ 5 _ rfl; (with_reducible repeat (first | refine yM ?_ _ | refine yO ?_ | refine yN ?_ _)); refine blk_put (cs := #[.int .i64 0, .slice none 0 0, .slice none 0 0, .slice none 0 0, .slice none 0 0, .slice none 0 0]) ?_ 4 _ rfl; (with_reducible repeat (first | refine yM ?_ _ | refine yO ?_ | refine yN ?_ _)); refine blk_put (cs := #[.int .i64 0, .slice none 0 0, .slice none 0 0, .slice none 0 0, .slice none 0 0, .slice none 0 0]) ?_ 3 _ rfl; (with_reducible repeat (first | refine yM ?_ _ | refine yO ?_ | refine yN ?_ _)); refine blk_put (cs := #[.int .i64 0, .slice none 0 0, .slice none 0 0, .slice none 0 0, .slice none 0 0, .slice none 0 0]) ?_ 2 _ rfl; (with_reducible repeat (first | refine yM ?_ _ | refine yO ?_ | refine yN ?_ _)); refine blk_put (cs := #[.int .i64 0, .slice none 0 0, .slice none 0 0, .slice none 0 0, .slice none 0 0, .slice none 0 0]) ?_ 1 _ rfl; (with_reducible repeat (first | refine yM ?_ _ | refine yO ?_ | refine yN ?_ _)); refine blk_put (cs := #[.int .i64 x297000_1, .slice none 0 0, .slice none 0 0, .slice none 0 0, .slice none 0 0, .slice none 0 0]) ?_ 0 _ rfl; (with_reducible repeat (first | refine yM ?_ _ | refine yO ?_ | refine yN ?_ _)); exact BK296.out) Try.underlying28 rfl (by kernel_rfl)) rfl ?_
         exact ⟨_, _, _, _, _, by first | rfl | (simp <;> rfl) | (simp [*] <;> rfl), by first | exact Kd.R_nil _ _ _ _ _ | exact Kd.N_nil _ _ _ _ _ | exact Kd.V_nil _ _ _ _ _ | exact Kd.Q_nil _ _ _ _ _ | exact Kd.S_nil _ _ _ _ _, by first | exact Kd.R_nil _ _ _ _ _ | exact Kd.N_nil _ _ _ _ _ | exact Kd.V_nil _ _ _ _ _ | exact Kd.Q_nil _ _ _ _ _ | exact Kd.S_nil _ _ _ _ _, by first | exact Kd.R_nil _ _ _ _ _ | exact Kd.N_nil _ _ _ _ _ | exact Kd.V_nil _ _ _ _ _ | exact Kd.Q_nil _ _ _ _ _ | exact Kd.S_nil _ _ _ _ _, by first | exact Kd.R_nil _ _ _ _ _ | exact Kd.N_nil _ _ _ _ _ | exact Kd.V_nil _ _ _ _ _ | exact Kd.Q_nil _ _ _ _ _ | exact Kd.S_nil _ _ _ _ _, by first | exact Kd.S_nil _ _ _ _ _ | exact Kd.N_nil _ _ _ _ _ | exact Kd.V_nil _ _ _ _ _ | exact Kd.Q_nil _ _ _ _ _ | exact Kd.R_nil _ _ _ _ _, kR1 HB⟩
      · rw [if_neg c19] at H
        have c19b0 : ((l0.length : Int) == (l1.length : Int)) = false := beq_eq_false_iff_ne.mpr c19
        have c19b1 : ((l0.length : Int) != (l1.length : Int)) = true := bne_iff_ne.mpr c19
        have c19b2 : (l0.length == l1.length) = false := by first | simpa using c19 | (simp at c19 ⊢; omega)
        simp only [Option.some.injEq, Prod.mk.injEq] at H
        obtain ⟨rfl, rfl, rfl, rfl, rfl, rfl, rfl⟩ := H
        go_wp2_with (first | ((with_reducible refine gate_callee (f := 31) rfl ?_); refine goesL_ (some 41) rfl rfl Try.func31 (by kernel_rfl) rfl #[.slice A0 l0.length c0, .slice A1 l1.length c1] rfl (by (try simp only [zK, zL, zM]); first | done | rfl | (simp only [zN, zO]; rfl)) ?_; (with_reducible refine (spec_l06Range.calls kj3 _ _ l0 _ _ l1 t301 t302 t305 t308 t311 t314 _ ?side1 ?side2 ?side3 ?side4 A18.out).mono ?_); (case side1 => exact kV (yY HR0.out HB.out)); (case side2 => exact HC0.out); (case side3 => exact kV (yY HR1.out HB.out)); (case side4 => exact HC1.out); rintro e w45 ⟨v303, v306, v309, v312, v315, rfl, ho0, ho1, ho2, ho3, ho4, hb⟩; refine ⟨_, rfl, ?_⟩; have n0_ := yD (yZ ho0 (below_size (kB HB))); have n1_ := yD (yZ ho1 (below_size (kB HB))); have n2_ := yD (yZ ho2 (below_size (kB HB))); have n3_ := yD (yZ ho3 (below_size (kB HB))); have n4_ := yD (zG ho4 (below_size (kB HB))); have n5_ := yD (zB (g := gb296) (o := .cells #[.int .i64 x297000_1, .slice none 0 0, .slice none 0 0, .slice none 0 0, .slice none 0 0, .slice none 0 0] 28 (0, 0)) (kM BK296) hb); have n6_ := yD (zC (kB HB) hb); clear BK296; clear HB; have HO304 := n0_; have HO307 := n1_; have HO310 := n2_; have HO313 := n3_; have HO316 := n4_; have BK296 := n5_; have HB := n6_; clear n0_ n1_ n2_ n3_ n4_ n5_ n6_; (try clear hb); (try clear hb2); (try clear hk); (try clear hi); (try clear ho0); (try clear ho1); (try clear ho2); (try clear ho3); (try clear ho4)) | ((with_reducible refine gate_dst (N := 7) rfl ?_); (try (refine gate_guard (by rfl) ?_; dsimp only)); refine box_event ?hg (N := 7) ?hd (cs := #[.int .i64 0, .slice none 0 0, .slice none 0 0, .slice none 0 0, .slice none 0 0, .slice none 0 0]) (t := 28) ?hr ?_; (case hd => rfl); (case hg => rfl); (case hr => first | (go_simp; done) | (go_simp; rfl)); intro gb317 hg w46 hbox hb; have n0_ := yD (zE (kA HO304) hb); have n1_ := yD (zE (kA HO307) hb); have n2_ := yD (zE (kA HO310) hb); have n3_ := yD (zE (kA HO313) hb); have n4_ := yD (Kd.S_below (by (with_reducible repeat (first | apply yS | apply yT | apply yU)); exact HO316.out) hb); have n5_ := yD (zB (g := gb296) (o := .cells #[.int .i64 x297000_1, .slice none 0 0, .slice none 0 0, .slice none 0 0, .slice none 0 0, .slice none 0 0] 28 (0, 0)) (kM BK296) hb); have n6_ := yD (zC (kB HB) hb); have n7_ := yD (hbox); have n8_ := yD ((by rw [hg]; exact (below_size (kB HB)) : w.heap.size ≤ gb317)); have n9_ := yD ((by rw [hg]; exact (below_size (kB HB)) : w.heap.size ≤ gb317)); have n10_ := yD ((by rw [hg]; exact Nat.ne_of_lt (blk_lt (g := gb296) (o := .cells #[.int .i64 x297000_1, .slice none 0 0, .slice none 0 0, .slice none 0 0, .slice none 0 0, .slice none 0 0] 28 (0, 0)) (kM BK296)) : gb296 ≠ gb317)); have n11_ := yD ((by rw [hg]; exact Nat.ne_of_gt (blk_lt (g := gb296) (o := .cells #[.int .i64 x297000_1, .slice none 0 0, .slice none 0 0, .slice none 0 0, .slice none 0 0, .slice none 0 0] 28 (0, 0)) (kM BK296)) : gb317 ≠ gb296)); clear HO304; clear HO307; clear HO310; clear HO313; clear HO316; clear BK296; clear HB; have HO304 := n0_; have HO307 := n1_; have HO310 := n2_; have HO313 := n3_; have HO316 := n4_; have BK296 := n5_; have HB := n6_; have BK317 := n7_; have GW317 := n8_; have GE317 := n9_; have NB296_317 := n10_; have NB317_296 := n11_; clear n0_ n1_ n2_ n3_ n4_ n5_ n6_ n7_ n8_ n9_ n10_ n11_; clear hb hbox hg; have hnb47 := NB317_296.out; have hnc47 := NB296_317.out; obtain ⟨hcz48_0, hcz48_1, hcz48_2, hcz48_3, hcz48_4, hcz48_5⟩ := cz6 BK317.out; obtain ⟨hfz48_0, hfz48_1, hfz48_2, hfz48_3, hfz48_4, hfz48_5⟩ := fz6 BK317.out; obtain ⟨Ao49, co49, eo49⟩ := Kd.R_slice HO304.out; subst eo49; obtain ⟨Ao50, co50, eo50⟩ := Kd.R_slice HO307.out; subst eo50; obtain ⟨Ao51, co51, eo51⟩ := Kd.R_slice HO310.out; subst eo51; obtain ⟨Ao52, co52, eo52⟩ := Kd.R_slice HO313.out; subst eo52; obtain ⟨Ao53, co53, eo53⟩ := Kd.S_slice HO316.out; subst eo53; obtain ⟨hcz54_0, hcz54_1, hcz54_2, hcz54_3, hcz54_4, hcz54_5⟩ := cz6 BK296.out; obtain ⟨hfz54_0, hfz54_1, hfz54_2, hfz54_3, hfz54_4, hfz54_5⟩ := fz6 BK296.out))
        refine bodyPost_ret (results_ct rfl _ _ gb296 28 #[.int .i64 0, .slice none 0 0, .slice none 0 0, .slice none 0 0, .slice none 0 0, .slice none 0 0] (0, 0) _ rfl (by (with_reducible repeat (first | refine yM ?_ _ | refine yO ?_ | refine yN ?_ _)); refine blk_put (cs := #[.int .i64 0, .slice none 0 0, .slice none 0 0, .slice none 0 0, .slice none 0 0, .slice none 0 0]) ?_ 5 _ rfl; (with_reducible repeat (first | refine yM ?_ _ | refine yO ?_ | refine yN ?_ _)); refine blk_put (cs := #[.int .i64 0, .slice none 0 0, .slice none 0 0, .slice none 0 0, .slice none 0 0, .slice none 0 0]) ?_ 4 _ rfl; (with_reducible repeat (first | refine yM ?_ _ | refine yO ?_ | refine yN ?_ _)); refine blk_put (cs := #[.int .i64 0, .slice none 0 0, .slice none 0 0, .slice none 0 0, .slice none 0 0, .slice none 0 0]) ?_ 3 _ rfl; (with_reducible repeat (first | refine yM ?_ _ | refine yO ?_ | refine yN ?_ _)); refine blk_put (cs := #[.int .i64 0, .slice none 0 0, .slice none 0 0, .slice none 0 0, .slice none 0 0, .slice none 0 0]) ?_ 2 _ rfl; (with_reducible repeat (first | refine yM ?_ _ | refine yO ?_ | refine yN ?_ _)); refine blk_put (cs := #[.int .i64 0, .slice none 0 0, .slice none 0 0, .slice none 0 0, .slice none 0 0, .slice none 0 0]) ?_ 1 _ rfl; (with_reducible repeat (first | refine yM ?_ _ | refine yO ?_ | refine yN ?_ _)); refine blk_put (cs := #[.int .i64 x297000_1, .slice none 0 0, .slice none 0 0, .slice none 0 0, .slice none 0 0, .slice none 0 0]) ?_ 0 _ rfl; (with_reducible repeat (first | refine yM ?_ _ | refine yO ?_ | refine yN ?_ _)); refine blk_far ?_ NB296_317.out _; (with_reducible repeat (first | refine yM ?_ _ | refine yO ?_ | refine yN ?_ _)); refine blk_far ?_ NB296_317.out _; (with_reducible repeat (first | refine yM ?_ _ | refine yO ?_ | refine yN ?_ _)); refine blk_far ?_ NB296_317.out _; (with_reducible repeat (first | refine yM ?_ _ | refine yO ?_ | refine yN ?_ _)); refine blk_far ?_ NB296_317.out _; (with_reducible repeat (first | refine yM ?_ _ | refine yO ?_ | refine yN ?_ _)); refine blk_far ?_ NB296_317.out _; (with_reducible repeat (first | refine yM ?_ _ | refine yO ?_ | refine yN ?_ _)); refine blk_far ?_ NB296_317.out _; (with_reducible repeat (first | refine yM ?_ _ | refine yO ?_ | refine yN ?_ _)); exact BK296.out) Try.underlying28 rfl (by kernel_rfl)) rfl ?_
        exact ⟨_, _, _, _, _, by first | rfl | (simp <;> rfl) | (simp [*] <;> rfl), by first | exact Kd.R_nil _ _ _ _ _ | exact Kd.N_nil _ _ _ _ _ | exact Kd.V_nil _ _ _ _ _ | exact Kd.Q_nil _ _ _ _ _ | exact Kd.S_nil _ _ _ _ _, by first | exact Kd.R_nil _ _ _ _ _ | exact Kd.N_nil _ _ _ _ _ | exact Kd.V_nil _ _ _ _ _ | exact Kd.Q_nil _ _ _ _ _ | exact Kd.S_nil _ _ _ _ _, by first | exact Kd.R_nil _ _ _ _ _ | exact Kd.N_nil _ _ _ _ _ | exact Kd.V_nil _ _ _ _ _ | exact Kd.Q_nil _ _ _ _ _ | exact Kd.S_nil _ _ _ _ _, by first | exact Kd.R_nil _ _ _ _ _ | exact Kd.N_nil _ _ _ _ _ | exact Kd.V_nil _ _ _ _ _ | exact Kd.Q_nil _ _ _ _ _ | exact Kd.S_nil _ _ _ _ _, by first | exact Kd.S_nil _ _ _ _ _ | exact Kd.N_nil _ _ _ _ _ | exact Kd.V_nil _ _ _ _ _ | exact Kd.Q_nil _ _ _ _ _ | exact Kd.R_nil _ _ _ _ _, kR1 HB⟩

/-! ### spec_l05Dims: function 33 -/
def spec_l05Dims.l0 : Nat → List Int → Int → Int → Option (Bool)
 | 0, _, _, _ => none
 | k + 1, x0, x3, x4 => if x4 < (x0.length : Int) then (if 0 ≤ x4 then ((spec_l00In.f (rd x0 x4) 0 40).bind fun t320 => (if t320 = true then (spec_l05Dims.l0 k x0 (wrap64 (x3 * (rd x0 x4))) (wrap64 (x4 + 1))) else (some false))) else (none)) else (some (decide (x3 ≤ 600)))
def spec_l05Dims.f (k : Nat) (l0 : List Int) : Option (Bool) := if (l0.length : Int) > 3 then (some false) else (spec_l05Dims.l0 k l0 1 0)
theorem spec_l05Dims.mono_l : ∀ k, (∀ y0 y1 y2, LeO (spec_l05Dims.l0 k y0 y1 y2) (spec_l05Dims.l0 (k + 1) y0 y1 y2))
 | 0 => fun _ _ _ r h => by simp [spec_l05Dims.l0] at h
 | k + 1 => by
  have ih0 := spec_l05Dims.mono_l k
  ·
   intro y0 y1 y2
   unfold spec_l05Dims.l0
   repeat' first
   | (with_reducible exact ih0 _ _ _)
   | (with_reducible exact LeO.refl _)
   | (with_reducible exact LeO.none _)
   | (with_reducible refine LeO.ite ?_ ?_)
   | (with_reducible refine LeO.bind ?_ (fun _ => ?_))
   | exact ih0 _ _ _
   | exact LeO.none _
   | refine LeO.ite ?_ ?_
   | refine LeO.bind ?_ (fun _ => ?_)
theorem spec_l05Dims.mono : ∀ a0 k, LeO (spec_l05Dims.f k a0) (spec_l05Dims.f (k + 1) a0) := by
 intro a0 k
 have ih0 := spec_l05Dims.mono_l k
 unfold spec_l05Dims.f
 repeat' first
  | (with_reducible exact ih0 _ _ _)
  | (with_reducible exact LeO.refl _)
  | (with_reducible exact LeO.none _)
  | (with_reducible refine LeO.ite ?_ ?_)
  | (with_reducible refine LeO.bind ?_ (fun _ => ?_))
  | exact ih0 _ _ _
  | exact LeO.none _
  | refine LeO.ite ?_ ?_
  | refine LeO.bind ?_ (fun _ => ?_)
set_option maxHeartbeats 8000000 in
set_option maxRecDepth 100000 in
theorem spec_l05Dims.calls (k : Nat) (A0 : Option Addr) (c0 : Nat) (l0 : List Int) (r : Bool) (w : World) (hr0 : Kd.C (Kd.int .i64) w A0 l0.length l0) (hc0 : l0.length ≤ c0) (h : spec_l05Dims.f k l0 = some r) :
 Calls Try.prog 33 #[.slice A0 l0.length c0] w fun e w' => e = .returned (.bool r) ∧ Drawn0 w w' := by
 have HR0 := yD hr0
 have HC0 := yD hc0
 clear hr0 hc0
 have H : (if (l0.length : Int) > 3 then (some false) else (spec_l05Dims.l0 k l0 1 0)) = some r := h
 clear h
 by_cases c2 : (l0.length : Int) > 3
 ·
  rw [if_pos c2] at H
  have c2b0 : decide (3 < (l0.length : Int)) = true := zR c2
  have c2b1 : decide (3 < l0.length) = true := zR (by omega)
  clear c2; obtain rfl := Option.some.inj H; go_enter Try.func33, Try.ntmps33
  go_wp2
  go_ret
  exact ⟨by first | rfl | (simp; done) | (simp [*]; done), by repeat (first | exact Drawn0.refl _ | apply Drawn0.step)⟩
 ·
  rw [if_neg c2] at H
  have c2b0 : decide (3 < (l0.length : Int)) = false := zS c2
  have c2b1 : decide (3 < l0.length) = false := zS (by omega)
  clear c2
  have H' := yD H
  clear H; go_enter Try.func33, Try.ntmps33
  go_wp2
  go_loopg [3, 4] k (fun kq v3 v4 w' => ∃ (x3_1 : Int) (x4_1 : Int), v3 = .int .i64 x3_1 ∧ v4 = .int .i64 x4_1 ∧ Aside0 (spec_l05Dims.l0 kq l0 x3_1 x4_1 = some r) ∧ Aside0 (kq ≤ k) ∧ Drawn0 w w')
  case atStart => exact ⟨(1), (0), (by first | rfl | (simp; done) | (simp [*]; done)), (by first | rfl | (simp; done) | (simp [*]; done)), H', ⟨Nat.le_refl _⟩, by repeat (first | exact Drawn0.refl _ | apply Drawn0.step)⟩
  case round =>
   clear H'
   try clear c2; try clear c2b0; try clear c2b1; try clear p2
   obtain ⟨x3_1, x4_1, rfl, rfl, HA, HK1, ⟨m1, rfl⟩⟩ := hrel
   cases gk with
   | zero => exact absurd HA.out (by simp [spec_l05Dims.l0])
   | succ k1 =>
    have H := HA.out; clear HA
    simp only [spec_l05Dims.l0] at H
    by_cases c3 : x4_1 < (l0.length : Int)
    ·
     rw [if_pos c3] at H
     have c3b0 : decide (x4_1 < (l0.length : Int)) = true := zR c3; clear c3
     by_cases c4 : 0 ≤ x4_1
     ·
      rw [if_pos c4] at H
      have c4b0 : decide (0 ≤ x4_1) = true := zR c4; clear c4
      obtain ⟨t320, A50, H⟩ := zW_ H
      replace H : (if t320 = true then (spec_l05Dims.l0 k1 l0 (wrap64 (x3_1 * (rd l0 x4_1))) (wrap64 (x4_1 + 1))) else (some false)) = some r := H
      have A5 := yD A50
      clear A50
      by_cases c6 : t320 = true
      ·
       subst c6
       have H1 : (spec_l05Dims.l0 k1 l0 (wrap64 (x3_1 * (rd l0 x4_1))) (wrap64 (x4_1 + 1))) = some r := by rw [if_pos rfl] at H; exact H
       clear H; have H := H1; clear H1
       have H' := yD H
       clear H
       have p319 : 0 ≤ (x4_1 : Int) := zP (by assumption)
       have q319 : x4_1 < (l0.length : Int) := zP (by assumption)
       obtain ⟨ad319, e319, hx319_0⟩ := Kd.at_int HR0.out x4_1 p319 q319
       cases e319; replace p319 := eq_true p319; replace q319 := eq_true q319
       go_wp2_with (first | ((with_reducible refine gate_callee (f := 30) rfl ?_); refine goesL_ (some 18) rfl rfl Try.func30 (by kernel_rfl) rfl #[.int .i64 (rd l0 x4_1), .int .i64 0, .int .i64 40] rfl (by (try simp only [zK, zL, zM]); first | done | rfl | (simp only [zN, zO]; rfl)) ?_; (with_reducible refine (spec_l00In.calls (rd l0 x4_1) 0 40 true _ A5.out).mono ?_); rintro e w' ⟨rfl, ⟨nd, rfl⟩⟩; refine ⟨_, rfl, ?_⟩; have p321 : 0 ≤ (x4_1 : Int) := zP (by assumption); have q321 : x4_1 < (l0.length : Int) := zP (by assumption); obtain ⟨ad321, e321, hx321_0⟩ := Kd.at_int HR0.out x4_1 p321 q321; obtain rfl : ad319 = ad321 := (by injection e321); replace p321 := eq_true p321; replace q321 := eq_true q321))
       go_roundg k1
       case measure => have := HK1.out; omega
       case rel => exact ⟨(wrap64 (x3_1 * (rd l0 x4_1))), (wrap64 (x4_1 + 1)), (by first | rfl | (simp; done) | (simp [*]; done)), (by first | rfl | (simp; done) | (simp [*]; done)), H', ⟨by have := HK1.out; omega⟩, by repeat (first | exact Drawn0.refl _ | apply Drawn0.step)⟩
      ·
       replace c6 := Bool.eq_false_iff.mpr c6
       subst c6
       have H1 : (some false) = some r := by rw [if_neg (show ¬ (false = true) by decide)] at H; exact H
       clear H; have H := H1; clear H1; obtain rfl := Option.some.inj H
       have p319 : 0 ≤ (x4_1 : Int) := zP (by assumption)
       have q319 : x4_1 < (l0.length : Int) := zP (by assumption)
       obtain ⟨ad319, e319, hx319_0⟩ := Kd.at_int HR0.out x4_1 p319 q319
       cases e319; replace p319 := eq_true p319; replace q319 := eq_true q319
       go_wp2_with (first | ((with_reducible refine gate_callee (f := 30) rfl ?_); refine goesL_ (some 18) rfl rfl Try.func30 (by kernel_rfl) rfl #[.int .i64 (rd l0 x4_1), .int .i64 0, .int .i64 40] rfl (by (try simp only [zK, zL, zM]); first | done | rfl | (simp only [zN, zO]; rfl)) ?_; (with_reducible refine (spec_l00In.calls (rd l0 x4_1) 0 40 false _ A5.out).mono ?_); rintro e w' ⟨rfl, ⟨nd, rfl⟩⟩; refine ⟨_, rfl, ?_⟩))
       go_ret
       exact ⟨by first | rfl | (simp; done) | (simp [*]; done), by repeat (first | exact Drawn0.refl _ | apply Drawn0.step)⟩
     · rw [if_neg c4] at H
       exact absurd H (by simp)
    · rw [if_neg c3] at H
      have c3b0 : decide (x4_1 < (l0.length : Int)) = false := zS c3; clear c3; obtain rfl := Option.some.inj H
      go_wp2
      go_ret
      exact ⟨by first | rfl | (simp; done) | (simp [*]; done), by repeat (first | exact Drawn0.refl _ | apply Drawn0.step)⟩

/-! ### spec_ValidDims: function 9 -/
def spec_ValidDims.f (k : Nat) (l0 : List Int) : Option (Bool) := (spec_l05Dims.f k l0).bind fun t322 => (some t322)
theorem spec_ValidDims.mono : ∀ a0 k, LeO (spec_ValidDims.f k a0) (spec_ValidDims.f (k + 1) a0) := by
 intro a0 k
 unfold spec_ValidDims.f
 repeat' first
  | (with_reducible exact spec_l05Dims.mono _ _)
  | (with_reducible exact LeO.refl _)
  | (with_reducible exact LeO.none _)
  | (with_reducible refine LeO.ite ?_ ?_)
  | (with_reducible refine LeO.bind ?_ (fun _ => ?_))
  | exact spec_l05Dims.mono _ _
  | exact LeO.none _
  | refine LeO.ite ?_ ?_
  | refine LeO.bind ?_ (fun _ => ?_)
set_option maxHeartbeats 8000000 in
set_option maxRecDepth 100000 in
theorem spec_ValidDims.calls (k : Nat) (A0 : Option Addr) (c0 : Nat) (l0 : List Int) (r : Bool) (w : World) (hr0 : Kd.C (Kd.int .i64) w A0 l0.length l0) (hc0 : l0.length ≤ c0) (h : spec_ValidDims.f k l0 = some r) :
 Calls Try.prog 9 #[.slice A0 l0.length c0] w fun e w' => e = .returned (.bool r) ∧ Drawn0 w w' := by
 have HR0 := yD hr0
 have HC0 := yD hc0
 clear hr0 hc0
 have H : ((spec_l05Dims.f k l0).bind fun t322 => (some t322)) = some r := h
 clear h
 obtain ⟨t322, A20, H⟩ := zW_ H
 replace H : (some t322) = some r := H
 have A2 := yD A20
 clear A20; obtain rfl := Option.some.inj H; go_enter Try.func9, Try.ntmps9
 go_wp2_with (first | ((with_reducible refine gate_callee (f := 33) rfl ?_); refine goesL_ (some 4) rfl rfl Try.func33 (by kernel_rfl) rfl #[.slice A0 l0.length c0] rfl (by (try simp only [zK, zL, zM]); first | done | rfl | (simp only [zN, zO]; rfl)) ?_; (with_reducible refine (spec_l05Dims.calls k _ _ l0 t322 _ ?side1 ?side2 A2.out).mono ?_); (case side1 => repeat (first | exact HR0.out | (with_reducible first | refine yV ?_ _ | refine yW ?_ _ | refine yX ?_))); (case side2 => exact HC0.out); rintro e w' ⟨rfl, ⟨nd, rfl⟩⟩; refine ⟨_, rfl, ?_⟩))
 go_ret
 exact ⟨by first | rfl | (simp; done) | (simp [*]; done), by repeat (first | exact Drawn0.refl _ | apply Drawn0.step)⟩

end Go.Proofs.Ytgpkkplabnliiaa.PFnRanges
