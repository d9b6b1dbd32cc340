/- Each Go function here comes to what the plain function of its name says, where that says something. Made by a program of this session, over the print. -/
import Derived.Test.YtlfjepcmlgfogaaPFnExactCutBoxx0
import Derived.Test.YtlfjepcmlgfogaaPFnExactCutBoxx3
namespace Go.Proofs.Ytlfjepcmlgfogaa.PFnExactCutBox
open Go.RowKit Go.Proofs.YtlfjepcmlgfogaaW.PrintWords Go.Proofs.YtlfjepcmlgfogaaW.PrintLast Go.Proofs.YtlfjepcmlgfogaaW.PrintMore
attribute [local go_sem] max2_int min2_int max_two min_two max_three min_three max_four min_four   -- for this text's walks alone
set_option linter.unusedVariables false
set_option linter.unusedSimpArgs false

/-! ### impl_CutBox: function 9 -/
mutual
def impl_CutBox.j0 : Nat → Bool → List Int → List Int → List Int → List Int → Option (List Int × List Int × Bool)
  | 0, _, _, _, _, _ => none
  | k + 1, x24, x147000, x147001, x148000, x148001 => if x24 = true then (some (([] : List Int), ([] : List Int), false)) else (impl_CutBox.l0 k (x147000.length : Int) 0 x147000 x147001 x148000 x148001 ([] : List Int) ([] : List Int))
def impl_CutBox.l0 : Nat → Int → Int → List Int → List Int → List Int → List Int → List Int → List Int → Option (List Int × List Int × Bool)
  | 0, _, _, _, _, _, _, _, _ => none
  | k + 1, x28, x29, x147000, x147001, x148000, x148001, x152000, x152001 => if x29 < x28 then (if 0 ≤ x29 then (if x29 < (x147000.length : Int) then (if x29 < (x148000.length : Int) then (if x152000.length < 17592186044416 then (if x29 < (x147001.length : Int) then (if x29 < (x148001.length : Int) then (if x152001.length < 17592186044416 then (impl_CutBox.l0 k x28 (wrap64 (x29 + 1)) x147000 x147001 x148000 x148001 (x152000 ++ [mx (rd x147000 x29) (rd x148000 x29)]) (x152001 ++ [mn (rd x147001 x29) (rd x148001 x29)])) else (none)) else (none)) else (none)) else (none)) else (none)) else (none)) else (none)) else ((impl_ValidBox.f k x152000 x152001).bind fun t162 => (if t162 = true then (some (x152000, x152001, true)) else (some (([] : List Int), ([] : List Int), false))))
end
def impl_CutBox.f (k : Nat) (l0_0 : List Int) (l0_1 : List Int) (l1_0 : List Int) (l1_1 : List Int) : Option (List Int × List Int × Bool) := (impl_ValidBox.f k l0_0 l0_1).bind fun t149 => (if t149 = true then ((impl_ValidBox.f k l1_0 l1_1).bind fun t150 => (if t150 = true then (impl_CutBox.j0 k ((l0_0.length : Int) != (l1_0.length : Int)) l0_0 l0_1 l1_0 l1_1) else (impl_CutBox.j0 k true l0_0 l0_1 l1_0 l1_1))) else (impl_CutBox.j0 k true l0_0 l0_1 l1_0 l1_1))
theorem impl_CutBox.mono_l : ∀ k, (∀ y0 y1 y2 y3 y4, LeO (impl_CutBox.j0 k y0 y1 y2 y3 y4) (impl_CutBox.j0 (k + 1) y0 y1 y2 y3 y4)) ∧ (∀ y0 y1 y2 y3 y4 y5 y6 y7, LeO (impl_CutBox.l0 k y0 y1 y2 y3 y4 y5 y6 y7) (impl_CutBox.l0 (k + 1) y0 y1 y2 y3 y4 y5 y6 y7))
  | 0 => ⟨fun _ _ _ _ _ r h => by simp [impl_CutBox.j0] at h, fun _ _ _ _ _ _ _ _ r h => by simp [impl_CutBox.l0] at h⟩
  | k + 1 => by
    obtain ⟨ih0, ih1⟩ := impl_CutBox.mono_l k
    refine ⟨?_, ?_⟩
    · intro y0 y1 y2 y3 y4
      unfold impl_CutBox.j0
      repeat' first
      | (with_reducible exact ih0 _ _ _ _ _)
      | (with_reducible exact ih1 _ _ _ _ _ _ _ _)
      | (with_reducible exact impl_ValidBox.mono _ _ _)
      | (with_reducible exact LeO.refl _)
      | (with_reducible exact LeO.none _)
      | (with_reducible refine LeO.ite ?_ ?_)
      | (with_reducible refine LeO.bind ?_ (fun _ => ?_))
      | exact ih0 _ _ _ _ _
      | exact ih1 _ _ _ _ _ _ _ _
      | exact impl_ValidBox.mono _ _ _
      | exact LeO.none _
      | refine LeO.ite ?_ ?_
      | refine LeO.bind ?_ (fun _ => ?_)
    · intro y0 y1 y2 y3 y4 y5 y6 y7
      unfold impl_CutBox.l0
      repeat' first
      | (with_reducible exact ih0 _ _ _ _ _)
      | (with_reducible exact ih1 _ _ _ _ _ _ _ _)
      | (with_reducible exact impl_ValidBox.mono _ _ _)
      | (with_reducible exact LeO.refl _)
      | (with_reducible exact LeO.none _)
      | (with_reducible refine LeO.ite ?_ ?_)
      | (with_reducible refine LeO.bind ?_ (fun _ => ?_))
      | exact ih0 _ _ _ _ _
      | exact ih1 _ _ _ _ _ _ _ _
      | exact impl_ValidBox.mono _ _ _
      | exact LeO.none _
      | refine LeO.ite ?_ ?_
      | refine LeO.bind ?_ (fun _ => ?_)
theorem impl_CutBox.mono : ∀ a0 a1 a2 a3 k, LeO (impl_CutBox.f k a0 a1 a2 a3) (impl_CutBox.f (k + 1) a0 a1 a2 a3) := by
  intro a0 a1 a2 a3 k
  obtain ⟨ih0, ih1⟩ := impl_CutBox.mono_l k
  unfold impl_CutBox.f
  repeat' first
      | (with_reducible exact ih0 _ _ _ _ _)
      | (with_reducible exact ih1 _ _ _ _ _ _ _ _)
      | (with_reducible exact impl_ValidBox.mono _ _ _)
      | (with_reducible exact LeO.refl _)
      | (with_reducible exact LeO.none _)
      | (with_reducible refine LeO.ite ?_ ?_)
      | (with_reducible refine LeO.bind ?_ (fun _ => ?_))
      | exact ih0 _ _ _ _ _
      | exact ih1 _ _ _ _ _ _ _ _
      | exact impl_ValidBox.mono _ _ _
      | exact LeO.none _
      | refine LeO.ite ?_ ?_
      | refine LeO.bind ?_ (fun _ => ?_)
def impl_CutBox.T7 : Bool × List (List Nat × List Nat) := (true, [([], []), ([0], [0]), ([], []), ([2], [2]), ([], []), ([3, 4], [3, 4]), ([5], [5]), ([], []), ([7], [7]), ([], []), ([8, 9], [8, 9]), ([10], [10]), ([6, 11], [6, 11]), ([12], [12]), ([1, 13], [1, 13]), ([0, 1, 2, 3, 4, 5, 6, 7, 8, 9, 10, 11, 12, 13, 14], []), ([15, 14, 14, 0, 1, 2, 3, 4, 5, 6, 7, 8, 9, 10, 11, 12, 13, 14], [14, 15])])
def impl_CutBox.B7 : List Nat := [0, 1, 0, 4, 0, 28, 60, 0, 128, 0, 896, 1920, 4092, 8188, 16383, 32767, 65535]
theorem impl_CutBox.tab7 : rtab .any (opsOf Try.f9 7) = impl_CutBox.T7 := by kernel_rfl
theorem impl_CutBox.bits7 : waitsOk impl_CutBox.T7.2 impl_CutBox.B7 = true := by kernel_rfl
def impl_CutBox.T8 : Bool × List (List Nat × List Nat) := (true, [([], []), ([0], [0]), ([], []), ([2], [2]), ([], []), ([3, 4], [3, 4]), ([5], [5]), ([], []), ([7], [7]), ([], []), ([8, 9], [8, 9]), ([10], [10]), ([6, 11], [6, 11]), ([12], [12]), ([1, 13], [1, 13]), ([0, 1, 2, 3, 4, 5, 6, 7, 8, 9, 10, 11, 12, 13, 14], []), ([15, 14, 14, 0, 1, 2, 3, 4, 5, 6, 7, 8, 9, 10, 11, 12, 13, 14], [14, 15])])
def impl_CutBox.B8 : List Nat := [0, 1, 0, 4, 0, 28, 60, 0, 128, 0, 896, 1920, 4092, 8188, 16383, 32767, 65535]
theorem impl_CutBox.tab8 : rtab .any (opsOf Try.f9 8) = impl_CutBox.T8 := by kernel_rfl
theorem impl_CutBox.bits8 : waitsOk impl_CutBox.T8.2 impl_CutBox.B8 = true := by kernel_rfl
set_option maxHeartbeats 8000000 in
set_option maxRecDepth 100000 in
theorem impl_CutBox.calls (k : Nat) (A0_0 : Option Addr) (c0_0 : Nat) (l0_0 : List Int) (A0_1 : Option Addr) (c0_1 : Nat) (l0_1 : List Int) (A1_0 : Option Addr) (c1_0 : Nat) (l1_0 : List Int) (A1_1 : Option Addr) (c1_1 : Nat) (l1_1 : List Int) (r1 : List Int) (r2 : List Int) (r3 : Bool) (w : World) (hr0_0 : Kd.C (Kd.int .i64) w A0_0 l0_0.length l0_0) (hc0_0 : l0_0.length ≤ c0_0) (hr0_1 : Kd.C (Kd.int .i64) w A0_1 l0_1.length l0_1) (hc0_1 : l0_1.length ≤ c0_1) (hr1_0 : Kd.C (Kd.int .i64) w A1_0 l1_0.length l1_0) (hc1_0 : l1_0.length ≤ c1_0) (hr1_1 : Kd.C (Kd.int .i64) w A1_1 l1_1.length l1_1) (hc1_1 : l1_1.length ≤ c1_1) (h : impl_CutBox.f k l0_0 l0_1 l1_0 l1_1 = some (r1, r2, r3)) :
    Calls Try.prog 9 #[.agg #[.slice A0_0 l0_0.length c0_0, .slice A0_1 l0_1.length c0_1], .agg #[.slice A1_0 l1_0.length c1_0, .slice A1_1 l1_1.length c1_1]] w fun e w' => ∃ v0_ v1_ : Value, e = .returned (.tuple #[.agg #[v0_, v1_], .bool r3]) ∧ Kd.R (Kd.int .i64) 2 w' w.heap.size (fun k_ => some k_ ≠ (v1_ : Value).ownBlock) v0_ r1 ∧ Kd.R (Kd.int .i64) 2 w' w.heap.size (fun k_ => some k_ ≠ (v0_ : Value).ownBlock) v1_ r2 ∧ Below w.heap.size w w' := by
  have hu26 := Try.underlying26
  have HR0_0 := yD hr0_0
  have HC0_0 := yD hc0_0
  clear hr0_0 hc0_0
  have HR0_1 := yD hr0_1
  have HC0_1 := yD hc0_1
  clear hr0_1 hc0_1
  have HR1_0 := yD hr1_0
  have HC1_0 := yD hc1_0
  clear hr1_0 hc1_0
  have HR1_1 := yD hr1_1
  have HC1_1 := yD hc1_1
  clear hr1_1 hc1_1
  have HB := yD (Below.refl w.heap.size w)
  have H : ((impl_ValidBox.f k l0_0 l0_1).bind fun t149 => (if t149 = true then ((impl_ValidBox.f k l1_0 l1_1).bind fun t150 => (if t150 = true then (impl_CutBox.j0 k ((l0_0.length : Int) != (l1_0.length : Int)) l0_0 l0_1 l1_0 l1_1) else (impl_CutBox.j0 k true l0_0 l0_1 l1_0 l1_1))) else (impl_CutBox.j0 k true l0_0 l0_1 l1_0 l1_1))) = some (r1, r2, r3) := h
  clear h
  have HC3 := yD H
  clear H; go_enter Try.func9, Try.ntmps9
  go_upto_region 1 with (first | ((with_reducible refine gate_dst (N := 2) rfl ?_); (try (refine gate_guard (by rfl) ?_; dsimp only)); refine box_event ?hg (N := 2) ?hd (cs := #[.slice A0_0 l0_0.length c0_0, .slice A0_1 l0_1.length c0_1]) (t := 26) ?hr ?_; (case hd => rfl); (case hg => rfl); (case hr => first | (go_simp; done) | (go_simp; rfl)); intro gb146 hg w4 hbox hb; have n0_ := yD (zC (kB HB) hb); have n1_ := yD (hbox); have n2_ := yD ((by rw [hg]; exact (below_size (kB HB)) : w.heap.size ≤ gb146)); have n3_ := yD ((by rw [hg]; exact (below_size (kB HB)) : w.heap.size ≤ gb146)); clear HB; have HB := n0_; have BK146 := n1_; have GW146 := n2_; have GE146 := n3_; clear n0_ n1_ n2_ n3_; clear hb hbox hg) | ((with_reducible refine gate_dst (N := 3) rfl ?_); (try (refine gate_guard (by rfl) ?_; dsimp only)); refine box_event ?hg (N := 3) ?hd (cs := #[.slice A1_0 l1_0.length c1_0, .slice A1_1 l1_1.length c1_1]) (t := 26) ?hr ?_; (case hd => rfl); (case hg => rfl); (case hr => first | (go_simp; done) | (go_simp; rfl)); intro gb147 hg w5 hbox hb; have n0_ := yD (zB (g := gb146) (o := .cells #[.slice A0_0 l0_0.length c0_0, .slice A0_1 l0_1.length c0_1] 26 (0, 0)) (kM BK146) hb); have n1_ := yD (zC (kB HB) hb); have n2_ := yD (hbox); have n3_ := yD ((by rw [hg]; exact (below_size (kB HB)) : w.heap.size ≤ gb147)); have n4_ := yD ((by rw [hg]; exact (below_size (kB HB)) : w.heap.size ≤ gb147)); have n5_ := yD ((by rw [hg]; exact Nat.ne_of_lt (blk_lt (g := gb146) (o := .cells #[.slice A0_0 l0_0.length c0_0, .slice A0_1 l0_1.length c0_1] 26 (0, 0)) (kM BK146)) : gb146 ≠ gb147)); have n6_ := yD ((by rw [hg]; exact Nat.ne_of_gt (blk_lt (g := gb146) (o := .cells #[.slice A0_0 l0_0.length c0_0, .slice A0_1 l0_1.length c0_1] 26 (0, 0)) (kM BK146)) : gb147 ≠ gb146)); clear BK146; clear HB; have BK146 := n0_; have HB := n1_; have BK147 := n2_; have GW147 := n3_; have GE147 := n4_; have NB146_147 := n5_; have NB147_146 := n6_; clear n0_ n1_ n2_ n3_ n4_ n5_ n6_; clear hb hbox hg) | ((with_reducible refine gate_dst (N := 4) rfl ?_); (try (refine gate_guard (by rfl) ?_; dsimp only)); refine box_event ?hg (N := 4) ?hd (cs := #[.slice none 0 0, .slice none 0 0]) (t := 26) ?hr ?_; (case hd => rfl); (case hg => rfl); (case hr => first | (go_simp; done) | (go_simp; rfl)); intro gb148 hg w6 hbox hb; have n0_ := yD (zB (g := gb146) (o := .cells #[.slice A0_0 l0_0.length c0_0, .slice A0_1 l0_1.length c0_1] 26 (0, 0)) (kM BK146) hb); have n1_ := yD (zB (g := gb147) (o := .cells #[.slice A1_0 l1_0.length c1_0, .slice A1_1 l1_1.length c1_1] 26 (0, 0)) (kM BK147) hb); have n2_ := yD (zC (kB HB) hb); have n3_ := yD (hbox); have n4_ := yD ((by rw [hg]; exact (below_size (kB HB)) : w.heap.size ≤ gb148)); have n5_ := yD ((by rw [hg]; exact (below_size (kB HB)) : w.heap.size ≤ gb148)); have n6_ := yD ((by rw [hg]; exact Nat.ne_of_lt (blk_lt (g := gb146) (o := .cells #[.slice A0_0 l0_0.length c0_0, .slice A0_1 l0_1.length c0_1] 26 (0, 0)) (kM BK146)) : gb146 ≠ gb148)); have n7_ := yD ((by rw [hg]; exact Nat.ne_of_gt (blk_lt (g := gb146) (o := .cells #[.slice A0_0 l0_0.length c0_0, .slice A0_1 l0_1.length c0_1] 26 (0, 0)) (kM BK146)) : gb148 ≠ gb146)); have n8_ := yD ((by rw [hg]; exact Nat.ne_of_lt (blk_lt (g := gb147) (o := .cells #[.slice A1_0 l1_0.length c1_0, .slice A1_1 l1_1.length c1_1] 26 (0, 0)) (kM BK147)) : gb147 ≠ gb148)); have n9_ := yD ((by rw [hg]; exact Nat.ne_of_gt (blk_lt (g := gb147) (o := .cells #[.slice A1_0 l1_0.length c1_0, .slice A1_1 l1_1.length c1_1] 26 (0, 0)) (kM BK147)) : gb148 ≠ gb147)); clear BK146; clear BK147; clear HB; have BK146 := n0_; have BK147 := n1_; have HB := n2_; have BK148 := n3_; have GW148 := n4_; have GE148 := n5_; have NB146_148 := n6_; have NB148_146 := n7_; have NB147_148 := n8_; have NB148_147 := n9_; clear n0_ n1_ n2_ n3_ n4_ n5_ n6_ n7_ n8_ n9_; clear hb hbox hg))
  (try simp only [Act.put, zH, zI, zJ])
  go_cut [24] (fun v24 wc => ∃ (kq : Nat) (x24_2 : Bool), v24 = .bool x24_2 ∧ Aside0 (impl_CutBox.j0 kq x24_2 l0_0 l0_1 l1_0 l1_1 = some (r1, r2, r3)) ∧ Aside0 (kq ≤ k) ∧ Aside0 (wc.heap[gb146]? = some (.cells #[(.slice A0_0 l0_0.length c0_0), (.slice A0_1 l0_1.length c0_1)] 26 (0, 0))) ∧ Aside0 (wc.heap[gb147]? = some (.cells #[(.slice A1_0 l1_0.length c1_0), (.slice A1_1 l1_1.length c1_1)] 26 (0, 0))) ∧ Aside0 (wc.heap[gb148]? = some (.cells #[(.slice none 0 0), (.slice none 0 0)] 26 (0, 0))) ∧ Aside0 (Below w.heap.size w wc))
  case first =>
    have H := HC3.out; clear HC3
    obtain ⟨t149, A70, H⟩ := zW_ H
    replace H : (if t149 = true then ((impl_ValidBox.f k l1_0 l1_1).bind fun t150 => (if t150 = true then (impl_CutBox.j0 k ((l0_0.length : Int) != (l1_0.length : Int)) l0_0 l0_1 l1_0 l1_1) else (impl_CutBox.j0 k true l0_0 l0_1 l1_0 l1_1))) else (impl_CutBox.j0 k true l0_0 l0_1 l1_0 l1_1)) = some (r1, r2, r3) := H
    have A7 := yD A70
    clear A70
    by_cases c8 : t149 = true
    · subst c8
      have H1 : ((impl_ValidBox.f k l1_0 l1_1).bind fun t150 => (if t150 = true then (impl_CutBox.j0 k ((l0_0.length : Int) != (l1_0.length : Int)) l0_0 l0_1 l1_0 l1_1) else (impl_CutBox.j0 k true l0_0 l0_1 l1_0 l1_1))) = some (r1, r2, r3) := by rw [if_pos rfl] at H; exact H
      clear H; have H := H1; clear H1
      obtain ⟨t150, A90, H⟩ := zW_ H
      replace H : (if t150 = true then (impl_CutBox.j0 k ((l0_0.length : Int) != (l1_0.length : Int)) l0_0 l0_1 l1_0 l1_1) else (impl_CutBox.j0 k true l0_0 l0_1 l1_0 l1_1)) = some (r1, r2, r3) := H
      have A9 := yD A90
      clear A90
      by_cases c10 : t150 = true
      · subst c10
        have H1 : (impl_CutBox.j0 k ((l0_0.length : Int) != (l1_0.length : Int)) l0_0 l0_1 l1_0 l1_1) = some (r1, r2, r3) := by rw [if_pos rfl] at H; exact H
        clear H; have H := H1; clear H1
        have H' := yD H
        clear H; have hnb11 := NB146_147.out; have hnc11 := NB147_146.out; have hnb12 := NB146_148.out; have hnc12 := NB148_146.out
        obtain ⟨hcz13_0, hcz13_1⟩ := cz2 BK146.out
        obtain ⟨hfz13_0, hfz13_1⟩ := fz2 BK146.out
        go_wp2_with (first | ((with_reducible refine gate_callee (f := 26) rfl ?_); refine goesL_ (some 9) rfl rfl Try.func26 (by kernel_rfl) rfl #[.agg #[.slice A0_0 l0_0.length c0_0, .slice A0_1 l0_1.length c0_1]] rfl (by (try simp only [zK, zL, zM]); first | done | rfl | (simp only [zN, zO]; rfl)) ?_; (with_reducible refine (impl_ValidBox.calls k _ _ l0_0 _ _ l0_1 true _ ?side1 ?side2 ?side3 ?side4 A7.out).mono ?_); (case side1 => exact kV (yY HR0_0.out HB.out)); (case side2 => exact HC0_0.out); (case side3 => exact kV (yY HR0_1.out HB.out)); (case side4 => exact HC0_1.out); rintro e w14 ⟨rfl, hb⟩; refine ⟨_, rfl, ?_⟩; have n0_ := yD (zB (g := gb146) (o := .cells #[.slice A0_0 l0_0.length c0_0, .slice A0_1 l0_1.length c0_1] 26 (0, 0)) (kM BK146) hb); have n1_ := yD (zB (g := gb147) (o := .cells #[.slice A1_0 l1_0.length c1_0, .slice A1_1 l1_1.length c1_1] 26 (0, 0)) (kM BK147) hb); have n2_ := yD (zB (g := gb148) (o := .cells #[.slice none 0 0, .slice none 0 0] 26 (0, 0)) (kM BK148) hb); have n3_ := yD (zC (kB HB) hb); clear BK146; clear BK147; clear BK148; clear HB; have BK146 := n0_; have BK147 := n1_; have BK148 := n2_; have HB := n3_; clear n0_ n1_ n2_ n3_; (try clear hb); (try clear hb2); (try clear hk); (try clear hi); have hnb15 := NB147_148.out; have hnc15 := NB148_147.out; obtain ⟨hcz16_0, hcz16_1⟩ := cz2 BK147.out; obtain ⟨hfz16_0, hfz16_1⟩ := fz2 BK147.out) | (go_at_call 26; (with_reducible refine (impl_ValidBox.calls k _ _ l1_0 _ _ l1_1 true _ ?side1 ?side2 ?side3 ?side4 A9.out).mono ?_); (case side1 => exact kV (yY HR1_0.out HB.out)); (case side2 => exact HC1_0.out); (case side3 => exact kV (yY HR1_1.out HB.out)); (case side4 => exact HC1_1.out); rintro e w17 ⟨rfl, hb⟩; have n0_ := yD (zB (g := gb146) (o := .cells #[.slice A0_0 l0_0.length c0_0, .slice A0_1 l0_1.length c0_1] 26 (0, 0)) (kM BK146) hb); have n1_ := yD (zB (g := gb147) (o := .cells #[.slice A1_0 l1_0.length c1_0, .slice A1_1 l1_1.length c1_1] 26 (0, 0)) (kM BK147) hb); have n2_ := yD (zB (g := gb148) (o := .cells #[.slice none 0 0, .slice none 0 0] 26 (0, 0)) (kM BK148) hb); have n3_ := yD (zC (kB HB) hb); clear BK146; clear BK147; clear BK148; clear HB; have BK146 := n0_; have BK147 := n1_; have BK148 := n2_; have HB := n3_; clear n0_ n1_ n2_ n3_; (try clear hb); (try clear hb2); (try clear hk); (try clear hi); obtain ⟨hcz18_0, hcz18_1⟩ := cz2 BK146.out; obtain ⟨hfz18_0, hfz18_1⟩ := fz2 BK146.out; obtain ⟨hcz19_0, hcz19_1⟩ := cz2 BK147.out; obtain ⟨hfz19_0, hfz19_1⟩ := fz2 BK147.out))
        go_meet
        case rel => exact ⟨_, (((l0_0.length : Int) != (l1_0.length : Int))), (by first | rfl | (simp; done) | (simp [*]; done)), H', ⟨by first | omega | exact Nat.le_refl _⟩, ⟨by (with_reducible repeat (first | refine yM ?_ _ | refine yO ?_ | refine yN ?_ _)); exact BK146.out⟩, ⟨by (with_reducible repeat (first | refine yM ?_ _ | refine yO ?_ | refine yN ?_ _)); exact BK147.out⟩, ⟨by (with_reducible repeat (first | refine yM ?_ _ | refine yO ?_ | refine yN ?_ _)); exact BK148.out⟩, ⟨by repeat (first | (with_reducible first | exact HB.out | apply yQ | apply yL | apply yP | refine yE ?_ GE146.out | refine yE ?_ GE147.out | refine yE ?_ GE148.out) | exact HB.out)⟩⟩
      · replace c10 := Bool.eq_false_iff.mpr c10
        subst c10
        have H1 : (impl_CutBox.j0 k true l0_0 l0_1 l1_0 l1_1) = some (r1, r2, r3) := by rw [if_neg (show ¬ (false = true) by decide)] at H; exact H
        clear H; have H := H1; clear H1
        have H' := yD H
        clear H; have hnb20 := NB146_147.out; have hnc20 := NB147_146.out; have hnb21 := NB146_148.out; have hnc21 := NB148_146.out
        obtain ⟨hcz22_0, hcz22_1⟩ := cz2 BK146.out
        obtain ⟨hfz22_0, hfz22_1⟩ := fz2 BK146.out
        go_wp2_with (first | ((with_reducible refine gate_callee (f := 26) rfl ?_); refine goesL_ (some 9) rfl rfl Try.func26 (by kernel_rfl) rfl #[.agg #[.slice A0_0 l0_0.length c0_0, .slice A0_1 l0_1.length c0_1]] rfl (by (try simp only [zK, zL, zM]); first | done | rfl | (simp only [zN, zO]; rfl)) ?_; (with_reducible refine (impl_ValidBox.calls k _ _ l0_0 _ _ l0_1 true _ ?side1 ?side2 ?side3 ?side4 A7.out).mono ?_); (case side1 => exact kV (yY HR0_0.out HB.out)); (case side2 => exact HC0_0.out); (case side3 => exact kV (yY HR0_1.out HB.out)); (case side4 => exact HC0_1.out); rintro e w23 ⟨rfl, hb⟩; refine ⟨_, rfl, ?_⟩; have n0_ := yD (zB (g := gb146) (o := .cells #[.slice A0_0 l0_0.length c0_0, .slice A0_1 l0_1.length c0_1] 26 (0, 0)) (kM BK146) hb); have n1_ := yD (zB (g := gb147) (o := .cells #[.slice A1_0 l1_0.length c1_0, .slice A1_1 l1_1.length c1_1] 26 (0, 0)) (kM BK147) hb); have n2_ := yD (zB (g := gb148) (o := .cells #[.slice none 0 0, .slice none 0 0] 26 (0, 0)) (kM BK148) hb); have n3_ := yD (zC (kB HB) hb); clear BK146; clear BK147; clear BK148; clear HB; have BK146 := n0_; have BK147 := n1_; have BK148 := n2_; have HB := n3_; clear n0_ n1_ n2_ n3_; (try clear hb); (try clear hb2); (try clear hk); (try clear hi); have hnb24 := NB147_148.out; have hnc24 := NB148_147.out; obtain ⟨hcz25_0, hcz25_1⟩ := cz2 BK147.out; obtain ⟨hfz25_0, hfz25_1⟩ := fz2 BK147.out) | (go_at_call 26; (with_reducible refine (impl_ValidBox.calls k _ _ l1_0 _ _ l1_1 false _ ?side1 ?side2 ?side3 ?side4 A9.out).mono ?_); (case side1 => exact kV (yY HR1_0.out HB.out)); (case side2 => exact HC1_0.out); (case side3 => exact kV (yY HR1_1.out HB.out)); (case side4 => exact HC1_1.out); rintro e w26 ⟨rfl, hb⟩; have n0_ := yD (zB (g := gb146) (o := .cells #[.slice A0_0 l0_0.length c0_0, .slice A0_1 l0_1.length c0_1] 26 (0, 0)) (kM BK146) hb); have n1_ := yD (zB (g := gb147) (o := .cells #[.slice A1_0 l1_0.length c1_0, .slice A1_1 l1_1.length c1_1] 26 (0, 0)) (kM BK147) hb); have n2_ := yD (zB (g := gb148) (o := .cells #[.slice none 0 0, .slice none 0 0] 26 (0, 0)) (kM BK148) hb); have n3_ := yD (zC (kB HB) hb); clear BK146; clear BK147; clear BK148; clear HB; have BK146 := n0_; have BK147 := n1_; have BK148 := n2_; have HB := n3_; clear n0_ n1_ n2_ n3_; (try clear hb); (try clear hb2); (try clear hk); (try clear hi)))
        go_meet
        case rel => exact ⟨_, (true), (by first | rfl | (simp; done) | (simp [*]; done)), H', ⟨by first | omega | exact Nat.le_refl _⟩, ⟨by (with_reducible repeat (first | refine yM ?_ _ | refine yO ?_ | refine yN ?_ _)); exact BK146.out⟩, ⟨by (with_reducible repeat (first | refine yM ?_ _ | refine yO ?_ | refine yN ?_ _)); exact BK147.out⟩, ⟨by (with_reducible repeat (first | refine yM ?_ _ | refine yO ?_ | refine yN ?_ _)); exact BK148.out⟩, ⟨by repeat (first | (with_reducible first | exact HB.out | apply yQ | apply yL | apply yP | refine yE ?_ GE146.out | refine yE ?_ GE147.out | refine yE ?_ GE148.out) | exact HB.out)⟩⟩
    · replace c8 := Bool.eq_false_iff.mpr c8
      subst c8
      have H1 : (impl_CutBox.j0 k true l0_0 l0_1 l1_0 l1_1) = some (r1, r2, r3) := by rw [if_neg (show ¬ (false = true) by decide)] at H; exact H
      clear H; have H := H1; clear H1
      have H' := yD H
      clear H; have hnb27 := NB146_147.out; have hnc27 := NB147_146.out; have hnb28 := NB146_148.out; have hnc28 := NB148_146.out
      obtain ⟨hcz29_0, hcz29_1⟩ := cz2 BK146.out
      obtain ⟨hfz29_0, hfz29_1⟩ := fz2 BK146.out
      go_wp2_with (first | ((with_reducible refine gate_callee (f := 26) rfl ?_); refine goesL_ (some 9) rfl rfl Try.func26 (by kernel_rfl) rfl #[.agg #[.slice A0_0 l0_0.length c0_0, .slice A0_1 l0_1.length c0_1]] rfl (by (try simp only [zK, zL, zM]); first | done | rfl | (simp only [zN, zO]; rfl)) ?_; (with_reducible refine (impl_ValidBox.calls k _ _ l0_0 _ _ l0_1 false _ ?side1 ?side2 ?side3 ?side4 A7.out).mono ?_); (case side1 => exact kV (yY HR0_0.out HB.out)); (case side2 => exact HC0_0.out); (case side3 => exact kV (yY HR0_1.out HB.out)); (case side4 => exact HC0_1.out); rintro e w30 ⟨rfl, hb⟩; refine ⟨_, rfl, ?_⟩; have n0_ := yD (zB (g := gb146) (o := .cells #[.slice A0_0 l0_0.length c0_0, .slice A0_1 l0_1.length c0_1] 26 (0, 0)) (kM BK146) hb); have n1_ := yD (zB (g := gb147) (o := .cells #[.slice A1_0 l1_0.length c1_0, .slice A1_1 l1_1.length c1_1] 26 (0, 0)) (kM BK147) hb); have n2_ := yD (zB (g := gb148) (o := .cells #[.slice none 0 0, .slice none 0 0] 26 (0, 0)) (kM BK148) hb); have n3_ := yD (zC (kB HB) hb); clear BK146; clear BK147; clear BK148; clear HB; have BK146 := n0_; have BK147 := n1_; have BK148 := n2_; have HB := n3_; clear n0_ n1_ n2_ n3_; (try clear hb); (try clear hb2); (try clear hk); (try clear hi)))
      go_meet
      case rel => exact ⟨_, (true), (by first | rfl | (simp; done) | (simp [*]; done)), H', ⟨by first | omega | exact Nat.le_refl _⟩, ⟨by (with_reducible repeat (first | refine yM ?_ _ | refine yO ?_ | refine yN ?_ _)); exact BK146.out⟩, ⟨by (with_reducible repeat (first | refine yM ?_ _ | refine yO ?_ | refine yN ?_ _)); exact BK147.out⟩, ⟨by (with_reducible repeat (first | refine yM ?_ _ | refine yO ?_ | refine yN ?_ _)); exact BK148.out⟩, ⟨by repeat (first | (with_reducible first | exact HB.out | apply yQ | apply yL | apply yP | refine yE ?_ GE146.out | refine yE ?_ GE147.out | refine yE ?_ GE148.out) | exact HB.out)⟩⟩
  case rest =>
    clear HC3; try clear c1; try clear c2; try clear p2; try clear c8; try clear c9; try clear c10; try clear c11; try clear c12; try clear c15; try clear c20; try clear c21; try clear c24; try clear c26; try clear c27; try clear c28; try clear hcz13_0; try clear hcz13_1; try clear hcz16_0; try clear hcz16_1; try clear hcz18_0; try clear hcz18_1; try clear hcz19_0; try clear hcz19_1; try clear hcz22_0; try clear hcz22_1; try clear hcz25_0; try clear hcz25_1; try clear hcz29_0; try clear hcz29_1; try clear hfz13_0; try clear hfz13_1; try clear hfz16_0; try clear hfz16_1; try clear hfz18_0; try clear hfz18_1; try clear hfz19_0; try clear hfz19_1; try clear hfz22_0; try clear hfz22_1; try clear hfz25_0; try clear hfz25_1; try clear hfz29_0; try clear hfz29_1
    obtain ⟨kq, x24_2, rfl, HA, HJ2, BK146, BK147, BK148, HB⟩ := hcut
    cases kq with
    | zero => exact absurd HA.out (by simp [impl_CutBox.j0])
    | succ kj2 =>
      have H := HA.out; clear HA
      simp only [impl_CutBox.j0] at H
      by_cases c31 : x24_2 = true
      · subst c31
        have H1 : (some (([] : List Int), ([] : List Int), false)) = some (r1, r2, r3) := by rw [if_pos rfl] at H; exact H
        clear H; have H := H1; clear H1
        simp only [Option.some.injEq, Prod.mk.injEq] at H
        obtain ⟨rfl, rfl, rfl⟩ := H
        have hnb32 := NB148_146.out; have hnc32 := NB146_148.out; have hnb33 := NB148_147.out; have hnc33 := NB147_148.out
        obtain ⟨hcz34_0, hcz34_1⟩ := cz2 BK148.out
        obtain ⟨hfz34_0, hfz34_1⟩ := fz2 BK148.out
        go_wp2
        refine bodyPost_ret (results_ct rfl _ _ gb148 26 #[.slice none 0 0, .slice none 0 0] (0, 0) _ rfl (by (with_reducible repeat (first | refine yM ?_ _ | refine yO ?_ | refine yN ?_ _)); refine blk_put (cs := #[.slice none 0 0, .slice none 0 0]) ?_ 1 _ rfl; (with_reducible repeat (first | refine yM ?_ _ | refine yO ?_ | refine yN ?_ _)); refine blk_put (cs := #[.slice none 0 0, .slice none 0 0]) ?_ 0 _ rfl; (with_reducible repeat (first | refine yM ?_ _ | refine yO ?_ | refine yN ?_ _)); exact BK148.out) Try.underlying26 rfl (by kernel_rfl)) rfl ?_
        exact ⟨_, _, by first | rfl | (simp <;> rfl) | (simp [*] <;> rfl), by first | exact Kd.R_nil _ _ _ _ _ | exact Kd.N_nil _ _ _ _ _ | exact Kd.V_nil _ _ _ _ _ | exact Kd.Q_nil _ _ _ _ _ | exact Kd.S_nil _ _ _ _ _, by first | exact Kd.R_nil _ _ _ _ _ | exact Kd.N_nil _ _ _ _ _ | exact Kd.V_nil _ _ _ _ _ | exact Kd.Q_nil _ _ _ _ _ | exact Kd.S_nil _ _ _ _ _, by repeat (first | (with_reducible first | exact HB.out | apply yQ | apply yL | apply yP | refine yE ?_ GE146.out | refine yE ?_ GE147.out | refine yE ?_ GE148.out) | exact HB.out)⟩
      · replace c31 := Bool.eq_false_iff.mpr c31
        subst c31
        have H1 : (impl_CutBox.l0 kj2 (l0_0.length : Int) 0 l0_0 l0_1 l1_0 l1_1 ([] : List Int) ([] : List Int)) = some (r1, r2, r3) := by rw [if_neg (show ¬ (false = true) by decide)] at H; exact H
        clear H; have H := H1; clear H1
        have H' := yD H
        clear H
        go_wp2_with (first | ((with_reducible refine gate_dst (N := 6) rfl ?_); (try (refine gate_guard (by rfl) ?_; dsimp only)); refine box_event ?hg (N := 6) ?hd (cs := #[.slice none 0 0, .slice none 0 0]) (t := 26) ?hr ?_; (case hd => rfl); (case hg => rfl); (case hr => first | (go_simp; done) | (go_simp; rfl)); intro gb151 hg w35 hbox hb; have n0_ := yD (zB (g := gb146) (o := .cells #[.slice A0_0 l0_0.length c0_0, .slice A0_1 l0_1.length c0_1] 26 (0, 0)) (kM BK146) hb); have n1_ := yD (zB (g := gb147) (o := .cells #[.slice A1_0 l1_0.length c1_0, .slice A1_1 l1_1.length c1_1] 26 (0, 0)) (kM BK147) hb); have n2_ := yD (zB (g := gb148) (o := .cells #[.slice none 0 0, .slice none 0 0] 26 (0, 0)) (kM BK148) hb); have n3_ := yD (zC (kB HB) hb); have n4_ := yD (hbox); have n5_ := yD ((by rw [hg]; exact (below_size (kB HB)) : w.heap.size ≤ gb151)); have n6_ := yD ((by rw [hg]; exact (below_size (kB HB)) : w.heap.size ≤ gb151)); have n7_ := yD ((by rw [hg]; exact Nat.ne_of_lt (blk_lt (g := gb146) (o := .cells #[.slice A0_0 l0_0.length c0_0, .slice A0_1 l0_1.length c0_1] 26 (0, 0)) (kM BK146)) : gb146 ≠ gb151)); have n8_ := yD ((by rw [hg]; exact Nat.ne_of_gt (blk_lt (g := gb146) (o := .cells #[.slice A0_0 l0_0.length c0_0, .slice A0_1 l0_1.length c0_1] 26 (0, 0)) (kM BK146)) : gb151 ≠ gb146)); have n9_ := yD ((by rw [hg]; exact Nat.ne_of_lt (blk_lt (g := gb147) (o := .cells #[.slice A1_0 l1_0.length c1_0, .slice A1_1 l1_1.length c1_1] 26 (0, 0)) (kM BK147)) : gb147 ≠ gb151)); have n10_ := yD ((by rw [hg]; exact Nat.ne_of_gt (blk_lt (g := gb147) (o := .cells #[.slice A1_0 l1_0.length c1_0, .slice A1_1 l1_1.length c1_1] 26 (0, 0)) (kM BK147)) : gb151 ≠ gb147)); have n11_ := yD ((by rw [hg]; exact Nat.ne_of_lt (blk_lt (g := gb148) (o := .cells #[.slice none 0 0, .slice none 0 0] 26 (0, 0)) (kM BK148)) : gb148 ≠ gb151)); have n12_ := yD ((by rw [hg]; exact Nat.ne_of_gt (blk_lt (g := gb148) (o := .cells #[.slice none 0 0, .slice none 0 0] 26 (0, 0)) (kM BK148)) : gb151 ≠ gb148)); clear BK146; clear BK147; clear BK148; clear HB; have BK146 := n0_; have BK147 := n1_; have BK148 := n2_; have HB := n3_; have BK151 := n4_; have GW151 := n5_; have GE151 := n6_; have NB146_151 := n7_; have NB151_146 := n8_; have NB147_151 := n9_; have NB151_147 := n10_; have NB148_151 := n11_; have NB151_148 := n12_; clear n0_ n1_ n2_ n3_ n4_ n5_ n6_ n7_ n8_ n9_ n10_ n11_ n12_; clear hb hbox hg; have hnb36 := NB146_147.out; have hnc36 := NB147_146.out; have hnb37 := NB146_148.out; have hnc37 := NB148_146.out; have hnb38 := NB146_151.out; have hnc38 := NB151_146.out; obtain ⟨hcz39_0, hcz39_1⟩ := cz2 BK146.out; obtain ⟨hfz39_0, hfz39_1⟩ := fz2 BK146.out))
        go_loopg [29] kj2 (fun kq v29 w' => ∃ (x29_2 : Int) (x152000_2 : List Int) (x152001_2 : List Int) (u152000 : Value) (u152001 : Value), v29 = .int .i64 x29_2 ∧ Aside0 (impl_CutBox.l0 kq (l0_0.length : Int) x29_2 l0_0 l0_1 l1_0 l1_1 x152000_2 x152001_2 = some (r1, r2, r3)) ∧ Aside0 (kq ≤ kj2) ∧ Aside0 (Kd.R (Kd.int .i64) 2 w' w.heap.size (fun k_ => some k_ ≠ (u152001 : Value).ownBlock) u152000 x152000_2) ∧ Aside0 (Kd.R (Kd.int .i64) 2 w' w.heap.size (fun k_ => some k_ ≠ (u152000 : Value).ownBlock) u152001 x152001_2) ∧ Aside0 (w'.heap[gb146]? = some (.cells #[(.slice A0_0 l0_0.length c0_0), (.slice A0_1 l0_1.length c0_1)] 26 (0, 0))) ∧ Aside0 (w'.heap[gb147]? = some (.cells #[(.slice A1_0 l1_0.length c1_0), (.slice A1_1 l1_1.length c1_1)] 26 (0, 0))) ∧ Aside0 (w'.heap[gb148]? = some (.cells #[(.slice none 0 0), (.slice none 0 0)] 26 (0, 0))) ∧ Aside0 (w'.heap[gb151]? = some (.cells #[u152000, u152001] 26 (0, 0))) ∧ Aside0 (Below w.heap.size w w'))
        case atStart => exact ⟨(0), (([] : List Int)), (([] : List Int)), (.slice none 0 0), (.slice none 0 0), (by first | rfl | (simp; done) | (simp [*]; done)), H', ⟨Nat.le_refl _⟩, ⟨by first | exact Kd.R_nil _ _ _ _ _ | exact Kd.N_nil _ _ _ _ _ | exact Kd.V_nil _ _ _ _ _ | exact Kd.Q_nil _ _ _ _ _ | exact Kd.S_nil _ _ _ _ _⟩, ⟨by first | exact Kd.R_nil _ _ _ _ _ | exact Kd.N_nil _ _ _ _ _ | exact Kd.V_nil _ _ _ _ _ | exact Kd.Q_nil _ _ _ _ _ | exact Kd.S_nil _ _ _ _ _⟩, ⟨by (with_reducible repeat (first | refine yM ?_ _ | refine yO ?_ | refine yN ?_ _)); exact BK146.out⟩, ⟨by (with_reducible repeat (first | refine yM ?_ _ | refine yO ?_ | refine yN ?_ _)); exact BK147.out⟩, ⟨by (with_reducible repeat (first | refine yM ?_ _ | refine yO ?_ | refine yN ?_ _)); exact BK148.out⟩, ⟨by (with_reducible repeat (first | refine yM ?_ _ | refine yO ?_ | refine yN ?_ _)); exact BK151.out⟩, ⟨by repeat (first | (with_reducible first | exact HB.out | apply yQ | apply yL | apply yP | refine yE ?_ GE146.out | refine yE ?_ GE147.out | refine yE ?_ GE148.out | refine yE ?_ GE151.out) | exact HB.out)⟩⟩
        case round =>
          clear H'
          try clear c1; try clear c2; try clear p2; try clear c3; try clear c8; try clear c9; try clear c10; try clear c11; try clear c12; try clear c15; try clear c20; try clear c21; try clear c24; try clear c26; try clear c27; try clear c28; try clear c31; try clear c32; try clear c33; try clear c36; try clear c37; try clear c38; try clear hcz13_0; try clear hcz13_1; try clear hcz16_0; try clear hcz16_1; try clear hcz18_0; try clear hcz18_1; try clear hcz19_0; try clear hcz19_1; try clear hcz22_0; try clear hcz22_1; try clear hcz25_0; try clear hcz25_1; try clear hcz29_0; try clear hcz29_1; try clear hcz34_0; try clear hcz34_1; try clear hcz39_0; try clear hcz39_1; try clear hfz13_0; try clear hfz13_1; try clear hfz16_0; try clear hfz16_1; try clear hfz18_0; try clear hfz18_1; try clear hfz19_0; try clear hfz19_1; try clear hfz22_0; try clear hfz22_1; try clear hfz25_0; try clear hfz25_1; try clear hfz29_0; try clear hfz29_1; try clear hfz34_0; try clear hfz34_1; try clear hfz39_0; try clear hfz39_1; try clear p2
          obtain ⟨x29_2, x152000_2, x152001_2, u152000, u152001, rfl, HA, HK2, HO_152000, HO_152001, BK146, BK147, BK148, BK151, HB⟩ := hrel
          cases gk with
          | zero => exact absurd HA.out (by simp [impl_CutBox.l0])
          | succ k2 =>
            have H := HA.out; clear HA
            simp only [impl_CutBox.l0] at H
            by_cases c40 : x29_2 < (l0_0.length : Int)
            · rw [if_pos c40] at H
              have c40b0 : decide (x29_2 < (l0_0.length : Int)) = true := zR c40; clear c40
              by_cases c41 : 0 ≤ x29_2
              · rw [if_pos c41] at H
                have c41b0 : decide (0 ≤ x29_2) = true := zR c41; clear c41
                by_cases c42 : x29_2 < (l0_0.length : Int)
                · rw [if_pos c42] at H
                  have c42b0 : decide (x29_2 < (l0_0.length : Int)) = true := zR c42; clear c42
                  by_cases c43 : x29_2 < (l1_0.length : Int)
                  · rw [if_pos c43] at H
                    have c43b0 : decide (x29_2 < (l1_0.length : Int)) = true := zR c43; clear c43
                    obtain ⟨ji44, hji44⟩ : ∃ j_ : Int, (mx (rd l0_0 x29_2) (rd l1_0 x29_2)) = j_ := ⟨_, rfl⟩
                    replace H : (if x152000_2.length < 17592186044416 then (if x29_2 < (l0_1.length : Int) then (if x29_2 < (l1_1.length : Int) then (if x152001_2.length < 17592186044416 then (impl_CutBox.l0 k2 (l0_0.length : Int) (wrap64 (x29_2 + 1)) l0_0 l0_1 l1_0 l1_1 (x152000_2 ++ [ji44]) (x152001_2 ++ [mn (rd l0_1 x29_2) (rd l1_1 x29_2)])) else (none)) else (none)) else (none)) else (none)) = some (r1, r2, r3) := by first | (rw [hji44] at H; exact H) | (simp only [hji44] at H ⊢; exact H)
                    have hji44_ : (if (rd l0_0 x29_2) < (rd l1_0 x29_2) then (rd l1_0 x29_2) else (rd l0_0 x29_2)) = ji44 := hji44
                    by_cases c45 : x152000_2.length < 17592186044416
                    · rw [if_pos c45] at H
                      have LMc45 := yD c45
                      clear c45
                      obtain ⟨y154, hy154⟩ : ∃ y_ : List Int, y_ = (x152000_2 ++ [ji44]) := ⟨_, rfl⟩
                      replace H : (if x29_2 < (l0_1.length : Int) then (if x29_2 < (l1_1.length : Int) then (if x152001_2.length < 17592186044416 then (impl_CutBox.l0 k2 (l0_0.length : Int) (wrap64 (x29_2 + 1)) l0_0 l0_1 l1_0 l1_1 y154 (x152001_2 ++ [mn (rd l0_1 x29_2) (rd l1_1 x29_2)])) else (none)) else (none)) else (none)) = some (r1, r2, r3) := by first | (rw [hy154]; with_reducible exact H) | (have H2_ := (Option.bind_some _ _).symm.trans H; rw [hy154]; with_reducible exact H2_) | (have H2_ := (Option.bind_some _ _).symm.trans H; with_reducible exact H2_) | with_reducible exact H | (rw [hy154]; exact H) | exact H
                      have Ny154 := yD hy154
                      clear hy154
                      by_cases c46 : x29_2 < (l0_1.length : Int)
                      · rw [if_pos c46] at H
                        have c46b0 : decide (x29_2 < (l0_1.length : Int)) = true := zR c46; clear c46
                        by_cases c47 : x29_2 < (l1_1.length : Int)
                        · rw [if_pos c47] at H
                          have c47b0 : decide (x29_2 < (l1_1.length : Int)) = true := zR c47; clear c47
                          obtain ⟨ji48, hji48⟩ : ∃ j_ : Int, (mn (rd l0_1 x29_2) (rd l1_1 x29_2)) = j_ := ⟨_, rfl⟩
                          replace H : (if x152001_2.length < 17592186044416 then (impl_CutBox.l0 k2 (l0_0.length : Int) (wrap64 (x29_2 + 1)) l0_0 l0_1 l1_0 l1_1 y154 (x152001_2 ++ [ji48])) else (none)) = some (r1, r2, r3) := by first | (rw [hji48] at H; exact H) | (simp only [hji48] at H ⊢; exact H)
                          have hji48_ : (if (rd l1_1 x29_2) < (rd l0_1 x29_2) then (rd l1_1 x29_2) else (rd l0_1 x29_2)) = ji48 := hji48
                          by_cases c49 : x152001_2.length < 17592186044416
                          · rw [if_pos c49] at H
                            have LMc49 := yD c49
                            clear c49
                            obtain ⟨y159, hy159⟩ : ∃ y_ : List Int, y_ = (x152001_2 ++ [ji48]) := ⟨_, rfl⟩
                            replace H : (impl_CutBox.l0 k2 (l0_0.length : Int) (wrap64 (x29_2 + 1)) l0_0 l0_1 l1_0 l1_1 y154 y159) = some (r1, r2, r3) := by first | (rw [hy159]; with_reducible exact H) | (have H2_ := (Option.bind_some _ _).symm.trans H; rw [hy159]; with_reducible exact H2_) | (have H2_ := (Option.bind_some _ _).symm.trans H; with_reducible exact H2_) | with_reducible exact H | (rw [hy159]; exact H) | exact H
                            have Ny159 := yD hy159
                            clear hy159
                            have H' := yD H
                            clear H
                            try go_wp2
                            have n0_ := yD (yC HO_152000.out)
                            have n1_ := yD (yC HO_152001.out)
                            have n2_ := yD (yO BK146.out)
                            have n3_ := yD (yO BK147.out)
                            have n4_ := yD (yO BK148.out)
                            have n5_ := yD (yO BK151.out)
                            have n6_ := yD (yP HB.out)
                            clear HO_152000 HO_152001 BK146 BK147 BK148 BK151 HB; have HO_152000 := n0_; have HO_152001 := n1_; have BK146 := n2_; have BK147 := n3_; have BK148 := n4_; have BK151 := n5_; have HB := n6_; clear n0_ n1_ n2_ n3_ n4_ n5_ n6_
                            have p152 : 0 ≤ (x29_2 : Int) := zP (by assumption)
                            have q152 : x29_2 < (l0_0.length : Int) := zP (by assumption)
                            obtain ⟨ad152, e152, hx152_0⟩ := Kd.at_int HR0_0.out x29_2 p152 q152
                            have hw152_0 := hx152_0; cases e152
                            replace hx152_0 := (HB.out.cell (zQ w _ hx152_0)).trans hx152_0
                            replace p152 := eq_true p152; replace q152 := eq_true q152
                            have p153 : 0 ≤ (x29_2 : Int) := zP (by assumption)
                            have q153 : x29_2 < (l1_0.length : Int) := zP (by assumption)
                            obtain ⟨ad153, e153, hx153_0⟩ := Kd.at_int HR1_0.out x29_2 p153 q153
                            have hw153_0 := hx153_0; cases e153
                            replace hx153_0 := (HB.out.cell (zQ w _ hx153_0)).trans hx153_0
                            replace p153 := eq_true p153; replace q153 := eq_true q153
                            refine start_ (n := 17) (S := fun w' => w'.cell? ⟨gb151, 0, none⟩ = some (u152000) ∧ w'.cell? ⟨gb151, 1, none⟩ = some (u152001) ∧ w'.cell? ⟨gb146, 0, none⟩ = some (.slice (some ad152) l0_0.length c0_0) ∧ w'.cell? ⟨gb146, 1, none⟩ = some (.slice A0_1 l0_1.length c0_1) ∧ w'.cell? ⟨gb147, 0, none⟩ = some (.slice (some ad153) l1_0.length c1_0) ∧ w'.cell? ⟨gb147, 1, none⟩ = some (.slice A1_1 l1_1.length c1_1) ∧ w'.cell? (ad152.add (x29_2).toNat) = some (.int .i64 (rd l0_0 x29_2)) ∧ w'.cell? (ad153.add (x29_2).toNat) = some (.int .i64 (rd l1_0 x29_2))) (ds := [16]) (bz 17 0) (by kernel_rfl) rfl rfl ⟨(yG BK151.out 0).trans rfl, (yG BK151.out 1).trans rfl, (yG BK146.out 0).trans rfl, (yG BK146.out 1).trans rfl, (yG BK147.out 0).trans rfl, (yG BK147.out 1).trans rfl, ((HB.out.cell (zQ w _ hw152_0)).trans hw152_0), ((HB.out.cell (zQ w _ hw153_0)).trans hw153_0)⟩ (fun hHeld => ?_); refine with_tabW impl_CutBox.tab7 impl_CutBox.bits7 (fun HT_ HW_ => ?_)
                            generalize wr.drew = w50 at HO_152000 HO_152001 BK146 BK147 BK148 BK151 HB hx152_0 hx153_0 hHeld ⊢
                            refine qA 0 32 (bz 17 1) HT_ ?_
                            refine qA 2 34 (bz 17 5) HT_ ?_
                            refine qA 4 36 (bz 17 21) HT_ ?_
                            refine qA 7 39 (bz 17 149) HT_ ?_
                            refine qA 9 41 (bz 17 661) HT_ ?_
                            refine qC 1 33 (bz 17 663) HT_ HW_ hHeld ?_ (hy := by rintro w' ⟨s0, s1, s2, s3, s4, s5, s6, s7⟩; go_simp; with_reducible rfl)
                            refine qC 3 35 (bz 17 671) HT_ HW_ hHeld ?_ (hy := by rintro w' ⟨s0, s1, s2, s3, s4, s5, s6, s7⟩; go_simp; with_reducible rfl)
                            refine qA 5 37 (bz 17 703) HT_ ?_
                            refine qC 6 38 (bz 17 767) HT_ HW_ hHeld ?_ (hy := by rintro w' ⟨s0, s1, s2, s3, s4, s5, s6, s7⟩; go_simp; with_reducible rfl)
                            refine qC 8 40 (bz 17 1023) HT_ HW_ hHeld ?_ (hy := by rintro w' ⟨s0, s1, s2, s3, s4, s5, s6, s7⟩; go_simp; with_reducible rfl)
                            refine qA 10 42 (bz 17 2047) HT_ ?_
                            refine qC 11 43 (bz 17 4095) HT_ HW_ hHeld ?_ (hy := by rintro w' ⟨s0, s1, s2, s3, s4, s5, s6, s7⟩; go_simp; with_reducible rfl)
                            refine qA 12 44 (bz 17 8191) HT_ ?_
                            refine one_ (i := 13) (N := some 45) (bz 17 16383) rfl rfl (one_of HT_.out (by kernel_rfl)) (by decide) (fun K hK => ?_)
                            refine value_ (w1 := ?_) (v := ?_) (by rfl) rfl ?_ ?_
                            rotate_left 2
                            · go_simp
                              constructor
                              · rfl
                              · rfl
                            refine hK.out _ _ ⟨(yG (yN BK151.out _) 0).trans rfl, (yG (yN BK151.out _) 1).trans rfl, (yG (yN BK146.out _) 0).trans rfl, (yG (yN BK146.out _) 1).trans rfl, (yG (yN BK147.out _) 0).trans rfl, (yG (yN BK147.out _) 1).trans rfl, (World.cell?_alloc_lt _ _ _ (zQ _ _ (((HB.out.cell (zQ w _ hw152_0)).trans hw152_0)))).trans (((HB.out.cell (zQ w _ hw152_0)).trans hw152_0)), (World.cell?_alloc_lt _ _ _ (zQ _ _ (((HB.out.cell (zQ w _ hw153_0)).trans hw153_0)))).trans (((HB.out.cell (zQ w _ hw153_0)).trans hw153_0))⟩ (fun hHeld => ?_)
                            clear hK K
                            refine norm_ (a' := ?_) ?_ ?_
                            rotate_left
                            · show Act.put _ (some 45) _ = _
                              simp only [Act.put, zH, zI, zJ, i64_w, i32_w]
                              rfl
                            refine one_ (i := 14) (N := some 46) (bz 17 32767) rfl rfl (one_of HT_.out (by kernel_rfl)) (by decide) (fun K hK => ?_)
                            refine Kd.R_append_step (Kd.int .i64) (w0 := w) w.heap.size (by rfl) (.tmp 33) (.tmp 45) 22 2 (.int .i64 0) 8 rfl Try.underlying22 info2 rfl (by decide) (by omega) u152000 x152000_2 ji44 [.int .i64 ji44] (fun k_ => some k_ ≠ (u152001 : Value).ownBlock) (fun _ => False) rfl rfl ?aP (fun _ hk => hk.elim) ?aF ?aO ?aB ?aS ?aL ?_
                            (case aP => exact rfl)
                            (case aB => exact (kB HB))
                            (case aF => exact (fun k_ hk => Kd.fresh' (yK (kA HO_152001)) k_ hk))
                            (case aO => exact (kA HO_152000))
                            (case aS => exact (below_size (kB HB)))
                            (case aL => have := LMc45.out; omega)
                            intro v155 w51 ho hb hg hat
                            rw [← Ny154.out] at ho
                            have n0_ := yD (Kd.R_after (ok := (fun _ => True)) (by (with_reducible repeat (first | apply yA | apply yB | apply yC)); exact zF HO_152001.out (fun _ hk => ⟨trivial, hk⟩)) hg hat)
                            have n1_ := yD (blk_grown (g := gb146) (o := .cells #[.slice (some ad152) l0_0.length c0_0, .slice A0_1 l0_1.length c0_1] 26 (0, 0)) (kM BK146) hg (Kd.R_ne HO_152000.out BK146.out (by decide)))
                            have n2_ := yD (blk_grown (g := gb147) (o := .cells #[.slice (some ad153) l1_0.length c1_0, .slice A1_1 l1_1.length c1_1] 26 (0, 0)) (kM BK147) hg (Kd.R_ne HO_152000.out BK147.out (by decide)))
                            have n3_ := yD (blk_grown (g := gb148) (o := .cells #[.slice none 0 0, .slice none 0 0] 26 (0, 0)) (kM BK148) hg (Kd.R_ne HO_152000.out BK148.out (by decide)))
                            have n4_ := yD (blk_grown (g := gb151) (o := .cells #[u152000, u152001] 26 (0, 0)) (kM BK151) hg (Kd.R_ne HO_152000.out BK151.out (by decide)))
                            have n5_ := yD (hb)
                            have n6_ := yD (ho)
                            clear HO_152001 BK146 BK147 BK148 BK151 HB HO_152000; have HO_152001 := n0_; have BK146 := n1_; have BK147 := n2_; have BK148 := n3_; have BK151 := n4_; have HB := n5_; have HO156 := n6_; clear n0_ n1_ n2_ n3_ n4_ n5_ n6_ ho hb hg hat
                            obtain ⟨Ao52, co52, eo52⟩ := Kd.R_slice HO156.out
                            (first | subst eo52 | (injection eo52 with f1_ f2_ f3_; have f4_ := f1_.symm; have f5_ := f3_.symm; clear f1_ f2_ f3_; subst f4_; subst f5_))
                            refine hK.out _ _ ⟨(yG BK151.out 0).trans rfl, (yG BK151.out 1).trans rfl, (yG BK146.out 0).trans rfl, (yG BK146.out 1).trans rfl, (yG BK147.out 0).trans rfl, (yG BK147.out 1).trans rfl, ((HB.out.cell (zQ w _ hw152_0)).trans hw152_0), ((HB.out.cell (zQ w _ hw153_0)).trans hw153_0)⟩ (fun hHeld => ?_)
                            clear hK K
                            refine norm_ (a' := ?_) ?_ ?_
                            rotate_left
                            · show Act.put _ (some 46) _ = _
                              simp only [Act.put, zH, zI, zJ, i64_w, i32_w]
                              rfl
                            refine qA 15 47 (bz 17 65535) HT_ ?_
                            refine last_ (i := 16) (N := none) #[true, true, true, true, true, true, true, true, true, true, true, true, true, true, true, true, true] rfl rfl (one_of HT_.out (by kernel_rfl)) (by decide) (fun K hK => ?_)
                            have hs53 : w51.cell? ⟨gb151, 0, none⟩ = some (u152000) := (yG BK151.out 0).trans rfl
                            have hfs53 := yR BK151.out 0
                            have hns53_0 := NB146_151.out; have hns53_1 := NB147_151.out; have hns53_2 := NB148_151.out; have hms53_0 := NB151_146.out; have hms53_1 := NB151_147.out; have hms53_2 := NB151_148.out
                            refine skip_ (w1 := ?_) (by rfl) rfl ?_ ?_
                            rotate_left
                            · go_simp
                              rfl
                            refine hK.out _ _ ?_
                            clear hK K
                            refine done_ (done_of HT_.out (by kernel_rfl)) ?_
                            try go_wp2
                            have n0_ : Aside0 (Kd.R (Kd.int .i64) 2 (w51.setCell ⟨gb151, 0, none⟩ (.slice Ao52 y154.length co52)) w.heap.size (fun k_ => some k_ ≠ (.slice Ao52 y154.length co52 : Value).ownBlock) u152001 x152001_2) := ⟨by (with_reducible repeat (first | apply yA | apply yB | apply yC)); exact zF (yF (p := ⟨gb151, 0, none⟩) (Kd.R_types HO_152001.out BK151.out (by decide)) (fun _ hk => hk.2) (.slice Ao52 y154.length co52)) (fun _ hk => hk.1.2)⟩
                            have n1_ : Aside0 (Kd.R (Kd.int .i64) 2 (w51.setCell ⟨gb151, 0, none⟩ (.slice Ao52 y154.length co52)) w.heap.size (fun k_ => some k_ ≠ (u152001 : Value).ownBlock) (.slice Ao52 y154.length co52) y154) := ⟨by (with_reducible repeat (first | apply yA | apply yB | apply yC)); exact zF (yF (p := ⟨gb151, 0, none⟩) (Kd.R_types HO156.out BK151.out (by decide)) (fun _ hk => hk.2) (.slice Ao52 y154.length co52)) (fun _ hk => hk.1)⟩
                            have n2_ : Aside0 ((w51.setCell ⟨gb151, 0, none⟩ (.slice Ao52 y154.length co52)).heap[gb146]? = some (.cells #[.slice (some ad152) l0_0.length c0_0, .slice A0_1 l0_1.length c0_1] 26 (0, 0))) := ⟨by (with_reducible repeat (first | refine yM ?_ _ | refine yO ?_ | refine yN ?_ _)); refine blk_far ?_ NB146_151.out _; (with_reducible repeat (first | refine yM ?_ _ | refine yO ?_ | refine yN ?_ _)); exact BK146.out⟩
                            have n3_ : Aside0 ((w51.setCell ⟨gb151, 0, none⟩ (.slice Ao52 y154.length co52)).heap[gb147]? = some (.cells #[.slice (some ad153) l1_0.length c1_0, .slice A1_1 l1_1.length c1_1] 26 (0, 0))) := ⟨by (with_reducible repeat (first | refine yM ?_ _ | refine yO ?_ | refine yN ?_ _)); refine blk_far ?_ NB147_151.out _; (with_reducible repeat (first | refine yM ?_ _ | refine yO ?_ | refine yN ?_ _)); exact BK147.out⟩
                            have n4_ : Aside0 ((w51.setCell ⟨gb151, 0, none⟩ (.slice Ao52 y154.length co52)).heap[gb148]? = some (.cells #[.slice none 0 0, .slice none 0 0] 26 (0, 0))) := ⟨by (with_reducible repeat (first | refine yM ?_ _ | refine yO ?_ | refine yN ?_ _)); refine blk_far ?_ NB148_151.out _; (with_reducible repeat (first | refine yM ?_ _ | refine yO ?_ | refine yN ?_ _)); exact BK148.out⟩
                            have n5_ : Aside0 ((w51.setCell ⟨gb151, 0, none⟩ (.slice Ao52 y154.length co52)).heap[gb151]? = some (.cells #[.slice Ao52 y154.length co52, u152001] 26 (0, 0))) := ⟨by (with_reducible repeat (first | refine yM ?_ _ | refine yO ?_ | refine yN ?_ _)); refine blk_put (cs := #[u152000, u152001]) ?_ 0 _ rfl; (with_reducible repeat (first | refine yM ?_ _ | refine yO ?_ | refine yN ?_ _)); exact BK151.out⟩
                            have n6_ : Aside0 (Below w.heap.size w (w51.setCell ⟨gb151, 0, none⟩ (.slice Ao52 y154.length co52))) := ⟨by repeat (first | (with_reducible first | exact HB.out | apply yQ | apply yL | apply yP | refine yE ?_ GE146.out | refine yE ?_ GE147.out | refine yE ?_ GE148.out | refine yE ?_ GE151.out) | exact HB.out)⟩
                            (try clear HO_152001); (try clear HO156); (try clear BK146); (try clear BK147); (try clear BK148); (try clear BK151); (try clear HB)
                            generalize (w51.setCell ⟨gb151, 0, none⟩ (.slice Ao52 y154.length co52)) = w54 at n0_ n1_ n2_ n3_ n4_ n5_ n6_ ⊢
                            have HO_152001 := n0_; have HO156 := n1_; have BK146 := n2_; have BK147 := n3_; have BK148 := n4_; have BK151 := n5_; have HB := n6_; clear n0_ n1_ n2_ n3_ n4_ n5_ n6_
                            have n0_ := yD (yC HO_152001.out)
                            have n1_ := yD (yC HO156.out)
                            have n2_ := yD (yO BK146.out)
                            have n3_ := yD (yO BK147.out)
                            have n4_ := yD (yO BK148.out)
                            have n5_ := yD (yO BK151.out)
                            have n6_ := yD (yP HB.out)
                            clear HO_152001 HO156 BK146 BK147 BK148 BK151 HB; have HO_152001 := n0_; have HO156 := n1_; have BK146 := n2_; have BK147 := n3_; have BK148 := n4_; have BK151 := n5_; have HB := n6_; clear n0_ n1_ n2_ n3_ n4_ n5_ n6_
                            have p157 : 0 ≤ (x29_2 : Int) := zP (by assumption)
                            have q157 : x29_2 < (l0_1.length : Int) := zP (by assumption)
                            obtain ⟨ad157, e157, hx157_0⟩ := Kd.at_int HR0_1.out x29_2 p157 q157
                            have hw157_0 := hx157_0; cases e157
                            replace hx157_0 := (HB.out.cell (zQ w _ hx157_0)).trans hx157_0
                            replace p157 := eq_true p157; replace q157 := eq_true q157
                            have p158 : 0 ≤ (x29_2 : Int) := zP (by assumption)
                            have q158 : x29_2 < (l1_1.length : Int) := zP (by assumption)
                            obtain ⟨ad158, e158, hx158_0⟩ := Kd.at_int HR1_1.out x29_2 p158 q158
                            have hw158_0 := hx158_0; cases e158
                            replace hx158_0 := (HB.out.cell (zQ w _ hx158_0)).trans hx158_0
                            replace p158 := eq_true p158; replace q158 := eq_true q158
                            refine start_ (n := 17) (S := fun w' => w'.cell? ⟨gb151, 0, none⟩ = some (.slice Ao52 y154.length co52) ∧ w'.cell? ⟨gb151, 1, none⟩ = some (u152001) ∧ w'.cell? ⟨gb146, 0, none⟩ = some (.slice (some ad152) l0_0.length c0_0) ∧ w'.cell? ⟨gb146, 1, none⟩ = some (.slice (some ad157) l0_1.length c0_1) ∧ w'.cell? ⟨gb147, 0, none⟩ = some (.slice (some ad153) l1_0.length c1_0) ∧ w'.cell? ⟨gb147, 1, none⟩ = some (.slice (some ad158) l1_1.length c1_1) ∧ w'.cell? (ad157.add (x29_2).toNat) = some (.int .i64 (rd l0_1 x29_2)) ∧ w'.cell? (ad158.add (x29_2).toNat) = some (.int .i64 (rd l1_1 x29_2))) (ds := [16]) (bz 17 0) (by kernel_rfl) rfl rfl ⟨(yG BK151.out 0).trans rfl, (yG BK151.out 1).trans rfl, (yG BK146.out 0).trans rfl, (yG BK146.out 1).trans rfl, (yG BK147.out 0).trans rfl, (yG BK147.out 1).trans rfl, ((HB.out.cell (zQ w _ hw157_0)).trans hw157_0), ((HB.out.cell (zQ w _ hw158_0)).trans hw158_0)⟩ (fun hHeld => ?_); refine with_tabW impl_CutBox.tab8 impl_CutBox.bits8 (fun HT_ HW_ => ?_)
                            generalize w54.drew = w55 at HO_152001 HO156 BK146 BK147 BK148 BK151 HB hx157_0 hx158_0 hHeld ⊢
                            refine qA 0 48 (bz 17 1) HT_ ?_
                            refine qA 2 50 (bz 17 5) HT_ ?_
                            refine qA 4 52 (bz 17 21) HT_ ?_
                            refine qA 7 55 (bz 17 149) HT_ ?_
                            refine qA 9 57 (bz 17 661) HT_ ?_
                            refine qC 1 49 (bz 17 663) HT_ HW_ hHeld ?_ (hy := by rintro w' ⟨s0, s1, s2, s3, s4, s5, s6, s7⟩; go_simp; with_reducible rfl)
                            refine qC 3 51 (bz 17 671) HT_ HW_ hHeld ?_ (hy := by rintro w' ⟨s0, s1, s2, s3, s4, s5, s6, s7⟩; go_simp; with_reducible rfl)
                            refine qA 5 53 (bz 17 703) HT_ ?_
                            refine qC 6 54 (bz 17 767) HT_ HW_ hHeld ?_ (hy := by rintro w' ⟨s0, s1, s2, s3, s4, s5, s6, s7⟩; go_simp; with_reducible rfl)
                            refine qC 8 56 (bz 17 1023) HT_ HW_ hHeld ?_ (hy := by rintro w' ⟨s0, s1, s2, s3, s4, s5, s6, s7⟩; go_simp; with_reducible rfl)
                            refine qA 10 58 (bz 17 2047) HT_ ?_
                            refine qC 11 59 (bz 17 4095) HT_ HW_ hHeld ?_ (hy := by rintro w' ⟨s0, s1, s2, s3, s4, s5, s6, s7⟩; go_simp; with_reducible rfl)
                            refine qA 12 60 (bz 17 8191) HT_ ?_
                            refine one_ (i := 13) (N := some 61) (bz 17 16383) rfl rfl (one_of HT_.out (by kernel_rfl)) (by decide) (fun K hK => ?_)
                            refine value_ (w1 := ?_) (v := ?_) (by rfl) rfl ?_ ?_
                            rotate_left 2
                            · go_simp
                              constructor
                              · rfl
                              · rfl
                            refine hK.out _ _ ⟨(yG (yN BK151.out _) 0).trans rfl, (yG (yN BK151.out _) 1).trans rfl, (yG (yN BK146.out _) 0).trans rfl, (yG (yN BK146.out _) 1).trans rfl, (yG (yN BK147.out _) 0).trans rfl, (yG (yN BK147.out _) 1).trans rfl, (World.cell?_alloc_lt _ _ _ (zQ _ _ (((HB.out.cell (zQ w _ hw157_0)).trans hw157_0)))).trans (((HB.out.cell (zQ w _ hw157_0)).trans hw157_0)), (World.cell?_alloc_lt _ _ _ (zQ _ _ (((HB.out.cell (zQ w _ hw158_0)).trans hw158_0)))).trans (((HB.out.cell (zQ w _ hw158_0)).trans hw158_0))⟩ (fun hHeld => ?_)
                            clear hK K
                            refine norm_ (a' := ?_) ?_ ?_
                            rotate_left
                            · show Act.put _ (some 61) _ = _
                              simp only [Act.put, zH, zI, zJ, i64_w, i32_w]
                              rfl
                            refine one_ (i := 14) (N := some 62) (bz 17 32767) rfl rfl (one_of HT_.out (by kernel_rfl)) (by decide) (fun K hK => ?_)
                            refine Kd.R_append_step (Kd.int .i64) (w0 := w) w.heap.size (by rfl) (.tmp 49) (.tmp 61) 22 2 (.int .i64 0) 8 rfl Try.underlying22 info2 rfl (by decide) (by omega) u152001 x152001_2 ji48 [.int .i64 ji48] (fun k_ => some k_ ≠ (.slice Ao52 y154.length co52 : Value).ownBlock) (fun _ => False) rfl rfl ?aP (fun _ hk => hk.elim) ?aF ?aO ?aB ?aS ?aL ?_
                            (case aP => exact rfl)
                            (case aB => exact (kB HB))
                            (case aF => exact (fun k_ hk => Kd.fresh' (yK (kA HO156)) k_ hk))
                            (case aO => exact (kA HO_152001))
                            (case aS => exact (below_size (kB HB)))
                            (case aL => have := LMc49.out; omega)
                            intro v160 w56 ho hb hg hat
                            rw [← Ny159.out] at ho
                            have n0_ := yD (blk_grown (g := gb146) (o := .cells #[.slice (some ad152) l0_0.length c0_0, .slice (some ad157) l0_1.length c0_1] 26 (0, 0)) (kM BK146) hg (Kd.R_ne HO_152001.out BK146.out (by decide)))
                            have n1_ := yD (blk_grown (g := gb147) (o := .cells #[.slice (some ad153) l1_0.length c1_0, .slice (some ad158) l1_1.length c1_1] 26 (0, 0)) (kM BK147) hg (Kd.R_ne HO_152001.out BK147.out (by decide)))
                            have n2_ := yD (blk_grown (g := gb148) (o := .cells #[.slice none 0 0, .slice none 0 0] 26 (0, 0)) (kM BK148) hg (Kd.R_ne HO_152001.out BK148.out (by decide)))
                            have n3_ := yD (blk_grown (g := gb151) (o := .cells #[.slice Ao52 y154.length co52, u152001] 26 (0, 0)) (kM BK151) hg (Kd.R_ne HO_152001.out BK151.out (by decide)))
                            have n4_ := yD (Kd.R_after (ok := (fun _ => True)) (by (with_reducible repeat (first | apply yA | apply yB | apply yC)); exact zF HO156.out (fun _ hk => ⟨trivial, hk⟩)) hg hat)
                            have n5_ := yD (hb)
                            have n6_ := yD (ho)
                            clear BK146 BK147 BK148 BK151 HO156 HB HO_152001; have BK146 := n0_; have BK147 := n1_; have BK148 := n2_; have BK151 := n3_; have HO156 := n4_; have HB := n5_; have HO161 := n6_; clear n0_ n1_ n2_ n3_ n4_ n5_ n6_ ho hb hg hat
                            obtain ⟨Ao57, co57, eo57⟩ := Kd.R_slice HO161.out
                            (first | subst eo57 | (injection eo57 with f1_ f2_ f3_; have f4_ := f1_.symm; have f5_ := f3_.symm; clear f1_ f2_ f3_; subst f4_; subst f5_))
                            refine hK.out _ _ ⟨(yG BK151.out 0).trans rfl, (yG BK151.out 1).trans rfl, (yG BK146.out 0).trans rfl, (yG BK146.out 1).trans rfl, (yG BK147.out 0).trans rfl, (yG BK147.out 1).trans rfl, ((HB.out.cell (zQ w _ hw157_0)).trans hw157_0), ((HB.out.cell (zQ w _ hw158_0)).trans hw158_0)⟩ (fun hHeld => ?_)
                            clear hK K
                            refine norm_ (a' := ?_) ?_ ?_
                            rotate_left
                            · show Act.put _ (some 62) _ = _
                              simp only [Act.put, zH, zI, zJ, i64_w, i32_w]
                              rfl
                            refine qA 15 63 (bz 17 65535) HT_ ?_
                            refine last_ (i := 16) (N := none) #[true, true, true, true, true, true, true, true, true, true, true, true, true, true, true, true, true] rfl rfl (one_of HT_.out (by kernel_rfl)) (by decide) (fun K hK => ?_)
                            have hs58 : w56.cell? ⟨gb151, 1, none⟩ = some (u152001) := (yG BK151.out 1).trans rfl
                            have hfs58 := yR BK151.out 1
                            have hns58_0 := NB146_151.out; have hns58_1 := NB147_151.out; have hns58_2 := NB148_151.out; have hms58_0 := NB151_146.out; have hms58_1 := NB151_147.out; have hms58_2 := NB151_148.out
                            refine skip_ (w1 := ?_) (by rfl) rfl ?_ ?_
                            rotate_left
                            · go_simp
                              rfl
                            refine hK.out _ _ ?_
                            clear hK K
                            refine done_ (done_of HT_.out (by kernel_rfl)) ?_
                            try go_wp2
                            go_roundg k2
                            case measure => have := HJ2.out; have := HK2.out; omega
                            case rel => exact ⟨(wrap64 (x29_2 + 1)), (y154), (y159), (.slice Ao52 y154.length co52), (.slice Ao57 y159.length co57), (by first | rfl | (simp; done) | (simp [*]; done)), H', ⟨by have := HJ2.out; have := HK2.out; omega⟩, ⟨by (with_reducible repeat (first | apply yA | apply yB | apply yC)); exact zF (yF (p := ⟨gb151, 1, none⟩) (Kd.R_types HO156.out BK151.out (by decide)) (fun _ hk => hk.2) (.slice Ao57 y159.length co57)) (fun _ hk => hk.1.2)⟩, ⟨by (with_reducible repeat (first | apply yA | apply yB | apply yC)); exact zF (yF (p := ⟨gb151, 1, none⟩) (Kd.R_types HO161.out BK151.out (by decide)) (fun _ hk => hk.2) (.slice Ao57 y159.length co57)) (fun _ hk => hk.1)⟩, ⟨by (with_reducible repeat (first | refine yM ?_ _ | refine yO ?_ | refine yN ?_ _)); refine blk_far ?_ NB146_151.out _; (with_reducible repeat (first | refine yM ?_ _ | refine yO ?_ | refine yN ?_ _)); exact BK146.out⟩, ⟨by (with_reducible repeat (first | refine yM ?_ _ | refine yO ?_ | refine yN ?_ _)); refine blk_far ?_ NB147_151.out _; (with_reducible repeat (first | refine yM ?_ _ | refine yO ?_ | refine yN ?_ _)); exact BK147.out⟩, ⟨by (with_reducible repeat (first | refine yM ?_ _ | refine yO ?_ | refine yN ?_ _)); refine blk_far ?_ NB148_151.out _; (with_reducible repeat (first | refine yM ?_ _ | refine yO ?_ | refine yN ?_ _)); exact BK148.out⟩, ⟨by (with_reducible repeat (first | refine yM ?_ _ | refine yO ?_ | refine yN ?_ _)); refine blk_put (cs := #[.slice Ao52 y154.length co52, u152001]) ?_ 1 _ rfl; (with_reducible repeat (first | refine yM ?_ _ | refine yO ?_ | refine yN ?_ _)); exact BK151.out⟩, ⟨by repeat (first | (with_reducible first | exact HB.out | apply yQ | apply yL | apply yP | refine yE ?_ GE146.out | refine yE ?_ GE147.out | refine yE ?_ GE148.out | refine yE ?_ GE151.out) | exact HB.out)⟩⟩
                          · rw [if_neg c49] at H
                            exact absurd H (by simp)
                        · rw [if_neg c47] at H
                          exact absurd H (by simp)
                      · rw [if_neg c46] at H
                        exact absurd H (by simp)
                    · rw [if_neg c45] at H
                      exact absurd H (by simp)
                  · rw [if_neg c43] at H
                    exact absurd H (by simp)
                · rw [if_neg c42] at H
                  exact absurd H (by simp)
              · rw [if_neg c41] at H
                exact absurd H (by simp)
            · rw [if_neg c40] at H
              have c40b0 : decide (x29_2 < (l0_0.length : Int)) = false := zS c40; clear c40
              obtain ⟨t162, A590, H⟩ := zW_ H
              replace H : (if t162 = true then (some (x152000_2, x152001_2, true)) else (some (([] : List Int), ([] : List Int), false))) = some (r1, r2, r3) := H
              have A59 := yD A590
              clear A590
              by_cases c60 : t162 = true
              · subst c60
                have H1 : (some (x152000_2, x152001_2, true)) = some (r1, r2, r3) := by rw [if_pos rfl] at H; exact H
                clear H; have H := H1; clear H1
                simp only [Option.some.injEq, Prod.mk.injEq] at H
                obtain ⟨rfl, rfl, rfl⟩ := H
                have hnb61 := NB151_146.out; have hnc61 := NB146_151.out; have hnb62 := NB151_147.out; have hnc62 := NB147_151.out; have hnb63 := NB151_148.out; have hnc63 := NB148_151.out
                obtain ⟨hcz64_0, hcz64_1⟩ := cz2 BK151.out
                obtain ⟨hfz64_0, hfz64_1⟩ := fz2 BK151.out
                obtain ⟨Ao65, co65, eo65⟩ := Kd.R_slice HO_152000.out
                subst eo65
                obtain ⟨Ao66, co66, eo66⟩ := Kd.R_slice HO_152001.out
                subst eo66
                go_wp2_with (first | ((with_reducible refine gate_callee (f := 26) rfl ?_); refine goesL_ (some 66) rfl rfl Try.func26 (by kernel_rfl) rfl #[.agg #[.slice Ao65 x152000_2.length co65, .slice Ao66 x152001_2.length co66]] rfl (by (try simp only [zK, zL, zM]); first | done | rfl | (simp only [zN, zO]; rfl)) ?_; (with_reducible refine (impl_ValidBox.calls k2 _ _ x152000_2 _ _ x152001_2 true _ ?side1 ?side2 ?side3 ?side4 A59.out).mono ?_); (case side1 => exact kV (zA HO_152000.out).2.2); (case side2 => exact (zA HO_152000.out).2.1); (case side3 => exact kV (zA HO_152001.out).2.2); (case side4 => exact (zA HO_152001.out).2.1); rintro e w67 ⟨rfl, hb⟩; refine ⟨_, rfl, ?_⟩; have n0_ := yD (zE (kA HO_152000) hb); have n1_ := yD (zE (kA HO_152001) hb); have n2_ := yD (zB (g := gb146) (o := .cells #[.slice A0_0 l0_0.length c0_0, .slice A0_1 l0_1.length c0_1] 26 (0, 0)) (kM BK146) hb); have n3_ := yD (zB (g := gb147) (o := .cells #[.slice A1_0 l1_0.length c1_0, .slice A1_1 l1_1.length c1_1] 26 (0, 0)) (kM BK147) hb); have n4_ := yD (zB (g := gb148) (o := .cells #[.slice none 0 0, .slice none 0 0] 26 (0, 0)) (kM BK148) hb); have n5_ := yD (zB (g := gb151) (o := .cells #[.slice Ao65 x152000_2.length co65, .slice Ao66 x152001_2.length co66] 26 (0, 0)) (kM BK151) hb); have n6_ := yD (zC (kB HB) hb); clear HO_152000; clear HO_152001; clear BK146; clear BK147; clear BK148; clear BK151; clear HB; have HO_152000 := n0_; have HO_152001 := n1_; have BK146 := n2_; have BK147 := n3_; have BK148 := n4_; have BK151 := n5_; have HB := n6_; clear n0_ n1_ n2_ n3_ n4_ n5_ n6_; (try clear hb); (try clear hb2); (try clear hk); (try clear hi); obtain ⟨hcz68_0, hcz68_1⟩ := cz2 BK151.out; obtain ⟨hfz68_0, hfz68_1⟩ := fz2 BK151.out; have hnb69 := NB148_146.out; have hnc69 := NB146_148.out; have hnb70 := NB148_147.out; have hnc70 := NB147_148.out; obtain ⟨hcz71_0, hcz71_1⟩ := cz2 BK148.out; obtain ⟨hfz71_0, hfz71_1⟩ := fz2 BK148.out))
                refine bodyPost_ret (results_ct rfl _ _ gb148 26 #[.slice Ao65 x152000_2.length co65, .slice Ao66 x152001_2.length co66] (0, 0) _ rfl (by (with_reducible repeat (first | refine yM ?_ _ | refine yO ?_ | refine yN ?_ _)); refine blk_put (cs := #[.slice Ao65 x152000_2.length co65, .slice none 0 0]) ?_ 1 _ rfl; (with_reducible repeat (first | refine yM ?_ _ | refine yO ?_ | refine yN ?_ _)); refine blk_put (cs := #[.slice none 0 0, .slice none 0 0]) ?_ 0 _ rfl; (with_reducible repeat (first | refine yM ?_ _ | refine yO ?_ | refine yN ?_ _)); exact BK148.out) Try.underlying26 rfl (by kernel_rfl)) rfl ?_
                exact ⟨_, _, by first | rfl | (simp <;> rfl) | (simp [*] <;> rfl), by (with_reducible repeat (first | apply yA | apply yB | apply yC)); exact zF (yF (p := ⟨gb148, 1, none⟩) (yF (p := ⟨gb148, 0, none⟩) (Kd.R_types HO_152000.out BK148.out (by decide)) (fun _ hk => hk.2) (.slice Ao65 x152000_2.length co65)) (fun _ hk => hk.2) (.slice Ao66 x152001_2.length co66)) (fun _ hk => hk.1), by (with_reducible repeat (first | apply yA | apply yB | apply yC)); exact zF (yF (p := ⟨gb148, 1, none⟩) (yF (p := ⟨gb148, 0, none⟩) (Kd.R_types HO_152001.out BK148.out (by decide)) (fun _ hk => hk.2) (.slice Ao65 x152000_2.length co65)) (fun _ hk => hk.2) (.slice Ao66 x152001_2.length co66)) (fun _ hk => hk.1), by repeat (first | (with_reducible first | exact HB.out | apply yQ | apply yL | apply yP | refine yE ?_ GE146.out | refine yE ?_ GE147.out | refine yE ?_ GE148.out | refine yE ?_ GE151.out) | exact HB.out)⟩
              · replace c60 := Bool.eq_false_iff.mpr c60
                subst c60
                have H1 : (some (([] : List Int), ([] : List Int), false)) = some (r1, r2, r3) := by rw [if_neg (show ¬ (false = true) by decide)] at H; exact H
                clear H; have H := H1; clear H1
                simp only [Option.some.injEq, Prod.mk.injEq] at H
                obtain ⟨rfl, rfl, rfl⟩ := H
                have hnb72 := NB151_146.out; have hnc72 := NB146_151.out; have hnb73 := NB151_147.out; have hnc73 := NB147_151.out; have hnb74 := NB151_148.out; have hnc74 := NB148_151.out
                obtain ⟨hcz75_0, hcz75_1⟩ := cz2 BK151.out
                obtain ⟨hfz75_0, hfz75_1⟩ := fz2 BK151.out
                obtain ⟨Ao76, co76, eo76⟩ := Kd.R_slice HO_152000.out
                subst eo76
                obtain ⟨Ao77, co77, eo77⟩ := Kd.R_slice HO_152001.out
                subst eo77
                go_wp2_with (first | ((with_reducible refine gate_callee (f := 26) rfl ?_); refine goesL_ (some 66) rfl rfl Try.func26 (by kernel_rfl) rfl #[.agg #[.slice Ao76 x152000_2.length co76, .slice Ao77 x152001_2.length co77]] rfl (by (try simp only [zK, zL, zM]); first | done | rfl | (simp only [zN, zO]; rfl)) ?_; (with_reducible refine (impl_ValidBox.calls k2 _ _ x152000_2 _ _ x152001_2 false _ ?side1 ?side2 ?side3 ?side4 A59.out).mono ?_); (case side1 => exact kV (zA HO_152000.out).2.2); (case side2 => exact (zA HO_152000.out).2.1); (case side3 => exact kV (zA HO_152001.out).2.2); (case side4 => exact (zA HO_152001.out).2.1); rintro e w78 ⟨rfl, hb⟩; refine ⟨_, rfl, ?_⟩; have n0_ := yD (zE (kA HO_152000) hb); have n1_ := yD (zE (kA HO_152001) hb); have n2_ := yD (zB (g := gb146) (o := .cells #[.slice A0_0 l0_0.length c0_0, .slice A0_1 l0_1.length c0_1] 26 (0, 0)) (kM BK146) hb); have n3_ := yD (zB (g := gb147) (o := .cells #[.slice A1_0 l1_0.length c1_0, .slice A1_1 l1_1.length c1_1] 26 (0, 0)) (kM BK147) hb); have n4_ := yD (zB (g := gb148) (o := .cells #[.slice none 0 0, .slice none 0 0] 26 (0, 0)) (kM BK148) hb); have n5_ := yD (zB (g := gb151) (o := .cells #[.slice Ao76 x152000_2.length co76, .slice Ao77 x152001_2.length co77] 26 (0, 0)) (kM BK151) hb); have n6_ := yD (zC (kB HB) hb); clear HO_152000; clear HO_152001; clear BK146; clear BK147; clear BK148; clear BK151; clear HB; have HO_152000 := n0_; have HO_152001 := n1_; have BK146 := n2_; have BK147 := n3_; have BK148 := n4_; have BK151 := n5_; have HB := n6_; clear n0_ n1_ n2_ n3_ n4_ n5_ n6_; (try clear hb); (try clear hb2); (try clear hk); (try clear hi); have hnb79 := NB148_146.out; have hnc79 := NB146_148.out; have hnb80 := NB148_147.out; have hnc80 := NB147_148.out; obtain ⟨hcz81_0, hcz81_1⟩ := cz2 BK148.out; obtain ⟨hfz81_0, hfz81_1⟩ := fz2 BK148.out))
                refine bodyPost_ret (results_ct rfl _ _ gb148 26 #[.slice none 0 0, .slice none 0 0] (0, 0) _ rfl (by (with_reducible repeat (first | refine yM ?_ _ | refine yO ?_ | refine yN ?_ _)); refine blk_put (cs := #[.slice none 0 0, .slice none 0 0]) ?_ 1 _ rfl; (with_reducible repeat (first | refine yM ?_ _ | refine yO ?_ | refine yN ?_ _)); refine blk_put (cs := #[.slice none 0 0, .slice none 0 0]) ?_ 0 _ rfl; (with_reducible repeat (first | refine yM ?_ _ | refine yO ?_ | refine yN ?_ _)); exact BK148.out) Try.underlying26 rfl (by kernel_rfl)) rfl ?_
                exact ⟨_, _, by first | rfl | (simp <;> rfl) | (simp [*] <;> rfl), by first | exact Kd.R_nil _ _ _ _ _ | exact Kd.N_nil _ _ _ _ _ | exact Kd.V_nil _ _ _ _ _ | exact Kd.Q_nil _ _ _ _ _ | exact Kd.S_nil _ _ _ _ _, by first | exact Kd.R_nil _ _ _ _ _ | exact Kd.N_nil _ _ _ _ _ | exact Kd.V_nil _ _ _ _ _ | exact Kd.Q_nil _ _ _ _ _ | exact Kd.S_nil _ _ _ _ _, by repeat (first | (with_reducible first | exact HB.out | apply yQ | apply yL | apply yP | refine yE ?_ GE146.out | refine yE ?_ GE147.out | refine yE ?_ GE148.out | refine yE ?_ GE151.out) | exact HB.out)⟩

/-! ### laws_eqInt64S: function 18 -/
def laws_eqInt64S.l0 : Nat → List Int → List Int → Int → Option (Bool)
  | 0, _, _, _ => none
  | k + 1, x0, x1, x5 => if x5 < (x0.length : Int) then (if 0 ≤ x5 then (if x5 < (x1.length : Int) then (if (rd x0 x5) = (rd x1 x5) then (laws_eqInt64S.l0 k x0 x1 (wrap64 (x5 + 1))) else (some false)) else (none)) else (none)) else (some true)
def laws_eqInt64S.f (k : Nat) (l0 : List Int) (l1 : List Int) : Option (Bool) := if (l0.length : Int) = (l1.length : Int) then (laws_eqInt64S.l0 k l0 l1 0) else (some false)
theorem laws_eqInt64S.mono_l : ∀ k, (∀ y0 y1 y2, LeO (laws_eqInt64S.l0 k y0 y1 y2) (laws_eqInt64S.l0 (k + 1) y0 y1 y2))
  | 0 => fun _ _ _ r h => by simp [laws_eqInt64S.l0] at h
  | k + 1 => by
    have ih0 := laws_eqInt64S.mono_l k
    · intro y0 y1 y2
      unfold laws_eqInt64S.l0
      repeat' first
      | (with_reducible exact ih0 _ _ _)
      | (with_reducible exact LeO.refl _)
      | (with_reducible exact LeO.none _)
      | (with_reducible refine LeO.ite ?_ ?_)
      | (with_reducible refine LeO.bind ?_ (fun _ => ?_))
      | exact ih0 _ _ _
      | exact LeO.none _
      | refine LeO.ite ?_ ?_
      | refine LeO.bind ?_ (fun _ => ?_)
theorem laws_eqInt64S.mono : ∀ a0 a1 k, LeO (laws_eqInt64S.f k a0 a1) (laws_eqInt64S.f (k + 1) a0 a1) := by
  intro a0 a1 k
  have ih0 := laws_eqInt64S.mono_l k
  unfold laws_eqInt64S.f
  repeat' first
      | (with_reducible exact ih0 _ _ _)
      | (with_reducible exact LeO.refl _)
      | (with_reducible exact LeO.none _)
      | (with_reducible refine LeO.ite ?_ ?_)
      | (with_reducible refine LeO.bind ?_ (fun _ => ?_))
      | exact ih0 _ _ _
      | exact LeO.none _
      | refine LeO.ite ?_ ?_
      | refine LeO.bind ?_ (fun _ => ?_)
set_option maxHeartbeats 8000000 in
set_option maxRecDepth 100000 in
theorem laws_eqInt64S.calls (k : Nat) (A0 : Option Addr) (c0 : Nat) (l0 : List Int) (A1 : Option Addr) (c1 : Nat) (l1 : List Int) (r : Bool) (w : World) (hr0 : Kd.C (Kd.int .i64) w A0 l0.length l0) (hc0 : l0.length ≤ c0) (hr1 : Kd.C (Kd.int .i64) w A1 l1.length l1) (hc1 : l1.length ≤ c1) (h : laws_eqInt64S.f k l0 l1 = some r) :
    Calls Try.prog 18 #[.slice A0 l0.length c0, .slice A1 l1.length c1] w fun e w' => e = .returned (.bool r) ∧ Drawn0 w w' := by
  have HR0 := yD hr0
  have HC0 := yD hc0
  clear hr0 hc0
  have HR1 := yD hr1
  have HC1 := yD hc1
  clear hr1 hc1
  have H : (if (l0.length : Int) = (l1.length : Int) then (laws_eqInt64S.l0 k l0 l1 0) else (some false)) = some r := h
  clear h
  by_cases c3 : (l0.length : Int) = (l1.length : Int)
  · rw [if_pos c3] at H
    have c3b0 : ((l0.length : Int) == (l1.length : Int)) = true := beq_iff_eq.mpr c3
    have c3b1 : ((l0.length : Int) != (l1.length : Int)) = false := bne_eq_false_iff_eq.mpr c3
    have c3b2 : (l0.length == l1.length) = true := by first | simpa using c3 | (simp at c3 ⊢; omega)
    clear c3
    have H' := yD H
    clear H; go_enter Try.func18, Try.ntmps18
    go_wp2
    repeat (go_quiet (fail); try go_wp2)
    go_loopg [5] k (fun kq v5 w' => ∃ (x5_1 : Int), v5 = .int .i64 x5_1 ∧ Aside0 (laws_eqInt64S.l0 kq l0 l1 x5_1 = some r) ∧ Aside0 (kq ≤ k) ∧ Drawn0 w w')
    case atStart => exact ⟨(0), (by first | rfl | (simp; done) | (simp [*]; done)), H', ⟨Nat.le_refl _⟩, by repeat (first | exact Drawn0.refl _ | apply Drawn0.step)⟩
    case round =>
      clear H'
      try clear c1; try clear p2; try clear c3; try clear c3b0; try clear c3b1; try clear c3b2
      obtain ⟨x5_1, rfl, HA, HK1, ⟨m1, rfl⟩⟩ := hrel
      cases gk with
      | zero => exact absurd HA.out (by simp [laws_eqInt64S.l0])
      | succ k1 =>
        have H := HA.out; clear HA
        simp only [laws_eqInt64S.l0] at H
        by_cases c4 : x5_1 < (l0.length : Int)
        · rw [if_pos c4] at H
          have c4b0 : decide (x5_1 < (l0.length : Int)) = true := zR c4; clear c4
          by_cases c5 : 0 ≤ x5_1
          · rw [if_pos c5] at H
            have c5b0 : decide (0 ≤ x5_1) = true := zR c5; clear c5
            by_cases c6 : x5_1 < (l1.length : Int)
            · rw [if_pos c6] at H
              have c6b0 : decide (x5_1 < (l1.length : Int)) = true := zR c6; clear c6
              by_cases c7 : (rd l0 x5_1) = (rd l1 x5_1)
              · rw [if_pos c7] at H
                have c7b0 : ((rd l0 x5_1) == (rd l1 x5_1)) = true := beq_iff_eq.mpr c7
                have c7b1 : ((rd l0 x5_1) != (rd l1 x5_1)) = false := bne_eq_false_iff_eq.mpr c7
                clear c7
                have H' := yD H
                clear H
                have p163 : 0 ≤ (x5_1 : Int) := zP (by assumption)
                have q163 : x5_1 < (l0.length : Int) := zP (by assumption)
                obtain ⟨ad163, e163, hx163_0⟩ := Kd.at_int HR0.out x5_1 p163 q163
                cases e163; replace p163 := eq_true p163; replace q163 := eq_true q163
                have p164 : 0 ≤ (x5_1 : Int) := zP (by assumption)
                have q164 : x5_1 < (l1.length : Int) := zP (by assumption)
                obtain ⟨ad164, e164, hx164_0⟩ := Kd.at_int HR1.out x5_1 p164 q164
                cases e164; replace p164 := eq_true p164; replace q164 := eq_true q164
                go_wp2
                repeat (go_quiet (fail); try go_wp2)
                go_roundg k1
                case measure => have := HK1.out; omega
                case rel => exact ⟨(wrap64 (x5_1 + 1)), (by first | rfl | (simp; done) | (simp [*]; done)), H', ⟨by have := HK1.out; omega⟩, by repeat (first | exact Drawn0.refl _ | apply Drawn0.step)⟩
              · rw [if_neg c7] at H
                have c7b0 : ((rd l0 x5_1) == (rd l1 x5_1)) = false := beq_eq_false_iff_ne.mpr c7
                have c7b1 : ((rd l0 x5_1) != (rd l1 x5_1)) = true := bne_iff_ne.mpr c7
                obtain rfl := Option.some.inj H
                have p163 : 0 ≤ (x5_1 : Int) := zP (by assumption)
                have q163 : x5_1 < (l0.length : Int) := zP (by assumption)
                obtain ⟨ad163, e163, hx163_0⟩ := Kd.at_int HR0.out x5_1 p163 q163
                cases e163; replace p163 := eq_true p163; replace q163 := eq_true q163
                have p164 : 0 ≤ (x5_1 : Int) := zP (by assumption)
                have q164 : x5_1 < (l1.length : Int) := zP (by assumption)
                obtain ⟨ad164, e164, hx164_0⟩ := Kd.at_int HR1.out x5_1 p164 q164
                cases e164; replace p164 := eq_true p164; replace q164 := eq_true q164
                go_wp2
                repeat (go_quiet (fail); try go_wp2)
                go_ret
                exact ⟨by first | rfl | (simp; done) | (simp [*]; done), by repeat (first | exact Drawn0.refl _ | apply Drawn0.step)⟩
            · rw [if_neg c6] at H
              exact absurd H (by simp)
          · rw [if_neg c5] at H
            exact absurd H (by simp)
        · rw [if_neg c4] at H
          have c4b0 : decide (x5_1 < (l0.length : Int)) = false := zS c4; clear c4; obtain rfl := Option.some.inj H
          go_wp2
          repeat (go_quiet (fail); try go_wp2)
          go_ret
          exact ⟨by first | rfl | (simp; done) | (simp [*]; done), by repeat (first | exact Drawn0.refl _ | apply Drawn0.step)⟩
  · rw [if_neg c3] at H
    have c3b0 : ((l0.length : Int) == (l1.length : Int)) = false := beq_eq_false_iff_ne.mpr c3
    have c3b1 : ((l0.length : Int) != (l1.length : Int)) = true := bne_iff_ne.mpr c3
    have c3b2 : (l0.length == l1.length) = false := by first | simpa using c3 | (simp at c3 ⊢; omega)
    obtain rfl := Option.some.inj H; go_enter Try.func18, Try.ntmps18
    go_wp2
    repeat (go_quiet (fail); try go_wp2)
    go_ret
    exact ⟨by first | rfl | (simp; done) | (simp [*]; done), by repeat (first | exact Drawn0.refl _ | apply Drawn0.step)⟩

/-! ### laws_eqBox: function 10 -/
def laws_eqBox.f (k : Nat) (l0_0 : List Int) (l0_1 : List Int) (l1_0 : List Int) (l1_1 : List Int) : Option (Bool) := (laws_eqInt64S.f k l0_0 l1_0).bind fun t167 => (if t167 = true then ((laws_eqInt64S.f k l0_1 l1_1).bind fun t168 => (if t168 = true then (some true) else (some false))) else (some false))
theorem laws_eqBox.mono : ∀ a0 a1 a2 a3 k, LeO (laws_eqBox.f k a0 a1 a2 a3) (laws_eqBox.f (k + 1) a0 a1 a2 a3) := by
  intro a0 a1 a2 a3 k
  unfold laws_eqBox.f
  repeat' first
      | (with_reducible exact laws_eqInt64S.mono _ _ _)
      | (with_reducible exact LeO.refl _)
      | (with_reducible exact LeO.none _)
      | (with_reducible refine LeO.ite ?_ ?_)
      | (with_reducible refine LeO.bind ?_ (fun _ => ?_))
      | exact laws_eqInt64S.mono _ _ _
      | exact LeO.none _
      | refine LeO.ite ?_ ?_
      | refine LeO.bind ?_ (fun _ => ?_)
set_option maxHeartbeats 8000000 in
set_option maxRecDepth 100000 in
theorem laws_eqBox.calls (k : Nat) (A0_0 : Option Addr) (c0_0 : Nat) (l0_0 : List Int) (A0_1 : Option Addr) (c0_1 : Nat) (l0_1 : List Int) (A1_0 : Option Addr) (c1_0 : Nat) (l1_0 : List Int) (A1_1 : Option Addr) (c1_1 : Nat) (l1_1 : List Int) (r : Bool) (w : World) (hr0_0 : Kd.C (Kd.int .i64) w A0_0 l0_0.length l0_0) (hc0_0 : l0_0.length ≤ c0_0) (hr0_1 : Kd.C (Kd.int .i64) w A0_1 l0_1.length l0_1) (hc0_1 : l0_1.length ≤ c0_1) (hr1_0 : Kd.C (Kd.int .i64) w A1_0 l1_0.length l1_0) (hc1_0 : l1_0.length ≤ c1_0) (hr1_1 : Kd.C (Kd.int .i64) w A1_1 l1_1.length l1_1) (hc1_1 : l1_1.length ≤ c1_1) (h : laws_eqBox.f k l0_0 l0_1 l1_0 l1_1 = some r) :
    Calls Try.prog 10 #[.agg #[.slice A0_0 l0_0.length c0_0, .slice A0_1 l0_1.length c0_1], .agg #[.slice A1_0 l1_0.length c1_0, .slice A1_1 l1_1.length c1_1]] w fun e w' => e = .returned (.bool r) ∧ Below w.heap.size w w' := by
  have hu26 := Try.underlying26
  have HR0_0 := yD hr0_0
  have HC0_0 := yD hc0_0
  clear hr0_0 hc0_0
  have HR0_1 := yD hr0_1
  have HC0_1 := yD hc0_1
  clear hr0_1 hc0_1
  have HR1_0 := yD hr1_0
  have HC1_0 := yD hc1_0
  clear hr1_0 hc1_0
  have HR1_1 := yD hr1_1
  have HC1_1 := yD hc1_1
  clear hr1_1 hc1_1
  have HB := yD (Below.refl w.heap.size w)
  have H : ((laws_eqInt64S.f k l0_0 l1_0).bind fun t167 => (if t167 = true then ((laws_eqInt64S.f k l0_1 l1_1).bind fun t168 => (if t168 = true then (some true) else (some false))) else (some false))) = some r := h
  clear h
  obtain ⟨t167, A30, H⟩ := zW_ H
  replace H : (if t167 = true then ((laws_eqInt64S.f k l0_1 l1_1).bind fun t168 => (if t168 = true then (some true) else (some false))) else (some false)) = some r := H
  have A3 := yD A30
  clear A30
  by_cases c4 : t167 = true
  · subst c4
    have H1 : ((laws_eqInt64S.f k l0_1 l1_1).bind fun t168 => (if t168 = true then (some true) else (some false))) = some r := by rw [if_pos rfl] at H; exact H
    clear H; have H := H1; clear H1
    obtain ⟨t168, A50, H⟩ := zW_ H
    replace H : (if t168 = true then (some true) else (some false)) = some r := H
    have A5 := yD A50
    clear A50
    by_cases c6 : t168 = true
    · subst c6
      have H1 : (some true) = some r := by rw [if_pos rfl] at H; exact H
      clear H; have H := H1; clear H1; obtain rfl := Option.some.inj H; go_enter Try.func10, Try.ntmps10
      go_wp2_with (first | ((with_reducible refine gate_dst (N := 2) rfl ?_); refine box_event ?hg (N := 2) ?hd (cs := #[.slice A0_0 l0_0.length c0_0, .slice A0_1 l0_1.length c0_1]) (t := 26) ?hr ?_; (case hd => rfl); (case hg => rfl); (case hr => first | (go_simp; done) | (go_simp; rfl)); intro gb165 hg w7 hbox hb; have n0_ := yD (zC (kB HB) hb); have n1_ := yD (hbox); have n2_ := yD ((by rw [hg]; exact (below_size (kB HB)) : w.heap.size ≤ gb165)); have n3_ := yD ((by rw [hg]; exact (below_size (kB HB)) : w.heap.size ≤ gb165)); clear HB; have HB := n0_; have BK165 := n1_; have GW165 := n2_; have GE165 := n3_; clear n0_ n1_ n2_ n3_; clear hb hbox hg) | ((with_reducible refine gate_dst (N := 3) rfl ?_); refine box_event ?hg (N := 3) ?hd (cs := #[.slice A1_0 l1_0.length c1_0, .slice A1_1 l1_1.length c1_1]) (t := 26) ?hr ?_; (case hd => rfl); (case hg => rfl); (case hr => first | (go_simp; done) | (go_simp; rfl)); intro gb166 hg w8 hbox hb; have n0_ := yD (zB (g := gb165) (o := .cells #[.slice A0_0 l0_0.length c0_0, .slice A0_1 l0_1.length c0_1] 26 (0, 0)) (kM BK165) hb); have n1_ := yD (zC (kB HB) hb); have n2_ := yD (hbox); have n3_ := yD ((by rw [hg]; exact (below_size (kB HB)) : w.heap.size ≤ gb166)); have n4_ := yD ((by rw [hg]; exact (below_size (kB HB)) : w.heap.size ≤ gb166)); have n5_ := yD ((by rw [hg]; exact Nat.ne_of_lt (blk_lt (g := gb165) (o := .cells #[.slice A0_0 l0_0.length c0_0, .slice A0_1 l0_1.length c0_1] 26 (0, 0)) (kM BK165)) : gb165 ≠ gb166)); have n6_ := yD ((by rw [hg]; exact Nat.ne_of_gt (blk_lt (g := gb165) (o := .cells #[.slice A0_0 l0_0.length c0_0, .slice A0_1 l0_1.length c0_1] 26 (0, 0)) (kM BK165)) : gb166 ≠ gb165)); clear BK165; clear HB; have BK165 := n0_; have HB := n1_; have BK166 := n2_; have GW166 := n3_; have GE166 := n4_; have NB165_166 := n5_; have NB166_165 := n6_; clear n0_ n1_ n2_ n3_ n4_ n5_ n6_; clear hb hbox hg; have hnb9 := NB165_166.out; have hnc9 := NB166_165.out; obtain ⟨hcz10_0, hcz10_1⟩ := cz2 BK165.out; obtain ⟨hfz10_0, hfz10_1⟩ := fz2 BK165.out; obtain ⟨hcz11_0, hcz11_1⟩ := cz2 BK166.out; obtain ⟨hfz11_0, hfz11_1⟩ := fz2 BK166.out) | ((with_reducible refine gate_callee (f := 18) rfl ?_); refine goesL_ (some 9) rfl rfl Try.func18 (by kernel_rfl) rfl #[.slice A0_0 l0_0.length c0_0, .slice A1_0 l1_0.length c1_0] rfl (by (try simp only [zK, zL, zM]); first | done | rfl | (simp only [zN, zO]; rfl)) ?_; (with_reducible refine (laws_eqInt64S.calls k _ _ l0_0 _ _ l1_0 true _ ?side1 ?side2 ?side3 ?side4 A3.out).mono ?_); (case side1 => exact kV (yY HR0_0.out HB.out)); (case side2 => exact HC0_0.out); (case side3 => exact kV (yY HR1_0.out HB.out)); (case side4 => exact HC1_0.out); rintro e w' ⟨rfl, ⟨nd, rfl⟩⟩; refine ⟨_, rfl, ?_⟩) | ((with_reducible refine gate_callee (f := 18) rfl ?_); refine goesL_ (some 15) rfl rfl Try.func18 (by kernel_rfl) rfl #[.slice A0_1 l0_1.length c0_1, .slice A1_1 l1_1.length c1_1] rfl (by (try simp only [zK, zL, zM]); first | done | rfl | (simp only [zN, zO]; rfl)) ?_; (with_reducible refine (laws_eqInt64S.calls k _ _ l0_1 _ _ l1_1 true _ ?side1 ?side2 ?side3 ?side4 A5.out).mono ?_); (case side1 => repeat (first | exact (yY HR0_1.out (kB HB)) | (with_reducible first | refine yV ?_ _ | refine yW ?_ _ | refine yX ?_))); (case side2 => exact HC0_1.out); (case side3 => repeat (first | exact (yY HR1_1.out (kB HB)) | (with_reducible first | refine yV ?_ _ | refine yW ?_ _ | refine yX ?_))); (case side4 => exact HC1_1.out); rintro e w' ⟨rfl, ⟨nd, rfl⟩⟩; refine ⟨_, rfl, ?_⟩))
      go_ret
      exact ⟨by first | rfl | (simp <;> rfl) | (simp [*] <;> rfl), by repeat (first | (with_reducible first | exact HB.out | apply yQ | apply yL | apply yP | refine yE ?_ GE165.out | refine yE ?_ GE166.out) | exact HB.out)⟩
    · replace c6 := Bool.eq_false_iff.mpr c6
      subst c6
      have H1 : (some false) = some r := by rw [if_neg (show ¬ (false = true) by decide)] at H; exact H
      clear H; have H := H1; clear H1; obtain rfl := Option.some.inj H; go_enter Try.func10, Try.ntmps10
      go_wp2_with (first | ((with_reducible refine gate_dst (N := 2) rfl ?_); refine box_event ?hg (N := 2) ?hd (cs := #[.slice A0_0 l0_0.length c0_0, .slice A0_1 l0_1.length c0_1]) (t := 26) ?hr ?_; (case hd => rfl); (case hg => rfl); (case hr => first | (go_simp; done) | (go_simp; rfl)); intro gb165 hg w12 hbox hb; have n0_ := yD (zC (kB HB) hb); have n1_ := yD (hbox); have n2_ := yD ((by rw [hg]; exact (below_size (kB HB)) : w.heap.size ≤ gb165)); have n3_ := yD ((by rw [hg]; exact (below_size (kB HB)) : w.heap.size ≤ gb165)); clear HB; have HB := n0_; have BK165 := n1_; have GW165 := n2_; have GE165 := n3_; clear n0_ n1_ n2_ n3_; clear hb hbox hg) | ((with_reducible refine gate_dst (N := 3) rfl ?_); refine box_event ?hg (N := 3) ?hd (cs := #[.slice A1_0 l1_0.length c1_0, .slice A1_1 l1_1.length c1_1]) (t := 26) ?hr ?_; (case hd => rfl); (case hg => rfl); (case hr => first | (go_simp; done) | (go_simp; rfl)); intro gb166 hg w13 hbox hb; have n0_ := yD (zB (g := gb165) (o := .cells #[.slice A0_0 l0_0.length c0_0, .slice A0_1 l0_1.length c0_1] 26 (0, 0)) (kM BK165) hb); have n1_ := yD (zC (kB HB) hb); have n2_ := yD (hbox); have n3_ := yD ((by rw [hg]; exact (below_size (kB HB)) : w.heap.size ≤ gb166)); have n4_ := yD ((by rw [hg]; exact (below_size (kB HB)) : w.heap.size ≤ gb166)); have n5_ := yD ((by rw [hg]; exact Nat.ne_of_lt (blk_lt (g := gb165) (o := .cells #[.slice A0_0 l0_0.length c0_0, .slice A0_1 l0_1.length c0_1] 26 (0, 0)) (kM BK165)) : gb165 ≠ gb166)); have n6_ := yD ((by rw [hg]; exact Nat.ne_of_gt (blk_lt (g := gb165) (o := .cells #[.slice A0_0 l0_0.length c0_0, .slice A0_1 l0_1.length c0_1] 26 (0, 0)) (kM BK165)) : gb166 ≠ gb165)); clear BK165; clear HB; have BK165 := n0_; have HB := n1_; have BK166 := n2_; have GW166 := n3_; have GE166 := n4_; have NB165_166 := n5_; have NB166_165 := n6_; clear n0_ n1_ n2_ n3_ n4_ n5_ n6_; clear hb hbox hg; have hnb14 := NB165_166.out; have hnc14 := NB166_165.out; obtain ⟨hcz15_0, hcz15_1⟩ := cz2 BK165.out; obtain ⟨hfz15_0, hfz15_1⟩ := fz2 BK165.out; obtain ⟨hcz16_0, hcz16_1⟩ := cz2 BK166.out; obtain ⟨hfz16_0, hfz16_1⟩ := fz2 BK166.out) | ((with_reducible refine gate_callee (f := 18) rfl ?_); refine goesL_ (some 9) rfl rfl Try.func18 (by kernel_rfl) rfl #[.slice A0_0 l0_0.length c0_0, .slice A1_0 l1_0.length c1_0] rfl (by (try simp only [zK, zL, zM]); first | done | rfl | (simp only [zN, zO]; rfl)) ?_; (with_reducible refine (laws_eqInt64S.calls k _ _ l0_0 _ _ l1_0 true _ ?side1 ?side2 ?side3 ?side4 A3.out).mono ?_); (case side1 => exact kV (yY HR0_0.out HB.out)); (case side2 => exact HC0_0.out); (case side3 => exact kV (yY HR1_0.out HB.out)); (case side4 => exact HC1_0.out); rintro e w' ⟨rfl, ⟨nd, rfl⟩⟩; refine ⟨_, rfl, ?_⟩) | ((with_reducible refine gate_callee (f := 18) rfl ?_); refine goesL_ (some 15) rfl rfl Try.func18 (by kernel_rfl) rfl #[.slice A0_1 l0_1.length c0_1, .slice A1_1 l1_1.length c1_1] rfl (by (try simp only [zK, zL, zM]); first | done | rfl | (simp only [zN, zO]; rfl)) ?_; (with_reducible refine (laws_eqInt64S.calls k _ _ l0_1 _ _ l1_1 false _ ?side1 ?side2 ?side3 ?side4 A5.out).mono ?_); (case side1 => repeat (first | exact (yY HR0_1.out (kB HB)) | (with_reducible first | refine yV ?_ _ | refine yW ?_ _ | refine yX ?_))); (case side2 => exact HC0_1.out); (case side3 => repeat (first | exact (yY HR1_1.out (kB HB)) | (with_reducible first | refine yV ?_ _ | refine yW ?_ _ | refine yX ?_))); (case side4 => exact HC1_1.out); rintro e w' ⟨rfl, ⟨nd, rfl⟩⟩; refine ⟨_, rfl, ?_⟩))
      go_ret
      exact ⟨by first | rfl | (simp <;> rfl) | (simp [*] <;> rfl), by repeat (first | (with_reducible first | exact HB.out | apply yQ | apply yL | apply yP | refine yE ?_ GE165.out | refine yE ?_ GE166.out) | exact HB.out)⟩
  · replace c4 := Bool.eq_false_iff.mpr c4
    subst c4
    have H1 : (some false) = some r := by rw [if_neg (show ¬ (false = true) by decide)] at H; exact H
    clear H; have H := H1; clear H1; obtain rfl := Option.some.inj H; go_enter Try.func10, Try.ntmps10
    go_wp2_with (first | ((with_reducible refine gate_dst (N := 2) rfl ?_); refine box_event ?hg (N := 2) ?hd (cs := #[.slice A0_0 l0_0.length c0_0, .slice A0_1 l0_1.length c0_1]) (t := 26) ?hr ?_; (case hd => rfl); (case hg => rfl); (case hr => first | (go_simp; done) | (go_simp; rfl)); intro gb165 hg w17 hbox hb; have n0_ := yD (zC (kB HB) hb); have n1_ := yD (hbox); have n2_ := yD ((by rw [hg]; exact (below_size (kB HB)) : w.heap.size ≤ gb165)); have n3_ := yD ((by rw [hg]; exact (below_size (kB HB)) : w.heap.size ≤ gb165)); clear HB; have HB := n0_; have BK165 := n1_; have GW165 := n2_; have GE165 := n3_; clear n0_ n1_ n2_ n3_; clear hb hbox hg) | ((with_reducible refine gate_dst (N := 3) rfl ?_); refine box_event ?hg (N := 3) ?hd (cs := #[.slice A1_0 l1_0.length c1_0, .slice A1_1 l1_1.length c1_1]) (t := 26) ?hr ?_; (case hd => rfl); (case hg => rfl); (case hr => first | (go_simp; done) | (go_simp; rfl)); intro gb166 hg w18 hbox hb; have n0_ := yD (zB (g := gb165) (o := .cells #[.slice A0_0 l0_0.length c0_0, .slice A0_1 l0_1.length c0_1] 26 (0, 0)) (kM BK165) hb); have n1_ := yD (zC (kB HB) hb); have n2_ := yD (hbox); have n3_ := yD ((by rw [hg]; exact (below_size (kB HB)) : w.heap.size ≤ gb166)); have n4_ := yD ((by rw [hg]; exact (below_size (kB HB)) : w.heap.size ≤ gb166)); have n5_ := yD ((by rw [hg]; exact Nat.ne_of_lt (blk_lt (g := gb165) (o := .cells #[.slice A0_0 l0_0.length c0_0, .slice A0_1 l0_1.length c0_1] 26 (0, 0)) (kM BK165)) : gb165 ≠ gb166)); have n6_ := yD ((by rw [hg]; exact Nat.ne_of_gt (blk_lt (g := gb165) (o := .cells #[.slice A0_0 l0_0.length c0_0, .slice A0_1 l0_1.length c0_1] 26 (0, 0)) (kM BK165)) : gb166 ≠ gb165)); clear BK165; clear HB; have BK165 := n0_; have HB := n1_; have BK166 := n2_; have GW166 := n3_; have GE166 := n4_; have NB165_166 := n5_; have NB166_165 := n6_; clear n0_ n1_ n2_ n3_ n4_ n5_ n6_; clear hb hbox hg; have hnb19 := NB165_166.out; have hnc19 := NB166_165.out; obtain ⟨hcz20_0, hcz20_1⟩ := cz2 BK165.out; obtain ⟨hfz20_0, hfz20_1⟩ := fz2 BK165.out; obtain ⟨hcz21_0, hcz21_1⟩ := cz2 BK166.out; obtain ⟨hfz21_0, hfz21_1⟩ := fz2 BK166.out) | ((with_reducible refine gate_callee (f := 18) rfl ?_); refine goesL_ (some 9) rfl rfl Try.func18 (by kernel_rfl) rfl #[.slice A0_0 l0_0.length c0_0, .slice A1_0 l1_0.length c1_0] rfl (by (try simp only [zK, zL, zM]); first | done | rfl | (simp only [zN, zO]; rfl)) ?_; (with_reducible refine (laws_eqInt64S.calls k _ _ l0_0 _ _ l1_0 false _ ?side1 ?side2 ?side3 ?side4 A3.out).mono ?_); (case side1 => exact kV (yY HR0_0.out HB.out)); (case side2 => exact HC0_0.out); (case side3 => exact kV (yY HR1_0.out HB.out)); (case side4 => exact HC1_0.out); rintro e w' ⟨rfl, ⟨nd, rfl⟩⟩; refine ⟨_, rfl, ?_⟩))
    go_ret
    exact ⟨by first | rfl | (simp <;> rfl) | (simp [*] <;> rfl), by repeat (first | (with_reducible first | exact HB.out | apply yQ | apply yL | apply yP | refine yE ?_ GE165.out | refine yE ?_ GE166.out) | exact HB.out)⟩

end Go.Proofs.Ytlfjepcmlgfogaa.PFnExactCutBox
