/- Each Go function here comes to what the plain function of its name says, where that says something. Made by a program of this session, over the print. -/
import Derived.Test.YtlfjepcmlgfogaaPFnExactCutBoxx0
import Derived.Test.YtlfjepcmlgfogaaPFnExactCutBoxx2
namespace Go.Proofs.Ytlfjepcmlgfogaa.PFnExactCutBox
open Go.RowKit Go.Proofs.YtlfjepcmlgfogaaW.PrintWords Go.Proofs.YtlfjepcmlgfogaaW.PrintLast Go.Proofs.YtlfjepcmlgfogaaW.PrintMore
attribute [local go_sem] max2_int min2_int max_two min_two max_three min_three max_four min_four   -- for this text's walks alone
set_option linter.unusedVariables false
set_option linter.unusedSimpArgs false

/-! ### spec_CutBox: function 7 -/
mutual
def spec_CutBox.j0 : Nat → Bool → List Int → List Int → List Int → List Int → Option (List Int × List Int × Bool)
  | 0, _, _, _, _, _ => none
  | k + 1, x26, x125000, x125001, x126000, x126001 => if x26 = true then (some (([] : List Int), ([] : List Int), false)) else (spec_CutBox.l0 k 0 x125000 x125001 x126000 x126001 ([] : List Int) ([] : List Int))
def spec_CutBox.l0 : Nat → Int → List Int → List Int → List Int → List Int → List Int → List Int → Option (List Int × List Int × Bool)
  | 0, _, _, _, _, _, _, _ => none
  | k + 1, x7, x125000, x125001, x126000, x126001, x130000, x130001 => if x7 < (x125000.length : Int) then (if 0 ≤ x7 then (if x7 < (x126000.length : Int) then ((spec_l00Max.f (rd x125000 x7) (rd x126000 x7)).bind fun t132 => (if x7 < (x125001.length : Int) then (if x7 < (x126001.length : Int) then ((spec_l00Min.f (rd x125001 x7) (rd x126001 x7)).bind fun t135 => (if t132 ≥ t135 then (some (([] : List Int), ([] : List Int), false)) else (if x130000.length < 17592186044416 then (if x130001.length < 17592186044416 then (spec_CutBox.l0 k (wrap64 (x7 + 1)) x125000 x125001 x126000 x126001 (x130000 ++ [t132]) (x130001 ++ [t135])) else (none)) else (none)))) else (none)) else (none))) else (none)) else (none)) else (some (x130000, x130001, true))
end
def spec_CutBox.f (k : Nat) (l0_0 : List Int) (l0_1 : List Int) (l1_0 : List Int) (l1_1 : List Int) : Option (List Int × List Int × Bool) := (spec_l07Box.f k l0_0 l0_1).bind fun t127 => (if t127 = true then ((spec_l07Box.f k l1_0 l1_1).bind fun t128 => (if t128 = true then (spec_CutBox.j0 k ((l0_0.length : Int) != (l1_0.length : Int)) l0_0 l0_1 l1_0 l1_1) else (spec_CutBox.j0 k true l0_0 l0_1 l1_0 l1_1))) else (spec_CutBox.j0 k true l0_0 l0_1 l1_0 l1_1))
theorem spec_CutBox.mono_l : ∀ k, (∀ y0 y1 y2 y3 y4, LeO (spec_CutBox.j0 k y0 y1 y2 y3 y4) (spec_CutBox.j0 (k + 1) y0 y1 y2 y3 y4)) ∧ (∀ y0 y1 y2 y3 y4 y5 y6, LeO (spec_CutBox.l0 k y0 y1 y2 y3 y4 y5 y6) (spec_CutBox.l0 (k + 1) y0 y1 y2 y3 y4 y5 y6))
  | 0 => ⟨fun _ _ _ _ _ r h => by simp [spec_CutBox.j0] at h, fun _ _ _ _ _ _ _ r h => by simp [spec_CutBox.l0] at h⟩
  | k + 1 => by
    obtain ⟨ih0, ih1⟩ := spec_CutBox.mono_l k
    refine ⟨?_, ?_⟩
    · intro y0 y1 y2 y3 y4
      unfold spec_CutBox.j0
      repeat' first
      | (with_reducible exact ih0 _ _ _ _ _)
      | (with_reducible exact ih1 _ _ _ _ _ _ _)
      | (with_reducible exact spec_l07Box.mono _ _ _)
      | (with_reducible exact LeO.refl _)
      | (with_reducible exact LeO.none _)
      | (with_reducible refine LeO.ite ?_ ?_)
      | (with_reducible refine LeO.bind ?_ (fun _ => ?_))
      | exact ih0 _ _ _ _ _
      | exact ih1 _ _ _ _ _ _ _
      | exact spec_l07Box.mono _ _ _
      | exact LeO.none _
      | refine LeO.ite ?_ ?_
      | refine LeO.bind ?_ (fun _ => ?_)
    · intro y0 y1 y2 y3 y4 y5 y6
      unfold spec_CutBox.l0
      repeat' first
      | (with_reducible exact ih0 _ _ _ _ _)
      | (with_reducible exact ih1 _ _ _ _ _ _ _)
      | (with_reducible exact spec_l07Box.mono _ _ _)
      | (with_reducible exact LeO.refl _)
      | (with_reducible exact LeO.none _)
      | (with_reducible refine LeO.ite ?_ ?_)
      | (with_reducible refine LeO.bind ?_ (fun _ => ?_))
      | exact ih0 _ _ _ _ _
      | exact ih1 _ _ _ _ _ _ _
      | exact spec_l07Box.mono _ _ _
      | exact LeO.none _
      | refine LeO.ite ?_ ?_
      | refine LeO.bind ?_ (fun _ => ?_)
theorem spec_CutBox.mono : ∀ a0 a1 a2 a3 k, LeO (spec_CutBox.f k a0 a1 a2 a3) (spec_CutBox.f (k + 1) a0 a1 a2 a3) := by
  intro a0 a1 a2 a3 k
  obtain ⟨ih0, ih1⟩ := spec_CutBox.mono_l k
  unfold spec_CutBox.f
  repeat' first
      | (with_reducible exact ih0 _ _ _ _ _)
      | (with_reducible exact ih1 _ _ _ _ _ _ _)
      | (with_reducible exact spec_l07Box.mono _ _ _)
      | (with_reducible exact LeO.refl _)
      | (with_reducible exact LeO.none _)
      | (with_reducible refine LeO.ite ?_ ?_)
      | (with_reducible refine LeO.bind ?_ (fun _ => ?_))
      | exact ih0 _ _ _ _ _
      | exact ih1 _ _ _ _ _ _ _
      | exact spec_l07Box.mono _ _ _
      | exact LeO.none _
      | refine LeO.ite ?_ ?_
      | refine LeO.bind ?_ (fun _ => ?_)
set_option maxHeartbeats 8000000 in
set_option maxRecDepth 100000 in
theorem spec_CutBox.calls (k : Nat) (A0_0 : Option Addr) (c0_0 : Nat) (l0_0 : List Int) (A0_1 : Option Addr) (c0_1 : Nat) (l0_1 : List Int) (A1_0 : Option Addr) (c1_0 : Nat) (l1_0 : List Int) (A1_1 : Option Addr) (c1_1 : Nat) (l1_1 : List Int) (r1 : List Int) (r2 : List Int) (r3 : Bool) (w : World) (hr0_0 : Kd.C (Kd.int .i64) w A0_0 l0_0.length l0_0) (hc0_0 : l0_0.length ≤ c0_0) (hr0_1 : Kd.C (Kd.int .i64) w A0_1 l0_1.length l0_1) (hc0_1 : l0_1.length ≤ c0_1) (hr1_0 : Kd.C (Kd.int .i64) w A1_0 l1_0.length l1_0) (hc1_0 : l1_0.length ≤ c1_0) (hr1_1 : Kd.C (Kd.int .i64) w A1_1 l1_1.length l1_1) (hc1_1 : l1_1.length ≤ c1_1) (h : spec_CutBox.f k l0_0 l0_1 l1_0 l1_1 = some (r1, r2, r3)) :
    Calls Try.prog 7 #[.agg #[.slice A0_0 l0_0.length c0_0, .slice A0_1 l0_1.length c0_1], .agg #[.slice A1_0 l1_0.length c1_0, .slice A1_1 l1_1.length c1_1]] w fun e w' => ∃ v0_ v1_ : Value, e = .returned (.tuple #[.agg #[v0_, v1_], .bool r3]) ∧ Kd.R (Kd.int .i64) 2 w' w.heap.size (fun k_ => some k_ ≠ (v1_ : Value).ownBlock) v0_ r1 ∧ Kd.R (Kd.int .i64) 2 w' w.heap.size (fun k_ => some k_ ≠ (v0_ : Value).ownBlock) v1_ r2 ∧ Below w.heap.size w w' := by
  have hu26 := Try.underlying26
  have HR0_0 := yD hr0_0
  have HC0_0 := yD hc0_0
  clear hr0_0 hc0_0
  have HR0_1 := yD hr0_1
  have HC0_1 := yD hc0_1
  clear hr0_1 hc0_1
  have HR1_0 := yD hr1_0
  have HC1_0 := yD hc1_0
  clear hr1_0 hc1_0
  have HR1_1 := yD hr1_1
  have HC1_1 := yD hc1_1
  clear hr1_1 hc1_1
  have HB := yD (Below.refl w.heap.size w)
  have H : ((spec_l07Box.f k l0_0 l0_1).bind fun t127 => (if t127 = true then ((spec_l07Box.f k l1_0 l1_1).bind fun t128 => (if t128 = true then (spec_CutBox.j0 k ((l0_0.length : Int) != (l1_0.length : Int)) l0_0 l0_1 l1_0 l1_1) else (spec_CutBox.j0 k true l0_0 l0_1 l1_0 l1_1))) else (spec_CutBox.j0 k true l0_0 l0_1 l1_0 l1_1))) = some (r1, r2, r3) := h
  clear h
  have HC3 := yD H
  clear H; go_enter Try.func7, Try.ntmps7
  go_upto_region 1 with (first | ((with_reducible refine gate_dst (N := 2) rfl ?_); (try (refine gate_guard (by rfl) ?_; dsimp only)); refine box_event ?hg (N := 2) ?hd (cs := #[.slice A0_0 l0_0.length c0_0, .slice A0_1 l0_1.length c0_1]) (t := 26) ?hr ?_; (case hd => rfl); (case hg => rfl); (case hr => first | (go_simp; done) | (go_simp; rfl)); intro gb124 hg w4 hbox hb; have n0_ := yD (zC (kB HB) hb); have n1_ := yD (hbox); have n2_ := yD ((by rw [hg]; exact (below_size (kB HB)) : w.heap.size ≤ gb124)); have n3_ := yD ((by rw [hg]; exact (below_size (kB HB)) : w.heap.size ≤ gb124)); clear HB; have HB := n0_; have BK124 := n1_; have GW124 := n2_; have GE124 := n3_; clear n0_ n1_ n2_ n3_; clear hb hbox hg) | ((with_reducible refine gate_dst (N := 3) rfl ?_); (try (refine gate_guard (by rfl) ?_; dsimp only)); refine box_event ?hg (N := 3) ?hd (cs := #[.slice A1_0 l1_0.length c1_0, .slice A1_1 l1_1.length c1_1]) (t := 26) ?hr ?_; (case hd => rfl); (case hg => rfl); (case hr => first | (go_simp; done) | (go_simp; rfl)); intro gb125 hg w5 hbox hb; have n0_ := yD (zB (g := gb124) (o := .cells #[.slice A0_0 l0_0.length c0_0, .slice A0_1 l0_1.length c0_1] 26 (0, 0)) (kM BK124) hb); have n1_ := yD (zC (kB HB) hb); have n2_ := yD (hbox); have n3_ := yD ((by rw [hg]; exact (below_size (kB HB)) : w.heap.size ≤ gb125)); have n4_ := yD ((by rw [hg]; exact (below_size (kB HB)) : w.heap.size ≤ gb125)); have n5_ := yD ((by rw [hg]; exact Nat.ne_of_lt (blk_lt (g := gb124) (o := .cells #[.slice A0_0 l0_0.length c0_0, .slice A0_1 l0_1.length c0_1] 26 (0, 0)) (kM BK124)) : gb124 ≠ gb125)); have n6_ := yD ((by rw [hg]; exact Nat.ne_of_gt (blk_lt (g := gb124) (o := .cells #[.slice A0_0 l0_0.length c0_0, .slice A0_1 l0_1.length c0_1] 26 (0, 0)) (kM BK124)) : gb125 ≠ gb124)); clear BK124; clear HB; have BK124 := n0_; have HB := n1_; have BK125 := n2_; have GW125 := n3_; have GE125 := n4_; have NB124_125 := n5_; have NB125_124 := n6_; clear n0_ n1_ n2_ n3_ n4_ n5_ n6_; clear hb hbox hg) | ((with_reducible refine gate_dst (N := 4) rfl ?_); (try (refine gate_guard (by rfl) ?_; dsimp only)); refine box_event ?hg (N := 4) ?hd (cs := #[.slice none 0 0, .slice none 0 0]) (t := 26) ?hr ?_; (case hd => rfl); (case hg => rfl); (case hr => first | (go_simp; done) | (go_simp; rfl)); intro gb126 hg w6 hbox hb; have n0_ := yD (zB (g := gb124) (o := .cells #[.slice A0_0 l0_0.length c0_0, .slice A0_1 l0_1.length c0_1] 26 (0, 0)) (kM BK124) hb); have n1_ := yD (zB (g := gb125) (o := .cells #[.slice A1_0 l1_0.length c1_0, .slice A1_1 l1_1.length c1_1] 26 (0, 0)) (kM BK125) hb); have n2_ := yD (zC (kB HB) hb); have n3_ := yD (hbox); have n4_ := yD ((by rw [hg]; exact (below_size (kB HB)) : w.heap.size ≤ gb126)); have n5_ := yD ((by rw [hg]; exact (below_size (kB HB)) : w.heap.size ≤ gb126)); have n6_ := yD ((by rw [hg]; exact Nat.ne_of_lt (blk_lt (g := gb124) (o := .cells #[.slice A0_0 l0_0.length c0_0, .slice A0_1 l0_1.length c0_1] 26 (0, 0)) (kM BK124)) : gb124 ≠ gb126)); have n7_ := yD ((by rw [hg]; exact Nat.ne_of_gt (blk_lt (g := gb124) (o := .cells #[.slice A0_0 l0_0.length c0_0, .slice A0_1 l0_1.length c0_1] 26 (0, 0)) (kM BK124)) : gb126 ≠ gb124)); have n8_ := yD ((by rw [hg]; exact Nat.ne_of_lt (blk_lt (g := gb125) (o := .cells #[.slice A1_0 l1_0.length c1_0, .slice A1_1 l1_1.length c1_1] 26 (0, 0)) (kM BK125)) : gb125 ≠ gb126)); have n9_ := yD ((by rw [hg]; exact Nat.ne_of_gt (blk_lt (g := gb125) (o := .cells #[.slice A1_0 l1_0.length c1_0, .slice A1_1 l1_1.length c1_1] 26 (0, 0)) (kM BK125)) : gb126 ≠ gb125)); clear BK124; clear BK125; clear HB; have BK124 := n0_; have BK125 := n1_; have HB := n2_; have BK126 := n3_; have GW126 := n4_; have GE126 := n5_; have NB124_126 := n6_; have NB126_124 := n7_; have NB125_126 := n8_; have NB126_125 := n9_; clear n0_ n1_ n2_ n3_ n4_ n5_ n6_ n7_ n8_ n9_; clear hb hbox hg))
  repeat (go_quiet (first | ((with_reducible refine gate_dst (N := 2) rfl ?_); (try (refine gate_guard (by rfl) ?_; dsimp only)); refine box_event ?hg (N := 2) ?hd (cs := #[.slice A0_0 l0_0.length c0_0, .slice A0_1 l0_1.length c0_1]) (t := 26) ?hr ?_; (case hd => rfl); (case hg => rfl); (case hr => first | (go_simp; done) | (go_simp; rfl)); intro gb124 hg w4 hbox hb; have n0_ := yD (zC (kB HB) hb); have n1_ := yD (hbox); have n2_ := yD ((by rw [hg]; exact (below_size (kB HB)) : w.heap.size ≤ gb124)); have n3_ := yD ((by rw [hg]; exact (below_size (kB HB)) : w.heap.size ≤ gb124)); clear HB; have HB := n0_; have BK124 := n1_; have GW124 := n2_; have GE124 := n3_; clear n0_ n1_ n2_ n3_; clear hb hbox hg) | ((with_reducible refine gate_dst (N := 3) rfl ?_); (try (refine gate_guard (by rfl) ?_; dsimp only)); refine box_event ?hg (N := 3) ?hd (cs := #[.slice A1_0 l1_0.length c1_0, .slice A1_1 l1_1.length c1_1]) (t := 26) ?hr ?_; (case hd => rfl); (case hg => rfl); (case hr => first | (go_simp; done) | (go_simp; rfl)); intro gb125 hg w5 hbox hb; have n0_ := yD (zB (g := gb124) (o := .cells #[.slice A0_0 l0_0.length c0_0, .slice A0_1 l0_1.length c0_1] 26 (0, 0)) (kM BK124) hb); have n1_ := yD (zC (kB HB) hb); have n2_ := yD (hbox); have n3_ := yD ((by rw [hg]; exact (below_size (kB HB)) : w.heap.size ≤ gb125)); have n4_ := yD ((by rw [hg]; exact (below_size (kB HB)) : w.heap.size ≤ gb125)); have n5_ := yD ((by rw [hg]; exact Nat.ne_of_lt (blk_lt (g := gb124) (o := .cells #[.slice A0_0 l0_0.length c0_0, .slice A0_1 l0_1.length c0_1] 26 (0, 0)) (kM BK124)) : gb124 ≠ gb125)); have n6_ := yD ((by rw [hg]; exact Nat.ne_of_gt (blk_lt (g := gb124) (o := .cells #[.slice A0_0 l0_0.length c0_0, .slice A0_1 l0_1.length c0_1] 26 (0, 0)) (kM BK124)) : gb125 ≠ gb124)); clear BK124; clear HB; have BK124 := n0_; have HB := n1_; have BK125 := n2_; have GW125 := n3_; have GE125 := n4_; have NB124_125 := n5_; have NB125_124 := n6_; clear n0_ n1_ n2_ n3_ n4_ n5_ n6_; clear hb hbox hg) | ((with_reducible refine gate_dst (N := 4) rfl ?_); (try (refine gate_guard (by rfl) ?_; dsimp only)); refine box_event ?hg (N := 4) ?hd (cs := #[.slice none 0 0, .slice none 0 0]) (t := 26) ?hr ?_; (case hd => rfl); (case hg => rfl); (case hr => first | (go_simp; done) | (go_simp; rfl)); intro gb126 hg w6 hbox hb; have n0_ := yD (zB (g := gb124) (o := .cells #[.slice A0_0 l0_0.length c0_0, .slice A0_1 l0_1.length c0_1] 26 (0, 0)) (kM BK124) hb); have n1_ := yD (zB (g := gb125) (o := .cells #[.slice A1_0 l1_0.length c1_0, .slice A1_1 l1_1.length c1_1] 26 (0, 0)) (kM BK125) hb); have n2_ := yD (zC (kB HB) hb); have n3_ := yD (hbox); have n4_ := yD ((by rw [hg]; exact (below_size (kB HB)) : w.heap.size ≤ gb126)); have n5_ := yD ((by rw [hg]; exact (below_size (kB HB)) : w.heap.size ≤ gb126)); have n6_ := yD ((by rw [hg]; exact Nat.ne_of_lt (blk_lt (g := gb124) (o := .cells #[.slice A0_0 l0_0.length c0_0, .slice A0_1 l0_1.length c0_1] 26 (0, 0)) (kM BK124)) : gb124 ≠ gb126)); have n7_ := yD ((by rw [hg]; exact Nat.ne_of_gt (blk_lt (g := gb124) (o := .cells #[.slice A0_0 l0_0.length c0_0, .slice A0_1 l0_1.length c0_1] 26 (0, 0)) (kM BK124)) : gb126 ≠ gb124)); have n8_ := yD ((by rw [hg]; exact Nat.ne_of_lt (blk_lt (g := gb125) (o := .cells #[.slice A1_0 l1_0.length c1_0, .slice A1_1 l1_1.length c1_1] 26 (0, 0)) (kM BK125)) : gb125 ≠ gb126)); have n9_ := yD ((by rw [hg]; exact Nat.ne_of_gt (blk_lt (g := gb125) (o := .cells #[.slice A1_0 l1_0.length c1_0, .slice A1_1 l1_1.length c1_1] 26 (0, 0)) (kM BK125)) : gb126 ≠ gb125)); clear BK124; clear BK125; clear HB; have BK124 := n0_; have BK125 := n1_; have HB := n2_; have BK126 := n3_; have GW126 := n4_; have GE126 := n5_; have NB124_126 := n6_; have NB126_124 := n7_; have NB125_126 := n8_; have NB126_125 := n9_; clear n0_ n1_ n2_ n3_ n4_ n5_ n6_ n7_ n8_ n9_; clear hb hbox hg)); go_upto_region 1 with (first | ((with_reducible refine gate_dst (N := 2) rfl ?_); (try (refine gate_guard (by rfl) ?_; dsimp only)); refine box_event ?hg (N := 2) ?hd (cs := #[.slice A0_0 l0_0.length c0_0, .slice A0_1 l0_1.length c0_1]) (t := 26) ?hr ?_; (case hd => rfl); (case hg => rfl); (case hr => first | (go_simp; done) | (go_simp; rfl)); intro gb124 hg w4 hbox hb; have n0_ := yD (zC (kB HB) hb); have n1_ := yD (hbox); have n2_ := yD ((by rw [hg]; exact (below_size (kB HB)) : w.heap.size ≤ gb124)); have n3_ := yD ((by rw [hg]; exact (below_size (kB HB)) : w.heap.size ≤ gb124)); clear HB; have HB := n0_; have BK124 := n1_; have GW124 := n2_; have GE124 := n3_; clear n0_ n1_ n2_ n3_; clear hb hbox hg) | ((with_reducible refine gate_dst (N := 3) rfl ?_); (try (refine gate_guard (by rfl) ?_; dsimp only)); refine box_event ?hg (N := 3) ?hd (cs := #[.slice A1_0 l1_0.length c1_0, .slice A1_1 l1_1.length c1_1]) (t := 26) ?hr ?_; (case hd => rfl); (case hg => rfl); (case hr => first | (go_simp; done) | (go_simp; rfl)); intro gb125 hg w5 hbox hb; have n0_ := yD (zB (g := gb124) (o := .cells #[.slice A0_0 l0_0.length c0_0, .slice A0_1 l0_1.length c0_1] 26 (0, 0)) (kM BK124) hb); have n1_ := yD (zC (kB HB) hb); have n2_ := yD (hbox); have n3_ := yD ((by rw [hg]; exact (below_size (kB HB)) : w.heap.size ≤ gb125)); have n4_ := yD ((by rw [hg]; exact (below_size (kB HB)) : w.heap.size ≤ gb125)); have n5_ := yD ((by rw [hg]; exact Nat.ne_of_lt (blk_lt (g := gb124) (o := .cells #[.slice A0_0 l0_0.length c0_0, .slice A0_1 l0_1.length c0_1] 26 (0, 0)) (kM BK124)) : gb124 ≠ gb125)); have n6_ := yD ((by rw [hg]; exact Nat.ne_of_gt (blk_lt (g := gb124) (o := .cells #[.slice A0_0 l0_0.length c0_0, .slice A0_1 l0_1.length c0_1] 26 (0, 0)) (kM BK124)) : gb125 ≠ gb124)); clear BK124; clear HB; have BK124 := n0_; have HB := n1_; have BK125 := n2_; have GW125 := n3_; have GE125 := n4_; have NB124_125 := n5_; have NB125_124 := n6_; clear n0_ n1_ n2_ n3_ n4_ n5_ n6_; clear hb hbox hg) | ((with_reducible refine gate_dst (N := 4) rfl ?_); (try (refine gate_guard (by rfl) ?_; dsimp only)); refine box_event ?hg (N := 4) ?hd (cs := #[.slice none 0 0, .slice none 0 0]) (t := 26) ?hr ?_; (case hd => rfl); (case hg => rfl); (case hr => first | (go_simp; done) | (go_simp; rfl)); intro gb126 hg w6 hbox hb; have n0_ := yD (zB (g := gb124) (o := .cells #[.slice A0_0 l0_0.length c0_0, .slice A0_1 l0_1.length c0_1] 26 (0, 0)) (kM BK124) hb); have n1_ := yD (zB (g := gb125) (o := .cells #[.slice A1_0 l1_0.length c1_0, .slice A1_1 l1_1.length c1_1] 26 (0, 0)) (kM BK125) hb); have n2_ := yD (zC (kB HB) hb); have n3_ := yD (hbox); have n4_ := yD ((by rw [hg]; exact (below_size (kB HB)) : w.heap.size ≤ gb126)); have n5_ := yD ((by rw [hg]; exact (below_size (kB HB)) : w.heap.size ≤ gb126)); have n6_ := yD ((by rw [hg]; exact Nat.ne_of_lt (blk_lt (g := gb124) (o := .cells #[.slice A0_0 l0_0.length c0_0, .slice A0_1 l0_1.length c0_1] 26 (0, 0)) (kM BK124)) : gb124 ≠ gb126)); have n7_ := yD ((by rw [hg]; exact Nat.ne_of_gt (blk_lt (g := gb124) (o := .cells #[.slice A0_0 l0_0.length c0_0, .slice A0_1 l0_1.length c0_1] 26 (0, 0)) (kM BK124)) : gb126 ≠ gb124)); have n8_ := yD ((by rw [hg]; exact Nat.ne_of_lt (blk_lt (g := gb125) (o := .cells #[.slice A1_0 l1_0.length c1_0, .slice A1_1 l1_1.length c1_1] 26 (0, 0)) (kM BK125)) : gb125 ≠ gb126)); have n9_ := yD ((by rw [hg]; exact Nat.ne_of_gt (blk_lt (g := gb125) (o := .cells #[.slice A1_0 l1_0.length c1_0, .slice A1_1 l1_1.length c1_1] 26 (0, 0)) (kM BK125)) : gb126 ≠ gb125)); clear BK124; clear BK125; clear HB; have BK124 := n0_; have BK125 := n1_; have HB := n2_; have BK126 := n3_; have GW126 := n4_; have GE126 := n5_; have NB124_126 := n6_; have NB126_124 := n7_; have NB125_126 := n8_; have NB126_125 := n9_; clear n0_ n1_ n2_ n3_ n4_ n5_ n6_ n7_ n8_ n9_; clear hb hbox hg)))
  (try simp only [Act.put, zH, zI, zJ])
  go_cut [26] (fun v26 wc => ∃ (kq : Nat) (x26_2 : Bool), v26 = .bool x26_2 ∧ Aside0 (spec_CutBox.j0 kq x26_2 l0_0 l0_1 l1_0 l1_1 = some (r1, r2, r3)) ∧ Aside0 (kq ≤ k) ∧ Aside0 (wc.heap[gb124]? = some (.cells #[(.slice A0_0 l0_0.length c0_0), (.slice A0_1 l0_1.length c0_1)] 26 (0, 0))) ∧ Aside0 (wc.heap[gb125]? = some (.cells #[(.slice A1_0 l1_0.length c1_0), (.slice A1_1 l1_1.length c1_1)] 26 (0, 0))) ∧ Aside0 (wc.heap[gb126]? = some (.cells #[(.slice none 0 0), (.slice none 0 0)] 26 (0, 0))) ∧ Aside0 (Below w.heap.size w wc))
  case first =>
    have H := HC3.out; clear HC3
    obtain ⟨t127, A70, H⟩ := zW_ H
    replace H : (if t127 = true then ((spec_l07Box.f k l1_0 l1_1).bind fun t128 => (if t128 = true then (spec_CutBox.j0 k ((l0_0.length : Int) != (l1_0.length : Int)) l0_0 l0_1 l1_0 l1_1) else (spec_CutBox.j0 k true l0_0 l0_1 l1_0 l1_1))) else (spec_CutBox.j0 k true l0_0 l0_1 l1_0 l1_1)) = some (r1, r2, r3) := H
    have A7 := yD A70
    clear A70
    by_cases c8 : t127 = true
    · subst c8
      have H1 : ((spec_l07Box.f k l1_0 l1_1).bind fun t128 => (if t128 = true then (spec_CutBox.j0 k ((l0_0.length : Int) != (l1_0.length : Int)) l0_0 l0_1 l1_0 l1_1) else (spec_CutBox.j0 k true l0_0 l0_1 l1_0 l1_1))) = some (r1, r2, r3) := by rw [if_pos rfl] at H; exact H
      clear H; have H := H1; clear H1
      obtain ⟨t128, A90, H⟩ := zW_ H
      replace H : (if t128 = true then (spec_CutBox.j0 k ((l0_0.length : Int) != (l1_0.length : Int)) l0_0 l0_1 l1_0 l1_1) else (spec_CutBox.j0 k true l0_0 l0_1 l1_0 l1_1)) = some (r1, r2, r3) := H
      have A9 := yD A90
      clear A90
      by_cases c10 : t128 = true
      · subst c10
        have H1 : (spec_CutBox.j0 k ((l0_0.length : Int) != (l1_0.length : Int)) l0_0 l0_1 l1_0 l1_1) = some (r1, r2, r3) := by rw [if_pos rfl] at H; exact H
        clear H; have H := H1; clear H1
        have H' := yD H
        clear H; have hnb11 := NB124_125.out; have hnc11 := NB125_124.out; have hnb12 := NB124_126.out; have hnc12 := NB126_124.out
        obtain ⟨hcz13_0, hcz13_1⟩ := cz2 BK124.out
        obtain ⟨hfz13_0, hfz13_1⟩ := fz2 BK124.out
        go_wp2_with (first | (go_at_call 23; (with_reducible refine (spec_l07Box.calls k _ _ l0_0 _ _ l0_1 true _ ?side1 ?side2 ?side3 ?side4 A7.out).mono ?_); (case side1 => exact kV (yY HR0_0.out HB.out)); (case side2 => exact HC0_0.out); (case side3 => exact kV (yY HR0_1.out HB.out)); (case side4 => exact HC0_1.out); rintro e w14 ⟨rfl, hb⟩; have n0_ := yD (zB (g := gb124) (o := .cells #[.slice A0_0 l0_0.length c0_0, .slice A0_1 l0_1.length c0_1] 26 (0, 0)) (kM BK124) hb); have n1_ := yD (zB (g := gb125) (o := .cells #[.slice A1_0 l1_0.length c1_0, .slice A1_1 l1_1.length c1_1] 26 (0, 0)) (kM BK125) hb); have n2_ := yD (zB (g := gb126) (o := .cells #[.slice none 0 0, .slice none 0 0] 26 (0, 0)) (kM BK126) hb); have n3_ := yD (zC (kB HB) hb); clear BK124; clear BK125; clear BK126; clear HB; have BK124 := n0_; have BK125 := n1_; have BK126 := n2_; have HB := n3_; clear n0_ n1_ n2_ n3_; (try clear hb); (try clear hb2); (try clear hk); (try clear hi); have hnb15 := NB125_126.out; have hnc15 := NB126_125.out; obtain ⟨hcz16_0, hcz16_1⟩ := cz2 BK125.out; obtain ⟨hfz16_0, hfz16_1⟩ := fz2 BK125.out) | (go_at_call 23; (with_reducible refine (spec_l07Box.calls k _ _ l1_0 _ _ l1_1 true _ ?side1 ?side2 ?side3 ?side4 A9.out).mono ?_); (case side1 => exact kV (yY HR1_0.out HB.out)); (case side2 => exact HC1_0.out); (case side3 => exact kV (yY HR1_1.out HB.out)); (case side4 => exact HC1_1.out); rintro e w17 ⟨rfl, hb⟩; have n0_ := yD (zB (g := gb124) (o := .cells #[.slice A0_0 l0_0.length c0_0, .slice A0_1 l0_1.length c0_1] 26 (0, 0)) (kM BK124) hb); have n1_ := yD (zB (g := gb125) (o := .cells #[.slice A1_0 l1_0.length c1_0, .slice A1_1 l1_1.length c1_1] 26 (0, 0)) (kM BK125) hb); have n2_ := yD (zB (g := gb126) (o := .cells #[.slice none 0 0, .slice none 0 0] 26 (0, 0)) (kM BK126) hb); have n3_ := yD (zC (kB HB) hb); clear BK124; clear BK125; clear BK126; clear HB; have BK124 := n0_; have BK125 := n1_; have BK126 := n2_; have HB := n3_; clear n0_ n1_ n2_ n3_; (try clear hb); (try clear hb2); (try clear hk); (try clear hi); obtain ⟨hcz18_0, hcz18_1⟩ := cz2 BK124.out; obtain ⟨hfz18_0, hfz18_1⟩ := fz2 BK124.out; obtain ⟨hcz19_0, hcz19_1⟩ := cz2 BK125.out; obtain ⟨hfz19_0, hfz19_1⟩ := fz2 BK125.out))
        repeat (go_quiet (first | (go_at_call 23; (with_reducible refine (spec_l07Box.calls k _ _ l0_0 _ _ l0_1 true _ ?side1 ?side2 ?side3 ?side4 A7.out).mono ?_); (case side1 => exact kV (yY HR0_0.out HB.out)); (case side2 => exact HC0_0.out); (case side3 => exact kV (yY HR0_1.out HB.out)); (case side4 => exact HC0_1.out); rintro e w14 ⟨rfl, hb⟩; have n0_ := yD (zB (g := gb124) (o := .cells #[.slice A0_0 l0_0.length c0_0, .slice A0_1 l0_1.length c0_1] 26 (0, 0)) (kM BK124) hb); have n1_ := yD (zB (g := gb125) (o := .cells #[.slice A1_0 l1_0.length c1_0, .slice A1_1 l1_1.length c1_1] 26 (0, 0)) (kM BK125) hb); have n2_ := yD (zB (g := gb126) (o := .cells #[.slice none 0 0, .slice none 0 0] 26 (0, 0)) (kM BK126) hb); have n3_ := yD (zC (kB HB) hb); clear BK124; clear BK125; clear BK126; clear HB; have BK124 := n0_; have BK125 := n1_; have BK126 := n2_; have HB := n3_; clear n0_ n1_ n2_ n3_; (try clear hb); (try clear hb2); (try clear hk); (try clear hi); have hnb15 := NB125_126.out; have hnc15 := NB126_125.out; obtain ⟨hcz16_0, hcz16_1⟩ := cz2 BK125.out; obtain ⟨hfz16_0, hfz16_1⟩ := fz2 BK125.out) | (go_at_call 23; (with_reducible refine (spec_l07Box.calls k _ _ l1_0 _ _ l1_1 true _ ?side1 ?side2 ?side3 ?side4 A9.out).mono ?_); (case side1 => exact kV (yY HR1_0.out HB.out)); (case side2 => exact HC1_0.out); (case side3 => exact kV (yY HR1_1.out HB.out)); (case side4 => exact HC1_1.out); rintro e w17 ⟨rfl, hb⟩; have n0_ := yD (zB (g := gb124) (o := .cells #[.slice A0_0 l0_0.length c0_0, .slice A0_1 l0_1.length c0_1] 26 (0, 0)) (kM BK124) hb); have n1_ := yD (zB (g := gb125) (o := .cells #[.slice A1_0 l1_0.length c1_0, .slice A1_1 l1_1.length c1_1] 26 (0, 0)) (kM BK125) hb); have n2_ := yD (zB (g := gb126) (o := .cells #[.slice none 0 0, .slice none 0 0] 26 (0, 0)) (kM BK126) hb); have n3_ := yD (zC (kB HB) hb); clear BK124; clear BK125; clear BK126; clear HB; have BK124 := n0_; have BK125 := n1_; have BK126 := n2_; have HB := n3_; clear n0_ n1_ n2_ n3_; (try clear hb); (try clear hb2); (try clear hk); (try clear hi); obtain ⟨hcz18_0, hcz18_1⟩ := cz2 BK124.out; obtain ⟨hfz18_0, hfz18_1⟩ := fz2 BK124.out; obtain ⟨hcz19_0, hcz19_1⟩ := cz2 BK125.out; obtain ⟨hfz19_0, hfz19_1⟩ := fz2 BK125.out)); try go_wp2_with (first | (go_at_call 23; (with_reducible refine (spec_l07Box.calls k _ _ l0_0 _ _ l0_1 true _ ?side1 ?side2 ?side3 ?side4 A7.out).mono ?_); (case side1 => exact kV (yY HR0_0.out HB.out)); (case side2 => exact HC0_0.out); (case side3 => exact kV (yY HR0_1.out HB.out)); (case side4 => exact HC0_1.out); rintro e w14 ⟨rfl, hb⟩; have n0_ := yD (zB (g := gb124) (o := .cells #[.slice A0_0 l0_0.length c0_0, .slice A0_1 l0_1.length c0_1] 26 (0, 0)) (kM BK124) hb); have n1_ := yD (zB (g := gb125) (o := .cells #[.slice A1_0 l1_0.length c1_0, .slice A1_1 l1_1.length c1_1] 26 (0, 0)) (kM BK125) hb); have n2_ := yD (zB (g := gb126) (o := .cells #[.slice none 0 0, .slice none 0 0] 26 (0, 0)) (kM BK126) hb); have n3_ := yD (zC (kB HB) hb); clear BK124; clear BK125; clear BK126; clear HB; have BK124 := n0_; have BK125 := n1_; have BK126 := n2_; have HB := n3_; clear n0_ n1_ n2_ n3_; (try clear hb); (try clear hb2); (try clear hk); (try clear hi); have hnb15 := NB125_126.out; have hnc15 := NB126_125.out; obtain ⟨hcz16_0, hcz16_1⟩ := cz2 BK125.out; obtain ⟨hfz16_0, hfz16_1⟩ := fz2 BK125.out) | (go_at_call 23; (with_reducible refine (spec_l07Box.calls k _ _ l1_0 _ _ l1_1 true _ ?side1 ?side2 ?side3 ?side4 A9.out).mono ?_); (case side1 => exact kV (yY HR1_0.out HB.out)); (case side2 => exact HC1_0.out); (case side3 => exact kV (yY HR1_1.out HB.out)); (case side4 => exact HC1_1.out); rintro e w17 ⟨rfl, hb⟩; have n0_ := yD (zB (g := gb124) (o := .cells #[.slice A0_0 l0_0.length c0_0, .slice A0_1 l0_1.length c0_1] 26 (0, 0)) (kM BK124) hb); have n1_ := yD (zB (g := gb125) (o := .cells #[.slice A1_0 l1_0.length c1_0, .slice A1_1 l1_1.length c1_1] 26 (0, 0)) (kM BK125) hb); have n2_ := yD (zB (g := gb126) (o := .cells #[.slice none 0 0, .slice none 0 0] 26 (0, 0)) (kM BK126) hb); have n3_ := yD (zC (kB HB) hb); clear BK124; clear BK125; clear BK126; clear HB; have BK124 := n0_; have BK125 := n1_; have BK126 := n2_; have HB := n3_; clear n0_ n1_ n2_ n3_; (try clear hb); (try clear hb2); (try clear hk); (try clear hi); obtain ⟨hcz18_0, hcz18_1⟩ := cz2 BK124.out; obtain ⟨hfz18_0, hfz18_1⟩ := fz2 BK124.out; obtain ⟨hcz19_0, hcz19_1⟩ := cz2 BK125.out; obtain ⟨hfz19_0, hfz19_1⟩ := fz2 BK125.out)))
        go_meet
        case rel => exact ⟨_, (((l0_0.length : Int) != (l1_0.length : Int))), (by first | rfl | (simp; done) | (simp [*]; done)), H', ⟨by first | omega | exact Nat.le_refl _⟩, ⟨by (with_reducible repeat (first | refine yM ?_ _ | refine yO ?_ | refine yN ?_ _)); exact BK124.out⟩, ⟨by (with_reducible repeat (first | refine yM ?_ _ | refine yO ?_ | refine yN ?_ _)); exact BK125.out⟩, ⟨by (with_reducible repeat (first | refine yM ?_ _ | refine yO ?_ | refine yN ?_ _)); exact BK126.out⟩, ⟨by repeat (first | (with_reducible first | exact HB.out | apply yQ | apply yL | apply yP | refine yE ?_ GE124.out | refine yE ?_ GE125.out | refine yE ?_ GE126.out) | exact HB.out)⟩⟩
      · replace c10 := Bool.eq_false_iff.mpr c10
        subst c10
        have H1 : (spec_CutBox.j0 k true l0_0 l0_1 l1_0 l1_1) = some (r1, r2, r3) := by rw [if_neg (show ¬ (false = true) by decide)] at H; exact H
        clear H; have H := H1; clear H1
        have H' := yD H
        clear H; have hnb20 := NB124_125.out; have hnc20 := NB125_124.out; have hnb21 := NB124_126.out; have hnc21 := NB126_124.out
        obtain ⟨hcz22_0, hcz22_1⟩ := cz2 BK124.out
        obtain ⟨hfz22_0, hfz22_1⟩ := fz2 BK124.out
        go_wp2_with (first | (go_at_call 23; (with_reducible refine (spec_l07Box.calls k _ _ l0_0 _ _ l0_1 true _ ?side1 ?side2 ?side3 ?side4 A7.out).mono ?_); (case side1 => exact kV (yY HR0_0.out HB.out)); (case side2 => exact HC0_0.out); (case side3 => exact kV (yY HR0_1.out HB.out)); (case side4 => exact HC0_1.out); rintro e w23 ⟨rfl, hb⟩; have n0_ := yD (zB (g := gb124) (o := .cells #[.slice A0_0 l0_0.length c0_0, .slice A0_1 l0_1.length c0_1] 26 (0, 0)) (kM BK124) hb); have n1_ := yD (zB (g := gb125) (o := .cells #[.slice A1_0 l1_0.length c1_0, .slice A1_1 l1_1.length c1_1] 26 (0, 0)) (kM BK125) hb); have n2_ := yD (zB (g := gb126) (o := .cells #[.slice none 0 0, .slice none 0 0] 26 (0, 0)) (kM BK126) hb); have n3_ := yD (zC (kB HB) hb); clear BK124; clear BK125; clear BK126; clear HB; have BK124 := n0_; have BK125 := n1_; have BK126 := n2_; have HB := n3_; clear n0_ n1_ n2_ n3_; (try clear hb); (try clear hb2); (try clear hk); (try clear hi); have hnb24 := NB125_126.out; have hnc24 := NB126_125.out; obtain ⟨hcz25_0, hcz25_1⟩ := cz2 BK125.out; obtain ⟨hfz25_0, hfz25_1⟩ := fz2 BK125.out) | (go_at_call 23; (with_reducible refine (spec_l07Box.calls k _ _ l1_0 _ _ l1_1 false _ ?side1 ?side2 ?side3 ?side4 A9.out).mono ?_); (case side1 => exact kV (yY HR1_0.out HB.out)); (case side2 => exact HC1_0.out); (case side3 => exact kV (yY HR1_1.out HB.out)); (case side4 => exact HC1_1.out); rintro e w26 ⟨rfl, hb⟩; have n0_ := yD (zB (g := gb124) (o := .cells #[.slice A0_0 l0_0.length c0_0, .slice A0_1 l0_1.length c0_1] 26 (0, 0)) (kM BK124) hb); have n1_ := yD (zB (g := gb125) (o := .cells #[.slice A1_0 l1_0.length c1_0, .slice A1_1 l1_1.length c1_1] 26 (0, 0)) (kM BK125) hb); have n2_ := yD (zB (g := gb126) (o := .cells #[.slice none 0 0, .slice none 0 0] 26 (0, 0)) (kM BK126) hb); have n3_ := yD (zC (kB HB) hb); clear BK124; clear BK125; clear BK126; clear HB; have BK124 := n0_; have BK125 := n1_; have BK126 := n2_; have HB := n3_; clear n0_ n1_ n2_ n3_; (try clear hb); (try clear hb2); (try clear hk); (try clear hi)))
        repeat (go_quiet (first | (go_at_call 23; (with_reducible refine (spec_l07Box.calls k _ _ l0_0 _ _ l0_1 true _ ?side1 ?side2 ?side3 ?side4 A7.out).mono ?_); (case side1 => exact kV (yY HR0_0.out HB.out)); (case side2 => exact HC0_0.out); (case side3 => exact kV (yY HR0_1.out HB.out)); (case side4 => exact HC0_1.out); rintro e w23 ⟨rfl, hb⟩; have n0_ := yD (zB (g := gb124) (o := .cells #[.slice A0_0 l0_0.length c0_0, .slice A0_1 l0_1.length c0_1] 26 (0, 0)) (kM BK124) hb); have n1_ := yD (zB (g := gb125) (o := .cells #[.slice A1_0 l1_0.length c1_0, .slice A1_1 l1_1.length c1_1] 26 (0, 0)) (kM BK125) hb); have n2_ := yD (zB (g := gb126) (o := .cells #[.slice none 0 0, .slice none 0 0] 26 (0, 0)) (kM BK126) hb); have n3_ := yD (zC (kB HB) hb); clear BK124; clear BK125; clear BK126; clear HB; have BK124 := n0_; have BK125 := n1_; have BK126 := n2_; have HB := n3_; clear n0_ n1_ n2_ n3_; (try clear hb); (try clear hb2); (try clear hk); (try clear hi); have hnb24 := NB125_126.out; have hnc24 := NB126_125.out; obtain ⟨hcz25_0, hcz25_1⟩ := cz2 BK125.out; obtain ⟨hfz25_0, hfz25_1⟩ := fz2 BK125.out) | (go_at_call 23; (with_reducible refine (spec_l07Box.calls k _ _ l1_0 _ _ l1_1 false _ ?side1 ?side2 ?side3 ?side4 A9.out).mono ?_); (case side1 => exact kV (yY HR1_0.out HB.out)); (case side2 => exact HC1_0.out); (case side3 => exact kV (yY HR1_1.out HB.out)); (case side4 => exact HC1_1.out); rintro e w26 ⟨rfl, hb⟩; have n0_ := yD (zB (g := gb124) (o := .cells #[.slice A0_0 l0_0.length c0_0, .slice A0_1 l0_1.length c0_1] 26 (0, 0)) (kM BK124) hb); have n1_ := yD (zB (g := gb125) (o := .cells #[.slice A1_0 l1_0.length c1_0, .slice A1_1 l1_1.length c1_1] 26 (0, 0)) (kM BK125) hb); have n2_ := yD (zB (g := gb126) (o := .cells #[.slice none 0 0, .slice none 0 0] 26 (0, 0)) (kM BK126) hb); have n3_ := yD (zC (kB HB) hb); clear BK124; clear BK125; clear BK126; clear HB; have BK124 := n0_; have BK125 := n1_; have BK126 := n2_; have HB := n3_; clear n0_ n1_ n2_ n3_; (try clear hb); (try clear hb2); (try clear hk); (try clear hi))); try go_wp2_with (first | (go_at_call 23; (with_reducible refine (spec_l07Box.calls k _ _ l0_0 _ _ l0_1 true _ ?side1 ?side2 ?side3 ?side4 A7.out).mono ?_); (case side1 => exact kV (yY HR0_0.out HB.out)); (case side2 => exact HC0_0.out); (case side3 => exact kV (yY HR0_1.out HB.out)); (case side4 => exact HC0_1.out); rintro e w23 ⟨rfl, hb⟩; have n0_ := yD (zB (g := gb124) (o := .cells #[.slice A0_0 l0_0.length c0_0, .slice A0_1 l0_1.length c0_1] 26 (0, 0)) (kM BK124) hb); have n1_ := yD (zB (g := gb125) (o := .cells #[.slice A1_0 l1_0.length c1_0, .slice A1_1 l1_1.length c1_1] 26 (0, 0)) (kM BK125) hb); have n2_ := yD (zB (g := gb126) (o := .cells #[.slice none 0 0, .slice none 0 0] 26 (0, 0)) (kM BK126) hb); have n3_ := yD (zC (kB HB) hb); clear BK124; clear BK125; clear BK126; clear HB; have BK124 := n0_; have BK125 := n1_; have BK126 := n2_; have HB := n3_; clear n0_ n1_ n2_ n3_; (try clear hb); (try clear hb2); (try clear hk); (try clear hi); have hnb24 := NB125_126.out; have hnc24 := NB126_125.out; obtain ⟨hcz25_0, hcz25_1⟩ := cz2 BK125.out; obtain ⟨hfz25_0, hfz25_1⟩ := fz2 BK125.out) | (go_at_call 23; (with_reducible refine (spec_l07Box.calls k _ _ l1_0 _ _ l1_1 false _ ?side1 ?side2 ?side3 ?side4 A9.out).mono ?_); (case side1 => exact kV (yY HR1_0.out HB.out)); (case side2 => exact HC1_0.out); (case side3 => exact kV (yY HR1_1.out HB.out)); (case side4 => exact HC1_1.out); rintro e w26 ⟨rfl, hb⟩; have n0_ := yD (zB (g := gb124) (o := .cells #[.slice A0_0 l0_0.length c0_0, .slice A0_1 l0_1.length c0_1] 26 (0, 0)) (kM BK124) hb); have n1_ := yD (zB (g := gb125) (o := .cells #[.slice A1_0 l1_0.length c1_0, .slice A1_1 l1_1.length c1_1] 26 (0, 0)) (kM BK125) hb); have n2_ := yD (zB (g := gb126) (o := .cells #[.slice none 0 0, .slice none 0 0] 26 (0, 0)) (kM BK126) hb); have n3_ := yD (zC (kB HB) hb); clear BK124; clear BK125; clear BK126; clear HB; have BK124 := n0_; have BK125 := n1_; have BK126 := n2_; have HB := n3_; clear n0_ n1_ n2_ n3_; (try clear hb); (try clear hb2); (try clear hk); (try clear hi))))
        go_meet
        case rel => exact ⟨_, (true), (by first | rfl | (simp; done) | (simp [*]; done)), H', ⟨by first | omega | exact Nat.le_refl _⟩, ⟨by (with_reducible repeat (first | refine yM ?_ _ | refine yO ?_ | refine yN ?_ _)); exact BK124.out⟩, ⟨by (with_reducible repeat (first | refine yM ?_ _ | refine yO ?_ | refine yN ?_ _)); exact BK125.out⟩, ⟨by (with_reducible repeat (first | refine yM ?_ _ | refine yO ?_ | refine yN ?_ _)); exact BK126.out⟩, ⟨by repeat (first | (with_reducible first | exact HB.out | apply yQ | apply yL | apply yP | refine yE ?_ GE124.out | refine yE ?_ GE125.out | refine yE ?_ GE126.out) | exact HB.out)⟩⟩
    · replace c8 := Bool.eq_false_iff.mpr c8
      subst c8
      have H1 : (spec_CutBox.j0 k true l0_0 l0_1 l1_0 l1_1) = some (r1, r2, r3) := by rw [if_neg (show ¬ (false = true) by decide)] at H; exact H
      clear H; have H := H1; clear H1
      have H' := yD H
      clear H; have hnb27 := NB124_125.out; have hnc27 := NB125_124.out; have hnb28 := NB124_126.out; have hnc28 := NB126_124.out
      obtain ⟨hcz29_0, hcz29_1⟩ := cz2 BK124.out
      obtain ⟨hfz29_0, hfz29_1⟩ := fz2 BK124.out
      go_wp2_with (first | (go_at_call 23; (with_reducible refine (spec_l07Box.calls k _ _ l0_0 _ _ l0_1 false _ ?side1 ?side2 ?side3 ?side4 A7.out).mono ?_); (case side1 => exact kV (yY HR0_0.out HB.out)); (case side2 => exact HC0_0.out); (case side3 => exact kV (yY HR0_1.out HB.out)); (case side4 => exact HC0_1.out); rintro e w30 ⟨rfl, hb⟩; have n0_ := yD (zB (g := gb124) (o := .cells #[.slice A0_0 l0_0.length c0_0, .slice A0_1 l0_1.length c0_1] 26 (0, 0)) (kM BK124) hb); have n1_ := yD (zB (g := gb125) (o := .cells #[.slice A1_0 l1_0.length c1_0, .slice A1_1 l1_1.length c1_1] 26 (0, 0)) (kM BK125) hb); have n2_ := yD (zB (g := gb126) (o := .cells #[.slice none 0 0, .slice none 0 0] 26 (0, 0)) (kM BK126) hb); have n3_ := yD (zC (kB HB) hb); clear BK124; clear BK125; clear BK126; clear HB; have BK124 := n0_; have BK125 := n1_; have BK126 := n2_; have HB := n3_; clear n0_ n1_ n2_ n3_; (try clear hb); (try clear hb2); (try clear hk); (try clear hi)))
      repeat (go_quiet (first | (go_at_call 23; (with_reducible refine (spec_l07Box.calls k _ _ l0_0 _ _ l0_1 false _ ?side1 ?side2 ?side3 ?side4 A7.out).mono ?_); (case side1 => exact kV (yY HR0_0.out HB.out)); (case side2 => exact HC0_0.out); (case side3 => exact kV (yY HR0_1.out HB.out)); (case side4 => exact HC0_1.out); rintro e w30 ⟨rfl, hb⟩; have n0_ := yD (zB (g := gb124) (o := .cells #[.slice A0_0 l0_0.length c0_0, .slice A0_1 l0_1.length c0_1] 26 (0, 0)) (kM BK124) hb); have n1_ := yD (zB (g := gb125) (o := .cells #[.slice A1_0 l1_0.length c1_0, .slice A1_1 l1_1.length c1_1] 26 (0, 0)) (kM BK125) hb); have n2_ := yD (zB (g := gb126) (o := .cells #[.slice none 0 0, .slice none 0 0] 26 (0, 0)) (kM BK126) hb); have n3_ := yD (zC (kB HB) hb); clear BK124; clear BK125; clear BK126; clear HB; have BK124 := n0_; have BK125 := n1_; have BK126 := n2_; have HB := n3_; clear n0_ n1_ n2_ n3_; (try clear hb); (try clear hb2); (try clear hk); (try clear hi))); try go_wp2_with (first | (go_at_call 23; (with_reducible refine (spec_l07Box.calls k _ _ l0_0 _ _ l0_1 false _ ?side1 ?side2 ?side3 ?side4 A7.out).mono ?_); (case side1 => exact kV (yY HR0_0.out HB.out)); (case side2 => exact HC0_0.out); (case side3 => exact kV (yY HR0_1.out HB.out)); (case side4 => exact HC0_1.out); rintro e w30 ⟨rfl, hb⟩; have n0_ := yD (zB (g := gb124) (o := .cells #[.slice A0_0 l0_0.length c0_0, .slice A0_1 l0_1.length c0_1] 26 (0, 0)) (kM BK124) hb); have n1_ := yD (zB (g := gb125) (o := .cells #[.slice A1_0 l1_0.length c1_0, .slice A1_1 l1_1.length c1_1] 26 (0, 0)) (kM BK125) hb); have n2_ := yD (zB (g := gb126) (o := .cells #[.slice none 0 0, .slice none 0 0] 26 (0, 0)) (kM BK126) hb); have n3_ := yD (zC (kB HB) hb); clear BK124; clear BK125; clear BK126; clear HB; have BK124 := n0_; have BK125 := n1_; have BK126 := n2_; have HB := n3_; clear n0_ n1_ n2_ n3_; (try clear hb); (try clear hb2); (try clear hk); (try clear hi))))
      go_meet
      case rel => exact ⟨_, (true), (by first | rfl | (simp; done) | (simp [*]; done)), H', ⟨by first | omega | exact Nat.le_refl _⟩, ⟨by (with_reducible repeat (first | refine yM ?_ _ | refine yO ?_ | refine yN ?_ _)); exact BK124.out⟩, ⟨by (with_reducible repeat (first | refine yM ?_ _ | refine yO ?_ | refine yN ?_ _)); exact BK125.out⟩, ⟨by (with_reducible repeat (first | refine yM ?_ _ | refine yO ?_ | refine yN ?_ _)); exact BK126.out⟩, ⟨by repeat (first | (with_reducible first | exact HB.out | apply yQ | apply yL | apply yP | refine yE ?_ GE124.out | refine yE ?_ GE125.out | refine yE ?_ GE126.out) | exact HB.out)⟩⟩
  case rest =>
    clear HC3; try clear c1; try clear c2; try clear p2; try clear c7; try clear c8; try clear c10; try clear c11; try clear c12; try clear c15; try clear c20; try clear c21; try clear c24; try clear c27; try clear c28; try clear hcz13_0; try clear hcz13_1; try clear hcz16_0; try clear hcz16_1; try clear hcz18_0; try clear hcz18_1; try clear hcz19_0; try clear hcz19_1; try clear hcz22_0; try clear hcz22_1; try clear hcz25_0; try clear hcz25_1; try clear hcz29_0; try clear hcz29_1; try clear hfz13_0; try clear hfz13_1; try clear hfz16_0; try clear hfz16_1; try clear hfz18_0; try clear hfz18_1; try clear hfz19_0; try clear hfz19_1; try clear hfz22_0; try clear hfz22_1; try clear hfz25_0; try clear hfz25_1; try clear hfz29_0; try clear hfz29_1
    obtain ⟨kq, x26_2, rfl, HA, HJ2, BK124, BK125, BK126, HB⟩ := hcut
    cases kq with
    | zero => exact absurd HA.out (by simp [spec_CutBox.j0])
    | succ kj2 =>
      have H := HA.out; clear HA
      simp only [spec_CutBox.j0] at H
      by_cases c31 : x26_2 = true
      · subst c31
        have H1 : (some (([] : List Int), ([] : List Int), false)) = some (r1, r2, r3) := by rw [if_pos rfl] at H; exact H
        clear H; have H := H1; clear H1
        simp only [Option.some.injEq, Prod.mk.injEq] at H
        obtain ⟨rfl, rfl, rfl⟩ := H
        have hnb32 := NB126_124.out; have hnc32 := NB124_126.out; have hnb33 := NB126_125.out; have hnc33 := NB125_126.out
        obtain ⟨hcz34_0, hcz34_1⟩ := cz2 BK126.out
        obtain ⟨hfz34_0, hfz34_1⟩ := fz2 BK126.out
        go_wp2
        repeat (go_quiet (fail); try go_wp2)
        refine bodyPost_ret (results_ct rfl _ _ gb126 26 #[.slice none 0 0, .slice none 0 0] (0, 0) _ rfl (by (with_reducible repeat (first | refine yM ?_ _ | refine yO ?_ | refine yN ?_ _)); refine blk_put (cs := #[.slice none 0 0, .slice none 0 0]) ?_ 1 _ rfl; (with_reducible repeat (first | refine yM ?_ _ | refine yO ?_ | refine yN ?_ _)); refine blk_put (cs := #[.slice none 0 0, .slice none 0 0]) ?_ 0 _ rfl; (with_reducible repeat (first | refine yM ?_ _ | refine yO ?_ | refine yN ?_ _)); exact BK126.out) Try.underlying26 rfl (by kernel_rfl)) rfl ?_
        exact ⟨_, _, by first | rfl | (simp <;> rfl) | (simp [*] <;> rfl), by first | exact Kd.R_nil _ _ _ _ _ | exact Kd.N_nil _ _ _ _ _ | exact Kd.V_nil _ _ _ _ _ | exact Kd.Q_nil _ _ _ _ _ | exact Kd.S_nil _ _ _ _ _, by first | exact Kd.R_nil _ _ _ _ _ | exact Kd.N_nil _ _ _ _ _ | exact Kd.V_nil _ _ _ _ _ | exact Kd.Q_nil _ _ _ _ _ | exact Kd.S_nil _ _ _ _ _, by repeat (first | (with_reducible first | exact HB.out | apply yQ | apply yL | apply yP | refine yE ?_ GE124.out | refine yE ?_ GE125.out | refine yE ?_ GE126.out) | exact HB.out)⟩
      · replace c31 := Bool.eq_false_iff.mpr c31
        subst c31
        have H1 : (spec_CutBox.l0 kj2 0 l0_0 l0_1 l1_0 l1_1 ([] : List Int) ([] : List Int)) = some (r1, r2, r3) := by rw [if_neg (show ¬ (false = true) by decide)] at H; exact H
        clear H; have H := H1; clear H1
        have H' := yD H
        clear H
        go_wp2_with (first | ((with_reducible refine gate_dst (N := 6) rfl ?_); (try (refine gate_guard (by rfl) ?_; dsimp only)); refine box_event ?hg (N := 6) ?hd (cs := #[.slice none 0 0, .slice none 0 0]) (t := 26) ?hr ?_; (case hd => rfl); (case hg => rfl); (case hr => first | (go_simp; done) | (go_simp; rfl)); intro gb129 hg w35 hbox hb; have n0_ := yD (zB (g := gb124) (o := .cells #[.slice A0_0 l0_0.length c0_0, .slice A0_1 l0_1.length c0_1] 26 (0, 0)) (kM BK124) hb); have n1_ := yD (zB (g := gb125) (o := .cells #[.slice A1_0 l1_0.length c1_0, .slice A1_1 l1_1.length c1_1] 26 (0, 0)) (kM BK125) hb); have n2_ := yD (zB (g := gb126) (o := .cells #[.slice none 0 0, .slice none 0 0] 26 (0, 0)) (kM BK126) hb); have n3_ := yD (zC (kB HB) hb); have n4_ := yD (hbox); have n5_ := yD ((by rw [hg]; exact (below_size (kB HB)) : w.heap.size ≤ gb129)); have n6_ := yD ((by rw [hg]; exact (below_size (kB HB)) : w.heap.size ≤ gb129)); have n7_ := yD ((by rw [hg]; exact Nat.ne_of_lt (blk_lt (g := gb124) (o := .cells #[.slice A0_0 l0_0.length c0_0, .slice A0_1 l0_1.length c0_1] 26 (0, 0)) (kM BK124)) : gb124 ≠ gb129)); have n8_ := yD ((by rw [hg]; exact Nat.ne_of_gt (blk_lt (g := gb124) (o := .cells #[.slice A0_0 l0_0.length c0_0, .slice A0_1 l0_1.length c0_1] 26 (0, 0)) (kM BK124)) : gb129 ≠ gb124)); have n9_ := yD ((by rw [hg]; exact Nat.ne_of_lt (blk_lt (g := gb125) (o := .cells #[.slice A1_0 l1_0.length c1_0, .slice A1_1 l1_1.length c1_1] 26 (0, 0)) (kM BK125)) : gb125 ≠ gb129)); have n10_ := yD ((by rw [hg]; exact Nat.ne_of_gt (blk_lt (g := gb125) (o := .cells #[.slice A1_0 l1_0.length c1_0, .slice A1_1 l1_1.length c1_1] 26 (0, 0)) (kM BK125)) : gb129 ≠ gb125)); have n11_ := yD ((by rw [hg]; exact Nat.ne_of_lt (blk_lt (g := gb126) (o := .cells #[.slice none 0 0, .slice none 0 0] 26 (0, 0)) (kM BK126)) : gb126 ≠ gb129)); have n12_ := yD ((by rw [hg]; exact Nat.ne_of_gt (blk_lt (g := gb126) (o := .cells #[.slice none 0 0, .slice none 0 0] 26 (0, 0)) (kM BK126)) : gb129 ≠ gb126)); clear BK124; clear BK125; clear BK126; clear HB; have BK124 := n0_; have BK125 := n1_; have BK126 := n2_; have HB := n3_; have BK129 := n4_; have GW129 := n5_; have GE129 := n6_; have NB124_129 := n7_; have NB129_124 := n8_; have NB125_129 := n9_; have NB129_125 := n10_; have NB126_129 := n11_; have NB129_126 := n12_; clear n0_ n1_ n2_ n3_ n4_ n5_ n6_ n7_ n8_ n9_ n10_ n11_ n12_; clear hb hbox hg; have hnb36 := NB129_124.out; have hnc36 := NB124_129.out; have hnb37 := NB129_125.out; have hnc37 := NB125_129.out; have hnb38 := NB129_126.out; have hnc38 := NB126_129.out; obtain ⟨hcz39_0, hcz39_1⟩ := cz2 BK129.out; obtain ⟨hfz39_0, hfz39_1⟩ := fz2 BK129.out))
        repeat (go_quiet (first | ((with_reducible refine gate_dst (N := 6) rfl ?_); (try (refine gate_guard (by rfl) ?_; dsimp only)); refine box_event ?hg (N := 6) ?hd (cs := #[.slice none 0 0, .slice none 0 0]) (t := 26) ?hr ?_; (case hd => rfl); (case hg => rfl); (case hr => first | (go_simp; done) | (go_simp; rfl)); intro gb129 hg w35 hbox hb; have n0_ := yD (zB (g := gb124) (o := .cells #[.slice A0_0 l0_0.length c0_0, .slice A0_1 l0_1.length c0_1] 26 (0, 0)) (kM BK124) hb); have n1_ := yD (zB (g := gb125) (o := .cells #[.slice A1_0 l1_0.length c1_0, .slice A1_1 l1_1.length c1_1] 26 (0, 0)) (kM BK125) hb); have n2_ := yD (zB (g := gb126) (o := .cells #[.slice none 0 0, .slice none 0 0] 26 (0, 0)) (kM BK126) hb); have n3_ := yD (zC (kB HB) hb); have n4_ := yD (hbox); have n5_ := yD ((by rw [hg]; exact (below_size (kB HB)) : w.heap.size ≤ gb129)); have n6_ := yD ((by rw [hg]; exact (below_size (kB HB)) : w.heap.size ≤ gb129)); have n7_ := yD ((by rw [hg]; exact Nat.ne_of_lt (blk_lt (g := gb124) (o := .cells #[.slice A0_0 l0_0.length c0_0, .slice A0_1 l0_1.length c0_1] 26 (0, 0)) (kM BK124)) : gb124 ≠ gb129)); have n8_ := yD ((by rw [hg]; exact Nat.ne_of_gt (blk_lt (g := gb124) (o := .cells #[.slice A0_0 l0_0.length c0_0, .slice A0_1 l0_1.length c0_1] 26 (0, 0)) (kM BK124)) : gb129 ≠ gb124)); have n9_ := yD ((by rw [hg]; exact Nat.ne_of_lt (blk_lt (g := gb125) (o := .cells #[.slice A1_0 l1_0.length c1_0, .slice A1_1 l1_1.length c1_1] 26 (0, 0)) (kM BK125)) : gb125 ≠ gb129)); have n10_ := yD ((by rw [hg]; exact Nat.ne_of_gt (blk_lt (g := gb125) (o := .cells #[.slice A1_0 l1_0.length c1_0, .slice A1_1 l1_1.length c1_1] 26 (0, 0)) (kM BK125)) : gb129 ≠ gb125)); have n11_ := yD ((by rw [hg]; exact Nat.ne_of_lt (blk_lt (g := gb126) (o := .cells #[.slice none 0 0, .slice none 0 0] 26 (0, 0)) (kM BK126)) : gb126 ≠ gb129)); have n12_ := yD ((by rw [hg]; exact Nat.ne_of_gt (blk_lt (g := gb126) (o := .cells #[.slice none 0 0, .slice none 0 0] 26 (0, 0)) (kM BK126)) : gb129 ≠ gb126)); clear BK124; clear BK125; clear BK126; clear HB; have BK124 := n0_; have BK125 := n1_; have BK126 := n2_; have HB := n3_; have BK129 := n4_; have GW129 := n5_; have GE129 := n6_; have NB124_129 := n7_; have NB129_124 := n8_; have NB125_129 := n9_; have NB129_125 := n10_; have NB126_129 := n11_; have NB129_126 := n12_; clear n0_ n1_ n2_ n3_ n4_ n5_ n6_ n7_ n8_ n9_ n10_ n11_ n12_; clear hb hbox hg; have hnb36 := NB129_124.out; have hnc36 := NB124_129.out; have hnb37 := NB129_125.out; have hnc37 := NB125_129.out; have hnb38 := NB129_126.out; have hnc38 := NB126_129.out; obtain ⟨hcz39_0, hcz39_1⟩ := cz2 BK129.out; obtain ⟨hfz39_0, hfz39_1⟩ := fz2 BK129.out)); try go_wp2_with (first | ((with_reducible refine gate_dst (N := 6) rfl ?_); (try (refine gate_guard (by rfl) ?_; dsimp only)); refine box_event ?hg (N := 6) ?hd (cs := #[.slice none 0 0, .slice none 0 0]) (t := 26) ?hr ?_; (case hd => rfl); (case hg => rfl); (case hr => first | (go_simp; done) | (go_simp; rfl)); intro gb129 hg w35 hbox hb; have n0_ := yD (zB (g := gb124) (o := .cells #[.slice A0_0 l0_0.length c0_0, .slice A0_1 l0_1.length c0_1] 26 (0, 0)) (kM BK124) hb); have n1_ := yD (zB (g := gb125) (o := .cells #[.slice A1_0 l1_0.length c1_0, .slice A1_1 l1_1.length c1_1] 26 (0, 0)) (kM BK125) hb); have n2_ := yD (zB (g := gb126) (o := .cells #[.slice none 0 0, .slice none 0 0] 26 (0, 0)) (kM BK126) hb); have n3_ := yD (zC (kB HB) hb); have n4_ := yD (hbox); have n5_ := yD ((by rw [hg]; exact (below_size (kB HB)) : w.heap.size ≤ gb129)); have n6_ := yD ((by rw [hg]; exact (below_size (kB HB)) : w.heap.size ≤ gb129)); have n7_ := yD ((by rw [hg]; exact Nat.ne_of_lt (blk_lt (g := gb124) (o := .cells #[.slice A0_0 l0_0.length c0_0, .slice A0_1 l0_1.length c0_1] 26 (0, 0)) (kM BK124)) : gb124 ≠ gb129)); have n8_ := yD ((by rw [hg]; exact Nat.ne_of_gt (blk_lt (g := gb124) (o := .cells #[.slice A0_0 l0_0.length c0_0, .slice A0_1 l0_1.length c0_1] 26 (0, 0)) (kM BK124)) : gb129 ≠ gb124)); have n9_ := yD ((by rw [hg]; exact Nat.ne_of_lt (blk_lt (g := gb125) (o := .cells #[.slice A1_0 l1_0.length c1_0, .slice A1_1 l1_1.length c1_1] 26 (0, 0)) (kM BK125)) : gb125 ≠ gb129)); have n10_ := yD ((by rw [hg]; exact Nat.ne_of_gt (blk_lt (g := gb125) (o := .cells #[.slice A1_0 l1_0.length c1_0, .slice A1_1 l1_1.length c1_1] 26 (0, 0)) (kM BK125)) : gb129 ≠ gb125)); have n11_ := yD ((by rw [hg]; exact Nat.ne_of_lt (blk_lt (g := gb126) (o := .cells #[.slice none 0 0, .slice none 0 0] 26 (0, 0)) (kM BK126)) : gb126 ≠ gb129)); have n12_ := yD ((by rw [hg]; exact Nat.ne_of_gt (blk_lt (g := gb126) (o := .cells #[.slice none 0 0, .slice none 0 0] 26 (0, 0)) (kM BK126)) : gb129 ≠ gb126)); clear BK124; clear BK125; clear BK126; clear HB; have BK124 := n0_; have BK125 := n1_; have BK126 := n2_; have HB := n3_; have BK129 := n4_; have GW129 := n5_; have GE129 := n6_; have NB124_129 := n7_; have NB129_124 := n8_; have NB125_129 := n9_; have NB129_125 := n10_; have NB126_129 := n11_; have NB129_126 := n12_; clear n0_ n1_ n2_ n3_ n4_ n5_ n6_ n7_ n8_ n9_ n10_ n11_ n12_; clear hb hbox hg; have hnb36 := NB129_124.out; have hnc36 := NB124_129.out; have hnb37 := NB129_125.out; have hnc37 := NB125_129.out; have hnb38 := NB129_126.out; have hnc38 := NB126_129.out; obtain ⟨hcz39_0, hcz39_1⟩ := cz2 BK129.out; obtain ⟨hfz39_0, hfz39_1⟩ := fz2 BK129.out)))
        go_loopg [7] kj2 (fun kq v7 w' => ∃ (x7_2 : Int) (x130000_2 : List Int) (x130001_2 : List Int) (u130000 : Value) (u130001 : Value), v7 = .int .i64 x7_2 ∧ Aside0 (spec_CutBox.l0 kq x7_2 l0_0 l0_1 l1_0 l1_1 x130000_2 x130001_2 = some (r1, r2, r3)) ∧ Aside0 (kq ≤ kj2) ∧ Aside0 (Kd.R (Kd.int .i64) 2 w' w.heap.size (fun k_ => some k_ ≠ (u130001 : Value).ownBlock) u130000 x130000_2) ∧ Aside0 (Kd.R (Kd.int .i64) 2 w' w.heap.size (fun k_ => some k_ ≠ (u130000 : Value).ownBlock) u130001 x130001_2) ∧ Aside0 (w'.heap[gb124]? = some (.cells #[(.slice A0_0 l0_0.length c0_0), (.slice A0_1 l0_1.length c0_1)] 26 (0, 0))) ∧ Aside0 (w'.heap[gb125]? = some (.cells #[(.slice A1_0 l1_0.length c1_0), (.slice A1_1 l1_1.length c1_1)] 26 (0, 0))) ∧ Aside0 (w'.heap[gb126]? = some (.cells #[(.slice none 0 0), (.slice none 0 0)] 26 (0, 0))) ∧ Aside0 (w'.heap[gb129]? = some (.cells #[u130000, u130001] 26 (0, 0))) ∧ Aside0 (Below w.heap.size w w'))
        case atStart => exact ⟨(0), (([] : List Int)), (([] : List Int)), (.slice none 0 0), (.slice none 0 0), (by first | rfl | (simp; done) | (simp [*]; done)), H', ⟨Nat.le_refl _⟩, ⟨by first | exact Kd.R_nil _ _ _ _ _ | exact Kd.N_nil _ _ _ _ _ | exact Kd.V_nil _ _ _ _ _ | exact Kd.Q_nil _ _ _ _ _ | exact Kd.S_nil _ _ _ _ _⟩, ⟨by first | exact Kd.R_nil _ _ _ _ _ | exact Kd.N_nil _ _ _ _ _ | exact Kd.V_nil _ _ _ _ _ | exact Kd.Q_nil _ _ _ _ _ | exact Kd.S_nil _ _ _ _ _⟩, ⟨by (with_reducible repeat (first | refine yM ?_ _ | refine yO ?_ | refine yN ?_ _)); refine blk_far ?_ NB124_129.out _; (with_reducible repeat (first | refine yM ?_ _ | refine yO ?_ | refine yN ?_ _)); refine blk_far ?_ NB124_129.out _; (with_reducible repeat (first | refine yM ?_ _ | refine yO ?_ | refine yN ?_ _)); exact BK124.out⟩, ⟨by (with_reducible repeat (first | refine yM ?_ _ | refine yO ?_ | refine yN ?_ _)); refine blk_far ?_ NB125_129.out _; (with_reducible repeat (first | refine yM ?_ _ | refine yO ?_ | refine yN ?_ _)); refine blk_far ?_ NB125_129.out _; (with_reducible repeat (first | refine yM ?_ _ | refine yO ?_ | refine yN ?_ _)); exact BK125.out⟩, ⟨by (with_reducible repeat (first | refine yM ?_ _ | refine yO ?_ | refine yN ?_ _)); refine blk_far ?_ NB126_129.out _; (with_reducible repeat (first | refine yM ?_ _ | refine yO ?_ | refine yN ?_ _)); refine blk_far ?_ NB126_129.out _; (with_reducible repeat (first | refine yM ?_ _ | refine yO ?_ | refine yN ?_ _)); exact BK126.out⟩, ⟨by (with_reducible repeat (first | refine yM ?_ _ | refine yO ?_ | refine yN ?_ _)); refine blk_put (cs := #[.slice none 0 0, .slice none 0 0]) ?_ 1 _ rfl; (with_reducible repeat (first | refine yM ?_ _ | refine yO ?_ | refine yN ?_ _)); refine blk_put (cs := #[.slice none 0 0, .slice none 0 0]) ?_ 0 _ rfl; (with_reducible repeat (first | refine yM ?_ _ | refine yO ?_ | refine yN ?_ _)); exact BK129.out⟩, ⟨by repeat (first | (with_reducible first | exact HB.out | apply yQ | apply yL | apply yP | refine yE ?_ GE124.out | refine yE ?_ GE125.out | refine yE ?_ GE126.out | refine yE ?_ GE129.out) | exact HB.out)⟩⟩
        case round =>
          clear H'
          try clear c1; try clear c2; try clear p2; try clear c3; try clear c7; try clear c8; try clear c10; try clear c11; try clear c12; try clear c15; try clear c20; try clear c21; try clear c24; try clear c27; try clear c28; try clear c31; try clear c32; try clear c33; try clear c36; try clear c37; try clear c38; try clear hcz13_0; try clear hcz13_1; try clear hcz16_0; try clear hcz16_1; try clear hcz18_0; try clear hcz18_1; try clear hcz19_0; try clear hcz19_1; try clear hcz22_0; try clear hcz22_1; try clear hcz25_0; try clear hcz25_1; try clear hcz29_0; try clear hcz29_1; try clear hcz34_0; try clear hcz34_1; try clear hcz39_0; try clear hcz39_1; try clear hfz13_0; try clear hfz13_1; try clear hfz16_0; try clear hfz16_1; try clear hfz18_0; try clear hfz18_1; try clear hfz19_0; try clear hfz19_1; try clear hfz22_0; try clear hfz22_1; try clear hfz25_0; try clear hfz25_1; try clear hfz29_0; try clear hfz29_1; try clear hfz34_0; try clear hfz34_1; try clear hfz39_0; try clear hfz39_1; try clear p2
          obtain ⟨x7_2, x130000_2, x130001_2, u130000, u130001, rfl, HA, HK2, HO_130000, HO_130001, BK124, BK125, BK126, BK129, HB⟩ := hrel
          cases gk with
          | zero => exact absurd HA.out (by simp [spec_CutBox.l0])
          | succ k2 =>
            have H := HA.out; clear HA
            simp only [spec_CutBox.l0] at H
            by_cases c40 : x7_2 < (l0_0.length : Int)
            · rw [if_pos c40] at H
              have c40b0 : decide (x7_2 < (l0_0.length : Int)) = true := zR c40; clear c40
              by_cases c41 : 0 ≤ x7_2
              · rw [if_pos c41] at H
                have c41b0 : decide (0 ≤ x7_2) = true := zR c41; clear c41
                by_cases c42 : x7_2 < (l1_0.length : Int)
                · rw [if_pos c42] at H
                  have c42b0 : decide (x7_2 < (l1_0.length : Int)) = true := zR c42; clear c42
                  obtain ⟨t132, A430, H⟩ := zW_ H
                  replace H : (if x7_2 < (l0_1.length : Int) then (if x7_2 < (l1_1.length : Int) then ((spec_l00Min.f (rd l0_1 x7_2) (rd l1_1 x7_2)).bind fun t135 => (if t132 ≥ t135 then (some (([] : List Int), ([] : List Int), false)) else (if x130000_2.length < 17592186044416 then (if x130001_2.length < 17592186044416 then (spec_CutBox.l0 k2 (wrap64 (x7_2 + 1)) l0_0 l0_1 l1_0 l1_1 (x130000_2 ++ [t132]) (x130001_2 ++ [t135])) else (none)) else (none)))) else (none)) else (none)) = some (r1, r2, r3) := H
                  have A43 := yD A430
                  clear A430
                  by_cases c44 : x7_2 < (l0_1.length : Int)
                  · rw [if_pos c44] at H
                    have c44b0 : decide (x7_2 < (l0_1.length : Int)) = true := zR c44; clear c44
                    by_cases c45 : x7_2 < (l1_1.length : Int)
                    · rw [if_pos c45] at H
                      have c45b0 : decide (x7_2 < (l1_1.length : Int)) = true := zR c45; clear c45
                      obtain ⟨t135, A460, H⟩ := zW_ H
                      replace H : (if t132 ≥ t135 then (some (([] : List Int), ([] : List Int), false)) else (if x130000_2.length < 17592186044416 then (if x130001_2.length < 17592186044416 then (spec_CutBox.l0 k2 (wrap64 (x7_2 + 1)) l0_0 l0_1 l1_0 l1_1 (x130000_2 ++ [t132]) (x130001_2 ++ [t135])) else (none)) else (none))) = some (r1, r2, r3) := H
                      have A46 := yD A460
                      clear A460
                      by_cases c47 : t132 ≥ t135
                      · rw [if_pos c47] at H
                        have c47b0 : decide (t135 ≤ t132) = true := zR c47; clear c47
                        simp only [Option.some.injEq, Prod.mk.injEq] at H
                        obtain ⟨rfl, rfl, rfl⟩ := H
                        have hnb48 := NB124_125.out; have hnc48 := NB125_124.out; have hnb49 := NB124_126.out; have hnc49 := NB126_124.out; have hnb50 := NB124_129.out; have hnc50 := NB129_124.out
                        obtain ⟨hcz51_0, hcz51_1⟩ := cz2 BK124.out
                        obtain ⟨hfz51_0, hfz51_1⟩ := fz2 BK124.out
                        have p130 : 0 ≤ (x7_2 : Int) := zP (by assumption)
                        have q130 : x7_2 < (l0_0.length : Int) := zP (by assumption)
                        obtain ⟨ad130, e130, hx130_0⟩ := Kd.at_int HR0_0.out x7_2 p130 q130
                        cases e130
                        replace hx130_0 := (HB.out.cell (zQ w _ hx130_0)).trans hx130_0
                        replace p130 := eq_true p130; replace q130 := eq_true q130; have hnb52 := NB125_126.out; have hnc52 := NB126_125.out; have hnb53 := NB125_129.out; have hnc53 := NB129_125.out
                        obtain ⟨hcz54_0, hcz54_1⟩ := cz2 BK125.out
                        obtain ⟨hfz54_0, hfz54_1⟩ := fz2 BK125.out
                        have p131 : 0 ≤ (x7_2 : Int) := zP (by assumption)
                        have q131 : x7_2 < (l1_0.length : Int) := zP (by assumption)
                        obtain ⟨ad131, e131, hx131_0⟩ := Kd.at_int HR1_0.out x7_2 p131 q131
                        cases e131
                        replace hx131_0 := (HB.out.cell (zQ w _ hx131_0)).trans hx131_0
                        replace p131 := eq_true p131; replace q131 := eq_true q131
                        go_wp2_with (first | (go_at_call 24; (with_reducible refine (spec_l00Max.calls (rd l0_0 x7_2) (rd l1_0 x7_2) t132 _ A43.out).mono ?_); rintro e w' ⟨rfl, ⟨nd, rfl⟩⟩; (try first | exact ⟨rfl, _, World.drewN_drewN _ _ _⟩ | exact ⟨rfl, _, Eq.trans (World.drewN_drewN _ _ _) (congrArg (World.drewN _) (Nat.add_assoc _ _ _))⟩); have p133 : 0 ≤ (x7_2 : Int) := zP (by assumption); have q133 : x7_2 < (l0_1.length : Int) := zP (by assumption); obtain ⟨ad133, e133, hx133_0⟩ := Kd.at_int HR0_1.out x7_2 p133 q133; cases e133; replace hx133_0 := (HB.out.cell (zQ w _ hx133_0)).trans hx133_0; replace p133 := eq_true p133; replace q133 := eq_true q133; have p134 : 0 ≤ (x7_2 : Int) := zP (by assumption); have q134 : x7_2 < (l1_1.length : Int) := zP (by assumption); obtain ⟨ad134, e134, hx134_0⟩ := Kd.at_int HR1_1.out x7_2 p134 q134; cases e134; replace hx134_0 := (HB.out.cell (zQ w _ hx134_0)).trans hx134_0; replace p134 := eq_true p134; replace q134 := eq_true q134) | (go_at_call 25; (with_reducible refine (spec_l00Min.calls (rd l0_1 x7_2) (rd l1_1 x7_2) t135 _ A46.out).mono ?_); rintro e w' ⟨rfl, ⟨nd, rfl⟩⟩; (try first | exact ⟨rfl, _, World.drewN_drewN _ _ _⟩ | exact ⟨rfl, _, Eq.trans (World.drewN_drewN _ _ _) (congrArg (World.drewN _) (Nat.add_assoc _ _ _))⟩); have hnb55 := NB126_129.out; have hnc55 := NB129_126.out; obtain ⟨hcz56_0, hcz56_1⟩ := cz2 BK126.out; obtain ⟨hfz56_0, hfz56_1⟩ := fz2 BK126.out))
                        repeat (go_quiet (first | (go_at_call 24; (with_reducible refine (spec_l00Max.calls (rd l0_0 x7_2) (rd l1_0 x7_2) t132 _ A43.out).mono ?_); rintro e w' ⟨rfl, ⟨nd, rfl⟩⟩; (try first | exact ⟨rfl, _, World.drewN_drewN _ _ _⟩ | exact ⟨rfl, _, Eq.trans (World.drewN_drewN _ _ _) (congrArg (World.drewN _) (Nat.add_assoc _ _ _))⟩); have p133 : 0 ≤ (x7_2 : Int) := zP (by assumption); have q133 : x7_2 < (l0_1.length : Int) := zP (by assumption); obtain ⟨ad133, e133, hx133_0⟩ := Kd.at_int HR0_1.out x7_2 p133 q133; cases e133; replace hx133_0 := (HB.out.cell (zQ w _ hx133_0)).trans hx133_0; replace p133 := eq_true p133; replace q133 := eq_true q133; have p134 : 0 ≤ (x7_2 : Int) := zP (by assumption); have q134 : x7_2 < (l1_1.length : Int) := zP (by assumption); obtain ⟨ad134, e134, hx134_0⟩ := Kd.at_int HR1_1.out x7_2 p134 q134; cases e134; replace hx134_0 := (HB.out.cell (zQ w _ hx134_0)).trans hx134_0; replace p134 := eq_true p134; replace q134 := eq_true q134) | (go_at_call 25; (with_reducible refine (spec_l00Min.calls (rd l0_1 x7_2) (rd l1_1 x7_2) t135 _ A46.out).mono ?_); rintro e w' ⟨rfl, ⟨nd, rfl⟩⟩; (try first | exact ⟨rfl, _, World.drewN_drewN _ _ _⟩ | exact ⟨rfl, _, Eq.trans (World.drewN_drewN _ _ _) (congrArg (World.drewN _) (Nat.add_assoc _ _ _))⟩); have hnb55 := NB126_129.out; have hnc55 := NB129_126.out; obtain ⟨hcz56_0, hcz56_1⟩ := cz2 BK126.out; obtain ⟨hfz56_0, hfz56_1⟩ := fz2 BK126.out)); try go_wp2_with (first | (go_at_call 24; (with_reducible refine (spec_l00Max.calls (rd l0_0 x7_2) (rd l1_0 x7_2) t132 _ A43.out).mono ?_); rintro e w' ⟨rfl, ⟨nd, rfl⟩⟩; (try first | exact ⟨rfl, _, World.drewN_drewN _ _ _⟩ | exact ⟨rfl, _, Eq.trans (World.drewN_drewN _ _ _) (congrArg (World.drewN _) (Nat.add_assoc _ _ _))⟩); have p133 : 0 ≤ (x7_2 : Int) := zP (by assumption); have q133 : x7_2 < (l0_1.length : Int) := zP (by assumption); obtain ⟨ad133, e133, hx133_0⟩ := Kd.at_int HR0_1.out x7_2 p133 q133; cases e133; replace hx133_0 := (HB.out.cell (zQ w _ hx133_0)).trans hx133_0; replace p133 := eq_true p133; replace q133 := eq_true q133; have p134 : 0 ≤ (x7_2 : Int) := zP (by assumption); have q134 : x7_2 < (l1_1.length : Int) := zP (by assumption); obtain ⟨ad134, e134, hx134_0⟩ := Kd.at_int HR1_1.out x7_2 p134 q134; cases e134; replace hx134_0 := (HB.out.cell (zQ w _ hx134_0)).trans hx134_0; replace p134 := eq_true p134; replace q134 := eq_true q134) | (go_at_call 25; (with_reducible refine (spec_l00Min.calls (rd l0_1 x7_2) (rd l1_1 x7_2) t135 _ A46.out).mono ?_); rintro e w' ⟨rfl, ⟨nd, rfl⟩⟩; (try first | exact ⟨rfl, _, World.drewN_drewN _ _ _⟩ | exact ⟨rfl, _, Eq.trans (World.drewN_drewN _ _ _) (congrArg (World.drewN _) (Nat.add_assoc _ _ _))⟩); have hnb55 := NB126_129.out; have hnc55 := NB129_126.out; obtain ⟨hcz56_0, hcz56_1⟩ := cz2 BK126.out; obtain ⟨hfz56_0, hfz56_1⟩ := fz2 BK126.out)))
                        refine bodyPost_ret (results_ct rfl _ _ gb126 26 #[.slice none 0 0, .slice none 0 0] (0, 0) _ rfl (by (with_reducible repeat (first | refine yM ?_ _ | refine yO ?_ | refine yN ?_ _)); refine blk_put (cs := #[.slice none 0 0, .slice none 0 0]) ?_ 1 _ rfl; (with_reducible repeat (first | refine yM ?_ _ | refine yO ?_ | refine yN ?_ _)); refine blk_put (cs := #[.slice none 0 0, .slice none 0 0]) ?_ 0 _ rfl; (with_reducible repeat (first | refine yM ?_ _ | refine yO ?_ | refine yN ?_ _)); exact BK126.out) Try.underlying26 rfl (by kernel_rfl)) rfl ?_
                        exact ⟨_, _, by first | rfl | (simp <;> rfl) | (simp [*] <;> rfl), by first | exact Kd.R_nil _ _ _ _ _ | exact Kd.N_nil _ _ _ _ _ | exact Kd.V_nil _ _ _ _ _ | exact Kd.Q_nil _ _ _ _ _ | exact Kd.S_nil _ _ _ _ _, by first | exact Kd.R_nil _ _ _ _ _ | exact Kd.N_nil _ _ _ _ _ | exact Kd.V_nil _ _ _ _ _ | exact Kd.Q_nil _ _ _ _ _ | exact Kd.S_nil _ _ _ _ _, by repeat (first | (with_reducible first | exact HB.out | apply yQ | apply yL | apply yP | refine yE ?_ GE124.out | refine yE ?_ GE125.out | refine yE ?_ GE126.out | refine yE ?_ GE129.out) | exact HB.out)⟩
                      · rw [if_neg c47] at H
                        have c47b0 : decide (t135 ≤ t132) = false := zS c47; clear c47
                        by_cases c57 : x130000_2.length < 17592186044416
                        · rw [if_pos c57] at H
                          have LMc57 := yD c57
                          clear c57
                          obtain ⟨y136, hy136⟩ : ∃ y_ : List Int, y_ = (x130000_2 ++ [t132]) := ⟨_, rfl⟩
                          replace H : (if x130001_2.length < 17592186044416 then (spec_CutBox.l0 k2 (wrap64 (x7_2 + 1)) l0_0 l0_1 l1_0 l1_1 y136 (x130001_2 ++ [t135])) else (none)) = some (r1, r2, r3) := by first | (rw [hy136]; with_reducible exact H) | (have H2_ := (Option.bind_some _ _).symm.trans H; rw [hy136]; with_reducible exact H2_) | (have H2_ := (Option.bind_some _ _).symm.trans H; with_reducible exact H2_) | with_reducible exact H | (rw [hy136]; exact H) | exact H
                          have Ny136 := yD hy136
                          clear hy136
                          by_cases c58 : x130001_2.length < 17592186044416
                          · rw [if_pos c58] at H
                            have LMc58 := yD c58
                            clear c58
                            obtain ⟨y139, hy139⟩ : ∃ y_ : List Int, y_ = (x130001_2 ++ [t135]) := ⟨_, rfl⟩
                            replace H : (spec_CutBox.l0 k2 (wrap64 (x7_2 + 1)) l0_0 l0_1 l1_0 l1_1 y136 y139) = some (r1, r2, r3) := by first | (rw [hy139]; with_reducible exact H) | (have H2_ := (Option.bind_some _ _).symm.trans H; rw [hy139]; with_reducible exact H2_) | (have H2_ := (Option.bind_some _ _).symm.trans H; with_reducible exact H2_) | with_reducible exact H | (rw [hy139]; exact H) | exact H
                            have Ny139 := yD hy139
                            clear hy139
                            have H' := yD H
                            clear H; have hnb59 := NB124_125.out; have hnc59 := NB125_124.out; have hnb60 := NB124_126.out; have hnc60 := NB126_124.out; have hnb61 := NB124_129.out; have hnc61 := NB129_124.out
                            obtain ⟨hcz62_0, hcz62_1⟩ := cz2 BK124.out
                            obtain ⟨hfz62_0, hfz62_1⟩ := fz2 BK124.out
                            have p130 : 0 ≤ (x7_2 : Int) := zP (by assumption)
                            have q130 : x7_2 < (l0_0.length : Int) := zP (by assumption)
                            obtain ⟨ad130, e130, hx130_0⟩ := Kd.at_int HR0_0.out x7_2 p130 q130
                            cases e130
                            replace hx130_0 := (HB.out.cell (zQ w _ hx130_0)).trans hx130_0
                            replace p130 := eq_true p130; replace q130 := eq_true q130; have hnb63 := NB125_126.out; have hnc63 := NB126_125.out; have hnb64 := NB125_129.out; have hnc64 := NB129_125.out
                            obtain ⟨hcz65_0, hcz65_1⟩ := cz2 BK125.out
                            obtain ⟨hfz65_0, hfz65_1⟩ := fz2 BK125.out
                            have p131 : 0 ≤ (x7_2 : Int) := zP (by assumption)
                            have q131 : x7_2 < (l1_0.length : Int) := zP (by assumption)
                            obtain ⟨ad131, e131, hx131_0⟩ := Kd.at_int HR1_0.out x7_2 p131 q131
                            cases e131
                            replace hx131_0 := (HB.out.cell (zQ w _ hx131_0)).trans hx131_0
                            replace p131 := eq_true p131; replace q131 := eq_true q131
                            go_wp2_with (first | (go_at_call 24; (with_reducible refine (spec_l00Max.calls (rd l0_0 x7_2) (rd l1_0 x7_2) t132 _ A43.out).mono ?_); rintro e w' ⟨rfl, ⟨nd, rfl⟩⟩; (try first | exact ⟨rfl, _, World.drewN_drewN _ _ _⟩ | exact ⟨rfl, _, Eq.trans (World.drewN_drewN _ _ _) (congrArg (World.drewN _) (Nat.add_assoc _ _ _))⟩); have p133 : 0 ≤ (x7_2 : Int) := zP (by assumption); have q133 : x7_2 < (l0_1.length : Int) := zP (by assumption); obtain ⟨ad133, e133, hx133_0⟩ := Kd.at_int HR0_1.out x7_2 p133 q133; cases e133; replace hx133_0 := (HB.out.cell (zQ w _ hx133_0)).trans hx133_0; replace p133 := eq_true p133; replace q133 := eq_true q133; have p134 : 0 ≤ (x7_2 : Int) := zP (by assumption); have q134 : x7_2 < (l1_1.length : Int) := zP (by assumption); obtain ⟨ad134, e134, hx134_0⟩ := Kd.at_int HR1_1.out x7_2 p134 q134; cases e134; replace hx134_0 := (HB.out.cell (zQ w _ hx134_0)).trans hx134_0; replace p134 := eq_true p134; replace q134 := eq_true q134) | (go_at_call 25; (with_reducible refine (spec_l00Min.calls (rd l0_1 x7_2) (rd l1_1 x7_2) t135 _ A46.out).mono ?_); rintro e w' ⟨rfl, ⟨nd, rfl⟩⟩; (try first | exact ⟨rfl, _, World.drewN_drewN _ _ _⟩ | exact ⟨rfl, _, Eq.trans (World.drewN_drewN _ _ _) (congrArg (World.drewN _) (Nat.add_assoc _ _ _))⟩); have hnb66 := NB129_126.out; have hnc66 := NB126_129.out; obtain ⟨hcz67_0, hcz67_1⟩ := cz2 BK129.out; obtain ⟨hfz67_0, hfz67_1⟩ := fz2 BK129.out) | ((with_reducible refine gate_builtin (b := .append) (xs := #[.tmp 63, .tmp 65]) rfl ?_); (try (refine gate_guard (by rfl) ?_; dsimp only)); at_builtin; refine Kd.R_append (Kd.int .i64) (w0 := w) w.heap.size rfl (.tmp 63) (.tmp 65) 22 2 (.int .i64 0) 8 rfl Try.underlying22 info2 rfl (by decide) (by omega) u130000 x130000_2 t132 [.int .i64 t132] (fun k_ => some k_ ≠ (u130001 : Value).ownBlock) (fun _ => False) rfl rfl ?aP (fun _ hk => hk.elim) ?aF ?aO ?aB ?aS ?aL ?_; (case aP => exact rfl); (case aB => exact (kB HB)); (case aF => exact (fun k_ hk => Kd.fresh' (yK (kA HO_130001)) k_ hk)); (case aO => exact (kA HO_130000)); (case aS => exact (below_size (kB HB))); (case aL => have := LMc57.out; omega); intro v137 w68 ho hb hg hat; rw [← Ny136.out] at ho; have n0_ := yD (Kd.R_after (ok := (fun _ => True)) (by (with_reducible repeat (first | apply yA | apply yB | apply yC)); exact zF HO_130001.out (fun _ hk => ⟨trivial, hk⟩)) hg hat); have n1_ := yD (blk_grown (g := gb124) (o := .cells #[.slice (some ad130) l0_0.length c0_0, .slice (some ad133) l0_1.length c0_1] 26 (0, 0)) (kM BK124) hg (Kd.R_ne HO_130000.out BK124.out (by decide))); have n2_ := yD (blk_grown (g := gb125) (o := .cells #[.slice (some ad131) l1_0.length c1_0, .slice (some ad134) l1_1.length c1_1] 26 (0, 0)) (kM BK125) hg (Kd.R_ne HO_130000.out BK125.out (by decide))); have n3_ := yD (blk_grown (g := gb126) (o := .cells #[.slice none 0 0, .slice none 0 0] 26 (0, 0)) (kM BK126) hg (Kd.R_ne HO_130000.out BK126.out (by decide))); have n4_ := yD (blk_grown (g := gb129) (o := .cells #[u130000, u130001] 26 (0, 0)) (kM BK129) hg (Kd.R_ne HO_130000.out BK129.out (by decide))); have n5_ := yD (hb); have n6_ := yD (ho); clear HO_130001; clear BK124; clear BK125; clear BK126; clear BK129; clear HB; clear HO_130000; have HO_130001 := n0_; have BK124 := n1_; have BK125 := n2_; have BK126 := n3_; have BK129 := n4_; have HB := n5_; have HO138 := n6_; clear n0_ n1_ n2_ n3_ n4_ n5_ n6_; clear ho hb hg hat; obtain ⟨Ao69, co69, eo69⟩ := Kd.R_slice HO138.out; subst eo69; obtain ⟨hcz70_0, hcz70_1⟩ := cz2 BK129.out; obtain ⟨hfz70_0, hfz70_1⟩ := fz2 BK129.out) | ((with_reducible refine gate_builtin (b := .append) (xs := #[.tmp 69, .tmp 71]) rfl ?_); (try (refine gate_guard (by rfl) ?_; dsimp only)); at_builtin; refine Kd.R_append (Kd.int .i64) (w0 := w) w.heap.size rfl (.tmp 69) (.tmp 71) 22 2 (.int .i64 0) 8 rfl Try.underlying22 info2 rfl (by decide) (by omega) u130001 x130001_2 t135 [.int .i64 t135] (fun k_ => some k_ ≠ (.slice Ao69 y136.length co69 : Value).ownBlock) (fun _ => False) rfl (by first | (go_simp; done) | (go_simp; rfl)) ?aP (fun _ hk => hk.elim) ?aF ?aO ?aB ?aS ?aL ?_; (case aP => exact rfl); (case aB => exact (kB HB)); (case aF => exact (fun k_ hk => Kd.fresh' (yK (by (with_reducible repeat (first | apply yA | apply yB | apply yC)); exact (zF (yF (p := ⟨gb129, 0, none⟩) (Kd.R_types HO138.out BK129.out (by decide)) (fun _ hk => hk.2) (.slice Ao69 y136.length co69)) (fun _ h_ => h_.1)))) k_ hk)); (case aO => exact (by (with_reducible repeat (first | apply yA | apply yB | apply yC)); exact zF (yF (p := ⟨gb129, 0, none⟩) (Kd.R_types HO_130001.out BK129.out (by decide)) (fun _ hk => hk.2) (.slice Ao69 y136.length co69)) (fun _ hk => hk.1.2))); (case aS => exact (below_size (kB HB))); (case aL => have := LMc58.out; omega); intro v140 w71 ho hb hg hat; rw [← Ny139.out] at ho; have n0_ := yD (blk_grown (g := gb124) (o := .cells #[.slice (some ad130) l0_0.length c0_0, .slice (some ad133) l0_1.length c0_1] 26 (0, 0)) (by (with_reducible repeat (first | refine yM ?_ _ | refine yO ?_ | refine yN ?_ _)); refine blk_far ?_ NB124_129.out _; (with_reducible repeat (first | refine yM ?_ _ | refine yO ?_ | refine yN ?_ _)); exact BK124.out) hg (Kd.R_ne HO_130001.out BK124.out (by decide))); have n1_ := yD (blk_grown (g := gb125) (o := .cells #[.slice (some ad131) l1_0.length c1_0, .slice (some ad134) l1_1.length c1_1] 26 (0, 0)) (by (with_reducible repeat (first | refine yM ?_ _ | refine yO ?_ | refine yN ?_ _)); refine blk_far ?_ NB125_129.out _; (with_reducible repeat (first | refine yM ?_ _ | refine yO ?_ | refine yN ?_ _)); exact BK125.out) hg (Kd.R_ne HO_130001.out BK125.out (by decide))); have n2_ := yD (blk_grown (g := gb126) (o := .cells #[.slice none 0 0, .slice none 0 0] 26 (0, 0)) (by (with_reducible repeat (first | refine yM ?_ _ | refine yO ?_ | refine yN ?_ _)); refine blk_far ?_ NB126_129.out _; (with_reducible repeat (first | refine yM ?_ _ | refine yO ?_ | refine yN ?_ _)); exact BK126.out) hg (Kd.R_ne HO_130001.out BK126.out (by decide))); have n3_ := yD (blk_grown (g := gb129) (o := .cells #[.slice Ao69 y136.length co69, u130001] 26 (0, 0)) (by (with_reducible repeat (first | refine yM ?_ _ | refine yO ?_ | refine yN ?_ _)); refine blk_put (cs := #[u130000, u130001]) ?_ 0 _ rfl; (with_reducible repeat (first | refine yM ?_ _ | refine yO ?_ | refine yN ?_ _)); exact BK129.out) hg (Kd.R_ne HO_130001.out BK129.out (by decide))); have n4_ := yD (Kd.R_after (ok := (fun _ => True)) (by (with_reducible repeat (first | apply yA | apply yB | apply yC)); exact zF (yF (p := ⟨gb129, 0, none⟩) (Kd.R_types HO138.out BK129.out (by decide)) (fun _ hk => hk.2) (.slice Ao69 y136.length co69)) (fun _ hk => ⟨trivial, hk.1⟩)) hg hat); have n5_ := yD (hb); have n6_ := yD (ho); clear BK124; clear BK125; clear BK126; clear BK129; clear HO138; clear HB; clear HO_130001; have BK124 := n0_; have BK125 := n1_; have BK126 := n2_; have BK129 := n3_; have HO138 := n4_; have HB := n5_; have HO141 := n6_; clear n0_ n1_ n2_ n3_ n4_ n5_ n6_; clear ho hb hg hat; obtain ⟨Ao72, co72, eo72⟩ := Kd.R_slice HO141.out; subst eo72; obtain ⟨hcz73_0, hcz73_1⟩ := cz2 BK129.out; obtain ⟨hfz73_0, hfz73_1⟩ := fz2 BK129.out))
                            repeat (go_quiet (first | (go_at_call 24; (with_reducible refine (spec_l00Max.calls (rd l0_0 x7_2) (rd l1_0 x7_2) t132 _ A43.out).mono ?_); rintro e w' ⟨rfl, ⟨nd, rfl⟩⟩; (try first | exact ⟨rfl, _, World.drewN_drewN _ _ _⟩ | exact ⟨rfl, _, Eq.trans (World.drewN_drewN _ _ _) (congrArg (World.drewN _) (Nat.add_assoc _ _ _))⟩); have p133 : 0 ≤ (x7_2 : Int) := zP (by assumption); have q133 : x7_2 < (l0_1.length : Int) := zP (by assumption); obtain ⟨ad133, e133, hx133_0⟩ := Kd.at_int HR0_1.out x7_2 p133 q133; cases e133; replace hx133_0 := (HB.out.cell (zQ w _ hx133_0)).trans hx133_0; replace p133 := eq_true p133; replace q133 := eq_true q133; have p134 : 0 ≤ (x7_2 : Int) := zP (by assumption); have q134 : x7_2 < (l1_1.length : Int) := zP (by assumption); obtain ⟨ad134, e134, hx134_0⟩ := Kd.at_int HR1_1.out x7_2 p134 q134; cases e134; replace hx134_0 := (HB.out.cell (zQ w _ hx134_0)).trans hx134_0; replace p134 := eq_true p134; replace q134 := eq_true q134) | (go_at_call 25; (with_reducible refine (spec_l00Min.calls (rd l0_1 x7_2) (rd l1_1 x7_2) t135 _ A46.out).mono ?_); rintro e w' ⟨rfl, ⟨nd, rfl⟩⟩; (try first | exact ⟨rfl, _, World.drewN_drewN _ _ _⟩ | exact ⟨rfl, _, Eq.trans (World.drewN_drewN _ _ _) (congrArg (World.drewN _) (Nat.add_assoc _ _ _))⟩); have hnb66 := NB129_126.out; have hnc66 := NB126_129.out; obtain ⟨hcz67_0, hcz67_1⟩ := cz2 BK129.out; obtain ⟨hfz67_0, hfz67_1⟩ := fz2 BK129.out) | ((with_reducible refine gate_builtin (b := .append) (xs := #[.tmp 63, .tmp 65]) rfl ?_); (try (refine gate_guard (by rfl) ?_; dsimp only)); at_builtin; refine Kd.R_append (Kd.int .i64) (w0 := w) w.heap.size rfl (.tmp 63) (.tmp 65) 22 2 (.int .i64 0) 8 rfl Try.underlying22 info2 rfl (by decide) (by omega) u130000 x130000_2 t132 [.int .i64 t132] (fun k_ => some k_ ≠ (u130001 : Value).ownBlock) (fun _ => False) rfl rfl ?aP (fun _ hk => hk.elim) ?aF ?aO ?aB ?aS ?aL ?_; (case aP => exact rfl); (case aB => exact (kB HB)); (case aF => exact (fun k_ hk => Kd.fresh' (yK (kA HO_130001)) k_ hk)); (case aO => exact (kA HO_130000)); (case aS => exact (below_size (kB HB))); (case aL => have := LMc57.out; omega); intro v137 w68 ho hb hg hat; rw [← Ny136.out] at ho; have n0_ := yD (Kd.R_after (ok := (fun _ => True)) (by (with_reducible repeat (first | apply yA | apply yB | apply yC)); exact zF HO_130001.out (fun _ hk => ⟨trivial, hk⟩)) hg hat); have n1_ := yD (blk_grown (g := gb124) (o := .cells #[.slice (some ad130) l0_0.length c0_0, .slice (some ad133) l0_1.length c0_1] 26 (0, 0)) (kM BK124) hg (Kd.R_ne HO_130000.out BK124.out (by decide))); have n2_ := yD (blk_grown (g := gb125) (o := .cells #[.slice (some ad131) l1_0.length c1_0, .slice (some ad134) l1_1.length c1_1] 26 (0, 0)) (kM BK125) hg (Kd.R_ne HO_130000.out BK125.out (by decide))); have n3_ := yD (blk_grown (g := gb126) (o := .cells #[.slice none 0 0, .slice none 0 0] 26 (0, 0)) (kM BK126) hg (Kd.R_ne HO_130000.out BK126.out (by decide))); have n4_ := yD (blk_grown (g := gb129) (o := .cells #[u130000, u130001] 26 (0, 0)) (kM BK129) hg (Kd.R_ne HO_130000.out BK129.out (by decide))); have n5_ := yD (hb); have n6_ := yD (ho); clear HO_130001; clear BK124; clear BK125; clear BK126; clear BK129; clear HB; clear HO_130000; have HO_130001 := n0_; have BK124 := n1_; have BK125 := n2_; have BK126 := n3_; have BK129 := n4_; have HB := n5_; have HO138 := n6_; clear n0_ n1_ n2_ n3_ n4_ n5_ n6_; clear ho hb hg hat; obtain ⟨Ao69, co69, eo69⟩ := Kd.R_slice HO138.out; subst eo69; obtain ⟨hcz70_0, hcz70_1⟩ := cz2 BK129.out; obtain ⟨hfz70_0, hfz70_1⟩ := fz2 BK129.out) | ((with_reducible refine gate_builtin (b := .append) (xs := #[.tmp 69, .tmp 71]) rfl ?_); (try (refine gate_guard (by rfl) ?_; dsimp only)); at_builtin; refine Kd.R_append (Kd.int .i64) (w0 := w) w.heap.size rfl (.tmp 69) (.tmp 71) 22 2 (.int .i64 0) 8 rfl Try.underlying22 info2 rfl (by decide) (by omega) u130001 x130001_2 t135 [.int .i64 t135] (fun k_ => some k_ ≠ (.slice Ao69 y136.length co69 : Value).ownBlock) (fun _ => False) rfl (by first | (go_simp; done) | (go_simp; rfl)) ?aP (fun _ hk => hk.elim) ?aF ?aO ?aB ?aS ?aL ?_; (case aP => exact rfl); (case aB => exact (kB HB)); (case aF => exact (fun k_ hk => Kd.fresh' (yK (by (with_reducible repeat (first | apply yA | apply yB | apply yC)); exact (zF (yF (p := ⟨gb129, 0, none⟩) (Kd.R_types HO138.out BK129.out (by decide)) (fun _ hk => hk.2) (.slice Ao69 y136.length co69)) (fun _ h_ => h_.1)))) k_ hk)); (case aO => exact (by (with_reducible repeat (first | apply yA | apply yB | apply yC)); exact zF (yF (p := ⟨gb129, 0, none⟩) (Kd.R_types HO_130001.out BK129.out (by decide)) (fun _ hk => hk.2) (.slice Ao69 y136.length co69)) (fun _ hk => hk.1.2))); (case aS => exact (below_size (kB HB))); (case aL => have := LMc58.out; omega); intro v140 w71 ho hb hg hat; rw [← Ny139.out] at ho; have n0_ := yD (blk_grown (g := gb124) (o := .cells #[.slice (some ad130) l0_0.length c0_0, .slice (some ad133) l0_1.length c0_1] 26 (0, 0)) (by (with_reducible repeat (first | refine yM ?_ _ | refine yO ?_ | refine yN ?_ _)); refine blk_far ?_ NB124_129.out _; (with_reducible repeat (first | refine yM ?_ _ | refine yO ?_ | refine yN ?_ _)); exact BK124.out) hg (Kd.R_ne HO_130001.out BK124.out (by decide))); have n1_ := yD (blk_grown (g := gb125) (o := .cells #[.slice (some ad131) l1_0.length c1_0, .slice (some ad134) l1_1.length c1_1] 26 (0, 0)) (by (with_reducible repeat (first | refine yM ?_ _ | refine yO ?_ | refine yN ?_ _)); refine blk_far ?_ NB125_129.out _; (with_reducible repeat (first | refine yM ?_ _ | refine yO ?_ | refine yN ?_ _)); exact BK125.out) hg (Kd.R_ne HO_130001.out BK125.out (by decide))); have n2_ := yD (blk_grown (g := gb126) (o := .cells #[.slice none 0 0, .slice none 0 0] 26 (0, 0)) (by (with_reducible repeat (first | refine yM ?_ _ | refine yO ?_ | refine yN ?_ _)); refine blk_far ?_ NB126_129.out _; (with_reducible repeat (first | refine yM ?_ _ | refine yO ?_ | refine yN ?_ _)); exact BK126.out) hg (Kd.R_ne HO_130001.out BK126.out (by decide))); have n3_ := yD (blk_grown (g := gb129) (o := .cells #[.slice Ao69 y136.length co69, u130001] 26 (0, 0)) (by (with_reducible repeat (first | refine yM ?_ _ | refine yO ?_ | refine yN ?_ _)); refine blk_put (cs := #[u130000, u130001]) ?_ 0 _ rfl; (with_reducible repeat (first | refine yM ?_ _ | refine yO ?_ | refine yN ?_ _)); exact BK129.out) hg (Kd.R_ne HO_130001.out BK129.out (by decide))); have n4_ := yD (Kd.R_after (ok := (fun _ => True)) (by (with_reducible repeat (first | apply yA | apply yB | apply yC)); exact zF (yF (p := ⟨gb129, 0, none⟩) (Kd.R_types HO138.out BK129.out (by decide)) (fun _ hk => hk.2) (.slice Ao69 y136.length co69)) (fun _ hk => ⟨trivial, hk.1⟩)) hg hat); have n5_ := yD (hb); have n6_ := yD (ho); clear BK124; clear BK125; clear BK126; clear BK129; clear HO138; clear HB; clear HO_130001; have BK124 := n0_; have BK125 := n1_; have BK126 := n2_; have BK129 := n3_; have HO138 := n4_; have HB := n5_; have HO141 := n6_; clear n0_ n1_ n2_ n3_ n4_ n5_ n6_; clear ho hb hg hat; obtain ⟨Ao72, co72, eo72⟩ := Kd.R_slice HO141.out; subst eo72; obtain ⟨hcz73_0, hcz73_1⟩ := cz2 BK129.out; obtain ⟨hfz73_0, hfz73_1⟩ := fz2 BK129.out)); try go_wp2_with (first | (go_at_call 24; (with_reducible refine (spec_l00Max.calls (rd l0_0 x7_2) (rd l1_0 x7_2) t132 _ A43.out).mono ?_); rintro e w' ⟨rfl, ⟨nd, rfl⟩⟩; (try first | exact ⟨rfl, _, World.drewN_drewN _ _ _⟩ | exact ⟨rfl, _, Eq.trans (World.drewN_drewN _ _ _) (congrArg (World.drewN _) (Nat.add_assoc _ _ _))⟩); have p133 : 0 ≤ (x7_2 : Int) := zP (by assumption); have q133 : x7_2 < (l0_1.length : Int) := zP (by assumption); obtain ⟨ad133, e133, hx133_0⟩ := Kd.at_int HR0_1.out x7_2 p133 q133; cases e133; replace hx133_0 := (HB.out.cell (zQ w _ hx133_0)).trans hx133_0; replace p133 := eq_true p133; replace q133 := eq_true q133; have p134 : 0 ≤ (x7_2 : Int) := zP (by assumption); have q134 : x7_2 < (l1_1.length : Int) := zP (by assumption); obtain ⟨ad134, e134, hx134_0⟩ := Kd.at_int HR1_1.out x7_2 p134 q134; cases e134; replace hx134_0 := (HB.out.cell (zQ w _ hx134_0)).trans hx134_0; replace p134 := eq_true p134; replace q134 := eq_true q134) | (go_at_call 25; (with_reducible refine (spec_l00Min.calls (rd l0_1 x7_2) (rd l1_1 x7_2) t135 _ A46.out).mono ?_); rintro e w' ⟨rfl, ⟨nd, rfl⟩⟩; (try first | exact ⟨rfl, _, World.drewN_drewN _ _ _⟩ | exact ⟨rfl, _, Eq.trans (World.drewN_drewN _ _ _) (congrArg (World.drewN _) (Nat.add_assoc _ _ _))⟩); have hnb66 := NB129_126.out; have hnc66 := NB126_129.out; obtain ⟨hcz67_0, hcz67_1⟩ := cz2 BK129.out; obtain ⟨hfz67_0, hfz67_1⟩ := fz2 BK129.out) | ((with_reducible refine gate_builtin (b := .append) (xs := #[.tmp 63, .tmp 65]) rfl ?_); (try (refine gate_guard (by rfl) ?_; dsimp only)); at_builtin; refine Kd.R_append (Kd.int .i64) (w0 := w) w.heap.size rfl (.tmp 63) (.tmp 65) 22 2 (.int .i64 0) 8 rfl Try.underlying22 info2 rfl (by decide) (by omega) u130000 x130000_2 t132 [.int .i64 t132] (fun k_ => some k_ ≠ (u130001 : Value).ownBlock) (fun _ => False) rfl rfl ?aP (fun _ hk => hk.elim) ?aF ?aO ?aB ?aS ?aL ?_; (case aP => exact rfl); (case aB => exact (kB HB)); (case aF => exact (fun k_ hk => Kd.fresh' (yK (kA HO_130001)) k_ hk)); (case aO => exact (kA HO_130000)); (case aS => exact (below_size (kB HB))); (case aL => have := LMc57.out; omega); intro v137 w68 ho hb hg hat; rw [← Ny136.out] at ho; have n0_ := yD (Kd.R_after (ok := (fun _ => True)) (by (with_reducible repeat (first | apply yA | apply yB | apply yC)); exact zF HO_130001.out (fun _ hk => ⟨trivial, hk⟩)) hg hat); have n1_ := yD (blk_grown (g := gb124) (o := .cells #[.slice (some ad130) l0_0.length c0_0, .slice (some ad133) l0_1.length c0_1] 26 (0, 0)) (kM BK124) hg (Kd.R_ne HO_130000.out BK124.out (by decide))); have n2_ := yD (blk_grown (g := gb125) (o := .cells #[.slice (some ad131) l1_0.length c1_0, .slice (some ad134) l1_1.length c1_1] 26 (0, 0)) (kM BK125) hg (Kd.R_ne HO_130000.out BK125.out (by decide))); have n3_ := yD (blk_grown (g := gb126) (o := .cells #[.slice none 0 0, .slice none 0 0] 26 (0, 0)) (kM BK126) hg (Kd.R_ne HO_130000.out BK126.out (by decide))); have n4_ := yD (blk_grown (g := gb129) (o := .cells #[u130000, u130001] 26 (0, 0)) (kM BK129) hg (Kd.R_ne HO_130000.out BK129.out (by decide))); have n5_ := yD (hb); have n6_ := yD (ho); clear HO_130001; clear BK124; clear BK125; clear BK126; clear BK129; clear HB; clear HO_130000; have HO_130001 := n0_; have BK124 := n1_; have BK125 := n2_; have BK126 := n3_; have BK129 := n4_; have HB := n5_; have HO138 := n6_; clear n0_ n1_ n2_ n3_ n4_ n5_ n6_; clear ho hb hg hat; obtain ⟨Ao69, co69, eo69⟩ := Kd.R_slice HO138.out; subst eo69; obtain ⟨hcz70_0, hcz70_1⟩ := cz2 BK129.out; obtain ⟨hfz70_0, hfz70_1⟩ := fz2 BK129.out) | ((with_reducible refine gate_builtin (b := .append) (xs := #[.tmp 69, .tmp 71]) rfl ?_); (try (refine gate_guard (by rfl) ?_; dsimp only)); at_builtin; refine Kd.R_append (Kd.int .i64) (w0 := w) w.heap.size rfl (.tmp 69) (.tmp 71) 22 2 (.int .i64 0) 8 rfl Try.underlying22 info2 rfl (by decide) (by omega) u130001 x130001_2 t135 [.int .i64 t135] (fun k_ => some k_ ≠ (.slice Ao69 y136.length co69 : Value).ownBlock) (fun _ => False) rfl (by first | (go_simp; done) | (go_simp; rfl)) ?aP (fun _ hk => hk.elim) ?aF ?aO ?aB ?aS ?aL ?_; (case aP => exact rfl); (case aB => exact (kB HB)); (case aF => exact (fun k_ hk => Kd.fresh' (yK (by (with_reducible repeat (first | apply yA | apply yB | apply yC)); exact (zF (yF (p := ⟨gb129, 0, none⟩) (Kd.R_types HO138.out BK129.out (by decide)) (fun _ hk => hk.2) (.slice Ao69 y136.length co69)) (fun _ h_ => h_.1)))) k_ hk)); (case aO => exact (by (with_reducible repeat (first | apply yA | apply yB | apply yC)); exact zF (yF (p := ⟨gb129, 0, none⟩) (Kd.R_types HO_130001.out BK129.out (by decide)) (fun _ hk => hk.2) (.slice Ao69 y136.length co69)) (fun _ hk => hk.1.2))); (case aS => exact (below_size (kB HB))); (case aL => have := LMc58.out; omega); intro v140 w71 ho hb hg hat; rw [← Ny139.out] at ho; have n0_ := yD (blk_grown (g := gb124) (o := .cells #[.slice (some ad130) l0_0.length c0_0, .slice (some ad133) l0_1.length c0_1] 26 (0, 0)) (by (with_reducible repeat (first | refine yM ?_ _ | refine yO ?_ | refine yN ?_ _)); refine blk_far ?_ NB124_129.out _; (with_reducible repeat (first | refine yM ?_ _ | refine yO ?_ | refine yN ?_ _)); exact BK124.out) hg (Kd.R_ne HO_130001.out BK124.out (by decide))); have n1_ := yD (blk_grown (g := gb125) (o := .cells #[.slice (some ad131) l1_0.length c1_0, .slice (some ad134) l1_1.length c1_1] 26 (0, 0)) (by (with_reducible repeat (first | refine yM ?_ _ | refine yO ?_ | refine yN ?_ _)); refine blk_far ?_ NB125_129.out _; (with_reducible repeat (first | refine yM ?_ _ | refine yO ?_ | refine yN ?_ _)); exact BK125.out) hg (Kd.R_ne HO_130001.out BK125.out (by decide))); have n2_ := yD (blk_grown (g := gb126) (o := .cells #[.slice none 0 0, .slice none 0 0] 26 (0, 0)) (by (with_reducible repeat (first | refine yM ?_ _ | refine yO ?_ | refine yN ?_ _)); refine blk_far ?_ NB126_129.out _; (with_reducible repeat (first | refine yM ?_ _ | refine yO ?_ | refine yN ?_ _)); exact BK126.out) hg (Kd.R_ne HO_130001.out BK126.out (by decide))); have n3_ := yD (blk_grown (g := gb129) (o := .cells #[.slice Ao69 y136.length co69, u130001] 26 (0, 0)) (by (with_reducible repeat (first | refine yM ?_ _ | refine yO ?_ | refine yN ?_ _)); refine blk_put (cs := #[u130000, u130001]) ?_ 0 _ rfl; (with_reducible repeat (first | refine yM ?_ _ | refine yO ?_ | refine yN ?_ _)); exact BK129.out) hg (Kd.R_ne HO_130001.out BK129.out (by decide))); have n4_ := yD (Kd.R_after (ok := (fun _ => True)) (by (with_reducible repeat (first | apply yA | apply yB | apply yC)); exact zF (yF (p := ⟨gb129, 0, none⟩) (Kd.R_types HO138.out BK129.out (by decide)) (fun _ hk => hk.2) (.slice Ao69 y136.length co69)) (fun _ hk => ⟨trivial, hk.1⟩)) hg hat); have n5_ := yD (hb); have n6_ := yD (ho); clear BK124; clear BK125; clear BK126; clear BK129; clear HO138; clear HB; clear HO_130001; have BK124 := n0_; have BK125 := n1_; have BK126 := n2_; have BK129 := n3_; have HO138 := n4_; have HB := n5_; have HO141 := n6_; clear n0_ n1_ n2_ n3_ n4_ n5_ n6_; clear ho hb hg hat; obtain ⟨Ao72, co72, eo72⟩ := Kd.R_slice HO141.out; subst eo72; obtain ⟨hcz73_0, hcz73_1⟩ := cz2 BK129.out; obtain ⟨hfz73_0, hfz73_1⟩ := fz2 BK129.out)))
                            go_roundg k2
                            case measure => have := HJ2.out; have := HK2.out; omega
                            case rel => exact ⟨(wrap64 (x7_2 + 1)), (y136), (y139), (.slice Ao69 y136.length co69), (.slice Ao72 y139.length co72), (by first | rfl | (simp; done) | (simp [*]; done)), H', ⟨by have := HJ2.out; have := HK2.out; omega⟩, ⟨by (with_reducible repeat (first | apply yA | apply yB | apply yC)); exact zF (yF (p := ⟨gb129, 1, none⟩) (Kd.R_types HO138.out BK129.out (by decide)) (fun _ hk => hk.2) (.slice Ao72 y139.length co72)) (fun _ hk => hk.1.2)⟩, ⟨by (with_reducible repeat (first | apply yA | apply yB | apply yC)); exact zF (yF (p := ⟨gb129, 1, none⟩) (Kd.R_types HO141.out BK129.out (by decide)) (fun _ hk => hk.2) (.slice Ao72 y139.length co72)) (fun _ hk => hk.1)⟩, ⟨by (with_reducible repeat (first | refine yM ?_ _ | refine yO ?_ | refine yN ?_ _)); refine blk_far ?_ NB124_129.out _; (with_reducible repeat (first | refine yM ?_ _ | refine yO ?_ | refine yN ?_ _)); exact BK124.out⟩, ⟨by (with_reducible repeat (first | refine yM ?_ _ | refine yO ?_ | refine yN ?_ _)); refine blk_far ?_ NB125_129.out _; (with_reducible repeat (first | refine yM ?_ _ | refine yO ?_ | refine yN ?_ _)); exact BK125.out⟩, ⟨by (with_reducible repeat (first | refine yM ?_ _ | refine yO ?_ | refine yN ?_ _)); refine blk_far ?_ NB126_129.out _; (with_reducible repeat (first | refine yM ?_ _ | refine yO ?_ | refine yN ?_ _)); exact BK126.out⟩, ⟨by (with_reducible repeat (first | refine yM ?_ _ | refine yO ?_ | refine yN ?_ _)); refine blk_put (cs := #[.slice Ao69 y136.length co69, u130001]) ?_ 1 _ rfl; (with_reducible repeat (first | refine yM ?_ _ | refine yO ?_ | refine yN ?_ _)); exact BK129.out⟩, ⟨by repeat (first | (with_reducible first | exact HB.out | apply yQ | apply yL | apply yP | refine yE ?_ GE124.out | refine yE ?_ GE125.out | refine yE ?_ GE126.out | refine yE ?_ GE129.out) | exact HB.out)⟩⟩
                          · rw [if_neg c58] at H
                            exact absurd H (by simp)
                        · rw [if_neg c57] at H
                          exact absurd H (by simp)
                    · rw [if_neg c45] at H
                      exact absurd H (by simp)
                  · rw [if_neg c44] at H
                    exact absurd H (by simp)
                · rw [if_neg c42] at H
                  exact absurd H (by simp)
              · rw [if_neg c41] at H
                exact absurd H (by simp)
            · rw [if_neg c40] at H
              have c40b0 : decide (x7_2 < (l0_0.length : Int)) = false := zS c40; clear c40
              simp only [Option.some.injEq, Prod.mk.injEq] at H
              obtain ⟨rfl, rfl, rfl⟩ := H
              have hnb74 := NB124_125.out; have hnc74 := NB125_124.out; have hnb75 := NB124_126.out; have hnc75 := NB126_124.out; have hnb76 := NB124_129.out; have hnc76 := NB129_124.out
              obtain ⟨hcz77_0, hcz77_1⟩ := cz2 BK124.out
              obtain ⟨hfz77_0, hfz77_1⟩ := fz2 BK124.out
              have hnb78 := NB129_125.out; have hnc78 := NB125_129.out; have hnb79 := NB129_126.out; have hnc79 := NB126_129.out
              obtain ⟨hcz80_0, hcz80_1⟩ := cz2 BK129.out
              obtain ⟨hfz80_0, hfz80_1⟩ := fz2 BK129.out
              obtain ⟨Ao81, co81, eo81⟩ := Kd.R_slice HO_130000.out
              subst eo81; have hnb82 := NB126_125.out; have hnc82 := NB125_126.out
              obtain ⟨hcz83_0, hcz83_1⟩ := cz2 BK126.out
              obtain ⟨hfz83_0, hfz83_1⟩ := fz2 BK126.out
              obtain ⟨Ao84, co84, eo84⟩ := Kd.R_slice HO_130001.out
              subst eo84
              go_wp2
              repeat (go_quiet (fail); try go_wp2)
              refine bodyPost_ret (results_ct rfl _ _ gb126 26 #[.slice Ao81 x130000_2.length co81, .slice Ao84 x130001_2.length co84] (0, 0) _ rfl (by (with_reducible repeat (first | refine yM ?_ _ | refine yO ?_ | refine yN ?_ _)); refine blk_put (cs := #[.slice Ao81 x130000_2.length co81, .slice none 0 0]) ?_ 1 _ rfl; (with_reducible repeat (first | refine yM ?_ _ | refine yO ?_ | refine yN ?_ _)); refine blk_put (cs := #[.slice none 0 0, .slice none 0 0]) ?_ 0 _ rfl; (with_reducible repeat (first | refine yM ?_ _ | refine yO ?_ | refine yN ?_ _)); exact BK126.out) Try.underlying26 rfl (by kernel_rfl)) rfl ?_
              exact ⟨_, _, by first | rfl | (simp <;> rfl) | (simp [*] <;> rfl), by (with_reducible repeat (first | apply yA | apply yB | apply yC)); exact zF (yF (p := ⟨gb126, 1, none⟩) (yF (p := ⟨gb126, 0, none⟩) (Kd.R_types HO_130000.out BK126.out (by decide)) (fun _ hk => hk.2) (.slice Ao81 x130000_2.length co81)) (fun _ hk => hk.2) (.slice Ao84 x130001_2.length co84)) (fun _ hk => hk.1), by (with_reducible repeat (first | apply yA | apply yB | apply yC)); exact zF (yF (p := ⟨gb126, 1, none⟩) (yF (p := ⟨gb126, 0, none⟩) (Kd.R_types HO_130001.out BK126.out (by decide)) (fun _ hk => hk.2) (.slice Ao81 x130000_2.length co81)) (fun _ hk => hk.2) (.slice Ao84 x130001_2.length co84)) (fun _ hk => hk.1), by repeat (first | (with_reducible first | exact HB.out | apply yQ | apply yL | apply yP | refine yE ?_ GE124.out | refine yE ?_ GE125.out | refine yE ?_ GE126.out | refine yE ?_ GE129.out) | exact HB.out)⟩

/-! ### impl_ValidBox: function 26 -/
mutual
def impl_ValidBox.j0 : Nat → Bool → List Int → List Int → Option (Bool)
  | 0, _, _, _ => none
  | k + 1, x17, x143000, x143001 => if x17 = true then (some false) else (impl_ValidBox.l0 k x143000 (x143000.length : Int) 0 x143000 x143001)
def impl_ValidBox.l0 : Nat → List Int → Int → Int → List Int → List Int → Option (Bool)
  | 0, _, _, _, _, _ => none
  | k + 1, x19, x20, x21, x143000, x143001 => if x21 < x20 then (if 0 ≤ x21 then (if x21 < (x19.length : Int) then (if (rd x19 x21) < 0 then (some false) else (if x21 < (x143001.length : Int) then (if (rd x19 x21) ≥ (rd x143001 x21) then (some false) else (if (rd x143001 x21) > 40 then (some false) else (impl_ValidBox.l0 k x19 x20 (wrap64 (x21 + 1)) x143000 x143001))) else (none))) else (none)) else (none)) else (some true)
end
def impl_ValidBox.f (k : Nat) (l0_0 : List Int) (l0_1 : List Int) : Option (Bool) := if (l0_0.length : Int) = (l0_1.length : Int) then (impl_ValidBox.j0 k (decide ((l0_0.length : Int) > 3)) l0_0 l0_1) else (impl_ValidBox.j0 k true l0_0 l0_1)
theorem impl_ValidBox.mono_l : ∀ k, (∀ y0 y1 y2, LeO (impl_ValidBox.j0 k y0 y1 y2) (impl_ValidBox.j0 (k + 1) y0 y1 y2)) ∧ (∀ y0 y1 y2 y3 y4, LeO (impl_ValidBox.l0 k y0 y1 y2 y3 y4) (impl_ValidBox.l0 (k + 1) y0 y1 y2 y3 y4))
  | 0 => ⟨fun _ _ _ r h => by simp [impl_ValidBox.j0] at h, fun _ _ _ _ _ r h => by simp [impl_ValidBox.l0] at h⟩
  | k + 1 => by
    obtain ⟨ih0, ih1⟩ := impl_ValidBox.mono_l k
    refine ⟨?_, ?_⟩
    · intro y0 y1 y2
      unfold impl_ValidBox.j0
      repeat' first
      | (with_reducible exact ih0 _ _ _)
      | (with_reducible exact ih1 _ _ _ _ _)
      | (with_reducible exact LeO.refl _)
      | (with_reducible exact LeO.none _)
      | (with_reducible refine LeO.ite ?_ ?_)
      | (with_reducible refine LeO.bind ?_ (fun _ => ?_))
      | exact ih0 _ _ _
      | exact ih1 _ _ _ _ _
      | exact LeO.none _
      | refine LeO.ite ?_ ?_
      | refine LeO.bind ?_ (fun _ => ?_)
    · intro y0 y1 y2 y3 y4
      unfold impl_ValidBox.l0
      repeat' first
      | (with_reducible exact ih0 _ _ _)
      | (with_reducible exact ih1 _ _ _ _ _)
      | (with_reducible exact LeO.refl _)
      | (with_reducible exact LeO.none _)
      | (with_reducible refine LeO.ite ?_ ?_)
      | (with_reducible refine LeO.bind ?_ (fun _ => ?_))
      | exact ih0 _ _ _
      | exact ih1 _ _ _ _ _
      | exact LeO.none _
      | refine LeO.ite ?_ ?_
      | refine LeO.bind ?_ (fun _ => ?_)
theorem impl_ValidBox.mono : ∀ a0 a1 k, LeO (impl_ValidBox.f k a0 a1) (impl_ValidBox.f (k + 1) a0 a1) := by
  intro a0 a1 k
  obtain ⟨ih0, ih1⟩ := impl_ValidBox.mono_l k
  unfold impl_ValidBox.f
  repeat' first
      | (with_reducible exact ih0 _ _ _)
      | (with_reducible exact ih1 _ _ _ _ _)
      | (with_reducible exact LeO.refl _)
      | (with_reducible exact LeO.none _)
      | (with_reducible refine LeO.ite ?_ ?_)
      | (with_reducible refine LeO.bind ?_ (fun _ => ?_))
      | exact ih0 _ _ _
      | exact ih1 _ _ _ _ _
      | exact LeO.none _
      | refine LeO.ite ?_ ?_
      | refine LeO.bind ?_ (fun _ => ?_)
set_option maxHeartbeats 8000000 in
set_option maxRecDepth 100000 in
theorem impl_ValidBox.calls (k : Nat) (A0_0 : Option Addr) (c0_0 : Nat) (l0_0 : List Int) (A0_1 : Option Addr) (c0_1 : Nat) (l0_1 : List Int) (r : Bool) (w : World) (hr0_0 : Kd.C (Kd.int .i64) w A0_0 l0_0.length l0_0) (hc0_0 : l0_0.length ≤ c0_0) (hr0_1 : Kd.C (Kd.int .i64) w A0_1 l0_1.length l0_1) (hc0_1 : l0_1.length ≤ c0_1) (h : impl_ValidBox.f k l0_0 l0_1 = some r) :
    Calls Try.prog 26 #[.agg #[.slice A0_0 l0_0.length c0_0, .slice A0_1 l0_1.length c0_1]] w fun e w' => e = .returned (.bool r) ∧ Below w.heap.size w w' := by
  have hu26 := Try.underlying26
  have HR0_0 := yD hr0_0
  have HC0_0 := yD hc0_0
  clear hr0_0 hc0_0
  have HR0_1 := yD hr0_1
  have HC0_1 := yD hc0_1
  clear hr0_1 hc0_1
  have HB := yD (Below.refl w.heap.size w)
  have H : (if (l0_0.length : Int) = (l0_1.length : Int) then (impl_ValidBox.j0 k (decide ((l0_0.length : Int) > 3)) l0_0 l0_1) else (impl_ValidBox.j0 k true l0_0 l0_1)) = some r := h
  clear h
  have HC2 := yD H
  clear H; go_enter Try.func26, Try.ntmps26
  go_upto_region 1 with (first | ((with_reducible refine gate_dst (N := 1) rfl ?_); (try (refine gate_guard (by rfl) ?_; dsimp only)); refine box_event ?hg (N := 1) ?hd (cs := #[.slice A0_0 l0_0.length c0_0, .slice A0_1 l0_1.length c0_1]) (t := 26) ?hr ?_; (case hd => rfl); (case hg => rfl); (case hr => first | (go_simp; done) | (go_simp; rfl)); intro gb142 hg w3 hbox hb; have n0_ := yD (zC (kB HB) hb); have n1_ := yD (hbox); have n2_ := yD ((by rw [hg]; exact (below_size (kB HB)) : w.heap.size ≤ gb142)); have n3_ := yD ((by rw [hg]; exact (below_size (kB HB)) : w.heap.size ≤ gb142)); clear HB; have HB := n0_; have BK142 := n1_; have GW142 := n2_; have GE142 := n3_; clear n0_ n1_ n2_ n3_; clear hb hbox hg))
  (try simp only [Act.put, zH, zI, zJ])
  go_cut [17] (fun v17 wc => ∃ (kq : Nat) (x17_1 : Bool), v17 = .bool x17_1 ∧ Aside0 (impl_ValidBox.j0 kq x17_1 l0_0 l0_1 = some r) ∧ Aside0 (kq ≤ k) ∧ Aside0 (wc.heap[gb142]? = some (.cells #[(.slice A0_0 l0_0.length c0_0), (.slice A0_1 l0_1.length c0_1)] 26 (0, 0))) ∧ Aside0 (Below w.heap.size w wc))
  case first =>
    have H := HC2.out; clear HC2
    by_cases c4 : (l0_0.length : Int) = (l0_1.length : Int)
    · rw [if_pos c4] at H
      have c4b0 : ((l0_0.length : Int) == (l0_1.length : Int)) = true := beq_iff_eq.mpr c4
      have c4b1 : ((l0_0.length : Int) != (l0_1.length : Int)) = false := bne_eq_false_iff_eq.mpr c4
      have c4b2 : (l0_0.length == l0_1.length) = true := by first | simpa using c4 | (simp at c4 ⊢; omega)
      clear c4
      (first | rw [c4b0] | (simp only [i64_w, i32_w]; rw [c4b0]) | (simp only [bne] at c4b0; rw [c4b0]) | skip)
      have H' := yD H
      clear H
      obtain ⟨hcz5_0, hcz5_1⟩ := cz2 BK142.out
      obtain ⟨hfz5_0, hfz5_1⟩ := fz2 BK142.out
      go_wp2
      go_meet
      case rel => exact ⟨_, (decide ((l0_0.length : Int) > 3)), (by first | rfl | (simp; done) | (simp [*]; done)), H', ⟨by first | omega | exact Nat.le_refl _⟩, ⟨by (with_reducible repeat (first | refine yM ?_ _ | refine yO ?_ | refine yN ?_ _)); exact BK142.out⟩, ⟨by repeat (first | (with_reducible first | exact HB.out | apply yQ | apply yL | apply yP | refine yE ?_ GE142.out) | exact HB.out)⟩⟩
    · rw [if_neg c4] at H
      have c4b0 : ((l0_0.length : Int) == (l0_1.length : Int)) = false := beq_eq_false_iff_ne.mpr c4
      have c4b1 : ((l0_0.length : Int) != (l0_1.length : Int)) = true := bne_iff_ne.mpr c4
      have c4b2 : (l0_0.length == l0_1.length) = false := by first | simpa using c4 | (simp at c4 ⊢; omega)
      (first | rw [c4b0] | (simp only [i64_w, i32_w]; rw [c4b0]) | (simp only [bne] at c4b0; rw [c4b0]) | skip)
      have H' := yD H
      clear H
      obtain ⟨hcz6_0, hcz6_1⟩ := cz2 BK142.out
      obtain ⟨hfz6_0, hfz6_1⟩ := fz2 BK142.out
      go_wp2
      go_meet
      case rel => exact ⟨_, (true), (by first | rfl | (simp; done) | (simp [*]; done)), H', ⟨by first | omega | exact Nat.le_refl _⟩, ⟨by (with_reducible repeat (first | refine yM ?_ _ | refine yO ?_ | refine yN ?_ _)); exact BK142.out⟩, ⟨by repeat (first | (with_reducible first | exact HB.out | apply yQ | apply yL | apply yP | refine yE ?_ GE142.out) | exact HB.out)⟩⟩
  case rest =>
    clear HC2; try clear c2; try clear p2; try clear c4; try clear c4b0; try clear c4b1; try clear c4b2; try clear hcz5_0; try clear hcz5_1; try clear hcz6_0; try clear hcz6_1; try clear hfz5_0; try clear hfz5_1; try clear hfz6_0; try clear hfz6_1
    obtain ⟨kq, x17_1, rfl, HA, HJ1, BK142, HB⟩ := hcut
    cases kq with
    | zero => exact absurd HA.out (by simp [impl_ValidBox.j0])
    | succ kj1 =>
      have H := HA.out; clear HA
      simp only [impl_ValidBox.j0] at H
      by_cases c7 : x17_1 = true
      · subst c7
        have H1 : (some false) = some r := by rw [if_pos rfl] at H; exact H
        clear H; have H := H1; clear H1; obtain rfl := Option.some.inj H
        go_wp2
        go_ret
        exact ⟨by first | rfl | (simp <;> rfl) | (simp [*] <;> rfl), by repeat (first | (with_reducible first | exact HB.out | apply yQ | apply yL | apply yP | refine yE ?_ GE142.out) | exact HB.out)⟩
      · replace c7 := Bool.eq_false_iff.mpr c7
        subst c7
        have H1 : (impl_ValidBox.l0 kj1 l0_0 (l0_0.length : Int) 0 l0_0 l0_1) = some r := by rw [if_neg (show ¬ (false = true) by decide)] at H; exact H
        clear H; have H := H1; clear H1
        have H' := yD H
        clear H
        obtain ⟨hcz8_0, hcz8_1⟩ := cz2 BK142.out
        obtain ⟨hfz8_0, hfz8_1⟩ := fz2 BK142.out
        go_wp2
        go_loopg [21] kj1 (fun kq v21 w' => ∃ (x21_2 : Int), v21 = .int .i64 x21_2 ∧ Aside0 (impl_ValidBox.l0 kq l0_0 (l0_0.length : Int) x21_2 l0_0 l0_1 = some r) ∧ Aside0 (kq ≤ kj1) ∧ Aside0 (w'.heap[gb142]? = some (.cells #[(.slice A0_0 l0_0.length c0_0), (.slice A0_1 l0_1.length c0_1)] 26 (0, 0))) ∧ Aside0 (Below w.heap.size w w'))
        case atStart => exact ⟨(0), (by first | rfl | (simp; done) | (simp [*]; done)), H', ⟨Nat.le_refl _⟩, ⟨by (with_reducible repeat (first | refine yM ?_ _ | refine yO ?_ | refine yN ?_ _)); exact BK142.out⟩, ⟨by repeat (first | (with_reducible first | exact HB.out | apply yQ | apply yL | apply yP | refine yE ?_ GE142.out) | exact HB.out)⟩⟩
        case round =>
          clear H'
          try clear c2; try clear p2; try clear c4; try clear c4b0; try clear c4b1; try clear c4b2; try clear c7; try clear hcz5_0; try clear hcz5_1; try clear hcz6_0; try clear hcz6_1; try clear hcz8_0; try clear hcz8_1; try clear hfz5_0; try clear hfz5_1; try clear hfz6_0; try clear hfz6_1; try clear hfz8_0; try clear hfz8_1; try clear p2
          obtain ⟨x21_2, rfl, HA, HK2, BK142, HB⟩ := hrel
          cases gk with
          | zero => exact absurd HA.out (by simp [impl_ValidBox.l0])
          | succ k2 =>
            have H := HA.out; clear HA
            simp only [impl_ValidBox.l0] at H
            by_cases c9 : x21_2 < (l0_0.length : Int)
            · rw [if_pos c9] at H
              have c9b0 : decide (x21_2 < (l0_0.length : Int)) = true := zR c9; clear c9
              by_cases c10 : 0 ≤ x21_2
              · rw [if_pos c10] at H
                have c10b0 : decide (0 ≤ x21_2) = true := zR c10; clear c10
                by_cases c11 : x21_2 < (l0_0.length : Int)
                · rw [if_pos c11] at H
                  have c11b0 : decide (x21_2 < (l0_0.length : Int)) = true := zR c11; clear c11
                  by_cases c12 : (rd l0_0 x21_2) < 0
                  · rw [if_pos c12] at H
                    have c12b0 : decide ((rd l0_0 x21_2) < 0) = true := zR c12; clear c12; obtain rfl := Option.some.inj H
                    have p143 : 0 ≤ (x21_2 : Int) := zP (by assumption)
                    have q143 : x21_2 < (l0_0.length : Int) := zP (by assumption)
                    obtain ⟨ad143, e143, hx143_0⟩ := Kd.at_int HR0_0.out x21_2 p143 q143
                    cases e143
                    replace hx143_0 := (HB.out.cell (zQ w _ hx143_0)).trans hx143_0
                    replace p143 := eq_true p143; replace q143 := eq_true q143
                    go_wp2
                    go_ret
                    exact ⟨by first | rfl | (simp <;> rfl) | (simp [*] <;> rfl), by repeat (first | (with_reducible first | exact HB.out | apply yQ | apply yL | apply yP | refine yE ?_ GE142.out) | exact HB.out)⟩
                  · rw [if_neg c12] at H
                    have c12b0 : decide ((rd l0_0 x21_2) < 0) = false := zS c12; clear c12
                    by_cases c13 : x21_2 < (l0_1.length : Int)
                    · rw [if_pos c13] at H
                      have c13b0 : decide (x21_2 < (l0_1.length : Int)) = true := zR c13; clear c13
                      by_cases c14 : (rd l0_0 x21_2) ≥ (rd l0_1 x21_2)
                      · rw [if_pos c14] at H
                        have c14b0 : decide ((rd l0_1 x21_2) ≤ (rd l0_0 x21_2)) = true := zR c14; clear c14; obtain rfl := Option.some.inj H
                        have p143 : 0 ≤ (x21_2 : Int) := zP (by assumption)
                        have q143 : x21_2 < (l0_0.length : Int) := zP (by assumption)
                        obtain ⟨ad143, e143, hx143_0⟩ := Kd.at_int HR0_0.out x21_2 p143 q143
                        cases e143
                        replace hx143_0 := (HB.out.cell (zQ w _ hx143_0)).trans hx143_0
                        replace p143 := eq_true p143; replace q143 := eq_true q143
                        obtain ⟨hcz15_0, hcz15_1⟩ := cz2 BK142.out
                        obtain ⟨hfz15_0, hfz15_1⟩ := fz2 BK142.out
                        have p144 : 0 ≤ (x21_2 : Int) := zP (by assumption)
                        have q144 : x21_2 < (l0_1.length : Int) := zP (by assumption)
                        obtain ⟨ad144, e144, hx144_0⟩ := Kd.at_int HR0_1.out x21_2 p144 q144
                        cases e144
                        replace hx144_0 := (HB.out.cell (zQ w _ hx144_0)).trans hx144_0
                        replace p144 := eq_true p144; replace q144 := eq_true q144
                        go_wp2
                        go_ret
                        exact ⟨by first | rfl | (simp <;> rfl) | (simp [*] <;> rfl), by repeat (first | (with_reducible first | exact HB.out | apply yQ | apply yL | apply yP | refine yE ?_ GE142.out) | exact HB.out)⟩
                      · rw [if_neg c14] at H
                        have c14b0 : decide ((rd l0_1 x21_2) ≤ (rd l0_0 x21_2)) = false := zS c14; clear c14
                        by_cases c16 : (rd l0_1 x21_2) > 40
                        · rw [if_pos c16] at H
                          have c16b0 : decide (40 < (rd l0_1 x21_2)) = true := zR c16; clear c16; obtain rfl := Option.some.inj H
                          have p143 : 0 ≤ (x21_2 : Int) := zP (by assumption)
                          have q143 : x21_2 < (l0_0.length : Int) := zP (by assumption)
                          obtain ⟨ad143, e143, hx143_0⟩ := Kd.at_int HR0_0.out x21_2 p143 q143
                          cases e143
                          replace hx143_0 := (HB.out.cell (zQ w _ hx143_0)).trans hx143_0
                          replace p143 := eq_true p143; replace q143 := eq_true q143
                          obtain ⟨hcz17_0, hcz17_1⟩ := cz2 BK142.out
                          obtain ⟨hfz17_0, hfz17_1⟩ := fz2 BK142.out
                          have p144 : 0 ≤ (x21_2 : Int) := zP (by assumption)
                          have q144 : x21_2 < (l0_1.length : Int) := zP (by assumption)
                          obtain ⟨ad144, e144, hx144_0⟩ := Kd.at_int HR0_1.out x21_2 p144 q144
                          cases e144
                          replace hx144_0 := (HB.out.cell (zQ w _ hx144_0)).trans hx144_0
                          replace p144 := eq_true p144; replace q144 := eq_true q144
                          have p145 : 0 ≤ (x21_2 : Int) := zP (by assumption)
                          have q145 : x21_2 < (l0_1.length : Int) := zP (by assumption)
                          obtain ⟨ad145, e145, hx145_0⟩ := Kd.at_int HR0_1.out x21_2 p145 q145
                          obtain rfl : ad144 = ad145 := (by injection e145)
                          replace hx145_0 := (HB.out.cell (zQ w _ hx145_0)).trans hx145_0
                          replace p145 := eq_true p145; replace q145 := eq_true q145
                          go_wp2
                          go_ret
                          exact ⟨by first | rfl | (simp <;> rfl) | (simp [*] <;> rfl), by repeat (first | (with_reducible first | exact HB.out | apply yQ | apply yL | apply yP | refine yE ?_ GE142.out) | exact HB.out)⟩
                        · rw [if_neg c16] at H
                          have c16b0 : decide (40 < (rd l0_1 x21_2)) = false := zS c16; clear c16
                          have H' := yD H
                          clear H
                          have p143 : 0 ≤ (x21_2 : Int) := zP (by assumption)
                          have q143 : x21_2 < (l0_0.length : Int) := zP (by assumption)
                          obtain ⟨ad143, e143, hx143_0⟩ := Kd.at_int HR0_0.out x21_2 p143 q143
                          cases e143
                          replace hx143_0 := (HB.out.cell (zQ w _ hx143_0)).trans hx143_0
                          replace p143 := eq_true p143; replace q143 := eq_true q143
                          obtain ⟨hcz18_0, hcz18_1⟩ := cz2 BK142.out
                          obtain ⟨hfz18_0, hfz18_1⟩ := fz2 BK142.out
                          have p144 : 0 ≤ (x21_2 : Int) := zP (by assumption)
                          have q144 : x21_2 < (l0_1.length : Int) := zP (by assumption)
                          obtain ⟨ad144, e144, hx144_0⟩ := Kd.at_int HR0_1.out x21_2 p144 q144
                          cases e144
                          replace hx144_0 := (HB.out.cell (zQ w _ hx144_0)).trans hx144_0
                          replace p144 := eq_true p144; replace q144 := eq_true q144
                          have p145 : 0 ≤ (x21_2 : Int) := zP (by assumption)
                          have q145 : x21_2 < (l0_1.length : Int) := zP (by assumption)
                          obtain ⟨ad145, e145, hx145_0⟩ := Kd.at_int HR0_1.out x21_2 p145 q145
                          obtain rfl : ad144 = ad145 := (by injection e145)
                          replace hx145_0 := (HB.out.cell (zQ w _ hx145_0)).trans hx145_0
                          replace p145 := eq_true p145; replace q145 := eq_true q145
                          go_wp2
                          go_roundg k2
                          case measure => have := HJ1.out; have := HK2.out; omega
                          case rel => exact ⟨(wrap64 (x21_2 + 1)), (by first | rfl | (simp; done) | (simp [*]; done)), H', ⟨by have := HJ1.out; have := HK2.out; omega⟩, ⟨by (with_reducible repeat (first | refine yM ?_ _ | refine yO ?_ | refine yN ?_ _)); exact BK142.out⟩, ⟨by repeat (first | (with_reducible first | exact HB.out | apply yQ | apply yL | apply yP | refine yE ?_ GE142.out) | exact HB.out)⟩⟩
                    · rw [if_neg c13] at H
                      exact absurd H (by simp)
                · rw [if_neg c11] at H
                  exact absurd H (by simp)
              · rw [if_neg c10] at H
                exact absurd H (by simp)
            · rw [if_neg c9] at H
              have c9b0 : decide (x21_2 < (l0_0.length : Int)) = false := zS c9; clear c9; obtain rfl := Option.some.inj H
              go_wp2
              go_ret
              exact ⟨by first | rfl | (simp <;> rfl) | (simp [*] <;> rfl), by repeat (first | (with_reducible first | exact HB.out | apply yQ | apply yL | apply yP | refine yE ?_ GE142.out) | exact HB.out)⟩

end Go.Proofs.Ytlfjepcmlgfogaa.PFnExactCutBox
