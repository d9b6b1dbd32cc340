/- Each Go function here comes to what the plain function of its name says, where that says something. Made by a program of this session, over the print. -/
import Derived.Test.YtgpkkplabnliiaaPFnRangesx0
import Derived.Test.YtgpkkplabnliiaaPFnRangesx3
namespace Go.Proofs.Ytgpkkplabnliiaa.PFnRanges
open Go.RowKit Go.Proofs.YtgpkkplabnliiaaW.PrintWords Go.Proofs.YtgpkkplabnliiaaW.PrintLast Go.Proofs.YtgpkkplabnliiaaW.PrintMore
attribute [local go_sem] max2_int min2_int max_two min_two max_three min_three max_four min_four   -- for this text's walks alone
set_option linter.unusedVariables false
set_option linter.unusedSimpArgs false

/-! ### spec_l06Range: function 31 -/
def spec_l06Range.l0 : Nat → List Int → List Int → Int → Int → List Int → List Int → List Int → List Int → Option (Int × List Int × List Int × List Int × List Int × (List (S97)))
 | 0, _, _, _, _, _, _, _, _ => none
 | k + 1, x0, x1, x6, x253000, x253001, x253002, x253003, x253004 => if x6 < (x0.length : Int) then (if x6 < (x1.length : Int) then (if 0 ≤ x6 then (if x253002.length < 17592186044416 then (if x253003.length < 17592186044416 then (if x253004.length < 17592186044416 then (spec_l06Range.l0 k x0 x1 (wrap64 (x6 + 1)) x253000 x253001 (x253002 ++ [wrap64 ((rd x1 x6) - (rd x0 x6))]) (x253003 ++ [1]) (x253004 ++ [wrap64 ((rd x1 x6) - (rd x0 x6))])) else (none)) else (none)) else (none)) else (none)) else (some (x253000, x253001, x253002, x253003, x253004, ([] : List (S97))))) else (some (x253000, x253001, x253002, x253003, x253004, ([] : List (S97))))
def spec_l06Range.f (k : Nat) (l0 : List Int) (l1 : List Int) : Option (Int × List Int × List Int × List Int × List Int × (List (S97))) := (spec_l00Own.f l0).bind fun t249 => (spec_l06Range.l0 k l0 l1 0 3 t249 ([] : List Int) ([] : List Int) ([] : List Int))
theorem spec_l06Range.mono_l : ∀ k, (∀ y0 y1 y2 y3 y4 y5 y6 y7, LeO (spec_l06Range.l0 k y0 y1 y2 y3 y4 y5 y6 y7) (spec_l06Range.l0 (k + 1) y0 y1 y2 y3 y4 y5 y6 y7))
 | 0 => fun _ _ _ _ _ _ _ _ r h => by simp [spec_l06Range.l0] at h
 | k + 1 => by
  have ih0 := spec_l06Range.mono_l k
  ·
   intro y0 y1 y2 y3 y4 y5 y6 y7
   unfold spec_l06Range.l0
   repeat' first
   | (with_reducible exact ih0 _ _ _ _ _ _ _ _)
   | (with_reducible exact LeO.refl _)
   | (with_reducible exact LeO.none _)
   | (with_reducible refine LeO.ite ?_ ?_)
   | (with_reducible refine LeO.bind ?_ (fun _ => ?_))
   | exact ih0 _ _ _ _ _ _ _ _
   | exact LeO.none _
   | refine LeO.ite ?_ ?_
   | refine LeO.bind ?_ (fun _ => ?_)
theorem spec_l06Range.mono : ∀ a0 a1 k, LeO (spec_l06Range.f k a0 a1) (spec_l06Range.f (k + 1) a0 a1) := by
 intro a0 a1 k
 have ih0 := spec_l06Range.mono_l k
 unfold spec_l06Range.f
 repeat' first
  | (with_reducible exact ih0 _ _ _ _ _ _ _ _)
  | (with_reducible exact LeO.refl _)
  | (with_reducible exact LeO.none _)
  | (with_reducible refine LeO.ite ?_ ?_)
  | (with_reducible refine LeO.bind ?_ (fun _ => ?_))
  | exact ih0 _ _ _ _ _ _ _ _
  | exact LeO.none _
  | refine LeO.ite ?_ ?_
  | refine LeO.bind ?_ (fun _ => ?_)
def spec_l06Range.T5 : Bool × List (List Nat × List Nat) := (true, [([], []), ([0], [0]), ([], []), ([], []), ([2, 3], [2, 3]), ([4], [4]), ([], []), ([], []), ([6, 7], [6, 7]), ([8], [8]), ([5, 9], [5, 9]), ([10], [10]), ([1, 11], [1, 11]), ([0, 1, 2, 3, 4, 5, 6, 7, 8, 9, 10, 11, 12], []), ([13, 12, 12, 0, 1, 2, 3, 4, 5, 6, 7, 8, 9, 10, 11, 12], [12, 13])])
def spec_l06Range.B5 : List Nat := [0, 1, 0, 0, 12, 28, 0, 0, 192, 448, 1020, 2044, 4095, 8191, 16383]
theorem spec_l06Range.tab5 : rtab .any (opsOf Try.f31 5) = spec_l06Range.T5 := by kernel_rfl
theorem spec_l06Range.bits5 : waitsOk spec_l06Range.T5.2 spec_l06Range.B5 = true := by kernel_rfl
def spec_l06Range.T7 : Bool × List (List Nat × List Nat) := (true, [([], []), ([0], [0]), ([], []), ([], []), ([2, 3], [2, 3]), ([4], [4]), ([], []), ([], []), ([6, 7], [6, 7]), ([8], [8]), ([5, 9], [5, 9]), ([10], [10]), ([1, 11], [1, 11]), ([0, 1, 2, 3, 4, 5, 6, 7, 8, 9, 10, 11, 12], []), ([13, 12, 12, 0, 1, 2, 3, 4, 5, 6, 7, 8, 9, 10, 11, 12], [12, 13])])
def spec_l06Range.B7 : List Nat := [0, 1, 0, 0, 12, 28, 0, 0, 192, 448, 1020, 2044, 4095, 8191, 16383]
theorem spec_l06Range.tab7 : rtab .any (opsOf Try.f31 7) = spec_l06Range.T7 := by kernel_rfl
theorem spec_l06Range.bits7 : waitsOk spec_l06Range.T7.2 spec_l06Range.B7 = true := by kernel_rfl
set_option maxHeartbeats 8000000 in
set_option maxRecDepth 100000 in
theorem spec_l06Range.calls (k : Nat) (A0 : Option Addr) (c0 : Nat) (l0 : List Int) (A1 : Option Addr) (c1 : Nat) (l1 : List Int) (r1 : Int) (r2 : List Int) (r3 : List Int) (r4 : List Int) (r5 : List Int) (r6 : List (S97)) (w : World) (hr0 : Kd.C (Kd.int .i64) w A0 l0.length l0) (hc0 : l0.length ≤ c0) (hr1 : Kd.C (Kd.int .i64) w A1 l1.length l1) (hc1 : l1.length ≤ c1) (h : spec_l06Range.f k l0 l1 = some (r1, r2, r3, r4, r5, r6)) :
 Calls Try.prog 31 #[.slice A0 l0.length c0, .slice A1 l1.length c1] w fun e w' => ∃ v1_ v2_ v3_ v4_ v5_ : Value, e = .returned (.agg #[.int .i64 r1, v1_, v2_, v3_, v4_, v5_]) ∧ Kd.R (Kd.int .i64) 2 w' w.heap.size (fun k_ => some k_ ≠ (v2_ : Value).ownBlock ∧ some k_ ≠ (v3_ : Value).ownBlock ∧ some k_ ≠ (v4_ : Value).ownBlock) v1_ r2 ∧ Kd.R (Kd.int .i64) 2 w' w.heap.size (fun k_ => some k_ ≠ (v1_ : Value).ownBlock ∧ some k_ ≠ (v3_ : Value).ownBlock ∧ some k_ ≠ (v4_ : Value).ownBlock) v2_ r3 ∧ Kd.R (Kd.int .i64) 2 w' w.heap.size (fun k_ => some k_ ≠ (v1_ : Value).ownBlock ∧ some k_ ≠ (v2_ : Value).ownBlock ∧ some k_ ≠ (v4_ : Value).ownBlock) v3_ r4 ∧ Kd.R (Kd.int .i64) 2 w' w.heap.size (fun k_ => some k_ ≠ (v1_ : Value).ownBlock ∧ some k_ ≠ (v2_ : Value).ownBlock ∧ some k_ ≠ (v3_ : Value).ownBlock) v4_ r5 ∧ Kd.S k97 97 w' w.heap.size (fun k_ => some k_ ≠ (v1_ : Value).ownBlock ∧ some k_ ≠ (v2_ : Value).ownBlock ∧ some k_ ≠ (v3_ : Value).ownBlock ∧ some k_ ≠ (v4_ : Value).ownBlock) v5_ r6 ∧ Below w.heap.size w w' := by
 have hu28 := Try.underlying28
 have HR0 := yD hr0
 have HC0 := yD hc0
 clear hr0 hc0
 have HR1 := yD hr1
 have HC1 := yD hc1
 clear hr1 hc1
 have HB := yD (Below.refl w.heap.size w)
 have H : ((spec_l00Own.f l0).bind fun t249 => (spec_l06Range.l0 k l0 l1 0 3 t249 ([] : List Int) ([] : List Int) ([] : List Int))) = some (r1, r2, r3, r4, r5, r6) := h
 clear h
 obtain ⟨t249, A30, H⟩ := zW_ H
 replace H : (spec_l06Range.l0 k l0 l1 0 3 t249 ([] : List Int) ([] : List Int) ([] : List Int)) = some (r1, r2, r3, r4, r5, r6) := H
 have A3 := yD A30
 clear A30
 have H' := yD H
 clear H; go_enter Try.func31, Try.ntmps31
 go_wp2_with (first | ((with_reducible refine gate_dst (N := 4) rfl ?_); (try (refine gate_guard (by rfl) ?_; dsimp only)); refine box_event ?hg (N := 4) ?hd (cs := #[.int .i64 0, .slice none 0 0, .slice none 0 0, .slice none 0 0, .slice none 0 0, .slice none 0 0]) (t := 28) ?hr ?_; (case hd => rfl); (case hg => rfl); (case hr => first | (go_simp; done) | (go_simp; rfl)); intro gb248 hg w4 hbox hb; have n0_ := yD (zC (kB HB) hb); have n1_ := yD (hbox); have n2_ := yD ((by rw [hg]; exact (below_size (kB HB)) : w.heap.size ≤ gb248)); have n3_ := yD ((by rw [hg]; exact (below_size (kB HB)) : w.heap.size ≤ gb248)); clear HB; have HB := n0_; have BK248 := n1_; have GW248 := n2_; have GE248 := n3_; clear n0_ n1_ n2_ n3_; clear hb hbox hg) | ((with_reducible refine gate_callee (f := 63) rfl ?_); refine goesL_ (some 8) rfl rfl Try.func63 (by kernel_rfl) rfl #[.slice A0 l0.length c0] rfl (by (try simp only [zK, zL, zM]); first | done | rfl | (simp only [zN, zO]; rfl)) ?_; (with_reducible refine (spec_l00Own.calls _ _ l0 t249 _ ?side1 ?side2 A3.out).mono ?_); (case side1 => exact kV (yY HR0.out HB.out)); (case side2 => exact HC0.out); rintro e w5 ⟨v250, rfl, ho0, hb⟩; refine ⟨_, rfl, ?_⟩; have n0_ := yD (yZ ho0 (below_size (kB HB))); have n1_ := yD (zB (g := gb248) (o := .cells #[.int .i64 0, .slice none 0 0, .slice none 0 0, .slice none 0 0, .slice none 0 0, .slice none 0 0] 28 (0, 0)) (kM BK248) hb); have n2_ := yD (zC (kB HB) hb); clear BK248; clear HB; have HO251 := n0_; have BK248 := n1_; have HB := n2_; clear n0_ n1_ n2_; (try clear hb); (try clear hb2); (try clear hk); (try clear hi); (try clear ho0); obtain ⟨Ao6, co6, eo6⟩ := Kd.R_slice HO251.out; subst eo6) | ((with_reducible refine gate_dst (N := 5) rfl ?_); (try (refine gate_guard (by rfl) ?_; dsimp only)); refine box_event ?hg (N := 5) ?hd (cs := #[.int .i64 0, .slice none 0 0, .slice none 0 0, .slice none 0 0, .slice none 0 0, .slice none 0 0]) (t := 28) ?hr ?_; (case hd => rfl); (case hg => rfl); (case hr => first | (go_simp; done) | (go_simp; rfl)); intro gb252 hg w7 hbox hb; have n0_ := yD (zE (kA HO251) hb); have n1_ := yD (zB (g := gb248) (o := .cells #[.int .i64 0, .slice none 0 0, .slice none 0 0, .slice none 0 0, .slice none 0 0, .slice none 0 0] 28 (0, 0)) (kM BK248) hb); have n2_ := yD (zC (kB HB) hb); have n3_ := yD (hbox); have n4_ := yD ((by rw [hg]; exact (below_size (kB HB)) : w.heap.size ≤ gb252)); have n5_ := yD ((by rw [hg]; exact (below_size (kB HB)) : w.heap.size ≤ gb252)); have n6_ := yD ((by rw [hg]; exact Nat.ne_of_lt (blk_lt (g := gb248) (o := .cells #[.int .i64 0, .slice none 0 0, .slice none 0 0, .slice none 0 0, .slice none 0 0, .slice none 0 0] 28 (0, 0)) (kM BK248)) : gb248 ≠ gb252)); have n7_ := yD ((by rw [hg]; exact Nat.ne_of_gt (blk_lt (g := gb248) (o := .cells #[.int .i64 0, .slice none 0 0, .slice none 0 0, .slice none 0 0, .slice none 0 0, .slice none 0 0] 28 (0, 0)) (kM BK248)) : gb252 ≠ gb248)); clear HO251; clear BK248; clear HB; have HO251 := n0_; have BK248 := n1_; have HB := n2_; have BK252 := n3_; have GW252 := n4_; have GE252 := n5_; have NB248_252 := n6_; have NB252_248 := n7_; clear n0_ n1_ n2_ n3_ n4_ n5_ n6_ n7_; clear hb hbox hg; have hnb8 := NB252_248.out; have hnc8 := NB248_252.out; obtain ⟨hcz9_0, hcz9_1, hcz9_2, hcz9_3, hcz9_4, hcz9_5⟩ := cz6 BK252.out; obtain ⟨hfz9_0, hfz9_1, hfz9_2, hfz9_3, hfz9_4, hfz9_5⟩ := fz6 BK252.out))
 go_loopg [6] k (fun kq v6 w' => ∃ (x6_1 : Int) (x253002_1 : List Int) (x253003_1 : List Int) (x253004_1 : List Int) (u253002 : Value) (u253003 : Value) (u253004 : Value), v6 = .int .i64 x6_1 ∧ Aside0 (spec_l06Range.l0 kq l0 l1 x6_1 3 t249 x253002_1 x253003_1 x253004_1 = some (r1, r2, r3, r4, r5, r6)) ∧ Aside0 (kq ≤ k) ∧ Aside0 (Kd.R (Kd.int .i64) 2 w' w.heap.size (fun k_ => some k_ ≠ (u253002 : Value).ownBlock ∧ some k_ ≠ (u253003 : Value).ownBlock ∧ some k_ ≠ (u253004 : Value).ownBlock) (.slice Ao6 t249.length co6) t249) ∧ Aside0 (Kd.R (Kd.int .i64) 2 w' w.heap.size (fun k_ => some k_ ≠ ((.slice Ao6 t249.length co6) : Value).ownBlock ∧ some k_ ≠ (u253003 : Value).ownBlock ∧ some k_ ≠ (u253004 : Value).ownBlock) u253002 x253002_1) ∧ Aside0 (Kd.R (Kd.int .i64) 2 w' w.heap.size (fun k_ => some k_ ≠ ((.slice Ao6 t249.length co6) : Value).ownBlock ∧ some k_ ≠ (u253002 : Value).ownBlock ∧ some k_ ≠ (u253004 : Value).ownBlock) u253003 x253003_1) ∧ Aside0 (Kd.R (Kd.int .i64) 2 w' w.heap.size (fun k_ => some k_ ≠ ((.slice Ao6 t249.length co6) : Value).ownBlock ∧ some k_ ≠ (u253002 : Value).ownBlock ∧ some k_ ≠ (u253003 : Value).ownBlock) u253004 x253004_1) ∧ Aside0 (w'.heap[gb248]? = some (.cells #[.int .i64 0, (.slice none 0 0), (.slice none 0 0), (.slice none 0 0), (.slice none 0 0), (.slice none 0 0)] 28 (0, 0))) ∧ Aside0 (w'.heap[gb252]? = some (.cells #[.int .i64 3, (.slice Ao6 t249.length co6), u253002, u253003, u253004, (.slice none 0 0)] 28 (0, 0))) ∧ Aside0 (Below w.heap.size w w'))
 case atStart => exact ⟨(0), (([] : List Int)), (([] : List Int)), (([] : List Int)), (.slice none 0 0), (.slice none 0 0), (.slice none 0 0), (by first | rfl | (simp; done) | (simp [*]; done)), H', ⟨Nat.le_refl _⟩, ⟨by (with_reducible repeat (first | apply yA | apply yB | apply yC)); exact zF (yF (p := ⟨gb252, 5, none⟩) (yF (p := ⟨gb252, 4, none⟩) (yF (p := ⟨gb252, 3, none⟩) (yF (p := ⟨gb252, 2, none⟩) (yF (p := ⟨gb252, 1, none⟩) (yF (p := ⟨gb252, 0, none⟩) (Kd.R_types HO251.out BK252.out (by decide)) (fun _ hk => hk.2) (.int .i64 3)) (fun _ hk => hk.2) (.slice Ao6 t249.length co6)) (fun _ hk => hk.2) (.slice none 0 0)) (fun _ hk => hk.2) (.slice none 0 0)) (fun _ hk => hk.2) (.slice none 0 0)) (fun _ hk => hk.2) (.slice none 0 0)) (fun _ hk => ⟨(by simp [Value.ownBlock]), ⟨(by simp [Value.ownBlock]), (by simp [Value.ownBlock])⟩⟩)⟩, ⟨by first | exact Kd.R_nil _ _ _ _ _ | exact Kd.N_nil _ _ _ _ _ | exact Kd.V_nil _ _ _ _ _ | exact Kd.Q_nil _ _ _ _ _ | exact Kd.S_nil _ _ _ _ _⟩, ⟨by first | exact Kd.R_nil _ _ _ _ _ | exact Kd.N_nil _ _ _ _ _ | exact Kd.V_nil _ _ _ _ _ | exact Kd.Q_nil _ _ _ _ _ | exact Kd.S_nil _ _ _ _ _⟩, ⟨by first | exact Kd.R_nil _ _ _ _ _ | exact Kd.N_nil _ _ _ _ _ | exact Kd.V_nil _ _ _ _ _ | exact Kd.Q_nil _ _ _ _ _ | exact Kd.S_nil _ _ _ _ _⟩, ⟨by (with_reducible repeat (first | refine yM ?_ _ | refine yO ?_ | refine yN ?_ _)); refine blk_far ?_ NB248_252.out _; (with_reducible repeat (first | refine yM ?_ _ | refine yO ?_ | refine yN ?_ _)); refine blk_far ?_ NB248_252.out _; (with_reducible repeat (first | refine yM ?_ _ | refine yO ?_ | refine yN ?_ _)); refine blk_far ?_ NB248_252.out _; (with_reducible repeat (first | refine yM ?_ _ | refine yO ?_ | refine yN ?_ _)); refine blk_far ?_ NB248_252.out _; (with_reducible repeat (first | refine yM ?_ _ | refine yO ?_ | refine yN ?_ _)); refine blk_far ?_ NB248_252.out _; (with_reducible repeat (first | refine yM ?_ _ | refine yO ?_ | refine yN ?_ _)); refine blk_far ?_ NB248_252.out _; (with_reducible repeat (first | refine yM ?_ _ | refine yO ?_ | refine yN ?_ _)); exact BK248.out⟩, ⟨by (with_reducible repeat (first | refine yM ?_ _ | refine yO ?_ | refine yN ?_ _)); refine blk_put (cs := #[.int .i64 3, .slice Ao6 t249.length co6, .slice none 0 0, .slice none 0 0, .slice none 0 0, .slice none 0 0]) ?_ 5 _ rfl; (with_reducible repeat (first | refine yM ?_ _ | refine yO ?_ | refine yN ?_ _)); refine blk_put (cs := #[.int .i64 3, .slice Ao6 t249.length co6, .slice none 0 0, .slice none 0 0, .slice none 0 0, .slice none 0 0]) ?_ 4 _ rfl; (with_reducible repeat (first | refine yM ?_ _ | refine yO ?_ | refine yN ?_ _)); refine blk_put (cs := #[.int .i64 3, .slice Ao6 t249.length co6, .slice none 0 0, .slice none 0 0, .slice none 0 0, .slice none 0 0]) ?_ 3 _ rfl; (with_reducible repeat (first | refine yM ?_ _ | refine yO ?_ | refine yN ?_ _)); refine blk_put (cs := #[.int .i64 3, .slice Ao6 t249.length co6, .slice none 0 0, .slice none 0 0, .slice none 0 0, .slice none 0 0]) ?_ 2 _ rfl; (with_reducible repeat (first | refine yM ?_ _ | refine yO ?_ | refine yN ?_ _)); refine blk_put (cs := #[.int .i64 3, .slice none 0 0, .slice none 0 0, .slice none 0 0, .slice none 0 0, .slice none 0 0]) ?_ 1 _ rfl; (with_reducible repeat (first | refine yM ?_ _ | refine yO ?_ | refine yN ?_ _)); refine blk_put (cs := #[.int .i64 0, .slice none 0 0, .slice none 0 0, .slice none 0 0, .slice none 0 0, .slice none 0 0]) ?_ 0 _ rfl; (with_reducible repeat (first | refine yM ?_ _ | refine yO ?_ | refine yN ?_ _)); exact BK252.out⟩, ⟨kR1 HB⟩⟩
 case round =>
  clear H'
  try clear c1; try clear p2; try clear c3; try clear c6; try clear c8; try clear hcz9_0; try clear hcz9_1; try clear hcz9_2; try clear hcz9_3; try clear hcz9_4; try clear hcz9_5; try clear hfz9_0; try clear hfz9_1; try clear hfz9_2; try clear hfz9_3; try clear hfz9_4; try clear hfz9_5
  obtain ⟨x6_1, x253002_1, x253003_1, x253004_1, u253002, u253003, u253004, rfl, HA, HK1, HO_253001, HO_253002, HO_253003, HO_253004, BK248, BK252, HB⟩ := hrel
  cases gk with
  | zero => exact absurd HA.out (by simp [spec_l06Range.l0])
  | succ k1 =>
   have H := HA.out; clear HA
   simp only [spec_l06Range.l0] at H
   by_cases c10 : x6_1 < (l0.length : Int)
   ·
    rw [if_pos c10] at H
    have c10b0 : decide (x6_1 < (l0.length : Int)) = true := zR c10; clear c10
    by_cases c11 : x6_1 < (l1.length : Int)
    ·
     rw [if_pos c11] at H
     have c11b0 : decide (x6_1 < (l1.length : Int)) = true := zR c11; clear c11
     by_cases c12 : 0 ≤ x6_1
     ·
      rw [if_pos c12] at H
      have c12b0 : decide (0 ≤ x6_1) = true := zR c12; clear c12
      by_cases c13 : x253002_1.length < 17592186044416
      ·
       rw [if_pos c13] at H
       have LMc13 := yD c13
       clear c13
       obtain ⟨y255, hy255⟩ : ∃ y_ : List Int, y_ = (x253002_1 ++ [wrap64 ((rd l1 x6_1) - (rd l0 x6_1))]) := ⟨_, rfl⟩
       replace H : (if x253003_1.length < 17592186044416 then (if x253004_1.length < 17592186044416 then (spec_l06Range.l0 k1 l0 l1 (wrap64 (x6_1 + 1)) 3 t249 y255 (x253003_1 ++ [1]) (x253004_1 ++ [wrap64 ((rd l1 x6_1) - (rd l0 x6_1))])) else (none)) else (none)) = some (r1, r2, r3, r4, r5, r6) := by first | (rw [hy255]; with_reducible exact H) | (have H2_ := (Option.bind_some _ _).symm.trans H; rw [hy255]; with_reducible exact H2_) | (have H2_ := (Option.bind_some _ _).symm.trans H; with_reducible exact H2_) | with_reducible exact H | (rw [hy255]; exact H) | exact H
       have Ny255 := yD hy255
       clear hy255
       by_cases c14 : x253003_1.length < 17592186044416
       ·
        rw [if_pos c14] at H
        have LMc14 := yD c14
        clear c14
        obtain ⟨y258, hy258⟩ : ∃ y_ : List Int, y_ = (x253003_1 ++ [1]) := ⟨_, rfl⟩
        replace H : (if x253004_1.length < 17592186044416 then (spec_l06Range.l0 k1 l0 l1 (wrap64 (x6_1 + 1)) 3 t249 y255 y258 (x253004_1 ++ [wrap64 ((rd l1 x6_1) - (rd l0 x6_1))])) else (none)) = some (r1, r2, r3, r4, r5, r6) := by first | (rw [hy258]; with_reducible exact H) | (have H2_ := (Option.bind_some _ _).symm.trans H; rw [hy258]; with_reducible exact H2_) | (have H2_ := (Option.bind_some _ _).symm.trans H; with_reducible exact H2_) | with_reducible exact H | (rw [hy258]; exact H) | exact H
        have Ny258 := yD hy258
        clear hy258
        by_cases c15 : x253004_1.length < 17592186044416
        ·
         rw [if_pos c15] at H
         have LMc15 := yD c15
         clear c15
         obtain ⟨y263, hy263⟩ : ∃ y_ : List Int, y_ = (x253004_1 ++ [wrap64 ((rd l1 x6_1) - (rd l0 x6_1))]) := ⟨_, rfl⟩
         replace H : (spec_l06Range.l0 k1 l0 l1 (wrap64 (x6_1 + 1)) 3 t249 y255 y258 y263) = some (r1, r2, r3, r4, r5, r6) := by first | (rw [hy263]; with_reducible exact H) | (have H2_ := (Option.bind_some _ _).symm.trans H; rw [hy263]; with_reducible exact H2_) | (have H2_ := (Option.bind_some _ _).symm.trans H; with_reducible exact H2_) | with_reducible exact H | (rw [hy263]; exact H) | exact H
         have Ny263 := yD hy263
         clear hy263
         have H' := yD H
         clear H
         try go_wp2
         have n0_ := yD (yC HO_253001.out)
         have n1_ := yD (yC HO_253002.out)
         have n2_ := yD (yC HO_253003.out)
         have n3_ := yD (yC HO_253004.out)
         have n4_ := yD (yO BK248.out)
         have n5_ := yD (yO BK252.out)
         have n6_ := yD (yP HB.out)
         clear HO_253001 HO_253002 HO_253003 HO_253004 BK248 BK252 HB; have HO_253001 := n0_; have HO_253002 := n1_; have HO_253003 := n2_; have HO_253004 := n3_; have BK248 := n4_; have BK252 := n5_; have HB := n6_; clear n0_ n1_ n2_ n3_ n4_ n5_ n6_
         have p253 : 0 ≤ (x6_1 : Int) := zP (by assumption)
         have q253 : x6_1 < (l1.length : Int) := zP (by assumption)
         obtain ⟨ad253, e253, hx253_0⟩ := Kd.at_int HR1.out x6_1 p253 q253
         have hw253_0 := hx253_0; cases e253
         replace hx253_0 := (HB.out.cell (zQ w _ hx253_0)).trans hx253_0
         replace p253 := eq_true p253; replace q253 := eq_true q253
         have p254 : 0 ≤ (x6_1 : Int) := zP (by assumption)
         have q254 : x6_1 < (l0.length : Int) := zP (by assumption)
         obtain ⟨ad254, e254, hx254_0⟩ := Kd.at_int HR0.out x6_1 p254 q254
         have hw254_0 := hx254_0; cases e254
         replace hx254_0 := (HB.out.cell (zQ w _ hx254_0)).trans hx254_0
         replace p254 := eq_true p254; replace q254 := eq_true q254
         refine start_ (n := 15) (S := fun w' => w'.cell? ⟨gb252, 0, none⟩ = some (.int .i64 3) ∧ w'.cell? ⟨gb252, 1, none⟩ = some (.slice Ao6 t249.length co6) ∧ w'.cell? ⟨gb252, 2, none⟩ = some (u253002) ∧ w'.cell? ⟨gb252, 3, none⟩ = some (u253003) ∧ w'.cell? ⟨gb252, 4, none⟩ = some (u253004) ∧ w'.cell? ⟨gb252, 5, none⟩ = some (.slice none 0 0) ∧ w'.cell? (ad253.add (x6_1).toNat) = some (.int .i64 (rd l1 x6_1)) ∧ w'.cell? (ad254.add (x6_1).toNat) = some (.int .i64 (rd l0 x6_1))) (ds := [14]) (bz 15 0) (by kernel_rfl) rfl rfl ⟨(yG BK252.out 0).trans rfl, (yG BK252.out 1).trans rfl, (yG BK252.out 2).trans rfl, (yG BK252.out 3).trans rfl, (yG BK252.out 4).trans rfl, (yG BK252.out 5).trans rfl, ((HB.out.cell (zQ w _ hw253_0)).trans hw253_0), ((HB.out.cell (zQ w _ hw254_0)).trans hw254_0)⟩ (fun hHeld => ?_); refine with_tabW spec_l06Range.tab5 spec_l06Range.bits5 (fun HT_ HW_ => ?_)
         generalize wr.drew = w16 at HO_253001 HO_253002 HO_253003 HO_253004 BK248 BK252 HB hx253_0 hx254_0 hHeld ⊢
         refine qA 0 22 (bz 15 1) HT_ ?_
         refine qA 2 24 (bz 15 5) HT_ ?_
         refine qA 3 25 (bz 15 13) HT_ ?_
         refine qA 4 26 (bz 15 29) HT_ ?_
         refine qA 6 28 (bz 15 93) HT_ ?_
         refine qA 7 29 (bz 15 221) HT_ ?_
         refine qA 8 30 (bz 15 477) HT_ ?_
         refine qC 1 23 (bz 15 479) HT_ HW_ hHeld ?_ (hy := by rintro w' ⟨s0, s1, s2, s3, s4, s5, s6, s7⟩; go_simp; with_reducible rfl)
         refine qC 5 27 (bz 15 511) HT_ HW_ hHeld ?_ (hy := by rintro w' ⟨s0, s1, s2, s3, s4, s5, s6, s7⟩; go_simp; with_reducible rfl)
         refine qC 9 31 (bz 15 1023) HT_ HW_ hHeld ?_ (hy := by rintro w' ⟨s0, s1, s2, s3, s4, s5, s6, s7⟩; go_simp; with_reducible rfl)
         refine qA 10 32 (bz 15 2047) HT_ ?_
         refine one_ (i := 11) (N := some 33) (bz 15 4095) rfl rfl (one_of HT_.out (by kernel_rfl)) (by decide) (fun K hK => ?_)
         refine value_ (w1 := ?_) (v := ?_) (by rfl) rfl ?_ ?_
         rotate_left 2
         · go_simp
           constructor
           · rfl
           · rfl
         refine hK.out _ _ ⟨(yG (yN BK252.out _) 0).trans rfl, (yG (yN BK252.out _) 1).trans rfl, (yG (yN BK252.out _) 2).trans rfl, (yG (yN BK252.out _) 3).trans rfl, (yG (yN BK252.out _) 4).trans rfl, (yG (yN BK252.out _) 5).trans rfl, (World.cell?_alloc_lt _ _ _ (zQ _ _ (((HB.out.cell (zQ w _ hw253_0)).trans hw253_0)))).trans (((HB.out.cell (zQ w _ hw253_0)).trans hw253_0)), (World.cell?_alloc_lt _ _ _ (zQ _ _ (((HB.out.cell (zQ w _ hw254_0)).trans hw254_0)))).trans (((HB.out.cell (zQ w _ hw254_0)).trans hw254_0))⟩ (fun hHeld => ?_)
         clear hK K
         refine norm_ (a' := ?_) ?_ ?_
         rotate_left
         · show Act.put _ (some 33) _ = _
           simp only [Act.put, zH, zI, zJ, i64_w, i32_w]
           rfl
         refine one_ (i := 12) (N := some 34) (bz 15 8191) rfl rfl (one_of HT_.out (by kernel_rfl)) (by decide) (fun K hK => ?_)
         refine Kd.R_append_step (Kd.int .i64) (w0 := w) w.heap.size (by rfl) (.tmp 23) (.tmp 33) 23 2 (.int .i64 0) 8 rfl Try.underlying23 info2 rfl (by decide) (by omega) u253002 x253002_1 (wrap64 ((rd l1 x6_1) - (rd l0 x6_1))) [.int .i64 (wrap64 ((rd l1 x6_1) - (rd l0 x6_1)))] (fun k_ => some k_ ≠ (.slice Ao6 t249.length co6 : Value).ownBlock ∧ some k_ ≠ (u253003 : Value).ownBlock ∧ some k_ ≠ (u253004 : Value).ownBlock) (fun _ => False) rfl rfl ?aP (fun _ hk => hk.elim) ?aF ?aO ?aB ?aS ?aL ?_
         (case aP => exact rfl)
         (case aB => exact (kB HB))
         (case aF => exact (fun k_ hk => ⟨Kd.fresh' (yK (kA HO_253001)) k_ hk, Kd.fresh' (yK (kA HO_253003)) k_ hk, Kd.fresh' (yK (kA HO_253004)) k_ hk⟩))
         (case aO => exact (kA HO_253002))
         (case aS => exact (below_size (kB HB)))
         (case aL => have := LMc13.out; omega)
         intro v256 w17 ho hb hg hat
         rw [← Ny255.out] at ho
         have n0_ := yD (Kd.R_after (ok := (fun k_ => some k_ ≠ (u253003 : Value).ownBlock ∧ some k_ ≠ (u253004 : Value).ownBlock)) (by (with_reducible repeat (first | apply yA | apply yB | apply yC)); exact zF HO_253001.out (fun _ hk => ⟨⟨hk.2.1, hk.2.2⟩, hk.1⟩)) hg hat)
         have n1_ := yD (Kd.R_after (ok := (fun k_ => some k_ ≠ (.slice Ao6 t249.length co6 : Value).ownBlock ∧ some k_ ≠ (u253004 : Value).ownBlock)) (by (with_reducible repeat (first | apply yA | apply yB | apply yC)); exact zF HO_253003.out (fun _ hk => ⟨⟨hk.1, hk.2.2⟩, hk.2.1⟩)) hg hat)
         have n2_ := yD (Kd.R_after (ok := (fun k_ => some k_ ≠ (.slice Ao6 t249.length co6 : Value).ownBlock ∧ some k_ ≠ (u253003 : Value).ownBlock)) (by (with_reducible repeat (first | apply yA | apply yB | apply yC)); exact zF HO_253004.out (fun _ hk => ⟨⟨hk.1, hk.2.2⟩, hk.2.1⟩)) hg hat)
         have n3_ := yD (blk_grown (g := gb248) (o := .cells #[.int .i64 0, .slice none 0 0, .slice none 0 0, .slice none 0 0, .slice none 0 0, .slice none 0 0] 28 (0, 0)) (kM BK248) hg (Kd.R_ne HO_253002.out BK248.out (by decide)))
         have n4_ := yD (blk_grown (g := gb252) (o := .cells #[.int .i64 3, .slice Ao6 t249.length co6, u253002, u253003, u253004, .slice none 0 0] 28 (0, 0)) (kM BK252) hg (Kd.R_ne HO_253002.out BK252.out (by decide)))
         have n5_ := yD (hb)
         have n6_ := yD (ho)
         clear HO_253001 HO_253003 HO_253004 BK248 BK252 HB HO_253002; have HO_253001 := n0_; have HO_253003 := n1_; have HO_253004 := n2_; have BK248 := n3_; have BK252 := n4_; have HB := n5_; have HO257 := n6_; clear n0_ n1_ n2_ n3_ n4_ n5_ n6_ ho hb hg hat
         obtain ⟨Ao18, co18, eo18⟩ := Kd.R_slice HO257.out
         (first | subst eo18 | (injection eo18 with f1_ f2_ f3_; have f4_ := f1_.symm; have f5_ := f3_.symm; clear f1_ f2_ f3_; subst f4_; subst f5_))
         refine hK.out _ _ ⟨(yG BK252.out 0).trans rfl, (yG BK252.out 1).trans rfl, (yG BK252.out 2).trans rfl, (yG BK252.out 3).trans rfl, (yG BK252.out 4).trans rfl, (yG BK252.out 5).trans rfl, ((HB.out.cell (zQ w _ hw253_0)).trans hw253_0), ((HB.out.cell (zQ w _ hw254_0)).trans hw254_0)⟩ (fun hHeld => ?_)
         clear hK K
         refine norm_ (a' := ?_) ?_ ?_
         rotate_left
         · show Act.put _ (some 34) _ = _
           simp only [Act.put, zH, zI, zJ, i64_w, i32_w]
           rfl
         refine qA 13 35 (bz 15 16383) HT_ ?_
         refine last_ (i := 14) (N := none) #[true, true, true, true, true, true, true, true, true, true, true, true, true, true, true] rfl rfl (one_of HT_.out (by kernel_rfl)) (by decide) (fun K hK => ?_)
         have hs19 : w17.cell? ⟨gb252, 2, none⟩ = some (u253002) := (yG BK252.out 2).trans rfl
         have hfs19 := yR BK252.out 2
         have hns19_0 := NB248_252.out; have hms19_0 := NB252_248.out
         refine skip_ (w1 := ?_) (by rfl) rfl ?_ ?_
         rotate_left
         · go_simp
           rfl
         refine hK.out _ _ ?_
         clear hK K
         refine done_ (done_of HT_.out (by kernel_rfl)) ?_
         have hnb20 := NB252_248.out; have hnc20 := NB248_252.out
         obtain ⟨hcz21_0, hcz21_1, hcz21_2, hcz21_3, hcz21_4, hcz21_5⟩ := cz6 BK252.out
         obtain ⟨hfz21_0, hfz21_1, hfz21_2, hfz21_3, hfz21_4, hfz21_5⟩ := fz6 BK252.out
         try go_wp2_with (first | ((with_reducible refine gate_builtin (b := .append) (xs := #[.tmp 37, .tmp 38]) rfl ?_); (try (refine gate_guard (by rfl) ?_; dsimp only)); at_builtin; refine Kd.R_append (Kd.int .i64) (w0 := w) w.heap.size rfl (.tmp 37) (.tmp 38) 23 2 (.int .i64 0) 8 rfl Try.underlying23 info2 rfl (by decide) (by omega) u253003 x253003_1 1 [.int .i64 1] (fun k_ => some k_ ≠ (.slice Ao6 t249.length co6 : Value).ownBlock ∧ some k_ ≠ (u253004 : Value).ownBlock ∧ some k_ ≠ (.slice Ao18 y255.length co18 : Value).ownBlock) (fun _ => False) rfl (by first | (go_simp; done) | (go_simp; rfl)) ?aP (fun _ hk => hk.elim) ?aF ?aO ?aB ?aS ?aL ?_; (case aP => exact rfl); (case aB => exact (kB HB)); (case aF => exact (fun k_ hk => ⟨Kd.fresh' (yK (by (with_reducible repeat (first | apply yA | apply yB | apply yC)); exact (zF (yF (p := ⟨gb252, 2, none⟩) (Kd.R_types HO_253001.out BK252.out (by decide)) (fun _ hk => hk.2) (.slice Ao18 y255.length co18)) (fun _ h_ => h_.1)))) k_ hk, Kd.fresh' (yK (by (with_reducible repeat (first | apply yA | apply yB | apply yC)); exact (zF (yF (p := ⟨gb252, 2, none⟩) (Kd.R_types HO_253004.out BK252.out (by decide)) (fun _ hk => hk.2) (.slice Ao18 y255.length co18)) (fun _ h_ => h_.1)))) k_ hk, Kd.fresh' (yK (by (with_reducible repeat (first | apply yA | apply yB | apply yC)); exact (zF (yF (p := ⟨gb252, 2, none⟩) (Kd.R_types HO257.out BK252.out (by decide)) (fun _ hk => hk.2) (.slice Ao18 y255.length co18)) (fun _ h_ => h_.1)))) k_ hk⟩)); (case aO => exact (by (with_reducible repeat (first | apply yA | apply yB | apply yC)); exact zF (yF (p := ⟨gb252, 2, none⟩) (Kd.R_types HO_253003.out BK252.out (by decide)) (fun _ hk => hk.2) (.slice Ao18 y255.length co18)) (fun _ hk => ⟨hk.1.1.1, ⟨hk.1.1.2, hk.1.2⟩⟩))); (case aS => exact (below_size (kB HB))); (case aL => have := LMc14.out; omega); intro v259 w22 ho hb hg hat; rw [← Ny258.out] at ho; have n0_ := yD (Kd.R_after (ok := (fun k_ => some k_ ≠ (u253004 : Value).ownBlock ∧ some k_ ≠ (.slice Ao18 y255.length co18 : Value).ownBlock)) (by (with_reducible repeat (first | apply yA | apply yB | apply yC)); exact zF (yF (p := ⟨gb252, 2, none⟩) (Kd.R_types HO_253001.out BK252.out (by decide)) (fun _ hk => hk.2) (.slice Ao18 y255.length co18)) (fun _ hk => ⟨⟨hk.1.1.2, hk.1.2⟩, hk.1.1.1⟩)) hg hat); have n1_ := yD (Kd.R_after (ok := (fun k_ => some k_ ≠ (.slice Ao6 t249.length co6 : Value).ownBlock ∧ some k_ ≠ (.slice Ao18 y255.length co18 : Value).ownBlock)) (by (with_reducible repeat (first | apply yA | apply yB | apply yC)); exact zF (yF (p := ⟨gb252, 2, none⟩) (Kd.R_types HO_253004.out BK252.out (by decide)) (fun _ hk => hk.2) (.slice Ao18 y255.length co18)) (fun _ hk => ⟨⟨hk.1.1.1, hk.1.2⟩, hk.1.1.2⟩)) hg hat); have n2_ := yD (blk_grown (g := gb248) (o := .cells #[.int .i64 0, .slice none 0 0, .slice none 0 0, .slice none 0 0, .slice none 0 0, .slice none 0 0] 28 (0, 0)) (by (with_reducible repeat (first | refine yM ?_ _ | refine yO ?_ | refine yN ?_ _)); refine blk_far ?_ NB248_252.out _; (with_reducible repeat (first | refine yM ?_ _ | refine yO ?_ | refine yN ?_ _)); exact BK248.out) hg (Kd.R_ne HO_253003.out BK248.out (by decide))); have n3_ := yD (blk_grown (g := gb252) (o := .cells #[.int .i64 3, .slice Ao6 t249.length co6, .slice Ao18 y255.length co18, u253003, u253004, .slice none 0 0] 28 (0, 0)) (by (with_reducible repeat (first | refine yM ?_ _ | refine yO ?_ | refine yN ?_ _)); refine blk_put (cs := #[.int .i64 3, .slice Ao6 t249.length co6, u253002, u253003, u253004, .slice none 0 0]) ?_ 2 _ rfl; (with_reducible repeat (first | refine yM ?_ _ | refine yO ?_ | refine yN ?_ _)); exact BK252.out) hg (Kd.R_ne HO_253003.out BK252.out (by decide))); have n4_ := yD (Kd.R_after (ok := (fun k_ => some k_ ≠ (.slice Ao6 t249.length co6 : Value).ownBlock ∧ some k_ ≠ (u253004 : Value).ownBlock)) (by (with_reducible repeat (first | apply yA | apply yB | apply yC)); exact zF (yF (p := ⟨gb252, 2, none⟩) (Kd.R_types HO257.out BK252.out (by decide)) (fun _ hk => hk.2) (.slice Ao18 y255.length co18)) (fun _ hk => ⟨⟨hk.1.1, hk.1.2.2⟩, hk.1.2.1⟩)) hg hat); have n5_ := yD (hb); have n6_ := yD (ho); clear HO_253001; clear HO_253004; clear BK248; clear BK252; clear HO257; clear HB; clear HO_253003; have HO_253001 := n0_; have HO_253004 := n1_; have BK248 := n2_; have BK252 := n3_; have HO257 := n4_; have HB := n5_; have HO260 := n6_; clear n0_ n1_ n2_ n3_ n4_ n5_ n6_; clear ho hb hg hat; obtain ⟨Ao23, co23, eo23⟩ := Kd.R_slice HO260.out; subst eo23; obtain ⟨hcz24_0, hcz24_1, hcz24_2, hcz24_3, hcz24_4, hcz24_5⟩ := cz6 BK252.out; obtain ⟨hfz24_0, hfz24_1, hfz24_2, hfz24_3, hfz24_4, hfz24_5⟩ := fz6 BK252.out))
         have n0_ : Aside0 (Kd.R (Kd.int .i64) 2 (w22.setCell ⟨gb252, 3, none⟩ (.slice Ao23 y258.length co23)) w.heap.size (fun k_ => some k_ ≠ (u253004 : Value).ownBlock ∧ some k_ ≠ (.slice Ao18 y255.length co18 : Value).ownBlock ∧ some k_ ≠ (.slice Ao23 y258.length co23 : Value).ownBlock) (.slice Ao6 t249.length co6) t249) := ⟨by (with_reducible repeat (first | apply yA | apply yB | apply yC)); exact zF (yF (p := ⟨gb252, 3, none⟩) (Kd.R_types HO_253001.out BK252.out (by decide)) (fun _ hk => hk.2) (.slice Ao23 y258.length co23)) (fun _ hk => ⟨hk.1.1.1, ⟨hk.1.1.2, hk.1.2⟩⟩)⟩
         have n1_ : Aside0 (Kd.R (Kd.int .i64) 2 (w22.setCell ⟨gb252, 3, none⟩ (.slice Ao23 y258.length co23)) w.heap.size (fun k_ => some k_ ≠ (.slice Ao6 t249.length co6 : Value).ownBlock ∧ some k_ ≠ (.slice Ao18 y255.length co18 : Value).ownBlock ∧ some k_ ≠ (.slice Ao23 y258.length co23 : Value).ownBlock) u253004 x253004_1) := ⟨by (with_reducible repeat (first | apply yA | apply yB | apply yC)); exact zF (yF (p := ⟨gb252, 3, none⟩) (Kd.R_types HO_253004.out BK252.out (by decide)) (fun _ hk => hk.2) (.slice Ao23 y258.length co23)) (fun _ hk => ⟨hk.1.1.1, ⟨hk.1.1.2, hk.1.2⟩⟩)⟩
         have n2_ : Aside0 (Kd.R (Kd.int .i64) 2 (w22.setCell ⟨gb252, 3, none⟩ (.slice Ao23 y258.length co23)) w.heap.size (fun k_ => some k_ ≠ (.slice Ao6 t249.length co6 : Value).ownBlock ∧ some k_ ≠ (u253004 : Value).ownBlock ∧ some k_ ≠ (.slice Ao23 y258.length co23 : Value).ownBlock) (.slice Ao18 y255.length co18) y255) := ⟨by (with_reducible repeat (first | apply yA | apply yB | apply yC)); exact zF (yF (p := ⟨gb252, 3, none⟩) (Kd.R_types HO257.out BK252.out (by decide)) (fun _ hk => hk.2) (.slice Ao23 y258.length co23)) (fun _ hk => ⟨hk.1.1.1, ⟨hk.1.1.2, hk.1.2⟩⟩)⟩
         have n3_ : Aside0 (Kd.R (Kd.int .i64) 2 (w22.setCell ⟨gb252, 3, none⟩ (.slice Ao23 y258.length co23)) w.heap.size (fun k_ => some k_ ≠ (.slice Ao6 t249.length co6 : Value).ownBlock ∧ some k_ ≠ (u253004 : Value).ownBlock ∧ some k_ ≠ (.slice Ao18 y255.length co18 : Value).ownBlock) (.slice Ao23 y258.length co23) y258) := ⟨by (with_reducible repeat (first | apply yA | apply yB | apply yC)); exact zF (yF (p := ⟨gb252, 3, none⟩) (Kd.R_types HO260.out BK252.out (by decide)) (fun _ hk => hk.2) (.slice Ao23 y258.length co23)) (fun _ hk => ⟨hk.1.1, ⟨hk.1.2.1, hk.1.2.2⟩⟩)⟩
         have n4_ : Aside0 ((w22.setCell ⟨gb252, 3, none⟩ (.slice Ao23 y258.length co23)).heap[gb248]? = some (.cells #[.int .i64 0, .slice none 0 0, .slice none 0 0, .slice none 0 0, .slice none 0 0, .slice none 0 0] 28 (0, 0))) := ⟨by (with_reducible repeat (first | refine yM ?_ _ | refine yO ?_ | refine yN ?_ _)); refine blk_far ?_ NB248_252.out _; (with_reducible repeat (first | refine yM ?_ _ | refine yO ?_ | refine yN ?_ _)); exact BK248.out⟩
         have n5_ : Aside0 ((w22.setCell ⟨gb252, 3, none⟩ (.slice Ao23 y258.length co23)).heap[gb252]? = some (.cells #[.int .i64 3, .slice Ao6 t249.length co6, .slice Ao18 y255.length co18, .slice Ao23 y258.length co23, u253004, .slice none 0 0] 28 (0, 0))) := ⟨by (with_reducible repeat (first | refine yM ?_ _ | refine yO ?_ | refine yN ?_ _)); refine blk_put (cs := #[.int .i64 3, .slice Ao6 t249.length co6, .slice Ao18 y255.length co18, u253003, u253004, .slice none 0 0]) ?_ 3 _ rfl; (with_reducible repeat (first | refine yM ?_ _ | refine yO ?_ | refine yN ?_ _)); exact BK252.out⟩
         have n6_ : Aside0 (Below w.heap.size w (w22.setCell ⟨gb252, 3, none⟩ (.slice Ao23 y258.length co23))) := ⟨kR1 HB⟩
         (try clear HO_253001); (try clear HO_253004); (try clear HO257); (try clear HO260); (try clear BK248); (try clear BK252); (try clear HB)
         generalize (w22.setCell ⟨gb252, 3, none⟩ (.slice Ao23 y258.length co23)) = w25 at n0_ n1_ n2_ n3_ n4_ n5_ n6_ ⊢
         have HO_253001 := n0_; have HO_253004 := n1_; have HO257 := n2_; have HO260 := n3_; have BK248 := n4_; have BK252 := n5_; have HB := n6_; clear n0_ n1_ n2_ n3_ n4_ n5_ n6_
         have n0_ := yD (yC HO_253001.out)
         have n1_ := yD (yC HO_253004.out)
         have n2_ := yD (yC HO257.out)
         have n3_ := yD (yC HO260.out)
         have n4_ := yD (yO BK248.out)
         have n5_ := yD (yO BK252.out)
         have n6_ := yD (yP HB.out)
         clear HO_253001 HO_253004 HO257 HO260 BK248 BK252 HB; have HO_253001 := n0_; have HO_253004 := n1_; have HO257 := n2_; have HO260 := n3_; have BK248 := n4_; have BK252 := n5_; have HB := n6_; clear n0_ n1_ n2_ n3_ n4_ n5_ n6_
         have p261 : 0 ≤ (x6_1 : Int) := zP (by assumption)
         have q261 : x6_1 < (l1.length : Int) := zP (by assumption)
         obtain ⟨ad261, e261, hx261_0⟩ := Kd.at_int HR1.out x6_1 p261 q261
         have hw261_0 := hx261_0
         obtain rfl : ad253 = ad261 := (by injection e261)
         replace hx261_0 := (HB.out.cell (zQ w _ hx261_0)).trans hx261_0
         replace p261 := eq_true p261; replace q261 := eq_true q261
         have p262 : 0 ≤ (x6_1 : Int) := zP (by assumption)
         have q262 : x6_1 < (l0.length : Int) := zP (by assumption)
         obtain ⟨ad262, e262, hx262_0⟩ := Kd.at_int HR0.out x6_1 p262 q262
         have hw262_0 := hx262_0
         obtain rfl : ad254 = ad262 := (by injection e262)
         replace hx262_0 := (HB.out.cell (zQ w _ hx262_0)).trans hx262_0
         replace p262 := eq_true p262; replace q262 := eq_true q262
         refine start_ (n := 15) (S := fun w' => w'.cell? ⟨gb252, 0, none⟩ = some (.int .i64 3) ∧ w'.cell? ⟨gb252, 1, none⟩ = some (.slice Ao6 t249.length co6) ∧ w'.cell? ⟨gb252, 2, none⟩ = some (.slice Ao18 y255.length co18) ∧ w'.cell? ⟨gb252, 3, none⟩ = some (.slice Ao23 y258.length co23) ∧ w'.cell? ⟨gb252, 4, none⟩ = some (u253004) ∧ w'.cell? ⟨gb252, 5, none⟩ = some (.slice none 0 0) ∧ w'.cell? (ad253.add (x6_1).toNat) = some (.int .i64 (rd l1 x6_1)) ∧ w'.cell? (ad254.add (x6_1).toNat) = some (.int .i64 (rd l0 x6_1))) (ds := [14]) (bz 15 0) (by kernel_rfl) rfl rfl ⟨(yG BK252.out 0).trans rfl, (yG BK252.out 1).trans rfl, (yG BK252.out 2).trans rfl, (yG BK252.out 3).trans rfl, (yG BK252.out 4).trans rfl, (yG BK252.out 5).trans rfl, ((HB.out.cell (zQ w _ hw261_0)).trans hw261_0), ((HB.out.cell (zQ w _ hw262_0)).trans hw262_0)⟩ (fun hHeld => ?_); refine with_tabW spec_l06Range.tab7 spec_l06Range.bits7 (fun HT_ HW_ => ?_)
         generalize w25.drew = w26 at HO_253001 HO_253004 HO257 HO260 BK248 BK252 HB hx261_0 hx262_0 hHeld ⊢
         refine qA 0 41 (bz 15 1) HT_ ?_
         refine qA 2 43 (bz 15 5) HT_ ?_
         refine qA 3 44 (bz 15 13) HT_ ?_
         refine qA 4 45 (bz 15 29) HT_ ?_
         refine qA 6 47 (bz 15 93) HT_ ?_
         refine qA 7 48 (bz 15 221) HT_ ?_
         refine qA 8 49 (bz 15 477) HT_ ?_
         refine qC 1 42 (bz 15 479) HT_ HW_ hHeld ?_ (hy := by rintro w' ⟨s0, s1, s2, s3, s4, s5, s6, s7⟩; go_simp; with_reducible rfl)
         refine qC 5 46 (bz 15 511) HT_ HW_ hHeld ?_ (hy := by rintro w' ⟨s0, s1, s2, s3, s4, s5, s6, s7⟩; go_simp; with_reducible rfl)
         refine qC 9 50 (bz 15 1023) HT_ HW_ hHeld ?_ (hy := by rintro w' ⟨s0, s1, s2, s3, s4, s5, s6, s7⟩; go_simp; with_reducible rfl)
         refine qA 10 51 (bz 15 2047) HT_ ?_
         refine one_ (i := 11) (N := some 52) (bz 15 4095) rfl rfl (one_of HT_.out (by kernel_rfl)) (by decide) (fun K hK => ?_)
         refine value_ (w1 := ?_) (v := ?_) (by rfl) rfl ?_ ?_
         rotate_left 2
         · go_simp
           constructor
           · rfl
           · rfl
         refine hK.out _ _ ⟨(yG (yN BK252.out _) 0).trans rfl, (yG (yN BK252.out _) 1).trans rfl, (yG (yN BK252.out _) 2).trans rfl, (yG (yN BK252.out _) 3).trans rfl, (yG (yN BK252.out _) 4).trans rfl, (yG (yN BK252.out _) 5).trans rfl, (World.cell?_alloc_lt _ _ _ (zQ _ _ (((HB.out.cell (zQ w _ hw261_0)).trans hw261_0)))).trans (((HB.out.cell (zQ w _ hw261_0)).trans hw261_0)), (World.cell?_alloc_lt _ _ _ (zQ _ _ (((HB.out.cell (zQ w _ hw262_0)).trans hw262_0)))).trans (((HB.out.cell (zQ w _ hw262_0)).trans hw262_0))⟩ (fun hHeld => ?_)
         clear hK K
         refine norm_ (a' := ?_) ?_ ?_
         rotate_left
         · show Act.put _ (some 52) _ = _
           simp only [Act.put, zH, zI, zJ, i64_w, i32_w]
           rfl
         refine one_ (i := 12) (N := some 53) (bz 15 8191) rfl rfl (one_of HT_.out (by kernel_rfl)) (by decide) (fun K hK => ?_)
         refine Kd.R_append_step (Kd.int .i64) (w0 := w) w.heap.size (by rfl) (.tmp 42) (.tmp 52) 23 2 (.int .i64 0) 8 rfl Try.underlying23 info2 rfl (by decide) (by omega) u253004 x253004_1 (wrap64 ((rd l1 x6_1) - (rd l0 x6_1))) [.int .i64 (wrap64 ((rd l1 x6_1) - (rd l0 x6_1)))] (fun k_ => some k_ ≠ (.slice Ao6 t249.length co6 : Value).ownBlock ∧ some k_ ≠ (.slice Ao18 y255.length co18 : Value).ownBlock ∧ some k_ ≠ (.slice Ao23 y258.length co23 : Value).ownBlock) (fun _ => False) rfl rfl ?aP (fun _ hk => hk.elim) ?aF ?aO ?aB ?aS ?aL ?_
         (case aP => exact rfl)
         (case aB => exact (kB HB))
         (case aF => exact (fun k_ hk => ⟨Kd.fresh' (yK (kA HO_253001)) k_ hk, Kd.fresh' (yK (kA HO257)) k_ hk, Kd.fresh' (yK (kA HO260)) k_ hk⟩))
         (case aO => exact (kA HO_253004))
         (case aS => exact (below_size (kB HB)))
         (case aL => have := LMc15.out; omega)
         intro v264 w27 ho hb hg hat
         rw [← Ny263.out] at ho
         have n0_ := yD (Kd.R_after (ok := (fun k_ => some k_ ≠ (.slice Ao18 y255.length co18 : Value).ownBlock ∧ some k_ ≠ (.slice Ao23 y258.length co23 : Value).ownBlock)) (by (with_reducible repeat (first | apply yA | apply yB | apply yC)); exact zF HO_253001.out (fun _ hk => ⟨⟨hk.2.1, hk.2.2⟩, hk.1⟩)) hg hat)
         have n1_ := yD (blk_grown (g := gb248) (o := .cells #[.int .i64 0, .slice none 0 0, .slice none 0 0, .slice none 0 0, .slice none 0 0, .slice none 0 0] 28 (0, 0)) (kM BK248) hg (Kd.R_ne HO_253004.out BK248.out (by decide)))
         have n2_ := yD (blk_grown (g := gb252) (o := .cells #[.int .i64 3, .slice Ao6 t249.length co6, .slice Ao18 y255.length co18, .slice Ao23 y258.length co23, u253004, .slice none 0 0] 28 (0, 0)) (kM BK252) hg (Kd.R_ne HO_253004.out BK252.out (by decide)))
         have n3_ := yD (Kd.R_after (ok := (fun k_ => some k_ ≠ (.slice Ao6 t249.length co6 : Value).ownBlock ∧ some k_ ≠ (.slice Ao23 y258.length co23 : Value).ownBlock)) (by (with_reducible repeat (first | apply yA | apply yB | apply yC)); exact zF HO257.out (fun _ hk => ⟨⟨hk.1, hk.2.2⟩, hk.2.1⟩)) hg hat)
         have n4_ := yD (Kd.R_after (ok := (fun k_ => some k_ ≠ (.slice Ao6 t249.length co6 : Value).ownBlock ∧ some k_ ≠ (.slice Ao18 y255.length co18 : Value).ownBlock)) (by (with_reducible repeat (first | apply yA | apply yB | apply yC)); exact zF HO260.out (fun _ hk => ⟨⟨hk.1, hk.2.2⟩, hk.2.1⟩)) hg hat)
         have n5_ := yD (hb)
         have n6_ := yD (ho)
         clear HO_253001 BK248 BK252 HO257 HO260 HB HO_253004; have HO_253001 := n0_; have BK248 := n1_; have BK252 := n2_; have HO257 := n3_; have HO260 := n4_; have HB := n5_; have HO265 := n6_; clear n0_ n1_ n2_ n3_ n4_ n5_ n6_ ho hb hg hat
         obtain ⟨Ao28, co28, eo28⟩ := Kd.R_slice HO265.out
         (first | subst eo28 | (injection eo28 with f1_ f2_ f3_; have f4_ := f1_.symm; have f5_ := f3_.symm; clear f1_ f2_ f3_; subst f4_; subst f5_))
         refine hK.out _ _ ⟨(yG BK252.out 0).trans rfl, (yG BK252.out 1).trans rfl, (yG BK252.out 2).trans rfl, (yG BK252.out 3).trans rfl, (yG BK252.out 4).trans rfl, (yG BK252.out 5).trans rfl, ((HB.out.cell (zQ w _ hw261_0)).trans hw261_0), ((HB.out.cell (zQ w _ hw262_0)).trans hw262_0)⟩ (fun hHeld => ?_)
         clear hK K
         refine norm_ (a' := ?_) ?_ ?_
         rotate_left
         · show Act.put _ (some 53) _ = _
           simp only [Act.put, zH, zI, zJ, i64_w, i32_w]
           rfl
         refine qA 13 54 (bz 15 16383) HT_ ?_
         refine last_ (i := 14) (N := none) #[true, true, true, true, true, true, true, true, true, true, true, true, true, true, true] rfl rfl (one_of HT_.out (by kernel_rfl)) (by decide) (fun K hK => ?_)
         have hs29 : w27.cell? ⟨gb252, 4, none⟩ = some (u253004) := (yG BK252.out 4).trans rfl
         have hfs29 := yR BK252.out 4
         have hns29_0 := NB248_252.out; have hms29_0 := NB252_248.out
         refine skip_ (w1 := ?_) (by rfl) rfl ?_ ?_
         rotate_left
         · go_simp
           rfl
         refine hK.out _ _ ?_
         clear hK K
         refine done_ (done_of HT_.out (by kernel_rfl)) ?_
         try go_wp2
         go_roundg k1
         case measure => have := HK1.out; omega
         case rel => exact ⟨(wrap64 (x6_1 + 1)), (y255), (y258), (y263), (.slice Ao18 y255.length co18), (.slice Ao23 y258.length co23), (.slice Ao28 y263.length co28), (by first | rfl | (simp; done) | (simp [*]; done)), H', ⟨by have := HK1.out; omega⟩, ⟨by (with_reducible repeat (first | apply yA | apply yB | apply yC)); exact zF (yF (p := ⟨gb252, 4, none⟩) (Kd.R_types HO_253001.out BK252.out (by decide)) (fun _ hk => hk.2) (.slice Ao28 y263.length co28)) (fun _ hk => ⟨hk.1.1.1, ⟨hk.1.1.2, hk.1.2⟩⟩)⟩, ⟨by (with_reducible repeat (first | apply yA | apply yB | apply yC)); exact zF (yF (p := ⟨gb252, 4, none⟩) (Kd.R_types HO257.out BK252.out (by decide)) (fun _ hk => hk.2) (.slice Ao28 y263.length co28)) (fun _ hk => ⟨hk.1.1.1, ⟨hk.1.1.2, hk.1.2⟩⟩)⟩, ⟨by (with_reducible repeat (first | apply yA | apply yB | apply yC)); exact zF (yF (p := ⟨gb252, 4, none⟩) (Kd.R_types HO260.out BK252.out (by decide)) (fun _ hk => hk.2) (.slice Ao28 y263.length co28)) (fun _ hk => ⟨hk.1.1.1, ⟨hk.1.1.2, hk.1.2⟩⟩)⟩, ⟨by (with_reducible repeat (first | apply yA | apply yB | apply yC)); exact zF (yF (p := ⟨gb252, 4, none⟩) (Kd.R_types HO265.out BK252.out (by decide)) (fun _ hk => hk.2) (.slice Ao28 y263.length co28)) (fun _ hk => ⟨hk.1.1, ⟨hk.1.2.1, hk.1.2.2⟩⟩)⟩, ⟨by (with_reducible repeat (first | refine yM ?_ _ | refine yO ?_ | refine yN ?_ _)); refine blk_far ?_ NB248_252.out _; (with_reducible repeat (first | refine yM ?_ _ | refine yO ?_ | refine yN ?_ _)); exact BK248.out⟩, ⟨by (with_reducible repeat (first | refine yM ?_ _ | refine yO ?_ | refine yN ?_ _)); refine blk_put (cs := #[.int .i64 3, .slice Ao6 t249.length co6, .slice Ao18 y255.length co18, .slice Ao23 y258.length co23, u253004, .slice none 0 0]) ?_ 4 _ rfl; (with_reducible repeat (first | refine yM ?_ _ | refine yO ?_ | refine yN ?_ _)); exact BK252.out⟩, ⟨kR1 HB⟩⟩
        · rw [if_neg c15] at H
          exact absurd H (by simp)
       · rw [if_neg c14] at H
         exact absurd H (by simp)
      · rw [if_neg c13] at H
        exact absurd H (by simp)
     · rw [if_neg c12] at H
       exact absurd H (by simp)
    ·
     rw [if_neg c11] at H
     have c11b0 : decide (x6_1 < (l1.length : Int)) = false := zS c11; clear c11
     simp only [Option.some.injEq, Prod.mk.injEq] at H
     obtain ⟨rfl, rfl, rfl, rfl, rfl, rfl⟩ := H
     have hnb30 := NB252_248.out; have hnc30 := NB248_252.out
     obtain ⟨hcz31_0, hcz31_1, hcz31_2, hcz31_3, hcz31_4, hcz31_5⟩ := cz6 BK252.out
     obtain ⟨hfz31_0, hfz31_1, hfz31_2, hfz31_3, hfz31_4, hfz31_5⟩ := fz6 BK252.out
     obtain ⟨hcz32_0, hcz32_1, hcz32_2, hcz32_3, hcz32_4, hcz32_5⟩ := cz6 BK248.out
     obtain ⟨hfz32_0, hfz32_1, hfz32_2, hfz32_3, hfz32_4, hfz32_5⟩ := fz6 BK248.out
     obtain ⟨Ao33, co33, eo33⟩ := Kd.R_slice HO_253002.out
     subst eo33
     obtain ⟨Ao34, co34, eo34⟩ := Kd.R_slice HO_253003.out
     subst eo34
     obtain ⟨Ao35, co35, eo35⟩ := Kd.R_slice HO_253004.out
     subst eo35
     go_wp2
     refine bodyPost_ret (results_cell_row rfl _ _ gb248 28 #[.int .i64 3, .slice Ao6 t249.length co6, .slice Ao33 x253002_1.length co33, .slice Ao34 x253003_1.length co34, .slice Ao35 x253004_1.length co35, .slice none 0 0] (0, 0) _ rfl (by (with_reducible repeat (first | refine yM ?_ _ | refine yO ?_ | refine yN ?_ _)); refine blk_put (cs := #[.int .i64 3, .slice Ao6 t249.length co6, .slice Ao33 x253002_1.length co33, .slice Ao34 x253003_1.length co34, .slice Ao35 x253004_1.length co35, .slice none 0 0]) ?_ 5 _ rfl; (with_reducible repeat (first | refine yM ?_ _ | refine yO ?_ | refine yN ?_ _)); refine blk_put (cs := #[.int .i64 3, .slice Ao6 t249.length co6, .slice Ao33 x253002_1.length co33, .slice Ao34 x253003_1.length co34, .slice none 0 0, .slice none 0 0]) ?_ 4 _ rfl; (with_reducible repeat (first | refine yM ?_ _ | refine yO ?_ | refine yN ?_ _)); refine blk_put (cs := #[.int .i64 3, .slice Ao6 t249.length co6, .slice Ao33 x253002_1.length co33, .slice none 0 0, .slice none 0 0, .slice none 0 0]) ?_ 3 _ rfl; (with_reducible repeat (first | refine yM ?_ _ | refine yO ?_ | refine yN ?_ _)); refine blk_put (cs := #[.int .i64 3, .slice Ao6 t249.length co6, .slice none 0 0, .slice none 0 0, .slice none 0 0, .slice none 0 0]) ?_ 2 _ rfl; (with_reducible repeat (first | refine yM ?_ _ | refine yO ?_ | refine yN ?_ _)); refine blk_put (cs := #[.int .i64 3, .slice none 0 0, .slice none 0 0, .slice none 0 0, .slice none 0 0, .slice none 0 0]) ?_ 1 _ rfl; (with_reducible repeat (first | refine yM ?_ _ | refine yO ?_ | refine yN ?_ _)); refine blk_put (cs := #[.int .i64 0, .slice none 0 0, .slice none 0 0, .slice none 0 0, .slice none 0 0, .slice none 0 0]) ?_ 0 _ rfl; (with_reducible repeat (first | refine yM ?_ _ | refine yO ?_ | refine yN ?_ _)); exact BK248.out) Try.underlying28 rfl (by kernel_rfl)) rfl ?_
     exact ⟨_, _, _, _, _, by first | rfl | (simp <;> rfl) | (simp [*] <;> rfl), by (with_reducible repeat (first | apply yA | apply yB | apply yC)); exact zF (yF (p := ⟨gb248, 5, none⟩) (yF (p := ⟨gb248, 4, none⟩) (yF (p := ⟨gb248, 3, none⟩) (yF (p := ⟨gb248, 2, none⟩) (yF (p := ⟨gb248, 1, none⟩) (yF (p := ⟨gb248, 0, none⟩) (Kd.R_types HO_253001.out BK248.out (by decide)) (fun _ hk => hk.2) (.int .i64 3)) (fun _ hk => hk.2) (.slice Ao6 t249.length co6)) (fun _ hk => hk.2) (.slice Ao33 x253002_1.length co33)) (fun _ hk => hk.2) (.slice Ao34 x253003_1.length co34)) (fun _ hk => hk.2) (.slice Ao35 x253004_1.length co35)) (fun _ hk => hk.2) (.slice none 0 0)) (fun _ hk => ⟨hk.1.1, ⟨hk.1.2.1, hk.1.2.2⟩⟩), by (with_reducible repeat (first | apply yA | apply yB | apply yC)); exact zF (yF (p := ⟨gb248, 5, none⟩) (yF (p := ⟨gb248, 4, none⟩) (yF (p := ⟨gb248, 3, none⟩) (yF (p := ⟨gb248, 2, none⟩) (yF (p := ⟨gb248, 1, none⟩) (yF (p := ⟨gb248, 0, none⟩) (Kd.R_types HO_253002.out BK248.out (by decide)) (fun _ hk => hk.2) (.int .i64 3)) (fun _ hk => hk.2) (.slice Ao6 t249.length co6)) (fun _ hk => hk.2) (.slice Ao33 x253002_1.length co33)) (fun _ hk => hk.2) (.slice Ao34 x253003_1.length co34)) (fun _ hk => hk.2) (.slice Ao35 x253004_1.length co35)) (fun _ hk => hk.2) (.slice none 0 0)) (fun _ hk => ⟨hk.1.1, ⟨hk.1.2.1, hk.1.2.2⟩⟩), by (with_reducible repeat (first | apply yA | apply yB | apply yC)); exact zF (yF (p := ⟨gb248, 5, none⟩) (yF (p := ⟨gb248, 4, none⟩) (yF (p := ⟨gb248, 3, none⟩) (yF (p := ⟨gb248, 2, none⟩) (yF (p := ⟨gb248, 1, none⟩) (yF (p := ⟨gb248, 0, none⟩) (Kd.R_types HO_253003.out BK248.out (by decide)) (fun _ hk => hk.2) (.int .i64 3)) (fun _ hk => hk.2) (.slice Ao6 t249.length co6)) (fun _ hk => hk.2) (.slice Ao33 x253002_1.length co33)) (fun _ hk => hk.2) (.slice Ao34 x253003_1.length co34)) (fun _ hk => hk.2) (.slice Ao35 x253004_1.length co35)) (fun _ hk => hk.2) (.slice none 0 0)) (fun _ hk => ⟨hk.1.1, ⟨hk.1.2.1, hk.1.2.2⟩⟩), by (with_reducible repeat (first | apply yA | apply yB | apply yC)); exact zF (yF (p := ⟨gb248, 5, none⟩) (yF (p := ⟨gb248, 4, none⟩) (yF (p := ⟨gb248, 3, none⟩) (yF (p := ⟨gb248, 2, none⟩) (yF (p := ⟨gb248, 1, none⟩) (yF (p := ⟨gb248, 0, none⟩) (Kd.R_types HO_253004.out BK248.out (by decide)) (fun _ hk => hk.2) (.int .i64 3)) (fun _ hk => hk.2) (.slice Ao6 t249.length co6)) (fun _ hk => hk.2) (.slice Ao33 x253002_1.length co33)) (fun _ hk => hk.2) (.slice Ao34 x253003_1.length co34)) (fun _ hk => hk.2) (.slice Ao35 x253004_1.length co35)) (fun _ hk => hk.2) (.slice none 0 0)) (fun _ hk => ⟨hk.1.1, ⟨hk.1.2.1, hk.1.2.2⟩⟩), by first | exact Kd.S_nil _ _ _ _ _ | exact Kd.N_nil _ _ _ _ _ | exact Kd.V_nil _ _ _ _ _ | exact Kd.Q_nil _ _ _ _ _ | exact Kd.R_nil _ _ _ _ _, kR1 HB⟩
   ·
    rw [if_neg c10] at H
    have c10b0 : decide (x6_1 < (l0.length : Int)) = false := zS c10; clear c10
    simp only [Option.some.injEq, Prod.mk.injEq] at H
    obtain ⟨rfl, rfl, rfl, rfl, rfl, rfl⟩ := H
    have hnb36 := NB252_248.out; have hnc36 := NB248_252.out
    obtain ⟨hcz37_0, hcz37_1, hcz37_2, hcz37_3, hcz37_4, hcz37_5⟩ := cz6 BK252.out
    obtain ⟨hfz37_0, hfz37_1, hfz37_2, hfz37_3, hfz37_4, hfz37_5⟩ := fz6 BK252.out
    obtain ⟨hcz38_0, hcz38_1, hcz38_2, hcz38_3, hcz38_4, hcz38_5⟩ := cz6 BK248.out
    obtain ⟨hfz38_0, hfz38_1, hfz38_2, hfz38_3, hfz38_4, hfz38_5⟩ := fz6 BK248.out
    obtain ⟨Ao39, co39, eo39⟩ := Kd.R_slice HO_253002.out
    subst eo39
    obtain ⟨Ao40, co40, eo40⟩ := Kd.R_slice HO_253003.out
    subst eo40
    obtain ⟨Ao41, co41, eo41⟩ := Kd.R_slice HO_253004.out
    subst eo41
    go_wp2
    refine bodyPost_ret (results_cell_row rfl _ _ gb248 28 #[.int .i64 3, .slice Ao6 t249.length co6, .slice Ao39 x253002_1.length co39, .slice Ao40 x253003_1.length co40, .slice Ao41 x253004_1.length co41, .slice none 0 0] (0, 0) _ rfl (by (with_reducible repeat (first | refine yM ?_ _ | refine yO ?_ | refine yN ?_ _)); refine blk_put (cs := #[.int .i64 3, .slice Ao6 t249.length co6, .slice Ao39 x253002_1.length co39, .slice Ao40 x253003_1.length co40, .slice Ao41 x253004_1.length co41, .slice none 0 0]) ?_ 5 _ rfl; (with_reducible repeat (first | refine yM ?_ _ | refine yO ?_ | refine yN ?_ _)); refine blk_put (cs := #[.int .i64 3, .slice Ao6 t249.length co6, .slice Ao39 x253002_1.length co39, .slice Ao40 x253003_1.length co40, .slice none 0 0, .slice none 0 0]) ?_ 4 _ rfl; (with_reducible repeat (first | refine yM ?_ _ | refine yO ?_ | refine yN ?_ _)); refine blk_put (cs := #[.int .i64 3, .slice Ao6 t249.length co6, .slice Ao39 x253002_1.length co39, .slice none 0 0, .slice none 0 0, .slice none 0 0]) ?_ 3 _ rfl; (with_reducible repeat (first | refine yM ?_ _ | refine yO ?_ | refine yN ?_ _)); refine blk_put (cs := #[.int .i64 3, .slice Ao6 t249.length co6, .slice none 0 0, .slice none 0 0, .slice none 0 0, .slice none 0 0]) ?_ 2 _ rfl; (with_reducible repeat (first | refine yM ?_ _ | refine yO ?_ | refine yN ?_ _)); refine blk_put (cs := #[.int .i64 3, .slice none 0 0, .slice none 0 0, .slice none 0 0, .slice none 0 0, .slice none 0 0]) ?_ 1 _ rfl; (with_reducible repeat (first | refine yM ?_ _ | refine yO ?_ | refine yN ?_ _)); refine blk_put (cs := #[.int .i64 0, .slice none 0 0, .slice none 0 0, .slice none 0 0, .slice none 0 0, .slice none 0 0]) ?_ 0 _ rfl; (with_reducible repeat (first | refine yM ?_ _ | refine yO ?_ | refine yN ?_ _)); exact BK248.out) Try.underlying28 rfl (by kernel_rfl)) rfl ?_
    exact ⟨_, _, _, _, _, by first | rfl | (simp <;> rfl) | (simp [*] <;> rfl), by (with_reducible repeat (first | apply yA | apply yB | apply yC)); exact zF (yF (p := ⟨gb248, 5, none⟩) (yF (p := ⟨gb248, 4, none⟩) (yF (p := ⟨gb248, 3, none⟩) (yF (p := ⟨gb248, 2, none⟩) (yF (p := ⟨gb248, 1, none⟩) (yF (p := ⟨gb248, 0, none⟩) (Kd.R_types HO_253001.out BK248.out (by decide)) (fun _ hk => hk.2) (.int .i64 3)) (fun _ hk => hk.2) (.slice Ao6 t249.length co6)) (fun _ hk => hk.2) (.slice Ao39 x253002_1.length co39)) (fun _ hk => hk.2) (.slice Ao40 x253003_1.length co40)) (fun _ hk => hk.2) (.slice Ao41 x253004_1.length co41)) (fun _ hk => hk.2) (.slice none 0 0)) (fun _ hk => ⟨hk.1.1, ⟨hk.1.2.1, hk.1.2.2⟩⟩), by (with_reducible repeat (first | apply yA | apply yB | apply yC)); exact zF (yF (p := ⟨gb248, 5, none⟩) (yF (p := ⟨gb248, 4, none⟩) (yF (p := ⟨gb248, 3, none⟩) (yF (p := ⟨gb248, 2, none⟩) (yF (p := ⟨gb248, 1, none⟩) (yF (p := ⟨gb248, 0, none⟩) (Kd.R_types HO_253002.out BK248.out (by decide)) (fun _ hk => hk.2) (.int .i64 3)) (fun _ hk => hk.2) (.slice Ao6 t249.length co6)) (fun _ hk => hk.2) (.slice Ao39 x253002_1.length co39)) (fun _ hk => hk.2) (.slice Ao40 x253003_1.length co40)) (fun _ hk => hk.2) (.slice Ao41 x253004_1.length co41)) (fun _ hk => hk.2) (.slice none 0 0)) (fun _ hk => ⟨hk.1.1, ⟨hk.1.2.1, hk.1.2.2⟩⟩), by (with_reducible repeat (first | apply yA | apply yB | apply yC)); exact zF (yF (p := ⟨gb248, 5, none⟩) (yF (p := ⟨gb248, 4, none⟩) (yF (p := ⟨gb248, 3, none⟩) (yF (p := ⟨gb248, 2, none⟩) (yF (p := ⟨gb248, 1, none⟩) (yF (p := ⟨gb248, 0, none⟩) (Kd.R_types HO_253003.out BK248.out (by decide)) (fun _ hk => hk.2) (.int .i64 3)) (fun _ hk => hk.2) (.slice Ao6 t249.length co6)) (fun _ hk => hk.2) (.slice Ao39 x253002_1.length co39)) (fun _ hk => hk.2) (.slice Ao40 x253003_1.length co40)) (fun _ hk => hk.2) (.slice Ao41 x253004_1.length co41)) (fun _ hk => hk.2) (.slice none 0 0)) (fun _ hk => ⟨hk.1.1, ⟨hk.1.2.1, hk.1.2.2⟩⟩), by (with_reducible repeat (first | apply yA | apply yB | apply yC)); exact zF (yF (p := ⟨gb248, 5, none⟩) (yF (p := ⟨gb248, 4, none⟩) (yF (p := ⟨gb248, 3, none⟩) (yF (p := ⟨gb248, 2, none⟩) (yF (p := ⟨gb248, 1, none⟩) (yF (p := ⟨gb248, 0, none⟩) (Kd.R_types HO_253004.out BK248.out (by decide)) (fun _ hk => hk.2) (.int .i64 3)) (fun _ hk => hk.2) (.slice Ao6 t249.length co6)) (fun _ hk => hk.2) (.slice Ao39 x253002_1.length co39)) (fun _ hk => hk.2) (.slice Ao40 x253003_1.length co40)) (fun _ hk => hk.2) (.slice Ao41 x253004_1.length co41)) (fun _ hk => hk.2) (.slice none 0 0)) (fun _ hk => ⟨hk.1.1, ⟨hk.1.2.1, hk.1.2.2⟩⟩), by first | exact Kd.S_nil _ _ _ _ _ | exact Kd.N_nil _ _ _ _ _ | exact Kd.V_nil _ _ _ _ _ | exact Kd.Q_nil _ _ _ _ _ | exact Kd.R_nil _ _ _ _ _, kR1 HB⟩

/-! ### spec_l06Plain: function 64 -/
def spec_l06Plain.f (a0_0 : Int) (l0_1 : List Int) (l0_2 : List Int) (l0_3 : List Int) (l0_4 : List Int) (l0_5 : List (S97)) : Option (Bool) := if (l0_1.length : Int) = 0 then (if (l0_2.length : Int) = 0 then (if (l0_3.length : Int) = 0 then (some ((l0_4.length : Int) == 0)) else (some false)) else (some false)) else (some false)
set_option maxHeartbeats 8000000 in
set_option maxRecDepth 100000 in
theorem spec_l06Plain.calls (a0_0 : Int) (A0_1 : Option Addr) (c0_1 : Nat) (l0_1 : List Int) (A0_2 : Option Addr) (c0_2 : Nat) (l0_2 : List Int) (A0_3 : Option Addr) (c0_3 : Nat) (l0_3 : List Int) (A0_4 : Option Addr) (c0_4 : Nat) (l0_4 : List Int) (A0_5 : Option Addr) (c0_5 : Nat) (l0_5 : List (S97)) (r : Bool) (w : World) (hr0_1 : Kd.C (Kd.int .i64) w A0_1 l0_1.length l0_1) (hc0_1 : l0_1.length ≤ c0_1) (hr0_2 : Kd.C (Kd.int .i64) w A0_2 l0_2.length l0_2) (hc0_2 : l0_2.length ≤ c0_2) (hr0_3 : Kd.C (Kd.int .i64) w A0_3 l0_3.length l0_3) (hc0_3 : l0_3.length ≤ c0_3) (hr0_4 : Kd.C (Kd.int .i64) w A0_4 l0_4.length l0_4) (hc0_4 : l0_4.length ≤ c0_4) (hr0_5 : Kd.C k97 w A0_5 l0_5.length l0_5) (hc0_5 : l0_5.length ≤ c0_5) (h : spec_l06Plain.f a0_0 l0_1 l0_2 l0_3 l0_4 l0_5 = some r) :
 Calls Try.prog 64 #[.agg #[.int .i64 a0_0, .slice A0_1 l0_1.length c0_1, .slice A0_2 l0_2.length c0_2, .slice A0_3 l0_3.length c0_3, .slice A0_4 l0_4.length c0_4, .slice A0_5 l0_5.length c0_5]] w fun e w' => e = .returned (.bool r) ∧ Below w.heap.size w w' := by
 have hu28 := Try.underlying28
 have HR0_1 := yD hr0_1
 have HC0_1 := yD hc0_1
 clear hr0_1 hc0_1
 have HR0_2 := yD hr0_2
 have HC0_2 := yD hc0_2
 clear hr0_2 hc0_2
 have HR0_3 := yD hr0_3
 have HC0_3 := yD hc0_3
 clear hr0_3 hc0_3
 have HR0_4 := yD hr0_4
 have HC0_4 := yD hc0_4
 clear hr0_4 hc0_4
 have HR0_5 := yD hr0_5
 have HC0_5 := yD hc0_5
 clear hr0_5 hc0_5
 have HB := yD (Below.refl w.heap.size w)
 have H : (if (l0_1.length : Int) = 0 then (if (l0_2.length : Int) = 0 then (if (l0_3.length : Int) = 0 then (some ((l0_4.length : Int) == 0)) else (some false)) else (some false)) else (some false)) = some r := h
 clear h
 by_cases c2 : (l0_1.length : Int) = 0
 ·
  rw [if_pos c2] at H
  have c2b0 : ((l0_1.length : Int) == 0) = true := beq_iff_eq.mpr c2
  have c2b1 : ((l0_1.length : Int) != 0) = false := bne_eq_false_iff_eq.mpr c2
  clear c2
  by_cases c3 : (l0_2.length : Int) = 0
  ·
   rw [if_pos c3] at H
   have c3b0 : ((l0_2.length : Int) == 0) = true := beq_iff_eq.mpr c3
   have c3b1 : ((l0_2.length : Int) != 0) = false := bne_eq_false_iff_eq.mpr c3
   clear c3
   by_cases c4 : (l0_3.length : Int) = 0
   · rw [if_pos c4] at H
     have c4b0 : ((l0_3.length : Int) == 0) = true := beq_iff_eq.mpr c4
     have c4b1 : ((l0_3.length : Int) != 0) = false := bne_eq_false_iff_eq.mpr c4
     clear c4; obtain rfl := Option.some.inj H; go_enter Try.func64, Try.ntmps64
     go_wp2_with (first | ((with_reducible refine gate_dst (N := 1) rfl ?_); (try (refine gate_guard (by rfl) ?_; dsimp only)); refine box_event ?hg (N := 1) ?hd (cs := #[.int .i64 a0_0, .slice A0_1 l0_1.length c0_1, .slice A0_2 l0_2.length c0_2, .slice A0_3 l0_3.length c0_3, .slice A0_4 l0_4.length c0_4, .slice A0_5 l0_5.length c0_5]) (t := 28) ?hr ?_; (case hd => rfl); (case hg => rfl); (case hr => first | (go_simp; done) | (go_simp; rfl)); intro gb266 hg w5 hbox hb; have n0_ := yD (zC (kB HB) hb); have n1_ := yD (hbox); have n2_ := yD ((by rw [hg]; exact (below_size (kB HB)) : w.heap.size ≤ gb266)); have n3_ := yD ((by rw [hg]; exact (below_size (kB HB)) : w.heap.size ≤ gb266)); clear HB; have HB := n0_; have BK266 := n1_; have GW266 := n2_; have GE266 := n3_; clear n0_ n1_ n2_ n3_; clear hb hbox hg; obtain ⟨hcz6_0, hcz6_1, hcz6_2, hcz6_3, hcz6_4, hcz6_5⟩ := cz6 BK266.out; obtain ⟨hfz6_0, hfz6_1, hfz6_2, hfz6_3, hfz6_4, hfz6_5⟩ := fz6 BK266.out))
     go_ret
     exact ⟨by first | rfl | (simp <;> rfl) | (simp [*] <;> rfl), kR1 HB⟩
   ·
    rw [if_neg c4] at H
    have c4b0 : ((l0_3.length : Int) == 0) = false := beq_eq_false_iff_ne.mpr c4
    have c4b1 : ((l0_3.length : Int) != 0) = true := bne_iff_ne.mpr c4
    have c4b2 : ¬ (l0_3 = []) := fun h_ => c4 (by rw [h_]; rfl)
    obtain rfl := Option.some.inj H; go_enter Try.func64, Try.ntmps64
    go_wp2_with (first | ((with_reducible refine gate_dst (N := 1) rfl ?_); (try (refine gate_guard (by rfl) ?_; dsimp only)); refine box_event ?hg (N := 1) ?hd (cs := #[.int .i64 a0_0, .slice A0_1 l0_1.length c0_1, .slice A0_2 l0_2.length c0_2, .slice A0_3 l0_3.length c0_3, .slice A0_4 l0_4.length c0_4, .slice A0_5 l0_5.length c0_5]) (t := 28) ?hr ?_; (case hd => rfl); (case hg => rfl); (case hr => first | (go_simp; done) | (go_simp; rfl)); intro gb266 hg w7 hbox hb; have n0_ := yD (zC (kB HB) hb); have n1_ := yD (hbox); have n2_ := yD ((by rw [hg]; exact (below_size (kB HB)) : w.heap.size ≤ gb266)); have n3_ := yD ((by rw [hg]; exact (below_size (kB HB)) : w.heap.size ≤ gb266)); clear HB; have HB := n0_; have BK266 := n1_; have GW266 := n2_; have GE266 := n3_; clear n0_ n1_ n2_ n3_; clear hb hbox hg; obtain ⟨hcz8_0, hcz8_1, hcz8_2, hcz8_3, hcz8_4, hcz8_5⟩ := cz6 BK266.out; obtain ⟨hfz8_0, hfz8_1, hfz8_2, hfz8_3, hfz8_4, hfz8_5⟩ := fz6 BK266.out))
    go_ret
    exact ⟨by first | rfl | (simp <;> rfl) | (simp [*] <;> rfl), kR1 HB⟩
  ·
   rw [if_neg c3] at H
   have c3b0 : ((l0_2.length : Int) == 0) = false := beq_eq_false_iff_ne.mpr c3
   have c3b1 : ((l0_2.length : Int) != 0) = true := bne_iff_ne.mpr c3
   have c3b2 : ¬ (l0_2 = []) := fun h_ => c3 (by rw [h_]; rfl)
   obtain rfl := Option.some.inj H; go_enter Try.func64, Try.ntmps64
   go_wp2_with (first | ((with_reducible refine gate_dst (N := 1) rfl ?_); (try (refine gate_guard (by rfl) ?_; dsimp only)); refine box_event ?hg (N := 1) ?hd (cs := #[.int .i64 a0_0, .slice A0_1 l0_1.length c0_1, .slice A0_2 l0_2.length c0_2, .slice A0_3 l0_3.length c0_3, .slice A0_4 l0_4.length c0_4, .slice A0_5 l0_5.length c0_5]) (t := 28) ?hr ?_; (case hd => rfl); (case hg => rfl); (case hr => first | (go_simp; done) | (go_simp; rfl)); intro gb266 hg w9 hbox hb; have n0_ := yD (zC (kB HB) hb); have n1_ := yD (hbox); have n2_ := yD ((by rw [hg]; exact (below_size (kB HB)) : w.heap.size ≤ gb266)); have n3_ := yD ((by rw [hg]; exact (below_size (kB HB)) : w.heap.size ≤ gb266)); clear HB; have HB := n0_; have BK266 := n1_; have GW266 := n2_; have GE266 := n3_; clear n0_ n1_ n2_ n3_; clear hb hbox hg; obtain ⟨hcz10_0, hcz10_1, hcz10_2, hcz10_3, hcz10_4, hcz10_5⟩ := cz6 BK266.out; obtain ⟨hfz10_0, hfz10_1, hfz10_2, hfz10_3, hfz10_4, hfz10_5⟩ := fz6 BK266.out))
   go_ret
   exact ⟨by first | rfl | (simp <;> rfl) | (simp [*] <;> rfl), kR1 HB⟩
 ·
  rw [if_neg c2] at H
  have c2b0 : ((l0_1.length : Int) == 0) = false := beq_eq_false_iff_ne.mpr c2
  have c2b1 : ((l0_1.length : Int) != 0) = true := bne_iff_ne.mpr c2
  have c2b2 : ¬ (l0_1 = []) := fun h_ => c2 (by rw [h_]; rfl)
  obtain rfl := Option.some.inj H; go_enter Try.func64, Try.ntmps64
  go_wp2_with (first | ((with_reducible refine gate_dst (N := 1) rfl ?_); (try (refine gate_guard (by rfl) ?_; dsimp only)); refine box_event ?hg (N := 1) ?hd (cs := #[.int .i64 a0_0, .slice A0_1 l0_1.length c0_1, .slice A0_2 l0_2.length c0_2, .slice A0_3 l0_3.length c0_3, .slice A0_4 l0_4.length c0_4, .slice A0_5 l0_5.length c0_5]) (t := 28) ?hr ?_; (case hd => rfl); (case hg => rfl); (case hr => first | (go_simp; done) | (go_simp; rfl)); intro gb266 hg w11 hbox hb; have n0_ := yD (zC (kB HB) hb); have n1_ := yD (hbox); have n2_ := yD ((by rw [hg]; exact (below_size (kB HB)) : w.heap.size ≤ gb266)); have n3_ := yD ((by rw [hg]; exact (below_size (kB HB)) : w.heap.size ≤ gb266)); clear HB; have HB := n0_; have BK266 := n1_; have GW266 := n2_; have GE266 := n3_; clear n0_ n1_ n2_ n3_; clear hb hbox hg; obtain ⟨hcz12_0, hcz12_1, hcz12_2, hcz12_3, hcz12_4, hcz12_5⟩ := cz6 BK266.out; obtain ⟨hfz12_0, hfz12_1, hfz12_2, hfz12_3, hfz12_4, hfz12_5⟩ := fz6 BK266.out))
  go_ret
  exact ⟨by first | rfl | (simp <;> rfl) | (simp [*] <;> rfl), kR1 HB⟩

/-! ### spec_l06End: function 91 -/
def spec_l06End.f (a0_0 : Int) (l0_1 : List Int) (l0_2 : List Int) (l0_3 : List Int) (l0_4 : List Int) (l0_5 : List (S97)) (a1 : Int) : Option (Int) := if 0 ≤ a1 then (if a1 < (l0_1.length : Int) then (if a1 < (l0_3.length : Int) then (if a1 < (l0_2.length : Int) then (if a1 < (l0_4.length : Int) then (some (wrap64 ((wrap64 ((rd l0_1 a1) + (wrap64 ((wrap64 ((rd l0_3 a1) - 1)) * (rd l0_2 a1))))) + (rd l0_4 a1)))) else (none)) else (none)) else (none)) else (none)) else (none)
set_option maxHeartbeats 8000000 in
set_option maxRecDepth 100000 in
theorem spec_l06End.calls (a0_0 : Int) (A0_1 : Option Addr) (c0_1 : Nat) (l0_1 : List Int) (A0_2 : Option Addr) (c0_2 : Nat) (l0_2 : List Int) (A0_3 : Option Addr) (c0_3 : Nat) (l0_3 : List Int) (A0_4 : Option Addr) (c0_4 : Nat) (l0_4 : List Int) (A0_5 : Option Addr) (c0_5 : Nat) (l0_5 : List (S97)) (a1 : Int) (r : Int) (w : World) (hr0_1 : Kd.C (Kd.int .i64) w A0_1 l0_1.length l0_1) (hc0_1 : l0_1.length ≤ c0_1) (hr0_2 : Kd.C (Kd.int .i64) w A0_2 l0_2.length l0_2) (hc0_2 : l0_2.length ≤ c0_2) (hr0_3 : Kd.C (Kd.int .i64) w A0_3 l0_3.length l0_3) (hc0_3 : l0_3.length ≤ c0_3) (hr0_4 : Kd.C (Kd.int .i64) w A0_4 l0_4.length l0_4) (hc0_4 : l0_4.length ≤ c0_4) (hr0_5 : Kd.C k97 w A0_5 l0_5.length l0_5) (hc0_5 : l0_5.length ≤ c0_5) (h : spec_l06End.f a0_0 l0_1 l0_2 l0_3 l0_4 l0_5 a1 = some r) :
 Calls Try.prog 91 #[.agg #[.int .i64 a0_0, .slice A0_1 l0_1.length c0_1, .slice A0_2 l0_2.length c0_2, .slice A0_3 l0_3.length c0_3, .slice A0_4 l0_4.length c0_4, .slice A0_5 l0_5.length c0_5], .int .i64 a1] w fun e w' => e = .returned (.int .i64 r) ∧ Below w.heap.size w w' := by
 have hu28 := Try.underlying28
 have HR0_1 := yD hr0_1
 have HC0_1 := yD hc0_1
 clear hr0_1 hc0_1
 have HR0_2 := yD hr0_2
 have HC0_2 := yD hc0_2
 clear hr0_2 hc0_2
 have HR0_3 := yD hr0_3
 have HC0_3 := yD hc0_3
 clear hr0_3 hc0_3
 have HR0_4 := yD hr0_4
 have HC0_4 := yD hc0_4
 clear hr0_4 hc0_4
 have HR0_5 := yD hr0_5
 have HC0_5 := yD hc0_5
 clear hr0_5 hc0_5
 have HB := yD (Below.refl w.heap.size w)
 have H : (if 0 ≤ a1 then (if a1 < (l0_1.length : Int) then (if a1 < (l0_3.length : Int) then (if a1 < (l0_2.length : Int) then (if a1 < (l0_4.length : Int) then (some (wrap64 ((wrap64 ((rd l0_1 a1) + (wrap64 ((wrap64 ((rd l0_3 a1) - 1)) * (rd l0_2 a1))))) + (rd l0_4 a1)))) else (none)) else (none)) else (none)) else (none)) else (none)) = some r := h
 clear h
 by_cases c3 : 0 ≤ a1
 ·
  rw [if_pos c3] at H
  have c3b0 : decide (0 ≤ a1) = true := zR c3; clear c3
  by_cases c4 : a1 < (l0_1.length : Int)
  ·
   rw [if_pos c4] at H
   have c4b0 : decide (a1 < (l0_1.length : Int)) = true := zR c4; clear c4
   by_cases c5 : a1 < (l0_3.length : Int)
   ·
    rw [if_pos c5] at H
    have c5b0 : decide (a1 < (l0_3.length : Int)) = true := zR c5; clear c5
    by_cases c6 : a1 < (l0_2.length : Int)
    ·
     rw [if_pos c6] at H
     have c6b0 : decide (a1 < (l0_2.length : Int)) = true := zR c6; clear c6
     by_cases c7 : a1 < (l0_4.length : Int)
     · rw [if_pos c7] at H
       have c7b0 : decide (a1 < (l0_4.length : Int)) = true := zR c7; clear c7; obtain rfl := Option.some.inj H; go_enter Try.func91, Try.ntmps91
       go_wp2_with (first | ((with_reducible refine gate_dst (N := 2) rfl ?_); refine box_event ?hg (N := 2) ?hd (cs := #[.int .i64 a0_0, .slice A0_1 l0_1.length c0_1, .slice A0_2 l0_2.length c0_2, .slice A0_3 l0_3.length c0_3, .slice A0_4 l0_4.length c0_4, .slice A0_5 l0_5.length c0_5]) (t := 28) ?hr ?_; (case hd => rfl); (case hg => rfl); (case hr => first | (go_simp; done) | (go_simp; rfl)); intro gb267 hg w8 hbox hb; have n0_ := yD (zC (kB HB) hb); have n1_ := yD (hbox); have n2_ := yD ((by rw [hg]; exact (below_size (kB HB)) : w.heap.size ≤ gb267)); have n3_ := yD ((by rw [hg]; exact (below_size (kB HB)) : w.heap.size ≤ gb267)); clear HB; have HB := n0_; have BK267 := n1_; have GW267 := n2_; have GE267 := n3_; clear n0_ n1_ n2_ n3_; clear hb hbox hg; obtain ⟨hcz9_0, hcz9_1, hcz9_2, hcz9_3, hcz9_4, hcz9_5⟩ := cz6 BK267.out; obtain ⟨hfz9_0, hfz9_1, hfz9_2, hfz9_3, hfz9_4, hfz9_5⟩ := fz6 BK267.out; have p268 : 0 ≤ (a1 : Int) := zP (by assumption); have q268 : a1 < (l0_1.length : Int) := zP (by assumption); obtain ⟨ad268, e268, hx268_0⟩ := Kd.at_int HR0_1.out a1 p268 q268; cases e268; replace hx268_0 := (HB.out.cell (zQ w _ hx268_0)).trans hx268_0; replace p268 := eq_true p268; replace q268 := eq_true q268; have p269 : 0 ≤ (a1 : Int) := zP (by assumption); have q269 : a1 < (l0_3.length : Int) := zP (by assumption); obtain ⟨ad269, e269, hx269_0⟩ := Kd.at_int HR0_3.out a1 p269 q269; cases e269; replace hx269_0 := (HB.out.cell (zQ w _ hx269_0)).trans hx269_0; replace p269 := eq_true p269; replace q269 := eq_true q269; have p270 : 0 ≤ (a1 : Int) := zP (by assumption); have q270 : a1 < (l0_2.length : Int) := zP (by assumption); obtain ⟨ad270, e270, hx270_0⟩ := Kd.at_int HR0_2.out a1 p270 q270; cases e270; replace hx270_0 := (HB.out.cell (zQ w _ hx270_0)).trans hx270_0; replace p270 := eq_true p270; replace q270 := eq_true q270; have p271 : 0 ≤ (a1 : Int) := zP (by assumption); have q271 : a1 < (l0_4.length : Int) := zP (by assumption); obtain ⟨ad271, e271, hx271_0⟩ := Kd.at_int HR0_4.out a1 p271 q271; cases e271; replace hx271_0 := (HB.out.cell (zQ w _ hx271_0)).trans hx271_0; replace p271 := eq_true p271; replace q271 := eq_true q271))
       repeat (go_quiet (first | ((with_reducible refine gate_dst (N := 2) rfl ?_); refine box_event ?hg (N := 2) ?hd (cs := #[.int .i64 a0_0, .slice A0_1 l0_1.length c0_1, .slice A0_2 l0_2.length c0_2, .slice A0_3 l0_3.length c0_3, .slice A0_4 l0_4.length c0_4, .slice A0_5 l0_5.length c0_5]) (t := 28) ?hr ?_; (case hd => rfl); (case hg => rfl); (case hr => first | (go_simp; done) | (go_simp; rfl)); intro gb267 hg w8 hbox hb; have n0_ := yD (zC (kB HB) hb); have n1_ := yD (hbox); have n2_ := yD ((by rw [hg]; exact (below_size (kB HB)) : w.heap.size ≤ gb267)); have n3_ := yD ((by rw [hg]; exact (below_size (kB HB)) : w.heap.size ≤ gb267)); clear HB; have HB := n0_; have BK267 := n1_; have GW267 := n2_; have GE267 := n3_; clear n0_ n1_ n2_ n3_; clear hb hbox hg; obtain ⟨hcz9_0, hcz9_1, hcz9_2, hcz9_3, hcz9_4, hcz9_5⟩ := cz6 BK267.out; obtain ⟨hfz9_0, hfz9_1, hfz9_2, hfz9_3, hfz9_4, hfz9_5⟩ := fz6 BK267.out; have p268 : 0 ≤ (a1 : Int) := zP (by assumption); have q268 : a1 < (l0_1.length : Int) := zP (by assumption); obtain ⟨ad268, e268, hx268_0⟩ := Kd.at_int HR0_1.out a1 p268 q268; cases e268; replace hx268_0 := (HB.out.cell (zQ w _ hx268_0)).trans hx268_0; replace p268 := eq_true p268; replace q268 := eq_true q268; have p269 : 0 ≤ (a1 : Int) := zP (by assumption); have q269 : a1 < (l0_3.length : Int) := zP (by assumption); obtain ⟨ad269, e269, hx269_0⟩ := Kd.at_int HR0_3.out a1 p269 q269; cases e269; replace hx269_0 := (HB.out.cell (zQ w _ hx269_0)).trans hx269_0; replace p269 := eq_true p269; replace q269 := eq_true q269; have p270 : 0 ≤ (a1 : Int) := zP (by assumption); have q270 : a1 < (l0_2.length : Int) := zP (by assumption); obtain ⟨ad270, e270, hx270_0⟩ := Kd.at_int HR0_2.out a1 p270 q270; cases e270; replace hx270_0 := (HB.out.cell (zQ w _ hx270_0)).trans hx270_0; replace p270 := eq_true p270; replace q270 := eq_true q270; have p271 : 0 ≤ (a1 : Int) := zP (by assumption); have q271 : a1 < (l0_4.length : Int) := zP (by assumption); obtain ⟨ad271, e271, hx271_0⟩ := Kd.at_int HR0_4.out a1 p271 q271; cases e271; replace hx271_0 := (HB.out.cell (zQ w _ hx271_0)).trans hx271_0; replace p271 := eq_true p271; replace q271 := eq_true q271)); try go_wp2_with (first | ((with_reducible refine gate_dst (N := 2) rfl ?_); refine box_event ?hg (N := 2) ?hd (cs := #[.int .i64 a0_0, .slice A0_1 l0_1.length c0_1, .slice A0_2 l0_2.length c0_2, .slice A0_3 l0_3.length c0_3, .slice A0_4 l0_4.length c0_4, .slice A0_5 l0_5.length c0_5]) (t := 28) ?hr ?_; (case hd => rfl); (case hg => rfl); (case hr => first | (go_simp; done) | (go_simp; rfl)); intro gb267 hg w8 hbox hb; have n0_ := yD (zC (kB HB) hb); have n1_ := yD (hbox); have n2_ := yD ((by rw [hg]; exact (below_size (kB HB)) : w.heap.size ≤ gb267)); have n3_ := yD ((by rw [hg]; exact (below_size (kB HB)) : w.heap.size ≤ gb267)); clear HB; have HB := n0_; have BK267 := n1_; have GW267 := n2_; have GE267 := n3_; clear n0_ n1_ n2_ n3_; clear hb hbox hg; obtain ⟨hcz9_0, hcz9_1, hcz9_2, hcz9_3, hcz9_4, hcz9_5⟩ := cz6 BK267.out; obtain ⟨hfz9_0, hfz9_1, hfz9_2, hfz9_3, hfz9_4, hfz9_5⟩ := fz6 BK267.out; have p268 : 0 ≤ (a1 : Int) := zP (by assumption); have q268 : a1 < (l0_1.length : Int) := zP (by assumption); obtain ⟨ad268, e268, hx268_0⟩ := Kd.at_int HR0_1.out a1 p268 q268; cases e268; replace hx268_0 := (HB.out.cell (zQ w _ hx268_0)).trans hx268_0; replace p268 := eq_true p268; replace q268 := eq_true q268; have p269 : 0 ≤ (a1 : Int) := zP (by assumption); have q269 : a1 < (l0_3.length : Int) := zP (by assumption); obtain ⟨ad269, e269, hx269_0⟩ := Kd.at_int HR0_3.out a1 p269 q269; cases e269; replace hx269_0 := (HB.out.cell (zQ w _ hx269_0)).trans hx269_0; replace p269 := eq_true p269; replace q269 := eq_true q269; have p270 : 0 ≤ (a1 : Int) := zP (by assumption); have q270 : a1 < (l0_2.length : Int) := zP (by assumption); obtain ⟨ad270, e270, hx270_0⟩ := Kd.at_int HR0_2.out a1 p270 q270; cases e270; replace hx270_0 := (HB.out.cell (zQ w _ hx270_0)).trans hx270_0; replace p270 := eq_true p270; replace q270 := eq_true q270; have p271 : 0 ≤ (a1 : Int) := zP (by assumption); have q271 : a1 < (l0_4.length : Int) := zP (by assumption); obtain ⟨ad271, e271, hx271_0⟩ := Kd.at_int HR0_4.out a1 p271 q271; cases e271; replace hx271_0 := (HB.out.cell (zQ w _ hx271_0)).trans hx271_0; replace p271 := eq_true p271; replace q271 := eq_true q271)))
       go_ret
       exact ⟨by first | rfl | (simp <;> rfl) | (simp [*] <;> rfl), kR1 HB⟩
     · rw [if_neg c7] at H
       exact absurd H (by simp)
    · rw [if_neg c6] at H
      exact absurd H (by simp)
   · rw [if_neg c5] at H
     exact absurd H (by simp)
  · rw [if_neg c4] at H
    exact absurd H (by simp)
 · rw [if_neg c3] at H
   exact absurd H (by simp)

end Go.Proofs.Ytgpkkplabnliiaa.PFnRanges
