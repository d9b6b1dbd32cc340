/- Each Go function here comes to what the plain function of its name says, where that says something. Made by a program of this session, over the print. -/
import Derived.Test.YtgpkkplabnliiaaPFnRangesx0
import Derived.Test.YtgpkkplabnliiaaPFnRangesx2
namespace Go.Proofs.Ytgpkkplabnliiaa.PFnRanges
open Go.RowKit Go.Proofs.YtgpkkplabnliiaaW.PrintWords Go.Proofs.YtgpkkplabnliiaaW.PrintLast Go.Proofs.YtgpkkplabnliiaaW.PrintMore
attribute [local go_sem] max2_int min2_int max_two min_two max_three min_three max_four min_four   -- for this text's walks alone
set_option linter.unusedVariables false
set_option linter.unusedSimpArgs false

/-! ### impl_rangeOf: function 29 -/
def impl_rangeOf.l0 : Nat → List Int → List Int → Int → Int → Int → List Int → List Int → List Int → List Int → Option (Int × List Int × List Int × List Int × List Int × (List (S97)))
 | 0, _, _, _, _, _, _, _, _, _ => none
 | k + 1, x0, x1, x11, x12, x211000, x211001, x211002, x211003, x211004 => if x12 < x11 then (if x211003.length < 17592186044416 then (if 0 ≤ x12 then (if x12 < (x1.length : Int) then (if x12 < (x0.length : Int) then (if x211002.length < 17592186044416 then (if x211004.length < 17592186044416 then (impl_rangeOf.l0 k x0 x1 x11 (wrap64 (x12 + 1)) x211000 x211001 (x211002 ++ [wrap64 ((rd x1 x12) - (rd x0 x12))]) (x211003 ++ [1]) (x211004 ++ [wrap64 ((rd x1 x12) - (rd x0 x12))])) else (none)) else (none)) else (none)) else (none)) else (none)) else (none)) else (some (x211000, x211001, x211002, x211003, x211004, ([] : List (S97))))
def impl_rangeOf.f (k : Nat) (l0 : List Int) (l1 : List Int) : Option (Int × List Int × List Int × List Int × List Int × (List (S97))) := (slices_Clone_int64_int64.f l0).bind fun t207 => (impl_rangeOf.l0 k l0 l1 (l0.length : Int) 0 3 t207 ([] : List Int) ([] : List Int) ([] : List Int))
theorem impl_rangeOf.mono_l : ∀ k, (∀ y0 y1 y2 y3 y4 y5 y6 y7 y8, LeO (impl_rangeOf.l0 k y0 y1 y2 y3 y4 y5 y6 y7 y8) (impl_rangeOf.l0 (k + 1) y0 y1 y2 y3 y4 y5 y6 y7 y8))
 | 0 => fun _ _ _ _ _ _ _ _ _ r h => by simp [impl_rangeOf.l0] at h
 | k + 1 => by
  have ih0 := impl_rangeOf.mono_l k
  ·
   intro y0 y1 y2 y3 y4 y5 y6 y7 y8
   unfold impl_rangeOf.l0
   repeat' first
   | (with_reducible exact ih0 _ _ _ _ _ _ _ _ _)
   | (with_reducible exact LeO.refl _)
   | (with_reducible exact LeO.none _)
   | (with_reducible refine LeO.ite ?_ ?_)
   | (with_reducible refine LeO.bind ?_ (fun _ => ?_))
   | exact ih0 _ _ _ _ _ _ _ _ _
   | exact LeO.none _
   | refine LeO.ite ?_ ?_
   | refine LeO.bind ?_ (fun _ => ?_)
theorem impl_rangeOf.mono : ∀ a0 a1 k, LeO (impl_rangeOf.f k a0 a1) (impl_rangeOf.f (k + 1) a0 a1) := by
 intro a0 a1 k
 have ih0 := impl_rangeOf.mono_l k
 unfold impl_rangeOf.f
 repeat' first
  | (with_reducible exact ih0 _ _ _ _ _ _ _ _ _)
  | (with_reducible exact LeO.refl _)
  | (with_reducible exact LeO.none _)
  | (with_reducible refine LeO.ite ?_ ?_)
  | (with_reducible refine LeO.bind ?_ (fun _ => ?_))
  | exact ih0 _ _ _ _ _ _ _ _ _
  | exact LeO.none _
  | refine LeO.ite ?_ ?_
  | refine LeO.bind ?_ (fun _ => ?_)
def impl_rangeOf.T6 : Bool × List (List Nat × List Nat) := (true, [([], []), ([0], [0]), ([], []), ([], []), ([2, 3], [2, 3]), ([4], [4]), ([], []), ([], []), ([6, 7], [6, 7]), ([8], [8]), ([5, 9], [5, 9]), ([10], [10]), ([1, 11], [1, 11]), ([0, 1, 2, 3, 4, 5, 6, 7, 8, 9, 10, 11, 12], []), ([13, 12, 12, 0, 1, 2, 3, 4, 5, 6, 7, 8, 9, 10, 11, 12], [12, 13])])
def impl_rangeOf.B6 : List Nat := [0, 1, 0, 0, 12, 28, 0, 0, 192, 448, 1020, 2044, 4095, 8191, 16383]
theorem impl_rangeOf.tab6 : rtab .any (opsOf Try.f29 6) = impl_rangeOf.T6 := by kernel_rfl
theorem impl_rangeOf.bits6 : waitsOk impl_rangeOf.T6.2 impl_rangeOf.B6 = true := by kernel_rfl
def impl_rangeOf.T7 : Bool × List (List Nat × List Nat) := (true, [([], []), ([0], [0]), ([], []), ([], []), ([2, 3], [2, 3]), ([4], [4]), ([], []), ([], []), ([6, 7], [6, 7]), ([8], [8]), ([5, 9], [5, 9]), ([10], [10]), ([1, 11], [1, 11]), ([0, 1, 2, 3, 4, 5, 6, 7, 8, 9, 10, 11, 12], []), ([13, 12, 12, 0, 1, 2, 3, 4, 5, 6, 7, 8, 9, 10, 11, 12], [12, 13])])
def impl_rangeOf.B7 : List Nat := [0, 1, 0, 0, 12, 28, 0, 0, 192, 448, 1020, 2044, 4095, 8191, 16383]
theorem impl_rangeOf.tab7 : rtab .any (opsOf Try.f29 7) = impl_rangeOf.T7 := by kernel_rfl
theorem impl_rangeOf.bits7 : waitsOk impl_rangeOf.T7.2 impl_rangeOf.B7 = true := by kernel_rfl
set_option maxHeartbeats 8000000 in
set_option maxRecDepth 100000 in
theorem impl_rangeOf.calls (k : Nat) (A0 : Option Addr) (c0 : Nat) (l0 : List Int) (A1 : Option Addr) (c1 : Nat) (l1 : List Int) (r1 : Int) (r2 : List Int) (r3 : List Int) (r4 : List Int) (r5 : List Int) (r6 : List (S97)) (w : World) (hr0 : Kd.C (Kd.int .i64) w A0 l0.length l0) (hc0 : l0.length ≤ c0) (hr1 : Kd.C (Kd.int .i64) w A1 l1.length l1) (hc1 : l1.length ≤ c1) (h : impl_rangeOf.f k l0 l1 = some (r1, r2, r3, r4, r5, r6)) :
 Calls Try.prog 29 #[.slice A0 l0.length c0, .slice A1 l1.length c1] w fun e w' => ∃ v1_ v2_ v3_ v4_ v5_ : Value, e = .returned (.agg #[.int .i64 r1, v1_, v2_, v3_, v4_, v5_]) ∧ Kd.R (Kd.int .i64) 2 w' w.heap.size (fun k_ => some k_ ≠ (v2_ : Value).ownBlock ∧ some k_ ≠ (v3_ : Value).ownBlock ∧ some k_ ≠ (v4_ : Value).ownBlock) v1_ r2 ∧ Kd.R (Kd.int .i64) 2 w' w.heap.size (fun k_ => some k_ ≠ (v1_ : Value).ownBlock ∧ some k_ ≠ (v3_ : Value).ownBlock ∧ some k_ ≠ (v4_ : Value).ownBlock) v2_ r3 ∧ Kd.R (Kd.int .i64) 2 w' w.heap.size (fun k_ => some k_ ≠ (v1_ : Value).ownBlock ∧ some k_ ≠ (v2_ : Value).ownBlock ∧ some k_ ≠ (v4_ : Value).ownBlock) v3_ r4 ∧ Kd.R (Kd.int .i64) 2 w' w.heap.size (fun k_ => some k_ ≠ (v1_ : Value).ownBlock ∧ some k_ ≠ (v2_ : Value).ownBlock ∧ some k_ ≠ (v3_ : Value).ownBlock) v4_ r5 ∧ Kd.S k97 97 w' w.heap.size (fun k_ => some k_ ≠ (v1_ : Value).ownBlock ∧ some k_ ≠ (v2_ : Value).ownBlock ∧ some k_ ≠ (v3_ : Value).ownBlock ∧ some k_ ≠ (v4_ : Value).ownBlock) v5_ r6 ∧ Below w.heap.size w w' := by
 have hu28 := Try.underlying28
 have HR0 := yD hr0
 have HC0 := yD hc0
 clear hr0 hc0
 have HR1 := yD hr1
 have HC1 := yD hc1
 clear hr1 hc1
 have HB := yD (Below.refl w.heap.size w)
 have H : ((slices_Clone_int64_int64.f l0).bind fun t207 => (impl_rangeOf.l0 k l0 l1 (l0.length : Int) 0 3 t207 ([] : List Int) ([] : List Int) ([] : List Int))) = some (r1, r2, r3, r4, r5, r6) := h
 clear h
 obtain ⟨t207, A30, H⟩ := zW_ H
 replace H : (impl_rangeOf.l0 k l0 l1 (l0.length : Int) 0 3 t207 ([] : List Int) ([] : List Int) ([] : List Int)) = some (r1, r2, r3, r4, r5, r6) := H
 have A3 := yD A30
 clear A30
 have H' := yD H
 clear H; go_enter Try.func29, Try.ntmps29
 go_wp2_with (first | ((with_reducible refine gate_dst (N := 4) rfl ?_); refine box_event ?hg (N := 4) ?hd (cs := #[.int .i64 0, .slice none 0 0, .slice none 0 0, .slice none 0 0, .slice none 0 0, .slice none 0 0]) (t := 28) ?hr ?_; (case hd => rfl); (case hg => rfl); (case hr => first | (go_simp; done) | (go_simp; rfl)); intro gb206 hg w4 hbox hb; have n0_ := yD (zC (kB HB) hb); have n1_ := yD (hbox); have n2_ := yD ((by rw [hg]; exact (below_size (kB HB)) : w.heap.size ≤ gb206)); have n3_ := yD ((by rw [hg]; exact (below_size (kB HB)) : w.heap.size ≤ gb206)); clear HB; have HB := n0_; have BK206 := n1_; have GW206 := n2_; have GE206 := n3_; clear n0_ n1_ n2_ n3_; clear hb hbox hg) | ((with_reducible refine gate_callee (f := 62) rfl ?_); refine goesL_ (some 8) rfl rfl Try.func62 (by kernel_rfl) rfl #[.slice A0 l0.length c0] rfl (by (try simp only [zK, zL, zM]); first | done | rfl | (simp only [zN, zO]; rfl)) ?_; (with_reducible refine (slices_Clone_int64_int64.calls _ _ l0 t207 _ ?side1 ?side2 A3.out).mono ?_); (case side1 => exact kV (yY HR0.out HB.out)); (case side2 => exact HC0.out); rintro e w5 ⟨v208, rfl, ho0, hb⟩; refine ⟨_, rfl, ?_⟩; have n0_ := yD (yZ ho0 (below_size (kB HB))); have n1_ := yD (zB (g := gb206) (o := .cells #[.int .i64 0, .slice none 0 0, .slice none 0 0, .slice none 0 0, .slice none 0 0, .slice none 0 0] 28 (0, 0)) (kM BK206) hb); have n2_ := yD (zC (kB HB) hb); clear BK206; clear HB; have HO209 := n0_; have BK206 := n1_; have HB := n2_; clear n0_ n1_ n2_; (try clear hb); (try clear hb2); (try clear hk); (try clear hi); (try clear ho0); obtain ⟨Ao6, co6, eo6⟩ := Kd.R_slice HO209.out; subst eo6) | ((with_reducible refine gate_dst (N := 5) rfl ?_); refine box_event ?hg (N := 5) ?hd (cs := #[.int .i64 0, .slice none 0 0, .slice none 0 0, .slice none 0 0, .slice none 0 0, .slice none 0 0]) (t := 28) ?hr ?_; (case hd => rfl); (case hg => rfl); (case hr => first | (go_simp; done) | (go_simp; rfl)); intro gb210 hg w7 hbox hb; have n0_ := yD (zE (kA HO209) hb); have n1_ := yD (zB (g := gb206) (o := .cells #[.int .i64 0, .slice none 0 0, .slice none 0 0, .slice none 0 0, .slice none 0 0, .slice none 0 0] 28 (0, 0)) (kM BK206) hb); have n2_ := yD (zC (kB HB) hb); have n3_ := yD (hbox); have n4_ := yD ((by rw [hg]; exact (below_size (kB HB)) : w.heap.size ≤ gb210)); have n5_ := yD ((by rw [hg]; exact (below_size (kB HB)) : w.heap.size ≤ gb210)); have n6_ := yD ((by rw [hg]; exact Nat.ne_of_lt (blk_lt (g := gb206) (o := .cells #[.int .i64 0, .slice none 0 0, .slice none 0 0, .slice none 0 0, .slice none 0 0, .slice none 0 0] 28 (0, 0)) (kM BK206)) : gb206 ≠ gb210)); have n7_ := yD ((by rw [hg]; exact Nat.ne_of_gt (blk_lt (g := gb206) (o := .cells #[.int .i64 0, .slice none 0 0, .slice none 0 0, .slice none 0 0, .slice none 0 0, .slice none 0 0] 28 (0, 0)) (kM BK206)) : gb210 ≠ gb206)); clear HO209; clear BK206; clear HB; have HO209 := n0_; have BK206 := n1_; have HB := n2_; have BK210 := n3_; have GW210 := n4_; have GE210 := n5_; have NB206_210 := n6_; have NB210_206 := n7_; clear n0_ n1_ n2_ n3_ n4_ n5_ n6_ n7_; clear hb hbox hg; have hnb8 := NB210_206.out; have hnc8 := NB206_210.out; obtain ⟨hcz9_0, hcz9_1, hcz9_2, hcz9_3, hcz9_4, hcz9_5⟩ := cz6 BK210.out; obtain ⟨hfz9_0, hfz9_1, hfz9_2, hfz9_3, hfz9_4, hfz9_5⟩ := fz6 BK210.out))
 go_loopg [12] k (fun kq v12 w' => ∃ (x12_1 : Int) (x211002_1 : List Int) (x211003_1 : List Int) (x211004_1 : List Int) (u211002 : Value) (u211003 : Value) (u211004 : Value), v12 = .int .i64 x12_1 ∧ Aside0 (impl_rangeOf.l0 kq l0 l1 (l0.length : Int) x12_1 3 t207 x211002_1 x211003_1 x211004_1 = some (r1, r2, r3, r4, r5, r6)) ∧ Aside0 (kq ≤ k) ∧ Aside0 (Kd.R (Kd.int .i64) 2 w' w.heap.size (fun k_ => some k_ ≠ (u211002 : Value).ownBlock ∧ some k_ ≠ (u211003 : Value).ownBlock ∧ some k_ ≠ (u211004 : Value).ownBlock) (.slice Ao6 t207.length co6) t207) ∧ Aside0 (Kd.R (Kd.int .i64) 2 w' w.heap.size (fun k_ => some k_ ≠ ((.slice Ao6 t207.length co6) : Value).ownBlock ∧ some k_ ≠ (u211003 : Value).ownBlock ∧ some k_ ≠ (u211004 : Value).ownBlock) u211002 x211002_1) ∧ Aside0 (Kd.R (Kd.int .i64) 2 w' w.heap.size (fun k_ => some k_ ≠ ((.slice Ao6 t207.length co6) : Value).ownBlock ∧ some k_ ≠ (u211002 : Value).ownBlock ∧ some k_ ≠ (u211004 : Value).ownBlock) u211003 x211003_1) ∧ Aside0 (Kd.R (Kd.int .i64) 2 w' w.heap.size (fun k_ => some k_ ≠ ((.slice Ao6 t207.length co6) : Value).ownBlock ∧ some k_ ≠ (u211002 : Value).ownBlock ∧ some k_ ≠ (u211003 : Value).ownBlock) u211004 x211004_1) ∧ Aside0 (w'.heap[gb206]? = some (.cells #[.int .i64 0, (.slice none 0 0), (.slice none 0 0), (.slice none 0 0), (.slice none 0 0), (.slice none 0 0)] 28 (0, 0))) ∧ Aside0 (w'.heap[gb210]? = some (.cells #[.int .i64 3, (.slice Ao6 t207.length co6), u211002, u211003, u211004, (.slice none 0 0)] 28 (0, 0))) ∧ Aside0 (Below w.heap.size w w'))
 case atStart => exact ⟨(0), (([] : List Int)), (([] : List Int)), (([] : List Int)), (.slice none 0 0), (.slice none 0 0), (.slice none 0 0), (by first | rfl | (simp; done) | (simp [*]; done)), H', ⟨Nat.le_refl _⟩, ⟨by (with_reducible repeat (first | apply yA | apply yB | apply yC)); exact zF (yF (p := ⟨gb210, 5, none⟩) (yF (p := ⟨gb210, 4, none⟩) (yF (p := ⟨gb210, 3, none⟩) (yF (p := ⟨gb210, 2, none⟩) (yF (p := ⟨gb210, 1, none⟩) (yF (p := ⟨gb210, 0, none⟩) (Kd.R_types HO209.out BK210.out (by decide)) (fun _ hk => hk.2) (.int .i64 3)) (fun _ hk => hk.2) (.slice Ao6 t207.length co6)) (fun _ hk => hk.2) (.slice none 0 0)) (fun _ hk => hk.2) (.slice none 0 0)) (fun _ hk => hk.2) (.slice none 0 0)) (fun _ hk => hk.2) (.slice none 0 0)) (fun _ hk => ⟨(by simp [Value.ownBlock]), ⟨(by simp [Value.ownBlock]), (by simp [Value.ownBlock])⟩⟩)⟩, ⟨by first | exact Kd.R_nil _ _ _ _ _ | exact Kd.N_nil _ _ _ _ _ | exact Kd.V_nil _ _ _ _ _ | exact Kd.Q_nil _ _ _ _ _ | exact Kd.S_nil _ _ _ _ _⟩, ⟨by first | exact Kd.R_nil _ _ _ _ _ | exact Kd.N_nil _ _ _ _ _ | exact Kd.V_nil _ _ _ _ _ | exact Kd.Q_nil _ _ _ _ _ | exact Kd.S_nil _ _ _ _ _⟩, ⟨by first | exact Kd.R_nil _ _ _ _ _ | exact Kd.N_nil _ _ _ _ _ | exact Kd.V_nil _ _ _ _ _ | exact Kd.Q_nil _ _ _ _ _ | exact Kd.S_nil _ _ _ _ _⟩, ⟨by (with_reducible repeat (first | refine yM ?_ _ | refine yO ?_ | refine yN ?_ _)); refine blk_far ?_ NB206_210.out _; (with_reducible repeat (first | refine yM ?_ _ | refine yO ?_ | refine yN ?_ _)); refine blk_far ?_ NB206_210.out _; (with_reducible repeat (first | refine yM ?_ _ | refine yO ?_ | refine yN ?_ _)); refine blk_far ?_ NB206_210.out _; (with_reducible repeat (first | refine yM ?_ _ | refine yO ?_ | refine yN ?_ _)); refine blk_far ?_ NB206_210.out _; (with_reducible repeat (first | refine yM ?_ _ | refine yO ?_ | refine yN ?_ _)); refine blk_far ?_ NB206_210.out _; (with_reducible repeat (first | refine yM ?_ _ | refine yO ?_ | refine yN ?_ _)); refine blk_far ?_ NB206_210.out _; (with_reducible repeat (first | refine yM ?_ _ | refine yO ?_ | refine yN ?_ _)); exact BK206.out⟩, ⟨by (with_reducible repeat (first | refine yM ?_ _ | refine yO ?_ | refine yN ?_ _)); refine blk_put (cs := #[.int .i64 3, .slice Ao6 t207.length co6, .slice none 0 0, .slice none 0 0, .slice none 0 0, .slice none 0 0]) ?_ 5 _ rfl; (with_reducible repeat (first | refine yM ?_ _ | refine yO ?_ | refine yN ?_ _)); refine blk_put (cs := #[.int .i64 3, .slice Ao6 t207.length co6, .slice none 0 0, .slice none 0 0, .slice none 0 0, .slice none 0 0]) ?_ 4 _ rfl; (with_reducible repeat (first | refine yM ?_ _ | refine yO ?_ | refine yN ?_ _)); refine blk_put (cs := #[.int .i64 3, .slice Ao6 t207.length co6, .slice none 0 0, .slice none 0 0, .slice none 0 0, .slice none 0 0]) ?_ 3 _ rfl; (with_reducible repeat (first | refine yM ?_ _ | refine yO ?_ | refine yN ?_ _)); refine blk_put (cs := #[.int .i64 3, .slice Ao6 t207.length co6, .slice none 0 0, .slice none 0 0, .slice none 0 0, .slice none 0 0]) ?_ 2 _ rfl; (with_reducible repeat (first | refine yM ?_ _ | refine yO ?_ | refine yN ?_ _)); refine blk_put (cs := #[.int .i64 3, .slice none 0 0, .slice none 0 0, .slice none 0 0, .slice none 0 0, .slice none 0 0]) ?_ 1 _ rfl; (with_reducible repeat (first | refine yM ?_ _ | refine yO ?_ | refine yN ?_ _)); refine blk_put (cs := #[.int .i64 0, .slice none 0 0, .slice none 0 0, .slice none 0 0, .slice none 0 0, .slice none 0 0]) ?_ 0 _ rfl; (with_reducible repeat (first | refine yM ?_ _ | refine yO ?_ | refine yN ?_ _)); exact BK210.out⟩, ⟨kR1 HB⟩⟩
 case round =>
  clear H'
  try clear c1; try clear c2; try clear p2; try clear c6; try clear c8; try clear hcz9_0; try clear hcz9_1; try clear hcz9_2; try clear hcz9_3; try clear hcz9_4; try clear hcz9_5; try clear hfz9_0; try clear hfz9_1; try clear hfz9_2; try clear hfz9_3; try clear hfz9_4; try clear hfz9_5
  obtain ⟨x12_1, x211002_1, x211003_1, x211004_1, u211002, u211003, u211004, rfl, HA, HK1, HO_211001, HO_211002, HO_211003, HO_211004, BK206, BK210, HB⟩ := hrel
  cases gk with
  | zero => exact absurd HA.out (by simp [impl_rangeOf.l0])
  | succ k1 =>
   have H := HA.out; clear HA
   simp only [impl_rangeOf.l0] at H
   by_cases c10 : x12_1 < (l0.length : Int)
   ·
    rw [if_pos c10] at H
    have c10b0 : decide (x12_1 < (l0.length : Int)) = true := zR c10; clear c10
    by_cases c11 : x211003_1.length < 17592186044416
    ·
     rw [if_pos c11] at H
     have LMc11 := yD c11
     clear c11
     obtain ⟨y211, hy211⟩ : ∃ y_ : List Int, y_ = (x211003_1 ++ [1]) := ⟨_, rfl⟩
     replace H : (if 0 ≤ x12_1 then (if x12_1 < (l1.length : Int) then (if x12_1 < (l0.length : Int) then (if x211002_1.length < 17592186044416 then (if x211004_1.length < 17592186044416 then (impl_rangeOf.l0 k1 l0 l1 (l0.length : Int) (wrap64 (x12_1 + 1)) 3 t207 (x211002_1 ++ [wrap64 ((rd l1 x12_1) - (rd l0 x12_1))]) y211 (x211004_1 ++ [wrap64 ((rd l1 x12_1) - (rd l0 x12_1))])) else (none)) else (none)) else (none)) else (none)) else (none)) = some (r1, r2, r3, r4, r5, r6) := by first | (rw [hy211]; with_reducible exact H) | (have H2_ := (Option.bind_some _ _).symm.trans H; rw [hy211]; with_reducible exact H2_) | (have H2_ := (Option.bind_some _ _).symm.trans H; with_reducible exact H2_) | with_reducible exact H | (rw [hy211]; exact H) | exact H
     have Ny211 := yD hy211
     clear hy211
     by_cases c12 : 0 ≤ x12_1
     ·
      rw [if_pos c12] at H
      have c12b0 : decide (0 ≤ x12_1) = true := zR c12; clear c12
      by_cases c13 : x12_1 < (l1.length : Int)
      ·
       rw [if_pos c13] at H
       have c13b0 : decide (x12_1 < (l1.length : Int)) = true := zR c13; clear c13
       by_cases c14 : x12_1 < (l0.length : Int)
       ·
        rw [if_pos c14] at H
        have c14b0 : decide (x12_1 < (l0.length : Int)) = true := zR c14; clear c14
        by_cases c15 : x211002_1.length < 17592186044416
        ·
         rw [if_pos c15] at H
         have LMc15 := yD c15
         clear c15
         obtain ⟨y216, hy216⟩ : ∃ y_ : List Int, y_ = (x211002_1 ++ [wrap64 ((rd l1 x12_1) - (rd l0 x12_1))]) := ⟨_, rfl⟩
         replace H : (if x211004_1.length < 17592186044416 then (impl_rangeOf.l0 k1 l0 l1 (l0.length : Int) (wrap64 (x12_1 + 1)) 3 t207 y216 y211 (x211004_1 ++ [wrap64 ((rd l1 x12_1) - (rd l0 x12_1))])) else (none)) = some (r1, r2, r3, r4, r5, r6) := by first | (rw [hy216]; with_reducible exact H) | (have H2_ := (Option.bind_some _ _).symm.trans H; rw [hy216]; with_reducible exact H2_) | (have H2_ := (Option.bind_some _ _).symm.trans H; with_reducible exact H2_) | with_reducible exact H | (rw [hy216]; exact H) | exact H
         have Ny216 := yD hy216
         clear hy216
         by_cases c16 : x211004_1.length < 17592186044416
         ·
          rw [if_pos c16] at H
          have LMc16 := yD c16
          clear c16
          obtain ⟨y221, hy221⟩ : ∃ y_ : List Int, y_ = (x211004_1 ++ [wrap64 ((rd l1 x12_1) - (rd l0 x12_1))]) := ⟨_, rfl⟩
          replace H : (impl_rangeOf.l0 k1 l0 l1 (l0.length : Int) (wrap64 (x12_1 + 1)) 3 t207 y216 y211 y221) = some (r1, r2, r3, r4, r5, r6) := by first | (rw [hy221]; with_reducible exact H) | (have H2_ := (Option.bind_some _ _).symm.trans H; rw [hy221]; with_reducible exact H2_) | (have H2_ := (Option.bind_some _ _).symm.trans H; with_reducible exact H2_) | with_reducible exact H | (rw [hy221]; exact H) | exact H
          have Ny221 := yD hy221
          clear hy221
          have H' := yD H
          clear H; have hnb17 := NB210_206.out; have hnc17 := NB206_210.out
          obtain ⟨hcz18_0, hcz18_1, hcz18_2, hcz18_3, hcz18_4, hcz18_5⟩ := cz6 BK210.out
          obtain ⟨hfz18_0, hfz18_1, hfz18_2, hfz18_3, hfz18_4, hfz18_5⟩ := fz6 BK210.out
          try go_wp2_with (first | ((with_reducible refine gate_builtin (b := .append) (xs := #[.tmp 16, .tmp 17]) rfl ?_); at_builtin; refine Kd.R_append (Kd.int .i64) (w0 := w) w.heap.size rfl (.tmp 16) (.tmp 17) 23 2 (.int .i64 0) 8 rfl Try.underlying23 info2 rfl (by decide) (by omega) u211003 x211003_1 1 [.int .i64 1] (fun k_ => some k_ ≠ (.slice Ao6 t207.length co6 : Value).ownBlock ∧ some k_ ≠ (u211002 : Value).ownBlock ∧ some k_ ≠ (u211004 : Value).ownBlock) (fun _ => False) rfl rfl ?aP (fun _ hk => hk.elim) ?aF ?aO ?aB ?aS ?aL ?_; (case aP => exact rfl); (case aB => exact (kB HB)); (case aF => exact (fun k_ hk => ⟨Kd.fresh' (yK (kA HO_211001)) k_ hk, Kd.fresh' (yK (kA HO_211002)) k_ hk, Kd.fresh' (yK (kA HO_211004)) k_ hk⟩)); (case aO => exact (kA HO_211003)); (case aS => exact (below_size (kB HB))); (case aL => have := LMc11.out; omega); intro v212 w19 ho hb hg hat; rw [← Ny211.out] at ho; have n0_ := yD (Kd.R_after (ok := (fun k_ => some k_ ≠ (u211002 : Value).ownBlock ∧ some k_ ≠ (u211004 : Value).ownBlock)) (by (with_reducible repeat (first | apply yA | apply yB | apply yC)); exact zF HO_211001.out (fun _ hk => ⟨⟨hk.1, hk.2.2⟩, hk.2.1⟩)) hg hat); have n1_ := yD (Kd.R_after (ok := (fun k_ => some k_ ≠ (.slice Ao6 t207.length co6 : Value).ownBlock ∧ some k_ ≠ (u211004 : Value).ownBlock)) (by (with_reducible repeat (first | apply yA | apply yB | apply yC)); exact zF HO_211002.out (fun _ hk => ⟨⟨hk.1, hk.2.2⟩, hk.2.1⟩)) hg hat); have n2_ := yD (Kd.R_after (ok := (fun k_ => some k_ ≠ (.slice Ao6 t207.length co6 : Value).ownBlock ∧ some k_ ≠ (u211002 : Value).ownBlock)) (by (with_reducible repeat (first | apply yA | apply yB | apply yC)); exact zF HO_211004.out (fun _ hk => ⟨⟨hk.1, hk.2.1⟩, hk.2.2⟩)) hg hat); have n3_ := yD (blk_grown (g := gb206) (o := .cells #[.int .i64 0, .slice none 0 0, .slice none 0 0, .slice none 0 0, .slice none 0 0, .slice none 0 0] 28 (0, 0)) (kM BK206) hg (Kd.R_ne HO_211003.out BK206.out (by decide))); have n4_ := yD (blk_grown (g := gb210) (o := .cells #[.int .i64 3, .slice Ao6 t207.length co6, u211002, u211003, u211004, .slice none 0 0] 28 (0, 0)) (kM BK210) hg (Kd.R_ne HO_211003.out BK210.out (by decide))); have n5_ := yD (hb); have n6_ := yD (ho); clear HO_211001; clear HO_211002; clear HO_211004; clear BK206; clear BK210; clear HB; clear HO_211003; have HO_211001 := n0_; have HO_211002 := n1_; have HO_211004 := n2_; have BK206 := n3_; have BK210 := n4_; have HB := n5_; have HO213 := n6_; clear n0_ n1_ n2_ n3_ n4_ n5_ n6_; clear ho hb hg hat; obtain ⟨Ao20, co20, eo20⟩ := Kd.R_slice HO213.out; subst eo20; obtain ⟨hcz21_0, hcz21_1, hcz21_2, hcz21_3, hcz21_4, hcz21_5⟩ := cz6 BK210.out; obtain ⟨hfz21_0, hfz21_1, hfz21_2, hfz21_3, hfz21_4, hfz21_5⟩ := fz6 BK210.out))
          have n0_ : Aside0 (Kd.R (Kd.int .i64) 2 (w19.setCell ⟨gb210, 3, none⟩ (.slice Ao20 y211.length co20)) w.heap.size (fun k_ => some k_ ≠ (u211002 : Value).ownBlock ∧ some k_ ≠ (u211004 : Value).ownBlock ∧ some k_ ≠ (.slice Ao20 y211.length co20 : Value).ownBlock) (.slice Ao6 t207.length co6) t207) := ⟨by (with_reducible repeat (first | apply yA | apply yB | apply yC)); exact zF (yF (p := ⟨gb210, 3, none⟩) (Kd.R_types HO_211001.out BK210.out (by decide)) (fun _ hk => hk.2) (.slice Ao20 y211.length co20)) (fun _ hk => ⟨hk.1.1.1, ⟨hk.1.1.2, hk.1.2⟩⟩)⟩
          have n1_ : Aside0 (Kd.R (Kd.int .i64) 2 (w19.setCell ⟨gb210, 3, none⟩ (.slice Ao20 y211.length co20)) w.heap.size (fun k_ => some k_ ≠ (.slice Ao6 t207.length co6 : Value).ownBlock ∧ some k_ ≠ (u211004 : Value).ownBlock ∧ some k_ ≠ (.slice Ao20 y211.length co20 : Value).ownBlock) u211002 x211002_1) := ⟨by (with_reducible repeat (first | apply yA | apply yB | apply yC)); exact zF (yF (p := ⟨gb210, 3, none⟩) (Kd.R_types HO_211002.out BK210.out (by decide)) (fun _ hk => hk.2) (.slice Ao20 y211.length co20)) (fun _ hk => ⟨hk.1.1.1, ⟨hk.1.1.2, hk.1.2⟩⟩)⟩
          have n2_ : Aside0 (Kd.R (Kd.int .i64) 2 (w19.setCell ⟨gb210, 3, none⟩ (.slice Ao20 y211.length co20)) w.heap.size (fun k_ => some k_ ≠ (.slice Ao6 t207.length co6 : Value).ownBlock ∧ some k_ ≠ (u211002 : Value).ownBlock ∧ some k_ ≠ (.slice Ao20 y211.length co20 : Value).ownBlock) u211004 x211004_1) := ⟨by (with_reducible repeat (first | apply yA | apply yB | apply yC)); exact zF (yF (p := ⟨gb210, 3, none⟩) (Kd.R_types HO_211004.out BK210.out (by decide)) (fun _ hk => hk.2) (.slice Ao20 y211.length co20)) (fun _ hk => ⟨hk.1.1.1, ⟨hk.1.1.2, hk.1.2⟩⟩)⟩
          have n3_ : Aside0 (Kd.R (Kd.int .i64) 2 (w19.setCell ⟨gb210, 3, none⟩ (.slice Ao20 y211.length co20)) w.heap.size (fun k_ => some k_ ≠ (.slice Ao6 t207.length co6 : Value).ownBlock ∧ some k_ ≠ (u211002 : Value).ownBlock ∧ some k_ ≠ (u211004 : Value).ownBlock) (.slice Ao20 y211.length co20) y211) := ⟨by (with_reducible repeat (first | apply yA | apply yB | apply yC)); exact zF (yF (p := ⟨gb210, 3, none⟩) (Kd.R_types HO213.out BK210.out (by decide)) (fun _ hk => hk.2) (.slice Ao20 y211.length co20)) (fun _ hk => ⟨hk.1.1, ⟨hk.1.2.1, hk.1.2.2⟩⟩)⟩
          have n4_ : Aside0 ((w19.setCell ⟨gb210, 3, none⟩ (.slice Ao20 y211.length co20)).heap[gb206]? = some (.cells #[.int .i64 0, .slice none 0 0, .slice none 0 0, .slice none 0 0, .slice none 0 0, .slice none 0 0] 28 (0, 0))) := ⟨by (with_reducible repeat (first | refine yM ?_ _ | refine yO ?_ | refine yN ?_ _)); refine blk_far ?_ NB206_210.out _; (with_reducible repeat (first | refine yM ?_ _ | refine yO ?_ | refine yN ?_ _)); exact BK206.out⟩
          have n5_ : Aside0 ((w19.setCell ⟨gb210, 3, none⟩ (.slice Ao20 y211.length co20)).heap[gb210]? = some (.cells #[.int .i64 3, .slice Ao6 t207.length co6, u211002, .slice Ao20 y211.length co20, u211004, .slice none 0 0] 28 (0, 0))) := ⟨by (with_reducible repeat (first | refine yM ?_ _ | refine yO ?_ | refine yN ?_ _)); refine blk_put (cs := #[.int .i64 3, .slice Ao6 t207.length co6, u211002, u211003, u211004, .slice none 0 0]) ?_ 3 _ rfl; (with_reducible repeat (first | refine yM ?_ _ | refine yO ?_ | refine yN ?_ _)); exact BK210.out⟩
          have n6_ : Aside0 (Below w.heap.size w (w19.setCell ⟨gb210, 3, none⟩ (.slice Ao20 y211.length co20))) := ⟨kR1 HB⟩
          (try clear HO_211001); (try clear HO_211002); (try clear HO_211004); (try clear HO213); (try clear BK206); (try clear BK210); (try clear HB)
          generalize (w19.setCell ⟨gb210, 3, none⟩ (.slice Ao20 y211.length co20)) = w22 at n0_ n1_ n2_ n3_ n4_ n5_ n6_ ⊢
          have HO_211001 := n0_; have HO_211002 := n1_; have HO_211004 := n2_; have HO213 := n3_; have BK206 := n4_; have BK210 := n5_; have HB := n6_; clear n0_ n1_ n2_ n3_ n4_ n5_ n6_
          have n0_ := yD (yC HO_211001.out)
          have n1_ := yD (yC HO_211002.out)
          have n2_ := yD (yC HO_211004.out)
          have n3_ := yD (yC HO213.out)
          have n4_ := yD (yO BK206.out)
          have n5_ := yD (yO BK210.out)
          have n6_ := yD (yP HB.out)
          clear HO_211001 HO_211002 HO_211004 HO213 BK206 BK210 HB; have HO_211001 := n0_; have HO_211002 := n1_; have HO_211004 := n2_; have HO213 := n3_; have BK206 := n4_; have BK210 := n5_; have HB := n6_; clear n0_ n1_ n2_ n3_ n4_ n5_ n6_
          have p214 : 0 ≤ (x12_1 : Int) := zP (by assumption)
          have q214 : x12_1 < (l1.length : Int) := zP (by assumption)
          obtain ⟨ad214, e214, hx214_0⟩ := Kd.at_int HR1.out x12_1 p214 q214
          have hw214_0 := hx214_0; cases e214
          replace hx214_0 := (HB.out.cell (zQ w _ hx214_0)).trans hx214_0
          replace p214 := eq_true p214; replace q214 := eq_true q214
          have p215 : 0 ≤ (x12_1 : Int) := zP (by assumption)
          have q215 : x12_1 < (l0.length : Int) := zP (by assumption)
          obtain ⟨ad215, e215, hx215_0⟩ := Kd.at_int HR0.out x12_1 p215 q215
          have hw215_0 := hx215_0; cases e215
          replace hx215_0 := (HB.out.cell (zQ w _ hx215_0)).trans hx215_0
          replace p215 := eq_true p215; replace q215 := eq_true q215
          refine start_ (n := 15) (S := fun w' => w'.cell? ⟨gb210, 0, none⟩ = some (.int .i64 3) ∧ w'.cell? ⟨gb210, 1, none⟩ = some (.slice Ao6 t207.length co6) ∧ w'.cell? ⟨gb210, 2, none⟩ = some (u211002) ∧ w'.cell? ⟨gb210, 3, none⟩ = some (.slice Ao20 y211.length co20) ∧ w'.cell? ⟨gb210, 4, none⟩ = some (u211004) ∧ w'.cell? ⟨gb210, 5, none⟩ = some (.slice none 0 0) ∧ w'.cell? (ad214.add (x12_1).toNat) = some (.int .i64 (rd l1 x12_1)) ∧ w'.cell? (ad215.add (x12_1).toNat) = some (.int .i64 (rd l0 x12_1))) (ds := [14]) (bz 15 0) (by kernel_rfl) rfl rfl ⟨(yG BK210.out 0).trans rfl, (yG BK210.out 1).trans rfl, (yG BK210.out 2).trans rfl, (yG BK210.out 3).trans rfl, (yG BK210.out 4).trans rfl, (yG BK210.out 5).trans rfl, ((HB.out.cell (zQ w _ hw214_0)).trans hw214_0), ((HB.out.cell (zQ w _ hw215_0)).trans hw215_0)⟩ (fun hHeld => ?_); refine with_tabW impl_rangeOf.tab6 impl_rangeOf.bits6 (fun HT_ HW_ => ?_)
          generalize w22.drew = w23 at HO_211001 HO_211002 HO_211004 HO213 BK206 BK210 HB hx214_0 hx215_0 hHeld ⊢
          refine qA 0 20 (bz 15 1) HT_ ?_
          refine qA 2 22 (bz 15 5) HT_ ?_
          refine qA 3 23 (bz 15 13) HT_ ?_
          refine qA 4 24 (bz 15 29) HT_ ?_
          refine qA 6 26 (bz 15 93) HT_ ?_
          refine qA 7 27 (bz 15 221) HT_ ?_
          refine qA 8 28 (bz 15 477) HT_ ?_
          refine qC 1 21 (bz 15 479) HT_ HW_ hHeld ?_ (hy := by rintro w' ⟨s0, s1, s2, s3, s4, s5, s6, s7⟩; go_simp; with_reducible rfl)
          refine qC 5 25 (bz 15 511) HT_ HW_ hHeld ?_ (hy := by rintro w' ⟨s0, s1, s2, s3, s4, s5, s6, s7⟩; go_simp; with_reducible rfl)
          refine qC 9 29 (bz 15 1023) HT_ HW_ hHeld ?_ (hy := by rintro w' ⟨s0, s1, s2, s3, s4, s5, s6, s7⟩; go_simp; with_reducible rfl)
          refine qA 10 30 (bz 15 2047) HT_ ?_
          refine one_ (i := 11) (N := some 31) (bz 15 4095) rfl rfl (one_of HT_.out (by kernel_rfl)) (by decide) (fun K hK => ?_)
          refine value_ (w1 := ?_) (v := ?_) (by rfl) rfl ?_ ?_
          rotate_left 2
          · go_simp
            constructor
            · rfl
            · rfl
          refine hK.out _ _ ⟨(yG (yN BK210.out _) 0).trans rfl, (yG (yN BK210.out _) 1).trans rfl, (yG (yN BK210.out _) 2).trans rfl, (yG (yN BK210.out _) 3).trans rfl, (yG (yN BK210.out _) 4).trans rfl, (yG (yN BK210.out _) 5).trans rfl, (World.cell?_alloc_lt _ _ _ (zQ _ _ (((HB.out.cell (zQ w _ hw214_0)).trans hw214_0)))).trans (((HB.out.cell (zQ w _ hw214_0)).trans hw214_0)), (World.cell?_alloc_lt _ _ _ (zQ _ _ (((HB.out.cell (zQ w _ hw215_0)).trans hw215_0)))).trans (((HB.out.cell (zQ w _ hw215_0)).trans hw215_0))⟩ (fun hHeld => ?_)
          clear hK K
          refine norm_ (a' := ?_) ?_ ?_
          rotate_left
          · show Act.put _ (some 31) _ = _
            simp only [Act.put, zH, zI, zJ, i64_w, i32_w]
            rfl
          refine one_ (i := 12) (N := some 32) (bz 15 8191) rfl rfl (one_of HT_.out (by kernel_rfl)) (by decide) (fun K hK => ?_)
          refine Kd.R_append_step (Kd.int .i64) (w0 := w) w.heap.size (by rfl) (.tmp 21) (.tmp 31) 23 2 (.int .i64 0) 8 rfl Try.underlying23 info2 rfl (by decide) (by omega) u211002 x211002_1 (wrap64 ((rd l1 x12_1) - (rd l0 x12_1))) [.int .i64 (wrap64 ((rd l1 x12_1) - (rd l0 x12_1)))] (fun k_ => some k_ ≠ (.slice Ao6 t207.length co6 : Value).ownBlock ∧ some k_ ≠ (u211004 : Value).ownBlock ∧ some k_ ≠ (.slice Ao20 y211.length co20 : Value).ownBlock) (fun _ => False) rfl rfl ?aP (fun _ hk => hk.elim) ?aF ?aO ?aB ?aS ?aL ?_
          (case aP => exact rfl)
          (case aB => exact (kB HB))
          (case aF => exact (fun k_ hk => ⟨Kd.fresh' (yK (kA HO_211001)) k_ hk, Kd.fresh' (yK (kA HO_211004)) k_ hk, Kd.fresh' (yK (kA HO213)) k_ hk⟩))
          (case aO => exact (kA HO_211002))
          (case aS => exact (below_size (kB HB)))
          (case aL => have := LMc15.out; omega)
          intro v217 w24 ho hb hg hat
          rw [← Ny216.out] at ho
          have n0_ := yD (Kd.R_after (ok := (fun k_ => some k_ ≠ (u211004 : Value).ownBlock ∧ some k_ ≠ (.slice Ao20 y211.length co20 : Value).ownBlock)) (by (with_reducible repeat (first | apply yA | apply yB | apply yC)); exact zF HO_211001.out (fun _ hk => ⟨⟨hk.2.1, hk.2.2⟩, hk.1⟩)) hg hat)
          have n1_ := yD (Kd.R_after (ok := (fun k_ => some k_ ≠ (.slice Ao6 t207.length co6 : Value).ownBlock ∧ some k_ ≠ (.slice Ao20 y211.length co20 : Value).ownBlock)) (by (with_reducible repeat (first | apply yA | apply yB | apply yC)); exact zF HO_211004.out (fun _ hk => ⟨⟨hk.1, hk.2.2⟩, hk.2.1⟩)) hg hat)
          have n2_ := yD (blk_grown (g := gb206) (o := .cells #[.int .i64 0, .slice none 0 0, .slice none 0 0, .slice none 0 0, .slice none 0 0, .slice none 0 0] 28 (0, 0)) (kM BK206) hg (Kd.R_ne HO_211002.out BK206.out (by decide)))
          have n3_ := yD (blk_grown (g := gb210) (o := .cells #[.int .i64 3, .slice Ao6 t207.length co6, u211002, .slice Ao20 y211.length co20, u211004, .slice none 0 0] 28 (0, 0)) (kM BK210) hg (Kd.R_ne HO_211002.out BK210.out (by decide)))
          have n4_ := yD (Kd.R_after (ok := (fun k_ => some k_ ≠ (.slice Ao6 t207.length co6 : Value).ownBlock ∧ some k_ ≠ (u211004 : Value).ownBlock)) (by (with_reducible repeat (first | apply yA | apply yB | apply yC)); exact zF HO213.out (fun _ hk => ⟨⟨hk.1, hk.2.2⟩, hk.2.1⟩)) hg hat)
          have n5_ := yD (hb)
          have n6_ := yD (ho)
          clear HO_211001 HO_211004 BK206 BK210 HO213 HB HO_211002; have HO_211001 := n0_; have HO_211004 := n1_; have BK206 := n2_; have BK210 := n3_; have HO213 := n4_; have HB := n5_; have HO218 := n6_; clear n0_ n1_ n2_ n3_ n4_ n5_ n6_ ho hb hg hat
          obtain ⟨Ao25, co25, eo25⟩ := Kd.R_slice HO218.out
          (first | subst eo25 | (injection eo25 with f1_ f2_ f3_; have f4_ := f1_.symm; have f5_ := f3_.symm; clear f1_ f2_ f3_; subst f4_; subst f5_))
          refine hK.out _ _ ⟨(yG BK210.out 0).trans rfl, (yG BK210.out 1).trans rfl, (yG BK210.out 2).trans rfl, (yG BK210.out 3).trans rfl, (yG BK210.out 4).trans rfl, (yG BK210.out 5).trans rfl, ((HB.out.cell (zQ w _ hw214_0)).trans hw214_0), ((HB.out.cell (zQ w _ hw215_0)).trans hw215_0)⟩ (fun hHeld => ?_)
          clear hK K
          refine norm_ (a' := ?_) ?_ ?_
          rotate_left
          · show Act.put _ (some 32) _ = _
            simp only [Act.put, zH, zI, zJ, i64_w, i32_w]
            rfl
          refine qA 13 33 (bz 15 16383) HT_ ?_
          refine last_ (i := 14) (N := none) #[true, true, true, true, true, true, true, true, true, true, true, true, true, true, true] rfl rfl (one_of HT_.out (by kernel_rfl)) (by decide) (fun K hK => ?_)
          have hs26 : w24.cell? ⟨gb210, 2, none⟩ = some (u211002) := (yG BK210.out 2).trans rfl
          have hfs26 := yR BK210.out 2
          have hns26_0 := NB206_210.out; have hms26_0 := NB210_206.out
          refine skip_ (w1 := ?_) (by rfl) rfl ?_ ?_
          rotate_left
          · go_simp
            rfl
          refine hK.out _ _ ?_
          clear hK K
          refine done_ (done_of HT_.out (by kernel_rfl)) ?_
          try go_wp2
          have n0_ : Aside0 (Kd.R (Kd.int .i64) 2 (w24.setCell ⟨gb210, 2, none⟩ (.slice Ao25 y216.length co25)) w.heap.size (fun k_ => some k_ ≠ (u211004 : Value).ownBlock ∧ some k_ ≠ (.slice Ao20 y211.length co20 : Value).ownBlock ∧ some k_ ≠ (.slice Ao25 y216.length co25 : Value).ownBlock) (.slice Ao6 t207.length co6) t207) := ⟨by (with_reducible repeat (first | apply yA | apply yB | apply yC)); exact zF (yF (p := ⟨gb210, 2, none⟩) (Kd.R_types HO_211001.out BK210.out (by decide)) (fun _ hk => hk.2) (.slice Ao25 y216.length co25)) (fun _ hk => ⟨hk.1.1.1, ⟨hk.1.1.2, hk.1.2⟩⟩)⟩
          have n1_ : Aside0 (Kd.R (Kd.int .i64) 2 (w24.setCell ⟨gb210, 2, none⟩ (.slice Ao25 y216.length co25)) w.heap.size (fun k_ => some k_ ≠ (.slice Ao6 t207.length co6 : Value).ownBlock ∧ some k_ ≠ (.slice Ao20 y211.length co20 : Value).ownBlock ∧ some k_ ≠ (.slice Ao25 y216.length co25 : Value).ownBlock) u211004 x211004_1) := ⟨by (with_reducible repeat (first | apply yA | apply yB | apply yC)); exact zF (yF (p := ⟨gb210, 2, none⟩) (Kd.R_types HO_211004.out BK210.out (by decide)) (fun _ hk => hk.2) (.slice Ao25 y216.length co25)) (fun _ hk => ⟨hk.1.1.1, ⟨hk.1.1.2, hk.1.2⟩⟩)⟩
          have n2_ : Aside0 (Kd.R (Kd.int .i64) 2 (w24.setCell ⟨gb210, 2, none⟩ (.slice Ao25 y216.length co25)) w.heap.size (fun k_ => some k_ ≠ (.slice Ao6 t207.length co6 : Value).ownBlock ∧ some k_ ≠ (u211004 : Value).ownBlock ∧ some k_ ≠ (.slice Ao25 y216.length co25 : Value).ownBlock) (.slice Ao20 y211.length co20) y211) := ⟨by (with_reducible repeat (first | apply yA | apply yB | apply yC)); exact zF (yF (p := ⟨gb210, 2, none⟩) (Kd.R_types HO213.out BK210.out (by decide)) (fun _ hk => hk.2) (.slice Ao25 y216.length co25)) (fun _ hk => ⟨hk.1.1.1, ⟨hk.1.1.2, hk.1.2⟩⟩)⟩
          have n3_ : Aside0 (Kd.R (Kd.int .i64) 2 (w24.setCell ⟨gb210, 2, none⟩ (.slice Ao25 y216.length co25)) w.heap.size (fun k_ => some k_ ≠ (.slice Ao6 t207.length co6 : Value).ownBlock ∧ some k_ ≠ (u211004 : Value).ownBlock ∧ some k_ ≠ (.slice Ao20 y211.length co20 : Value).ownBlock) (.slice Ao25 y216.length co25) y216) := ⟨by (with_reducible repeat (first | apply yA | apply yB | apply yC)); exact zF (yF (p := ⟨gb210, 2, none⟩) (Kd.R_types HO218.out BK210.out (by decide)) (fun _ hk => hk.2) (.slice Ao25 y216.length co25)) (fun _ hk => ⟨hk.1.1, ⟨hk.1.2.1, hk.1.2.2⟩⟩)⟩
          have n4_ : Aside0 ((w24.setCell ⟨gb210, 2, none⟩ (.slice Ao25 y216.length co25)).heap[gb206]? = some (.cells #[.int .i64 0, .slice none 0 0, .slice none 0 0, .slice none 0 0, .slice none 0 0, .slice none 0 0] 28 (0, 0))) := ⟨by (with_reducible repeat (first | refine yM ?_ _ | refine yO ?_ | refine yN ?_ _)); refine blk_far ?_ NB206_210.out _; (with_reducible repeat (first | refine yM ?_ _ | refine yO ?_ | refine yN ?_ _)); exact BK206.out⟩
          have n5_ : Aside0 ((w24.setCell ⟨gb210, 2, none⟩ (.slice Ao25 y216.length co25)).heap[gb210]? = some (.cells #[.int .i64 3, .slice Ao6 t207.length co6, .slice Ao25 y216.length co25, .slice Ao20 y211.length co20, u211004, .slice none 0 0] 28 (0, 0))) := ⟨by (with_reducible repeat (first | refine yM ?_ _ | refine yO ?_ | refine yN ?_ _)); refine blk_put (cs := #[.int .i64 3, .slice Ao6 t207.length co6, u211002, .slice Ao20 y211.length co20, u211004, .slice none 0 0]) ?_ 2 _ rfl; (with_reducible repeat (first | refine yM ?_ _ | refine yO ?_ | refine yN ?_ _)); exact BK210.out⟩
          have n6_ : Aside0 (Below w.heap.size w (w24.setCell ⟨gb210, 2, none⟩ (.slice Ao25 y216.length co25))) := ⟨kR1 HB⟩
          (try clear HO_211001); (try clear HO_211004); (try clear HO213); (try clear HO218); (try clear BK206); (try clear BK210); (try clear HB)
          generalize (w24.setCell ⟨gb210, 2, none⟩ (.slice Ao25 y216.length co25)) = w27 at n0_ n1_ n2_ n3_ n4_ n5_ n6_ ⊢
          have HO_211001 := n0_; have HO_211004 := n1_; have HO213 := n2_; have HO218 := n3_; have BK206 := n4_; have BK210 := n5_; have HB := n6_; clear n0_ n1_ n2_ n3_ n4_ n5_ n6_
          have n0_ := yD (yC HO_211001.out)
          have n1_ := yD (yC HO_211004.out)
          have n2_ := yD (yC HO213.out)
          have n3_ := yD (yC HO218.out)
          have n4_ := yD (yO BK206.out)
          have n5_ := yD (yO BK210.out)
          have n6_ := yD (yP HB.out)
          clear HO_211001 HO_211004 HO213 HO218 BK206 BK210 HB; have HO_211001 := n0_; have HO_211004 := n1_; have HO213 := n2_; have HO218 := n3_; have BK206 := n4_; have BK210 := n5_; have HB := n6_; clear n0_ n1_ n2_ n3_ n4_ n5_ n6_
          have p219 : 0 ≤ (x12_1 : Int) := zP (by assumption)
          have q219 : x12_1 < (l1.length : Int) := zP (by assumption)
          obtain ⟨ad219, e219, hx219_0⟩ := Kd.at_int HR1.out x12_1 p219 q219
          have hw219_0 := hx219_0
          obtain rfl : ad214 = ad219 := (by injection e219)
          replace hx219_0 := (HB.out.cell (zQ w _ hx219_0)).trans hx219_0
          replace p219 := eq_true p219; replace q219 := eq_true q219
          have p220 : 0 ≤ (x12_1 : Int) := zP (by assumption)
          have q220 : x12_1 < (l0.length : Int) := zP (by assumption)
          obtain ⟨ad220, e220, hx220_0⟩ := Kd.at_int HR0.out x12_1 p220 q220
          have hw220_0 := hx220_0
          obtain rfl : ad215 = ad220 := (by injection e220)
          replace hx220_0 := (HB.out.cell (zQ w _ hx220_0)).trans hx220_0
          replace p220 := eq_true p220; replace q220 := eq_true q220
          refine start_ (n := 15) (S := fun w' => w'.cell? ⟨gb210, 0, none⟩ = some (.int .i64 3) ∧ w'.cell? ⟨gb210, 1, none⟩ = some (.slice Ao6 t207.length co6) ∧ w'.cell? ⟨gb210, 2, none⟩ = some (.slice Ao25 y216.length co25) ∧ w'.cell? ⟨gb210, 3, none⟩ = some (.slice Ao20 y211.length co20) ∧ w'.cell? ⟨gb210, 4, none⟩ = some (u211004) ∧ w'.cell? ⟨gb210, 5, none⟩ = some (.slice none 0 0) ∧ w'.cell? (ad214.add (x12_1).toNat) = some (.int .i64 (rd l1 x12_1)) ∧ w'.cell? (ad215.add (x12_1).toNat) = some (.int .i64 (rd l0 x12_1))) (ds := [14]) (bz 15 0) (by kernel_rfl) rfl rfl ⟨(yG BK210.out 0).trans rfl, (yG BK210.out 1).trans rfl, (yG BK210.out 2).trans rfl, (yG BK210.out 3).trans rfl, (yG BK210.out 4).trans rfl, (yG BK210.out 5).trans rfl, ((HB.out.cell (zQ w _ hw219_0)).trans hw219_0), ((HB.out.cell (zQ w _ hw220_0)).trans hw220_0)⟩ (fun hHeld => ?_); refine with_tabW impl_rangeOf.tab7 impl_rangeOf.bits7 (fun HT_ HW_ => ?_)
          generalize w27.drew = w28 at HO_211001 HO_211004 HO213 HO218 BK206 BK210 HB hx219_0 hx220_0 hHeld ⊢
          refine qA 0 34 (bz 15 1) HT_ ?_
          refine qA 2 36 (bz 15 5) HT_ ?_
          refine qA 3 37 (bz 15 13) HT_ ?_
          refine qA 4 38 (bz 15 29) HT_ ?_
          refine qA 6 40 (bz 15 93) HT_ ?_
          refine qA 7 41 (bz 15 221) HT_ ?_
          refine qA 8 42 (bz 15 477) HT_ ?_
          refine qC 1 35 (bz 15 479) HT_ HW_ hHeld ?_ (hy := by rintro w' ⟨s0, s1, s2, s3, s4, s5, s6, s7⟩; go_simp; with_reducible rfl)
          refine qC 5 39 (bz 15 511) HT_ HW_ hHeld ?_ (hy := by rintro w' ⟨s0, s1, s2, s3, s4, s5, s6, s7⟩; go_simp; with_reducible rfl)
          refine qC 9 43 (bz 15 1023) HT_ HW_ hHeld ?_ (hy := by rintro w' ⟨s0, s1, s2, s3, s4, s5, s6, s7⟩; go_simp; with_reducible rfl)
          refine qA 10 44 (bz 15 2047) HT_ ?_
          refine one_ (i := 11) (N := some 45) (bz 15 4095) rfl rfl (one_of HT_.out (by kernel_rfl)) (by decide) (fun K hK => ?_)
          refine value_ (w1 := ?_) (v := ?_) (by rfl) rfl ?_ ?_
          rotate_left 2
          · go_simp
            constructor
            · rfl
            · rfl
          refine hK.out _ _ ⟨(yG (yN BK210.out _) 0).trans rfl, (yG (yN BK210.out _) 1).trans rfl, (yG (yN BK210.out _) 2).trans rfl, (yG (yN BK210.out _) 3).trans rfl, (yG (yN BK210.out _) 4).trans rfl, (yG (yN BK210.out _) 5).trans rfl, (World.cell?_alloc_lt _ _ _ (zQ _ _ (((HB.out.cell (zQ w _ hw219_0)).trans hw219_0)))).trans (((HB.out.cell (zQ w _ hw219_0)).trans hw219_0)), (World.cell?_alloc_lt _ _ _ (zQ _ _ (((HB.out.cell (zQ w _ hw220_0)).trans hw220_0)))).trans (((HB.out.cell (zQ w _ hw220_0)).trans hw220_0))⟩ (fun hHeld => ?_)
          clear hK K
          refine norm_ (a' := ?_) ?_ ?_
          rotate_left
          · show Act.put _ (some 45) _ = _
            simp only [Act.put, zH, zI, zJ, i64_w, i32_w]
            rfl
          refine one_ (i := 12) (N := some 46) (bz 15 8191) rfl rfl (one_of HT_.out (by kernel_rfl)) (by decide) (fun K hK => ?_)
          refine Kd.R_append_step (Kd.int .i64) (w0 := w) w.heap.size (by rfl) (.tmp 35) (.tmp 45) 23 2 (.int .i64 0) 8 rfl Try.underlying23 info2 rfl (by decide) (by omega) u211004 x211004_1 (wrap64 ((rd l1 x12_1) - (rd l0 x12_1))) [.int .i64 (wrap64 ((rd l1 x12_1) - (rd l0 x12_1)))] (fun k_ => some k_ ≠ (.slice Ao6 t207.length co6 : Value).ownBlock ∧ some k_ ≠ (.slice Ao20 y211.length co20 : Value).ownBlock ∧ some k_ ≠ (.slice Ao25 y216.length co25 : Value).ownBlock) (fun _ => False) rfl rfl ?aP (fun _ hk => hk.elim) ?aF ?aO ?aB ?aS ?aL ?_
          (case aP => exact rfl)
          (case aB => exact (kB HB))
          (case aF => exact (fun k_ hk => ⟨Kd.fresh' (yK (kA HO_211001)) k_ hk, Kd.fresh' (yK (kA HO213)) k_ hk, Kd.fresh' (yK (kA HO218)) k_ hk⟩))
          (case aO => exact (kA HO_211004))
          (case aS => exact (below_size (kB HB)))
          (case aL => have := LMc16.out; omega)
          intro v222 w29 ho hb hg hat
          rw [← Ny221.out] at ho
          have n0_ := yD (Kd.R_after (ok := (fun k_ => some k_ ≠ (.slice Ao20 y211.length co20 : Value).ownBlock ∧ some k_ ≠ (.slice Ao25 y216.length co25 : Value).ownBlock)) (by (with_reducible repeat (first | apply yA | apply yB | apply yC)); exact zF HO_211001.out (fun _ hk => ⟨⟨hk.2.1, hk.2.2⟩, hk.1⟩)) hg hat)
          have n1_ := yD (blk_grown (g := gb206) (o := .cells #[.int .i64 0, .slice none 0 0, .slice none 0 0, .slice none 0 0, .slice none 0 0, .slice none 0 0] 28 (0, 0)) (kM BK206) hg (Kd.R_ne HO_211004.out BK206.out (by decide)))
          have n2_ := yD (blk_grown (g := gb210) (o := .cells #[.int .i64 3, .slice Ao6 t207.length co6, .slice Ao25 y216.length co25, .slice Ao20 y211.length co20, u211004, .slice none 0 0] 28 (0, 0)) (kM BK210) hg (Kd.R_ne HO_211004.out BK210.out (by decide)))
          have n3_ := yD (Kd.R_after (ok := (fun k_ => some k_ ≠ (.slice Ao6 t207.length co6 : Value).ownBlock ∧ some k_ ≠ (.slice Ao25 y216.length co25 : Value).ownBlock)) (by (with_reducible repeat (first | apply yA | apply yB | apply yC)); exact zF HO213.out (fun _ hk => ⟨⟨hk.1, hk.2.2⟩, hk.2.1⟩)) hg hat)
          have n4_ := yD (Kd.R_after (ok := (fun k_ => some k_ ≠ (.slice Ao6 t207.length co6 : Value).ownBlock ∧ some k_ ≠ (.slice Ao20 y211.length co20 : Value).ownBlock)) (by (with_reducible repeat (first | apply yA | apply yB | apply yC)); exact zF HO218.out (fun _ hk => ⟨⟨hk.1, hk.2.2⟩, hk.2.1⟩)) hg hat)
          have n5_ := yD (hb)
          have n6_ := yD (ho)
          clear HO_211001 BK206 BK210 HO213 HO218 HB HO_211004; have HO_211001 := n0_; have BK206 := n1_; have BK210 := n2_; have HO213 := n3_; have HO218 := n4_; have HB := n5_; have HO223 := n6_; clear n0_ n1_ n2_ n3_ n4_ n5_ n6_ ho hb hg hat
          obtain ⟨Ao30, co30, eo30⟩ := Kd.R_slice HO223.out
          (first | subst eo30 | (injection eo30 with f1_ f2_ f3_; have f4_ := f1_.symm; have f5_ := f3_.symm; clear f1_ f2_ f3_; subst f4_; subst f5_))
          refine hK.out _ _ ⟨(yG BK210.out 0).trans rfl, (yG BK210.out 1).trans rfl, (yG BK210.out 2).trans rfl, (yG BK210.out 3).trans rfl, (yG BK210.out 4).trans rfl, (yG BK210.out 5).trans rfl, ((HB.out.cell (zQ w _ hw219_0)).trans hw219_0), ((HB.out.cell (zQ w _ hw220_0)).trans hw220_0)⟩ (fun hHeld => ?_)
          clear hK K
          refine norm_ (a' := ?_) ?_ ?_
          rotate_left
          · show Act.put _ (some 46) _ = _
            simp only [Act.put, zH, zI, zJ, i64_w, i32_w]
            rfl
          refine qA 13 47 (bz 15 16383) HT_ ?_
          refine last_ (i := 14) (N := none) #[true, true, true, true, true, true, true, true, true, true, true, true, true, true, true] rfl rfl (one_of HT_.out (by kernel_rfl)) (by decide) (fun K hK => ?_)
          have hs31 : w29.cell? ⟨gb210, 4, none⟩ = some (u211004) := (yG BK210.out 4).trans rfl
          have hfs31 := yR BK210.out 4
          have hns31_0 := NB206_210.out; have hms31_0 := NB210_206.out
          refine skip_ (w1 := ?_) (by rfl) rfl ?_ ?_
          rotate_left
          · go_simp
            rfl
          refine hK.out _ _ ?_
          clear hK K
          refine done_ (done_of HT_.out (by kernel_rfl)) ?_
          try go_wp2
          go_roundg k1
          case measure => have := HK1.out; omega
          case rel => exact ⟨(wrap64 (x12_1 + 1)), (y216), (y211), (y221), (.slice Ao25 y216.length co25), (.slice Ao20 y211.length co20), (.slice Ao30 y221.length co30), (by first | rfl | (simp; done) | (simp [*]; done)), H', ⟨by have := HK1.out; omega⟩, ⟨by (with_reducible repeat (first | apply yA | apply yB | apply yC)); exact zF (yF (p := ⟨gb210, 4, none⟩) (Kd.R_types HO_211001.out BK210.out (by decide)) (fun _ hk => hk.2) (.slice Ao30 y221.length co30)) (fun _ hk => ⟨hk.1.1.2, ⟨hk.1.1.1, hk.1.2⟩⟩)⟩, ⟨by (with_reducible repeat (first | apply yA | apply yB | apply yC)); exact zF (yF (p := ⟨gb210, 4, none⟩) (Kd.R_types HO218.out BK210.out (by decide)) (fun _ hk => hk.2) (.slice Ao30 y221.length co30)) (fun _ hk => ⟨hk.1.1.1, ⟨hk.1.1.2, hk.1.2⟩⟩)⟩, ⟨by (with_reducible repeat (first | apply yA | apply yB | apply yC)); exact zF (yF (p := ⟨gb210, 4, none⟩) (Kd.R_types HO213.out BK210.out (by decide)) (fun _ hk => hk.2) (.slice Ao30 y221.length co30)) (fun _ hk => ⟨hk.1.1.1, ⟨hk.1.1.2, hk.1.2⟩⟩)⟩, ⟨by (with_reducible repeat (first | apply yA | apply yB | apply yC)); exact zF (yF (p := ⟨gb210, 4, none⟩) (Kd.R_types HO223.out BK210.out (by decide)) (fun _ hk => hk.2) (.slice Ao30 y221.length co30)) (fun _ hk => ⟨hk.1.1, ⟨hk.1.2.2, hk.1.2.1⟩⟩)⟩, ⟨by (with_reducible repeat (first | refine yM ?_ _ | refine yO ?_ | refine yN ?_ _)); refine blk_far ?_ NB206_210.out _; (with_reducible repeat (first | refine yM ?_ _ | refine yO ?_ | refine yN ?_ _)); exact BK206.out⟩, ⟨by (with_reducible repeat (first | refine yM ?_ _ | refine yO ?_ | refine yN ?_ _)); refine blk_put (cs := #[.int .i64 3, .slice Ao6 t207.length co6, .slice Ao25 y216.length co25, .slice Ao20 y211.length co20, u211004, .slice none 0 0]) ?_ 4 _ rfl; (with_reducible repeat (first | refine yM ?_ _ | refine yO ?_ | refine yN ?_ _)); exact BK210.out⟩, ⟨kR1 HB⟩⟩
         · rw [if_neg c16] at H
           exact absurd H (by simp)
        · rw [if_neg c15] at H
          exact absurd H (by simp)
       · rw [if_neg c14] at H
         exact absurd H (by simp)
      · rw [if_neg c13] at H
        exact absurd H (by simp)
     · rw [if_neg c12] at H
       exact absurd H (by simp)
    · rw [if_neg c11] at H
      exact absurd H (by simp)
   ·
    rw [if_neg c10] at H
    have c10b0 : decide (x12_1 < (l0.length : Int)) = false := zS c10; clear c10
    simp only [Option.some.injEq, Prod.mk.injEq] at H
    obtain ⟨rfl, rfl, rfl, rfl, rfl, rfl⟩ := H
    have hnb32 := NB210_206.out; have hnc32 := NB206_210.out
    obtain ⟨hcz33_0, hcz33_1, hcz33_2, hcz33_3, hcz33_4, hcz33_5⟩ := cz6 BK210.out
    obtain ⟨hfz33_0, hfz33_1, hfz33_2, hfz33_3, hfz33_4, hfz33_5⟩ := fz6 BK210.out
    obtain ⟨hcz34_0, hcz34_1, hcz34_2, hcz34_3, hcz34_4, hcz34_5⟩ := cz6 BK206.out
    obtain ⟨hfz34_0, hfz34_1, hfz34_2, hfz34_3, hfz34_4, hfz34_5⟩ := fz6 BK206.out
    obtain ⟨Ao35, co35, eo35⟩ := Kd.R_slice HO_211002.out
    subst eo35
    obtain ⟨Ao36, co36, eo36⟩ := Kd.R_slice HO_211003.out
    subst eo36
    obtain ⟨Ao37, co37, eo37⟩ := Kd.R_slice HO_211004.out
    subst eo37
    go_wp2
    refine bodyPost_ret (results_cell_row rfl _ _ gb206 28 #[.int .i64 3, .slice Ao6 t207.length co6, .slice Ao35 x211002_1.length co35, .slice Ao36 x211003_1.length co36, .slice Ao37 x211004_1.length co37, .slice none 0 0] (0, 0) _ rfl (by (with_reducible repeat (first | refine yM ?_ _ | refine yO ?_ | refine yN ?_ _)); refine blk_put (cs := #[.int .i64 3, .slice Ao6 t207.length co6, .slice Ao35 x211002_1.length co35, .slice Ao36 x211003_1.length co36, .slice Ao37 x211004_1.length co37, .slice none 0 0]) ?_ 5 _ rfl; (with_reducible repeat (first | refine yM ?_ _ | refine yO ?_ | refine yN ?_ _)); refine blk_put (cs := #[.int .i64 3, .slice Ao6 t207.length co6, .slice Ao35 x211002_1.length co35, .slice Ao36 x211003_1.length co36, .slice none 0 0, .slice none 0 0]) ?_ 4 _ rfl; (with_reducible repeat (first | refine yM ?_ _ | refine yO ?_ | refine yN ?_ _)); refine blk_put (cs := #[.int .i64 3, .slice Ao6 t207.length co6, .slice Ao35 x211002_1.length co35, .slice none 0 0, .slice none 0 0, .slice none 0 0]) ?_ 3 _ rfl; (with_reducible repeat (first | refine yM ?_ _ | refine yO ?_ | refine yN ?_ _)); refine blk_put (cs := #[.int .i64 3, .slice Ao6 t207.length co6, .slice none 0 0, .slice none 0 0, .slice none 0 0, .slice none 0 0]) ?_ 2 _ rfl; (with_reducible repeat (first | refine yM ?_ _ | refine yO ?_ | refine yN ?_ _)); refine blk_put (cs := #[.int .i64 3, .slice none 0 0, .slice none 0 0, .slice none 0 0, .slice none 0 0, .slice none 0 0]) ?_ 1 _ rfl; (with_reducible repeat (first | refine yM ?_ _ | refine yO ?_ | refine yN ?_ _)); refine blk_put (cs := #[.int .i64 0, .slice none 0 0, .slice none 0 0, .slice none 0 0, .slice none 0 0, .slice none 0 0]) ?_ 0 _ rfl; (with_reducible repeat (first | refine yM ?_ _ | refine yO ?_ | refine yN ?_ _)); exact BK206.out) Try.underlying28 rfl (by kernel_rfl)) rfl ?_
    exact ⟨_, _, _, _, _, by first | rfl | (simp <;> rfl) | (simp [*] <;> rfl), by (with_reducible repeat (first | apply yA | apply yB | apply yC)); exact zF (yF (p := ⟨gb206, 5, none⟩) (yF (p := ⟨gb206, 4, none⟩) (yF (p := ⟨gb206, 3, none⟩) (yF (p := ⟨gb206, 2, none⟩) (yF (p := ⟨gb206, 1, none⟩) (yF (p := ⟨gb206, 0, none⟩) (Kd.R_types HO_211001.out BK206.out (by decide)) (fun _ hk => hk.2) (.int .i64 3)) (fun _ hk => hk.2) (.slice Ao6 t207.length co6)) (fun _ hk => hk.2) (.slice Ao35 x211002_1.length co35)) (fun _ hk => hk.2) (.slice Ao36 x211003_1.length co36)) (fun _ hk => hk.2) (.slice Ao37 x211004_1.length co37)) (fun _ hk => hk.2) (.slice none 0 0)) (fun _ hk => ⟨hk.1.1, ⟨hk.1.2.1, hk.1.2.2⟩⟩), by (with_reducible repeat (first | apply yA | apply yB | apply yC)); exact zF (yF (p := ⟨gb206, 5, none⟩) (yF (p := ⟨gb206, 4, none⟩) (yF (p := ⟨gb206, 3, none⟩) (yF (p := ⟨gb206, 2, none⟩) (yF (p := ⟨gb206, 1, none⟩) (yF (p := ⟨gb206, 0, none⟩) (Kd.R_types HO_211002.out BK206.out (by decide)) (fun _ hk => hk.2) (.int .i64 3)) (fun _ hk => hk.2) (.slice Ao6 t207.length co6)) (fun _ hk => hk.2) (.slice Ao35 x211002_1.length co35)) (fun _ hk => hk.2) (.slice Ao36 x211003_1.length co36)) (fun _ hk => hk.2) (.slice Ao37 x211004_1.length co37)) (fun _ hk => hk.2) (.slice none 0 0)) (fun _ hk => ⟨hk.1.1, ⟨hk.1.2.1, hk.1.2.2⟩⟩), by (with_reducible repeat (first | apply yA | apply yB | apply yC)); exact zF (yF (p := ⟨gb206, 5, none⟩) (yF (p := ⟨gb206, 4, none⟩) (yF (p := ⟨gb206, 3, none⟩) (yF (p := ⟨gb206, 2, none⟩) (yF (p := ⟨gb206, 1, none⟩) (yF (p := ⟨gb206, 0, none⟩) (Kd.R_types HO_211003.out BK206.out (by decide)) (fun _ hk => hk.2) (.int .i64 3)) (fun _ hk => hk.2) (.slice Ao6 t207.length co6)) (fun _ hk => hk.2) (.slice Ao35 x211002_1.length co35)) (fun _ hk => hk.2) (.slice Ao36 x211003_1.length co36)) (fun _ hk => hk.2) (.slice Ao37 x211004_1.length co37)) (fun _ hk => hk.2) (.slice none 0 0)) (fun _ hk => ⟨hk.1.1, ⟨hk.1.2.1, hk.1.2.2⟩⟩), by (with_reducible repeat (first | apply yA | apply yB | apply yC)); exact zF (yF (p := ⟨gb206, 5, none⟩) (yF (p := ⟨gb206, 4, none⟩) (yF (p := ⟨gb206, 3, none⟩) (yF (p := ⟨gb206, 2, none⟩) (yF (p := ⟨gb206, 1, none⟩) (yF (p := ⟨gb206, 0, none⟩) (Kd.R_types HO_211004.out BK206.out (by decide)) (fun _ hk => hk.2) (.int .i64 3)) (fun _ hk => hk.2) (.slice Ao6 t207.length co6)) (fun _ hk => hk.2) (.slice Ao35 x211002_1.length co35)) (fun _ hk => hk.2) (.slice Ao36 x211003_1.length co36)) (fun _ hk => hk.2) (.slice Ao37 x211004_1.length co37)) (fun _ hk => hk.2) (.slice none 0 0)) (fun _ hk => ⟨hk.1.1, ⟨hk.1.2.1, hk.1.2.2⟩⟩), by first | exact Kd.S_nil _ _ _ _ _ | exact Kd.N_nil _ _ _ _ _ | exact Kd.V_nil _ _ _ _ _ | exact Kd.Q_nil _ _ _ _ _ | exact Kd.R_nil _ _ _ _ _, kR1 HB⟩

/-! ### impl_RangeOf: function 7 -/
def impl_RangeOf.f (k : Nat) (l0 : List Int) (l1 : List Int) : Option (Int × List Int × List Int × List Int × List Int × (List (S97)) × Bool) := (impl_ValidBox.f k l0 l1).bind fun t225 => (if t225 = true then ((impl_rangeOf.f k l0 l1).bind fun bt226 => (some (bt226.1, bt226.2.1, bt226.2.2.1, bt226.2.2.2.1, bt226.2.2.2.2.1, bt226.2.2.2.2.2, true))) else (some (0, ([] : List Int), ([] : List Int), ([] : List Int), ([] : List Int), ([] : List (S97)), false)))
theorem impl_RangeOf.mono : ∀ a0 a1 k, LeO (impl_RangeOf.f k a0 a1) (impl_RangeOf.f (k + 1) a0 a1) := by
 intro a0 a1 k
 unfold impl_RangeOf.f
 repeat' first
  | (with_reducible exact impl_ValidBox.mono _ _ _)
  | (with_reducible exact impl_rangeOf.mono _ _ _)
  | (with_reducible exact LeO.refl _)
  | (with_reducible exact LeO.none _)
  | (with_reducible refine LeO.ite ?_ ?_)
  | (with_reducible refine LeO.bind ?_ (fun _ => ?_))
  | exact impl_ValidBox.mono _ _ _
  | exact impl_rangeOf.mono _ _ _
  | exact LeO.none _
  | refine LeO.ite ?_ ?_
  | refine LeO.bind ?_ (fun _ => ?_)
set_option maxHeartbeats 8000000 in
set_option maxRecDepth 100000 in
theorem impl_RangeOf.calls (k : Nat) (A0 : Option Addr) (c0 : Nat) (l0 : List Int) (A1 : Option Addr) (c1 : Nat) (l1 : List Int) (r1 : Int) (r2 : List Int) (r3 : List Int) (r4 : List Int) (r5 : List Int) (r6 : List (S97)) (r7 : Bool) (w : World) (hr0 : Kd.C (Kd.int .i64) w A0 l0.length l0) (hc0 : l0.length ≤ c0) (hr1 : Kd.C (Kd.int .i64) w A1 l1.length l1) (hc1 : l1.length ≤ c1) (h : impl_RangeOf.f k l0 l1 = some (r1, r2, r3, r4, r5, r6, r7)) :
 Calls Try.prog 7 #[.slice A0 l0.length c0, .slice A1 l1.length c1] w fun e w' => ∃ v1_ v2_ v3_ v4_ v5_ : Value, e = .returned (.tuple #[.agg #[.int .i64 r1, v1_, v2_, v3_, v4_, v5_], .bool r7]) ∧ Kd.R (Kd.int .i64) 2 w' w.heap.size (fun k_ => some k_ ≠ (v2_ : Value).ownBlock ∧ some k_ ≠ (v3_ : Value).ownBlock ∧ some k_ ≠ (v4_ : Value).ownBlock) v1_ r2 ∧ Kd.R (Kd.int .i64) 2 w' w.heap.size (fun k_ => some k_ ≠ (v1_ : Value).ownBlock ∧ some k_ ≠ (v3_ : Value).ownBlock ∧ some k_ ≠ (v4_ : Value).ownBlock) v2_ r3 ∧ Kd.R (Kd.int .i64) 2 w' w.heap.size (fun k_ => some k_ ≠ (v1_ : Value).ownBlock ∧ some k_ ≠ (v2_ : Value).ownBlock ∧ some k_ ≠ (v4_ : Value).ownBlock) v3_ r4 ∧ Kd.R (Kd.int .i64) 2 w' w.heap.size (fun k_ => some k_ ≠ (v1_ : Value).ownBlock ∧ some k_ ≠ (v2_ : Value).ownBlock ∧ some k_ ≠ (v3_ : Value).ownBlock) v4_ r5 ∧ Kd.S k97 97 w' w.heap.size (fun k_ => some k_ ≠ (v1_ : Value).ownBlock ∧ some k_ ≠ (v2_ : Value).ownBlock ∧ some k_ ≠ (v3_ : Value).ownBlock ∧ some k_ ≠ (v4_ : Value).ownBlock) v5_ r6 ∧ Below w.heap.size w w' := by
 have hu28 := Try.underlying28; have hu64 := Try.underlying64
 have HR0 := yD hr0
 have HC0 := yD hc0
 clear hr0 hc0
 have HR1 := yD hr1
 have HC1 := yD hc1
 clear hr1 hc1
 have HB := yD (Below.refl w.heap.size w)
 have H : ((impl_ValidBox.f k l0 l1).bind fun t225 => (if t225 = true then ((impl_rangeOf.f k l0 l1).bind fun bt226 => (some (bt226.1, bt226.2.1, bt226.2.2.1, bt226.2.2.2.1, bt226.2.2.2.2.1, bt226.2.2.2.2.2, true))) else (some (0, ([] : List Int), ([] : List Int), ([] : List Int), ([] : List Int), ([] : List (S97)), false)))) = some (r1, r2, r3, r4, r5, r6, r7) := h
 clear h
 obtain ⟨t225, A30, H⟩ := zW_ H
 replace H : (if t225 = true then ((impl_rangeOf.f k l0 l1).bind fun bt226 => (some (bt226.1, bt226.2.1, bt226.2.2.1, bt226.2.2.2.1, bt226.2.2.2.2.1, bt226.2.2.2.2.2, true))) else (some (0, ([] : List Int), ([] : List Int), ([] : List Int), ([] : List Int), ([] : List (S97)), false))) = some (r1, r2, r3, r4, r5, r6, r7) := H
 have A3 := yD A30
 clear A30
 by_cases c4 : t225 = true
 ·
  subst c4
  have H1 : ((impl_rangeOf.f k l0 l1).bind fun bt226 => (some (bt226.1, bt226.2.1, bt226.2.2.1, bt226.2.2.2.1, bt226.2.2.2.2.1, bt226.2.2.2.2.2, true))) = some (r1, r2, r3, r4, r5, r6, r7) := by rw [if_pos rfl] at H; exact H
  clear H; have H := H1; clear H1
  obtain ⟨⟨t226, t227, t230, t233, t236, t239⟩, A50, H⟩ := zW_ H
  replace H : (some (t226, t227, t230, t233, t236, t239, true)) = some (r1, r2, r3, r4, r5, r6, r7) := H
  have A5 := yD A50
  clear A50
  simp only [Option.some.injEq, Prod.mk.injEq] at H
  obtain ⟨rfl, rfl, rfl, rfl, rfl, rfl, rfl⟩ := H
  go_enter Try.func7, Try.ntmps7
  go_wp2_with (first | ((with_reducible refine gate_dst (N := 4) rfl ?_); refine box_event ?hg (N := 4) ?hd (cs := #[.int .i64 0, .slice none 0 0, .slice none 0 0, .slice none 0 0, .slice none 0 0, .slice none 0 0]) (t := 28) ?hr ?_; (case hd => rfl); (case hg => rfl); (case hr => first | (go_simp; done) | (go_simp; rfl)); intro gb224 hg w6 hbox hb; have n0_ := yD (zC (kB HB) hb); have n1_ := yD (hbox); have n2_ := yD ((by rw [hg]; exact (below_size (kB HB)) : w.heap.size ≤ gb224)); have n3_ := yD ((by rw [hg]; exact (below_size (kB HB)) : w.heap.size ≤ gb224)); clear HB; have HB := n0_; have BK224 := n1_; have GW224 := n2_; have GE224 := n3_; clear n0_ n1_ n2_ n3_; clear hb hbox hg) | ((with_reducible refine gate_callee (f := 28) rfl ?_); refine goesL_ (some 9) rfl rfl Try.func28 (by kernel_rfl) rfl #[.agg #[.slice A0 l0.length c0, .slice A1 l1.length c1]] rfl (by (try simp only [zK, zL, zM]); first | done | rfl | (simp only [zN, zO]; rfl)) ?_; (with_reducible refine (impl_ValidBox.calls k _ _ l0 _ _ l1 true _ ?side1 ?side2 ?side3 ?side4 A3.out).mono ?_); (case side1 => exact kV (yY HR0.out HB.out)); (case side2 => exact HC0.out); (case side3 => exact kV (yY HR1.out HB.out)); (case side4 => exact HC1.out); rintro e w7 ⟨rfl, hb⟩; refine ⟨_, rfl, ?_⟩; have n0_ := yD (zB (g := gb224) (o := .cells #[.int .i64 0, .slice none 0 0, .slice none 0 0, .slice none 0 0, .slice none 0 0, .slice none 0 0] 28 (0, 0)) (kM BK224) hb); have n1_ := yD (zC (kB HB) hb); clear BK224; clear HB; have BK224 := n0_; have HB := n1_; clear n0_ n1_; (try clear hb); (try clear hb2); (try clear hk); (try clear hi)) | ((with_reducible refine gate_callee (f := 29) rfl ?_); refine goesL_ (some 14) rfl rfl Try.func29 (by kernel_rfl) rfl #[.slice A0 l0.length c0, .slice A1 l1.length c1] rfl (by (try simp only [zK, zL, zM]); first | done | rfl | (simp only [zN, zO]; rfl)) ?_; (with_reducible refine (impl_rangeOf.calls k _ _ l0 _ _ l1 t226 t227 t230 t233 t236 t239 _ ?side1 ?side2 ?side3 ?side4 A5.out).mono ?_); (case side1 => exact kV (yY HR0.out HB.out)); (case side2 => exact HC0.out); (case side3 => exact kV (yY HR1.out HB.out)); (case side4 => exact HC1.out); rintro e w8 ⟨v228, v231, v234, v237, v240, rfl, ho0, ho1, ho2, ho3, ho4, hb⟩; refine ⟨_, rfl, ?_⟩; have n0_ := yD (yZ ho0 (below_size (kB HB))); have n1_ := yD (yZ ho1 (below_size (kB HB))); have n2_ := yD (yZ ho2 (below_size (kB HB))); have n3_ := yD (yZ ho3 (below_size (kB HB))); have n4_ := yD (zG ho4 (below_size (kB HB))); have n5_ := yD (zB (g := gb224) (o := .cells #[.int .i64 0, .slice none 0 0, .slice none 0 0, .slice none 0 0, .slice none 0 0, .slice none 0 0] 28 (0, 0)) (kM BK224) hb); have n6_ := yD (zC (kB HB) hb); clear BK224; clear HB; have HO229 := n0_; have HO232 := n1_; have HO235 := n2_; have HO238 := n3_; have HO241 := n4_; have BK224 := n5_; have HB := n6_; clear n0_ n1_ n2_ n3_ n4_ n5_ n6_; (try clear hb); (try clear hb2); (try clear hk); (try clear hi); (try clear ho0); (try clear ho1); (try clear ho2); (try clear ho3); (try clear ho4); obtain ⟨hcz9_0, hcz9_1, hcz9_2, hcz9_3, hcz9_4, hcz9_5⟩ := cz6 BK224.out; obtain ⟨hfz9_0, hfz9_1, hfz9_2, hfz9_3, hfz9_4, hfz9_5⟩ := fz6 BK224.out; obtain ⟨Ao10, co10, eo10⟩ := Kd.R_slice HO229.out; subst eo10; obtain ⟨Ao11, co11, eo11⟩ := Kd.R_slice HO232.out; subst eo11; obtain ⟨Ao12, co12, eo12⟩ := Kd.R_slice HO235.out; subst eo12; obtain ⟨Ao13, co13, eo13⟩ := Kd.R_slice HO238.out; subst eo13; obtain ⟨Ao14, co14, eo14⟩ := Kd.S_slice HO241.out; subst eo14))
  refine bodyPost_ret (results_ct rfl _ _ gb224 28 #[.int .i64 t226, .slice Ao10 t227.length co10, .slice Ao11 t230.length co11, .slice Ao12 t233.length co12, .slice Ao13 t236.length co13, .slice Ao14 t239.length co14] (0, 0) _ rfl (by (with_reducible repeat (first | refine yM ?_ _ | refine yO ?_ | refine yN ?_ _)); refine blk_put (cs := #[.int .i64 t226, .slice Ao10 t227.length co10, .slice Ao11 t230.length co11, .slice Ao12 t233.length co12, .slice Ao13 t236.length co13, .slice none 0 0]) ?_ 5 _ rfl; (with_reducible repeat (first | refine yM ?_ _ | refine yO ?_ | refine yN ?_ _)); refine blk_put (cs := #[.int .i64 t226, .slice Ao10 t227.length co10, .slice Ao11 t230.length co11, .slice Ao12 t233.length co12, .slice none 0 0, .slice none 0 0]) ?_ 4 _ rfl; (with_reducible repeat (first | refine yM ?_ _ | refine yO ?_ | refine yN ?_ _)); refine blk_put (cs := #[.int .i64 t226, .slice Ao10 t227.length co10, .slice Ao11 t230.length co11, .slice none 0 0, .slice none 0 0, .slice none 0 0]) ?_ 3 _ rfl; (with_reducible repeat (first | refine yM ?_ _ | refine yO ?_ | refine yN ?_ _)); refine blk_put (cs := #[.int .i64 t226, .slice Ao10 t227.length co10, .slice none 0 0, .slice none 0 0, .slice none 0 0, .slice none 0 0]) ?_ 2 _ rfl; (with_reducible repeat (first | refine yM ?_ _ | refine yO ?_ | refine yN ?_ _)); refine blk_put (cs := #[.int .i64 t226, .slice none 0 0, .slice none 0 0, .slice none 0 0, .slice none 0 0, .slice none 0 0]) ?_ 1 _ rfl; (with_reducible repeat (first | refine yM ?_ _ | refine yO ?_ | refine yN ?_ _)); refine blk_put (cs := #[.int .i64 0, .slice none 0 0, .slice none 0 0, .slice none 0 0, .slice none 0 0, .slice none 0 0]) ?_ 0 _ rfl; (with_reducible repeat (first | refine yM ?_ _ | refine yO ?_ | refine yN ?_ _)); exact BK224.out) Try.underlying28 rfl (by kernel_rfl)) rfl ?_
  exact ⟨_, _, _, _, _, by first | rfl | (simp <;> rfl) | (simp [*] <;> rfl), by (with_reducible repeat (first | apply yA | apply yB | apply yC)); exact zF (yF (p := ⟨gb224, 5, none⟩) (yF (p := ⟨gb224, 4, none⟩) (yF (p := ⟨gb224, 3, none⟩) (yF (p := ⟨gb224, 2, none⟩) (yF (p := ⟨gb224, 1, none⟩) (yF (p := ⟨gb224, 0, none⟩) (Kd.R_types HO229.out BK224.out (by decide)) (fun _ hk => hk.2) (.int .i64 t226)) (fun _ hk => hk.2) (.slice Ao10 t227.length co10)) (fun _ hk => hk.2) (.slice Ao11 t230.length co11)) (fun _ hk => hk.2) (.slice Ao12 t233.length co12)) (fun _ hk => hk.2) (.slice Ao13 t236.length co13)) (fun _ hk => hk.2) (.slice Ao14 t239.length co14)) (fun _ hk => ⟨hk.1.1, ⟨hk.1.2.1, hk.1.2.2⟩⟩), by (with_reducible repeat (first | apply yA | apply yB | apply yC)); exact zF (yF (p := ⟨gb224, 5, none⟩) (yF (p := ⟨gb224, 4, none⟩) (yF (p := ⟨gb224, 3, none⟩) (yF (p := ⟨gb224, 2, none⟩) (yF (p := ⟨gb224, 1, none⟩) (yF (p := ⟨gb224, 0, none⟩) (Kd.R_types HO232.out BK224.out (by decide)) (fun _ hk => hk.2) (.int .i64 t226)) (fun _ hk => hk.2) (.slice Ao10 t227.length co10)) (fun _ hk => hk.2) (.slice Ao11 t230.length co11)) (fun _ hk => hk.2) (.slice Ao12 t233.length co12)) (fun _ hk => hk.2) (.slice Ao13 t236.length co13)) (fun _ hk => hk.2) (.slice Ao14 t239.length co14)) (fun _ hk => ⟨hk.1.1, ⟨hk.1.2.1, hk.1.2.2⟩⟩), by (with_reducible repeat (first | apply yA | apply yB | apply yC)); exact zF (yF (p := ⟨gb224, 5, none⟩) (yF (p := ⟨gb224, 4, none⟩) (yF (p := ⟨gb224, 3, none⟩) (yF (p := ⟨gb224, 2, none⟩) (yF (p := ⟨gb224, 1, none⟩) (yF (p := ⟨gb224, 0, none⟩) (Kd.R_types HO235.out BK224.out (by decide)) (fun _ hk => hk.2) (.int .i64 t226)) (fun _ hk => hk.2) (.slice Ao10 t227.length co10)) (fun _ hk => hk.2) (.slice Ao11 t230.length co11)) (fun _ hk => hk.2) (.slice Ao12 t233.length co12)) (fun _ hk => hk.2) (.slice Ao13 t236.length co13)) (fun _ hk => hk.2) (.slice Ao14 t239.length co14)) (fun _ hk => ⟨hk.1.1, ⟨hk.1.2.1, hk.1.2.2⟩⟩), by (with_reducible repeat (first | apply yA | apply yB | apply yC)); exact zF (yF (p := ⟨gb224, 5, none⟩) (yF (p := ⟨gb224, 4, none⟩) (yF (p := ⟨gb224, 3, none⟩) (yF (p := ⟨gb224, 2, none⟩) (yF (p := ⟨gb224, 1, none⟩) (yF (p := ⟨gb224, 0, none⟩) (Kd.R_types HO238.out BK224.out (by decide)) (fun _ hk => hk.2) (.int .i64 t226)) (fun _ hk => hk.2) (.slice Ao10 t227.length co10)) (fun _ hk => hk.2) (.slice Ao11 t230.length co11)) (fun _ hk => hk.2) (.slice Ao12 t233.length co12)) (fun _ hk => hk.2) (.slice Ao13 t236.length co13)) (fun _ hk => hk.2) (.slice Ao14 t239.length co14)) (fun _ hk => ⟨hk.1.1, ⟨hk.1.2.1, hk.1.2.2⟩⟩), by (with_reducible repeat (first | apply yS | apply yT | apply yU)); exact Kd.S_mono (Kd.S_far (p := ⟨gb224, 5, none⟩) (Kd.S_far (p := ⟨gb224, 4, none⟩) (Kd.S_far (p := ⟨gb224, 3, none⟩) (Kd.S_far (p := ⟨gb224, 2, none⟩) (Kd.S_far (p := ⟨gb224, 1, none⟩) (Kd.S_far (p := ⟨gb224, 0, none⟩) (Kd.S_types HO241.out BK224.out (by decide)) (fun _ hk => hk.2) (.int .i64 t226)) (fun _ hk => hk.2) (.slice Ao10 t227.length co10)) (fun _ hk => hk.2) (.slice Ao11 t230.length co11)) (fun _ hk => hk.2) (.slice Ao12 t233.length co12)) (fun _ hk => hk.2) (.slice Ao13 t236.length co13)) (fun _ hk => hk.2) (.slice Ao14 t239.length co14)) (fun _ hk => ⟨hk.1.1, ⟨hk.1.2.1, ⟨hk.1.2.2.1, hk.1.2.2.2⟩⟩⟩), kR1 HB⟩
 ·
  replace c4 := Bool.eq_false_iff.mpr c4
  subst c4
  have H1 : (some (0, ([] : List Int), ([] : List Int), ([] : List Int), ([] : List Int), ([] : List (S97)), false)) = some (r1, r2, r3, r4, r5, r6, r7) := by rw [if_neg (show ¬ (false = true) by decide)] at H; exact H
  clear H; have H := H1; clear H1
  simp only [Option.some.injEq, Prod.mk.injEq] at H
  obtain ⟨rfl, rfl, rfl, rfl, rfl, rfl, rfl⟩ := H
  go_enter Try.func7, Try.ntmps7
  go_wp2_with (first | ((with_reducible refine gate_dst (N := 4) rfl ?_); refine box_event ?hg (N := 4) ?hd (cs := #[.int .i64 0, .slice none 0 0, .slice none 0 0, .slice none 0 0, .slice none 0 0, .slice none 0 0]) (t := 28) ?hr ?_; (case hd => rfl); (case hg => rfl); (case hr => first | (go_simp; done) | (go_simp; rfl)); intro gb224 hg w15 hbox hb; have n0_ := yD (zC (kB HB) hb); have n1_ := yD (hbox); have n2_ := yD ((by rw [hg]; exact (below_size (kB HB)) : w.heap.size ≤ gb224)); have n3_ := yD ((by rw [hg]; exact (below_size (kB HB)) : w.heap.size ≤ gb224)); clear HB; have HB := n0_; have BK224 := n1_; have GW224 := n2_; have GE224 := n3_; clear n0_ n1_ n2_ n3_; clear hb hbox hg) | ((with_reducible refine gate_callee (f := 28) rfl ?_); refine goesL_ (some 9) rfl rfl Try.func28 (by kernel_rfl) rfl #[.agg #[.slice A0 l0.length c0, .slice A1 l1.length c1]] rfl (by (try simp only [zK, zL, zM]); first | done | rfl | (simp only [zN, zO]; rfl)) ?_; (with_reducible refine (impl_ValidBox.calls k _ _ l0 _ _ l1 false _ ?side1 ?side2 ?side3 ?side4 A3.out).mono ?_); (case side1 => exact kV (yY HR0.out HB.out)); (case side2 => exact HC0.out); (case side3 => exact kV (yY HR1.out HB.out)); (case side4 => exact HC1.out); rintro e w16 ⟨rfl, hb⟩; refine ⟨_, rfl, ?_⟩; have n0_ := yD (zB (g := gb224) (o := .cells #[.int .i64 0, .slice none 0 0, .slice none 0 0, .slice none 0 0, .slice none 0 0, .slice none 0 0] 28 (0, 0)) (kM BK224) hb); have n1_ := yD (zC (kB HB) hb); clear BK224; clear HB; have BK224 := n0_; have HB := n1_; clear n0_ n1_; (try clear hb); (try clear hb2); (try clear hk); (try clear hi); obtain ⟨hcz17_0, hcz17_1, hcz17_2, hcz17_3, hcz17_4, hcz17_5⟩ := cz6 BK224.out; obtain ⟨hfz17_0, hfz17_1, hfz17_2, hfz17_3, hfz17_4, hfz17_5⟩ := fz6 BK224.out))
  refine bodyPost_ret (results_ct rfl _ _ gb224 28 #[.int .i64 0, .slice none 0 0, .slice none 0 0, .slice none 0 0, .slice none 0 0, .slice none 0 0] (0, 0) _ rfl (by (with_reducible repeat (first | refine yM ?_ _ | refine yO ?_ | refine yN ?_ _)); refine blk_put (cs := #[.int .i64 0, .slice none 0 0, .slice none 0 0, .slice none 0 0, .slice none 0 0, .slice none 0 0]) ?_ 5 _ rfl; (with_reducible repeat (first | refine yM ?_ _ | refine yO ?_ | refine yN ?_ _)); refine blk_put (cs := #[.int .i64 0, .slice none 0 0, .slice none 0 0, .slice none 0 0, .slice none 0 0, .slice none 0 0]) ?_ 4 _ rfl; (with_reducible repeat (first | refine yM ?_ _ | refine yO ?_ | refine yN ?_ _)); refine blk_put (cs := #[.int .i64 0, .slice none 0 0, .slice none 0 0, .slice none 0 0, .slice none 0 0, .slice none 0 0]) ?_ 3 _ rfl; (with_reducible repeat (first | refine yM ?_ _ | refine yO ?_ | refine yN ?_ _)); refine blk_put (cs := #[.int .i64 0, .slice none 0 0, .slice none 0 0, .slice none 0 0, .slice none 0 0, .slice none 0 0]) ?_ 2 _ rfl; (with_reducible repeat (first | refine yM ?_ _ | refine yO ?_ | refine yN ?_ _)); refine blk_put (cs := #[.int .i64 0, .slice none 0 0, .slice none 0 0, .slice none 0 0, .slice none 0 0, .slice none 0 0]) ?_ 1 _ rfl; (with_reducible repeat (first | refine yM ?_ _ | refine yO ?_ | refine yN ?_ _)); refine blk_put (cs := #[.int .i64 0, .slice none 0 0, .slice none 0 0, .slice none 0 0, .slice none 0 0, .slice none 0 0]) ?_ 0 _ rfl; (with_reducible repeat (first | refine yM ?_ _ | refine yO ?_ | refine yN ?_ _)); exact BK224.out) Try.underlying28 rfl (by kernel_rfl)) rfl ?_
  exact ⟨_, _, _, _, _, by first | rfl | (simp <;> rfl) | (simp [*] <;> rfl), by first | exact Kd.R_nil _ _ _ _ _ | exact Kd.N_nil _ _ _ _ _ | exact Kd.V_nil _ _ _ _ _ | exact Kd.Q_nil _ _ _ _ _ | exact Kd.S_nil _ _ _ _ _, by first | exact Kd.R_nil _ _ _ _ _ | exact Kd.N_nil _ _ _ _ _ | exact Kd.V_nil _ _ _ _ _ | exact Kd.Q_nil _ _ _ _ _ | exact Kd.S_nil _ _ _ _ _, by first | exact Kd.R_nil _ _ _ _ _ | exact Kd.N_nil _ _ _ _ _ | exact Kd.V_nil _ _ _ _ _ | exact Kd.Q_nil _ _ _ _ _ | exact Kd.S_nil _ _ _ _ _, by first | exact Kd.R_nil _ _ _ _ _ | exact Kd.N_nil _ _ _ _ _ | exact Kd.V_nil _ _ _ _ _ | exact Kd.Q_nil _ _ _ _ _ | exact Kd.S_nil _ _ _ _ _, by first | exact Kd.S_nil _ _ _ _ _ | exact Kd.N_nil _ _ _ _ _ | exact Kd.V_nil _ _ _ _ _ | exact Kd.Q_nil _ _ _ _ _ | exact Kd.R_nil _ _ _ _ _, kR1 HB⟩

/-! ### spec_l00In: function 30 -/
def spec_l00In.f (a0 : Int) (a1 : Int) (a2 : Int) : Option (Bool) := if a0 ≥ a1 then (some (decide (a0 ≤ a2))) else (some false)
set_option maxHeartbeats 8000000 in
set_option maxRecDepth 100000 in
theorem spec_l00In.calls (a0 : Int) (a1 : Int) (a2 : Int) (r : Bool) (w : World) (h : spec_l00In.f a0 a1 a2 = some r) :
 Calls Try.prog 30 #[.int .i64 a0, .int .i64 a1, .int .i64 a2] w fun e w' => e = .returned (.bool r) ∧ Drawn0 w w' := by
 have H : (if a0 ≥ a1 then (some (decide (a0 ≤ a2))) else (some false)) = some r := h
 clear h
 by_cases c4 : a0 ≥ a1
 · rw [if_pos c4] at H
   have c4b0 : decide (a1 ≤ a0) = true := zR c4; clear c4; obtain rfl := Option.some.inj H; go_enter Try.func30, Try.ntmps30
   go_wp2
   go_ret
   exact ⟨by first | rfl | (simp; done) | (simp [*]; done), by repeat (first | exact Drawn0.refl _ | apply Drawn0.step)⟩
 ·
  rw [if_neg c4] at H
  have c4b0 : decide (a1 ≤ a0) = false := zS c4; clear c4; obtain rfl := Option.some.inj H; go_enter Try.func30, Try.ntmps30
  go_wp2
  go_ret
  exact ⟨by first | rfl | (simp; done) | (simp [*]; done), by repeat (first | exact Drawn0.refl _ | apply Drawn0.step)⟩

/-! ### spec_l00Own: function 63 -/
def spec_l00Own.f (l0 : List Int) : Option (List Int) := (some (([] : List Int) : List Int)).bind fun y242 => (if y242.length + l0.length < 17592186044416 then (some (y242 ++ l0)) else (none))
set_option maxHeartbeats 8000000 in
set_option maxRecDepth 100000 in
theorem spec_l00Own.calls (A0 : Option Addr) (c0 : Nat) (l0 : List Int) (r : List Int) (w : World) (hr0 : Kd.C (Kd.int .i64) w A0 l0.length l0) (hc0 : l0.length ≤ c0) (h : spec_l00Own.f l0 = some r) :
 Calls Try.prog 63 #[.slice A0 l0.length c0] w fun e w' => ∃ v0_ : Value, e = .returned (v0_) ∧ Kd.R (Kd.int .i64) 2 w' w.heap.size (fun _ => True) v0_ r ∧ Below w.heap.size w w' := by
 have HR0 := yD hr0
 have HC0 := yD hc0
 clear hr0 hc0
 have HB := yD (Below.refl w.heap.size w)
 have H : ((some (([] : List Int) : List Int)).bind fun y242 => (if y242.length + l0.length < 17592186044416 then (some (y242 ++ l0)) else (none))) = some r := h
 clear h
 obtain ⟨y242, hy242⟩ : ∃ y_ : List Int, y_ = (([] : List Int)) := ⟨_, rfl⟩
 replace H : (if y242.length + l0.length < 17592186044416 then (some (y242 ++ l0)) else (none)) = some r := by first | (rw [hy242]; with_reducible exact H) | (have H2_ := (Option.bind_some _ _).symm.trans H; rw [hy242]; with_reducible exact H2_) | (have H2_ := (Option.bind_some _ _).symm.trans H; with_reducible exact H2_) | with_reducible exact H | (rw [hy242]; exact H) | exact H
 have Ny242 := yD hy242
 clear hy242
 by_cases c2 : y242.length + l0.length < 17592186044416
 ·
  rw [if_pos c2] at H
  have LMc2 := yD c2
  clear c2
  obtain ⟨y245, hy245⟩ : ∃ y_ : List Int, y_ = (y242 ++ l0) := ⟨_, rfl⟩
  replace H : (some y245) = some r := by first | (rw [hy245]; with_reducible exact H) | (have H2_ := (Option.bind_some _ _).symm.trans H; rw [hy245]; with_reducible exact H2_) | (have H2_ := (Option.bind_some _ _).symm.trans H; with_reducible exact H2_) | with_reducible exact H | (rw [hy245]; exact H) | exact H
  have Ny245 := yD hy245
  clear hy245; obtain rfl := Option.some.inj H; go_enter Try.func63, Try.ntmps63
  go_wp2_with (first | ((with_reducible refine gate_dst (N := 3) rfl ?_); refine Kd.R_lit (Kd.int .i64) _ 2 ?hg (N := 3) ?hd (xs := ([] : List Int)) (inner := []) (ok := fun _ => True) (okp := fun _ => True) ?hr ?hp (fun _ hk => hk) trivial (Below.refl _ _) (Nat.le_refl _) (by simp) ?_; (case hd => rfl); (case hg => rfl); (case hr => first | (go_simp; done) | (go_simp; rfl)); (case hp => exact (Reps.none _ _)); intro v243 w3 ho4 hb hg_ hnew_; clear hg_ hnew_; (first | rw [← Ny242.out] at ho4 | (simp only [Int.reduceToNat] at ho4; rw [← Ny242.out] at ho4)); have n0_ := yD (yZ ho4 (below_size (kB HB))); have n1_ := yD (zC (kB HB) hb); clear HB; have HO244 := n0_; have HB := n1_; clear n0_ n1_; clear hb ho4) | ((with_reducible refine gate_builtin (b := .append) (xs := #[.tmp 3, .tmp 4]) rfl ?_); at_builtin; refine Kd.R_append_rows (Kd.int .i64) (w0 := w) w.heap.size rfl (.tmp 3) (.tmp 4) 23 2 (.int .i64 0) 8 rfl Try.underlying23 info2 rfl (by decide) (by omega) v243 y242 l0 _ _ _ (fun _ => True) (fun _ => False) rfl rfl ?aO ?aR (fun _ _ h => h) (fun _ h => h.elim) ?aF ?aB ?aS ?aL ?_; (case aR => exact kV (yY HR0.out HB.out)); (case aB => exact (kB HB)); (case aF => exact (fun _ _ => trivial)); (case aO => exact (kA HO244)); (case aS => exact (below_size (kB HB))); (case aL => have := LMc2.out; omega); intro v246 w5 ho hb hg hat; rw [← Ny245.out] at ho; have n0_ := yD (hb); have n1_ := yD (ho); clear HB; clear HO244; have HB := n0_; have HO247 := n1_; clear n0_ n1_; clear ho hb hg hat))
  go_ret
  exact ⟨_, by first | rfl | (simp <;> rfl) | (simp [*] <;> rfl), by (with_reducible repeat (first | apply yA | apply yB | apply yC)); exact HO247.out, kR0 HB⟩
 · rw [if_neg c2] at H
   exact absurd H (by simp)

end Go.Proofs.Ytgpkkplabnliiaa.PFnRanges
