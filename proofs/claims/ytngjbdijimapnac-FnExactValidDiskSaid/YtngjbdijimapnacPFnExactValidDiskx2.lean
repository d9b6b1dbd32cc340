/- Each Go function here comes to what the plain function of its name says, where that says something. Made by a program of this session, over the print. -/
import Derived.Test.YtngjbdijimapnacPFnExactValidDiskx0
import Derived.Test.YtngjbdijimapnacPFnExactValidDiskx1
namespace Go.Proofs.Ytngjbdijimapnac.PFnExactValidDisk
open Go.RowKit Go.Proofs.YtngjbdijimapnacW.PrintWords Go.Proofs.YtngjbdijimapnacW.PrintLast Go.Proofs.YtngjbdijimapnacW.PrintMore
attribute [local go_sem] max2_int min2_int max_two min_two max_three min_three max_four min_four   -- for this text's walks alone
set_option linter.unusedVariables false
set_option linter.unusedSimpArgs false

/-! ### spec_l09Ok_c49: function 78 -/
mutual
def spec_l09Ok_c49.j0 : Nat → Int → Bool → List ByteArray → List (S62) → Int → Bool → Option (Bool)
  | 0, _, _, _, _, _, _ => none
  | k + 1, x3, x29, x41000, x41001, x41002, x41003 => if x29 = true then (some false) else (spec_l09Ok_c49.l0 k x3 0 x41000 x41001 x41002 x41003)
def spec_l09Ok_c49.l0 : Nat → Int → Int → List ByteArray → List (S62) → Int → Bool → Option (Bool)
  | 0, _, _, _, _, _, _ => none
  | k + 1, x3, x4, x41000, x41001, x41002, x41003 => if x4 < (x41000.length : Int) then (if 0 ≤ x4 then (if ((rdOf ByteArray.empty x41000 x4).size : Int) = 64 then (spec_l09Ok_c49.l0 k x3 (wrap64 (x4 + 1)) x41000 x41001 x41002 x41003) else (some false)) else (none)) else (spec_l09Ok_c49.l1 k x3 0 x41000 x41001 x41002 x41003)
def spec_l09Ok_c49.l1 : Nat → Int → Int → List ByteArray → List (S62) → Int → Bool → Option (Bool)
  | 0, _, _, _, _, _, _ => none
  | k + 1, x3, x5, x41000, x41001, x41002, x41003 => if x5 < (x41001.length : Int) then (if 0 ≤ x5 then ((spec_l00In.f ((rd_T62 x41001 x5).f0) 0 (wrap64 (x3 - 1))).bind fun t136 => (if t136 = true then (if (((rd_T62 x41001 x5).f1).size : Int) = 64 then (spec_l09Ok_c49.l1 k x3 (wrap64 (x5 + 1)) x41000 x41001 x41002 x41003) else (some false)) else (some false))) else (none)) else (some true)
end
def spec_l09Ok_c49.f (k : Nat) (l0_0 : List ByteArray) (l0_1 : List (S62)) (a0_2 : Int) (a0_3 : Bool) : Option (Bool) := (spec_l00In.f (l0_0.length : Int) 16 256).bind fun t132 => (if t132 = true then (if (l0_1.length : Int) > 600 then (spec_l09Ok_c49.j0 k (l0_0.length : Int) true l0_0 l0_1 a0_2 a0_3) else ((spec_l00In.f a0_2 (-1) 100000).bind fun t133 => (spec_l09Ok_c49.j0 k (l0_0.length : Int) (!t133) l0_0 l0_1 a0_2 a0_3))) else (spec_l09Ok_c49.j0 k (l0_0.length : Int) true l0_0 l0_1 a0_2 a0_3))
theorem spec_l09Ok_c49.mono_l : ∀ k, (∀ y0 y1 y2 y3 y4 y5, LeO (spec_l09Ok_c49.j0 k y0 y1 y2 y3 y4 y5) (spec_l09Ok_c49.j0 (k + 1) y0 y1 y2 y3 y4 y5)) ∧ (∀ y0 y1 y2 y3 y4 y5, LeO (spec_l09Ok_c49.l0 k y0 y1 y2 y3 y4 y5) (spec_l09Ok_c49.l0 (k + 1) y0 y1 y2 y3 y4 y5)) ∧ (∀ y0 y1 y2 y3 y4 y5, LeO (spec_l09Ok_c49.l1 k y0 y1 y2 y3 y4 y5) (spec_l09Ok_c49.l1 (k + 1) y0 y1 y2 y3 y4 y5))
  | 0 => ⟨fun _ _ _ _ _ _ r h => by simp [spec_l09Ok_c49.j0] at h, fun _ _ _ _ _ _ r h => by simp [spec_l09Ok_c49.l0] at h, fun _ _ _ _ _ _ r h => by simp [spec_l09Ok_c49.l1] at h⟩
  | k + 1 => by
    obtain ⟨ih0, ih1, ih2⟩ := spec_l09Ok_c49.mono_l k
    refine ⟨?_, ?_, ?_⟩
    · intro y0 y1 y2 y3 y4 y5
      unfold spec_l09Ok_c49.j0
      repeat' first
      | (with_reducible exact ih0 _ _ _ _ _ _)
      | (with_reducible exact ih1 _ _ _ _ _ _)
      | (with_reducible exact ih2 _ _ _ _ _ _)
      | (with_reducible exact LeO.refl _)
      | (with_reducible exact LeO.none _)
      | (with_reducible refine LeO.ite ?_ ?_)
      | (with_reducible refine LeO.bind ?_ (fun _ => ?_))
      | exact ih0 _ _ _ _ _ _
      | exact ih1 _ _ _ _ _ _
      | exact ih2 _ _ _ _ _ _
      | exact LeO.none _
      | refine LeO.ite ?_ ?_
      | refine LeO.bind ?_ (fun _ => ?_)
    · intro y0 y1 y2 y3 y4 y5
      unfold spec_l09Ok_c49.l0
      repeat' first
      | (with_reducible exact ih0 _ _ _ _ _ _)
      | (with_reducible exact ih1 _ _ _ _ _ _)
      | (with_reducible exact ih2 _ _ _ _ _ _)
      | (with_reducible exact LeO.refl _)
      | (with_reducible exact LeO.none _)
      | (with_reducible refine LeO.ite ?_ ?_)
      | (with_reducible refine LeO.bind ?_ (fun _ => ?_))
      | exact ih0 _ _ _ _ _ _
      | exact ih1 _ _ _ _ _ _
      | exact ih2 _ _ _ _ _ _
      | exact LeO.none _
      | refine LeO.ite ?_ ?_
      | refine LeO.bind ?_ (fun _ => ?_)
    · intro y0 y1 y2 y3 y4 y5
      unfold spec_l09Ok_c49.l1
      repeat' first
      | (with_reducible exact ih0 _ _ _ _ _ _)
      | (with_reducible exact ih1 _ _ _ _ _ _)
      | (with_reducible exact ih2 _ _ _ _ _ _)
      | (with_reducible exact LeO.refl _)
      | (with_reducible exact LeO.none _)
      | (with_reducible refine LeO.ite ?_ ?_)
      | (with_reducible refine LeO.bind ?_ (fun _ => ?_))
      | exact ih0 _ _ _ _ _ _
      | exact ih1 _ _ _ _ _ _
      | exact ih2 _ _ _ _ _ _
      | exact LeO.none _
      | refine LeO.ite ?_ ?_
      | refine LeO.bind ?_ (fun _ => ?_)
theorem spec_l09Ok_c49.mono : ∀ a0 a1 a2 a3 k, LeO (spec_l09Ok_c49.f k a0 a1 a2 a3) (spec_l09Ok_c49.f (k + 1) a0 a1 a2 a3) := by
  intro a0 a1 a2 a3 k
  obtain ⟨ih0, ih1, ih2⟩ := spec_l09Ok_c49.mono_l k
  unfold spec_l09Ok_c49.f
  repeat' first
      | (with_reducible exact ih0 _ _ _ _ _ _)
      | (with_reducible exact ih1 _ _ _ _ _ _)
      | (with_reducible exact ih2 _ _ _ _ _ _)
      | (with_reducible exact LeO.refl _)
      | (with_reducible exact LeO.none _)
      | (with_reducible refine LeO.ite ?_ ?_)
      | (with_reducible refine LeO.bind ?_ (fun _ => ?_))
      | exact ih0 _ _ _ _ _ _
      | exact ih1 _ _ _ _ _ _
      | exact ih2 _ _ _ _ _ _
      | exact LeO.none _
      | refine LeO.ite ?_ ?_
      | refine LeO.bind ?_ (fun _ => ?_)
set_option maxHeartbeats 8000000 in
set_option maxRecDepth 100000 in
theorem spec_l09Ok_c49.calls (k : Nat) (g0_0 : Nat) (A0_0 : Option Addr) (c0_0 : Nat) (l0_0 : List ByteArray) (A0_1 : Option Addr) (c0_1 : Nat) (l0_1 : List (S62)) (a0_2 : Int) (a0_3 : Bool) (r : Bool) (w : World) (hr0_0 : Kd.C Kd.string w A0_0 l0_0.length l0_0) (hc0_0 : l0_0.length ≤ c0_0) (hr0_1 : Kd.C k62 w A0_1 l0_1.length l0_1) (hc0_1 : l0_1.length ≤ c0_1) (hb0_0 : w.heap[g0_0]? = some (.cells #[.slice A0_0 l0_0.length c0_0, .slice A0_1 l0_1.length c0_1, .int .i64 a0_2, .bool a0_3] 49 (0, 0))) (h : spec_l09Ok_c49.f k l0_0 l0_1 a0_2 a0_3 = some r) :
    Calls Try.prog 78 #[.pointer (some ⟨g0_0, 0, none⟩)] w fun e w' => e = .returned (.bool r) ∧ Below w.heap.size w w' := by
  have HR0_0 := Aside0.mk hr0_0
  have HC0_0 := Aside0.mk hc0_0
  clear hr0_0 hc0_0
  have HR0_1 := Aside0.mk hr0_1
  have HC0_1 := Aside0.mk hc0_1
  clear hr0_1 hc0_1
  have BK40 := Aside0.mk hb0_0
  clear hb0_0
  have HB := Aside0.mk (Below.refl w.heap.size w)
  have H : ((spec_l00In.f (l0_0.length : Int) 16 256).bind fun t132 => (if t132 = true then (if (l0_1.length : Int) > 600 then (spec_l09Ok_c49.j0 k (l0_0.length : Int) true l0_0 l0_1 a0_2 a0_3) else ((spec_l00In.f a0_2 (-1) 100000).bind fun t133 => (spec_l09Ok_c49.j0 k (l0_0.length : Int) (!t133) l0_0 l0_1 a0_2 a0_3))) else (spec_l09Ok_c49.j0 k (l0_0.length : Int) true l0_0 l0_1 a0_2 a0_3))) = some r := h
  clear h
  have HC2 := Aside0.mk H
  clear H
  have hcz3_0 : w.cell? ⟨g0_0, 0, none⟩ = some (.slice A0_0 l0_0.length c0_0) := (blk_cell BK40.out 0).trans rfl
  have hcz3_1 : w.cell? ⟨g0_0, 1, none⟩ = some (.slice A0_1 l0_1.length c0_1) := (blk_cell BK40.out 1).trans rfl
  have hcz3_2 : w.cell? ⟨g0_0, 2, none⟩ = some (.int .i64 a0_2) := (blk_cell BK40.out 2).trans rfl
  have hcz3_3 : w.cell? ⟨g0_0, 3, none⟩ = some (.bool a0_3) := (blk_cell BK40.out 3).trans rfl
  have hfz3_0 := blk_frozen BK40.out 0
  have hfz3_1 := blk_frozen BK40.out 1
  have hfz3_2 := blk_frozen BK40.out 2
  have hfz3_3 := blk_frozen BK40.out 3
  go_enter Try.func78, Try.ntmps78
  go_upto_region 2 with (fail)
  go_cut [29] (fun v29 wc => ∃ (kq : Nat) (x29_1 : Bool), v29 = .bool x29_1 ∧ Aside0 (spec_l09Ok_c49.j0 kq (l0_0.length : Int) x29_1 l0_0 l0_1 a0_2 a0_3 = some r) ∧ Aside0 (kq ≤ k) ∧ Aside0 (wc.heap[g0_0]? = some (.cells #[(.slice A0_0 l0_0.length c0_0), (.slice A0_1 l0_1.length c0_1), .int .i64 a0_2, .bool a0_3] 49 (0, 0))) ∧ Aside0 (Below w.heap.size w wc))
  case first =>
    have H := HC2.out
    clear HC2
    replace H := Option.bind_eq_some_iff.mp H
    obtain ⟨t132, A40, H⟩ := H
    replace H : (if t132 = true then (if (l0_1.length : Int) > 600 then (spec_l09Ok_c49.j0 k (l0_0.length : Int) true l0_0 l0_1 a0_2 a0_3) else ((spec_l00In.f a0_2 (-1) 100000).bind fun t133 => (spec_l09Ok_c49.j0 k (l0_0.length : Int) (!t133) l0_0 l0_1 a0_2 a0_3))) else (spec_l09Ok_c49.j0 k (l0_0.length : Int) true l0_0 l0_1 a0_2 a0_3)) = some r := H
    have A4 := Aside0.mk A40
    clear A40
    by_cases c5 : t132 = true
    · subst c5
      have H1 : (if (l0_1.length : Int) > 600 then (spec_l09Ok_c49.j0 k (l0_0.length : Int) true l0_0 l0_1 a0_2 a0_3) else ((spec_l00In.f a0_2 (-1) 100000).bind fun t133 => (spec_l09Ok_c49.j0 k (l0_0.length : Int) (!t133) l0_0 l0_1 a0_2 a0_3))) = some r := by rw [if_pos rfl] at H; exact H
      clear H
      have H := H1
      clear H1
      by_cases c6 : (l0_1.length : Int) > 600
      · rw [if_pos c6] at H
        have c6b0 : decide (600 < (l0_1.length : Int)) = true := decide_eq_true c6
        have c6b1 : decide (600 < l0_1.length) = true := decide_eq_true (by omega)
        clear c6
        (first | rw [c6b0] | (simp only [i64_w, i32_w]; rw [c6b0]) | (simp only [bne] at c6b0; rw [c6b0]) | skip)
        have H' := Aside0.mk H
        clear H
        go_wp2_with (first | ((with_reducible refine gate_callee (f := 92) rfl ?_); refine goesL_ (some 12) rfl rfl Try.func92 (by kernel_rfl) rfl #[.int .i64 (l0_0.length : Int), .int .i64 16, .int .i64 256] rfl (by (try simp only [List.map_toArray, List.map_cons, List.map_nil]); first | done | rfl | (simp only [List.length_drop, List.length_take]; rfl)) ?_; (with_reducible refine (spec_l00In.calls (l0_0.length : Int) 16 256 true _ A4.out).mono ?_); rintro e w' ⟨rfl, ⟨nd, rfl⟩⟩; refine ⟨_, rfl, ?_⟩; have hcz7_0 : w.cell? ⟨g0_0, 0, none⟩ = some (.slice A0_0 l0_0.length c0_0) := (blk_cell BK40.out 0).trans rfl; have hcz7_1 : w.cell? ⟨g0_0, 1, none⟩ = some (.slice A0_1 l0_1.length c0_1) := (blk_cell BK40.out 1).trans rfl; have hcz7_2 : w.cell? ⟨g0_0, 2, none⟩ = some (.int .i64 a0_2) := (blk_cell BK40.out 2).trans rfl; have hcz7_3 : w.cell? ⟨g0_0, 3, none⟩ = some (.bool a0_3) := (blk_cell BK40.out 3).trans rfl; have hfz7_0 := blk_frozen BK40.out 0; have hfz7_1 := blk_frozen BK40.out 1; have hfz7_2 := blk_frozen BK40.out 2; have hfz7_3 := blk_frozen BK40.out 3))
        go_meet
        case rel => exact ⟨_, (true), (by first | rfl | (simp; done) | (simp [*]; done)), H', ⟨by first | omega | exact Nat.le_refl _⟩, ⟨by (with_reducible repeat (first | refine blk_drewN ?_ _ | refine blk_drew ?_ | refine blk_alloc ?_ _)); exact BK40.out⟩, ⟨by repeat (first | (with_reducible first | exact HB.out | apply below_alloc | apply pw_below_drewN | apply below_drew1 | refine below_set ?_ GE40.out) | exact HB.out)⟩⟩
      · rw [if_neg c6] at H
        have c6b0 : decide (600 < (l0_1.length : Int)) = false := decide_eq_false c6
        have c6b1 : decide (600 < l0_1.length) = false := decide_eq_false (by omega)
        clear c6
        (first | rw [c6b0] | (simp only [i64_w, i32_w]; rw [c6b0]) | (simp only [bne] at c6b0; rw [c6b0]) | skip)
        replace H := Option.bind_eq_some_iff.mp H
        obtain ⟨t133, A80, H⟩ := H
        replace H : (spec_l09Ok_c49.j0 k (l0_0.length : Int) (!t133) l0_0 l0_1 a0_2 a0_3) = some r := H
        have A8 := Aside0.mk A80
        clear A80
        have H' := Aside0.mk H
        clear H
        go_wp2_with (first | ((with_reducible refine gate_callee (f := 92) rfl ?_); refine goesL_ (some 12) rfl rfl Try.func92 (by kernel_rfl) rfl #[.int .i64 (l0_0.length : Int), .int .i64 16, .int .i64 256] rfl (by (try simp only [List.map_toArray, List.map_cons, List.map_nil]); first | done | rfl | (simp only [List.length_drop, List.length_take]; rfl)) ?_; (with_reducible refine (spec_l00In.calls (l0_0.length : Int) 16 256 true _ A4.out).mono ?_); rintro e w' ⟨rfl, ⟨nd, rfl⟩⟩; refine ⟨_, rfl, ?_⟩; have hcz9_0 : w.cell? ⟨g0_0, 0, none⟩ = some (.slice A0_0 l0_0.length c0_0) := (blk_cell BK40.out 0).trans rfl; have hcz9_1 : w.cell? ⟨g0_0, 1, none⟩ = some (.slice A0_1 l0_1.length c0_1) := (blk_cell BK40.out 1).trans rfl; have hcz9_2 : w.cell? ⟨g0_0, 2, none⟩ = some (.int .i64 a0_2) := (blk_cell BK40.out 2).trans rfl; have hcz9_3 : w.cell? ⟨g0_0, 3, none⟩ = some (.bool a0_3) := (blk_cell BK40.out 3).trans rfl; have hfz9_0 := blk_frozen BK40.out 0; have hfz9_1 := blk_frozen BK40.out 1; have hfz9_2 := blk_frozen BK40.out 2; have hfz9_3 := blk_frozen BK40.out 3) | (go_at_call 92; (with_reducible refine (spec_l00In.calls a0_2 (-1) 100000 t133 _ A8.out).mono ?_); rintro e w' ⟨rfl, ⟨nd, rfl⟩⟩))
        go_meet
        case rel => exact ⟨_, (!t133), (by first | rfl | (simp; done) | (simp [*]; done)), H', ⟨by first | omega | exact Nat.le_refl _⟩, ⟨by (with_reducible repeat (first | refine blk_drewN ?_ _ | refine blk_drew ?_ | refine blk_alloc ?_ _)); exact BK40.out⟩, ⟨by repeat (first | (with_reducible first | exact HB.out | apply below_alloc | apply pw_below_drewN | apply below_drew1 | refine below_set ?_ GE40.out) | exact HB.out)⟩⟩
    · replace c5 := Bool.eq_false_iff.mpr c5
      subst c5
      have H1 : (spec_l09Ok_c49.j0 k (l0_0.length : Int) true l0_0 l0_1 a0_2 a0_3) = some r := by rw [if_neg (show ¬ (false = true) by decide)] at H; exact H
      clear H
      have H := H1
      clear H1
      have H' := Aside0.mk H
      clear H
      go_wp2_with (first | ((with_reducible refine gate_callee (f := 92) rfl ?_); refine goesL_ (some 12) rfl rfl Try.func92 (by kernel_rfl) rfl #[.int .i64 (l0_0.length : Int), .int .i64 16, .int .i64 256] rfl (by (try simp only [List.map_toArray, List.map_cons, List.map_nil]); first | done | rfl | (simp only [List.length_drop, List.length_take]; rfl)) ?_; (with_reducible refine (spec_l00In.calls (l0_0.length : Int) 16 256 false _ A4.out).mono ?_); rintro e w' ⟨rfl, ⟨nd, rfl⟩⟩; refine ⟨_, rfl, ?_⟩))
      go_meet
      case rel => exact ⟨_, (true), (by first | rfl | (simp; done) | (simp [*]; done)), H', ⟨by first | omega | exact Nat.le_refl _⟩, ⟨by (with_reducible repeat (first | refine blk_drewN ?_ _ | refine blk_drew ?_ | refine blk_alloc ?_ _)); exact BK40.out⟩, ⟨by repeat (first | (with_reducible first | exact HB.out | apply below_alloc | apply pw_below_drewN | apply below_drew1 | refine below_set ?_ GE40.out) | exact HB.out)⟩⟩
  case rest =>
    clear HC2
    try clear p2
    try clear c4
    try clear c5
    try clear c6
    try clear c6b0
    try clear c6b1
    try clear c9
    try clear hcz3_0
    try clear hcz3_1
    try clear hcz3_2
    try clear hcz3_3
    try clear hcz7_0
    try clear hcz7_1
    try clear hcz7_2
    try clear hcz7_3
    try clear hcz9_0
    try clear hcz9_1
    try clear hcz9_2
    try clear hcz9_3
    try clear hfz3_0
    try clear hfz3_1
    try clear hfz3_2
    try clear hfz3_3
    try clear hfz7_0
    try clear hfz7_1
    try clear hfz7_2
    try clear hfz7_3
    try clear hfz9_0
    try clear hfz9_1
    try clear hfz9_2
    try clear hfz9_3
    obtain ⟨kq, x29_1, rfl, HA, HJ1, BK40, HB⟩ := hcut
    cases kq with
    | zero => exact absurd HA.out (by simp [spec_l09Ok_c49.j0])
    | succ kj1 =>
      have H := HA.out
      clear HA
      simp only [spec_l09Ok_c49.j0] at H
      by_cases c10 : x29_1 = true
      · subst c10
        have H1 : (some false) = some r := by rw [if_pos rfl] at H; exact H
        clear H
        have H := H1
        clear H1
        obtain rfl := Option.some.inj H
        go_wp2
        go_ret
        exact ⟨by first | rfl | (simp [errW_none, errW_some] <;> rfl) | (simp [*, errW_none, errW_some] <;> rfl), by repeat (first | (with_reducible first | exact HB.out | apply below_alloc | apply pw_below_drewN | apply below_drew1 | refine below_set ?_ GE40.out) | exact HB.out)⟩
      · replace c10 := Bool.eq_false_iff.mpr c10
        subst c10
        have H1 : (spec_l09Ok_c49.l0 kj1 (l0_0.length : Int) 0 l0_0 l0_1 a0_2 a0_3) = some r := by rw [if_neg (show ¬ (false = true) by decide)] at H; exact H
        clear H
        have H := H1
        clear H1
        have H' := Aside0.mk H
        clear H
        go_wp2
        go_loopg [4] kj1 (fun kq v4 w' => ∃ (x4_2 : Int), v4 = .int .i64 x4_2 ∧ Aside0 (spec_l09Ok_c49.l0 kq (l0_0.length : Int) x4_2 l0_0 l0_1 a0_2 a0_3 = some r) ∧ Aside0 (kq ≤ kj1) ∧ Aside0 (w'.heap[g0_0]? = some (.cells #[(.slice A0_0 l0_0.length c0_0), (.slice A0_1 l0_1.length c0_1), .int .i64 a0_2, .bool a0_3] 49 (0, 0))) ∧ Aside0 (Below w.heap.size w w'))
        case atStart => exact ⟨(0), (by first | rfl | (simp; done) | (simp [*]; done)), H', ⟨Nat.le_refl _⟩, ⟨by (with_reducible repeat (first | refine blk_drewN ?_ _ | refine blk_drew ?_ | refine blk_alloc ?_ _)); exact BK40.out⟩, ⟨by repeat (first | (with_reducible first | exact HB.out | apply below_alloc | apply pw_below_drewN | apply below_drew1 | refine below_set ?_ GE40.out) | exact HB.out)⟩⟩
        case round =>
          clear H'
          try clear c1
          try clear p2
          try clear c4
          try clear c5
          try clear c6
          try clear c6b0
          try clear c6b1
          try clear c9
          try clear c10
          try clear hcz3_0
          try clear hcz3_1
          try clear hcz3_2
          try clear hcz3_3
          try clear hcz7_0
          try clear hcz7_1
          try clear hcz7_2
          try clear hcz7_3
          try clear hcz9_0
          try clear hcz9_1
          try clear hcz9_2
          try clear hcz9_3
          try clear hfz3_0
          try clear hfz3_1
          try clear hfz3_2
          try clear hfz3_3
          try clear hfz7_0
          try clear hfz7_1
          try clear hfz7_2
          try clear hfz7_3
          try clear hfz9_0
          try clear hfz9_1
          try clear hfz9_2
          try clear hfz9_3
          try clear p2
          obtain ⟨x4_2, rfl, HA, HK2, BK40, HB⟩ := hrel
          cases gk with
          | zero => exact absurd HA.out (by simp [spec_l09Ok_c49.l0])
          | succ k2 =>
            have H := HA.out
            clear HA
            simp only [spec_l09Ok_c49.l0] at H
            by_cases c11 : x4_2 < (l0_0.length : Int)
            · rw [if_pos c11] at H
              have c11b0 : decide (x4_2 < (l0_0.length : Int)) = true := decide_eq_true c11
              clear c11
              by_cases c12 : 0 ≤ x4_2
              · rw [if_pos c12] at H
                have c12b0 : decide (0 ≤ x4_2) = true := decide_eq_true c12
                clear c12
                by_cases c13 : ((rdOf ByteArray.empty l0_0 x4_2).size : Int) = 64
                · rw [if_pos c13] at H
                  have c13b0 : (((rdOf ByteArray.empty l0_0 x4_2).size : Int) == 64) = true := beq_iff_eq.mpr c13
                  have c13b1 : (((rdOf ByteArray.empty l0_0 x4_2).size : Int) != 64) = false := bne_eq_false_iff_eq.mpr c13
                  clear c13
                  have H' := Aside0.mk H
                  clear H
                  have hcz14_0 : wr.cell? ⟨g0_0, 0, none⟩ = some (.slice A0_0 l0_0.length c0_0) := (blk_cell BK40.out 0).trans rfl
                  have hcz14_1 : wr.cell? ⟨g0_0, 1, none⟩ = some (.slice A0_1 l0_1.length c0_1) := (blk_cell BK40.out 1).trans rfl
                  have hcz14_2 : wr.cell? ⟨g0_0, 2, none⟩ = some (.int .i64 a0_2) := (blk_cell BK40.out 2).trans rfl
                  have hcz14_3 : wr.cell? ⟨g0_0, 3, none⟩ = some (.bool a0_3) := (blk_cell BK40.out 3).trans rfl
                  have hfz14_0 := blk_frozen BK40.out 0
                  have hfz14_1 := blk_frozen BK40.out 1
                  have hfz14_2 := blk_frozen BK40.out 2
                  have hfz14_3 := blk_frozen BK40.out 3
                  have p134 : 0 ≤ (x4_2 : Int) := of_decide_eq_true (by first | (with_reducible assumption) | assumption)
                  have q134 : x4_2 < (l0_0.length : Int) := of_decide_eq_true (by first | (with_reducible assumption) | assumption)
                  obtain ⟨ad134, e134, hx134_0⟩ := Kd.at_string HR0_0.out x4_2 p134 q134
                  cases e134
                  replace hx134_0 := (HB.out.cell (World.block_lt_of_cell? w _ hx134_0)).trans hx134_0
                  replace p134 := eq_true p134
                  replace q134 := eq_true q134
                  go_wp2
                  go_roundg k2
                  case measure => have := HJ1.out; have := HK2.out; omega
                  case rel => exact ⟨(wrap64 (x4_2 + 1)), (by first | rfl | (simp; done) | (simp [*]; done)), H', ⟨by have := HJ1.out; have := HK2.out; omega⟩, ⟨by (with_reducible repeat (first | refine blk_drewN ?_ _ | refine blk_drew ?_ | refine blk_alloc ?_ _)); exact BK40.out⟩, ⟨by repeat (first | (with_reducible first | exact HB.out | apply below_alloc | apply pw_below_drewN | apply below_drew1 | refine below_set ?_ GE40.out) | exact HB.out)⟩⟩
                · rw [if_neg c13] at H
                  have c13b0 : (((rdOf ByteArray.empty l0_0 x4_2).size : Int) == 64) = false := beq_eq_false_iff_ne.mpr c13
                  have c13b1 : (((rdOf ByteArray.empty l0_0 x4_2).size : Int) != 64) = true := bne_iff_ne.mpr c13
                  obtain rfl := Option.some.inj H
                  have hcz15_0 : wr.cell? ⟨g0_0, 0, none⟩ = some (.slice A0_0 l0_0.length c0_0) := (blk_cell BK40.out 0).trans rfl
                  have hcz15_1 : wr.cell? ⟨g0_0, 1, none⟩ = some (.slice A0_1 l0_1.length c0_1) := (blk_cell BK40.out 1).trans rfl
                  have hcz15_2 : wr.cell? ⟨g0_0, 2, none⟩ = some (.int .i64 a0_2) := (blk_cell BK40.out 2).trans rfl
                  have hcz15_3 : wr.cell? ⟨g0_0, 3, none⟩ = some (.bool a0_3) := (blk_cell BK40.out 3).trans rfl
                  have hfz15_0 := blk_frozen BK40.out 0
                  have hfz15_1 := blk_frozen BK40.out 1
                  have hfz15_2 := blk_frozen BK40.out 2
                  have hfz15_3 := blk_frozen BK40.out 3
                  have p134 : 0 ≤ (x4_2 : Int) := of_decide_eq_true (by first | (with_reducible assumption) | assumption)
                  have q134 : x4_2 < (l0_0.length : Int) := of_decide_eq_true (by first | (with_reducible assumption) | assumption)
                  obtain ⟨ad134, e134, hx134_0⟩ := Kd.at_string HR0_0.out x4_2 p134 q134
                  cases e134
                  replace hx134_0 := (HB.out.cell (World.block_lt_of_cell? w _ hx134_0)).trans hx134_0
                  replace p134 := eq_true p134
                  replace q134 := eq_true q134
                  go_wp2
                  go_ret
                  exact ⟨by first | rfl | (simp [errW_none, errW_some] <;> rfl) | (simp [*, errW_none, errW_some] <;> rfl), by repeat (first | (with_reducible first | exact HB.out | apply below_alloc | apply pw_below_drewN | apply below_drew1 | refine below_set ?_ GE40.out) | exact HB.out)⟩
              · rw [if_neg c12] at H
                exact absurd H (by simp)
            · rw [if_neg c11] at H
              have c11b0 : decide (x4_2 < (l0_0.length : Int)) = false := decide_eq_false c11
              clear c11
              have H' := Aside0.mk H
              clear H
              have hcz16_0 : wr.cell? ⟨g0_0, 0, none⟩ = some (.slice A0_0 l0_0.length c0_0) := (blk_cell BK40.out 0).trans rfl
              have hcz16_1 : wr.cell? ⟨g0_0, 1, none⟩ = some (.slice A0_1 l0_1.length c0_1) := (blk_cell BK40.out 1).trans rfl
              have hcz16_2 : wr.cell? ⟨g0_0, 2, none⟩ = some (.int .i64 a0_2) := (blk_cell BK40.out 2).trans rfl
              have hcz16_3 : wr.cell? ⟨g0_0, 3, none⟩ = some (.bool a0_3) := (blk_cell BK40.out 3).trans rfl
              have hfz16_0 := blk_frozen BK40.out 0
              have hfz16_1 := blk_frozen BK40.out 1
              have hfz16_2 := blk_frozen BK40.out 2
              have hfz16_3 := blk_frozen BK40.out 3
              go_wp2
              go_loopg [5] k2 (fun kq v5 w' => ∃ (x5_3 : Int), v5 = .int .i64 x5_3 ∧ Aside0 (spec_l09Ok_c49.l1 kq (l0_0.length : Int) x5_3 l0_0 l0_1 a0_2 a0_3 = some r) ∧ Aside0 (kq ≤ k2) ∧ Aside0 (w'.heap[g0_0]? = some (.cells #[(.slice A0_0 l0_0.length c0_0), (.slice A0_1 l0_1.length c0_1), .int .i64 a0_2, .bool a0_3] 49 (0, 0))) ∧ Aside0 (Below w.heap.size w w'))
              case atStart => exact ⟨(0), (by first | rfl | (simp; done) | (simp [*]; done)), H', ⟨Nat.le_refl _⟩, ⟨by (with_reducible repeat (first | refine blk_drewN ?_ _ | refine blk_drew ?_ | refine blk_alloc ?_ _)); exact BK40.out⟩, ⟨by repeat (first | (with_reducible first | exact HB.out | apply below_alloc | apply pw_below_drewN | apply below_drew1 | refine below_set ?_ GE40.out) | exact HB.out)⟩⟩
              case round =>
                clear H'
                try clear c1
                try clear p1
                try clear q1
                try clear hx1
                try clear p2
                try clear c4
                try clear c5
                try clear c6
                try clear c6b0
                try clear c6b1
                try clear p6
                try clear c9
                try clear c10
                try clear c11
                try clear c11b0
                try clear c12
                try clear c12b0
                try clear c13
                try clear c13b0
                try clear c13b1
                try clear p13
                try clear q13
                try clear hx13
                try clear hcz14_0
                try clear hcz14_1
                try clear hcz14_2
                try clear hcz14_3
                try clear hcz15_0
                try clear hcz15_1
                try clear hcz15_2
                try clear hcz15_3
                try clear hcz16_0
                try clear hcz16_1
                try clear hcz16_2
                try clear hcz16_3
                try clear hcz3_0
                try clear hcz3_1
                try clear hcz3_2
                try clear hcz3_3
                try clear hcz7_0
                try clear hcz7_1
                try clear hcz7_2
                try clear hcz7_3
                try clear hcz9_0
                try clear hcz9_1
                try clear hcz9_2
                try clear hcz9_3
                try clear hfz14_0
                try clear hfz14_1
                try clear hfz14_2
                try clear hfz14_3
                try clear hfz15_0
                try clear hfz15_1
                try clear hfz15_2
                try clear hfz15_3
                try clear hfz16_0
                try clear hfz16_1
                try clear hfz16_2
                try clear hfz16_3
                try clear hfz3_0
                try clear hfz3_1
                try clear hfz3_2
                try clear hfz3_3
                try clear hfz7_0
                try clear hfz7_1
                try clear hfz7_2
                try clear hfz7_3
                try clear hfz9_0
                try clear hfz9_1
                try clear hfz9_2
                try clear hfz9_3
                try clear hx134_0
                try clear p134
                try clear p2
                try clear q134
                obtain ⟨x5_3, rfl, HA, HK3, BK40, HB⟩ := hrel
                cases gk with
                | zero => exact absurd HA.out (by simp [spec_l09Ok_c49.l1])
                | succ k3 =>
                  have H := HA.out
                  clear HA
                  simp only [spec_l09Ok_c49.l1] at H
                  by_cases c17 : x5_3 < (l0_1.length : Int)
                  · rw [if_pos c17] at H
                    have c17b0 : decide (x5_3 < (l0_1.length : Int)) = true := decide_eq_true c17
                    clear c17
                    by_cases c18 : 0 ≤ x5_3
                    · rw [if_pos c18] at H
                      have c18b0 : decide (0 ≤ x5_3) = true := decide_eq_true c18
                      clear c18
                      replace H := Option.bind_eq_some_iff.mp H
                      obtain ⟨t136, A190, H⟩ := H
                      replace H : (if t136 = true then (if (((rd_T62 l0_1 x5_3).f1).size : Int) = 64 then (spec_l09Ok_c49.l1 k3 (l0_0.length : Int) (wrap64 (x5_3 + 1)) l0_0 l0_1 a0_2 a0_3) else (some false)) else (some false)) = some r := H
                      have A19 := Aside0.mk A190
                      clear A190
                      by_cases c20 : t136 = true
                      · subst c20
                        have H1 : (if (((rd_T62 l0_1 x5_3).f1).size : Int) = 64 then (spec_l09Ok_c49.l1 k3 (l0_0.length : Int) (wrap64 (x5_3 + 1)) l0_0 l0_1 a0_2 a0_3) else (some false)) = some r := by rw [if_pos rfl] at H; exact H
                        clear H
                        have H := H1
                        clear H1
                        by_cases c21 : (((rd_T62 l0_1 x5_3).f1).size : Int) = 64
                        · rw [if_pos c21] at H
                          have c21b0 : ((((rd_T62 l0_1 x5_3).f1).size : Int) == 64) = true := beq_iff_eq.mpr c21
                          have c21b1 : ((((rd_T62 l0_1 x5_3).f1).size : Int) != 64) = false := bne_eq_false_iff_eq.mpr c21
                          clear c21
                          have H' := Aside0.mk H
                          clear H
                          have hcz22_0 : wr.cell? ⟨g0_0, 0, none⟩ = some (.slice A0_0 l0_0.length c0_0) := (blk_cell BK40.out 0).trans rfl
                          have hcz22_1 : wr.cell? ⟨g0_0, 1, none⟩ = some (.slice A0_1 l0_1.length c0_1) := (blk_cell BK40.out 1).trans rfl
                          have hcz22_2 : wr.cell? ⟨g0_0, 2, none⟩ = some (.int .i64 a0_2) := (blk_cell BK40.out 2).trans rfl
                          have hcz22_3 : wr.cell? ⟨g0_0, 3, none⟩ = some (.bool a0_3) := (blk_cell BK40.out 3).trans rfl
                          have hfz22_0 := blk_frozen BK40.out 0
                          have hfz22_1 := blk_frozen BK40.out 1
                          have hfz22_2 := blk_frozen BK40.out 2
                          have hfz22_3 := blk_frozen BK40.out 3
                          have p135 : 0 ≤ (x5_3 : Int) := of_decide_eq_true (by first | (with_reducible assumption) | assumption)
                          have q135 : x5_3 < (l0_1.length : Int) := of_decide_eq_true (by first | (with_reducible assumption) | assumption)
                          obtain ⟨ad135, e135, hx135_0, hx135_1⟩ := at_T62 HR0_1.out x5_3 p135 q135
                          cases e135
                          replace hx135_0 := (HB.out.cell (World.block_lt_of_cell? w _ hx135_0)).trans hx135_0
                          replace hx135_1 := (HB.out.cell (World.block_lt_of_cell? w _ hx135_1)).trans hx135_1
                          replace p135 := eq_true p135
                          replace q135 := eq_true q135
                          go_wp2_with (first | ((with_reducible refine gate_callee (f := 92) rfl ?_); refine goesL_ (some 67) rfl rfl Try.func92 (by kernel_rfl) rfl #[.int .i64 ((rd_T62 l0_1 x5_3).f0), .int .i64 0, .int .i64 (wrap64 ((l0_0.length : Int) - 1))] rfl (by (try simp only [List.map_toArray, List.map_cons, List.map_nil]); first | done | rfl | (simp only [List.length_drop, List.length_take]; rfl)) ?_; (with_reducible refine (spec_l00In.calls ((rd_T62 l0_1 x5_3).f0) 0 (wrap64 ((l0_0.length : Int) - 1)) true _ A19.out).mono ?_); rintro e w' ⟨rfl, ⟨nd, rfl⟩⟩; refine ⟨_, rfl, ?_⟩; have p137 : 0 ≤ (x5_3 : Int) := of_decide_eq_true (by first | (with_reducible assumption) | assumption); have q137 : x5_3 < (l0_1.length : Int) := of_decide_eq_true (by first | (with_reducible assumption) | assumption); obtain ⟨ad137, e137, hx137_0, hx137_1⟩ := at_T62 HR0_1.out x5_3 p137 q137; obtain rfl : ad135 = ad137 := (by injection e137); replace hx137_0 := (HB.out.cell (World.block_lt_of_cell? w _ hx137_0)).trans hx137_0; replace hx137_1 := (HB.out.cell (World.block_lt_of_cell? w _ hx137_1)).trans hx137_1; replace p137 := eq_true p137; replace q137 := eq_true q137))
                          go_roundg k3
                          case measure => have := HJ1.out; have := HK2.out; have := HK3.out; omega
                          case rel => exact ⟨(wrap64 (x5_3 + 1)), (by first | rfl | (simp; done) | (simp [*]; done)), H', ⟨by have := HJ1.out; have := HK2.out; have := HK3.out; omega⟩, ⟨by (with_reducible repeat (first | refine blk_drewN ?_ _ | refine blk_drew ?_ | refine blk_alloc ?_ _)); exact BK40.out⟩, ⟨by repeat (first | (with_reducible first | exact HB.out | apply below_alloc | apply pw_below_drewN | apply below_drew1 | refine below_set ?_ GE40.out) | exact HB.out)⟩⟩
                        · rw [if_neg c21] at H
                          have c21b0 : ((((rd_T62 l0_1 x5_3).f1).size : Int) == 64) = false := beq_eq_false_iff_ne.mpr c21
                          have c21b1 : ((((rd_T62 l0_1 x5_3).f1).size : Int) != 64) = true := bne_iff_ne.mpr c21
                          obtain rfl := Option.some.inj H
                          have hcz23_0 : wr.cell? ⟨g0_0, 0, none⟩ = some (.slice A0_0 l0_0.length c0_0) := (blk_cell BK40.out 0).trans rfl
                          have hcz23_1 : wr.cell? ⟨g0_0, 1, none⟩ = some (.slice A0_1 l0_1.length c0_1) := (blk_cell BK40.out 1).trans rfl
                          have hcz23_2 : wr.cell? ⟨g0_0, 2, none⟩ = some (.int .i64 a0_2) := (blk_cell BK40.out 2).trans rfl
                          have hcz23_3 : wr.cell? ⟨g0_0, 3, none⟩ = some (.bool a0_3) := (blk_cell BK40.out 3).trans rfl
                          have hfz23_0 := blk_frozen BK40.out 0
                          have hfz23_1 := blk_frozen BK40.out 1
                          have hfz23_2 := blk_frozen BK40.out 2
                          have hfz23_3 := blk_frozen BK40.out 3
                          have p135 : 0 ≤ (x5_3 : Int) := of_decide_eq_true (by first | (with_reducible assumption) | assumption)
                          have q135 : x5_3 < (l0_1.length : Int) := of_decide_eq_true (by first | (with_reducible assumption) | assumption)
                          obtain ⟨ad135, e135, hx135_0, hx135_1⟩ := at_T62 HR0_1.out x5_3 p135 q135
                          cases e135
                          replace hx135_0 := (HB.out.cell (World.block_lt_of_cell? w _ hx135_0)).trans hx135_0
                          replace hx135_1 := (HB.out.cell (World.block_lt_of_cell? w _ hx135_1)).trans hx135_1
                          replace p135 := eq_true p135
                          replace q135 := eq_true q135
                          go_wp2_with (first | ((with_reducible refine gate_callee (f := 92) rfl ?_); refine goesL_ (some 67) rfl rfl Try.func92 (by kernel_rfl) rfl #[.int .i64 ((rd_T62 l0_1 x5_3).f0), .int .i64 0, .int .i64 (wrap64 ((l0_0.length : Int) - 1))] rfl (by (try simp only [List.map_toArray, List.map_cons, List.map_nil]); first | done | rfl | (simp only [List.length_drop, List.length_take]; rfl)) ?_; (with_reducible refine (spec_l00In.calls ((rd_T62 l0_1 x5_3).f0) 0 (wrap64 ((l0_0.length : Int) - 1)) true _ A19.out).mono ?_); rintro e w' ⟨rfl, ⟨nd, rfl⟩⟩; refine ⟨_, rfl, ?_⟩; have p137 : 0 ≤ (x5_3 : Int) := of_decide_eq_true (by first | (with_reducible assumption) | assumption); have q137 : x5_3 < (l0_1.length : Int) := of_decide_eq_true (by first | (with_reducible assumption) | assumption); obtain ⟨ad137, e137, hx137_0, hx137_1⟩ := at_T62 HR0_1.out x5_3 p137 q137; obtain rfl : ad135 = ad137 := (by injection e137); replace hx137_0 := (HB.out.cell (World.block_lt_of_cell? w _ hx137_0)).trans hx137_0; replace hx137_1 := (HB.out.cell (World.block_lt_of_cell? w _ hx137_1)).trans hx137_1; replace p137 := eq_true p137; replace q137 := eq_true q137))
                          go_ret
                          exact ⟨by first | rfl | (simp [errW_none, errW_some] <;> rfl) | (simp [*, errW_none, errW_some] <;> rfl), by repeat (first | (with_reducible first | exact HB.out | apply below_alloc | apply pw_below_drewN | apply below_drew1 | refine below_set ?_ GE40.out) | exact HB.out)⟩
                      · replace c20 := Bool.eq_false_iff.mpr c20
                        subst c20
                        have H1 : (some false) = some r := by rw [if_neg (show ¬ (false = true) by decide)] at H; exact H
                        clear H
                        have H := H1
                        clear H1
                        obtain rfl := Option.some.inj H
                        have hcz24_0 : wr.cell? ⟨g0_0, 0, none⟩ = some (.slice A0_0 l0_0.length c0_0) := (blk_cell BK40.out 0).trans rfl
                        have hcz24_1 : wr.cell? ⟨g0_0, 1, none⟩ = some (.slice A0_1 l0_1.length c0_1) := (blk_cell BK40.out 1).trans rfl
                        have hcz24_2 : wr.cell? ⟨g0_0, 2, none⟩ = some (.int .i64 a0_2) := (blk_cell BK40.out 2).trans rfl
                        have hcz24_3 : wr.cell? ⟨g0_0, 3, none⟩ = some (.bool a0_3) := (blk_cell BK40.out 3).trans rfl
                        have hfz24_0 := blk_frozen BK40.out 0
                        have hfz24_1 := blk_frozen BK40.out 1
                        have hfz24_2 := blk_frozen BK40.out 2
                        have hfz24_3 := blk_frozen BK40.out 3
                        have p135 : 0 ≤ (x5_3 : Int) := of_decide_eq_true (by first | (with_reducible assumption) | assumption)
                        have q135 : x5_3 < (l0_1.length : Int) := of_decide_eq_true (by first | (with_reducible assumption) | assumption)
                        obtain ⟨ad135, e135, hx135_0, hx135_1⟩ := at_T62 HR0_1.out x5_3 p135 q135
                        cases e135
                        replace hx135_0 := (HB.out.cell (World.block_lt_of_cell? w _ hx135_0)).trans hx135_0
                        replace hx135_1 := (HB.out.cell (World.block_lt_of_cell? w _ hx135_1)).trans hx135_1
                        replace p135 := eq_true p135
                        replace q135 := eq_true q135
                        go_wp2_with (first | ((with_reducible refine gate_callee (f := 92) rfl ?_); refine goesL_ (some 67) rfl rfl Try.func92 (by kernel_rfl) rfl #[.int .i64 ((rd_T62 l0_1 x5_3).f0), .int .i64 0, .int .i64 (wrap64 ((l0_0.length : Int) - 1))] rfl (by (try simp only [List.map_toArray, List.map_cons, List.map_nil]); first | done | rfl | (simp only [List.length_drop, List.length_take]; rfl)) ?_; (with_reducible refine (spec_l00In.calls ((rd_T62 l0_1 x5_3).f0) 0 (wrap64 ((l0_0.length : Int) - 1)) false _ A19.out).mono ?_); rintro e w' ⟨rfl, ⟨nd, rfl⟩⟩; refine ⟨_, rfl, ?_⟩))
                        go_ret
                        exact ⟨by first | rfl | (simp [errW_none, errW_some] <;> rfl) | (simp [*, errW_none, errW_some] <;> rfl), by repeat (first | (with_reducible first | exact HB.out | apply below_alloc | apply pw_below_drewN | apply below_drew1 | refine below_set ?_ GE40.out) | exact HB.out)⟩
                    · rw [if_neg c18] at H
                      exact absurd H (by simp)
                  · rw [if_neg c17] at H
                    have c17b0 : decide (x5_3 < (l0_1.length : Int)) = false := decide_eq_false c17
                    clear c17
                    obtain rfl := Option.some.inj H
                    have hcz25_0 : wr.cell? ⟨g0_0, 0, none⟩ = some (.slice A0_0 l0_0.length c0_0) := (blk_cell BK40.out 0).trans rfl
                    have hcz25_1 : wr.cell? ⟨g0_0, 1, none⟩ = some (.slice A0_1 l0_1.length c0_1) := (blk_cell BK40.out 1).trans rfl
                    have hcz25_2 : wr.cell? ⟨g0_0, 2, none⟩ = some (.int .i64 a0_2) := (blk_cell BK40.out 2).trans rfl
                    have hcz25_3 : wr.cell? ⟨g0_0, 3, none⟩ = some (.bool a0_3) := (blk_cell BK40.out 3).trans rfl
                    have hfz25_0 := blk_frozen BK40.out 0
                    have hfz25_1 := blk_frozen BK40.out 1
                    have hfz25_2 := blk_frozen BK40.out 2
                    have hfz25_3 := blk_frozen BK40.out 3
                    go_wp2
                    go_ret
                    exact ⟨by first | rfl | (simp [errW_none, errW_some] <;> rfl) | (simp [*, errW_none, errW_some] <;> rfl), by repeat (first | (with_reducible first | exact HB.out | apply below_alloc | apply pw_below_drewN | apply below_drew1 | refine below_set ?_ GE40.out) | exact HB.out)⟩

/-! ### spec_ValidDisk: function 32 -/
def spec_ValidDisk.f (k : Nat) (l0_0 : List ByteArray) (l0_1 : List (S62)) (a0_2 : Int) (a0_3 : Bool) : Option (Bool) := (spec_l09Ok_c49.f k l0_0 l0_1 a0_2 a0_3).bind fun t139 => (some t139)
theorem spec_ValidDisk.mono : ∀ a0 a1 a2 a3 k, LeO (spec_ValidDisk.f k a0 a1 a2 a3) (spec_ValidDisk.f (k + 1) a0 a1 a2 a3) := by
  intro a0 a1 a2 a3 k
  unfold spec_ValidDisk.f
  repeat' first
      | (with_reducible exact spec_l09Ok_c49.mono _ _ _ _ _)
      | (with_reducible exact LeO.refl _)
      | (with_reducible exact LeO.none _)
      | (with_reducible refine LeO.ite ?_ ?_)
      | (with_reducible refine LeO.bind ?_ (fun _ => ?_))
      | exact spec_l09Ok_c49.mono _ _ _ _ _
      | exact LeO.none _
      | refine LeO.ite ?_ ?_
      | refine LeO.bind ?_ (fun _ => ?_)
set_option maxHeartbeats 8000000 in
set_option maxRecDepth 100000 in
theorem spec_ValidDisk.calls (k : Nat) (A0_0 : Option Addr) (c0_0 : Nat) (l0_0 : List ByteArray) (A0_1 : Option Addr) (c0_1 : Nat) (l0_1 : List (S62)) (a0_2 : Int) (a0_3 : Bool) (r : Bool) (w : World) (hr0_0 : Kd.C Kd.string w A0_0 l0_0.length l0_0) (hc0_0 : l0_0.length ≤ c0_0) (hr0_1 : Kd.C k62 w A0_1 l0_1.length l0_1) (hc0_1 : l0_1.length ≤ c0_1) (h : spec_ValidDisk.f k l0_0 l0_1 a0_2 a0_3 = some r) :
    Calls Try.prog 32 #[.agg #[.slice A0_0 l0_0.length c0_0, .slice A0_1 l0_1.length c0_1, .int .i64 a0_2, .bool a0_3]] w fun e w' => e = .returned (.bool r) ∧ Below w.heap.size w w' := by
  have hu49 := Try.underlying49
  have HR0_0 := Aside0.mk hr0_0
  have HC0_0 := Aside0.mk hc0_0
  clear hr0_0 hc0_0
  have HR0_1 := Aside0.mk hr0_1
  have HC0_1 := Aside0.mk hc0_1
  clear hr0_1 hc0_1
  have HB := Aside0.mk (Below.refl w.heap.size w)
  have H : ((spec_l09Ok_c49.f k l0_0 l0_1 a0_2 a0_3).bind fun t139 => (some t139)) = some r := h
  clear h
  replace H := Option.bind_eq_some_iff.mp H
  obtain ⟨t139, A20, H⟩ := H
  replace H : (some t139) = some r := H
  have A2 := Aside0.mk A20
  clear A20
  obtain rfl := Option.some.inj H
  go_enter Try.func32, Try.ntmps32
  go_wp2_with (first | ((with_reducible refine gate_dst (N := 1) rfl ?_); refine box_event ?hg (N := 1) ?hd (cs := #[.slice A0_0 l0_0.length c0_0, .slice A0_1 l0_1.length c0_1, .int .i64 a0_2, .bool a0_3]) (t := 49) ?hr ?_; (case hd => rfl); (case hg => rfl); (case hr => first | (go_simp; done) | (go_simp; rfl)); intro gb138 hg w3 hbox hb; have n0_ := Aside0.mk (below_step (by repeat (first | (with_reducible first | exact HB.out | apply below_alloc | apply pw_below_drewN | apply below_drew1) | exact HB.out)) hb); have n1_ := Aside0.mk (hbox); have n2_ := Aside0.mk ((by rw [hg]; exact (below_size (by repeat (first | (with_reducible first | exact HB.out | apply below_alloc | apply pw_below_drewN | apply below_drew1) | exact HB.out))) : w.heap.size ≤ gb138)); have n3_ := Aside0.mk ((by rw [hg]; exact (below_size (by repeat (first | (with_reducible first | exact HB.out | apply below_alloc | apply pw_below_drewN | apply below_drew1) | exact HB.out))) : w.heap.size ≤ gb138)); clear HB; have HB := n0_; have BK138 := n1_; have GW138 := n2_; have GE138 := n3_; clear n0_ n1_ n2_ n3_; clear hb hbox hg) | ((with_reducible refine gate_callee (f := 78) rfl ?_); refine goesL_ (some 3) rfl rfl Try.func78 (by kernel_rfl) rfl #[.pointer (some ⟨gb138, 0, none⟩)] rfl (by (try simp only [List.map_toArray, List.map_cons, List.map_nil]); first | done | rfl | (simp only [List.length_drop, List.length_take]; rfl)) ?_; (with_reducible refine (spec_l09Ok_c49.calls k gb138 A0_0 c0_0 l0_0 A0_1 c0_1 l0_1 a0_2 a0_3 t139 _ ?side1 ?side2 ?side3 ?side4 ?side5 A2.out).mono ?_); (case side1 => repeat (first | exact (Kd.C_below HR0_0.out HB.out) | (with_reducible refine Kd.C_alloc ?_ _) | (with_reducible refine Kd.C_drewN ?_ _) | (with_reducible refine Kd.C_drew ?_))); (case side2 => exact HC0_0.out); (case side3 => repeat (first | exact (Kd.C_below HR0_1.out HB.out) | (with_reducible refine Kd.C_alloc ?_ _) | (with_reducible refine Kd.C_drewN ?_ _) | (with_reducible refine Kd.C_drew ?_))); (case side4 => exact HC0_1.out); (case side5 => (with_reducible repeat (first | refine blk_drewN ?_ _ | refine blk_drew ?_ | refine blk_alloc ?_ _)); exact BK138.out); rintro e w4 ⟨rfl, hb⟩; refine ⟨_, rfl, ?_⟩; have n0_ := Aside0.mk (blk_below (g := gb138) (o := .cells #[.slice A0_0 l0_0.length c0_0, .slice A0_1 l0_1.length c0_1, .int .i64 a0_2, .bool a0_3] 49 (0, 0)) (by (with_reducible repeat (first | refine blk_drewN ?_ _ | refine blk_drew ?_ | refine blk_alloc ?_ _)); exact BK138.out) hb); have n1_ := Aside0.mk (below_step (by repeat (first | (with_reducible first | exact HB.out | apply below_alloc | apply pw_below_drewN | apply below_drew1 | refine below_set ?_ GE138.out) | exact HB.out)) hb); clear BK138; clear HB; have BK138 := n0_; have HB := n1_; clear n0_ n1_; (try clear hb); (try clear hb2); (try clear hk); (try clear hi)))
  go_ret
  exact ⟨by first | rfl | (simp [errW_none, errW_some] <;> rfl) | (simp [*, errW_none, errW_some] <;> rfl), by repeat (first | (with_reducible first | exact HB.out | apply below_alloc | apply pw_below_drewN | apply below_drew1 | refine below_set ?_ GE138.out) | exact HB.out)⟩

/-! ### impl_within: function 63 -/
def impl_within.f (a0 : Int) (a1 : Int) (a2 : Int) : Option (Bool) := if a0 ≥ a1 then (some (decide (a0 ≤ a2))) else (some false)
set_option maxHeartbeats 8000000 in
set_option maxRecDepth 100000 in
theorem impl_within.calls (a0 : Int) (a1 : Int) (a2 : Int) (r : Bool) (w : World) (h : impl_within.f a0 a1 a2 = some r) :
    Calls Try.prog 63 #[.int .i64 a0, .int .i64 a1, .int .i64 a2] w fun e w' => e = .returned (.bool r) ∧ Drawn0 w w' := by
  have H : (if a0 ≥ a1 then (some (decide (a0 ≤ a2))) else (some false)) = some r := h
  clear h
  by_cases c4 : a0 ≥ a1
  · rw [if_pos c4] at H
    have c4b0 : decide (a1 ≤ a0) = true := decide_eq_true c4
    clear c4
    obtain rfl := Option.some.inj H
    go_enter Try.func63, Try.ntmps63
    go_wp2
    go_ret
    exact ⟨by first | rfl | (simp; done) | (simp [*]; done), by repeat (first | exact Drawn0.refl _ | apply Drawn0.step)⟩
  · rw [if_neg c4] at H
    have c4b0 : decide (a1 ≤ a0) = false := decide_eq_false c4
    clear c4
    obtain rfl := Option.some.inj H
    go_enter Try.func63, Try.ntmps63
    go_wp2
    go_ret
    exact ⟨by first | rfl | (simp; done) | (simp [*]; done), by repeat (first | exact Drawn0.refl _ | apply Drawn0.step)⟩

/-! ### impl_isBlock: function 64 -/
def impl_isBlock.f (a0 : ByteArray) : Option (Bool) := some ((a0.size : Int) == 64)
set_option maxHeartbeats 8000000 in
set_option maxRecDepth 100000 in
theorem impl_isBlock.calls (a0 : ByteArray) (r : Bool) (w : World) (h : impl_isBlock.f a0 = some r) :
    Calls Try.prog 64 #[.string a0] w fun e w' => e = .returned (.bool r) ∧ Drawn0 w w' := by
  have H : (some ((a0.size : Int) == 64)) = some r := h
  clear h
  obtain rfl := Option.some.inj H
  go_enter Try.func64, Try.ntmps64
  go_wp2
  go_ret
  exact ⟨by first | rfl | (simp; done) | (simp [*]; done), by repeat (first | exact Drawn0.refl _ | apply Drawn0.step)⟩

/-! ### impl_ValidDisk_1: function 80 -/
def impl_ValidDisk_1.f (a0 : ByteArray) : Option (Bool) := (impl_isBlock.f a0).bind fun t140 => (some (!t140))
set_option maxHeartbeats 8000000 in
set_option maxRecDepth 100000 in
theorem impl_ValidDisk_1.calls (a0 : ByteArray) (r : Bool) (w : World) (h : impl_ValidDisk_1.f a0 = some r) :
    Calls Try.prog 80 #[.string a0] w fun e w' => e = .returned (.bool r) ∧ Drawn0 w w' := by
  have H : ((impl_isBlock.f a0).bind fun t140 => (some (!t140))) = some r := h
  clear h
  replace H := Option.bind_eq_some_iff.mp H
  obtain ⟨t140, A20, H⟩ := H
  replace H : (some (!t140)) = some r := H
  have A2 := Aside0.mk A20
  clear A20
  obtain rfl := Option.some.inj H
  go_enter Try.func80, Try.ntmps80
  go_wp2_with (first | ((with_reducible refine gate_callee (f := 64) rfl ?_); refine goesL_ (some 4) rfl rfl Try.func64 (by kernel_rfl) rfl #[.string a0] rfl (by (try simp only [List.map_toArray, List.map_cons, List.map_nil]); first | done | rfl | (simp only [List.length_drop, List.length_take]; rfl)) ?_; (with_reducible refine (impl_isBlock.calls a0 t140 _ A2.out).mono ?_); rintro e w' ⟨rfl, ⟨nd, rfl⟩⟩; refine ⟨_, rfl, ?_⟩))
  go_ret
  exact ⟨by first | rfl | (simp; done) | (simp [*]; done), by repeat (first | exact Drawn0.refl _ | apply Drawn0.step)⟩

/-! ### slices_IndexFunc_impl_ValidDisk_1: function 115 -/
def slices_IndexFunc_impl_ValidDisk_1.l0 : Nat → List ByteArray → Int → Int → Option (Int)
  | 0, _, _, _ => none
  | k + 1, x0, x7, x8 => if x8 < x7 then (if 0 ≤ x8 then (if x8 < (x0.length : Int) then ((impl_ValidDisk_1.f (rdOf ByteArray.empty x0 x8)).bind fun t142 => (if t142 = true then (some x8) else (slices_IndexFunc_impl_ValidDisk_1.l0 k x0 x7 (wrap64 (x8 + 1))))) else (none)) else (none)) else (some (-1))
def slices_IndexFunc_impl_ValidDisk_1.f (k : Nat) (l0 : List ByteArray)  : Option (Int) := slices_IndexFunc_impl_ValidDisk_1.l0 k l0 (l0.length : Int) 0
theorem slices_IndexFunc_impl_ValidDisk_1.mono_l : ∀ k, (∀ y0 y1 y2, LeO (slices_IndexFunc_impl_ValidDisk_1.l0 k y0 y1 y2) (slices_IndexFunc_impl_ValidDisk_1.l0 (k + 1) y0 y1 y2))
  | 0 => fun _ _ _ r h => by simp [slices_IndexFunc_impl_ValidDisk_1.l0] at h
  | k + 1 => by
    have ih0 := slices_IndexFunc_impl_ValidDisk_1.mono_l k
    · intro y0 y1 y2
      unfold slices_IndexFunc_impl_ValidDisk_1.l0
      repeat' first
      | (with_reducible exact ih0 _ _ _)
      | (with_reducible exact LeO.refl _)
      | (with_reducible exact LeO.none _)
      | (with_reducible refine LeO.ite ?_ ?_)
      | (with_reducible refine LeO.bind ?_ (fun _ => ?_))
      | exact ih0 _ _ _
      | exact LeO.none _
      | refine LeO.ite ?_ ?_
      | refine LeO.bind ?_ (fun _ => ?_)
theorem slices_IndexFunc_impl_ValidDisk_1.mono : ∀ a0 k, LeO (slices_IndexFunc_impl_ValidDisk_1.f k a0) (slices_IndexFunc_impl_ValidDisk_1.f (k + 1) a0) := by
  intro a0 k
  have ih0 := slices_IndexFunc_impl_ValidDisk_1.mono_l k
  unfold slices_IndexFunc_impl_ValidDisk_1.f
  repeat' first
      | (with_reducible exact ih0 _ _ _)
      | (with_reducible exact LeO.refl _)
      | (with_reducible exact LeO.none _)
      | (with_reducible refine LeO.ite ?_ ?_)
      | (with_reducible refine LeO.bind ?_ (fun _ => ?_))
      | exact ih0 _ _ _
      | exact LeO.none _
      | refine LeO.ite ?_ ?_
      | refine LeO.bind ?_ (fun _ => ?_)
set_option maxHeartbeats 8000000 in
set_option maxRecDepth 100000 in
theorem slices_IndexFunc_impl_ValidDisk_1.calls (k : Nat) (A0 : Option Addr) (c0 : Nat) (l0 : List ByteArray)  (r : Int) (w : World) (hr0 : Kd.C Kd.string w A0 l0.length l0) (hc0 : l0.length ≤ c0) (h : slices_IndexFunc_impl_ValidDisk_1.f k l0 = some r) :
    Calls Try.prog 115 #[.slice A0 l0.length c0, .func (.func 80) #[] #[]] w fun e w' => e = .returned (.int .i64 r) ∧ Below w.heap.size w w' := by
  have HR0 := Aside0.mk hr0
  have HC0 := Aside0.mk hc0
  clear hr0 hc0
  have HB := Aside0.mk (Below.refl w.heap.size w)
  have H : (slices_IndexFunc_impl_ValidDisk_1.l0 k l0 (l0.length : Int) 0) = some r := h
  clear h
  have H' := Aside0.mk H
  clear H
  go_enter Try.func115, Try.ntmps115
  go_wp2
  go_loopg [8] k (fun kq v8 w' => ∃ (x8_1 : Int), v8 = .int .i64 x8_1 ∧ Aside0 (slices_IndexFunc_impl_ValidDisk_1.l0 kq l0 (l0.length : Int) x8_1 = some r) ∧ Aside0 (kq ≤ k) ∧ Aside0 (Below w.heap.size w w'))
  case atStart => exact ⟨(0), (by first | rfl | (simp; done) | (simp [*]; done)), H', ⟨Nat.le_refl _⟩, ⟨by repeat (first | (with_reducible first | exact HB.out | apply below_alloc | apply pw_below_drewN | apply below_drew1) | exact HB.out)⟩⟩
  case round =>
    clear H'
    try clear p2
    obtain ⟨x8_1, rfl, HA, HK1, HB⟩ := hrel
    cases gk with
    | zero => exact absurd HA.out (by simp [slices_IndexFunc_impl_ValidDisk_1.l0])
    | succ k1 =>
      have H := HA.out
      clear HA
      simp only [slices_IndexFunc_impl_ValidDisk_1.l0] at H
      by_cases c3 : x8_1 < (l0.length : Int)
      · rw [if_pos c3] at H
        have c3b0 : decide (x8_1 < (l0.length : Int)) = true := decide_eq_true c3
        clear c3
        by_cases c4 : 0 ≤ x8_1
        · rw [if_pos c4] at H
          have c4b0 : decide (0 ≤ x8_1) = true := decide_eq_true c4
          clear c4
          by_cases c5 : x8_1 < (l0.length : Int)
          · rw [if_pos c5] at H
            have c5b0 : decide (x8_1 < (l0.length : Int)) = true := decide_eq_true c5
            clear c5
            replace H := Option.bind_eq_some_iff.mp H
            obtain ⟨t142, A60, H⟩ := H
            replace H : (if t142 = true then (some x8_1) else (slices_IndexFunc_impl_ValidDisk_1.l0 k1 l0 (l0.length : Int) (wrap64 (x8_1 + 1)))) = some r := H
            have A6 := Aside0.mk A60
            clear A60
            by_cases c7 : t142 = true
            · subst c7
              have H1 : (some x8_1) = some r := by rw [if_pos rfl] at H; exact H
              clear H
              have H := H1
              clear H1
              obtain rfl := Option.some.inj H
              have p141 : 0 ≤ (x8_1 : Int) := of_decide_eq_true (by first | (with_reducible assumption) | assumption)
              have q141 : x8_1 < (l0.length : Int) := of_decide_eq_true (by first | (with_reducible assumption) | assumption)
              obtain ⟨ad141, e141, hx141_0⟩ := Kd.at_string HR0.out x8_1 p141 q141
              cases e141
              replace hx141_0 := (HB.out.cell (World.block_lt_of_cell? w _ hx141_0)).trans hx141_0
              replace p141 := eq_true p141
              replace q141 := eq_true q141
              go_wp2_with (first | (go_at_call 80; (with_reducible refine (impl_ValidDisk_1.calls (rdOf ByteArray.empty l0 x8_1) true _ A6.out).mono ?_); rintro e w' ⟨rfl, ⟨nd, rfl⟩⟩))
              go_ret
              exact ⟨by first | rfl | (simp [errW_none, errW_some] <;> rfl) | (simp [*, errW_none, errW_some] <;> rfl), by repeat (first | (with_reducible first | exact HB.out | apply below_alloc | apply pw_below_drewN | apply below_drew1) | exact HB.out)⟩
            · replace c7 := Bool.eq_false_iff.mpr c7
              subst c7
              have H1 : (slices_IndexFunc_impl_ValidDisk_1.l0 k1 l0 (l0.length : Int) (wrap64 (x8_1 + 1))) = some r := by rw [if_neg (show ¬ (false = true) by decide)] at H; exact H
              clear H
              have H := H1
              clear H1
              have H' := Aside0.mk H
              clear H
              have p141 : 0 ≤ (x8_1 : Int) := of_decide_eq_true (by first | (with_reducible assumption) | assumption)
              have q141 : x8_1 < (l0.length : Int) := of_decide_eq_true (by first | (with_reducible assumption) | assumption)
              obtain ⟨ad141, e141, hx141_0⟩ := Kd.at_string HR0.out x8_1 p141 q141
              cases e141
              replace hx141_0 := (HB.out.cell (World.block_lt_of_cell? w _ hx141_0)).trans hx141_0
              replace p141 := eq_true p141
              replace q141 := eq_true q141
              go_wp2_with (first | (go_at_call 80; (with_reducible refine (impl_ValidDisk_1.calls (rdOf ByteArray.empty l0 x8_1) false _ A6.out).mono ?_); rintro e w' ⟨rfl, ⟨nd, rfl⟩⟩))
              go_roundg k1
              case measure => have := HK1.out; omega
              case rel => exact ⟨(wrap64 (x8_1 + 1)), (by first | rfl | (simp; done) | (simp [*]; done)), H', ⟨by have := HK1.out; omega⟩, ⟨by repeat (first | (with_reducible first | exact HB.out | apply below_alloc | apply pw_below_drewN | apply below_drew1) | exact HB.out)⟩⟩
          · rw [if_neg c5] at H
            exact absurd H (by simp)
        · rw [if_neg c4] at H
          exact absurd H (by simp)
      · rw [if_neg c3] at H
        have c3b0 : decide (x8_1 < (l0.length : Int)) = false := decide_eq_false c3
        clear c3
        obtain rfl := Option.some.inj H
        go_wp2
        go_ret
        exact ⟨by first | rfl | (simp [errW_none, errW_some] <;> rfl) | (simp [*, errW_none, errW_some] <;> rfl), by repeat (first | (with_reducible first | exact HB.out | apply below_alloc | apply pw_below_drewN | apply below_drew1) | exact HB.out)⟩

/-! ### slices_ContainsFunc_impl_ValidDisk_1: function 79 -/
def slices_ContainsFunc_impl_ValidDisk_1.f (k : Nat) (l0 : List ByteArray)  : Option (Bool) := (slices_IndexFunc_impl_ValidDisk_1.f k l0).bind fun t143 => (some (decide (t143 ≥ 0)))
theorem slices_ContainsFunc_impl_ValidDisk_1.mono : ∀ a0 k, LeO (slices_ContainsFunc_impl_ValidDisk_1.f k a0) (slices_ContainsFunc_impl_ValidDisk_1.f (k + 1) a0) := by
  intro a0 k
  unfold slices_ContainsFunc_impl_ValidDisk_1.f
  repeat' first
      | (with_reducible exact slices_IndexFunc_impl_ValidDisk_1.mono _ _)
      | (with_reducible exact LeO.refl _)
      | (with_reducible exact LeO.none _)
      | (with_reducible refine LeO.ite ?_ ?_)
      | (with_reducible refine LeO.bind ?_ (fun _ => ?_))
      | exact slices_IndexFunc_impl_ValidDisk_1.mono _ _
      | exact LeO.none _
      | refine LeO.ite ?_ ?_
      | refine LeO.bind ?_ (fun _ => ?_)
set_option maxHeartbeats 8000000 in
set_option maxRecDepth 100000 in
theorem slices_ContainsFunc_impl_ValidDisk_1.calls (k : Nat) (A0 : Option Addr) (c0 : Nat) (l0 : List ByteArray)  (r : Bool) (w : World) (hr0 : Kd.C Kd.string w A0 l0.length l0) (hc0 : l0.length ≤ c0) (h : slices_ContainsFunc_impl_ValidDisk_1.f k l0 = some r) :
    Calls Try.prog 79 #[.slice A0 l0.length c0, .func (.func 80) #[] #[]] w fun e w' => e = .returned (.bool r) ∧ Below w.heap.size w w' := by
  have HR0 := Aside0.mk hr0
  have HC0 := Aside0.mk hc0
  clear hr0 hc0
  have HB := Aside0.mk (Below.refl w.heap.size w)
  have H : ((slices_IndexFunc_impl_ValidDisk_1.f k l0).bind fun t143 => (some (decide (t143 ≥ 0)))) = some r := h
  clear h
  replace H := Option.bind_eq_some_iff.mp H
  obtain ⟨t143, A30, H⟩ := H
  replace H : (some (decide (t143 ≥ 0))) = some r := H
  have A3 := Aside0.mk A30
  clear A30
  obtain rfl := Option.some.inj H
  go_enter Try.func79, Try.ntmps79
  go_wp2_with (first | ((with_reducible refine gate_callee (f := 115) rfl ?_); refine goesL_ (some 7) rfl rfl Try.func115 (by kernel_rfl) rfl #[.slice A0 l0.length c0, .func (.func 80) #[] #[]] rfl (by (try simp only [List.map_toArray, List.map_cons, List.map_nil]); first | done | rfl | (simp only [List.length_drop, List.length_take]; rfl)) ?_; (with_reducible refine (slices_IndexFunc_impl_ValidDisk_1.calls k _ _ l0  t143 _ ?side1 ?side2 A3.out).mono ?_); (case side1 => repeat (first | exact HR0.out | (with_reducible refine Kd.C_alloc ?_ _) | (with_reducible refine Kd.C_drewN ?_ _) | (with_reducible refine Kd.C_drew ?_))); (case side2 => exact HC0.out); rintro e w4 ⟨rfl, hb⟩; refine ⟨_, rfl, ?_⟩; have n0_ := Aside0.mk (below_step (by repeat (first | (with_reducible first | exact HB.out | apply below_alloc | apply pw_below_drewN | apply below_drew1) | exact HB.out)) hb); clear HB; have HB := n0_; clear n0_; (try clear hb); (try clear hb2); (try clear hk); (try clear hi)))
  go_ret
  exact ⟨by first | rfl | (simp [errW_none, errW_some] <;> rfl) | (simp [*, errW_none, errW_some] <;> rfl), by repeat (first | (with_reducible first | exact HB.out | apply below_alloc | apply pw_below_drewN | apply below_drew1) | exact HB.out)⟩

/-! ### impl_isIndex: function 83 -/
def impl_isIndex.f (a0 : Int) (a1 : Int) : Option (Bool) := (impl_within.f a0 0 (wrap64 (a1 - 1))).bind fun t144 => (some t144)
set_option maxHeartbeats 8000000 in
set_option maxRecDepth 100000 in
theorem impl_isIndex.calls (a0 : Int) (a1 : Int) (r : Bool) (w : World) (h : impl_isIndex.f a0 a1 = some r) :
    Calls Try.prog 83 #[.int .i64 a0, .int .i64 a1] w fun e w' => e = .returned (.bool r) ∧ Drawn0 w w' := by
  have H : ((impl_within.f a0 0 (wrap64 (a1 - 1))).bind fun t144 => (some t144)) = some r := h
  clear h
  replace H := Option.bind_eq_some_iff.mp H
  obtain ⟨t144, A30, H⟩ := H
  replace H : (some t144) = some r := H
  have A3 := Aside0.mk A30
  clear A30
  obtain rfl := Option.some.inj H
  go_enter Try.func83, Try.ntmps83
  go_wp2_with (first | ((with_reducible refine gate_callee (f := 63) rfl ?_); refine goesL_ (some 8) rfl rfl Try.func63 (by kernel_rfl) rfl #[.int .i64 a0, .int .i64 0, .int .i64 (wrap64 (a1 - 1))] rfl (by (try simp only [List.map_toArray, List.map_cons, List.map_nil]); first | done | rfl | (simp only [List.length_drop, List.length_take]; rfl)) ?_; (with_reducible refine (impl_within.calls a0 0 (wrap64 (a1 - 1)) t144 _ A3.out).mono ?_); rintro e w' ⟨rfl, ⟨nd, rfl⟩⟩; refine ⟨_, rfl, ?_⟩))
  go_ret
  exact ⟨by first | rfl | (simp; done) | (simp [*]; done), by repeat (first | exact Drawn0.refl _ | apply Drawn0.step)⟩

/-! ### impl_ValidDisk_2: function 82 -/
def impl_ValidDisk_2.f (a0_0 : Int) (a0_1 : ByteArray) (l1_0 : List ByteArray) (l1_1 : List (S62)) (a1_2 : Int) (a1_3 : Bool) : Option (Bool) := (impl_isIndex.f a0_0 (l1_0.length : Int)).bind fun t146 => (if t146 = true then ((impl_isBlock.f a0_1).bind fun t147 => (some (!t147))) else (some true))
set_option maxHeartbeats 8000000 in
set_option maxRecDepth 100000 in
theorem impl_ValidDisk_2.calls (a0_0 : Int) (a0_1 : ByteArray) (g1_0 : Nat) (A1_0 : Option Addr) (c1_0 : Nat) (l1_0 : List ByteArray) (A1_1 : Option Addr) (c1_1 : Nat) (l1_1 : List (S62)) (a1_2 : Int) (a1_3 : Bool) (r : Bool) (w : World) (hr1_0 : Kd.C Kd.string w A1_0 l1_0.length l1_0) (hc1_0 : l1_0.length ≤ c1_0) (hr1_1 : Kd.C k62 w A1_1 l1_1.length l1_1) (hc1_1 : l1_1.length ≤ c1_1) (hb1_0 : w.heap[g1_0]? = some (.cells #[.slice A1_0 l1_0.length c1_0, .slice A1_1 l1_1.length c1_1, .int .i64 a1_2, .bool a1_3] 49 (0, 0))) (h : impl_ValidDisk_2.f a0_0 a0_1 l1_0 l1_1 a1_2 a1_3 = some r) :
    Calls Try.prog 82 #[.agg #[.int .i64 a0_0, .string a0_1], .pointer (some ⟨g1_0, 0, none⟩)] w fun e w' => e = .returned (.bool r) ∧ Below w.heap.size w w' := by
  have hu62 := Try.underlying62
  have HR1_0 := Aside0.mk hr1_0
  have HC1_0 := Aside0.mk hc1_0
  clear hr1_0 hc1_0
  have HR1_1 := Aside0.mk hr1_1
  have HC1_1 := Aside0.mk hc1_1
  clear hr1_1 hc1_1
  have BK48 := Aside0.mk hb1_0
  clear hb1_0
  have HB := Aside0.mk (Below.refl w.heap.size w)
  have H : ((impl_isIndex.f a0_0 (l1_0.length : Int)).bind fun t146 => (if t146 = true then ((impl_isBlock.f a0_1).bind fun t147 => (some (!t147))) else (some true))) = some r := h
  clear h
  replace H := Option.bind_eq_some_iff.mp H
  obtain ⟨t146, A30, H⟩ := H
  replace H : (if t146 = true then ((impl_isBlock.f a0_1).bind fun t147 => (some (!t147))) else (some true)) = some r := H
  have A3 := Aside0.mk A30
  clear A30
  by_cases c4 : t146 = true
  · subst c4
    have H1 : ((impl_isBlock.f a0_1).bind fun t147 => (some (!t147))) = some r := by rw [if_pos rfl] at H; exact H
    clear H
    have H := H1
    clear H1
    replace H := Option.bind_eq_some_iff.mp H
    obtain ⟨t147, A50, H⟩ := H
    replace H : (some (!t147)) = some r := H
    have A5 := Aside0.mk A50
    clear A50
    obtain rfl := Option.some.inj H
    go_enter Try.func82, Try.ntmps82
    go_wp2_with (first | ((with_reducible refine gate_dst (N := 2) rfl ?_); refine box_event ?hg (N := 2) ?hd (cs := #[.int .i64 a0_0, .string a0_1]) (t := 62) ?hr ?_; (case hd => rfl); (case hg => rfl); (case hr => first | (go_simp; done) | (go_simp; rfl)); intro gb145 hg w6 hbox hb; have n0_ := Aside0.mk (blk_below (g := g1_0) (o := .cells #[.slice A1_0 l1_0.length c1_0, .slice A1_1 l1_1.length c1_1, .int .i64 a1_2, .bool a1_3] 49 (0, 0)) (by (with_reducible repeat (first | refine blk_drewN ?_ _ | refine blk_drew ?_ | refine blk_alloc ?_ _)); exact BK48.out) hb); have n1_ := Aside0.mk (below_step (by repeat (first | (with_reducible first | exact HB.out | apply below_alloc | apply pw_below_drewN | apply below_drew1 | refine below_set ?_ GE48.out) | exact HB.out)) hb); have n2_ := Aside0.mk (hbox); have n3_ := Aside0.mk ((by rw [hg]; exact (below_size (by repeat (first | (with_reducible first | exact HB.out | apply below_alloc | apply pw_below_drewN | apply below_drew1 | refine below_set ?_ GE48.out) | exact HB.out))) : w.heap.size ≤ gb145)); have n4_ := Aside0.mk ((by rw [hg]; exact (below_size (by repeat (first | (with_reducible first | exact HB.out | apply below_alloc | apply pw_below_drewN | apply below_drew1 | refine below_set ?_ GE48.out) | exact HB.out))) : w.heap.size ≤ gb145)); have n5_ := Aside0.mk ((by rw [hg]; exact Nat.ne_of_lt (blk_lt (g := g1_0) (o := .cells #[.slice A1_0 l1_0.length c1_0, .slice A1_1 l1_1.length c1_1, .int .i64 a1_2, .bool a1_3] 49 (0, 0)) (by (with_reducible repeat (first | refine blk_drewN ?_ _ | refine blk_drew ?_ | refine blk_alloc ?_ _)); exact BK48.out)) : g1_0 ≠ gb145)); have n6_ := Aside0.mk ((by rw [hg]; exact Nat.ne_of_gt (blk_lt (g := g1_0) (o := .cells #[.slice A1_0 l1_0.length c1_0, .slice A1_1 l1_1.length c1_1, .int .i64 a1_2, .bool a1_3] 49 (0, 0)) (by (with_reducible repeat (first | refine blk_drewN ?_ _ | refine blk_drew ?_ | refine blk_alloc ?_ _)); exact BK48.out)) : gb145 ≠ g1_0)); clear BK48; clear HB; have BK48 := n0_; have HB := n1_; have BK145 := n2_; have GW145 := n3_; have GE145 := n4_; have NB48_145 := n5_; have NB145_48 := n6_; clear n0_ n1_ n2_ n3_ n4_ n5_ n6_; clear hb hbox hg; have hnb7 := NB145_48.out; have hnc7 := NB48_145.out; have hcz8_0 : w6.cell? ⟨gb145, 0, none⟩ = some (.int .i64 a0_0) := (blk_cell BK145.out 0).trans rfl; have hcz8_1 : w6.cell? ⟨gb145, 1, none⟩ = some (.string a0_1) := (blk_cell BK145.out 1).trans rfl; have hfz8_0 := blk_frozen BK145.out 0; have hfz8_1 := blk_frozen BK145.out 1; have hcz9_0 : w6.cell? ⟨g1_0, 0, none⟩ = some (.slice A1_0 l1_0.length c1_0) := (blk_cell BK48.out 0).trans rfl; have hcz9_1 : w6.cell? ⟨g1_0, 1, none⟩ = some (.slice A1_1 l1_1.length c1_1) := (blk_cell BK48.out 1).trans rfl; have hcz9_2 : w6.cell? ⟨g1_0, 2, none⟩ = some (.int .i64 a1_2) := (blk_cell BK48.out 2).trans rfl; have hcz9_3 : w6.cell? ⟨g1_0, 3, none⟩ = some (.bool a1_3) := (blk_cell BK48.out 3).trans rfl; have hfz9_0 := blk_frozen BK48.out 0; have hfz9_1 := blk_frozen BK48.out 1; have hfz9_2 := blk_frozen BK48.out 2; have hfz9_3 := blk_frozen BK48.out 3) | ((with_reducible refine gate_callee (f := 83) rfl ?_); refine goesL_ (some 9) rfl rfl Try.func83 (by kernel_rfl) rfl #[.int .i64 a0_0, .int .i64 (l1_0.length : Int)] rfl (by (try simp only [List.map_toArray, List.map_cons, List.map_nil]); first | done | rfl | (simp only [List.length_drop, List.length_take]; rfl)) ?_; (with_reducible refine (impl_isIndex.calls a0_0 (l1_0.length : Int) true _ A3.out).mono ?_); rintro e w' ⟨rfl, ⟨nd, rfl⟩⟩; refine ⟨_, rfl, ?_⟩) | (go_at_call 64; (with_reducible refine (impl_isBlock.calls a0_1 t147 _ A5.out).mono ?_); rintro e w' ⟨rfl, ⟨nd, rfl⟩⟩))
    go_ret
    exact ⟨by first | rfl | (simp [errW_none, errW_some] <;> rfl) | (simp [*, errW_none, errW_some] <;> rfl), by repeat (first | (with_reducible first | exact HB.out | apply below_alloc | apply pw_below_drewN | apply below_drew1 | refine below_set ?_ GE48.out | refine below_set ?_ GE145.out) | exact HB.out)⟩
  · replace c4 := Bool.eq_false_iff.mpr c4
    subst c4
    have H1 : (some true) = some r := by rw [if_neg (show ¬ (false = true) by decide)] at H; exact H
    clear H
    have H := H1
    clear H1
    obtain rfl := Option.some.inj H
    go_enter Try.func82, Try.ntmps82
    go_wp2_with (first | ((with_reducible refine gate_dst (N := 2) rfl ?_); refine box_event ?hg (N := 2) ?hd (cs := #[.int .i64 a0_0, .string a0_1]) (t := 62) ?hr ?_; (case hd => rfl); (case hg => rfl); (case hr => first | (go_simp; done) | (go_simp; rfl)); intro gb145 hg w10 hbox hb; have n0_ := Aside0.mk (blk_below (g := g1_0) (o := .cells #[.slice A1_0 l1_0.length c1_0, .slice A1_1 l1_1.length c1_1, .int .i64 a1_2, .bool a1_3] 49 (0, 0)) (by (with_reducible repeat (first | refine blk_drewN ?_ _ | refine blk_drew ?_ | refine blk_alloc ?_ _)); exact BK48.out) hb); have n1_ := Aside0.mk (below_step (by repeat (first | (with_reducible first | exact HB.out | apply below_alloc | apply pw_below_drewN | apply below_drew1 | refine below_set ?_ GE48.out) | exact HB.out)) hb); have n2_ := Aside0.mk (hbox); have n3_ := Aside0.mk ((by rw [hg]; exact (below_size (by repeat (first | (with_reducible first | exact HB.out | apply below_alloc | apply pw_below_drewN | apply below_drew1 | refine below_set ?_ GE48.out) | exact HB.out))) : w.heap.size ≤ gb145)); have n4_ := Aside0.mk ((by rw [hg]; exact (below_size (by repeat (first | (with_reducible first | exact HB.out | apply below_alloc | apply pw_below_drewN | apply below_drew1 | refine below_set ?_ GE48.out) | exact HB.out))) : w.heap.size ≤ gb145)); have n5_ := Aside0.mk ((by rw [hg]; exact Nat.ne_of_lt (blk_lt (g := g1_0) (o := .cells #[.slice A1_0 l1_0.length c1_0, .slice A1_1 l1_1.length c1_1, .int .i64 a1_2, .bool a1_3] 49 (0, 0)) (by (with_reducible repeat (first | refine blk_drewN ?_ _ | refine blk_drew ?_ | refine blk_alloc ?_ _)); exact BK48.out)) : g1_0 ≠ gb145)); have n6_ := Aside0.mk ((by rw [hg]; exact Nat.ne_of_gt (blk_lt (g := g1_0) (o := .cells #[.slice A1_0 l1_0.length c1_0, .slice A1_1 l1_1.length c1_1, .int .i64 a1_2, .bool a1_3] 49 (0, 0)) (by (with_reducible repeat (first | refine blk_drewN ?_ _ | refine blk_drew ?_ | refine blk_alloc ?_ _)); exact BK48.out)) : gb145 ≠ g1_0)); clear BK48; clear HB; have BK48 := n0_; have HB := n1_; have BK145 := n2_; have GW145 := n3_; have GE145 := n4_; have NB48_145 := n5_; have NB145_48 := n6_; clear n0_ n1_ n2_ n3_ n4_ n5_ n6_; clear hb hbox hg; have hnb11 := NB145_48.out; have hnc11 := NB48_145.out; have hcz12_0 : w10.cell? ⟨gb145, 0, none⟩ = some (.int .i64 a0_0) := (blk_cell BK145.out 0).trans rfl; have hcz12_1 : w10.cell? ⟨gb145, 1, none⟩ = some (.string a0_1) := (blk_cell BK145.out 1).trans rfl; have hfz12_0 := blk_frozen BK145.out 0; have hfz12_1 := blk_frozen BK145.out 1; have hcz13_0 : w10.cell? ⟨g1_0, 0, none⟩ = some (.slice A1_0 l1_0.length c1_0) := (blk_cell BK48.out 0).trans rfl; have hcz13_1 : w10.cell? ⟨g1_0, 1, none⟩ = some (.slice A1_1 l1_1.length c1_1) := (blk_cell BK48.out 1).trans rfl; have hcz13_2 : w10.cell? ⟨g1_0, 2, none⟩ = some (.int .i64 a1_2) := (blk_cell BK48.out 2).trans rfl; have hcz13_3 : w10.cell? ⟨g1_0, 3, none⟩ = some (.bool a1_3) := (blk_cell BK48.out 3).trans rfl; have hfz13_0 := blk_frozen BK48.out 0; have hfz13_1 := blk_frozen BK48.out 1; have hfz13_2 := blk_frozen BK48.out 2; have hfz13_3 := blk_frozen BK48.out 3) | ((with_reducible refine gate_callee (f := 83) rfl ?_); refine goesL_ (some 9) rfl rfl Try.func83 (by kernel_rfl) rfl #[.int .i64 a0_0, .int .i64 (l1_0.length : Int)] rfl (by (try simp only [List.map_toArray, List.map_cons, List.map_nil]); first | done | rfl | (simp only [List.length_drop, List.length_take]; rfl)) ?_; (with_reducible refine (impl_isIndex.calls a0_0 (l1_0.length : Int) false _ A3.out).mono ?_); rintro e w' ⟨rfl, ⟨nd, rfl⟩⟩; refine ⟨_, rfl, ?_⟩))
    go_ret
    exact ⟨by first | rfl | (simp [errW_none, errW_some] <;> rfl) | (simp [*, errW_none, errW_some] <;> rfl), by repeat (first | (with_reducible first | exact HB.out | apply below_alloc | apply pw_below_drewN | apply below_drew1 | refine below_set ?_ GE48.out | refine below_set ?_ GE145.out) | exact HB.out)⟩

end Go.Proofs.Ytngjbdijimapnac.PFnExactValidDisk
