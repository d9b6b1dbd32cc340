/- Each Go function here comes to what the plain function of its name says, where that says something. Made by a program of this session, over the print. -/
import Derived.Test.YtehldidejgpifaaPFnExactResizeSpacex0
import Derived.Test.YtehldidejgpifaaPFnExactResizeSpacex1
namespace Go.Proofs.Ytehldidejgpifaa.PFnExactResizeSpace
open Go.RowKit Go.Proofs.YtehldidejgpifaaW.PrintWords Go.Proofs.YtehldidejgpifaaW.PrintLast Go.Proofs.YtehldidejgpifaaW.PrintMore
attribute [local go_sem] max2_int min2_int max_two min_two max_three min_three max_four min_four   -- for this text's walks alone
set_option linter.unusedVariables false
set_option linter.unusedSimpArgs false

/-! ### spec_ResizeSpace: function 41 -/
def spec_ResizeSpace.j0 : Nat → List Int → Bool → List Int → List Int → Option (List Int × List Int × Int)
  | 0, _, _, _, _ => none
  | k + 1, x1, x14, x134000, x134001 => if x14 = true then (some (([] : List Int), ([] : List Int), 1)) else ((spec_l00Own.f x1).bind fun t137 => ((spec_l00Own.f x134001).bind fun t140 => ((spec_l05Space.f k t137 t140).bind fun t144 => (if t144 = true then (some (t137, t140, 0)) else (some (([] : List Int), ([] : List Int), 2))))))
def spec_ResizeSpace.f (k : Nat) (l0_0 : List Int) (l0_1 : List Int) (l1 : List Int) : Option (List Int × List Int × Int) := (spec_l05Space.f k l0_0 l0_1).bind fun t135 => (if t135 = true then ((spec_l05Dims.f k l1).bind fun t136 => (spec_ResizeSpace.j0 k l1 (!t136) l0_0 l0_1)) else (spec_ResizeSpace.j0 k l1 true l0_0 l0_1))
theorem spec_ResizeSpace.mono_l : ∀ k, (∀ y0 y1 y2 y3, LeO (spec_ResizeSpace.j0 k y0 y1 y2 y3) (spec_ResizeSpace.j0 (k + 1) y0 y1 y2 y3))
  | 0 => fun _ _ _ _ r h => by simp [spec_ResizeSpace.j0] at h
  | k + 1 => by
    have ih0 := spec_ResizeSpace.mono_l k
    · intro y0 y1 y2 y3
      unfold spec_ResizeSpace.j0
      repeat' first
      | (with_reducible exact ih0 _ _ _ _)
      | (with_reducible exact spec_l05Dims.mono _ _)
      | (with_reducible exact spec_l05Space.mono _ _ _)
      | (with_reducible exact LeO.refl _)
      | (with_reducible exact LeO.none _)
      | (with_reducible refine LeO.ite ?_ ?_)
      | (with_reducible refine LeO.bind ?_ (fun _ => ?_))
      | exact ih0 _ _ _ _
      | exact spec_l05Dims.mono _ _
      | exact spec_l05Space.mono _ _ _
      | exact LeO.none _
      | refine LeO.ite ?_ ?_
      | refine LeO.bind ?_ (fun _ => ?_)
theorem spec_ResizeSpace.mono : ∀ a0 a1 a2 k, LeO (spec_ResizeSpace.f k a0 a1 a2) (spec_ResizeSpace.f (k + 1) a0 a1 a2) := by
  intro a0 a1 a2 k
  have ih0 := spec_ResizeSpace.mono_l k
  unfold spec_ResizeSpace.f
  repeat' first
      | (with_reducible exact ih0 _ _ _ _)
      | (with_reducible exact spec_l05Dims.mono _ _)
      | (with_reducible exact spec_l05Space.mono _ _ _)
      | (with_reducible exact LeO.refl _)
      | (with_reducible exact LeO.none _)
      | (with_reducible refine LeO.ite ?_ ?_)
      | (with_reducible refine LeO.bind ?_ (fun _ => ?_))
      | exact ih0 _ _ _ _
      | exact spec_l05Dims.mono _ _
      | exact spec_l05Space.mono _ _ _
      | exact LeO.none _
      | refine LeO.ite ?_ ?_
      | refine LeO.bind ?_ (fun _ => ?_)
def spec_ResizeSpace.T3 : Bool × List (List Nat × List Nat) := (true, [([], []), ([0], [0]), ([], []), ([2], [2]), ([3, 1], [3]), ([1, 4], [1, 4]), ([], []), ([6, 5, 4, 0, 1, 2, 3, 4, 5, 6], [5, 6])])
def spec_ResizeSpace.B3 : List Nat := [0, 1, 0, 4, 15, 31, 0, 127]
theorem spec_ResizeSpace.tab3 : rtab .any (opsOf Try.f41 3) = spec_ResizeSpace.T3 := by kernel_rfl
theorem spec_ResizeSpace.bits3 : waitsOk spec_ResizeSpace.T3.2 spec_ResizeSpace.B3 = true := by kernel_rfl
set_option maxHeartbeats 8000000 in
set_option maxRecDepth 100000 in
theorem spec_ResizeSpace.calls (k : Nat) (A0_0 : Option Addr) (c0_0 : Nat) (l0_0 : List Int) (A0_1 : Option Addr) (c0_1 : Nat) (l0_1 : List Int) (A1 : Option Addr) (c1 : Nat) (l1 : List Int) (r1 : List Int) (r2 : List Int) (r3 : Int) (w : World) (hr0_0 : Kd.C (Kd.int .i64) w A0_0 l0_0.length l0_0) (hc0_0 : l0_0.length ≤ c0_0) (hr0_1 : Kd.C (Kd.int .i64) w A0_1 l0_1.length l0_1) (hc0_1 : l0_1.length ≤ c0_1) (hr1 : Kd.C (Kd.int .i64) w A1 l1.length l1) (hc1 : l1.length ≤ c1) (h : spec_ResizeSpace.f k l0_0 l0_1 l1 = some (r1, r2, r3)) :
    Calls Try.prog 41 #[.agg #[.slice A0_0 l0_0.length c0_0, .slice A0_1 l0_1.length c0_1], .slice A1 l1.length c1] w fun e w' => ∃ v0_ v1_ : Value, e = .returned (.tuple #[.agg #[v0_, v1_], .int .i64 r3]) ∧ Kd.R (Kd.int .i64) 2 w' w.heap.size (fun k_ => some k_ ≠ (v1_ : Value).ownBlock) v0_ r1 ∧ Kd.R (Kd.int .i64) 2 w' w.heap.size (fun k_ => some k_ ≠ (v0_ : Value).ownBlock) v1_ r2 ∧ Below w.heap.size w w' := by
  have hu65 := Try.underlying65
  have HR0_0 := yD hr0_0
  have HC0_0 := yD hc0_0
  clear hr0_0 hc0_0
  have HR0_1 := yD hr0_1
  have HC0_1 := yD hc0_1
  clear hr0_1 hc0_1
  have HR1 := yD hr1
  have HC1 := yD hc1
  clear hr1 hc1
  have HB := yD (Below.refl w.heap.size w)
  have H : ((spec_l05Space.f k l0_0 l0_1).bind fun t135 => (if t135 = true then ((spec_l05Dims.f k l1).bind fun t136 => (spec_ResizeSpace.j0 k l1 (!t136) l0_0 l0_1)) else (spec_ResizeSpace.j0 k l1 true l0_0 l0_1))) = some (r1, r2, r3) := h
  clear h
  have HC3 := yD H
  clear H; go_enter Try.func41, Try.ntmps41
  go_upto_region 1 with (first | ((with_reducible refine gate_dst (N := 2) rfl ?_); refine box_event ?hg (N := 2) ?hd (cs := #[.slice A0_0 l0_0.length c0_0, .slice A0_1 l0_1.length c0_1]) (t := 65) ?hr ?_; (case hd => rfl); (case hg => rfl); (case hr => first | (go_simp; done) | (go_simp; rfl)); intro gb133 hg w4 hbox hb; have n0_ := yD (zC (by exact HB.out) hb); have n1_ := yD (hbox); have n2_ := yD ((by rw [hg]; exact (below_size (by exact HB.out)) : w.heap.size ≤ gb133)); have n3_ := yD ((by rw [hg]; exact (below_size (by exact HB.out)) : w.heap.size ≤ gb133)); clear HB; have HB := n0_; have BK133 := n1_; have GW133 := n2_; have GE133 := n3_; clear n0_ n1_ n2_ n3_; clear hb hbox hg) | ((with_reducible refine gate_dst (N := 4) rfl ?_); refine box_event ?hg (N := 4) ?hd (cs := #[.slice none 0 0, .slice none 0 0]) (t := 65) ?hr ?_; (case hd => rfl); (case hg => rfl); (case hr => first | (go_simp; done) | (go_simp; rfl)); intro gb134 hg w5 hbox hb; have n0_ := yD (zB (g := gb133) (o := .cells #[.slice A0_0 l0_0.length c0_0, .slice A0_1 l0_1.length c0_1] 65 (0, 0)) (by exact BK133.out) hb); have n1_ := yD (zC (by exact HB.out) hb); have n2_ := yD (hbox); have n3_ := yD ((by rw [hg]; exact (below_size (by exact HB.out)) : w.heap.size ≤ gb134)); have n4_ := yD ((by rw [hg]; exact (below_size (by exact HB.out)) : w.heap.size ≤ gb134)); have n5_ := yD ((by rw [hg]; exact Nat.ne_of_lt (blk_lt (g := gb133) (o := .cells #[.slice A0_0 l0_0.length c0_0, .slice A0_1 l0_1.length c0_1] 65 (0, 0)) (by exact BK133.out)) : gb133 ≠ gb134)); have n6_ := yD ((by rw [hg]; exact Nat.ne_of_gt (blk_lt (g := gb133) (o := .cells #[.slice A0_0 l0_0.length c0_0, .slice A0_1 l0_1.length c0_1] 65 (0, 0)) (by exact BK133.out)) : gb134 ≠ gb133)); clear BK133; clear HB; have BK133 := n0_; have HB := n1_; have BK134 := n2_; have GW134 := n3_; have GE134 := n4_; have NB133_134 := n5_; have NB134_133 := n6_; clear n0_ n1_ n2_ n3_ n4_ n5_ n6_; clear hb hbox hg))
  (try simp only [Act.put, zH, zI, zJ])
  go_cut [14] (fun v14 wc => ∃ (kq : Nat) (x14_2 : Bool), v14 = .bool x14_2 ∧ Aside0 (spec_ResizeSpace.j0 kq l1 x14_2 l0_0 l0_1 = some (r1, r2, r3)) ∧ Aside0 (kq ≤ k) ∧ Aside0 (wc.heap[gb133]? = some (.cells #[(.slice A0_0 l0_0.length c0_0), (.slice A0_1 l0_1.length c0_1)] 65 (0, 0))) ∧ Aside0 (wc.heap[gb134]? = some (.cells #[(.slice none 0 0), (.slice none 0 0)] 65 (0, 0))) ∧ Aside0 (Below w.heap.size w wc))
  case first =>
    have H := HC3.out; clear HC3
    obtain ⟨t135, A60, H⟩ := zW_ H
    replace H : (if t135 = true then ((spec_l05Dims.f k l1).bind fun t136 => (spec_ResizeSpace.j0 k l1 (!t136) l0_0 l0_1)) else (spec_ResizeSpace.j0 k l1 true l0_0 l0_1)) = some (r1, r2, r3) := H
    have A6 := yD A60
    clear A60
    by_cases c7 : t135 = true
    · subst c7
      have H1 : ((spec_l05Dims.f k l1).bind fun t136 => (spec_ResizeSpace.j0 k l1 (!t136) l0_0 l0_1)) = some (r1, r2, r3) := by rw [if_pos rfl] at H; exact H
      clear H; have H := H1; clear H1
      obtain ⟨t136, A80, H⟩ := zW_ H
      replace H : (spec_ResizeSpace.j0 k l1 (!t136) l0_0 l0_1) = some (r1, r2, r3) := H
      have A8 := yD A80
      clear A80
      have H' := yD H
      clear H; have hnb9 := NB133_134.out; have hnc9 := NB134_133.out
      obtain ⟨hcz10_0, hcz10_1⟩ := cz2 BK133.out
      obtain ⟨hfz10_0, hfz10_1⟩ := fz2 BK133.out
      go_wp2_with (first | ((with_reducible refine gate_callee (f := 87) rfl ?_); refine goesL_ (some 8) rfl rfl Try.func87 (by kernel_rfl) rfl #[.agg #[.slice A0_0 l0_0.length c0_0, .slice A0_1 l0_1.length c0_1]] rfl (by (try simp only [zK, zL, zM]); first | done | rfl | (simp only [zN, zO]; rfl)) ?_; (with_reducible refine (spec_l05Space.calls k _ _ l0_0 _ _ l0_1 true _ ?side1 ?side2 ?side3 ?side4 A6.out).mono ?_); (case side1 => exact yY HR0_0.out HB.out); (case side2 => exact HC0_0.out); (case side3 => exact yY HR0_1.out HB.out); (case side4 => exact HC0_1.out); rintro e w11 ⟨rfl, hb⟩; refine ⟨_, rfl, ?_⟩; have n0_ := yD (zB (g := gb133) (o := .cells #[.slice A0_0 l0_0.length c0_0, .slice A0_1 l0_1.length c0_1] 65 (0, 0)) (by exact BK133.out) hb); have n1_ := yD (zB (g := gb134) (o := .cells #[.slice none 0 0, .slice none 0 0] 65 (0, 0)) (by exact BK134.out) hb); have n2_ := yD (zC (by exact HB.out) hb); clear BK133; clear BK134; clear HB; have BK133 := n0_; have BK134 := n1_; have HB := n2_; clear n0_ n1_ n2_; (try clear hb); (try clear hb2); (try clear hk); (try clear hi)) | (go_at_call 55; (with_reducible refine (spec_l05Dims.calls k _ _ l1 t136 _ ?side1 ?side2 A8.out).mono ?_); (case side1 => exact yY HR1.out HB.out); (case side2 => exact HC1.out); rintro e w' ⟨rfl, ⟨nd, rfl⟩⟩))
      go_meet
      case rel => exact ⟨_, (!t136), (by first | rfl | (simp; done) | (simp [*]; done)), H', ⟨by first | omega | exact Nat.le_refl _⟩, ⟨by (with_reducible repeat (first | refine yM ?_ _ | refine yO ?_ | refine yN ?_ _)); exact BK133.out⟩, ⟨by (with_reducible repeat (first | refine yM ?_ _ | refine yO ?_ | refine yN ?_ _)); exact BK134.out⟩, ⟨by repeat (first | (with_reducible first | exact HB.out | apply yQ | apply yL | apply yP | refine yE ?_ GE133.out | refine yE ?_ GE134.out) | exact HB.out)⟩⟩
    · replace c7 := Bool.eq_false_iff.mpr c7
      subst c7
      have H1 : (spec_ResizeSpace.j0 k l1 true l0_0 l0_1) = some (r1, r2, r3) := by rw [if_neg (show ¬ (false = true) by decide)] at H; exact H
      clear H; have H := H1; clear H1
      have H' := yD H
      clear H; have hnb12 := NB133_134.out; have hnc12 := NB134_133.out
      obtain ⟨hcz13_0, hcz13_1⟩ := cz2 BK133.out
      obtain ⟨hfz13_0, hfz13_1⟩ := fz2 BK133.out
      go_wp2_with (first | ((with_reducible refine gate_callee (f := 87) rfl ?_); refine goesL_ (some 8) rfl rfl Try.func87 (by kernel_rfl) rfl #[.agg #[.slice A0_0 l0_0.length c0_0, .slice A0_1 l0_1.length c0_1]] rfl (by (try simp only [zK, zL, zM]); first | done | rfl | (simp only [zN, zO]; rfl)) ?_; (with_reducible refine (spec_l05Space.calls k _ _ l0_0 _ _ l0_1 false _ ?side1 ?side2 ?side3 ?side4 A6.out).mono ?_); (case side1 => exact yY HR0_0.out HB.out); (case side2 => exact HC0_0.out); (case side3 => exact yY HR0_1.out HB.out); (case side4 => exact HC0_1.out); rintro e w14 ⟨rfl, hb⟩; refine ⟨_, rfl, ?_⟩; have n0_ := yD (zB (g := gb133) (o := .cells #[.slice A0_0 l0_0.length c0_0, .slice A0_1 l0_1.length c0_1] 65 (0, 0)) (by exact BK133.out) hb); have n1_ := yD (zB (g := gb134) (o := .cells #[.slice none 0 0, .slice none 0 0] 65 (0, 0)) (by exact BK134.out) hb); have n2_ := yD (zC (by exact HB.out) hb); clear BK133; clear BK134; clear HB; have BK133 := n0_; have BK134 := n1_; have HB := n2_; clear n0_ n1_ n2_; (try clear hb); (try clear hb2); (try clear hk); (try clear hi)))
      go_meet
      case rel => exact ⟨_, (true), (by first | rfl | (simp; done) | (simp [*]; done)), H', ⟨by first | omega | exact Nat.le_refl _⟩, ⟨by (with_reducible repeat (first | refine yM ?_ _ | refine yO ?_ | refine yN ?_ _)); exact BK133.out⟩, ⟨by (with_reducible repeat (first | refine yM ?_ _ | refine yO ?_ | refine yN ?_ _)); exact BK134.out⟩, ⟨by repeat (first | (with_reducible first | exact HB.out | apply yQ | apply yL | apply yP | refine yE ?_ GE133.out | refine yE ?_ GE134.out) | exact HB.out)⟩⟩
  case rest =>
    clear HC3; try clear c1; try clear p2; try clear c4; try clear c7; try clear c8; try clear c9; try clear c12; try clear hcz10_0; try clear hcz10_1; try clear hcz13_0; try clear hcz13_1; try clear hfz10_0; try clear hfz10_1; try clear hfz13_0; try clear hfz13_1
    obtain ⟨kq, x14_2, rfl, HA, HJ2, BK133, BK134, HB⟩ := hcut
    cases kq with
    | zero => exact absurd HA.out (by simp [spec_ResizeSpace.j0])
    | succ kj2 =>
      have H := HA.out; clear HA
      simp only [spec_ResizeSpace.j0] at H
      by_cases c15 : x14_2 = true
      · subst c15
        have H1 : (some (([] : List Int), ([] : List Int), 1)) = some (r1, r2, r3) := by rw [if_pos rfl] at H; exact H
        clear H; have H := H1; clear H1
        simp only [Option.some.injEq, Prod.mk.injEq] at H
        obtain ⟨rfl, rfl, rfl⟩ := H
        have hnb16 := NB134_133.out; have hnc16 := NB133_134.out
        obtain ⟨hcz17_0, hcz17_1⟩ := cz2 BK134.out
        obtain ⟨hfz17_0, hfz17_1⟩ := fz2 BK134.out
        go_wp2
        refine bodyPost_ret (results_ct rfl _ _ gb134 65 #[.slice none 0 0, .slice none 0 0] (0, 0) _ rfl (by (with_reducible repeat (first | refine yM ?_ _ | refine yO ?_ | refine yN ?_ _)); refine blk_put (cs := #[.slice none 0 0, .slice none 0 0]) ?_ 1 _ rfl; (with_reducible repeat (first | refine yM ?_ _ | refine yO ?_ | refine yN ?_ _)); refine blk_put (cs := #[.slice none 0 0, .slice none 0 0]) ?_ 0 _ rfl; (with_reducible repeat (first | refine yM ?_ _ | refine yO ?_ | refine yN ?_ _)); exact BK134.out) Try.underlying65 rfl (by kernel_rfl)) rfl ?_
        exact ⟨_, _, by first | rfl | (simp <;> rfl) | (simp [*] <;> rfl), by first | exact Kd.R_nil _ _ _ _ _ | exact Kd.N_nil _ _ _ _ _ | exact Kd.V_nil _ _ _ _ _ | exact Kd.Q_nil _ _ _ _ _ | exact Kd.S_nil _ _ _ _ _, by first | exact Kd.R_nil _ _ _ _ _ | exact Kd.N_nil _ _ _ _ _ | exact Kd.V_nil _ _ _ _ _ | exact Kd.Q_nil _ _ _ _ _ | exact Kd.S_nil _ _ _ _ _, by repeat (first | (with_reducible first | exact HB.out | apply yQ | apply yL | apply yP | refine yE ?_ GE133.out | refine yE ?_ GE134.out) | exact HB.out)⟩
      · replace c15 := Bool.eq_false_iff.mpr c15
        subst c15
        have H1 : ((spec_l00Own.f l1).bind fun t137 => ((spec_l00Own.f l0_1).bind fun t140 => ((spec_l05Space.f kj2 t137 t140).bind fun t144 => (if t144 = true then (some (t137, t140, 0)) else (some (([] : List Int), ([] : List Int), 2)))))) = some (r1, r2, r3) := by rw [if_neg (show ¬ (false = true) by decide)] at H; exact H
        clear H; have H := H1; clear H1
        obtain ⟨t137, A180, H⟩ := zW_ H
        replace H : ((spec_l00Own.f l0_1).bind fun t140 => ((spec_l05Space.f kj2 t137 t140).bind fun t144 => (if t144 = true then (some (t137, t140, 0)) else (some (([] : List Int), ([] : List Int), 2))))) = some (r1, r2, r3) := H
        have A18 := yD A180
        clear A180
        obtain ⟨t140, A190, H⟩ := zW_ H
        replace H : ((spec_l05Space.f kj2 t137 t140).bind fun t144 => (if t144 = true then (some (t137, t140, 0)) else (some (([] : List Int), ([] : List Int), 2)))) = some (r1, r2, r3) := H
        have A19 := yD A190
        clear A190
        obtain ⟨t144, A200, H⟩ := zW_ H
        replace H : (if t144 = true then (some (t137, t140, 0)) else (some (([] : List Int), ([] : List Int), 2))) = some (r1, r2, r3) := H
        have A20 := yD A200
        clear A200
        by_cases c21 : t144 = true
        · subst c21
          have H1 : (some (t137, t140, 0)) = some (r1, r2, r3) := by rw [if_pos rfl] at H; exact H
          clear H; have H := H1; clear H1
          simp only [Option.some.injEq, Prod.mk.injEq] at H
          obtain ⟨rfl, rfl, rfl⟩ := H
          try go_wp2
          have n0_ := yD (yO BK133.out)
          have n1_ := yD (yO BK134.out)
          have n2_ := yD (yP HB.out)
          clear BK133 BK134 HB; have BK133 := n0_; have BK134 := n1_; have HB := n2_; clear n0_ n1_ n2_
          refine start_ (n := 8) (S := fun w' => w'.cell? ⟨gb133, 0, none⟩ = some (.slice A0_0 l0_0.length c0_0) ∧ w'.cell? ⟨gb133, 1, none⟩ = some (.slice A0_1 l0_1.length c0_1)) (ds := []) (bz 8 0) (by kernel_rfl) rfl rfl ⟨(yG BK133.out 0).trans rfl, (yG BK133.out 1).trans rfl⟩ (fun hHeld => ?_); refine with_tabW spec_ResizeSpace.tab3 spec_ResizeSpace.bits3 (fun HT_ HW_ => ?_)
          generalize wc.drew = w22 at BK133 BK134 HB hHeld ⊢
          refine qA 0 16 (bz 8 1) HT_ ?_
          refine qA 2 18 (bz 8 5) HT_ ?_
          refine qC 3 19 (bz 8 13) HT_ HW_ hHeld ?_ (hy := by rintro w' ⟨s0, s1⟩; go_simp; with_reducible rfl)
          refine join_ (σ := Value × Value × Nat) 1 #[true, true, true, true, true, true, true, false] (fun s_ => [(17, s_.1), (20, s_.2.1), (6, .pointer (some ⟨s_.2.2, 0, none⟩)), (21, .agg #[s_.1, s_.2.1])]) (fun s_ w' => (w'.cell? ⟨gb133, 0, none⟩ = some (.slice A0_0 l0_0.length c0_0) ∧ w'.cell? ⟨gb133, 1, none⟩ = some (.slice A0_1 l0_1.length c0_1)) ∧ (Kd.R (Kd.int .i64) 2 w' w.heap.size (fun k_ => some k_ ≠ (s_.2.1 : Value).ownBlock) s_.1 t137) ∧ (Kd.R (Kd.int .i64) 2 w' w.heap.size (fun k_ => some k_ ≠ (s_.1 : Value).ownBlock) s_.2.1 t140) ∧ (w'.heap[gb133]? = some (.cells #[.slice A0_0 l0_0.length c0_0, .slice A0_1 l0_1.length c0_1] 65 (0, 0))) ∧ (w'.heap[gb134]? = some (.cells #[.slice none 0 0, .slice none 0 0] 65 (0, 0))) ∧ (w'.heap[s_.2.2]? = some (.cells #[.slice none 0 0, .slice none 0 0] 65 (0, 0))) ∧ (w.heap.size ≤ s_.2.2) ∧ (w.heap.size ≤ s_.2.2) ∧ (gb133 ≠ s_.2.2) ∧ (s_.2.2 ≠ gb133) ∧ (gb134 ≠ s_.2.2) ∧ (s_.2.2 ≠ gb134) ∧ (Below w.heap.size w w')) ?_ ?_
          rotate_left
          · intro hCont
            refine two_ (i := 1) (j := 6) (Ni := some 17) (Nj := some 6) #[true, true, true, true, false, false, false, false] #[true, false, true, true, false, false, true, false] rfl rfl rfl rfl (two_of HT_.out (by kernel_rfl)) (by decide) (by decide) (fun K hK => ?_) (fun K hK => ?_)
            · skip
              refine goes_ Try.func73 (by kernel_rfl) rfl #[.slice A1 l1.length c1] (by rfl) rfl rfl (by (try simp only [zK, zL, zM]); first | done | rfl | (simp only [zN, zO]; rfl)) ?_
              with_reducible refine (spec_l00Own.calls _ _ l1 t137 _ ?side1 ?side2 A18.out).mono ?_
              (case side1 => exact yY HR1.out HB.out)
              (case side2 => exact HC1.out)
              rintro e w23 ⟨v138, rfl, ho0, hb⟩
              refine ⟨_, rfl, ?_⟩
              have n0_ := yD (yZ ho0 (below_size (by exact HB.out)))
              have n1_ := yD (zB (g := gb133) (o := .cells #[.slice A0_0 l0_0.length c0_0, .slice A0_1 l0_1.length c0_1] 65 (0, 0)) (by exact BK133.out) hb)
              have n2_ := yD (zB (g := gb134) (o := .cells #[.slice none 0 0, .slice none 0 0] 65 (0, 0)) (by exact BK134.out) hb)
              have n3_ := yD (zC (by exact HB.out) hb)
              clear BK133 BK134 HB; have HO139 := n0_; have BK133 := n1_; have BK134 := n2_; have HB := n3_; clear n0_ n1_ n2_ n3_; (try clear hb); (try clear hb2); (try clear hk); (try clear hi); (try clear ho0)
              refine hK.out _ _ ⟨(yG BK133.out 0).trans rfl, (yG BK133.out 1).trans rfl⟩ (fun hHeld => ?_)
              clear hK K
              refine norm_ (a' := ?_) ?_ ?_
              rotate_left
              · show Act.put _ (some 17) _ = _
                simp only [Act.put, zH, zI, zJ, i64_w, i32_w]
                rfl
              refine two_ (i := 4) (j := 6) (Ni := some 20) (Nj := some 6) #[true, true, true, true, true, false, false, false] #[true, true, true, true, false, false, true, false] rfl rfl rfl rfl (two_of HT_.out (by kernel_rfl)) (by decide) (by decide) (fun K hK => ?_) (fun K hK => ?_)
              · skip
                refine goes_ Try.func73 (by kernel_rfl) rfl #[.slice A0_1 l0_1.length c0_1] (by rfl) rfl rfl (by (try simp only [zK, zL, zM]); first | done | rfl | (simp only [zN, zO]; rfl)) ?_
                with_reducible refine (spec_l00Own.calls _ _ l0_1 t140 _ ?side1 ?side2 A19.out).mono ?_
                (case side1 => exact yY HR0_1.out HB.out)
                (case side2 => exact HC0_1.out)
                rintro e w24 ⟨v141, rfl, ho0, hb⟩
                refine ⟨_, rfl, ?_⟩
                have n0_ := yD (Kd.R_elder' (by exact HO139.out) (yH ho0) hb)
                have n1_ := yD (yZ (yJ ho0 (yK (by exact HO139.out))) (below_size (by exact HB.out)))
                have n2_ := yD (zB (g := gb133) (o := .cells #[.slice A0_0 l0_0.length c0_0, .slice A0_1 l0_1.length c0_1] 65 (0, 0)) (by exact BK133.out) hb)
                have n3_ := yD (zB (g := gb134) (o := .cells #[.slice none 0 0, .slice none 0 0] 65 (0, 0)) (by exact BK134.out) hb)
                have n4_ := yD (zC (by exact HB.out) hb)
                clear HO139 BK133 BK134 HB; have HO139 := n0_; have HO142 := n1_; have BK133 := n2_; have BK134 := n3_; have HB := n4_; clear n0_ n1_ n2_ n3_ n4_; (try clear hb); (try clear hb2); (try clear hk); (try clear hi); (try clear ho0)
                obtain ⟨Ao25, co25, eo25⟩ := Kd.R_slice HO142.out
                (first | subst eo25 | (injection eo25 with f1_ f2_ f3_; have f4_ := f1_.symm; have f5_ := f3_.symm; clear f1_ f2_ f3_; subst f4_; subst f5_))
                obtain ⟨Ao26, co26, eo26⟩ := Kd.R_slice HO139.out
                (first | subst eo26 | (injection eo26 with f1_ f2_ f3_; have f4_ := f1_.symm; have f5_ := f3_.symm; clear f1_ f2_ f3_; subst f4_; subst f5_))
                refine hK.out _ _ ⟨(yG BK133.out 0).trans rfl, (yG BK133.out 1).trans rfl⟩ (fun hHeld => ?_)
                clear hK K
                refine norm_ (a' := ?_) ?_ ?_
                rotate_left
                · show Act.put _ (some 20) _ = _
                  simp only [Act.put, zH, zI, zJ, i64_w, i32_w]
                  rfl
                refine qA 5 21 (bz 8 63) HT_ ?_
                refine one_ (i := 6) (N := some 6) (bz 8 127) rfl rfl (one_of HT_.out (by kernel_rfl)) (by decide) (fun K hK => ?_)
                refine box_step ?hg (N := 6) ?hd (cs := #[.slice none 0 0, .slice none 0 0]) (t := 65) ?hr ?_; (case hd => rfl); (case hg => rfl); (case hr => first | (go_simp; done) | (go_simp; rfl))
                intro gb143 hg w27 hbox hb
                have n0_ := yD (zE (by exact HO139.out) hb)
                have n1_ := yD (zE (by exact HO142.out) hb)
                have n2_ := yD (zB (g := gb133) (o := .cells #[.slice A0_0 l0_0.length c0_0, .slice A0_1 l0_1.length c0_1] 65 (0, 0)) (by exact BK133.out) hb)
                have n3_ := yD (zB (g := gb134) (o := .cells #[.slice none 0 0, .slice none 0 0] 65 (0, 0)) (by exact BK134.out) hb)
                have n4_ := yD (zC (by exact HB.out) hb)
                have n5_ := yD (hbox)
                have n6_ := yD ((by rw [hg]; exact (below_size (by exact HB.out)) : w.heap.size ≤ gb143))
                have n7_ := yD ((by rw [hg]; exact (below_size (by exact HB.out)) : w.heap.size ≤ gb143))
                have n8_ := yD ((by rw [hg]; exact Nat.ne_of_lt (blk_lt (g := gb133) (o := .cells #[.slice A0_0 l0_0.length c0_0, .slice A0_1 l0_1.length c0_1] 65 (0, 0)) (by exact BK133.out)) : gb133 ≠ gb143))
                have n9_ := yD ((by rw [hg]; exact Nat.ne_of_gt (blk_lt (g := gb133) (o := .cells #[.slice A0_0 l0_0.length c0_0, .slice A0_1 l0_1.length c0_1] 65 (0, 0)) (by exact BK133.out)) : gb143 ≠ gb133))
                have n10_ := yD ((by rw [hg]; exact Nat.ne_of_lt (blk_lt (g := gb134) (o := .cells #[.slice none 0 0, .slice none 0 0] 65 (0, 0)) (by exact BK134.out)) : gb134 ≠ gb143))
                have n11_ := yD ((by rw [hg]; exact Nat.ne_of_gt (blk_lt (g := gb134) (o := .cells #[.slice none 0 0, .slice none 0 0] 65 (0, 0)) (by exact BK134.out)) : gb143 ≠ gb134))
                clear HO139 HO142 BK133 BK134 HB; have HO139 := n0_; have HO142 := n1_; have BK133 := n2_; have BK134 := n3_; have HB := n4_; have BK143 := n5_; have GW143 := n6_; have GE143 := n7_; have NB133_143 := n8_; have NB143_133 := n9_; have NB134_143 := n10_; have NB143_134 := n11_; clear n0_ n1_ n2_ n3_ n4_ n5_ n6_ n7_ n8_ n9_ n10_ n11_ hb hbox hg
                refine hK.out _ _ ⟨(yG BK133.out 0).trans rfl, (yG BK133.out 1).trans rfl⟩ (fun hHeld => ?_)
                clear hK K
                refine norm_ (a' := ?_) ?_ ?_
                rotate_left
                · show Act.put _ (some 6) _ = _
                  simp only [Act.put, zH, zI, zJ, i64_w, i32_w]
                  rfl
                exact norm_ (by simp only [putAll, Act.put, zH, zI, zJ]) (hCont (.slice Ao26 t137.length co26, .slice Ao25 t140.length co25, gb143) _ ⟨hHeld, (by exact zF HO139.out (fun _ hk => hk.2)), (by exact zF HO142.out (fun _ hk => hk.2)), (by exact BK133.out), (by exact BK134.out), (by exact BK143.out), GW143.out, GE143.out, NB133_143.out, NB143_133.out, NB134_143.out, NB143_134.out, (by exact HB.out)⟩)
              · skip
                refine box_step ?hg (N := 6) ?hd (cs := #[.slice none 0 0, .slice none 0 0]) (t := 65) ?hr ?_; (case hd => rfl); (case hg => rfl); (case hr => first | (go_simp; done) | (go_simp; rfl))
                intro gb143 hg w24 hbox hb
                have n0_ := yD (zE (by exact HO139.out) hb)
                have n1_ := yD (zB (g := gb133) (o := .cells #[.slice A0_0 l0_0.length c0_0, .slice A0_1 l0_1.length c0_1] 65 (0, 0)) (by exact BK133.out) hb)
                have n2_ := yD (zB (g := gb134) (o := .cells #[.slice none 0 0, .slice none 0 0] 65 (0, 0)) (by exact BK134.out) hb)
                have n3_ := yD (zC (by exact HB.out) hb)
                have n4_ := yD (hbox)
                have n5_ := yD ((by rw [hg]; exact (below_size (by exact HB.out)) : w.heap.size ≤ gb143))
                have n6_ := yD ((by rw [hg]; exact (below_size (by exact HB.out)) : w.heap.size ≤ gb143))
                have n7_ := yD ((by rw [hg]; exact Nat.ne_of_lt (blk_lt (g := gb133) (o := .cells #[.slice A0_0 l0_0.length c0_0, .slice A0_1 l0_1.length c0_1] 65 (0, 0)) (by exact BK133.out)) : gb133 ≠ gb143))
                have n8_ := yD ((by rw [hg]; exact Nat.ne_of_gt (blk_lt (g := gb133) (o := .cells #[.slice A0_0 l0_0.length c0_0, .slice A0_1 l0_1.length c0_1] 65 (0, 0)) (by exact BK133.out)) : gb143 ≠ gb133))
                have n9_ := yD ((by rw [hg]; exact Nat.ne_of_lt (blk_lt (g := gb134) (o := .cells #[.slice none 0 0, .slice none 0 0] 65 (0, 0)) (by exact BK134.out)) : gb134 ≠ gb143))
                have n10_ := yD ((by rw [hg]; exact Nat.ne_of_gt (blk_lt (g := gb134) (o := .cells #[.slice none 0 0, .slice none 0 0] 65 (0, 0)) (by exact BK134.out)) : gb143 ≠ gb134))
                clear HO139 BK133 BK134 HB; have HO139 := n0_; have BK133 := n1_; have BK134 := n2_; have HB := n3_; have BK143 := n4_; have GW143 := n5_; have GE143 := n6_; have NB133_143 := n7_; have NB143_133 := n8_; have NB134_143 := n9_; have NB143_134 := n10_; clear n0_ n1_ n2_ n3_ n4_ n5_ n6_ n7_ n8_ n9_ n10_ hb hbox hg
                refine hK.out _ _ ⟨(yG BK133.out 0).trans rfl, (yG BK133.out 1).trans rfl⟩ (fun hHeld => ?_)
                clear hK K
                refine norm_ (a' := ?_) ?_ ?_
                rotate_left
                · show Act.put _ (some 6) _ = _
                  simp only [Act.put, zH, zI, zJ, i64_w, i32_w]
                  rfl
                refine one_ (i := 4) (N := some 20) (bz 8 95) rfl rfl (one_of HT_.out (by kernel_rfl)) (by decide) (fun K hK => ?_)
                refine goes_ Try.func73 (by kernel_rfl) rfl #[.slice A0_1 l0_1.length c0_1] (by rfl) rfl rfl (by (try simp only [zK, zL, zM]); first | done | rfl | (simp only [zN, zO]; rfl)) ?_
                with_reducible refine (spec_l00Own.calls _ _ l0_1 t140 _ ?side1 ?side2 A19.out).mono ?_
                (case side1 => exact yY HR0_1.out HB.out)
                (case side2 => exact HC0_1.out)
                rintro e w25 ⟨v141, rfl, ho0, hb⟩
                refine ⟨_, rfl, ?_⟩
                have n0_ := yD (Kd.R_elder' (by exact HO139.out) (yH ho0) hb)
                have n1_ := yD (yZ (yJ ho0 (yK (by exact HO139.out))) (below_size (by exact HB.out)))
                have n2_ := yD (zB (g := gb133) (o := .cells #[.slice A0_0 l0_0.length c0_0, .slice A0_1 l0_1.length c0_1] 65 (0, 0)) (by exact BK133.out) hb)
                have n3_ := yD (zB (g := gb134) (o := .cells #[.slice none 0 0, .slice none 0 0] 65 (0, 0)) (by exact BK134.out) hb)
                have n4_ := yD (zB (g := gb143) (o := .cells #[.slice none 0 0, .slice none 0 0] 65 (0, 0)) (by exact BK143.out) hb)
                have n5_ := yD (zC (by exact HB.out) hb)
                clear HO139 BK133 BK134 BK143 HB; have HO139 := n0_; have HO142 := n1_; have BK133 := n2_; have BK134 := n3_; have BK143 := n4_; have HB := n5_; clear n0_ n1_ n2_ n3_ n4_ n5_; (try clear hb); (try clear hb2); (try clear hk); (try clear hi); (try clear ho0)
                obtain ⟨Ao26, co26, eo26⟩ := Kd.R_slice HO142.out
                (first | subst eo26 | (injection eo26 with f1_ f2_ f3_; have f4_ := f1_.symm; have f5_ := f3_.symm; clear f1_ f2_ f3_; subst f4_; subst f5_))
                obtain ⟨Ao27, co27, eo27⟩ := Kd.R_slice HO139.out
                (first | subst eo27 | (injection eo27 with f1_ f2_ f3_; have f4_ := f1_.symm; have f5_ := f3_.symm; clear f1_ f2_ f3_; subst f4_; subst f5_))
                refine hK.out _ _ ⟨(yG BK133.out 0).trans rfl, (yG BK133.out 1).trans rfl⟩ (fun hHeld => ?_)
                clear hK K
                refine norm_ (a' := ?_) ?_ ?_
                rotate_left
                · show Act.put _ (some 20) _ = _
                  simp only [Act.put, zH, zI, zJ, i64_w, i32_w]
                  rfl
                refine qA 5 21 (bz 8 127) HT_ ?_
                exact norm_ (by simp only [putAll, Act.put, zH, zI, zJ]) (hCont (.slice Ao27 t137.length co27, .slice Ao26 t140.length co26, gb143) _ ⟨hHeld, (by exact zF HO139.out (fun _ hk => hk.2)), (by exact zF HO142.out (fun _ hk => hk.2)), (by exact BK133.out), (by exact BK134.out), (by exact BK143.out), GW143.out, GE143.out, NB133_143.out, NB143_133.out, NB134_143.out, NB143_134.out, (by exact HB.out)⟩)
            · skip
              refine box_step ?hg (N := 6) ?hd (cs := #[.slice none 0 0, .slice none 0 0]) (t := 65) ?hr ?_; (case hd => rfl); (case hg => rfl); (case hr => first | (go_simp; done) | (go_simp; rfl))
              intro gb143 hg w23 hbox hb
              have n0_ := yD (zB (g := gb133) (o := .cells #[.slice A0_0 l0_0.length c0_0, .slice A0_1 l0_1.length c0_1] 65 (0, 0)) (by exact BK133.out) hb)
              have n1_ := yD (zB (g := gb134) (o := .cells #[.slice none 0 0, .slice none 0 0] 65 (0, 0)) (by exact BK134.out) hb)
              have n2_ := yD (zC (by exact HB.out) hb)
              have n3_ := yD (hbox)
              have n4_ := yD ((by rw [hg]; exact (below_size (by exact HB.out)) : w.heap.size ≤ gb143))
              have n5_ := yD ((by rw [hg]; exact (below_size (by exact HB.out)) : w.heap.size ≤ gb143))
              have n6_ := yD ((by rw [hg]; exact Nat.ne_of_lt (blk_lt (g := gb133) (o := .cells #[.slice A0_0 l0_0.length c0_0, .slice A0_1 l0_1.length c0_1] 65 (0, 0)) (by exact BK133.out)) : gb133 ≠ gb143))
              have n7_ := yD ((by rw [hg]; exact Nat.ne_of_gt (blk_lt (g := gb133) (o := .cells #[.slice A0_0 l0_0.length c0_0, .slice A0_1 l0_1.length c0_1] 65 (0, 0)) (by exact BK133.out)) : gb143 ≠ gb133))
              have n8_ := yD ((by rw [hg]; exact Nat.ne_of_lt (blk_lt (g := gb134) (o := .cells #[.slice none 0 0, .slice none 0 0] 65 (0, 0)) (by exact BK134.out)) : gb134 ≠ gb143))
              have n9_ := yD ((by rw [hg]; exact Nat.ne_of_gt (blk_lt (g := gb134) (o := .cells #[.slice none 0 0, .slice none 0 0] 65 (0, 0)) (by exact BK134.out)) : gb143 ≠ gb134))
              clear BK133 BK134 HB; have BK133 := n0_; have BK134 := n1_; have HB := n2_; have BK143 := n3_; have GW143 := n4_; have GE143 := n5_; have NB133_143 := n6_; have NB143_133 := n7_; have NB134_143 := n8_; have NB143_134 := n9_; clear n0_ n1_ n2_ n3_ n4_ n5_ n6_ n7_ n8_ n9_ hb hbox hg
              refine hK.out _ _ ⟨(yG BK133.out 0).trans rfl, (yG BK133.out 1).trans rfl⟩ (fun hHeld => ?_)
              clear hK K
              refine norm_ (a' := ?_) ?_ ?_
              rotate_left
              · show Act.put _ (some 6) _ = _
                simp only [Act.put, zH, zI, zJ, i64_w, i32_w]
                rfl
              refine one_ (i := 1) (N := some 17) (bz 8 79) rfl rfl (one_of HT_.out (by kernel_rfl)) (by decide) (fun K hK => ?_)
              refine goes_ Try.func73 (by kernel_rfl) rfl #[.slice A1 l1.length c1] (by rfl) rfl rfl (by (try simp only [zK, zL, zM]); first | done | rfl | (simp only [zN, zO]; rfl)) ?_
              with_reducible refine (spec_l00Own.calls _ _ l1 t137 _ ?side1 ?side2 A18.out).mono ?_
              (case side1 => exact yY HR1.out HB.out)
              (case side2 => exact HC1.out)
              rintro e w24 ⟨v138, rfl, ho0, hb⟩
              refine ⟨_, rfl, ?_⟩
              have n0_ := yD (yZ ho0 (below_size (by exact HB.out)))
              have n1_ := yD (zB (g := gb133) (o := .cells #[.slice A0_0 l0_0.length c0_0, .slice A0_1 l0_1.length c0_1] 65 (0, 0)) (by exact BK133.out) hb)
              have n2_ := yD (zB (g := gb134) (o := .cells #[.slice none 0 0, .slice none 0 0] 65 (0, 0)) (by exact BK134.out) hb)
              have n3_ := yD (zB (g := gb143) (o := .cells #[.slice none 0 0, .slice none 0 0] 65 (0, 0)) (by exact BK143.out) hb)
              have n4_ := yD (zC (by exact HB.out) hb)
              clear BK133 BK134 BK143 HB; have HO139 := n0_; have BK133 := n1_; have BK134 := n2_; have BK143 := n3_; have HB := n4_; clear n0_ n1_ n2_ n3_ n4_; (try clear hb); (try clear hb2); (try clear hk); (try clear hi); (try clear ho0)
              refine hK.out _ _ ⟨(yG BK133.out 0).trans rfl, (yG BK133.out 1).trans rfl⟩ (fun hHeld => ?_)
              clear hK K
              refine norm_ (a' := ?_) ?_ ?_
              rotate_left
              · show Act.put _ (some 17) _ = _
                simp only [Act.put, zH, zI, zJ, i64_w, i32_w]
                rfl
              refine one_ (i := 4) (N := some 20) (bz 8 95) rfl rfl (one_of HT_.out (by kernel_rfl)) (by decide) (fun K hK => ?_)
              refine goes_ Try.func73 (by kernel_rfl) rfl #[.slice A0_1 l0_1.length c0_1] (by rfl) rfl rfl (by (try simp only [zK, zL, zM]); first | done | rfl | (simp only [zN, zO]; rfl)) ?_
              with_reducible refine (spec_l00Own.calls _ _ l0_1 t140 _ ?side1 ?side2 A19.out).mono ?_
              (case side1 => exact yY HR0_1.out HB.out)
              (case side2 => exact HC0_1.out)
              rintro e w25 ⟨v141, rfl, ho0, hb⟩
              refine ⟨_, rfl, ?_⟩
              have n0_ := yD (Kd.R_elder' (by exact HO139.out) (yH ho0) hb)
              have n1_ := yD (yZ (yJ ho0 (yK (by exact HO139.out))) (below_size (by exact HB.out)))
              have n2_ := yD (zB (g := gb133) (o := .cells #[.slice A0_0 l0_0.length c0_0, .slice A0_1 l0_1.length c0_1] 65 (0, 0)) (by exact BK133.out) hb)
              have n3_ := yD (zB (g := gb134) (o := .cells #[.slice none 0 0, .slice none 0 0] 65 (0, 0)) (by exact BK134.out) hb)
              have n4_ := yD (zB (g := gb143) (o := .cells #[.slice none 0 0, .slice none 0 0] 65 (0, 0)) (by exact BK143.out) hb)
              have n5_ := yD (zC (by exact HB.out) hb)
              clear HO139 BK133 BK134 BK143 HB; have HO139 := n0_; have HO142 := n1_; have BK133 := n2_; have BK134 := n3_; have BK143 := n4_; have HB := n5_; clear n0_ n1_ n2_ n3_ n4_ n5_; (try clear hb); (try clear hb2); (try clear hk); (try clear hi); (try clear ho0)
              obtain ⟨Ao26, co26, eo26⟩ := Kd.R_slice HO142.out
              (first | subst eo26 | (injection eo26 with f1_ f2_ f3_; have f4_ := f1_.symm; have f5_ := f3_.symm; clear f1_ f2_ f3_; subst f4_; subst f5_))
              obtain ⟨Ao27, co27, eo27⟩ := Kd.R_slice HO139.out
              (first | subst eo27 | (injection eo27 with f1_ f2_ f3_; have f4_ := f1_.symm; have f5_ := f3_.symm; clear f1_ f2_ f3_; subst f4_; subst f5_))
              refine hK.out _ _ ⟨(yG BK133.out 0).trans rfl, (yG BK133.out 1).trans rfl⟩ (fun hHeld => ?_)
              clear hK K
              refine norm_ (a' := ?_) ?_ ?_
              rotate_left
              · show Act.put _ (some 20) _ = _
                simp only [Act.put, zH, zI, zJ, i64_w, i32_w]
                rfl
              refine qA 5 21 (bz 8 127) HT_ ?_
              exact norm_ (by simp only [putAll, Act.put, zH, zI, zJ]) (hCont (.slice Ao27 t137.length co27, .slice Ao26 t140.length co26, gb143) _ ⟨hHeld, (by exact zF HO139.out (fun _ hk => hk.2)), (by exact zF HO142.out (fun _ hk => hk.2)), (by exact BK133.out), (by exact BK134.out), (by exact BK143.out), GW143.out, GE143.out, NB133_143.out, NB143_133.out, NB134_143.out, NB143_134.out, (by exact HB.out)⟩)
          rintro ⟨v138, v141, gb143⟩ w28 ⟨hS_, h0_, h1_, h2_, h3_, h4_, h5_, h6_, h7_, h8_, h9_, h10_, h11_⟩
          have n0_ : Aside0 (Kd.R (Kd.int .i64) 2 w28 w.heap.size (fun k_ => some k_ ≠ (v141 : Value).ownBlock) v138 t137) := ⟨h0_⟩
          have n1_ : Aside0 (Kd.R (Kd.int .i64) 2 w28 w.heap.size (fun k_ => some k_ ≠ (v138 : Value).ownBlock) v141 t140) := ⟨h1_⟩
          have n2_ : Aside0 (w28.heap[gb133]? = some (.cells #[.slice A0_0 l0_0.length c0_0, .slice A0_1 l0_1.length c0_1] 65 (0, 0))) := ⟨h2_⟩
          have n3_ : Aside0 (w28.heap[gb134]? = some (.cells #[.slice none 0 0, .slice none 0 0] 65 (0, 0))) := ⟨h3_⟩
          have n4_ : Aside0 (w28.heap[gb143]? = some (.cells #[.slice none 0 0, .slice none 0 0] 65 (0, 0))) := ⟨h4_⟩
          have n5_ : Aside0 (w.heap.size ≤ gb143) := ⟨h5_⟩
          have n6_ : Aside0 (w.heap.size ≤ gb143) := ⟨h6_⟩
          have n7_ : Aside0 (gb133 ≠ gb143) := ⟨h7_⟩
          have n8_ : Aside0 (gb143 ≠ gb133) := ⟨h8_⟩
          have n9_ : Aside0 (gb134 ≠ gb143) := ⟨h9_⟩
          have n10_ : Aside0 (gb143 ≠ gb134) := ⟨h10_⟩
          have n11_ : Aside0 (Below w.heap.size w w28) := ⟨h11_⟩
          clear BK133 BK134 HB h0_ h1_ h2_ h3_ h4_ h5_ h6_ h7_ h8_ h9_ h10_ h11_; have HO139 := n0_; have HO142 := n1_; have BK133 := n2_; have BK134 := n3_; have BK143 := n4_; have GW143 := n5_; have GE143 := n6_; have NB133_143 := n7_; have NB143_133 := n8_; have NB134_143 := n9_; have NB143_134 := n10_; have HB := n11_; clear n0_ n1_ n2_ n3_ n4_ n5_ n6_ n7_ n8_ n9_ n10_ n11_
          have hHeld : w28.cell? ⟨gb133, 0, none⟩ = some (.slice A0_0 l0_0.length c0_0) ∧ w28.cell? ⟨gb133, 1, none⟩ = some (.slice A0_1 l0_1.length c0_1) := hS_
          obtain ⟨Ao29, co29, eo29⟩ := Kd.R_slice HO142.out
          (first | subst eo29 | (injection eo29 with f1_ f2_ f3_; have f4_ := f1_.symm; have f5_ := f3_.symm; clear f1_ f2_ f3_; subst f4_; subst f5_))
          obtain ⟨Ao30, co30, eo30⟩ := Kd.R_slice HO139.out
          (first | subst eo30 | (injection eo30 with f1_ f2_ f3_; have f4_ := f1_.symm; have f5_ := f3_.symm; clear f1_ f2_ f3_; subst f4_; subst f5_))
          refine norm_ (a' := ?_) ?_ ?_
          rotate_left
          · simp only [putAll, Act.put, zH, zI, zJ]
            rfl
          refine one_ (i := 7) (N := none) (bz 8 255) rfl rfl (one_of HT_.out (by kernel_rfl)) (by decide) (fun K hK => ?_)
          have hs31 : w28.cell? ⟨gb143, 0, none⟩ = some (.slice none 0 0) := (yG BK143.out 0).trans rfl
          have hfs31 := yR BK143.out 0
          have hns31_0 := NB133_143.out; have hns31_1 := NB134_143.out; have hms31_0 := NB143_133.out; have hms31_1 := NB143_134.out
          have hs32 : w28.cell? ⟨gb143, 1, none⟩ = some (.slice none 0 0) := (yG BK143.out 1).trans rfl
          have hfs32 := yR BK143.out 1
          have hns32_0 := NB133_143.out; have hns32_1 := NB134_143.out; have hms32_0 := NB143_133.out; have hms32_1 := NB143_134.out
          refine skip_ (w1 := ?_) (by rfl) rfl ?_ ?_
          rotate_left
          · go_simp
            rfl
          refine hK.out _ _ ⟨((cell_far (p := ⟨gb143, _, none⟩) NB133_143.out _).trans (((cell_far (p := ⟨gb143, _, none⟩) NB133_143.out _).trans (hHeld.1)))), ((cell_far (p := ⟨gb143, _, none⟩) NB133_143.out _).trans (((cell_far (p := ⟨gb143, _, none⟩) NB133_143.out _).trans (hHeld.2))))⟩ (fun hHeld => ?_)
          clear hK K
          refine done_ (done_of HT_.out (by kernel_rfl)) ?_
          have hnb33 := NB143_133.out; have hnc33 := NB133_143.out; have hnb34 := NB143_134.out; have hnc34 := NB134_143.out
          obtain ⟨hcz35_0, hcz35_1⟩ := cz2 BK143.out
          obtain ⟨hfz35_0, hfz35_1⟩ := fz2 BK143.out
          try go_wp2_with (first | ((with_reducible refine gate_callee (f := 87) rfl ?_); refine goesL_ (some 23) rfl rfl Try.func87 (by kernel_rfl) rfl #[.agg #[.slice Ao30 t137.length co30, .slice Ao29 t140.length co29]] rfl (by (try simp only [zK, zL, zM]); first | done | rfl | (simp only [zN, zO]; rfl)) ?_; (with_reducible refine (spec_l05Space.calls kj2 _ _ t137 _ _ t140 true _ ?side1 ?side2 ?side3 ?side4 A20.out).mono ?_); (case side1 => refine (zA (e := 2) (base := w.heap.size) (ok := fun k_ => some k_ ≠ (.slice Ao29 t140.length co29 : Value).ownBlock) (n := t137.length) (c := co30) ?_).2.2; exact (by exact zF (yF (p := ⟨gb143, 1, none⟩) (yF (p := ⟨gb143, 0, none⟩) (Kd.R_types HO139.out BK143.out (by decide)) (fun _ hk => hk.2) (.slice Ao30 t137.length co30)) (fun _ hk => hk.2) (.slice Ao29 t140.length co29)) (fun _ h_ => h_.1))); (case side2 => exact (zA HO139.out).2.1); (case side3 => refine (zA (e := 2) (base := w.heap.size) (ok := fun k_ => some k_ ≠ (.slice Ao30 t137.length co30 : Value).ownBlock) (n := t140.length) (c := co29) ?_).2.2; exact (by exact zF (yF (p := ⟨gb143, 1, none⟩) (yF (p := ⟨gb143, 0, none⟩) (Kd.R_types HO142.out BK143.out (by decide)) (fun _ hk => hk.2) (.slice Ao30 t137.length co30)) (fun _ hk => hk.2) (.slice Ao29 t140.length co29)) (fun _ h_ => h_.1))); (case side4 => exact (zA HO142.out).2.1); rintro e w36 ⟨rfl, hb⟩; refine ⟨_, rfl, ?_⟩; have n0_ := yD (zE (by exact zF (yF (p := ⟨gb143, 1, none⟩) (yF (p := ⟨gb143, 0, none⟩) (Kd.R_types HO139.out BK143.out (by decide)) (fun _ hk => hk.2) (.slice Ao30 t137.length co30)) (fun _ hk => hk.2) (.slice Ao29 t140.length co29)) (fun _ h_ => h_.1)) hb); have n1_ := yD (zE (by exact zF (yF (p := ⟨gb143, 1, none⟩) (yF (p := ⟨gb143, 0, none⟩) (Kd.R_types HO142.out BK143.out (by decide)) (fun _ hk => hk.2) (.slice Ao30 t137.length co30)) (fun _ hk => hk.2) (.slice Ao29 t140.length co29)) (fun _ h_ => h_.1)) hb); have n2_ := yD (zB (g := gb133) (o := .cells #[.slice A0_0 l0_0.length c0_0, .slice A0_1 l0_1.length c0_1] 65 (0, 0)) (by (with_reducible repeat (first | refine yM ?_ _ | refine yO ?_ | refine yN ?_ _)); refine blk_far ?_ NB133_143.out _; (with_reducible repeat (first | refine yM ?_ _ | refine yO ?_ | refine yN ?_ _)); refine blk_far ?_ NB133_143.out _; (with_reducible repeat (first | refine yM ?_ _ | refine yO ?_ | refine yN ?_ _)); exact BK133.out) hb); have n3_ := yD (zB (g := gb134) (o := .cells #[.slice none 0 0, .slice none 0 0] 65 (0, 0)) (by (with_reducible repeat (first | refine yM ?_ _ | refine yO ?_ | refine yN ?_ _)); refine blk_far ?_ NB134_143.out _; (with_reducible repeat (first | refine yM ?_ _ | refine yO ?_ | refine yN ?_ _)); refine blk_far ?_ NB134_143.out _; (with_reducible repeat (first | refine yM ?_ _ | refine yO ?_ | refine yN ?_ _)); exact BK134.out) hb); have n4_ := yD (zB (g := gb143) (o := .cells #[.slice Ao30 t137.length co30, .slice Ao29 t140.length co29] 65 (0, 0)) (by (with_reducible repeat (first | refine yM ?_ _ | refine yO ?_ | refine yN ?_ _)); refine blk_put (cs := #[.slice Ao30 t137.length co30, .slice none 0 0]) ?_ 1 _ rfl; (with_reducible repeat (first | refine yM ?_ _ | refine yO ?_ | refine yN ?_ _)); refine blk_put (cs := #[.slice none 0 0, .slice none 0 0]) ?_ 0 _ rfl; (with_reducible repeat (first | refine yM ?_ _ | refine yO ?_ | refine yN ?_ _)); exact BK143.out) hb); have n5_ := yD (zC (by refine yE ?_ GE143.out; refine yE ?_ GE143.out; exact HB.out) hb); clear HO139; clear HO142; clear BK133; clear BK134; clear BK143; clear HB; have HO139 := n0_; have HO142 := n1_; have BK133 := n2_; have BK134 := n3_; have BK143 := n4_; have HB := n5_; clear n0_ n1_ n2_ n3_ n4_ n5_; (try clear hb); (try clear hb2); (try clear hk); (try clear hi); obtain ⟨hcz37_0, hcz37_1⟩ := cz2 BK143.out; obtain ⟨hfz37_0, hfz37_1⟩ := fz2 BK143.out; have hnb38 := NB134_133.out; have hnc38 := NB133_134.out; obtain ⟨hcz39_0, hcz39_1⟩ := cz2 BK134.out; obtain ⟨hfz39_0, hfz39_1⟩ := fz2 BK134.out))
          refine bodyPost_ret (results_ct rfl _ _ gb134 65 #[.slice Ao30 t137.length co30, .slice Ao29 t140.length co29] (0, 0) _ rfl (by (with_reducible repeat (first | refine yM ?_ _ | refine yO ?_ | refine yN ?_ _)); refine blk_put (cs := #[.slice Ao30 t137.length co30, .slice none 0 0]) ?_ 1 _ rfl; (with_reducible repeat (first | refine yM ?_ _ | refine yO ?_ | refine yN ?_ _)); refine blk_put (cs := #[.slice none 0 0, .slice none 0 0]) ?_ 0 _ rfl; (with_reducible repeat (first | refine yM ?_ _ | refine yO ?_ | refine yN ?_ _)); exact BK134.out) Try.underlying65 rfl (by kernel_rfl)) rfl ?_
          exact ⟨_, _, by first | rfl | (simp <;> rfl) | (simp [*] <;> rfl), by (with_reducible repeat (first | apply yA | apply yB | apply yC)); exact zF (yF (p := ⟨gb134, 1, none⟩) (yF (p := ⟨gb134, 0, none⟩) (Kd.R_types HO139.out BK134.out (by decide)) (fun _ hk => hk.2) (.slice Ao30 t137.length co30)) (fun _ hk => hk.2) (.slice Ao29 t140.length co29)) (fun _ hk => hk.1), by (with_reducible repeat (first | apply yA | apply yB | apply yC)); exact zF (yF (p := ⟨gb134, 1, none⟩) (yF (p := ⟨gb134, 0, none⟩) (Kd.R_types HO142.out BK134.out (by decide)) (fun _ hk => hk.2) (.slice Ao30 t137.length co30)) (fun _ hk => hk.2) (.slice Ao29 t140.length co29)) (fun _ hk => hk.1), by repeat (first | (with_reducible first | exact HB.out | apply yQ | apply yL | apply yP | refine yE ?_ GE133.out | refine yE ?_ GE134.out | refine yE ?_ GE143.out) | exact HB.out)⟩
        · replace c21 := Bool.eq_false_iff.mpr c21
          subst c21
          have H1 : (some (([] : List Int), ([] : List Int), 2)) = some (r1, r2, r3) := by rw [if_neg (show ¬ (false = true) by decide)] at H; exact H
          clear H; have H := H1; clear H1
          simp only [Option.some.injEq, Prod.mk.injEq] at H
          obtain ⟨rfl, rfl, rfl⟩ := H
          try go_wp2
          have n0_ := yD (yO BK133.out)
          have n1_ := yD (yO BK134.out)
          have n2_ := yD (yP HB.out)
          clear BK133 BK134 HB; have BK133 := n0_; have BK134 := n1_; have HB := n2_; clear n0_ n1_ n2_
          refine start_ (n := 8) (S := fun w' => w'.cell? ⟨gb133, 0, none⟩ = some (.slice A0_0 l0_0.length c0_0) ∧ w'.cell? ⟨gb133, 1, none⟩ = some (.slice A0_1 l0_1.length c0_1)) (ds := []) (bz 8 0) (by kernel_rfl) rfl rfl ⟨(yG BK133.out 0).trans rfl, (yG BK133.out 1).trans rfl⟩ (fun hHeld => ?_); refine with_tabW spec_ResizeSpace.tab3 spec_ResizeSpace.bits3 (fun HT_ HW_ => ?_)
          generalize wc.drew = w40 at BK133 BK134 HB hHeld ⊢
          refine qA 0 16 (bz 8 1) HT_ ?_
          refine qA 2 18 (bz 8 5) HT_ ?_
          refine qC 3 19 (bz 8 13) HT_ HW_ hHeld ?_ (hy := by rintro w' ⟨s0, s1⟩; go_simp; with_reducible rfl)
          refine join_ (σ := Value × Value × Nat) 1 #[true, true, true, true, true, true, true, false] (fun s_ => [(17, s_.1), (20, s_.2.1), (6, .pointer (some ⟨s_.2.2, 0, none⟩)), (21, .agg #[s_.1, s_.2.1])]) (fun s_ w' => (w'.cell? ⟨gb133, 0, none⟩ = some (.slice A0_0 l0_0.length c0_0) ∧ w'.cell? ⟨gb133, 1, none⟩ = some (.slice A0_1 l0_1.length c0_1)) ∧ (Kd.R (Kd.int .i64) 2 w' w.heap.size (fun k_ => some k_ ≠ (s_.2.1 : Value).ownBlock) s_.1 t137) ∧ (Kd.R (Kd.int .i64) 2 w' w.heap.size (fun k_ => some k_ ≠ (s_.1 : Value).ownBlock) s_.2.1 t140) ∧ (w'.heap[gb133]? = some (.cells #[.slice A0_0 l0_0.length c0_0, .slice A0_1 l0_1.length c0_1] 65 (0, 0))) ∧ (w'.heap[gb134]? = some (.cells #[.slice none 0 0, .slice none 0 0] 65 (0, 0))) ∧ (w'.heap[s_.2.2]? = some (.cells #[.slice none 0 0, .slice none 0 0] 65 (0, 0))) ∧ (w.heap.size ≤ s_.2.2) ∧ (w.heap.size ≤ s_.2.2) ∧ (gb133 ≠ s_.2.2) ∧ (s_.2.2 ≠ gb133) ∧ (gb134 ≠ s_.2.2) ∧ (s_.2.2 ≠ gb134) ∧ (Below w.heap.size w w')) ?_ ?_
          rotate_left
          · intro hCont
            refine two_ (i := 1) (j := 6) (Ni := some 17) (Nj := some 6) #[true, true, true, true, false, false, false, false] #[true, false, true, true, false, false, true, false] rfl rfl rfl rfl (two_of HT_.out (by kernel_rfl)) (by decide) (by decide) (fun K hK => ?_) (fun K hK => ?_)
            · skip
              refine goes_ Try.func73 (by kernel_rfl) rfl #[.slice A1 l1.length c1] (by rfl) rfl rfl (by (try simp only [zK, zL, zM]); first | done | rfl | (simp only [zN, zO]; rfl)) ?_
              with_reducible refine (spec_l00Own.calls _ _ l1 t137 _ ?side1 ?side2 A18.out).mono ?_
              (case side1 => exact yY HR1.out HB.out)
              (case side2 => exact HC1.out)
              rintro e w41 ⟨v138, rfl, ho0, hb⟩
              refine ⟨_, rfl, ?_⟩
              have n0_ := yD (yZ ho0 (below_size (by exact HB.out)))
              have n1_ := yD (zB (g := gb133) (o := .cells #[.slice A0_0 l0_0.length c0_0, .slice A0_1 l0_1.length c0_1] 65 (0, 0)) (by exact BK133.out) hb)
              have n2_ := yD (zB (g := gb134) (o := .cells #[.slice none 0 0, .slice none 0 0] 65 (0, 0)) (by exact BK134.out) hb)
              have n3_ := yD (zC (by exact HB.out) hb)
              clear BK133 BK134 HB; have HO139 := n0_; have BK133 := n1_; have BK134 := n2_; have HB := n3_; clear n0_ n1_ n2_ n3_; (try clear hb); (try clear hb2); (try clear hk); (try clear hi); (try clear ho0)
              refine hK.out _ _ ⟨(yG BK133.out 0).trans rfl, (yG BK133.out 1).trans rfl⟩ (fun hHeld => ?_)
              clear hK K
              refine norm_ (a' := ?_) ?_ ?_
              rotate_left
              · show Act.put _ (some 17) _ = _
                simp only [Act.put, zH, zI, zJ, i64_w, i32_w]
                rfl
              refine two_ (i := 4) (j := 6) (Ni := some 20) (Nj := some 6) #[true, true, true, true, true, false, false, false] #[true, true, true, true, false, false, true, false] rfl rfl rfl rfl (two_of HT_.out (by kernel_rfl)) (by decide) (by decide) (fun K hK => ?_) (fun K hK => ?_)
              · skip
                refine goes_ Try.func73 (by kernel_rfl) rfl #[.slice A0_1 l0_1.length c0_1] (by rfl) rfl rfl (by (try simp only [zK, zL, zM]); first | done | rfl | (simp only [zN, zO]; rfl)) ?_
                with_reducible refine (spec_l00Own.calls _ _ l0_1 t140 _ ?side1 ?side2 A19.out).mono ?_
                (case side1 => exact yY HR0_1.out HB.out)
                (case side2 => exact HC0_1.out)
                rintro e w42 ⟨v141, rfl, ho0, hb⟩
                refine ⟨_, rfl, ?_⟩
                have n0_ := yD (Kd.R_elder' (by exact HO139.out) (yH ho0) hb)
                have n1_ := yD (yZ (yJ ho0 (yK (by exact HO139.out))) (below_size (by exact HB.out)))
                have n2_ := yD (zB (g := gb133) (o := .cells #[.slice A0_0 l0_0.length c0_0, .slice A0_1 l0_1.length c0_1] 65 (0, 0)) (by exact BK133.out) hb)
                have n3_ := yD (zB (g := gb134) (o := .cells #[.slice none 0 0, .slice none 0 0] 65 (0, 0)) (by exact BK134.out) hb)
                have n4_ := yD (zC (by exact HB.out) hb)
                clear HO139 BK133 BK134 HB; have HO139 := n0_; have HO142 := n1_; have BK133 := n2_; have BK134 := n3_; have HB := n4_; clear n0_ n1_ n2_ n3_ n4_; (try clear hb); (try clear hb2); (try clear hk); (try clear hi); (try clear ho0)
                obtain ⟨Ao43, co43, eo43⟩ := Kd.R_slice HO142.out
                (first | subst eo43 | (injection eo43 with f1_ f2_ f3_; have f4_ := f1_.symm; have f5_ := f3_.symm; clear f1_ f2_ f3_; subst f4_; subst f5_))
                obtain ⟨Ao44, co44, eo44⟩ := Kd.R_slice HO139.out
                (first | subst eo44 | (injection eo44 with f1_ f2_ f3_; have f4_ := f1_.symm; have f5_ := f3_.symm; clear f1_ f2_ f3_; subst f4_; subst f5_))
                refine hK.out _ _ ⟨(yG BK133.out 0).trans rfl, (yG BK133.out 1).trans rfl⟩ (fun hHeld => ?_)
                clear hK K
                refine norm_ (a' := ?_) ?_ ?_
                rotate_left
                · show Act.put _ (some 20) _ = _
                  simp only [Act.put, zH, zI, zJ, i64_w, i32_w]
                  rfl
                refine qA 5 21 (bz 8 63) HT_ ?_
                refine one_ (i := 6) (N := some 6) (bz 8 127) rfl rfl (one_of HT_.out (by kernel_rfl)) (by decide) (fun K hK => ?_)
                refine box_step ?hg (N := 6) ?hd (cs := #[.slice none 0 0, .slice none 0 0]) (t := 65) ?hr ?_; (case hd => rfl); (case hg => rfl); (case hr => first | (go_simp; done) | (go_simp; rfl))
                intro gb143 hg w45 hbox hb
                have n0_ := yD (zE (by exact HO139.out) hb)
                have n1_ := yD (zE (by exact HO142.out) hb)
                have n2_ := yD (zB (g := gb133) (o := .cells #[.slice A0_0 l0_0.length c0_0, .slice A0_1 l0_1.length c0_1] 65 (0, 0)) (by exact BK133.out) hb)
                have n3_ := yD (zB (g := gb134) (o := .cells #[.slice none 0 0, .slice none 0 0] 65 (0, 0)) (by exact BK134.out) hb)
                have n4_ := yD (zC (by exact HB.out) hb)
                have n5_ := yD (hbox)
                have n6_ := yD ((by rw [hg]; exact (below_size (by exact HB.out)) : w.heap.size ≤ gb143))
                have n7_ := yD ((by rw [hg]; exact (below_size (by exact HB.out)) : w.heap.size ≤ gb143))
                have n8_ := yD ((by rw [hg]; exact Nat.ne_of_lt (blk_lt (g := gb133) (o := .cells #[.slice A0_0 l0_0.length c0_0, .slice A0_1 l0_1.length c0_1] 65 (0, 0)) (by exact BK133.out)) : gb133 ≠ gb143))
                have n9_ := yD ((by rw [hg]; exact Nat.ne_of_gt (blk_lt (g := gb133) (o := .cells #[.slice A0_0 l0_0.length c0_0, .slice A0_1 l0_1.length c0_1] 65 (0, 0)) (by exact BK133.out)) : gb143 ≠ gb133))
                have n10_ := yD ((by rw [hg]; exact Nat.ne_of_lt (blk_lt (g := gb134) (o := .cells #[.slice none 0 0, .slice none 0 0] 65 (0, 0)) (by exact BK134.out)) : gb134 ≠ gb143))
                have n11_ := yD ((by rw [hg]; exact Nat.ne_of_gt (blk_lt (g := gb134) (o := .cells #[.slice none 0 0, .slice none 0 0] 65 (0, 0)) (by exact BK134.out)) : gb143 ≠ gb134))
                clear HO139 HO142 BK133 BK134 HB; have HO139 := n0_; have HO142 := n1_; have BK133 := n2_; have BK134 := n3_; have HB := n4_; have BK143 := n5_; have GW143 := n6_; have GE143 := n7_; have NB133_143 := n8_; have NB143_133 := n9_; have NB134_143 := n10_; have NB143_134 := n11_; clear n0_ n1_ n2_ n3_ n4_ n5_ n6_ n7_ n8_ n9_ n10_ n11_ hb hbox hg
                refine hK.out _ _ ⟨(yG BK133.out 0).trans rfl, (yG BK133.out 1).trans rfl⟩ (fun hHeld => ?_)
                clear hK K
                refine norm_ (a' := ?_) ?_ ?_
                rotate_left
                · show Act.put _ (some 6) _ = _
                  simp only [Act.put, zH, zI, zJ, i64_w, i32_w]
                  rfl
                exact norm_ (by simp only [putAll, Act.put, zH, zI, zJ]) (hCont (.slice Ao44 t137.length co44, .slice Ao43 t140.length co43, gb143) _ ⟨hHeld, (by exact zF HO139.out (fun _ hk => hk.2)), (by exact zF HO142.out (fun _ hk => hk.2)), (by exact BK133.out), (by exact BK134.out), (by exact BK143.out), GW143.out, GE143.out, NB133_143.out, NB143_133.out, NB134_143.out, NB143_134.out, (by exact HB.out)⟩)
              · skip
                refine box_step ?hg (N := 6) ?hd (cs := #[.slice none 0 0, .slice none 0 0]) (t := 65) ?hr ?_; (case hd => rfl); (case hg => rfl); (case hr => first | (go_simp; done) | (go_simp; rfl))
                intro gb143 hg w42 hbox hb
                have n0_ := yD (zE (by exact HO139.out) hb)
                have n1_ := yD (zB (g := gb133) (o := .cells #[.slice A0_0 l0_0.length c0_0, .slice A0_1 l0_1.length c0_1] 65 (0, 0)) (by exact BK133.out) hb)
                have n2_ := yD (zB (g := gb134) (o := .cells #[.slice none 0 0, .slice none 0 0] 65 (0, 0)) (by exact BK134.out) hb)
                have n3_ := yD (zC (by exact HB.out) hb)
                have n4_ := yD (hbox)
                have n5_ := yD ((by rw [hg]; exact (below_size (by exact HB.out)) : w.heap.size ≤ gb143))
                have n6_ := yD ((by rw [hg]; exact (below_size (by exact HB.out)) : w.heap.size ≤ gb143))
                have n7_ := yD ((by rw [hg]; exact Nat.ne_of_lt (blk_lt (g := gb133) (o := .cells #[.slice A0_0 l0_0.length c0_0, .slice A0_1 l0_1.length c0_1] 65 (0, 0)) (by exact BK133.out)) : gb133 ≠ gb143))
                have n8_ := yD ((by rw [hg]; exact Nat.ne_of_gt (blk_lt (g := gb133) (o := .cells #[.slice A0_0 l0_0.length c0_0, .slice A0_1 l0_1.length c0_1] 65 (0, 0)) (by exact BK133.out)) : gb143 ≠ gb133))
                have n9_ := yD ((by rw [hg]; exact Nat.ne_of_lt (blk_lt (g := gb134) (o := .cells #[.slice none 0 0, .slice none 0 0] 65 (0, 0)) (by exact BK134.out)) : gb134 ≠ gb143))
                have n10_ := yD ((by rw [hg]; exact Nat.ne_of_gt (blk_lt (g := gb134) (o := .cells #[.slice none 0 0, .slice none 0 0] 65 (0, 0)) (by exact BK134.out)) : gb143 ≠ gb134))
                clear HO139 BK133 BK134 HB; have HO139 := n0_; have BK133 := n1_; have BK134 := n2_; have HB := n3_; have BK143 := n4_; have GW143 := n5_; have GE143 := n6_; have NB133_143 := n7_; have NB143_133 := n8_; have NB134_143 := n9_; have NB143_134 := n10_; clear n0_ n1_ n2_ n3_ n4_ n5_ n6_ n7_ n8_ n9_ n10_ hb hbox hg
                refine hK.out _ _ ⟨(yG BK133.out 0).trans rfl, (yG BK133.out 1).trans rfl⟩ (fun hHeld => ?_)
                clear hK K
                refine norm_ (a' := ?_) ?_ ?_
                rotate_left
                · show Act.put _ (some 6) _ = _
                  simp only [Act.put, zH, zI, zJ, i64_w, i32_w]
                  rfl
                refine one_ (i := 4) (N := some 20) (bz 8 95) rfl rfl (one_of HT_.out (by kernel_rfl)) (by decide) (fun K hK => ?_)
                refine goes_ Try.func73 (by kernel_rfl) rfl #[.slice A0_1 l0_1.length c0_1] (by rfl) rfl rfl (by (try simp only [zK, zL, zM]); first | done | rfl | (simp only [zN, zO]; rfl)) ?_
                with_reducible refine (spec_l00Own.calls _ _ l0_1 t140 _ ?side1 ?side2 A19.out).mono ?_
                (case side1 => exact yY HR0_1.out HB.out)
                (case side2 => exact HC0_1.out)
                rintro e w43 ⟨v141, rfl, ho0, hb⟩
                refine ⟨_, rfl, ?_⟩
                have n0_ := yD (Kd.R_elder' (by exact HO139.out) (yH ho0) hb)
                have n1_ := yD (yZ (yJ ho0 (yK (by exact HO139.out))) (below_size (by exact HB.out)))
                have n2_ := yD (zB (g := gb133) (o := .cells #[.slice A0_0 l0_0.length c0_0, .slice A0_1 l0_1.length c0_1] 65 (0, 0)) (by exact BK133.out) hb)
                have n3_ := yD (zB (g := gb134) (o := .cells #[.slice none 0 0, .slice none 0 0] 65 (0, 0)) (by exact BK134.out) hb)
                have n4_ := yD (zB (g := gb143) (o := .cells #[.slice none 0 0, .slice none 0 0] 65 (0, 0)) (by exact BK143.out) hb)
                have n5_ := yD (zC (by exact HB.out) hb)
                clear HO139 BK133 BK134 BK143 HB; have HO139 := n0_; have HO142 := n1_; have BK133 := n2_; have BK134 := n3_; have BK143 := n4_; have HB := n5_; clear n0_ n1_ n2_ n3_ n4_ n5_; (try clear hb); (try clear hb2); (try clear hk); (try clear hi); (try clear ho0)
                obtain ⟨Ao44, co44, eo44⟩ := Kd.R_slice HO142.out
                (first | subst eo44 | (injection eo44 with f1_ f2_ f3_; have f4_ := f1_.symm; have f5_ := f3_.symm; clear f1_ f2_ f3_; subst f4_; subst f5_))
                obtain ⟨Ao45, co45, eo45⟩ := Kd.R_slice HO139.out
                (first | subst eo45 | (injection eo45 with f1_ f2_ f3_; have f4_ := f1_.symm; have f5_ := f3_.symm; clear f1_ f2_ f3_; subst f4_; subst f5_))
                refine hK.out _ _ ⟨(yG BK133.out 0).trans rfl, (yG BK133.out 1).trans rfl⟩ (fun hHeld => ?_)
                clear hK K
                refine norm_ (a' := ?_) ?_ ?_
                rotate_left
                · show Act.put _ (some 20) _ = _
                  simp only [Act.put, zH, zI, zJ, i64_w, i32_w]
                  rfl
                refine qA 5 21 (bz 8 127) HT_ ?_
                exact norm_ (by simp only [putAll, Act.put, zH, zI, zJ]) (hCont (.slice Ao45 t137.length co45, .slice Ao44 t140.length co44, gb143) _ ⟨hHeld, (by exact zF HO139.out (fun _ hk => hk.2)), (by exact zF HO142.out (fun _ hk => hk.2)), (by exact BK133.out), (by exact BK134.out), (by exact BK143.out), GW143.out, GE143.out, NB133_143.out, NB143_133.out, NB134_143.out, NB143_134.out, (by exact HB.out)⟩)
            · skip
              refine box_step ?hg (N := 6) ?hd (cs := #[.slice none 0 0, .slice none 0 0]) (t := 65) ?hr ?_; (case hd => rfl); (case hg => rfl); (case hr => first | (go_simp; done) | (go_simp; rfl))
              intro gb143 hg w41 hbox hb
              have n0_ := yD (zB (g := gb133) (o := .cells #[.slice A0_0 l0_0.length c0_0, .slice A0_1 l0_1.length c0_1] 65 (0, 0)) (by exact BK133.out) hb)
              have n1_ := yD (zB (g := gb134) (o := .cells #[.slice none 0 0, .slice none 0 0] 65 (0, 0)) (by exact BK134.out) hb)
              have n2_ := yD (zC (by exact HB.out) hb)
              have n3_ := yD (hbox)
              have n4_ := yD ((by rw [hg]; exact (below_size (by exact HB.out)) : w.heap.size ≤ gb143))
              have n5_ := yD ((by rw [hg]; exact (below_size (by exact HB.out)) : w.heap.size ≤ gb143))
              have n6_ := yD ((by rw [hg]; exact Nat.ne_of_lt (blk_lt (g := gb133) (o := .cells #[.slice A0_0 l0_0.length c0_0, .slice A0_1 l0_1.length c0_1] 65 (0, 0)) (by exact BK133.out)) : gb133 ≠ gb143))
              have n7_ := yD ((by rw [hg]; exact Nat.ne_of_gt (blk_lt (g := gb133) (o := .cells #[.slice A0_0 l0_0.length c0_0, .slice A0_1 l0_1.length c0_1] 65 (0, 0)) (by exact BK133.out)) : gb143 ≠ gb133))
              have n8_ := yD ((by rw [hg]; exact Nat.ne_of_lt (blk_lt (g := gb134) (o := .cells #[.slice none 0 0, .slice none 0 0] 65 (0, 0)) (by exact BK134.out)) : gb134 ≠ gb143))
              have n9_ := yD ((by rw [hg]; exact Nat.ne_of_gt (blk_lt (g := gb134) (o := .cells #[.slice none 0 0, .slice none 0 0] 65 (0, 0)) (by exact BK134.out)) : gb143 ≠ gb134))
              clear BK133 BK134 HB; have BK133 := n0_; have BK134 := n1_; have HB := n2_; have BK143 := n3_; have GW143 := n4_; have GE143 := n5_; have NB133_143 := n6_; have NB143_133 := n7_; have NB134_143 := n8_; have NB143_134 := n9_; clear n0_ n1_ n2_ n3_ n4_ n5_ n6_ n7_ n8_ n9_ hb hbox hg
              refine hK.out _ _ ⟨(yG BK133.out 0).trans rfl, (yG BK133.out 1).trans rfl⟩ (fun hHeld => ?_)
              clear hK K
              refine norm_ (a' := ?_) ?_ ?_
              rotate_left
              · show Act.put _ (some 6) _ = _
                simp only [Act.put, zH, zI, zJ, i64_w, i32_w]
                rfl
              refine one_ (i := 1) (N := some 17) (bz 8 79) rfl rfl (one_of HT_.out (by kernel_rfl)) (by decide) (fun K hK => ?_)
              refine goes_ Try.func73 (by kernel_rfl) rfl #[.slice A1 l1.length c1] (by rfl) rfl rfl (by (try simp only [zK, zL, zM]); first | done | rfl | (simp only [zN, zO]; rfl)) ?_
              with_reducible refine (spec_l00Own.calls _ _ l1 t137 _ ?side1 ?side2 A18.out).mono ?_
              (case side1 => exact yY HR1.out HB.out)
              (case side2 => exact HC1.out)
              rintro e w42 ⟨v138, rfl, ho0, hb⟩
              refine ⟨_, rfl, ?_⟩
              have n0_ := yD (yZ ho0 (below_size (by exact HB.out)))
              have n1_ := yD (zB (g := gb133) (o := .cells #[.slice A0_0 l0_0.length c0_0, .slice A0_1 l0_1.length c0_1] 65 (0, 0)) (by exact BK133.out) hb)
              have n2_ := yD (zB (g := gb134) (o := .cells #[.slice none 0 0, .slice none 0 0] 65 (0, 0)) (by exact BK134.out) hb)
              have n3_ := yD (zB (g := gb143) (o := .cells #[.slice none 0 0, .slice none 0 0] 65 (0, 0)) (by exact BK143.out) hb)
              have n4_ := yD (zC (by exact HB.out) hb)
              clear BK133 BK134 BK143 HB; have HO139 := n0_; have BK133 := n1_; have BK134 := n2_; have BK143 := n3_; have HB := n4_; clear n0_ n1_ n2_ n3_ n4_; (try clear hb); (try clear hb2); (try clear hk); (try clear hi); (try clear ho0)
              refine hK.out _ _ ⟨(yG BK133.out 0).trans rfl, (yG BK133.out 1).trans rfl⟩ (fun hHeld => ?_)
              clear hK K
              refine norm_ (a' := ?_) ?_ ?_
              rotate_left
              · show Act.put _ (some 17) _ = _
                simp only [Act.put, zH, zI, zJ, i64_w, i32_w]
                rfl
              refine one_ (i := 4) (N := some 20) (bz 8 95) rfl rfl (one_of HT_.out (by kernel_rfl)) (by decide) (fun K hK => ?_)
              refine goes_ Try.func73 (by kernel_rfl) rfl #[.slice A0_1 l0_1.length c0_1] (by rfl) rfl rfl (by (try simp only [zK, zL, zM]); first | done | rfl | (simp only [zN, zO]; rfl)) ?_
              with_reducible refine (spec_l00Own.calls _ _ l0_1 t140 _ ?side1 ?side2 A19.out).mono ?_
              (case side1 => exact yY HR0_1.out HB.out)
              (case side2 => exact HC0_1.out)
              rintro e w43 ⟨v141, rfl, ho0, hb⟩
              refine ⟨_, rfl, ?_⟩
              have n0_ := yD (Kd.R_elder' (by exact HO139.out) (yH ho0) hb)
              have n1_ := yD (yZ (yJ ho0 (yK (by exact HO139.out))) (below_size (by exact HB.out)))
              have n2_ := yD (zB (g := gb133) (o := .cells #[.slice A0_0 l0_0.length c0_0, .slice A0_1 l0_1.length c0_1] 65 (0, 0)) (by exact BK133.out) hb)
              have n3_ := yD (zB (g := gb134) (o := .cells #[.slice none 0 0, .slice none 0 0] 65 (0, 0)) (by exact BK134.out) hb)
              have n4_ := yD (zB (g := gb143) (o := .cells #[.slice none 0 0, .slice none 0 0] 65 (0, 0)) (by exact BK143.out) hb)
              have n5_ := yD (zC (by exact HB.out) hb)
              clear HO139 BK133 BK134 BK143 HB; have HO139 := n0_; have HO142 := n1_; have BK133 := n2_; have BK134 := n3_; have BK143 := n4_; have HB := n5_; clear n0_ n1_ n2_ n3_ n4_ n5_; (try clear hb); (try clear hb2); (try clear hk); (try clear hi); (try clear ho0)
              obtain ⟨Ao44, co44, eo44⟩ := Kd.R_slice HO142.out
              (first | subst eo44 | (injection eo44 with f1_ f2_ f3_; have f4_ := f1_.symm; have f5_ := f3_.symm; clear f1_ f2_ f3_; subst f4_; subst f5_))
              obtain ⟨Ao45, co45, eo45⟩ := Kd.R_slice HO139.out
              (first | subst eo45 | (injection eo45 with f1_ f2_ f3_; have f4_ := f1_.symm; have f5_ := f3_.symm; clear f1_ f2_ f3_; subst f4_; subst f5_))
              refine hK.out _ _ ⟨(yG BK133.out 0).trans rfl, (yG BK133.out 1).trans rfl⟩ (fun hHeld => ?_)
              clear hK K
              refine norm_ (a' := ?_) ?_ ?_
              rotate_left
              · show Act.put _ (some 20) _ = _
                simp only [Act.put, zH, zI, zJ, i64_w, i32_w]
                rfl
              refine qA 5 21 (bz 8 127) HT_ ?_
              exact norm_ (by simp only [putAll, Act.put, zH, zI, zJ]) (hCont (.slice Ao45 t137.length co45, .slice Ao44 t140.length co44, gb143) _ ⟨hHeld, (by exact zF HO139.out (fun _ hk => hk.2)), (by exact zF HO142.out (fun _ hk => hk.2)), (by exact BK133.out), (by exact BK134.out), (by exact BK143.out), GW143.out, GE143.out, NB133_143.out, NB143_133.out, NB134_143.out, NB143_134.out, (by exact HB.out)⟩)
          rintro ⟨v138, v141, gb143⟩ w46 ⟨hS_, h0_, h1_, h2_, h3_, h4_, h5_, h6_, h7_, h8_, h9_, h10_, h11_⟩
          have n0_ : Aside0 (Kd.R (Kd.int .i64) 2 w46 w.heap.size (fun k_ => some k_ ≠ (v141 : Value).ownBlock) v138 t137) := ⟨h0_⟩
          have n1_ : Aside0 (Kd.R (Kd.int .i64) 2 w46 w.heap.size (fun k_ => some k_ ≠ (v138 : Value).ownBlock) v141 t140) := ⟨h1_⟩
          have n2_ : Aside0 (w46.heap[gb133]? = some (.cells #[.slice A0_0 l0_0.length c0_0, .slice A0_1 l0_1.length c0_1] 65 (0, 0))) := ⟨h2_⟩
          have n3_ : Aside0 (w46.heap[gb134]? = some (.cells #[.slice none 0 0, .slice none 0 0] 65 (0, 0))) := ⟨h3_⟩
          have n4_ : Aside0 (w46.heap[gb143]? = some (.cells #[.slice none 0 0, .slice none 0 0] 65 (0, 0))) := ⟨h4_⟩
          have n5_ : Aside0 (w.heap.size ≤ gb143) := ⟨h5_⟩
          have n6_ : Aside0 (w.heap.size ≤ gb143) := ⟨h6_⟩
          have n7_ : Aside0 (gb133 ≠ gb143) := ⟨h7_⟩
          have n8_ : Aside0 (gb143 ≠ gb133) := ⟨h8_⟩
          have n9_ : Aside0 (gb134 ≠ gb143) := ⟨h9_⟩
          have n10_ : Aside0 (gb143 ≠ gb134) := ⟨h10_⟩
          have n11_ : Aside0 (Below w.heap.size w w46) := ⟨h11_⟩
          clear BK133 BK134 HB h0_ h1_ h2_ h3_ h4_ h5_ h6_ h7_ h8_ h9_ h10_ h11_; have HO139 := n0_; have HO142 := n1_; have BK133 := n2_; have BK134 := n3_; have BK143 := n4_; have GW143 := n5_; have GE143 := n6_; have NB133_143 := n7_; have NB143_133 := n8_; have NB134_143 := n9_; have NB143_134 := n10_; have HB := n11_; clear n0_ n1_ n2_ n3_ n4_ n5_ n6_ n7_ n8_ n9_ n10_ n11_
          have hHeld : w46.cell? ⟨gb133, 0, none⟩ = some (.slice A0_0 l0_0.length c0_0) ∧ w46.cell? ⟨gb133, 1, none⟩ = some (.slice A0_1 l0_1.length c0_1) := hS_
          obtain ⟨Ao47, co47, eo47⟩ := Kd.R_slice HO142.out
          (first | subst eo47 | (injection eo47 with f1_ f2_ f3_; have f4_ := f1_.symm; have f5_ := f3_.symm; clear f1_ f2_ f3_; subst f4_; subst f5_))
          obtain ⟨Ao48, co48, eo48⟩ := Kd.R_slice HO139.out
          (first | subst eo48 | (injection eo48 with f1_ f2_ f3_; have f4_ := f1_.symm; have f5_ := f3_.symm; clear f1_ f2_ f3_; subst f4_; subst f5_))
          refine norm_ (a' := ?_) ?_ ?_
          rotate_left
          · simp only [putAll, Act.put, zH, zI, zJ]
            rfl
          refine one_ (i := 7) (N := none) (bz 8 255) rfl rfl (one_of HT_.out (by kernel_rfl)) (by decide) (fun K hK => ?_)
          have hs49 : w46.cell? ⟨gb143, 0, none⟩ = some (.slice none 0 0) := (yG BK143.out 0).trans rfl
          have hfs49 := yR BK143.out 0
          have hns49_0 := NB133_143.out; have hns49_1 := NB134_143.out; have hms49_0 := NB143_133.out; have hms49_1 := NB143_134.out
          have hs50 : w46.cell? ⟨gb143, 1, none⟩ = some (.slice none 0 0) := (yG BK143.out 1).trans rfl
          have hfs50 := yR BK143.out 1
          have hns50_0 := NB133_143.out; have hns50_1 := NB134_143.out; have hms50_0 := NB143_133.out; have hms50_1 := NB143_134.out
          refine skip_ (w1 := ?_) (by rfl) rfl ?_ ?_
          rotate_left
          · go_simp
            rfl
          refine hK.out _ _ ⟨((cell_far (p := ⟨gb143, _, none⟩) NB133_143.out _).trans (((cell_far (p := ⟨gb143, _, none⟩) NB133_143.out _).trans (hHeld.1)))), ((cell_far (p := ⟨gb143, _, none⟩) NB133_143.out _).trans (((cell_far (p := ⟨gb143, _, none⟩) NB133_143.out _).trans (hHeld.2))))⟩ (fun hHeld => ?_)
          clear hK K
          refine done_ (done_of HT_.out (by kernel_rfl)) ?_
          have hnb51 := NB143_133.out; have hnc51 := NB133_143.out; have hnb52 := NB143_134.out; have hnc52 := NB134_143.out
          obtain ⟨hcz53_0, hcz53_1⟩ := cz2 BK143.out
          obtain ⟨hfz53_0, hfz53_1⟩ := fz2 BK143.out
          try go_wp2_with (first | ((with_reducible refine gate_callee (f := 87) rfl ?_); refine goesL_ (some 23) rfl rfl Try.func87 (by kernel_rfl) rfl #[.agg #[.slice Ao48 t137.length co48, .slice Ao47 t140.length co47]] rfl (by (try simp only [zK, zL, zM]); first | done | rfl | (simp only [zN, zO]; rfl)) ?_; (with_reducible refine (spec_l05Space.calls kj2 _ _ t137 _ _ t140 false _ ?side1 ?side2 ?side3 ?side4 A20.out).mono ?_); (case side1 => refine (zA (e := 2) (base := w.heap.size) (ok := fun k_ => some k_ ≠ (.slice Ao47 t140.length co47 : Value).ownBlock) (n := t137.length) (c := co48) ?_).2.2; exact (by exact zF (yF (p := ⟨gb143, 1, none⟩) (yF (p := ⟨gb143, 0, none⟩) (Kd.R_types HO139.out BK143.out (by decide)) (fun _ hk => hk.2) (.slice Ao48 t137.length co48)) (fun _ hk => hk.2) (.slice Ao47 t140.length co47)) (fun _ h_ => h_.1))); (case side2 => exact (zA HO139.out).2.1); (case side3 => refine (zA (e := 2) (base := w.heap.size) (ok := fun k_ => some k_ ≠ (.slice Ao48 t137.length co48 : Value).ownBlock) (n := t140.length) (c := co47) ?_).2.2; exact (by exact zF (yF (p := ⟨gb143, 1, none⟩) (yF (p := ⟨gb143, 0, none⟩) (Kd.R_types HO142.out BK143.out (by decide)) (fun _ hk => hk.2) (.slice Ao48 t137.length co48)) (fun _ hk => hk.2) (.slice Ao47 t140.length co47)) (fun _ h_ => h_.1))); (case side4 => exact (zA HO142.out).2.1); rintro e w54 ⟨rfl, hb⟩; refine ⟨_, rfl, ?_⟩; have n0_ := yD (zE (by exact zF (yF (p := ⟨gb143, 1, none⟩) (yF (p := ⟨gb143, 0, none⟩) (Kd.R_types HO139.out BK143.out (by decide)) (fun _ hk => hk.2) (.slice Ao48 t137.length co48)) (fun _ hk => hk.2) (.slice Ao47 t140.length co47)) (fun _ h_ => h_.1)) hb); have n1_ := yD (zE (by exact zF (yF (p := ⟨gb143, 1, none⟩) (yF (p := ⟨gb143, 0, none⟩) (Kd.R_types HO142.out BK143.out (by decide)) (fun _ hk => hk.2) (.slice Ao48 t137.length co48)) (fun _ hk => hk.2) (.slice Ao47 t140.length co47)) (fun _ h_ => h_.1)) hb); have n2_ := yD (zB (g := gb133) (o := .cells #[.slice A0_0 l0_0.length c0_0, .slice A0_1 l0_1.length c0_1] 65 (0, 0)) (by (with_reducible repeat (first | refine yM ?_ _ | refine yO ?_ | refine yN ?_ _)); refine blk_far ?_ NB133_143.out _; (with_reducible repeat (first | refine yM ?_ _ | refine yO ?_ | refine yN ?_ _)); refine blk_far ?_ NB133_143.out _; (with_reducible repeat (first | refine yM ?_ _ | refine yO ?_ | refine yN ?_ _)); exact BK133.out) hb); have n3_ := yD (zB (g := gb134) (o := .cells #[.slice none 0 0, .slice none 0 0] 65 (0, 0)) (by (with_reducible repeat (first | refine yM ?_ _ | refine yO ?_ | refine yN ?_ _)); refine blk_far ?_ NB134_143.out _; (with_reducible repeat (first | refine yM ?_ _ | refine yO ?_ | refine yN ?_ _)); refine blk_far ?_ NB134_143.out _; (with_reducible repeat (first | refine yM ?_ _ | refine yO ?_ | refine yN ?_ _)); exact BK134.out) hb); have n4_ := yD (zB (g := gb143) (o := .cells #[.slice Ao48 t137.length co48, .slice Ao47 t140.length co47] 65 (0, 0)) (by (with_reducible repeat (first | refine yM ?_ _ | refine yO ?_ | refine yN ?_ _)); refine blk_put (cs := #[.slice Ao48 t137.length co48, .slice none 0 0]) ?_ 1 _ rfl; (with_reducible repeat (first | refine yM ?_ _ | refine yO ?_ | refine yN ?_ _)); refine blk_put (cs := #[.slice none 0 0, .slice none 0 0]) ?_ 0 _ rfl; (with_reducible repeat (first | refine yM ?_ _ | refine yO ?_ | refine yN ?_ _)); exact BK143.out) hb); have n5_ := yD (zC (by refine yE ?_ GE143.out; refine yE ?_ GE143.out; exact HB.out) hb); clear HO139; clear HO142; clear BK133; clear BK134; clear BK143; clear HB; have HO139 := n0_; have HO142 := n1_; have BK133 := n2_; have BK134 := n3_; have BK143 := n4_; have HB := n5_; clear n0_ n1_ n2_ n3_ n4_ n5_; (try clear hb); (try clear hb2); (try clear hk); (try clear hi); have hnb55 := NB134_133.out; have hnc55 := NB133_134.out; obtain ⟨hcz56_0, hcz56_1⟩ := cz2 BK134.out; obtain ⟨hfz56_0, hfz56_1⟩ := fz2 BK134.out))
          refine bodyPost_ret (results_ct rfl _ _ gb134 65 #[.slice none 0 0, .slice none 0 0] (0, 0) _ rfl (by (with_reducible repeat (first | refine yM ?_ _ | refine yO ?_ | refine yN ?_ _)); refine blk_put (cs := #[.slice none 0 0, .slice none 0 0]) ?_ 1 _ rfl; (with_reducible repeat (first | refine yM ?_ _ | refine yO ?_ | refine yN ?_ _)); refine blk_put (cs := #[.slice none 0 0, .slice none 0 0]) ?_ 0 _ rfl; (with_reducible repeat (first | refine yM ?_ _ | refine yO ?_ | refine yN ?_ _)); exact BK134.out) Try.underlying65 rfl (by kernel_rfl)) rfl ?_
          exact ⟨_, _, by first | rfl | (simp <;> rfl) | (simp [*] <;> rfl), by first | exact Kd.R_nil _ _ _ _ _ | exact Kd.N_nil _ _ _ _ _ | exact Kd.V_nil _ _ _ _ _ | exact Kd.Q_nil _ _ _ _ _ | exact Kd.S_nil _ _ _ _ _, by first | exact Kd.R_nil _ _ _ _ _ | exact Kd.N_nil _ _ _ _ _ | exact Kd.V_nil _ _ _ _ _ | exact Kd.Q_nil _ _ _ _ _ | exact Kd.S_nil _ _ _ _ _, by repeat (first | (with_reducible first | exact HB.out | apply yQ | apply yL | apply yP | refine yE ?_ GE133.out | refine yE ?_ GE134.out | refine yE ?_ GE143.out) | exact HB.out)⟩

/-! ### impl_within: function 60 -/
def impl_within.f (a0 : Int) (a1 : Int) (a2 : Int) : Option (Bool) := if a0 ≥ a1 then (some (decide (a0 ≤ a2))) else (some false)
set_option maxHeartbeats 8000000 in
set_option maxRecDepth 100000 in
theorem impl_within.calls (a0 : Int) (a1 : Int) (a2 : Int) (r : Bool) (w : World) (h : impl_within.f a0 a1 a2 = some r) :
    Calls Try.prog 60 #[.int .i64 a0, .int .i64 a1, .int .i64 a2] w fun e w' => e = .returned (.bool r) ∧ Drawn0 w w' := by
  have H : (if a0 ≥ a1 then (some (decide (a0 ≤ a2))) else (some false)) = some r := h
  clear h
  by_cases c4 : a0 ≥ a1
  · rw [if_pos c4] at H
    have c4b0 : decide (a1 ≤ a0) = true := zR c4; clear c4; obtain rfl := Option.some.inj H; go_enter Try.func60, Try.ntmps60
    go_wp2
    go_ret
    exact ⟨by first | rfl | (simp; done) | (simp [*]; done), by repeat (first | exact Drawn0.refl _ | apply Drawn0.step)⟩
  · rw [if_neg c4] at H
    have c4b0 : decide (a1 ≤ a0) = false := zS c4; clear c4; obtain rfl := Option.some.inj H; go_enter Try.func60, Try.ntmps60
    go_wp2
    go_ret
    exact ⟨by first | rfl | (simp; done) | (simp [*]; done), by repeat (first | exact Drawn0.refl _ | apply Drawn0.step)⟩

/-! ### impl_allWithin_1: function 130 -/
def impl_allWithin_1.f (a0 : Int) (a1_0 : Int) (a2_0 : Int) : Option (Bool) := (impl_within.f a0 a1_0 a2_0).bind fun t145 => (some (!t145))
set_option maxHeartbeats 8000000 in
set_option maxRecDepth 100000 in
theorem impl_allWithin_1.calls (a0 : Int) (g1_0 : Nat) (a1_0 : Int) (g2_0 : Nat) (a2_0 : Int) (r : Bool) (w : World) (hb1_0 : w.heap[g1_0]? = some (.cells #[.int .i64 a1_0] 2 (0, 0))) (hb2_0 : w.heap[g2_0]? = some (.cells #[.int .i64 a2_0] 2 (0, 0))) (h : impl_allWithin_1.f a0 a1_0 a2_0 = some r) :
    Calls Try.prog 130 #[.int .i64 a0, .pointer (some ⟨g1_0, 0, none⟩), .pointer (some ⟨g2_0, 0, none⟩)] w fun e w' => e = .returned (.bool r) ∧ Below w.heap.size w w' := by
  have BK48 := yD hb1_0
  clear hb1_0
  have BK56 := yD hb2_0
  clear hb2_0
  have HB := yD (Below.refl w.heap.size w)
  have H : ((impl_within.f a0 a1_0 a2_0).bind fun t145 => (some (!t145))) = some r := h
  clear h
  obtain ⟨t145, A40, H⟩ := zW_ H
  replace H : (some (!t145)) = some r := H
  have A4 := yD A40
  clear A40; obtain rfl := Option.some.inj H
  have hcz5_0 : w.cell? ⟨g1_0, 0, none⟩ = some (.int .i64 a1_0) := (yG BK48.out 0).trans rfl
  have hfz5_0 := yR BK48.out 0
  have hcz6_0 : w.cell? ⟨g2_0, 0, none⟩ = some (.int .i64 a2_0) := (yG BK56.out 0).trans rfl
  have hfz6_0 := yR BK56.out 0
  go_enter Try.func130, Try.ntmps130
  go_wp2_with (first | ((with_reducible refine gate_callee (f := 60) rfl ?_); refine goesL_ (some 8) rfl rfl Try.func60 (by kernel_rfl) rfl #[.int .i64 a0, .int .i64 a1_0, .int .i64 a2_0] rfl (by (try simp only [zK, zL, zM]); first | done | rfl | (simp only [zN, zO]; rfl)) ?_; (with_reducible refine (impl_within.calls a0 a1_0 a2_0 t145 _ A4.out).mono ?_); rintro e w' ⟨rfl, ⟨nd, rfl⟩⟩; refine ⟨_, rfl, ?_⟩))
  go_ret
  exact ⟨by first | rfl | (simp <;> rfl) | (simp [*] <;> rfl), by repeat (first | (with_reducible first | exact HB.out | apply yQ | apply yL | apply yP | refine yE ?_ GE48.out | refine yE ?_ GE56.out) | exact HB.out)⟩

/-! ### slices_IndexFunc_impl_allWithin_1: function 141 -/
def slices_IndexFunc_impl_allWithin_1.l0 : Nat → List Int → Int → Int → Int → Int → Option (Int)
  | 0, _, _, _, _, _ => none
  | k + 1, x0, x7, x8, x49000, x50000 => if x8 < x7 then (if 0 ≤ x8 then (if x8 < (x0.length : Int) then ((impl_allWithin_1.f (rd x0 x8) x49000 x50000).bind fun t147 => (if t147 = true then (some x8) else (slices_IndexFunc_impl_allWithin_1.l0 k x0 x7 (wrap64 (x8 + 1)) x49000 x50000))) else (none)) else (none)) else (some (-1))
def slices_IndexFunc_impl_allWithin_1.f (k : Nat) (l0 : List Int) (a1_0 : Int) (a1_1 : Int) : Option (Int) := slices_IndexFunc_impl_allWithin_1.l0 k l0 (l0.length : Int) 0 a1_0 a1_1
theorem slices_IndexFunc_impl_allWithin_1.mono_l : ∀ k, (∀ y0 y1 y2 y3 y4, LeO (slices_IndexFunc_impl_allWithin_1.l0 k y0 y1 y2 y3 y4) (slices_IndexFunc_impl_allWithin_1.l0 (k + 1) y0 y1 y2 y3 y4))
  | 0 => fun _ _ _ _ _ r h => by simp [slices_IndexFunc_impl_allWithin_1.l0] at h
  | k + 1 => by
    have ih0 := slices_IndexFunc_impl_allWithin_1.mono_l k
    · intro y0 y1 y2 y3 y4
      unfold slices_IndexFunc_impl_allWithin_1.l0
      repeat' first
      | (with_reducible exact ih0 _ _ _ _ _)
      | (with_reducible exact LeO.refl _)
      | (with_reducible exact LeO.none _)
      | (with_reducible refine LeO.ite ?_ ?_)
      | (with_reducible refine LeO.bind ?_ (fun _ => ?_))
      | exact ih0 _ _ _ _ _
      | exact LeO.none _
      | refine LeO.ite ?_ ?_
      | refine LeO.bind ?_ (fun _ => ?_)
theorem slices_IndexFunc_impl_allWithin_1.mono : ∀ a0 a1 a2 k, LeO (slices_IndexFunc_impl_allWithin_1.f k a0 a1 a2) (slices_IndexFunc_impl_allWithin_1.f (k + 1) a0 a1 a2) := by
  intro a0 a1 a2 k
  have ih0 := slices_IndexFunc_impl_allWithin_1.mono_l k
  unfold slices_IndexFunc_impl_allWithin_1.f
  repeat' first
      | (with_reducible exact ih0 _ _ _ _ _)
      | (with_reducible exact LeO.refl _)
      | (with_reducible exact LeO.none _)
      | (with_reducible refine LeO.ite ?_ ?_)
      | (with_reducible refine LeO.bind ?_ (fun _ => ?_))
      | exact ih0 _ _ _ _ _
      | exact LeO.none _
      | refine LeO.ite ?_ ?_
      | refine LeO.bind ?_ (fun _ => ?_)
set_option maxHeartbeats 8000000 in
set_option maxRecDepth 100000 in
theorem slices_IndexFunc_impl_allWithin_1.calls (k : Nat) (A0 : Option Addr) (c0 : Nat) (l0 : List Int) (g1_0 : Nat) (g1_1 : Nat) (a1_0 : Int) (a1_1 : Int) (r : Int) (w : World) (hr0 : Kd.C (Kd.int .i64) w A0 l0.length l0) (hc0 : l0.length ≤ c0) (hb1_0 : w.heap[g1_0]? = some (.cells #[.int .i64 a1_0] 2 (0, 0))) (hb1_1 : w.heap[g1_1]? = some (.cells #[.int .i64 a1_1] 2 (0, 0))) (h : slices_IndexFunc_impl_allWithin_1.f k l0 a1_0 a1_1 = some r) :
    Calls Try.prog 141 #[.slice A0 l0.length c0, .func (.func 130) #[] #[.pointer (some ⟨g1_0, 0, none⟩), .pointer (some ⟨g1_1, 0, none⟩)]] w fun e w' => e = .returned (.int .i64 r) ∧ Below w.heap.size w w' := by
  have HR0 := yD hr0
  have HC0 := yD hc0
  clear hr0 hc0
  have BK48 := yD hb1_0
  clear hb1_0
  have BK49 := yD hb1_1
  clear hb1_1
  have HB := yD (Below.refl w.heap.size w)
  have H : (slices_IndexFunc_impl_allWithin_1.l0 k l0 (l0.length : Int) 0 a1_0 a1_1) = some r := h
  clear h
  have H' := yD H
  clear H; go_enter Try.func141, Try.ntmps141
  go_wp2
  go_loopg [8] k (fun kq v8 w' => ∃ (x8_1 : Int), v8 = .int .i64 x8_1 ∧ Aside0 (slices_IndexFunc_impl_allWithin_1.l0 kq l0 (l0.length : Int) x8_1 a1_0 a1_1 = some r) ∧ Aside0 (kq ≤ k) ∧ Aside0 (w'.heap[g1_0]? = some (.cells #[.int .i64 a1_0] 2 (0, 0))) ∧ Aside0 (w'.heap[g1_1]? = some (.cells #[.int .i64 a1_1] 2 (0, 0))) ∧ Aside0 (Below w.heap.size w w'))
  case atStart => exact ⟨(0), (by first | rfl | (simp; done) | (simp [*]; done)), H', ⟨Nat.le_refl _⟩, ⟨by (with_reducible repeat (first | refine yM ?_ _ | refine yO ?_ | refine yN ?_ _)); exact BK48.out⟩, ⟨by (with_reducible repeat (first | refine yM ?_ _ | refine yO ?_ | refine yN ?_ _)); exact BK49.out⟩, ⟨by repeat (first | (with_reducible first | exact HB.out | apply yQ | apply yL | apply yP | refine yE ?_ GE48.out | refine yE ?_ GE49.out) | exact HB.out)⟩⟩
  case round =>
    clear H'
    try clear p2
    obtain ⟨x8_1, rfl, HA, HK1, BK48, BK49, HB⟩ := hrel
    cases gk with
    | zero => exact absurd HA.out (by simp [slices_IndexFunc_impl_allWithin_1.l0])
    | succ k1 =>
      have H := HA.out; clear HA
      simp only [slices_IndexFunc_impl_allWithin_1.l0] at H
      by_cases c3 : x8_1 < (l0.length : Int)
      · rw [if_pos c3] at H
        have c3b0 : decide (x8_1 < (l0.length : Int)) = true := zR c3; clear c3
        by_cases c4 : 0 ≤ x8_1
        · rw [if_pos c4] at H
          have c4b0 : decide (0 ≤ x8_1) = true := zR c4; clear c4
          by_cases c5 : x8_1 < (l0.length : Int)
          · rw [if_pos c5] at H
            have c5b0 : decide (x8_1 < (l0.length : Int)) = true := zR c5; clear c5
            obtain ⟨t147, A60, H⟩ := zW_ H
            replace H : (if t147 = true then (some x8_1) else (slices_IndexFunc_impl_allWithin_1.l0 k1 l0 (l0.length : Int) (wrap64 (x8_1 + 1)) a1_0 a1_1)) = some r := H
            have A6 := yD A60
            clear A60
            by_cases c7 : t147 = true
            · subst c7
              have H1 : (some x8_1) = some r := by rw [if_pos rfl] at H; exact H
              clear H; have H := H1; clear H1; obtain rfl := Option.some.inj H
              have p146 : 0 ≤ (x8_1 : Int) := zP (by assumption)
              have q146 : x8_1 < (l0.length : Int) := zP (by assumption)
              obtain ⟨ad146, e146, hx146_0⟩ := Kd.at_int HR0.out x8_1 p146 q146
              cases e146
              replace hx146_0 := (HB.out.cell (zQ w _ hx146_0)).trans hx146_0
              replace p146 := eq_true p146; replace q146 := eq_true q146
              go_wp2_with (first | (go_at_call 130; (with_reducible refine (impl_allWithin_1.calls (rd l0 x8_1) g1_0 a1_0 g1_1 a1_1 true _ ?side1 ?side2 A6.out).mono ?_); (case side1 => (with_reducible repeat (first | refine yM ?_ _ | refine yO ?_ | refine yN ?_ _)); exact BK48.out); (case side2 => (with_reducible repeat (first | refine yM ?_ _ | refine yO ?_ | refine yN ?_ _)); exact BK49.out); rintro e w8 ⟨rfl, hb⟩; have n0_ := yD (zB (g := g1_0) (o := .cells #[.int .i64 a1_0] 2 (0, 0)) (by exact BK48.out) hb); have n1_ := yD (zB (g := g1_1) (o := .cells #[.int .i64 a1_1] 2 (0, 0)) (by exact BK49.out) hb); have n2_ := yD (zC (by exact HB.out) hb); clear BK48; clear BK49; clear HB; have BK48 := n0_; have BK49 := n1_; have HB := n2_; clear n0_ n1_ n2_; (try clear hb); (try clear hb2); (try clear hk); (try clear hi)))
              go_ret
              exact ⟨by first | rfl | (simp <;> rfl) | (simp [*] <;> rfl), by repeat (first | (with_reducible first | exact HB.out | apply yQ | apply yL | apply yP | refine yE ?_ GE48.out | refine yE ?_ GE49.out) | exact HB.out)⟩
            · replace c7 := Bool.eq_false_iff.mpr c7
              subst c7
              have H1 : (slices_IndexFunc_impl_allWithin_1.l0 k1 l0 (l0.length : Int) (wrap64 (x8_1 + 1)) a1_0 a1_1) = some r := by rw [if_neg (show ¬ (false = true) by decide)] at H; exact H
              clear H; have H := H1; clear H1
              have H' := yD H
              clear H
              have p146 : 0 ≤ (x8_1 : Int) := zP (by assumption)
              have q146 : x8_1 < (l0.length : Int) := zP (by assumption)
              obtain ⟨ad146, e146, hx146_0⟩ := Kd.at_int HR0.out x8_1 p146 q146
              cases e146
              replace hx146_0 := (HB.out.cell (zQ w _ hx146_0)).trans hx146_0
              replace p146 := eq_true p146; replace q146 := eq_true q146
              go_wp2_with (first | (go_at_call 130; (with_reducible refine (impl_allWithin_1.calls (rd l0 x8_1) g1_0 a1_0 g1_1 a1_1 false _ ?side1 ?side2 A6.out).mono ?_); (case side1 => (with_reducible repeat (first | refine yM ?_ _ | refine yO ?_ | refine yN ?_ _)); exact BK48.out); (case side2 => (with_reducible repeat (first | refine yM ?_ _ | refine yO ?_ | refine yN ?_ _)); exact BK49.out); rintro e w9 ⟨rfl, hb⟩; have n0_ := yD (zB (g := g1_0) (o := .cells #[.int .i64 a1_0] 2 (0, 0)) (by exact BK48.out) hb); have n1_ := yD (zB (g := g1_1) (o := .cells #[.int .i64 a1_1] 2 (0, 0)) (by exact BK49.out) hb); have n2_ := yD (zC (by exact HB.out) hb); clear BK48; clear BK49; clear HB; have BK48 := n0_; have BK49 := n1_; have HB := n2_; clear n0_ n1_ n2_; (try clear hb); (try clear hb2); (try clear hk); (try clear hi)))
              go_roundg k1
              case measure => have := HK1.out; omega
              case rel => exact ⟨(wrap64 (x8_1 + 1)), (by first | rfl | (simp; done) | (simp [*]; done)), H', ⟨by have := HK1.out; omega⟩, ⟨by (with_reducible repeat (first | refine yM ?_ _ | refine yO ?_ | refine yN ?_ _)); exact BK48.out⟩, ⟨by (with_reducible repeat (first | refine yM ?_ _ | refine yO ?_ | refine yN ?_ _)); exact BK49.out⟩, ⟨by repeat (first | (with_reducible first | exact HB.out | apply yQ | apply yL | apply yP | refine yE ?_ GE48.out | refine yE ?_ GE49.out) | exact HB.out)⟩⟩
          · rw [if_neg c5] at H
            exact absurd H (by simp)
        · rw [if_neg c4] at H
          exact absurd H (by simp)
      · rw [if_neg c3] at H
        have c3b0 : decide (x8_1 < (l0.length : Int)) = false := zS c3; clear c3; obtain rfl := Option.some.inj H
        go_wp2
        go_ret
        exact ⟨by first | rfl | (simp <;> rfl) | (simp [*] <;> rfl), by repeat (first | (with_reducible first | exact HB.out | apply yQ | apply yL | apply yP | refine yE ?_ GE48.out | refine yE ?_ GE49.out) | exact HB.out)⟩

end Go.Proofs.Ytehldidejgpifaa.PFnExactResizeSpace
