/- Each Go function here comes to what the plain function of its name says, where that says something. Made by a program of this session, over the print. -/
import Derived.Test.YtfblodggimjoaaaPFnExactMergePagesx0
import Derived.Test.YtfblodggimjoaaaPFnExactMergePagesx2
namespace Go.Proofs.Ytfblodggimjoaaa.PFnExactMergePages
open Go.RowKit Go.Proofs.YtfblodggimjoaaaW.PrintWords Go.Proofs.YtfblodggimjoaaaW.PrintLast Go.Proofs.YtfblodggimjoaaaW.PrintMore
attribute [local go_sem] max2_int min2_int max_two min_two max_three min_three max_four min_four   -- for this text's walks alone
set_option linter.unusedVariables false
set_option linter.unusedSimpArgs false

/-! ### spec_l11Merge: function 50 -/
mutual
def spec_l11Merge.l0 : Nat → List (S79) → List (S79) → List (S79) → Int → Int → Option ((List (S79)))
 | 0, _, _, _, _, _ => none
 | k + 1, x0, x1, x5, x6, x7 => if x6 < (x0.length : Int) then (spec_l11Merge.j1 k x0 x1 x5 x6 x7 true) else (spec_l11Merge.j1 k x0 x1 x5 x6 x7 (decide (x7 < (x1.length : Int))))
def spec_l11Merge.j1 : Nat → List (S79) → List (S79) → List (S79) → Int → Int → Bool → Option ((List (S79)))
 | 0, _, _, _, _, _, _ => none
 | k + 1, x0, x1, x5, x6, x7, x18 => if x18 = true then (if x7 = (x1.length : Int) then (spec_l11Merge.j2 k x0 x1 x5 x6 x7 true) else (if x6 < (x0.length : Int) then (if 0 ≤ x6 then (if 0 ≤ x7 then (if x7 < (x1.length : Int) then (spec_l11Merge.j2 k x0 x1 x5 x6 x7 (decide (((rd_T79 x0 x6).f0) < ((rd_T79 x1 x7).f0)))) else (none)) else (none)) else (none)) else (spec_l11Merge.j2 k x0 x1 x5 x6 x7 false))) else (some x5)
def spec_l11Merge.j2 : Nat → List (S79) → List (S79) → List (S79) → Int → Int → Bool → Option ((List (S79)))
 | 0, _, _, _, _, _, _ => none
 | k + 1, x0, x1, x5, x6, x7, x47 => if x47 = true then (if 0 ≤ x6 then (if x6 < (x0.length : Int) then (if x5.length < 5864062014805 then (spec_l11Merge.l0 k x0 x1 (x5 ++ [(⟨(rd_T79 x0 x6).f0, (rd_T79 x0 x6).f1⟩ : S79)]) (wrap64 (x6 + 1)) x7) else (none)) else (none)) else (none)) else (if x6 < (x0.length : Int) then (if 0 ≤ x6 then (if 0 ≤ x7 then (if x7 < (x1.length : Int) then (if ((rd_T79 x0 x6).f0) = ((rd_T79 x1 x7).f0) then (if x5.length < 5864062014805 then (spec_l11Merge.l0 k x0 x1 (x5 ++ [(⟨(rd_T79 x1 x7).f0, (rd_T79 x1 x7).f1⟩ : S79)]) (wrap64 (x6 + 1)) (wrap64 (x7 + 1))) else (none)) else (if x5.length < 5864062014805 then (spec_l11Merge.l0 k x0 x1 (x5 ++ [(⟨(rd_T79 x1 x7).f0, (rd_T79 x1 x7).f1⟩ : S79)]) x6 (wrap64 (x7 + 1))) else (none))) else (none)) else (none)) else (none)) else (if 0 ≤ x7 then (if x7 < (x1.length : Int) then (if x5.length < 5864062014805 then (spec_l11Merge.l0 k x0 x1 (x5 ++ [(⟨(rd_T79 x1 x7).f0, (rd_T79 x1 x7).f1⟩ : S79)]) x6 (wrap64 (x7 + 1))) else (none)) else (none)) else (none)))
end
def spec_l11Merge.f (k : Nat) (l0 : List (S79)) (l1 : List (S79)) : Option ((List (S79))) := spec_l11Merge.l0 k l0 l1 (([] : List (S79))) 0 0
theorem spec_l11Merge.mono_l : ∀ k, (∀ y0 y1 y2 y3 y4, LeO (spec_l11Merge.l0 k y0 y1 y2 y3 y4) (spec_l11Merge.l0 (k + 1) y0 y1 y2 y3 y4)) ∧ (∀ y0 y1 y2 y3 y4 y5, LeO (spec_l11Merge.j1 k y0 y1 y2 y3 y4 y5) (spec_l11Merge.j1 (k + 1) y0 y1 y2 y3 y4 y5)) ∧ (∀ y0 y1 y2 y3 y4 y5, LeO (spec_l11Merge.j2 k y0 y1 y2 y3 y4 y5) (spec_l11Merge.j2 (k + 1) y0 y1 y2 y3 y4 y5))
 | 0 => ⟨fun _ _ _ _ _ r h => by simp [spec_l11Merge.l0] at h, fun _ _ _ _ _ _ r h => by simp [spec_l11Merge.j1] at h, fun _ _ _ _ _ _ r h => by simp [spec_l11Merge.j2] at h⟩
 | k + 1 => by
  obtain ⟨ih0, ih1, ih2⟩ := spec_l11Merge.mono_l k
  refine ⟨?_, ?_, ?_⟩
  · intro y0 y1 y2 y3 y4
    unfold spec_l11Merge.l0
    repeat' (with_reducible first | exact ih0 _ _ _ _ _ | exact ih1 _ _ _ _ _ _ | exact ih2 _ _ _ _ _ _ | exact LeO.refl _ | exact LeO.none _ | refine LeO.ite ?_ ?_ | refine LeO.bind ?_ (fun _ => ?_))
  · intro y0 y1 y2 y3 y4 y5
    unfold spec_l11Merge.j1
    repeat' (with_reducible first | exact ih0 _ _ _ _ _ | exact ih1 _ _ _ _ _ _ | exact ih2 _ _ _ _ _ _ | exact LeO.refl _ | exact LeO.none _ | refine LeO.ite ?_ ?_ | refine LeO.bind ?_ (fun _ => ?_))
  · intro y0 y1 y2 y3 y4 y5
    unfold spec_l11Merge.j2
    repeat' (with_reducible first | exact ih0 _ _ _ _ _ | exact ih1 _ _ _ _ _ _ | exact ih2 _ _ _ _ _ _ | exact LeO.refl _ | exact LeO.none _ | refine LeO.ite ?_ ?_ | refine LeO.bind ?_ (fun _ => ?_))
theorem spec_l11Merge.mono : ∀ a0 a1 k, LeO (spec_l11Merge.f k a0 a1) (spec_l11Merge.f (k + 1) a0 a1) := by
 intro a0 a1 k
 obtain ⟨ih0, ih1, ih2⟩ := spec_l11Merge.mono_l k
 unfold spec_l11Merge.f
 repeat' (with_reducible first | exact ih0 _ _ _ _ _ | exact ih1 _ _ _ _ _ _ | exact ih2 _ _ _ _ _ _ | exact LeO.refl _ | exact LeO.none _ | refine LeO.ite ?_ ?_ | refine LeO.bind ?_ (fun _ => ?_))
set_option maxHeartbeats 8000000 in
set_option maxRecDepth 100000 in
theorem spec_l11Merge.calls (k : Nat) (A0 : Option Addr) (c0 : Nat) (l0 : List (S79)) (A1 : Option Addr) (c1 : Nat) (l1 : List (S79)) (r : List (S79)) (w : World) (hr0 : Kd.C k79 w A0 l0.length l0) (hc0 : l0.length ≤ c0) (hr1 : Kd.C k79 w A1 l1.length l1) (hc1 : l1.length ≤ c1) (h : spec_l11Merge.f k l0 l1 = some r) :
 Calls Try.prog 50 #[.slice A0 l0.length c0, .slice A1 l1.length c1] w fun e w' => ∃ v0_ : Value, e = .returned (v0_) ∧ Kd.R k79 79 w' w.heap.size (fun _ => True) v0_ r ∧ Below w.heap.size w w' := by
 have hu79 := Try.underlying79
 have HR0 := yD hr0
 have HC0 := yD hc0
 clear hr0 hc0
 have HR1 := yD hr1
 have HC1 := yD hc1
 clear hr1 hc1
 have HB := yD (Below.refl w.heap.size w)
 have H : (spec_l11Merge.l0 k l0 l1 (([] : List (S79))) 0 0) = some r := h
 clear h
 obtain ⟨y119, hy119⟩ : ∃ y_ : List (S79), y_ = (([] : List (S79))) := ⟨_, rfl⟩
 replace H : (spec_l11Merge.l0 k l0 l1 y119 0 0) = some r := by first | (rw [hy119]; with_reducible exact H) | (have H2_ := (Option.bind_some _ _).symm.trans H; rw [hy119]; with_reducible exact H2_) | (have H2_ := (Option.bind_some _ _).symm.trans H; with_reducible exact H2_) | with_reducible exact H | (rw [hy119]; exact H) | exact H
 have Ny119 := yD hy119
 clear hy119
 have H' := yD H
 clear H; go_enter Try.func50, Try.ntmps50
 go_wp2_with (first | ((with_reducible refine gate_dst (N := 8) rfl ?_); (try (refine gate_guard (by rfl) ?_; dsimp only)); refine Kd.R_lit k79 _ 79 ?hg (N := 8) ?hd (xs := ([] : List (S79))) (inner := []) (ok := fun _ => True) (okp := fun _ => True) ?hr ?hp (fun _ hk => hk) trivial (Below.refl _ _) (Nat.le_refl _) (by simp) ?_; (case hd => rfl); (case hg => rfl); (case hr => first | (go_simp; done) | (go_simp; rfl)); (case hp => exact (Reps.none _ _)); intro v120 w3 ho4 hb hg_ hnew_; clear hg_ hnew_; (first | rw [← Ny119.out] at ho4 | (simp only [Int.reduceToNat] at ho4; rw [← Ny119.out] at ho4)); have HO121 := yD (yZ ho4 (below_size (kB HB))); replace HB := yD (zC (kB HB) hb); clear hb ho4))
 repeat (go_quiet (first | ((with_reducible refine gate_dst (N := 8) rfl ?_); (try (refine gate_guard (by rfl) ?_; dsimp only)); refine Kd.R_lit k79 _ 79 ?hg (N := 8) ?hd (xs := ([] : List (S79))) (inner := []) (ok := fun _ => True) (okp := fun _ => True) ?hr ?hp (fun _ hk => hk) trivial (Below.refl _ _) (Nat.le_refl _) (by simp) ?_; (case hd => rfl); (case hg => rfl); (case hr => first | (go_simp; done) | (go_simp; rfl)); (case hp => exact (Reps.none _ _)); intro v120 w3 ho4 hb hg_ hnew_; clear hg_ hnew_; (first | rw [← Ny119.out] at ho4 | (simp only [Int.reduceToNat] at ho4; rw [← Ny119.out] at ho4)); have HO121 := yD (yZ ho4 (below_size (kB HB))); replace HB := yD (zC (kB HB) hb); clear hb ho4)); try go_wp2_with (first | ((with_reducible refine gate_dst (N := 8) rfl ?_); (try (refine gate_guard (by rfl) ?_; dsimp only)); refine Kd.R_lit k79 _ 79 ?hg (N := 8) ?hd (xs := ([] : List (S79))) (inner := []) (ok := fun _ => True) (okp := fun _ => True) ?hr ?hp (fun _ hk => hk) trivial (Below.refl _ _) (Nat.le_refl _) (by simp) ?_; (case hd => rfl); (case hg => rfl); (case hr => first | (go_simp; done) | (go_simp; rfl)); (case hp => exact (Reps.none _ _)); intro v120 w3 ho4 hb hg_ hnew_; clear hg_ hnew_; (first | rw [← Ny119.out] at ho4 | (simp only [Int.reduceToNat] at ho4; rw [← Ny119.out] at ho4)); have HO121 := yD (yZ ho4 (below_size (kB HB))); replace HB := yD (zC (kB HB) hb); clear hb ho4)))
 go_loopg [5, 6, 7] k (fun kq v5 v6 v7 w' => ∃ (x5_1 : List (S79)) (x6_1 : Int) (x7_1 : Int), v6 = .int .i64 x6_1 ∧ v7 = .int .i64 x7_1 ∧ Aside0 (spec_l11Merge.l0 kq l0 l1 x5_1 x6_1 x7_1 = some r) ∧ Aside0 (kq ≤ k) ∧ Aside0 (Kd.R k79 79 w' w.heap.size (fun _ => True) v5 x5_1) ∧ Aside0 (Below w.heap.size w w'))
 case atStart => exact ⟨(y119), (0), (0), (by first | rfl | (simp; done) | (simp [*]; done)), (by first | rfl | (simp; done) | (simp [*]; done)), H', ⟨Nat.le_refl _⟩, ⟨kA HO121⟩, ⟨kR1 HB⟩⟩
 case round =>
  clear H'
  try clear c1
  obtain ⟨x5_1, x6_1, x7_1, rfl, rfl, HA, HK1, HO_5, HB⟩ := hrel
  cases gk with
  | zero => exact absurd HA.out (by simp [spec_l11Merge.l0])
  | succ k1 =>
   have H := HA.out; clear HA
   simp only [spec_l11Merge.l0] at H
   have HC5 := yD H
   clear H
   go_upto_region 4 with (fail)
   repeat (go_quiet (fail); go_upto_region 4 with (fail))
   go_cut [18] (fun v18 wc => ∃ (kq : Nat) (x18_4 : Bool), v18 = .bool x18_4 ∧ Aside0 (spec_l11Merge.j1 kq l0 l1 x5_1 x6_1 x7_1 x18_4 = some r) ∧ Aside0 (kq ≤ k1) ∧ Aside0 (Kd.R k79 79 wc w.heap.size (fun _ => True) u5 x5_1) ∧ Aside0 (Below w.heap.size w wc))
   case first =>
    have H := HC5.out; clear HC5
    by_cases c6 : x6_1 < (l0.length : Int)
    ·
     rw [if_pos c6] at H
     have c6b0 : decide (x6_1 < (l0.length : Int)) = true := zR c6; clear c6
     (first | rw [c6b0] | (simp only [i64_w, i32_w]; rw [c6b0]) | (simp only [bne] at c6b0; rw [c6b0]) | skip)
     have H' := yD H
     clear H
     go_wp2
     repeat (go_quiet (fail); try go_wp2)
     go_meet
     case rel => exact ⟨_, (true), (by first | rfl | (simp; done) | (simp [*]; done)), H', ⟨by have := HK1.out; first | omega | exact Nat.le_refl _⟩, ⟨kA HO_5⟩, ⟨kR1 HB⟩⟩
    ·
     rw [if_neg c6] at H
     have c6b0 : decide (x6_1 < (l0.length : Int)) = false := zS c6; clear c6
     (first | rw [c6b0] | (simp only [i64_w, i32_w]; rw [c6b0]) | (simp only [bne] at c6b0; rw [c6b0]) | skip)
     have H' := yD H
     clear H
     go_wp2
     repeat (go_quiet (fail); try go_wp2)
     go_meet
     case rel => exact ⟨_, (decide (x7_1 < (l1.length : Int))), (by first | rfl | (simp; done) | (simp [*]; done)), H', ⟨by have := HK1.out; first | omega | exact Nat.le_refl _⟩, ⟨kA HO_5⟩, ⟨kR1 HB⟩⟩
   case rest =>
    clear HC5; try clear c1; try clear c6; try clear c6b0
    obtain ⟨kq, x18_4, rfl, HA, HJ4, HO_5, HB⟩ := hcut
    cases kq with
    | zero => exact absurd HA.out (by simp [spec_l11Merge.j1])
    | succ kj4 =>
     have H := HA.out; clear HA
     simp only [spec_l11Merge.j1] at H
     by_cases c7 : x18_4 = true
     ·
      subst c7
      replace H : (if x7_1 = (l1.length : Int) then (spec_l11Merge.j2 kj4 l0 l1 x5_1 x6_1 x7_1 true) else (if x6_1 < (l0.length : Int) then (if 0 ≤ x6_1 then (if 0 ≤ x7_1 then (if x7_1 < (l1.length : Int) then (spec_l11Merge.j2 kj4 l0 l1 x5_1 x6_1 x7_1 (decide (((rd_T79 l0 x6_1).f0) < ((rd_T79 l1 x7_1).f0)))) else (none)) else (none)) else (none)) else (spec_l11Merge.j2 kj4 l0 l1 x5_1 x6_1 x7_1 false))) = some r := (by rw [if_pos rfl] at H; exact H)
      have HC8 := yD H
      clear H
      go_upto_region 9 with (fail)
      repeat (go_quiet (fail); go_upto_region 9 with (fail))
      go_cut [47] (fun v47 wc => ∃ (kq : Nat) (x47_7 : Bool), v47 = .bool x47_7 ∧ Aside0 (spec_l11Merge.j2 kq l0 l1 x5_1 x6_1 x7_1 x47_7 = some r) ∧ Aside0 (kq ≤ kj4) ∧ Aside0 (Kd.R k79 79 wc w.heap.size (fun _ => True) u5 x5_1) ∧ Aside0 (Below w.heap.size w wc))
      case first =>
       have H := HC8.out; clear HC8
       by_cases c9 : x7_1 = (l1.length : Int)
       · rw [if_pos c9] at H
         have c9b0 : (x7_1 == (l1.length : Int)) = true := beq_iff_eq.mpr c9
         have c9b1 : (x7_1 != (l1.length : Int)) = false := bne_eq_false_iff_eq.mpr c9
         clear c9
         (first | rw [c9b0] | (simp only [i64_w, i32_w]; rw [c9b0]) | (simp only [bne] at c9b0; rw [c9b0]) | skip)
         have H' := yD H
         clear H
         go_wp2
         repeat (go_quiet (fail); try go_wp2)
         go_meet
         case rel => exact ⟨_, (true), (by first | rfl | (simp; done) | (simp [*]; done)), H', ⟨by have := HK1.out; have := HJ4.out; first | omega | exact Nat.le_refl _⟩, ⟨kA HO_5⟩, ⟨kR1 HB⟩⟩
       ·
        rw [if_neg c9] at H
        have c9b0 : (x7_1 == (l1.length : Int)) = false := beq_eq_false_iff_ne.mpr c9
        have c9b1 : (x7_1 != (l1.length : Int)) = true := bne_iff_ne.mpr c9
        (first | rw [c9b0] | (simp only [i64_w, i32_w]; rw [c9b0]) | (simp only [bne] at c9b0; rw [c9b0]) | skip)
        by_cases c10 : x6_1 < (l0.length : Int)
        ·
         rw [if_pos c10] at H
         have c10b0 : decide (x6_1 < (l0.length : Int)) = true := zR c10; clear c10
         by_cases c11 : 0 ≤ x6_1
         ·
          rw [if_pos c11] at H
          have c11b0 : decide (0 ≤ x6_1) = true := zR c11; clear c11
          by_cases c12 : 0 ≤ x7_1
          ·
           rw [if_pos c12] at H
           have c12b0 : decide (0 ≤ x7_1) = true := zR c12; clear c12
           by_cases c13 : x7_1 < (l1.length : Int)
           ·
            rw [if_pos c13] at H
            have c13b0 : decide (x7_1 < (l1.length : Int)) = true := zR c13; clear c13
            have H' := yD H
            clear H
            have p122 : 0 ≤ (x6_1 : Int) := zP (by assumption)
            have q122 : x6_1 < (l0.length : Int) := zP (by assumption)
            obtain ⟨ad122, e122, hx122_0, hx122_1⟩ := at_T79 HR0.out x6_1 p122 q122
            cases e122
            replace hx122_0 := (HB.out.cell (zQ w _ hx122_0)).trans hx122_0
            replace hx122_1 := (HB.out.cell (zQ w _ hx122_1)).trans hx122_1
            replace p122 := eq_true p122; replace q122 := eq_true q122
            have p123 : 0 ≤ (x7_1 : Int) := zP (by assumption)
            have q123 : x7_1 < (l1.length : Int) := zP (by assumption)
            obtain ⟨ad123, e123, hx123_0, hx123_1⟩ := at_T79 HR1.out x7_1 p123 q123
            cases e123
            replace hx123_0 := (HB.out.cell (zQ w _ hx123_0)).trans hx123_0
            replace hx123_1 := (HB.out.cell (zQ w _ hx123_1)).trans hx123_1
            replace p123 := eq_true p123; replace q123 := eq_true q123
            go_wp2
            repeat (go_quiet (fail); try go_wp2)
            go_meet
            case rel => exact ⟨_, (decide (((rd_T79 l0 x6_1).f0) < ((rd_T79 l1 x7_1).f0))), (by first | rfl | (simp; done) | (simp [*]; done)), H', ⟨by have := HK1.out; have := HJ4.out; first | omega | exact Nat.le_refl _⟩, ⟨kA HO_5⟩, ⟨kR1 HB⟩⟩
           · rw [if_neg c13] at H
             exact absurd H (by simp)
          · rw [if_neg c12] at H
            exact absurd H (by simp)
         · rw [if_neg c11] at H
           exact absurd H (by simp)
        · rw [if_neg c10] at H
          have c10b0 : decide (x6_1 < (l0.length : Int)) = false := zS c10; clear c10
          have H' := yD H
          clear H
          go_wp2
          repeat (go_quiet (fail); try go_wp2)
          go_meet
          case rel => exact ⟨_, (false), (by first | rfl | (simp; done) | (simp [*]; done)), H', ⟨by have := HK1.out; have := HJ4.out; first | omega | exact Nat.le_refl _⟩, ⟨kA HO_5⟩, ⟨kR1 HB⟩⟩
      case rest =>
       clear HC8; try clear c1; try clear c6; try clear c6b0; try clear c7; try clear c9; try clear c9b0; try clear c9b1; try clear c10; try clear c10b0; try clear c11; try clear c11b0; try clear c12; try clear c12b0; try clear c13; try clear c13b0; try clear hx122_0; try clear hx122_1; try clear hx123_0; try clear hx123_1; try clear p122; try clear p123; try clear q122; try clear q123
       obtain ⟨kq, x47_7, rfl, HA, HJ7, HO_5, HB⟩ := hcut
       cases kq with
       | zero => exact absurd HA.out (by simp [spec_l11Merge.j2])
       | succ kj7 =>
        have H := HA.out; clear HA
        simp only [spec_l11Merge.j2] at H
        by_cases c14 : x47_7 = true
        ·
         subst c14
         replace H : (if 0 ≤ x6_1 then (if x6_1 < (l0.length : Int) then (if x5_1.length < 5864062014805 then (spec_l11Merge.l0 kj7 l0 l1 (x5_1 ++ [(⟨(rd_T79 l0 x6_1).f0, (rd_T79 l0 x6_1).f1⟩ : S79)]) (wrap64 (x6_1 + 1)) x7_1) else (none)) else (none)) else (none)) = some r := (by rw [if_pos rfl] at H; exact H)
         by_cases c15 : 0 ≤ x6_1
         ·
          rw [if_pos c15] at H
          have c15b0 : decide (0 ≤ x6_1) = true := zR c15; clear c15
          by_cases c16 : x6_1 < (l0.length : Int)
          ·
           rw [if_pos c16] at H
           have c16b0 : decide (x6_1 < (l0.length : Int)) = true := zR c16; clear c16
           by_cases c17 : x5_1.length < 5864062014805
           ·
            rw [if_pos c17] at H
            have LMc17 := yD c17
            clear c17
            obtain ⟨y125, hy125⟩ : ∃ y_ : List (S79), y_ = (x5_1 ++ [(⟨(rd_T79 l0 x6_1).f0, (rd_T79 l0 x6_1).f1⟩ : S79)]) := ⟨_, rfl⟩
            replace H : (spec_l11Merge.l0 kj7 l0 l1 y125 (wrap64 (x6_1 + 1)) x7_1) = some r := by first | (rw [hy125]; with_reducible exact H) | (have H2_ := (Option.bind_some _ _).symm.trans H; rw [hy125]; with_reducible exact H2_) | (have H2_ := (Option.bind_some _ _).symm.trans H; with_reducible exact H2_) | with_reducible exact H | (rw [hy125]; exact H) | exact H
            have Ny125 := yD hy125
            clear hy125
            have H' := yD H
            clear H
            have p124 : 0 ≤ (x6_1 : Int) := zP (by assumption)
            have q124 : x6_1 < (l0.length : Int) := zP (by assumption)
            obtain ⟨ad124, e124, hx124_0, hx124_1⟩ := at_T79 HR0.out x6_1 p124 q124
            cases e124
            replace hx124_0 := (HB.out.cell (zQ w _ hx124_0)).trans hx124_0
            replace hx124_1 := (HB.out.cell (zQ w _ hx124_1)).trans hx124_1
            replace p124 := eq_true p124; replace q124 := eq_true q124
            go_wp2_with (first | ((with_reducible refine gate_builtin (b := .append) (xs := #[.tmp 71, .tmp 76]) rfl ?_); (try (refine gate_guard (by rfl) ?_; dsimp only)); at_builtin; refine Kd.R_append k79 (w0 := w) w.heap.size rfl (.tmp 71) (.tmp 76) 38 79 (.agg #[(.int .i64 0), (.string ⟨#[]⟩)]) 24 rfl Try.underlying38 info79 rfl (by decide) (by omega) u5 x5_1 (⟨(rd_T79 l0 x6_1).f0, (rd_T79 l0 x6_1).f1⟩ : S79) [.int .i64 ((rd_T79 l0 x6_1).f0), .string ((rd_T79 l0 x6_1).f1)] (fun _ => True) (fun _ => False) rfl rfl ?aP (fun _ hk => hk.elim) ?aF ?aO ?aB ?aS ?aL ?_; (case aP => exact k79_mkM _ _ _ (⟨(rd_T79 l0 x6_1).f0, (rd_T79 l0 x6_1).f1⟩ : S79)); (case aB => exact (kB HB)); (case aF => exact (fun _ _ => trivial)); (case aO => exact (kA HO_5)); (case aS => exact (below_size (kB HB))); (case aL => have := LMc17.out; omega); intro v126 w18 ho hb hg hat; rw [← Ny125.out] at ho; replace HB := yD (hb); have HO127 := yD (ho); clear HO_5; clear ho hb hg hat))
            repeat (go_quiet (first | ((with_reducible refine gate_builtin (b := .append) (xs := #[.tmp 71, .tmp 76]) rfl ?_); (try (refine gate_guard (by rfl) ?_; dsimp only)); at_builtin; refine Kd.R_append k79 (w0 := w) w.heap.size rfl (.tmp 71) (.tmp 76) 38 79 (.agg #[(.int .i64 0), (.string ⟨#[]⟩)]) 24 rfl Try.underlying38 info79 rfl (by decide) (by omega) u5 x5_1 (⟨(rd_T79 l0 x6_1).f0, (rd_T79 l0 x6_1).f1⟩ : S79) [.int .i64 ((rd_T79 l0 x6_1).f0), .string ((rd_T79 l0 x6_1).f1)] (fun _ => True) (fun _ => False) rfl rfl ?aP (fun _ hk => hk.elim) ?aF ?aO ?aB ?aS ?aL ?_; (case aP => exact k79_mkM _ _ _ (⟨(rd_T79 l0 x6_1).f0, (rd_T79 l0 x6_1).f1⟩ : S79)); (case aB => exact (kB HB)); (case aF => exact (fun _ _ => trivial)); (case aO => exact (kA HO_5)); (case aS => exact (below_size (kB HB))); (case aL => have := LMc17.out; omega); intro v126 w18 ho hb hg hat; rw [← Ny125.out] at ho; replace HB := yD (hb); have HO127 := yD (ho); clear HO_5; clear ho hb hg hat)); try go_wp2_with (first | ((with_reducible refine gate_builtin (b := .append) (xs := #[.tmp 71, .tmp 76]) rfl ?_); (try (refine gate_guard (by rfl) ?_; dsimp only)); at_builtin; refine Kd.R_append k79 (w0 := w) w.heap.size rfl (.tmp 71) (.tmp 76) 38 79 (.agg #[(.int .i64 0), (.string ⟨#[]⟩)]) 24 rfl Try.underlying38 info79 rfl (by decide) (by omega) u5 x5_1 (⟨(rd_T79 l0 x6_1).f0, (rd_T79 l0 x6_1).f1⟩ : S79) [.int .i64 ((rd_T79 l0 x6_1).f0), .string ((rd_T79 l0 x6_1).f1)] (fun _ => True) (fun _ => False) rfl rfl ?aP (fun _ hk => hk.elim) ?aF ?aO ?aB ?aS ?aL ?_; (case aP => exact k79_mkM _ _ _ (⟨(rd_T79 l0 x6_1).f0, (rd_T79 l0 x6_1).f1⟩ : S79)); (case aB => exact (kB HB)); (case aF => exact (fun _ _ => trivial)); (case aO => exact (kA HO_5)); (case aS => exact (below_size (kB HB))); (case aL => have := LMc17.out; omega); intro v126 w18 ho hb hg hat; rw [← Ny125.out] at ho; replace HB := yD (hb); have HO127 := yD (ho); clear HO_5; clear ho hb hg hat)))
            go_roundg kj7
            case measure => have := HK1.out; have := HJ4.out; have := HJ7.out; omega
            case rel => exact ⟨(y125), (wrap64 (x6_1 + 1)), (x7_1), (by first | rfl | (simp; done) | (simp [*]; done)), (by first | rfl | (simp; done) | (simp [*]; done)), H', ⟨by have := HK1.out; have := HJ4.out; have := HJ7.out; omega⟩, ⟨kA HO127⟩, ⟨kR1 HB⟩⟩
           · rw [if_neg c17] at H
             exact absurd H (by simp)
          · rw [if_neg c16] at H
            exact absurd H (by simp)
         · rw [if_neg c15] at H
           exact absurd H (by simp)
        ·
         replace c14 := Bool.eq_false_iff.mpr c14
         subst c14
         replace H : (if x6_1 < (l0.length : Int) then (if 0 ≤ x6_1 then (if 0 ≤ x7_1 then (if x7_1 < (l1.length : Int) then (if ((rd_T79 l0 x6_1).f0) = ((rd_T79 l1 x7_1).f0) then (if x5_1.length < 5864062014805 then (spec_l11Merge.l0 kj7 l0 l1 (x5_1 ++ [(⟨(rd_T79 l1 x7_1).f0, (rd_T79 l1 x7_1).f1⟩ : S79)]) (wrap64 (x6_1 + 1)) (wrap64 (x7_1 + 1))) else (none)) else (if x5_1.length < 5864062014805 then (spec_l11Merge.l0 kj7 l0 l1 (x5_1 ++ [(⟨(rd_T79 l1 x7_1).f0, (rd_T79 l1 x7_1).f1⟩ : S79)]) x6_1 (wrap64 (x7_1 + 1))) else (none))) else (none)) else (none)) else (none)) else (if 0 ≤ x7_1 then (if x7_1 < (l1.length : Int) then (if x5_1.length < 5864062014805 then (spec_l11Merge.l0 kj7 l0 l1 (x5_1 ++ [(⟨(rd_T79 l1 x7_1).f0, (rd_T79 l1 x7_1).f1⟩ : S79)]) x6_1 (wrap64 (x7_1 + 1))) else (none)) else (none)) else (none))) = some r := (by rw [if_neg (show ¬ (false = true) by decide)] at H; exact H)
         by_cases c19 : x6_1 < (l0.length : Int)
         ·
          rw [if_pos c19] at H
          have c19b0 : decide (x6_1 < (l0.length : Int)) = true := zR c19; clear c19
          by_cases c20 : 0 ≤ x6_1
          ·
           rw [if_pos c20] at H
           have c20b0 : decide (0 ≤ x6_1) = true := zR c20; clear c20
           by_cases c21 : 0 ≤ x7_1
           ·
            rw [if_pos c21] at H
            have c21b0 : decide (0 ≤ x7_1) = true := zR c21; clear c21
            by_cases c22 : x7_1 < (l1.length : Int)
            ·
             rw [if_pos c22] at H
             have c22b0 : decide (x7_1 < (l1.length : Int)) = true := zR c22; clear c22
             by_cases c23 : ((rd_T79 l0 x6_1).f0) = ((rd_T79 l1 x7_1).f0)
             ·
              rw [if_pos c23] at H
              have c23b0 : (((rd_T79 l0 x6_1).f0) == ((rd_T79 l1 x7_1).f0)) = true := beq_iff_eq.mpr c23
              have c23b1 : (((rd_T79 l0 x6_1).f0) != ((rd_T79 l1 x7_1).f0)) = false := bne_eq_false_iff_eq.mpr c23
              clear c23
              by_cases c24 : x5_1.length < 5864062014805
              ·
               rw [if_pos c24] at H
               have LMc24 := yD c24
               clear c24
               obtain ⟨y131, hy131⟩ : ∃ y_ : List (S79), y_ = (x5_1 ++ [(⟨(rd_T79 l1 x7_1).f0, (rd_T79 l1 x7_1).f1⟩ : S79)]) := ⟨_, rfl⟩
               replace H : (spec_l11Merge.l0 kj7 l0 l1 y131 (wrap64 (x6_1 + 1)) (wrap64 (x7_1 + 1))) = some r := by first | (rw [hy131]; with_reducible exact H) | (have H2_ := (Option.bind_some _ _).symm.trans H; rw [hy131]; with_reducible exact H2_) | (have H2_ := (Option.bind_some _ _).symm.trans H; with_reducible exact H2_) | with_reducible exact H | (rw [hy131]; exact H) | exact H
               have Ny131 := yD hy131
               clear hy131
               have H' := yD H
               clear H
               have p128 : 0 ≤ (x6_1 : Int) := zP (by assumption)
               have q128 : x6_1 < (l0.length : Int) := zP (by assumption)
               obtain ⟨ad128, e128, hx128_0, hx128_1⟩ := at_T79 HR0.out x6_1 p128 q128
               cases e128
               replace hx128_0 := (HB.out.cell (zQ w _ hx128_0)).trans hx128_0
               replace hx128_1 := (HB.out.cell (zQ w _ hx128_1)).trans hx128_1
               replace p128 := eq_true p128; replace q128 := eq_true q128
               have p129 : 0 ≤ (x7_1 : Int) := zP (by assumption)
               have q129 : x7_1 < (l1.length : Int) := zP (by assumption)
               obtain ⟨ad129, e129, hx129_0, hx129_1⟩ := at_T79 HR1.out x7_1 p129 q129
               cases e129
               replace hx129_0 := (HB.out.cell (zQ w _ hx129_0)).trans hx129_0
               replace hx129_1 := (HB.out.cell (zQ w _ hx129_1)).trans hx129_1
               replace p129 := eq_true p129; replace q129 := eq_true q129
               have p130 : 0 ≤ (x7_1 : Int) := zP (by assumption)
               have q130 : x7_1 < (l1.length : Int) := zP (by assumption)
               obtain ⟨ad130, e130, hx130_0, hx130_1⟩ := at_T79 HR1.out x7_1 p130 q130
               obtain rfl : ad129 = ad130 := (by injection e130)
               replace hx130_0 := (HB.out.cell (zQ w _ hx130_0)).trans hx130_0
               replace hx130_1 := (HB.out.cell (zQ w _ hx130_1)).trans hx130_1
               replace p130 := eq_true p130; replace q130 := eq_true q130
               go_wp2_with (first | ((with_reducible refine gate_builtin (b := .append) (xs := #[.tmp 38, .tmp 43]) rfl ?_); (try (refine gate_guard (by rfl) ?_; dsimp only)); at_builtin; refine Kd.R_append k79 (w0 := w) w.heap.size rfl (.tmp 38) (.tmp 43) 38 79 (.agg #[(.int .i64 0), (.string ⟨#[]⟩)]) 24 rfl Try.underlying38 info79 rfl (by decide) (by omega) u5 x5_1 (⟨(rd_T79 l1 x7_1).f0, (rd_T79 l1 x7_1).f1⟩ : S79) [.int .i64 ((rd_T79 l1 x7_1).f0), .string ((rd_T79 l1 x7_1).f1)] (fun _ => True) (fun _ => False) rfl rfl ?aP (fun _ hk => hk.elim) ?aF ?aO ?aB ?aS ?aL ?_; (case aP => exact k79_mkM _ _ _ (⟨(rd_T79 l1 x7_1).f0, (rd_T79 l1 x7_1).f1⟩ : S79)); (case aB => exact (kB HB)); (case aF => exact (fun _ _ => trivial)); (case aO => exact (kA HO_5)); (case aS => exact (below_size (kB HB))); (case aL => have := LMc24.out; omega); intro v132 w25 ho hb hg hat; rw [← Ny131.out] at ho; replace HB := yD (hb); have HO133 := yD (ho); clear HO_5; clear ho hb hg hat))
               repeat (go_quiet (first | ((with_reducible refine gate_builtin (b := .append) (xs := #[.tmp 38, .tmp 43]) rfl ?_); (try (refine gate_guard (by rfl) ?_; dsimp only)); at_builtin; refine Kd.R_append k79 (w0 := w) w.heap.size rfl (.tmp 38) (.tmp 43) 38 79 (.agg #[(.int .i64 0), (.string ⟨#[]⟩)]) 24 rfl Try.underlying38 info79 rfl (by decide) (by omega) u5 x5_1 (⟨(rd_T79 l1 x7_1).f0, (rd_T79 l1 x7_1).f1⟩ : S79) [.int .i64 ((rd_T79 l1 x7_1).f0), .string ((rd_T79 l1 x7_1).f1)] (fun _ => True) (fun _ => False) rfl rfl ?aP (fun _ hk => hk.elim) ?aF ?aO ?aB ?aS ?aL ?_; (case aP => exact k79_mkM _ _ _ (⟨(rd_T79 l1 x7_1).f0, (rd_T79 l1 x7_1).f1⟩ : S79)); (case aB => exact (kB HB)); (case aF => exact (fun _ _ => trivial)); (case aO => exact (kA HO_5)); (case aS => exact (below_size (kB HB))); (case aL => have := LMc24.out; omega); intro v132 w25 ho hb hg hat; rw [← Ny131.out] at ho; replace HB := yD (hb); have HO133 := yD (ho); clear HO_5; clear ho hb hg hat)); try go_wp2_with (first | ((with_reducible refine gate_builtin (b := .append) (xs := #[.tmp 38, .tmp 43]) rfl ?_); (try (refine gate_guard (by rfl) ?_; dsimp only)); at_builtin; refine Kd.R_append k79 (w0 := w) w.heap.size rfl (.tmp 38) (.tmp 43) 38 79 (.agg #[(.int .i64 0), (.string ⟨#[]⟩)]) 24 rfl Try.underlying38 info79 rfl (by decide) (by omega) u5 x5_1 (⟨(rd_T79 l1 x7_1).f0, (rd_T79 l1 x7_1).f1⟩ : S79) [.int .i64 ((rd_T79 l1 x7_1).f0), .string ((rd_T79 l1 x7_1).f1)] (fun _ => True) (fun _ => False) rfl rfl ?aP (fun _ hk => hk.elim) ?aF ?aO ?aB ?aS ?aL ?_; (case aP => exact k79_mkM _ _ _ (⟨(rd_T79 l1 x7_1).f0, (rd_T79 l1 x7_1).f1⟩ : S79)); (case aB => exact (kB HB)); (case aF => exact (fun _ _ => trivial)); (case aO => exact (kA HO_5)); (case aS => exact (below_size (kB HB))); (case aL => have := LMc24.out; omega); intro v132 w25 ho hb hg hat; rw [← Ny131.out] at ho; replace HB := yD (hb); have HO133 := yD (ho); clear HO_5; clear ho hb hg hat)))
               go_roundg kj7
               case measure => have := HK1.out; have := HJ4.out; have := HJ7.out; omega
               case rel => exact ⟨(y131), (wrap64 (x6_1 + 1)), (wrap64 (x7_1 + 1)), (by first | rfl | (simp; done) | (simp [*]; done)), (by first | rfl | (simp; done) | (simp [*]; done)), H', ⟨by have := HK1.out; have := HJ4.out; have := HJ7.out; omega⟩, ⟨kA HO133⟩, ⟨kR1 HB⟩⟩
              · rw [if_neg c24] at H
                exact absurd H (by simp)
             ·
              rw [if_neg c23] at H
              have c23b0 : (((rd_T79 l0 x6_1).f0) == ((rd_T79 l1 x7_1).f0)) = false := beq_eq_false_iff_ne.mpr c23
              have c23b1 : (((rd_T79 l0 x6_1).f0) != ((rd_T79 l1 x7_1).f0)) = true := bne_iff_ne.mpr c23
              by_cases c26 : x5_1.length < 5864062014805
              ·
               rw [if_pos c26] at H
               have LMc26 := yD c26
               clear c26
               obtain ⟨y135, hy135⟩ : ∃ y_ : List (S79), y_ = (x5_1 ++ [(⟨(rd_T79 l1 x7_1).f0, (rd_T79 l1 x7_1).f1⟩ : S79)]) := ⟨_, rfl⟩
               replace H : (spec_l11Merge.l0 kj7 l0 l1 y135 x6_1 (wrap64 (x7_1 + 1))) = some r := by first | (rw [hy135]; with_reducible exact H) | (have H2_ := (Option.bind_some _ _).symm.trans H; rw [hy135]; with_reducible exact H2_) | (have H2_ := (Option.bind_some _ _).symm.trans H; with_reducible exact H2_) | with_reducible exact H | (rw [hy135]; exact H) | exact H
               have Ny135 := yD hy135
               clear hy135
               have H' := yD H
               clear H
               have p128 : 0 ≤ (x6_1 : Int) := zP (by assumption)
               have q128 : x6_1 < (l0.length : Int) := zP (by assumption)
               obtain ⟨ad128, e128, hx128_0, hx128_1⟩ := at_T79 HR0.out x6_1 p128 q128
               cases e128
               replace hx128_0 := (HB.out.cell (zQ w _ hx128_0)).trans hx128_0
               replace hx128_1 := (HB.out.cell (zQ w _ hx128_1)).trans hx128_1
               replace p128 := eq_true p128; replace q128 := eq_true q128
               have p129 : 0 ≤ (x7_1 : Int) := zP (by assumption)
               have q129 : x7_1 < (l1.length : Int) := zP (by assumption)
               obtain ⟨ad129, e129, hx129_0, hx129_1⟩ := at_T79 HR1.out x7_1 p129 q129
               cases e129
               replace hx129_0 := (HB.out.cell (zQ w _ hx129_0)).trans hx129_0
               replace hx129_1 := (HB.out.cell (zQ w _ hx129_1)).trans hx129_1
               replace p129 := eq_true p129; replace q129 := eq_true q129
               have p134 : 0 ≤ (x7_1 : Int) := zP (by assumption)
               have q134 : x7_1 < (l1.length : Int) := zP (by assumption)
               obtain ⟨ad134, e134, hx134_0, hx134_1⟩ := at_T79 HR1.out x7_1 p134 q134
               obtain rfl : ad129 = ad134 := (by injection e134)
               replace hx134_0 := (HB.out.cell (zQ w _ hx134_0)).trans hx134_0
               replace hx134_1 := (HB.out.cell (zQ w _ hx134_1)).trans hx134_1
               replace p134 := eq_true p134; replace q134 := eq_true q134
               go_wp2_with (first | ((with_reducible refine gate_builtin (b := .append) (xs := #[.tmp 38, .tmp 43]) rfl ?_); (try (refine gate_guard (by rfl) ?_; dsimp only)); at_builtin; refine Kd.R_append k79 (w0 := w) w.heap.size rfl (.tmp 38) (.tmp 43) 38 79 (.agg #[(.int .i64 0), (.string ⟨#[]⟩)]) 24 rfl Try.underlying38 info79 rfl (by decide) (by omega) u5 x5_1 (⟨(rd_T79 l1 x7_1).f0, (rd_T79 l1 x7_1).f1⟩ : S79) [.int .i64 ((rd_T79 l1 x7_1).f0), .string ((rd_T79 l1 x7_1).f1)] (fun _ => True) (fun _ => False) rfl rfl ?aP (fun _ hk => hk.elim) ?aF ?aO ?aB ?aS ?aL ?_; (case aP => exact k79_mkM _ _ _ (⟨(rd_T79 l1 x7_1).f0, (rd_T79 l1 x7_1).f1⟩ : S79)); (case aB => exact (kB HB)); (case aF => exact (fun _ _ => trivial)); (case aO => exact (kA HO_5)); (case aS => exact (below_size (kB HB))); (case aL => have := LMc26.out; omega); intro v136 w27 ho hb hg hat; rw [← Ny135.out] at ho; replace HB := yD (hb); have HO137 := yD (ho); clear HO_5; clear ho hb hg hat))
               repeat (go_quiet (first | ((with_reducible refine gate_builtin (b := .append) (xs := #[.tmp 38, .tmp 43]) rfl ?_); (try (refine gate_guard (by rfl) ?_; dsimp only)); at_builtin; refine Kd.R_append k79 (w0 := w) w.heap.size rfl (.tmp 38) (.tmp 43) 38 79 (.agg #[(.int .i64 0), (.string ⟨#[]⟩)]) 24 rfl Try.underlying38 info79 rfl (by decide) (by omega) u5 x5_1 (⟨(rd_T79 l1 x7_1).f0, (rd_T79 l1 x7_1).f1⟩ : S79) [.int .i64 ((rd_T79 l1 x7_1).f0), .string ((rd_T79 l1 x7_1).f1)] (fun _ => True) (fun _ => False) rfl rfl ?aP (fun _ hk => hk.elim) ?aF ?aO ?aB ?aS ?aL ?_; (case aP => exact k79_mkM _ _ _ (⟨(rd_T79 l1 x7_1).f0, (rd_T79 l1 x7_1).f1⟩ : S79)); (case aB => exact (kB HB)); (case aF => exact (fun _ _ => trivial)); (case aO => exact (kA HO_5)); (case aS => exact (below_size (kB HB))); (case aL => have := LMc26.out; omega); intro v136 w27 ho hb hg hat; rw [← Ny135.out] at ho; replace HB := yD (hb); have HO137 := yD (ho); clear HO_5; clear ho hb hg hat)); try go_wp2_with (first | ((with_reducible refine gate_builtin (b := .append) (xs := #[.tmp 38, .tmp 43]) rfl ?_); (try (refine gate_guard (by rfl) ?_; dsimp only)); at_builtin; refine Kd.R_append k79 (w0 := w) w.heap.size rfl (.tmp 38) (.tmp 43) 38 79 (.agg #[(.int .i64 0), (.string ⟨#[]⟩)]) 24 rfl Try.underlying38 info79 rfl (by decide) (by omega) u5 x5_1 (⟨(rd_T79 l1 x7_1).f0, (rd_T79 l1 x7_1).f1⟩ : S79) [.int .i64 ((rd_T79 l1 x7_1).f0), .string ((rd_T79 l1 x7_1).f1)] (fun _ => True) (fun _ => False) rfl rfl ?aP (fun _ hk => hk.elim) ?aF ?aO ?aB ?aS ?aL ?_; (case aP => exact k79_mkM _ _ _ (⟨(rd_T79 l1 x7_1).f0, (rd_T79 l1 x7_1).f1⟩ : S79)); (case aB => exact (kB HB)); (case aF => exact (fun _ _ => trivial)); (case aO => exact (kA HO_5)); (case aS => exact (below_size (kB HB))); (case aL => have := LMc26.out; omega); intro v136 w27 ho hb hg hat; rw [← Ny135.out] at ho; replace HB := yD (hb); have HO137 := yD (ho); clear HO_5; clear ho hb hg hat)))
               go_roundg kj7
               case measure => have := HK1.out; have := HJ4.out; have := HJ7.out; omega
               case rel => exact ⟨(y135), (x6_1), (wrap64 (x7_1 + 1)), (by first | rfl | (simp; done) | (simp [*]; done)), (by first | rfl | (simp; done) | (simp [*]; done)), H', ⟨by have := HK1.out; have := HJ4.out; have := HJ7.out; omega⟩, ⟨kA HO137⟩, ⟨kR1 HB⟩⟩
              · rw [if_neg c26] at H
                exact absurd H (by simp)
            · rw [if_neg c22] at H
              exact absurd H (by simp)
           · rw [if_neg c21] at H
             exact absurd H (by simp)
          · rw [if_neg c20] at H
            exact absurd H (by simp)
         ·
          rw [if_neg c19] at H
          have c19b0 : decide (x6_1 < (l0.length : Int)) = false := zS c19; clear c19
          by_cases c28 : 0 ≤ x7_1
          ·
           rw [if_pos c28] at H
           have c28b0 : decide (0 ≤ x7_1) = true := zR c28; clear c28
           by_cases c29 : x7_1 < (l1.length : Int)
           ·
            rw [if_pos c29] at H
            have c29b0 : decide (x7_1 < (l1.length : Int)) = true := zR c29; clear c29
            by_cases c30 : x5_1.length < 5864062014805
            ·
             rw [if_pos c30] at H
             have LMc30 := yD c30
             clear c30
             obtain ⟨y139, hy139⟩ : ∃ y_ : List (S79), y_ = (x5_1 ++ [(⟨(rd_T79 l1 x7_1).f0, (rd_T79 l1 x7_1).f1⟩ : S79)]) := ⟨_, rfl⟩
             replace H : (spec_l11Merge.l0 kj7 l0 l1 y139 x6_1 (wrap64 (x7_1 + 1))) = some r := by first | (rw [hy139]; with_reducible exact H) | (have H2_ := (Option.bind_some _ _).symm.trans H; rw [hy139]; with_reducible exact H2_) | (have H2_ := (Option.bind_some _ _).symm.trans H; with_reducible exact H2_) | with_reducible exact H | (rw [hy139]; exact H) | exact H
             have Ny139 := yD hy139
             clear hy139
             have H' := yD H
             clear H
             have p138 : 0 ≤ (x7_1 : Int) := zP (by assumption)
             have q138 : x7_1 < (l1.length : Int) := zP (by assumption)
             obtain ⟨ad138, e138, hx138_0, hx138_1⟩ := at_T79 HR1.out x7_1 p138 q138
             cases e138
             replace hx138_0 := (HB.out.cell (zQ w _ hx138_0)).trans hx138_0
             replace hx138_1 := (HB.out.cell (zQ w _ hx138_1)).trans hx138_1
             replace p138 := eq_true p138; replace q138 := eq_true q138
             go_wp2_with (first | ((with_reducible refine gate_builtin (b := .append) (xs := #[.tmp 38, .tmp 43]) rfl ?_); (try (refine gate_guard (by rfl) ?_; dsimp only)); at_builtin; refine Kd.R_append k79 (w0 := w) w.heap.size rfl (.tmp 38) (.tmp 43) 38 79 (.agg #[(.int .i64 0), (.string ⟨#[]⟩)]) 24 rfl Try.underlying38 info79 rfl (by decide) (by omega) u5 x5_1 (⟨(rd_T79 l1 x7_1).f0, (rd_T79 l1 x7_1).f1⟩ : S79) [.int .i64 ((rd_T79 l1 x7_1).f0), .string ((rd_T79 l1 x7_1).f1)] (fun _ => True) (fun _ => False) rfl rfl ?aP (fun _ hk => hk.elim) ?aF ?aO ?aB ?aS ?aL ?_; (case aP => exact k79_mkM _ _ _ (⟨(rd_T79 l1 x7_1).f0, (rd_T79 l1 x7_1).f1⟩ : S79)); (case aB => exact (kB HB)); (case aF => exact (fun _ _ => trivial)); (case aO => exact (kA HO_5)); (case aS => exact (below_size (kB HB))); (case aL => have := LMc30.out; omega); intro v140 w31 ho hb hg hat; rw [← Ny139.out] at ho; replace HB := yD (hb); have HO141 := yD (ho); clear HO_5; clear ho hb hg hat))
             repeat (go_quiet (first | ((with_reducible refine gate_builtin (b := .append) (xs := #[.tmp 38, .tmp 43]) rfl ?_); (try (refine gate_guard (by rfl) ?_; dsimp only)); at_builtin; refine Kd.R_append k79 (w0 := w) w.heap.size rfl (.tmp 38) (.tmp 43) 38 79 (.agg #[(.int .i64 0), (.string ⟨#[]⟩)]) 24 rfl Try.underlying38 info79 rfl (by decide) (by omega) u5 x5_1 (⟨(rd_T79 l1 x7_1).f0, (rd_T79 l1 x7_1).f1⟩ : S79) [.int .i64 ((rd_T79 l1 x7_1).f0), .string ((rd_T79 l1 x7_1).f1)] (fun _ => True) (fun _ => False) rfl rfl ?aP (fun _ hk => hk.elim) ?aF ?aO ?aB ?aS ?aL ?_; (case aP => exact k79_mkM _ _ _ (⟨(rd_T79 l1 x7_1).f0, (rd_T79 l1 x7_1).f1⟩ : S79)); (case aB => exact (kB HB)); (case aF => exact (fun _ _ => trivial)); (case aO => exact (kA HO_5)); (case aS => exact (below_size (kB HB))); (case aL => have := LMc30.out; omega); intro v140 w31 ho hb hg hat; rw [← Ny139.out] at ho; replace HB := yD (hb); have HO141 := yD (ho); clear HO_5; clear ho hb hg hat)); try go_wp2_with (first | ((with_reducible refine gate_builtin (b := .append) (xs := #[.tmp 38, .tmp 43]) rfl ?_); (try (refine gate_guard (by rfl) ?_; dsimp only)); at_builtin; refine Kd.R_append k79 (w0 := w) w.heap.size rfl (.tmp 38) (.tmp 43) 38 79 (.agg #[(.int .i64 0), (.string ⟨#[]⟩)]) 24 rfl Try.underlying38 info79 rfl (by decide) (by omega) u5 x5_1 (⟨(rd_T79 l1 x7_1).f0, (rd_T79 l1 x7_1).f1⟩ : S79) [.int .i64 ((rd_T79 l1 x7_1).f0), .string ((rd_T79 l1 x7_1).f1)] (fun _ => True) (fun _ => False) rfl rfl ?aP (fun _ hk => hk.elim) ?aF ?aO ?aB ?aS ?aL ?_; (case aP => exact k79_mkM _ _ _ (⟨(rd_T79 l1 x7_1).f0, (rd_T79 l1 x7_1).f1⟩ : S79)); (case aB => exact (kB HB)); (case aF => exact (fun _ _ => trivial)); (case aO => exact (kA HO_5)); (case aS => exact (below_size (kB HB))); (case aL => have := LMc30.out; omega); intro v140 w31 ho hb hg hat; rw [← Ny139.out] at ho; replace HB := yD (hb); have HO141 := yD (ho); clear HO_5; clear ho hb hg hat)))
             go_roundg kj7
             case measure => have := HK1.out; have := HJ4.out; have := HJ7.out; omega
             case rel => exact ⟨(y139), (x6_1), (wrap64 (x7_1 + 1)), (by first | rfl | (simp; done) | (simp [*]; done)), (by first | rfl | (simp; done) | (simp [*]; done)), H', ⟨by have := HK1.out; have := HJ4.out; have := HJ7.out; omega⟩, ⟨kA HO141⟩, ⟨kR1 HB⟩⟩
            · rw [if_neg c30] at H
              exact absurd H (by simp)
           · rw [if_neg c29] at H
             exact absurd H (by simp)
          · rw [if_neg c28] at H
            exact absurd H (by simp)
     · replace c7 := Bool.eq_false_iff.mpr c7
       subst c7
       replace H : (some x5_1) = some r := (by rw [if_neg (show ¬ (false = true) by decide)] at H; exact H); obtain rfl := Option.some.inj H
       go_wp2
       repeat (go_quiet (fail); try go_wp2)
       go_ret
       exact ⟨_, by first | rfl | (simp <;> rfl) | (simp [*] <;> rfl), kA HO_5, kR1 HB⟩

/-! ### spec_MergePages: function 13 -/
def spec_MergePages.f (k : Nat) (l0 : List (S79)) (l1 : List (S79)) : Option ((List (S79))) := (spec_l11Pages.f k l0).bind fun t142 => (if t142 = true then ((spec_l11Pages.f k l1).bind fun t143 => (if t143 = true then ((spec_l11Merge.f k l0 l1).bind fun t144 => (some t144)) else (some (([] : List (S79)))))) else (some (([] : List (S79)))))
theorem spec_MergePages.mono : ∀ a0 a1 k, LeO (spec_MergePages.f k a0 a1) (spec_MergePages.f (k + 1) a0 a1) := by
 intro a0 a1 k
 unfold spec_MergePages.f
 repeat' (with_reducible first | exact spec_l11Merge.mono _ _ _ | exact spec_l11Pages.mono _ _ | exact LeO.refl _ | exact LeO.none _ | refine LeO.ite ?_ ?_ | refine LeO.bind ?_ (fun _ => ?_))
set_option maxHeartbeats 8000000 in
set_option maxRecDepth 100000 in
theorem spec_MergePages.calls (k : Nat) (A0 : Option Addr) (c0 : Nat) (l0 : List (S79)) (A1 : Option Addr) (c1 : Nat) (l1 : List (S79)) (r : List (S79)) (w : World) (hr0 : Kd.C k79 w A0 l0.length l0) (hc0 : l0.length ≤ c0) (hr1 : Kd.C k79 w A1 l1.length l1) (hc1 : l1.length ≤ c1) (h : spec_MergePages.f k l0 l1 = some r) :
 Calls Try.prog 13 #[.slice A0 l0.length c0, .slice A1 l1.length c1] w fun e w' => ∃ v0_ : Value, e = .returned (v0_) ∧ Kd.R k79 79 w' w.heap.size (fun _ => True) v0_ r ∧ Below w.heap.size w w' := by
 have HR0 := yD hr0
 have HC0 := yD hc0
 clear hr0 hc0
 have HR1 := yD hr1
 have HC1 := yD hc1
 clear hr1 hc1
 have HB := yD (Below.refl w.heap.size w)
 have H : ((spec_l11Pages.f k l0).bind fun t142 => (if t142 = true then ((spec_l11Pages.f k l1).bind fun t143 => (if t143 = true then ((spec_l11Merge.f k l0 l1).bind fun t144 => (some t144)) else (some (([] : List (S79)))))) else (some (([] : List (S79)))))) = some r := h
 clear h
 obtain ⟨t142, A30, H⟩ := zW_ H
 replace H : (if t142 = true then ((spec_l11Pages.f k l1).bind fun t143 => (if t143 = true then ((spec_l11Merge.f k l0 l1).bind fun t144 => (some t144)) else (some (([] : List (S79)))))) else (some (([] : List (S79))))) = some r := H
 have A3 := yD A30
 clear A30
 by_cases c4 : t142 = true
 ·
  subst c4
  replace H : ((spec_l11Pages.f k l1).bind fun t143 => (if t143 = true then ((spec_l11Merge.f k l0 l1).bind fun t144 => (some t144)) else (some (([] : List (S79)))))) = some r := (by rw [if_pos rfl] at H; exact H)
  obtain ⟨t143, A50, H⟩ := zW_ H
  replace H : (if t143 = true then ((spec_l11Merge.f k l0 l1).bind fun t144 => (some t144)) else (some (([] : List (S79))))) = some r := H
  have A5 := yD A50
  clear A50
  by_cases c6 : t143 = true
  ·
   subst c6
   replace H : ((spec_l11Merge.f k l0 l1).bind fun t144 => (some t144)) = some r := (by rw [if_pos rfl] at H; exact H)
   obtain ⟨t144, A70, H⟩ := zW_ H
   replace H : (some t144) = some r := H
   have A7 := yD A70
   clear A70; obtain rfl := Option.some.inj H; go_enter Try.func13, Try.ntmps13
   go_wp2_with (first | ((with_reducible refine gate_callee (f := 49) rfl ?_); refine gL 6 Try.func49 #[.slice A0 l0.length c0] ?_; (with_reducible refine (spec_l11Pages.calls k _ _ l0 true _ ?side1 ?side2 A3.out).mono ?_); (case side1 => repeat (first | exact HR0.out | (with_reducible first | refine yV ?_ _ | refine yW ?_ _ | refine yX ?_))); (case side2 => exact HC0.out); rintro e w8 ⟨rfl, hb⟩; refine ⟨_, rfl, ?_⟩; replace HB := yD (zC (kB HB) hb); clear hb) | (go_at_call 49; (with_reducible refine (spec_l11Pages.calls k _ _ l1 true _ ?side1 ?side2 A5.out).mono ?_); (case side1 => exact kV (yY HR1.out HB.out)); (case side2 => exact HC1.out); rintro e w9 ⟨rfl, hb⟩; replace HB := yD (zC (kB HB) hb); clear hb) | ((with_reducible refine gate_callee (f := 50) rfl ?_); refine gL 16 Try.func50 #[.slice A0 l0.length c0, .slice A1 l1.length c1] ?_; (with_reducible refine (spec_l11Merge.calls k _ _ l0 _ _ l1 t144 _ ?side1 ?side2 ?side3 ?side4 A7.out).mono ?_); (case side1 => exact kV (yY HR0.out HB.out)); (case side2 => exact HC0.out); (case side3 => exact kV (yY HR1.out HB.out)); (case side4 => exact HC1.out); rintro e w10 ⟨v145, rfl, ho0, hb⟩; refine ⟨_, rfl, ?_⟩; have HO146 := yD (yZ ho0 (below_size (kB HB))); replace HB := yD (zC (kB HB) hb); clear hb ho0))
   go_ret
   exact ⟨_, by first | rfl | (simp <;> rfl) | (simp [*] <;> rfl), kA HO146, kR1 HB⟩
  ·
   replace c6 := Bool.eq_false_iff.mpr c6
   subst c6
   replace H : (some (([] : List (S79)))) = some r := (by rw [if_neg (show ¬ (false = true) by decide)] at H; exact H)
   obtain ⟨y147, hy147⟩ : ∃ y_ : List (S79), y_ = (([] : List (S79))) := ⟨_, rfl⟩
   replace H : (some y147) = some r := by first | (rw [hy147]; with_reducible exact H) | (have H2_ := (Option.bind_some _ _).symm.trans H; rw [hy147]; with_reducible exact H2_) | (have H2_ := (Option.bind_some _ _).symm.trans H; with_reducible exact H2_) | with_reducible exact H | (rw [hy147]; exact H) | exact H
   have Ny147 := yD hy147
   clear hy147; obtain rfl := Option.some.inj H; go_enter Try.func13, Try.ntmps13
   go_wp2_with (first | ((with_reducible refine gate_callee (f := 49) rfl ?_); refine gL 6 Try.func49 #[.slice A0 l0.length c0] ?_; (with_reducible refine (spec_l11Pages.calls k _ _ l0 true _ ?side1 ?side2 A3.out).mono ?_); (case side1 => repeat (first | exact HR0.out | (with_reducible first | refine yV ?_ _ | refine yW ?_ _ | refine yX ?_))); (case side2 => exact HC0.out); rintro e w11 ⟨rfl, hb⟩; refine ⟨_, rfl, ?_⟩; replace HB := yD (zC (kB HB) hb); clear hb) | (go_at_call 49; (with_reducible refine (spec_l11Pages.calls k _ _ l1 false _ ?side1 ?side2 A5.out).mono ?_); (case side1 => exact kV (yY HR1.out HB.out)); (case side2 => exact HC1.out); rintro e w12 ⟨rfl, hb⟩; replace HB := yD (zC (kB HB) hb); clear hb) | ((with_reducible refine gate_dst (N := 13) rfl ?_); refine Kd.R_lit k79 _ 79 ?hg (N := 13) ?hd (xs := ([] : List (S79))) (inner := []) (ok := fun _ => True) (okp := fun _ => True) ?hr ?hp (fun _ hk => hk) trivial (Below.refl _ _) (Nat.le_refl _) (by simp) ?_; (case hd => rfl); (case hg => rfl); (case hr => first | (go_simp; done) | (go_simp; rfl)); (case hp => exact (Reps.none _ _)); intro v148 w13 ho14 hb hg_ hnew_; clear hg_ hnew_; (first | rw [← Ny147.out] at ho14 | (simp only [Int.reduceToNat] at ho14; rw [← Ny147.out] at ho14)); have HO149 := yD (yZ ho14 (below_size (kB HB))); replace HB := yD (zC (kB HB) hb); clear hb ho14))
   go_ret
   exact ⟨_, by first | rfl | (simp <;> rfl) | (simp [*] <;> rfl), kA HO149, kR1 HB⟩
 ·
  replace c4 := Bool.eq_false_iff.mpr c4
  subst c4
  replace H : (some (([] : List (S79)))) = some r := (by rw [if_neg (show ¬ (false = true) by decide)] at H; exact H)
  obtain ⟨y150, hy150⟩ : ∃ y_ : List (S79), y_ = (([] : List (S79))) := ⟨_, rfl⟩
  replace H : (some y150) = some r := by first | (rw [hy150]; with_reducible exact H) | (have H2_ := (Option.bind_some _ _).symm.trans H; rw [hy150]; with_reducible exact H2_) | (have H2_ := (Option.bind_some _ _).symm.trans H; with_reducible exact H2_) | with_reducible exact H | (rw [hy150]; exact H) | exact H
  have Ny150 := yD hy150
  clear hy150; obtain rfl := Option.some.inj H; go_enter Try.func13, Try.ntmps13
  go_wp2_with (first | ((with_reducible refine gate_callee (f := 49) rfl ?_); refine gL 6 Try.func49 #[.slice A0 l0.length c0] ?_; (with_reducible refine (spec_l11Pages.calls k _ _ l0 false _ ?side1 ?side2 A3.out).mono ?_); (case side1 => repeat (first | exact HR0.out | (with_reducible first | refine yV ?_ _ | refine yW ?_ _ | refine yX ?_))); (case side2 => exact HC0.out); rintro e w15 ⟨rfl, hb⟩; refine ⟨_, rfl, ?_⟩; replace HB := yD (zC (kB HB) hb); clear hb) | ((with_reducible refine gate_dst (N := 13) rfl ?_); refine Kd.R_lit k79 _ 79 ?hg (N := 13) ?hd (xs := ([] : List (S79))) (inner := []) (ok := fun _ => True) (okp := fun _ => True) ?hr ?hp (fun _ hk => hk) trivial (Below.refl _ _) (Nat.le_refl _) (by simp) ?_; (case hd => rfl); (case hg => rfl); (case hr => first | (go_simp; done) | (go_simp; rfl)); (case hp => exact (Reps.none _ _)); intro v151 w16 ho17 hb hg_ hnew_; clear hg_ hnew_; (first | rw [← Ny150.out] at ho17 | (simp only [Int.reduceToNat] at ho17; rw [← Ny150.out] at ho17)); have HO152 := yD (yZ ho17 (below_size (kB HB))); replace HB := yD (zC (kB HB) hb); clear hb ho17))
  go_ret
  exact ⟨_, by first | rfl | (simp <;> rfl) | (simp [*] <;> rfl), kA HO152, kR1 HB⟩

/-! ### impl_within: function 66 -/
def impl_within.f (a0 : Int) (a1 : Int) (a2 : Int) : Option (Bool) := if a0 ≥ a1 then (some (decide (a0 ≤ a2))) else (some false)
set_option maxHeartbeats 8000000 in
set_option maxRecDepth 100000 in
theorem impl_within.calls (a0 : Int) (a1 : Int) (a2 : Int) (r : Bool) (w : World) (h : impl_within.f a0 a1 a2 = some r) :
 Calls Try.prog 66 #[.int .i64 a0, .int .i64 a1, .int .i64 a2] w fun e w' => e = .returned (.bool r) ∧ Drawn0 w w' := by
 have H : (if a0 ≥ a1 then (some (decide (a0 ≤ a2))) else (some false)) = some r := h
 clear h
 by_cases c4 : a0 ≥ a1
 · rw [if_pos c4] at H
   have c4b0 : decide (a1 ≤ a0) = true := zR c4; clear c4; obtain rfl := Option.some.inj H; go_enter Try.func66, Try.ntmps66
   go_wp2
   go_ret
   exact ⟨by first | rfl | (simp; done) | (simp [*]; done), by repeat (first | exact Drawn0.refl _ | apply Drawn0.step)⟩
 ·
  rw [if_neg c4] at H
  have c4b0 : decide (a1 ≤ a0) = false := zS c4; clear c4; obtain rfl := Option.some.inj H; go_enter Try.func66, Try.ntmps66
  go_wp2
  go_ret
  exact ⟨by first | rfl | (simp; done) | (simp [*]; done), by repeat (first | exact Drawn0.refl _ | apply Drawn0.step)⟩

/-! ### impl_isBlock: function 67 -/
def impl_isBlock.f (a0 : ByteArray) : Option (Bool) := some ((a0.size : Int) == 64)
set_option maxHeartbeats 8000000 in
set_option maxRecDepth 100000 in
theorem impl_isBlock.calls (a0 : ByteArray) (r : Bool) (w : World) (h : impl_isBlock.f a0 = some r) :
 Calls Try.prog 67 #[.string a0] w fun e w' => e = .returned (.bool r) ∧ Drawn0 w w' := by
 have H : (some ((a0.size : Int) == 64)) = some r := h
 clear h; obtain rfl := Option.some.inj H; go_enter Try.func67, Try.ntmps67
 go_wp2
 go_ret
 exact ⟨by first | rfl | (simp; done) | (simp [*]; done), by repeat (first | exact Drawn0.refl _ | apply Drawn0.step)⟩

/-! ### impl_ValidPages: function 52 -/
def impl_ValidPages.l0 : Nat → List (S79) → List (S79) → Int → Int → Option (Bool)
 | 0, _, _, _, _ => none
 | k + 1, x0, x5, x6, x7 => if x7 < x6 then (if 0 ≤ x7 then (if x7 < (x5.length : Int) then ((impl_within.f ((rd_T79 x5 x7).f0) 0 255).bind fun t155 => (if t155 = true then (if x7 > 0 then (if 0 ≤ (wrap64 (x7 - 1)) then (if (wrap64 (x7 - 1)) < (x0.length : Int) then (if ((rd_T79 x5 x7).f0) ≤ ((rd_T79 x0 (wrap64 (x7 - 1))).f0) then (some false) else ((impl_isBlock.f ((rd_T79 x5 x7).f1)).bind fun t157 => (if t157 = true then (impl_ValidPages.l0 k x0 x5 x6 (wrap64 (x7 + 1))) else (some false)))) else (none)) else (none)) else ((impl_isBlock.f ((rd_T79 x5 x7).f1)).bind fun t158 => (if t158 = true then (impl_ValidPages.l0 k x0 x5 x6 (wrap64 (x7 + 1))) else (some false)))) else (some false))) else (none)) else (none)) else (some (decide ((x0.length : Int) ≤ 256)))
def impl_ValidPages.f (k : Nat) (l0 : List (S79)) : Option (Bool) := impl_ValidPages.l0 k l0 l0 (l0.length : Int) 0
theorem impl_ValidPages.mono_l : ∀ k, (∀ y0 y1 y2 y3, LeO (impl_ValidPages.l0 k y0 y1 y2 y3) (impl_ValidPages.l0 (k + 1) y0 y1 y2 y3))
 | 0 => fun _ _ _ _ r h => by simp [impl_ValidPages.l0] at h
 | k + 1 => by
  have ih0 := impl_ValidPages.mono_l k
  · intro y0 y1 y2 y3
    unfold impl_ValidPages.l0
    repeat' (with_reducible first | exact ih0 _ _ _ _ | exact LeO.refl _ | exact LeO.none _ | refine LeO.ite ?_ ?_ | refine LeO.bind ?_ (fun _ => ?_))
theorem impl_ValidPages.mono : ∀ a0 k, LeO (impl_ValidPages.f k a0) (impl_ValidPages.f (k + 1) a0) := by
 intro a0 k
 have ih0 := impl_ValidPages.mono_l k
 unfold impl_ValidPages.f
 repeat' (with_reducible first | exact ih0 _ _ _ _ | exact LeO.refl _ | exact LeO.none _ | refine LeO.ite ?_ ?_ | refine LeO.bind ?_ (fun _ => ?_))
set_option maxHeartbeats 8000000 in
set_option maxRecDepth 100000 in
theorem impl_ValidPages.calls (k : Nat) (A0 : Option Addr) (c0 : Nat) (l0 : List (S79)) (r : Bool) (w : World) (hr0 : Kd.C k79 w A0 l0.length l0) (hc0 : l0.length ≤ c0) (h : impl_ValidPages.f k l0 = some r) :
 Calls Try.prog 52 #[.slice A0 l0.length c0] w fun e w' => e = .returned (.bool r) ∧ Below w.heap.size w w' := by
 have hu79 := Try.underlying79
 have HR0 := yD hr0
 have HC0 := yD hc0
 clear hr0 hc0
 have HB := yD (Below.refl w.heap.size w)
 have H : (impl_ValidPages.l0 k l0 l0 (l0.length : Int) 0) = some r := h
 clear h
 have H' := yD H
 clear H; go_enter Try.func52, Try.ntmps52
 go_wp2
 repeat (go_quiet (fail); try go_wp2)
 go_loopg [7] k (fun kq v7 w' => ∃ (x7_1 : Int), v7 = .int .i64 x7_1 ∧ Aside0 (impl_ValidPages.l0 kq l0 l0 (l0.length : Int) x7_1 = some r) ∧ Aside0 (kq ≤ k) ∧ Aside0 (Below w.heap.size w w'))
 case atStart => exact ⟨(0), (by first | rfl | (simp; done) | (simp [*]; done)), H', ⟨Nat.le_refl _⟩, ⟨kR1 HB⟩⟩
 case round =>
  clear H'
  obtain ⟨x7_1, rfl, HA, HK1, HB⟩ := hrel
  cases gk with
  | zero => exact absurd HA.out (by simp [impl_ValidPages.l0])
  | succ k1 =>
   have H := HA.out; clear HA
   simp only [impl_ValidPages.l0] at H
   by_cases c2 : x7_1 < (l0.length : Int)
   ·
    rw [if_pos c2] at H
    have c2b0 : decide (x7_1 < (l0.length : Int)) = true := zR c2; clear c2
    by_cases c3 : 0 ≤ x7_1
    ·
     rw [if_pos c3] at H
     have c3b0 : decide (0 ≤ x7_1) = true := zR c3; clear c3
     by_cases c4 : x7_1 < (l0.length : Int)
     ·
      rw [if_pos c4] at H
      have c4b0 : decide (x7_1 < (l0.length : Int)) = true := zR c4; clear c4
      obtain ⟨t155, A50, H⟩ := zW_ H
      replace H : (if t155 = true then (if x7_1 > 0 then (if 0 ≤ (wrap64 (x7_1 - 1)) then (if (wrap64 (x7_1 - 1)) < (l0.length : Int) then (if ((rd_T79 l0 x7_1).f0) ≤ ((rd_T79 l0 (wrap64 (x7_1 - 1))).f0) then (some false) else ((impl_isBlock.f ((rd_T79 l0 x7_1).f1)).bind fun t157 => (if t157 = true then (impl_ValidPages.l0 k1 l0 l0 (l0.length : Int) (wrap64 (x7_1 + 1))) else (some false)))) else (none)) else (none)) else ((impl_isBlock.f ((rd_T79 l0 x7_1).f1)).bind fun t158 => (if t158 = true then (impl_ValidPages.l0 k1 l0 l0 (l0.length : Int) (wrap64 (x7_1 + 1))) else (some false)))) else (some false)) = some r := H
      have A5 := yD A50
      clear A50
      by_cases c6 : t155 = true
      ·
       subst c6
       replace H : (if x7_1 > 0 then (if 0 ≤ (wrap64 (x7_1 - 1)) then (if (wrap64 (x7_1 - 1)) < (l0.length : Int) then (if ((rd_T79 l0 x7_1).f0) ≤ ((rd_T79 l0 (wrap64 (x7_1 - 1))).f0) then (some false) else ((impl_isBlock.f ((rd_T79 l0 x7_1).f1)).bind fun t157 => (if t157 = true then (impl_ValidPages.l0 k1 l0 l0 (l0.length : Int) (wrap64 (x7_1 + 1))) else (some false)))) else (none)) else (none)) else ((impl_isBlock.f ((rd_T79 l0 x7_1).f1)).bind fun t158 => (if t158 = true then (impl_ValidPages.l0 k1 l0 l0 (l0.length : Int) (wrap64 (x7_1 + 1))) else (some false)))) = some r := (by rw [if_pos rfl] at H; exact H)
       by_cases c7 : x7_1 > 0
       ·
        rw [if_pos c7] at H
        have c7b0 : decide (0 < x7_1) = true := zR c7; clear c7
        obtain ⟨ji8, hji8⟩ : ∃ j_ : Int, (wrap64 (x7_1 - 1)) = j_ := ⟨_, rfl⟩
        replace H : (if 0 ≤ (ji8) then (if (ji8) < (l0.length : Int) then (if ((rd_T79 l0 x7_1).f0) ≤ ((rd_T79 l0 (ji8)).f0) then (some false) else ((impl_isBlock.f ((rd_T79 l0 x7_1).f1)).bind fun t157 => (if t157 = true then (impl_ValidPages.l0 k1 l0 l0 (l0.length : Int) (wrap64 (x7_1 + 1))) else (some false)))) else (none)) else (none)) = some r := by first | (rw [hji8] at H; exact H) | (simp only [hji8] at H ⊢; exact H)
        (try rw [hji8] at A5)
        have hji8w : (IntKind.i64.wrap (x7_1 - 1)) = ji8 := (i64_w _).trans hji8
        by_cases c9 : 0 ≤ (ji8)
        ·
         rw [if_pos c9] at H
         have c9b0 : decide (0 ≤ (ji8)) = true := zR c9; clear c9
         by_cases c10 : (ji8) < (l0.length : Int)
         ·
          rw [if_pos c10] at H
          have c10b0 : decide ((ji8) < (l0.length : Int)) = true := zR c10; clear c10
          by_cases c11 : ((rd_T79 l0 x7_1).f0) ≤ ((rd_T79 l0 (ji8)).f0)
          · rw [if_pos c11] at H
            have c11b0 : decide (((rd_T79 l0 x7_1).f0) ≤ ((rd_T79 l0 (ji8)).f0)) = true := zR c11; clear c11; obtain rfl := Option.some.inj H
            have p153 : 0 ≤ (x7_1 : Int) := zP (by assumption)
            have q153 : x7_1 < (l0.length : Int) := zP (by assumption)
            obtain ⟨ad153, e153, hx153_0, hx153_1⟩ := at_T79 HR0.out x7_1 p153 q153
            cases e153
            replace hx153_0 := (HB.out.cell (zQ w _ hx153_0)).trans hx153_0
            replace hx153_1 := (HB.out.cell (zQ w _ hx153_1)).trans hx153_1
            replace p153 := eq_true p153; replace q153 := eq_true q153
            go_wp2_with (first | ((with_reducible refine gate_dst (N := 4) rfl ?_); refine box_event ?hg (N := 4) ?hd (cs := #[.int .i64 0, .string (⟨#[]⟩ : ByteArray)]) (t := 79) ?hr ?_; (case hd => rfl); (case hg => rfl); (case hr => first | (go_simp; done) | (go_simp; rfl)); intro gb154 hg w12 hbox hb; have BK154 := yD (hbox); have GW154 := yD ((by rw [hg]; exact (below_size (kB HB)) : w.heap.size ≤ gb154)); have GE154 := yD ((by rw [hg]; exact (below_size (kB HB)) : w.heap.size ≤ gb154)); replace HB := yD (zC (kB HB) hb); clear hb hbox hg; obtain ⟨hcz13_0, hcz13_1⟩ := cz2 BK154.out; obtain ⟨hfz13_0, hfz13_1⟩ := fz2 BK154.out) | (go_at_call 66; (with_reducible refine (impl_within.calls ((rd_T79 l0 x7_1).f0) 0 255 true _ A5.out).mono ?_); rintro e w' ⟨rfl, ⟨nd, rfl⟩⟩; (try first | exact ⟨rfl, _, World.drewN_drewN _ _ _⟩ | exact ⟨rfl, _, Eq.trans (World.drewN_drewN _ _ _) (congrArg (World.drewN _) (Nat.add_assoc _ _ _))⟩); have p156 : 0 ≤ ((ji8) : Int) := zP (by assumption); have q156 : (ji8) < (l0.length : Int) := zP (by assumption); obtain ⟨ad156, e156, hx156_0, hx156_1⟩ := at_T79 HR0.out (ji8) p156 q156; obtain rfl : ad153 = ad156 := (by injection e156); have hn156_0 : ad153.block ≠ gb154 := Nat.ne_of_lt (Nat.lt_of_lt_of_le (by have := zQ _ _ hx156_0; first | rwa [add_block] at this | exact this) GW154.out); have hn156_1 : ad153.block ≠ gb154 := Nat.ne_of_lt (Nat.lt_of_lt_of_le (by have := zQ _ _ hx156_0; first | rwa [add_block] at this | exact this) GW154.out); replace hx156_0 := (HB.out.cell (zQ w _ hx156_0)).trans hx156_0; replace hx156_1 := (HB.out.cell (zQ w _ hx156_1)).trans hx156_1; replace hx156_0 := (cell_far (p := ⟨gb154, 0, none⟩) (by first | (rw [add_block]; exact hn156_0) | (show (Addr.add _ _).block ≠ _; rw [add_block]; exact hn156_0) | exact hn156_0) (.int .i64 ((rd_T79 l0 x7_1).f0))).trans hx156_0; replace hx156_1 := (cell_far (p := ⟨gb154, 0, none⟩) (by first | (rw [add_block]; exact hn156_0) | (show (Addr.add _ _).block ≠ _; rw [add_block]; exact hn156_0) | exact hn156_0) (.int .i64 ((rd_T79 l0 x7_1).f0))).trans hx156_1; replace hx156_0 := (cell_far (p := ⟨gb154, 1, none⟩) (by first | (rw [add_block]; exact hn156_1) | (show (Addr.add _ _).block ≠ _; rw [add_block]; exact hn156_1) | exact hn156_1) (.string ((rd_T79 l0 x7_1).f1))).trans hx156_0; replace hx156_1 := (cell_far (p := ⟨gb154, 1, none⟩) (by first | (rw [add_block]; exact hn156_1) | (show (Addr.add _ _).block ≠ _; rw [add_block]; exact hn156_1) | exact hn156_1) (.string ((rd_T79 l0 x7_1).f1))).trans hx156_1; (try have hy156_0 := fun (n_ : Nat) => (show ((((w12.drewN n_).setCell ⟨gb154, 0, none⟩ (.int .i64 ((rd_T79 l0 x7_1).f0))).setCell ⟨gb154, 1, none⟩ (.string ((rd_T79 l0 x7_1).f1)))).cell? _ = some _ from hx156_0)); (try have hy156_1 := fun (n_ : Nat) => (show ((((w12.drewN n_).setCell ⟨gb154, 0, none⟩ (.int .i64 ((rd_T79 l0 x7_1).f0))).setCell ⟨gb154, 1, none⟩ (.string ((rd_T79 l0 x7_1).f1)))).cell? _ = some _ from hx156_1)); clear hn156_0; clear hn156_1; replace p156 := eq_true p156; replace q156 := eq_true q156))
            repeat (go_quiet (first | ((with_reducible refine gate_dst (N := 4) rfl ?_); refine box_event ?hg (N := 4) ?hd (cs := #[.int .i64 0, .string (⟨#[]⟩ : ByteArray)]) (t := 79) ?hr ?_; (case hd => rfl); (case hg => rfl); (case hr => first | (go_simp; done) | (go_simp; rfl)); intro gb154 hg w12 hbox hb; have BK154 := yD (hbox); have GW154 := yD ((by rw [hg]; exact (below_size (kB HB)) : w.heap.size ≤ gb154)); have GE154 := yD ((by rw [hg]; exact (below_size (kB HB)) : w.heap.size ≤ gb154)); replace HB := yD (zC (kB HB) hb); clear hb hbox hg; obtain ⟨hcz13_0, hcz13_1⟩ := cz2 BK154.out; obtain ⟨hfz13_0, hfz13_1⟩ := fz2 BK154.out) | (go_at_call 66; (with_reducible refine (impl_within.calls ((rd_T79 l0 x7_1).f0) 0 255 true _ A5.out).mono ?_); rintro e w' ⟨rfl, ⟨nd, rfl⟩⟩; (try first | exact ⟨rfl, _, World.drewN_drewN _ _ _⟩ | exact ⟨rfl, _, Eq.trans (World.drewN_drewN _ _ _) (congrArg (World.drewN _) (Nat.add_assoc _ _ _))⟩); have p156 : 0 ≤ ((ji8) : Int) := zP (by assumption); have q156 : (ji8) < (l0.length : Int) := zP (by assumption); obtain ⟨ad156, e156, hx156_0, hx156_1⟩ := at_T79 HR0.out (ji8) p156 q156; obtain rfl : ad153 = ad156 := (by injection e156); have hn156_0 : ad153.block ≠ gb154 := Nat.ne_of_lt (Nat.lt_of_lt_of_le (by have := zQ _ _ hx156_0; first | rwa [add_block] at this | exact this) GW154.out); have hn156_1 : ad153.block ≠ gb154 := Nat.ne_of_lt (Nat.lt_of_lt_of_le (by have := zQ _ _ hx156_0; first | rwa [add_block] at this | exact this) GW154.out); replace hx156_0 := (HB.out.cell (zQ w _ hx156_0)).trans hx156_0; replace hx156_1 := (HB.out.cell (zQ w _ hx156_1)).trans hx156_1; replace hx156_0 := (cell_far (p := ⟨gb154, 0, none⟩) (by first | (rw [add_block]; exact hn156_0) | (show (Addr.add _ _).block ≠ _; rw [add_block]; exact hn156_0) | exact hn156_0) (.int .i64 ((rd_T79 l0 x7_1).f0))).trans hx156_0; replace hx156_1 := (cell_far (p := ⟨gb154, 0, none⟩) (by first | (rw [add_block]; exact hn156_0) | (show (Addr.add _ _).block ≠ _; rw [add_block]; exact hn156_0) | exact hn156_0) (.int .i64 ((rd_T79 l0 x7_1).f0))).trans hx156_1; replace hx156_0 := (cell_far (p := ⟨gb154, 1, none⟩) (by first | (rw [add_block]; exact hn156_1) | (show (Addr.add _ _).block ≠ _; rw [add_block]; exact hn156_1) | exact hn156_1) (.string ((rd_T79 l0 x7_1).f1))).trans hx156_0; replace hx156_1 := (cell_far (p := ⟨gb154, 1, none⟩) (by first | (rw [add_block]; exact hn156_1) | (show (Addr.add _ _).block ≠ _; rw [add_block]; exact hn156_1) | exact hn156_1) (.string ((rd_T79 l0 x7_1).f1))).trans hx156_1; (try have hy156_0 := fun (n_ : Nat) => (show ((((w12.drewN n_).setCell ⟨gb154, 0, none⟩ (.int .i64 ((rd_T79 l0 x7_1).f0))).setCell ⟨gb154, 1, none⟩ (.string ((rd_T79 l0 x7_1).f1)))).cell? _ = some _ from hx156_0)); (try have hy156_1 := fun (n_ : Nat) => (show ((((w12.drewN n_).setCell ⟨gb154, 0, none⟩ (.int .i64 ((rd_T79 l0 x7_1).f0))).setCell ⟨gb154, 1, none⟩ (.string ((rd_T79 l0 x7_1).f1)))).cell? _ = some _ from hx156_1)); clear hn156_0; clear hn156_1; replace p156 := eq_true p156; replace q156 := eq_true q156)); try go_wp2_with (first | ((with_reducible refine gate_dst (N := 4) rfl ?_); refine box_event ?hg (N := 4) ?hd (cs := #[.int .i64 0, .string (⟨#[]⟩ : ByteArray)]) (t := 79) ?hr ?_; (case hd => rfl); (case hg => rfl); (case hr => first | (go_simp; done) | (go_simp; rfl)); intro gb154 hg w12 hbox hb; have BK154 := yD (hbox); have GW154 := yD ((by rw [hg]; exact (below_size (kB HB)) : w.heap.size ≤ gb154)); have GE154 := yD ((by rw [hg]; exact (below_size (kB HB)) : w.heap.size ≤ gb154)); replace HB := yD (zC (kB HB) hb); clear hb hbox hg; obtain ⟨hcz13_0, hcz13_1⟩ := cz2 BK154.out; obtain ⟨hfz13_0, hfz13_1⟩ := fz2 BK154.out) | (go_at_call 66; (with_reducible refine (impl_within.calls ((rd_T79 l0 x7_1).f0) 0 255 true _ A5.out).mono ?_); rintro e w' ⟨rfl, ⟨nd, rfl⟩⟩; (try first | exact ⟨rfl, _, World.drewN_drewN _ _ _⟩ | exact ⟨rfl, _, Eq.trans (World.drewN_drewN _ _ _) (congrArg (World.drewN _) (Nat.add_assoc _ _ _))⟩); have p156 : 0 ≤ ((ji8) : Int) := zP (by assumption); have q156 : (ji8) < (l0.length : Int) := zP (by assumption); obtain ⟨ad156, e156, hx156_0, hx156_1⟩ := at_T79 HR0.out (ji8) p156 q156; obtain rfl : ad153 = ad156 := (by injection e156); have hn156_0 : ad153.block ≠ gb154 := Nat.ne_of_lt (Nat.lt_of_lt_of_le (by have := zQ _ _ hx156_0; first | rwa [add_block] at this | exact this) GW154.out); have hn156_1 : ad153.block ≠ gb154 := Nat.ne_of_lt (Nat.lt_of_lt_of_le (by have := zQ _ _ hx156_0; first | rwa [add_block] at this | exact this) GW154.out); replace hx156_0 := (HB.out.cell (zQ w _ hx156_0)).trans hx156_0; replace hx156_1 := (HB.out.cell (zQ w _ hx156_1)).trans hx156_1; replace hx156_0 := (cell_far (p := ⟨gb154, 0, none⟩) (by first | (rw [add_block]; exact hn156_0) | (show (Addr.add _ _).block ≠ _; rw [add_block]; exact hn156_0) | exact hn156_0) (.int .i64 ((rd_T79 l0 x7_1).f0))).trans hx156_0; replace hx156_1 := (cell_far (p := ⟨gb154, 0, none⟩) (by first | (rw [add_block]; exact hn156_0) | (show (Addr.add _ _).block ≠ _; rw [add_block]; exact hn156_0) | exact hn156_0) (.int .i64 ((rd_T79 l0 x7_1).f0))).trans hx156_1; replace hx156_0 := (cell_far (p := ⟨gb154, 1, none⟩) (by first | (rw [add_block]; exact hn156_1) | (show (Addr.add _ _).block ≠ _; rw [add_block]; exact hn156_1) | exact hn156_1) (.string ((rd_T79 l0 x7_1).f1))).trans hx156_0; replace hx156_1 := (cell_far (p := ⟨gb154, 1, none⟩) (by first | (rw [add_block]; exact hn156_1) | (show (Addr.add _ _).block ≠ _; rw [add_block]; exact hn156_1) | exact hn156_1) (.string ((rd_T79 l0 x7_1).f1))).trans hx156_1; (try have hy156_0 := fun (n_ : Nat) => (show ((((w12.drewN n_).setCell ⟨gb154, 0, none⟩ (.int .i64 ((rd_T79 l0 x7_1).f0))).setCell ⟨gb154, 1, none⟩ (.string ((rd_T79 l0 x7_1).f1)))).cell? _ = some _ from hx156_0)); (try have hy156_1 := fun (n_ : Nat) => (show ((((w12.drewN n_).setCell ⟨gb154, 0, none⟩ (.int .i64 ((rd_T79 l0 x7_1).f0))).setCell ⟨gb154, 1, none⟩ (.string ((rd_T79 l0 x7_1).f1)))).cell? _ = some _ from hx156_1)); clear hn156_0; clear hn156_1; replace p156 := eq_true p156; replace q156 := eq_true q156)))
            go_ret
            exact ⟨by first | rfl | (simp [errW_none, errW_some] <;> rfl) | (simp only [← hji8]; first | rfl | (simp [errW_none, errW_some] <;> rfl)) | (simp [*, errW_none, errW_some] <;> rfl), kR0 HB⟩
          ·
           rw [if_neg c11] at H
           have c11b0 : decide (((rd_T79 l0 x7_1).f0) ≤ ((rd_T79 l0 (ji8)).f0)) = false := zS c11; clear c11
           obtain ⟨t157, A140, H⟩ := zW_ H
           replace H : (if t157 = true then (impl_ValidPages.l0 k1 l0 l0 (l0.length : Int) (wrap64 (x7_1 + 1))) else (some false)) = some r := H
           have A14 := yD A140
           clear A140
           by_cases c15 : t157 = true
           ·
            subst c15
            replace H : (impl_ValidPages.l0 k1 l0 l0 (l0.length : Int) (wrap64 (x7_1 + 1))) = some r := (by rw [if_pos rfl] at H; exact H)
            have H' := yD H
            clear H
            have p153 : 0 ≤ (x7_1 : Int) := zP (by assumption)
            have q153 : x7_1 < (l0.length : Int) := zP (by assumption)
            obtain ⟨ad153, e153, hx153_0, hx153_1⟩ := at_T79 HR0.out x7_1 p153 q153
            cases e153
            replace hx153_0 := (HB.out.cell (zQ w _ hx153_0)).trans hx153_0
            replace hx153_1 := (HB.out.cell (zQ w _ hx153_1)).trans hx153_1
            replace p153 := eq_true p153; replace q153 := eq_true q153
            go_wp2_with (first | ((with_reducible refine gate_dst (N := 4) rfl ?_); refine box_event ?hg (N := 4) ?hd (cs := #[.int .i64 0, .string (⟨#[]⟩ : ByteArray)]) (t := 79) ?hr ?_; (case hd => rfl); (case hg => rfl); (case hr => first | (go_simp; done) | (go_simp; rfl)); intro gb154 hg w16 hbox hb; have BK154 := yD (hbox); have GW154 := yD ((by rw [hg]; exact (below_size (kB HB)) : w.heap.size ≤ gb154)); have GE154 := yD ((by rw [hg]; exact (below_size (kB HB)) : w.heap.size ≤ gb154)); replace HB := yD (zC (kB HB) hb); clear hb hbox hg; obtain ⟨hcz17_0, hcz17_1⟩ := cz2 BK154.out; obtain ⟨hfz17_0, hfz17_1⟩ := fz2 BK154.out) | (go_at_call 66; (with_reducible refine (impl_within.calls ((rd_T79 l0 x7_1).f0) 0 255 true _ A5.out).mono ?_); rintro e w' ⟨rfl, ⟨nd, rfl⟩⟩; (try first | exact ⟨rfl, _, World.drewN_drewN _ _ _⟩ | exact ⟨rfl, _, Eq.trans (World.drewN_drewN _ _ _) (congrArg (World.drewN _) (Nat.add_assoc _ _ _))⟩); have p156 : 0 ≤ ((ji8) : Int) := zP (by assumption); have q156 : (ji8) < (l0.length : Int) := zP (by assumption); obtain ⟨ad156, e156, hx156_0, hx156_1⟩ := at_T79 HR0.out (ji8) p156 q156; obtain rfl : ad153 = ad156 := (by injection e156); have hn156_0 : ad153.block ≠ gb154 := Nat.ne_of_lt (Nat.lt_of_lt_of_le (by have := zQ _ _ hx156_0; first | rwa [add_block] at this | exact this) GW154.out); have hn156_1 : ad153.block ≠ gb154 := Nat.ne_of_lt (Nat.lt_of_lt_of_le (by have := zQ _ _ hx156_0; first | rwa [add_block] at this | exact this) GW154.out); replace hx156_0 := (HB.out.cell (zQ w _ hx156_0)).trans hx156_0; replace hx156_1 := (HB.out.cell (zQ w _ hx156_1)).trans hx156_1; replace hx156_0 := (cell_far (p := ⟨gb154, 0, none⟩) (by first | (rw [add_block]; exact hn156_0) | (show (Addr.add _ _).block ≠ _; rw [add_block]; exact hn156_0) | exact hn156_0) (.int .i64 ((rd_T79 l0 x7_1).f0))).trans hx156_0; replace hx156_1 := (cell_far (p := ⟨gb154, 0, none⟩) (by first | (rw [add_block]; exact hn156_0) | (show (Addr.add _ _).block ≠ _; rw [add_block]; exact hn156_0) | exact hn156_0) (.int .i64 ((rd_T79 l0 x7_1).f0))).trans hx156_1; replace hx156_0 := (cell_far (p := ⟨gb154, 1, none⟩) (by first | (rw [add_block]; exact hn156_1) | (show (Addr.add _ _).block ≠ _; rw [add_block]; exact hn156_1) | exact hn156_1) (.string ((rd_T79 l0 x7_1).f1))).trans hx156_0; replace hx156_1 := (cell_far (p := ⟨gb154, 1, none⟩) (by first | (rw [add_block]; exact hn156_1) | (show (Addr.add _ _).block ≠ _; rw [add_block]; exact hn156_1) | exact hn156_1) (.string ((rd_T79 l0 x7_1).f1))).trans hx156_1; (try have hy156_0 := fun (n_ : Nat) => (show ((((w16.drewN n_).setCell ⟨gb154, 0, none⟩ (.int .i64 ((rd_T79 l0 x7_1).f0))).setCell ⟨gb154, 1, none⟩ (.string ((rd_T79 l0 x7_1).f1)))).cell? _ = some _ from hx156_0)); (try have hy156_1 := fun (n_ : Nat) => (show ((((w16.drewN n_).setCell ⟨gb154, 0, none⟩ (.int .i64 ((rd_T79 l0 x7_1).f0))).setCell ⟨gb154, 1, none⟩ (.string ((rd_T79 l0 x7_1).f1)))).cell? _ = some _ from hx156_1)); clear hn156_0; clear hn156_1; replace p156 := eq_true p156; replace q156 := eq_true q156) | (go_at_call 67; (with_reducible refine (impl_isBlock.calls ((rd_T79 l0 x7_1).f1) true _ A14.out).mono ?_); rintro e w' ⟨rfl, ⟨nd, rfl⟩⟩; (try first | exact ⟨rfl, _, World.drewN_drewN _ _ _⟩ | exact ⟨rfl, _, Eq.trans (World.drewN_drewN _ _ _) (congrArg (World.drewN _) (Nat.add_assoc _ _ _))⟩)))
            repeat (go_quiet (first | ((with_reducible refine gate_dst (N := 4) rfl ?_); refine box_event ?hg (N := 4) ?hd (cs := #[.int .i64 0, .string (⟨#[]⟩ : ByteArray)]) (t := 79) ?hr ?_; (case hd => rfl); (case hg => rfl); (case hr => first | (go_simp; done) | (go_simp; rfl)); intro gb154 hg w16 hbox hb; have BK154 := yD (hbox); have GW154 := yD ((by rw [hg]; exact (below_size (kB HB)) : w.heap.size ≤ gb154)); have GE154 := yD ((by rw [hg]; exact (below_size (kB HB)) : w.heap.size ≤ gb154)); replace HB := yD (zC (kB HB) hb); clear hb hbox hg; obtain ⟨hcz17_0, hcz17_1⟩ := cz2 BK154.out; obtain ⟨hfz17_0, hfz17_1⟩ := fz2 BK154.out) | (go_at_call 66; (with_reducible refine (impl_within.calls ((rd_T79 l0 x7_1).f0) 0 255 true _ A5.out).mono ?_); rintro e w' ⟨rfl, ⟨nd, rfl⟩⟩; (try first | exact ⟨rfl, _, World.drewN_drewN _ _ _⟩ | exact ⟨rfl, _, Eq.trans (World.drewN_drewN _ _ _) (congrArg (World.drewN _) (Nat.add_assoc _ _ _))⟩); have p156 : 0 ≤ ((ji8) : Int) := zP (by assumption); have q156 : (ji8) < (l0.length : Int) := zP (by assumption); obtain ⟨ad156, e156, hx156_0, hx156_1⟩ := at_T79 HR0.out (ji8) p156 q156; obtain rfl : ad153 = ad156 := (by injection e156); have hn156_0 : ad153.block ≠ gb154 := Nat.ne_of_lt (Nat.lt_of_lt_of_le (by have := zQ _ _ hx156_0; first | rwa [add_block] at this | exact this) GW154.out); have hn156_1 : ad153.block ≠ gb154 := Nat.ne_of_lt (Nat.lt_of_lt_of_le (by have := zQ _ _ hx156_0; first | rwa [add_block] at this | exact this) GW154.out); replace hx156_0 := (HB.out.cell (zQ w _ hx156_0)).trans hx156_0; replace hx156_1 := (HB.out.cell (zQ w _ hx156_1)).trans hx156_1; replace hx156_0 := (cell_far (p := ⟨gb154, 0, none⟩) (by first | (rw [add_block]; exact hn156_0) | (show (Addr.add _ _).block ≠ _; rw [add_block]; exact hn156_0) | exact hn156_0) (.int .i64 ((rd_T79 l0 x7_1).f0))).trans hx156_0; replace hx156_1 := (cell_far (p := ⟨gb154, 0, none⟩) (by first | (rw [add_block]; exact hn156_0) | (show (Addr.add _ _).block ≠ _; rw [add_block]; exact hn156_0) | exact hn156_0) (.int .i64 ((rd_T79 l0 x7_1).f0))).trans hx156_1; replace hx156_0 := (cell_far (p := ⟨gb154, 1, none⟩) (by first | (rw [add_block]; exact hn156_1) | (show (Addr.add _ _).block ≠ _; rw [add_block]; exact hn156_1) | exact hn156_1) (.string ((rd_T79 l0 x7_1).f1))).trans hx156_0; replace hx156_1 := (cell_far (p := ⟨gb154, 1, none⟩) (by first | (rw [add_block]; exact hn156_1) | (show (Addr.add _ _).block ≠ _; rw [add_block]; exact hn156_1) | exact hn156_1) (.string ((rd_T79 l0 x7_1).f1))).trans hx156_1; (try have hy156_0 := fun (n_ : Nat) => (show ((((w16.drewN n_).setCell ⟨gb154, 0, none⟩ (.int .i64 ((rd_T79 l0 x7_1).f0))).setCell ⟨gb154, 1, none⟩ (.string ((rd_T79 l0 x7_1).f1)))).cell? _ = some _ from hx156_0)); (try have hy156_1 := fun (n_ : Nat) => (show ((((w16.drewN n_).setCell ⟨gb154, 0, none⟩ (.int .i64 ((rd_T79 l0 x7_1).f0))).setCell ⟨gb154, 1, none⟩ (.string ((rd_T79 l0 x7_1).f1)))).cell? _ = some _ from hx156_1)); clear hn156_0; clear hn156_1; replace p156 := eq_true p156; replace q156 := eq_true q156) | (go_at_call 67; (with_reducible refine (impl_isBlock.calls ((rd_T79 l0 x7_1).f1) true _ A14.out).mono ?_); rintro e w' ⟨rfl, ⟨nd, rfl⟩⟩; (try first | exact ⟨rfl, _, World.drewN_drewN _ _ _⟩ | exact ⟨rfl, _, Eq.trans (World.drewN_drewN _ _ _) (congrArg (World.drewN _) (Nat.add_assoc _ _ _))⟩))); try go_wp2_with (first | ((with_reducible refine gate_dst (N := 4) rfl ?_); refine box_event ?hg (N := 4) ?hd (cs := #[.int .i64 0, .string (⟨#[]⟩ : ByteArray)]) (t := 79) ?hr ?_; (case hd => rfl); (case hg => rfl); (case hr => first | (go_simp; done) | (go_simp; rfl)); intro gb154 hg w16 hbox hb; have BK154 := yD (hbox); have GW154 := yD ((by rw [hg]; exact (below_size (kB HB)) : w.heap.size ≤ gb154)); have GE154 := yD ((by rw [hg]; exact (below_size (kB HB)) : w.heap.size ≤ gb154)); replace HB := yD (zC (kB HB) hb); clear hb hbox hg; obtain ⟨hcz17_0, hcz17_1⟩ := cz2 BK154.out; obtain ⟨hfz17_0, hfz17_1⟩ := fz2 BK154.out) | (go_at_call 66; (with_reducible refine (impl_within.calls ((rd_T79 l0 x7_1).f0) 0 255 true _ A5.out).mono ?_); rintro e w' ⟨rfl, ⟨nd, rfl⟩⟩; (try first | exact ⟨rfl, _, World.drewN_drewN _ _ _⟩ | exact ⟨rfl, _, Eq.trans (World.drewN_drewN _ _ _) (congrArg (World.drewN _) (Nat.add_assoc _ _ _))⟩); have p156 : 0 ≤ ((ji8) : Int) := zP (by assumption); have q156 : (ji8) < (l0.length : Int) := zP (by assumption); obtain ⟨ad156, e156, hx156_0, hx156_1⟩ := at_T79 HR0.out (ji8) p156 q156; obtain rfl : ad153 = ad156 := (by injection e156); have hn156_0 : ad153.block ≠ gb154 := Nat.ne_of_lt (Nat.lt_of_lt_of_le (by have := zQ _ _ hx156_0; first | rwa [add_block] at this | exact this) GW154.out); have hn156_1 : ad153.block ≠ gb154 := Nat.ne_of_lt (Nat.lt_of_lt_of_le (by have := zQ _ _ hx156_0; first | rwa [add_block] at this | exact this) GW154.out); replace hx156_0 := (HB.out.cell (zQ w _ hx156_0)).trans hx156_0; replace hx156_1 := (HB.out.cell (zQ w _ hx156_1)).trans hx156_1; replace hx156_0 := (cell_far (p := ⟨gb154, 0, none⟩) (by first | (rw [add_block]; exact hn156_0) | (show (Addr.add _ _).block ≠ _; rw [add_block]; exact hn156_0) | exact hn156_0) (.int .i64 ((rd_T79 l0 x7_1).f0))).trans hx156_0; replace hx156_1 := (cell_far (p := ⟨gb154, 0, none⟩) (by first | (rw [add_block]; exact hn156_0) | (show (Addr.add _ _).block ≠ _; rw [add_block]; exact hn156_0) | exact hn156_0) (.int .i64 ((rd_T79 l0 x7_1).f0))).trans hx156_1; replace hx156_0 := (cell_far (p := ⟨gb154, 1, none⟩) (by first | (rw [add_block]; exact hn156_1) | (show (Addr.add _ _).block ≠ _; rw [add_block]; exact hn156_1) | exact hn156_1) (.string ((rd_T79 l0 x7_1).f1))).trans hx156_0; replace hx156_1 := (cell_far (p := ⟨gb154, 1, none⟩) (by first | (rw [add_block]; exact hn156_1) | (show (Addr.add _ _).block ≠ _; rw [add_block]; exact hn156_1) | exact hn156_1) (.string ((rd_T79 l0 x7_1).f1))).trans hx156_1; (try have hy156_0 := fun (n_ : Nat) => (show ((((w16.drewN n_).setCell ⟨gb154, 0, none⟩ (.int .i64 ((rd_T79 l0 x7_1).f0))).setCell ⟨gb154, 1, none⟩ (.string ((rd_T79 l0 x7_1).f1)))).cell? _ = some _ from hx156_0)); (try have hy156_1 := fun (n_ : Nat) => (show ((((w16.drewN n_).setCell ⟨gb154, 0, none⟩ (.int .i64 ((rd_T79 l0 x7_1).f0))).setCell ⟨gb154, 1, none⟩ (.string ((rd_T79 l0 x7_1).f1)))).cell? _ = some _ from hx156_1)); clear hn156_0; clear hn156_1; replace p156 := eq_true p156; replace q156 := eq_true q156) | (go_at_call 67; (with_reducible refine (impl_isBlock.calls ((rd_T79 l0 x7_1).f1) true _ A14.out).mono ?_); rintro e w' ⟨rfl, ⟨nd, rfl⟩⟩; (try first | exact ⟨rfl, _, World.drewN_drewN _ _ _⟩ | exact ⟨rfl, _, Eq.trans (World.drewN_drewN _ _ _) (congrArg (World.drewN _) (Nat.add_assoc _ _ _))⟩))))
            go_roundg k1
            case measure => have := HK1.out; omega
            case rel => exact ⟨(wrap64 (x7_1 + 1)), (by first | rfl | (simp; done) | (simp [*]; done)), H', ⟨by have := HK1.out; omega⟩, ⟨kR0 HB⟩⟩
           · replace c15 := Bool.eq_false_iff.mpr c15
             subst c15
             replace H : (some false) = some r := (by rw [if_neg (show ¬ (false = true) by decide)] at H; exact H); obtain rfl := Option.some.inj H
             have p153 : 0 ≤ (x7_1 : Int) := zP (by assumption)
             have q153 : x7_1 < (l0.length : Int) := zP (by assumption)
             obtain ⟨ad153, e153, hx153_0, hx153_1⟩ := at_T79 HR0.out x7_1 p153 q153
             cases e153
             replace hx153_0 := (HB.out.cell (zQ w _ hx153_0)).trans hx153_0
             replace hx153_1 := (HB.out.cell (zQ w _ hx153_1)).trans hx153_1
             replace p153 := eq_true p153; replace q153 := eq_true q153
             go_wp2_with (first | ((with_reducible refine gate_dst (N := 4) rfl ?_); refine box_event ?hg (N := 4) ?hd (cs := #[.int .i64 0, .string (⟨#[]⟩ : ByteArray)]) (t := 79) ?hr ?_; (case hd => rfl); (case hg => rfl); (case hr => first | (go_simp; done) | (go_simp; rfl)); intro gb154 hg w18 hbox hb; have BK154 := yD (hbox); have GW154 := yD ((by rw [hg]; exact (below_size (kB HB)) : w.heap.size ≤ gb154)); have GE154 := yD ((by rw [hg]; exact (below_size (kB HB)) : w.heap.size ≤ gb154)); replace HB := yD (zC (kB HB) hb); clear hb hbox hg; obtain ⟨hcz19_0, hcz19_1⟩ := cz2 BK154.out; obtain ⟨hfz19_0, hfz19_1⟩ := fz2 BK154.out) | (go_at_call 66; (with_reducible refine (impl_within.calls ((rd_T79 l0 x7_1).f0) 0 255 true _ A5.out).mono ?_); rintro e w' ⟨rfl, ⟨nd, rfl⟩⟩; (try first | exact ⟨rfl, _, World.drewN_drewN _ _ _⟩ | exact ⟨rfl, _, Eq.trans (World.drewN_drewN _ _ _) (congrArg (World.drewN _) (Nat.add_assoc _ _ _))⟩); have p156 : 0 ≤ ((ji8) : Int) := zP (by assumption); have q156 : (ji8) < (l0.length : Int) := zP (by assumption); obtain ⟨ad156, e156, hx156_0, hx156_1⟩ := at_T79 HR0.out (ji8) p156 q156; obtain rfl : ad153 = ad156 := (by injection e156); have hn156_0 : ad153.block ≠ gb154 := Nat.ne_of_lt (Nat.lt_of_lt_of_le (by have := zQ _ _ hx156_0; first | rwa [add_block] at this | exact this) GW154.out); have hn156_1 : ad153.block ≠ gb154 := Nat.ne_of_lt (Nat.lt_of_lt_of_le (by have := zQ _ _ hx156_0; first | rwa [add_block] at this | exact this) GW154.out); replace hx156_0 := (HB.out.cell (zQ w _ hx156_0)).trans hx156_0; replace hx156_1 := (HB.out.cell (zQ w _ hx156_1)).trans hx156_1; replace hx156_0 := (cell_far (p := ⟨gb154, 0, none⟩) (by first | (rw [add_block]; exact hn156_0) | (show (Addr.add _ _).block ≠ _; rw [add_block]; exact hn156_0) | exact hn156_0) (.int .i64 ((rd_T79 l0 x7_1).f0))).trans hx156_0; replace hx156_1 := (cell_far (p := ⟨gb154, 0, none⟩) (by first | (rw [add_block]; exact hn156_0) | (show (Addr.add _ _).block ≠ _; rw [add_block]; exact hn156_0) | exact hn156_0) (.int .i64 ((rd_T79 l0 x7_1).f0))).trans hx156_1; replace hx156_0 := (cell_far (p := ⟨gb154, 1, none⟩) (by first | (rw [add_block]; exact hn156_1) | (show (Addr.add _ _).block ≠ _; rw [add_block]; exact hn156_1) | exact hn156_1) (.string ((rd_T79 l0 x7_1).f1))).trans hx156_0; replace hx156_1 := (cell_far (p := ⟨gb154, 1, none⟩) (by first | (rw [add_block]; exact hn156_1) | (show (Addr.add _ _).block ≠ _; rw [add_block]; exact hn156_1) | exact hn156_1) (.string ((rd_T79 l0 x7_1).f1))).trans hx156_1; (try have hy156_0 := fun (n_ : Nat) => (show ((((w18.drewN n_).setCell ⟨gb154, 0, none⟩ (.int .i64 ((rd_T79 l0 x7_1).f0))).setCell ⟨gb154, 1, none⟩ (.string ((rd_T79 l0 x7_1).f1)))).cell? _ = some _ from hx156_0)); (try have hy156_1 := fun (n_ : Nat) => (show ((((w18.drewN n_).setCell ⟨gb154, 0, none⟩ (.int .i64 ((rd_T79 l0 x7_1).f0))).setCell ⟨gb154, 1, none⟩ (.string ((rd_T79 l0 x7_1).f1)))).cell? _ = some _ from hx156_1)); clear hn156_0; clear hn156_1; replace p156 := eq_true p156; replace q156 := eq_true q156) | (go_at_call 67; (with_reducible refine (impl_isBlock.calls ((rd_T79 l0 x7_1).f1) false _ A14.out).mono ?_); rintro e w' ⟨rfl, ⟨nd, rfl⟩⟩; (try first | exact ⟨rfl, _, World.drewN_drewN _ _ _⟩ | exact ⟨rfl, _, Eq.trans (World.drewN_drewN _ _ _) (congrArg (World.drewN _) (Nat.add_assoc _ _ _))⟩)))
             repeat (go_quiet (first | ((with_reducible refine gate_dst (N := 4) rfl ?_); refine box_event ?hg (N := 4) ?hd (cs := #[.int .i64 0, .string (⟨#[]⟩ : ByteArray)]) (t := 79) ?hr ?_; (case hd => rfl); (case hg => rfl); (case hr => first | (go_simp; done) | (go_simp; rfl)); intro gb154 hg w18 hbox hb; have BK154 := yD (hbox); have GW154 := yD ((by rw [hg]; exact (below_size (kB HB)) : w.heap.size ≤ gb154)); have GE154 := yD ((by rw [hg]; exact (below_size (kB HB)) : w.heap.size ≤ gb154)); replace HB := yD (zC (kB HB) hb); clear hb hbox hg; obtain ⟨hcz19_0, hcz19_1⟩ := cz2 BK154.out; obtain ⟨hfz19_0, hfz19_1⟩ := fz2 BK154.out) | (go_at_call 66; (with_reducible refine (impl_within.calls ((rd_T79 l0 x7_1).f0) 0 255 true _ A5.out).mono ?_); rintro e w' ⟨rfl, ⟨nd, rfl⟩⟩; (try first | exact ⟨rfl, _, World.drewN_drewN _ _ _⟩ | exact ⟨rfl, _, Eq.trans (World.drewN_drewN _ _ _) (congrArg (World.drewN _) (Nat.add_assoc _ _ _))⟩); have p156 : 0 ≤ ((ji8) : Int) := zP (by assumption); have q156 : (ji8) < (l0.length : Int) := zP (by assumption); obtain ⟨ad156, e156, hx156_0, hx156_1⟩ := at_T79 HR0.out (ji8) p156 q156; obtain rfl : ad153 = ad156 := (by injection e156); have hn156_0 : ad153.block ≠ gb154 := Nat.ne_of_lt (Nat.lt_of_lt_of_le (by have := zQ _ _ hx156_0; first | rwa [add_block] at this | exact this) GW154.out); have hn156_1 : ad153.block ≠ gb154 := Nat.ne_of_lt (Nat.lt_of_lt_of_le (by have := zQ _ _ hx156_0; first | rwa [add_block] at this | exact this) GW154.out); replace hx156_0 := (HB.out.cell (zQ w _ hx156_0)).trans hx156_0; replace hx156_1 := (HB.out.cell (zQ w _ hx156_1)).trans hx156_1; replace hx156_0 := (cell_far (p := ⟨gb154, 0, none⟩) (by first | (rw [add_block]; exact hn156_0) | (show (Addr.add _ _).block ≠ _; rw [add_block]; exact hn156_0) | exact hn156_0) (.int .i64 ((rd_T79 l0 x7_1).f0))).trans hx156_0; replace hx156_1 := (cell_far (p := ⟨gb154, 0, none⟩) (by first | (rw [add_block]; exact hn156_0) | (show (Addr.add _ _).block ≠ _; rw [add_block]; exact hn156_0) | exact hn156_0) (.int .i64 ((rd_T79 l0 x7_1).f0))).trans hx156_1; replace hx156_0 := (cell_far (p := ⟨gb154, 1, none⟩) (by first | (rw [add_block]; exact hn156_1) | (show (Addr.add _ _).block ≠ _; rw [add_block]; exact hn156_1) | exact hn156_1) (.string ((rd_T79 l0 x7_1).f1))).trans hx156_0; replace hx156_1 := (cell_far (p := ⟨gb154, 1, none⟩) (by first | (rw [add_block]; exact hn156_1) | (show (Addr.add _ _).block ≠ _; rw [add_block]; exact hn156_1) | exact hn156_1) (.string ((rd_T79 l0 x7_1).f1))).trans hx156_1; (try have hy156_0 := fun (n_ : Nat) => (show ((((w18.drewN n_).setCell ⟨gb154, 0, none⟩ (.int .i64 ((rd_T79 l0 x7_1).f0))).setCell ⟨gb154, 1, none⟩ (.string ((rd_T79 l0 x7_1).f1)))).cell? _ = some _ from hx156_0)); (try have hy156_1 := fun (n_ : Nat) => (show ((((w18.drewN n_).setCell ⟨gb154, 0, none⟩ (.int .i64 ((rd_T79 l0 x7_1).f0))).setCell ⟨gb154, 1, none⟩ (.string ((rd_T79 l0 x7_1).f1)))).cell? _ = some _ from hx156_1)); clear hn156_0; clear hn156_1; replace p156 := eq_true p156; replace q156 := eq_true q156) | (go_at_call 67; (with_reducible refine (impl_isBlock.calls ((rd_T79 l0 x7_1).f1) false _ A14.out).mono ?_); rintro e w' ⟨rfl, ⟨nd, rfl⟩⟩; (try first | exact ⟨rfl, _, World.drewN_drewN _ _ _⟩ | exact ⟨rfl, _, Eq.trans (World.drewN_drewN _ _ _) (congrArg (World.drewN _) (Nat.add_assoc _ _ _))⟩))); try go_wp2_with (first | ((with_reducible refine gate_dst (N := 4) rfl ?_); refine box_event ?hg (N := 4) ?hd (cs := #[.int .i64 0, .string (⟨#[]⟩ : ByteArray)]) (t := 79) ?hr ?_; (case hd => rfl); (case hg => rfl); (case hr => first | (go_simp; done) | (go_simp; rfl)); intro gb154 hg w18 hbox hb; have BK154 := yD (hbox); have GW154 := yD ((by rw [hg]; exact (below_size (kB HB)) : w.heap.size ≤ gb154)); have GE154 := yD ((by rw [hg]; exact (below_size (kB HB)) : w.heap.size ≤ gb154)); replace HB := yD (zC (kB HB) hb); clear hb hbox hg; obtain ⟨hcz19_0, hcz19_1⟩ := cz2 BK154.out; obtain ⟨hfz19_0, hfz19_1⟩ := fz2 BK154.out) | (go_at_call 66; (with_reducible refine (impl_within.calls ((rd_T79 l0 x7_1).f0) 0 255 true _ A5.out).mono ?_); rintro e w' ⟨rfl, ⟨nd, rfl⟩⟩; (try first | exact ⟨rfl, _, World.drewN_drewN _ _ _⟩ | exact ⟨rfl, _, Eq.trans (World.drewN_drewN _ _ _) (congrArg (World.drewN _) (Nat.add_assoc _ _ _))⟩); have p156 : 0 ≤ ((ji8) : Int) := zP (by assumption); have q156 : (ji8) < (l0.length : Int) := zP (by assumption); obtain ⟨ad156, e156, hx156_0, hx156_1⟩ := at_T79 HR0.out (ji8) p156 q156; obtain rfl : ad153 = ad156 := (by injection e156); have hn156_0 : ad153.block ≠ gb154 := Nat.ne_of_lt (Nat.lt_of_lt_of_le (by have := zQ _ _ hx156_0; first | rwa [add_block] at this | exact this) GW154.out); have hn156_1 : ad153.block ≠ gb154 := Nat.ne_of_lt (Nat.lt_of_lt_of_le (by have := zQ _ _ hx156_0; first | rwa [add_block] at this | exact this) GW154.out); replace hx156_0 := (HB.out.cell (zQ w _ hx156_0)).trans hx156_0; replace hx156_1 := (HB.out.cell (zQ w _ hx156_1)).trans hx156_1; replace hx156_0 := (cell_far (p := ⟨gb154, 0, none⟩) (by first | (rw [add_block]; exact hn156_0) | (show (Addr.add _ _).block ≠ _; rw [add_block]; exact hn156_0) | exact hn156_0) (.int .i64 ((rd_T79 l0 x7_1).f0))).trans hx156_0; replace hx156_1 := (cell_far (p := ⟨gb154, 0, none⟩) (by first | (rw [add_block]; exact hn156_0) | (show (Addr.add _ _).block ≠ _; rw [add_block]; exact hn156_0) | exact hn156_0) (.int .i64 ((rd_T79 l0 x7_1).f0))).trans hx156_1; replace hx156_0 := (cell_far (p := ⟨gb154, 1, none⟩) (by first | (rw [add_block]; exact hn156_1) | (show (Addr.add _ _).block ≠ _; rw [add_block]; exact hn156_1) | exact hn156_1) (.string ((rd_T79 l0 x7_1).f1))).trans hx156_0; replace hx156_1 := (cell_far (p := ⟨gb154, 1, none⟩) (by first | (rw [add_block]; exact hn156_1) | (show (Addr.add _ _).block ≠ _; rw [add_block]; exact hn156_1) | exact hn156_1) (.string ((rd_T79 l0 x7_1).f1))).trans hx156_1; (try have hy156_0 := fun (n_ : Nat) => (show ((((w18.drewN n_).setCell ⟨gb154, 0, none⟩ (.int .i64 ((rd_T79 l0 x7_1).f0))).setCell ⟨gb154, 1, none⟩ (.string ((rd_T79 l0 x7_1).f1)))).cell? _ = some _ from hx156_0)); (try have hy156_1 := fun (n_ : Nat) => (show ((((w18.drewN n_).setCell ⟨gb154, 0, none⟩ (.int .i64 ((rd_T79 l0 x7_1).f0))).setCell ⟨gb154, 1, none⟩ (.string ((rd_T79 l0 x7_1).f1)))).cell? _ = some _ from hx156_1)); clear hn156_0; clear hn156_1; replace p156 := eq_true p156; replace q156 := eq_true q156) | (go_at_call 67; (with_reducible refine (impl_isBlock.calls ((rd_T79 l0 x7_1).f1) false _ A14.out).mono ?_); rintro e w' ⟨rfl, ⟨nd, rfl⟩⟩; (try first | exact ⟨rfl, _, World.drewN_drewN _ _ _⟩ | exact ⟨rfl, _, Eq.trans (World.drewN_drewN _ _ _) (congrArg (World.drewN _) (Nat.add_assoc _ _ _))⟩))))
             go_ret
             exact ⟨by first | rfl | (simp [errW_none, errW_some] <;> rfl) | (simp only [← hji8]; first | rfl | (simp [errW_none, errW_some] <;> rfl)) | (simp [*, errW_none, errW_some] <;> rfl), kR0 HB⟩
         · rw [if_neg c10] at H
           exact absurd H (by simp)
        · rw [if_neg c9] at H
          exact absurd H (by simp)
       ·
        rw [if_neg c7] at H
        have c7b0 : decide (0 < x7_1) = false := zS c7; clear c7
        obtain ⟨t158, A200, H⟩ := zW_ H
        replace H : (if t158 = true then (impl_ValidPages.l0 k1 l0 l0 (l0.length : Int) (wrap64 (x7_1 + 1))) else (some false)) = some r := H
        have A20 := yD A200
        clear A200
        by_cases c21 : t158 = true
        ·
         subst c21
         replace H : (impl_ValidPages.l0 k1 l0 l0 (l0.length : Int) (wrap64 (x7_1 + 1))) = some r := (by rw [if_pos rfl] at H; exact H)
         have H' := yD H
         clear H
         have p153 : 0 ≤ (x7_1 : Int) := zP (by assumption)
         have q153 : x7_1 < (l0.length : Int) := zP (by assumption)
         obtain ⟨ad153, e153, hx153_0, hx153_1⟩ := at_T79 HR0.out x7_1 p153 q153
         cases e153
         replace hx153_0 := (HB.out.cell (zQ w _ hx153_0)).trans hx153_0
         replace hx153_1 := (HB.out.cell (zQ w _ hx153_1)).trans hx153_1
         replace p153 := eq_true p153; replace q153 := eq_true q153
         go_wp2_with (first | ((with_reducible refine gate_dst (N := 4) rfl ?_); refine box_event ?hg (N := 4) ?hd (cs := #[.int .i64 0, .string (⟨#[]⟩ : ByteArray)]) (t := 79) ?hr ?_; (case hd => rfl); (case hg => rfl); (case hr => first | (go_simp; done) | (go_simp; rfl)); intro gb154 hg w22 hbox hb; have BK154 := yD (hbox); have GW154 := yD ((by rw [hg]; exact (below_size (kB HB)) : w.heap.size ≤ gb154)); have GE154 := yD ((by rw [hg]; exact (below_size (kB HB)) : w.heap.size ≤ gb154)); replace HB := yD (zC (kB HB) hb); clear hb hbox hg; obtain ⟨hcz23_0, hcz23_1⟩ := cz2 BK154.out; obtain ⟨hfz23_0, hfz23_1⟩ := fz2 BK154.out) | (go_at_call 66; (with_reducible refine (impl_within.calls ((rd_T79 l0 x7_1).f0) 0 255 true _ A5.out).mono ?_); rintro e w' ⟨rfl, ⟨nd, rfl⟩⟩; (try first | exact ⟨rfl, _, World.drewN_drewN _ _ _⟩ | exact ⟨rfl, _, Eq.trans (World.drewN_drewN _ _ _) (congrArg (World.drewN _) (Nat.add_assoc _ _ _))⟩)) | (go_at_call 67; (with_reducible refine (impl_isBlock.calls ((rd_T79 l0 x7_1).f1) true _ A20.out).mono ?_); rintro e w' ⟨rfl, ⟨nd, rfl⟩⟩; (try first | exact ⟨rfl, _, World.drewN_drewN _ _ _⟩ | exact ⟨rfl, _, Eq.trans (World.drewN_drewN _ _ _) (congrArg (World.drewN _) (Nat.add_assoc _ _ _))⟩)))
         repeat (go_quiet (first | ((with_reducible refine gate_dst (N := 4) rfl ?_); refine box_event ?hg (N := 4) ?hd (cs := #[.int .i64 0, .string (⟨#[]⟩ : ByteArray)]) (t := 79) ?hr ?_; (case hd => rfl); (case hg => rfl); (case hr => first | (go_simp; done) | (go_simp; rfl)); intro gb154 hg w22 hbox hb; have BK154 := yD (hbox); have GW154 := yD ((by rw [hg]; exact (below_size (kB HB)) : w.heap.size ≤ gb154)); have GE154 := yD ((by rw [hg]; exact (below_size (kB HB)) : w.heap.size ≤ gb154)); replace HB := yD (zC (kB HB) hb); clear hb hbox hg; obtain ⟨hcz23_0, hcz23_1⟩ := cz2 BK154.out; obtain ⟨hfz23_0, hfz23_1⟩ := fz2 BK154.out) | (go_at_call 66; (with_reducible refine (impl_within.calls ((rd_T79 l0 x7_1).f0) 0 255 true _ A5.out).mono ?_); rintro e w' ⟨rfl, ⟨nd, rfl⟩⟩; (try first | exact ⟨rfl, _, World.drewN_drewN _ _ _⟩ | exact ⟨rfl, _, Eq.trans (World.drewN_drewN _ _ _) (congrArg (World.drewN _) (Nat.add_assoc _ _ _))⟩)) | (go_at_call 67; (with_reducible refine (impl_isBlock.calls ((rd_T79 l0 x7_1).f1) true _ A20.out).mono ?_); rintro e w' ⟨rfl, ⟨nd, rfl⟩⟩; (try first | exact ⟨rfl, _, World.drewN_drewN _ _ _⟩ | exact ⟨rfl, _, Eq.trans (World.drewN_drewN _ _ _) (congrArg (World.drewN _) (Nat.add_assoc _ _ _))⟩))); try go_wp2_with (first | ((with_reducible refine gate_dst (N := 4) rfl ?_); refine box_event ?hg (N := 4) ?hd (cs := #[.int .i64 0, .string (⟨#[]⟩ : ByteArray)]) (t := 79) ?hr ?_; (case hd => rfl); (case hg => rfl); (case hr => first | (go_simp; done) | (go_simp; rfl)); intro gb154 hg w22 hbox hb; have BK154 := yD (hbox); have GW154 := yD ((by rw [hg]; exact (below_size (kB HB)) : w.heap.size ≤ gb154)); have GE154 := yD ((by rw [hg]; exact (below_size (kB HB)) : w.heap.size ≤ gb154)); replace HB := yD (zC (kB HB) hb); clear hb hbox hg; obtain ⟨hcz23_0, hcz23_1⟩ := cz2 BK154.out; obtain ⟨hfz23_0, hfz23_1⟩ := fz2 BK154.out) | (go_at_call 66; (with_reducible refine (impl_within.calls ((rd_T79 l0 x7_1).f0) 0 255 true _ A5.out).mono ?_); rintro e w' ⟨rfl, ⟨nd, rfl⟩⟩; (try first | exact ⟨rfl, _, World.drewN_drewN _ _ _⟩ | exact ⟨rfl, _, Eq.trans (World.drewN_drewN _ _ _) (congrArg (World.drewN _) (Nat.add_assoc _ _ _))⟩)) | (go_at_call 67; (with_reducible refine (impl_isBlock.calls ((rd_T79 l0 x7_1).f1) true _ A20.out).mono ?_); rintro e w' ⟨rfl, ⟨nd, rfl⟩⟩; (try first | exact ⟨rfl, _, World.drewN_drewN _ _ _⟩ | exact ⟨rfl, _, Eq.trans (World.drewN_drewN _ _ _) (congrArg (World.drewN _) (Nat.add_assoc _ _ _))⟩))))
         go_roundg k1
         case measure => have := HK1.out; omega
         case rel => exact ⟨(wrap64 (x7_1 + 1)), (by first | rfl | (simp; done) | (simp [*]; done)), H', ⟨by have := HK1.out; omega⟩, ⟨kR0 HB⟩⟩
        ·
         replace c21 := Bool.eq_false_iff.mpr c21
         subst c21
         replace H : (some false) = some r := (by rw [if_neg (show ¬ (false = true) by decide)] at H; exact H); obtain rfl := Option.some.inj H
         have p153 : 0 ≤ (x7_1 : Int) := zP (by assumption)
         have q153 : x7_1 < (l0.length : Int) := zP (by assumption)
         obtain ⟨ad153, e153, hx153_0, hx153_1⟩ := at_T79 HR0.out x7_1 p153 q153
         cases e153
         replace hx153_0 := (HB.out.cell (zQ w _ hx153_0)).trans hx153_0
         replace hx153_1 := (HB.out.cell (zQ w _ hx153_1)).trans hx153_1
         replace p153 := eq_true p153; replace q153 := eq_true q153
         go_wp2_with (first | ((with_reducible refine gate_dst (N := 4) rfl ?_); refine box_event ?hg (N := 4) ?hd (cs := #[.int .i64 0, .string (⟨#[]⟩ : ByteArray)]) (t := 79) ?hr ?_; (case hd => rfl); (case hg => rfl); (case hr => first | (go_simp; done) | (go_simp; rfl)); intro gb154 hg w24 hbox hb; have BK154 := yD (hbox); have GW154 := yD ((by rw [hg]; exact (below_size (kB HB)) : w.heap.size ≤ gb154)); have GE154 := yD ((by rw [hg]; exact (below_size (kB HB)) : w.heap.size ≤ gb154)); replace HB := yD (zC (kB HB) hb); clear hb hbox hg; obtain ⟨hcz25_0, hcz25_1⟩ := cz2 BK154.out; obtain ⟨hfz25_0, hfz25_1⟩ := fz2 BK154.out) | (go_at_call 66; (with_reducible refine (impl_within.calls ((rd_T79 l0 x7_1).f0) 0 255 true _ A5.out).mono ?_); rintro e w' ⟨rfl, ⟨nd, rfl⟩⟩; (try first | exact ⟨rfl, _, World.drewN_drewN _ _ _⟩ | exact ⟨rfl, _, Eq.trans (World.drewN_drewN _ _ _) (congrArg (World.drewN _) (Nat.add_assoc _ _ _))⟩)) | (go_at_call 67; (with_reducible refine (impl_isBlock.calls ((rd_T79 l0 x7_1).f1) false _ A20.out).mono ?_); rintro e w' ⟨rfl, ⟨nd, rfl⟩⟩; (try first | exact ⟨rfl, _, World.drewN_drewN _ _ _⟩ | exact ⟨rfl, _, Eq.trans (World.drewN_drewN _ _ _) (congrArg (World.drewN _) (Nat.add_assoc _ _ _))⟩)))
         repeat (go_quiet (first | ((with_reducible refine gate_dst (N := 4) rfl ?_); refine box_event ?hg (N := 4) ?hd (cs := #[.int .i64 0, .string (⟨#[]⟩ : ByteArray)]) (t := 79) ?hr ?_; (case hd => rfl); (case hg => rfl); (case hr => first | (go_simp; done) | (go_simp; rfl)); intro gb154 hg w24 hbox hb; have BK154 := yD (hbox); have GW154 := yD ((by rw [hg]; exact (below_size (kB HB)) : w.heap.size ≤ gb154)); have GE154 := yD ((by rw [hg]; exact (below_size (kB HB)) : w.heap.size ≤ gb154)); replace HB := yD (zC (kB HB) hb); clear hb hbox hg; obtain ⟨hcz25_0, hcz25_1⟩ := cz2 BK154.out; obtain ⟨hfz25_0, hfz25_1⟩ := fz2 BK154.out) | (go_at_call 66; (with_reducible refine (impl_within.calls ((rd_T79 l0 x7_1).f0) 0 255 true _ A5.out).mono ?_); rintro e w' ⟨rfl, ⟨nd, rfl⟩⟩; (try first | exact ⟨rfl, _, World.drewN_drewN _ _ _⟩ | exact ⟨rfl, _, Eq.trans (World.drewN_drewN _ _ _) (congrArg (World.drewN _) (Nat.add_assoc _ _ _))⟩)) | (go_at_call 67; (with_reducible refine (impl_isBlock.calls ((rd_T79 l0 x7_1).f1) false _ A20.out).mono ?_); rintro e w' ⟨rfl, ⟨nd, rfl⟩⟩; (try first | exact ⟨rfl, _, World.drewN_drewN _ _ _⟩ | exact ⟨rfl, _, Eq.trans (World.drewN_drewN _ _ _) (congrArg (World.drewN _) (Nat.add_assoc _ _ _))⟩))); try go_wp2_with (first | ((with_reducible refine gate_dst (N := 4) rfl ?_); refine box_event ?hg (N := 4) ?hd (cs := #[.int .i64 0, .string (⟨#[]⟩ : ByteArray)]) (t := 79) ?hr ?_; (case hd => rfl); (case hg => rfl); (case hr => first | (go_simp; done) | (go_simp; rfl)); intro gb154 hg w24 hbox hb; have BK154 := yD (hbox); have GW154 := yD ((by rw [hg]; exact (below_size (kB HB)) : w.heap.size ≤ gb154)); have GE154 := yD ((by rw [hg]; exact (below_size (kB HB)) : w.heap.size ≤ gb154)); replace HB := yD (zC (kB HB) hb); clear hb hbox hg; obtain ⟨hcz25_0, hcz25_1⟩ := cz2 BK154.out; obtain ⟨hfz25_0, hfz25_1⟩ := fz2 BK154.out) | (go_at_call 66; (with_reducible refine (impl_within.calls ((rd_T79 l0 x7_1).f0) 0 255 true _ A5.out).mono ?_); rintro e w' ⟨rfl, ⟨nd, rfl⟩⟩; (try first | exact ⟨rfl, _, World.drewN_drewN _ _ _⟩ | exact ⟨rfl, _, Eq.trans (World.drewN_drewN _ _ _) (congrArg (World.drewN _) (Nat.add_assoc _ _ _))⟩)) | (go_at_call 67; (with_reducible refine (impl_isBlock.calls ((rd_T79 l0 x7_1).f1) false _ A20.out).mono ?_); rintro e w' ⟨rfl, ⟨nd, rfl⟩⟩; (try first | exact ⟨rfl, _, World.drewN_drewN _ _ _⟩ | exact ⟨rfl, _, Eq.trans (World.drewN_drewN _ _ _) (congrArg (World.drewN _) (Nat.add_assoc _ _ _))⟩))))
         go_ret
         exact ⟨by first | rfl | (simp <;> rfl) | (simp [*] <;> rfl), kR0 HB⟩
      ·
       replace c6 := Bool.eq_false_iff.mpr c6
       subst c6
       replace H : (some false) = some r := (by rw [if_neg (show ¬ (false = true) by decide)] at H; exact H); obtain rfl := Option.some.inj H
       have p153 : 0 ≤ (x7_1 : Int) := zP (by assumption)
       have q153 : x7_1 < (l0.length : Int) := zP (by assumption)
       obtain ⟨ad153, e153, hx153_0, hx153_1⟩ := at_T79 HR0.out x7_1 p153 q153
       cases e153
       replace hx153_0 := (HB.out.cell (zQ w _ hx153_0)).trans hx153_0
       replace hx153_1 := (HB.out.cell (zQ w _ hx153_1)).trans hx153_1
       replace p153 := eq_true p153; replace q153 := eq_true q153
       go_wp2_with (first | ((with_reducible refine gate_dst (N := 4) rfl ?_); refine box_event ?hg (N := 4) ?hd (cs := #[.int .i64 0, .string (⟨#[]⟩ : ByteArray)]) (t := 79) ?hr ?_; (case hd => rfl); (case hg => rfl); (case hr => first | (go_simp; done) | (go_simp; rfl)); intro gb154 hg w26 hbox hb; have BK154 := yD (hbox); have GW154 := yD ((by rw [hg]; exact (below_size (kB HB)) : w.heap.size ≤ gb154)); have GE154 := yD ((by rw [hg]; exact (below_size (kB HB)) : w.heap.size ≤ gb154)); replace HB := yD (zC (kB HB) hb); clear hb hbox hg; obtain ⟨hcz27_0, hcz27_1⟩ := cz2 BK154.out; obtain ⟨hfz27_0, hfz27_1⟩ := fz2 BK154.out) | (go_at_call 66; (with_reducible refine (impl_within.calls ((rd_T79 l0 x7_1).f0) 0 255 false _ A5.out).mono ?_); rintro e w' ⟨rfl, ⟨nd, rfl⟩⟩; (try first | exact ⟨rfl, _, World.drewN_drewN _ _ _⟩ | exact ⟨rfl, _, Eq.trans (World.drewN_drewN _ _ _) (congrArg (World.drewN _) (Nat.add_assoc _ _ _))⟩)))
       repeat (go_quiet (first | ((with_reducible refine gate_dst (N := 4) rfl ?_); refine box_event ?hg (N := 4) ?hd (cs := #[.int .i64 0, .string (⟨#[]⟩ : ByteArray)]) (t := 79) ?hr ?_; (case hd => rfl); (case hg => rfl); (case hr => first | (go_simp; done) | (go_simp; rfl)); intro gb154 hg w26 hbox hb; have BK154 := yD (hbox); have GW154 := yD ((by rw [hg]; exact (below_size (kB HB)) : w.heap.size ≤ gb154)); have GE154 := yD ((by rw [hg]; exact (below_size (kB HB)) : w.heap.size ≤ gb154)); replace HB := yD (zC (kB HB) hb); clear hb hbox hg; obtain ⟨hcz27_0, hcz27_1⟩ := cz2 BK154.out; obtain ⟨hfz27_0, hfz27_1⟩ := fz2 BK154.out) | (go_at_call 66; (with_reducible refine (impl_within.calls ((rd_T79 l0 x7_1).f0) 0 255 false _ A5.out).mono ?_); rintro e w' ⟨rfl, ⟨nd, rfl⟩⟩; (try first | exact ⟨rfl, _, World.drewN_drewN _ _ _⟩ | exact ⟨rfl, _, Eq.trans (World.drewN_drewN _ _ _) (congrArg (World.drewN _) (Nat.add_assoc _ _ _))⟩))); try go_wp2_with (first | ((with_reducible refine gate_dst (N := 4) rfl ?_); refine box_event ?hg (N := 4) ?hd (cs := #[.int .i64 0, .string (⟨#[]⟩ : ByteArray)]) (t := 79) ?hr ?_; (case hd => rfl); (case hg => rfl); (case hr => first | (go_simp; done) | (go_simp; rfl)); intro gb154 hg w26 hbox hb; have BK154 := yD (hbox); have GW154 := yD ((by rw [hg]; exact (below_size (kB HB)) : w.heap.size ≤ gb154)); have GE154 := yD ((by rw [hg]; exact (below_size (kB HB)) : w.heap.size ≤ gb154)); replace HB := yD (zC (kB HB) hb); clear hb hbox hg; obtain ⟨hcz27_0, hcz27_1⟩ := cz2 BK154.out; obtain ⟨hfz27_0, hfz27_1⟩ := fz2 BK154.out) | (go_at_call 66; (with_reducible refine (impl_within.calls ((rd_T79 l0 x7_1).f0) 0 255 false _ A5.out).mono ?_); rintro e w' ⟨rfl, ⟨nd, rfl⟩⟩; (try first | exact ⟨rfl, _, World.drewN_drewN _ _ _⟩ | exact ⟨rfl, _, Eq.trans (World.drewN_drewN _ _ _) (congrArg (World.drewN _) (Nat.add_assoc _ _ _))⟩))))
       go_ret
       exact ⟨by first | rfl | (simp <;> rfl) | (simp [*] <;> rfl), kR0 HB⟩
     · rw [if_neg c4] at H
       exact absurd H (by simp)
    · rw [if_neg c3] at H
      exact absurd H (by simp)
   · rw [if_neg c2] at H
     have c2b0 : decide (x7_1 < (l0.length : Int)) = false := zS c2; clear c2; obtain rfl := Option.some.inj H
     go_wp2
     repeat (go_quiet (fail); try go_wp2)
     go_ret
     exact ⟨by first | rfl | (simp <;> rfl) | (simp [*] <;> rfl), kR1 HB⟩

/-! ### slices_Clone_impl_Page_impl_Page_isnil: function 68 -/
def slices_Clone_impl_Page_impl_Page_isnil.f (l0 : List (S79)) : Option ((List (S79))) := some ([] : List (S79))
set_option maxHeartbeats 8000000 in
set_option maxRecDepth 100000 in
theorem slices_Clone_impl_Page_impl_Page_isnil.calls (c0 : Nat) (l0 : List (S79)) (r : List (S79)) (w : World) (hr0 : Kd.C k79 w none l0.length l0) (hc0 : l0.length ≤ c0) (h : slices_Clone_impl_Page_impl_Page_isnil.f l0 = some r) :
 Calls Try.prog 68 #[.slice none l0.length c0] w fun e w' => ∃ v0_ : Value, e = .returned (v0_) ∧ Kd.R k79 79 w' w.heap.size (fun _ => True) v0_ r ∧ Below w.heap.size w w' := by
 have HR0 := yD hr0
 have HC0 := yD hc0
 clear hr0 hc0
 have HB := yD (Below.refl w.heap.size w)
 have H : (some ([] : List (S79))) = some r := h
 clear h; obtain rfl := Option.some.inj H; have q_ : ∀ (w : World) (a : Option Addr) (n c n' c' : Nat), (binOp .eql 38 (.slice a n c) (.slice none n' c')).run Try.prog w = .ok (.bool a.isNone) w := fun w a n c n' c' => Lib.run_eql_slice_nil w _ _ a n c n' c' Try.underlying38; go_enter Try.func68, Try.ntmps68
 go_wp2
 go_ret
 exact ⟨_, by first | rfl | (simp <;> rfl) | (simp [*] <;> rfl), by first | exact Kd.R_nil _ _ _ _ _ | exact Kd.N_nil _ _ _ _ _ | exact Kd.V_nil _ _ _ _ _ | exact Kd.Q_nil _ _ _ _ _ | exact Kd.S_nil _ _ _ _ _, kR1 HB⟩

/-! ### slices_Clone_impl_Page_impl_Page_nn: function 68 -/
def slices_Clone_impl_Page_impl_Page_nn.f (l0 : List (S79)) : Option ((List (S79))) := (some (([] : List (S79)) : List (S79))).bind fun y159 => (if y159.length + l0.length < 5864062014805 then (some (y159 ++ l0)) else (none))
set_option maxHeartbeats 8000000 in
set_option maxRecDepth 100000 in
theorem slices_Clone_impl_Page_impl_Page_nn.calls (A0 : Addr) (c0 : Nat) (l0 : List (S79)) (r : List (S79)) (w : World) (hr0 : Kd.C k79 w (some A0) l0.length l0) (hc0 : l0.length ≤ c0) (h : slices_Clone_impl_Page_impl_Page_nn.f l0 = some r) :
 Calls Try.prog 68 #[.slice (some A0) l0.length c0] w fun e w' => ∃ v0_ : Value, e = .returned (v0_) ∧ Kd.R k79 79 w' w.heap.size (fun _ => True) v0_ r ∧ Below w.heap.size w w' := by
 have HR0 := yD hr0
 have HC0 := yD hc0
 clear hr0 hc0
 have HB := yD (Below.refl w.heap.size w)
 have H : ((some (([] : List (S79)) : List (S79))).bind fun y159 => (if y159.length + l0.length < 5864062014805 then (some (y159 ++ l0)) else (none))) = some r := h
 clear h
 obtain ⟨y159, hy159⟩ : ∃ y_ : List (S79), y_ = (([] : List (S79))) := ⟨_, rfl⟩
 replace H : (if y159.length + l0.length < 5864062014805 then (some (y159 ++ l0)) else (none)) = some r := by first | (rw [hy159]; with_reducible exact H) | (have H2_ := (Option.bind_some _ _).symm.trans H; rw [hy159]; with_reducible exact H2_) | (have H2_ := (Option.bind_some _ _).symm.trans H; with_reducible exact H2_) | with_reducible exact H | (rw [hy159]; exact H) | exact H
 have Ny159 := yD hy159
 clear hy159
 by_cases c2 : y159.length + l0.length < 5864062014805
 ·
  rw [if_pos c2] at H
  have LMc2 := yD c2
  clear c2
  obtain ⟨y162, hy162⟩ : ∃ y_ : List (S79), y_ = (y159 ++ l0) := ⟨_, rfl⟩
  replace H : (some y162) = some r := by first | (rw [hy162]; with_reducible exact H) | (have H2_ := (Option.bind_some _ _).symm.trans H; rw [hy162]; with_reducible exact H2_) | (have H2_ := (Option.bind_some _ _).symm.trans H; with_reducible exact H2_) | with_reducible exact H | (rw [hy162]; exact H) | exact H
  have Ny162 := yD hy162
  clear hy162; obtain rfl := Option.some.inj H; have q_ : ∀ (w : World) (a : Option Addr) (n c n' c' : Nat), (binOp .eql 38 (.slice a n c) (.slice none n' c')).run Try.prog w = .ok (.bool a.isNone) w := fun w a n c n' c' => Lib.run_eql_slice_nil w _ _ a n c n' c' Try.underlying38; go_enter Try.func68, Try.ntmps68
  go_wp2_with (first | ((with_reducible refine gate_dst (N := 5) rfl ?_); refine Kd.R_lit k79 _ 79 ?hg (N := 5) ?hd (xs := ([] : List (S79))) (inner := []) (ok := fun _ => True) (okp := fun _ => True) ?hr ?hp (fun _ hk => hk) trivial (Below.refl _ _) (Nat.le_refl _) (by simp) ?_; (case hd => rfl); (case hg => rfl); (case hr => first | (go_simp; done) | (go_simp; rfl)); (case hp => exact (Reps.none _ _)); intro v160 w3 ho4 hb hg_ hnew_; clear hg_ hnew_; (first | rw [← Ny159.out] at ho4 | (simp only [Int.reduceToNat] at ho4; rw [← Ny159.out] at ho4)); have HO161 := yD (yZ ho4 (below_size (kB HB))); replace HB := yD (zC (kB HB) hb); clear hb ho4) | ((with_reducible refine gate_builtin (b := .append) (xs := #[.tmp 5, .tmp 6]) rfl ?_); at_builtin; refine Kd.R_append_rows k79 (w0 := w) w.heap.size rfl (.tmp 5) (.tmp 6) 38 79 (.agg #[(.int .i64 0), (.string ⟨#[]⟩)]) 24 rfl Try.underlying38 info79 rfl (by decide) (by omega) v160 y159 l0 _ _ _ (fun _ => True) (fun _ => False) rfl rfl ?aO ?aR (fun _ _ h => h) (fun _ h => h.elim) ?aF ?aB ?aS ?aL ?_; (case aR => exact kV (yY HR0.out HB.out)); (case aB => exact (kB HB)); (case aF => exact (fun _ _ => trivial)); (case aO => exact (kA HO161)); (case aS => exact (below_size (kB HB))); (case aL => have := LMc2.out; omega); intro v163 w5 ho hb hg hat; rw [← Ny162.out] at ho; replace HB := yD (hb); have HO164 := yD (ho); clear HO161; clear ho hb hg hat))
  go_ret
  exact ⟨_, by first | rfl | (simp <;> rfl) | (simp [*] <;> rfl), kA HO164, kR1 HB⟩
 · rw [if_neg c2] at H
   exact absurd H (by simp)

/-! ### slices_Clone_impl_Page_impl_Page: function 68 -/
def slices_Clone_impl_Page_impl_Page.f (l0 : List (S79)) : Option (List (S79)) := slices_Clone_impl_Page_impl_Page_nn.f l0
theorem slices_Clone_impl_Page_impl_Page.calls (A0 : Option Addr) (c0 : Nat) (l0 : List (S79)) (r : List (S79)) (w : World) (hr0 : Kd.C k79 w A0 l0.length l0) (hc0 : l0.length ≤ c0) (h : slices_Clone_impl_Page_impl_Page.f l0 = some r) :
 Calls Try.prog 68 #[.slice A0 l0.length c0] w fun e w' => ∃ v0_ : Value, e = .returned (v0_) ∧ Kd.R k79 79 w' w.heap.size (fun _ => True) v0_ r ∧ Below w.heap.size w w' := by
 cases A0 with
 | some A0 => exact slices_Clone_impl_Page_impl_Page_nn.calls A0 c0 l0 r w hr0 hc0 h
 | none =>
  have hz : l0 = [] := by
   cases l0 with
   | nil => rfl
   | cons x xs => obtain ⟨ad, e, _⟩ := hr0.2.2 (by simp); cases e
  subst hz
  have hr : r = [] := by
   have h' := h
   unfold slices_Clone_impl_Page_impl_Page.f slices_Clone_impl_Page_impl_Page_nn.f at h'
   simp at h'
   exact h'
  subst hr
  exact slices_Clone_impl_Page_impl_Page_isnil.calls c0 [] [] w hr0 hc0 rfl

/-! ### cmp_isNaN_int64: function 86 -/
def cmp_isNaN_int64.f (a0 : Int) : Option (Bool) := some (a0 != a0)
set_option maxHeartbeats 8000000 in
set_option maxRecDepth 100000 in
theorem cmp_isNaN_int64.calls (a0 : Int) (r : Bool) (w : World) (h : cmp_isNaN_int64.f a0 = some r) :
 Calls Try.prog 86 #[.int .i64 a0] w fun e w' => e = .returned (.bool r) ∧ Drawn0 w w' := by
 have H : (some (a0 != a0)) = some r := h
 clear h; obtain rfl := Option.some.inj H; go_enter Try.func86, Try.ntmps86
 go_wp2
 go_ret
 exact ⟨by first | rfl | (simp; done) | (simp [*]; done), by repeat (first | exact Drawn0.refl _ | apply Drawn0.step)⟩

/-! ### cmp_Compare_int64: function 82 -/
def cmp_Compare_int64.f (a0 : Int) (a1 : Int) : Option (Int) := (cmp_isNaN_int64.f a0).bind fun t165 => ((cmp_isNaN_int64.f a1).bind fun t166 => (if t165 = true then (if t166 = true then (some 0) else (some (-1))) else (if t166 = true then (some 1) else (if a0 < a1 then (some (-1)) else (if a0 > a1 then (some 1) else (some 0))))))
set_option maxHeartbeats 8000000 in
set_option maxRecDepth 100000 in
theorem cmp_Compare_int64.calls (a0 : Int) (a1 : Int) (r : Int) (w : World) (h : cmp_Compare_int64.f a0 a1 = some r) :
 Calls Try.prog 82 #[.int .i64 a0, .int .i64 a1] w fun e w' => e = .returned (.int .i64 r) ∧ Drawn0 w w' := by
 have H : ((cmp_isNaN_int64.f a0).bind fun t165 => ((cmp_isNaN_int64.f a1).bind fun t166 => (if t165 = true then (if t166 = true then (some 0) else (some (-1))) else (if t166 = true then (some 1) else (if a0 < a1 then (some (-1)) else (if a0 > a1 then (some 1) else (some 0))))))) = some r := h
 clear h
 obtain ⟨t165, A30, H⟩ := zW_ H
 replace H : ((cmp_isNaN_int64.f a1).bind fun t166 => (if t165 = true then (if t166 = true then (some 0) else (some (-1))) else (if t166 = true then (some 1) else (if a0 < a1 then (some (-1)) else (if a0 > a1 then (some 1) else (some 0)))))) = some r := H
 have A3 := yD A30
 clear A30
 obtain ⟨t166, A40, H⟩ := zW_ H
 replace H : (if t165 = true then (if t166 = true then (some 0) else (some (-1))) else (if t166 = true then (some 1) else (if a0 < a1 then (some (-1)) else (if a0 > a1 then (some 1) else (some 0))))) = some r := H
 have A4 := yD A40
 clear A40
 by_cases c5 : t165 = true
 ·
  subst c5
  replace H : (if t166 = true then (some 0) else (some (-1))) = some r := (by rw [if_pos rfl] at H; exact H)
  by_cases c6 : t166 = true
  · subst c6
    replace H : (some 0) = some r := (by rw [if_pos rfl] at H; exact H); obtain rfl := Option.some.inj H; go_enter Try.func82, Try.ntmps82
    go_wp2_with (first | ((with_reducible refine gate_callee (f := 86) rfl ?_); refine gL 8 Try.func86 #[.int .i64 a0] ?_; (with_reducible refine (cmp_isNaN_int64.calls a0 true _ A3.out).mono ?_); rintro e w' ⟨rfl, ⟨nd, rfl⟩⟩; refine ⟨_, rfl, ?_⟩) | ((with_reducible refine gate_callee (f := 86) rfl ?_); refine gL 10 Try.func86 #[.int .i64 a1] ?_; (with_reducible refine (cmp_isNaN_int64.calls a1 true _ A4.out).mono ?_); rintro e w' ⟨rfl, ⟨nd, rfl⟩⟩; refine ⟨_, rfl, ?_⟩))
    go_ret
    exact ⟨by first | rfl | (simp; done) | (simp [*]; done), by repeat (first | exact Drawn0.refl _ | apply Drawn0.step)⟩
  · replace c6 := Bool.eq_false_iff.mpr c6
    subst c6
    replace H : (some (-1)) = some r := (by rw [if_neg (show ¬ (false = true) by decide)] at H; exact H); obtain rfl := Option.some.inj H; go_enter Try.func82, Try.ntmps82
    go_wp2_with (first | ((with_reducible refine gate_callee (f := 86) rfl ?_); refine gL 8 Try.func86 #[.int .i64 a0] ?_; (with_reducible refine (cmp_isNaN_int64.calls a0 true _ A3.out).mono ?_); rintro e w' ⟨rfl, ⟨nd, rfl⟩⟩; refine ⟨_, rfl, ?_⟩) | ((with_reducible refine gate_callee (f := 86) rfl ?_); refine gL 10 Try.func86 #[.int .i64 a1] ?_; (with_reducible refine (cmp_isNaN_int64.calls a1 false _ A4.out).mono ?_); rintro e w' ⟨rfl, ⟨nd, rfl⟩⟩; refine ⟨_, rfl, ?_⟩))
    go_ret
    exact ⟨by first | rfl | (simp; done) | (simp [*]; done), by repeat (first | exact Drawn0.refl _ | apply Drawn0.step)⟩
 ·
  replace c5 := Bool.eq_false_iff.mpr c5
  subst c5
  replace H : (if t166 = true then (some 1) else (if a0 < a1 then (some (-1)) else (if a0 > a1 then (some 1) else (some 0)))) = some r := (by rw [if_neg (show ¬ (false = true) by decide)] at H; exact H)
  by_cases c7 : t166 = true
  · subst c7
    replace H : (some 1) = some r := (by rw [if_pos rfl] at H; exact H); obtain rfl := Option.some.inj H; go_enter Try.func82, Try.ntmps82
    go_wp2_with (first | ((with_reducible refine gate_callee (f := 86) rfl ?_); refine gL 8 Try.func86 #[.int .i64 a0] ?_; (with_reducible refine (cmp_isNaN_int64.calls a0 false _ A3.out).mono ?_); rintro e w' ⟨rfl, ⟨nd, rfl⟩⟩; refine ⟨_, rfl, ?_⟩) | ((with_reducible refine gate_callee (f := 86) rfl ?_); refine gL 10 Try.func86 #[.int .i64 a1] ?_; (with_reducible refine (cmp_isNaN_int64.calls a1 true _ A4.out).mono ?_); rintro e w' ⟨rfl, ⟨nd, rfl⟩⟩; refine ⟨_, rfl, ?_⟩))
    go_ret
    exact ⟨by first | rfl | (simp; done) | (simp [*]; done), by repeat (first | exact Drawn0.refl _ | apply Drawn0.step)⟩
  ·
   replace c7 := Bool.eq_false_iff.mpr c7
   subst c7
   replace H : (if a0 < a1 then (some (-1)) else (if a0 > a1 then (some 1) else (some 0))) = some r := (by rw [if_neg (show ¬ (false = true) by decide)] at H; exact H)
   by_cases c8 : a0 < a1
   · rw [if_pos c8] at H
     have c8b0 : decide (a0 < a1) = true := zR c8; clear c8; obtain rfl := Option.some.inj H; go_enter Try.func82, Try.ntmps82
     go_wp2_with (first | ((with_reducible refine gate_callee (f := 86) rfl ?_); refine gL 8 Try.func86 #[.int .i64 a0] ?_; (with_reducible refine (cmp_isNaN_int64.calls a0 false _ A3.out).mono ?_); rintro e w' ⟨rfl, ⟨nd, rfl⟩⟩; refine ⟨_, rfl, ?_⟩) | ((with_reducible refine gate_callee (f := 86) rfl ?_); refine gL 10 Try.func86 #[.int .i64 a1] ?_; (with_reducible refine (cmp_isNaN_int64.calls a1 false _ A4.out).mono ?_); rintro e w' ⟨rfl, ⟨nd, rfl⟩⟩; refine ⟨_, rfl, ?_⟩))
     go_ret
     exact ⟨by first | rfl | (simp; done) | (simp [*]; done), by repeat (first | exact Drawn0.refl _ | apply Drawn0.step)⟩
   ·
    rw [if_neg c8] at H
    have c8b0 : decide (a0 < a1) = false := zS c8; clear c8
    by_cases c9 : a0 > a1
    · rw [if_pos c9] at H
      have c9b0 : decide (a1 < a0) = true := zR c9; clear c9; obtain rfl := Option.some.inj H; go_enter Try.func82, Try.ntmps82
      go_wp2_with (first | ((with_reducible refine gate_callee (f := 86) rfl ?_); refine gL 8 Try.func86 #[.int .i64 a0] ?_; (with_reducible refine (cmp_isNaN_int64.calls a0 false _ A3.out).mono ?_); rintro e w' ⟨rfl, ⟨nd, rfl⟩⟩; refine ⟨_, rfl, ?_⟩) | ((with_reducible refine gate_callee (f := 86) rfl ?_); refine gL 10 Try.func86 #[.int .i64 a1] ?_; (with_reducible refine (cmp_isNaN_int64.calls a1 false _ A4.out).mono ?_); rintro e w' ⟨rfl, ⟨nd, rfl⟩⟩; refine ⟨_, rfl, ?_⟩))
      go_ret
      exact ⟨by first | rfl | (simp; done) | (simp [*]; done), by repeat (first | exact Drawn0.refl _ | apply Drawn0.step)⟩
    · rw [if_neg c9] at H
      have c9b0 : decide (a1 < a0) = false := zS c9; clear c9; obtain rfl := Option.some.inj H; go_enter Try.func82, Try.ntmps82
      go_wp2_with (first | ((with_reducible refine gate_callee (f := 86) rfl ?_); refine gL 8 Try.func86 #[.int .i64 a0] ?_; (with_reducible refine (cmp_isNaN_int64.calls a0 false _ A3.out).mono ?_); rintro e w' ⟨rfl, ⟨nd, rfl⟩⟩; refine ⟨_, rfl, ?_⟩) | ((with_reducible refine gate_callee (f := 86) rfl ?_); refine gL 10 Try.func86 #[.int .i64 a1] ?_; (with_reducible refine (cmp_isNaN_int64.calls a1 false _ A4.out).mono ?_); rintro e w' ⟨rfl, ⟨nd, rfl⟩⟩; refine ⟨_, rfl, ?_⟩))
      go_ret
      exact ⟨by first | rfl | (simp; done) | (simp [*]; done), by repeat (first | exact Drawn0.refl _ | apply Drawn0.step)⟩

end Go.Proofs.Ytfblodggimjoaaa.PFnExactMergePages
