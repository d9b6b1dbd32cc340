/- Each Go function here comes to what the plain function of its name says, where that says something. Made by a program of this session, over the print. -/
import Derived.Test.YtdiaebjbiddefaaPFnExactBoundsOfx0
import Derived.Test.YtdiaebjbiddefaaPFnExactBoundsOfx5
namespace Go.Proofs.Ytdiaebjbiddefaa.PFnExactBoundsOf
open Go.RowKit Go.Proofs.YtdiaebjbiddefaaW.PrintWords Go.Proofs.YtdiaebjbiddefaaW.PrintLast Go.Proofs.YtdiaebjbiddefaaW.PrintMore
attribute [local go_sem] max2_int min2_int max_two min_two max_three min_three max_four min_four   -- for this text's walks alone
set_option linter.unusedVariables false
set_option linter.unusedSimpArgs false

/-! ### impl_BoundsOf: function 33 -/
mutual
def impl_BoundsOf.j0 : Nat → List (S42) → Bool → Option (List Int × List Int × Bool)
  | 0, _, _ => none
  | k + 1, x0, x15 => if x15 = true then (some (([] : List Int), ([] : List Int), false)) else (if 0 < (x0.length : Int) then ((slices_Clone_int64_int64.f ((rd_T42 x0 0).f0)).bind fun t189 => ((slices_Clone_int64_int64.f ((rd_T42 x0 0).f1)).bind fun t193 => (impl_BoundsOf.l0 k x0 (x0.length : Int) 0 t189 t193))) else (none))
def impl_BoundsOf.l0 : Nat → List (S42) → Int → Int → List Int → List Int → Option (List Int × List Int × Bool)
  | 0, _, _, _, _, _ => none
  | k + 1, x28, x29, x30, x197000, x197001 => if x30 < x29 then (if 0 ≤ x30 then (if x30 < (x28.length : Int) then (impl_BoundsOf.l1 k x28 x29 x30 (((rd_T42 x28 x30).f0).length : Int) 0 x197000 x197001 ((rd_T42 x28 x30).f0) ((rd_T42 x28 x30).f1)) else (none)) else (none)) else (some (x197000, x197001, true))
def impl_BoundsOf.l1 : Nat → List (S42) → Int → Int → Int → Int → List Int → List Int → List Int → List Int → Option (List Int × List Int × Bool)
  | 0, _, _, _, _, _, _, _, _, _ => none
  | k + 1, x28, x29, x30, x36, x37, x197000, x197001, x199000, x199001 => if x37 < x36 then (if 0 ≤ x37 then (if x37 < (x197000.length : Int) then (if x37 < (x199000.length : Int) then (if x37 < (x197001.length : Int) then (if x37 < (x199001.length : Int) then (impl_BoundsOf.l1 k x28 x29 x30 x36 (wrap64 (x37 + 1)) (x197000.set (x37 : Int).toNat (mn (rd x197000 x37) (rd x199000 x37))) (x197001.set (x37 : Int).toNat (mx (rd x197001 x37) (rd x199001 x37))) x199000 x199001) else (none)) else (none)) else (none)) else (none)) else (none)) else (impl_BoundsOf.l0 k x28 x29 (wrap64 (x30 + 1)) x197000 x197001)
end
def impl_BoundsOf.f (k : Nat) (l0 : List (S42)) : Option (List Int × List Int × Bool) := (impl_boxesOk.f k l0).bind fun t187 => (if t187 = true then (impl_BoundsOf.j0 k l0 ((l0.length : Int) == 0)) else (impl_BoundsOf.j0 k l0 true))
theorem impl_BoundsOf.mono_l : ∀ k, (∀ y0 y1, LeO (impl_BoundsOf.j0 k y0 y1) (impl_BoundsOf.j0 (k + 1) y0 y1)) ∧ (∀ y0 y1 y2 y3 y4, LeO (impl_BoundsOf.l0 k y0 y1 y2 y3 y4) (impl_BoundsOf.l0 (k + 1) y0 y1 y2 y3 y4)) ∧ (∀ y0 y1 y2 y3 y4 y5 y6 y7 y8, LeO (impl_BoundsOf.l1 k y0 y1 y2 y3 y4 y5 y6 y7 y8) (impl_BoundsOf.l1 (k + 1) y0 y1 y2 y3 y4 y5 y6 y7 y8))
  | 0 => ⟨fun _ _ r h => by simp [impl_BoundsOf.j0] at h, fun _ _ _ _ _ r h => by simp [impl_BoundsOf.l0] at h, fun _ _ _ _ _ _ _ _ _ r h => by simp [impl_BoundsOf.l1] at h⟩
  | k + 1 => by
    obtain ⟨ih0, ih1, ih2⟩ := impl_BoundsOf.mono_l k
    refine ⟨?_, ?_, ?_⟩
    · intro y0 y1
      unfold impl_BoundsOf.j0
      repeat' first
      | (with_reducible exact ih0 _ _)
      | (with_reducible exact ih1 _ _ _ _ _)
      | (with_reducible exact ih2 _ _ _ _ _ _ _ _ _)
      | (with_reducible exact impl_boxesOk.mono _ _)
      | (with_reducible exact LeO.refl _)
      | (with_reducible exact LeO.none _)
      | (with_reducible refine LeO.ite ?_ ?_)
      | (with_reducible refine LeO.bind ?_ (fun _ => ?_))
      | exact ih0 _ _
      | exact ih1 _ _ _ _ _
      | exact ih2 _ _ _ _ _ _ _ _ _
      | exact impl_boxesOk.mono _ _
      | exact LeO.none _
      | refine LeO.ite ?_ ?_
      | refine LeO.bind ?_ (fun _ => ?_)
    · intro y0 y1 y2 y3 y4
      unfold impl_BoundsOf.l0
      repeat' first
      | (with_reducible exact ih0 _ _)
      | (with_reducible exact ih1 _ _ _ _ _)
      | (with_reducible exact ih2 _ _ _ _ _ _ _ _ _)
      | (with_reducible exact impl_boxesOk.mono _ _)
      | (with_reducible exact LeO.refl _)
      | (with_reducible exact LeO.none _)
      | (with_reducible refine LeO.ite ?_ ?_)
      | (with_reducible refine LeO.bind ?_ (fun _ => ?_))
      | exact ih0 _ _
      | exact ih1 _ _ _ _ _
      | exact ih2 _ _ _ _ _ _ _ _ _
      | exact impl_boxesOk.mono _ _
      | exact LeO.none _
      | refine LeO.ite ?_ ?_
      | refine LeO.bind ?_ (fun _ => ?_)
    · intro y0 y1 y2 y3 y4 y5 y6 y7 y8
      unfold impl_BoundsOf.l1
      repeat' first
      | (with_reducible exact ih0 _ _)
      | (with_reducible exact ih1 _ _ _ _ _)
      | (with_reducible exact ih2 _ _ _ _ _ _ _ _ _)
      | (with_reducible exact impl_boxesOk.mono _ _)
      | (with_reducible exact LeO.refl _)
      | (with_reducible exact LeO.none _)
      | (with_reducible refine LeO.ite ?_ ?_)
      | (with_reducible refine LeO.bind ?_ (fun _ => ?_))
      | exact ih0 _ _
      | exact ih1 _ _ _ _ _
      | exact ih2 _ _ _ _ _ _ _ _ _
      | exact impl_boxesOk.mono _ _
      | exact LeO.none _
      | refine LeO.ite ?_ ?_
      | refine LeO.bind ?_ (fun _ => ?_)
theorem impl_BoundsOf.mono : ∀ a0 k, LeO (impl_BoundsOf.f k a0) (impl_BoundsOf.f (k + 1) a0) := by
  intro a0 k
  obtain ⟨ih0, ih1, ih2⟩ := impl_BoundsOf.mono_l k
  unfold impl_BoundsOf.f
  repeat' first
      | (with_reducible exact ih0 _ _)
      | (with_reducible exact ih1 _ _ _ _ _)
      | (with_reducible exact ih2 _ _ _ _ _ _ _ _ _)
      | (with_reducible exact impl_boxesOk.mono _ _)
      | (with_reducible exact LeO.refl _)
      | (with_reducible exact LeO.none _)
      | (with_reducible refine LeO.ite ?_ ?_)
      | (with_reducible refine LeO.bind ?_ (fun _ => ?_))
      | exact ih0 _ _
      | exact ih1 _ _ _ _ _
      | exact ih2 _ _ _ _ _ _ _ _ _
      | exact impl_boxesOk.mono _ _
      | exact LeO.none _
      | refine LeO.ite ?_ ?_
      | refine LeO.bind ?_ (fun _ => ?_)
def impl_BoundsOf.T3 : Bool × List (List Nat × List Nat) := (true, [([], []), ([0], [0]), ([1], [1]), ([2], [2]), ([3], [3]), ([], []), ([5], [5]), ([6], [6]), ([7], [7]), ([8, 4], [8]), ([4, 9], [4, 9]), ([], []), ([11, 10, 9, 0, 1, 2, 3, 4, 5, 6, 7, 8, 9, 10, 11], [10, 11])])
def impl_BoundsOf.B3 : List Nat := [0, 1, 3, 7, 15, 0, 32, 96, 224, 511, 1023, 0, 4095]
theorem impl_BoundsOf.tab3 : rtab .any (opsOf Try.f33 3) = impl_BoundsOf.T3 := by kernel_rfl
theorem impl_BoundsOf.bits3 : waitsOk impl_BoundsOf.T3.2 impl_BoundsOf.B3 = true := by kernel_rfl
def impl_BoundsOf.T10 : Bool × List (List Nat × List Nat) := (true, [([], []), ([0], [0]), ([], []), ([], []), ([3], [3]), ([], []), ([4, 5], [4, 5]), ([6], [6]), ([], []), ([8], [8]), ([], []), ([9, 10], [9, 10]), ([11], [11]), ([7, 12], [7, 12]), ([1, 2, 0, 1, 2, 3, 4, 5, 6, 7, 8, 9, 10, 11, 12, 13], [1, 2]), ([14, 13, 0, 1, 2, 3, 4, 5, 6, 7, 8, 9, 10, 11, 12, 13], [13, 14])])
def impl_BoundsOf.B10 : List Nat := [0, 1, 0, 0, 8, 0, 56, 120, 0, 256, 0, 1792, 3840, 8184, 16383, 32767]
theorem impl_BoundsOf.tab10 : rtab .any (opsOf Try.f33 10) = impl_BoundsOf.T10 := by kernel_rfl
theorem impl_BoundsOf.bits10 : waitsOk impl_BoundsOf.T10.2 impl_BoundsOf.B10 = true := by kernel_rfl
def impl_BoundsOf.T11 : Bool × List (List Nat × List Nat) := (true, [([], []), ([0], [0]), ([], []), ([], []), ([3], [3]), ([], []), ([4, 5], [4, 5]), ([6], [6]), ([], []), ([8], [8]), ([], []), ([9, 10], [9, 10]), ([11], [11]), ([7, 12], [7, 12]), ([1, 2, 0, 1, 2, 3, 4, 5, 6, 7, 8, 9, 10, 11, 12, 13], [1, 2]), ([14, 13, 0, 1, 2, 3, 4, 5, 6, 7, 8, 9, 10, 11, 12, 13], [13, 14])])
def impl_BoundsOf.B11 : List Nat := [0, 1, 0, 0, 8, 0, 56, 120, 0, 256, 0, 1792, 3840, 8184, 16383, 32767]
theorem impl_BoundsOf.tab11 : rtab .any (opsOf Try.f33 11) = impl_BoundsOf.T11 := by kernel_rfl
theorem impl_BoundsOf.bits11 : waitsOk impl_BoundsOf.T11.2 impl_BoundsOf.B11 = true := by kernel_rfl
set_option maxHeartbeats 8000000 in
set_option maxRecDepth 100000 in
theorem impl_BoundsOf.calls (k : Nat) (A0 : Option Addr) (c0 : Nat) (l0 : List (S42)) (r1 : List Int) (r2 : List Int) (r3 : Bool) (w : World) (hr0 : Kd.C k42 w A0 l0.length l0) (hc0 : l0.length ≤ c0) (h : impl_BoundsOf.f k l0 = some (r1, r2, r3)) :
    Calls Try.prog 33 #[.slice A0 l0.length c0] w fun e w' => ∃ v0_ v1_ : Value, e = .returned (.tuple #[.agg #[v0_, v1_], .bool r3]) ∧ Kd.R (Kd.int .i64) 2 w' w.heap.size (fun k_ => some k_ ≠ (v1_ : Value).ownBlock) v0_ r1 ∧ Kd.R (Kd.int .i64) 2 w' w.heap.size (fun k_ => some k_ ≠ (v0_ : Value).ownBlock) v1_ r2 ∧ Below w.heap.size w w' := by
  have hu42 := Try.underlying42
  have HR0 := yD hr0
  have HC0 := yD hc0
  clear hr0 hc0
  have HB := yD (Below.refl w.heap.size w)
  have H : ((impl_boxesOk.f k l0).bind fun t187 => (if t187 = true then (impl_BoundsOf.j0 k l0 ((l0.length : Int) == 0)) else (impl_BoundsOf.j0 k l0 true))) = some (r1, r2, r3) := h
  clear h
  have HC2 := yD H
  clear H; go_enter Try.func33, Try.ntmps33
  go_upto_region 1 with (first | ((with_reducible refine gate_dst (N := 2) rfl ?_); (try (refine gate_guard (by rfl) ?_; dsimp only)); refine box_event ?hg (N := 2) ?hd (cs := #[.slice none 0 0, .slice none 0 0]) (t := 42) ?hr ?_; (case hd => rfl); (case hg => rfl); (case hr => first | (go_simp; done) | (go_simp; rfl)); intro gb186 hg w3 hbox hb; have n0_ := yD (zC (by repeat (first | (with_reducible first | exact HB.out | apply yQ | apply yL | apply yP) | exact HB.out)) hb); have n1_ := yD (hbox); have n2_ := yD ((by rw [hg]; exact (below_size (by repeat (first | (with_reducible first | exact HB.out | apply yQ | apply yL | apply yP) | exact HB.out))) : w.heap.size ≤ gb186)); have n3_ := yD ((by rw [hg]; exact (below_size (by repeat (first | (with_reducible first | exact HB.out | apply yQ | apply yL | apply yP) | exact HB.out))) : w.heap.size ≤ gb186)); clear HB; have HB := n0_; have BK186 := n1_; have GW186 := n2_; have GE186 := n3_; clear n0_ n1_ n2_ n3_; clear hb hbox hg))
  (try simp only [Act.put, zH, zI, zJ])
  go_cut [15] (fun v15 wc => ∃ (kq : Nat) (x15_1 : Bool), v15 = .bool x15_1 ∧ Aside0 (impl_BoundsOf.j0 kq l0 x15_1 = some (r1, r2, r3)) ∧ Aside0 (kq ≤ k) ∧ Aside0 (wc.heap[gb186]? = some (.cells #[(.slice none 0 0), (.slice none 0 0)] 42 (0, 0))) ∧ Aside0 (Below w.heap.size w wc))
  case first =>
    have H := HC2.out; clear HC2
    replace H := Option.bind_eq_some_iff.mp H
    obtain ⟨t187, A40, H⟩ := H
    replace H : (if t187 = true then (impl_BoundsOf.j0 k l0 ((l0.length : Int) == 0)) else (impl_BoundsOf.j0 k l0 true)) = some (r1, r2, r3) := H
    have A4 := yD A40
    clear A40
    by_cases c5 : t187 = true
    · subst c5
      have H1 : (impl_BoundsOf.j0 k l0 ((l0.length : Int) == 0)) = some (r1, r2, r3) := by rw [if_pos rfl] at H; exact H
      clear H; have H := H1; clear H1
      have H' := yD H
      clear H
      go_wp2_with (first | ((with_reducible refine gate_callee (f := 63) rfl ?_); refine goesL_ (some 9) rfl rfl Try.func63 (by kernel_rfl) rfl #[.slice A0 l0.length c0] rfl (by (try simp only [zK, zL, zM]); first | done | rfl | (simp only [zN, zO]; rfl)) ?_; (with_reducible refine (impl_boxesOk.calls k _ _ l0 true _ ?side1 ?side2 A4.out).mono ?_); (case side1 => repeat (first | exact (yY HR0.out HB.out) | (with_reducible first | refine yV ?_ _ | refine yW ?_ _ | refine yX ?_))); (case side2 => exact HC0.out); rintro e w6 ⟨rfl, hb⟩; refine ⟨_, rfl, ?_⟩; have n0_ := yD (zB (g := gb186) (o := .cells #[.slice none 0 0, .slice none 0 0] 42 (0, 0)) (by (with_reducible repeat (first | refine yM ?_ _ | refine yO ?_ | refine yN ?_ _)); exact BK186.out) hb); have n1_ := yD (zC (by repeat (first | (with_reducible first | exact HB.out | apply yQ | apply yL | apply yP | refine yE ?_ GE186.out) | exact HB.out)) hb); clear BK186; clear HB; have BK186 := n0_; have HB := n1_; clear n0_ n1_; (try clear hb); (try clear hb2); (try clear hk); (try clear hi)))
      go_meet
      case rel => exact ⟨_, (((l0.length : Int) == 0)), (by first | rfl | (simp; done) | (simp [*]; done)), H', ⟨by first | omega | exact Nat.le_refl _⟩, ⟨by (with_reducible repeat (first | refine yM ?_ _ | refine yO ?_ | refine yN ?_ _)); exact BK186.out⟩, ⟨by repeat (first | (with_reducible first | exact HB.out | apply yQ | apply yL | apply yP | refine yE ?_ GE186.out) | exact HB.out)⟩⟩
    · replace c5 := Bool.eq_false_iff.mpr c5
      subst c5
      have H1 : (impl_BoundsOf.j0 k l0 true) = some (r1, r2, r3) := by rw [if_neg (show ¬ (false = true) by decide)] at H; exact H
      clear H; have H := H1; clear H1
      have H' := yD H
      clear H
      go_wp2_with (first | ((with_reducible refine gate_callee (f := 63) rfl ?_); refine goesL_ (some 9) rfl rfl Try.func63 (by kernel_rfl) rfl #[.slice A0 l0.length c0] rfl (by (try simp only [zK, zL, zM]); first | done | rfl | (simp only [zN, zO]; rfl)) ?_; (with_reducible refine (impl_boxesOk.calls k _ _ l0 false _ ?side1 ?side2 A4.out).mono ?_); (case side1 => repeat (first | exact (yY HR0.out HB.out) | (with_reducible first | refine yV ?_ _ | refine yW ?_ _ | refine yX ?_))); (case side2 => exact HC0.out); rintro e w7 ⟨rfl, hb⟩; refine ⟨_, rfl, ?_⟩; have n0_ := yD (zB (g := gb186) (o := .cells #[.slice none 0 0, .slice none 0 0] 42 (0, 0)) (by (with_reducible repeat (first | refine yM ?_ _ | refine yO ?_ | refine yN ?_ _)); exact BK186.out) hb); have n1_ := yD (zC (by repeat (first | (with_reducible first | exact HB.out | apply yQ | apply yL | apply yP | refine yE ?_ GE186.out) | exact HB.out)) hb); clear BK186; clear HB; have BK186 := n0_; have HB := n1_; clear n0_ n1_; (try clear hb); (try clear hb2); (try clear hk); (try clear hi)))
      go_meet
      case rel => exact ⟨_, (true), (by first | rfl | (simp; done) | (simp [*]; done)), H', ⟨by first | omega | exact Nat.le_refl _⟩, ⟨by (with_reducible repeat (first | refine yM ?_ _ | refine yO ?_ | refine yN ?_ _)); exact BK186.out⟩, ⟨by repeat (first | (with_reducible first | exact HB.out | apply yQ | apply yL | apply yP | refine yE ?_ GE186.out) | exact HB.out)⟩⟩
  case rest =>
    clear HC2; try clear p2; try clear c3; try clear c5; try clear c6
    obtain ⟨kq, x15_1, rfl, HA, HJ1, BK186, HB⟩ := hcut
    cases kq with
    | zero => exact absurd HA.out (by simp [impl_BoundsOf.j0])
    | succ kj1 =>
      have H := HA.out; clear HA
      simp only [impl_BoundsOf.j0] at H
      by_cases c8 : x15_1 = true
      · subst c8
        have H1 : (some (([] : List Int), ([] : List Int), false)) = some (r1, r2, r3) := by rw [if_pos rfl] at H; exact H
        clear H; have H := H1; clear H1
        simp only [Option.some.injEq, Prod.mk.injEq] at H
        obtain ⟨rfl, rfl, rfl⟩ := H
        have hcz9_0 : wc.cell? ⟨gb186, 0, none⟩ = some (.slice none 0 0) := (yG BK186.out 0).trans rfl
        have hcz9_1 : wc.cell? ⟨gb186, 1, none⟩ = some (.slice none 0 0) := (yG BK186.out 1).trans rfl
        have hfz9_0 := yR BK186.out 0
        have hfz9_1 := yR BK186.out 1
        go_wp2
        refine bodyPost_ret (results_ct rfl _ _ gb186 42 #[.slice none 0 0, .slice none 0 0] (0, 0) _ rfl (by (with_reducible repeat (first | refine yM ?_ _ | refine yO ?_ | refine yN ?_ _)); refine blk_put (cs := #[.slice none 0 0, .slice none 0 0]) ?_ 1 _ rfl; (with_reducible repeat (first | refine yM ?_ _ | refine yO ?_ | refine yN ?_ _)); refine blk_put (cs := #[.slice none 0 0, .slice none 0 0]) ?_ 0 _ rfl; (with_reducible repeat (first | refine yM ?_ _ | refine yO ?_ | refine yN ?_ _)); exact BK186.out) Try.underlying42 rfl (by kernel_rfl)) rfl ?_
        exact ⟨_, _, by first | rfl | (simp [errW_none, errW_some] <;> rfl) | (simp [*, errW_none, errW_some] <;> rfl), by first | exact Kd.R_nil _ _ _ _ _ | exact Kd.N_nil _ _ _ _ _ | exact Kd.V_nil _ _ _ _ _ | exact Kd.Q_nil _ _ _ _ _ | exact Kd.S_nil _ _ _ _ _, by first | exact Kd.R_nil _ _ _ _ _ | exact Kd.N_nil _ _ _ _ _ | exact Kd.V_nil _ _ _ _ _ | exact Kd.Q_nil _ _ _ _ _ | exact Kd.S_nil _ _ _ _ _, by repeat (first | (with_reducible first | exact HB.out | apply yQ | apply yL | apply yP | refine yE ?_ GE186.out) | exact HB.out)⟩
      · replace c8 := Bool.eq_false_iff.mpr c8
        subst c8
        have H1 : (if 0 < (l0.length : Int) then ((slices_Clone_int64_int64.f ((rd_T42 l0 0).f0)).bind fun t189 => ((slices_Clone_int64_int64.f ((rd_T42 l0 0).f1)).bind fun t193 => (impl_BoundsOf.l0 kj1 l0 (l0.length : Int) 0 t189 t193))) else (none)) = some (r1, r2, r3) := by rw [if_neg (show ¬ (false = true) by decide)] at H; exact H
        clear H; have H := H1; clear H1
        by_cases c10 : 0 < (l0.length : Int)
        · rw [if_pos c10] at H
          have c10b0 : decide (0 < (l0.length : Int)) = true := zR c10
          have c10b1 : decide (0 < l0.length) = true := zR (by omega)
          clear c10
          replace H := Option.bind_eq_some_iff.mp H
          obtain ⟨t189, A110, H⟩ := H
          replace H : ((slices_Clone_int64_int64.f ((rd_T42 l0 0).f1)).bind fun t193 => (impl_BoundsOf.l0 kj1 l0 (l0.length : Int) 0 t189 t193)) = some (r1, r2, r3) := H
          have A11 := yD A110
          clear A110
          replace H := Option.bind_eq_some_iff.mp H
          obtain ⟨t193, A120, H⟩ := H
          replace H : (impl_BoundsOf.l0 kj1 l0 (l0.length : Int) 0 t189 t193) = some (r1, r2, r3) := H
          have A12 := yD A120
          clear A120
          have H' := yD H
          clear H
          try go_wp2
          have n0_ := yD (yO BK186.out)
          have n1_ := yD (yP HB.out)
          clear BK186 HB; have BK186 := n0_; have HB := n1_; clear n0_ n1_
          have p188 : 0 ≤ (0 : Int) := (by omega)
          have q188 : 0 < (l0.length : Int) := zP (by assumption)
          obtain ⟨ad188, A188_0, c188_0, A188_1, c188_1, e188, hx188_0, hx188_1, hl188_0, hi188_0, hl188_1, hi188_1⟩ := at_T42 HR0.out 0 p188 q188
          have hw188_1 := hx188_1
          (try rw [show ((0 : Int)).toNat = 0 from rfl] at hw188_1)
          (try rw [show 0 * 2 = 0 from rfl] at hw188_1)
          (try rw [Addr.add_zero'] at hw188_1)
          have hw188_0 := hx188_0
          (try rw [show ((0 : Int)).toNat = 0 from rfl] at hw188_0)
          (try rw [show 0 * 2 = 0 from rfl] at hw188_0)
          (try rw [Addr.add_zero'] at hw188_0)
          cases e188
          have qi188 : (0 < l0.length) = True := eq_true (by omega)
          (try rw [show ((0 : Int)).toNat = 0 from rfl] at hx188_0)
          (try rw [show 0 * 2 = 0 from rfl] at hx188_0)
          (try rw [Addr.add_zero'] at hx188_0)
          (try rw [show ((0 : Int)).toNat = 0 from rfl] at hx188_1)
          (try rw [show 0 * 2 = 0 from rfl] at hx188_1)
          (try rw [Addr.add_zero'] at hx188_1)
          replace hx188_0 := (HB.out.cell (zQ w _ hx188_0)).trans hx188_0
          replace hx188_1 := (HB.out.cell (zQ w _ hx188_1)).trans hx188_1
          have HR188_0 := yD hi188_0
          have HC188_0 := yD hl188_0
          clear hi188_0 hl188_0
          have HR188_1 := yD hi188_1
          have HC188_1 := yD hl188_1
          clear hi188_1 hl188_1; replace p188 := eq_true p188; replace q188 := eq_true q188
          have p192 : 0 ≤ (0 : Int) := (by omega)
          have q192 : 0 < (l0.length : Int) := zP (by assumption)
          obtain ⟨ad192, A192_0, c192_0, A192_1, c192_1, e192, hx192_0, hx192_1, hl192_0, hi192_0, hl192_1, hi192_1⟩ := at_T42 HR0.out 0 p192 q192
          have hw192_1 := hx192_1
          (try rw [show ((0 : Int)).toNat = 0 from rfl] at hw192_1)
          (try rw [show 0 * 2 = 0 from rfl] at hw192_1)
          (try rw [Addr.add_zero'] at hw192_1)
          have hw192_0 := hx192_0
          (try rw [show ((0 : Int)).toNat = 0 from rfl] at hw192_0)
          (try rw [show 0 * 2 = 0 from rfl] at hw192_0)
          (try rw [Addr.add_zero'] at hw192_0)
          obtain rfl : ad188 = ad192 := (by injection e192)
          have qi192 : (0 < l0.length) = True := eq_true (by omega)
          (try rw [show ((0 : Int)).toNat = 0 from rfl] at hx192_0)
          (try rw [show 0 * 2 = 0 from rfl] at hx192_0)
          (try rw [Addr.add_zero'] at hx192_0)
          (try rw [show ((0 : Int)).toNat = 0 from rfl] at hx192_1)
          (try rw [show 0 * 2 = 0 from rfl] at hx192_1)
          (try rw [Addr.add_zero'] at hx192_1)
          replace hx192_0 := (HB.out.cell (zQ w _ hx192_0)).trans hx192_0
          replace hx192_1 := (HB.out.cell (zQ w _ hx192_1)).trans hx192_1
          have HR192_0 := yD hi192_0
          have HC192_0 := yD hl192_0
          clear hi192_0 hl192_0
          have HR192_1 := yD hi192_1
          have HC192_1 := yD hl192_1
          clear hi192_1 hl192_1; replace p192 := eq_true p192; replace q192 := eq_true q192
          have ea_ := Option.some.inj (hx188_0.symm.trans hx192_0)
          injection ea_ with ea_ en_ ec_
          subst ea_; subst ec_; clear en_
          have ea_ := Option.some.inj (hx188_1.symm.trans hx192_1)
          injection ea_ with ea_ en_ ec_
          subst ea_; subst ec_; clear en_
          refine start_ (n := 13) (S := fun w' => w'.cell? ad188 = some (.slice A188_0 ((rd_T42 l0 0).f0).length c188_0) ∧ w'.cell? ⟨ad188.block, ad188.off + 1, none⟩ = some (.slice A188_1 ((rd_T42 l0 0).f1).length c188_1) ∧ w'.cell? ad188 = some (.slice A188_0 ((rd_T42 l0 0).f0).length c188_0) ∧ w'.cell? ⟨ad188.block, ad188.off + 1, none⟩ = some (.slice A188_1 ((rd_T42 l0 0).f1).length c188_1)) (ds := []) #[false, false, false, false, false, false, false, false, false, false, false, false, false] (by kernel_rfl) rfl rfl ⟨((HB.out.cell (zQ w _ hw188_0)).trans hw188_0), ((HB.out.cell (zQ w _ hw188_1)).trans hw188_1), ((HB.out.cell (zQ w _ hw192_0)).trans hw192_0), ((HB.out.cell (zQ w _ hw192_1)).trans hw192_1)⟩ (fun hHeld => ?_); refine with_tabW impl_BoundsOf.tab3 impl_BoundsOf.bits3 (fun HT_ HW_ => ?_)
          generalize wc.drew = w13 at BK186 HB HR188_0 HR188_1 HR192_0 HR192_1 hx188_0 hx188_1 hx192_0 hx192_1 hHeld ⊢
          refine pure_ (i := 0) (N := some 17) (v := ?_) (a' := ?_) #[true, false, false, false, false, false, false, false, false, false, false, false, false] rfl rfl (any_of HT_.out (by kernel_rfl)) (fun _ _ _ h => h) (Or.inl ⟨by rfl, ?_⟩) ?_ ?_
          rotate_left
          · intro w'
            go_simp
            with_reducible rfl
          rotate_left
          · simp only [Act.put, zH, zI, zJ, i64_w, i32_w]
            rfl
          refine pure_ (i := 1) (N := some 18) (v := ?_) (a' := ?_) #[true, true, false, false, false, false, false, false, false, false, false, false, false] rfl rfl (any_of HT_.out (by kernel_rfl)) (fun _ _ _ h => h) (Or.inl ⟨by rfl, ?_⟩) ?_ ?_
          rotate_left
          · intro w'
            go_simp
            with_reducible rfl
          rotate_left
          · simp only [Act.put, zH, zI, zJ, i64_w, i32_w]
            rfl
          refine pure_ (i := 2) (N := some 19) (v := ?_) (a' := ?_) #[true, true, true, false, false, false, false, false, false, false, false, false, false] rfl rfl (any_of HT_.out (by kernel_rfl)) (fun _ _ _ h => h) (Or.inl ⟨by rfl, ?_⟩) ?_ ?_
          rotate_left
          · intro w'
            go_simp
            with_reducible rfl
          rotate_left
          · simp only [Act.put, zH, zI, zJ, i64_w, i32_w]
            rfl
          refine pure_ (i := 5) (N := some 22) (v := ?_) (a' := ?_) #[true, true, true, false, false, true, false, false, false, false, false, false, false] rfl rfl (any_of HT_.out (by kernel_rfl)) (fun _ _ _ h => h) (Or.inl ⟨by rfl, ?_⟩) ?_ ?_
          rotate_left
          · intro w'
            go_simp
            with_reducible rfl
          rotate_left
          · simp only [Act.put, zH, zI, zJ, i64_w, i32_w]
            rfl
          refine pure_ (i := 6) (N := some 23) (v := ?_) (a' := ?_) #[true, true, true, false, false, true, true, false, false, false, false, false, false] rfl rfl (any_of HT_.out (by kernel_rfl)) (fun _ _ _ h => h) (Or.inl ⟨by rfl, ?_⟩) ?_ ?_
          rotate_left
          · intro w'
            go_simp
            with_reducible rfl
          rotate_left
          · simp only [Act.put, zH, zI, zJ, i64_w, i32_w]
            rfl
          refine pure_ (i := 7) (N := some 24) (v := ?_) (a' := ?_) #[true, true, true, false, false, true, true, true, false, false, false, false, false] rfl rfl (any_of HT_.out (by kernel_rfl)) (fun _ _ _ h => h) (Or.inl ⟨by rfl, ?_⟩) ?_ ?_
          rotate_left
          · intro w'
            go_simp
            with_reducible rfl
          rotate_left
          · simp only [Act.put, zH, zI, zJ, i64_w, i32_w]
            rfl
          refine take_ (i := 3) (N := some 20) (v := ?_) (a' := ?_) #[true, true, true, true, false, true, true, true, false, false, false, false, false] rfl rfl (take_ofW HT_.out HW_.out (by kernel_rfl)) (fun _ _ _ h => h) (Or.inl ⟨by rfl, ?_⟩) hHeld ?_ ?_
          rotate_left
          · rintro w' ⟨s0, s1, s2, s3⟩
            go_simp
            with_reducible rfl
          rotate_left
          · simp only [Act.put, zH, zI, zJ, i64_w, i32_w]
            rfl
          refine take_ (i := 8) (N := some 25) (v := ?_) (a' := ?_) #[true, true, true, true, false, true, true, true, true, false, false, false, false] rfl rfl (take_ofW HT_.out HW_.out (by kernel_rfl)) (fun _ _ _ h => h) (Or.inl ⟨by rfl, ?_⟩) hHeld ?_ ?_
          rotate_left
          · rintro w' ⟨s0, s1, s2, s3⟩
            go_simp
            with_reducible rfl
          rotate_left
          · simp only [Act.put, zH, zI, zJ, i64_w, i32_w]
            rfl
          refine join_ (σ := Value × Value × Nat) 1 #[true, true, true, true, true, true, true, true, true, true, true, true, false] (fun s_ => [(21, s_.1), (26, s_.2.1), (4, .pointer (some ⟨s_.2.2, 0, none⟩)), (27, .agg #[s_.1, s_.2.1])]) (fun s_ w' => (w'.cell? ad188 = some (.slice A188_0 ((rd_T42 l0 0).f0).length c188_0) ∧ w'.cell? ⟨ad188.block, ad188.off + 1, none⟩ = some (.slice A188_1 ((rd_T42 l0 0).f1).length c188_1) ∧ w'.cell? ad188 = some (.slice A188_0 ((rd_T42 l0 0).f0).length c188_0) ∧ w'.cell? ⟨ad188.block, ad188.off + 1, none⟩ = some (.slice A188_1 ((rd_T42 l0 0).f1).length c188_1)) ∧ (Kd.R (Kd.int .i64) 2 w' w.heap.size (fun k_ => some k_ ≠ (s_.2.1 : Value).ownBlock) s_.1 t189) ∧ (Kd.R (Kd.int .i64) 2 w' w.heap.size (fun k_ => some k_ ≠ (s_.1 : Value).ownBlock) s_.2.1 t193) ∧ (w'.heap[gb186]? = some (.cells #[.slice none 0 0, .slice none 0 0] 42 (0, 0))) ∧ (w'.heap[s_.2.2]? = some (.cells #[.slice none 0 0, .slice none 0 0] 42 (0, 0))) ∧ (w.heap.size ≤ s_.2.2) ∧ (w.heap.size ≤ s_.2.2) ∧ (gb186 ≠ s_.2.2) ∧ (s_.2.2 ≠ gb186) ∧ (Below w.heap.size w w')) ?_ ?_
          rotate_left
          · intro hCont
            refine two_ (i := 4) (j := 11) (Ni := some 21) (Nj := some 4) #[true, true, true, true, true, true, true, true, true, false, false, false, false] #[true, true, true, true, false, true, true, true, true, false, false, true, false] rfl rfl rfl rfl (two_of HT_.out (by kernel_rfl)) (by decide) (by decide) (fun K hK => ?_) (fun K hK => ?_)
            · skip
              refine goes_ Try.func74 (by kernel_rfl) rfl #[.slice A188_0 ((rd_T42 l0 0).f0).length c188_0] (by rfl) rfl rfl (by (try simp only [zK, zL, zM]); first | done | rfl | (simp only [zN, zO]; rfl)) ?_
              with_reducible refine (slices_Clone_int64_int64.calls _ _ ((rd_T42 l0 0).f0) t189 _ ?side1 ?side2 A11.out).mono ?_
              (case side1 => repeat (first | exact (yY HR188_0.out HB.out) | (with_reducible first | refine yV ?_ _ | refine yW ?_ _ | refine yX ?_)))
              (case side2 => exact HC188_0.out)
              rintro e w14 ⟨v190, rfl, ho0, hb⟩
              refine ⟨_, rfl, ?_⟩
              have n0_ := yD (yZ ho0 (below_size (by repeat (first | (with_reducible first | exact HB.out | apply yQ | apply yL | apply yP | refine yE ?_ GE186.out) | exact HB.out))))
              have n1_ := yD (zB (g := gb186) (o := .cells #[.slice none 0 0, .slice none 0 0] 42 (0, 0)) (by (with_reducible repeat (first | refine yM ?_ _ | refine yO ?_ | refine yN ?_ _)); exact BK186.out) hb)
              have n2_ := yD (zC (by repeat (first | (with_reducible first | exact HB.out | apply yQ | apply yL | apply yP | refine yE ?_ GE186.out) | exact HB.out)) hb)
              clear BK186 HB; have HO191 := n0_; have BK186 := n1_; have HB := n2_; clear n0_ n1_ n2_; (try clear hb); (try clear hb2); (try clear hk); (try clear hi); (try clear ho0)
              refine hK.out _ _ ⟨((HB.out.cell (zQ w _ hw188_0)).trans hw188_0), ((HB.out.cell (zQ w _ hw188_1)).trans hw188_1), ((HB.out.cell (zQ w _ hw192_0)).trans hw192_0), ((HB.out.cell (zQ w _ hw192_1)).trans hw192_1)⟩ (fun hHeld => ?_)
              clear hK K
              refine norm_ (a' := ?_) ?_ ?_
              rotate_left
              · show Act.put _ (some 21) _ = _
                simp only [Act.put, zH, zI, zJ, i64_w, i32_w]
                rfl
              refine two_ (i := 9) (j := 11) (Ni := some 26) (Nj := some 4) #[true, true, true, true, true, true, true, true, true, true, false, false, false] #[true, true, true, true, true, true, true, true, true, false, false, true, false] rfl rfl rfl rfl (two_of HT_.out (by kernel_rfl)) (by decide) (by decide) (fun K hK => ?_) (fun K hK => ?_)
              · skip
                refine goes_ Try.func74 (by kernel_rfl) rfl #[.slice A188_1 ((rd_T42 l0 0).f1).length c188_1] (by rfl) rfl rfl (by (try simp only [zK, zL, zM]); first | done | rfl | (simp only [zN, zO]; rfl)) ?_
                with_reducible refine (slices_Clone_int64_int64.calls _ _ ((rd_T42 l0 0).f1) t193 _ ?side1 ?side2 A12.out).mono ?_
                (case side1 => repeat (first | exact (yY HR192_1.out HB.out) | (with_reducible first | refine yV ?_ _ | refine yW ?_ _ | refine yX ?_)))
                (case side2 => exact HC192_1.out)
                rintro e w15 ⟨v194, rfl, ho0, hb⟩
                refine ⟨_, rfl, ?_⟩
                have n0_ := yD (Kd.R_elder' (by (with_reducible repeat (first | apply yA | apply yB | apply yC)); exact HO191.out) (yH ho0) hb)
                have n1_ := yD (yZ (yJ ho0 (yK (by (with_reducible repeat (first | apply yA | apply yB | apply yC)); exact HO191.out))) (below_size (by repeat (first | (with_reducible first | exact HB.out | apply yQ | apply yL | apply yP | refine yE ?_ GE186.out) | exact HB.out))))
                have n2_ := yD (zB (g := gb186) (o := .cells #[.slice none 0 0, .slice none 0 0] 42 (0, 0)) (by (with_reducible repeat (first | refine yM ?_ _ | refine yO ?_ | refine yN ?_ _)); exact BK186.out) hb)
                have n3_ := yD (zC (by repeat (first | (with_reducible first | exact HB.out | apply yQ | apply yL | apply yP | refine yE ?_ GE186.out) | exact HB.out)) hb)
                clear HO191 BK186 HB; have HO191 := n0_; have HO195 := n1_; have BK186 := n2_; have HB := n3_; clear n0_ n1_ n2_ n3_; (try clear hb); (try clear hb2); (try clear hk); (try clear hi); (try clear ho0)
                obtain ⟨Ao16, co16, eo16⟩ := Kd.R_slice HO195.out
                (first | subst eo16 | (injection eo16 with f1_ f2_ f3_; have f4_ := f1_.symm; have f5_ := f3_.symm; clear f1_ f2_ f3_; subst f4_; subst f5_))
                obtain ⟨Ao17, co17, eo17⟩ := Kd.R_slice HO191.out
                (first | subst eo17 | (injection eo17 with f1_ f2_ f3_; have f4_ := f1_.symm; have f5_ := f3_.symm; clear f1_ f2_ f3_; subst f4_; subst f5_))
                refine hK.out _ _ ⟨((HB.out.cell (zQ w _ hw188_0)).trans hw188_0), ((HB.out.cell (zQ w _ hw188_1)).trans hw188_1), ((HB.out.cell (zQ w _ hw192_0)).trans hw192_0), ((HB.out.cell (zQ w _ hw192_1)).trans hw192_1)⟩ (fun hHeld => ?_)
                clear hK K
                refine norm_ (a' := ?_) ?_ ?_
                rotate_left
                · show Act.put _ (some 26) _ = _
                  simp only [Act.put, zH, zI, zJ, i64_w, i32_w]
                  rfl
                refine pure_ (i := 10) (N := some 27) (v := ?_) (a' := ?_) #[true, true, true, true, true, true, true, true, true, true, true, false, false] rfl rfl (any_of HT_.out (by kernel_rfl)) (fun _ _ _ h => h) (Or.inl ⟨by rfl, ?_⟩) ?_ ?_
                rotate_left
                · intro w'
                  go_simp
                  with_reducible rfl
                rotate_left
                · simp only [Act.put, zH, zI, zJ, i64_w, i32_w]
                  rfl
                refine one_ (i := 11) (N := some 4) #[true, true, true, true, true, true, true, true, true, true, true, true, false] rfl rfl (one_of HT_.out (by kernel_rfl)) (by decide) (fun K hK => ?_)
                refine box_step ?hg (N := 4) ?hd (cs := #[.slice none 0 0, .slice none 0 0]) (t := 42) ?hr ?_; (case hd => rfl); (case hg => rfl); (case hr => first | (go_simp; done) | (go_simp; rfl))
                intro gb196 hg w18 hbox hb
                have n0_ := yD (zE (by (with_reducible repeat (first | apply yA | apply yB | apply yC)); exact HO191.out) hb)
                have n1_ := yD (zE (by (with_reducible repeat (first | apply yA | apply yB | apply yC)); exact HO195.out) hb)
                have n2_ := yD (zB (g := gb186) (o := .cells #[.slice none 0 0, .slice none 0 0] 42 (0, 0)) (by (with_reducible repeat (first | refine yM ?_ _ | refine yO ?_ | refine yN ?_ _)); exact BK186.out) hb)
                have n3_ := yD (zC (by repeat (first | (with_reducible first | exact HB.out | apply yQ | apply yL | apply yP | refine yE ?_ GE186.out) | exact HB.out)) hb)
                have n4_ := yD (hbox)
                have n5_ := yD ((by rw [hg]; exact (below_size (by repeat (first | (with_reducible first | exact HB.out | apply yQ | apply yL | apply yP | refine yE ?_ GE186.out) | exact HB.out))) : w.heap.size ≤ gb196))
                have n6_ := yD ((by rw [hg]; exact (below_size (by repeat (first | (with_reducible first | exact HB.out | apply yQ | apply yL | apply yP | refine yE ?_ GE186.out) | exact HB.out))) : w.heap.size ≤ gb196))
                have n7_ := yD ((by rw [hg]; exact Nat.ne_of_lt (blk_lt (g := gb186) (o := .cells #[.slice none 0 0, .slice none 0 0] 42 (0, 0)) (by (with_reducible repeat (first | refine yM ?_ _ | refine yO ?_ | refine yN ?_ _)); exact BK186.out)) : gb186 ≠ gb196))
                have n8_ := yD ((by rw [hg]; exact Nat.ne_of_gt (blk_lt (g := gb186) (o := .cells #[.slice none 0 0, .slice none 0 0] 42 (0, 0)) (by (with_reducible repeat (first | refine yM ?_ _ | refine yO ?_ | refine yN ?_ _)); exact BK186.out)) : gb196 ≠ gb186))
                clear HO191 HO195 BK186 HB; have HO191 := n0_; have HO195 := n1_; have BK186 := n2_; have HB := n3_; have BK196 := n4_; have GW196 := n5_; have GE196 := n6_; have NB186_196 := n7_; have NB196_186 := n8_; clear n0_ n1_ n2_ n3_ n4_ n5_ n6_ n7_ n8_ hb hbox hg
                refine hK.out _ _ ⟨((HB.out.cell (zQ w _ hw188_0)).trans hw188_0), ((HB.out.cell (zQ w _ hw188_1)).trans hw188_1), ((HB.out.cell (zQ w _ hw192_0)).trans hw192_0), ((HB.out.cell (zQ w _ hw192_1)).trans hw192_1)⟩ (fun hHeld => ?_)
                clear hK K
                refine norm_ (a' := ?_) ?_ ?_
                rotate_left
                · show Act.put _ (some 4) _ = _
                  simp only [Act.put, zH, zI, zJ, i64_w, i32_w]
                  rfl
                exact norm_ (by simp only [putAll, Act.put, zH, zI, zJ]) (hCont (.slice Ao17 t189.length co17, .slice Ao16 t193.length co16, gb196) _ ⟨hHeld, (by (with_reducible repeat (first | apply yA | apply yB | apply yC)); exact zF HO191.out (fun _ hk => hk.2)), (by (with_reducible repeat (first | apply yA | apply yB | apply yC)); exact zF HO195.out (fun _ hk => hk.2)), (by (with_reducible repeat (first | refine yM ?_ _ | refine yO ?_ | refine yN ?_ _)); exact BK186.out), (by (with_reducible repeat (first | refine yM ?_ _ | refine yO ?_ | refine yN ?_ _)); exact BK196.out), GW196.out, GE196.out, NB186_196.out, NB196_186.out, (by repeat (first | (with_reducible first | exact HB.out | apply yQ | apply yL | apply yP | refine yE ?_ GE186.out | refine yE ?_ GE196.out) | exact HB.out))⟩)
              · skip
                refine box_step ?hg (N := 4) ?hd (cs := #[.slice none 0 0, .slice none 0 0]) (t := 42) ?hr ?_; (case hd => rfl); (case hg => rfl); (case hr => first | (go_simp; done) | (go_simp; rfl))
                intro gb196 hg w15 hbox hb
                have n0_ := yD (zE (by (with_reducible repeat (first | apply yA | apply yB | apply yC)); exact HO191.out) hb)
                have n1_ := yD (zB (g := gb186) (o := .cells #[.slice none 0 0, .slice none 0 0] 42 (0, 0)) (by (with_reducible repeat (first | refine yM ?_ _ | refine yO ?_ | refine yN ?_ _)); exact BK186.out) hb)
                have n2_ := yD (zC (by repeat (first | (with_reducible first | exact HB.out | apply yQ | apply yL | apply yP | refine yE ?_ GE186.out) | exact HB.out)) hb)
                have n3_ := yD (hbox)
                have n4_ := yD ((by rw [hg]; exact (below_size (by repeat (first | (with_reducible first | exact HB.out | apply yQ | apply yL | apply yP | refine yE ?_ GE186.out) | exact HB.out))) : w.heap.size ≤ gb196))
                have n5_ := yD ((by rw [hg]; exact (below_size (by repeat (first | (with_reducible first | exact HB.out | apply yQ | apply yL | apply yP | refine yE ?_ GE186.out) | exact HB.out))) : w.heap.size ≤ gb196))
                have n6_ := yD ((by rw [hg]; exact Nat.ne_of_lt (blk_lt (g := gb186) (o := .cells #[.slice none 0 0, .slice none 0 0] 42 (0, 0)) (by (with_reducible repeat (first | refine yM ?_ _ | refine yO ?_ | refine yN ?_ _)); exact BK186.out)) : gb186 ≠ gb196))
                have n7_ := yD ((by rw [hg]; exact Nat.ne_of_gt (blk_lt (g := gb186) (o := .cells #[.slice none 0 0, .slice none 0 0] 42 (0, 0)) (by (with_reducible repeat (first | refine yM ?_ _ | refine yO ?_ | refine yN ?_ _)); exact BK186.out)) : gb196 ≠ gb186))
                clear HO191 BK186 HB; have HO191 := n0_; have BK186 := n1_; have HB := n2_; have BK196 := n3_; have GW196 := n4_; have GE196 := n5_; have NB186_196 := n6_; have NB196_186 := n7_; clear n0_ n1_ n2_ n3_ n4_ n5_ n6_ n7_ hb hbox hg
                refine hK.out _ _ ⟨((HB.out.cell (zQ w _ hw188_0)).trans hw188_0), ((HB.out.cell (zQ w _ hw188_1)).trans hw188_1), ((HB.out.cell (zQ w _ hw192_0)).trans hw192_0), ((HB.out.cell (zQ w _ hw192_1)).trans hw192_1)⟩ (fun hHeld => ?_)
                clear hK K
                refine norm_ (a' := ?_) ?_ ?_
                rotate_left
                · show Act.put _ (some 4) _ = _
                  simp only [Act.put, zH, zI, zJ, i64_w, i32_w]
                  rfl
                refine one_ (i := 9) (N := some 26) #[true, true, true, true, true, true, true, true, true, true, false, true, false] rfl rfl (one_of HT_.out (by kernel_rfl)) (by decide) (fun K hK => ?_)
                refine goes_ Try.func74 (by kernel_rfl) rfl #[.slice A188_1 ((rd_T42 l0 0).f1).length c188_1] (by rfl) rfl rfl (by (try simp only [zK, zL, zM]); first | done | rfl | (simp only [zN, zO]; rfl)) ?_
                with_reducible refine (slices_Clone_int64_int64.calls _ _ ((rd_T42 l0 0).f1) t193 _ ?side1 ?side2 A12.out).mono ?_
                (case side1 => repeat (first | exact (yY HR192_1.out HB.out) | (with_reducible first | refine yV ?_ _ | refine yW ?_ _ | refine yX ?_)))
                (case side2 => exact HC192_1.out)
                rintro e w16 ⟨v194, rfl, ho0, hb⟩
                refine ⟨_, rfl, ?_⟩
                have n0_ := yD (Kd.R_elder' (by (with_reducible repeat (first | apply yA | apply yB | apply yC)); exact HO191.out) (yH ho0) hb)
                have n1_ := yD (yZ (yJ ho0 (yK (by (with_reducible repeat (first | apply yA | apply yB | apply yC)); exact HO191.out))) (below_size (by repeat (first | (with_reducible first | exact HB.out | apply yQ | apply yL | apply yP | refine yE ?_ GE186.out | refine yE ?_ GE196.out) | exact HB.out))))
                have n2_ := yD (zB (g := gb186) (o := .cells #[.slice none 0 0, .slice none 0 0] 42 (0, 0)) (by (with_reducible repeat (first | refine yM ?_ _ | refine yO ?_ | refine yN ?_ _)); exact BK186.out) hb)
                have n3_ := yD (zB (g := gb196) (o := .cells #[.slice none 0 0, .slice none 0 0] 42 (0, 0)) (by (with_reducible repeat (first | refine yM ?_ _ | refine yO ?_ | refine yN ?_ _)); exact BK196.out) hb)
                have n4_ := yD (zC (by repeat (first | (with_reducible first | exact HB.out | apply yQ | apply yL | apply yP | refine yE ?_ GE186.out | refine yE ?_ GE196.out) | exact HB.out)) hb)
                clear HO191 BK186 BK196 HB; have HO191 := n0_; have HO195 := n1_; have BK186 := n2_; have BK196 := n3_; have HB := n4_; clear n0_ n1_ n2_ n3_ n4_; (try clear hb); (try clear hb2); (try clear hk); (try clear hi); (try clear ho0)
                obtain ⟨Ao17, co17, eo17⟩ := Kd.R_slice HO195.out
                (first | subst eo17 | (injection eo17 with f1_ f2_ f3_; have f4_ := f1_.symm; have f5_ := f3_.symm; clear f1_ f2_ f3_; subst f4_; subst f5_))
                obtain ⟨Ao18, co18, eo18⟩ := Kd.R_slice HO191.out
                (first | subst eo18 | (injection eo18 with f1_ f2_ f3_; have f4_ := f1_.symm; have f5_ := f3_.symm; clear f1_ f2_ f3_; subst f4_; subst f5_))
                refine hK.out _ _ ⟨((HB.out.cell (zQ w _ hw188_0)).trans hw188_0), ((HB.out.cell (zQ w _ hw188_1)).trans hw188_1), ((HB.out.cell (zQ w _ hw192_0)).trans hw192_0), ((HB.out.cell (zQ w _ hw192_1)).trans hw192_1)⟩ (fun hHeld => ?_)
                clear hK K
                refine norm_ (a' := ?_) ?_ ?_
                rotate_left
                · show Act.put _ (some 26) _ = _
                  simp only [Act.put, zH, zI, zJ, i64_w, i32_w]
                  rfl
                refine pure_ (i := 10) (N := some 27) (v := ?_) (a' := ?_) #[true, true, true, true, true, true, true, true, true, true, true, true, false] rfl rfl (any_of HT_.out (by kernel_rfl)) (fun _ _ _ h => h) (Or.inl ⟨by rfl, ?_⟩) ?_ ?_
                rotate_left
                · intro w'
                  go_simp
                  with_reducible rfl
                rotate_left
                · simp only [Act.put, zH, zI, zJ, i64_w, i32_w]
                  rfl
                exact norm_ (by simp only [putAll, Act.put, zH, zI, zJ]) (hCont (.slice Ao18 t189.length co18, .slice Ao17 t193.length co17, gb196) _ ⟨hHeld, (by (with_reducible repeat (first | apply yA | apply yB | apply yC)); exact zF HO191.out (fun _ hk => hk.2)), (by (with_reducible repeat (first | apply yA | apply yB | apply yC)); exact zF HO195.out (fun _ hk => hk.2)), (by (with_reducible repeat (first | refine yM ?_ _ | refine yO ?_ | refine yN ?_ _)); exact BK186.out), (by (with_reducible repeat (first | refine yM ?_ _ | refine yO ?_ | refine yN ?_ _)); exact BK196.out), GW196.out, GE196.out, NB186_196.out, NB196_186.out, (by repeat (first | (with_reducible first | exact HB.out | apply yQ | apply yL | apply yP | refine yE ?_ GE186.out | refine yE ?_ GE196.out) | exact HB.out))⟩)
            · skip
              refine box_step ?hg (N := 4) ?hd (cs := #[.slice none 0 0, .slice none 0 0]) (t := 42) ?hr ?_; (case hd => rfl); (case hg => rfl); (case hr => first | (go_simp; done) | (go_simp; rfl))
              intro gb196 hg w14 hbox hb
              have n0_ := yD (zB (g := gb186) (o := .cells #[.slice none 0 0, .slice none 0 0] 42 (0, 0)) (by (with_reducible repeat (first | refine yM ?_ _ | refine yO ?_ | refine yN ?_ _)); exact BK186.out) hb)
              have n1_ := yD (zC (by repeat (first | (with_reducible first | exact HB.out | apply yQ | apply yL | apply yP | refine yE ?_ GE186.out) | exact HB.out)) hb)
              have n2_ := yD (hbox)
              have n3_ := yD ((by rw [hg]; exact (below_size (by repeat (first | (with_reducible first | exact HB.out | apply yQ | apply yL | apply yP | refine yE ?_ GE186.out) | exact HB.out))) : w.heap.size ≤ gb196))
              have n4_ := yD ((by rw [hg]; exact (below_size (by repeat (first | (with_reducible first | exact HB.out | apply yQ | apply yL | apply yP | refine yE ?_ GE186.out) | exact HB.out))) : w.heap.size ≤ gb196))
              have n5_ := yD ((by rw [hg]; exact Nat.ne_of_lt (blk_lt (g := gb186) (o := .cells #[.slice none 0 0, .slice none 0 0] 42 (0, 0)) (by (with_reducible repeat (first | refine yM ?_ _ | refine yO ?_ | refine yN ?_ _)); exact BK186.out)) : gb186 ≠ gb196))
              have n6_ := yD ((by rw [hg]; exact Nat.ne_of_gt (blk_lt (g := gb186) (o := .cells #[.slice none 0 0, .slice none 0 0] 42 (0, 0)) (by (with_reducible repeat (first | refine yM ?_ _ | refine yO ?_ | refine yN ?_ _)); exact BK186.out)) : gb196 ≠ gb186))
              clear BK186 HB; have BK186 := n0_; have HB := n1_; have BK196 := n2_; have GW196 := n3_; have GE196 := n4_; have NB186_196 := n5_; have NB196_186 := n6_; clear n0_ n1_ n2_ n3_ n4_ n5_ n6_ hb hbox hg
              refine hK.out _ _ ⟨((HB.out.cell (zQ w _ hw188_0)).trans hw188_0), ((HB.out.cell (zQ w _ hw188_1)).trans hw188_1), ((HB.out.cell (zQ w _ hw192_0)).trans hw192_0), ((HB.out.cell (zQ w _ hw192_1)).trans hw192_1)⟩ (fun hHeld => ?_)
              clear hK K
              refine norm_ (a' := ?_) ?_ ?_
              rotate_left
              · show Act.put _ (some 4) _ = _
                simp only [Act.put, zH, zI, zJ, i64_w, i32_w]
                rfl
              refine one_ (i := 4) (N := some 21) #[true, true, true, true, true, true, true, true, true, false, false, true, false] rfl rfl (one_of HT_.out (by kernel_rfl)) (by decide) (fun K hK => ?_)
              refine goes_ Try.func74 (by kernel_rfl) rfl #[.slice A188_0 ((rd_T42 l0 0).f0).length c188_0] (by rfl) rfl rfl (by (try simp only [zK, zL, zM]); first | done | rfl | (simp only [zN, zO]; rfl)) ?_
              with_reducible refine (slices_Clone_int64_int64.calls _ _ ((rd_T42 l0 0).f0) t189 _ ?side1 ?side2 A11.out).mono ?_
              (case side1 => repeat (first | exact (yY HR188_0.out HB.out) | (with_reducible first | refine yV ?_ _ | refine yW ?_ _ | refine yX ?_)))
              (case side2 => exact HC188_0.out)
              rintro e w15 ⟨v190, rfl, ho0, hb⟩
              refine ⟨_, rfl, ?_⟩
              have n0_ := yD (yZ ho0 (below_size (by repeat (first | (with_reducible first | exact HB.out | apply yQ | apply yL | apply yP | refine yE ?_ GE186.out | refine yE ?_ GE196.out) | exact HB.out))))
              have n1_ := yD (zB (g := gb186) (o := .cells #[.slice none 0 0, .slice none 0 0] 42 (0, 0)) (by (with_reducible repeat (first | refine yM ?_ _ | refine yO ?_ | refine yN ?_ _)); exact BK186.out) hb)
              have n2_ := yD (zB (g := gb196) (o := .cells #[.slice none 0 0, .slice none 0 0] 42 (0, 0)) (by (with_reducible repeat (first | refine yM ?_ _ | refine yO ?_ | refine yN ?_ _)); exact BK196.out) hb)
              have n3_ := yD (zC (by repeat (first | (with_reducible first | exact HB.out | apply yQ | apply yL | apply yP | refine yE ?_ GE186.out | refine yE ?_ GE196.out) | exact HB.out)) hb)
              clear BK186 BK196 HB; have HO191 := n0_; have BK186 := n1_; have BK196 := n2_; have HB := n3_; clear n0_ n1_ n2_ n3_; (try clear hb); (try clear hb2); (try clear hk); (try clear hi); (try clear ho0)
              refine hK.out _ _ ⟨((HB.out.cell (zQ w _ hw188_0)).trans hw188_0), ((HB.out.cell (zQ w _ hw188_1)).trans hw188_1), ((HB.out.cell (zQ w _ hw192_0)).trans hw192_0), ((HB.out.cell (zQ w _ hw192_1)).trans hw192_1)⟩ (fun hHeld => ?_)
              clear hK K
              refine norm_ (a' := ?_) ?_ ?_
              rotate_left
              · show Act.put _ (some 21) _ = _
                simp only [Act.put, zH, zI, zJ, i64_w, i32_w]
                rfl
              refine one_ (i := 9) (N := some 26) #[true, true, true, true, true, true, true, true, true, true, false, true, false] rfl rfl (one_of HT_.out (by kernel_rfl)) (by decide) (fun K hK => ?_)
              refine goes_ Try.func74 (by kernel_rfl) rfl #[.slice A188_1 ((rd_T42 l0 0).f1).length c188_1] (by rfl) rfl rfl (by (try simp only [zK, zL, zM]); first | done | rfl | (simp only [zN, zO]; rfl)) ?_
              with_reducible refine (slices_Clone_int64_int64.calls _ _ ((rd_T42 l0 0).f1) t193 _ ?side1 ?side2 A12.out).mono ?_
              (case side1 => repeat (first | exact (yY HR192_1.out HB.out) | (with_reducible first | refine yV ?_ _ | refine yW ?_ _ | refine yX ?_)))
              (case side2 => exact HC192_1.out)
              rintro e w16 ⟨v194, rfl, ho0, hb⟩
              refine ⟨_, rfl, ?_⟩
              have n0_ := yD (Kd.R_elder' (by (with_reducible repeat (first | apply yA | apply yB | apply yC)); exact HO191.out) (yH ho0) hb)
              have n1_ := yD (yZ (yJ ho0 (yK (by (with_reducible repeat (first | apply yA | apply yB | apply yC)); exact HO191.out))) (below_size (by repeat (first | (with_reducible first | exact HB.out | apply yQ | apply yL | apply yP | refine yE ?_ GE186.out | refine yE ?_ GE196.out) | exact HB.out))))
              have n2_ := yD (zB (g := gb186) (o := .cells #[.slice none 0 0, .slice none 0 0] 42 (0, 0)) (by (with_reducible repeat (first | refine yM ?_ _ | refine yO ?_ | refine yN ?_ _)); exact BK186.out) hb)
              have n3_ := yD (zB (g := gb196) (o := .cells #[.slice none 0 0, .slice none 0 0] 42 (0, 0)) (by (with_reducible repeat (first | refine yM ?_ _ | refine yO ?_ | refine yN ?_ _)); exact BK196.out) hb)
              have n4_ := yD (zC (by repeat (first | (with_reducible first | exact HB.out | apply yQ | apply yL | apply yP | refine yE ?_ GE186.out | refine yE ?_ GE196.out) | exact HB.out)) hb)
              clear HO191 BK186 BK196 HB; have HO191 := n0_; have HO195 := n1_; have BK186 := n2_; have BK196 := n3_; have HB := n4_; clear n0_ n1_ n2_ n3_ n4_; (try clear hb); (try clear hb2); (try clear hk); (try clear hi); (try clear ho0)
              obtain ⟨Ao17, co17, eo17⟩ := Kd.R_slice HO195.out
              (first | subst eo17 | (injection eo17 with f1_ f2_ f3_; have f4_ := f1_.symm; have f5_ := f3_.symm; clear f1_ f2_ f3_; subst f4_; subst f5_))
              obtain ⟨Ao18, co18, eo18⟩ := Kd.R_slice HO191.out
              (first | subst eo18 | (injection eo18 with f1_ f2_ f3_; have f4_ := f1_.symm; have f5_ := f3_.symm; clear f1_ f2_ f3_; subst f4_; subst f5_))
              refine hK.out _ _ ⟨((HB.out.cell (zQ w _ hw188_0)).trans hw188_0), ((HB.out.cell (zQ w _ hw188_1)).trans hw188_1), ((HB.out.cell (zQ w _ hw192_0)).trans hw192_0), ((HB.out.cell (zQ w _ hw192_1)).trans hw192_1)⟩ (fun hHeld => ?_)
              clear hK K
              refine norm_ (a' := ?_) ?_ ?_
              rotate_left
              · show Act.put _ (some 26) _ = _
                simp only [Act.put, zH, zI, zJ, i64_w, i32_w]
                rfl
              refine pure_ (i := 10) (N := some 27) (v := ?_) (a' := ?_) #[true, true, true, true, true, true, true, true, true, true, true, true, false] rfl rfl (any_of HT_.out (by kernel_rfl)) (fun _ _ _ h => h) (Or.inl ⟨by rfl, ?_⟩) ?_ ?_
              rotate_left
              · intro w'
                go_simp
                with_reducible rfl
              rotate_left
              · simp only [Act.put, zH, zI, zJ, i64_w, i32_w]
                rfl
              exact norm_ (by simp only [putAll, Act.put, zH, zI, zJ]) (hCont (.slice Ao18 t189.length co18, .slice Ao17 t193.length co17, gb196) _ ⟨hHeld, (by (with_reducible repeat (first | apply yA | apply yB | apply yC)); exact zF HO191.out (fun _ hk => hk.2)), (by (with_reducible repeat (first | apply yA | apply yB | apply yC)); exact zF HO195.out (fun _ hk => hk.2)), (by (with_reducible repeat (first | refine yM ?_ _ | refine yO ?_ | refine yN ?_ _)); exact BK186.out), (by (with_reducible repeat (first | refine yM ?_ _ | refine yO ?_ | refine yN ?_ _)); exact BK196.out), GW196.out, GE196.out, NB186_196.out, NB196_186.out, (by repeat (first | (with_reducible first | exact HB.out | apply yQ | apply yL | apply yP | refine yE ?_ GE186.out | refine yE ?_ GE196.out) | exact HB.out))⟩)
          rintro ⟨v190, v194, gb196⟩ w19 ⟨hS_, h0_, h1_, h2_, h3_, h4_, h5_, h6_, h7_, h8_⟩
          have n0_ : Aside0 (Kd.R (Kd.int .i64) 2 w19 w.heap.size (fun k_ => some k_ ≠ (v194 : Value).ownBlock) v190 t189) := ⟨h0_⟩
          have n1_ : Aside0 (Kd.R (Kd.int .i64) 2 w19 w.heap.size (fun k_ => some k_ ≠ (v190 : Value).ownBlock) v194 t193) := ⟨h1_⟩
          have n2_ : Aside0 (w19.heap[gb186]? = some (.cells #[.slice none 0 0, .slice none 0 0] 42 (0, 0))) := ⟨h2_⟩
          have n3_ : Aside0 (w19.heap[gb196]? = some (.cells #[.slice none 0 0, .slice none 0 0] 42 (0, 0))) := ⟨h3_⟩
          have n4_ : Aside0 (w.heap.size ≤ gb196) := ⟨h4_⟩
          have n5_ : Aside0 (w.heap.size ≤ gb196) := ⟨h5_⟩
          have n6_ : Aside0 (gb186 ≠ gb196) := ⟨h6_⟩
          have n7_ : Aside0 (gb196 ≠ gb186) := ⟨h7_⟩
          have n8_ : Aside0 (Below w.heap.size w w19) := ⟨h8_⟩
          clear BK186 HB h0_ h1_ h2_ h3_ h4_ h5_ h6_ h7_ h8_; have HO191 := n0_; have HO195 := n1_; have BK186 := n2_; have BK196 := n3_; have GW196 := n4_; have GE196 := n5_; have NB186_196 := n6_; have NB196_186 := n7_; have HB := n8_; clear n0_ n1_ n2_ n3_ n4_ n5_ n6_ n7_ n8_
          have hHeld : w19.cell? ad188 = some (.slice A188_0 ((rd_T42 l0 0).f0).length c188_0) ∧ w19.cell? ⟨ad188.block, ad188.off + 1, none⟩ = some (.slice A188_1 ((rd_T42 l0 0).f1).length c188_1) ∧ w19.cell? ad188 = some (.slice A188_0 ((rd_T42 l0 0).f0).length c188_0) ∧ w19.cell? ⟨ad188.block, ad188.off + 1, none⟩ = some (.slice A188_1 ((rd_T42 l0 0).f1).length c188_1) := hS_
          obtain ⟨Ao20, co20, eo20⟩ := Kd.R_slice HO195.out
          (first | subst eo20 | (injection eo20 with f1_ f2_ f3_; have f4_ := f1_.symm; have f5_ := f3_.symm; clear f1_ f2_ f3_; subst f4_; subst f5_))
          obtain ⟨Ao21, co21, eo21⟩ := Kd.R_slice HO191.out
          (first | subst eo21 | (injection eo21 with f1_ f2_ f3_; have f4_ := f1_.symm; have f5_ := f3_.symm; clear f1_ f2_ f3_; subst f4_; subst f5_))
          refine norm_ (a' := ?_) ?_ ?_
          rotate_left
          · simp only [putAll, Act.put, zH, zI, zJ]
            rfl
          refine one_ (i := 12) (N := none) #[true, true, true, true, true, true, true, true, true, true, true, true, true] rfl rfl (one_of HT_.out (by kernel_rfl)) (by decide) (fun K hK => ?_)
          have hs22 : w19.cell? ⟨gb196, 0, none⟩ = some (.slice none 0 0) := (yG BK196.out 0).trans rfl
          have hfs22 := yR BK196.out 0
          have hns22_0 := NB186_196.out; have hms22_0 := NB196_186.out
          have hs23 : w19.cell? ⟨gb196, 1, none⟩ = some (.slice none 0 0) := (yG BK196.out 1).trans rfl
          have hfs23 := yR BK196.out 1
          have hns23_0 := NB186_196.out; have hms23_0 := NB196_186.out
          refine skip_ (w1 := ?_) (by rfl) rfl ?_ ?_
          rotate_left
          · go_simp
            rfl
          refine hK.out _ _ ⟨((cell_far (p := ⟨gb196, _, none⟩) (by first | exact Nat.ne_of_lt (Nat.lt_of_lt_of_le (by have := zQ _ _ hw188_0; first | rwa [add_block] at this | exact this) GW196.out) | (rw [add_block]; exact Nat.ne_of_lt (Nat.lt_of_lt_of_le (by have := zQ _ _ hw188_0; first | rwa [add_block] at this | exact this) GW196.out)) | (show (Addr.add _ _).block ≠ _; rw [add_block]; exact Nat.ne_of_lt (Nat.lt_of_lt_of_le (by have := zQ _ _ hw188_0; first | rwa [add_block] at this | exact this) GW196.out)) | (dsimp only; exact Nat.ne_of_lt (Nat.lt_of_lt_of_le (by have := zQ _ _ hw188_0; first | rwa [add_block] at this | exact this) GW196.out))) _).trans (((cell_far (p := ⟨gb196, _, none⟩) (by first | exact Nat.ne_of_lt (Nat.lt_of_lt_of_le (by have := zQ _ _ hw188_0; first | rwa [add_block] at this | exact this) GW196.out) | (rw [add_block]; exact Nat.ne_of_lt (Nat.lt_of_lt_of_le (by have := zQ _ _ hw188_0; first | rwa [add_block] at this | exact this) GW196.out)) | (show (Addr.add _ _).block ≠ _; rw [add_block]; exact Nat.ne_of_lt (Nat.lt_of_lt_of_le (by have := zQ _ _ hw188_0; first | rwa [add_block] at this | exact this) GW196.out)) | (dsimp only; exact Nat.ne_of_lt (Nat.lt_of_lt_of_le (by have := zQ _ _ hw188_0; first | rwa [add_block] at this | exact this) GW196.out))) _).trans (hHeld.1)))), ((cell_far (p := ⟨gb196, _, none⟩) (by first | exact Nat.ne_of_lt (Nat.lt_of_lt_of_le (by have := zQ _ _ hw188_1; first | rwa [add_block] at this | exact this) GW196.out) | (rw [add_block]; exact Nat.ne_of_lt (Nat.lt_of_lt_of_le (by have := zQ _ _ hw188_1; first | rwa [add_block] at this | exact this) GW196.out)) | (show (Addr.add _ _).block ≠ _; rw [add_block]; exact Nat.ne_of_lt (Nat.lt_of_lt_of_le (by have := zQ _ _ hw188_1; first | rwa [add_block] at this | exact this) GW196.out)) | (dsimp only; exact Nat.ne_of_lt (Nat.lt_of_lt_of_le (by have := zQ _ _ hw188_1; first | rwa [add_block] at this | exact this) GW196.out))) _).trans (((cell_far (p := ⟨gb196, _, none⟩) (by first | exact Nat.ne_of_lt (Nat.lt_of_lt_of_le (by have := zQ _ _ hw188_1; first | rwa [add_block] at this | exact this) GW196.out) | (rw [add_block]; exact Nat.ne_of_lt (Nat.lt_of_lt_of_le (by have := zQ _ _ hw188_1; first | rwa [add_block] at this | exact this) GW196.out)) | (show (Addr.add _ _).block ≠ _; rw [add_block]; exact Nat.ne_of_lt (Nat.lt_of_lt_of_le (by have := zQ _ _ hw188_1; first | rwa [add_block] at this | exact this) GW196.out)) | (dsimp only; exact Nat.ne_of_lt (Nat.lt_of_lt_of_le (by have := zQ _ _ hw188_1; first | rwa [add_block] at this | exact this) GW196.out))) _).trans (hHeld.2.1)))), ((cell_far (p := ⟨gb196, _, none⟩) (by first | exact Nat.ne_of_lt (Nat.lt_of_lt_of_le (by have := zQ _ _ hw192_0; first | rwa [add_block] at this | exact this) GW196.out) | (rw [add_block]; exact Nat.ne_of_lt (Nat.lt_of_lt_of_le (by have := zQ _ _ hw192_0; first | rwa [add_block] at this | exact this) GW196.out)) | (show (Addr.add _ _).block ≠ _; rw [add_block]; exact Nat.ne_of_lt (Nat.lt_of_lt_of_le (by have := zQ _ _ hw192_0; first | rwa [add_block] at this | exact this) GW196.out)) | (dsimp only; exact Nat.ne_of_lt (Nat.lt_of_lt_of_le (by have := zQ _ _ hw192_0; first | rwa [add_block] at this | exact this) GW196.out))) _).trans (((cell_far (p := ⟨gb196, _, none⟩) (by first | exact Nat.ne_of_lt (Nat.lt_of_lt_of_le (by have := zQ _ _ hw192_0; first | rwa [add_block] at this | exact this) GW196.out) | (rw [add_block]; exact Nat.ne_of_lt (Nat.lt_of_lt_of_le (by have := zQ _ _ hw192_0; first | rwa [add_block] at this | exact this) GW196.out)) | (show (Addr.add _ _).block ≠ _; rw [add_block]; exact Nat.ne_of_lt (Nat.lt_of_lt_of_le (by have := zQ _ _ hw192_0; first | rwa [add_block] at this | exact this) GW196.out)) | (dsimp only; exact Nat.ne_of_lt (Nat.lt_of_lt_of_le (by have := zQ _ _ hw192_0; first | rwa [add_block] at this | exact this) GW196.out))) _).trans (hHeld.2.2.1)))), ((cell_far (p := ⟨gb196, _, none⟩) (by first | exact Nat.ne_of_lt (Nat.lt_of_lt_of_le (by have := zQ _ _ hw192_1; first | rwa [add_block] at this | exact this) GW196.out) | (rw [add_block]; exact Nat.ne_of_lt (Nat.lt_of_lt_of_le (by have := zQ _ _ hw192_1; first | rwa [add_block] at this | exact this) GW196.out)) | (show (Addr.add _ _).block ≠ _; rw [add_block]; exact Nat.ne_of_lt (Nat.lt_of_lt_of_le (by have := zQ _ _ hw192_1; first | rwa [add_block] at this | exact this) GW196.out)) | (dsimp only; exact Nat.ne_of_lt (Nat.lt_of_lt_of_le (by have := zQ _ _ hw192_1; first | rwa [add_block] at this | exact this) GW196.out))) _).trans (((cell_far (p := ⟨gb196, _, none⟩) (by first | exact Nat.ne_of_lt (Nat.lt_of_lt_of_le (by have := zQ _ _ hw192_1; first | rwa [add_block] at this | exact this) GW196.out) | (rw [add_block]; exact Nat.ne_of_lt (Nat.lt_of_lt_of_le (by have := zQ _ _ hw192_1; first | rwa [add_block] at this | exact this) GW196.out)) | (show (Addr.add _ _).block ≠ _; rw [add_block]; exact Nat.ne_of_lt (Nat.lt_of_lt_of_le (by have := zQ _ _ hw192_1; first | rwa [add_block] at this | exact this) GW196.out)) | (dsimp only; exact Nat.ne_of_lt (Nat.lt_of_lt_of_le (by have := zQ _ _ hw192_1; first | rwa [add_block] at this | exact this) GW196.out))) _).trans (hHeld.2.2.2))))⟩ (fun hHeld => ?_)
          clear hK K
          refine done_ (done_of HT_.out (by kernel_rfl)) ?_
          try go_wp2
          go_loopg [30] kj1 (fun kq v30 w' => ∃ (x30_2 : Int) (x197000_2 : List Int) (x197001_2 : List Int) (u197000 : Value) (u197001 : Value), v30 = .int .i64 x30_2 ∧ Aside0 (impl_BoundsOf.l0 kq l0 (l0.length : Int) x30_2 x197000_2 x197001_2 = some (r1, r2, r3)) ∧ Aside0 (kq ≤ kj1) ∧ Aside0 (Kd.R (Kd.int .i64) 2 w' w.heap.size (fun k_ => some k_ ≠ (u197001 : Value).ownBlock) u197000 x197000_2) ∧ Aside0 (Kd.R (Kd.int .i64) 2 w' w.heap.size (fun k_ => some k_ ≠ (u197000 : Value).ownBlock) u197001 x197001_2) ∧ Aside0 (w'.heap[gb186]? = some (.cells #[(.slice none 0 0), (.slice none 0 0)] 42 (0, 0))) ∧ Aside0 (w'.heap[gb196]? = some (.cells #[u197000, u197001] 42 (0, 0))) ∧ Aside0 (Below w.heap.size w w'))
          case atStart => exact ⟨(0), (t189), (t193), (.slice Ao21 t189.length co21), (.slice Ao20 t193.length co20), (by first | rfl | (simp; done) | (simp [*]; done)), H', ⟨Nat.le_refl _⟩, ⟨by (with_reducible repeat (first | apply yA | apply yB | apply yC)); exact zF (yF (p := ⟨gb196, 1, none⟩) (yF (p := ⟨gb196, 0, none⟩) (Kd.R_types HO191.out BK196.out (by decide)) (fun _ hk => hk.2) (.slice Ao21 t189.length co21)) (fun _ hk => hk.2) (.slice Ao20 t193.length co20)) (fun _ hk => hk.1)⟩, ⟨by (with_reducible repeat (first | apply yA | apply yB | apply yC)); exact zF (yF (p := ⟨gb196, 1, none⟩) (yF (p := ⟨gb196, 0, none⟩) (Kd.R_types HO195.out BK196.out (by decide)) (fun _ hk => hk.2) (.slice Ao21 t189.length co21)) (fun _ hk => hk.2) (.slice Ao20 t193.length co20)) (fun _ hk => hk.1)⟩, ⟨by (with_reducible repeat (first | refine yM ?_ _ | refine yO ?_ | refine yN ?_ _)); refine blk_far ?_ NB186_196.out _; (with_reducible repeat (first | refine yM ?_ _ | refine yO ?_ | refine yN ?_ _)); refine blk_far ?_ NB186_196.out _; (with_reducible repeat (first | refine yM ?_ _ | refine yO ?_ | refine yN ?_ _)); exact BK186.out⟩, ⟨by (with_reducible repeat (first | refine yM ?_ _ | refine yO ?_ | refine yN ?_ _)); refine blk_put (cs := #[.slice Ao21 t189.length co21, .slice none 0 0]) ?_ 1 _ rfl; (with_reducible repeat (first | refine yM ?_ _ | refine yO ?_ | refine yN ?_ _)); refine blk_put (cs := #[.slice none 0 0, .slice none 0 0]) ?_ 0 _ rfl; (with_reducible repeat (first | refine yM ?_ _ | refine yO ?_ | refine yN ?_ _)); exact BK196.out⟩, ⟨by repeat (first | (with_reducible first | exact HB.out | apply yQ | apply yL | apply yP | refine yE ?_ GE186.out | refine yE ?_ GE196.out) | exact HB.out)⟩⟩
          case round =>
            clear H'
            try clear c1; try clear p1; try clear q1; try clear hx1; try clear qi1; try clear p2; try clear c3; try clear c5; try clear c6; try clear c7; try clear c8; try clear c10; try clear c10b0; try clear c10b1; try clear c18; try clear p18; try clear q18; try clear hx18; try clear qi18; try clear c19; try clear p19; try clear q19; try clear hx19; try clear qi19; try clear hcz9_0; try clear hcz9_1; try clear hfz9_0; try clear hfz9_1; try clear hx188_0; try clear hx188_1; try clear hx192_0; try clear hx192_1; try clear p188; try clear p192; try clear p2; try clear q188; try clear q192
            obtain ⟨x30_2, x197000_2, x197001_2, u197000, u197001, rfl, HA, HK2, HO_197000, HO_197001, BK186, BK196, HB⟩ := hrel
            cases gk with
            | zero => exact absurd HA.out (by simp [impl_BoundsOf.l0])
            | succ k2 =>
              have H := HA.out; clear HA
              simp only [impl_BoundsOf.l0] at H
              by_cases c24 : x30_2 < (l0.length : Int)
              · rw [if_pos c24] at H
                have c24b0 : decide (x30_2 < (l0.length : Int)) = true := zR c24; clear c24
                by_cases c25 : 0 ≤ x30_2
                · rw [if_pos c25] at H
                  have c25b0 : decide (0 ≤ x30_2) = true := zR c25; clear c25
                  by_cases c26 : x30_2 < (l0.length : Int)
                  · rw [if_pos c26] at H
                    have c26b0 : decide (x30_2 < (l0.length : Int)) = true := zR c26; clear c26
                    have H' := yD H
                    clear H
                    have p197 : 0 ≤ (x30_2 : Int) := zP (by assumption)
                    have q197 : x30_2 < (l0.length : Int) := zP (by assumption)
                    obtain ⟨ad197, A197_0, c197_0, A197_1, c197_1, e197, hx197_0, hx197_1, hl197_0, hi197_0, hl197_1, hi197_1⟩ := at_T42 HR0.out x30_2 p197 q197
                    obtain rfl : ad188 = ad197 := (by injection e197)
                    replace hx197_0 := (HB.out.cell (zQ w _ hx197_0)).trans hx197_0
                    replace hx197_1 := (HB.out.cell (zQ w _ hx197_1)).trans hx197_1
                    have HR197_0 := yD hi197_0
                    have HC197_0 := yD hl197_0
                    clear hi197_0 hl197_0
                    have HR197_1 := yD hi197_1
                    have HC197_1 := yD hl197_1
                    clear hi197_1 hl197_1; replace p197 := eq_true p197; replace q197 := eq_true q197
                    go_wp2_with (first | ((with_reducible refine gate_dst (N := 6) rfl ?_); (try (refine gate_guard (by rfl) ?_; dsimp only)); refine box_event ?hg (N := 6) ?hd (cs := #[.slice none 0 0, .slice none 0 0]) (t := 42) ?hr ?_; (case hd => rfl); (case hg => rfl); (case hr => first | (go_simp; done) | (go_simp; rfl)); intro gb198 hg w27 hbox hb; have n0_ := yD (zE (by (with_reducible repeat (first | apply yA | apply yB | apply yC)); exact HO_197000.out) hb); have n1_ := yD (zE (by (with_reducible repeat (first | apply yA | apply yB | apply yC)); exact HO_197001.out) hb); have n2_ := yD (zB (g := gb186) (o := .cells #[.slice none 0 0, .slice none 0 0] 42 (0, 0)) (by (with_reducible repeat (first | refine yM ?_ _ | refine yO ?_ | refine yN ?_ _)); exact BK186.out) hb); have n3_ := yD (zB (g := gb196) (o := .cells #[u197000, u197001] 42 (0, 0)) (by (with_reducible repeat (first | refine yM ?_ _ | refine yO ?_ | refine yN ?_ _)); exact BK196.out) hb); have n4_ := yD (zC (by repeat (first | (with_reducible first | exact HB.out | apply yQ | apply yL | apply yP | refine yE ?_ GE186.out | refine yE ?_ GE196.out) | exact HB.out)) hb); have n5_ := yD (hbox); have n6_ := yD ((by rw [hg]; exact (below_size (by repeat (first | (with_reducible first | exact HB.out | apply yQ | apply yL | apply yP | refine yE ?_ GE186.out | refine yE ?_ GE196.out) | exact HB.out))) : w.heap.size ≤ gb198)); have n7_ := yD ((by rw [hg]; exact (below_size (by repeat (first | (with_reducible first | exact HB.out | apply yQ | apply yL | apply yP | refine yE ?_ GE186.out | refine yE ?_ GE196.out) | exact HB.out))) : w.heap.size ≤ gb198)); have n8_ := yD ((by rw [hg]; exact Nat.ne_of_lt (blk_lt (g := gb186) (o := .cells #[.slice none 0 0, .slice none 0 0] 42 (0, 0)) (by (with_reducible repeat (first | refine yM ?_ _ | refine yO ?_ | refine yN ?_ _)); exact BK186.out)) : gb186 ≠ gb198)); have n9_ := yD ((by rw [hg]; exact Nat.ne_of_gt (blk_lt (g := gb186) (o := .cells #[.slice none 0 0, .slice none 0 0] 42 (0, 0)) (by (with_reducible repeat (first | refine yM ?_ _ | refine yO ?_ | refine yN ?_ _)); exact BK186.out)) : gb198 ≠ gb186)); have n10_ := yD ((by rw [hg]; exact Nat.ne_of_lt (blk_lt (g := gb196) (o := .cells #[u197000, u197001] 42 (0, 0)) (by (with_reducible repeat (first | refine yM ?_ _ | refine yO ?_ | refine yN ?_ _)); exact BK196.out)) : gb196 ≠ gb198)); have n11_ := yD ((by rw [hg]; exact Nat.ne_of_gt (blk_lt (g := gb196) (o := .cells #[u197000, u197001] 42 (0, 0)) (by (with_reducible repeat (first | refine yM ?_ _ | refine yO ?_ | refine yN ?_ _)); exact BK196.out)) : gb198 ≠ gb196)); clear HO_197000; clear HO_197001; clear BK186; clear BK196; clear HB; have HO_197000 := n0_; have HO_197001 := n1_; have BK186 := n2_; have BK196 := n3_; have HB := n4_; have BK198 := n5_; have GW198 := n6_; have GE198 := n7_; have NB186_198 := n8_; have NB198_186 := n9_; have NB196_198 := n10_; have NB198_196 := n11_; clear n0_ n1_ n2_ n3_ n4_ n5_ n6_ n7_ n8_ n9_ n10_ n11_; clear hb hbox hg; have hnb28 := NB198_186.out; have hnc28 := NB186_198.out; have hnb29 := NB198_196.out; have hnc29 := NB196_198.out; have hcz30_0 : w27.cell? ⟨gb198, 0, none⟩ = some (.slice none 0 0) := (yG BK198.out 0).trans rfl; have hcz30_1 : w27.cell? ⟨gb198, 1, none⟩ = some (.slice none 0 0) := (yG BK198.out 1).trans rfl; have hfz30_0 := yR BK198.out 0; have hfz30_1 := yR BK198.out 1))
                    (try simp only [Act.put, zH, zI, zJ])
                    go_loopg [37] k2 (fun kq v37 w' => ∃ (x37_3 : Int) (x197000_3 : List Int) (x197001_3 : List Int) (u197000 : Value) (u197001 : Value), v37 = .int .i64 x37_3 ∧ Aside0 (impl_BoundsOf.l1 kq l0 (l0.length : Int) x30_2 (((rd_T42 l0 x30_2).f0).length : Int) x37_3 x197000_3 x197001_3 ((rd_T42 l0 x30_2).f0) ((rd_T42 l0 x30_2).f1) = some (r1, r2, r3)) ∧ Aside0 (kq ≤ k2) ∧ Aside0 (Kd.R (Kd.int .i64) 2 w' w.heap.size (fun k_ => some k_ ≠ (u197001 : Value).ownBlock) u197000 x197000_3) ∧ Aside0 (Kd.R (Kd.int .i64) 2 w' w.heap.size (fun k_ => some k_ ≠ (u197000 : Value).ownBlock) u197001 x197001_3) ∧ Aside0 (w'.heap[gb186]? = some (.cells #[(.slice none 0 0), (.slice none 0 0)] 42 (0, 0))) ∧ Aside0 (w'.heap[gb196]? = some (.cells #[u197000, u197001] 42 (0, 0))) ∧ Aside0 (w'.heap[gb198]? = some (.cells #[(.slice A197_0 ((rd_T42 l0 x30_2).f0).length c197_0), (.slice A197_1 ((rd_T42 l0 x30_2).f1).length c197_1)] 42 (0, 0))) ∧ Aside0 (Below w.heap.size w w'))
                    case atStart => exact ⟨(0), (x197000_2), (x197001_2), (u197000), (u197001), (by first | rfl | (simp; done) | (simp [*]; done)), H', ⟨Nat.le_refl _⟩, ⟨by (with_reducible repeat (first | apply yA | apply yB | apply yC)); exact zF (yF (p := ⟨gb198, 1, none⟩) (yF (p := ⟨gb198, 0, none⟩) (Kd.R_types HO_197000.out BK198.out (by decide)) (fun _ hk => hk.2) (.slice A197_0 ((rd_T42 l0 x30_2).f0).length c197_0)) (fun _ hk => hk.2) (.slice A197_1 ((rd_T42 l0 x30_2).f1).length c197_1)) (fun _ hk => hk.1)⟩, ⟨by (with_reducible repeat (first | apply yA | apply yB | apply yC)); exact zF (yF (p := ⟨gb198, 1, none⟩) (yF (p := ⟨gb198, 0, none⟩) (Kd.R_types HO_197001.out BK198.out (by decide)) (fun _ hk => hk.2) (.slice A197_0 ((rd_T42 l0 x30_2).f0).length c197_0)) (fun _ hk => hk.2) (.slice A197_1 ((rd_T42 l0 x30_2).f1).length c197_1)) (fun _ hk => hk.1)⟩, ⟨by (with_reducible repeat (first | refine yM ?_ _ | refine yO ?_ | refine yN ?_ _)); refine blk_far ?_ NB186_198.out _; (with_reducible repeat (first | refine yM ?_ _ | refine yO ?_ | refine yN ?_ _)); refine blk_far ?_ NB186_198.out _; (with_reducible repeat (first | refine yM ?_ _ | refine yO ?_ | refine yN ?_ _)); exact BK186.out⟩, ⟨by (with_reducible repeat (first | refine yM ?_ _ | refine yO ?_ | refine yN ?_ _)); refine blk_far ?_ NB196_198.out _; (with_reducible repeat (first | refine yM ?_ _ | refine yO ?_ | refine yN ?_ _)); refine blk_far ?_ NB196_198.out _; (with_reducible repeat (first | refine yM ?_ _ | refine yO ?_ | refine yN ?_ _)); exact BK196.out⟩, ⟨by (with_reducible repeat (first | refine yM ?_ _ | refine yO ?_ | refine yN ?_ _)); refine blk_put (cs := #[.slice A197_0 ((rd_T42 l0 x30_2).f0).length c197_0, .slice none 0 0]) ?_ 1 _ rfl; (with_reducible repeat (first | refine yM ?_ _ | refine yO ?_ | refine yN ?_ _)); refine blk_put (cs := #[.slice none 0 0, .slice none 0 0]) ?_ 0 _ rfl; (with_reducible repeat (first | refine yM ?_ _ | refine yO ?_ | refine yN ?_ _)); exact BK198.out⟩, ⟨by repeat (first | (with_reducible first | exact HB.out | apply yQ | apply yL | apply yP | refine yE ?_ GE186.out | refine yE ?_ GE196.out | refine yE ?_ GE198.out) | exact HB.out)⟩⟩
                    case round =>
                      clear H'
                      try clear c1; try clear p1; try clear q1; try clear hx1; try clear qi1; try clear c2; try clear p2; try clear c3; try clear c5; try clear c6; try clear c7; try clear c8; try clear c10; try clear c10b0; try clear c10b1; try clear c18; try clear p18; try clear q18; try clear hx18; try clear qi18; try clear c19; try clear p19; try clear q19; try clear hx19; try clear qi19; try clear c24; try clear c24b0; try clear c25; try clear c25b0; try clear c26; try clear c26b0; try clear c28; try clear c29; try clear hcz30_0; try clear hcz30_1; try clear hcz9_0; try clear hcz9_1; try clear hfz30_0; try clear hfz30_1; try clear hfz9_0; try clear hfz9_1; try clear hx188_0; try clear hx188_1; try clear hx192_0; try clear hx192_1; try clear hx197_0; try clear hx197_1; try clear p1; try clear p18; try clear p188; try clear p19; try clear p192; try clear p197; try clear p2; try clear q1; try clear q18; try clear q188; try clear q19; try clear q192; try clear q197
                      obtain ⟨x37_3, x197000_3, x197001_3, u197000, u197001, rfl, HA, HK3, HO_197000, HO_197001, BK186, BK196, BK198, HB⟩ := hrel
                      cases gk with
                      | zero => exact absurd HA.out (by simp [impl_BoundsOf.l1])
                      | succ k3 =>
                        have H := HA.out; clear HA
                        simp only [impl_BoundsOf.l1] at H
                        by_cases c31 : x37_3 < (((rd_T42 l0 x30_2).f0).length : Int)
                        · rw [if_pos c31] at H
                          have c31b0 : decide (x37_3 < (((rd_T42 l0 x30_2).f0).length : Int)) = true := zR c31; clear c31
                          by_cases c32 : 0 ≤ x37_3
                          · rw [if_pos c32] at H
                            have c32b0 : decide (0 ≤ x37_3) = true := zR c32; clear c32
                            by_cases c33 : x37_3 < (x197000_3.length : Int)
                            · rw [if_pos c33] at H
                              have c33b0 : decide (x37_3 < (x197000_3.length : Int)) = true := zR c33; clear c33
                              by_cases c34 : x37_3 < (((rd_T42 l0 x30_2).f0).length : Int)
                              · rw [if_pos c34] at H
                                have c34b0 : decide (x37_3 < (((rd_T42 l0 x30_2).f0).length : Int)) = true := zR c34; clear c34
                                obtain ⟨ji35, hji35⟩ : ∃ j_ : Int, (mn (rd x197000_3 x37_3) (rd ((rd_T42 l0 x30_2).f0) x37_3)) = j_ := ⟨_, rfl⟩
                                replace H : (if x37_3 < (x197001_3.length : Int) then (if x37_3 < (((rd_T42 l0 x30_2).f1).length : Int) then (impl_BoundsOf.l1 k3 l0 (l0.length : Int) x30_2 (((rd_T42 l0 x30_2).f0).length : Int) (wrap64 (x37_3 + 1)) (x197000_3.set (x37_3 : Int).toNat (ji35)) (x197001_3.set (x37_3 : Int).toNat (mx (rd x197001_3 x37_3) (rd ((rd_T42 l0 x30_2).f1) x37_3))) ((rd_T42 l0 x30_2).f0) ((rd_T42 l0 x30_2).f1)) else (none)) else (none)) = some (r1, r2, r3) := by first | (rw [hji35] at H; exact H) | (simp only [hji35] at H ⊢; exact H)
                                have hji35_ : (if (rd ((rd_T42 l0 x30_2).f0) x37_3) < (rd x197000_3 x37_3) then (rd ((rd_T42 l0 x30_2).f0) x37_3) else (rd x197000_3 x37_3)) = ji35 := hji35
                                obtain ⟨y201, hy201⟩ : ∃ y_ : List Int, y_ = (x197000_3.set (x37_3 : Int).toNat (ji35)) := ⟨_, rfl⟩
                                replace H : (if x37_3 < (x197001_3.length : Int) then (if x37_3 < (((rd_T42 l0 x30_2).f1).length : Int) then (impl_BoundsOf.l1 k3 l0 (l0.length : Int) x30_2 (((rd_T42 l0 x30_2).f0).length : Int) (wrap64 (x37_3 + 1)) y201 (x197001_3.set (x37_3 : Int).toNat (mx (rd x197001_3 x37_3) (rd ((rd_T42 l0 x30_2).f1) x37_3))) ((rd_T42 l0 x30_2).f0) ((rd_T42 l0 x30_2).f1)) else (none)) else (none)) = some (r1, r2, r3) := by first | (rw [hy201]; with_reducible exact H) | (have H2_ := (Option.bind_some _ _).symm.trans H; rw [hy201]; with_reducible exact H2_) | (have H2_ := (Option.bind_some _ _).symm.trans H; with_reducible exact H2_) | with_reducible exact H | (rw [hy201]; exact H) | exact H
                                have Ny201 := yD hy201
                                clear hy201
                                by_cases c37 : x37_3 < (x197001_3.length : Int)
                                · rw [if_pos c37] at H
                                  have c37b0 : decide (x37_3 < (x197001_3.length : Int)) = true := zR c37; clear c37
                                  by_cases c38 : x37_3 < (((rd_T42 l0 x30_2).f1).length : Int)
                                  · rw [if_pos c38] at H
                                    have c38b0 : decide (x37_3 < (((rd_T42 l0 x30_2).f1).length : Int)) = true := zR c38; clear c38
                                    obtain ⟨ji39, hji39⟩ : ∃ j_ : Int, (mx (rd x197001_3 x37_3) (rd ((rd_T42 l0 x30_2).f1) x37_3)) = j_ := ⟨_, rfl⟩
                                    replace H : (impl_BoundsOf.l1 k3 l0 (l0.length : Int) x30_2 (((rd_T42 l0 x30_2).f0).length : Int) (wrap64 (x37_3 + 1)) y201 (x197001_3.set (x37_3 : Int).toNat (ji39)) ((rd_T42 l0 x30_2).f0) ((rd_T42 l0 x30_2).f1)) = some (r1, r2, r3) := by first | (rw [hji39] at H; exact H) | (simp only [hji39] at H ⊢; exact H)
                                    have hji39_ : (if (rd x197001_3 x37_3) < (rd ((rd_T42 l0 x30_2).f1) x37_3) then (rd ((rd_T42 l0 x30_2).f1) x37_3) else (rd x197001_3 x37_3)) = ji39 := hji39
                                    obtain ⟨y204, hy204⟩ : ∃ y_ : List Int, y_ = (x197001_3.set (x37_3 : Int).toNat (ji39)) := ⟨_, rfl⟩
                                    replace H : (impl_BoundsOf.l1 k3 l0 (l0.length : Int) x30_2 (((rd_T42 l0 x30_2).f0).length : Int) (wrap64 (x37_3 + 1)) y201 y204 ((rd_T42 l0 x30_2).f0) ((rd_T42 l0 x30_2).f1)) = some (r1, r2, r3) := by first | (rw [hy204]; with_reducible exact H) | (have H2_ := (Option.bind_some _ _).symm.trans H; rw [hy204]; with_reducible exact H2_) | (have H2_ := (Option.bind_some _ _).symm.trans H; with_reducible exact H2_) | with_reducible exact H | (rw [hy204]; exact H) | exact H
                                    have Ny204 := yD hy204
                                    clear hy204
                                    have H' := yD H
                                    clear H
                                    try go_wp2
                                    have n0_ := yD (yC HO_197000.out)
                                    have n1_ := yD (yC HO_197001.out)
                                    have n2_ := yD (yO BK186.out)
                                    have n3_ := yD (yO BK196.out)
                                    have n4_ := yD (yO BK198.out)
                                    have n5_ := yD (yP HB.out)
                                    clear HO_197000 HO_197001 BK186 BK196 BK198 HB; have HO_197000 := n0_; have HO_197001 := n1_; have BK186 := n2_; have BK196 := n3_; have BK198 := n4_; have HB := n5_; clear n0_ n1_ n2_ n3_ n4_ n5_
                                    obtain ⟨Ao42, co42, eo42⟩ := Kd.R_slice HO_197000.out
                                    (first | subst eo42 | (injection eo42 with f1_ f2_ f3_; have f4_ := f1_.symm; have f5_ := f3_.symm; clear f1_ f2_ f3_; subst f4_; subst f5_))
                                    have p199 : 0 ≤ (x37_3 : Int) := zP (by assumption)
                                    have q199 : x37_3 < (x197000_3.length : Int) := zP (by assumption)
                                    obtain ⟨ad199, e199, hx199_0⟩ := Kd.at_int (zA HO_197000.out).2.2 x37_3 p199 q199
                                    cases e199; replace p199 := eq_true p199; replace q199 := eq_true q199
                                    have p200 : 0 ≤ (x37_3 : Int) := zP (by assumption)
                                    have q200 : x37_3 < (((rd_T42 l0 x30_2).f0).length : Int) := zP (by assumption)
                                    obtain ⟨ad200, e200, hx200_0⟩ := Kd.at_int HR197_0.out x37_3 p200 q200
                                    have hw200_0 := hx200_0; cases e200
                                    replace hx200_0 := (HB.out.cell (zQ w _ hx200_0)).trans hx200_0
                                    replace p200 := eq_true p200; replace q200 := eq_true q200
                                    have p36 : 0 ≤ (x37_3 : Int) := zP (by assumption)
                                    have q36 : (x37_3 : Int) < ((x197000_3.length : Int) : Int) := zP (by assumption)
                                    obtain ⟨go36, co36, eo36, gb36, gl36, cl36, HG36⟩ := Kd.R_form HO_197000.out (by omega)
                                    (first | cases eo36 | (injection eo36 with ea_ en_ ec_; (first | subst ea_ | (injection ea_ with ea_; subst ea_)); subst ec_; clear en_))
                                    have GB36 := yD gb36
                                    have GG36 := yD HG36
                                    clear gb36 gl36 HG36
                                    (first | simp only [add_plain] at hx199_0 | skip)
                                    obtain ⟨hx36_0, hf36_0⟩ := Kd.R_celln 0 HO_197000.out (x37_3 : Int) p36 q36
                                    replace p36 := eq_true p36; replace q36 := eq_true q36
                                    have HP43 := Kd.R_putn HO_197000.out (x37_3 : Int) ji35
                                    rw [← Ny201.out] at HP43
                                    have HQ43 := yD HP43
                                    clear HP43
                                    refine start_ (n := 16) (S := fun w' => w'.cell? ⟨gb196, 0, none⟩ = some (.slice (some ⟨go36, 0, none⟩) x197000_3.length co42) ∧ w'.cell? ⟨gb196, 1, none⟩ = some (u197001) ∧ w'.cell? ⟨gb198, 0, none⟩ = some (.slice (some ad200) ((rd_T42 l0 x30_2).f0).length c197_0) ∧ w'.cell? ⟨gb198, 1, none⟩ = some (.slice A197_1 ((rd_T42 l0 x30_2).f1).length c197_1) ∧ w'.cell? ⟨go36, (x37_3).toNat, none⟩ = some (.int .i64 (rd x197000_3 x37_3)) ∧ w'.cell? (ad200.add (x37_3).toNat) = some (.int .i64 (rd ((rd_T42 l0 x30_2).f0) x37_3))) (ds := [15]) #[false, false, false, false, false, false, false, false, false, false, false, false, false, false, false, false] (by kernel_rfl) rfl rfl ⟨(yG BK196.out 0).trans rfl, (yG BK196.out 1).trans rfl, (yG BK198.out 0).trans rfl, (yG BK198.out 1).trans rfl, hx199_0, ((HB.out.cell (zQ w _ hw200_0)).trans hw200_0)⟩ (fun hHeld => ?_); refine with_tabW impl_BoundsOf.tab10 impl_BoundsOf.bits10 (fun HT_ HW_ => ?_)
                                    generalize wr.drew = w41 at HO_197000 HO_197001 BK186 BK196 BK198 HB GG36 HQ43 hf36_0 hx199_0 hx200_0 hx36_0 hHeld ⊢
                                    refine pure_ (i := 0) (N := some 40) (v := ?_) (a' := ?_) #[true, false, false, false, false, false, false, false, false, false, false, false, false, false, false, false] rfl rfl (any_of HT_.out (by kernel_rfl)) (fun _ _ _ h => h) (Or.inl ⟨by rfl, ?_⟩) ?_ ?_
                                    rotate_left
                                    · intro w'
                                      go_simp
                                      with_reducible rfl
                                    rotate_left
                                    · simp only [Act.put, zH, zI, zJ, i64_w, i32_w]
                                      rfl
                                    refine pure_ (i := 2) (N := some 42) (v := ?_) (a' := ?_) #[true, false, true, false, false, false, false, false, false, false, false, false, false, false, false, false] rfl rfl (any_of HT_.out (by kernel_rfl)) (fun _ _ _ h => h) (Or.inl ⟨by rfl, ?_⟩) ?_ ?_
                                    rotate_left
                                    · intro w'
                                      go_simp
                                      with_reducible rfl
                                    rotate_left
                                    · simp only [Act.put, zH, zI, zJ, i64_w, i32_w]
                                      rfl
                                    refine pure_ (i := 3) (N := some 43) (v := ?_) (a' := ?_) #[true, false, true, true, false, false, false, false, false, false, false, false, false, false, false, false] rfl rfl (any_of HT_.out (by kernel_rfl)) (fun _ _ _ h => h) (Or.inl ⟨by rfl, ?_⟩) ?_ ?_
                                    rotate_left
                                    · intro w'
                                      go_simp
                                      with_reducible rfl
                                    rotate_left
                                    · simp only [Act.put, zH, zI, zJ, i64_w, i32_w]
                                      rfl
                                    refine pure_ (i := 5) (N := some 45) (v := ?_) (a' := ?_) #[true, false, true, true, false, true, false, false, false, false, false, false, false, false, false, false] rfl rfl (any_of HT_.out (by kernel_rfl)) (fun _ _ _ h => h) (Or.inl ⟨by rfl, ?_⟩) ?_ ?_
                                    rotate_left
                                    · intro w'
                                      go_simp
                                      with_reducible rfl
                                    rotate_left
                                    · simp only [Act.put, zH, zI, zJ, i64_w, i32_w]
                                      rfl
                                    refine pure_ (i := 8) (N := some 48) (v := ?_) (a' := ?_) #[true, false, true, true, false, true, false, false, true, false, false, false, false, false, false, false] rfl rfl (any_of HT_.out (by kernel_rfl)) (fun _ _ _ h => h) (Or.inl ⟨by rfl, ?_⟩) ?_ ?_
                                    rotate_left
                                    · intro w'
                                      go_simp
                                      with_reducible rfl
                                    rotate_left
                                    · simp only [Act.put, zH, zI, zJ, i64_w, i32_w]
                                      rfl
                                    refine pure_ (i := 10) (N := some 50) (v := ?_) (a' := ?_) #[true, false, true, true, false, true, false, false, true, false, true, false, false, false, false, false] rfl rfl (any_of HT_.out (by kernel_rfl)) (fun _ _ _ h => h) (Or.inl ⟨by rfl, ?_⟩) ?_ ?_
                                    rotate_left
                                    · intro w'
                                      go_simp
                                      with_reducible rfl
                                    rotate_left
                                    · simp only [Act.put, zH, zI, zJ, i64_w, i32_w]
                                      rfl
                                    refine take_ (i := 1) (N := some 41) (v := ?_) (a' := ?_) #[true, true, true, true, false, true, false, false, true, false, true, false, false, false, false, false] rfl rfl (take_ofW HT_.out HW_.out (by kernel_rfl)) (fun _ _ _ h => h) (Or.inl ⟨by rfl, ?_⟩) hHeld ?_ ?_
                                    rotate_left
                                    · rintro w' ⟨s0, s1, s2, s3, s4, s5⟩
                                      go_simp
                                      with_reducible rfl
                                    rotate_left
                                    · simp only [Act.put, zH, zI, zJ, i64_w, i32_w]
                                      rfl
                                    refine take_ (i := 4) (N := some 44) (v := ?_) (a' := ?_) #[true, true, true, true, true, true, false, false, true, false, true, false, false, false, false, false] rfl rfl (take_ofW HT_.out HW_.out (by kernel_rfl)) (fun _ _ _ h => h) (Or.inl ⟨by rfl, ?_⟩) hHeld ?_ ?_
                                    rotate_left
                                    · rintro w' ⟨s0, s1, s2, s3, s4, s5⟩
                                      go_simp
                                      with_reducible rfl
                                    rotate_left
                                    · simp only [Act.put, zH, zI, zJ, i64_w, i32_w]
                                      rfl
                                    refine pure_ (i := 6) (N := some 46) (v := ?_) (a' := ?_) #[true, true, true, true, true, true, true, false, true, false, true, false, false, false, false, false] rfl rfl (any_of HT_.out (by kernel_rfl)) (fun _ _ _ h => h) (Or.inl ⟨by rfl, ?_⟩) ?_ ?_
                                    rotate_left
                                    · intro w'
                                      go_simp
                                      with_reducible rfl
                                    rotate_left
                                    · simp only [Act.put, zH, zI, zJ, i64_w, i32_w]
                                      rfl
                                    refine take_ (i := 7) (N := some 47) (v := ?_) (a' := ?_) #[true, true, true, true, true, true, true, true, true, false, true, false, false, false, false, false] rfl rfl (take_ofW HT_.out HW_.out (by kernel_rfl)) (fun _ _ _ h => h) (Or.inl ⟨by rfl, ?_⟩) hHeld ?_ ?_
                                    rotate_left
                                    · rintro w' ⟨s0, s1, s2, s3, s4, s5⟩
                                      go_simp
                                      with_reducible rfl
                                    rotate_left
                                    · simp only [Act.put, zH, zI, zJ, i64_w, i32_w]
                                      rfl
                                    refine take_ (i := 9) (N := some 49) (v := ?_) (a' := ?_) #[true, true, true, true, true, true, true, true, true, true, true, false, false, false, false, false] rfl rfl (take_ofW HT_.out HW_.out (by kernel_rfl)) (fun _ _ _ h => h) (Or.inl ⟨by rfl, ?_⟩) hHeld ?_ ?_
                                    rotate_left
                                    · rintro w' ⟨s0, s1, s2, s3, s4, s5⟩
                                      go_simp
                                      with_reducible rfl
                                    rotate_left
                                    · simp only [Act.put, zH, zI, zJ, i64_w, i32_w]
                                      rfl
                                    refine pure_ (i := 11) (N := some 51) (v := ?_) (a' := ?_) #[true, true, true, true, true, true, true, true, true, true, true, true, false, false, false, false] rfl rfl (any_of HT_.out (by kernel_rfl)) (fun _ _ _ h => h) (Or.inl ⟨by rfl, ?_⟩) ?_ ?_
                                    rotate_left
                                    · intro w'
                                      go_simp
                                      with_reducible rfl
                                    rotate_left
                                    · simp only [Act.put, zH, zI, zJ, i64_w, i32_w]
                                      rfl
                                    refine take_ (i := 12) (N := some 52) (v := ?_) (a' := ?_) #[true, true, true, true, true, true, true, true, true, true, true, true, true, false, false, false] rfl rfl (take_ofW HT_.out HW_.out (by kernel_rfl)) (fun _ _ _ h => h) (Or.inl ⟨by rfl, ?_⟩) hHeld ?_ ?_
                                    rotate_left
                                    · rintro w' ⟨s0, s1, s2, s3, s4, s5⟩
                                      go_simp
                                      with_reducible rfl
                                    rotate_left
                                    · simp only [Act.put, zH, zI, zJ, i64_w, i32_w]
                                      rfl
                                    refine pure_ (i := 13) (N := some 53) (v := ?_) (a' := ?_) #[true, true, true, true, true, true, true, true, true, true, true, true, true, true, false, false] rfl rfl (any_of HT_.out (by kernel_rfl)) (fun _ _ _ h => h) (Or.inl ⟨by rfl, ?_⟩) ?_ ?_
                                    rotate_left
                                    · intro w'
                                      go_simp
                                      with_reducible rfl
                                    rotate_left
                                    · simp only [Act.put, zH, zI, zJ, i64_w, i32_w]
                                      rfl
                                    refine pure_ (i := 14) (N := some 54) (v := ?_) (a' := ?_) #[true, true, true, true, true, true, true, true, true, true, true, true, true, true, true, false] rfl rfl (any_of HT_.out (by kernel_rfl)) (fun _ _ _ h => h) (Or.inl ⟨by rfl, ?_⟩) ?_ ?_
                                    rotate_left
                                    · intro w'
                                      go_simp
                                      with_reducible rfl
                                    rotate_left
                                    · simp only [Act.put, zH, zI, zJ, i64_w, i32_w]
                                      rfl
                                    refine last_ (i := 15) (N := none) #[true, true, true, true, true, true, true, true, true, true, true, true, true, true, true, true] rfl rfl (one_of HT_.out (by kernel_rfl)) (by decide) (fun K hK => ?_)
                                    refine skip_ (w1 := ?_) (by rfl) rfl ?_ ?_
                                    rotate_left
                                    · go_simp
                                      rfl
                                    refine hK.out _ _ ?_
                                    clear hK K
                                    refine done_ (done_of HT_.out (by kernel_rfl)) ?_
                                    try go_wp2
                                    have n0_ : Aside0 (Kd.R (Kd.int .i64) 2 (w41.setCell ⟨go36, (x37_3 : Int).toNat, none⟩ (.int .i64 ji35)) w.heap.size (fun k_ => some k_ ≠ (u197001 : Value).ownBlock) (.slice (some ⟨go36, 0, none⟩) x197000_3.length co42) y201) := ⟨by (with_reducible repeat (first | apply yA | apply yB | apply yC)); exact HQ43.out⟩
                                    have n1_ : Aside0 (Kd.R (Kd.int .i64) 2 (w41.setCell ⟨go36, (x37_3 : Int).toNat, none⟩ (.int .i64 ji35)) w.heap.size (fun k_ => some k_ ≠ (.slice (some ⟨go36, 0, none⟩) x197000_3.length co42 : Value).ownBlock) u197001 x197001_3) := ⟨by (with_reducible repeat (first | apply yA | apply yB | apply yC)); exact zF (yF (p := ⟨go36, (x37_3 : Int).toNat, none⟩) (zF HO_197001.out (fun k_ hk => (⟨hk, fun e_ => hk (by rw [e_]; rfl)⟩ : _ ∧ k_ ≠ go36))) (fun _ hk => hk.2) (.int .i64 ji35)) (fun _ hk => hk.1)⟩
                                    have n2_ : Aside0 ((w41.setCell ⟨go36, (x37_3 : Int).toNat, none⟩ (.int .i64 ji35)).heap[gb186]? = some (.cells #[.slice none 0 0, .slice none 0 0] 42 (0, 0))) := ⟨by (with_reducible repeat (first | refine yM ?_ _ | refine yO ?_ | refine yN ?_ _)); refine blk_far ?_ (by have h_ := Kd.R_ne HO_197000.out BK186.out (by decide); intro e_; exact h_ (by rw [e_]; rfl)) _; (with_reducible repeat (first | refine yM ?_ _ | refine yO ?_ | refine yN ?_ _)); exact BK186.out⟩
                                    have n3_ : Aside0 ((w41.setCell ⟨go36, (x37_3 : Int).toNat, none⟩ (.int .i64 ji35)).heap[gb196]? = some (.cells #[.slice (some ⟨go36, 0, none⟩) x197000_3.length co42, u197001] 42 (0, 0))) := ⟨by (with_reducible repeat (first | refine yM ?_ _ | refine yO ?_ | refine yN ?_ _)); refine blk_far ?_ (by have h_ := Kd.R_ne HO_197000.out BK196.out (by decide); intro e_; exact h_ (by rw [e_]; rfl)) _; (with_reducible repeat (first | refine yM ?_ _ | refine yO ?_ | refine yN ?_ _)); exact BK196.out⟩
                                    have n4_ : Aside0 ((w41.setCell ⟨go36, (x37_3 : Int).toNat, none⟩ (.int .i64 ji35)).heap[gb198]? = some (.cells #[.slice (some ad200) ((rd_T42 l0 x30_2).f0).length c197_0, .slice A197_1 ((rd_T42 l0 x30_2).f1).length c197_1] 42 (0, 0))) := ⟨by (with_reducible repeat (first | refine yM ?_ _ | refine yO ?_ | refine yN ?_ _)); refine blk_far ?_ (by have h_ := Kd.R_ne HO_197000.out BK198.out (by decide); intro e_; exact h_ (by rw [e_]; rfl)) _; (with_reducible repeat (first | refine yM ?_ _ | refine yO ?_ | refine yN ?_ _)); exact BK198.out⟩
                                    have n5_ : Aside0 (Below w.heap.size w (w41.setCell ⟨go36, (x37_3 : Int).toNat, none⟩ (.int .i64 ji35))) := ⟨by repeat (first | (with_reducible first | exact HB.out | apply yQ | apply yL | apply yP | refine yE ?_ GB36.out | refine yE ?_ GE186.out | refine yE ?_ GE196.out | refine yE ?_ GE198.out) | exact HB.out)⟩
                                    (try clear HO_197000); (try clear HO_197001); (try clear BK186); (try clear BK196); (try clear BK198); (try clear HB)
                                    generalize (w41.setCell ⟨go36, (x37_3 : Int).toNat, none⟩ (.int .i64 ji35)) = w44 at n0_ n1_ n2_ n3_ n4_ n5_ ⊢
                                    have HO_197000 := n0_; have HO_197001 := n1_; have BK186 := n2_; have BK196 := n3_; have BK198 := n4_; have HB := n5_; clear n0_ n1_ n2_ n3_ n4_ n5_
                                    have n0_ := yD (yC HO_197000.out)
                                    have n1_ := yD (yC HO_197001.out)
                                    have n2_ := yD (yO BK186.out)
                                    have n3_ := yD (yO BK196.out)
                                    have n4_ := yD (yO BK198.out)
                                    have n5_ := yD (yP HB.out)
                                    clear HO_197000 HO_197001 BK186 BK196 BK198 HB; have HO_197000 := n0_; have HO_197001 := n1_; have BK186 := n2_; have BK196 := n3_; have BK198 := n4_; have HB := n5_; clear n0_ n1_ n2_ n3_ n4_ n5_
                                    obtain ⟨Ao46, co46, eo46⟩ := Kd.R_slice HO_197001.out
                                    (first | subst eo46 | (injection eo46 with f1_ f2_ f3_; have f4_ := f1_.symm; have f5_ := f3_.symm; clear f1_ f2_ f3_; subst f4_; subst f5_))
                                    have p202 : 0 ≤ (x37_3 : Int) := zP (by assumption)
                                    have q202 : x37_3 < (x197001_3.length : Int) := zP (by assumption)
                                    obtain ⟨ad202, e202, hx202_0⟩ := Kd.at_int (zA HO_197001.out).2.2 x37_3 p202 q202
                                    cases e202; replace p202 := eq_true p202; replace q202 := eq_true q202
                                    have p203 : 0 ≤ (x37_3 : Int) := zP (by assumption)
                                    have q203 : x37_3 < (((rd_T42 l0 x30_2).f1).length : Int) := zP (by assumption)
                                    obtain ⟨ad203, e203, hx203_0⟩ := Kd.at_int HR197_1.out x37_3 p203 q203
                                    have hw203_0 := hx203_0; cases e203
                                    replace hx203_0 := (HB.out.cell (zQ w _ hx203_0)).trans hx203_0
                                    replace p203 := eq_true p203; replace q203 := eq_true q203
                                    have p40 : 0 ≤ (x37_3 : Int) := zP (by assumption)
                                    have q40 : (x37_3 : Int) < ((x197001_3.length : Int) : Int) := zP (by assumption)
                                    obtain ⟨go40, co40, eo40, gb40, gl40, cl40, HG40⟩ := Kd.R_form HO_197001.out (by omega)
                                    (first | cases eo40 | (injection eo40 with ea_ en_ ec_; (first | subst ea_ | (injection ea_ with ea_; subst ea_)); subst ec_; clear en_))
                                    have GB40 := yD gb40
                                    have GG40 := yD HG40
                                    clear gb40 gl40 HG40
                                    (first | simp only [add_plain] at hx202_0 | skip)
                                    obtain ⟨hx40_0, hf40_0⟩ := Kd.R_celln 0 HO_197001.out (x37_3 : Int) p40 q40
                                    replace p40 := eq_true p40; replace q40 := eq_true q40
                                    have HP47 := Kd.R_putn HO_197001.out (x37_3 : Int) ji39
                                    rw [← Ny204.out] at HP47
                                    have HQ47 := yD HP47
                                    clear HP47
                                    refine start_ (n := 16) (S := fun w' => w'.cell? ⟨gb196, 0, none⟩ = some (.slice (some ⟨go36, 0, none⟩) x197000_3.length co42) ∧ w'.cell? ⟨gb196, 1, none⟩ = some (.slice (some ⟨go40, 0, none⟩) x197001_3.length co46) ∧ w'.cell? ⟨gb198, 0, none⟩ = some (.slice (some ad200) ((rd_T42 l0 x30_2).f0).length c197_0) ∧ w'.cell? ⟨gb198, 1, none⟩ = some (.slice (some ad203) ((rd_T42 l0 x30_2).f1).length c197_1) ∧ w'.cell? ⟨go40, (x37_3).toNat, none⟩ = some (.int .i64 (rd x197001_3 x37_3)) ∧ w'.cell? (ad203.add (x37_3).toNat) = some (.int .i64 (rd ((rd_T42 l0 x30_2).f1) x37_3))) (ds := [15]) #[false, false, false, false, false, false, false, false, false, false, false, false, false, false, false, false] (by kernel_rfl) rfl rfl ⟨(yG BK196.out 0).trans rfl, (yG BK196.out 1).trans rfl, (yG BK198.out 0).trans rfl, (yG BK198.out 1).trans rfl, hx202_0, ((HB.out.cell (zQ w _ hw203_0)).trans hw203_0)⟩ (fun hHeld => ?_); refine with_tabW impl_BoundsOf.tab11 impl_BoundsOf.bits11 (fun HT_ HW_ => ?_)
                                    generalize w44.drew = w45 at HO_197000 HO_197001 BK186 BK196 BK198 HB GG40 HQ43 HQ47 hf40_0 hx202_0 hx203_0 hx40_0 hHeld ⊢
                                    refine pure_ (i := 0) (N := some 55) (v := ?_) (a' := ?_) #[true, false, false, false, false, false, false, false, false, false, false, false, false, false, false, false] rfl rfl (any_of HT_.out (by kernel_rfl)) (fun _ _ _ h => h) (Or.inl ⟨by rfl, ?_⟩) ?_ ?_
                                    rotate_left
                                    · intro w'
                                      go_simp
                                      with_reducible rfl
                                    rotate_left
                                    · simp only [Act.put, zH, zI, zJ, i64_w, i32_w]
                                      rfl
                                    refine pure_ (i := 2) (N := some 57) (v := ?_) (a' := ?_) #[true, false, true, false, false, false, false, false, false, false, false, false, false, false, false, false] rfl rfl (any_of HT_.out (by kernel_rfl)) (fun _ _ _ h => h) (Or.inl ⟨by rfl, ?_⟩) ?_ ?_
                                    rotate_left
                                    · intro w'
                                      go_simp
                                      with_reducible rfl
                                    rotate_left
                                    · simp only [Act.put, zH, zI, zJ, i64_w, i32_w]
                                      rfl
                                    refine pure_ (i := 3) (N := some 58) (v := ?_) (a' := ?_) #[true, false, true, true, false, false, false, false, false, false, false, false, false, false, false, false] rfl rfl (any_of HT_.out (by kernel_rfl)) (fun _ _ _ h => h) (Or.inl ⟨by rfl, ?_⟩) ?_ ?_
                                    rotate_left
                                    · intro w'
                                      go_simp
                                      with_reducible rfl
                                    rotate_left
                                    · simp only [Act.put, zH, zI, zJ, i64_w, i32_w]
                                      rfl
                                    refine pure_ (i := 5) (N := some 60) (v := ?_) (a' := ?_) #[true, false, true, true, false, true, false, false, false, false, false, false, false, false, false, false] rfl rfl (any_of HT_.out (by kernel_rfl)) (fun _ _ _ h => h) (Or.inl ⟨by rfl, ?_⟩) ?_ ?_
                                    rotate_left
                                    · intro w'
                                      go_simp
                                      with_reducible rfl
                                    rotate_left
                                    · simp only [Act.put, zH, zI, zJ, i64_w, i32_w]
                                      rfl
                                    refine pure_ (i := 8) (N := some 63) (v := ?_) (a' := ?_) #[true, false, true, true, false, true, false, false, true, false, false, false, false, false, false, false] rfl rfl (any_of HT_.out (by kernel_rfl)) (fun _ _ _ h => h) (Or.inl ⟨by rfl, ?_⟩) ?_ ?_
                                    rotate_left
                                    · intro w'
                                      go_simp
                                      with_reducible rfl
                                    rotate_left
                                    · simp only [Act.put, zH, zI, zJ, i64_w, i32_w]
                                      rfl
                                    refine pure_ (i := 10) (N := some 65) (v := ?_) (a' := ?_) #[true, false, true, true, false, true, false, false, true, false, true, false, false, false, false, false] rfl rfl (any_of HT_.out (by kernel_rfl)) (fun _ _ _ h => h) (Or.inl ⟨by rfl, ?_⟩) ?_ ?_
                                    rotate_left
                                    · intro w'
                                      go_simp
                                      with_reducible rfl
                                    rotate_left
                                    · simp only [Act.put, zH, zI, zJ, i64_w, i32_w]
                                      rfl
                                    refine take_ (i := 1) (N := some 56) (v := ?_) (a' := ?_) #[true, true, true, true, false, true, false, false, true, false, true, false, false, false, false, false] rfl rfl (take_ofW HT_.out HW_.out (by kernel_rfl)) (fun _ _ _ h => h) (Or.inl ⟨by rfl, ?_⟩) hHeld ?_ ?_
                                    rotate_left
                                    · rintro w' ⟨s0, s1, s2, s3, s4, s5⟩
                                      go_simp
                                      with_reducible rfl
                                    rotate_left
                                    · simp only [Act.put, zH, zI, zJ, i64_w, i32_w]
                                      rfl
                                    refine take_ (i := 4) (N := some 59) (v := ?_) (a' := ?_) #[true, true, true, true, true, true, false, false, true, false, true, false, false, false, false, false] rfl rfl (take_ofW HT_.out HW_.out (by kernel_rfl)) (fun _ _ _ h => h) (Or.inl ⟨by rfl, ?_⟩) hHeld ?_ ?_
                                    rotate_left
                                    · rintro w' ⟨s0, s1, s2, s3, s4, s5⟩
                                      go_simp
                                      with_reducible rfl
                                    rotate_left
                                    · simp only [Act.put, zH, zI, zJ, i64_w, i32_w]
                                      rfl
                                    refine pure_ (i := 6) (N := some 61) (v := ?_) (a' := ?_) #[true, true, true, true, true, true, true, false, true, false, true, false, false, false, false, false] rfl rfl (any_of HT_.out (by kernel_rfl)) (fun _ _ _ h => h) (Or.inl ⟨by rfl, ?_⟩) ?_ ?_
                                    rotate_left
                                    · intro w'
                                      go_simp
                                      with_reducible rfl
                                    rotate_left
                                    · simp only [Act.put, zH, zI, zJ, i64_w, i32_w]
                                      rfl
                                    refine take_ (i := 7) (N := some 62) (v := ?_) (a' := ?_) #[true, true, true, true, true, true, true, true, true, false, true, false, false, false, false, false] rfl rfl (take_ofW HT_.out HW_.out (by kernel_rfl)) (fun _ _ _ h => h) (Or.inl ⟨by rfl, ?_⟩) hHeld ?_ ?_
                                    rotate_left
                                    · rintro w' ⟨s0, s1, s2, s3, s4, s5⟩
                                      go_simp
                                      with_reducible rfl
                                    rotate_left
                                    · simp only [Act.put, zH, zI, zJ, i64_w, i32_w]
                                      rfl
                                    refine take_ (i := 9) (N := some 64) (v := ?_) (a' := ?_) #[true, true, true, true, true, true, true, true, true, true, true, false, false, false, false, false] rfl rfl (take_ofW HT_.out HW_.out (by kernel_rfl)) (fun _ _ _ h => h) (Or.inl ⟨by rfl, ?_⟩) hHeld ?_ ?_
                                    rotate_left
                                    · rintro w' ⟨s0, s1, s2, s3, s4, s5⟩
                                      go_simp
                                      with_reducible rfl
                                    rotate_left
                                    · simp only [Act.put, zH, zI, zJ, i64_w, i32_w]
                                      rfl
                                    refine pure_ (i := 11) (N := some 66) (v := ?_) (a' := ?_) #[true, true, true, true, true, true, true, true, true, true, true, true, false, false, false, false] rfl rfl (any_of HT_.out (by kernel_rfl)) (fun _ _ _ h => h) (Or.inl ⟨by rfl, ?_⟩) ?_ ?_
                                    rotate_left
                                    · intro w'
                                      go_simp
                                      with_reducible rfl
                                    rotate_left
                                    · simp only [Act.put, zH, zI, zJ, i64_w, i32_w]
                                      rfl
                                    refine take_ (i := 12) (N := some 67) (v := ?_) (a' := ?_) #[true, true, true, true, true, true, true, true, true, true, true, true, true, false, false, false] rfl rfl (take_ofW HT_.out HW_.out (by kernel_rfl)) (fun _ _ _ h => h) (Or.inl ⟨by rfl, ?_⟩) hHeld ?_ ?_
                                    rotate_left
                                    · rintro w' ⟨s0, s1, s2, s3, s4, s5⟩
                                      go_simp
                                      with_reducible rfl
                                    rotate_left
                                    · simp only [Act.put, zH, zI, zJ, i64_w, i32_w]
                                      rfl
                                    refine pure_ (i := 13) (N := some 68) (v := ?_) (a' := ?_) #[true, true, true, true, true, true, true, true, true, true, true, true, true, true, false, false] rfl rfl (any_of HT_.out (by kernel_rfl)) (fun _ _ _ h => h) (Or.inl ⟨by rfl, ?_⟩) ?_ ?_
                                    rotate_left
                                    · intro w'
                                      go_simp
                                      with_reducible rfl
                                    rotate_left
                                    · simp only [Act.put, zH, zI, zJ, i64_w, i32_w]
                                      rfl
                                    refine pure_ (i := 14) (N := some 69) (v := ?_) (a' := ?_) #[true, true, true, true, true, true, true, true, true, true, true, true, true, true, true, false] rfl rfl (any_of HT_.out (by kernel_rfl)) (fun _ _ _ h => h) (Or.inl ⟨by rfl, ?_⟩) ?_ ?_
                                    rotate_left
                                    · intro w'
                                      go_simp
                                      with_reducible rfl
                                    rotate_left
                                    · simp only [Act.put, zH, zI, zJ, i64_w, i32_w]
                                      rfl
                                    refine last_ (i := 15) (N := none) #[true, true, true, true, true, true, true, true, true, true, true, true, true, true, true, true] rfl rfl (one_of HT_.out (by kernel_rfl)) (by decide) (fun K hK => ?_)
                                    refine skip_ (w1 := ?_) (by rfl) rfl ?_ ?_
                                    rotate_left
                                    · go_simp
                                      rfl
                                    refine hK.out _ _ ?_
                                    clear hK K
                                    refine done_ (done_of HT_.out (by kernel_rfl)) ?_
                                    try go_wp2
                                    go_roundg k3
                                    case measure => have := HJ1.out; have := HK2.out; have := HK3.out; omega
                                    case rel => exact ⟨(wrap64 (x37_3 + 1)), (y201), (y204), (.slice (some ⟨go36, 0, none⟩) x197000_3.length co42), (.slice (some ⟨go40, 0, none⟩) x197001_3.length co46), (by first | rfl | (simp; done) | (simp [*]; done)), H', ⟨by have := HJ1.out; have := HK2.out; have := HK3.out; omega⟩, ⟨by (with_reducible repeat (first | apply yA | apply yB | apply yC)); exact zF (yF (p := ⟨go40, (x37_3 : Int).toNat, none⟩) (zF HO_197000.out (fun k_ hk => (⟨hk, fun e_ => hk (by rw [e_]; rfl)⟩ : _ ∧ k_ ≠ go40))) (fun _ hk => hk.2) (.int .i64 ji39)) (fun _ hk => hk.1)⟩, ⟨by (with_reducible repeat (first | apply yA | apply yB | apply yC)); exact HQ47.out⟩, ⟨by (with_reducible repeat (first | refine yM ?_ _ | refine yO ?_ | refine yN ?_ _)); refine blk_far ?_ (by have h_ := Kd.R_ne HO_197001.out BK186.out (by decide); intro e_; exact h_ (by rw [e_]; rfl)) _; (with_reducible repeat (first | refine yM ?_ _ | refine yO ?_ | refine yN ?_ _)); exact BK186.out⟩, ⟨by (with_reducible repeat (first | refine yM ?_ _ | refine yO ?_ | refine yN ?_ _)); refine blk_far ?_ (by have h_ := Kd.R_ne HO_197001.out BK196.out (by decide); intro e_; exact h_ (by rw [e_]; rfl)) _; (with_reducible repeat (first | refine yM ?_ _ | refine yO ?_ | refine yN ?_ _)); exact BK196.out⟩, ⟨by (with_reducible repeat (first | refine yM ?_ _ | refine yO ?_ | refine yN ?_ _)); refine blk_far ?_ (by have h_ := Kd.R_ne HO_197001.out BK198.out (by decide); intro e_; exact h_ (by rw [e_]; rfl)) _; (with_reducible repeat (first | refine yM ?_ _ | refine yO ?_ | refine yN ?_ _)); exact BK198.out⟩, ⟨by repeat (first | (with_reducible first | exact HB.out | apply yQ | apply yL | apply yP | refine yE ?_ GB40.out | refine yE ?_ GE186.out | refine yE ?_ GE196.out | refine yE ?_ GE198.out) | exact HB.out)⟩⟩
                                  · rw [if_neg c38] at H
                                    exact absurd H (by simp)
                                · rw [if_neg c37] at H
                                  exact absurd H (by simp)
                              · rw [if_neg c34] at H
                                exact absurd H (by simp)
                            · rw [if_neg c33] at H
                              exact absurd H (by simp)
                          · rw [if_neg c32] at H
                            exact absurd H (by simp)
                        · rw [if_neg c31] at H
                          have c31b0 : decide (x37_3 < (((rd_T42 l0 x30_2).f0).length : Int)) = false := zS c31; clear c31
                          have H' := yD H
                          clear H
                          go_wp2
                          go_roundg k3
                          case measure => have := HJ1.out; have := HK2.out; have := HK3.out; omega
                          case rel => exact ⟨(wrap64 (x30_2 + 1)), (x197000_3), (x197001_3), (u197000), (u197001), (by first | rfl | (simp; done) | (simp [*]; done)), H', ⟨by have := HJ1.out; have := HK2.out; have := HK3.out; omega⟩, ⟨by (with_reducible repeat (first | apply yA | apply yB | apply yC)); exact HO_197000.out⟩, ⟨by (with_reducible repeat (first | apply yA | apply yB | apply yC)); exact HO_197001.out⟩, ⟨by (with_reducible repeat (first | refine yM ?_ _ | refine yO ?_ | refine yN ?_ _)); exact BK186.out⟩, ⟨by (with_reducible repeat (first | refine yM ?_ _ | refine yO ?_ | refine yN ?_ _)); exact BK196.out⟩, ⟨by repeat (first | (with_reducible first | exact HB.out | apply yQ | apply yL | apply yP | refine yE ?_ GE186.out | refine yE ?_ GE196.out | refine yE ?_ GE198.out) | exact HB.out)⟩⟩
                  · rw [if_neg c26] at H
                    exact absurd H (by simp)
                · rw [if_neg c25] at H
                  exact absurd H (by simp)
              · rw [if_neg c24] at H
                have c24b0 : decide (x30_2 < (l0.length : Int)) = false := zS c24; clear c24
                simp only [Option.some.injEq, Prod.mk.injEq] at H
                obtain ⟨rfl, rfl, rfl⟩ := H
                have hnb48 := NB196_186.out; have hnc48 := NB186_196.out
                have hcz49_0 : wr.cell? ⟨gb196, 0, none⟩ = some (u197000) := (yG BK196.out 0).trans rfl
                have hcz49_1 : wr.cell? ⟨gb196, 1, none⟩ = some (u197001) := (yG BK196.out 1).trans rfl
                have hfz49_0 := yR BK196.out 0
                have hfz49_1 := yR BK196.out 1
                obtain ⟨Ao50, co50, eo50⟩ := Kd.R_slice HO_197000.out
                subst eo50
                have hcz51_0 : wr.cell? ⟨gb186, 0, none⟩ = some (.slice none 0 0) := (yG BK186.out 0).trans rfl
                have hcz51_1 : wr.cell? ⟨gb186, 1, none⟩ = some (.slice none 0 0) := (yG BK186.out 1).trans rfl
                have hfz51_0 := yR BK186.out 0
                have hfz51_1 := yR BK186.out 1
                obtain ⟨Ao52, co52, eo52⟩ := Kd.R_slice HO_197001.out
                subst eo52
                go_wp2
                refine bodyPost_ret (results_ct rfl _ _ gb186 42 #[.slice Ao50 x197000_2.length co50, .slice Ao52 x197001_2.length co52] (0, 0) _ rfl (by (with_reducible repeat (first | refine yM ?_ _ | refine yO ?_ | refine yN ?_ _)); refine blk_put (cs := #[.slice Ao50 x197000_2.length co50, .slice none 0 0]) ?_ 1 _ rfl; (with_reducible repeat (first | refine yM ?_ _ | refine yO ?_ | refine yN ?_ _)); refine blk_put (cs := #[.slice none 0 0, .slice none 0 0]) ?_ 0 _ rfl; (with_reducible repeat (first | refine yM ?_ _ | refine yO ?_ | refine yN ?_ _)); exact BK186.out) Try.underlying42 rfl (by kernel_rfl)) rfl ?_
                exact ⟨_, _, by first | rfl | (simp [errW_none, errW_some] <;> rfl) | (simp [*, errW_none, errW_some] <;> rfl), by (with_reducible repeat (first | apply yA | apply yB | apply yC)); exact zF (yF (p := ⟨gb186, 1, none⟩) (yF (p := ⟨gb186, 0, none⟩) (Kd.R_types HO_197000.out BK186.out (by decide)) (fun _ hk => hk.2) (.slice Ao50 x197000_2.length co50)) (fun _ hk => hk.2) (.slice Ao52 x197001_2.length co52)) (fun _ hk => hk.1), by (with_reducible repeat (first | apply yA | apply yB | apply yC)); exact zF (yF (p := ⟨gb186, 1, none⟩) (yF (p := ⟨gb186, 0, none⟩) (Kd.R_types HO_197001.out BK186.out (by decide)) (fun _ hk => hk.2) (.slice Ao50 x197000_2.length co50)) (fun _ hk => hk.2) (.slice Ao52 x197001_2.length co52)) (fun _ hk => hk.1), by repeat (first | (with_reducible first | exact HB.out | apply yQ | apply yL | apply yP | refine yE ?_ GE186.out | refine yE ?_ GE196.out) | exact HB.out)⟩
        · rw [if_neg c10] at H
          exact absurd H (by simp)

end Go.Proofs.Ytdiaebjbiddefaa.PFnExactBoundsOf
