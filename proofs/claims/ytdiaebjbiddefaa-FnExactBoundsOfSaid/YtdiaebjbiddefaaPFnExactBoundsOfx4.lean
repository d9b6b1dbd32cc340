/- Each Go function here comes to what the plain function of its name says, where that says something. Made by a program of this session, over the print. -/
import Derived.Test.YtdiaebjbiddefaaPFnExactBoundsOfx0
import Derived.Test.YtdiaebjbiddefaaPFnExactBoundsOfx3
namespace Go.Proofs.Ytdiaebjbiddefaa.PFnExactBoundsOf
open Go.RowKit Go.Proofs.YtdiaebjbiddefaaW.PrintWords Go.Proofs.YtdiaebjbiddefaaW.PrintLast Go.Proofs.YtdiaebjbiddefaaW.PrintMore
attribute [local go_sem] max2_int min2_int max_two min_two max_three min_three max_four min_four   -- for this text's walks alone
set_option linter.unusedVariables false
set_option linter.unusedSimpArgs false

/-! ### spec_BoundsOf: function 32 -/
mutual
def spec_BoundsOf.j0 : Nat → List (S42) → Bool → Option (List Int × List Int × Bool)
  | 0, _, _ => none
  | k + 1, x0, x14 => if x14 = true then (some (([] : List Int), ([] : List Int), false)) else (if 0 < (x0.length : Int) then ((spec_l00Own.f ((rd_T42 x0 0).f0)).bind fun t150 => ((spec_l00Own.f ((rd_T42 x0 0).f1)).bind fun t154 => (spec_BoundsOf.l0 k x0 0 t150 t154))) else (none))
def spec_BoundsOf.l0 : Nat → List (S42) → Int → List Int → List Int → Option (List Int × List Int × Bool)
  | 0, _, _, _, _ => none
  | k + 1, x0, x5, x158000, x158001 => if x5 < (x0.length : Int) then (spec_BoundsOf.l1 k x0 x5 0 x158000 x158001) else (some (x158000, x158001, true))
def spec_BoundsOf.l1 : Nat → List (S42) → Int → Int → List Int → List Int → Option (List Int × List Int × Bool)
  | 0, _, _, _, _, _ => none
  | k + 1, x0, x5, x6, x158000, x158001 => if x6 < (x158000.length : Int) then (if 0 ≤ x6 then (if 0 ≤ x5 then (if x5 < (x0.length : Int) then (if x6 < (((rd_T42 x0 x5).f0).length : Int) then ((spec_l00Min.f (rd x158000 x6) (rd ((rd_T42 x0 x5).f0) x6)).bind fun t161 => (if x6 < (x158001.length : Int) then (if x6 < (((rd_T42 x0 x5).f1).length : Int) then ((spec_l00Max.f (rd x158001 x6) (rd ((rd_T42 x0 x5).f1) x6)).bind fun t166 => (spec_BoundsOf.l1 k x0 x5 (wrap64 (x6 + 1)) (x158000.set (x6 : Int).toNat t161) (x158001.set (x6 : Int).toNat t166))) else (none)) else (none))) else (none)) else (none)) else (none)) else (none)) else (spec_BoundsOf.l0 k x0 (wrap64 (x5 + 1)) x158000 x158001)
end
def spec_BoundsOf.f (k : Nat) (l0 : List (S42)) : Option (List Int × List Int × Bool) := (spec_l07List.f k l0).bind fun t148 => (if t148 = true then (spec_BoundsOf.j0 k l0 ((l0.length : Int) == 0)) else (spec_BoundsOf.j0 k l0 true))
theorem spec_BoundsOf.mono_l : ∀ k, (∀ y0 y1, LeO (spec_BoundsOf.j0 k y0 y1) (spec_BoundsOf.j0 (k + 1) y0 y1)) ∧ (∀ y0 y1 y2 y3, LeO (spec_BoundsOf.l0 k y0 y1 y2 y3) (spec_BoundsOf.l0 (k + 1) y0 y1 y2 y3)) ∧ (∀ y0 y1 y2 y3 y4, LeO (spec_BoundsOf.l1 k y0 y1 y2 y3 y4) (spec_BoundsOf.l1 (k + 1) y0 y1 y2 y3 y4))
  | 0 => ⟨fun _ _ r h => by simp [spec_BoundsOf.j0] at h, fun _ _ _ _ r h => by simp [spec_BoundsOf.l0] at h, fun _ _ _ _ _ r h => by simp [spec_BoundsOf.l1] at h⟩
  | k + 1 => by
    obtain ⟨ih0, ih1, ih2⟩ := spec_BoundsOf.mono_l k
    refine ⟨?_, ?_, ?_⟩
    · intro y0 y1
      unfold spec_BoundsOf.j0
      repeat' first
      | (with_reducible exact ih0 _ _)
      | (with_reducible exact ih1 _ _ _ _)
      | (with_reducible exact ih2 _ _ _ _ _)
      | (with_reducible exact spec_l07List.mono _ _)
      | (with_reducible exact LeO.refl _)
      | (with_reducible exact LeO.none _)
      | (with_reducible refine LeO.ite ?_ ?_)
      | (with_reducible refine LeO.bind ?_ (fun _ => ?_))
      | exact ih0 _ _
      | exact ih1 _ _ _ _
      | exact ih2 _ _ _ _ _
      | exact spec_l07List.mono _ _
      | exact LeO.none _
      | refine LeO.ite ?_ ?_
      | refine LeO.bind ?_ (fun _ => ?_)
    · intro y0 y1 y2 y3
      unfold spec_BoundsOf.l0
      repeat' first
      | (with_reducible exact ih0 _ _)
      | (with_reducible exact ih1 _ _ _ _)
      | (with_reducible exact ih2 _ _ _ _ _)
      | (with_reducible exact spec_l07List.mono _ _)
      | (with_reducible exact LeO.refl _)
      | (with_reducible exact LeO.none _)
      | (with_reducible refine LeO.ite ?_ ?_)
      | (with_reducible refine LeO.bind ?_ (fun _ => ?_))
      | exact ih0 _ _
      | exact ih1 _ _ _ _
      | exact ih2 _ _ _ _ _
      | exact spec_l07List.mono _ _
      | exact LeO.none _
      | refine LeO.ite ?_ ?_
      | refine LeO.bind ?_ (fun _ => ?_)
    · intro y0 y1 y2 y3 y4
      unfold spec_BoundsOf.l1
      repeat' first
      | (with_reducible exact ih0 _ _)
      | (with_reducible exact ih1 _ _ _ _)
      | (with_reducible exact ih2 _ _ _ _ _)
      | (with_reducible exact spec_l07List.mono _ _)
      | (with_reducible exact LeO.refl _)
      | (with_reducible exact LeO.none _)
      | (with_reducible refine LeO.ite ?_ ?_)
      | (with_reducible refine LeO.bind ?_ (fun _ => ?_))
      | exact ih0 _ _
      | exact ih1 _ _ _ _
      | exact ih2 _ _ _ _ _
      | exact spec_l07List.mono _ _
      | exact LeO.none _
      | refine LeO.ite ?_ ?_
      | refine LeO.bind ?_ (fun _ => ?_)
theorem spec_BoundsOf.mono : ∀ a0 k, LeO (spec_BoundsOf.f k a0) (spec_BoundsOf.f (k + 1) a0) := by
  intro a0 k
  obtain ⟨ih0, ih1, ih2⟩ := spec_BoundsOf.mono_l k
  unfold spec_BoundsOf.f
  repeat' first
      | (with_reducible exact ih0 _ _)
      | (with_reducible exact ih1 _ _ _ _)
      | (with_reducible exact ih2 _ _ _ _ _)
      | (with_reducible exact spec_l07List.mono _ _)
      | (with_reducible exact LeO.refl _)
      | (with_reducible exact LeO.none _)
      | (with_reducible refine LeO.ite ?_ ?_)
      | (with_reducible refine LeO.bind ?_ (fun _ => ?_))
      | exact ih0 _ _
      | exact ih1 _ _ _ _
      | exact ih2 _ _ _ _ _
      | exact spec_l07List.mono _ _
      | exact LeO.none _
      | refine LeO.ite ?_ ?_
      | refine LeO.bind ?_ (fun _ => ?_)
def spec_BoundsOf.T3 : Bool × List (List Nat × List Nat) := (true, [([], []), ([0], [0]), ([1], [1]), ([2], [2]), ([3], [3]), ([], []), ([5], [5]), ([6], [6]), ([7], [7]), ([8, 4], [8]), ([4, 9], [4, 9]), ([], []), ([11, 10, 9, 0, 1, 2, 3, 4, 5, 6, 7, 8, 9, 10, 11], [10, 11])])
def spec_BoundsOf.B3 : List Nat := [0, 1, 3, 7, 15, 0, 32, 96, 224, 511, 1023, 0, 4095]
theorem spec_BoundsOf.tab3 : rtab .any (opsOf Try.f32 3) = spec_BoundsOf.T3 := by kernel_rfl
theorem spec_BoundsOf.bits3 : waitsOk spec_BoundsOf.T3.2 spec_BoundsOf.B3 = true := by kernel_rfl
def spec_BoundsOf.T10 : Bool × List (List Nat × List Nat) := (true, [([], []), ([0], [0]), ([], []), ([], []), ([3], [3]), ([], []), ([4, 5], [4, 5]), ([6], [6]), ([], []), ([], []), ([8, 9], [8, 9]), ([10], [10]), ([11], [11]), ([], []), ([12, 13], [12, 13]), ([14], [14]), ([7, 15], [7, 15]), ([1, 2, 0, 1, 2, 3, 4, 5, 6, 7, 8, 9, 10, 11, 12, 13, 14, 15, 16], [1, 2]), ([17, 16, 16, 0, 1, 2, 3, 4, 5, 6, 7, 8, 9, 10, 11, 12, 13, 14, 15, 16], [16, 17])])
def spec_BoundsOf.B10 : List Nat := [0, 1, 0, 0, 8, 0, 56, 120, 0, 0, 768, 1792, 3840, 0, 16128, 32512, 65528, 131071, 262143]
theorem spec_BoundsOf.tab10 : rtab .any (opsOf Try.f32 10) = spec_BoundsOf.T10 := by kernel_rfl
theorem spec_BoundsOf.bits10 : waitsOk spec_BoundsOf.T10.2 spec_BoundsOf.B10 = true := by kernel_rfl
def spec_BoundsOf.T11 : Bool × List (List Nat × List Nat) := (true, [([], []), ([0], [0]), ([], []), ([], []), ([3], [3]), ([], []), ([4, 5], [4, 5]), ([6], [6]), ([], []), ([], []), ([8, 9], [8, 9]), ([10], [10]), ([11], [11]), ([], []), ([12, 13], [12, 13]), ([14], [14]), ([7, 15], [7, 15]), ([1, 2, 0, 1, 2, 3, 4, 5, 6, 7, 8, 9, 10, 11, 12, 13, 14, 15, 16], [1, 2]), ([17, 16, 16, 0, 1, 2, 3, 4, 5, 6, 7, 8, 9, 10, 11, 12, 13, 14, 15, 16], [16, 17])])
def spec_BoundsOf.B11 : List Nat := [0, 1, 0, 0, 8, 0, 56, 120, 0, 0, 768, 1792, 3840, 0, 16128, 32512, 65528, 131071, 262143]
theorem spec_BoundsOf.tab11 : rtab .any (opsOf Try.f32 11) = spec_BoundsOf.T11 := by kernel_rfl
theorem spec_BoundsOf.bits11 : waitsOk spec_BoundsOf.T11.2 spec_BoundsOf.B11 = true := by kernel_rfl
set_option maxHeartbeats 8000000 in
set_option maxRecDepth 100000 in
theorem spec_BoundsOf.calls (k : Nat) (A0 : Option Addr) (c0 : Nat) (l0 : List (S42)) (r1 : List Int) (r2 : List Int) (r3 : Bool) (w : World) (hr0 : Kd.C k42 w A0 l0.length l0) (hc0 : l0.length ≤ c0) (h : spec_BoundsOf.f k l0 = some (r1, r2, r3)) :
    Calls Try.prog 32 #[.slice A0 l0.length c0] w fun e w' => ∃ v0_ v1_ : Value, e = .returned (.tuple #[.agg #[v0_, v1_], .bool r3]) ∧ Kd.R (Kd.int .i64) 2 w' w.heap.size (fun k_ => some k_ ≠ (v1_ : Value).ownBlock) v0_ r1 ∧ Kd.R (Kd.int .i64) 2 w' w.heap.size (fun k_ => some k_ ≠ (v0_ : Value).ownBlock) v1_ r2 ∧ Below w.heap.size w w' := by
  have hu42 := Try.underlying42
  have HR0 := yD hr0
  have HC0 := yD hc0
  clear hr0 hc0
  have HB := yD (Below.refl w.heap.size w)
  have H : ((spec_l07List.f k l0).bind fun t148 => (if t148 = true then (spec_BoundsOf.j0 k l0 ((l0.length : Int) == 0)) else (spec_BoundsOf.j0 k l0 true))) = some (r1, r2, r3) := h
  clear h
  have HC2 := yD H
  clear H; go_enter Try.func32, Try.ntmps32
  go_upto_region 1 with (first | ((with_reducible refine gate_dst (N := 2) rfl ?_); (try (refine gate_guard (by rfl) ?_; dsimp only)); refine box_event ?hg (N := 2) ?hd (cs := #[.slice none 0 0, .slice none 0 0]) (t := 42) ?hr ?_; (case hd => rfl); (case hg => rfl); (case hr => first | (go_simp; done) | (go_simp; rfl)); intro gb147 hg w3 hbox hb; have n0_ := yD (zC (by repeat (first | (with_reducible first | exact HB.out | apply yQ | apply yL | apply yP) | exact HB.out)) hb); have n1_ := yD (hbox); have n2_ := yD ((by rw [hg]; exact (below_size (by repeat (first | (with_reducible first | exact HB.out | apply yQ | apply yL | apply yP) | exact HB.out))) : w.heap.size ≤ gb147)); have n3_ := yD ((by rw [hg]; exact (below_size (by repeat (first | (with_reducible first | exact HB.out | apply yQ | apply yL | apply yP) | exact HB.out))) : w.heap.size ≤ gb147)); clear HB; have HB := n0_; have BK147 := n1_; have GW147 := n2_; have GE147 := n3_; clear n0_ n1_ n2_ n3_; clear hb hbox hg))
  (try simp only [Act.put, zH, zI, zJ])
  go_cut [14] (fun v14 wc => ∃ (kq : Nat) (x14_1 : Bool), v14 = .bool x14_1 ∧ Aside0 (spec_BoundsOf.j0 kq l0 x14_1 = some (r1, r2, r3)) ∧ Aside0 (kq ≤ k) ∧ Aside0 (wc.heap[gb147]? = some (.cells #[(.slice none 0 0), (.slice none 0 0)] 42 (0, 0))) ∧ Aside0 (Below w.heap.size w wc))
  case first =>
    have H := HC2.out; clear HC2
    replace H := Option.bind_eq_some_iff.mp H
    obtain ⟨t148, A40, H⟩ := H
    replace H : (if t148 = true then (spec_BoundsOf.j0 k l0 ((l0.length : Int) == 0)) else (spec_BoundsOf.j0 k l0 true)) = some (r1, r2, r3) := H
    have A4 := yD A40
    clear A40
    by_cases c5 : t148 = true
    · subst c5
      have H1 : (spec_BoundsOf.j0 k l0 ((l0.length : Int) == 0)) = some (r1, r2, r3) := by rw [if_pos rfl] at H; exact H
      clear H; have H := H1; clear H1
      have H' := yD H
      clear H
      go_wp2_with (first | ((with_reducible refine gate_callee (f := 70) rfl ?_); refine goesL_ (some 8) rfl rfl Try.func70 (by kernel_rfl) rfl #[.slice A0 l0.length c0] rfl (by (try simp only [zK, zL, zM]); first | done | rfl | (simp only [zN, zO]; rfl)) ?_; (with_reducible refine (spec_l07List.calls k _ _ l0 true _ ?side1 ?side2 A4.out).mono ?_); (case side1 => repeat (first | exact (yY HR0.out HB.out) | (with_reducible first | refine yV ?_ _ | refine yW ?_ _ | refine yX ?_))); (case side2 => exact HC0.out); rintro e w6 ⟨rfl, hb⟩; refine ⟨_, rfl, ?_⟩; have n0_ := yD (zB (g := gb147) (o := .cells #[.slice none 0 0, .slice none 0 0] 42 (0, 0)) (by (with_reducible repeat (first | refine yM ?_ _ | refine yO ?_ | refine yN ?_ _)); exact BK147.out) hb); have n1_ := yD (zC (by repeat (first | (with_reducible first | exact HB.out | apply yQ | apply yL | apply yP | refine yE ?_ GE147.out) | exact HB.out)) hb); clear BK147; clear HB; have BK147 := n0_; have HB := n1_; clear n0_ n1_; (try clear hb); (try clear hb2); (try clear hk); (try clear hi)))
      go_meet
      case rel => exact ⟨_, (((l0.length : Int) == 0)), (by first | rfl | (simp; done) | (simp [*]; done)), H', ⟨by first | omega | exact Nat.le_refl _⟩, ⟨by (with_reducible repeat (first | refine yM ?_ _ | refine yO ?_ | refine yN ?_ _)); exact BK147.out⟩, ⟨by repeat (first | (with_reducible first | exact HB.out | apply yQ | apply yL | apply yP | refine yE ?_ GE147.out) | exact HB.out)⟩⟩
    · replace c5 := Bool.eq_false_iff.mpr c5
      subst c5
      have H1 : (spec_BoundsOf.j0 k l0 true) = some (r1, r2, r3) := by rw [if_neg (show ¬ (false = true) by decide)] at H; exact H
      clear H; have H := H1; clear H1
      have H' := yD H
      clear H
      go_wp2_with (first | ((with_reducible refine gate_callee (f := 70) rfl ?_); refine goesL_ (some 8) rfl rfl Try.func70 (by kernel_rfl) rfl #[.slice A0 l0.length c0] rfl (by (try simp only [zK, zL, zM]); first | done | rfl | (simp only [zN, zO]; rfl)) ?_; (with_reducible refine (spec_l07List.calls k _ _ l0 false _ ?side1 ?side2 A4.out).mono ?_); (case side1 => repeat (first | exact (yY HR0.out HB.out) | (with_reducible first | refine yV ?_ _ | refine yW ?_ _ | refine yX ?_))); (case side2 => exact HC0.out); rintro e w7 ⟨rfl, hb⟩; refine ⟨_, rfl, ?_⟩; have n0_ := yD (zB (g := gb147) (o := .cells #[.slice none 0 0, .slice none 0 0] 42 (0, 0)) (by (with_reducible repeat (first | refine yM ?_ _ | refine yO ?_ | refine yN ?_ _)); exact BK147.out) hb); have n1_ := yD (zC (by repeat (first | (with_reducible first | exact HB.out | apply yQ | apply yL | apply yP | refine yE ?_ GE147.out) | exact HB.out)) hb); clear BK147; clear HB; have BK147 := n0_; have HB := n1_; clear n0_ n1_; (try clear hb); (try clear hb2); (try clear hk); (try clear hi)))
      go_meet
      case rel => exact ⟨_, (true), (by first | rfl | (simp; done) | (simp [*]; done)), H', ⟨by first | omega | exact Nat.le_refl _⟩, ⟨by (with_reducible repeat (first | refine yM ?_ _ | refine yO ?_ | refine yN ?_ _)); exact BK147.out⟩, ⟨by repeat (first | (with_reducible first | exact HB.out | apply yQ | apply yL | apply yP | refine yE ?_ GE147.out) | exact HB.out)⟩⟩
  case rest =>
    clear HC2; try clear p2; try clear c3; try clear c5; try clear c7
    obtain ⟨kq, x14_1, rfl, HA, HJ1, BK147, HB⟩ := hcut
    cases kq with
    | zero => exact absurd HA.out (by simp [spec_BoundsOf.j0])
    | succ kj1 =>
      have H := HA.out; clear HA
      simp only [spec_BoundsOf.j0] at H
      by_cases c8 : x14_1 = true
      · subst c8
        have H1 : (some (([] : List Int), ([] : List Int), false)) = some (r1, r2, r3) := by rw [if_pos rfl] at H; exact H
        clear H; have H := H1; clear H1
        simp only [Option.some.injEq, Prod.mk.injEq] at H
        obtain ⟨rfl, rfl, rfl⟩ := H
        have hcz9_0 : wc.cell? ⟨gb147, 0, none⟩ = some (.slice none 0 0) := (yG BK147.out 0).trans rfl
        have hcz9_1 : wc.cell? ⟨gb147, 1, none⟩ = some (.slice none 0 0) := (yG BK147.out 1).trans rfl
        have hfz9_0 := yR BK147.out 0
        have hfz9_1 := yR BK147.out 1
        go_wp2
        refine bodyPost_ret (results_ct rfl _ _ gb147 42 #[.slice none 0 0, .slice none 0 0] (0, 0) _ rfl (by (with_reducible repeat (first | refine yM ?_ _ | refine yO ?_ | refine yN ?_ _)); refine blk_put (cs := #[.slice none 0 0, .slice none 0 0]) ?_ 1 _ rfl; (with_reducible repeat (first | refine yM ?_ _ | refine yO ?_ | refine yN ?_ _)); refine blk_put (cs := #[.slice none 0 0, .slice none 0 0]) ?_ 0 _ rfl; (with_reducible repeat (first | refine yM ?_ _ | refine yO ?_ | refine yN ?_ _)); exact BK147.out) Try.underlying42 rfl (by kernel_rfl)) rfl ?_
        exact ⟨_, _, by first | rfl | (simp [errW_none, errW_some] <;> rfl) | (simp [*, errW_none, errW_some] <;> rfl), by first | exact Kd.R_nil _ _ _ _ _ | exact Kd.N_nil _ _ _ _ _ | exact Kd.V_nil _ _ _ _ _ | exact Kd.Q_nil _ _ _ _ _ | exact Kd.S_nil _ _ _ _ _, by first | exact Kd.R_nil _ _ _ _ _ | exact Kd.N_nil _ _ _ _ _ | exact Kd.V_nil _ _ _ _ _ | exact Kd.Q_nil _ _ _ _ _ | exact Kd.S_nil _ _ _ _ _, by repeat (first | (with_reducible first | exact HB.out | apply yQ | apply yL | apply yP | refine yE ?_ GE147.out) | exact HB.out)⟩
      · replace c8 := Bool.eq_false_iff.mpr c8
        subst c8
        have H1 : (if 0 < (l0.length : Int) then ((spec_l00Own.f ((rd_T42 l0 0).f0)).bind fun t150 => ((spec_l00Own.f ((rd_T42 l0 0).f1)).bind fun t154 => (spec_BoundsOf.l0 kj1 l0 0 t150 t154))) else (none)) = some (r1, r2, r3) := by rw [if_neg (show ¬ (false = true) by decide)] at H; exact H
        clear H; have H := H1; clear H1
        by_cases c10 : 0 < (l0.length : Int)
        · rw [if_pos c10] at H
          have c10b0 : decide (0 < (l0.length : Int)) = true := zR c10
          have c10b1 : decide (0 < l0.length) = true := zR (by omega)
          clear c10
          replace H := Option.bind_eq_some_iff.mp H
          obtain ⟨t150, A110, H⟩ := H
          replace H : ((spec_l00Own.f ((rd_T42 l0 0).f1)).bind fun t154 => (spec_BoundsOf.l0 kj1 l0 0 t150 t154)) = some (r1, r2, r3) := H
          have A11 := yD A110
          clear A110
          replace H := Option.bind_eq_some_iff.mp H
          obtain ⟨t154, A120, H⟩ := H
          replace H : (spec_BoundsOf.l0 kj1 l0 0 t150 t154) = some (r1, r2, r3) := H
          have A12 := yD A120
          clear A120
          have H' := yD H
          clear H
          try go_wp2
          have n0_ := yD (yO BK147.out)
          have n1_ := yD (yP HB.out)
          clear BK147 HB; have BK147 := n0_; have HB := n1_; clear n0_ n1_
          have p149 : 0 ≤ (0 : Int) := (by omega)
          have q149 : 0 < (l0.length : Int) := zP (by assumption)
          obtain ⟨ad149, A149_0, c149_0, A149_1, c149_1, e149, hx149_0, hx149_1, hl149_0, hi149_0, hl149_1, hi149_1⟩ := at_T42 HR0.out 0 p149 q149
          have hw149_1 := hx149_1
          (try rw [show ((0 : Int)).toNat = 0 from rfl] at hw149_1)
          (try rw [show 0 * 2 = 0 from rfl] at hw149_1)
          (try rw [Addr.add_zero'] at hw149_1)
          have hw149_0 := hx149_0
          (try rw [show ((0 : Int)).toNat = 0 from rfl] at hw149_0)
          (try rw [show 0 * 2 = 0 from rfl] at hw149_0)
          (try rw [Addr.add_zero'] at hw149_0)
          cases e149
          have qi149 : (0 < l0.length) = True := eq_true (by omega)
          (try rw [show ((0 : Int)).toNat = 0 from rfl] at hx149_0)
          (try rw [show 0 * 2 = 0 from rfl] at hx149_0)
          (try rw [Addr.add_zero'] at hx149_0)
          (try rw [show ((0 : Int)).toNat = 0 from rfl] at hx149_1)
          (try rw [show 0 * 2 = 0 from rfl] at hx149_1)
          (try rw [Addr.add_zero'] at hx149_1)
          replace hx149_0 := (HB.out.cell (zQ w _ hx149_0)).trans hx149_0
          replace hx149_1 := (HB.out.cell (zQ w _ hx149_1)).trans hx149_1
          have HR149_0 := yD hi149_0
          have HC149_0 := yD hl149_0
          clear hi149_0 hl149_0
          have HR149_1 := yD hi149_1
          have HC149_1 := yD hl149_1
          clear hi149_1 hl149_1; replace p149 := eq_true p149; replace q149 := eq_true q149
          have p153 : 0 ≤ (0 : Int) := (by omega)
          have q153 : 0 < (l0.length : Int) := zP (by assumption)
          obtain ⟨ad153, A153_0, c153_0, A153_1, c153_1, e153, hx153_0, hx153_1, hl153_0, hi153_0, hl153_1, hi153_1⟩ := at_T42 HR0.out 0 p153 q153
          have hw153_1 := hx153_1
          (try rw [show ((0 : Int)).toNat = 0 from rfl] at hw153_1)
          (try rw [show 0 * 2 = 0 from rfl] at hw153_1)
          (try rw [Addr.add_zero'] at hw153_1)
          have hw153_0 := hx153_0
          (try rw [show ((0 : Int)).toNat = 0 from rfl] at hw153_0)
          (try rw [show 0 * 2 = 0 from rfl] at hw153_0)
          (try rw [Addr.add_zero'] at hw153_0)
          obtain rfl : ad149 = ad153 := (by injection e153)
          have qi153 : (0 < l0.length) = True := eq_true (by omega)
          (try rw [show ((0 : Int)).toNat = 0 from rfl] at hx153_0)
          (try rw [show 0 * 2 = 0 from rfl] at hx153_0)
          (try rw [Addr.add_zero'] at hx153_0)
          (try rw [show ((0 : Int)).toNat = 0 from rfl] at hx153_1)
          (try rw [show 0 * 2 = 0 from rfl] at hx153_1)
          (try rw [Addr.add_zero'] at hx153_1)
          replace hx153_0 := (HB.out.cell (zQ w _ hx153_0)).trans hx153_0
          replace hx153_1 := (HB.out.cell (zQ w _ hx153_1)).trans hx153_1
          have HR153_0 := yD hi153_0
          have HC153_0 := yD hl153_0
          clear hi153_0 hl153_0
          have HR153_1 := yD hi153_1
          have HC153_1 := yD hl153_1
          clear hi153_1 hl153_1; replace p153 := eq_true p153; replace q153 := eq_true q153
          have ea_ := Option.some.inj (hx149_0.symm.trans hx153_0)
          injection ea_ with ea_ en_ ec_
          subst ea_; subst ec_; clear en_
          have ea_ := Option.some.inj (hx149_1.symm.trans hx153_1)
          injection ea_ with ea_ en_ ec_
          subst ea_; subst ec_; clear en_
          refine start_ (n := 13) (S := fun w' => w'.cell? ad149 = some (.slice A149_0 ((rd_T42 l0 0).f0).length c149_0) ∧ w'.cell? ⟨ad149.block, ad149.off + 1, none⟩ = some (.slice A149_1 ((rd_T42 l0 0).f1).length c149_1) ∧ w'.cell? ad149 = some (.slice A149_0 ((rd_T42 l0 0).f0).length c149_0) ∧ w'.cell? ⟨ad149.block, ad149.off + 1, none⟩ = some (.slice A149_1 ((rd_T42 l0 0).f1).length c149_1)) (ds := []) #[false, false, false, false, false, false, false, false, false, false, false, false, false] (by kernel_rfl) rfl rfl ⟨((HB.out.cell (zQ w _ hw149_0)).trans hw149_0), ((HB.out.cell (zQ w _ hw149_1)).trans hw149_1), ((HB.out.cell (zQ w _ hw153_0)).trans hw153_0), ((HB.out.cell (zQ w _ hw153_1)).trans hw153_1)⟩ (fun hHeld => ?_); refine with_tabW spec_BoundsOf.tab3 spec_BoundsOf.bits3 (fun HT_ HW_ => ?_)
          generalize wc.drew = w13 at BK147 HB HR149_0 HR149_1 HR153_0 HR153_1 hx149_0 hx149_1 hx153_0 hx153_1 hHeld ⊢
          refine pure_ (i := 0) (N := some 16) (v := ?_) (a' := ?_) #[true, false, false, false, false, false, false, false, false, false, false, false, false] rfl rfl (any_of HT_.out (by kernel_rfl)) (fun _ _ _ h => h) (Or.inl ⟨by rfl, ?_⟩) ?_ ?_
          rotate_left
          · intro w'
            go_simp
            with_reducible rfl
          rotate_left
          · simp only [Act.put, zH, zI, zJ, i64_w, i32_w]
            rfl
          refine pure_ (i := 1) (N := some 17) (v := ?_) (a' := ?_) #[true, true, false, false, false, false, false, false, false, false, false, false, false] rfl rfl (any_of HT_.out (by kernel_rfl)) (fun _ _ _ h => h) (Or.inl ⟨by rfl, ?_⟩) ?_ ?_
          rotate_left
          · intro w'
            go_simp
            with_reducible rfl
          rotate_left
          · simp only [Act.put, zH, zI, zJ, i64_w, i32_w]
            rfl
          refine pure_ (i := 2) (N := some 18) (v := ?_) (a' := ?_) #[true, true, true, false, false, false, false, false, false, false, false, false, false] rfl rfl (any_of HT_.out (by kernel_rfl)) (fun _ _ _ h => h) (Or.inl ⟨by rfl, ?_⟩) ?_ ?_
          rotate_left
          · intro w'
            go_simp
            with_reducible rfl
          rotate_left
          · simp only [Act.put, zH, zI, zJ, i64_w, i32_w]
            rfl
          refine pure_ (i := 5) (N := some 21) (v := ?_) (a' := ?_) #[true, true, true, false, false, true, false, false, false, false, false, false, false] rfl rfl (any_of HT_.out (by kernel_rfl)) (fun _ _ _ h => h) (Or.inl ⟨by rfl, ?_⟩) ?_ ?_
          rotate_left
          · intro w'
            go_simp
            with_reducible rfl
          rotate_left
          · simp only [Act.put, zH, zI, zJ, i64_w, i32_w]
            rfl
          refine pure_ (i := 6) (N := some 22) (v := ?_) (a' := ?_) #[true, true, true, false, false, true, true, false, false, false, false, false, false] rfl rfl (any_of HT_.out (by kernel_rfl)) (fun _ _ _ h => h) (Or.inl ⟨by rfl, ?_⟩) ?_ ?_
          rotate_left
          · intro w'
            go_simp
            with_reducible rfl
          rotate_left
          · simp only [Act.put, zH, zI, zJ, i64_w, i32_w]
            rfl
          refine pure_ (i := 7) (N := some 23) (v := ?_) (a' := ?_) #[true, true, true, false, false, true, true, true, false, false, false, false, false] rfl rfl (any_of HT_.out (by kernel_rfl)) (fun _ _ _ h => h) (Or.inl ⟨by rfl, ?_⟩) ?_ ?_
          rotate_left
          · intro w'
            go_simp
            with_reducible rfl
          rotate_left
          · simp only [Act.put, zH, zI, zJ, i64_w, i32_w]
            rfl
          refine take_ (i := 3) (N := some 19) (v := ?_) (a' := ?_) #[true, true, true, true, false, true, true, true, false, false, false, false, false] rfl rfl (take_ofW HT_.out HW_.out (by kernel_rfl)) (fun _ _ _ h => h) (Or.inl ⟨by rfl, ?_⟩) hHeld ?_ ?_
          rotate_left
          · rintro w' ⟨s0, s1, s2, s3⟩
            go_simp
            with_reducible rfl
          rotate_left
          · simp only [Act.put, zH, zI, zJ, i64_w, i32_w]
            rfl
          refine take_ (i := 8) (N := some 24) (v := ?_) (a' := ?_) #[true, true, true, true, false, true, true, true, true, false, false, false, false] rfl rfl (take_ofW HT_.out HW_.out (by kernel_rfl)) (fun _ _ _ h => h) (Or.inl ⟨by rfl, ?_⟩) hHeld ?_ ?_
          rotate_left
          · rintro w' ⟨s0, s1, s2, s3⟩
            go_simp
            with_reducible rfl
          rotate_left
          · simp only [Act.put, zH, zI, zJ, i64_w, i32_w]
            rfl
          refine join_ (σ := Value × Value × Nat) 1 #[true, true, true, true, true, true, true, true, true, true, true, true, false] (fun s_ => [(20, s_.1), (25, s_.2.1), (4, .pointer (some ⟨s_.2.2, 0, none⟩)), (26, .agg #[s_.1, s_.2.1])]) (fun s_ w' => (w'.cell? ad149 = some (.slice A149_0 ((rd_T42 l0 0).f0).length c149_0) ∧ w'.cell? ⟨ad149.block, ad149.off + 1, none⟩ = some (.slice A149_1 ((rd_T42 l0 0).f1).length c149_1) ∧ w'.cell? ad149 = some (.slice A149_0 ((rd_T42 l0 0).f0).length c149_0) ∧ w'.cell? ⟨ad149.block, ad149.off + 1, none⟩ = some (.slice A149_1 ((rd_T42 l0 0).f1).length c149_1)) ∧ (Kd.R (Kd.int .i64) 2 w' w.heap.size (fun k_ => some k_ ≠ (s_.2.1 : Value).ownBlock) s_.1 t150) ∧ (Kd.R (Kd.int .i64) 2 w' w.heap.size (fun k_ => some k_ ≠ (s_.1 : Value).ownBlock) s_.2.1 t154) ∧ (w'.heap[gb147]? = some (.cells #[.slice none 0 0, .slice none 0 0] 42 (0, 0))) ∧ (w'.heap[s_.2.2]? = some (.cells #[.slice none 0 0, .slice none 0 0] 42 (0, 0))) ∧ (w.heap.size ≤ s_.2.2) ∧ (w.heap.size ≤ s_.2.2) ∧ (gb147 ≠ s_.2.2) ∧ (s_.2.2 ≠ gb147) ∧ (Below w.heap.size w w')) ?_ ?_
          rotate_left
          · intro hCont
            refine two_ (i := 4) (j := 11) (Ni := some 20) (Nj := some 4) #[true, true, true, true, true, true, true, true, true, false, false, false, false] #[true, true, true, true, false, true, true, true, true, false, false, true, false] rfl rfl rfl rfl (two_of HT_.out (by kernel_rfl)) (by decide) (by decide) (fun K hK => ?_) (fun K hK => ?_)
            · skip
              refine goes_ Try.func71 (by kernel_rfl) rfl #[.slice A149_0 ((rd_T42 l0 0).f0).length c149_0] (by rfl) rfl rfl (by (try simp only [zK, zL, zM]); first | done | rfl | (simp only [zN, zO]; rfl)) ?_
              with_reducible refine (spec_l00Own.calls _ _ ((rd_T42 l0 0).f0) t150 _ ?side1 ?side2 A11.out).mono ?_
              (case side1 => repeat (first | exact (yY HR149_0.out HB.out) | (with_reducible first | refine yV ?_ _ | refine yW ?_ _ | refine yX ?_)))
              (case side2 => exact HC149_0.out)
              rintro e w14 ⟨v151, rfl, ho0, hb⟩
              refine ⟨_, rfl, ?_⟩
              have n0_ := yD (yZ ho0 (below_size (by repeat (first | (with_reducible first | exact HB.out | apply yQ | apply yL | apply yP | refine yE ?_ GE147.out) | exact HB.out))))
              have n1_ := yD (zB (g := gb147) (o := .cells #[.slice none 0 0, .slice none 0 0] 42 (0, 0)) (by (with_reducible repeat (first | refine yM ?_ _ | refine yO ?_ | refine yN ?_ _)); exact BK147.out) hb)
              have n2_ := yD (zC (by repeat (first | (with_reducible first | exact HB.out | apply yQ | apply yL | apply yP | refine yE ?_ GE147.out) | exact HB.out)) hb)
              clear BK147 HB; have HO152 := n0_; have BK147 := n1_; have HB := n2_; clear n0_ n1_ n2_; (try clear hb); (try clear hb2); (try clear hk); (try clear hi); (try clear ho0)
              refine hK.out _ _ ⟨((HB.out.cell (zQ w _ hw149_0)).trans hw149_0), ((HB.out.cell (zQ w _ hw149_1)).trans hw149_1), ((HB.out.cell (zQ w _ hw153_0)).trans hw153_0), ((HB.out.cell (zQ w _ hw153_1)).trans hw153_1)⟩ (fun hHeld => ?_)
              clear hK K
              refine norm_ (a' := ?_) ?_ ?_
              rotate_left
              · show Act.put _ (some 20) _ = _
                simp only [Act.put, zH, zI, zJ, i64_w, i32_w]
                rfl
              refine two_ (i := 9) (j := 11) (Ni := some 25) (Nj := some 4) #[true, true, true, true, true, true, true, true, true, true, false, false, false] #[true, true, true, true, true, true, true, true, true, false, false, true, false] rfl rfl rfl rfl (two_of HT_.out (by kernel_rfl)) (by decide) (by decide) (fun K hK => ?_) (fun K hK => ?_)
              · skip
                refine goes_ Try.func71 (by kernel_rfl) rfl #[.slice A149_1 ((rd_T42 l0 0).f1).length c149_1] (by rfl) rfl rfl (by (try simp only [zK, zL, zM]); first | done | rfl | (simp only [zN, zO]; rfl)) ?_
                with_reducible refine (spec_l00Own.calls _ _ ((rd_T42 l0 0).f1) t154 _ ?side1 ?side2 A12.out).mono ?_
                (case side1 => repeat (first | exact (yY HR153_1.out HB.out) | (with_reducible first | refine yV ?_ _ | refine yW ?_ _ | refine yX ?_)))
                (case side2 => exact HC153_1.out)
                rintro e w15 ⟨v155, rfl, ho0, hb⟩
                refine ⟨_, rfl, ?_⟩
                have n0_ := yD (Kd.R_elder' (by (with_reducible repeat (first | apply yA | apply yB | apply yC)); exact HO152.out) (yH ho0) hb)
                have n1_ := yD (yZ (yJ ho0 (yK (by (with_reducible repeat (first | apply yA | apply yB | apply yC)); exact HO152.out))) (below_size (by repeat (first | (with_reducible first | exact HB.out | apply yQ | apply yL | apply yP | refine yE ?_ GE147.out) | exact HB.out))))
                have n2_ := yD (zB (g := gb147) (o := .cells #[.slice none 0 0, .slice none 0 0] 42 (0, 0)) (by (with_reducible repeat (first | refine yM ?_ _ | refine yO ?_ | refine yN ?_ _)); exact BK147.out) hb)
                have n3_ := yD (zC (by repeat (first | (with_reducible first | exact HB.out | apply yQ | apply yL | apply yP | refine yE ?_ GE147.out) | exact HB.out)) hb)
                clear HO152 BK147 HB; have HO152 := n0_; have HO156 := n1_; have BK147 := n2_; have HB := n3_; clear n0_ n1_ n2_ n3_; (try clear hb); (try clear hb2); (try clear hk); (try clear hi); (try clear ho0)
                obtain ⟨Ao16, co16, eo16⟩ := Kd.R_slice HO156.out
                (first | subst eo16 | (injection eo16 with f1_ f2_ f3_; have f4_ := f1_.symm; have f5_ := f3_.symm; clear f1_ f2_ f3_; subst f4_; subst f5_))
                obtain ⟨Ao17, co17, eo17⟩ := Kd.R_slice HO152.out
                (first | subst eo17 | (injection eo17 with f1_ f2_ f3_; have f4_ := f1_.symm; have f5_ := f3_.symm; clear f1_ f2_ f3_; subst f4_; subst f5_))
                refine hK.out _ _ ⟨((HB.out.cell (zQ w _ hw149_0)).trans hw149_0), ((HB.out.cell (zQ w _ hw149_1)).trans hw149_1), ((HB.out.cell (zQ w _ hw153_0)).trans hw153_0), ((HB.out.cell (zQ w _ hw153_1)).trans hw153_1)⟩ (fun hHeld => ?_)
                clear hK K
                refine norm_ (a' := ?_) ?_ ?_
                rotate_left
                · show Act.put _ (some 25) _ = _
                  simp only [Act.put, zH, zI, zJ, i64_w, i32_w]
                  rfl
                refine pure_ (i := 10) (N := some 26) (v := ?_) (a' := ?_) #[true, true, true, true, true, true, true, true, true, true, true, false, false] rfl rfl (any_of HT_.out (by kernel_rfl)) (fun _ _ _ h => h) (Or.inl ⟨by rfl, ?_⟩) ?_ ?_
                rotate_left
                · intro w'
                  go_simp
                  with_reducible rfl
                rotate_left
                · simp only [Act.put, zH, zI, zJ, i64_w, i32_w]
                  rfl
                refine one_ (i := 11) (N := some 4) #[true, true, true, true, true, true, true, true, true, true, true, true, false] rfl rfl (one_of HT_.out (by kernel_rfl)) (by decide) (fun K hK => ?_)
                refine box_step ?hg (N := 4) ?hd (cs := #[.slice none 0 0, .slice none 0 0]) (t := 42) ?hr ?_; (case hd => rfl); (case hg => rfl); (case hr => first | (go_simp; done) | (go_simp; rfl))
                intro gb157 hg w18 hbox hb
                have n0_ := yD (zE (by (with_reducible repeat (first | apply yA | apply yB | apply yC)); exact HO152.out) hb)
                have n1_ := yD (zE (by (with_reducible repeat (first | apply yA | apply yB | apply yC)); exact HO156.out) hb)
                have n2_ := yD (zB (g := gb147) (o := .cells #[.slice none 0 0, .slice none 0 0] 42 (0, 0)) (by (with_reducible repeat (first | refine yM ?_ _ | refine yO ?_ | refine yN ?_ _)); exact BK147.out) hb)
                have n3_ := yD (zC (by repeat (first | (with_reducible first | exact HB.out | apply yQ | apply yL | apply yP | refine yE ?_ GE147.out) | exact HB.out)) hb)
                have n4_ := yD (hbox)
                have n5_ := yD ((by rw [hg]; exact (below_size (by repeat (first | (with_reducible first | exact HB.out | apply yQ | apply yL | apply yP | refine yE ?_ GE147.out) | exact HB.out))) : w.heap.size ≤ gb157))
                have n6_ := yD ((by rw [hg]; exact (below_size (by repeat (first | (with_reducible first | exact HB.out | apply yQ | apply yL | apply yP | refine yE ?_ GE147.out) | exact HB.out))) : w.heap.size ≤ gb157))
                have n7_ := yD ((by rw [hg]; exact Nat.ne_of_lt (blk_lt (g := gb147) (o := .cells #[.slice none 0 0, .slice none 0 0] 42 (0, 0)) (by (with_reducible repeat (first | refine yM ?_ _ | refine yO ?_ | refine yN ?_ _)); exact BK147.out)) : gb147 ≠ gb157))
                have n8_ := yD ((by rw [hg]; exact Nat.ne_of_gt (blk_lt (g := gb147) (o := .cells #[.slice none 0 0, .slice none 0 0] 42 (0, 0)) (by (with_reducible repeat (first | refine yM ?_ _ | refine yO ?_ | refine yN ?_ _)); exact BK147.out)) : gb157 ≠ gb147))
                clear HO152 HO156 BK147 HB; have HO152 := n0_; have HO156 := n1_; have BK147 := n2_; have HB := n3_; have BK157 := n4_; have GW157 := n5_; have GE157 := n6_; have NB147_157 := n7_; have NB157_147 := n8_; clear n0_ n1_ n2_ n3_ n4_ n5_ n6_ n7_ n8_ hb hbox hg
                refine hK.out _ _ ⟨((HB.out.cell (zQ w _ hw149_0)).trans hw149_0), ((HB.out.cell (zQ w _ hw149_1)).trans hw149_1), ((HB.out.cell (zQ w _ hw153_0)).trans hw153_0), ((HB.out.cell (zQ w _ hw153_1)).trans hw153_1)⟩ (fun hHeld => ?_)
                clear hK K
                refine norm_ (a' := ?_) ?_ ?_
                rotate_left
                · show Act.put _ (some 4) _ = _
                  simp only [Act.put, zH, zI, zJ, i64_w, i32_w]
                  rfl
                exact norm_ (by simp only [putAll, Act.put, zH, zI, zJ]) (hCont (.slice Ao17 t150.length co17, .slice Ao16 t154.length co16, gb157) _ ⟨hHeld, (by (with_reducible repeat (first | apply yA | apply yB | apply yC)); exact zF HO152.out (fun _ hk => hk.2)), (by (with_reducible repeat (first | apply yA | apply yB | apply yC)); exact zF HO156.out (fun _ hk => hk.2)), (by (with_reducible repeat (first | refine yM ?_ _ | refine yO ?_ | refine yN ?_ _)); exact BK147.out), (by (with_reducible repeat (first | refine yM ?_ _ | refine yO ?_ | refine yN ?_ _)); exact BK157.out), GW157.out, GE157.out, NB147_157.out, NB157_147.out, (by repeat (first | (with_reducible first | exact HB.out | apply yQ | apply yL | apply yP | refine yE ?_ GE147.out | refine yE ?_ GE157.out) | exact HB.out))⟩)
              · skip
                refine box_step ?hg (N := 4) ?hd (cs := #[.slice none 0 0, .slice none 0 0]) (t := 42) ?hr ?_; (case hd => rfl); (case hg => rfl); (case hr => first | (go_simp; done) | (go_simp; rfl))
                intro gb157 hg w15 hbox hb
                have n0_ := yD (zE (by (with_reducible repeat (first | apply yA | apply yB | apply yC)); exact HO152.out) hb)
                have n1_ := yD (zB (g := gb147) (o := .cells #[.slice none 0 0, .slice none 0 0] 42 (0, 0)) (by (with_reducible repeat (first | refine yM ?_ _ | refine yO ?_ | refine yN ?_ _)); exact BK147.out) hb)
                have n2_ := yD (zC (by repeat (first | (with_reducible first | exact HB.out | apply yQ | apply yL | apply yP | refine yE ?_ GE147.out) | exact HB.out)) hb)
                have n3_ := yD (hbox)
                have n4_ := yD ((by rw [hg]; exact (below_size (by repeat (first | (with_reducible first | exact HB.out | apply yQ | apply yL | apply yP | refine yE ?_ GE147.out) | exact HB.out))) : w.heap.size ≤ gb157))
                have n5_ := yD ((by rw [hg]; exact (below_size (by repeat (first | (with_reducible first | exact HB.out | apply yQ | apply yL | apply yP | refine yE ?_ GE147.out) | exact HB.out))) : w.heap.size ≤ gb157))
                have n6_ := yD ((by rw [hg]; exact Nat.ne_of_lt (blk_lt (g := gb147) (o := .cells #[.slice none 0 0, .slice none 0 0] 42 (0, 0)) (by (with_reducible repeat (first | refine yM ?_ _ | refine yO ?_ | refine yN ?_ _)); exact BK147.out)) : gb147 ≠ gb157))
                have n7_ := yD ((by rw [hg]; exact Nat.ne_of_gt (blk_lt (g := gb147) (o := .cells #[.slice none 0 0, .slice none 0 0] 42 (0, 0)) (by (with_reducible repeat (first | refine yM ?_ _ | refine yO ?_ | refine yN ?_ _)); exact BK147.out)) : gb157 ≠ gb147))
                clear HO152 BK147 HB; have HO152 := n0_; have BK147 := n1_; have HB := n2_; have BK157 := n3_; have GW157 := n4_; have GE157 := n5_; have NB147_157 := n6_; have NB157_147 := n7_; clear n0_ n1_ n2_ n3_ n4_ n5_ n6_ n7_ hb hbox hg
                refine hK.out _ _ ⟨((HB.out.cell (zQ w _ hw149_0)).trans hw149_0), ((HB.out.cell (zQ w _ hw149_1)).trans hw149_1), ((HB.out.cell (zQ w _ hw153_0)).trans hw153_0), ((HB.out.cell (zQ w _ hw153_1)).trans hw153_1)⟩ (fun hHeld => ?_)
                clear hK K
                refine norm_ (a' := ?_) ?_ ?_
                rotate_left
                · show Act.put _ (some 4) _ = _
                  simp only [Act.put, zH, zI, zJ, i64_w, i32_w]
                  rfl
                refine one_ (i := 9) (N := some 25) #[true, true, true, true, true, true, true, true, true, true, false, true, false] rfl rfl (one_of HT_.out (by kernel_rfl)) (by decide) (fun K hK => ?_)
                refine goes_ Try.func71 (by kernel_rfl) rfl #[.slice A149_1 ((rd_T42 l0 0).f1).length c149_1] (by rfl) rfl rfl (by (try simp only [zK, zL, zM]); first | done | rfl | (simp only [zN, zO]; rfl)) ?_
                with_reducible refine (spec_l00Own.calls _ _ ((rd_T42 l0 0).f1) t154 _ ?side1 ?side2 A12.out).mono ?_
                (case side1 => repeat (first | exact (yY HR153_1.out HB.out) | (with_reducible first | refine yV ?_ _ | refine yW ?_ _ | refine yX ?_)))
                (case side2 => exact HC153_1.out)
                rintro e w16 ⟨v155, rfl, ho0, hb⟩
                refine ⟨_, rfl, ?_⟩
                have n0_ := yD (Kd.R_elder' (by (with_reducible repeat (first | apply yA | apply yB | apply yC)); exact HO152.out) (yH ho0) hb)
                have n1_ := yD (yZ (yJ ho0 (yK (by (with_reducible repeat (first | apply yA | apply yB | apply yC)); exact HO152.out))) (below_size (by repeat (first | (with_reducible first | exact HB.out | apply yQ | apply yL | apply yP | refine yE ?_ GE147.out | refine yE ?_ GE157.out) | exact HB.out))))
                have n2_ := yD (zB (g := gb147) (o := .cells #[.slice none 0 0, .slice none 0 0] 42 (0, 0)) (by (with_reducible repeat (first | refine yM ?_ _ | refine yO ?_ | refine yN ?_ _)); exact BK147.out) hb)
                have n3_ := yD (zB (g := gb157) (o := .cells #[.slice none 0 0, .slice none 0 0] 42 (0, 0)) (by (with_reducible repeat (first | refine yM ?_ _ | refine yO ?_ | refine yN ?_ _)); exact BK157.out) hb)
                have n4_ := yD (zC (by repeat (first | (with_reducible first | exact HB.out | apply yQ | apply yL | apply yP | refine yE ?_ GE147.out | refine yE ?_ GE157.out) | exact HB.out)) hb)
                clear HO152 BK147 BK157 HB; have HO152 := n0_; have HO156 := n1_; have BK147 := n2_; have BK157 := n3_; have HB := n4_; clear n0_ n1_ n2_ n3_ n4_; (try clear hb); (try clear hb2); (try clear hk); (try clear hi); (try clear ho0)
                obtain ⟨Ao17, co17, eo17⟩ := Kd.R_slice HO156.out
                (first | subst eo17 | (injection eo17 with f1_ f2_ f3_; have f4_ := f1_.symm; have f5_ := f3_.symm; clear f1_ f2_ f3_; subst f4_; subst f5_))
                obtain ⟨Ao18, co18, eo18⟩ := Kd.R_slice HO152.out
                (first | subst eo18 | (injection eo18 with f1_ f2_ f3_; have f4_ := f1_.symm; have f5_ := f3_.symm; clear f1_ f2_ f3_; subst f4_; subst f5_))
                refine hK.out _ _ ⟨((HB.out.cell (zQ w _ hw149_0)).trans hw149_0), ((HB.out.cell (zQ w _ hw149_1)).trans hw149_1), ((HB.out.cell (zQ w _ hw153_0)).trans hw153_0), ((HB.out.cell (zQ w _ hw153_1)).trans hw153_1)⟩ (fun hHeld => ?_)
                clear hK K
                refine norm_ (a' := ?_) ?_ ?_
                rotate_left
                · show Act.put _ (some 25) _ = _
                  simp only [Act.put, zH, zI, zJ, i64_w, i32_w]
                  rfl
                refine pure_ (i := 10) (N := some 26) (v := ?_) (a' := ?_) #[true, true, true, true, true, true, true, true, true, true, true, true, false] rfl rfl (any_of HT_.out (by kernel_rfl)) (fun _ _ _ h => h) (Or.inl ⟨by rfl, ?_⟩) ?_ ?_
                rotate_left
                · intro w'
                  go_simp
                  with_reducible rfl
                rotate_left
                · simp only [Act.put, zH, zI, zJ, i64_w, i32_w]
                  rfl
                exact norm_ (by simp only [putAll, Act.put, zH, zI, zJ]) (hCont (.slice Ao18 t150.length co18, .slice Ao17 t154.length co17, gb157) _ ⟨hHeld, (by (with_reducible repeat (first | apply yA | apply yB | apply yC)); exact zF HO152.out (fun _ hk => hk.2)), (by (with_reducible repeat (first | apply yA | apply yB | apply yC)); exact zF HO156.out (fun _ hk => hk.2)), (by (with_reducible repeat (first | refine yM ?_ _ | refine yO ?_ | refine yN ?_ _)); exact BK147.out), (by (with_reducible repeat (first | refine yM ?_ _ | refine yO ?_ | refine yN ?_ _)); exact BK157.out), GW157.out, GE157.out, NB147_157.out, NB157_147.out, (by repeat (first | (with_reducible first | exact HB.out | apply yQ | apply yL | apply yP | refine yE ?_ GE147.out | refine yE ?_ GE157.out) | exact HB.out))⟩)
            · skip
              refine box_step ?hg (N := 4) ?hd (cs := #[.slice none 0 0, .slice none 0 0]) (t := 42) ?hr ?_; (case hd => rfl); (case hg => rfl); (case hr => first | (go_simp; done) | (go_simp; rfl))
              intro gb157 hg w14 hbox hb
              have n0_ := yD (zB (g := gb147) (o := .cells #[.slice none 0 0, .slice none 0 0] 42 (0, 0)) (by (with_reducible repeat (first | refine yM ?_ _ | refine yO ?_ | refine yN ?_ _)); exact BK147.out) hb)
              have n1_ := yD (zC (by repeat (first | (with_reducible first | exact HB.out | apply yQ | apply yL | apply yP | refine yE ?_ GE147.out) | exact HB.out)) hb)
              have n2_ := yD (hbox)
              have n3_ := yD ((by rw [hg]; exact (below_size (by repeat (first | (with_reducible first | exact HB.out | apply yQ | apply yL | apply yP | refine yE ?_ GE147.out) | exact HB.out))) : w.heap.size ≤ gb157))
              have n4_ := yD ((by rw [hg]; exact (below_size (by repeat (first | (with_reducible first | exact HB.out | apply yQ | apply yL | apply yP | refine yE ?_ GE147.out) | exact HB.out))) : w.heap.size ≤ gb157))
              have n5_ := yD ((by rw [hg]; exact Nat.ne_of_lt (blk_lt (g := gb147) (o := .cells #[.slice none 0 0, .slice none 0 0] 42 (0, 0)) (by (with_reducible repeat (first | refine yM ?_ _ | refine yO ?_ | refine yN ?_ _)); exact BK147.out)) : gb147 ≠ gb157))
              have n6_ := yD ((by rw [hg]; exact Nat.ne_of_gt (blk_lt (g := gb147) (o := .cells #[.slice none 0 0, .slice none 0 0] 42 (0, 0)) (by (with_reducible repeat (first | refine yM ?_ _ | refine yO ?_ | refine yN ?_ _)); exact BK147.out)) : gb157 ≠ gb147))
              clear BK147 HB; have BK147 := n0_; have HB := n1_; have BK157 := n2_; have GW157 := n3_; have GE157 := n4_; have NB147_157 := n5_; have NB157_147 := n6_; clear n0_ n1_ n2_ n3_ n4_ n5_ n6_ hb hbox hg
              refine hK.out _ _ ⟨((HB.out.cell (zQ w _ hw149_0)).trans hw149_0), ((HB.out.cell (zQ w _ hw149_1)).trans hw149_1), ((HB.out.cell (zQ w _ hw153_0)).trans hw153_0), ((HB.out.cell (zQ w _ hw153_1)).trans hw153_1)⟩ (fun hHeld => ?_)
              clear hK K
              refine norm_ (a' := ?_) ?_ ?_
              rotate_left
              · show Act.put _ (some 4) _ = _
                simp only [Act.put, zH, zI, zJ, i64_w, i32_w]
                rfl
              refine one_ (i := 4) (N := some 20) #[true, true, true, true, true, true, true, true, true, false, false, true, false] rfl rfl (one_of HT_.out (by kernel_rfl)) (by decide) (fun K hK => ?_)
              refine goes_ Try.func71 (by kernel_rfl) rfl #[.slice A149_0 ((rd_T42 l0 0).f0).length c149_0] (by rfl) rfl rfl (by (try simp only [zK, zL, zM]); first | done | rfl | (simp only [zN, zO]; rfl)) ?_
              with_reducible refine (spec_l00Own.calls _ _ ((rd_T42 l0 0).f0) t150 _ ?side1 ?side2 A11.out).mono ?_
              (case side1 => repeat (first | exact (yY HR149_0.out HB.out) | (with_reducible first | refine yV ?_ _ | refine yW ?_ _ | refine yX ?_)))
              (case side2 => exact HC149_0.out)
              rintro e w15 ⟨v151, rfl, ho0, hb⟩
              refine ⟨_, rfl, ?_⟩
              have n0_ := yD (yZ ho0 (below_size (by repeat (first | (with_reducible first | exact HB.out | apply yQ | apply yL | apply yP | refine yE ?_ GE147.out | refine yE ?_ GE157.out) | exact HB.out))))
              have n1_ := yD (zB (g := gb147) (o := .cells #[.slice none 0 0, .slice none 0 0] 42 (0, 0)) (by (with_reducible repeat (first | refine yM ?_ _ | refine yO ?_ | refine yN ?_ _)); exact BK147.out) hb)
              have n2_ := yD (zB (g := gb157) (o := .cells #[.slice none 0 0, .slice none 0 0] 42 (0, 0)) (by (with_reducible repeat (first | refine yM ?_ _ | refine yO ?_ | refine yN ?_ _)); exact BK157.out) hb)
              have n3_ := yD (zC (by repeat (first | (with_reducible first | exact HB.out | apply yQ | apply yL | apply yP | refine yE ?_ GE147.out | refine yE ?_ GE157.out) | exact HB.out)) hb)
              clear BK147 BK157 HB; have HO152 := n0_; have BK147 := n1_; have BK157 := n2_; have HB := n3_; clear n0_ n1_ n2_ n3_; (try clear hb); (try clear hb2); (try clear hk); (try clear hi); (try clear ho0)
              refine hK.out _ _ ⟨((HB.out.cell (zQ w _ hw149_0)).trans hw149_0), ((HB.out.cell (zQ w _ hw149_1)).trans hw149_1), ((HB.out.cell (zQ w _ hw153_0)).trans hw153_0), ((HB.out.cell (zQ w _ hw153_1)).trans hw153_1)⟩ (fun hHeld => ?_)
              clear hK K
              refine norm_ (a' := ?_) ?_ ?_
              rotate_left
              · show Act.put _ (some 20) _ = _
                simp only [Act.put, zH, zI, zJ, i64_w, i32_w]
                rfl
              refine one_ (i := 9) (N := some 25) #[true, true, true, true, true, true, true, true, true, true, false, true, false] rfl rfl (one_of HT_.out (by kernel_rfl)) (by decide) (fun K hK => ?_)
              refine goes_ Try.func71 (by kernel_rfl) rfl #[.slice A149_1 ((rd_T42 l0 0).f1).length c149_1] (by rfl) rfl rfl (by (try simp only [zK, zL, zM]); first | done | rfl | (simp only [zN, zO]; rfl)) ?_
              with_reducible refine (spec_l00Own.calls _ _ ((rd_T42 l0 0).f1) t154 _ ?side1 ?side2 A12.out).mono ?_
              (case side1 => repeat (first | exact (yY HR153_1.out HB.out) | (with_reducible first | refine yV ?_ _ | refine yW ?_ _ | refine yX ?_)))
              (case side2 => exact HC153_1.out)
              rintro e w16 ⟨v155, rfl, ho0, hb⟩
              refine ⟨_, rfl, ?_⟩
              have n0_ := yD (Kd.R_elder' (by (with_reducible repeat (first | apply yA | apply yB | apply yC)); exact HO152.out) (yH ho0) hb)
              have n1_ := yD (yZ (yJ ho0 (yK (by (with_reducible repeat (first | apply yA | apply yB | apply yC)); exact HO152.out))) (below_size (by repeat (first | (with_reducible first | exact HB.out | apply yQ | apply yL | apply yP | refine yE ?_ GE147.out | refine yE ?_ GE157.out) | exact HB.out))))
              have n2_ := yD (zB (g := gb147) (o := .cells #[.slice none 0 0, .slice none 0 0] 42 (0, 0)) (by (with_reducible repeat (first | refine yM ?_ _ | refine yO ?_ | refine yN ?_ _)); exact BK147.out) hb)
              have n3_ := yD (zB (g := gb157) (o := .cells #[.slice none 0 0, .slice none 0 0] 42 (0, 0)) (by (with_reducible repeat (first | refine yM ?_ _ | refine yO ?_ | refine yN ?_ _)); exact BK157.out) hb)
              have n4_ := yD (zC (by repeat (first | (with_reducible first | exact HB.out | apply yQ | apply yL | apply yP | refine yE ?_ GE147.out | refine yE ?_ GE157.out) | exact HB.out)) hb)
              clear HO152 BK147 BK157 HB; have HO152 := n0_; have HO156 := n1_; have BK147 := n2_; have BK157 := n3_; have HB := n4_; clear n0_ n1_ n2_ n3_ n4_; (try clear hb); (try clear hb2); (try clear hk); (try clear hi); (try clear ho0)
              obtain ⟨Ao17, co17, eo17⟩ := Kd.R_slice HO156.out
              (first | subst eo17 | (injection eo17 with f1_ f2_ f3_; have f4_ := f1_.symm; have f5_ := f3_.symm; clear f1_ f2_ f3_; subst f4_; subst f5_))
              obtain ⟨Ao18, co18, eo18⟩ := Kd.R_slice HO152.out
              (first | subst eo18 | (injection eo18 with f1_ f2_ f3_; have f4_ := f1_.symm; have f5_ := f3_.symm; clear f1_ f2_ f3_; subst f4_; subst f5_))
              refine hK.out _ _ ⟨((HB.out.cell (zQ w _ hw149_0)).trans hw149_0), ((HB.out.cell (zQ w _ hw149_1)).trans hw149_1), ((HB.out.cell (zQ w _ hw153_0)).trans hw153_0), ((HB.out.cell (zQ w _ hw153_1)).trans hw153_1)⟩ (fun hHeld => ?_)
              clear hK K
              refine norm_ (a' := ?_) ?_ ?_
              rotate_left
              · show Act.put _ (some 25) _ = _
                simp only [Act.put, zH, zI, zJ, i64_w, i32_w]
                rfl
              refine pure_ (i := 10) (N := some 26) (v := ?_) (a' := ?_) #[true, true, true, true, true, true, true, true, true, true, true, true, false] rfl rfl (any_of HT_.out (by kernel_rfl)) (fun _ _ _ h => h) (Or.inl ⟨by rfl, ?_⟩) ?_ ?_
              rotate_left
              · intro w'
                go_simp
                with_reducible rfl
              rotate_left
              · simp only [Act.put, zH, zI, zJ, i64_w, i32_w]
                rfl
              exact norm_ (by simp only [putAll, Act.put, zH, zI, zJ]) (hCont (.slice Ao18 t150.length co18, .slice Ao17 t154.length co17, gb157) _ ⟨hHeld, (by (with_reducible repeat (first | apply yA | apply yB | apply yC)); exact zF HO152.out (fun _ hk => hk.2)), (by (with_reducible repeat (first | apply yA | apply yB | apply yC)); exact zF HO156.out (fun _ hk => hk.2)), (by (with_reducible repeat (first | refine yM ?_ _ | refine yO ?_ | refine yN ?_ _)); exact BK147.out), (by (with_reducible repeat (first | refine yM ?_ _ | refine yO ?_ | refine yN ?_ _)); exact BK157.out), GW157.out, GE157.out, NB147_157.out, NB157_147.out, (by repeat (first | (with_reducible first | exact HB.out | apply yQ | apply yL | apply yP | refine yE ?_ GE147.out | refine yE ?_ GE157.out) | exact HB.out))⟩)
          rintro ⟨v151, v155, gb157⟩ w19 ⟨hS_, h0_, h1_, h2_, h3_, h4_, h5_, h6_, h7_, h8_⟩
          have n0_ : Aside0 (Kd.R (Kd.int .i64) 2 w19 w.heap.size (fun k_ => some k_ ≠ (v155 : Value).ownBlock) v151 t150) := ⟨h0_⟩
          have n1_ : Aside0 (Kd.R (Kd.int .i64) 2 w19 w.heap.size (fun k_ => some k_ ≠ (v151 : Value).ownBlock) v155 t154) := ⟨h1_⟩
          have n2_ : Aside0 (w19.heap[gb147]? = some (.cells #[.slice none 0 0, .slice none 0 0] 42 (0, 0))) := ⟨h2_⟩
          have n3_ : Aside0 (w19.heap[gb157]? = some (.cells #[.slice none 0 0, .slice none 0 0] 42 (0, 0))) := ⟨h3_⟩
          have n4_ : Aside0 (w.heap.size ≤ gb157) := ⟨h4_⟩
          have n5_ : Aside0 (w.heap.size ≤ gb157) := ⟨h5_⟩
          have n6_ : Aside0 (gb147 ≠ gb157) := ⟨h6_⟩
          have n7_ : Aside0 (gb157 ≠ gb147) := ⟨h7_⟩
          have n8_ : Aside0 (Below w.heap.size w w19) := ⟨h8_⟩
          clear BK147 HB h0_ h1_ h2_ h3_ h4_ h5_ h6_ h7_ h8_; have HO152 := n0_; have HO156 := n1_; have BK147 := n2_; have BK157 := n3_; have GW157 := n4_; have GE157 := n5_; have NB147_157 := n6_; have NB157_147 := n7_; have HB := n8_; clear n0_ n1_ n2_ n3_ n4_ n5_ n6_ n7_ n8_
          have hHeld : w19.cell? ad149 = some (.slice A149_0 ((rd_T42 l0 0).f0).length c149_0) ∧ w19.cell? ⟨ad149.block, ad149.off + 1, none⟩ = some (.slice A149_1 ((rd_T42 l0 0).f1).length c149_1) ∧ w19.cell? ad149 = some (.slice A149_0 ((rd_T42 l0 0).f0).length c149_0) ∧ w19.cell? ⟨ad149.block, ad149.off + 1, none⟩ = some (.slice A149_1 ((rd_T42 l0 0).f1).length c149_1) := hS_
          obtain ⟨Ao20, co20, eo20⟩ := Kd.R_slice HO156.out
          (first | subst eo20 | (injection eo20 with f1_ f2_ f3_; have f4_ := f1_.symm; have f5_ := f3_.symm; clear f1_ f2_ f3_; subst f4_; subst f5_))
          obtain ⟨Ao21, co21, eo21⟩ := Kd.R_slice HO152.out
          (first | subst eo21 | (injection eo21 with f1_ f2_ f3_; have f4_ := f1_.symm; have f5_ := f3_.symm; clear f1_ f2_ f3_; subst f4_; subst f5_))
          refine norm_ (a' := ?_) ?_ ?_
          rotate_left
          · simp only [putAll, Act.put, zH, zI, zJ]
            rfl
          refine one_ (i := 12) (N := none) #[true, true, true, true, true, true, true, true, true, true, true, true, true] rfl rfl (one_of HT_.out (by kernel_rfl)) (by decide) (fun K hK => ?_)
          have hs22 : w19.cell? ⟨gb157, 0, none⟩ = some (.slice none 0 0) := (yG BK157.out 0).trans rfl
          have hfs22 := yR BK157.out 0
          have hns22_0 := NB147_157.out; have hms22_0 := NB157_147.out
          have hs23 : w19.cell? ⟨gb157, 1, none⟩ = some (.slice none 0 0) := (yG BK157.out 1).trans rfl
          have hfs23 := yR BK157.out 1
          have hns23_0 := NB147_157.out; have hms23_0 := NB157_147.out
          refine skip_ (w1 := ?_) (by rfl) rfl ?_ ?_
          rotate_left
          · go_simp
            rfl
          refine hK.out _ _ ⟨((cell_far (p := ⟨gb157, _, none⟩) (by first | exact Nat.ne_of_lt (Nat.lt_of_lt_of_le (by have := zQ _ _ hw149_0; first | rwa [add_block] at this | exact this) GW157.out) | (rw [add_block]; exact Nat.ne_of_lt (Nat.lt_of_lt_of_le (by have := zQ _ _ hw149_0; first | rwa [add_block] at this | exact this) GW157.out)) | (show (Addr.add _ _).block ≠ _; rw [add_block]; exact Nat.ne_of_lt (Nat.lt_of_lt_of_le (by have := zQ _ _ hw149_0; first | rwa [add_block] at this | exact this) GW157.out)) | (dsimp only; exact Nat.ne_of_lt (Nat.lt_of_lt_of_le (by have := zQ _ _ hw149_0; first | rwa [add_block] at this | exact this) GW157.out))) _).trans (((cell_far (p := ⟨gb157, _, none⟩) (by first | exact Nat.ne_of_lt (Nat.lt_of_lt_of_le (by have := zQ _ _ hw149_0; first | rwa [add_block] at this | exact this) GW157.out) | (rw [add_block]; exact Nat.ne_of_lt (Nat.lt_of_lt_of_le (by have := zQ _ _ hw149_0; first | rwa [add_block] at this | exact this) GW157.out)) | (show (Addr.add _ _).block ≠ _; rw [add_block]; exact Nat.ne_of_lt (Nat.lt_of_lt_of_le (by have := zQ _ _ hw149_0; first | rwa [add_block] at this | exact this) GW157.out)) | (dsimp only; exact Nat.ne_of_lt (Nat.lt_of_lt_of_le (by have := zQ _ _ hw149_0; first | rwa [add_block] at this | exact this) GW157.out))) _).trans (hHeld.1)))), ((cell_far (p := ⟨gb157, _, none⟩) (by first | exact Nat.ne_of_lt (Nat.lt_of_lt_of_le (by have := zQ _ _ hw149_1; first | rwa [add_block] at this | exact this) GW157.out) | (rw [add_block]; exact Nat.ne_of_lt (Nat.lt_of_lt_of_le (by have := zQ _ _ hw149_1; first | rwa [add_block] at this | exact this) GW157.out)) | (show (Addr.add _ _).block ≠ _; rw [add_block]; exact Nat.ne_of_lt (Nat.lt_of_lt_of_le (by have := zQ _ _ hw149_1; first | rwa [add_block] at this | exact this) GW157.out)) | (dsimp only; exact Nat.ne_of_lt (Nat.lt_of_lt_of_le (by have := zQ _ _ hw149_1; first | rwa [add_block] at this | exact this) GW157.out))) _).trans (((cell_far (p := ⟨gb157, _, none⟩) (by first | exact Nat.ne_of_lt (Nat.lt_of_lt_of_le (by have := zQ _ _ hw149_1; first | rwa [add_block] at this | exact this) GW157.out) | (rw [add_block]; exact Nat.ne_of_lt (Nat.lt_of_lt_of_le (by have := zQ _ _ hw149_1; first | rwa [add_block] at this | exact this) GW157.out)) | (show (Addr.add _ _).block ≠ _; rw [add_block]; exact Nat.ne_of_lt (Nat.lt_of_lt_of_le (by have := zQ _ _ hw149_1; first | rwa [add_block] at this | exact this) GW157.out)) | (dsimp only; exact Nat.ne_of_lt (Nat.lt_of_lt_of_le (by have := zQ _ _ hw149_1; first | rwa [add_block] at this | exact this) GW157.out))) _).trans (hHeld.2.1)))), ((cell_far (p := ⟨gb157, _, none⟩) (by first | exact Nat.ne_of_lt (Nat.lt_of_lt_of_le (by have := zQ _ _ hw153_0; first | rwa [add_block] at this | exact this) GW157.out) | (rw [add_block]; exact Nat.ne_of_lt (Nat.lt_of_lt_of_le (by have := zQ _ _ hw153_0; first | rwa [add_block] at this | exact this) GW157.out)) | (show (Addr.add _ _).block ≠ _; rw [add_block]; exact Nat.ne_of_lt (Nat.lt_of_lt_of_le (by have := zQ _ _ hw153_0; first | rwa [add_block] at this | exact this) GW157.out)) | (dsimp only; exact Nat.ne_of_lt (Nat.lt_of_lt_of_le (by have := zQ _ _ hw153_0; first | rwa [add_block] at this | exact this) GW157.out))) _).trans (((cell_far (p := ⟨gb157, _, none⟩) (by first | exact Nat.ne_of_lt (Nat.lt_of_lt_of_le (by have := zQ _ _ hw153_0; first | rwa [add_block] at this | exact this) GW157.out) | (rw [add_block]; exact Nat.ne_of_lt (Nat.lt_of_lt_of_le (by have := zQ _ _ hw153_0; first | rwa [add_block] at this | exact this) GW157.out)) | (show (Addr.add _ _).block ≠ _; rw [add_block]; exact Nat.ne_of_lt (Nat.lt_of_lt_of_le (by have := zQ _ _ hw153_0; first | rwa [add_block] at this | exact this) GW157.out)) | (dsimp only; exact Nat.ne_of_lt (Nat.lt_of_lt_of_le (by have := zQ _ _ hw153_0; first | rwa [add_block] at this | exact this) GW157.out))) _).trans (hHeld.2.2.1)))), ((cell_far (p := ⟨gb157, _, none⟩) (by first | exact Nat.ne_of_lt (Nat.lt_of_lt_of_le (by have := zQ _ _ hw153_1; first | rwa [add_block] at this | exact this) GW157.out) | (rw [add_block]; exact Nat.ne_of_lt (Nat.lt_of_lt_of_le (by have := zQ _ _ hw153_1; first | rwa [add_block] at this | exact this) GW157.out)) | (show (Addr.add _ _).block ≠ _; rw [add_block]; exact Nat.ne_of_lt (Nat.lt_of_lt_of_le (by have := zQ _ _ hw153_1; first | rwa [add_block] at this | exact this) GW157.out)) | (dsimp only; exact Nat.ne_of_lt (Nat.lt_of_lt_of_le (by have := zQ _ _ hw153_1; first | rwa [add_block] at this | exact this) GW157.out))) _).trans (((cell_far (p := ⟨gb157, _, none⟩) (by first | exact Nat.ne_of_lt (Nat.lt_of_lt_of_le (by have := zQ _ _ hw153_1; first | rwa [add_block] at this | exact this) GW157.out) | (rw [add_block]; exact Nat.ne_of_lt (Nat.lt_of_lt_of_le (by have := zQ _ _ hw153_1; first | rwa [add_block] at this | exact this) GW157.out)) | (show (Addr.add _ _).block ≠ _; rw [add_block]; exact Nat.ne_of_lt (Nat.lt_of_lt_of_le (by have := zQ _ _ hw153_1; first | rwa [add_block] at this | exact this) GW157.out)) | (dsimp only; exact Nat.ne_of_lt (Nat.lt_of_lt_of_le (by have := zQ _ _ hw153_1; first | rwa [add_block] at this | exact this) GW157.out))) _).trans (hHeld.2.2.2))))⟩ (fun hHeld => ?_)
          clear hK K
          refine done_ (done_of HT_.out (by kernel_rfl)) ?_
          try go_wp2
          go_loopg [5] kj1 (fun kq v5 w' => ∃ (x5_2 : Int) (x158000_2 : List Int) (x158001_2 : List Int) (u158000 : Value) (u158001 : Value), v5 = .int .i64 x5_2 ∧ Aside0 (spec_BoundsOf.l0 kq l0 x5_2 x158000_2 x158001_2 = some (r1, r2, r3)) ∧ Aside0 (kq ≤ kj1) ∧ Aside0 (Kd.R (Kd.int .i64) 2 w' w.heap.size (fun k_ => some k_ ≠ (u158001 : Value).ownBlock) u158000 x158000_2) ∧ Aside0 (Kd.R (Kd.int .i64) 2 w' w.heap.size (fun k_ => some k_ ≠ (u158000 : Value).ownBlock) u158001 x158001_2) ∧ Aside0 (w'.heap[gb147]? = some (.cells #[(.slice none 0 0), (.slice none 0 0)] 42 (0, 0))) ∧ Aside0 (w'.heap[gb157]? = some (.cells #[u158000, u158001] 42 (0, 0))) ∧ Aside0 (Below w.heap.size w w'))
          case atStart => exact ⟨(0), (t150), (t154), (.slice Ao21 t150.length co21), (.slice Ao20 t154.length co20), (by first | rfl | (simp; done) | (simp [*]; done)), H', ⟨Nat.le_refl _⟩, ⟨by (with_reducible repeat (first | apply yA | apply yB | apply yC)); exact zF (yF (p := ⟨gb157, 1, none⟩) (yF (p := ⟨gb157, 0, none⟩) (Kd.R_types HO152.out BK157.out (by decide)) (fun _ hk => hk.2) (.slice Ao21 t150.length co21)) (fun _ hk => hk.2) (.slice Ao20 t154.length co20)) (fun _ hk => hk.1)⟩, ⟨by (with_reducible repeat (first | apply yA | apply yB | apply yC)); exact zF (yF (p := ⟨gb157, 1, none⟩) (yF (p := ⟨gb157, 0, none⟩) (Kd.R_types HO156.out BK157.out (by decide)) (fun _ hk => hk.2) (.slice Ao21 t150.length co21)) (fun _ hk => hk.2) (.slice Ao20 t154.length co20)) (fun _ hk => hk.1)⟩, ⟨by (with_reducible repeat (first | refine yM ?_ _ | refine yO ?_ | refine yN ?_ _)); refine blk_far ?_ NB147_157.out _; (with_reducible repeat (first | refine yM ?_ _ | refine yO ?_ | refine yN ?_ _)); refine blk_far ?_ NB147_157.out _; (with_reducible repeat (first | refine yM ?_ _ | refine yO ?_ | refine yN ?_ _)); exact BK147.out⟩, ⟨by (with_reducible repeat (first | refine yM ?_ _ | refine yO ?_ | refine yN ?_ _)); refine blk_put (cs := #[.slice Ao21 t150.length co21, .slice none 0 0]) ?_ 1 _ rfl; (with_reducible repeat (first | refine yM ?_ _ | refine yO ?_ | refine yN ?_ _)); refine blk_put (cs := #[.slice none 0 0, .slice none 0 0]) ?_ 0 _ rfl; (with_reducible repeat (first | refine yM ?_ _ | refine yO ?_ | refine yN ?_ _)); exact BK157.out⟩, ⟨by repeat (first | (with_reducible first | exact HB.out | apply yQ | apply yL | apply yP | refine yE ?_ GE147.out | refine yE ?_ GE157.out) | exact HB.out)⟩⟩
          case round =>
            clear H'
            try clear c1; try clear p1; try clear q1; try clear hx1; try clear qi1; try clear p2; try clear c3; try clear c5; try clear c7; try clear c8; try clear c10; try clear c10b0; try clear c10b1; try clear c14; try clear p14; try clear q14; try clear hx14; try clear qi14; try clear c15; try clear p15; try clear q15; try clear hx15; try clear qi15; try clear hcz9_0; try clear hcz9_1; try clear hfz9_0; try clear hfz9_1; try clear hx149_0; try clear hx149_1; try clear hx153_0; try clear hx153_1; try clear p149; try clear p153; try clear p2; try clear q149; try clear q153
            obtain ⟨x5_2, x158000_2, x158001_2, u158000, u158001, rfl, HA, HK2, HO_158000, HO_158001, BK147, BK157, HB⟩ := hrel
            cases gk with
            | zero => exact absurd HA.out (by simp [spec_BoundsOf.l0])
            | succ k2 =>
              have H := HA.out; clear HA
              simp only [spec_BoundsOf.l0] at H
              by_cases c24 : x5_2 < (l0.length : Int)
              · rw [if_pos c24] at H
                have c24b0 : decide (x5_2 < (l0.length : Int)) = true := zR c24; clear c24
                have H' := yD H
                clear H
                go_wp2
                go_loopg [6] k2 (fun kq v6 w' => ∃ (x6_3 : Int) (x158000_3 : List Int) (x158001_3 : List Int) (u158000 : Value) (u158001 : Value), v6 = .int .i64 x6_3 ∧ Aside0 (spec_BoundsOf.l1 kq l0 x5_2 x6_3 x158000_3 x158001_3 = some (r1, r2, r3)) ∧ Aside0 (kq ≤ k2) ∧ Aside0 (Kd.R (Kd.int .i64) 2 w' w.heap.size (fun k_ => some k_ ≠ (u158001 : Value).ownBlock) u158000 x158000_3) ∧ Aside0 (Kd.R (Kd.int .i64) 2 w' w.heap.size (fun k_ => some k_ ≠ (u158000 : Value).ownBlock) u158001 x158001_3) ∧ Aside0 (w'.heap[gb147]? = some (.cells #[(.slice none 0 0), (.slice none 0 0)] 42 (0, 0))) ∧ Aside0 (w'.heap[gb157]? = some (.cells #[u158000, u158001] 42 (0, 0))) ∧ Aside0 (Below w.heap.size w w'))
                case atStart => exact ⟨(0), (x158000_2), (x158001_2), (u158000), (u158001), (by first | rfl | (simp; done) | (simp [*]; done)), H', ⟨Nat.le_refl _⟩, ⟨by (with_reducible repeat (first | apply yA | apply yB | apply yC)); exact HO_158000.out⟩, ⟨by (with_reducible repeat (first | apply yA | apply yB | apply yC)); exact HO_158001.out⟩, ⟨by (with_reducible repeat (first | refine yM ?_ _ | refine yO ?_ | refine yN ?_ _)); exact BK147.out⟩, ⟨by (with_reducible repeat (first | refine yM ?_ _ | refine yO ?_ | refine yN ?_ _)); exact BK157.out⟩, ⟨by repeat (first | (with_reducible first | exact HB.out | apply yQ | apply yL | apply yP | refine yE ?_ GE147.out | refine yE ?_ GE157.out) | exact HB.out)⟩⟩
                case round =>
                  clear H'
                  try clear c1; try clear p1; try clear q1; try clear hx1; try clear qi1; try clear c2; try clear p2; try clear c3; try clear c5; try clear c7; try clear c8; try clear c10; try clear c10b0; try clear c10b1; try clear c14; try clear p14; try clear q14; try clear hx14; try clear qi14; try clear c15; try clear p15; try clear q15; try clear hx15; try clear qi15; try clear c24; try clear c24b0; try clear hcz9_0; try clear hcz9_1; try clear hfz9_0; try clear hfz9_1; try clear hx149_0; try clear hx149_1; try clear hx153_0; try clear hx153_1; try clear p1; try clear p14; try clear p149; try clear p15; try clear p153; try clear p2; try clear q1; try clear q14; try clear q149; try clear q15; try clear q153
                  obtain ⟨x6_3, x158000_3, x158001_3, u158000, u158001, rfl, HA, HK3, HO_158000, HO_158001, BK147, BK157, HB⟩ := hrel
                  cases gk with
                  | zero => exact absurd HA.out (by simp [spec_BoundsOf.l1])
                  | succ k3 =>
                    have H := HA.out; clear HA
                    simp only [spec_BoundsOf.l1] at H
                    by_cases c25 : x6_3 < (x158000_3.length : Int)
                    · rw [if_pos c25] at H
                      have c25b0 : decide (x6_3 < (x158000_3.length : Int)) = true := zR c25; clear c25
                      by_cases c26 : 0 ≤ x6_3
                      · rw [if_pos c26] at H
                        have c26b0 : decide (0 ≤ x6_3) = true := zR c26; clear c26
                        by_cases c27 : 0 ≤ x5_2
                        · rw [if_pos c27] at H
                          have c27b0 : decide (0 ≤ x5_2) = true := zR c27; clear c27
                          by_cases c28 : x5_2 < (l0.length : Int)
                          · rw [if_pos c28] at H
                            have c28b0 : decide (x5_2 < (l0.length : Int)) = true := zR c28; clear c28
                            by_cases c29 : x6_3 < (((rd_T42 l0 x5_2).f0).length : Int)
                            · rw [if_pos c29] at H
                              have c29b0 : decide (x6_3 < (((rd_T42 l0 x5_2).f0).length : Int)) = true := zR c29; clear c29
                              replace H := Option.bind_eq_some_iff.mp H
                              obtain ⟨t161, A300, H⟩ := H
                              replace H : (if x6_3 < (x158001_3.length : Int) then (if x6_3 < (((rd_T42 l0 x5_2).f1).length : Int) then ((spec_l00Max.f (rd x158001_3 x6_3) (rd ((rd_T42 l0 x5_2).f1) x6_3)).bind fun t166 => (spec_BoundsOf.l1 k3 l0 x5_2 (wrap64 (x6_3 + 1)) (x158000_3.set (x6_3 : Int).toNat t161) (x158001_3.set (x6_3 : Int).toNat t166))) else (none)) else (none)) = some (r1, r2, r3) := H
                              have A30 := yD A300
                              clear A300
                              obtain ⟨y162, hy162⟩ : ∃ y_ : List Int, y_ = (x158000_3.set (x6_3 : Int).toNat t161) := ⟨_, rfl⟩
                              replace H : (if x6_3 < (x158001_3.length : Int) then (if x6_3 < (((rd_T42 l0 x5_2).f1).length : Int) then ((spec_l00Max.f (rd x158001_3 x6_3) (rd ((rd_T42 l0 x5_2).f1) x6_3)).bind fun t166 => (spec_BoundsOf.l1 k3 l0 x5_2 (wrap64 (x6_3 + 1)) y162 (x158001_3.set (x6_3 : Int).toNat t166))) else (none)) else (none)) = some (r1, r2, r3) := by first | (rw [hy162]; with_reducible exact H) | (have H2_ := (Option.bind_some _ _).symm.trans H; rw [hy162]; with_reducible exact H2_) | (have H2_ := (Option.bind_some _ _).symm.trans H; with_reducible exact H2_) | with_reducible exact H | (rw [hy162]; exact H) | exact H
                              have Ny162 := yD hy162
                              clear hy162
                              by_cases c32 : x6_3 < (x158001_3.length : Int)
                              · rw [if_pos c32] at H
                                have c32b0 : decide (x6_3 < (x158001_3.length : Int)) = true := zR c32; clear c32
                                by_cases c33 : x6_3 < (((rd_T42 l0 x5_2).f1).length : Int)
                                · rw [if_pos c33] at H
                                  have c33b0 : decide (x6_3 < (((rd_T42 l0 x5_2).f1).length : Int)) = true := zR c33; clear c33
                                  replace H := Option.bind_eq_some_iff.mp H
                                  obtain ⟨t166, A340, H⟩ := H
                                  replace H : (spec_BoundsOf.l1 k3 l0 x5_2 (wrap64 (x6_3 + 1)) y162 (x158001_3.set (x6_3 : Int).toNat t166)) = some (r1, r2, r3) := H
                                  have A34 := yD A340
                                  clear A340
                                  obtain ⟨y167, hy167⟩ : ∃ y_ : List Int, y_ = (x158001_3.set (x6_3 : Int).toNat t166) := ⟨_, rfl⟩
                                  replace H : (spec_BoundsOf.l1 k3 l0 x5_2 (wrap64 (x6_3 + 1)) y162 y167) = some (r1, r2, r3) := by first | (rw [hy167]; with_reducible exact H) | (have H2_ := (Option.bind_some _ _).symm.trans H; rw [hy167]; with_reducible exact H2_) | (have H2_ := (Option.bind_some _ _).symm.trans H; with_reducible exact H2_) | with_reducible exact H | (rw [hy167]; exact H) | exact H
                                  have Ny167 := yD hy167
                                  clear hy167
                                  have H' := yD H
                                  clear H; have hnb36 := NB157_147.out; have hnc36 := NB147_157.out
                                  have hcz37_0 : wr.cell? ⟨gb157, 0, none⟩ = some (u158000) := (yG BK157.out 0).trans rfl
                                  have hcz37_1 : wr.cell? ⟨gb157, 1, none⟩ = some (u158001) := (yG BK157.out 1).trans rfl
                                  have hfz37_0 := yR BK157.out 0
                                  have hfz37_1 := yR BK157.out 1
                                  obtain ⟨Ao38, co38, eo38⟩ := Kd.R_slice HO_158000.out
                                  subst eo38
                                  try go_wp2
                                  have n0_ := yD (yC HO_158000.out)
                                  have n1_ := yD (yC HO_158001.out)
                                  have n2_ := yD (yO BK147.out)
                                  have n3_ := yD (yO BK157.out)
                                  have n4_ := yD (yP HB.out)
                                  clear HO_158000 HO_158001 BK147 BK157 HB; have HO_158000 := n0_; have HO_158001 := n1_; have BK147 := n2_; have BK157 := n3_; have HB := n4_; clear n0_ n1_ n2_ n3_ n4_
                                  have p158 : 0 ≤ (x6_3 : Int) := zP (by assumption)
                                  have q158 : x6_3 < (x158000_3.length : Int) := zP (by assumption)
                                  obtain ⟨ad158, e158, hx158_0⟩ := Kd.at_int (zA HO_158000.out).2.2 x6_3 p158 q158
                                  cases e158; replace p158 := eq_true p158; replace q158 := eq_true q158
                                  have p159 : 0 ≤ (x5_2 : Int) := zP (by assumption)
                                  have q159 : x5_2 < (l0.length : Int) := zP (by assumption)
                                  obtain ⟨ad159, A159_0, c159_0, A159_1, c159_1, e159, hx159_0, hx159_1, hl159_0, hi159_0, hl159_1, hi159_1⟩ := at_T42 HR0.out x5_2 p159 q159
                                  have hw159_1 := hx159_1; have hw159_0 := hx159_0
                                  obtain rfl : ad149 = ad159 := (by injection e159)
                                  replace hx159_0 := (HB.out.cell (zQ w _ hx159_0)).trans hx159_0
                                  replace hx159_1 := (HB.out.cell (zQ w _ hx159_1)).trans hx159_1
                                  have HR159_0 := yD hi159_0
                                  have HC159_0 := yD hl159_0
                                  clear hi159_0 hl159_0
                                  have HR159_1 := yD hi159_1
                                  have HC159_1 := yD hl159_1
                                  clear hi159_1 hl159_1; replace p159 := eq_true p159; replace q159 := eq_true q159
                                  have p160 : 0 ≤ (x6_3 : Int) := zP (by assumption)
                                  have q160 : x6_3 < (((rd_T42 l0 x5_2).f0).length : Int) := zP (by assumption)
                                  obtain ⟨ad160, e160, hx160_0⟩ := Kd.at_int HR159_0.out x6_3 p160 q160
                                  have hw160_0 := hx160_0; cases e160
                                  replace hx160_0 := (HB.out.cell (zQ w _ hx160_0)).trans hx160_0
                                  replace p160 := eq_true p160; replace q160 := eq_true q160
                                  refine start_ (n := 19) (S := fun w' => w'.cell? ⟨gb157, 0, none⟩ = some (.slice (some ad158) x158000_3.length co38) ∧ w'.cell? ⟨gb157, 1, none⟩ = some (u158001) ∧ w'.cell? (ad158.add (x6_3).toNat) = some (.int .i64 (rd x158000_3 x6_3)) ∧ w'.cell? (ad149.add ((x5_2).toNat * 2)) = some (.slice (some ad160) ((rd_T42 l0 x5_2).f0).length c159_0) ∧ w'.cell? ⟨(ad149.add ((x5_2).toNat * 2)).block, (ad149.add ((x5_2).toNat * 2)).off + 1, none⟩ = some (.slice A159_1 ((rd_T42 l0 x5_2).f1).length c159_1) ∧ w'.cell? (ad160.add (x6_3).toNat) = some (.int .i64 (rd ((rd_T42 l0 x5_2).f0) x6_3))) (ds := [18]) #[false, false, false, false, false, false, false, false, false, false, false, false, false, false, false, false, false, false, false] (by kernel_rfl) rfl rfl ⟨(yG BK157.out 0).trans rfl, (yG BK157.out 1).trans rfl, hx158_0, ((HB.out.cell (zQ w _ hw159_0)).trans hw159_0), ((HB.out.cell (zQ w _ hw159_1)).trans hw159_1), ((HB.out.cell (zQ w _ hw160_0)).trans hw160_0)⟩ (fun hHeld => ?_); refine with_tabW spec_BoundsOf.tab10 spec_BoundsOf.bits10 (fun HT_ HW_ => ?_)
                                  generalize wr.drew = w39 at HO_158000 HO_158001 BK147 BK157 HB HR159_0 HR159_1 hx158_0 hx159_0 hx159_1 hx160_0 hHeld ⊢
                                  refine pure_ (i := 0) (N := some 40) (v := ?_) (a' := ?_) #[true, false, false, false, false, false, false, false, false, false, false, false, false, false, false, false, false, false, false] rfl rfl (any_of HT_.out (by kernel_rfl)) (fun _ _ _ h => h) (Or.inl ⟨by rfl, ?_⟩) ?_ ?_
                                  rotate_left
                                  · intro w'
                                    go_simp
                                    with_reducible rfl
                                  rotate_left
                                  · simp only [Act.put, zH, zI, zJ, i64_w, i32_w]
                                    rfl
                                  refine pure_ (i := 2) (N := some 42) (v := ?_) (a' := ?_) #[true, false, true, false, false, false, false, false, false, false, false, false, false, false, false, false, false, false, false] rfl rfl (any_of HT_.out (by kernel_rfl)) (fun _ _ _ h => h) (Or.inl ⟨by rfl, ?_⟩) ?_ ?_
                                  rotate_left
                                  · intro w'
                                    go_simp
                                    with_reducible rfl
                                  rotate_left
                                  · simp only [Act.put, zH, zI, zJ, i64_w, i32_w]
                                    rfl
                                  refine pure_ (i := 3) (N := some 43) (v := ?_) (a' := ?_) #[true, false, true, true, false, false, false, false, false, false, false, false, false, false, false, false, false, false, false] rfl rfl (any_of HT_.out (by kernel_rfl)) (fun _ _ _ h => h) (Or.inl ⟨by rfl, ?_⟩) ?_ ?_
                                  rotate_left
                                  · intro w'
                                    go_simp
                                    with_reducible rfl
                                  rotate_left
                                  · simp only [Act.put, zH, zI, zJ, i64_w, i32_w]
                                    rfl
                                  refine pure_ (i := 5) (N := some 45) (v := ?_) (a' := ?_) #[true, false, true, true, false, true, false, false, false, false, false, false, false, false, false, false, false, false, false] rfl rfl (any_of HT_.out (by kernel_rfl)) (fun _ _ _ h => h) (Or.inl ⟨by rfl, ?_⟩) ?_ ?_
                                  rotate_left
                                  · intro w'
                                    go_simp
                                    with_reducible rfl
                                  rotate_left
                                  · simp only [Act.put, zH, zI, zJ, i64_w, i32_w]
                                    rfl
                                  refine pure_ (i := 8) (N := some 48) (v := ?_) (a' := ?_) #[true, false, true, true, false, true, false, false, true, false, false, false, false, false, false, false, false, false, false] rfl rfl (any_of HT_.out (by kernel_rfl)) (fun _ _ _ h => h) (Or.inl ⟨by rfl, ?_⟩) ?_ ?_
                                  rotate_left
                                  · intro w'
                                    go_simp
                                    with_reducible rfl
                                  rotate_left
                                  · simp only [Act.put, zH, zI, zJ, i64_w, i32_w]
                                    rfl
                                  refine pure_ (i := 9) (N := some 49) (v := ?_) (a' := ?_) #[true, false, true, true, false, true, false, false, true, true, false, false, false, false, false, false, false, false, false] rfl rfl (any_of HT_.out (by kernel_rfl)) (fun _ _ _ h => h) (Or.inl ⟨by rfl, ?_⟩) ?_ ?_
                                  rotate_left
                                  · intro w'
                                    go_simp
                                    with_reducible rfl
                                  rotate_left
                                  · simp only [Act.put, zH, zI, zJ, i64_w, i32_w]
                                    rfl
                                  refine pure_ (i := 10) (N := some 50) (v := ?_) (a' := ?_) #[true, false, true, true, false, true, false, false, true, true, true, false, false, false, false, false, false, false, false] rfl rfl (any_of HT_.out (by kernel_rfl)) (fun _ _ _ h => h) (Or.inl ⟨by rfl, ?_⟩) ?_ ?_
                                  rotate_left
                                  · intro w'
                                    go_simp
                                    with_reducible rfl
                                  rotate_left
                                  · simp only [Act.put, zH, zI, zJ, i64_w, i32_w]
                                    rfl
                                  refine pure_ (i := 11) (N := some 51) (v := ?_) (a' := ?_) #[true, false, true, true, false, true, false, false, true, true, true, true, false, false, false, false, false, false, false] rfl rfl (any_of HT_.out (by kernel_rfl)) (fun _ _ _ h => h) (Or.inl ⟨by rfl, ?_⟩) ?_ ?_
                                  rotate_left
                                  · intro w'
                                    go_simp
                                    with_reducible rfl
                                  rotate_left
                                  · simp only [Act.put, zH, zI, zJ, i64_w, i32_w]
                                    rfl
                                  refine pure_ (i := 13) (N := some 53) (v := ?_) (a' := ?_) #[true, false, true, true, false, true, false, false, true, true, true, true, false, true, false, false, false, false, false] rfl rfl (any_of HT_.out (by kernel_rfl)) (fun _ _ _ h => h) (Or.inl ⟨by rfl, ?_⟩) ?_ ?_
                                  rotate_left
                                  · intro w'
                                    go_simp
                                    with_reducible rfl
                                  rotate_left
                                  · simp only [Act.put, zH, zI, zJ, i64_w, i32_w]
                                    rfl
                                  refine take_ (i := 1) (N := some 41) (v := ?_) (a' := ?_) #[true, true, true, true, false, true, false, false, true, true, true, true, false, true, false, false, false, false, false] rfl rfl (take_ofW HT_.out HW_.out (by kernel_rfl)) (fun _ _ _ h => h) (Or.inl ⟨by rfl, ?_⟩) hHeld ?_ ?_
                                  rotate_left
                                  · rintro w' ⟨s0, s1, s2, s3, s4, s5⟩
                                    go_simp
                                    with_reducible rfl
                                  rotate_left
                                  · simp only [Act.put, zH, zI, zJ, i64_w, i32_w]
                                    rfl
                                  refine take_ (i := 4) (N := some 44) (v := ?_) (a' := ?_) #[true, true, true, true, true, true, false, false, true, true, true, true, false, true, false, false, false, false, false] rfl rfl (take_ofW HT_.out HW_.out (by kernel_rfl)) (fun _ _ _ h => h) (Or.inl ⟨by rfl, ?_⟩) hHeld ?_ ?_
                                  rotate_left
                                  · rintro w' ⟨s0, s1, s2, s3, s4, s5⟩
                                    go_simp
                                    with_reducible rfl
                                  rotate_left
                                  · simp only [Act.put, zH, zI, zJ, i64_w, i32_w]
                                    rfl
                                  refine pure_ (i := 6) (N := some 46) (v := ?_) (a' := ?_) #[true, true, true, true, true, true, true, false, true, true, true, true, false, true, false, false, false, false, false] rfl rfl (any_of HT_.out (by kernel_rfl)) (fun _ _ _ h => h) (Or.inl ⟨by rfl, ?_⟩) ?_ ?_
                                  rotate_left
                                  · intro w'
                                    go_simp
                                    with_reducible rfl
                                  rotate_left
                                  · simp only [Act.put, zH, zI, zJ, i64_w, i32_w]
                                    rfl
                                  refine take_ (i := 7) (N := some 47) (v := ?_) (a' := ?_) #[true, true, true, true, true, true, true, true, true, true, true, true, false, true, false, false, false, false, false] rfl rfl (take_ofW HT_.out HW_.out (by kernel_rfl)) (fun _ _ _ h => h) (Or.inl ⟨by rfl, ?_⟩) hHeld ?_ ?_
                                  rotate_left
                                  · rintro w' ⟨s0, s1, s2, s3, s4, s5⟩
                                    go_simp
                                    with_reducible rfl
                                  rotate_left
                                  · simp only [Act.put, zH, zI, zJ, i64_w, i32_w]
                                    rfl
                                  refine take_ (i := 12) (N := some 52) (v := ?_) (a' := ?_) #[true, true, true, true, true, true, true, true, true, true, true, true, true, true, false, false, false, false, false] rfl rfl (take_ofW HT_.out HW_.out (by kernel_rfl)) (fun _ _ _ h => h) (Or.inl ⟨by rfl, ?_⟩) hHeld ?_ ?_
                                  rotate_left
                                  · rintro w' ⟨s0, s1, s2, s3, s4, s5⟩
                                    go_simp
                                    with_reducible rfl
                                  rotate_left
                                  · simp only [Act.put, zH, zI, zJ, i64_w, i32_w]
                                    rfl
                                  refine pure_ (i := 14) (N := some 54) (v := ?_) (a' := ?_) #[true, true, true, true, true, true, true, true, true, true, true, true, true, true, true, false, false, false, false] rfl rfl (any_of HT_.out (by kernel_rfl)) (fun _ _ _ h => h) (Or.inl ⟨by rfl, ?_⟩) ?_ ?_
                                  rotate_left
                                  · intro w'
                                    go_simp
                                    with_reducible rfl
                                  rotate_left
                                  · simp only [Act.put, zH, zI, zJ, i64_w, i32_w]
                                    rfl
                                  refine take_ (i := 15) (N := some 55) (v := ?_) (a' := ?_) #[true, true, true, true, true, true, true, true, true, true, true, true, true, true, true, true, false, false, false] rfl rfl (take_ofW HT_.out HW_.out (by kernel_rfl)) (fun _ _ _ h => h) (Or.inl ⟨by rfl, ?_⟩) hHeld ?_ ?_
                                  rotate_left
                                  · rintro w' ⟨s0, s1, s2, s3, s4, s5⟩
                                    go_simp
                                    with_reducible rfl
                                  rotate_left
                                  · simp only [Act.put, zH, zI, zJ, i64_w, i32_w]
                                    rfl
                                  refine one_ (i := 16) (N := some 56) #[true, true, true, true, true, true, true, true, true, true, true, true, true, true, true, true, true, false, false] rfl rfl (one_of HT_.out (by kernel_rfl)) (by decide) (fun K hK => ?_)
                                  refine goes_ Try.func72 (by kernel_rfl) rfl #[.int .i64 (rd x158000_3 x6_3), .int .i64 (rd ((rd_T42 l0 x5_2).f0) x6_3)] (by rfl) rfl rfl (by (try simp only [zK, zL, zM]); first | done | rfl | (simp only [zN, zO]; rfl)) ?_
                                  with_reducible refine (spec_l00Min.calls (rd x158000_3 x6_3) (rd ((rd_T42 l0 x5_2).f0) x6_3) t161 _ A30.out).mono ?_
                                  rintro e w' ⟨rfl, ⟨nd, rfl⟩⟩
                                  refine ⟨_, rfl, ?_⟩
                                  have p31 : 0 ≤ (x6_3 : Int) := zP (by assumption)
                                  have q31 : (x6_3 : Int) < ((x158000_3.length : Int) : Int) := zP (by assumption)
                                  obtain ⟨go31, co31, eo31, gb31, gl31, cl31, HG31⟩ := Kd.R_form HO_158000.out (by omega)
                                  (first | cases eo31 | (injection eo31 with ea_ en_ ec_; (first | subst ea_ | (injection ea_ with ea_; subst ea_)); subst ec_; clear en_))
                                  have GB31 := yD gb31
                                  have GG31 := yD HG31
                                  clear gb31 gl31 HG31
                                  (first | simp only [add_plain] at hx158_0 | skip)
                                  obtain ⟨hx31_0, hf31_0⟩ := Kd.R_celln 0 HO_158000.out (x6_3 : Int) p31 q31
                                  replace p31 := eq_true p31; replace q31 := eq_true q31
                                  have n0_ := yD (Kd.R_drewN HO_158000.out nd); have n1_ := yD (Kd.R_drewN HO_158001.out nd); have n2_ := yD (blk_drewN BK147.out nd); have n3_ := yD (blk_drewN BK157.out nd); have n4_ := yD (pw_below_drewN HB.out nd); clear HO_158000 HO_158001 BK147 BK157 HB; have HO_158000 := n0_; have HO_158001 := n1_; have BK147 := n2_; have BK157 := n3_; have HB := n4_; clear n0_ n1_ n2_ n3_ n4_
                                  have hHd_ : (w39.drewN nd).cell? _ = _ := hHeld.2.2.1; replace hx158_0 : (w39.drewN nd).cell? _ = _ := hx158_0; replace hx31_0 : (w39.drewN nd).cell? _ = _ := hx31_0; replace hf31_0 : (w39.drewN nd).frozen? _ = false := hf31_0
                                  generalize w39.drewN nd = w39 at HO_158000 HO_158001 BK147 BK157 HB hHd_ hx158_0 hx31_0 hf31_0 ⊢ -- hw_dr
                                  have HP40 := Kd.R_putn HO_158000.out (x6_3 : Int) t161
                                  rw [← Ny162.out] at HP40
                                  have HQ40 := yD HP40
                                  clear HP40
                                  refine hK.out _ _ ⟨(yG BK157.out 0).trans rfl, (yG BK157.out 1).trans rfl, hHd_, ((HB.out.cell (zQ w _ hw159_0)).trans hw159_0), ((HB.out.cell (zQ w _ hw159_1)).trans hw159_1), ((HB.out.cell (zQ w _ hw160_0)).trans hw160_0)⟩ (fun hHeld => ?_)
                                  clear hK K
                                  refine norm_ (a' := ?_) ?_ ?_
                                  rotate_left
                                  · show Act.put _ (some 56) _ = _
                                    simp only [Act.put, zH, zI, zJ, i64_w, i32_w]
                                    rfl
                                  refine pure_ (i := 17) (N := some 57) (v := ?_) (a' := ?_) #[true, true, true, true, true, true, true, true, true, true, true, true, true, true, true, true, true, true, false] rfl rfl (any_of HT_.out (by kernel_rfl)) (fun _ _ _ h => h) (Or.inl ⟨by rfl, ?_⟩) ?_ ?_
                                  rotate_left
                                  · intro w'
                                    go_simp
                                    with_reducible rfl
                                  rotate_left
                                  · simp only [Act.put, zH, zI, zJ, i64_w, i32_w]
                                    rfl
                                  refine last_ (i := 18) (N := none) #[true, true, true, true, true, true, true, true, true, true, true, true, true, true, true, true, true, true, true] rfl rfl (one_of HT_.out (by kernel_rfl)) (by decide) (fun K hK => ?_)
                                  refine skip_ (w1 := ?_) (by rfl) rfl ?_ ?_
                                  rotate_left
                                  · go_simp
                                    rfl
                                  refine hK.out _ _ ?_
                                  clear hK K
                                  refine done_ (done_of HT_.out (by kernel_rfl)) ?_
                                  try go_wp2
                                  have n0_ : Aside0 (Kd.R (Kd.int .i64) 2 (w39.setCell ⟨go31, (x6_3 : Int).toNat, none⟩ (.int .i64 t161)) w.heap.size (fun k_ => some k_ ≠ (u158001 : Value).ownBlock) (.slice (some ⟨go31, 0, none⟩) x158000_3.length co38) y162) := ⟨by (with_reducible repeat (first | apply yA | apply yB | apply yC)); exact HQ40.out⟩
                                  have n1_ : Aside0 (Kd.R (Kd.int .i64) 2 (w39.setCell ⟨go31, (x6_3 : Int).toNat, none⟩ (.int .i64 t161)) w.heap.size (fun k_ => some k_ ≠ (.slice (some ⟨go31, 0, none⟩) x158000_3.length co38 : Value).ownBlock) u158001 x158001_3) := ⟨by (with_reducible repeat (first | apply yA | apply yB | apply yC)); exact zF (yF (p := ⟨go31, (x6_3 : Int).toNat, none⟩) (zF HO_158001.out (fun k_ hk => (⟨hk, fun e_ => hk (by rw [e_]; rfl)⟩ : _ ∧ k_ ≠ go31))) (fun _ hk => hk.2) (.int .i64 t161)) (fun _ hk => hk.1)⟩
                                  have n2_ : Aside0 ((w39.setCell ⟨go31, (x6_3 : Int).toNat, none⟩ (.int .i64 t161)).heap[gb147]? = some (.cells #[.slice none 0 0, .slice none 0 0] 42 (0, 0))) := ⟨by (with_reducible repeat (first | refine yM ?_ _ | refine yO ?_ | refine yN ?_ _)); refine blk_far ?_ (by have h_ := Kd.R_ne HO_158000.out BK147.out (by decide); intro e_; exact h_ (by rw [e_]; rfl)) _; (with_reducible repeat (first | refine yM ?_ _ | refine yO ?_ | refine yN ?_ _)); exact BK147.out⟩
                                  have n3_ : Aside0 ((w39.setCell ⟨go31, (x6_3 : Int).toNat, none⟩ (.int .i64 t161)).heap[gb157]? = some (.cells #[.slice (some ⟨go31, 0, none⟩) x158000_3.length co38, u158001] 42 (0, 0))) := ⟨by (with_reducible repeat (first | refine yM ?_ _ | refine yO ?_ | refine yN ?_ _)); refine blk_far ?_ (by have h_ := Kd.R_ne HO_158000.out BK157.out (by decide); intro e_; exact h_ (by rw [e_]; rfl)) _; (with_reducible repeat (first | refine yM ?_ _ | refine yO ?_ | refine yN ?_ _)); exact BK157.out⟩
                                  have n4_ : Aside0 (Below w.heap.size w (w39.setCell ⟨go31, (x6_3 : Int).toNat, none⟩ (.int .i64 t161))) := ⟨by repeat (first | (with_reducible first | exact HB.out | apply yQ | apply yL | apply yP | refine yE ?_ GB31.out | refine yE ?_ GE147.out | refine yE ?_ GE157.out) | exact HB.out)⟩
                                  (try clear HO_158000); (try clear HO_158001); (try clear BK147); (try clear BK157); (try clear HB)
                                  generalize (w39.setCell ⟨go31, (x6_3 : Int).toNat, none⟩ (.int .i64 t161)) = w41 at n0_ n1_ n2_ n3_ n4_ ⊢
                                  have HO_158000 := n0_; have HO_158001 := n1_; have BK147 := n2_; have BK157 := n3_; have HB := n4_; clear n0_ n1_ n2_ n3_ n4_
                                  (try (rw [drewN_self w41]; generalize hq_ : World.drewN w41 _ = w41; have n0_ : Aside0 (Kd.R (Kd.int .i64) 2 w41 w.heap.size (fun k_ => some k_ ≠ (u158001 : Value).ownBlock) (.slice (some ⟨go31, 0, none⟩) x158000_3.length co38) y162) := ⟨by rw [← hq_]; exact (by (with_reducible repeat (first | apply yA | apply yB | apply yC)); exact HO_158000.out)⟩; have n1_ : Aside0 (Kd.R (Kd.int .i64) 2 w41 w.heap.size (fun k_ => some k_ ≠ (.slice (some ⟨go31, 0, none⟩) x158000_3.length co38 : Value).ownBlock) u158001 x158001_3) := ⟨by rw [← hq_]; exact (by (with_reducible repeat (first | apply yA | apply yB | apply yC)); exact HO_158001.out)⟩; have n2_ : Aside0 (w41.heap[gb147]? = some (.cells #[.slice none 0 0, .slice none 0 0] 42 (0, 0))) := ⟨by rw [← hq_]; exact (by (with_reducible repeat (first | refine yM ?_ _ | refine yO ?_ | refine yN ?_ _)); exact BK147.out)⟩; have n3_ : Aside0 (w41.heap[gb157]? = some (.cells #[.slice (some ⟨go31, 0, none⟩) x158000_3.length co38, u158001] 42 (0, 0))) := ⟨by rw [← hq_]; exact (by (with_reducible repeat (first | refine yM ?_ _ | refine yO ?_ | refine yN ?_ _)); exact BK157.out)⟩; have n4_ : Aside0 (Below w.heap.size w w41) := ⟨by rw [← hq_]; exact (by repeat (first | (with_reducible first | exact HB.out | apply yQ | apply yL | apply yP | refine yE ?_ GE147.out | refine yE ?_ GE157.out) | exact HB.out))⟩; clear HO_158000 HO_158001 BK147 BK157 HB hq_; have HO_158000 := n0_; have HO_158001 := n1_; have BK147 := n2_; have BK157 := n3_; have HB := n4_; clear n0_ n1_ n2_ n3_ n4_))
                                  have n0_ := yD (yC HO_158000.out)
                                  have n1_ := yD (yC HO_158001.out)
                                  have n2_ := yD (yO BK147.out)
                                  have n3_ := yD (yO BK157.out)
                                  have n4_ := yD (yP HB.out)
                                  clear HO_158000 HO_158001 BK147 BK157 HB; have HO_158000 := n0_; have HO_158001 := n1_; have BK147 := n2_; have BK157 := n3_; have HB := n4_; clear n0_ n1_ n2_ n3_ n4_
                                  obtain ⟨Ao43, co43, eo43⟩ := Kd.R_slice HO_158001.out
                                  (first | subst eo43 | (injection eo43 with f1_ f2_ f3_; have f4_ := f1_.symm; have f5_ := f3_.symm; clear f1_ f2_ f3_; subst f4_; subst f5_))
                                  have p163 : 0 ≤ (x6_3 : Int) := zP (by assumption)
                                  have q163 : x6_3 < (x158001_3.length : Int) := zP (by assumption)
                                  obtain ⟨ad163, e163, hx163_0⟩ := Kd.at_int (zA HO_158001.out).2.2 x6_3 p163 q163
                                  cases e163; replace p163 := eq_true p163; replace q163 := eq_true q163
                                  have p164 : 0 ≤ (x5_2 : Int) := zP (by assumption)
                                  have q164 : x5_2 < (l0.length : Int) := zP (by assumption)
                                  obtain ⟨ad164, A164_0, c164_0, A164_1, c164_1, e164, hx164_0, hx164_1, hl164_0, hi164_0, hl164_1, hi164_1⟩ := at_T42 HR0.out x5_2 p164 q164
                                  have hw164_1 := hx164_1; have hw164_0 := hx164_0
                                  obtain rfl : ad149 = ad164 := (by injection e164)
                                  replace hx164_0 := (HB.out.cell (zQ w _ hx164_0)).trans hx164_0
                                  replace hx164_1 := (HB.out.cell (zQ w _ hx164_1)).trans hx164_1
                                  have HR164_0 := yD hi164_0
                                  have HC164_0 := yD hl164_0
                                  clear hi164_0 hl164_0
                                  have HR164_1 := yD hi164_1
                                  have HC164_1 := yD hl164_1
                                  clear hi164_1 hl164_1; replace p164 := eq_true p164; replace q164 := eq_true q164
                                  have p165 : 0 ≤ (x6_3 : Int) := zP (by assumption)
                                  have q165 : x6_3 < (((rd_T42 l0 x5_2).f1).length : Int) := zP (by assumption)
                                  obtain ⟨ad165, e165, hx165_0⟩ := Kd.at_int HR164_1.out x6_3 p165 q165
                                  have hw165_0 := hx165_0; cases e165
                                  replace hx165_0 := (HB.out.cell (zQ w _ hx165_0)).trans hx165_0
                                  replace p165 := eq_true p165; replace q165 := eq_true q165
                                  refine start_ (n := 19) (S := fun w' => w'.cell? ⟨gb157, 0, none⟩ = some (.slice (some ⟨go31, 0, none⟩) x158000_3.length co38) ∧ w'.cell? ⟨gb157, 1, none⟩ = some (.slice (some ad163) x158001_3.length co43) ∧ w'.cell? (ad163.add (x6_3).toNat) = some (.int .i64 (rd x158001_3 x6_3)) ∧ w'.cell? (ad149.add ((x5_2).toNat * 2)) = some (.slice A164_0 ((rd_T42 l0 x5_2).f0).length c164_0) ∧ w'.cell? ⟨(ad149.add ((x5_2).toNat * 2)).block, (ad149.add ((x5_2).toNat * 2)).off + 1, none⟩ = some (.slice (some ad165) ((rd_T42 l0 x5_2).f1).length c164_1) ∧ w'.cell? (ad165.add (x6_3).toNat) = some (.int .i64 (rd ((rd_T42 l0 x5_2).f1) x6_3))) (ds := [18]) #[false, false, false, false, false, false, false, false, false, false, false, false, false, false, false, false, false, false, false] (by kernel_rfl) rfl rfl ⟨(yG BK157.out 0).trans rfl, (yG BK157.out 1).trans rfl, hx163_0, ((HB.out.cell (zQ w _ hw164_0)).trans hw164_0), ((HB.out.cell (zQ w _ hw164_1)).trans hw164_1), ((HB.out.cell (zQ w _ hw165_0)).trans hw165_0)⟩ (fun hHeld => ?_); refine with_tabW spec_BoundsOf.tab11 spec_BoundsOf.bits11 (fun HT_ HW_ => ?_)
                                  generalize w41.drew = w42 at HO_158000 HO_158001 BK147 BK157 HB HQ40 HR164_0 HR164_1 hx163_0 hx164_0 hx164_1 hx165_0 hHeld ⊢
                                  refine pure_ (i := 0) (N := some 58) (v := ?_) (a' := ?_) #[true, false, false, false, false, false, false, false, false, false, false, false, false, false, false, false, false, false, false] rfl rfl (any_of HT_.out (by kernel_rfl)) (fun _ _ _ h => h) (Or.inl ⟨by rfl, ?_⟩) ?_ ?_
                                  rotate_left
                                  · intro w'
                                    go_simp
                                    with_reducible rfl
                                  rotate_left
                                  · simp only [Act.put, zH, zI, zJ, i64_w, i32_w]
                                    rfl
                                  refine pure_ (i := 2) (N := some 60) (v := ?_) (a' := ?_) #[true, false, true, false, false, false, false, false, false, false, false, false, false, false, false, false, false, false, false] rfl rfl (any_of HT_.out (by kernel_rfl)) (fun _ _ _ h => h) (Or.inl ⟨by rfl, ?_⟩) ?_ ?_
                                  rotate_left
                                  · intro w'
                                    go_simp
                                    with_reducible rfl
                                  rotate_left
                                  · simp only [Act.put, zH, zI, zJ, i64_w, i32_w]
                                    rfl
                                  refine pure_ (i := 3) (N := some 61) (v := ?_) (a' := ?_) #[true, false, true, true, false, false, false, false, false, false, false, false, false, false, false, false, false, false, false] rfl rfl (any_of HT_.out (by kernel_rfl)) (fun _ _ _ h => h) (Or.inl ⟨by rfl, ?_⟩) ?_ ?_
                                  rotate_left
                                  · intro w'
                                    go_simp
                                    with_reducible rfl
                                  rotate_left
                                  · simp only [Act.put, zH, zI, zJ, i64_w, i32_w]
                                    rfl
                                  refine pure_ (i := 5) (N := some 63) (v := ?_) (a' := ?_) #[true, false, true, true, false, true, false, false, false, false, false, false, false, false, false, false, false, false, false] rfl rfl (any_of HT_.out (by kernel_rfl)) (fun _ _ _ h => h) (Or.inl ⟨by rfl, ?_⟩) ?_ ?_
                                  rotate_left
                                  · intro w'
                                    go_simp
                                    with_reducible rfl
                                  rotate_left
                                  · simp only [Act.put, zH, zI, zJ, i64_w, i32_w]
                                    rfl
                                  refine pure_ (i := 8) (N := some 66) (v := ?_) (a' := ?_) #[true, false, true, true, false, true, false, false, true, false, false, false, false, false, false, false, false, false, false] rfl rfl (any_of HT_.out (by kernel_rfl)) (fun _ _ _ h => h) (Or.inl ⟨by rfl, ?_⟩) ?_ ?_
                                  rotate_left
                                  · intro w'
                                    go_simp
                                    with_reducible rfl
                                  rotate_left
                                  · simp only [Act.put, zH, zI, zJ, i64_w, i32_w]
                                    rfl
                                  refine pure_ (i := 9) (N := some 67) (v := ?_) (a' := ?_) #[true, false, true, true, false, true, false, false, true, true, false, false, false, false, false, false, false, false, false] rfl rfl (any_of HT_.out (by kernel_rfl)) (fun _ _ _ h => h) (Or.inl ⟨by rfl, ?_⟩) ?_ ?_
                                  rotate_left
                                  · intro w'
                                    go_simp
                                    with_reducible rfl
                                  rotate_left
                                  · simp only [Act.put, zH, zI, zJ, i64_w, i32_w]
                                    rfl
                                  refine pure_ (i := 10) (N := some 68) (v := ?_) (a' := ?_) #[true, false, true, true, false, true, false, false, true, true, true, false, false, false, false, false, false, false, false] rfl rfl (any_of HT_.out (by kernel_rfl)) (fun _ _ _ h => h) (Or.inl ⟨by rfl, ?_⟩) ?_ ?_
                                  rotate_left
                                  · intro w'
                                    go_simp
                                    with_reducible rfl
                                  rotate_left
                                  · simp only [Act.put, zH, zI, zJ, i64_w, i32_w]
                                    rfl
                                  refine pure_ (i := 11) (N := some 69) (v := ?_) (a' := ?_) #[true, false, true, true, false, true, false, false, true, true, true, true, false, false, false, false, false, false, false] rfl rfl (any_of HT_.out (by kernel_rfl)) (fun _ _ _ h => h) (Or.inl ⟨by rfl, ?_⟩) ?_ ?_
                                  rotate_left
                                  · intro w'
                                    go_simp
                                    with_reducible rfl
                                  rotate_left
                                  · simp only [Act.put, zH, zI, zJ, i64_w, i32_w]
                                    rfl
                                  refine pure_ (i := 13) (N := some 71) (v := ?_) (a' := ?_) #[true, false, true, true, false, true, false, false, true, true, true, true, false, true, false, false, false, false, false] rfl rfl (any_of HT_.out (by kernel_rfl)) (fun _ _ _ h => h) (Or.inl ⟨by rfl, ?_⟩) ?_ ?_
                                  rotate_left
                                  · intro w'
                                    go_simp
                                    with_reducible rfl
                                  rotate_left
                                  · simp only [Act.put, zH, zI, zJ, i64_w, i32_w]
                                    rfl
                                  refine take_ (i := 1) (N := some 59) (v := ?_) (a' := ?_) #[true, true, true, true, false, true, false, false, true, true, true, true, false, true, false, false, false, false, false] rfl rfl (take_ofW HT_.out HW_.out (by kernel_rfl)) (fun _ _ _ h => h) (Or.inl ⟨by rfl, ?_⟩) hHeld ?_ ?_
                                  rotate_left
                                  · rintro w' ⟨s0, s1, s2, s3, s4, s5⟩
                                    go_simp
                                    with_reducible rfl
                                  rotate_left
                                  · simp only [Act.put, zH, zI, zJ, i64_w, i32_w]
                                    rfl
                                  refine take_ (i := 4) (N := some 62) (v := ?_) (a' := ?_) #[true, true, true, true, true, true, false, false, true, true, true, true, false, true, false, false, false, false, false] rfl rfl (take_ofW HT_.out HW_.out (by kernel_rfl)) (fun _ _ _ h => h) (Or.inl ⟨by rfl, ?_⟩) hHeld ?_ ?_
                                  rotate_left
                                  · rintro w' ⟨s0, s1, s2, s3, s4, s5⟩
                                    go_simp
                                    with_reducible rfl
                                  rotate_left
                                  · simp only [Act.put, zH, zI, zJ, i64_w, i32_w]
                                    rfl
                                  refine pure_ (i := 6) (N := some 64) (v := ?_) (a' := ?_) #[true, true, true, true, true, true, true, false, true, true, true, true, false, true, false, false, false, false, false] rfl rfl (any_of HT_.out (by kernel_rfl)) (fun _ _ _ h => h) (Or.inl ⟨by rfl, ?_⟩) ?_ ?_
                                  rotate_left
                                  · intro w'
                                    go_simp
                                    with_reducible rfl
                                  rotate_left
                                  · simp only [Act.put, zH, zI, zJ, i64_w, i32_w]
                                    rfl
                                  refine take_ (i := 7) (N := some 65) (v := ?_) (a' := ?_) #[true, true, true, true, true, true, true, true, true, true, true, true, false, true, false, false, false, false, false] rfl rfl (take_ofW HT_.out HW_.out (by kernel_rfl)) (fun _ _ _ h => h) (Or.inl ⟨by rfl, ?_⟩) hHeld ?_ ?_
                                  rotate_left
                                  · rintro w' ⟨s0, s1, s2, s3, s4, s5⟩
                                    go_simp
                                    with_reducible rfl
                                  rotate_left
                                  · simp only [Act.put, zH, zI, zJ, i64_w, i32_w]
                                    rfl
                                  refine take_ (i := 12) (N := some 70) (v := ?_) (a' := ?_) #[true, true, true, true, true, true, true, true, true, true, true, true, true, true, false, false, false, false, false] rfl rfl (take_ofW HT_.out HW_.out (by kernel_rfl)) (fun _ _ _ h => h) (Or.inl ⟨by rfl, ?_⟩) hHeld ?_ ?_
                                  rotate_left
                                  · rintro w' ⟨s0, s1, s2, s3, s4, s5⟩
                                    go_simp
                                    with_reducible rfl
                                  rotate_left
                                  · simp only [Act.put, zH, zI, zJ, i64_w, i32_w]
                                    rfl
                                  refine pure_ (i := 14) (N := some 72) (v := ?_) (a' := ?_) #[true, true, true, true, true, true, true, true, true, true, true, true, true, true, true, false, false, false, false] rfl rfl (any_of HT_.out (by kernel_rfl)) (fun _ _ _ h => h) (Or.inl ⟨by rfl, ?_⟩) ?_ ?_
                                  rotate_left
                                  · intro w'
                                    go_simp
                                    with_reducible rfl
                                  rotate_left
                                  · simp only [Act.put, zH, zI, zJ, i64_w, i32_w]
                                    rfl
                                  refine take_ (i := 15) (N := some 73) (v := ?_) (a' := ?_) #[true, true, true, true, true, true, true, true, true, true, true, true, true, true, true, true, false, false, false] rfl rfl (take_ofW HT_.out HW_.out (by kernel_rfl)) (fun _ _ _ h => h) (Or.inl ⟨by rfl, ?_⟩) hHeld ?_ ?_
                                  rotate_left
                                  · rintro w' ⟨s0, s1, s2, s3, s4, s5⟩
                                    go_simp
                                    with_reducible rfl
                                  rotate_left
                                  · simp only [Act.put, zH, zI, zJ, i64_w, i32_w]
                                    rfl
                                  refine one_ (i := 16) (N := some 74) #[true, true, true, true, true, true, true, true, true, true, true, true, true, true, true, true, true, false, false] rfl rfl (one_of HT_.out (by kernel_rfl)) (by decide) (fun K hK => ?_)
                                  refine goes_ Try.func73 (by kernel_rfl) rfl #[.int .i64 (rd x158001_3 x6_3), .int .i64 (rd ((rd_T42 l0 x5_2).f1) x6_3)] (by rfl) rfl rfl (by (try simp only [zK, zL, zM]); first | done | rfl | (simp only [zN, zO]; rfl)) ?_
                                  with_reducible refine (spec_l00Max.calls (rd x158001_3 x6_3) (rd ((rd_T42 l0 x5_2).f1) x6_3) t166 _ A34.out).mono ?_
                                  rintro e w' ⟨rfl, ⟨nd, rfl⟩⟩
                                  refine ⟨_, rfl, ?_⟩
                                  have p35 : 0 ≤ (x6_3 : Int) := zP (by assumption)
                                  have q35 : (x6_3 : Int) < ((x158001_3.length : Int) : Int) := zP (by assumption)
                                  obtain ⟨go35, co35, eo35, gb35, gl35, cl35, HG35⟩ := Kd.R_form HO_158001.out (by omega)
                                  (first | cases eo35 | (injection eo35 with ea_ en_ ec_; (first | subst ea_ | (injection ea_ with ea_; subst ea_)); subst ec_; clear en_))
                                  have GB35 := yD gb35
                                  have GG35 := yD HG35
                                  clear gb35 gl35 HG35
                                  (first | simp only [add_plain] at hx163_0 | skip)
                                  obtain ⟨hx35_0, hf35_0⟩ := Kd.R_celln 0 HO_158001.out (x6_3 : Int) p35 q35
                                  replace p35 := eq_true p35; replace q35 := eq_true q35
                                  have n0_ := yD (Kd.R_drewN HO_158000.out nd); have n1_ := yD (Kd.R_drewN HO_158001.out nd); have n2_ := yD (blk_drewN BK147.out nd); have n3_ := yD (blk_drewN BK157.out nd); have n4_ := yD (pw_below_drewN HB.out nd); clear HO_158000 HO_158001 BK147 BK157 HB; have HO_158000 := n0_; have HO_158001 := n1_; have BK147 := n2_; have BK157 := n3_; have HB := n4_; clear n0_ n1_ n2_ n3_ n4_
                                  have hHd_ : (w42.drewN nd).cell? _ = _ := hHeld.2.2.1; replace hx163_0 : (w42.drewN nd).cell? _ = _ := hx163_0; replace hx35_0 : (w42.drewN nd).cell? _ = _ := hx35_0; replace hf35_0 : (w42.drewN nd).frozen? _ = false := hf35_0
                                  generalize w42.drewN nd = w42 at HO_158000 HO_158001 BK147 BK157 HB hHd_ hx163_0 hx35_0 hf35_0 ⊢ -- hw_dr
                                  have HP44 := Kd.R_putn HO_158001.out (x6_3 : Int) t166
                                  rw [← Ny167.out] at HP44
                                  have HQ44 := yD HP44
                                  clear HP44
                                  refine hK.out _ _ ⟨(yG BK157.out 0).trans rfl, (yG BK157.out 1).trans rfl, hHd_, ((HB.out.cell (zQ w _ hw164_0)).trans hw164_0), ((HB.out.cell (zQ w _ hw164_1)).trans hw164_1), ((HB.out.cell (zQ w _ hw165_0)).trans hw165_0)⟩ (fun hHeld => ?_)
                                  clear hK K
                                  refine norm_ (a' := ?_) ?_ ?_
                                  rotate_left
                                  · show Act.put _ (some 74) _ = _
                                    simp only [Act.put, zH, zI, zJ, i64_w, i32_w]
                                    rfl
                                  refine pure_ (i := 17) (N := some 75) (v := ?_) (a' := ?_) #[true, true, true, true, true, true, true, true, true, true, true, true, true, true, true, true, true, true, false] rfl rfl (any_of HT_.out (by kernel_rfl)) (fun _ _ _ h => h) (Or.inl ⟨by rfl, ?_⟩) ?_ ?_
                                  rotate_left
                                  · intro w'
                                    go_simp
                                    with_reducible rfl
                                  rotate_left
                                  · simp only [Act.put, zH, zI, zJ, i64_w, i32_w]
                                    rfl
                                  refine last_ (i := 18) (N := none) #[true, true, true, true, true, true, true, true, true, true, true, true, true, true, true, true, true, true, true] rfl rfl (one_of HT_.out (by kernel_rfl)) (by decide) (fun K hK => ?_)
                                  refine skip_ (w1 := ?_) (by rfl) rfl ?_ ?_
                                  rotate_left
                                  · go_simp
                                    rfl
                                  refine hK.out _ _ ?_
                                  clear hK K
                                  refine done_ (done_of HT_.out (by kernel_rfl)) ?_
                                  try go_wp2
                                  go_roundg k3
                                  case measure => have := HJ1.out; have := HK2.out; have := HK3.out; omega
                                  case rel => exact ⟨(wrap64 (x6_3 + 1)), (y162), (y167), (.slice (some ⟨go31, 0, none⟩) x158000_3.length co38), (.slice (some ⟨go35, 0, none⟩) x158001_3.length co43), (by first | rfl | (simp; done) | (simp [*]; done)), H', ⟨by have := HJ1.out; have := HK2.out; have := HK3.out; omega⟩, ⟨by (with_reducible repeat (first | apply yA | apply yB | apply yC)); exact zF (yF (p := ⟨go35, (x6_3 : Int).toNat, none⟩) (zF HO_158000.out (fun k_ hk => (⟨hk, fun e_ => hk (by rw [e_]; rfl)⟩ : _ ∧ k_ ≠ go35))) (fun _ hk => hk.2) (.int .i64 t166)) (fun _ hk => hk.1)⟩, ⟨by (with_reducible repeat (first | apply yA | apply yB | apply yC)); exact HQ44.out⟩, ⟨by (with_reducible repeat (first | refine yM ?_ _ | refine yO ?_ | refine yN ?_ _)); refine blk_far ?_ (by have h_ := Kd.R_ne HO_158001.out BK147.out (by decide); intro e_; exact h_ (by rw [e_]; rfl)) _; (with_reducible repeat (first | refine yM ?_ _ | refine yO ?_ | refine yN ?_ _)); exact BK147.out⟩, ⟨by (with_reducible repeat (first | refine yM ?_ _ | refine yO ?_ | refine yN ?_ _)); refine blk_far ?_ (by have h_ := Kd.R_ne HO_158001.out BK157.out (by decide); intro e_; exact h_ (by rw [e_]; rfl)) _; (with_reducible repeat (first | refine yM ?_ _ | refine yO ?_ | refine yN ?_ _)); exact BK157.out⟩, ⟨by repeat (first | (with_reducible first | exact HB.out | apply yQ | apply yL | apply yP | refine yE ?_ GB35.out | refine yE ?_ GE147.out | refine yE ?_ GE157.out) | exact HB.out)⟩⟩
                                · rw [if_neg c33] at H
                                  exact absurd H (by simp)
                              · rw [if_neg c32] at H
                                exact absurd H (by simp)
                            · rw [if_neg c29] at H
                              exact absurd H (by simp)
                          · rw [if_neg c28] at H
                            exact absurd H (by simp)
                        · rw [if_neg c27] at H
                          exact absurd H (by simp)
                      · rw [if_neg c26] at H
                        exact absurd H (by simp)
                    · rw [if_neg c25] at H
                      have c25b0 : decide (x6_3 < (x158000_3.length : Int)) = false := zS c25; clear c25
                      have H' := yD H
                      clear H; have hnb45 := NB157_147.out; have hnc45 := NB147_157.out
                      have hcz46_0 : wr.cell? ⟨gb157, 0, none⟩ = some (u158000) := (yG BK157.out 0).trans rfl
                      have hcz46_1 : wr.cell? ⟨gb157, 1, none⟩ = some (u158001) := (yG BK157.out 1).trans rfl
                      have hfz46_0 := yR BK157.out 0
                      have hfz46_1 := yR BK157.out 1
                      obtain ⟨Ao47, co47, eo47⟩ := Kd.R_slice HO_158000.out
                      subst eo47
                      go_wp2
                      go_roundg k3
                      case measure => have := HJ1.out; have := HK2.out; have := HK3.out; omega
                      case rel => exact ⟨(wrap64 (x5_2 + 1)), (x158000_3), (x158001_3), (.slice Ao47 x158000_3.length co47), (u158001), (by first | rfl | (simp; done) | (simp [*]; done)), H', ⟨by have := HJ1.out; have := HK2.out; have := HK3.out; omega⟩, ⟨by (with_reducible repeat (first | apply yA | apply yB | apply yC)); exact HO_158000.out⟩, ⟨by (with_reducible repeat (first | apply yA | apply yB | apply yC)); exact HO_158001.out⟩, ⟨by (with_reducible repeat (first | refine yM ?_ _ | refine yO ?_ | refine yN ?_ _)); exact BK147.out⟩, ⟨by (with_reducible repeat (first | refine yM ?_ _ | refine yO ?_ | refine yN ?_ _)); exact BK157.out⟩, ⟨by repeat (first | (with_reducible first | exact HB.out | apply yQ | apply yL | apply yP | refine yE ?_ GE147.out | refine yE ?_ GE157.out) | exact HB.out)⟩⟩
              · rw [if_neg c24] at H
                have c24b0 : decide (x5_2 < (l0.length : Int)) = false := zS c24; clear c24
                simp only [Option.some.injEq, Prod.mk.injEq] at H
                obtain ⟨rfl, rfl, rfl⟩ := H
                have hnb48 := NB157_147.out; have hnc48 := NB147_157.out
                have hcz49_0 : wr.cell? ⟨gb157, 0, none⟩ = some (u158000) := (yG BK157.out 0).trans rfl
                have hcz49_1 : wr.cell? ⟨gb157, 1, none⟩ = some (u158001) := (yG BK157.out 1).trans rfl
                have hfz49_0 := yR BK157.out 0
                have hfz49_1 := yR BK157.out 1
                obtain ⟨Ao50, co50, eo50⟩ := Kd.R_slice HO_158000.out
                subst eo50
                have hcz51_0 : wr.cell? ⟨gb147, 0, none⟩ = some (.slice none 0 0) := (yG BK147.out 0).trans rfl
                have hcz51_1 : wr.cell? ⟨gb147, 1, none⟩ = some (.slice none 0 0) := (yG BK147.out 1).trans rfl
                have hfz51_0 := yR BK147.out 0
                have hfz51_1 := yR BK147.out 1
                obtain ⟨Ao52, co52, eo52⟩ := Kd.R_slice HO_158001.out
                subst eo52
                go_wp2
                refine bodyPost_ret (results_ct rfl _ _ gb147 42 #[.slice Ao50 x158000_2.length co50, .slice Ao52 x158001_2.length co52] (0, 0) _ rfl (by (with_reducible repeat (first | refine yM ?_ _ | refine yO ?_ | refine yN ?_ _)); refine blk_put (cs := #[.slice Ao50 x158000_2.length co50, .slice none 0 0]) ?_ 1 _ rfl; (with_reducible repeat (first | refine yM ?_ _ | refine yO ?_ | refine yN ?_ _)); refine blk_put (cs := #[.slice none 0 0, .slice none 0 0]) ?_ 0 _ rfl; (with_reducible repeat (first | refine yM ?_ _ | refine yO ?_ | refine yN ?_ _)); exact BK147.out) Try.underlying42 rfl (by kernel_rfl)) rfl ?_
                exact ⟨_, _, by first | rfl | (simp [errW_none, errW_some] <;> rfl) | (simp [*, errW_none, errW_some] <;> rfl), by (with_reducible repeat (first | apply yA | apply yB | apply yC)); exact zF (yF (p := ⟨gb147, 1, none⟩) (yF (p := ⟨gb147, 0, none⟩) (Kd.R_types HO_158000.out BK147.out (by decide)) (fun _ hk => hk.2) (.slice Ao50 x158000_2.length co50)) (fun _ hk => hk.2) (.slice Ao52 x158001_2.length co52)) (fun _ hk => hk.1), by (with_reducible repeat (first | apply yA | apply yB | apply yC)); exact zF (yF (p := ⟨gb147, 1, none⟩) (yF (p := ⟨gb147, 0, none⟩) (Kd.R_types HO_158001.out BK147.out (by decide)) (fun _ hk => hk.2) (.slice Ao50 x158000_2.length co50)) (fun _ hk => hk.2) (.slice Ao52 x158001_2.length co52)) (fun _ hk => hk.1), by repeat (first | (with_reducible first | exact HB.out | apply yQ | apply yL | apply yP | refine yE ?_ GE147.out | refine yE ?_ GE157.out) | exact HB.out)⟩
        · rw [if_neg c10] at H
          exact absurd H (by simp)

end Go.Proofs.Ytdiaebjbiddefaa.PFnExactBoundsOf
