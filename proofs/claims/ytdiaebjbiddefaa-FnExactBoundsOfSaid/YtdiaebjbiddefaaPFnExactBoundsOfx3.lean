/- Each Go function here comes to what the plain function of its name says, where that says something. Made by a program of this session, over the print. -/
import Derived.Test.YtdiaebjbiddefaaPFnExactBoundsOfx0
import Derived.Test.YtdiaebjbiddefaaPFnExactBoundsOfx2
namespace Go.Proofs.Ytdiaebjbiddefaa.PFnExactBoundsOf
open Go.RowKit Go.Proofs.YtdiaebjbiddefaaW.PrintWords Go.Proofs.YtdiaebjbiddefaaW.PrintLast Go.Proofs.YtdiaebjbiddefaaW.PrintMore
attribute [local go_sem] max2_int min2_int max_two min_two max_three min_three max_four min_four   -- for this text's walks alone
set_option linter.unusedVariables false
set_option linter.unusedSimpArgs false

/-! ### spec_l07List: function 70 -/
def spec_l07List.l0 : Nat → List (S42) → Int → Option (Bool)
  | 0, _, _ => none
  | k + 1, x0, x3 => if x3 < (x0.length : Int) then (if 0 ≤ x3 then ((spec_l07Box.f k ((rd_T42 x0 x3).f0) ((rd_T42 x0 x3).f1)).bind fun t138 => (if t138 = true then (if 0 < (x0.length : Int) then (if (((rd_T42 x0 x3).f0).length : Int) = (((rd_T42 x0 0).f0).length : Int) then (spec_l07List.l0 k x0 (wrap64 (x3 + 1))) else (some false)) else (none)) else (some false))) else (none)) else (some (decide ((x0.length : Int) ≤ 32)))
def spec_l07List.f (k : Nat) (l0 : List (S42)) : Option (Bool) := spec_l07List.l0 k l0 0
theorem spec_l07List.mono_l : ∀ k, (∀ y0 y1, LeO (spec_l07List.l0 k y0 y1) (spec_l07List.l0 (k + 1) y0 y1))
  | 0 => fun _ _ r h => by simp [spec_l07List.l0] at h
  | k + 1 => by
    have ih0 := spec_l07List.mono_l k
    · intro y0 y1
      unfold spec_l07List.l0
      repeat' first
      | (with_reducible exact ih0 _ _)
      | (with_reducible exact spec_l07Box.mono _ _ _)
      | (with_reducible exact LeO.refl _)
      | (with_reducible exact LeO.none _)
      | (with_reducible refine LeO.ite ?_ ?_)
      | (with_reducible refine LeO.bind ?_ (fun _ => ?_))
      | exact ih0 _ _
      | exact spec_l07Box.mono _ _ _
      | exact LeO.none _
      | refine LeO.ite ?_ ?_
      | refine LeO.bind ?_ (fun _ => ?_)
theorem spec_l07List.mono : ∀ a0 k, LeO (spec_l07List.f k a0) (spec_l07List.f (k + 1) a0) := by
  intro a0 k
  have ih0 := spec_l07List.mono_l k
  unfold spec_l07List.f
  repeat' first
      | (with_reducible exact ih0 _ _)
      | (with_reducible exact spec_l07Box.mono _ _ _)
      | (with_reducible exact LeO.refl _)
      | (with_reducible exact LeO.none _)
      | (with_reducible refine LeO.ite ?_ ?_)
      | (with_reducible refine LeO.bind ?_ (fun _ => ?_))
      | exact ih0 _ _
      | exact spec_l07Box.mono _ _ _
      | exact LeO.none _
      | refine LeO.ite ?_ ?_
      | refine LeO.bind ?_ (fun _ => ?_)
def spec_l07List.T4 : Bool × List (List Nat × List Nat) := (true, [([], []), ([], []), ([0, 1], [0, 1]), ([2], [2]), ([3], [3]), ([4], [4]), ([5, 4], [5]), ([6], [6]), ([6], [6]), ([7, 8, 6], [6, 7, 8]), ([9, 6], [6, 9]), ([10, 6], [6, 10]), ([11, 6], [6, 11]), ([6], [6]), ([13, 6], [6, 13]), ([14, 6], [6, 14]), ([15, 6], [6, 15]), ([16, 6], [6, 16]), ([12, 17, 6], [6, 12, 17]), ([6, 18], [6, 18])])
def spec_l07List.B4 : List Nat := [0, 0, 3, 7, 15, 31, 63, 127, 127, 511, 1023, 2047, 4095, 127, 8319, 24703, 57471, 123007, 262143, 524287]
theorem spec_l07List.tab4 : rtab .any (opsOf Try.f70 4) = spec_l07List.T4 := by kernel_rfl
theorem spec_l07List.bits4 : waitsOk spec_l07List.T4.2 spec_l07List.B4 = true := by kernel_rfl
set_option maxHeartbeats 8000000 in
set_option maxRecDepth 100000 in
theorem spec_l07List.calls (k : Nat) (A0 : Option Addr) (c0 : Nat) (l0 : List (S42)) (r : Bool) (w : World) (hr0 : Kd.C k42 w A0 l0.length l0) (hc0 : l0.length ≤ c0) (h : spec_l07List.f k l0 = some r) :
    Calls Try.prog 70 #[.slice A0 l0.length c0] w fun e w' => e = .returned (.bool r) ∧ Below w.heap.size w w' := by
  have hu42 := Try.underlying42
  have HR0 := yD hr0
  have HC0 := yD hc0
  clear hr0 hc0
  have HB := yD (Below.refl w.heap.size w)
  have H : (spec_l07List.l0 k l0 0) = some r := h
  clear h
  have H' := yD H
  clear H; go_enter Try.func70, Try.ntmps70
  go_wp2
  go_loopg [3] k (fun kq v3 w' => ∃ (x3_1 : Int), v3 = .int .i64 x3_1 ∧ Aside0 (spec_l07List.l0 kq l0 x3_1 = some r) ∧ Aside0 (kq ≤ k) ∧ Aside0 (Below w.heap.size w w'))
  case atStart => exact ⟨(0), (by first | rfl | (simp; done) | (simp [*]; done)), H', ⟨Nat.le_refl _⟩, ⟨by repeat (first | (with_reducible first | exact HB.out | apply yQ | apply yL | apply yP) | exact HB.out)⟩⟩
  case round =>
    clear H'
    obtain ⟨x3_1, rfl, HA, HK1, HB⟩ := hrel
    cases gk with
    | zero => exact absurd HA.out (by simp [spec_l07List.l0])
    | succ k1 =>
      have H := HA.out; clear HA
      simp only [spec_l07List.l0] at H
      by_cases c2 : x3_1 < (l0.length : Int)
      · rw [if_pos c2] at H
        have c2b0 : decide (x3_1 < (l0.length : Int)) = true := zR c2; clear c2
        by_cases c3 : 0 ≤ x3_1
        · rw [if_pos c3] at H
          have c3b0 : decide (0 ≤ x3_1) = true := zR c3; clear c3
          replace H := Option.bind_eq_some_iff.mp H
          obtain ⟨t138, A40, H⟩ := H
          replace H : (if t138 = true then (if 0 < (l0.length : Int) then (if (((rd_T42 l0 x3_1).f0).length : Int) = (((rd_T42 l0 0).f0).length : Int) then (spec_l07List.l0 k1 l0 (wrap64 (x3_1 + 1))) else (some false)) else (none)) else (some false)) = some r := H
          have A4 := yD A40
          clear A40
          by_cases c5 : t138 = true
          · subst c5
            have H1 : (if 0 < (l0.length : Int) then (if (((rd_T42 l0 x3_1).f0).length : Int) = (((rd_T42 l0 0).f0).length : Int) then (spec_l07List.l0 k1 l0 (wrap64 (x3_1 + 1))) else (some false)) else (none)) = some r := by rw [if_pos rfl] at H; exact H
            clear H; have H := H1; clear H1
            by_cases c6 : 0 < (l0.length : Int)
            · rw [if_pos c6] at H
              have c6b0 : decide (0 < (l0.length : Int)) = true := zR c6
              have c6b1 : decide (0 < l0.length) = true := zR (by omega)
              clear c6
              by_cases c7 : (((rd_T42 l0 x3_1).f0).length : Int) = (((rd_T42 l0 0).f0).length : Int)
              · rw [if_pos c7] at H
                have c7b0 : ((((rd_T42 l0 x3_1).f0).length : Int) == (((rd_T42 l0 0).f0).length : Int)) = true := beq_iff_eq.mpr c7
                have c7b1 : ((((rd_T42 l0 x3_1).f0).length : Int) != (((rd_T42 l0 0).f0).length : Int)) = false := bne_eq_false_iff_eq.mpr c7
                have c7b2 : (((rd_T42 l0 x3_1).f0).length == ((rd_T42 l0 0).f0).length) = true := by first | simpa using c7 | (simp at c7 ⊢; omega)
                clear c7
                have H' := yD H
                clear H
                try go_wp2
                have n0_ := yD (yP HB.out)
                clear HB; have HB := n0_; clear n0_
                have p137 : 0 ≤ (x3_1 : Int) := zP (by assumption)
                have q137 : x3_1 < (l0.length : Int) := zP (by assumption)
                obtain ⟨ad137, A137_0, c137_0, A137_1, c137_1, e137, hx137_0, hx137_1, hl137_0, hi137_0, hl137_1, hi137_1⟩ := at_T42 HR0.out x3_1 p137 q137
                have hw137_1 := hx137_1; have hw137_0 := hx137_0; cases e137
                replace hx137_0 := (HB.out.cell (zQ w _ hx137_0)).trans hx137_0
                replace hx137_1 := (HB.out.cell (zQ w _ hx137_1)).trans hx137_1
                have HR137_0 := yD hi137_0
                have HC137_0 := yD hl137_0
                clear hi137_0 hl137_0
                have HR137_1 := yD hi137_1
                have HC137_1 := yD hl137_1
                clear hi137_1 hl137_1; replace p137 := eq_true p137; replace q137 := eq_true q137
                have p139 : 0 ≤ (x3_1 : Int) := zP (by assumption)
                have q139 : x3_1 < (l0.length : Int) := zP (by assumption)
                obtain ⟨ad139, A139_0, c139_0, A139_1, c139_1, e139, hx139_0, hx139_1, hl139_0, hi139_0, hl139_1, hi139_1⟩ := at_T42 HR0.out x3_1 p139 q139
                have hw139_1 := hx139_1; have hw139_0 := hx139_0
                obtain rfl : ad137 = ad139 := (by injection e139)
                replace hx139_0 := (HB.out.cell (zQ w _ hx139_0)).trans hx139_0
                replace hx139_1 := (HB.out.cell (zQ w _ hx139_1)).trans hx139_1
                have HR139_0 := yD hi139_0
                have HC139_0 := yD hl139_0
                clear hi139_0 hl139_0
                have HR139_1 := yD hi139_1
                have HC139_1 := yD hl139_1
                clear hi139_1 hl139_1; replace p139 := eq_true p139; replace q139 := eq_true q139
                have p140 : 0 ≤ (0 : Int) := (by omega)
                have q140 : 0 < (l0.length : Int) := zP (by assumption)
                obtain ⟨ad140, A140_0, c140_0, A140_1, c140_1, e140, hx140_0, hx140_1, hl140_0, hi140_0, hl140_1, hi140_1⟩ := at_T42 HR0.out 0 p140 q140
                have hw140_1 := hx140_1
                (try rw [show ((0 : Int)).toNat = 0 from rfl] at hw140_1)
                (try rw [show 0 * 2 = 0 from rfl] at hw140_1)
                (try rw [Addr.add_zero'] at hw140_1)
                have hw140_0 := hx140_0
                (try rw [show ((0 : Int)).toNat = 0 from rfl] at hw140_0)
                (try rw [show 0 * 2 = 0 from rfl] at hw140_0)
                (try rw [Addr.add_zero'] at hw140_0)
                obtain rfl : ad137 = ad140 := (by injection e140)
                have qi140 : (0 < l0.length) = True := eq_true (by omega)
                (try rw [show ((0 : Int)).toNat = 0 from rfl] at hx140_0)
                (try rw [show 0 * 2 = 0 from rfl] at hx140_0)
                (try rw [Addr.add_zero'] at hx140_0)
                (try rw [show ((0 : Int)).toNat = 0 from rfl] at hx140_1)
                (try rw [show 0 * 2 = 0 from rfl] at hx140_1)
                (try rw [Addr.add_zero'] at hx140_1)
                replace hx140_0 := (HB.out.cell (zQ w _ hx140_0)).trans hx140_0
                replace hx140_1 := (HB.out.cell (zQ w _ hx140_1)).trans hx140_1
                have HR140_0 := yD hi140_0
                have HC140_0 := yD hl140_0
                clear hi140_0 hl140_0
                have HR140_1 := yD hi140_1
                have HC140_1 := yD hl140_1
                clear hi140_1 hl140_1; replace p140 := eq_true p140; replace q140 := eq_true q140
                refine start_ (n := 20) (S := fun w' => w'.cell? (ad137.add ((x3_1).toNat * 2)) = some (.slice A137_0 ((rd_T42 l0 x3_1).f0).length c137_0) ∧ w'.cell? ⟨(ad137.add ((x3_1).toNat * 2)).block, (ad137.add ((x3_1).toNat * 2)).off + 1, none⟩ = some (.slice A137_1 ((rd_T42 l0 x3_1).f1).length c137_1) ∧ w'.cell? (ad137.add ((x3_1).toNat * 2)) = some (.slice A139_0 ((rd_T42 l0 x3_1).f0).length c139_0) ∧ w'.cell? ⟨(ad137.add ((x3_1).toNat * 2)).block, (ad137.add ((x3_1).toNat * 2)).off + 1, none⟩ = some (.slice A139_1 ((rd_T42 l0 x3_1).f1).length c139_1) ∧ w'.cell? ad137 = some (.slice A140_0 ((rd_T42 l0 0).f0).length c140_0) ∧ w'.cell? ⟨ad137.block, ad137.off + 1, none⟩ = some (.slice A140_1 ((rd_T42 l0 0).f1).length c140_1)) (ds := []) #[false, false, false, false, false, false, false, false, false, false, false, false, false, false, false, false, false, false, false, false] (by kernel_rfl) rfl rfl ⟨((HB.out.cell (zQ w _ hw137_0)).trans hw137_0), ((HB.out.cell (zQ w _ hw137_1)).trans hw137_1), ((HB.out.cell (zQ w _ hw139_0)).trans hw139_0), ((HB.out.cell (zQ w _ hw139_1)).trans hw139_1), ((HB.out.cell (zQ w _ hw140_0)).trans hw140_0), ((HB.out.cell (zQ w _ hw140_1)).trans hw140_1)⟩ (fun hHeld => ?_); refine with_tabW spec_l07List.tab4 spec_l07List.bits4 (fun HT_ HW_ => ?_)
                generalize wr.drew = w8 at HB HR137_0 HR137_1 HR139_0 HR139_1 HR140_0 HR140_1 hx137_0 hx137_1 hx139_0 hx139_1 hx140_0 hx140_1 hHeld ⊢
                refine pure_ (i := 0) (N := some 10) (v := ?_) (a' := ?_) #[true, false, false, false, false, false, false, false, false, false, false, false, false, false, false, false, false, false, false, false] rfl rfl (any_of HT_.out (by kernel_rfl)) (fun _ _ _ h => h) (Or.inl ⟨by rfl, ?_⟩) ?_ ?_
                rotate_left
                · intro w'
                  go_simp
                  with_reducible rfl
                rotate_left
                · simp only [Act.put, zH, zI, zJ, i64_w, i32_w]
                  rfl
                refine pure_ (i := 1) (N := some 11) (v := ?_) (a' := ?_) #[true, true, false, false, false, false, false, false, false, false, false, false, false, false, false, false, false, false, false, false] rfl rfl (any_of HT_.out (by kernel_rfl)) (fun _ _ _ h => h) (Or.inl ⟨by rfl, ?_⟩) ?_ ?_
                rotate_left
                · intro w'
                  go_simp
                  with_reducible rfl
                rotate_left
                · simp only [Act.put, zH, zI, zJ, i64_w, i32_w]
                  rfl
                refine pure_ (i := 2) (N := some 12) (v := ?_) (a' := ?_) #[true, true, true, false, false, false, false, false, false, false, false, false, false, false, false, false, false, false, false, false] rfl rfl (any_of HT_.out (by kernel_rfl)) (fun _ _ _ h => h) (Or.inl ⟨by rfl, ?_⟩) ?_ ?_
                rotate_left
                · intro w'
                  go_simp
                  with_reducible rfl
                rotate_left
                · simp only [Act.put, zH, zI, zJ, i64_w, i32_w]
                  rfl
                refine take_ (i := 3) (N := some 13) (v := ?_) (a' := ?_) #[true, true, true, true, false, false, false, false, false, false, false, false, false, false, false, false, false, false, false, false] rfl rfl (take_ofW HT_.out HW_.out (by kernel_rfl)) (fun _ _ _ h => h) (Or.inl ⟨by rfl, ?_⟩) hHeld ?_ ?_
                rotate_left
                · rintro w' ⟨s0, s1, s2, s3, s4, s5⟩
                  go_simp
                  with_reducible rfl
                rotate_left
                · simp only [Act.put, zH, zI, zJ, i64_w, i32_w]
                  rfl
                refine one_ (i := 4) (N := some 14) #[true, true, true, true, true, false, false, false, false, false, false, false, false, false, false, false, false, false, false, false] rfl rfl (one_of HT_.out (by kernel_rfl)) (by decide) (fun K hK => ?_)
                refine goes_ Try.func108 (by kernel_rfl) rfl #[.agg #[.slice A137_0 ((rd_T42 l0 x3_1).f0).length c137_0, .slice A137_1 ((rd_T42 l0 x3_1).f1).length c137_1]] (by rfl) rfl rfl (by (try simp only [zK, zL, zM]); first | done | rfl | (simp only [zN, zO]; rfl)) ?_
                with_reducible refine (spec_l07Box.calls k1 _ _ ((rd_T42 l0 x3_1).f0) _ _ ((rd_T42 l0 x3_1).f1) true _ ?side1 ?side2 ?side3 ?side4 A4.out).mono ?_
                (case side1 => repeat (first | exact (yY HR137_0.out HB.out) | (with_reducible first | refine yV ?_ _ | refine yW ?_ _ | refine yX ?_)))
                (case side2 => exact HC137_0.out)
                (case side3 => repeat (first | exact (yY HR137_1.out HB.out) | (with_reducible first | refine yV ?_ _ | refine yW ?_ _ | refine yX ?_)))
                (case side4 => exact HC137_1.out)
                rintro e w9 ⟨rfl, hb⟩
                refine ⟨_, rfl, ?_⟩
                have n0_ := yD (zC (by repeat (first | (with_reducible first | exact HB.out | apply yQ | apply yL | apply yP) | exact HB.out)) hb)
                clear HB; have HB := n0_; clear n0_; (try clear hb); (try clear hb2); (try clear hk); (try clear hi)
                refine hK.out _ _ ⟨((HB.out.cell (zQ w _ hw137_0)).trans hw137_0), ((HB.out.cell (zQ w _ hw137_1)).trans hw137_1), ((HB.out.cell (zQ w _ hw139_0)).trans hw139_0), ((HB.out.cell (zQ w _ hw139_1)).trans hw139_1), ((HB.out.cell (zQ w _ hw140_0)).trans hw140_0), ((HB.out.cell (zQ w _ hw140_1)).trans hw140_1)⟩ (fun hHeld => ?_)
                clear hK K
                refine norm_ (a' := ?_) ?_ ?_
                rotate_left
                · show Act.put _ (some 14) _ = _
                  simp only [Act.put, zH, zI, zJ, i64_w, i32_w]
                  rfl
                refine pure_ (i := 5) (N := some 15) (v := ?_) (a' := ?_) #[true, true, true, true, true, true, false, false, false, false, false, false, false, false, false, false, false, false, false, false] rfl rfl (any_of HT_.out (by kernel_rfl)) (fun _ _ _ h => h) (Or.inl ⟨by rfl, ?_⟩) ?_ ?_
                rotate_left
                · intro w'
                  go_simp
                  with_reducible rfl
                rotate_left
                · simp only [Act.put, zH, zI, zJ, i64_w, i32_w]
                  rfl
                refine pure_ (i := 6) (N := some 16) (v := ?_) (a' := ?_) #[true, true, true, true, true, true, true, false, false, false, false, false, false, false, false, false, false, false, false, false] rfl rfl (any_of HT_.out (by kernel_rfl)) (fun _ _ _ h => h) (Or.inl ⟨by rfl, ?_⟩) ?_ ?_
                rotate_left
                · intro w'
                  go_simp
                  with_reducible rfl
                rotate_left
                · simp only [Act.put, zH, zI, zJ, i64_w, i32_w]
                  rfl
                refine pure_ (i := 7) (N := some 17) (v := ?_) (a' := ?_) #[true, true, true, true, true, true, true, true, false, false, false, false, false, false, false, false, false, false, false, false] rfl rfl (any_of HT_.out (by kernel_rfl)) (fun _ _ _ h => h) (Or.inl ⟨by rfl, ?_⟩) ?_ ?_
                rotate_left
                · intro w'
                  go_simp
                  with_reducible rfl
                rotate_left
                · simp only [Act.put, zH, zI, zJ, i64_w, i32_w]
                  rfl
                refine pure_ (i := 8) (N := some 18) (v := ?_) (a' := ?_) #[true, true, true, true, true, true, true, true, true, false, false, false, false, false, false, false, false, false, false, false] rfl rfl (any_of HT_.out (by kernel_rfl)) (fun _ _ _ h => h) (Or.inl ⟨by rfl, ?_⟩) ?_ ?_
                rotate_left
                · intro w'
                  go_simp
                  with_reducible rfl
                rotate_left
                · simp only [Act.put, zH, zI, zJ, i64_w, i32_w]
                  rfl
                refine pure_ (i := 9) (N := some 19) (v := ?_) (a' := ?_) #[true, true, true, true, true, true, true, true, true, true, false, false, false, false, false, false, false, false, false, false] rfl rfl (any_of HT_.out (by kernel_rfl)) (fun _ _ _ h => h) (Or.inl ⟨by rfl, ?_⟩) ?_ ?_
                rotate_left
                · intro w'
                  go_simp
                  with_reducible rfl
                rotate_left
                · simp only [Act.put, zH, zI, zJ, i64_w, i32_w]
                  rfl
                refine pure_ (i := 10) (N := some 20) (v := ?_) (a' := ?_) #[true, true, true, true, true, true, true, true, true, true, true, false, false, false, false, false, false, false, false, false] rfl rfl (any_of HT_.out (by kernel_rfl)) (fun _ _ _ h => h) (Or.inl ⟨by rfl, ?_⟩) ?_ ?_
                rotate_left
                · intro w'
                  go_simp
                  with_reducible rfl
                rotate_left
                · simp only [Act.put, zH, zI, zJ, i64_w, i32_w]
                  rfl
                refine pure_ (i := 13) (N := some 23) (v := ?_) (a' := ?_) #[true, true, true, true, true, true, true, true, true, true, true, false, false, true, false, false, false, false, false, false] rfl rfl (any_of HT_.out (by kernel_rfl)) (fun _ _ _ h => h) (Or.inl ⟨by rfl, ?_⟩) ?_ ?_
                rotate_left
                · intro w'
                  go_simp
                  with_reducible rfl
                rotate_left
                · simp only [Act.put, zH, zI, zJ, i64_w, i32_w]
                  rfl
                refine pure_ (i := 14) (N := some 24) (v := ?_) (a' := ?_) #[true, true, true, true, true, true, true, true, true, true, true, false, false, true, true, false, false, false, false, false] rfl rfl (any_of HT_.out (by kernel_rfl)) (fun _ _ _ h => h) (Or.inl ⟨by rfl, ?_⟩) ?_ ?_
                rotate_left
                · intro w'
                  go_simp
                  with_reducible rfl
                rotate_left
                · simp only [Act.put, zH, zI, zJ, i64_w, i32_w]
                  rfl
                refine pure_ (i := 15) (N := some 25) (v := ?_) (a' := ?_) #[true, true, true, true, true, true, true, true, true, true, true, false, false, true, true, true, false, false, false, false] rfl rfl (any_of HT_.out (by kernel_rfl)) (fun _ _ _ h => h) (Or.inl ⟨by rfl, ?_⟩) ?_ ?_
                rotate_left
                · intro w'
                  go_simp
                  with_reducible rfl
                rotate_left
                · simp only [Act.put, zH, zI, zJ, i64_w, i32_w]
                  rfl
                refine take_ (i := 11) (N := some 21) (v := ?_) (a' := ?_) #[true, true, true, true, true, true, true, true, true, true, true, true, false, true, true, true, false, false, false, false] rfl rfl (take_ofW HT_.out HW_.out (by kernel_rfl)) (fun _ _ _ h => h) (Or.inl ⟨by rfl, ?_⟩) hHeld ?_ ?_
                rotate_left
                · rintro w' ⟨s0, s1, s2, s3, s4, s5⟩
                  go_simp
                  with_reducible rfl
                rotate_left
                · simp only [Act.put, zH, zI, zJ, i64_w, i32_w]
                  rfl
                refine pure_ (i := 12) (N := some 22) (v := ?_) (a' := ?_) #[true, true, true, true, true, true, true, true, true, true, true, true, true, true, true, true, false, false, false, false] rfl rfl (any_of HT_.out (by kernel_rfl)) (fun _ _ _ h => h) (Or.inl ⟨by rfl, ?_⟩) ?_ ?_
                rotate_left
                · intro w'
                  go_simp
                  with_reducible rfl
                rotate_left
                · simp only [Act.put, zH, zI, zJ, i64_w, i32_w]
                  rfl
                refine take_ (i := 16) (N := some 26) (v := ?_) (a' := ?_) #[true, true, true, true, true, true, true, true, true, true, true, true, true, true, true, true, true, false, false, false] rfl rfl (take_ofW HT_.out HW_.out (by kernel_rfl)) (fun _ _ _ h => h) (Or.inl ⟨by rfl, ?_⟩) hHeld ?_ ?_
                rotate_left
                · rintro w' ⟨s0, s1, s2, s3, s4, s5⟩
                  go_simp
                  with_reducible rfl
                rotate_left
                · simp only [Act.put, zH, zI, zJ, i64_w, i32_w]
                  rfl
                refine pure_ (i := 17) (N := some 27) (v := ?_) (a' := ?_) #[true, true, true, true, true, true, true, true, true, true, true, true, true, true, true, true, true, true, false, false] rfl rfl (any_of HT_.out (by kernel_rfl)) (fun _ _ _ h => h) (Or.inl ⟨by rfl, ?_⟩) ?_ ?_
                rotate_left
                · intro w'
                  go_simp
                  with_reducible rfl
                rotate_left
                · simp only [Act.put, zH, zI, zJ, i64_w, i32_w]
                  rfl
                refine pure_ (i := 18) (N := some 28) (v := ?_) (a' := ?_) #[true, true, true, true, true, true, true, true, true, true, true, true, true, true, true, true, true, true, true, false] rfl rfl (any_of HT_.out (by kernel_rfl)) (fun _ _ _ h => h) (Or.inl ⟨by rfl, ?_⟩) ?_ ?_
                rotate_left
                · intro w'
                  go_simp
                  with_reducible rfl
                rotate_left
                · simp only [Act.put, zH, zI, zJ, i64_w, i32_w]
                  rfl
                refine pure_ (i := 19) (N := some 29) (v := ?_) (a' := ?_) #[true, true, true, true, true, true, true, true, true, true, true, true, true, true, true, true, true, true, true, true] rfl rfl (any_of HT_.out (by kernel_rfl)) (fun _ _ _ h => h) (Or.inl ⟨by rfl, ?_⟩) ?_ ?_
                rotate_left
                · intro w'
                  go_simp
                  with_reducible rfl
                rotate_left
                · simp only [Act.put, zH, zI, zJ, i64_w, i32_w]
                  rfl
                refine done_ (done_of HT_.out (by kernel_rfl)) ?_
                try go_wp2
                go_roundg k1
                case measure => have := HK1.out; omega
                case rel => exact ⟨(wrap64 (x3_1 + 1)), (by first | rfl | (simp; done) | (simp [*]; done)), H', ⟨by have := HK1.out; omega⟩, ⟨by repeat (first | (with_reducible first | exact HB.out | apply yQ | apply yL | apply yP) | exact HB.out)⟩⟩
              · rw [if_neg c7] at H
                have c7b0 : ((((rd_T42 l0 x3_1).f0).length : Int) == (((rd_T42 l0 0).f0).length : Int)) = false := beq_eq_false_iff_ne.mpr c7
                have c7b1 : ((((rd_T42 l0 x3_1).f0).length : Int) != (((rd_T42 l0 0).f0).length : Int)) = true := bne_iff_ne.mpr c7
                have c7b2 : (((rd_T42 l0 x3_1).f0).length == ((rd_T42 l0 0).f0).length) = false := by first | simpa using c7 | (simp at c7 ⊢; omega)
                obtain rfl := Option.some.inj H
                try go_wp2
                have n0_ := yD (yP HB.out)
                clear HB; have HB := n0_; clear n0_
                have p137 : 0 ≤ (x3_1 : Int) := zP (by assumption)
                have q137 : x3_1 < (l0.length : Int) := zP (by assumption)
                obtain ⟨ad137, A137_0, c137_0, A137_1, c137_1, e137, hx137_0, hx137_1, hl137_0, hi137_0, hl137_1, hi137_1⟩ := at_T42 HR0.out x3_1 p137 q137
                have hw137_1 := hx137_1; have hw137_0 := hx137_0; cases e137
                replace hx137_0 := (HB.out.cell (zQ w _ hx137_0)).trans hx137_0
                replace hx137_1 := (HB.out.cell (zQ w _ hx137_1)).trans hx137_1
                have HR137_0 := yD hi137_0
                have HC137_0 := yD hl137_0
                clear hi137_0 hl137_0
                have HR137_1 := yD hi137_1
                have HC137_1 := yD hl137_1
                clear hi137_1 hl137_1; replace p137 := eq_true p137; replace q137 := eq_true q137
                have p139 : 0 ≤ (x3_1 : Int) := zP (by assumption)
                have q139 : x3_1 < (l0.length : Int) := zP (by assumption)
                obtain ⟨ad139, A139_0, c139_0, A139_1, c139_1, e139, hx139_0, hx139_1, hl139_0, hi139_0, hl139_1, hi139_1⟩ := at_T42 HR0.out x3_1 p139 q139
                have hw139_1 := hx139_1; have hw139_0 := hx139_0
                obtain rfl : ad137 = ad139 := (by injection e139)
                replace hx139_0 := (HB.out.cell (zQ w _ hx139_0)).trans hx139_0
                replace hx139_1 := (HB.out.cell (zQ w _ hx139_1)).trans hx139_1
                have HR139_0 := yD hi139_0
                have HC139_0 := yD hl139_0
                clear hi139_0 hl139_0
                have HR139_1 := yD hi139_1
                have HC139_1 := yD hl139_1
                clear hi139_1 hl139_1; replace p139 := eq_true p139; replace q139 := eq_true q139
                have p140 : 0 ≤ (0 : Int) := (by omega)
                have q140 : 0 < (l0.length : Int) := zP (by assumption)
                obtain ⟨ad140, A140_0, c140_0, A140_1, c140_1, e140, hx140_0, hx140_1, hl140_0, hi140_0, hl140_1, hi140_1⟩ := at_T42 HR0.out 0 p140 q140
                have hw140_1 := hx140_1
                (try rw [show ((0 : Int)).toNat = 0 from rfl] at hw140_1)
                (try rw [show 0 * 2 = 0 from rfl] at hw140_1)
                (try rw [Addr.add_zero'] at hw140_1)
                have hw140_0 := hx140_0
                (try rw [show ((0 : Int)).toNat = 0 from rfl] at hw140_0)
                (try rw [show 0 * 2 = 0 from rfl] at hw140_0)
                (try rw [Addr.add_zero'] at hw140_0)
                obtain rfl : ad137 = ad140 := (by injection e140)
                have qi140 : (0 < l0.length) = True := eq_true (by omega)
                (try rw [show ((0 : Int)).toNat = 0 from rfl] at hx140_0)
                (try rw [show 0 * 2 = 0 from rfl] at hx140_0)
                (try rw [Addr.add_zero'] at hx140_0)
                (try rw [show ((0 : Int)).toNat = 0 from rfl] at hx140_1)
                (try rw [show 0 * 2 = 0 from rfl] at hx140_1)
                (try rw [Addr.add_zero'] at hx140_1)
                replace hx140_0 := (HB.out.cell (zQ w _ hx140_0)).trans hx140_0
                replace hx140_1 := (HB.out.cell (zQ w _ hx140_1)).trans hx140_1
                have HR140_0 := yD hi140_0
                have HC140_0 := yD hl140_0
                clear hi140_0 hl140_0
                have HR140_1 := yD hi140_1
                have HC140_1 := yD hl140_1
                clear hi140_1 hl140_1; replace p140 := eq_true p140; replace q140 := eq_true q140
                refine start_ (n := 20) (S := fun w' => w'.cell? (ad137.add ((x3_1).toNat * 2)) = some (.slice A137_0 ((rd_T42 l0 x3_1).f0).length c137_0) ∧ w'.cell? ⟨(ad137.add ((x3_1).toNat * 2)).block, (ad137.add ((x3_1).toNat * 2)).off + 1, none⟩ = some (.slice A137_1 ((rd_T42 l0 x3_1).f1).length c137_1) ∧ w'.cell? (ad137.add ((x3_1).toNat * 2)) = some (.slice A139_0 ((rd_T42 l0 x3_1).f0).length c139_0) ∧ w'.cell? ⟨(ad137.add ((x3_1).toNat * 2)).block, (ad137.add ((x3_1).toNat * 2)).off + 1, none⟩ = some (.slice A139_1 ((rd_T42 l0 x3_1).f1).length c139_1) ∧ w'.cell? ad137 = some (.slice A140_0 ((rd_T42 l0 0).f0).length c140_0) ∧ w'.cell? ⟨ad137.block, ad137.off + 1, none⟩ = some (.slice A140_1 ((rd_T42 l0 0).f1).length c140_1)) (ds := []) #[false, false, false, false, false, false, false, false, false, false, false, false, false, false, false, false, false, false, false, false] (by kernel_rfl) rfl rfl ⟨((HB.out.cell (zQ w _ hw137_0)).trans hw137_0), ((HB.out.cell (zQ w _ hw137_1)).trans hw137_1), ((HB.out.cell (zQ w _ hw139_0)).trans hw139_0), ((HB.out.cell (zQ w _ hw139_1)).trans hw139_1), ((HB.out.cell (zQ w _ hw140_0)).trans hw140_0), ((HB.out.cell (zQ w _ hw140_1)).trans hw140_1)⟩ (fun hHeld => ?_); refine with_tabW spec_l07List.tab4 spec_l07List.bits4 (fun HT_ HW_ => ?_)
                generalize wr.drew = w10 at HB HR137_0 HR137_1 HR139_0 HR139_1 HR140_0 HR140_1 hx137_0 hx137_1 hx139_0 hx139_1 hx140_0 hx140_1 hHeld ⊢
                refine pure_ (i := 0) (N := some 10) (v := ?_) (a' := ?_) #[true, false, false, false, false, false, false, false, false, false, false, false, false, false, false, false, false, false, false, false] rfl rfl (any_of HT_.out (by kernel_rfl)) (fun _ _ _ h => h) (Or.inl ⟨by rfl, ?_⟩) ?_ ?_
                rotate_left
                · intro w'
                  go_simp
                  with_reducible rfl
                rotate_left
                · simp only [Act.put, zH, zI, zJ, i64_w, i32_w]
                  rfl
                refine pure_ (i := 1) (N := some 11) (v := ?_) (a' := ?_) #[true, true, false, false, false, false, false, false, false, false, false, false, false, false, false, false, false, false, false, false] rfl rfl (any_of HT_.out (by kernel_rfl)) (fun _ _ _ h => h) (Or.inl ⟨by rfl, ?_⟩) ?_ ?_
                rotate_left
                · intro w'
                  go_simp
                  with_reducible rfl
                rotate_left
                · simp only [Act.put, zH, zI, zJ, i64_w, i32_w]
                  rfl
                refine pure_ (i := 2) (N := some 12) (v := ?_) (a' := ?_) #[true, true, true, false, false, false, false, false, false, false, false, false, false, false, false, false, false, false, false, false] rfl rfl (any_of HT_.out (by kernel_rfl)) (fun _ _ _ h => h) (Or.inl ⟨by rfl, ?_⟩) ?_ ?_
                rotate_left
                · intro w'
                  go_simp
                  with_reducible rfl
                rotate_left
                · simp only [Act.put, zH, zI, zJ, i64_w, i32_w]
                  rfl
                refine take_ (i := 3) (N := some 13) (v := ?_) (a' := ?_) #[true, true, true, true, false, false, false, false, false, false, false, false, false, false, false, false, false, false, false, false] rfl rfl (take_ofW HT_.out HW_.out (by kernel_rfl)) (fun _ _ _ h => h) (Or.inl ⟨by rfl, ?_⟩) hHeld ?_ ?_
                rotate_left
                · rintro w' ⟨s0, s1, s2, s3, s4, s5⟩
                  go_simp
                  with_reducible rfl
                rotate_left
                · simp only [Act.put, zH, zI, zJ, i64_w, i32_w]
                  rfl
                refine one_ (i := 4) (N := some 14) #[true, true, true, true, true, false, false, false, false, false, false, false, false, false, false, false, false, false, false, false] rfl rfl (one_of HT_.out (by kernel_rfl)) (by decide) (fun K hK => ?_)
                refine goes_ Try.func108 (by kernel_rfl) rfl #[.agg #[.slice A137_0 ((rd_T42 l0 x3_1).f0).length c137_0, .slice A137_1 ((rd_T42 l0 x3_1).f1).length c137_1]] (by rfl) rfl rfl (by (try simp only [zK, zL, zM]); first | done | rfl | (simp only [zN, zO]; rfl)) ?_
                with_reducible refine (spec_l07Box.calls k1 _ _ ((rd_T42 l0 x3_1).f0) _ _ ((rd_T42 l0 x3_1).f1) true _ ?side1 ?side2 ?side3 ?side4 A4.out).mono ?_
                (case side1 => repeat (first | exact (yY HR137_0.out HB.out) | (with_reducible first | refine yV ?_ _ | refine yW ?_ _ | refine yX ?_)))
                (case side2 => exact HC137_0.out)
                (case side3 => repeat (first | exact (yY HR137_1.out HB.out) | (with_reducible first | refine yV ?_ _ | refine yW ?_ _ | refine yX ?_)))
                (case side4 => exact HC137_1.out)
                rintro e w11 ⟨rfl, hb⟩
                refine ⟨_, rfl, ?_⟩
                have n0_ := yD (zC (by repeat (first | (with_reducible first | exact HB.out | apply yQ | apply yL | apply yP) | exact HB.out)) hb)
                clear HB; have HB := n0_; clear n0_; (try clear hb); (try clear hb2); (try clear hk); (try clear hi)
                refine hK.out _ _ ⟨((HB.out.cell (zQ w _ hw137_0)).trans hw137_0), ((HB.out.cell (zQ w _ hw137_1)).trans hw137_1), ((HB.out.cell (zQ w _ hw139_0)).trans hw139_0), ((HB.out.cell (zQ w _ hw139_1)).trans hw139_1), ((HB.out.cell (zQ w _ hw140_0)).trans hw140_0), ((HB.out.cell (zQ w _ hw140_1)).trans hw140_1)⟩ (fun hHeld => ?_)
                clear hK K
                refine norm_ (a' := ?_) ?_ ?_
                rotate_left
                · show Act.put _ (some 14) _ = _
                  simp only [Act.put, zH, zI, zJ, i64_w, i32_w]
                  rfl
                refine pure_ (i := 5) (N := some 15) (v := ?_) (a' := ?_) #[true, true, true, true, true, true, false, false, false, false, false, false, false, false, false, false, false, false, false, false] rfl rfl (any_of HT_.out (by kernel_rfl)) (fun _ _ _ h => h) (Or.inl ⟨by rfl, ?_⟩) ?_ ?_
                rotate_left
                · intro w'
                  go_simp
                  with_reducible rfl
                rotate_left
                · simp only [Act.put, zH, zI, zJ, i64_w, i32_w]
                  rfl
                refine pure_ (i := 6) (N := some 16) (v := ?_) (a' := ?_) #[true, true, true, true, true, true, true, false, false, false, false, false, false, false, false, false, false, false, false, false] rfl rfl (any_of HT_.out (by kernel_rfl)) (fun _ _ _ h => h) (Or.inl ⟨by rfl, ?_⟩) ?_ ?_
                rotate_left
                · intro w'
                  go_simp
                  with_reducible rfl
                rotate_left
                · simp only [Act.put, zH, zI, zJ, i64_w, i32_w]
                  rfl
                refine pure_ (i := 7) (N := some 17) (v := ?_) (a' := ?_) #[true, true, true, true, true, true, true, true, false, false, false, false, false, false, false, false, false, false, false, false] rfl rfl (any_of HT_.out (by kernel_rfl)) (fun _ _ _ h => h) (Or.inl ⟨by rfl, ?_⟩) ?_ ?_
                rotate_left
                · intro w'
                  go_simp
                  with_reducible rfl
                rotate_left
                · simp only [Act.put, zH, zI, zJ, i64_w, i32_w]
                  rfl
                refine pure_ (i := 8) (N := some 18) (v := ?_) (a' := ?_) #[true, true, true, true, true, true, true, true, true, false, false, false, false, false, false, false, false, false, false, false] rfl rfl (any_of HT_.out (by kernel_rfl)) (fun _ _ _ h => h) (Or.inl ⟨by rfl, ?_⟩) ?_ ?_
                rotate_left
                · intro w'
                  go_simp
                  with_reducible rfl
                rotate_left
                · simp only [Act.put, zH, zI, zJ, i64_w, i32_w]
                  rfl
                refine pure_ (i := 9) (N := some 19) (v := ?_) (a' := ?_) #[true, true, true, true, true, true, true, true, true, true, false, false, false, false, false, false, false, false, false, false] rfl rfl (any_of HT_.out (by kernel_rfl)) (fun _ _ _ h => h) (Or.inl ⟨by rfl, ?_⟩) ?_ ?_
                rotate_left
                · intro w'
                  go_simp
                  with_reducible rfl
                rotate_left
                · simp only [Act.put, zH, zI, zJ, i64_w, i32_w]
                  rfl
                refine pure_ (i := 10) (N := some 20) (v := ?_) (a' := ?_) #[true, true, true, true, true, true, true, true, true, true, true, false, false, false, false, false, false, false, false, false] rfl rfl (any_of HT_.out (by kernel_rfl)) (fun _ _ _ h => h) (Or.inl ⟨by rfl, ?_⟩) ?_ ?_
                rotate_left
                · intro w'
                  go_simp
                  with_reducible rfl
                rotate_left
                · simp only [Act.put, zH, zI, zJ, i64_w, i32_w]
                  rfl
                refine pure_ (i := 13) (N := some 23) (v := ?_) (a' := ?_) #[true, true, true, true, true, true, true, true, true, true, true, false, false, true, false, false, false, false, false, false] rfl rfl (any_of HT_.out (by kernel_rfl)) (fun _ _ _ h => h) (Or.inl ⟨by rfl, ?_⟩) ?_ ?_
                rotate_left
                · intro w'
                  go_simp
                  with_reducible rfl
                rotate_left
                · simp only [Act.put, zH, zI, zJ, i64_w, i32_w]
                  rfl
                refine pure_ (i := 14) (N := some 24) (v := ?_) (a' := ?_) #[true, true, true, true, true, true, true, true, true, true, true, false, false, true, true, false, false, false, false, false] rfl rfl (any_of HT_.out (by kernel_rfl)) (fun _ _ _ h => h) (Or.inl ⟨by rfl, ?_⟩) ?_ ?_
                rotate_left
                · intro w'
                  go_simp
                  with_reducible rfl
                rotate_left
                · simp only [Act.put, zH, zI, zJ, i64_w, i32_w]
                  rfl
                refine pure_ (i := 15) (N := some 25) (v := ?_) (a' := ?_) #[true, true, true, true, true, true, true, true, true, true, true, false, false, true, true, true, false, false, false, false] rfl rfl (any_of HT_.out (by kernel_rfl)) (fun _ _ _ h => h) (Or.inl ⟨by rfl, ?_⟩) ?_ ?_
                rotate_left
                · intro w'
                  go_simp
                  with_reducible rfl
                rotate_left
                · simp only [Act.put, zH, zI, zJ, i64_w, i32_w]
                  rfl
                refine take_ (i := 11) (N := some 21) (v := ?_) (a' := ?_) #[true, true, true, true, true, true, true, true, true, true, true, true, false, true, true, true, false, false, false, false] rfl rfl (take_ofW HT_.out HW_.out (by kernel_rfl)) (fun _ _ _ h => h) (Or.inl ⟨by rfl, ?_⟩) hHeld ?_ ?_
                rotate_left
                · rintro w' ⟨s0, s1, s2, s3, s4, s5⟩
                  go_simp
                  with_reducible rfl
                rotate_left
                · simp only [Act.put, zH, zI, zJ, i64_w, i32_w]
                  rfl
                refine pure_ (i := 12) (N := some 22) (v := ?_) (a' := ?_) #[true, true, true, true, true, true, true, true, true, true, true, true, true, true, true, true, false, false, false, false] rfl rfl (any_of HT_.out (by kernel_rfl)) (fun _ _ _ h => h) (Or.inl ⟨by rfl, ?_⟩) ?_ ?_
                rotate_left
                · intro w'
                  go_simp
                  with_reducible rfl
                rotate_left
                · simp only [Act.put, zH, zI, zJ, i64_w, i32_w]
                  rfl
                refine take_ (i := 16) (N := some 26) (v := ?_) (a' := ?_) #[true, true, true, true, true, true, true, true, true, true, true, true, true, true, true, true, true, false, false, false] rfl rfl (take_ofW HT_.out HW_.out (by kernel_rfl)) (fun _ _ _ h => h) (Or.inl ⟨by rfl, ?_⟩) hHeld ?_ ?_
                rotate_left
                · rintro w' ⟨s0, s1, s2, s3, s4, s5⟩
                  go_simp
                  with_reducible rfl
                rotate_left
                · simp only [Act.put, zH, zI, zJ, i64_w, i32_w]
                  rfl
                refine pure_ (i := 17) (N := some 27) (v := ?_) (a' := ?_) #[true, true, true, true, true, true, true, true, true, true, true, true, true, true, true, true, true, true, false, false] rfl rfl (any_of HT_.out (by kernel_rfl)) (fun _ _ _ h => h) (Or.inl ⟨by rfl, ?_⟩) ?_ ?_
                rotate_left
                · intro w'
                  go_simp
                  with_reducible rfl
                rotate_left
                · simp only [Act.put, zH, zI, zJ, i64_w, i32_w]
                  rfl
                refine pure_ (i := 18) (N := some 28) (v := ?_) (a' := ?_) #[true, true, true, true, true, true, true, true, true, true, true, true, true, true, true, true, true, true, true, false] rfl rfl (any_of HT_.out (by kernel_rfl)) (fun _ _ _ h => h) (Or.inl ⟨by rfl, ?_⟩) ?_ ?_
                rotate_left
                · intro w'
                  go_simp
                  with_reducible rfl
                rotate_left
                · simp only [Act.put, zH, zI, zJ, i64_w, i32_w]
                  rfl
                refine pure_ (i := 19) (N := some 29) (v := ?_) (a' := ?_) #[true, true, true, true, true, true, true, true, true, true, true, true, true, true, true, true, true, true, true, true] rfl rfl (any_of HT_.out (by kernel_rfl)) (fun _ _ _ h => h) (Or.inl ⟨by rfl, ?_⟩) ?_ ?_
                rotate_left
                · intro w'
                  go_simp
                  with_reducible rfl
                rotate_left
                · simp only [Act.put, zH, zI, zJ, i64_w, i32_w]
                  rfl
                refine done_ (done_of HT_.out (by kernel_rfl)) ?_
                try go_wp2
                go_ret
                exact ⟨by first | rfl | (simp [errW_none, errW_some] <;> rfl) | (simp [*, errW_none, errW_some] <;> rfl), by repeat (first | (with_reducible first | exact HB.out | apply yQ | apply yL | apply yP) | exact HB.out)⟩
            · rw [if_neg c6] at H
              exact absurd H (by simp)
          · replace c5 := Bool.eq_false_iff.mpr c5
            subst c5
            have H1 : (some false) = some r := by rw [if_neg (show ¬ (false = true) by decide)] at H; exact H
            clear H; have H := H1; clear H1; obtain rfl := Option.some.inj H
            try go_wp2
            have n0_ := yD (yP HB.out)
            clear HB; have HB := n0_; clear n0_
            have p137 : 0 ≤ (x3_1 : Int) := zP (by assumption)
            have q137 : x3_1 < (l0.length : Int) := zP (by assumption)
            obtain ⟨ad137, A137_0, c137_0, A137_1, c137_1, e137, hx137_0, hx137_1, hl137_0, hi137_0, hl137_1, hi137_1⟩ := at_T42 HR0.out x3_1 p137 q137
            have hw137_1 := hx137_1; have hw137_0 := hx137_0; cases e137
            replace hx137_0 := (HB.out.cell (zQ w _ hx137_0)).trans hx137_0
            replace hx137_1 := (HB.out.cell (zQ w _ hx137_1)).trans hx137_1
            have HR137_0 := yD hi137_0
            have HC137_0 := yD hl137_0
            clear hi137_0 hl137_0
            have HR137_1 := yD hi137_1
            have HC137_1 := yD hl137_1
            clear hi137_1 hl137_1; replace p137 := eq_true p137; replace q137 := eq_true q137
            refine start_ (n := 20) (S := fun w' => w'.cell? (ad137.add ((x3_1).toNat * 2)) = some (.slice A137_0 ((rd_T42 l0 x3_1).f0).length c137_0) ∧ w'.cell? ⟨(ad137.add ((x3_1).toNat * 2)).block, (ad137.add ((x3_1).toNat * 2)).off + 1, none⟩ = some (.slice A137_1 ((rd_T42 l0 x3_1).f1).length c137_1)) (ds := []) #[false, false, false, false, false, false, false, false, false, false, false, false, false, false, false, false, false, false, false, false] (by kernel_rfl) rfl rfl ⟨((HB.out.cell (zQ w _ hw137_0)).trans hw137_0), ((HB.out.cell (zQ w _ hw137_1)).trans hw137_1)⟩ (fun hHeld => ?_); refine with_tabW spec_l07List.tab4 spec_l07List.bits4 (fun HT_ HW_ => ?_)
            generalize wr.drew = w12 at HB HR137_0 HR137_1 hx137_0 hx137_1 hHeld ⊢
            refine pure_ (i := 0) (N := some 10) (v := ?_) (a' := ?_) #[true, false, false, false, false, false, false, false, false, false, false, false, false, false, false, false, false, false, false, false] rfl rfl (any_of HT_.out (by kernel_rfl)) (fun _ _ _ h => h) (Or.inl ⟨by rfl, ?_⟩) ?_ ?_
            rotate_left
            · intro w'
              go_simp
              with_reducible rfl
            rotate_left
            · simp only [Act.put, zH, zI, zJ, i64_w, i32_w]
              rfl
            refine pure_ (i := 1) (N := some 11) (v := ?_) (a' := ?_) #[true, true, false, false, false, false, false, false, false, false, false, false, false, false, false, false, false, false, false, false] rfl rfl (any_of HT_.out (by kernel_rfl)) (fun _ _ _ h => h) (Or.inl ⟨by rfl, ?_⟩) ?_ ?_
            rotate_left
            · intro w'
              go_simp
              with_reducible rfl
            rotate_left
            · simp only [Act.put, zH, zI, zJ, i64_w, i32_w]
              rfl
            refine pure_ (i := 2) (N := some 12) (v := ?_) (a' := ?_) #[true, true, true, false, false, false, false, false, false, false, false, false, false, false, false, false, false, false, false, false] rfl rfl (any_of HT_.out (by kernel_rfl)) (fun _ _ _ h => h) (Or.inl ⟨by rfl, ?_⟩) ?_ ?_
            rotate_left
            · intro w'
              go_simp
              with_reducible rfl
            rotate_left
            · simp only [Act.put, zH, zI, zJ, i64_w, i32_w]
              rfl
            refine take_ (i := 3) (N := some 13) (v := ?_) (a' := ?_) #[true, true, true, true, false, false, false, false, false, false, false, false, false, false, false, false, false, false, false, false] rfl rfl (take_ofW HT_.out HW_.out (by kernel_rfl)) (fun _ _ _ h => h) (Or.inl ⟨by rfl, ?_⟩) hHeld ?_ ?_
            rotate_left
            · rintro w' ⟨s0, s1⟩
              go_simp
              with_reducible rfl
            rotate_left
            · simp only [Act.put, zH, zI, zJ, i64_w, i32_w]
              rfl
            refine one_ (i := 4) (N := some 14) #[true, true, true, true, true, false, false, false, false, false, false, false, false, false, false, false, false, false, false, false] rfl rfl (one_of HT_.out (by kernel_rfl)) (by decide) (fun K hK => ?_)
            refine goes_ Try.func108 (by kernel_rfl) rfl #[.agg #[.slice A137_0 ((rd_T42 l0 x3_1).f0).length c137_0, .slice A137_1 ((rd_T42 l0 x3_1).f1).length c137_1]] (by rfl) rfl rfl (by (try simp only [zK, zL, zM]); first | done | rfl | (simp only [zN, zO]; rfl)) ?_
            with_reducible refine (spec_l07Box.calls k1 _ _ ((rd_T42 l0 x3_1).f0) _ _ ((rd_T42 l0 x3_1).f1) false _ ?side1 ?side2 ?side3 ?side4 A4.out).mono ?_
            (case side1 => repeat (first | exact (yY HR137_0.out HB.out) | (with_reducible first | refine yV ?_ _ | refine yW ?_ _ | refine yX ?_)))
            (case side2 => exact HC137_0.out)
            (case side3 => repeat (first | exact (yY HR137_1.out HB.out) | (with_reducible first | refine yV ?_ _ | refine yW ?_ _ | refine yX ?_)))
            (case side4 => exact HC137_1.out)
            rintro e w13 ⟨rfl, hb⟩
            refine ⟨_, rfl, ?_⟩
            have n0_ := yD (zC (by repeat (first | (with_reducible first | exact HB.out | apply yQ | apply yL | apply yP) | exact HB.out)) hb)
            clear HB; have HB := n0_; clear n0_; (try clear hb); (try clear hb2); (try clear hk); (try clear hi)
            refine hK.out _ _ ⟨((HB.out.cell (zQ w _ hw137_0)).trans hw137_0), ((HB.out.cell (zQ w _ hw137_1)).trans hw137_1)⟩ (fun hHeld => ?_)
            clear hK K
            refine norm_ (a' := ?_) ?_ ?_
            rotate_left
            · show Act.put _ (some 14) _ = _
              simp only [Act.put, zH, zI, zJ, i64_w, i32_w]
              rfl
            refine pure_ (i := 5) (N := some 15) (v := ?_) (a' := ?_) #[true, true, true, true, true, true, false, false, false, false, false, false, false, false, false, false, false, false, false, false] rfl rfl (any_of HT_.out (by kernel_rfl)) (fun _ _ _ h => h) (Or.inl ⟨by rfl, ?_⟩) ?_ ?_
            rotate_left
            · intro w'
              go_simp
              with_reducible rfl
            rotate_left
            · simp only [Act.put, zH, zI, zJ, i64_w, i32_w]
              rfl
            refine pure_ (i := 6) (N := some 16) (v := ?_) (a' := ?_) #[true, true, true, true, true, true, true, false, false, false, false, false, false, false, false, false, false, false, false, false] rfl rfl (any_of HT_.out (by kernel_rfl)) (fun _ _ _ h => h) (Or.inl ⟨by rfl, ?_⟩) ?_ ?_
            rotate_left
            · intro w'
              go_simp
              with_reducible rfl
            rotate_left
            · simp only [Act.put, zH, zI, zJ, i64_w, i32_w]
              rfl
            refine pure_ (i := 7) (N := some 17) (v := undef) (a' := ?_) #[true, true, true, true, true, true, true, true, false, false, false, false, false, false, false, false, false, false, false, false] rfl rfl (any_of HT_.out (by kernel_rfl)) (fun _ _ _ h => h) (Or.inr ⟨by rfl, rfl⟩) ?_ ?_
            rotate_left
            · simp only [Act.put, zH, zI, zJ, i64_w, i32_w]
              rfl
            refine pure_ (i := 8) (N := some 18) (v := undef) (a' := ?_) #[true, true, true, true, true, true, true, true, true, false, false, false, false, false, false, false, false, false, false, false] rfl rfl (any_of HT_.out (by kernel_rfl)) (fun _ _ _ h => h) (Or.inr ⟨by rfl, rfl⟩) ?_ ?_
            rotate_left
            · simp only [Act.put, zH, zI, zJ, i64_w, i32_w]
              rfl
            refine pure_ (i := 9) (N := some 19) (v := undef) (a' := ?_) #[true, true, true, true, true, true, true, true, true, true, false, false, false, false, false, false, false, false, false, false] rfl rfl (any_of HT_.out (by kernel_rfl)) (fun _ _ _ h => h) (Or.inr ⟨by rfl, rfl⟩) ?_ ?_
            rotate_left
            · simp only [Act.put, zH, zI, zJ, i64_w, i32_w]
              rfl
            refine pure_ (i := 10) (N := some 20) (v := undef) (a' := ?_) #[true, true, true, true, true, true, true, true, true, true, true, false, false, false, false, false, false, false, false, false] rfl rfl (any_of HT_.out (by kernel_rfl)) (fun _ _ _ h => h) (Or.inr ⟨by rfl, rfl⟩) ?_ ?_
            rotate_left
            · simp only [Act.put, zH, zI, zJ, i64_w, i32_w]
              rfl
            refine pure_ (i := 11) (N := some 21) (v := undef) (a' := ?_) #[true, true, true, true, true, true, true, true, true, true, true, true, false, false, false, false, false, false, false, false] rfl rfl (any_of HT_.out (by kernel_rfl)) (fun _ _ _ h => h) (Or.inr ⟨by rfl, rfl⟩) ?_ ?_
            rotate_left
            · simp only [Act.put, zH, zI, zJ, i64_w, i32_w]
              rfl
            refine pure_ (i := 12) (N := some 22) (v := undef) (a' := ?_) #[true, true, true, true, true, true, true, true, true, true, true, true, true, false, false, false, false, false, false, false] rfl rfl (any_of HT_.out (by kernel_rfl)) (fun _ _ _ h => h) (Or.inr ⟨by rfl, rfl⟩) ?_ ?_
            rotate_left
            · simp only [Act.put, zH, zI, zJ, i64_w, i32_w]
              rfl
            refine pure_ (i := 13) (N := some 23) (v := undef) (a' := ?_) #[true, true, true, true, true, true, true, true, true, true, true, true, true, true, false, false, false, false, false, false] rfl rfl (any_of HT_.out (by kernel_rfl)) (fun _ _ _ h => h) (Or.inr ⟨by rfl, rfl⟩) ?_ ?_
            rotate_left
            · simp only [Act.put, zH, zI, zJ, i64_w, i32_w]
              rfl
            refine pure_ (i := 14) (N := some 24) (v := undef) (a' := ?_) #[true, true, true, true, true, true, true, true, true, true, true, true, true, true, true, false, false, false, false, false] rfl rfl (any_of HT_.out (by kernel_rfl)) (fun _ _ _ h => h) (Or.inr ⟨by rfl, rfl⟩) ?_ ?_
            rotate_left
            · simp only [Act.put, zH, zI, zJ, i64_w, i32_w]
              rfl
            refine pure_ (i := 15) (N := some 25) (v := undef) (a' := ?_) #[true, true, true, true, true, true, true, true, true, true, true, true, true, true, true, true, false, false, false, false] rfl rfl (any_of HT_.out (by kernel_rfl)) (fun _ _ _ h => h) (Or.inr ⟨by rfl, rfl⟩) ?_ ?_
            rotate_left
            · simp only [Act.put, zH, zI, zJ, i64_w, i32_w]
              rfl
            refine pure_ (i := 16) (N := some 26) (v := undef) (a' := ?_) #[true, true, true, true, true, true, true, true, true, true, true, true, true, true, true, true, true, false, false, false] rfl rfl (any_of HT_.out (by kernel_rfl)) (fun _ _ _ h => h) (Or.inr ⟨by rfl, rfl⟩) ?_ ?_
            rotate_left
            · simp only [Act.put, zH, zI, zJ, i64_w, i32_w]
              rfl
            refine pure_ (i := 17) (N := some 27) (v := undef) (a' := ?_) #[true, true, true, true, true, true, true, true, true, true, true, true, true, true, true, true, true, true, false, false] rfl rfl (any_of HT_.out (by kernel_rfl)) (fun _ _ _ h => h) (Or.inr ⟨by rfl, rfl⟩) ?_ ?_
            rotate_left
            · simp only [Act.put, zH, zI, zJ, i64_w, i32_w]
              rfl
            refine pure_ (i := 18) (N := some 28) (v := undef) (a' := ?_) #[true, true, true, true, true, true, true, true, true, true, true, true, true, true, true, true, true, true, true, false] rfl rfl (any_of HT_.out (by kernel_rfl)) (fun _ _ _ h => h) (Or.inr ⟨by rfl, rfl⟩) ?_ ?_
            rotate_left
            · simp only [Act.put, zH, zI, zJ, i64_w, i32_w]
              rfl
            refine pure_ (i := 19) (N := some 29) (v := ?_) (a' := ?_) #[true, true, true, true, true, true, true, true, true, true, true, true, true, true, true, true, true, true, true, true] rfl rfl (any_of HT_.out (by kernel_rfl)) (fun _ _ _ h => h) (Or.inl ⟨by rfl, ?_⟩) ?_ ?_
            rotate_left
            · intro w'
              go_simp
              with_reducible rfl
            rotate_left
            · simp only [Act.put, zH, zI, zJ, i64_w, i32_w]
              rfl
            refine done_ (done_of HT_.out (by kernel_rfl)) ?_
            try go_wp2
            go_ret
            exact ⟨by first | rfl | (simp [errW_none, errW_some] <;> rfl) | (simp [*, errW_none, errW_some] <;> rfl), by repeat (first | (with_reducible first | exact HB.out | apply yQ | apply yL | apply yP) | exact HB.out)⟩
        · rw [if_neg c3] at H
          exact absurd H (by simp)
      · rw [if_neg c2] at H
        have c2b0 : decide (x3_1 < (l0.length : Int)) = false := zS c2; clear c2; obtain rfl := Option.some.inj H
        go_wp2
        go_ret
        exact ⟨by first | rfl | (simp [errW_none, errW_some] <;> rfl) | (simp [*, errW_none, errW_some] <;> rfl), by repeat (first | (with_reducible first | exact HB.out | apply yQ | apply yL | apply yP) | exact HB.out)⟩

/-! ### spec_l00Own: function 71 -/
def spec_l00Own.f (l0 : List Int) : Option (List Int) := (some (([] : List Int) : List Int)).bind fun y141 => (if y141.length + l0.length < 17592186044416 then (some (y141 ++ l0)) else (none))
set_option maxHeartbeats 8000000 in
set_option maxRecDepth 100000 in
theorem spec_l00Own.calls (A0 : Option Addr) (c0 : Nat) (l0 : List Int) (r : List Int) (w : World) (hr0 : Kd.C (Kd.int .i64) w A0 l0.length l0) (hc0 : l0.length ≤ c0) (h : spec_l00Own.f l0 = some r) :
    Calls Try.prog 71 #[.slice A0 l0.length c0] w fun e w' => ∃ v0_ : Value, e = .returned (v0_) ∧ Kd.R (Kd.int .i64) 2 w' w.heap.size (fun _ => True) v0_ r ∧ Below w.heap.size w w' := by
  have HR0 := yD hr0
  have HC0 := yD hc0
  clear hr0 hc0
  have HB := yD (Below.refl w.heap.size w)
  have H : ((some (([] : List Int) : List Int)).bind fun y141 => (if y141.length + l0.length < 17592186044416 then (some (y141 ++ l0)) else (none))) = some r := h
  clear h
  obtain ⟨y141, hy141⟩ : ∃ y_ : List Int, y_ = (([] : List Int)) := ⟨_, rfl⟩
  replace H : (if y141.length + l0.length < 17592186044416 then (some (y141 ++ l0)) else (none)) = some r := by first | (rw [hy141]; with_reducible exact H) | (have H2_ := (Option.bind_some _ _).symm.trans H; rw [hy141]; with_reducible exact H2_) | (have H2_ := (Option.bind_some _ _).symm.trans H; with_reducible exact H2_) | with_reducible exact H | (rw [hy141]; exact H) | exact H
  have Ny141 := yD hy141
  clear hy141
  by_cases c2 : y141.length + l0.length < 17592186044416
  · rw [if_pos c2] at H
    have LMc2 := yD c2
    clear c2
    obtain ⟨y144, hy144⟩ : ∃ y_ : List Int, y_ = (y141 ++ l0) := ⟨_, rfl⟩
    replace H : (some y144) = some r := by first | (rw [hy144]; with_reducible exact H) | (have H2_ := (Option.bind_some _ _).symm.trans H; rw [hy144]; with_reducible exact H2_) | (have H2_ := (Option.bind_some _ _).symm.trans H; with_reducible exact H2_) | with_reducible exact H | (rw [hy144]; exact H) | exact H
    have Ny144 := yD hy144
    clear hy144; obtain rfl := Option.some.inj H; go_enter Try.func71, Try.ntmps71
    go_wp2_with (first | ((with_reducible refine gate_dst (N := 3) rfl ?_); refine Kd.R_lit (Kd.int .i64) _ 2 ?hg (N := 3) ?hd (xs := ([] : List Int)) (inner := []) (ok := fun _ => True) (okp := fun _ => True) ?hr ?hp (fun _ hk => hk) trivial (Below.refl _ _) (Nat.le_refl _) (by simp) ?_; (case hd => rfl); (case hg => rfl); (case hr => first | (go_simp; done) | (go_simp; rfl)); (case hp => exact (Reps.none _ _)); intro v142 w3 ho4 hb hg_ hnew_; clear hg_ hnew_; (first | rw [← Ny141.out] at ho4 | (simp only [Int.reduceToNat] at ho4; rw [← Ny141.out] at ho4)); have n0_ := yD (yZ ho4 (below_size (by repeat (first | (with_reducible first | exact HB.out | apply yQ | apply yL | apply yP) | exact HB.out)))); have n1_ := yD (zC (by repeat (first | (with_reducible first | exact HB.out | apply yQ | apply yL | apply yP) | exact HB.out)) hb); clear HB; have HO143 := n0_; have HB := n1_; clear n0_ n1_; clear hb ho4) | ((with_reducible refine gate_builtin (b := .append) (xs := #[.tmp 3, .tmp 4]) rfl ?_); at_builtin; refine Kd.R_append_rows (Kd.int .i64) (w0 := w) w.heap.size rfl (.tmp 3) (.tmp 4) 36 2 (.int .i64 0) 8 rfl Try.underlying36 info2 rfl (by decide) (by omega) v142 y141 l0 _ _ _ (fun _ => True) (fun _ => False) rfl rfl ?aO ?aR (fun _ _ h => h) (fun _ h => h.elim) ?aF ?aB ?aS ?aL ?_; (case aR => repeat (first | exact (yY HR0.out HB.out) | (with_reducible first | refine yV ?_ _ | refine yW ?_ _ | refine yX ?_))); (case aB => exact (by repeat (first | (with_reducible first | exact HB.out | apply yQ | apply yL | apply yP) | exact HB.out))); (case aF => exact (fun _ _ => trivial)); (case aO => exact (by (with_reducible repeat (first | apply yA | apply yB | apply yC)); exact HO143.out)); (case aS => exact (below_size (by repeat (first | (with_reducible first | exact HB.out | apply yQ | apply yL | apply yP) | exact HB.out)))); (case aL => have := LMc2.out; omega); intro v145 w5 ho hb hg hat; rw [← Ny144.out] at ho; have n0_ := yD (hb); have n1_ := yD (ho); clear HB; clear HO143; have HB := n0_; have HO146 := n1_; clear n0_ n1_; clear ho hb hg hat))
    go_ret
    exact ⟨_, by first | rfl | (simp [errW_none, errW_some] <;> rfl) | (simp [*, errW_none, errW_some] <;> rfl), by (with_reducible repeat (first | apply yA | apply yB | apply yC)); exact HO146.out, by repeat (first | (with_reducible first | exact HB.out | apply yQ | apply yL | apply yP) | exact HB.out)⟩
  · rw [if_neg c2] at H
    exact absurd H (by simp)

/-! ### spec_l00Min: function 72 -/
def spec_l00Min.f (a0 : Int) (a1 : Int) : Option (Int) := if a0 < a1 then (some a0) else (some a1)
set_option maxHeartbeats 8000000 in
set_option maxRecDepth 100000 in
theorem spec_l00Min.calls (a0 : Int) (a1 : Int) (r : Int) (w : World) (h : spec_l00Min.f a0 a1 = some r) :
    Calls Try.prog 72 #[.int .i64 a0, .int .i64 a1] w fun e w' => e = .returned (.int .i64 r) ∧ Drawn0 w w' := by
  have H : (if a0 < a1 then (some a0) else (some a1)) = some r := h
  clear h
  by_cases c3 : a0 < a1
  · rw [if_pos c3] at H
    have c3b0 : decide (a0 < a1) = true := zR c3; clear c3; obtain rfl := Option.some.inj H; go_enter Try.func72, Try.ntmps72
    go_wp2
    go_ret
    exact ⟨by first | rfl | (simp; done) | (simp [*]; done), by repeat (first | exact Drawn0.refl _ | apply Drawn0.step)⟩
  · rw [if_neg c3] at H
    have c3b0 : decide (a0 < a1) = false := zS c3; clear c3; obtain rfl := Option.some.inj H; go_enter Try.func72, Try.ntmps72
    go_wp2
    go_ret
    exact ⟨by first | rfl | (simp; done) | (simp [*]; done), by repeat (first | exact Drawn0.refl _ | apply Drawn0.step)⟩

/-! ### spec_l00Max: function 73 -/
def spec_l00Max.f (a0 : Int) (a1 : Int) : Option (Int) := if a0 > a1 then (some a0) else (some a1)
set_option maxHeartbeats 8000000 in
set_option maxRecDepth 100000 in
theorem spec_l00Max.calls (a0 : Int) (a1 : Int) (r : Int) (w : World) (h : spec_l00Max.f a0 a1 = some r) :
    Calls Try.prog 73 #[.int .i64 a0, .int .i64 a1] w fun e w' => e = .returned (.int .i64 r) ∧ Drawn0 w w' := by
  have H : (if a0 > a1 then (some a0) else (some a1)) = some r := h
  clear h
  by_cases c3 : a0 > a1
  · rw [if_pos c3] at H
    have c3b0 : decide (a1 < a0) = true := zR c3; clear c3; obtain rfl := Option.some.inj H; go_enter Try.func73, Try.ntmps73
    go_wp2
    go_ret
    exact ⟨by first | rfl | (simp; done) | (simp [*]; done), by repeat (first | exact Drawn0.refl _ | apply Drawn0.step)⟩
  · rw [if_neg c3] at H
    have c3b0 : decide (a1 < a0) = false := zS c3; clear c3; obtain rfl := Option.some.inj H; go_enter Try.func73, Try.ntmps73
    go_wp2
    go_ret
    exact ⟨by first | rfl | (simp; done) | (simp [*]; done), by repeat (first | exact Drawn0.refl _ | apply Drawn0.step)⟩

end Go.Proofs.Ytdiaebjbiddefaa.PFnExactBoundsOf
