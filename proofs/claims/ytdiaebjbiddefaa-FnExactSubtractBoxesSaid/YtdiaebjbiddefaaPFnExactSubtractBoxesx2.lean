/- Each Go function here comes to what the plain function of its name says, where that says something. Made by a program of this session, over the print. -/
import Derived.Test.YtdiaebjbiddefaaPFnExactSubtractBoxesx0
import Derived.Test.YtdiaebjbiddefaaPFnExactSubtractBoxesx1
namespace Go.Proofs.Ytdiaebjbiddefaa.PFnExactSubtractBoxes
open Go.RowKit Go.Proofs.YtdiaebjbiddefaaW.PrintWords Go.Proofs.YtdiaebjbiddefaaW.PrintLast Go.Proofs.YtdiaebjbiddefaaW.PrintMore
attribute [local go_sem] max2_int min2_int max_two min_two max_three min_three max_four min_four   -- for this text's walks alone
set_option linter.unusedVariables false
set_option linter.unusedSimpArgs false

/-! ### spec_l07Box: function 108 -/
mutual
def spec_l07Box.j0 : Nat → Bool → List Int → List Int → Option (Bool)
 | 0, _, _, _ => none
 | k + 1, x16, x132000, x132001 => if x16 = true then (some false) else (spec_l07Box.l0 k 0 x132000 x132001)
def spec_l07Box.l0 : Nat → Int → List Int → List Int → Option (Bool)
 | 0, _, _, _ => none
 | k + 1, x3, x132000, x132001 => if x3 < (x132000.length : Int) then (if 0 ≤ x3 then (if x3 < (x132001.length : Int) then ((spec_l00In.f (rd x132001 x3) 1 40).bind fun t133 => (if t133 = true then ((spec_l00In.f (rd x132000 x3) 0 (wrap64 ((rd x132001 x3) - 1))).bind fun t136 => (if t136 = true then (spec_l07Box.l0 k (wrap64 (x3 + 1)) x132000 x132001) else (some false))) else (some false))) else (none)) else (none)) else (some true)
end
def spec_l07Box.f (k : Nat) (l0_0 : List Int) (l0_1 : List Int) : Option (Bool) := if (l0_0.length : Int) > 3 then (spec_l07Box.j0 k true l0_0 l0_1) else (spec_l07Box.j0 k ((l0_1.length : Int) != (l0_0.length : Int)) l0_0 l0_1)
theorem spec_l07Box.mono_l : ∀ k, (∀ y0 y1 y2, LeO (spec_l07Box.j0 k y0 y1 y2) (spec_l07Box.j0 (k + 1) y0 y1 y2)) ∧ (∀ y0 y1 y2, LeO (spec_l07Box.l0 k y0 y1 y2) (spec_l07Box.l0 (k + 1) y0 y1 y2))
 | 0 => ⟨fun _ _ _ r h => by simp [spec_l07Box.j0] at h, fun _ _ _ r h => by simp [spec_l07Box.l0] at h⟩
 | k + 1 => by
  obtain ⟨ih0, ih1⟩ := spec_l07Box.mono_l k
  refine ⟨?_, ?_⟩
  · intro y0 y1 y2
    unfold spec_l07Box.j0
    repeat' (with_reducible first | exact ih0 _ _ _ | exact ih1 _ _ _ | exact LeO.refl _ | exact LeO.none _ | refine LeO.ite ?_ ?_ | refine LeO.bind ?_ (fun _ => ?_))
  · intro y0 y1 y2
    unfold spec_l07Box.l0
    repeat' (with_reducible first | exact ih0 _ _ _ | exact ih1 _ _ _ | exact LeO.refl _ | exact LeO.none _ | refine LeO.ite ?_ ?_ | refine LeO.bind ?_ (fun _ => ?_))
theorem spec_l07Box.mono : ∀ a0 a1 k, LeO (spec_l07Box.f k a0 a1) (spec_l07Box.f (k + 1) a0 a1) := by
 intro a0 a1 k
 obtain ⟨ih0, ih1⟩ := spec_l07Box.mono_l k
 unfold spec_l07Box.f
 repeat' (with_reducible first | exact ih0 _ _ _ | exact ih1 _ _ _ | exact LeO.refl _ | exact LeO.none _ | refine LeO.ite ?_ ?_ | refine LeO.bind ?_ (fun _ => ?_))
def spec_l07Box.T6 : Bool × List (List Nat × List Nat) := (true, [([], []), ([0], [0]), ([], []), ([1, 2], [1, 2]), ([3], [3]), ([4], [4]), ([5], [5]), ([6, 5], [6]), ([7], [7]), ([8, 7], [7, 8]), ([7], [7]), ([9, 10, 7], [7, 9, 10]), ([11, 7], [7, 11]), ([7], [7]), ([13, 7], [7, 13]), ([7], [7]), ([14, 15, 7], [7, 14, 15]), ([16, 7], [7, 16]), ([17, 7], [7, 17]), ([12, 18, 7, 7], [7, 12, 18]), ([19, 7], [7, 19]), ([7, 20], [7, 20])])
def spec_l07Box.B6 : List Nat := [0, 1, 0, 7, 15, 31, 63, 127, 255, 511, 255, 2047, 4095, 255, 8447, 255, 57599, 123135, 254207, 524287, 1048575, 2097151]
theorem spec_l07Box.tab6 : rtab .any (opsOf Try.f108 6) = spec_l07Box.T6 := by kernel_rfl
theorem spec_l07Box.bits6 : waitsOk spec_l07Box.T6.2 spec_l07Box.B6 = true := by kernel_rfl
set_option maxHeartbeats 8000000 in
set_option maxRecDepth 100000 in
theorem spec_l07Box.calls (k : Nat) (A0_0 : Option Addr) (c0_0 : Nat) (l0_0 : List Int) (A0_1 : Option Addr) (c0_1 : Nat) (l0_1 : List Int) (r : Bool) (w : World) (hr0_0 : Kd.C (Kd.int .i64) w A0_0 l0_0.length l0_0) (hc0_0 : l0_0.length ≤ c0_0) (hr0_1 : Kd.C (Kd.int .i64) w A0_1 l0_1.length l0_1) (hc0_1 : l0_1.length ≤ c0_1) (h : spec_l07Box.f k l0_0 l0_1 = some r) :
 Calls Try.prog 108 #[.agg #[.slice A0_0 l0_0.length c0_0, .slice A0_1 l0_1.length c0_1]] w fun e w' => e = .returned (.bool r) ∧ Below w.heap.size w w' := by
 have hu42 := Try.underlying42
 have HR0_0 := yD hr0_0
 have HC0_0 := yD hc0_0
 clear hr0_0 hc0_0
 have HR0_1 := yD hr0_1
 have HC0_1 := yD hc0_1
 clear hr0_1 hc0_1
 have HB := yD (Below.refl w.heap.size w)
 have H : (if (l0_0.length : Int) > 3 then (spec_l07Box.j0 k true l0_0 l0_1) else (spec_l07Box.j0 k ((l0_1.length : Int) != (l0_0.length : Int)) l0_0 l0_1)) = some r := h
 clear h
 have HC2 := yD H
 clear H; go_enter Try.func108, Try.ntmps108
 go_upto_region 1 with (first | ((with_reducible refine gate_dst (N := 1) rfl ?_); (try (refine gate_guard (by rfl) ?_; dsimp only)); refine box_event ?hg (N := 1) ?hd (cs := #[.slice A0_0 l0_0.length c0_0, .slice A0_1 l0_1.length c0_1]) (t := 42) ?hr ?_; (case hd => rfl); (case hg => rfl); (case hr => first | (go_simp; done) | (go_simp; rfl)); intro gb131 hg w3 hbox hb; have BK131 := yD (hbox); have GW131 := yD ((by rw [hg]; exact (below_size (kB HB)) : w.heap.size ≤ gb131)); have GE131 := yD ((by rw [hg]; exact (below_size (kB HB)) : w.heap.size ≤ gb131)); replace HB := yD (zC (kB HB) hb); clear hb hbox hg))
 (try simp only [Act.put, zH, zI, zJ])
 go_cut [16] (fun v16 wc => ∃ (kq : Nat) (x16_1 : Bool), v16 = .bool x16_1 ∧ Aside0 (spec_l07Box.j0 kq x16_1 l0_0 l0_1 = some r) ∧ Aside0 (kq ≤ k) ∧ Aside0 (wc.heap[gb131]? = some (.cells #[(.slice A0_0 l0_0.length c0_0), (.slice A0_1 l0_1.length c0_1)] 42 (0, 0))) ∧ Aside0 (Below w.heap.size w wc))
 case first =>
  have H := HC2.out; clear HC2
  by_cases c4 : (l0_0.length : Int) > 3
  ·
   rw [if_pos c4] at H
   have c4b0 : decide (3 < (l0_0.length : Int)) = true := zR c4
   have c4b1 : decide (3 < l0_0.length) = true := zR (by omega)
   clear c4
   (first | rw [c4b0] | (simp only [i64_w, i32_w]; rw [c4b0]) | (simp only [bne] at c4b0; rw [c4b0]) | skip)
   have H' := yD H
   clear H
   obtain ⟨hcz5_0, hcz5_1⟩ := cz2 BK131.out
   obtain ⟨hfz5_0, hfz5_1⟩ := fz2 BK131.out
   go_wp2
   go_meet
   case rel => exact ⟨_, (true), (by first | rfl | (simp; done) | (simp [*]; done)), H', ⟨by first | omega | exact Nat.le_refl _⟩, ⟨kM BK131⟩, ⟨kR0 HB⟩⟩
  ·
   rw [if_neg c4] at H
   have c4b0 : decide (3 < (l0_0.length : Int)) = false := zS c4
   have c4b1 : decide (3 < l0_0.length) = false := zS (by omega)
   clear c4
   (first | rw [c4b0] | (simp only [i64_w, i32_w]; rw [c4b0]) | (simp only [bne] at c4b0; rw [c4b0]) | skip)
   have H' := yD H
   clear H
   obtain ⟨hcz6_0, hcz6_1⟩ := cz2 BK131.out
   obtain ⟨hfz6_0, hfz6_1⟩ := fz2 BK131.out
   go_wp2
   go_meet
   case rel => exact ⟨_, (((l0_1.length : Int) != (l0_0.length : Int))), (by first | rfl | (simp; done) | (simp [*]; done)), H', ⟨by first | omega | exact Nat.le_refl _⟩, ⟨kM BK131⟩, ⟨kR0 HB⟩⟩
 case rest =>
  clear HC2; try clear c4; try clear c4b0; try clear c4b1; try clear hcz5_0; try clear hcz5_1; try clear hcz6_0; try clear hcz6_1; try clear hfz5_0; try clear hfz5_1; try clear hfz6_0; try clear hfz6_1
  obtain ⟨kq, x16_1, rfl, HA, HJ1, BK131, HB⟩ := hcut
  cases kq with
  | zero => exact absurd HA.out (by simp [spec_l07Box.j0])
  | succ kj1 =>
   have H := HA.out; clear HA
   simp only [spec_l07Box.j0] at H
   by_cases c7 : x16_1 = true
   · subst c7
     replace H : (some false) = some r := (by rw [if_pos rfl] at H; exact H); obtain rfl := Option.some.inj H
     go_wp2
     go_ret
     exact ⟨by first | rfl | (simp <;> rfl) | (simp [*] <;> rfl), kR0 HB⟩
   ·
    replace c7 := Bool.eq_false_iff.mpr c7
    subst c7
    replace H : (spec_l07Box.l0 kj1 0 l0_0 l0_1) = some r := (by rw [if_neg (show ¬ (false = true) by decide)] at H; exact H)
    have H' := yD H
    clear H
    go_wp2
    go_loopg [3] kj1 (fun kq v3 w' => ∃ (x3_2 : Int), v3 = .int .i64 x3_2 ∧ Aside0 (spec_l07Box.l0 kq x3_2 l0_0 l0_1 = some r) ∧ Aside0 (kq ≤ kj1) ∧ Aside0 (w'.heap[gb131]? = some (.cells #[(.slice A0_0 l0_0.length c0_0), (.slice A0_1 l0_1.length c0_1)] 42 (0, 0))) ∧ Aside0 (Below w.heap.size w w'))
    case atStart => exact ⟨(0), (by first | rfl | (simp; done) | (simp [*]; done)), H', ⟨Nat.le_refl _⟩, ⟨kM BK131⟩, ⟨kR0 HB⟩⟩
    case round =>
     clear H'
     try clear c1; try clear c4; try clear c4b0; try clear c4b1; try clear c7; try clear hcz5_0; try clear hcz5_1; try clear hcz6_0; try clear hcz6_1; try clear hfz5_0; try clear hfz5_1; try clear hfz6_0; try clear hfz6_1
     obtain ⟨x3_2, rfl, HA, HK2, BK131, HB⟩ := hrel
     cases gk with
     | zero => exact absurd HA.out (by simp [spec_l07Box.l0])
     | succ k2 =>
      have H := HA.out; clear HA
      simp only [spec_l07Box.l0] at H
      by_cases c8 : x3_2 < (l0_0.length : Int)
      ·
       rw [if_pos c8] at H
       have c8b0 : decide (x3_2 < (l0_0.length : Int)) = true := zR c8; clear c8
       by_cases c9 : 0 ≤ x3_2
       ·
        rw [if_pos c9] at H
        have c9b0 : decide (0 ≤ x3_2) = true := zR c9; clear c9
        by_cases c10 : x3_2 < (l0_1.length : Int)
        ·
         rw [if_pos c10] at H
         have c10b0 : decide (x3_2 < (l0_1.length : Int)) = true := zR c10; clear c10
         obtain ⟨t133, A110, H⟩ := zW_ H
         replace H : (if t133 = true then ((spec_l00In.f (rd l0_0 x3_2) 0 (wrap64 ((rd l0_1 x3_2) - 1))).bind fun t136 => (if t136 = true then (spec_l07Box.l0 k2 (wrap64 (x3_2 + 1)) l0_0 l0_1) else (some false))) else (some false)) = some r := H
         have A11 := yD A110
         clear A110
         by_cases c12 : t133 = true
         ·
          subst c12
          replace H : ((spec_l00In.f (rd l0_0 x3_2) 0 (wrap64 ((rd l0_1 x3_2) - 1))).bind fun t136 => (if t136 = true then (spec_l07Box.l0 k2 (wrap64 (x3_2 + 1)) l0_0 l0_1) else (some false))) = some r := (by rw [if_pos rfl] at H; exact H)
          obtain ⟨t136, A130, H⟩ := zW_ H
          replace H : (if t136 = true then (spec_l07Box.l0 k2 (wrap64 (x3_2 + 1)) l0_0 l0_1) else (some false)) = some r := H
          have A13 := yD A130
          clear A130
          by_cases c14 : t136 = true
          ·
           subst c14
           replace H : (spec_l07Box.l0 k2 (wrap64 (x3_2 + 1)) l0_0 l0_1) = some r := (by rw [if_pos rfl] at H; exact H)
           have H' := yD H
           clear H
           obtain ⟨hcz15_0, hcz15_1⟩ := cz2 BK131.out
           obtain ⟨hfz15_0, hfz15_1⟩ := fz2 BK131.out
           try go_wp2
           have n0_ := yD (yO BK131.out)
           have n1_ := yD (yP HB.out)
           clear BK131 HB; have BK131 := n0_; have HB := n1_; clear n0_ n1_
           have p132 : 0 ≤ (x3_2 : Int) := zP (by assumption)
           have q132 : x3_2 < (l0_1.length : Int) := zP (by assumption)
           obtain ⟨ad132, e132, hx132_0⟩ := Kd.at_int HR0_1.out x3_2 p132 q132
           have hw132_0 := hx132_0; cases e132
           replace hx132_0 := (HB.out.cell (zQ w _ hx132_0)).trans hx132_0
           replace p132 := eq_true p132; replace q132 := eq_true q132
           have p134 : 0 ≤ (x3_2 : Int) := zP (by assumption)
           have q134 : x3_2 < (l0_0.length : Int) := zP (by assumption)
           obtain ⟨ad134, e134, hx134_0⟩ := Kd.at_int HR0_0.out x3_2 p134 q134
           have hw134_0 := hx134_0; cases e134
           replace hx134_0 := (HB.out.cell (zQ w _ hx134_0)).trans hx134_0
           replace p134 := eq_true p134; replace q134 := eq_true q134
           have p135 : 0 ≤ (x3_2 : Int) := zP (by assumption)
           have q135 : x3_2 < (l0_1.length : Int) := zP (by assumption)
           obtain ⟨ad135, e135, hx135_0⟩ := Kd.at_int HR0_1.out x3_2 p135 q135
           have hw135_0 := hx135_0
           obtain rfl : ad132 = ad135 := (by injection e135)
           replace hx135_0 := (HB.out.cell (zQ w _ hx135_0)).trans hx135_0
           replace p135 := eq_true p135; replace q135 := eq_true q135
           refine start_ (n := 22) (S := fun w' => w'.cell? ⟨gb131, 0, none⟩ = some (.slice (some ad134) l0_0.length c0_0) ∧ w'.cell? ⟨gb131, 1, none⟩ = some (.slice (some ad132) l0_1.length c0_1) ∧ w'.cell? (ad132.add (x3_2).toNat) = some (.int .i64 (rd l0_1 x3_2)) ∧ w'.cell? (ad134.add (x3_2).toNat) = some (.int .i64 (rd l0_0 x3_2)) ∧ w'.cell? (ad132.add (x3_2).toNat) = some (.int .i64 (rd l0_1 x3_2))) (ds := []) (bz 22 0) (by kernel_rfl) rfl rfl ⟨(yG BK131.out 0).trans rfl, (yG BK131.out 1).trans rfl, ((HB.out.cell (zQ w _ hw132_0)).trans hw132_0), ((HB.out.cell (zQ w _ hw134_0)).trans hw134_0), ((HB.out.cell (zQ w _ hw135_0)).trans hw135_0)⟩ (fun hHeld => ?_); refine with_tabW spec_l07Box.tab6 spec_l07Box.bits6 (fun HT_ HW_ => ?_)
           generalize wr.drew = w16 at BK131 HB hx132_0 hx134_0 hx135_0 hHeld ⊢
           refine qA 0 24 (bz 22 1) HT_ ?_
           refine qA 2 26 (bz 22 5) HT_ ?_
           refine qC 1 25 (bz 22 7) HT_ HW_ hHeld ?_ (hy := by rintro w' ⟨s0, s1, s2, s3, s4⟩; go_simp; with_reducible rfl)
           refine qA 3 27 (bz 22 15) HT_ ?_
           refine qC 4 28 (bz 22 31) HT_ HW_ hHeld ?_ (hy := by rintro w' ⟨s0, s1, s2, s3, s4⟩; go_simp; with_reducible rfl)
           refine one_ (i := 5) (N := some 29) (bz 22 63) rfl rfl (one_of HT_.out (by kernel_rfl)) (by decide) (fun K hK => ?_)
           refine goes_ Try.func92 (by kernel_rfl) rfl #[.int .i64 (rd l0_1 x3_2), .int .i64 1, .int .i64 40] (by rfl) rfl rfl (by (try simp only [zK, zL, zM]); first | done | rfl | (simp only [zN, zO]; rfl)) ?_
           with_reducible refine (spec_l00In.calls (rd l0_1 x3_2) 1 40 true _ A11.out).mono ?_
           rintro e w' ⟨rfl, ⟨nd, rfl⟩⟩
           refine ⟨_, rfl, ?_⟩
           refine hK.out _ _ ⟨(yG BK131.out 0).trans rfl, (yG BK131.out 1).trans rfl, ((HB.out.cell (zQ w _ hw132_0)).trans hw132_0), ((HB.out.cell (zQ w _ hw134_0)).trans hw134_0), ((HB.out.cell (zQ w _ hw135_0)).trans hw135_0)⟩ (fun hHeld => ?_)
           clear hK K
           refine norm_ (a' := ?_) ?_ ?_
           rotate_left
           · show Act.put _ (some 29) _ = _
             simp only [Act.put, zH, zI, zJ, i64_w, i32_w]
             rfl
           refine qA 6 30 (bz 22 127) HT_ ?_
           refine qA 7 31 (bz 22 255) HT_ ?_
           refine qA 8 32 (bz 22 511) HT_ ?_
           refine qA 10 34 (bz 22 1535) HT_ ?_
           refine qA 13 37 (bz 22 9727) HT_ ?_
           refine qA 15 39 (bz 22 42495) HT_ ?_
           refine qC 9 33 (bz 22 43007) HT_ HW_ hHeld ?_ (hy := by rintro w' ⟨s0, s1, s2, s3, s4⟩; go_simp; with_reducible rfl)
           refine qA 11 35 (bz 22 45055) HT_ ?_
           refine qC 12 36 (bz 22 49151) HT_ HW_ hHeld ?_ (hy := by rintro w' ⟨s0, s1, s2, s3, s4⟩; go_simp; with_reducible rfl)
           refine qC 14 38 (bz 22 65535) HT_ HW_ hHeld ?_ (hy := by rintro w' ⟨s0, s1, s2, s3, s4⟩; go_simp; with_reducible rfl)
           refine qA 16 40 (bz 22 131071) HT_ ?_
           refine qC 17 41 (bz 22 262143) HT_ HW_ hHeld ?_ (hy := by rintro w' ⟨s0, s1, s2, s3, s4⟩; go_simp; with_reducible rfl)
           refine qA 18 42 (bz 22 524287) HT_ ?_
           refine one_ (i := 19) (N := some 43) (bz 22 1048575) rfl rfl (one_of HT_.out (by kernel_rfl)) (by decide) (fun K hK => ?_)
           refine goes_ Try.func92 (by kernel_rfl) rfl #[.int .i64 (rd l0_0 x3_2), .int .i64 0, .int .i64 (wrap64 ((rd l0_1 x3_2) - 1))] (by rfl) rfl rfl (by (try simp only [zK, zL, zM]); first | done | rfl | (simp only [zN, zO]; rfl)) ?_
           with_reducible refine (spec_l00In.calls (rd l0_0 x3_2) 0 (wrap64 ((rd l0_1 x3_2) - 1)) true _ A13.out).mono ?_
           rintro e w' ⟨rfl, ⟨nd, rfl⟩⟩
           refine ⟨_, rfl, ?_⟩
           refine hK.out _ _ ⟨(yG BK131.out 0).trans rfl, (yG BK131.out 1).trans rfl, ((HB.out.cell (zQ w _ hw132_0)).trans hw132_0), ((HB.out.cell (zQ w _ hw134_0)).trans hw134_0), ((HB.out.cell (zQ w _ hw135_0)).trans hw135_0)⟩ (fun hHeld => ?_)
           clear hK K
           refine norm_ (a' := ?_) ?_ ?_
           rotate_left
           · show Act.put _ (some 43) _ = _
             simp only [Act.put, zH, zI, zJ, i64_w, i32_w]
             rfl
           refine qA 20 44 (bz 22 2097151) HT_ ?_
           refine qA 21 45 (bz 22 4194303) HT_ ?_
           refine done_ (done_of HT_.out (by kernel_rfl)) ?_
           try go_wp2
           go_roundg k2
           case measure => have := HJ1.out; have := HK2.out; omega
           case rel => exact ⟨(wrap64 (x3_2 + 1)), (by first | rfl | (simp; done) | (simp [*]; done)), H', ⟨by have := HJ1.out; have := HK2.out; omega⟩, ⟨kM BK131⟩, ⟨kR0 HB⟩⟩
          ·
           replace c14 := Bool.eq_false_iff.mpr c14
           subst c14
           replace H : (some false) = some r := (by rw [if_neg (show ¬ (false = true) by decide)] at H; exact H); obtain rfl := Option.some.inj H
           obtain ⟨hcz17_0, hcz17_1⟩ := cz2 BK131.out
           obtain ⟨hfz17_0, hfz17_1⟩ := fz2 BK131.out
           try go_wp2
           have n0_ := yD (yO BK131.out)
           have n1_ := yD (yP HB.out)
           clear BK131 HB; have BK131 := n0_; have HB := n1_; clear n0_ n1_
           have p132 : 0 ≤ (x3_2 : Int) := zP (by assumption)
           have q132 : x3_2 < (l0_1.length : Int) := zP (by assumption)
           obtain ⟨ad132, e132, hx132_0⟩ := Kd.at_int HR0_1.out x3_2 p132 q132
           have hw132_0 := hx132_0; cases e132
           replace hx132_0 := (HB.out.cell (zQ w _ hx132_0)).trans hx132_0
           replace p132 := eq_true p132; replace q132 := eq_true q132
           have p134 : 0 ≤ (x3_2 : Int) := zP (by assumption)
           have q134 : x3_2 < (l0_0.length : Int) := zP (by assumption)
           obtain ⟨ad134, e134, hx134_0⟩ := Kd.at_int HR0_0.out x3_2 p134 q134
           have hw134_0 := hx134_0; cases e134
           replace hx134_0 := (HB.out.cell (zQ w _ hx134_0)).trans hx134_0
           replace p134 := eq_true p134; replace q134 := eq_true q134
           have p135 : 0 ≤ (x3_2 : Int) := zP (by assumption)
           have q135 : x3_2 < (l0_1.length : Int) := zP (by assumption)
           obtain ⟨ad135, e135, hx135_0⟩ := Kd.at_int HR0_1.out x3_2 p135 q135
           have hw135_0 := hx135_0
           obtain rfl : ad132 = ad135 := (by injection e135)
           replace hx135_0 := (HB.out.cell (zQ w _ hx135_0)).trans hx135_0
           replace p135 := eq_true p135; replace q135 := eq_true q135
           refine start_ (n := 22) (S := fun w' => w'.cell? ⟨gb131, 0, none⟩ = some (.slice (some ad134) l0_0.length c0_0) ∧ w'.cell? ⟨gb131, 1, none⟩ = some (.slice (some ad132) l0_1.length c0_1) ∧ w'.cell? (ad132.add (x3_2).toNat) = some (.int .i64 (rd l0_1 x3_2)) ∧ w'.cell? (ad134.add (x3_2).toNat) = some (.int .i64 (rd l0_0 x3_2)) ∧ w'.cell? (ad132.add (x3_2).toNat) = some (.int .i64 (rd l0_1 x3_2))) (ds := []) (bz 22 0) (by kernel_rfl) rfl rfl ⟨(yG BK131.out 0).trans rfl, (yG BK131.out 1).trans rfl, ((HB.out.cell (zQ w _ hw132_0)).trans hw132_0), ((HB.out.cell (zQ w _ hw134_0)).trans hw134_0), ((HB.out.cell (zQ w _ hw135_0)).trans hw135_0)⟩ (fun hHeld => ?_); refine with_tabW spec_l07Box.tab6 spec_l07Box.bits6 (fun HT_ HW_ => ?_)
           generalize wr.drew = w18 at BK131 HB hx132_0 hx134_0 hx135_0 hHeld ⊢
           refine qA 0 24 (bz 22 1) HT_ ?_
           refine qA 2 26 (bz 22 5) HT_ ?_
           refine qC 1 25 (bz 22 7) HT_ HW_ hHeld ?_ (hy := by rintro w' ⟨s0, s1, s2, s3, s4⟩; go_simp; with_reducible rfl)
           refine qA 3 27 (bz 22 15) HT_ ?_
           refine qC 4 28 (bz 22 31) HT_ HW_ hHeld ?_ (hy := by rintro w' ⟨s0, s1, s2, s3, s4⟩; go_simp; with_reducible rfl)
           refine one_ (i := 5) (N := some 29) (bz 22 63) rfl rfl (one_of HT_.out (by kernel_rfl)) (by decide) (fun K hK => ?_)
           refine goes_ Try.func92 (by kernel_rfl) rfl #[.int .i64 (rd l0_1 x3_2), .int .i64 1, .int .i64 40] (by rfl) rfl rfl (by (try simp only [zK, zL, zM]); first | done | rfl | (simp only [zN, zO]; rfl)) ?_
           with_reducible refine (spec_l00In.calls (rd l0_1 x3_2) 1 40 true _ A11.out).mono ?_
           rintro e w' ⟨rfl, ⟨nd, rfl⟩⟩
           refine ⟨_, rfl, ?_⟩
           refine hK.out _ _ ⟨(yG BK131.out 0).trans rfl, (yG BK131.out 1).trans rfl, ((HB.out.cell (zQ w _ hw132_0)).trans hw132_0), ((HB.out.cell (zQ w _ hw134_0)).trans hw134_0), ((HB.out.cell (zQ w _ hw135_0)).trans hw135_0)⟩ (fun hHeld => ?_)
           clear hK K
           refine norm_ (a' := ?_) ?_ ?_
           rotate_left
           · show Act.put _ (some 29) _ = _
             simp only [Act.put, zH, zI, zJ, i64_w, i32_w]
             rfl
           refine qA 6 30 (bz 22 127) HT_ ?_
           refine qA 7 31 (bz 22 255) HT_ ?_
           refine qA 8 32 (bz 22 511) HT_ ?_
           refine qA 10 34 (bz 22 1535) HT_ ?_
           refine qA 13 37 (bz 22 9727) HT_ ?_
           refine qA 15 39 (bz 22 42495) HT_ ?_
           refine qC 9 33 (bz 22 43007) HT_ HW_ hHeld ?_ (hy := by rintro w' ⟨s0, s1, s2, s3, s4⟩; go_simp; with_reducible rfl)
           refine qA 11 35 (bz 22 45055) HT_ ?_
           refine qC 12 36 (bz 22 49151) HT_ HW_ hHeld ?_ (hy := by rintro w' ⟨s0, s1, s2, s3, s4⟩; go_simp; with_reducible rfl)
           refine qC 14 38 (bz 22 65535) HT_ HW_ hHeld ?_ (hy := by rintro w' ⟨s0, s1, s2, s3, s4⟩; go_simp; with_reducible rfl)
           refine qA 16 40 (bz 22 131071) HT_ ?_
           refine qC 17 41 (bz 22 262143) HT_ HW_ hHeld ?_ (hy := by rintro w' ⟨s0, s1, s2, s3, s4⟩; go_simp; with_reducible rfl)
           refine qA 18 42 (bz 22 524287) HT_ ?_
           refine one_ (i := 19) (N := some 43) (bz 22 1048575) rfl rfl (one_of HT_.out (by kernel_rfl)) (by decide) (fun K hK => ?_)
           refine goes_ Try.func92 (by kernel_rfl) rfl #[.int .i64 (rd l0_0 x3_2), .int .i64 0, .int .i64 (wrap64 ((rd l0_1 x3_2) - 1))] (by rfl) rfl rfl (by (try simp only [zK, zL, zM]); first | done | rfl | (simp only [zN, zO]; rfl)) ?_
           with_reducible refine (spec_l00In.calls (rd l0_0 x3_2) 0 (wrap64 ((rd l0_1 x3_2) - 1)) false _ A13.out).mono ?_
           rintro e w' ⟨rfl, ⟨nd, rfl⟩⟩
           refine ⟨_, rfl, ?_⟩
           refine hK.out _ _ ⟨(yG BK131.out 0).trans rfl, (yG BK131.out 1).trans rfl, ((HB.out.cell (zQ w _ hw132_0)).trans hw132_0), ((HB.out.cell (zQ w _ hw134_0)).trans hw134_0), ((HB.out.cell (zQ w _ hw135_0)).trans hw135_0)⟩ (fun hHeld => ?_)
           clear hK K
           refine norm_ (a' := ?_) ?_ ?_
           rotate_left
           · show Act.put _ (some 43) _ = _
             simp only [Act.put, zH, zI, zJ, i64_w, i32_w]
             rfl
           refine qA 20 44 (bz 22 2097151) HT_ ?_
           refine qA 21 45 (bz 22 4194303) HT_ ?_
           refine done_ (done_of HT_.out (by kernel_rfl)) ?_
           try go_wp2
           go_ret
           exact ⟨by first | rfl | (simp <;> rfl) | (simp [*] <;> rfl), kR0 HB⟩
         ·
          replace c12 := Bool.eq_false_iff.mpr c12
          subst c12
          replace H : (some false) = some r := (by rw [if_neg (show ¬ (false = true) by decide)] at H; exact H); obtain rfl := Option.some.inj H
          obtain ⟨hcz19_0, hcz19_1⟩ := cz2 BK131.out
          obtain ⟨hfz19_0, hfz19_1⟩ := fz2 BK131.out
          try go_wp2
          have n0_ := yD (yO BK131.out)
          have n1_ := yD (yP HB.out)
          clear BK131 HB; have BK131 := n0_; have HB := n1_; clear n0_ n1_
          have p132 : 0 ≤ (x3_2 : Int) := zP (by assumption)
          have q132 : x3_2 < (l0_1.length : Int) := zP (by assumption)
          obtain ⟨ad132, e132, hx132_0⟩ := Kd.at_int HR0_1.out x3_2 p132 q132
          have hw132_0 := hx132_0; cases e132
          replace hx132_0 := (HB.out.cell (zQ w _ hx132_0)).trans hx132_0
          replace p132 := eq_true p132; replace q132 := eq_true q132
          refine start_ (n := 22) (S := fun w' => w'.cell? ⟨gb131, 0, none⟩ = some (.slice A0_0 l0_0.length c0_0) ∧ w'.cell? ⟨gb131, 1, none⟩ = some (.slice (some ad132) l0_1.length c0_1) ∧ w'.cell? (ad132.add (x3_2).toNat) = some (.int .i64 (rd l0_1 x3_2))) (ds := []) (bz 22 0) (by kernel_rfl) rfl rfl ⟨(yG BK131.out 0).trans rfl, (yG BK131.out 1).trans rfl, ((HB.out.cell (zQ w _ hw132_0)).trans hw132_0)⟩ (fun hHeld => ?_); refine with_tabW spec_l07Box.tab6 spec_l07Box.bits6 (fun HT_ HW_ => ?_)
          generalize wr.drew = w20 at BK131 HB hx132_0 hHeld ⊢
          refine qA 0 24 (bz 22 1) HT_ ?_
          refine qA 2 26 (bz 22 5) HT_ ?_
          refine qC 1 25 (bz 22 7) HT_ HW_ hHeld ?_ (hy := by rintro w' ⟨s0, s1, s2⟩; go_simp; with_reducible rfl)
          refine qA 3 27 (bz 22 15) HT_ ?_
          refine qC 4 28 (bz 22 31) HT_ HW_ hHeld ?_ (hy := by rintro w' ⟨s0, s1, s2⟩; go_simp; with_reducible rfl)
          refine one_ (i := 5) (N := some 29) (bz 22 63) rfl rfl (one_of HT_.out (by kernel_rfl)) (by decide) (fun K hK => ?_)
          refine goes_ Try.func92 (by kernel_rfl) rfl #[.int .i64 (rd l0_1 x3_2), .int .i64 1, .int .i64 40] (by rfl) rfl rfl (by (try simp only [zK, zL, zM]); first | done | rfl | (simp only [zN, zO]; rfl)) ?_
          with_reducible refine (spec_l00In.calls (rd l0_1 x3_2) 1 40 false _ A11.out).mono ?_
          rintro e w' ⟨rfl, ⟨nd, rfl⟩⟩
          refine ⟨_, rfl, ?_⟩
          refine hK.out _ _ ⟨(yG BK131.out 0).trans rfl, (yG BK131.out 1).trans rfl, ((HB.out.cell (zQ w _ hw132_0)).trans hw132_0)⟩ (fun hHeld => ?_)
          clear hK K
          refine norm_ (a' := ?_) ?_ ?_
          rotate_left
          · show Act.put _ (some 29) _ = _
            simp only [Act.put, zH, zI, zJ, i64_w, i32_w]
            rfl
          refine qA 6 30 (bz 22 127) HT_ ?_
          refine qA 7 31 (bz 22 255) HT_ ?_
          refine qB 8 32 (bz 22 511) HT_ ?_
          refine qB 9 33 (bz 22 1023) HT_ ?_
          refine qB 10 34 (bz 22 2047) HT_ ?_
          refine qB 11 35 (bz 22 4095) HT_ ?_
          refine qB 12 36 (bz 22 8191) HT_ ?_
          refine qB 13 37 (bz 22 16383) HT_ ?_
          refine qB 14 38 (bz 22 32767) HT_ ?_
          refine qB 15 39 (bz 22 65535) HT_ ?_
          refine qB 16 40 (bz 22 131071) HT_ ?_
          refine qB 17 41 (bz 22 262143) HT_ ?_
          refine qB 18 42 (bz 22 524287) HT_ ?_
          refine qB 19 43 (bz 22 1048575) HT_ ?_
          refine qB 20 44 (bz 22 2097151) HT_ ?_
          refine qA 21 45 (bz 22 4194303) HT_ ?_
          refine done_ (done_of HT_.out (by kernel_rfl)) ?_
          try go_wp2
          go_ret
          exact ⟨by first | rfl | (simp <;> rfl) | (simp [*] <;> rfl), kR0 HB⟩
        · rw [if_neg c10] at H
          exact absurd H (by simp)
       · rw [if_neg c9] at H
         exact absurd H (by simp)
      · rw [if_neg c8] at H
        have c8b0 : decide (x3_2 < (l0_0.length : Int)) = false := zS c8; clear c8; obtain rfl := Option.some.inj H
        obtain ⟨hcz21_0, hcz21_1⟩ := cz2 BK131.out
        obtain ⟨hfz21_0, hfz21_1⟩ := fz2 BK131.out
        go_wp2
        go_ret
        exact ⟨by first | rfl | (simp <;> rfl) | (simp [*] <;> rfl), kR0 HB⟩

end Go.Proofs.Ytdiaebjbiddefaa.PFnExactSubtractBoxes
