/- Each Go function here comes to what the plain function of its name says, where that says something. Made by a program of this session, over the print. -/
import Derived.Test.YtdiaebjbiddefaaPFnExactSelectedIndicesx0
import Derived.Test.YtdiaebjbiddefaaPFnExactSelectedIndicesx13
namespace Go.Proofs.Ytdiaebjbiddefaa.PFnExactSelectedIndices
open Go.RowKit Go.Proofs.YtdiaebjbiddefaaW.PrintWords Go.Proofs.YtdiaebjbiddefaaW.PrintLast Go.Proofs.YtdiaebjbiddefaaW.PrintMore
attribute [local go_sem] max2_int min2_int max_two min_two max_three min_three max_four min_four   -- for this text's walks alone
set_option linter.unusedVariables false
set_option linter.unusedSimpArgs false

/-! ### laws_eqPoint: function 120 -/
def laws_eqPoint.f (k : Nat) (l0_0 : List Int) (l1_0 : List Int) : Option (Bool) := (laws_eqInt64S.f k l0_0 l1_0).bind fun t368 => (if t368 = true then (some true) else (some false))
theorem laws_eqPoint.mono : ∀ a0 a1 k, LeO (laws_eqPoint.f k a0 a1) (laws_eqPoint.f (k + 1) a0 a1) := by
 intro a0 a1 k
 unfold laws_eqPoint.f
 repeat' (with_reducible first | exact laws_eqInt64S.mono _ _ _ | exact LeO.refl _ | exact LeO.none _ | refine LeO.ite ?_ ?_ | refine LeO.bind ?_ (fun _ => ?_))
set_option maxHeartbeats 8000000 in
set_option maxRecDepth 100000 in
theorem laws_eqPoint.calls (k : Nat) (A0_0 : Option Addr) (c0_0 : Nat) (l0_0 : List Int) (A1_0 : Option Addr) (c1_0 : Nat) (l1_0 : List Int) (r : Bool) (w : World) (hr0_0 : Kd.C (Kd.int .i64) w A0_0 l0_0.length l0_0) (hc0_0 : l0_0.length ≤ c0_0) (hr1_0 : Kd.C (Kd.int .i64) w A1_0 l1_0.length l1_0) (hc1_0 : l1_0.length ≤ c1_0) (h : laws_eqPoint.f k l0_0 l1_0 = some r) :
 Calls Try.prog 120 #[.agg #[.slice A0_0 l0_0.length c0_0], .agg #[.slice A1_0 l1_0.length c1_0]] w fun e w' => e = .returned (.bool r) ∧ Below w.heap.size w w' := by
 have hu110 := Try.underlying110
 have HR0_0 := yD hr0_0
 have HC0_0 := yD hc0_0
 clear hr0_0 hc0_0
 have HR1_0 := yD hr1_0
 have HC1_0 := yD hc1_0
 clear hr1_0 hc1_0
 have HB := yD (Below.refl w.heap.size w)
 have H : ((laws_eqInt64S.f k l0_0 l1_0).bind fun t368 => (if t368 = true then (some true) else (some false))) = some r := h
 clear h
 obtain ⟨t368, A30, H⟩ := zW_ H
 replace H : (if t368 = true then (some true) else (some false)) = some r := H
 have A3 := yD A30
 clear A30
 by_cases c4 : t368 = true
 ·
  subst c4
  have H1 : (some true) = some r := by rw [if_pos rfl] at H; exact H
  clear H; have H := H1; clear H1; obtain rfl := Option.some.inj H; go_enter Try.func120, Try.ntmps120
  go_wp2_with (first | ((with_reducible refine gate_dst (N := 2) rfl ?_); refine box_event ?hg (N := 2) ?hd (cs := #[.slice A0_0 l0_0.length c0_0]) (t := 110) ?hr ?_; (case hd => rfl); (case hg => rfl); (case hr => first | (go_simp; done) | (go_simp; rfl)); intro gb366 hg w5 hbox hb; have n0_ := yD (zC (kB HB) hb); have n1_ := yD (hbox); have n2_ := yD ((by rw [hg]; exact (below_size (kB HB)) : w.heap.size ≤ gb366)); have n3_ := yD ((by rw [hg]; exact (below_size (kB HB)) : w.heap.size ≤ gb366)); clear HB; have HB := n0_; have BK366 := n1_; have GW366 := n2_; have GE366 := n3_; clear n0_ n1_ n2_ n3_; clear hb hbox hg) | ((with_reducible refine gate_dst (N := 3) rfl ?_); refine box_event ?hg (N := 3) ?hd (cs := #[.slice A1_0 l1_0.length c1_0]) (t := 110) ?hr ?_; (case hd => rfl); (case hg => rfl); (case hr => first | (go_simp; done) | (go_simp; rfl)); intro gb367 hg w6 hbox hb; have n0_ := yD (zB (kN BK366) hb); have n1_ := yD (zC (kB HB) hb); have n2_ := yD (hbox); have n3_ := yD ((by rw [hg]; exact (below_size (kB HB)) : w.heap.size ≤ gb367)); have n4_ := yD ((by rw [hg]; exact (below_size (kB HB)) : w.heap.size ≤ gb367)); have n5_ := yD ((by rw [hg]; exact Nat.ne_of_lt (blk_lt (kN BK366)) : gb366 ≠ gb367)); have n6_ := yD ((by rw [hg]; exact Nat.ne_of_gt (blk_lt (kN BK366)) : gb367 ≠ gb366)); clear BK366; clear HB; have BK366 := n0_; have HB := n1_; have BK367 := n2_; have GW367 := n3_; have GE367 := n4_; have NB366_367 := n5_; have NB367_366 := n6_; clear n0_ n1_ n2_ n3_ n4_ n5_ n6_; clear hb hbox hg; have hnb7 := NB366_367.out; have hnc7 := NB367_366.out; have hcz8_0 : w6.cell? ⟨gb366, 0, none⟩ = some (.slice A0_0 l0_0.length c0_0) := (yG BK366.out 0).trans rfl; have hfz8_0 := yR BK366.out 0; have hcz9_0 : w6.cell? ⟨gb367, 0, none⟩ = some (.slice A1_0 l1_0.length c1_0) := (yG BK367.out 0).trans rfl; have hfz9_0 := yR BK367.out 0) | ((with_reducible refine gate_callee (f := 42) rfl ?_); refine gL 9 Try.func42 #[.slice A0_0 l0_0.length c0_0, .slice A1_0 l1_0.length c1_0] ?_; (with_reducible refine (laws_eqInt64S.calls k _ _ l0_0 _ _ l1_0 true _ ?side1 ?side2 ?side3 ?side4 A3.out).mono ?_); (case side1 => exact kV (yY HR0_0.out HB.out)); (case side2 => exact HC0_0.out); (case side3 => exact kV (yY HR1_0.out HB.out)); (case side4 => exact HC1_0.out); rintro e w' ⟨rfl, ⟨nd, rfl⟩⟩; refine ⟨_, rfl, ?_⟩))
  go_ret
  exact ⟨by first | rfl | (simp <;> rfl) | (simp [*] <;> rfl), kR0 HB⟩
 ·
  replace c4 := Bool.eq_false_iff.mpr c4
  subst c4
  have H1 : (some false) = some r := by rw [if_neg (show ¬ (false = true) by decide)] at H; exact H
  clear H; have H := H1; clear H1; obtain rfl := Option.some.inj H; go_enter Try.func120, Try.ntmps120
  go_wp2_with (first | ((with_reducible refine gate_dst (N := 2) rfl ?_); refine box_event ?hg (N := 2) ?hd (cs := #[.slice A0_0 l0_0.length c0_0]) (t := 110) ?hr ?_; (case hd => rfl); (case hg => rfl); (case hr => first | (go_simp; done) | (go_simp; rfl)); intro gb366 hg w10 hbox hb; have n0_ := yD (zC (kB HB) hb); have n1_ := yD (hbox); have n2_ := yD ((by rw [hg]; exact (below_size (kB HB)) : w.heap.size ≤ gb366)); have n3_ := yD ((by rw [hg]; exact (below_size (kB HB)) : w.heap.size ≤ gb366)); clear HB; have HB := n0_; have BK366 := n1_; have GW366 := n2_; have GE366 := n3_; clear n0_ n1_ n2_ n3_; clear hb hbox hg) | ((with_reducible refine gate_dst (N := 3) rfl ?_); refine box_event ?hg (N := 3) ?hd (cs := #[.slice A1_0 l1_0.length c1_0]) (t := 110) ?hr ?_; (case hd => rfl); (case hg => rfl); (case hr => first | (go_simp; done) | (go_simp; rfl)); intro gb367 hg w11 hbox hb; have n0_ := yD (zB (kN BK366) hb); have n1_ := yD (zC (kB HB) hb); have n2_ := yD (hbox); have n3_ := yD ((by rw [hg]; exact (below_size (kB HB)) : w.heap.size ≤ gb367)); have n4_ := yD ((by rw [hg]; exact (below_size (kB HB)) : w.heap.size ≤ gb367)); have n5_ := yD ((by rw [hg]; exact Nat.ne_of_lt (blk_lt (kN BK366)) : gb366 ≠ gb367)); have n6_ := yD ((by rw [hg]; exact Nat.ne_of_gt (blk_lt (kN BK366)) : gb367 ≠ gb366)); clear BK366; clear HB; have BK366 := n0_; have HB := n1_; have BK367 := n2_; have GW367 := n3_; have GE367 := n4_; have NB366_367 := n5_; have NB367_366 := n6_; clear n0_ n1_ n2_ n3_ n4_ n5_ n6_; clear hb hbox hg; have hnb12 := NB366_367.out; have hnc12 := NB367_366.out; have hcz13_0 : w11.cell? ⟨gb366, 0, none⟩ = some (.slice A0_0 l0_0.length c0_0) := (yG BK366.out 0).trans rfl; have hfz13_0 := yR BK366.out 0; have hcz14_0 : w11.cell? ⟨gb367, 0, none⟩ = some (.slice A1_0 l1_0.length c1_0) := (yG BK367.out 0).trans rfl; have hfz14_0 := yR BK367.out 0) | ((with_reducible refine gate_callee (f := 42) rfl ?_); refine gL 9 Try.func42 #[.slice A0_0 l0_0.length c0_0, .slice A1_0 l1_0.length c1_0] ?_; (with_reducible refine (laws_eqInt64S.calls k _ _ l0_0 _ _ l1_0 false _ ?side1 ?side2 ?side3 ?side4 A3.out).mono ?_); (case side1 => exact kV (yY HR0_0.out HB.out)); (case side2 => exact HC0_0.out); (case side3 => exact kV (yY HR1_0.out HB.out)); (case side4 => exact HC1_0.out); rintro e w' ⟨rfl, ⟨nd, rfl⟩⟩; refine ⟨_, rfl, ?_⟩))
  go_ret
  exact ⟨by first | rfl | (simp <;> rfl) | (simp [*] <;> rfl), kR0 HB⟩

/-! ### laws_eqPointS: function 82 -/
def laws_eqPointS.l0 : Nat → List (S110) → List (S110) → Int → Option (Bool)
 | 0, _, _, _ => none
 | k + 1, x0, x1, x5 => if x5 < (x0.length : Int) then (if 0 ≤ x5 then (if x5 < (x1.length : Int) then ((laws_eqPoint.f k ((rd_T110 x0 x5).f0) ((rd_T110 x1 x5).f0)).bind fun t371 => (if t371 = true then (laws_eqPointS.l0 k x0 x1 (wrap64 (x5 + 1))) else (some false))) else (none)) else (none)) else (some true)
def laws_eqPointS.f (k : Nat) (l0 : List (S110)) (l1 : List (S110)) : Option (Bool) := if (l0.length : Int) = (l1.length : Int) then (laws_eqPointS.l0 k l0 l1 0) else (some false)
theorem laws_eqPointS.mono_l : ∀ k, (∀ y0 y1 y2, LeO (laws_eqPointS.l0 k y0 y1 y2) (laws_eqPointS.l0 (k + 1) y0 y1 y2))
 | 0 => fun _ _ _ r h => by simp [laws_eqPointS.l0] at h
 | k + 1 => by
  have ih0 := laws_eqPointS.mono_l k
  ·
   intro y0 y1 y2
   unfold laws_eqPointS.l0
   repeat' (with_reducible first | exact ih0 _ _ _ | exact laws_eqPoint.mono _ _ _ | exact LeO.refl _ | exact LeO.none _ | refine LeO.ite ?_ ?_ | refine LeO.bind ?_ (fun _ => ?_))
theorem laws_eqPointS.mono : ∀ a0 a1 k, LeO (laws_eqPointS.f k a0 a1) (laws_eqPointS.f (k + 1) a0 a1) := by
 intro a0 a1 k
 have ih0 := laws_eqPointS.mono_l k
 unfold laws_eqPointS.f
 repeat' (with_reducible first | exact ih0 _ _ _ | exact laws_eqPoint.mono _ _ _ | exact LeO.refl _ | exact LeO.none _ | refine LeO.ite ?_ ?_ | refine LeO.bind ?_ (fun _ => ?_))
def laws_eqPointS.T6 : Bool × List (List Nat × List Nat) := (true, [([], []), ([], []), ([0, 1], [0, 1]), ([2], [2]), ([], []), ([], []), ([4, 5], [4, 5]), ([6], [6]), ([3, 7], [3, 7]), ([8], [8])])
def laws_eqPointS.B6 : List Nat := [0, 0, 3, 7, 0, 0, 48, 112, 255, 511]
theorem laws_eqPointS.tab6 : rtab .any (opsOf Try.f82 6) = laws_eqPointS.T6 := by kernel_rfl
theorem laws_eqPointS.bits6 : waitsOk laws_eqPointS.T6.2 laws_eqPointS.B6 = true := by kernel_rfl
abbrev laws_eqPointS.Q_0 : Array Bool := (bz 10 0)
abbrev laws_eqPointS.Q_1 : Array Bool := (bz 10 1)
abbrev laws_eqPointS.Q_2 : Array Bool := (bz 10 3)
abbrev laws_eqPointS.Q_3 : Array Bool := (bz 10 7)
abbrev laws_eqPointS.Q_4 : Array Bool := (bz 10 23)
abbrev laws_eqPointS.Q_5 : Array Bool := (bz 10 55)
abbrev laws_eqPointS.Q_6 : Array Bool := (bz 10 119)
abbrev laws_eqPointS.Q_7 : Array Bool := (bz 10 127)
abbrev laws_eqPointS.Q_8 : Array Bool := (bz 10 255)
abbrev laws_eqPointS.Q_9 : Array Bool := (bz 10 511)
abbrev laws_eqPointS.Q_10 : Array Bool := (bz 10 1023)
set_option maxHeartbeats 8000000 in
set_option maxRecDepth 100000 in
theorem laws_eqPointS.calls (k : Nat) (A0 : Option Addr) (c0 : Nat) (l0 : List (S110)) (A1 : Option Addr) (c1 : Nat) (l1 : List (S110)) (r : Bool) (w : World) (hr0 : Kd.C k110 w A0 l0.length l0) (hc0 : l0.length ≤ c0) (hr1 : Kd.C k110 w A1 l1.length l1) (hc1 : l1.length ≤ c1) (h : laws_eqPointS.f k l0 l1 = some r) :
 Calls Try.prog 82 #[.slice A0 l0.length c0, .slice A1 l1.length c1] w fun e w' => e = .returned (.bool r) ∧ Below w.heap.size w w' := by
 have hu110 := Try.underlying110
 have HR0 := yD hr0
 have HC0 := yD hc0
 clear hr0 hc0
 have HR1 := yD hr1
 have HC1 := yD hc1
 clear hr1 hc1
 have HB := yD (Below.refl w.heap.size w)
 have H : (if (l0.length : Int) = (l1.length : Int) then (laws_eqPointS.l0 k l0 l1 0) else (some false)) = some r := h
 clear h
 by_cases c3 : (l0.length : Int) = (l1.length : Int)
 ·
  rw [if_pos c3] at H
  have c3b0 : ((l0.length : Int) == (l1.length : Int)) = true := beq_iff_eq.mpr c3
  have c3b1 : ((l0.length : Int) != (l1.length : Int)) = false := bne_eq_false_iff_eq.mpr c3
  have c3b2 : (l0.length == l1.length) = true := by first | simpa using c3 | (simp at c3 ⊢; omega)
  clear c3
  have H' := yD H
  clear H; go_enter Try.func82, Try.ntmps82
  go_wp2
  go_loopg [5] k (fun kq v5 w' => ∃ (x5_1 : Int), v5 = .int .i64 x5_1 ∧ Aside0 (laws_eqPointS.l0 kq l0 l1 x5_1 = some r) ∧ Aside0 (kq ≤ k) ∧ Aside0 (Below w.heap.size w w'))
  case atStart => exact ⟨(0), (by first | rfl | (simp; done) | (simp [*]; done)), H', ⟨Nat.le_refl _⟩, ⟨kR1 HB⟩⟩
  case round =>
   clear H'
   try clear c1; try clear p2; try clear c3; try clear c3b0; try clear c3b1; try clear c3b2
   obtain ⟨x5_1, rfl, HA, HK1, HB⟩ := hrel
   cases gk with
   | zero => exact absurd HA.out (by simp [laws_eqPointS.l0])
   | succ k1 =>
    have H := HA.out; clear HA
    simp only [laws_eqPointS.l0] at H
    by_cases c4 : x5_1 < (l0.length : Int)
    ·
     rw [if_pos c4] at H; have c4b0 : decide (x5_1 < (l0.length : Int)) = true := zR c4; clear c4
     by_cases c5 : 0 ≤ x5_1
     ·
      rw [if_pos c5] at H; have c5b0 : decide (0 ≤ x5_1) = true := zR c5; clear c5
      by_cases c6 : x5_1 < (l1.length : Int)
      ·
       rw [if_pos c6] at H; have c6b0 : decide (x5_1 < (l1.length : Int)) = true := zR c6; clear c6
       obtain ⟨t371, A70, H⟩ := zW_ H
       replace H : (if t371 = true then (laws_eqPointS.l0 k1 l0 l1 (wrap64 (x5_1 + 1))) else (some false)) = some r := H
       have A7 := yD A70
       clear A70
       by_cases c8 : t371 = true
       ·
        subst c8
        have H1 : (laws_eqPointS.l0 k1 l0 l1 (wrap64 (x5_1 + 1))) = some r := by rw [if_pos rfl] at H; exact H
        clear H; have H := H1; clear H1
        have H' := yD H
        clear H
        try go_wp2
        have n0_ := yD (yP HB.out)
        clear HB; have HB := n0_; clear n0_
        have p369 : 0 ≤ (x5_1 : Int) := zP (by assumption)
        have q369 : x5_1 < (l0.length : Int) := zP (by assumption)
        obtain ⟨ad369, A369_0, c369_0, e369, hx369_0, hl369_0, hi369_0⟩ := at_T110 HR0.out x5_1 p369 q369
        have hw369_0 := hx369_0; cases e369
        replace hx369_0 := (HB.out.cell (zQ w _ hx369_0)).trans hx369_0
        have HR369_0 := yD hi369_0
        have HC369_0 := yD hl369_0
        clear hi369_0 hl369_0; replace p369 := eq_true p369; replace q369 := eq_true q369
        have p370 : 0 ≤ (x5_1 : Int) := zP (by assumption)
        have q370 : x5_1 < (l1.length : Int) := zP (by assumption)
        obtain ⟨ad370, A370_0, c370_0, e370, hx370_0, hl370_0, hi370_0⟩ := at_T110 HR1.out x5_1 p370 q370
        have hw370_0 := hx370_0; cases e370
        replace hx370_0 := (HB.out.cell (zQ w _ hx370_0)).trans hx370_0
        have HR370_0 := yD hi370_0
        have HC370_0 := yD hl370_0
        clear hi370_0 hl370_0; replace p370 := eq_true p370; replace q370 := eq_true q370
        refine start_ (n := 10) (S := fun w' => w'.cell? (ad369.add (x5_1).toNat) = some (.slice A369_0 ((rd_T110 l0 x5_1).f0).length c369_0) ∧ w'.cell? (ad370.add (x5_1).toNat) = some (.slice A370_0 ((rd_T110 l1 x5_1).f0).length c370_0)) (ds := []) Q_0 (by kernel_rfl) rfl rfl ⟨((HB.out.cell (zQ w _ hw369_0)).trans hw369_0), ((HB.out.cell (zQ w _ hw370_0)).trans hw370_0)⟩ (fun hHeld => ?_); refine with_tabW laws_eqPointS.tab6 laws_eqPointS.bits6 (fun HT_ HW_ => ?_)
        generalize wr.drew = w9 at HB HR369_0 HR370_0 hx369_0 hx370_0 hHeld ⊢
        refine qA 0 17 Q_1 HT_ ?_
        refine qA 1 18 Q_2 HT_ ?_
        refine qA 2 19 Q_3 HT_ ?_
        refine qA 4 21 Q_4 HT_ ?_
        refine qA 5 22 Q_5 HT_ ?_
        refine qA 6 23 Q_6 HT_ ?_
        refine qC 3 20 Q_7 HT_ HW_ hHeld ?_ (hy := by rintro w' ⟨s0, s1⟩; go_simp; with_reducible rfl)
        refine qC 7 24 Q_8 HT_ HW_ hHeld ?_ (hy := by rintro w' ⟨s0, s1⟩; go_simp; with_reducible rfl)
        refine one_ (i := 8) (N := some 25) Q_9 rfl rfl (one_of HT_.out (by kernel_rfl)) (by decide) (fun K hK => ?_)
        refine goes_ Try.func120 (by kernel_rfl) rfl #[.agg #[.slice A369_0 ((rd_T110 l0 x5_1).f0).length c369_0], .agg #[.slice A370_0 ((rd_T110 l1 x5_1).f0).length c370_0]] (by rfl) rfl rfl (by (try simp only [zK, zL, zM]); first | done | rfl | (simp only [zN, zO]; rfl)) ?_
        with_reducible refine (laws_eqPoint.calls k1 _ _ ((rd_T110 l0 x5_1).f0) _ _ ((rd_T110 l1 x5_1).f0) true _ ?side1 ?side2 ?side3 ?side4 A7.out).mono ?_
        (case side1 => exact kV (yY HR369_0.out HB.out))
        (case side2 => exact HC369_0.out)
        (case side3 => exact kV (yY HR370_0.out HB.out))
        (case side4 => exact HC370_0.out)
        rintro e w10 ⟨rfl, hb⟩
        refine ⟨_, rfl, ?_⟩
        have n0_ := yD (zC (kB HB) hb)
        clear HB; have HB := n0_; clear n0_; (try clear hb); (try clear hb2); (try clear hk); (try clear hi)
        refine hK.out _ _ ⟨((HB.out.cell (zQ w _ hw369_0)).trans hw369_0), ((HB.out.cell (zQ w _ hw370_0)).trans hw370_0)⟩ (fun hHeld => ?_)
        clear hK K
        refine norm_ (by show Act.put _ (some 25) _ = _; simp only [Act.put, zH, zI, zJ, i64_w, i32_w]; rfl) ?_
        refine qA 9 26 Q_10 HT_ ?_
        refine done_ (done_of HT_.out (by kernel_rfl)) ?_
        try go_wp2
        go_roundg k1
        case measure => have := HK1.out; omega
        case rel => exact ⟨(wrap64 (x5_1 + 1)), (by first | rfl | (simp; done) | (simp [*]; done)), H', ⟨by have := HK1.out; omega⟩, ⟨kR1 HB⟩⟩
       ·
        replace c8 := Bool.eq_false_iff.mpr c8
        subst c8
        have H1 : (some false) = some r := by rw [if_neg (show ¬ (false = true) by decide)] at H; exact H
        clear H; have H := H1; clear H1; obtain rfl := Option.some.inj H
        try go_wp2
        have n0_ := yD (yP HB.out)
        clear HB; have HB := n0_; clear n0_
        have p369 : 0 ≤ (x5_1 : Int) := zP (by assumption)
        have q369 : x5_1 < (l0.length : Int) := zP (by assumption)
        obtain ⟨ad369, A369_0, c369_0, e369, hx369_0, hl369_0, hi369_0⟩ := at_T110 HR0.out x5_1 p369 q369
        have hw369_0 := hx369_0; cases e369
        replace hx369_0 := (HB.out.cell (zQ w _ hx369_0)).trans hx369_0
        have HR369_0 := yD hi369_0
        have HC369_0 := yD hl369_0
        clear hi369_0 hl369_0; replace p369 := eq_true p369; replace q369 := eq_true q369
        have p370 : 0 ≤ (x5_1 : Int) := zP (by assumption)
        have q370 : x5_1 < (l1.length : Int) := zP (by assumption)
        obtain ⟨ad370, A370_0, c370_0, e370, hx370_0, hl370_0, hi370_0⟩ := at_T110 HR1.out x5_1 p370 q370
        have hw370_0 := hx370_0; cases e370
        replace hx370_0 := (HB.out.cell (zQ w _ hx370_0)).trans hx370_0
        have HR370_0 := yD hi370_0
        have HC370_0 := yD hl370_0
        clear hi370_0 hl370_0; replace p370 := eq_true p370; replace q370 := eq_true q370
        refine start_ (n := 10) (S := fun w' => w'.cell? (ad369.add (x5_1).toNat) = some (.slice A369_0 ((rd_T110 l0 x5_1).f0).length c369_0) ∧ w'.cell? (ad370.add (x5_1).toNat) = some (.slice A370_0 ((rd_T110 l1 x5_1).f0).length c370_0)) (ds := []) Q_0 (by kernel_rfl) rfl rfl ⟨((HB.out.cell (zQ w _ hw369_0)).trans hw369_0), ((HB.out.cell (zQ w _ hw370_0)).trans hw370_0)⟩ (fun hHeld => ?_); refine with_tabW laws_eqPointS.tab6 laws_eqPointS.bits6 (fun HT_ HW_ => ?_)
        generalize wr.drew = w11 at HB HR369_0 HR370_0 hx369_0 hx370_0 hHeld ⊢
        refine qA 0 17 Q_1 HT_ ?_
        refine qA 1 18 Q_2 HT_ ?_
        refine qA 2 19 Q_3 HT_ ?_
        refine qA 4 21 Q_4 HT_ ?_
        refine qA 5 22 Q_5 HT_ ?_
        refine qA 6 23 Q_6 HT_ ?_
        refine qC 3 20 Q_7 HT_ HW_ hHeld ?_ (hy := by rintro w' ⟨s0, s1⟩; go_simp; with_reducible rfl)
        refine qC 7 24 Q_8 HT_ HW_ hHeld ?_ (hy := by rintro w' ⟨s0, s1⟩; go_simp; with_reducible rfl)
        refine one_ (i := 8) (N := some 25) Q_9 rfl rfl (one_of HT_.out (by kernel_rfl)) (by decide) (fun K hK => ?_)
        refine goes_ Try.func120 (by kernel_rfl) rfl #[.agg #[.slice A369_0 ((rd_T110 l0 x5_1).f0).length c369_0], .agg #[.slice A370_0 ((rd_T110 l1 x5_1).f0).length c370_0]] (by rfl) rfl rfl (by (try simp only [zK, zL, zM]); first | done | rfl | (simp only [zN, zO]; rfl)) ?_
        with_reducible refine (laws_eqPoint.calls k1 _ _ ((rd_T110 l0 x5_1).f0) _ _ ((rd_T110 l1 x5_1).f0) false _ ?side1 ?side2 ?side3 ?side4 A7.out).mono ?_
        (case side1 => exact kV (yY HR369_0.out HB.out))
        (case side2 => exact HC369_0.out)
        (case side3 => exact kV (yY HR370_0.out HB.out))
        (case side4 => exact HC370_0.out)
        rintro e w12 ⟨rfl, hb⟩
        refine ⟨_, rfl, ?_⟩
        have n0_ := yD (zC (kB HB) hb)
        clear HB; have HB := n0_; clear n0_; (try clear hb); (try clear hb2); (try clear hk); (try clear hi)
        refine hK.out _ _ ⟨((HB.out.cell (zQ w _ hw369_0)).trans hw369_0), ((HB.out.cell (zQ w _ hw370_0)).trans hw370_0)⟩ (fun hHeld => ?_)
        clear hK K
        refine norm_ (by show Act.put _ (some 25) _ = _; simp only [Act.put, zH, zI, zJ, i64_w, i32_w]; rfl) ?_
        refine qA 9 26 Q_10 HT_ ?_
        refine done_ (done_of HT_.out (by kernel_rfl)) ?_
        try go_wp2
        go_ret
        exact ⟨by first | rfl | (simp <;> rfl) | (simp [*] <;> rfl), kR1 HB⟩
      ·
       rw [if_neg c6] at H
       exact absurd H (by simp)
     ·
      rw [if_neg c5] at H
      exact absurd H (by simp)
    ·
     rw [if_neg c4] at H; have c4b0 : decide (x5_1 < (l0.length : Int)) = false := zS c4; clear c4; obtain rfl := Option.some.inj H
     go_wp2
     go_ret
     exact ⟨by first | rfl | (simp <;> rfl) | (simp [*] <;> rfl), kR1 HB⟩
 ·
  rw [if_neg c3] at H
  have c3b0 : ((l0.length : Int) == (l1.length : Int)) = false := beq_eq_false_iff_ne.mpr c3
  have c3b1 : ((l0.length : Int) != (l1.length : Int)) = true := bne_iff_ne.mpr c3
  have c3b2 : (l0.length == l1.length) = false := by first | simpa using c3 | (simp at c3 ⊢; omega)
  obtain rfl := Option.some.inj H; go_enter Try.func82, Try.ntmps82
  go_wp2
  go_ret
  exact ⟨by first | rfl | (simp <;> rfl) | (simp [*] <;> rfl), kR1 HB⟩

/-! ### laws_eqSelection: function 43 -/
def laws_eqSelection.f (k : Nat) (a0_0 : Int) (l0_1 : List Int) (l0_2 : List Int) (l0_3 : List Int) (l0_4 : List Int) (l0_5 : List (S110)) (a1_0 : Int) (l1_1 : List Int) (l1_2 : List Int) (l1_3 : List Int) (l1_4 : List Int) (l1_5 : List (S110)) : Option (Bool) := if a0_0 = a1_0 then ((laws_eqInt64S.f k l0_1 l1_1).bind fun t374 => (if t374 = true then ((laws_eqInt64S.f k l0_2 l1_2).bind fun t375 => (if t375 = true then ((laws_eqInt64S.f k l0_3 l1_3).bind fun t376 => (if t376 = true then ((laws_eqInt64S.f k l0_4 l1_4).bind fun t377 => (if t377 = true then ((laws_eqPointS.f k l0_5 l1_5).bind fun t378 => (if t378 = true then (some true) else (some false))) else (some false))) else (some false))) else (some false))) else (some false))) else (some false)
theorem laws_eqSelection.mono : ∀ a0 a1 a2 a3 a4 a5 a6 a7 a8 a9 a10 a11 k, LeO (laws_eqSelection.f k a0 a1 a2 a3 a4 a5 a6 a7 a8 a9 a10 a11) (laws_eqSelection.f (k + 1) a0 a1 a2 a3 a4 a5 a6 a7 a8 a9 a10 a11) := by
 intro a0 a1 a2 a3 a4 a5 a6 a7 a8 a9 a10 a11 k
 unfold laws_eqSelection.f
 repeat' (with_reducible first | exact laws_eqInt64S.mono _ _ _ | exact laws_eqPointS.mono _ _ _ | exact LeO.refl _ | exact LeO.none _ | refine LeO.ite ?_ ?_ | refine LeO.bind ?_ (fun _ => ?_))
set_option maxHeartbeats 8000000 in
set_option maxRecDepth 100000 in
theorem laws_eqSelection.calls (k : Nat) (a0_0 : Int) (A0_1 : Option Addr) (c0_1 : Nat) (l0_1 : List Int) (A0_2 : Option Addr) (c0_2 : Nat) (l0_2 : List Int) (A0_3 : Option Addr) (c0_3 : Nat) (l0_3 : List Int) (A0_4 : Option Addr) (c0_4 : Nat) (l0_4 : List Int) (A0_5 : Option Addr) (c0_5 : Nat) (l0_5 : List (S110)) (a1_0 : Int) (A1_1 : Option Addr) (c1_1 : Nat) (l1_1 : List Int) (A1_2 : Option Addr) (c1_2 : Nat) (l1_2 : List Int) (A1_3 : Option Addr) (c1_3 : Nat) (l1_3 : List Int) (A1_4 : Option Addr) (c1_4 : Nat) (l1_4 : List Int) (A1_5 : Option Addr) (c1_5 : Nat) (l1_5 : List (S110)) (r : Bool) (w : World) (hr0_1 : Kd.C (Kd.int .i64) w A0_1 l0_1.length l0_1) (hc0_1 : l0_1.length ≤ c0_1) (hr0_2 : Kd.C (Kd.int .i64) w A0_2 l0_2.length l0_2) (hc0_2 : l0_2.length ≤ c0_2) (hr0_3 : Kd.C (Kd.int .i64) w A0_3 l0_3.length l0_3) (hc0_3 : l0_3.length ≤ c0_3) (hr0_4 : Kd.C (Kd.int .i64) w A0_4 l0_4.length l0_4) (hc0_4 : l0_4.length ≤ c0_4) (hr0_5 : Kd.C k110 w A0_5 l0_5.length l0_5) (hc0_5 : l0_5.length ≤ c0_5) (hr1_1 : Kd.C (Kd.int .i64) w A1_1 l1_1.length l1_1) (hc1_1 : l1_1.length ≤ c1_1) (hr1_2 : Kd.C (Kd.int .i64) w A1_2 l1_2.length l1_2) (hc1_2 : l1_2.length ≤ c1_2) (hr1_3 : Kd.C (Kd.int .i64) w A1_3 l1_3.length l1_3) (hc1_3 : l1_3.length ≤ c1_3) (hr1_4 : Kd.C (Kd.int .i64) w A1_4 l1_4.length l1_4) (hc1_4 : l1_4.length ≤ c1_4) (hr1_5 : Kd.C k110 w A1_5 l1_5.length l1_5) (hc1_5 : l1_5.length ≤ c1_5) (h : laws_eqSelection.f k a0_0 l0_1 l0_2 l0_3 l0_4 l0_5 a1_0 l1_1 l1_2 l1_3 l1_4 l1_5 = some r) :
 Calls Try.prog 43 #[.agg #[.int .i64 a0_0, .slice A0_1 l0_1.length c0_1, .slice A0_2 l0_2.length c0_2, .slice A0_3 l0_3.length c0_3, .slice A0_4 l0_4.length c0_4, .slice A0_5 l0_5.length c0_5], .agg #[.int .i64 a1_0, .slice A1_1 l1_1.length c1_1, .slice A1_2 l1_2.length c1_2, .slice A1_3 l1_3.length c1_3, .slice A1_4 l1_4.length c1_4, .slice A1_5 l1_5.length c1_5]] w fun e w' => e = .returned (.bool r) ∧ Below w.heap.size w w' := by
 have hu55 := Try.underlying55
 have HR0_1 := yD hr0_1
 have HC0_1 := yD hc0_1
 clear hr0_1 hc0_1
 have HR0_2 := yD hr0_2
 have HC0_2 := yD hc0_2
 clear hr0_2 hc0_2
 have HR0_3 := yD hr0_3
 have HC0_3 := yD hc0_3
 clear hr0_3 hc0_3
 have HR0_4 := yD hr0_4
 have HC0_4 := yD hc0_4
 clear hr0_4 hc0_4
 have HR0_5 := yD hr0_5
 have HC0_5 := yD hc0_5
 clear hr0_5 hc0_5
 have HR1_1 := yD hr1_1
 have HC1_1 := yD hc1_1
 clear hr1_1 hc1_1
 have HR1_2 := yD hr1_2
 have HC1_2 := yD hc1_2
 clear hr1_2 hc1_2
 have HR1_3 := yD hr1_3
 have HC1_3 := yD hc1_3
 clear hr1_3 hc1_3
 have HR1_4 := yD hr1_4
 have HC1_4 := yD hc1_4
 clear hr1_4 hc1_4
 have HR1_5 := yD hr1_5
 have HC1_5 := yD hc1_5
 clear hr1_5 hc1_5
 have HB := yD (Below.refl w.heap.size w)
 have H : (if a0_0 = a1_0 then ((laws_eqInt64S.f k l0_1 l1_1).bind fun t374 => (if t374 = true then ((laws_eqInt64S.f k l0_2 l1_2).bind fun t375 => (if t375 = true then ((laws_eqInt64S.f k l0_3 l1_3).bind fun t376 => (if t376 = true then ((laws_eqInt64S.f k l0_4 l1_4).bind fun t377 => (if t377 = true then ((laws_eqPointS.f k l0_5 l1_5).bind fun t378 => (if t378 = true then (some true) else (some false))) else (some false))) else (some false))) else (some false))) else (some false))) else (some false)) = some r := h
 clear h
 by_cases c3 : a0_0 = a1_0
 ·
  rw [if_pos c3] at H
  have c3b0 : (a0_0 == a1_0) = true := beq_iff_eq.mpr c3
  have c3b1 : (a0_0 != a1_0) = false := bne_eq_false_iff_eq.mpr c3
  clear c3
  obtain ⟨t374, A40, H⟩ := zW_ H
  replace H : (if t374 = true then ((laws_eqInt64S.f k l0_2 l1_2).bind fun t375 => (if t375 = true then ((laws_eqInt64S.f k l0_3 l1_3).bind fun t376 => (if t376 = true then ((laws_eqInt64S.f k l0_4 l1_4).bind fun t377 => (if t377 = true then ((laws_eqPointS.f k l0_5 l1_5).bind fun t378 => (if t378 = true then (some true) else (some false))) else (some false))) else (some false))) else (some false))) else (some false)) = some r := H
  have A4 := yD A40
  clear A40
  by_cases c5 : t374 = true
  ·
   subst c5
   have H1 : ((laws_eqInt64S.f k l0_2 l1_2).bind fun t375 => (if t375 = true then ((laws_eqInt64S.f k l0_3 l1_3).bind fun t376 => (if t376 = true then ((laws_eqInt64S.f k l0_4 l1_4).bind fun t377 => (if t377 = true then ((laws_eqPointS.f k l0_5 l1_5).bind fun t378 => (if t378 = true then (some true) else (some false))) else (some false))) else (some false))) else (some false))) = some r := by rw [if_pos rfl] at H; exact H
   clear H; have H := H1; clear H1
   obtain ⟨t375, A60, H⟩ := zW_ H
   replace H : (if t375 = true then ((laws_eqInt64S.f k l0_3 l1_3).bind fun t376 => (if t376 = true then ((laws_eqInt64S.f k l0_4 l1_4).bind fun t377 => (if t377 = true then ((laws_eqPointS.f k l0_5 l1_5).bind fun t378 => (if t378 = true then (some true) else (some false))) else (some false))) else (some false))) else (some false)) = some r := H
   have A6 := yD A60
   clear A60
   by_cases c7 : t375 = true
   ·
    subst c7
    have H1 : ((laws_eqInt64S.f k l0_3 l1_3).bind fun t376 => (if t376 = true then ((laws_eqInt64S.f k l0_4 l1_4).bind fun t377 => (if t377 = true then ((laws_eqPointS.f k l0_5 l1_5).bind fun t378 => (if t378 = true then (some true) else (some false))) else (some false))) else (some false))) = some r := by rw [if_pos rfl] at H; exact H
    clear H; have H := H1; clear H1
    obtain ⟨t376, A80, H⟩ := zW_ H
    replace H : (if t376 = true then ((laws_eqInt64S.f k l0_4 l1_4).bind fun t377 => (if t377 = true then ((laws_eqPointS.f k l0_5 l1_5).bind fun t378 => (if t378 = true then (some true) else (some false))) else (some false))) else (some false)) = some r := H
    have A8 := yD A80
    clear A80
    by_cases c9 : t376 = true
    ·
     subst c9
     have H1 : ((laws_eqInt64S.f k l0_4 l1_4).bind fun t377 => (if t377 = true then ((laws_eqPointS.f k l0_5 l1_5).bind fun t378 => (if t378 = true then (some true) else (some false))) else (some false))) = some r := by rw [if_pos rfl] at H; exact H
     clear H; have H := H1; clear H1
     obtain ⟨t377, A100, H⟩ := zW_ H
     replace H : (if t377 = true then ((laws_eqPointS.f k l0_5 l1_5).bind fun t378 => (if t378 = true then (some true) else (some false))) else (some false)) = some r := H
     have A10 := yD A100
     clear A100
     by_cases c11 : t377 = true
     ·
      subst c11
      have H1 : ((laws_eqPointS.f k l0_5 l1_5).bind fun t378 => (if t378 = true then (some true) else (some false))) = some r := by rw [if_pos rfl] at H; exact H
      clear H; have H := H1; clear H1
      obtain ⟨t378, A120, H⟩ := zW_ H
      replace H : (if t378 = true then (some true) else (some false)) = some r := H
      have A12 := yD A120
      clear A120
      by_cases c13 : t378 = true
      ·
       subst c13
       have H1 : (some true) = some r := by rw [if_pos rfl] at H; exact H
       clear H; have H := H1; clear H1; obtain rfl := Option.some.inj H; go_enter Try.func43, Try.ntmps43
       go_wp2_with (first | ((with_reducible refine gate_dst (N := 2) rfl ?_); refine box_event ?hg (N := 2) ?hd (cs := #[.int .i64 a0_0, .slice A0_1 l0_1.length c0_1, .slice A0_2 l0_2.length c0_2, .slice A0_3 l0_3.length c0_3, .slice A0_4 l0_4.length c0_4, .slice A0_5 l0_5.length c0_5]) (t := 55) ?hr ?_; (case hd => rfl); (case hg => rfl); (case hr => first | (go_simp; done) | (go_simp; rfl)); intro gb372 hg w14 hbox hb; have n0_ := yD (zC (kB HB) hb); have n1_ := yD (hbox); have n2_ := yD ((by rw [hg]; exact (below_size (kB HB)) : w.heap.size ≤ gb372)); have n3_ := yD ((by rw [hg]; exact (below_size (kB HB)) : w.heap.size ≤ gb372)); clear HB; have HB := n0_; have BK372 := n1_; have GW372 := n2_; have GE372 := n3_; clear n0_ n1_ n2_ n3_; clear hb hbox hg) | ((with_reducible refine gate_dst (N := 3) rfl ?_); refine box_event ?hg (N := 3) ?hd (cs := #[.int .i64 a1_0, .slice A1_1 l1_1.length c1_1, .slice A1_2 l1_2.length c1_2, .slice A1_3 l1_3.length c1_3, .slice A1_4 l1_4.length c1_4, .slice A1_5 l1_5.length c1_5]) (t := 55) ?hr ?_; (case hd => rfl); (case hg => rfl); (case hr => first | (go_simp; done) | (go_simp; rfl)); intro gb373 hg w15 hbox hb; have n0_ := yD (zB (kN BK372) hb); have n1_ := yD (zC (kB HB) hb); have n2_ := yD (hbox); have n3_ := yD ((by rw [hg]; exact (below_size (kB HB)) : w.heap.size ≤ gb373)); have n4_ := yD ((by rw [hg]; exact (below_size (kB HB)) : w.heap.size ≤ gb373)); have n5_ := yD ((by rw [hg]; exact Nat.ne_of_lt (blk_lt (kN BK372)) : gb372 ≠ gb373)); have n6_ := yD ((by rw [hg]; exact Nat.ne_of_gt (blk_lt (kN BK372)) : gb373 ≠ gb372)); clear BK372; clear HB; have BK372 := n0_; have HB := n1_; have BK373 := n2_; have GW373 := n3_; have GE373 := n4_; have NB372_373 := n5_; have NB373_372 := n6_; clear n0_ n1_ n2_ n3_ n4_ n5_ n6_; clear hb hbox hg; have hnb16 := NB372_373.out; have hnc16 := NB373_372.out; obtain ⟨hcz17_0, hcz17_1, hcz17_2, hcz17_3, hcz17_4, hcz17_5⟩ := cz6 BK372.out; obtain ⟨hfz17_0, hfz17_1, hfz17_2, hfz17_3, hfz17_4, hfz17_5⟩ := fz6 BK372.out; obtain ⟨hcz18_0, hcz18_1, hcz18_2, hcz18_3, hcz18_4, hcz18_5⟩ := cz6 BK373.out; obtain ⟨hfz18_0, hfz18_1, hfz18_2, hfz18_3, hfz18_4, hfz18_5⟩ := fz6 BK373.out) | ((with_reducible refine gate_callee (f := 42) rfl ?_); refine gL 14 Try.func42 #[.slice A0_1 l0_1.length c0_1, .slice A1_1 l1_1.length c1_1] ?_; (with_reducible refine (laws_eqInt64S.calls k _ _ l0_1 _ _ l1_1 true _ ?side1 ?side2 ?side3 ?side4 A4.out).mono ?_); (case side1 => exact kV (yY HR0_1.out HB.out)); (case side2 => exact HC0_1.out); (case side3 => exact kV (yY HR1_1.out HB.out)); (case side4 => exact HC1_1.out); rintro e w' ⟨rfl, ⟨nd, rfl⟩⟩; refine ⟨_, rfl, ?_⟩) | ((with_reducible refine gate_callee (f := 42) rfl ?_); refine gL 20 Try.func42 #[.slice A0_2 l0_2.length c0_2, .slice A1_2 l1_2.length c1_2] ?_; (with_reducible refine (laws_eqInt64S.calls k _ _ l0_2 _ _ l1_2 true _ ?side1 ?side2 ?side3 ?side4 A6.out).mono ?_); (case side1 => exact yY HR0_2.out (kB HB)); (case side2 => exact HC0_2.out); (case side3 => exact yY HR1_2.out (kB HB)); (case side4 => exact HC1_2.out); rintro e w' ⟨rfl, ⟨nd, rfl⟩⟩; refine ⟨_, rfl, ?_⟩) | ((with_reducible refine gate_callee (f := 42) rfl ?_); refine gL 26 Try.func42 #[.slice A0_3 l0_3.length c0_3, .slice A1_3 l1_3.length c1_3] ?_; (with_reducible refine (laws_eqInt64S.calls k _ _ l0_3 _ _ l1_3 true _ ?side1 ?side2 ?side3 ?side4 A8.out).mono ?_); (case side1 => exact yY HR0_3.out (kB HB)); (case side2 => exact HC0_3.out); (case side3 => exact yY HR1_3.out (kB HB)); (case side4 => exact HC1_3.out); rintro e w' ⟨rfl, ⟨nd, rfl⟩⟩; refine ⟨_, rfl, ?_⟩) | ((with_reducible refine gate_callee (f := 42) rfl ?_); refine gL 32 Try.func42 #[.slice A0_4 l0_4.length c0_4, .slice A1_4 l1_4.length c1_4] ?_; (with_reducible refine (laws_eqInt64S.calls k _ _ l0_4 _ _ l1_4 true _ ?side1 ?side2 ?side3 ?side4 A10.out).mono ?_); (case side1 => exact yY HR0_4.out (kB HB)); (case side2 => exact HC0_4.out); (case side3 => exact yY HR1_4.out (kB HB)); (case side4 => exact HC1_4.out); rintro e w' ⟨rfl, ⟨nd, rfl⟩⟩; refine ⟨_, rfl, ?_⟩) | ((with_reducible refine gate_callee (f := 82) rfl ?_); refine gL 38 Try.func82 #[.slice A0_5 l0_5.length c0_5, .slice A1_5 l1_5.length c1_5] ?_; (with_reducible refine (laws_eqPointS.calls k _ _ l0_5 _ _ l1_5 true _ ?side1 ?side2 ?side3 ?side4 A12.out).mono ?_); (case side1 => exact yY HR0_5.out (kB HB)); (case side2 => exact HC0_5.out); (case side3 => exact yY HR1_5.out (kB HB)); (case side4 => exact HC1_5.out); rintro e w19 ⟨rfl, hb⟩; refine ⟨_, rfl, ?_⟩; have n0_ := yD (zB (kN BK372) hb); have n1_ := yD (zB (kN BK373) hb); have n2_ := yD (zC (kB HB) hb); clear BK372; clear BK373; clear HB; have BK372 := n0_; have BK373 := n1_; have HB := n2_; clear n0_ n1_ n2_; (try clear hb); (try clear hb2); (try clear hk); (try clear hi)))
       go_ret
       exact ⟨by first | rfl | (simp <;> rfl) | (simp [*] <;> rfl), kR0 HB⟩
      ·
       replace c13 := Bool.eq_false_iff.mpr c13
       subst c13
       have H1 : (some false) = some r := by rw [if_neg (show ¬ (false = true) by decide)] at H; exact H
       clear H; have H := H1; clear H1; obtain rfl := Option.some.inj H; go_enter Try.func43, Try.ntmps43
       go_wp2_with (first | ((with_reducible refine gate_dst (N := 2) rfl ?_); refine box_event ?hg (N := 2) ?hd (cs := #[.int .i64 a0_0, .slice A0_1 l0_1.length c0_1, .slice A0_2 l0_2.length c0_2, .slice A0_3 l0_3.length c0_3, .slice A0_4 l0_4.length c0_4, .slice A0_5 l0_5.length c0_5]) (t := 55) ?hr ?_; (case hd => rfl); (case hg => rfl); (case hr => first | (go_simp; done) | (go_simp; rfl)); intro gb372 hg w20 hbox hb; have n0_ := yD (zC (kB HB) hb); have n1_ := yD (hbox); have n2_ := yD ((by rw [hg]; exact (below_size (kB HB)) : w.heap.size ≤ gb372)); have n3_ := yD ((by rw [hg]; exact (below_size (kB HB)) : w.heap.size ≤ gb372)); clear HB; have HB := n0_; have BK372 := n1_; have GW372 := n2_; have GE372 := n3_; clear n0_ n1_ n2_ n3_; clear hb hbox hg) | ((with_reducible refine gate_dst (N := 3) rfl ?_); refine box_event ?hg (N := 3) ?hd (cs := #[.int .i64 a1_0, .slice A1_1 l1_1.length c1_1, .slice A1_2 l1_2.length c1_2, .slice A1_3 l1_3.length c1_3, .slice A1_4 l1_4.length c1_4, .slice A1_5 l1_5.length c1_5]) (t := 55) ?hr ?_; (case hd => rfl); (case hg => rfl); (case hr => first | (go_simp; done) | (go_simp; rfl)); intro gb373 hg w21 hbox hb; have n0_ := yD (zB (kN BK372) hb); have n1_ := yD (zC (kB HB) hb); have n2_ := yD (hbox); have n3_ := yD ((by rw [hg]; exact (below_size (kB HB)) : w.heap.size ≤ gb373)); have n4_ := yD ((by rw [hg]; exact (below_size (kB HB)) : w.heap.size ≤ gb373)); have n5_ := yD ((by rw [hg]; exact Nat.ne_of_lt (blk_lt (kN BK372)) : gb372 ≠ gb373)); have n6_ := yD ((by rw [hg]; exact Nat.ne_of_gt (blk_lt (kN BK372)) : gb373 ≠ gb372)); clear BK372; clear HB; have BK372 := n0_; have HB := n1_; have BK373 := n2_; have GW373 := n3_; have GE373 := n4_; have NB372_373 := n5_; have NB373_372 := n6_; clear n0_ n1_ n2_ n3_ n4_ n5_ n6_; clear hb hbox hg; have hnb22 := NB372_373.out; have hnc22 := NB373_372.out; obtain ⟨hcz23_0, hcz23_1, hcz23_2, hcz23_3, hcz23_4, hcz23_5⟩ := cz6 BK372.out; obtain ⟨hfz23_0, hfz23_1, hfz23_2, hfz23_3, hfz23_4, hfz23_5⟩ := fz6 BK372.out; obtain ⟨hcz24_0, hcz24_1, hcz24_2, hcz24_3, hcz24_4, hcz24_5⟩ := cz6 BK373.out; obtain ⟨hfz24_0, hfz24_1, hfz24_2, hfz24_3, hfz24_4, hfz24_5⟩ := fz6 BK373.out) | ((with_reducible refine gate_callee (f := 42) rfl ?_); refine gL 14 Try.func42 #[.slice A0_1 l0_1.length c0_1, .slice A1_1 l1_1.length c1_1] ?_; (with_reducible refine (laws_eqInt64S.calls k _ _ l0_1 _ _ l1_1 true _ ?side1 ?side2 ?side3 ?side4 A4.out).mono ?_); (case side1 => exact kV (yY HR0_1.out HB.out)); (case side2 => exact HC0_1.out); (case side3 => exact kV (yY HR1_1.out HB.out)); (case side4 => exact HC1_1.out); rintro e w' ⟨rfl, ⟨nd, rfl⟩⟩; refine ⟨_, rfl, ?_⟩) | ((with_reducible refine gate_callee (f := 42) rfl ?_); refine gL 20 Try.func42 #[.slice A0_2 l0_2.length c0_2, .slice A1_2 l1_2.length c1_2] ?_; (with_reducible refine (laws_eqInt64S.calls k _ _ l0_2 _ _ l1_2 true _ ?side1 ?side2 ?side3 ?side4 A6.out).mono ?_); (case side1 => exact yY HR0_2.out (kB HB)); (case side2 => exact HC0_2.out); (case side3 => exact yY HR1_2.out (kB HB)); (case side4 => exact HC1_2.out); rintro e w' ⟨rfl, ⟨nd, rfl⟩⟩; refine ⟨_, rfl, ?_⟩) | ((with_reducible refine gate_callee (f := 42) rfl ?_); refine gL 26 Try.func42 #[.slice A0_3 l0_3.length c0_3, .slice A1_3 l1_3.length c1_3] ?_; (with_reducible refine (laws_eqInt64S.calls k _ _ l0_3 _ _ l1_3 true _ ?side1 ?side2 ?side3 ?side4 A8.out).mono ?_); (case side1 => exact yY HR0_3.out (kB HB)); (case side2 => exact HC0_3.out); (case side3 => exact yY HR1_3.out (kB HB)); (case side4 => exact HC1_3.out); rintro e w' ⟨rfl, ⟨nd, rfl⟩⟩; refine ⟨_, rfl, ?_⟩) | ((with_reducible refine gate_callee (f := 42) rfl ?_); refine gL 32 Try.func42 #[.slice A0_4 l0_4.length c0_4, .slice A1_4 l1_4.length c1_4] ?_; (with_reducible refine (laws_eqInt64S.calls k _ _ l0_4 _ _ l1_4 true _ ?side1 ?side2 ?side3 ?side4 A10.out).mono ?_); (case side1 => exact yY HR0_4.out (kB HB)); (case side2 => exact HC0_4.out); (case side3 => exact yY HR1_4.out (kB HB)); (case side4 => exact HC1_4.out); rintro e w' ⟨rfl, ⟨nd, rfl⟩⟩; refine ⟨_, rfl, ?_⟩) | ((with_reducible refine gate_callee (f := 82) rfl ?_); refine gL 38 Try.func82 #[.slice A0_5 l0_5.length c0_5, .slice A1_5 l1_5.length c1_5] ?_; (with_reducible refine (laws_eqPointS.calls k _ _ l0_5 _ _ l1_5 false _ ?side1 ?side2 ?side3 ?side4 A12.out).mono ?_); (case side1 => exact yY HR0_5.out (kB HB)); (case side2 => exact HC0_5.out); (case side3 => exact yY HR1_5.out (kB HB)); (case side4 => exact HC1_5.out); rintro e w25 ⟨rfl, hb⟩; refine ⟨_, rfl, ?_⟩; have n0_ := yD (zB (kN BK372) hb); have n1_ := yD (zB (kN BK373) hb); have n2_ := yD (zC (kB HB) hb); clear BK372; clear BK373; clear HB; have BK372 := n0_; have BK373 := n1_; have HB := n2_; clear n0_ n1_ n2_; (try clear hb); (try clear hb2); (try clear hk); (try clear hi)))
       go_ret
       exact ⟨by first | rfl | (simp <;> rfl) | (simp [*] <;> rfl), kR0 HB⟩
     ·
      replace c11 := Bool.eq_false_iff.mpr c11
      subst c11
      have H1 : (some false) = some r := by rw [if_neg (show ¬ (false = true) by decide)] at H; exact H
      clear H; have H := H1; clear H1; obtain rfl := Option.some.inj H; go_enter Try.func43, Try.ntmps43
      go_wp2_with (first | ((with_reducible refine gate_dst (N := 2) rfl ?_); refine box_event ?hg (N := 2) ?hd (cs := #[.int .i64 a0_0, .slice A0_1 l0_1.length c0_1, .slice A0_2 l0_2.length c0_2, .slice A0_3 l0_3.length c0_3, .slice A0_4 l0_4.length c0_4, .slice A0_5 l0_5.length c0_5]) (t := 55) ?hr ?_; (case hd => rfl); (case hg => rfl); (case hr => first | (go_simp; done) | (go_simp; rfl)); intro gb372 hg w26 hbox hb; have n0_ := yD (zC (kB HB) hb); have n1_ := yD (hbox); have n2_ := yD ((by rw [hg]; exact (below_size (kB HB)) : w.heap.size ≤ gb372)); have n3_ := yD ((by rw [hg]; exact (below_size (kB HB)) : w.heap.size ≤ gb372)); clear HB; have HB := n0_; have BK372 := n1_; have GW372 := n2_; have GE372 := n3_; clear n0_ n1_ n2_ n3_; clear hb hbox hg) | ((with_reducible refine gate_dst (N := 3) rfl ?_); refine box_event ?hg (N := 3) ?hd (cs := #[.int .i64 a1_0, .slice A1_1 l1_1.length c1_1, .slice A1_2 l1_2.length c1_2, .slice A1_3 l1_3.length c1_3, .slice A1_4 l1_4.length c1_4, .slice A1_5 l1_5.length c1_5]) (t := 55) ?hr ?_; (case hd => rfl); (case hg => rfl); (case hr => first | (go_simp; done) | (go_simp; rfl)); intro gb373 hg w27 hbox hb; have n0_ := yD (zB (kN BK372) hb); have n1_ := yD (zC (kB HB) hb); have n2_ := yD (hbox); have n3_ := yD ((by rw [hg]; exact (below_size (kB HB)) : w.heap.size ≤ gb373)); have n4_ := yD ((by rw [hg]; exact (below_size (kB HB)) : w.heap.size ≤ gb373)); have n5_ := yD ((by rw [hg]; exact Nat.ne_of_lt (blk_lt (kN BK372)) : gb372 ≠ gb373)); have n6_ := yD ((by rw [hg]; exact Nat.ne_of_gt (blk_lt (kN BK372)) : gb373 ≠ gb372)); clear BK372; clear HB; have BK372 := n0_; have HB := n1_; have BK373 := n2_; have GW373 := n3_; have GE373 := n4_; have NB372_373 := n5_; have NB373_372 := n6_; clear n0_ n1_ n2_ n3_ n4_ n5_ n6_; clear hb hbox hg; have hnb28 := NB372_373.out; have hnc28 := NB373_372.out; obtain ⟨hcz29_0, hcz29_1, hcz29_2, hcz29_3, hcz29_4, hcz29_5⟩ := cz6 BK372.out; obtain ⟨hfz29_0, hfz29_1, hfz29_2, hfz29_3, hfz29_4, hfz29_5⟩ := fz6 BK372.out; obtain ⟨hcz30_0, hcz30_1, hcz30_2, hcz30_3, hcz30_4, hcz30_5⟩ := cz6 BK373.out; obtain ⟨hfz30_0, hfz30_1, hfz30_2, hfz30_3, hfz30_4, hfz30_5⟩ := fz6 BK373.out) | ((with_reducible refine gate_callee (f := 42) rfl ?_); refine gL 14 Try.func42 #[.slice A0_1 l0_1.length c0_1, .slice A1_1 l1_1.length c1_1] ?_; (with_reducible refine (laws_eqInt64S.calls k _ _ l0_1 _ _ l1_1 true _ ?side1 ?side2 ?side3 ?side4 A4.out).mono ?_); (case side1 => exact kV (yY HR0_1.out HB.out)); (case side2 => exact HC0_1.out); (case side3 => exact kV (yY HR1_1.out HB.out)); (case side4 => exact HC1_1.out); rintro e w' ⟨rfl, ⟨nd, rfl⟩⟩; refine ⟨_, rfl, ?_⟩) | ((with_reducible refine gate_callee (f := 42) rfl ?_); refine gL 20 Try.func42 #[.slice A0_2 l0_2.length c0_2, .slice A1_2 l1_2.length c1_2] ?_; (with_reducible refine (laws_eqInt64S.calls k _ _ l0_2 _ _ l1_2 true _ ?side1 ?side2 ?side3 ?side4 A6.out).mono ?_); (case side1 => exact yY HR0_2.out (kB HB)); (case side2 => exact HC0_2.out); (case side3 => exact yY HR1_2.out (kB HB)); (case side4 => exact HC1_2.out); rintro e w' ⟨rfl, ⟨nd, rfl⟩⟩; refine ⟨_, rfl, ?_⟩) | ((with_reducible refine gate_callee (f := 42) rfl ?_); refine gL 26 Try.func42 #[.slice A0_3 l0_3.length c0_3, .slice A1_3 l1_3.length c1_3] ?_; (with_reducible refine (laws_eqInt64S.calls k _ _ l0_3 _ _ l1_3 true _ ?side1 ?side2 ?side3 ?side4 A8.out).mono ?_); (case side1 => exact yY HR0_3.out (kB HB)); (case side2 => exact HC0_3.out); (case side3 => exact yY HR1_3.out (kB HB)); (case side4 => exact HC1_3.out); rintro e w' ⟨rfl, ⟨nd, rfl⟩⟩; refine ⟨_, rfl, ?_⟩) | ((with_reducible refine gate_callee (f := 42) rfl ?_); refine gL 32 Try.func42 #[.slice A0_4 l0_4.length c0_4, .slice A1_4 l1_4.length c1_4] ?_; (with_reducible refine (laws_eqInt64S.calls k _ _ l0_4 _ _ l1_4 false _ ?side1 ?side2 ?side3 ?side4 A10.out).mono ?_); (case side1 => exact yY HR0_4.out (kB HB)); (case side2 => exact HC0_4.out); (case side3 => exact yY HR1_4.out (kB HB)); (case side4 => exact HC1_4.out); rintro e w' ⟨rfl, ⟨nd, rfl⟩⟩; refine ⟨_, rfl, ?_⟩))
      go_ret
      exact ⟨by first | rfl | (simp <;> rfl) | (simp [*] <;> rfl), kR0 HB⟩
    ·
     replace c9 := Bool.eq_false_iff.mpr c9
     subst c9
     have H1 : (some false) = some r := by rw [if_neg (show ¬ (false = true) by decide)] at H; exact H
     clear H; have H := H1; clear H1; obtain rfl := Option.some.inj H; go_enter Try.func43, Try.ntmps43
     go_wp2_with (first | ((with_reducible refine gate_dst (N := 2) rfl ?_); refine box_event ?hg (N := 2) ?hd (cs := #[.int .i64 a0_0, .slice A0_1 l0_1.length c0_1, .slice A0_2 l0_2.length c0_2, .slice A0_3 l0_3.length c0_3, .slice A0_4 l0_4.length c0_4, .slice A0_5 l0_5.length c0_5]) (t := 55) ?hr ?_; (case hd => rfl); (case hg => rfl); (case hr => first | (go_simp; done) | (go_simp; rfl)); intro gb372 hg w31 hbox hb; have n0_ := yD (zC (kB HB) hb); have n1_ := yD (hbox); have n2_ := yD ((by rw [hg]; exact (below_size (kB HB)) : w.heap.size ≤ gb372)); have n3_ := yD ((by rw [hg]; exact (below_size (kB HB)) : w.heap.size ≤ gb372)); clear HB; have HB := n0_; have BK372 := n1_; have GW372 := n2_; have GE372 := n3_; clear n0_ n1_ n2_ n3_; clear hb hbox hg) | ((with_reducible refine gate_dst (N := 3) rfl ?_); refine box_event ?hg (N := 3) ?hd (cs := #[.int .i64 a1_0, .slice A1_1 l1_1.length c1_1, .slice A1_2 l1_2.length c1_2, .slice A1_3 l1_3.length c1_3, .slice A1_4 l1_4.length c1_4, .slice A1_5 l1_5.length c1_5]) (t := 55) ?hr ?_; (case hd => rfl); (case hg => rfl); (case hr => first | (go_simp; done) | (go_simp; rfl)); intro gb373 hg w32 hbox hb; have n0_ := yD (zB (kN BK372) hb); have n1_ := yD (zC (kB HB) hb); have n2_ := yD (hbox); have n3_ := yD ((by rw [hg]; exact (below_size (kB HB)) : w.heap.size ≤ gb373)); have n4_ := yD ((by rw [hg]; exact (below_size (kB HB)) : w.heap.size ≤ gb373)); have n5_ := yD ((by rw [hg]; exact Nat.ne_of_lt (blk_lt (kN BK372)) : gb372 ≠ gb373)); have n6_ := yD ((by rw [hg]; exact Nat.ne_of_gt (blk_lt (kN BK372)) : gb373 ≠ gb372)); clear BK372; clear HB; have BK372 := n0_; have HB := n1_; have BK373 := n2_; have GW373 := n3_; have GE373 := n4_; have NB372_373 := n5_; have NB373_372 := n6_; clear n0_ n1_ n2_ n3_ n4_ n5_ n6_; clear hb hbox hg; have hnb33 := NB372_373.out; have hnc33 := NB373_372.out; obtain ⟨hcz34_0, hcz34_1, hcz34_2, hcz34_3, hcz34_4, hcz34_5⟩ := cz6 BK372.out; obtain ⟨hfz34_0, hfz34_1, hfz34_2, hfz34_3, hfz34_4, hfz34_5⟩ := fz6 BK372.out; obtain ⟨hcz35_0, hcz35_1, hcz35_2, hcz35_3, hcz35_4, hcz35_5⟩ := cz6 BK373.out; obtain ⟨hfz35_0, hfz35_1, hfz35_2, hfz35_3, hfz35_4, hfz35_5⟩ := fz6 BK373.out) | ((with_reducible refine gate_callee (f := 42) rfl ?_); refine gL 14 Try.func42 #[.slice A0_1 l0_1.length c0_1, .slice A1_1 l1_1.length c1_1] ?_; (with_reducible refine (laws_eqInt64S.calls k _ _ l0_1 _ _ l1_1 true _ ?side1 ?side2 ?side3 ?side4 A4.out).mono ?_); (case side1 => exact kV (yY HR0_1.out HB.out)); (case side2 => exact HC0_1.out); (case side3 => exact kV (yY HR1_1.out HB.out)); (case side4 => exact HC1_1.out); rintro e w' ⟨rfl, ⟨nd, rfl⟩⟩; refine ⟨_, rfl, ?_⟩) | ((with_reducible refine gate_callee (f := 42) rfl ?_); refine gL 20 Try.func42 #[.slice A0_2 l0_2.length c0_2, .slice A1_2 l1_2.length c1_2] ?_; (with_reducible refine (laws_eqInt64S.calls k _ _ l0_2 _ _ l1_2 true _ ?side1 ?side2 ?side3 ?side4 A6.out).mono ?_); (case side1 => exact yY HR0_2.out (kB HB)); (case side2 => exact HC0_2.out); (case side3 => exact yY HR1_2.out (kB HB)); (case side4 => exact HC1_2.out); rintro e w' ⟨rfl, ⟨nd, rfl⟩⟩; refine ⟨_, rfl, ?_⟩) | ((with_reducible refine gate_callee (f := 42) rfl ?_); refine gL 26 Try.func42 #[.slice A0_3 l0_3.length c0_3, .slice A1_3 l1_3.length c1_3] ?_; (with_reducible refine (laws_eqInt64S.calls k _ _ l0_3 _ _ l1_3 false _ ?side1 ?side2 ?side3 ?side4 A8.out).mono ?_); (case side1 => exact yY HR0_3.out (kB HB)); (case side2 => exact HC0_3.out); (case side3 => exact yY HR1_3.out (kB HB)); (case side4 => exact HC1_3.out); rintro e w' ⟨rfl, ⟨nd, rfl⟩⟩; refine ⟨_, rfl, ?_⟩))
     go_ret
     exact ⟨by first | rfl | (simp <;> rfl) | (simp [*] <;> rfl), kR0 HB⟩
   ·
    replace c7 := Bool.eq_false_iff.mpr c7
    subst c7
    have H1 : (some false) = some r := by rw [if_neg (show ¬ (false = true) by decide)] at H; exact H
    clear H; have H := H1; clear H1; obtain rfl := Option.some.inj H; go_enter Try.func43, Try.ntmps43
    go_wp2_with (first | ((with_reducible refine gate_dst (N := 2) rfl ?_); refine box_event ?hg (N := 2) ?hd (cs := #[.int .i64 a0_0, .slice A0_1 l0_1.length c0_1, .slice A0_2 l0_2.length c0_2, .slice A0_3 l0_3.length c0_3, .slice A0_4 l0_4.length c0_4, .slice A0_5 l0_5.length c0_5]) (t := 55) ?hr ?_; (case hd => rfl); (case hg => rfl); (case hr => first | (go_simp; done) | (go_simp; rfl)); intro gb372 hg w36 hbox hb; have n0_ := yD (zC (kB HB) hb); have n1_ := yD (hbox); have n2_ := yD ((by rw [hg]; exact (below_size (kB HB)) : w.heap.size ≤ gb372)); have n3_ := yD ((by rw [hg]; exact (below_size (kB HB)) : w.heap.size ≤ gb372)); clear HB; have HB := n0_; have BK372 := n1_; have GW372 := n2_; have GE372 := n3_; clear n0_ n1_ n2_ n3_; clear hb hbox hg) | ((with_reducible refine gate_dst (N := 3) rfl ?_); refine box_event ?hg (N := 3) ?hd (cs := #[.int .i64 a1_0, .slice A1_1 l1_1.length c1_1, .slice A1_2 l1_2.length c1_2, .slice A1_3 l1_3.length c1_3, .slice A1_4 l1_4.length c1_4, .slice A1_5 l1_5.length c1_5]) (t := 55) ?hr ?_; (case hd => rfl); (case hg => rfl); (case hr => first | (go_simp; done) | (go_simp; rfl)); intro gb373 hg w37 hbox hb; have n0_ := yD (zB (kN BK372) hb); have n1_ := yD (zC (kB HB) hb); have n2_ := yD (hbox); have n3_ := yD ((by rw [hg]; exact (below_size (kB HB)) : w.heap.size ≤ gb373)); have n4_ := yD ((by rw [hg]; exact (below_size (kB HB)) : w.heap.size ≤ gb373)); have n5_ := yD ((by rw [hg]; exact Nat.ne_of_lt (blk_lt (kN BK372)) : gb372 ≠ gb373)); have n6_ := yD ((by rw [hg]; exact Nat.ne_of_gt (blk_lt (kN BK372)) : gb373 ≠ gb372)); clear BK372; clear HB; have BK372 := n0_; have HB := n1_; have BK373 := n2_; have GW373 := n3_; have GE373 := n4_; have NB372_373 := n5_; have NB373_372 := n6_; clear n0_ n1_ n2_ n3_ n4_ n5_ n6_; clear hb hbox hg; have hnb38 := NB372_373.out; have hnc38 := NB373_372.out; obtain ⟨hcz39_0, hcz39_1, hcz39_2, hcz39_3, hcz39_4, hcz39_5⟩ := cz6 BK372.out; obtain ⟨hfz39_0, hfz39_1, hfz39_2, hfz39_3, hfz39_4, hfz39_5⟩ := fz6 BK372.out; obtain ⟨hcz40_0, hcz40_1, hcz40_2, hcz40_3, hcz40_4, hcz40_5⟩ := cz6 BK373.out; obtain ⟨hfz40_0, hfz40_1, hfz40_2, hfz40_3, hfz40_4, hfz40_5⟩ := fz6 BK373.out) | ((with_reducible refine gate_callee (f := 42) rfl ?_); refine gL 14 Try.func42 #[.slice A0_1 l0_1.length c0_1, .slice A1_1 l1_1.length c1_1] ?_; (with_reducible refine (laws_eqInt64S.calls k _ _ l0_1 _ _ l1_1 true _ ?side1 ?side2 ?side3 ?side4 A4.out).mono ?_); (case side1 => exact kV (yY HR0_1.out HB.out)); (case side2 => exact HC0_1.out); (case side3 => exact kV (yY HR1_1.out HB.out)); (case side4 => exact HC1_1.out); rintro e w' ⟨rfl, ⟨nd, rfl⟩⟩; refine ⟨_, rfl, ?_⟩) | ((with_reducible refine gate_callee (f := 42) rfl ?_); refine gL 20 Try.func42 #[.slice A0_2 l0_2.length c0_2, .slice A1_2 l1_2.length c1_2] ?_; (with_reducible refine (laws_eqInt64S.calls k _ _ l0_2 _ _ l1_2 false _ ?side1 ?side2 ?side3 ?side4 A6.out).mono ?_); (case side1 => exact yY HR0_2.out (kB HB)); (case side2 => exact HC0_2.out); (case side3 => exact yY HR1_2.out (kB HB)); (case side4 => exact HC1_2.out); rintro e w' ⟨rfl, ⟨nd, rfl⟩⟩; refine ⟨_, rfl, ?_⟩))
    go_ret
    exact ⟨by first | rfl | (simp <;> rfl) | (simp [*] <;> rfl), kR0 HB⟩
  ·
   replace c5 := Bool.eq_false_iff.mpr c5
   subst c5
   have H1 : (some false) = some r := by rw [if_neg (show ¬ (false = true) by decide)] at H; exact H
   clear H; have H := H1; clear H1; obtain rfl := Option.some.inj H; go_enter Try.func43, Try.ntmps43
   go_wp2_with (first | ((with_reducible refine gate_dst (N := 2) rfl ?_); refine box_event ?hg (N := 2) ?hd (cs := #[.int .i64 a0_0, .slice A0_1 l0_1.length c0_1, .slice A0_2 l0_2.length c0_2, .slice A0_3 l0_3.length c0_3, .slice A0_4 l0_4.length c0_4, .slice A0_5 l0_5.length c0_5]) (t := 55) ?hr ?_; (case hd => rfl); (case hg => rfl); (case hr => first | (go_simp; done) | (go_simp; rfl)); intro gb372 hg w41 hbox hb; have n0_ := yD (zC (kB HB) hb); have n1_ := yD (hbox); have n2_ := yD ((by rw [hg]; exact (below_size (kB HB)) : w.heap.size ≤ gb372)); have n3_ := yD ((by rw [hg]; exact (below_size (kB HB)) : w.heap.size ≤ gb372)); clear HB; have HB := n0_; have BK372 := n1_; have GW372 := n2_; have GE372 := n3_; clear n0_ n1_ n2_ n3_; clear hb hbox hg) | ((with_reducible refine gate_dst (N := 3) rfl ?_); refine box_event ?hg (N := 3) ?hd (cs := #[.int .i64 a1_0, .slice A1_1 l1_1.length c1_1, .slice A1_2 l1_2.length c1_2, .slice A1_3 l1_3.length c1_3, .slice A1_4 l1_4.length c1_4, .slice A1_5 l1_5.length c1_5]) (t := 55) ?hr ?_; (case hd => rfl); (case hg => rfl); (case hr => first | (go_simp; done) | (go_simp; rfl)); intro gb373 hg w42 hbox hb; have n0_ := yD (zB (kN BK372) hb); have n1_ := yD (zC (kB HB) hb); have n2_ := yD (hbox); have n3_ := yD ((by rw [hg]; exact (below_size (kB HB)) : w.heap.size ≤ gb373)); have n4_ := yD ((by rw [hg]; exact (below_size (kB HB)) : w.heap.size ≤ gb373)); have n5_ := yD ((by rw [hg]; exact Nat.ne_of_lt (blk_lt (kN BK372)) : gb372 ≠ gb373)); have n6_ := yD ((by rw [hg]; exact Nat.ne_of_gt (blk_lt (kN BK372)) : gb373 ≠ gb372)); clear BK372; clear HB; have BK372 := n0_; have HB := n1_; have BK373 := n2_; have GW373 := n3_; have GE373 := n4_; have NB372_373 := n5_; have NB373_372 := n6_; clear n0_ n1_ n2_ n3_ n4_ n5_ n6_; clear hb hbox hg; have hnb43 := NB372_373.out; have hnc43 := NB373_372.out; obtain ⟨hcz44_0, hcz44_1, hcz44_2, hcz44_3, hcz44_4, hcz44_5⟩ := cz6 BK372.out; obtain ⟨hfz44_0, hfz44_1, hfz44_2, hfz44_3, hfz44_4, hfz44_5⟩ := fz6 BK372.out; obtain ⟨hcz45_0, hcz45_1, hcz45_2, hcz45_3, hcz45_4, hcz45_5⟩ := cz6 BK373.out; obtain ⟨hfz45_0, hfz45_1, hfz45_2, hfz45_3, hfz45_4, hfz45_5⟩ := fz6 BK373.out) | ((with_reducible refine gate_callee (f := 42) rfl ?_); refine gL 14 Try.func42 #[.slice A0_1 l0_1.length c0_1, .slice A1_1 l1_1.length c1_1] ?_; (with_reducible refine (laws_eqInt64S.calls k _ _ l0_1 _ _ l1_1 false _ ?side1 ?side2 ?side3 ?side4 A4.out).mono ?_); (case side1 => exact kV (yY HR0_1.out HB.out)); (case side2 => exact HC0_1.out); (case side3 => exact kV (yY HR1_1.out HB.out)); (case side4 => exact HC1_1.out); rintro e w' ⟨rfl, ⟨nd, rfl⟩⟩; refine ⟨_, rfl, ?_⟩))
   go_ret
   exact ⟨by first | rfl | (simp <;> rfl) | (simp [*] <;> rfl), kR0 HB⟩
 ·
  rw [if_neg c3] at H
  have c3b0 : (a0_0 == a1_0) = false := beq_eq_false_iff_ne.mpr c3
  have c3b1 : (a0_0 != a1_0) = true := bne_iff_ne.mpr c3
  obtain rfl := Option.some.inj H; go_enter Try.func43, Try.ntmps43
  go_wp2_with (first | ((with_reducible refine gate_dst (N := 2) rfl ?_); refine box_event ?hg (N := 2) ?hd (cs := #[.int .i64 a0_0, .slice A0_1 l0_1.length c0_1, .slice A0_2 l0_2.length c0_2, .slice A0_3 l0_3.length c0_3, .slice A0_4 l0_4.length c0_4, .slice A0_5 l0_5.length c0_5]) (t := 55) ?hr ?_; (case hd => rfl); (case hg => rfl); (case hr => first | (go_simp; done) | (go_simp; rfl)); intro gb372 hg w46 hbox hb; have n0_ := yD (zC (kB HB) hb); have n1_ := yD (hbox); have n2_ := yD ((by rw [hg]; exact (below_size (kB HB)) : w.heap.size ≤ gb372)); have n3_ := yD ((by rw [hg]; exact (below_size (kB HB)) : w.heap.size ≤ gb372)); clear HB; have HB := n0_; have BK372 := n1_; have GW372 := n2_; have GE372 := n3_; clear n0_ n1_ n2_ n3_; clear hb hbox hg) | ((with_reducible refine gate_dst (N := 3) rfl ?_); refine box_event ?hg (N := 3) ?hd (cs := #[.int .i64 a1_0, .slice A1_1 l1_1.length c1_1, .slice A1_2 l1_2.length c1_2, .slice A1_3 l1_3.length c1_3, .slice A1_4 l1_4.length c1_4, .slice A1_5 l1_5.length c1_5]) (t := 55) ?hr ?_; (case hd => rfl); (case hg => rfl); (case hr => first | (go_simp; done) | (go_simp; rfl)); intro gb373 hg w47 hbox hb; have n0_ := yD (zB (kN BK372) hb); have n1_ := yD (zC (kB HB) hb); have n2_ := yD (hbox); have n3_ := yD ((by rw [hg]; exact (below_size (kB HB)) : w.heap.size ≤ gb373)); have n4_ := yD ((by rw [hg]; exact (below_size (kB HB)) : w.heap.size ≤ gb373)); have n5_ := yD ((by rw [hg]; exact Nat.ne_of_lt (blk_lt (kN BK372)) : gb372 ≠ gb373)); have n6_ := yD ((by rw [hg]; exact Nat.ne_of_gt (blk_lt (kN BK372)) : gb373 ≠ gb372)); clear BK372; clear HB; have BK372 := n0_; have HB := n1_; have BK373 := n2_; have GW373 := n3_; have GE373 := n4_; have NB372_373 := n5_; have NB373_372 := n6_; clear n0_ n1_ n2_ n3_ n4_ n5_ n6_; clear hb hbox hg; have hnb48 := NB372_373.out; have hnc48 := NB373_372.out; obtain ⟨hcz49_0, hcz49_1, hcz49_2, hcz49_3, hcz49_4, hcz49_5⟩ := cz6 BK372.out; obtain ⟨hfz49_0, hfz49_1, hfz49_2, hfz49_3, hfz49_4, hfz49_5⟩ := fz6 BK372.out; obtain ⟨hcz50_0, hcz50_1, hcz50_2, hcz50_3, hcz50_4, hcz50_5⟩ := cz6 BK373.out; obtain ⟨hfz50_0, hfz50_1, hfz50_2, hfz50_3, hfz50_4, hfz50_5⟩ := fz6 BK373.out))
  go_ret
  exact ⟨by first | rfl | (simp <;> rfl) | (simp [*] <;> rfl), kR0 HB⟩

/-! ### laws_markInt64S: function 44 -/
def laws_markInt64S.l0 : Nat → List Int → Int → Int → Option (Int × List Int)
 | 0, _, _, _ => none
 | k + 1, x0, x1, x5 => if x5 < (x0.length : Int) then (if 0 ≤ x5 then (laws_markInt64S.l0 k (x0.set (x5 : Int).toNat x1) (wrap64 (x1 + 1)) (wrap64 (x5 + 1))) else (none)) else (some (x1, x0))
def laws_markInt64S.f (k : Nat) (l0 : List Int) (a1 : Int) : Option (Int × List Int) := laws_markInt64S.l0 k l0 a1 0
theorem laws_markInt64S.mono_l : ∀ k, (∀ y0 y1 y2, LeO (laws_markInt64S.l0 k y0 y1 y2) (laws_markInt64S.l0 (k + 1) y0 y1 y2))
 | 0 => fun _ _ _ r h => by simp [laws_markInt64S.l0] at h
 | k + 1 => by
  have ih0 := laws_markInt64S.mono_l k
  ·
   intro y0 y1 y2
   unfold laws_markInt64S.l0
   repeat' (with_reducible first | exact ih0 _ _ _ | exact LeO.refl _ | exact LeO.none _ | refine LeO.ite ?_ ?_ | refine LeO.bind ?_ (fun _ => ?_))
theorem laws_markInt64S.mono : ∀ a0 a1 k, LeO (laws_markInt64S.f k a0 a1) (laws_markInt64S.f (k + 1) a0 a1) := by
 intro a0 a1 k
 have ih0 := laws_markInt64S.mono_l k
 unfold laws_markInt64S.f
 repeat' (with_reducible first | exact ih0 _ _ _ | exact LeO.refl _ | exact LeO.none _ | refine LeO.ite ?_ ?_ | refine LeO.bind ?_ (fun _ => ?_))
set_option maxHeartbeats 8000000 in
set_option maxRecDepth 100000 in
theorem laws_markInt64S.calls (k : Nat) (P0_ : Nat → Prop) (u9000_ : Value) (l0 : List Int) (a1 : Int) (r1 : Int) (r2 : List Int) (w0 w : World) (hB : Below w0.heap.size w0 w) (ho0 : Kd.R (Kd.int .i64) 2 w w0.heap.size P0_ u9000_ l0) (h : laws_markInt64S.f k l0 a1 = some (r1, r2)) :
 Calls Try.prog 44 #[u9000_, .int .i64 a1] w fun e w' => e = .returned (.int .i64 r1) ∧ Kd.R (Kd.int .i64) 2 w' w0.heap.size (fun k_ => (P0_ k_ ∨ w.heap.size ≤ k_)) u9000_ r2 ∧ Below w0.heap.size w0 w' ∧ Kept w w' (fun k_ => P0_ k_) := by
 have HO0 := yD (show Kd.R (Kd.int .i64) 2 w w0.heap.size (fun k_ => (P0_ k_ ∨ w.heap.size ≤ k_)) u9000_ l0 from zF ho0 (fun k_ hk => (.inl hk)))
 have HK := yD (Kept.refl w (fun k_ => P0_ k_))
 have HW0 := yD hB.size
 have HB := yD hB
 clear hB
 have H : (laws_markInt64S.l0 k l0 a1 0) = some (r1, r2) := h
 clear h
 have H' := yD H
 clear H; go_enter Try.func44, Try.ntmps44
 go_wp2
 go_loopg [1, 5] k (fun kq v1 v5 w' => ∃ (x0_1 : List Int) (x1_1 : Int) (x5_1 : Int), v1 = .int .i64 x1_1 ∧ v5 = .int .i64 x5_1 ∧ Aside0 (laws_markInt64S.l0 kq x0_1 x1_1 x5_1 = some (r1, r2)) ∧ Aside0 (kq ≤ k) ∧ Aside0 (Kd.R (Kd.int .i64) 2 w' w0.heap.size (fun k_ => (P0_ k_ ∨ w.heap.size ≤ k_)) u9000_ x0_1) ∧ Aside0 (Kept w w' (fun k_ => P0_ k_)) ∧ Aside0 (Below w0.heap.size w0 w'))
 case atStart => exact ⟨(l0), (a1), (0), (by first | rfl | (simp; done) | (simp [*]; done)), (by first | rfl | (simp; done) | (simp [*]; done)), H', ⟨Nat.le_refl _⟩, ⟨by (with_reducible repeat (first | apply yA | apply yB | apply yC)); exact HO0.out⟩, ⟨kR2 HK⟩, ⟨kR1 HB⟩⟩
 case round =>
  clear H'
  try clear p2
  obtain ⟨x0_1, x1_1, x5_1, rfl, rfl, HA, HK1, HO_0, HK, HB⟩ := hrel
  cases gk with
  | zero => exact absurd HA.out (by simp [laws_markInt64S.l0])
  | succ k1 =>
   have H := HA.out; clear HA
   simp only [laws_markInt64S.l0] at H
   by_cases c3 : x5_1 < (x0_1.length : Int)
   ·
    rw [if_pos c3] at H; have c3b0 : decide (x5_1 < (x0_1.length : Int)) = true := zR c3; clear c3
    by_cases c4 : 0 ≤ x5_1
    ·
     rw [if_pos c4] at H; have c4b0 : decide (0 ≤ x5_1) = true := zR c4; clear c4
     obtain ⟨y379, hy379⟩ : ∃ y_ : List Int, y_ = (x0_1.set (x5_1 : Int).toNat x1_1) := ⟨_, rfl⟩
     replace H : (laws_markInt64S.l0 k1 y379 (wrap64 (x1_1 + 1)) (wrap64 (x5_1 + 1))) = some (r1, r2) := by first | (rw [hy379]; with_reducible exact H) | (have H2_ := (Option.bind_some _ _).symm.trans H; rw [hy379]; with_reducible exact H2_) | (have H2_ := (Option.bind_some _ _).symm.trans H; with_reducible exact H2_) | with_reducible exact H | (rw [hy379]; exact H) | exact H
     have Ny379 := yD hy379
     clear hy379
     have H' := yD H
     clear H
     obtain ⟨Ao6, co6, eo6⟩ := Kd.R_slice HO_0.out
     subst eo6
     have p5 : 0 ≤ (x5_1 : Int) := zP (by assumption)
     have q5 : (x5_1 : Int) < ((x0_1.length : Int) : Int) := zP (by assumption)
     obtain ⟨go5, co5, eo5, gb5, gl5, cl5, HG5⟩ := Kd.R_form HO_0.out (by omega)
     (first | cases eo5 | (injection eo5 with ea_ en_ ec_; (first | subst ea_ | (injection ea_ with ea_; subst ea_)); subst ec_; clear en_))
     have GB5 := yD gb5
     have GG5 := yD HG5
     clear gb5 gl5 HG5
     have HMgo5 := yD (show (P0_ go5 ∨ w.heap.size ≤ go5) from (HO_0.out.1 _ rfl))
     obtain ⟨hx5_0, hf5_0⟩ := Kd.R_celln 0 HO_0.out (x5_1 : Int) p5 q5
     replace p5 := eq_true p5; replace q5 := eq_true q5
     have HP7 := Kd.R_putg HO_0.out (x5_1 : Int) x1_1
     go_wp2_with (first | ((with_reducible refine gate_store (t := 2) (p := 15) rfl ?_); refine store_event (t := 2) (p := 15) (v := ?vo_w8) (w1 := (wr.setCell ⟨go5, (x5_1 : Int).toNat, none⟩ (.int .i64 x1_1))) ?hg ?ho ?hn ?hr ?_; (case ho => rfl); (case hg => rfl); (case hn => rfl); (case hr => first | (go_simp; done) | (go_simp; rfl)); intro w8 hw; have hg : wr.grownBy w8 (some go5) := (by rw [hw]; exact HP7.2); have hp_ : Kd.R (Kd.int .i64) 2 w8 w0.heap.size (fun k_ => (P0_ k_ ∨ w.heap.size ≤ k_)) (.slice (some ⟨go5, 0, none⟩) x0_1.length co6) y379 := (by rw [hw, Ny379.out]; exact HP7.1); clear HP7; have n0_ := yD (hp_); have n1_ := yD ((by rw [hw]; exact yE (HB.out) GB5.out : Below w0.heap.size w0 w8)); have n2_ := yD (Kept.of_grown (S := (fun k_ => P0_ k_)) hg (kR2 HK) (fun k_ e_ => (HO_0.out.1 k_ e_))); clear HO_0; clear HB; clear HK; have HO_0 := n0_; have HB := n1_; have HK := n2_; clear n0_ n1_ n2_; clear hg hw hp_))
     go_roundg k1
     case measure => have := HK1.out; omega
     case rel => exact ⟨(y379), (wrap64 (x1_1 + 1)), (wrap64 (x5_1 + 1)), (by first | rfl | (simp; done) | (simp [*]; done)), (by first | rfl | (simp; done) | (simp [*]; done)), H', ⟨by have := HK1.out; omega⟩, ⟨by (with_reducible repeat (first | apply yA | apply yB | apply yC)); exact HO_0.out⟩, ⟨kR2 HK⟩, ⟨kR1 HB⟩⟩
    ·
     rw [if_neg c4] at H
     exact absurd H (by simp)
   ·
    rw [if_neg c3] at H; have c3b0 : decide (x5_1 < (x0_1.length : Int)) = false := zS c3; clear c3
    simp only [Option.some.injEq, Prod.mk.injEq] at H
    obtain ⟨rfl, rfl⟩ := H
    obtain ⟨Ao9, co9, eo9⟩ := Kd.R_slice HO_0.out
    subst eo9
    go_wp2
    go_ret
    exact ⟨by first | rfl | (simp <;> rfl) | (simp [*] <;> rfl), by (with_reducible repeat (first | apply yA | apply yB | apply yC)); exact HO_0.out, kR1 HB, kR2 HK⟩

/-! ### laws_markPointS: function 83 -/
def laws_markPointS.l0 : Nat → List (S110) → Int → Int → Option (Int × List (S110))
 | 0, _, _, _ => none
 | k + 1, x0, x1, x5 => if x5 < (x0.length : Int) then (if 0 ≤ x5 then ((laws_markInt64S.f k ((rd_T110 x0 x5).f0) x1).bind fun ta => (laws_markPointS.l0 k (x0.set x5.toNat ⟨ta.2⟩) ta.1 (wrap64 (x5 + 1)))) else none) else some (x1, x0)
def laws_markPointS.f (k : Nat) (l0 : List (S110)) (a1 : Int) : Option (Int × List (S110)) := laws_markPointS.l0 k l0 a1 0
theorem laws_markPointS.mono_l : ∀ k, (∀ y0 y1 y2, LeO (laws_markPointS.l0 k y0 y1 y2) (laws_markPointS.l0 (k + 1) y0 y1 y2))
 | 0 => fun _ _ _ r h => by simp [laws_markPointS.l0] at h
 | k + 1 => by
  have ih0 := laws_markPointS.mono_l k
  intro y0 y1 y2
  unfold laws_markPointS.l0
  (repeat' first | (with_reducible exact ih0 _ _ _) | (with_reducible exact laws_markInt64S.mono _ _ _) | (with_reducible exact LeO.refl _) | (with_reducible exact LeO.none _) | (with_reducible refine LeO.ite ?_ ?_) | (with_reducible refine LeO.bind ?_ (fun _ => ?_)) | exact ih0 _ _ _ | exact laws_markInt64S.mono _ _ _)
theorem laws_markPointS.mono : ∀ a0 a1 k, LeO (laws_markPointS.f k a0 a1) (laws_markPointS.f (k + 1) a0 a1) := by
 intro a0 a1 k
 exact laws_markPointS.mono_l k _ _ _
set_option maxHeartbeats 8000000 in
set_option maxRecDepth 100000 in
theorem laws_markPointS.calls (k : Nat) (P0_ : Nat → Prop) (u9000_ : Value) (l0 : List (S110)) (a1 : Int) (r1 : Int) (r2 : List (S110)) (w0 w : World) (hB : Below w0.heap.size w0 w) (ho0 : Kd.S k110 110 w w0.heap.size P0_ u9000_ l0) (h : laws_markPointS.f k l0 a1 = some (r1, r2)) :
 Calls Try.prog 83 #[u9000_, .int .i64 a1] w fun e w' => e = .returned (.int .i64 r1) ∧ Kd.S k110 110 w' w0.heap.size (fun k_ => (P0_ k_ ∨ w.heap.size ≤ k_)) u9000_ r2 ∧ Below w0.heap.size w0 w' ∧ Kept w w' (fun k_ => P0_ k_) ∧ r2.length = l0.length := by
 obtain ⟨A0, c0, rfl⟩ := Kd.S_slice ho0
 have HO_ := Aside0.mk ho0; have HB_ := Aside0.mk hB; have H' := Aside0.mk (show laws_markPointS.l0 k l0 a1 0 = some (r1, r2) from h)
 clear ho0 hB h
 go_enter Try.func83, Try.ntmps83
 go_wp2
 go_loopg [1, 5] k (fun kq v1 v5 w' => ∃ (x1_1 : Int) (x5_1 : Int) (xs : List (S110)), v1 = .int .i64 x1_1 ∧ v5 = .int .i64 x5_1 ∧ Aside0 (laws_markPointS.l0 kq xs x1_1 x5_1 = some (r1, r2)) ∧ Aside0 (kq ≤ k) ∧ Aside0 (xs.length = l0.length) ∧ Aside0 (Kd.S k110 110 w' w0.heap.size P0_ (.slice A0 l0.length c0) xs) ∧ Aside0 (Below w0.heap.size w0 w') ∧ Aside0 (Kept w w' (fun k_ => P0_ k_)))
 case atStart => exact ⟨a1, 0, l0, rfl, rfl, H', ⟨Nat.le_refl _⟩, ⟨rfl⟩, ⟨by (with_reducible repeat (first | apply Kd.S_alloc | apply Kd.S_drewN | apply Kd.S_drew)); exact HO_.out⟩, ⟨kR3 HB_⟩, ⟨by (with_reducible repeat (first | apply Kept.alloc | apply Kept.drewN | apply Kept.drew)); exact Kept.refl _ _⟩⟩
 case round =>
  clear H' HO_ HB_
  obtain ⟨x1_1, x5_1, xs, rfl, rfl, HA, HK1, HL, HO, HB, HK⟩ := hrel
  cases gk with
  | zero => exact absurd HA.out (by simp [laws_markPointS.l0])
  | succ k1 =>
   have H := HA.out
   clear HA
   simp only [laws_markPointS.l0] at H
   by_cases c3 : x5_1 < (xs.length : Int)
   ·
    rw [if_pos c3] at H
    have c3b0 : decide (x5_1 < (l0.length : Int)) = true := decide_eq_true (by rw [← HL.out]; exact c3)
    by_cases c4 : 0 ≤ x5_1
    ·
     rw [if_pos c4] at H
     have c4b0 : decide (0 ≤ x5_1) = true := decide_eq_true c4
     obtain ⟨⟨ta, la⟩, Aa0, H⟩ := Option.bind_eq_some_iff.mp H
     have Aa := Aside0.mk Aa0; clear Aa0
     have H' := Aside0.mk H
     clear H
     have hlt : (x5_1 : Int) < (l0.length : Int) := by rw [← HL.out]; exact c3
     obtain ⟨ad, rfl⟩ : ∃ ad, A0 = some ad := by
      obtain ⟨_, _, h2⟩ := (Kd.S_reads' HO.out).2.2
      obtain ⟨ad, he, _⟩ := h2 (by omega)
      exact ⟨ad, he⟩
     obtain ⟨go, rfl⟩ := Kd.R_head (Kd.S_R HO.out)
     obtain ⟨oki, ce, hcl, hM, hcc, hfr, hoki, hH⟩ := Kd.S_elem HO.out (rd_T110 [] 0) (x5_1 : Int) c4 hlt
     obtain ⟨v0, rfl, g0⟩ := k110_openM hM
     have hx0 : wr.cell? ⟨go, (x5_1 : Int).toNat, none⟩ = some (v0) := by have h_ := hcc 0 _ rfl; have e_ : (x5_1 : Int).toNat * k110.sz + 0 = (x5_1 : Int).toNat := (by show (x5_1 : Int).toNat * 1 + 0 = _; omega); rw [e_] at h_; exact h_
     have p3 : (0 ≤ x5_1) = True := eq_true c4
     have q3 : (x5_1 < (l0.length : Int)) = True := eq_true hlt
     have hel : (xs.getD (x5_1 : Int).toNat (rd_T110 [] 0)) = rd_T110 xs x5_1 := rfl
     rw [hel] at g0
     have f0 := Aside0.mk (Kd.R_tight rfl g0); have b0 := Aside0.mk g0.1
     obtain ⟨Ae0, ce0, rfl⟩ := Kd.R_slice f0.out
     go_wp2_with (first | ((with_reducible refine gate_callee (f := 44) rfl ?_); refine goesL_ (some 18) rfl rfl Try.func44 (by kernel_rfl) rfl #[.slice Ae0 (rd_T110 xs x5_1).f0.length ce0, .int .i64 x1_1] rfl (by (try simp only [List.map_toArray, List.map_cons, List.map_nil]); first | done | rfl | (simp only [List.length_drop, List.length_take]; rfl)) ?_; (refine (laws_markInt64S.calls k1 (fun k_ => some k_ = (Value.slice Ae0 (rd_T110 xs x5_1).f0.length ce0).ownBlock) _ _ x1_1 ta la w0 _ ?side1 ?side2 Aa.out).mono ?_); (case side1 => exact kR3 HB); (case side2 => (with_reducible repeat (first | apply Kd.R_alloc | apply Kd.R_drewN | apply Kd.R_drew)); exact f0.out); rintro e wq ⟨rfl, hr_, hb_, hk_⟩; refine ⟨_, rfl, ?_⟩; have kq_ := Kept.then_ (Kept.refl wr _) (Kept.then_ (S := fun k_ => some k_ = (Value.slice Ae0 (rd_T110 xs x5_1).f0.length ce0).ownBlock) (by (with_reducible repeat (first | apply Kept.alloc | apply Kept.drewN | apply Kept.drew)); exact Kept.refl _ _) hk_ (fun _ h_ => .inl h_)) (fun _ h_ => .inl h_); have n0_ := Aside0.mk (Kd.H_step hH (fun k_ h1_ h2_ h3_ => kq_.2 k_ h3_ (fun e_ => h2_ (b0.out k_ e_.symm)))); have n2_ := Aside0.mk (Kd.R_tight rfl hr_); have n3_ := Aside0.mk hb_; have n4_ := Aside0.mk (Kept.then_ HK.out kq_ (fun k_ e_ => .inl (hoki k_ (b0.out k_ e_.symm)).1)); have HF := Aside0.mk (Kd.H_back n0_.out (x' := ⟨la⟩) (k110_mkM _ _ _ (⟨la⟩ : S110) (Kd.R_mono n2_.out (fun k_ e_ => b0.out k_ e_.symm))) (fun _ h_ => h_)); clear hr_ hb_ hk_ kq_ HB HK f0 hH n0_ n2_; have HB := n3_; have HK := n4_; clear n3_ n4_))
     go_roundg k1
     case measure => have := HK1.out; omega
     case rel => exact ⟨ta, (wrap64 (x5_1 + 1)), _, (by first | rfl | (simp; done)), (by first | rfl | (simp; done)), H', ⟨by have := HK1.out; omega⟩, ⟨by rw [List.length_set]; exact HL.out⟩, ⟨by (with_reducible repeat (first | apply Kd.S_alloc | apply Kd.S_drewN | apply Kd.S_drew)); exact HF.out⟩, ⟨kR3 HB⟩, ⟨by (with_reducible repeat (first | apply Kept.alloc | apply Kept.drewN | apply Kept.drew)); exact HK.out⟩⟩
    · rw [if_neg c4] at H
      exact absurd H (by simp)
   · rw [if_neg c3] at H
     have c3b0 : decide (x5_1 < (l0.length : Int)) = false := decide_eq_false (by rw [← HL.out]; exact c3)
     obtain ⟨rfl, rfl⟩ := Prod.mk.inj (Option.some.inj H)
     go_wp2
     go_ret
     exact ⟨by first | rfl | (simp; done), by (with_reducible repeat (first | apply Kd.S_alloc | apply Kd.S_drewN | apply Kd.S_drew)); exact Kd.S_mono HO.out (fun _ hk => .inl hk), kR3 HB, by (with_reducible repeat (first | apply Kept.alloc | apply Kept.drewN | apply Kept.drew)); exact HK.out, HL.out⟩

/-- An element of which nothing is told. -/
def kO : Kd S110 where
 sz := 1
 E := []
 K := fun _ _ cs => cs.length = 1 ∧ ∀ u ∈ cs, u.oneCell' = true
 M := fun _ _ _ _ cs => cs.length = 1 ∧ ∀ u ∈ cs, u.oneCell' = true
 K_len := fun h => h.1
 K_one := fun h => h.2
 K_below := fun _ h => h
 K_of_M := fun h => h
 M_mono := fun _ h => h
 M_bound := fun h => h
 M_move := fun _ h => h
 M_lower := fun _ h => h
theorem S_forget {w : World} {base : Nat} {ok P : Nat → Prop} {v : Value} {xs ys : List S110} (h : Kd.S k110 110 w base ok v xs) (hp : ∀ k, v.ownBlock = some k → P k) (hl : ys.length = xs.length) : Kd.S kO 110 w base P v ys := by
 obtain ⟨f, h0, inner, ho, hr⟩ := h
 refine ⟨f, hp, inner, by rw [List.length_zipIdx, hl]; rw [List.length_zipIdx] at ho; exact ho, ⟨by have h1 := hr.1; rw [List.length_zipIdx] at h1; rw [List.length_zipIdx, hl]; exact h1, fun j p hj => ?_⟩⟩
 have hlt : j < xs.zipIdx.length := by
  obtain ⟨h1, -⟩ := List.getElem?_eq_some_iff.1 hj
  rw [List.length_zipIdx] at h1 ⊢; omega
 have h2 := hr.2 j _ (List.getElem?_eq_getElem hlt)
 exact ⟨k110.K_len (k110.K_of_M h2), k110.K_one (k110.K_of_M h2)⟩
section
variable {w W W2 : World} {base : Nat} {ok S : Nat → Prop} {v : Value}
theorem R_keptT {α : Type} {d : Kd α} {e : Nat} {xs : List α} (hE : d.E = []) (h : d.R e W base ok v xs) (hk : Kept W W2 S) (hne : ∀ k, some k = v.ownBlock ∧ ok k → ¬ S k) : d.R e W2 base (fun k => ok k ∧ (¬ S k ∧ k < W.heap.size)) v xs :=
 Kd.R_mono (Kd.R_keptB (Kd.R_tight2 hE h) hk hne) (fun k hk => ⟨hk.1.2, hk.2⟩)
theorem S_keptO {xs : List S110} (h : Kd.S k110 110 W base ok v xs) (hk : Kept W W2 S) (hne : ∀ k, some k = v.ownBlock ∧ ok k → ¬ S k) : Kd.S kO 110 W2 base (fun k => ok k ∧ (¬ S k ∧ k < W.heap.size)) v xs := by
 obtain ⟨f, h⟩ := S_forget (P := ok) h (Kd.S_R h).1 rfl
 exact Kd.S_mono (Kd.S_keptB (⟨f, Kd.R_tight2 rfl h⟩ : Kd.S kO 110 W base (fun k => some k = v.ownBlock ∧ ok k) v xs) hk hne) (fun k hk => ⟨hk.1.2, hk.2⟩)
theorem S_keptP {P : Nat → Prop} {xs : List S110} (h : Kd.S k110 110 W base ok v xs) (hk : Kept W W2 P) (hne : ∀ k, ok k → ¬ P k) : Kd.S k110 110 W2 base (fun k => ok k ∧ base ≤ k ∧ k < W.heap.size ∧ ∃ q, q ∈ 110 :: k110.E ∧ ∃ cells, W.heap[k]? = some (.cells cells q (0, 0))) v xs :=
 Kd.S_move (Kd.S_bound h) (fun k h1 => hk.2 k h1.2.2.1 (hne k h1.1))
theorem P5_ne {g : Nat} {cs : Array Value} {e' : Nat} (h : ∃ q, q ∈ 110 :: k110.E ∧ ∃ cells, W.heap[g]? = some (.cells cells q (0, 0))) (hb : W.heap[g]? = some (.cells cs e' (0, 0))) (ht : ∀ q, q ∈ 110 :: k110.E → q ≠ e') : False := by
 obtain ⟨q, hq, cells, hc⟩ := h
 rw [hb] at hc
 injection hc with hc
 injection hc with _ h2 _
 exact ht q hq h2.symm
theorem Kept_up {P Q : Nat → Prop} (h : Kept w W P) (hs : ∀ k, P k → Q k) : Kept w W Q := ⟨h.1, fun i hi hn => h.2 i hi (fun hp => hn (hs i hp))⟩
end

/-! ### laws_markSelection: function 45 -/
def laws_markSelection.f (k : Nat) (a0_0 : Int) (l0_1 : List Int) (l0_2 : List Int) (l0_3 : List Int) (l0_4 : List Int) (l0_5 : List (S110)) (a1 : Int) : Option (Int × List Int × List Int × List Int × List Int) := (laws_markInt64S.f k l0_1 a1).bind fun bt381 => ((laws_markInt64S.f k l0_2 bt381.1).bind fun bt383 => ((laws_markInt64S.f k l0_3 bt383.1).bind fun bt385 => ((laws_markInt64S.f k l0_4 bt385.1).bind fun bt387 => ((laws_markPointS.f k l0_5 bt387.1).bind fun bt389 => (some (bt389.1, bt381.2, bt383.2, bt385.2, bt387.2))))))
theorem laws_markSelection.mono : ∀ a0 a1 a2 a3 a4 a5 a6 k, LeO (laws_markSelection.f k a0 a1 a2 a3 a4 a5 a6) (laws_markSelection.f (k + 1) a0 a1 a2 a3 a4 a5 a6) := by
 intro a0 a1 a2 a3 a4 a5 a6 k
 unfold laws_markSelection.f
 repeat' first
  | (with_reducible exact laws_markInt64S.mono _ _ _) | (with_reducible exact laws_markPointS.mono _ _ _)
  | (with_reducible exact LeO.refl _)
  | (with_reducible exact LeO.none _)
  | (with_reducible refine LeO.ite ?_ ?_)
  | (with_reducible refine LeO.bind ?_ (fun _ => ?_))
  | exact laws_markInt64S.mono _ _ _
  | exact LeO.none _
  | refine LeO.ite ?_ ?_
  | refine LeO.bind ?_ (fun _ => ?_)
set_option maxHeartbeats 8000000 in
set_option maxRecDepth 100000 in
theorem laws_markSelection.calls (k : Nat) (a0_0 : Int) (P0_1_ : Nat → Prop) (u9000_ : Value) (l0_1 : List Int) (P0_2_ : Nat → Prop) (u9001_ : Value) (l0_2 : List Int) (P0_3_ : Nat → Prop) (u9002_ : Value) (l0_3 : List Int) (P0_4_ : Nat → Prop) (u9003_ : Value) (l0_4 : List Int) (P0_5_ : Nat → Prop) (A0_5 : Option Addr) (c0_5 : Nat) (l0_5 : List (S110)) (a1 : Int) (r1 : Int) (r2 : List Int) (r3 : List Int) (r4 : List Int) (r5 : List Int) (w0 w : World) (hB : Below w0.heap.size w0 w) (ho0_1 : Kd.R (Kd.int .i64) 2 w w0.heap.size P0_1_ u9000_ l0_1) (hp0_1_0_2 : ∀ k_, P0_1_ k_ → ¬ P0_2_ k_) (hp0_1_0_3 : ∀ k_, P0_1_ k_ → ¬ P0_3_ k_) (hp0_1_0_4 : ∀ k_, P0_1_ k_ → ¬ P0_4_ k_) (ho0_2 : Kd.R (Kd.int .i64) 2 w w0.heap.size P0_2_ u9001_ l0_2) (hp0_2_0_1 : ∀ k_, P0_2_ k_ → ¬ P0_1_ k_) (hp0_2_0_3 : ∀ k_, P0_2_ k_ → ¬ P0_3_ k_) (hp0_2_0_4 : ∀ k_, P0_2_ k_ → ¬ P0_4_ k_) (ho0_3 : Kd.R (Kd.int .i64) 2 w w0.heap.size P0_3_ u9002_ l0_3) (hp0_3_0_1 : ∀ k_, P0_3_ k_ → ¬ P0_1_ k_) (hp0_3_0_2 : ∀ k_, P0_3_ k_ → ¬ P0_2_ k_) (hp0_3_0_4 : ∀ k_, P0_3_ k_ → ¬ P0_4_ k_) (ho0_4 : Kd.R (Kd.int .i64) 2 w w0.heap.size P0_4_ u9003_ l0_4) (hp0_4_0_1 : ∀ k_, P0_4_ k_ → ¬ P0_1_ k_) (hp0_4_0_2 : ∀ k_, P0_4_ k_ → ¬ P0_2_ k_) (hp0_4_0_3 : ∀ k_, P0_4_ k_ → ¬ P0_3_ k_) (hr0_5 : ∀ W_, Kept w W_ (fun k_ => P0_1_ k_ ∨ P0_2_ k_ ∨ P0_3_ k_ ∨ P0_4_ k_) → Kd.S k110 110 W_ w0.heap.size P0_5_ (.slice A0_5 l0_5.length c0_5) l0_5) (hc0_5 : l0_5.length ≤ c0_5) (hq5 : ∀ k_, P0_5_ k_ → k_ < w.heap.size ∧ ¬ (P0_1_ k_ ∨ P0_2_ k_ ∨ P0_3_ k_ ∨ P0_4_ k_)) (h : laws_markSelection.f k a0_0 l0_1 l0_2 l0_3 l0_4 l0_5 a1 = some (r1, r2, r3, r4, r5)) :
 Calls Try.prog 45 #[.agg #[.int .i64 a0_0, u9000_, u9001_, u9002_, u9003_, .slice A0_5 l0_5.length c0_5], .int .i64 a1] w fun e w' => e = .returned (.int .i64 r1) ∧ Kd.R (Kd.int .i64) 2 w' w0.heap.size (fun k_ => ((P0_1_ k_ ∨ P0_2_ k_ ∨ P0_3_ k_ ∨ P0_4_ k_) ∨ w.heap.size ≤ k_)) u9000_ r2 ∧ Kd.R (Kd.int .i64) 2 w' w0.heap.size (fun k_ => ((P0_1_ k_ ∨ P0_2_ k_ ∨ P0_3_ k_ ∨ P0_4_ k_) ∨ w.heap.size ≤ k_)) u9001_ r3 ∧ Kd.R (Kd.int .i64) 2 w' w0.heap.size (fun k_ => ((P0_1_ k_ ∨ P0_2_ k_ ∨ P0_3_ k_ ∨ P0_4_ k_) ∨ w.heap.size ≤ k_)) u9002_ r4 ∧ Kd.R (Kd.int .i64) 2 w' w0.heap.size (fun k_ => ((P0_1_ k_ ∨ P0_2_ k_ ∨ P0_3_ k_ ∨ P0_4_ k_) ∨ w.heap.size ≤ k_)) u9003_ r5 ∧ Kd.S kO 110 w' w0.heap.size P0_5_ (.slice A0_5 l0_5.length c0_5) l0_5 ∧ Below w0.heap.size w0 w' ∧ Kept w w' (fun k_ => P0_1_ k_ ∨ P0_2_ k_ ∨ P0_3_ k_ ∨ P0_4_ k_ ∨ P0_5_ k_) := by
 have hu55 := Try.underlying55
 have HO0_1 := yD (show Kd.R (Kd.int .i64) 2 w w0.heap.size (fun k_ => ((P0_1_ k_ ∨ P0_2_ k_ ∨ P0_3_ k_ ∨ P0_4_ k_) ∨ w.heap.size ≤ k_) ∧ some k_ ≠ (u9001_ : Value).ownBlock ∧ some k_ ≠ (u9002_ : Value).ownBlock ∧ some k_ ≠ (u9003_ : Value).ownBlock) u9000_ l0_1 from zF ho0_1 (fun k_ hk => ⟨(.inl (.inl hk)), fun e_ => hp0_1_0_2 k_ hk (ho0_2.1 k_ e_.symm), fun e_ => hp0_1_0_3 k_ hk (ho0_3.1 k_ e_.symm), fun e_ => hp0_1_0_4 k_ hk (ho0_4.1 k_ e_.symm)⟩))
 have HO0_2 := yD (show Kd.R (Kd.int .i64) 2 w w0.heap.size (fun k_ => ((P0_1_ k_ ∨ P0_2_ k_ ∨ P0_3_ k_ ∨ P0_4_ k_) ∨ w.heap.size ≤ k_) ∧ some k_ ≠ (u9000_ : Value).ownBlock ∧ some k_ ≠ (u9002_ : Value).ownBlock ∧ some k_ ≠ (u9003_ : Value).ownBlock) u9001_ l0_2 from zF ho0_2 (fun k_ hk => ⟨(.inl (.inr (.inl hk))), fun e_ => hp0_2_0_1 k_ hk (ho0_1.1 k_ e_.symm), fun e_ => hp0_2_0_3 k_ hk (ho0_3.1 k_ e_.symm), fun e_ => hp0_2_0_4 k_ hk (ho0_4.1 k_ e_.symm)⟩))
 have HO0_3 := yD (show Kd.R (Kd.int .i64) 2 w w0.heap.size (fun k_ => ((P0_1_ k_ ∨ P0_2_ k_ ∨ P0_3_ k_ ∨ P0_4_ k_) ∨ w.heap.size ≤ k_) ∧ some k_ ≠ (u9000_ : Value).ownBlock ∧ some k_ ≠ (u9001_ : Value).ownBlock ∧ some k_ ≠ (u9003_ : Value).ownBlock) u9002_ l0_3 from zF ho0_3 (fun k_ hk => ⟨(.inl (.inr (.inr (.inl hk)))), fun e_ => hp0_3_0_1 k_ hk (ho0_1.1 k_ e_.symm), fun e_ => hp0_3_0_2 k_ hk (ho0_2.1 k_ e_.symm), fun e_ => hp0_3_0_4 k_ hk (ho0_4.1 k_ e_.symm)⟩))
 have HO0_4 := yD (show Kd.R (Kd.int .i64) 2 w w0.heap.size (fun k_ => ((P0_1_ k_ ∨ P0_2_ k_ ∨ P0_3_ k_ ∨ P0_4_ k_) ∨ w.heap.size ≤ k_) ∧ some k_ ≠ (u9000_ : Value).ownBlock ∧ some k_ ≠ (u9001_ : Value).ownBlock ∧ some k_ ≠ (u9002_ : Value).ownBlock) u9003_ l0_4 from zF ho0_4 (fun k_ hk => ⟨(.inl (.inr (.inr (.inr hk)))), fun e_ => hp0_4_0_1 k_ hk (ho0_1.1 k_ e_.symm), fun e_ => hp0_4_0_2 k_ hk (ho0_2.1 k_ e_.symm), fun e_ => hp0_4_0_3 k_ hk (ho0_3.1 k_ e_.symm)⟩))
 have hP5_ := yD (Kd.S_R (hr0_5 w (Kept.refl w _))).1; have HR0_5 := yD hr0_5
 have HC0_5 := yD hc0_5
 clear hr0_5 hc0_5
 have HK := yD (Kept.refl w (fun k_ => P0_1_ k_ ∨ P0_2_ k_ ∨ P0_3_ k_ ∨ P0_4_ k_))
 have HW0 := yD hB.size
 have HB := yD hB
 clear hB
 have H : ((laws_markInt64S.f k l0_1 a1).bind fun bt381 => ((laws_markInt64S.f k l0_2 bt381.1).bind fun bt383 => ((laws_markInt64S.f k l0_3 bt383.1).bind fun bt385 => ((laws_markInt64S.f k l0_4 bt385.1).bind fun bt387 => ((laws_markPointS.f k l0_5 bt387.1).bind fun bt389 => (some (bt389.1, bt381.2, bt383.2, bt385.2, bt387.2))))))) = some (r1, r2, r3, r4, r5) := h
 clear h
 obtain ⟨⟨t381, t382⟩, A30, H⟩ := zW_ H
 replace H : ((laws_markInt64S.f k l0_2 t381).bind fun bt383 => ((laws_markInt64S.f k l0_3 bt383.1).bind fun bt385 => ((laws_markInt64S.f k l0_4 bt385.1).bind fun bt387 => ((laws_markPointS.f k l0_5 bt387.1).bind fun bt389 => (some (bt389.1, t382, bt383.2, bt385.2, bt387.2)))))) = some (r1, r2, r3, r4, r5) := H
 have A3 := yD A30
 clear A30
 obtain ⟨⟨t383, t384⟩, A40, H⟩ := zW_ H
 replace H : ((laws_markInt64S.f k l0_3 t383).bind fun bt385 => ((laws_markInt64S.f k l0_4 bt385.1).bind fun bt387 => ((laws_markPointS.f k l0_5 bt387.1).bind fun bt389 => (some (bt389.1, t382, t384, bt385.2, bt387.2))))) = some (r1, r2, r3, r4, r5) := H
 have A4 := yD A40
 clear A40
 obtain ⟨⟨t385, t386⟩, A50, H⟩ := zW_ H
 replace H : ((laws_markInt64S.f k l0_4 t385).bind fun bt387 => ((laws_markPointS.f k l0_5 bt387.1).bind fun bt389 => (some (bt389.1, t382, t384, t386, bt387.2)))) = some (r1, r2, r3, r4, r5) := H
 have A5 := yD A50
 clear A50
 obtain ⟨⟨t387, t388⟩, A60, H⟩ := zW_ H
 replace H : ((laws_markPointS.f k l0_5 t387).bind fun bt389 => (some (bt389.1, t382, t384, t386, t388))) = some (r1, r2, r3, r4, r5) := H
 have A6 := yD A60
 clear A60
 obtain ⟨⟨t389, lp389⟩, A70, H⟩ := zW_ H
 replace H : (some (t389, t382, t384, t386, t388)) = some (r1, r2, r3, r4, r5) := H
 have A7 := yD A70
 clear A70
 simp only [Option.some.injEq, Prod.mk.injEq] at H
 obtain ⟨rfl, rfl, rfl, rfl, rfl⟩ := H
 obtain ⟨Ao8, co8, eo8⟩ := Kd.R_slice HO0_1.out
 subst eo8
 obtain ⟨Ao9, co9, eo9⟩ := Kd.R_slice HO0_2.out
 subst eo9
 obtain ⟨Ao10, co10, eo10⟩ := Kd.R_slice HO0_3.out
 subst eo10
 obtain ⟨Ao11, co11, eo11⟩ := Kd.R_slice HO0_4.out
 subst eo11; go_enter Try.func45, Try.ntmps45
 go_wp2_with (first | ((with_reducible refine gate_dst (N := 2) rfl ?_); refine box_event ?hg (N := 2) ?hd (cs := #[.int .i64 a0_0, .slice Ao8 l0_1.length co8, .slice Ao9 l0_2.length co9, .slice Ao10 l0_3.length co10, .slice Ao11 l0_4.length co11, .slice A0_5 l0_5.length c0_5]) (t := 55) ?hr ?_; (case hd => rfl); (case hg => rfl); (case hr => first | (go_simp; done) | (go_simp; rfl)); intro gb380 hg w12 hbox hb; have n0_ := yD (zE (kA HO0_1) hb); have n1_ := yD (zE (kA HO0_2) hb); have n2_ := yD (zE (kA HO0_3) hb); have n3_ := yD (zE (kA HO0_4) hb); have n4_ := yD (Kept.below (S := (fun k_ => P0_1_ k_ ∨ P0_2_ k_ ∨ P0_3_ k_ ∨ P0_4_ k_)) (kR2 HK) hb); have n5_ := yD (zC (kB HB) hb); have n6_ := yD (hbox); have n7_ := yD ((by rw [hg]; exact (by first | exact HK.out.1 | exact (show Kept w _ (fun k_ => P0_1_ k_ ∨ P0_2_ k_ ∨ P0_3_ k_ ∨ P0_4_ k_) from kR2 HK).1) : w.heap.size ≤ gb380)); have n8_ := yD ((by rw [hg]; exact (below_size (kB HB)) : w0.heap.size ≤ gb380)); clear HO0_1; clear HO0_2; clear HO0_3; clear HO0_4; clear HK; clear HB; have HO0_1 := n0_; have HO0_2 := n1_; have HO0_3 := n2_; have HO0_4 := n3_; have HK := n4_; have HB := n5_; have BK380 := n6_; have GW380 := n7_; have GE380 := n8_; clear n0_ n1_ n2_ n3_ n4_ n5_ n6_ n7_ n8_; clear hb hbox hg; obtain ⟨hcz13_0, hcz13_1, hcz13_2, hcz13_3, hcz13_4, hcz13_5⟩ := cz6 BK380.out; obtain ⟨hfz13_0, hfz13_1, hfz13_2, hfz13_3, hfz13_4, hfz13_5⟩ := fz6 BK380.out) | ((with_reducible refine gate_callee (f := 44) rfl ?_); refine gL 8 Try.func44 #[.slice Ao8 l0_1.length co8, .int .i64 a1] ?_; (with_reducible refine (laws_markInt64S.calls k (fun k_ => some k_ = (.slice Ao8 l0_1.length co8 : Value).ownBlock) (.slice Ao8 l0_1.length co8) l0_1 a1 t381 t382 w0 _ ?side1 ?side2 A3.out).mono ?_); (case side1 => exact kR0 HB); (case side2 => exact Kd.R_tight rfl HO0_1.out); rintro e w14 ⟨rfl, hy0, hb, hkp⟩; refine ⟨_, rfl, ?_⟩; have n0_ := yD (Kd.R_reok rfl hy0 (fun k_ e_ => HO0_1.out.1 k_ e_)); have n1_ := yD (zF (ok' := fun k_ => ((P0_1_ k_ ∨ P0_2_ k_ ∨ P0_3_ k_ ∨ P0_4_ k_) ∨ w.heap.size ≤ k_) ∧ some k_ ≠ (.slice Ao8 l0_1.length co8 : Value).ownBlock ∧ some k_ ≠ (.slice Ao10 l0_3.length co10 : Value).ownBlock ∧ some k_ ≠ (.slice Ao11 l0_4.length co11 : Value).ownBlock) (Kd.R_keptB (HO0_2.out) hkp (fun k_ hk_ hs_ => (hk_.2.1) hs_)) (fun k_ hk_ => ⟨hk_.1.1, hk_.1.2.1, hk_.1.2.2.1, hk_.1.2.2.2⟩)); have n2_ := yD (zF (ok' := fun k_ => ((P0_1_ k_ ∨ P0_2_ k_ ∨ P0_3_ k_ ∨ P0_4_ k_) ∨ w.heap.size ≤ k_) ∧ some k_ ≠ (.slice Ao8 l0_1.length co8 : Value).ownBlock ∧ some k_ ≠ (.slice Ao9 l0_2.length co9 : Value).ownBlock ∧ some k_ ≠ (.slice Ao11 l0_4.length co11 : Value).ownBlock) (Kd.R_keptB (HO0_3.out) hkp (fun k_ hk_ hs_ => (hk_.2.1) hs_)) (fun k_ hk_ => ⟨hk_.1.1, hk_.1.2.1, hk_.1.2.2.1, hk_.1.2.2.2⟩)); have n3_ := yD (zF (ok' := fun k_ => ((P0_1_ k_ ∨ P0_2_ k_ ∨ P0_3_ k_ ∨ P0_4_ k_) ∨ w.heap.size ≤ k_) ∧ some k_ ≠ (.slice Ao8 l0_1.length co8 : Value).ownBlock ∧ some k_ ≠ (.slice Ao9 l0_2.length co9 : Value).ownBlock ∧ some k_ ≠ (.slice Ao10 l0_3.length co10 : Value).ownBlock) (Kd.R_keptB (HO0_4.out) hkp (fun k_ hk_ hs_ => (hk_.2.1) hs_)) (fun k_ hk_ => ⟨hk_.1.1, hk_.1.2.1, hk_.1.2.2.1, hk_.1.2.2.2⟩)); have n4_ := yD (blk_kept (kM BK380) hkp (fun hs_ => (fun e_ => (Kd.R_ne HO0_1.out BK380.out (by decide)) e_) hs_)); have n5_ := yD (Kept.then_ (S := (fun k_ => P0_1_ k_ ∨ P0_2_ k_ ∨ P0_3_ k_ ∨ P0_4_ k_)) (kR4 HK) hkp (fun k_ hs_ => (fun e_ => (HO0_1.out.1 k_ e_.symm).1) hs_)); have n6_ := yD (hb); clear HO0_1; clear HO0_2; clear HO0_3; clear HO0_4; clear BK380; clear HK; clear HB; have HO0_1 := n0_; have HO0_2 := n1_; have HO0_3 := n2_; have HO0_4 := n3_; have BK380 := n4_; have HK := n5_; have HB := n6_; clear n0_ n1_ n2_ n3_ n4_ n5_ n6_; (try clear hb); (try clear hkp); (try clear hy0); obtain ⟨hcz15_0, hcz15_1, hcz15_2, hcz15_3, hcz15_4, hcz15_5⟩ := cz6 BK380.out; obtain ⟨hfz15_0, hfz15_1, hfz15_2, hfz15_3, hfz15_4, hfz15_5⟩ := fz6 BK380.out) | ((with_reducible refine gate_callee (f := 44) rfl ?_); refine gL 12 Try.func44 #[.slice Ao9 l0_2.length co9, .int .i64 t381] ?_; (with_reducible refine (laws_markInt64S.calls k (fun k_ => some k_ = (.slice Ao9 l0_2.length co9 : Value).ownBlock) (.slice Ao9 l0_2.length co9) l0_2 t381 t383 t384 w0 _ ?side1 ?side2 A4.out).mono ?_); (case side1 => exact kR0 HB); (case side2 => exact Kd.R_tight rfl HO0_2.out); rintro e w16 ⟨rfl, hy0, hb, hkp⟩; refine ⟨_, rfl, ?_⟩; have n0_ := yD (zF (ok' := fun k_ => ((P0_1_ k_ ∨ P0_2_ k_ ∨ P0_3_ k_ ∨ P0_4_ k_) ∨ w.heap.size ≤ k_) ∧ some k_ ≠ (.slice Ao9 l0_2.length co9 : Value).ownBlock ∧ some k_ ≠ (.slice Ao10 l0_3.length co10 : Value).ownBlock ∧ some k_ ≠ (.slice Ao11 l0_4.length co11 : Value).ownBlock) (Kd.R_keptB (HO0_1.out) hkp (fun k_ hk_ hs_ => (hk_.2.1) hs_)) (fun k_ hk_ => ⟨hk_.1.1, hk_.1.2.1, hk_.1.2.2.1, hk_.1.2.2.2⟩)); have n1_ := yD (Kd.R_reok rfl hy0 (fun k_ e_ => HO0_2.out.1 k_ e_)); have n2_ := yD (zF (ok' := fun k_ => ((P0_1_ k_ ∨ P0_2_ k_ ∨ P0_3_ k_ ∨ P0_4_ k_) ∨ w.heap.size ≤ k_) ∧ some k_ ≠ (.slice Ao8 l0_1.length co8 : Value).ownBlock ∧ some k_ ≠ (.slice Ao9 l0_2.length co9 : Value).ownBlock ∧ some k_ ≠ (.slice Ao11 l0_4.length co11 : Value).ownBlock) (Kd.R_keptB (HO0_3.out) hkp (fun k_ hk_ hs_ => (hk_.2.2.1) hs_)) (fun k_ hk_ => ⟨hk_.1.1, hk_.1.2.1, hk_.1.2.2.1, hk_.1.2.2.2⟩)); have n3_ := yD (zF (ok' := fun k_ => ((P0_1_ k_ ∨ P0_2_ k_ ∨ P0_3_ k_ ∨ P0_4_ k_) ∨ w.heap.size ≤ k_) ∧ some k_ ≠ (.slice Ao8 l0_1.length co8 : Value).ownBlock ∧ some k_ ≠ (.slice Ao9 l0_2.length co9 : Value).ownBlock ∧ some k_ ≠ (.slice Ao10 l0_3.length co10 : Value).ownBlock) (Kd.R_keptB (HO0_4.out) hkp (fun k_ hk_ hs_ => (hk_.2.2.1) hs_)) (fun k_ hk_ => ⟨hk_.1.1, hk_.1.2.1, hk_.1.2.2.1, hk_.1.2.2.2⟩)); have n4_ := yD (blk_kept (kM BK380) hkp (fun hs_ => (fun e_ => (Kd.R_ne HO0_2.out BK380.out (by decide)) e_) hs_)); have n5_ := yD (Kept.then_ (S := (fun k_ => P0_1_ k_ ∨ P0_2_ k_ ∨ P0_3_ k_ ∨ P0_4_ k_)) (kR4 HK) hkp (fun k_ hs_ => (fun e_ => (HO0_2.out.1 k_ e_.symm).1) hs_)); have n6_ := yD (hb); clear HO0_1; clear HO0_2; clear HO0_3; clear HO0_4; clear BK380; clear HK; clear HB; have HO0_1 := n0_; have HO0_2 := n1_; have HO0_3 := n2_; have HO0_4 := n3_; have BK380 := n4_; have HK := n5_; have HB := n6_; clear n0_ n1_ n2_ n3_ n4_ n5_ n6_; (try clear hb); (try clear hkp); (try clear hy0); obtain ⟨hcz17_0, hcz17_1, hcz17_2, hcz17_3, hcz17_4, hcz17_5⟩ := cz6 BK380.out; obtain ⟨hfz17_0, hfz17_1, hfz17_2, hfz17_3, hfz17_4, hfz17_5⟩ := fz6 BK380.out) | ((with_reducible refine gate_callee (f := 44) rfl ?_); refine gL 16 Try.func44 #[.slice Ao10 l0_3.length co10, .int .i64 t383] ?_; (with_reducible refine (laws_markInt64S.calls k (fun k_ => some k_ = (.slice Ao10 l0_3.length co10 : Value).ownBlock) (.slice Ao10 l0_3.length co10) l0_3 t383 t385 t386 w0 _ ?side1 ?side2 A5.out).mono ?_); (case side1 => exact kR0 HB); (case side2 => exact Kd.R_tight rfl HO0_3.out); rintro e w18 ⟨rfl, hy0, hb, hkp⟩; refine ⟨_, rfl, ?_⟩; have n0_ := yD (zF (ok' := fun k_ => ((P0_1_ k_ ∨ P0_2_ k_ ∨ P0_3_ k_ ∨ P0_4_ k_) ∨ w.heap.size ≤ k_) ∧ some k_ ≠ (.slice Ao9 l0_2.length co9 : Value).ownBlock ∧ some k_ ≠ (.slice Ao10 l0_3.length co10 : Value).ownBlock ∧ some k_ ≠ (.slice Ao11 l0_4.length co11 : Value).ownBlock) (Kd.R_keptB (HO0_1.out) hkp (fun k_ hk_ hs_ => (hk_.2.2.1) hs_)) (fun k_ hk_ => ⟨hk_.1.1, hk_.1.2.1, hk_.1.2.2.1, hk_.1.2.2.2⟩)); have n1_ := yD (zF (ok' := fun k_ => ((P0_1_ k_ ∨ P0_2_ k_ ∨ P0_3_ k_ ∨ P0_4_ k_) ∨ w.heap.size ≤ k_) ∧ some k_ ≠ (.slice Ao8 l0_1.length co8 : Value).ownBlock ∧ some k_ ≠ (.slice Ao10 l0_3.length co10 : Value).ownBlock ∧ some k_ ≠ (.slice Ao11 l0_4.length co11 : Value).ownBlock) (Kd.R_keptB (HO0_2.out) hkp (fun k_ hk_ hs_ => (hk_.2.2.1) hs_)) (fun k_ hk_ => ⟨hk_.1.1, hk_.1.2.1, hk_.1.2.2.1, hk_.1.2.2.2⟩)); have n2_ := yD (Kd.R_reok rfl hy0 (fun k_ e_ => HO0_3.out.1 k_ e_)); have n3_ := yD (zF (ok' := fun k_ => ((P0_1_ k_ ∨ P0_2_ k_ ∨ P0_3_ k_ ∨ P0_4_ k_) ∨ w.heap.size ≤ k_) ∧ some k_ ≠ (.slice Ao8 l0_1.length co8 : Value).ownBlock ∧ some k_ ≠ (.slice Ao9 l0_2.length co9 : Value).ownBlock ∧ some k_ ≠ (.slice Ao10 l0_3.length co10 : Value).ownBlock) (Kd.R_keptB (HO0_4.out) hkp (fun k_ hk_ hs_ => (hk_.2.2.2) hs_)) (fun k_ hk_ => ⟨hk_.1.1, hk_.1.2.1, hk_.1.2.2.1, hk_.1.2.2.2⟩)); have n4_ := yD (blk_kept (kM BK380) hkp (fun hs_ => (fun e_ => (Kd.R_ne HO0_3.out BK380.out (by decide)) e_) hs_)); have n5_ := yD (Kept.then_ (S := (fun k_ => P0_1_ k_ ∨ P0_2_ k_ ∨ P0_3_ k_ ∨ P0_4_ k_)) (kR4 HK) hkp (fun k_ hs_ => (fun e_ => (HO0_3.out.1 k_ e_.symm).1) hs_)); have n6_ := yD (hb); clear HO0_1; clear HO0_2; clear HO0_3; clear HO0_4; clear BK380; clear HK; clear HB; have HO0_1 := n0_; have HO0_2 := n1_; have HO0_3 := n2_; have HO0_4 := n3_; have BK380 := n4_; have HK := n5_; have HB := n6_; clear n0_ n1_ n2_ n3_ n4_ n5_ n6_; (try clear hb); (try clear hkp); (try clear hy0); obtain ⟨hcz19_0, hcz19_1, hcz19_2, hcz19_3, hcz19_4, hcz19_5⟩ := cz6 BK380.out; obtain ⟨hfz19_0, hfz19_1, hfz19_2, hfz19_3, hfz19_4, hfz19_5⟩ := fz6 BK380.out) | ((with_reducible refine gate_callee (f := 44) rfl ?_); refine gL 20 Try.func44 #[.slice Ao11 l0_4.length co11, .int .i64 t385] ?_; (with_reducible refine (laws_markInt64S.calls k (fun k_ => some k_ = (.slice Ao11 l0_4.length co11 : Value).ownBlock) (.slice Ao11 l0_4.length co11) l0_4 t385 t387 t388 w0 _ ?side1 ?side2 A6.out).mono ?_); (case side1 => exact kR0 HB); (case side2 => exact Kd.R_tight rfl HO0_4.out); rintro e w20 ⟨rfl, hy0, hb, hkp⟩; refine ⟨_, rfl, ?_⟩; have n0_ := yD (zF (ok' := fun k_ => ((P0_1_ k_ ∨ P0_2_ k_ ∨ P0_3_ k_ ∨ P0_4_ k_) ∨ w.heap.size ≤ k_) ∧ some k_ ≠ (.slice Ao9 l0_2.length co9 : Value).ownBlock ∧ some k_ ≠ (.slice Ao10 l0_3.length co10 : Value).ownBlock ∧ some k_ ≠ (.slice Ao11 l0_4.length co11 : Value).ownBlock) (Kd.R_keptB (HO0_1.out) hkp (fun k_ hk_ hs_ => (hk_.2.2.2) hs_)) (fun k_ hk_ => ⟨hk_.1.1, hk_.1.2.1, hk_.1.2.2.1, hk_.1.2.2.2⟩)); have n1_ := yD (zF (ok' := fun k_ => ((P0_1_ k_ ∨ P0_2_ k_ ∨ P0_3_ k_ ∨ P0_4_ k_) ∨ w.heap.size ≤ k_) ∧ some k_ ≠ (.slice Ao8 l0_1.length co8 : Value).ownBlock ∧ some k_ ≠ (.slice Ao10 l0_3.length co10 : Value).ownBlock ∧ some k_ ≠ (.slice Ao11 l0_4.length co11 : Value).ownBlock) (Kd.R_keptB (HO0_2.out) hkp (fun k_ hk_ hs_ => (hk_.2.2.2) hs_)) (fun k_ hk_ => ⟨hk_.1.1, hk_.1.2.1, hk_.1.2.2.1, hk_.1.2.2.2⟩)); have n2_ := yD (zF (ok' := fun k_ => ((P0_1_ k_ ∨ P0_2_ k_ ∨ P0_3_ k_ ∨ P0_4_ k_) ∨ w.heap.size ≤ k_) ∧ some k_ ≠ (.slice Ao8 l0_1.length co8 : Value).ownBlock ∧ some k_ ≠ (.slice Ao9 l0_2.length co9 : Value).ownBlock ∧ some k_ ≠ (.slice Ao11 l0_4.length co11 : Value).ownBlock) (Kd.R_keptB (HO0_3.out) hkp (fun k_ hk_ hs_ => (hk_.2.2.2) hs_)) (fun k_ hk_ => ⟨hk_.1.1, hk_.1.2.1, hk_.1.2.2.1, hk_.1.2.2.2⟩)); have n3_ := yD (Kd.R_reok rfl hy0 (fun k_ e_ => HO0_4.out.1 k_ e_)); have n4_ := yD (blk_kept (kM BK380) hkp (fun hs_ => (fun e_ => (Kd.R_ne HO0_4.out BK380.out (by decide)) e_) hs_)); have n5_ := yD (Kept.then_ (S := (fun k_ => P0_1_ k_ ∨ P0_2_ k_ ∨ P0_3_ k_ ∨ P0_4_ k_)) (kR4 HK) hkp (fun k_ hs_ => (fun e_ => (HO0_4.out.1 k_ e_.symm).1) hs_)); have n6_ := yD (hb); clear HO0_1; clear HO0_2; clear HO0_3; clear HO0_4; clear BK380; clear HK; clear HB; have HO0_1 := n0_; have HO0_2 := n1_; have HO0_3 := n2_; have HO0_4 := n3_; have BK380 := n4_; have HK := n5_; have HB := n6_; clear n0_ n1_ n2_ n3_ n4_ n5_ n6_; (try clear hb); (try clear hkp); (try clear hy0); obtain ⟨hcz21_0, hcz21_1, hcz21_2, hcz21_3, hcz21_4, hcz21_5⟩ := cz6 BK380.out; obtain ⟨hfz21_0, hfz21_1, hfz21_2, hfz21_3, hfz21_4, hfz21_5⟩ := fz6 BK380.out) | ((with_reducible refine gate_callee (f := 83) rfl ?_); refine gL 24 Try.func83 #[.slice A0_5 l0_5.length c0_5, .int .i64 t387] ?_; (refine (laws_markPointS.calls k P0_5_ (.slice A0_5 l0_5.length c0_5) l0_5 t387 t389 lp389 w0 _ ?side1 ?side2 A7.out).mono ?_); (case side1 => exact kR5 HB); (case side2 => exact HR0_5.out _ (kR4 HK)); rintro e wz ⟨rfl, hs_, hb, hkp, hl_⟩; refine ⟨_, rfl, ?_⟩; have n1_ := yD (Kd.R_mono (R_keptT rfl (by (with_reducible repeat (first | apply Kd.R_alloc | apply Kd.R_drewN | apply Kd.R_drew)); exact HO0_1.out) hkp (fun k_ ho_ h5_ => by have q_ := hq5 k_ h5_; exact ho_.2.1.elim q_.2 (fun h_ => by omega))) (fun _ hk => hk.1)); have n2_ := yD (Kd.R_mono (R_keptT rfl (by (with_reducible repeat (first | apply Kd.R_alloc | apply Kd.R_drewN | apply Kd.R_drew)); exact HO0_2.out) hkp (fun k_ ho_ h5_ => by have q_ := hq5 k_ h5_; exact ho_.2.1.elim q_.2 (fun h_ => by omega))) (fun _ hk => hk.1)); have n3_ := yD (Kd.R_mono (R_keptT rfl (by (with_reducible repeat (first | apply Kd.R_alloc | apply Kd.R_drewN | apply Kd.R_drew)); exact HO0_3.out) hkp (fun k_ ho_ h5_ => by have q_ := hq5 k_ h5_; exact ho_.2.1.elim q_.2 (fun h_ => by omega))) (fun _ hk => hk.1)); have n4_ := yD (Kd.R_mono (R_keptT rfl (by (with_reducible repeat (first | apply Kd.R_alloc | apply Kd.R_drewN | apply Kd.R_drew)); exact HO0_4.out) hkp (fun k_ ho_ h5_ => by have q_ := hq5 k_ h5_; exact ho_.2.1.elim q_.2 (fun h_ => by omega))) (fun _ hk => hk.1)); have n5_ := yD hb; have n6_ := yD (Kept.then_ (Kept_up (P := fun k_ => P0_1_ k_ ∨ P0_2_ k_ ∨ P0_3_ k_ ∨ P0_4_ k_) (Q := fun k_ => P0_1_ k_ ∨ P0_2_ k_ ∨ P0_3_ k_ ∨ P0_4_ k_ ∨ P0_5_ k_) (kR4 HK) (fun k_ h_ => h_.elim .inl (fun h_ => .inr (h_.elim .inl (fun h_ => .inr (h_.elim .inl (fun h_ => .inr (.inl h_)))))))) hkp (fun k_ h_ => .inl (.inr (.inr (.inr (.inr h_)))))); have HS5 := yD (S_forget (P := P0_5_) (ys := l0_5) hs_ hP5_.out hl_.symm); clear HO0_1; clear HO0_2; clear HO0_3; clear HO0_4; clear HB; clear HK; have HO0_1 := n1_; have HO0_2 := n2_; have HO0_3 := n3_; have HO0_4 := n4_; have HB := n5_; have HK := n6_; clear n1_ n2_ n3_ n4_ n5_ n6_ hb hkp hs_ hl_))
 go_ret
 exact ⟨by first | rfl | (simp <;> rfl) | (simp [*] <;> rfl), by (with_reducible repeat (first | apply yA | apply yB | apply yC)); exact zF HO0_1.out (fun _ hk => hk.1), by (with_reducible repeat (first | apply yA | apply yB | apply yC)); exact zF HO0_2.out (fun _ hk => hk.1), by (with_reducible repeat (first | apply yA | apply yB | apply yC)); exact zF HO0_3.out (fun _ hk => hk.1), by (with_reducible repeat (first | apply yA | apply yB | apply yC)); exact zF HO0_4.out (fun _ hk => hk.1), by (with_reducible repeat (first | apply Kd.S_alloc | apply Kd.S_drewN | apply Kd.S_drew)); exact HS5.out, kR0 HB, kR4 HK⟩

end Go.Proofs.Ytdiaebjbiddefaa.PFnExactSelectedIndices
