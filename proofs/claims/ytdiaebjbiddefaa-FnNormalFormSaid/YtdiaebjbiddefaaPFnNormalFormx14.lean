/- Each Go function here comes to what the plain function of its name says, where that says something. Made by a program of this session, over the print. -/
import Derived.Test.YtdiaebjbiddefaaPFnNormalFormx0
import Derived.Test.YtdiaebjbiddefaaPFnNormalFormx9
import Derived.Test.YtdiaebjbiddefaaPFnNormalFormx13
namespace Go.Proofs.Ytdiaebjbiddefaa.PFnNormalForm
open Go.RowKit Go.Proofs.YtdiaebjbiddefaaW.PrintWords Go.Proofs.YtdiaebjbiddefaaW.PrintLast Go.Proofs.YtdiaebjbiddefaaW.PrintMore
attribute [local go_sem] max2_int min2_int max_two min_two max_three min_three max_four min_four   -- for this text's walks alone
set_option linter.unusedVariables false
set_option linter.unusedSimpArgs false

/-! ### spec_l07Do: function 54 -/
def spec_l07Do.j0 : Nat → Int → List (S42) → List (S42) → Bool → Option ((List (S42)) × Int)
 | 0, _, _, _, _ => none
 | k + 1, x0, x1, x2, x39 => if x39 = true then (some (([] : List (S42)), 1)) else ((spec_l07Rank.f x1 x2).bind fun t426 => ((spec_l07Combine.f k x0 x1 x2 t426).bind fun t427 => (if (t427.length : Int) > 32 then (some (([] : List (S42)), 5)) else (some (t427, 0)))))
def spec_l07Do.f (k : Nat) (a0 : Int) (l1 : List (S42)) (l2 : List (S42)) : Option ((List (S42)) × Int) := (spec_l07List.f k l1).bind fun t422 => (if t422 = true then ((spec_l07List.f k l2).bind fun t423 => (if t423 = true then (if (l1.length : Int) > 0 then (if (l2.length : Int) > 0 then (if 0 < (l1.length : Int) then (if 0 < (l2.length : Int) then (spec_l07Do.j0 k a0 l1 l2 ((((rd_T42 l1 0).f0).length : Int) != (((rd_T42 l2 0).f0).length : Int))) else (none)) else (none)) else (spec_l07Do.j0 k a0 l1 l2 false)) else (spec_l07Do.j0 k a0 l1 l2 false)) else (spec_l07Do.j0 k a0 l1 l2 true))) else (spec_l07Do.j0 k a0 l1 l2 true))
theorem spec_l07Do.mono_l : ∀ k, (∀ y0 y1 y2 y3, LeO (spec_l07Do.j0 k y0 y1 y2 y3) (spec_l07Do.j0 (k + 1) y0 y1 y2 y3))
 | 0 => fun _ _ _ _ r h => by simp [spec_l07Do.j0] at h
 | k + 1 => by
  have ih0 := spec_l07Do.mono_l k
  ·
   intro y0 y1 y2 y3
   unfold spec_l07Do.j0
   repeat' first
   | (with_reducible exact ih0 _ _ _ _)
   | (with_reducible exact spec_l07Combine.mono _ _ _ _ _)
   | (with_reducible exact spec_l07List.mono _ _)
   | (with_reducible exact LeO.refl _)
   | (with_reducible exact LeO.none _)
   | (with_reducible refine LeO.ite ?_ ?_)
   | (with_reducible refine LeO.bind ?_ (fun _ => ?_))
   | exact ih0 _ _ _ _
   | exact spec_l07Combine.mono _ _ _ _ _
   | exact spec_l07List.mono _ _
   | exact LeO.none _
   | refine LeO.ite ?_ ?_
   | refine LeO.bind ?_ (fun _ => ?_)
theorem spec_l07Do.mono : ∀ a0 a1 a2 k, LeO (spec_l07Do.f k a0 a1 a2) (spec_l07Do.f (k + 1) a0 a1 a2) := by
 intro a0 a1 a2 k
 have ih0 := spec_l07Do.mono_l k
 unfold spec_l07Do.f
 repeat' first
  | (with_reducible exact ih0 _ _ _ _)
  | (with_reducible exact spec_l07Combine.mono _ _ _ _ _)
  | (with_reducible exact spec_l07List.mono _ _)
  | (with_reducible exact LeO.refl _)
  | (with_reducible exact LeO.none _)
  | (with_reducible refine LeO.ite ?_ ?_)
  | (with_reducible refine LeO.bind ?_ (fun _ => ?_))
  | exact ih0 _ _ _ _
  | exact spec_l07Combine.mono _ _ _ _ _
  | exact spec_l07List.mono _ _
  | exact LeO.none _
  | refine LeO.ite ?_ ?_
  | refine LeO.bind ?_ (fun _ => ?_)
def spec_l07Do.T1 : Bool × List (List Nat × List Nat) := (true, [([], []), ([0], [0]), ([1], [1]), ([2, 1], [2]), ([3], [3]), ([4, 3, 3], [3, 4]), ([5, 3], [3, 5]), ([3, 6], [3, 6]), ([7, 5], [7]), ([8], [8]), ([9, 8], [8, 9]), ([10, 8], [8, 10]), ([11, 8, 8], [8, 11]), ([12], [12]), ([13, 12], [12, 13]), ([14, 12], [12, 14]), ([12, 15, 8], [8, 12, 15]), ([16, 12, 8], [8, 16]), ([17], [17]), ([18, 17], [17, 18]), ([19, 17], [17, 19]), ([20, 17], [17, 20]), ([21, 17], [17, 21]), ([17], [17]), ([23, 17], [17, 23]), ([24, 17], [17, 24]), ([25, 17], [17, 25]), ([26, 17], [17, 26]), ([22, 27, 17], [17, 22, 27]), ([17, 28, 8], [8, 17, 28]), ([8, 29], [8, 29])])
def spec_l07Do.B1 : List Nat := [0, 1, 3, 7, 15, 31, 63, 127, 255, 511, 1023, 2047, 4095, 8191, 16383, 32767, 65535, 131071, 262143, 524287, 1048575, 2097151, 4194303, 262143, 8650751, 25427967, 58982399, 126091263, 268435455, 536870911, 1073741823]
theorem spec_l07Do.tab1 : rtab .any (opsOf Try.f54 1) = spec_l07Do.T1 := by kernel_rfl
theorem spec_l07Do.bits1 : waitsOk spec_l07Do.T1.2 spec_l07Do.B1 = true := by kernel_rfl
set_option maxHeartbeats 8000000 in
set_option maxRecDepth 100000 in
theorem spec_l07Do.calls (k : Nat) (a0 : Int) (P1_ : Nat → Prop) (A1 : Option Addr) (c1 : Nat) (l1 : List (S42)) (P2_ : Nat → Prop) (A2 : Option Addr) (c2 : Nat) (l2 : List (S42)) (r1 : List (S42)) (r2 : Int) (w : World) (hs1 : Kd.V k42 42 w w.heap.size (fun k_ => P1_ k_) (.slice A1 l1.length c1) l1) (hs2 : Kd.V k42 42 w w.heap.size (fun k_ => P2_ k_) (.slice A2 l2.length c2) l2) (h : spec_l07Do.f k a0 l1 l2 = some (r1, r2)) :
 Calls Try.prog 54 #[.int .i64 a0, .slice A1 l1.length c1, .slice A2 l2.length c2] w fun e w' => ∃ v0_ : Value, e = .returned (.tuple #[v0_, .int .i64 r2]) ∧ Kd.N k42 42 w' w.heap.size (fun k_ => ((P1_ k_ ∨ P2_ k_) ∨ w.heap.size ≤ k_)) v0_ r1 ∧ Below w.heap.size w w' := by
 have HO1 := yD (show Kd.V k42 42 w w.heap.size (fun k_ => ((P1_ k_ ∨ P2_ k_) ∨ w.heap.size ≤ k_)) (.slice A1 l1.length c1) l1 from Kd.V_mono hs1 (fun k_ hk => .inl (.inl hk)))
 have HO2 := yD (show Kd.V k42 42 w w.heap.size (fun k_ => ((P1_ k_ ∨ P2_ k_) ∨ w.heap.size ≤ k_)) (.slice A2 l2.length c2) l2 from Kd.V_mono hs2 (fun k_ hk => .inl (.inr hk)))
 have HB := yD (Below.refl w.heap.size w)
 have H : ((spec_l07List.f k l1).bind fun t422 => (if t422 = true then ((spec_l07List.f k l2).bind fun t423 => (if t423 = true then (if (l1.length : Int) > 0 then (if (l2.length : Int) > 0 then (if 0 < (l1.length : Int) then (if 0 < (l2.length : Int) then (spec_l07Do.j0 k a0 l1 l2 ((((rd_T42 l1 0).f0).length : Int) != (((rd_T42 l2 0).f0).length : Int))) else (none)) else (none)) else (spec_l07Do.j0 k a0 l1 l2 false)) else (spec_l07Do.j0 k a0 l1 l2 false)) else (spec_l07Do.j0 k a0 l1 l2 true))) else (spec_l07Do.j0 k a0 l1 l2 true))) = some (r1, r2) := h
 clear h
 have HC4 := yD H
 clear H; go_enter Try.func54, Try.ntmps54
 go_upto_region 1 with (fail)
 go_cut [39] (fun v39 wc => ∃ (kq : Nat) (x39_3 : Bool), v39 = .bool x39_3 ∧ Aside0 (spec_l07Do.j0 kq a0 l1 l2 x39_3 = some (r1, r2)) ∧ Aside0 (kq ≤ k) ∧ Aside0 (Kd.V k42 42 wc w.heap.size (fun k_ => ((P1_ k_ ∨ P2_ k_) ∨ w.heap.size ≤ k_)) (.slice A1 l1.length c1) l1) ∧ Aside0 (Kd.V k42 42 wc w.heap.size (fun k_ => ((P1_ k_ ∨ P2_ k_) ∨ w.heap.size ≤ k_)) (.slice A2 l2.length c2) l2) ∧ Aside0 (Below w.heap.size w wc))
 case first =>
  have H := HC4.out; clear HC4
  obtain ⟨t422, A50, H⟩ := zW_ H
  replace H : (if t422 = true then ((spec_l07List.f k l2).bind fun t423 => (if t423 = true then (if (l1.length : Int) > 0 then (if (l2.length : Int) > 0 then (if 0 < (l1.length : Int) then (if 0 < (l2.length : Int) then (spec_l07Do.j0 k a0 l1 l2 ((((rd_T42 l1 0).f0).length : Int) != (((rd_T42 l2 0).f0).length : Int))) else (none)) else (none)) else (spec_l07Do.j0 k a0 l1 l2 false)) else (spec_l07Do.j0 k a0 l1 l2 false)) else (spec_l07Do.j0 k a0 l1 l2 true))) else (spec_l07Do.j0 k a0 l1 l2 true)) = some (r1, r2) := H
  have A5 := yD A50
  clear A50
  by_cases c6 : t422 = true
  ·
   subst c6
   have H1 : ((spec_l07List.f k l2).bind fun t423 => (if t423 = true then (if (l1.length : Int) > 0 then (if (l2.length : Int) > 0 then (if 0 < (l1.length : Int) then (if 0 < (l2.length : Int) then (spec_l07Do.j0 k a0 l1 l2 ((((rd_T42 l1 0).f0).length : Int) != (((rd_T42 l2 0).f0).length : Int))) else (none)) else (none)) else (spec_l07Do.j0 k a0 l1 l2 false)) else (spec_l07Do.j0 k a0 l1 l2 false)) else (spec_l07Do.j0 k a0 l1 l2 true))) = some (r1, r2) := by rw [if_pos rfl] at H; exact H
   clear H; have H := H1; clear H1
   obtain ⟨t423, A70, H⟩ := zW_ H
   replace H : (if t423 = true then (if (l1.length : Int) > 0 then (if (l2.length : Int) > 0 then (if 0 < (l1.length : Int) then (if 0 < (l2.length : Int) then (spec_l07Do.j0 k a0 l1 l2 ((((rd_T42 l1 0).f0).length : Int) != (((rd_T42 l2 0).f0).length : Int))) else (none)) else (none)) else (spec_l07Do.j0 k a0 l1 l2 false)) else (spec_l07Do.j0 k a0 l1 l2 false)) else (spec_l07Do.j0 k a0 l1 l2 true)) = some (r1, r2) := H
   have A7 := yD A70
   clear A70
   by_cases c8 : t423 = true
   ·
    subst c8
    have H1 : (if (l1.length : Int) > 0 then (if (l2.length : Int) > 0 then (if 0 < (l1.length : Int) then (if 0 < (l2.length : Int) then (spec_l07Do.j0 k a0 l1 l2 ((((rd_T42 l1 0).f0).length : Int) != (((rd_T42 l2 0).f0).length : Int))) else (none)) else (none)) else (spec_l07Do.j0 k a0 l1 l2 false)) else (spec_l07Do.j0 k a0 l1 l2 false)) = some (r1, r2) := by rw [if_pos rfl] at H; exact H
    clear H; have H := H1; clear H1
    by_cases c9 : (l1.length : Int) > 0
    ·
     rw [if_pos c9] at H
     have c9b0 : decide (0 < (l1.length : Int)) = true := zR c9
     have c9b1 : decide (0 < l1.length) = true := zR (by omega)
     clear c9
     (first | rw [c9b0] | (simp only [i64_w, i32_w]; rw [c9b0]) | (simp only [bne] at c9b0; rw [c9b0]) | skip)
     by_cases c10 : (l2.length : Int) > 0
     ·
      rw [if_pos c10] at H
      have c10b0 : decide (0 < (l2.length : Int)) = true := zR c10
      have c10b1 : decide (0 < l2.length) = true := zR (by omega)
      clear c10
      by_cases c11 : 0 < (l1.length : Int)
      ·
       rw [if_pos c11] at H
       have c11b0 : decide (0 < (l1.length : Int)) = true := zR c11
       have c11b1 : decide (0 < l1.length) = true := zR (by omega)
       clear c11
       by_cases c12 : 0 < (l2.length : Int)
       ·
        rw [if_pos c12] at H
        have c12b0 : decide (0 < (l2.length : Int)) = true := zR c12
        have c12b1 : decide (0 < l2.length) = true := zR (by omega)
        clear c12
        have H' := yD H
        clear H
        try go_wp2
        have n0_ := yD (Kd.V_drew HO1.out)
        have n1_ := yD (Kd.V_drew HO2.out)
        have n2_ := yD (yP HB.out)
        clear HO1 HO2 HB; have HO1 := n0_; have HO2 := n1_; have HB := n2_; clear n0_ n1_ n2_
        have p424 : 0 ≤ (0 : Int) := (by omega)
        have q424 : 0 < (l1.length : Int) := zP (by assumption)
        obtain ⟨ad424, A424_0, c424_0, A424_1, c424_1, e424, hx424_0, hx424_1, hl424_0, hi424_0, hl424_1, hi424_1⟩ := at_T42 (Kd.V_reads' HO1.out).2.2 0 p424 q424
        cases e424
        obtain ⟨ce424, hce424, hMe424, hcc424⟩ := Kd.V_get HO1.out z42 0 p424 (by first | exact q424 | exact zP (by assumption) | (have e_ := (Kd.V_reads' HO1.out).1; omega))
        obtain ⟨ua424_0, uc424_0, ua424_1, uc424_1, rfl, ul424_0, ge424_0, ul424_1, ge424_1⟩ := k42_openF hMe424
        have hv424_0 := hcc424 0 _ rfl
        rw [Nat.add_zero] at hv424_0
        replace hv424_0 := Option.some.inj (hv424_0.symm.trans hx424_0)
        injection hv424_0 with hva_ hvn_ hvc_
        rw [hva_] at ge424_0
        rw [hvc_] at ul424_0
        have HL424_0 := yD (show Kd.V (Kd.int .i64) 2 _ w.heap.size _ _ ((rd_T42 l1 0).f0) from Kd.V_mk ul424_0 ge424_0)
        clear hva_ hvn_ hvc_ ge424_0 ul424_0
        have hv424_1 := hcc424 1 _ rfl
        rw [add_field _ _ 1 (by omega)] at hv424_1
        replace hv424_1 := Option.some.inj (hv424_1.symm.trans hx424_1)
        injection hv424_1 with hva_ hvn_ hvc_
        rw [hva_] at ge424_1
        rw [hvc_] at ul424_1
        have HL424_1 := yD (show Kd.V (Kd.int .i64) 2 _ w.heap.size _ _ ((rd_T42 l1 0).f1) from Kd.V_mk ul424_1 ge424_1)
        clear hva_ hvn_ hvc_ ge424_1 ul424_1 hcc424 hce424
        have qi424 : (0 < l1.length) = True := eq_true (by omega)
        (try rw [show ((0 : Int)).toNat = 0 from rfl] at hx424_0)
        (try rw [show 0 * 2 = 0 from rfl] at hx424_0)
        (try rw [Addr.add_zero'] at hx424_0)
        (try rw [show ((0 : Int)).toNat = 0 from rfl] at hx424_1)
        (try rw [show 0 * 2 = 0 from rfl] at hx424_1)
        (try rw [Addr.add_zero'] at hx424_1)
        have HR424_0 := yD hi424_0
        have HC424_0 := yD hl424_0
        clear hi424_0 hl424_0
        have HR424_1 := yD hi424_1
        have HC424_1 := yD hl424_1
        clear hi424_1 hl424_1; replace p424 := eq_true p424; replace q424 := eq_true q424
        have p425 : 0 ≤ (0 : Int) := (by omega)
        have q425 : 0 < (l2.length : Int) := zP (by assumption)
        obtain ⟨ad425, A425_0, c425_0, A425_1, c425_1, e425, hx425_0, hx425_1, hl425_0, hi425_0, hl425_1, hi425_1⟩ := at_T42 (Kd.V_reads' HO2.out).2.2 0 p425 q425
        cases e425
        obtain ⟨ce425, hce425, hMe425, hcc425⟩ := Kd.V_get HO2.out z42 0 p425 (by first | exact q425 | exact zP (by assumption) | (have e_ := (Kd.V_reads' HO2.out).1; omega))
        obtain ⟨ua425_0, uc425_0, ua425_1, uc425_1, rfl, ul425_0, ge425_0, ul425_1, ge425_1⟩ := k42_openF hMe425
        have hv425_0 := hcc425 0 _ rfl
        rw [Nat.add_zero] at hv425_0
        replace hv425_0 := Option.some.inj (hv425_0.symm.trans hx425_0)
        injection hv425_0 with hva_ hvn_ hvc_
        rw [hva_] at ge425_0
        rw [hvc_] at ul425_0
        have HL425_0 := yD (show Kd.V (Kd.int .i64) 2 _ w.heap.size _ _ ((rd_T42 l2 0).f0) from Kd.V_mk ul425_0 ge425_0)
        clear hva_ hvn_ hvc_ ge425_0 ul425_0
        have hv425_1 := hcc425 1 _ rfl
        rw [add_field _ _ 1 (by omega)] at hv425_1
        replace hv425_1 := Option.some.inj (hv425_1.symm.trans hx425_1)
        injection hv425_1 with hva_ hvn_ hvc_
        rw [hva_] at ge425_1
        rw [hvc_] at ul425_1
        have HL425_1 := yD (show Kd.V (Kd.int .i64) 2 _ w.heap.size _ _ ((rd_T42 l2 0).f1) from Kd.V_mk ul425_1 ge425_1)
        clear hva_ hvn_ hvc_ ge425_1 ul425_1 hcc425 hce425
        have qi425 : (0 < l2.length) = True := eq_true (by omega)
        (try rw [show ((0 : Int)).toNat = 0 from rfl] at hx425_0)
        (try rw [show 0 * 2 = 0 from rfl] at hx425_0)
        (try rw [Addr.add_zero'] at hx425_0)
        (try rw [show ((0 : Int)).toNat = 0 from rfl] at hx425_1)
        (try rw [show 0 * 2 = 0 from rfl] at hx425_1)
        (try rw [Addr.add_zero'] at hx425_1)
        have HR425_0 := yD hi425_0
        have HC425_0 := yD hl425_0
        clear hi425_0 hl425_0
        have HR425_1 := yD hi425_1
        have HC425_1 := yD hl425_1
        clear hi425_1 hl425_1; replace p425 := eq_true p425; replace q425 := eq_true q425
        refine start_ (n := 31) (S := fun w' => w'.cell? ad424 = some (.slice A424_0 ((rd_T42 l1 0).f0).length c424_0) ∧ w'.cell? ⟨ad424.block, ad424.off + 1, none⟩ = some (.slice A424_1 ((rd_T42 l1 0).f1).length c424_1) ∧ w'.cell? ad425 = some (.slice A425_0 ((rd_T42 l2 0).f0).length c425_0) ∧ w'.cell? ⟨ad425.block, ad425.off + 1, none⟩ = some (.slice A425_1 ((rd_T42 l2 0).f1).length c425_1)) (ds := []) (bz 31 0) (by kernel_rfl) rfl rfl ⟨hx424_0, hx424_1, hx425_0, hx425_1⟩ (fun hHeld => ?_); refine with_tabW spec_l07Do.tab1 spec_l07Do.bits1 (fun HT_ HW_ => ?_)
        generalize w.drew = w13 at HO1 HO2 HB HL424_0 HL424_1 HL425_0 HL425_1 HR424_0 HR424_1 HR425_0 HR425_1 hx424_0 hx424_1 hx425_0 hx425_1 hHeld ⊢
        refine qA 0 9 (bz 31 1) HT_ ?_
        refine one_ (i := 1) (N := some 10) (bz 31 3) rfl rfl (one_of HT_.out (by kernel_rfl)) (by decide) (fun K hK => ?_)
        refine goes_ Try.func70 (by kernel_rfl) rfl #[.slice (some ad424) l1.length c1] (by rfl) rfl rfl (by (try simp only [zK, zL, zM]); first | done | rfl | (simp only [zN, zO]; rfl)) ?_
        with_reducible refine (spec_l07List.calls k _ _ l1 true _ ?side1 ?side2 A5.out).mono ?_
        (case side1 => exact kV (Kd.V_reads' HO1.out).2.2)
        (case side2 => exact (Kd.V_reads' HO1.out).2.1)
        rintro e w14 ⟨rfl, hb⟩
        have HS0_ := (hb.cell (zQ _ _ (hHeld.1))).trans (hHeld.1)
        have HS1_ := (hb.cell (zQ _ _ (hHeld.2.1))).trans (hHeld.2.1)
        have HS2_ := (hb.cell (zQ _ _ (hHeld.2.2.1))).trans (hHeld.2.2.1)
        have HS3_ := (hb.cell (zQ _ _ (hHeld.2.2.2))).trans (hHeld.2.2.2)
        refine ⟨_, rfl, ?_⟩
        have n0_ := yD (Kd.V_below (by (with_reducible repeat (first | apply Kd.V_alloc | apply Kd.V_drewN | apply Kd.V_drew)); exact HO1.out) hb)
        have n1_ := yD (Kd.V_below (by (with_reducible repeat (first | apply Kd.V_alloc | apply Kd.V_drewN | apply Kd.V_drew)); exact HO2.out) hb)
        have n2_ := yD (zC (kB HB) hb)
        clear HO1 HO2 HB; have HO1 := n0_; have HO2 := n1_; have HB := n2_; clear n0_ n1_ n2_; (try clear hb); (try clear hb2); (try clear hk); (try clear hi)
        refine hK.out _ _ ⟨HS0_, HS1_, HS2_, HS3_⟩ (fun hHeld => ?_)
        clear hK K
        refine norm_ (a' := ?_) ?_ ?_
        rotate_left
        · show Act.put _ (some 10) _ = _
          simp only [Act.put, zH, zI, zJ, i64_w, i32_w]
          rfl
        refine qA 2 11 (bz 31 7) HT_ ?_
        refine qA 3 12 (bz 31 15) HT_ ?_
        refine qA 4 13 (bz 31 31) HT_ ?_
        refine one_ (i := 5) (N := some 14) (bz 31 63) rfl rfl (one_of HT_.out (by kernel_rfl)) (by decide) (fun K hK => ?_)
        refine goes_ Try.func70 (by kernel_rfl) rfl #[.slice (some ad425) l2.length c2] (by rfl) rfl rfl (by (try simp only [zK, zL, zM]); first | done | rfl | (simp only [zN, zO]; rfl)) ?_
        with_reducible refine (spec_l07List.calls k _ _ l2 true _ ?side1 ?side2 A7.out).mono ?_
        (case side1 => exact kV (Kd.V_reads' HO2.out).2.2)
        (case side2 => exact (Kd.V_reads' HO2.out).2.1)
        rintro e w15 ⟨rfl, hb⟩
        have HS0_ := (hb.cell (zQ _ _ (hHeld.1))).trans (hHeld.1)
        have HS1_ := (hb.cell (zQ _ _ (hHeld.2.1))).trans (hHeld.2.1)
        have HS2_ := (hb.cell (zQ _ _ (hHeld.2.2.1))).trans (hHeld.2.2.1)
        have HS3_ := (hb.cell (zQ _ _ (hHeld.2.2.2))).trans (hHeld.2.2.2)
        refine ⟨_, rfl, ?_⟩
        have n0_ := yD (Kd.V_below (by (with_reducible repeat (first | apply Kd.V_alloc | apply Kd.V_drewN | apply Kd.V_drew)); exact HO1.out) hb)
        have n1_ := yD (Kd.V_below (by (with_reducible repeat (first | apply Kd.V_alloc | apply Kd.V_drewN | apply Kd.V_drew)); exact HO2.out) hb)
        have n2_ := yD (zC (kB HB) hb)
        clear HO1 HO2 HB; have HO1 := n0_; have HO2 := n1_; have HB := n2_; clear n0_ n1_ n2_; (try clear hb); (try clear hb2); (try clear hk); (try clear hi)
        refine hK.out _ _ ⟨HS0_, HS1_, HS2_, HS3_⟩ (fun hHeld => ?_)
        clear hK K
        refine norm_ (a' := ?_) ?_ ?_
        rotate_left
        · show Act.put _ (some 14) _ = _
          simp only [Act.put, zH, zI, zJ, i64_w, i32_w]
          rfl
        refine qA 6 15 (bz 31 127) HT_ ?_
        refine qA 7 16 (bz 31 255) HT_ ?_
        refine qA 8 17 (bz 31 511) HT_ ?_
        refine qA 9 18 (bz 31 1023) HT_ ?_
        refine qA 10 19 (bz 31 2047) HT_ ?_
        refine qA 11 20 (bz 31 4095) HT_ ?_
        refine qA 12 21 (bz 31 8191) HT_ ?_
        refine qA 13 22 (bz 31 16383) HT_ ?_
        refine qA 14 23 (bz 31 32767) HT_ ?_
        refine qA 15 24 (bz 31 65535) HT_ ?_
        refine qA 16 25 (bz 31 131071) HT_ ?_
        refine qA 17 26 (bz 31 262143) HT_ ?_
        refine qA 18 27 (bz 31 524287) HT_ ?_
        refine qA 19 28 (bz 31 1048575) HT_ ?_
        refine qA 20 29 (bz 31 2097151) HT_ ?_
        refine qA 23 32 (bz 31 10485759) HT_ ?_
        refine qA 24 33 (bz 31 27262975) HT_ ?_
        refine qA 25 34 (bz 31 60817407) HT_ ?_
        refine qC 21 30 (bz 31 62914559) HT_ HW_ hHeld ?_ (hy := by rintro w' ⟨s0, s1, s2, s3⟩; go_simp; with_reducible rfl)
        refine qA 22 31 (bz 31 67108863) HT_ ?_
        refine qC 26 35 (bz 31 134217727) HT_ HW_ hHeld ?_ (hy := by rintro w' ⟨s0, s1, s2, s3⟩; go_simp; with_reducible rfl)
        refine qA 27 36 (bz 31 268435455) HT_ ?_
        refine qA 28 37 (bz 31 536870911) HT_ ?_
        refine qA 29 38 (bz 31 1073741823) HT_ ?_
        refine qA 30 39 (bz 31 2147483647) HT_ ?_
        refine done_ (done_of HT_.out (by kernel_rfl)) ?_
        try go_wp2
        go_meet
        case rel => exact ⟨_, (((((rd_T42 l1 0).f0).length : Int) != (((rd_T42 l2 0).f0).length : Int))), (by first | rfl | (simp; done) | (simp [*]; done)), H', ⟨by first | omega | exact Nat.le_refl _⟩, ⟨by (with_reducible repeat (first | apply Kd.V_alloc | apply Kd.V_drewN | apply Kd.V_drew)); exact HO1.out⟩, ⟨by (with_reducible repeat (first | apply Kd.V_alloc | apply Kd.V_drewN | apply Kd.V_drew)); exact HO2.out⟩, ⟨kR0 HB⟩⟩
       · rw [if_neg c12] at H
         exact absurd H (by simp)
      · rw [if_neg c11] at H
        exact absurd H (by simp)
     ·
      rw [if_neg c10] at H
      have c10b0 : decide (0 < (l2.length : Int)) = false := zS c10
      have c10b1 : decide (0 < l2.length) = false := zS (by omega)
      clear c10
      have H' := yD H
      clear H
      try go_wp2
      have n0_ := yD (Kd.V_drew HO1.out)
      have n1_ := yD (Kd.V_drew HO2.out)
      have n2_ := yD (yP HB.out)
      clear HO1 HO2 HB; have HO1 := n0_; have HO2 := n1_; have HB := n2_; clear n0_ n1_ n2_
      refine start_ (n := 31) (S := fun w' => True) (ds := []) (bz 31 0) (by kernel_rfl) rfl rfl trivial (fun hHeld => ?_); refine with_tabW spec_l07Do.tab1 spec_l07Do.bits1 (fun HT_ HW_ => ?_)
      generalize w.drew = w16 at HO1 HO2 HB hHeld ⊢
      refine qA 0 9 (bz 31 1) HT_ ?_
      refine one_ (i := 1) (N := some 10) (bz 31 3) rfl rfl (one_of HT_.out (by kernel_rfl)) (by decide) (fun K hK => ?_)
      refine goes_ Try.func70 (by kernel_rfl) rfl #[.slice A1 l1.length c1] (by rfl) rfl rfl (by (try simp only [zK, zL, zM]); first | done | rfl | (simp only [zN, zO]; rfl)) ?_
      with_reducible refine (spec_l07List.calls k _ _ l1 true _ ?side1 ?side2 A5.out).mono ?_
      (case side1 => exact kV (Kd.V_reads' HO1.out).2.2)
      (case side2 => exact (Kd.V_reads' HO1.out).2.1)
      rintro e w17 ⟨rfl, hb⟩
      refine ⟨_, rfl, ?_⟩
      have n0_ := yD (Kd.V_below (by (with_reducible repeat (first | apply Kd.V_alloc | apply Kd.V_drewN | apply Kd.V_drew)); exact HO1.out) hb)
      have n1_ := yD (Kd.V_below (by (with_reducible repeat (first | apply Kd.V_alloc | apply Kd.V_drewN | apply Kd.V_drew)); exact HO2.out) hb)
      have n2_ := yD (zC (kB HB) hb)
      clear HO1 HO2 HB; have HO1 := n0_; have HO2 := n1_; have HB := n2_; clear n0_ n1_ n2_; (try clear hb); (try clear hb2); (try clear hk); (try clear hi)
      refine hK.out _ _ trivial (fun hHeld => ?_)
      clear hK K
      refine norm_ (a' := ?_) ?_ ?_
      rotate_left
      · show Act.put _ (some 10) _ = _
        simp only [Act.put, zH, zI, zJ, i64_w, i32_w]
        rfl
      refine qA 2 11 (bz 31 7) HT_ ?_
      refine qA 3 12 (bz 31 15) HT_ ?_
      refine qA 4 13 (bz 31 31) HT_ ?_
      refine one_ (i := 5) (N := some 14) (bz 31 63) rfl rfl (one_of HT_.out (by kernel_rfl)) (by decide) (fun K hK => ?_)
      refine goes_ Try.func70 (by kernel_rfl) rfl #[.slice A2 l2.length c2] (by rfl) rfl rfl (by (try simp only [zK, zL, zM]); first | done | rfl | (simp only [zN, zO]; rfl)) ?_
      with_reducible refine (spec_l07List.calls k _ _ l2 true _ ?side1 ?side2 A7.out).mono ?_
      (case side1 => exact kV (Kd.V_reads' HO2.out).2.2)
      (case side2 => exact (Kd.V_reads' HO2.out).2.1)
      rintro e w18 ⟨rfl, hb⟩
      refine ⟨_, rfl, ?_⟩
      have n0_ := yD (Kd.V_below (by (with_reducible repeat (first | apply Kd.V_alloc | apply Kd.V_drewN | apply Kd.V_drew)); exact HO1.out) hb)
      have n1_ := yD (Kd.V_below (by (with_reducible repeat (first | apply Kd.V_alloc | apply Kd.V_drewN | apply Kd.V_drew)); exact HO2.out) hb)
      have n2_ := yD (zC (kB HB) hb)
      clear HO1 HO2 HB; have HO1 := n0_; have HO2 := n1_; have HB := n2_; clear n0_ n1_ n2_; (try clear hb); (try clear hb2); (try clear hk); (try clear hi)
      refine hK.out _ _ trivial (fun hHeld => ?_)
      clear hK K
      refine norm_ (a' := ?_) ?_ ?_
      rotate_left
      · show Act.put _ (some 14) _ = _
        simp only [Act.put, zH, zI, zJ, i64_w, i32_w]
        rfl
      refine qA 6 15 (bz 31 127) HT_ ?_
      refine qA 7 16 (bz 31 255) HT_ ?_
      refine qA 8 17 (bz 31 511) HT_ ?_
      refine qA 9 18 (bz 31 1023) HT_ ?_
      refine qA 10 19 (bz 31 2047) HT_ ?_
      refine qA 11 20 (bz 31 4095) HT_ ?_
      refine qA 12 21 (bz 31 8191) HT_ ?_
      refine qA 13 22 (bz 31 16383) HT_ ?_
      refine qA 14 23 (bz 31 32767) HT_ ?_
      refine qA 15 24 (bz 31 65535) HT_ ?_
      refine qA 16 25 (bz 31 131071) HT_ ?_
      refine qA 17 26 (bz 31 262143) HT_ ?_
      refine qB 18 27 (bz 31 524287) HT_ ?_
      refine qB 19 28 (bz 31 1048575) HT_ ?_
      refine qB 20 29 (bz 31 2097151) HT_ ?_
      refine qB 21 30 (bz 31 4194303) HT_ ?_
      refine qB 22 31 (bz 31 8388607) HT_ ?_
      refine qB 23 32 (bz 31 16777215) HT_ ?_
      refine qB 24 33 (bz 31 33554431) HT_ ?_
      refine qB 25 34 (bz 31 67108863) HT_ ?_
      refine qB 26 35 (bz 31 134217727) HT_ ?_
      refine qB 27 36 (bz 31 268435455) HT_ ?_
      refine qB 28 37 (bz 31 536870911) HT_ ?_
      refine qA 29 38 (bz 31 1073741823) HT_ ?_
      refine qA 30 39 (bz 31 2147483647) HT_ ?_
      refine done_ (done_of HT_.out (by kernel_rfl)) ?_
      try go_wp2
      go_meet
      case rel => exact ⟨_, (false), (by first | rfl | (simp; done) | (simp [*]; done)), H', ⟨by first | omega | exact Nat.le_refl _⟩, ⟨by (with_reducible repeat (first | apply Kd.V_alloc | apply Kd.V_drewN | apply Kd.V_drew)); exact HO1.out⟩, ⟨by (with_reducible repeat (first | apply Kd.V_alloc | apply Kd.V_drewN | apply Kd.V_drew)); exact HO2.out⟩, ⟨kR0 HB⟩⟩
    ·
     rw [if_neg c9] at H
     have c9b0 : decide (0 < (l1.length : Int)) = false := zS c9
     have c9b1 : decide (0 < l1.length) = false := zS (by omega)
     clear c9
     (first | rw [c9b0] | (simp only [i64_w, i32_w]; rw [c9b0]) | (simp only [bne] at c9b0; rw [c9b0]) | skip)
     have H' := yD H
     clear H
     try go_wp2
     have n0_ := yD (Kd.V_drew HO1.out)
     have n1_ := yD (Kd.V_drew HO2.out)
     have n2_ := yD (yP HB.out)
     clear HO1 HO2 HB; have HO1 := n0_; have HO2 := n1_; have HB := n2_; clear n0_ n1_ n2_
     refine start_ (n := 31) (S := fun w' => True) (ds := []) (bz 31 0) (by kernel_rfl) rfl rfl trivial (fun hHeld => ?_); refine with_tabW spec_l07Do.tab1 spec_l07Do.bits1 (fun HT_ HW_ => ?_)
     generalize w.drew = w19 at HO1 HO2 HB hHeld ⊢
     refine qA 0 9 (bz 31 1) HT_ ?_
     refine one_ (i := 1) (N := some 10) (bz 31 3) rfl rfl (one_of HT_.out (by kernel_rfl)) (by decide) (fun K hK => ?_)
     refine goes_ Try.func70 (by kernel_rfl) rfl #[.slice A1 l1.length c1] (by rfl) rfl rfl (by (try simp only [zK, zL, zM]); first | done | rfl | (simp only [zN, zO]; rfl)) ?_
     with_reducible refine (spec_l07List.calls k _ _ l1 true _ ?side1 ?side2 A5.out).mono ?_
     (case side1 => exact kV (Kd.V_reads' HO1.out).2.2)
     (case side2 => exact (Kd.V_reads' HO1.out).2.1)
     rintro e w20 ⟨rfl, hb⟩
     refine ⟨_, rfl, ?_⟩
     have n0_ := yD (Kd.V_below (by (with_reducible repeat (first | apply Kd.V_alloc | apply Kd.V_drewN | apply Kd.V_drew)); exact HO1.out) hb)
     have n1_ := yD (Kd.V_below (by (with_reducible repeat (first | apply Kd.V_alloc | apply Kd.V_drewN | apply Kd.V_drew)); exact HO2.out) hb)
     have n2_ := yD (zC (kB HB) hb)
     clear HO1 HO2 HB; have HO1 := n0_; have HO2 := n1_; have HB := n2_; clear n0_ n1_ n2_; (try clear hb); (try clear hb2); (try clear hk); (try clear hi)
     refine hK.out _ _ trivial (fun hHeld => ?_)
     clear hK K
     refine norm_ (a' := ?_) ?_ ?_
     rotate_left
     · show Act.put _ (some 10) _ = _
       simp only [Act.put, zH, zI, zJ, i64_w, i32_w]
       rfl
     refine qA 2 11 (bz 31 7) HT_ ?_
     refine qA 3 12 (bz 31 15) HT_ ?_
     refine qA 4 13 (bz 31 31) HT_ ?_
     refine one_ (i := 5) (N := some 14) (bz 31 63) rfl rfl (one_of HT_.out (by kernel_rfl)) (by decide) (fun K hK => ?_)
     refine goes_ Try.func70 (by kernel_rfl) rfl #[.slice A2 l2.length c2] (by rfl) rfl rfl (by (try simp only [zK, zL, zM]); first | done | rfl | (simp only [zN, zO]; rfl)) ?_
     with_reducible refine (spec_l07List.calls k _ _ l2 true _ ?side1 ?side2 A7.out).mono ?_
     (case side1 => exact kV (Kd.V_reads' HO2.out).2.2)
     (case side2 => exact (Kd.V_reads' HO2.out).2.1)
     rintro e w21 ⟨rfl, hb⟩
     refine ⟨_, rfl, ?_⟩
     have n0_ := yD (Kd.V_below (by (with_reducible repeat (first | apply Kd.V_alloc | apply Kd.V_drewN | apply Kd.V_drew)); exact HO1.out) hb)
     have n1_ := yD (Kd.V_below (by (with_reducible repeat (first | apply Kd.V_alloc | apply Kd.V_drewN | apply Kd.V_drew)); exact HO2.out) hb)
     have n2_ := yD (zC (kB HB) hb)
     clear HO1 HO2 HB; have HO1 := n0_; have HO2 := n1_; have HB := n2_; clear n0_ n1_ n2_; (try clear hb); (try clear hb2); (try clear hk); (try clear hi)
     refine hK.out _ _ trivial (fun hHeld => ?_)
     clear hK K
     refine norm_ (a' := ?_) ?_ ?_
     rotate_left
     · show Act.put _ (some 14) _ = _
       simp only [Act.put, zH, zI, zJ, i64_w, i32_w]
       rfl
     refine qA 6 15 (bz 31 127) HT_ ?_
     refine qA 7 16 (bz 31 255) HT_ ?_
     refine qA 8 17 (bz 31 511) HT_ ?_
     refine qA 9 18 (bz 31 1023) HT_ ?_
     refine qA 10 19 (bz 31 2047) HT_ ?_
     refine qA 11 20 (bz 31 4095) HT_ ?_
     refine qA 12 21 (bz 31 8191) HT_ ?_
     refine qB 13 22 (bz 31 16383) HT_ ?_
     refine qB 14 23 (bz 31 32767) HT_ ?_
     refine qB 15 24 (bz 31 65535) HT_ ?_
     refine qA 16 25 (bz 31 131071) HT_ ?_
     refine qA 17 26 (bz 31 262143) HT_ ?_
     refine qB 18 27 (bz 31 524287) HT_ ?_
     refine qB 19 28 (bz 31 1048575) HT_ ?_
     refine qB 20 29 (bz 31 2097151) HT_ ?_
     refine qB 21 30 (bz 31 4194303) HT_ ?_
     refine qB 22 31 (bz 31 8388607) HT_ ?_
     refine qB 23 32 (bz 31 16777215) HT_ ?_
     refine qB 24 33 (bz 31 33554431) HT_ ?_
     refine qB 25 34 (bz 31 67108863) HT_ ?_
     refine qB 26 35 (bz 31 134217727) HT_ ?_
     refine qB 27 36 (bz 31 268435455) HT_ ?_
     refine qB 28 37 (bz 31 536870911) HT_ ?_
     refine qA 29 38 (bz 31 1073741823) HT_ ?_
     refine qA 30 39 (bz 31 2147483647) HT_ ?_
     refine done_ (done_of HT_.out (by kernel_rfl)) ?_
     try go_wp2
     go_meet
     case rel => exact ⟨_, (false), (by first | rfl | (simp; done) | (simp [*]; done)), H', ⟨by first | omega | exact Nat.le_refl _⟩, ⟨by (with_reducible repeat (first | apply Kd.V_alloc | apply Kd.V_drewN | apply Kd.V_drew)); exact HO1.out⟩, ⟨by (with_reducible repeat (first | apply Kd.V_alloc | apply Kd.V_drewN | apply Kd.V_drew)); exact HO2.out⟩, ⟨kR0 HB⟩⟩
   ·
    replace c8 := Bool.eq_false_iff.mpr c8
    subst c8
    have H1 : (spec_l07Do.j0 k a0 l1 l2 true) = some (r1, r2) := by rw [if_neg (show ¬ (false = true) by decide)] at H; exact H
    clear H; have H := H1; clear H1
    have H' := yD H
    clear H
    try go_wp2
    have n0_ := yD (Kd.V_drew HO1.out)
    have n1_ := yD (Kd.V_drew HO2.out)
    have n2_ := yD (yP HB.out)
    clear HO1 HO2 HB; have HO1 := n0_; have HO2 := n1_; have HB := n2_; clear n0_ n1_ n2_
    refine start_ (n := 31) (S := fun w' => True) (ds := []) (bz 31 0) (by kernel_rfl) rfl rfl trivial (fun hHeld => ?_); refine with_tabW spec_l07Do.tab1 spec_l07Do.bits1 (fun HT_ HW_ => ?_)
    generalize w.drew = w22 at HO1 HO2 HB hHeld ⊢
    refine qA 0 9 (bz 31 1) HT_ ?_
    refine one_ (i := 1) (N := some 10) (bz 31 3) rfl rfl (one_of HT_.out (by kernel_rfl)) (by decide) (fun K hK => ?_)
    refine goes_ Try.func70 (by kernel_rfl) rfl #[.slice A1 l1.length c1] (by rfl) rfl rfl (by (try simp only [zK, zL, zM]); first | done | rfl | (simp only [zN, zO]; rfl)) ?_
    with_reducible refine (spec_l07List.calls k _ _ l1 true _ ?side1 ?side2 A5.out).mono ?_
    (case side1 => exact kV (Kd.V_reads' HO1.out).2.2)
    (case side2 => exact (Kd.V_reads' HO1.out).2.1)
    rintro e w23 ⟨rfl, hb⟩
    refine ⟨_, rfl, ?_⟩
    have n0_ := yD (Kd.V_below (by (with_reducible repeat (first | apply Kd.V_alloc | apply Kd.V_drewN | apply Kd.V_drew)); exact HO1.out) hb)
    have n1_ := yD (Kd.V_below (by (with_reducible repeat (first | apply Kd.V_alloc | apply Kd.V_drewN | apply Kd.V_drew)); exact HO2.out) hb)
    have n2_ := yD (zC (kB HB) hb)
    clear HO1 HO2 HB; have HO1 := n0_; have HO2 := n1_; have HB := n2_; clear n0_ n1_ n2_; (try clear hb); (try clear hb2); (try clear hk); (try clear hi)
    refine hK.out _ _ trivial (fun hHeld => ?_)
    clear hK K
    refine norm_ (a' := ?_) ?_ ?_
    rotate_left
    · show Act.put _ (some 10) _ = _
      simp only [Act.put, zH, zI, zJ, i64_w, i32_w]
      rfl
    refine qA 2 11 (bz 31 7) HT_ ?_
    refine qA 3 12 (bz 31 15) HT_ ?_
    refine qA 4 13 (bz 31 31) HT_ ?_
    refine one_ (i := 5) (N := some 14) (bz 31 63) rfl rfl (one_of HT_.out (by kernel_rfl)) (by decide) (fun K hK => ?_)
    refine goes_ Try.func70 (by kernel_rfl) rfl #[.slice A2 l2.length c2] (by rfl) rfl rfl (by (try simp only [zK, zL, zM]); first | done | rfl | (simp only [zN, zO]; rfl)) ?_
    with_reducible refine (spec_l07List.calls k _ _ l2 false _ ?side1 ?side2 A7.out).mono ?_
    (case side1 => exact kV (Kd.V_reads' HO2.out).2.2)
    (case side2 => exact (Kd.V_reads' HO2.out).2.1)
    rintro e w24 ⟨rfl, hb⟩
    refine ⟨_, rfl, ?_⟩
    have n0_ := yD (Kd.V_below (by (with_reducible repeat (first | apply Kd.V_alloc | apply Kd.V_drewN | apply Kd.V_drew)); exact HO1.out) hb)
    have n1_ := yD (Kd.V_below (by (with_reducible repeat (first | apply Kd.V_alloc | apply Kd.V_drewN | apply Kd.V_drew)); exact HO2.out) hb)
    have n2_ := yD (zC (kB HB) hb)
    clear HO1 HO2 HB; have HO1 := n0_; have HO2 := n1_; have HB := n2_; clear n0_ n1_ n2_; (try clear hb); (try clear hb2); (try clear hk); (try clear hi)
    refine hK.out _ _ trivial (fun hHeld => ?_)
    clear hK K
    refine norm_ (a' := ?_) ?_ ?_
    rotate_left
    · show Act.put _ (some 14) _ = _
      simp only [Act.put, zH, zI, zJ, i64_w, i32_w]
      rfl
    refine qA 6 15 (bz 31 127) HT_ ?_
    refine qA 7 16 (bz 31 255) HT_ ?_
    refine qA 8 17 (bz 31 511) HT_ ?_
    refine qB 9 18 (bz 31 1023) HT_ ?_
    refine qB 10 19 (bz 31 2047) HT_ ?_
    refine qB 11 20 (bz 31 4095) HT_ ?_
    refine qB 12 21 (bz 31 8191) HT_ ?_
    refine qB 13 22 (bz 31 16383) HT_ ?_
    refine qB 14 23 (bz 31 32767) HT_ ?_
    refine qB 15 24 (bz 31 65535) HT_ ?_
    refine qB 16 25 (bz 31 131071) HT_ ?_
    refine qB 17 26 (bz 31 262143) HT_ ?_
    refine qB 18 27 (bz 31 524287) HT_ ?_
    refine qB 19 28 (bz 31 1048575) HT_ ?_
    refine qB 20 29 (bz 31 2097151) HT_ ?_
    refine qB 21 30 (bz 31 4194303) HT_ ?_
    refine qB 22 31 (bz 31 8388607) HT_ ?_
    refine qB 23 32 (bz 31 16777215) HT_ ?_
    refine qB 24 33 (bz 31 33554431) HT_ ?_
    refine qB 25 34 (bz 31 67108863) HT_ ?_
    refine qB 26 35 (bz 31 134217727) HT_ ?_
    refine qB 27 36 (bz 31 268435455) HT_ ?_
    refine qB 28 37 (bz 31 536870911) HT_ ?_
    refine qB 29 38 (bz 31 1073741823) HT_ ?_
    refine qA 30 39 (bz 31 2147483647) HT_ ?_
    refine done_ (done_of HT_.out (by kernel_rfl)) ?_
    try go_wp2
    go_meet
    case rel => exact ⟨_, (true), (by first | rfl | (simp; done) | (simp [*]; done)), H', ⟨by first | omega | exact Nat.le_refl _⟩, ⟨by (with_reducible repeat (first | apply Kd.V_alloc | apply Kd.V_drewN | apply Kd.V_drew)); exact HO1.out⟩, ⟨by (with_reducible repeat (first | apply Kd.V_alloc | apply Kd.V_drewN | apply Kd.V_drew)); exact HO2.out⟩, ⟨kR0 HB⟩⟩
  ·
   replace c6 := Bool.eq_false_iff.mpr c6
   subst c6
   have H1 : (spec_l07Do.j0 k a0 l1 l2 true) = some (r1, r2) := by rw [if_neg (show ¬ (false = true) by decide)] at H; exact H
   clear H; have H := H1; clear H1
   have H' := yD H
   clear H
   try go_wp2
   have n0_ := yD (Kd.V_drew HO1.out)
   have n1_ := yD (Kd.V_drew HO2.out)
   have n2_ := yD (yP HB.out)
   clear HO1 HO2 HB; have HO1 := n0_; have HO2 := n1_; have HB := n2_; clear n0_ n1_ n2_
   refine start_ (n := 31) (S := fun w' => True) (ds := []) (bz 31 0) (by kernel_rfl) rfl rfl trivial (fun hHeld => ?_); refine with_tabW spec_l07Do.tab1 spec_l07Do.bits1 (fun HT_ HW_ => ?_)
   generalize w.drew = w25 at HO1 HO2 HB hHeld ⊢
   refine qA 0 9 (bz 31 1) HT_ ?_
   refine one_ (i := 1) (N := some 10) (bz 31 3) rfl rfl (one_of HT_.out (by kernel_rfl)) (by decide) (fun K hK => ?_)
   refine goes_ Try.func70 (by kernel_rfl) rfl #[.slice A1 l1.length c1] (by rfl) rfl rfl (by (try simp only [zK, zL, zM]); first | done | rfl | (simp only [zN, zO]; rfl)) ?_
   with_reducible refine (spec_l07List.calls k _ _ l1 false _ ?side1 ?side2 A5.out).mono ?_
   (case side1 => exact kV (Kd.V_reads' HO1.out).2.2)
   (case side2 => exact (Kd.V_reads' HO1.out).2.1)
   rintro e w26 ⟨rfl, hb⟩
   refine ⟨_, rfl, ?_⟩
   have n0_ := yD (Kd.V_below (by (with_reducible repeat (first | apply Kd.V_alloc | apply Kd.V_drewN | apply Kd.V_drew)); exact HO1.out) hb)
   have n1_ := yD (Kd.V_below (by (with_reducible repeat (first | apply Kd.V_alloc | apply Kd.V_drewN | apply Kd.V_drew)); exact HO2.out) hb)
   have n2_ := yD (zC (kB HB) hb)
   clear HO1 HO2 HB; have HO1 := n0_; have HO2 := n1_; have HB := n2_; clear n0_ n1_ n2_; (try clear hb); (try clear hb2); (try clear hk); (try clear hi)
   refine hK.out _ _ trivial (fun hHeld => ?_)
   clear hK K
   refine norm_ (a' := ?_) ?_ ?_
   rotate_left
   · show Act.put _ (some 10) _ = _
     simp only [Act.put, zH, zI, zJ, i64_w, i32_w]
     rfl
   refine qA 2 11 (bz 31 7) HT_ ?_
   refine qA 3 12 (bz 31 15) HT_ ?_
   refine qB 4 13 (bz 31 31) HT_ ?_
   refine qB 5 14 (bz 31 63) HT_ ?_
   refine qB 6 15 (bz 31 127) HT_ ?_
   refine qA 7 16 (bz 31 255) HT_ ?_
   refine qA 8 17 (bz 31 511) HT_ ?_
   refine qB 9 18 (bz 31 1023) HT_ ?_
   refine qB 10 19 (bz 31 2047) HT_ ?_
   refine qB 11 20 (bz 31 4095) HT_ ?_
   refine qB 12 21 (bz 31 8191) HT_ ?_
   refine qB 13 22 (bz 31 16383) HT_ ?_
   refine qB 14 23 (bz 31 32767) HT_ ?_
   refine qB 15 24 (bz 31 65535) HT_ ?_
   refine qB 16 25 (bz 31 131071) HT_ ?_
   refine qB 17 26 (bz 31 262143) HT_ ?_
   refine qB 18 27 (bz 31 524287) HT_ ?_
   refine qB 19 28 (bz 31 1048575) HT_ ?_
   refine qB 20 29 (bz 31 2097151) HT_ ?_
   refine qB 21 30 (bz 31 4194303) HT_ ?_
   refine qB 22 31 (bz 31 8388607) HT_ ?_
   refine qB 23 32 (bz 31 16777215) HT_ ?_
   refine qB 24 33 (bz 31 33554431) HT_ ?_
   refine qB 25 34 (bz 31 67108863) HT_ ?_
   refine qB 26 35 (bz 31 134217727) HT_ ?_
   refine qB 27 36 (bz 31 268435455) HT_ ?_
   refine qB 28 37 (bz 31 536870911) HT_ ?_
   refine qB 29 38 (bz 31 1073741823) HT_ ?_
   refine qA 30 39 (bz 31 2147483647) HT_ ?_
   refine done_ (done_of HT_.out (by kernel_rfl)) ?_
   try go_wp2
   go_meet
   case rel => exact ⟨_, (true), (by first | rfl | (simp; done) | (simp [*]; done)), H', ⟨by first | omega | exact Nat.le_refl _⟩, ⟨by (with_reducible repeat (first | apply Kd.V_alloc | apply Kd.V_drewN | apply Kd.V_drew)); exact HO1.out⟩, ⟨by (with_reducible repeat (first | apply Kd.V_alloc | apply Kd.V_drewN | apply Kd.V_drew)); exact HO2.out⟩, ⟨kR0 HB⟩⟩
 case rest =>
  clear HC4; try clear c1; try clear c2; try clear p2; try clear c6; try clear c7; try clear c8
  obtain ⟨kq, x39_3, rfl, HA, HJ3, HO_1, HO_2, HB⟩ := hcut
  cases kq with
  | zero => exact absurd HA.out (by simp [spec_l07Do.j0])
  | succ kj3 =>
   have H := HA.out; clear HA
   simp only [spec_l07Do.j0] at H
   by_cases c27 : x39_3 = true
   ·
    subst c27
    have H1 : (some (([] : List (S42)), 1)) = some (r1, r2) := by rw [if_pos rfl] at H; exact H
    clear H; have H := H1; clear H1
    simp only [Option.some.injEq, Prod.mk.injEq] at H
    obtain ⟨rfl, rfl⟩ := H
    go_wp2
    go_ret2
    exact ⟨_, by first | rfl | (simp <;> rfl) | (simp [*] <;> rfl), by first | exact Kd.S_nil _ _ _ _ _ | exact Kd.N_nil _ _ _ _ _ | exact Kd.V_nil _ _ _ _ _ | exact Kd.Q_nil _ _ _ _ _ | exact Kd.R_nil _ _ _ _ _, kR0 HB⟩
   ·
    replace c27 := Bool.eq_false_iff.mpr c27
    subst c27
    have H1 : ((spec_l07Rank.f l1 l2).bind fun t426 => ((spec_l07Combine.f kj3 a0 l1 l2 t426).bind fun t427 => (if (t427.length : Int) > 32 then (some (([] : List (S42)), 5)) else (some (t427, 0))))) = some (r1, r2) := by rw [if_neg (show ¬ (false = true) by decide)] at H; exact H
    clear H; have H := H1; clear H1
    obtain ⟨t426, A280, H⟩ := zW_ H
    replace H : ((spec_l07Combine.f kj3 a0 l1 l2 t426).bind fun t427 => (if (t427.length : Int) > 32 then (some (([] : List (S42)), 5)) else (some (t427, 0)))) = some (r1, r2) := H
    have A28 := yD A280
    clear A280
    obtain ⟨t427, A290, H⟩ := zW_ H
    replace H : (if (t427.length : Int) > 32 then (some (([] : List (S42)), 5)) else (some (t427, 0))) = some (r1, r2) := H
    have A29 := yD A290
    clear A290
    by_cases c30 : (t427.length : Int) > 32
    ·
     rw [if_pos c30] at H
     have c30b0 : decide (32 < (t427.length : Int)) = true := zR c30
     have c30b1 : decide (32 < t427.length) = true := zR (by omega)
     clear c30
     simp only [Option.some.injEq, Prod.mk.injEq] at H
     obtain ⟨rfl, rfl⟩ := H
     go_wp2_with (first | ((with_reducible refine gate_callee (f := 98) rfl ?_); refine goesL_ (some 45) rfl rfl Try.func98 (by kernel_rfl) rfl #[.slice A1 l1.length c1, .slice A2 l2.length c2] rfl (by (try simp only [zK, zL, zM]); first | done | rfl | (simp only [zN, zO]; rfl)) ?_; (with_reducible refine (spec_l07Rank.calls _ _ l1 _ _ l2 t426 _ ?side1 ?side2 ?side3 ?side4 A28.out).mono ?_); (case side1 => exact kV (Kd.V_reads' HO_1.out).2.2); (case side2 => exact (Kd.V_reads' HO_1.out).2.1); (case side3 => exact kV (Kd.V_reads' HO_2.out).2.2); (case side4 => exact (Kd.V_reads' HO_2.out).2.1); rintro e w' ⟨rfl, ⟨nd, rfl⟩⟩; refine ⟨_, rfl, ?_⟩) | ((with_reducible refine gate_callee (f := 97) rfl ?_); refine goesL_ (some 46) rfl rfl Try.func97 (by kernel_rfl) rfl #[.int .i64 a0, .slice A1 l1.length c1, .slice A2 l2.length c2, .int .i64 t426] rfl (by (try simp only [zK, zL, zM]); first | done | rfl | (simp only [zN, zO]; rfl)) ?_; (with_reducible refine (spec_l07Combine.calls kj3 a0 (fun k_ => ((P1_ k_ ∨ P2_ k_) ∨ w.heap.size ≤ k_)) _ _ l1 (fun k_ => ((P1_ k_ ∨ P2_ k_) ∨ w.heap.size ≤ k_)) _ _ l2 t426 t427 _ ?side1 ?side2 A29.out).mono ?_); (case side1 => exact HO_1.out); (case side2 => exact HO_2.out); rintro e w31 ⟨v428, rfl, ho0, hb⟩; refine ⟨_, rfl, ?_⟩; have n0_ := yD (Kd.V_elder' (by (with_reducible repeat (first | apply Kd.V_alloc | apply Kd.V_drewN | apply Kd.V_drew)); exact HO_1.out) (Kd.N_base ho0) hb); have n1_ := yD (Kd.V_elder' (by (with_reducible repeat (first | apply Kd.V_alloc | apply Kd.V_drewN | apply Kd.V_drew)); exact HO_2.out) (Kd.N_base ho0) hb); have n2_ := yD (Kd.N_lower (Kd.N_mono (ok' := fun k_ => ((P1_ k_ ∨ P2_ k_) ∨ w.heap.size ≤ k_)) ho0 (fun k_ hk_ => Or.elim hk_ (fun hs_ => Or.elim hs_ (fun hs_ => hs_) (fun hs_ => hs_)) (fun hn_ => (.inr (Nat.le_trans (below_size (kB HB)) hn_))))) (below_size (kB HB))); have n3_ := yD (zC (kB HB) hb); clear HO_1; clear HO_2; clear HB; have HO_1 := n0_; have HO_2 := n1_; have HO429 := n2_; have HB := n3_; clear n0_ n1_ n2_ n3_; (try clear hb); (try clear hb2); (try clear hk); (try clear hi); (try clear ho0); obtain ⟨Ao32, co32, eo32⟩ := Kd.N_slice HO429.out; subst eo32))
     go_ret2
     exact ⟨_, by first | rfl | (simp <;> rfl) | (simp [*] <;> rfl), by first | exact Kd.S_nil _ _ _ _ _ | exact Kd.N_nil _ _ _ _ _ | exact Kd.V_nil _ _ _ _ _ | exact Kd.Q_nil _ _ _ _ _ | exact Kd.R_nil _ _ _ _ _, kR0 HB⟩
    ·
     rw [if_neg c30] at H
     have c30b0 : decide (32 < (t427.length : Int)) = false := zS c30
     have c30b1 : decide (32 < t427.length) = false := zS (by omega)
     clear c30
     simp only [Option.some.injEq, Prod.mk.injEq] at H
     obtain ⟨rfl, rfl⟩ := H
     go_wp2_with (first | ((with_reducible refine gate_callee (f := 98) rfl ?_); refine goesL_ (some 45) rfl rfl Try.func98 (by kernel_rfl) rfl #[.slice A1 l1.length c1, .slice A2 l2.length c2] rfl (by (try simp only [zK, zL, zM]); first | done | rfl | (simp only [zN, zO]; rfl)) ?_; (with_reducible refine (spec_l07Rank.calls _ _ l1 _ _ l2 t426 _ ?side1 ?side2 ?side3 ?side4 A28.out).mono ?_); (case side1 => exact kV (Kd.V_reads' HO_1.out).2.2); (case side2 => exact (Kd.V_reads' HO_1.out).2.1); (case side3 => exact kV (Kd.V_reads' HO_2.out).2.2); (case side4 => exact (Kd.V_reads' HO_2.out).2.1); rintro e w' ⟨rfl, ⟨nd, rfl⟩⟩; refine ⟨_, rfl, ?_⟩) | ((with_reducible refine gate_callee (f := 97) rfl ?_); refine goesL_ (some 46) rfl rfl Try.func97 (by kernel_rfl) rfl #[.int .i64 a0, .slice A1 l1.length c1, .slice A2 l2.length c2, .int .i64 t426] rfl (by (try simp only [zK, zL, zM]); first | done | rfl | (simp only [zN, zO]; rfl)) ?_; (with_reducible refine (spec_l07Combine.calls kj3 a0 (fun k_ => ((P1_ k_ ∨ P2_ k_) ∨ w.heap.size ≤ k_)) _ _ l1 (fun k_ => ((P1_ k_ ∨ P2_ k_) ∨ w.heap.size ≤ k_)) _ _ l2 t426 t427 _ ?side1 ?side2 A29.out).mono ?_); (case side1 => exact HO_1.out); (case side2 => exact HO_2.out); rintro e w33 ⟨v428, rfl, ho0, hb⟩; refine ⟨_, rfl, ?_⟩; have n0_ := yD (Kd.V_elder' (by (with_reducible repeat (first | apply Kd.V_alloc | apply Kd.V_drewN | apply Kd.V_drew)); exact HO_1.out) (Kd.N_base ho0) hb); have n1_ := yD (Kd.V_elder' (by (with_reducible repeat (first | apply Kd.V_alloc | apply Kd.V_drewN | apply Kd.V_drew)); exact HO_2.out) (Kd.N_base ho0) hb); have n2_ := yD (Kd.N_lower (Kd.N_mono (ok' := fun k_ => ((P1_ k_ ∨ P2_ k_) ∨ w.heap.size ≤ k_)) ho0 (fun k_ hk_ => Or.elim hk_ (fun hs_ => Or.elim hs_ (fun hs_ => hs_) (fun hs_ => hs_)) (fun hn_ => (.inr (Nat.le_trans (below_size (kB HB)) hn_))))) (below_size (kB HB))); have n3_ := yD (zC (kB HB) hb); clear HO_1; clear HO_2; clear HB; have HO_1 := n0_; have HO_2 := n1_; have HO429 := n2_; have HB := n3_; clear n0_ n1_ n2_ n3_; (try clear hb); (try clear hb2); (try clear hk); (try clear hi); (try clear ho0); obtain ⟨Ao34, co34, eo34⟩ := Kd.N_slice HO429.out; subst eo34))
     go_ret2
     exact ⟨_, by first | rfl | (simp <;> rfl) | (simp [*] <;> rfl), by (with_reducible repeat (first | apply Kd.N_alloc | apply Kd.N_drewN | apply Kd.N_drew)); exact HO429.out, kR0 HB⟩

end Go.Proofs.Ytdiaebjbiddefaa.PFnNormalForm
