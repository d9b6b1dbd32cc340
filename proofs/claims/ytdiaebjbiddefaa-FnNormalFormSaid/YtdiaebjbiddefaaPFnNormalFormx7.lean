/- Each Go function here comes to what the plain function of its name says, where that says something. Made by a program of this session, over the print. -/
import Derived.Test.YtdiaebjbiddefaaPFnNormalFormx0
import Derived.Test.YtdiaebjbiddefaaPFnNormalFormx2
import Derived.Test.YtdiaebjbiddefaaPFnNormalFormx3
import Derived.Test.YtdiaebjbiddefaaPFnNormalFormx6
namespace Go.Proofs.Ytdiaebjbiddefaa.PFnNormalForm
open Go.RowKit Go.Proofs.YtdiaebjbiddefaaW.PrintWords Go.Proofs.YtdiaebjbiddefaaW.PrintLast Go.Proofs.YtdiaebjbiddefaaW.PrintMore
attribute [local go_sem] max2_int min2_int max_two min_two max_three min_three max_four min_four   -- for this text's walks alone
set_option linter.unusedVariables false
set_option linter.unusedSimpArgs false

/-! ### impl_combine_impl_either: function 56 -/
def impl_combine_impl_either.j0 : Nat → List (S42) → List (S42) → Bool → Option ((List (S42)) × Int)
 | 0, _, _, _ => none
 | k + 1, x0, x1, x38 => if x38 = true then (some (([] : List (S42)), 1)) else ((impl_rankOf.f k x0 x1).bind fun t280 => ((impl_combined_impl_either.f k t280 x0 x1).bind fun t281 => ((impl_normalFull.f t281).bind fun bt284 => (some (bt284.1, bt284.2)))))
def impl_combine_impl_either.f (k : Nat) (l0 : List (S42)) (l1 : List (S42))  : Option ((List (S42)) × Int) := (impl_boxesOk.f k l0).bind fun t276 => (if t276 = true then ((impl_boxesOk.f k l1).bind fun t277 => (if t277 = true then (if (l0.length : Int) > 0 then (if (l1.length : Int) > 0 then (if 0 < (l0.length : Int) then (if 0 < (l1.length : Int) then (impl_combine_impl_either.j0 k l0 l1 ((((rd_T42 l0 0).f0).length : Int) != (((rd_T42 l1 0).f0).length : Int))) else (none)) else (none)) else (impl_combine_impl_either.j0 k l0 l1 false)) else (impl_combine_impl_either.j0 k l0 l1 false)) else (impl_combine_impl_either.j0 k l0 l1 true))) else (impl_combine_impl_either.j0 k l0 l1 true))
theorem impl_combine_impl_either.mono_l : ∀ k, (∀ y0 y1 y2, LeO (impl_combine_impl_either.j0 k y0 y1 y2) (impl_combine_impl_either.j0 (k + 1) y0 y1 y2))
 | 0 => fun _ _ _ r h => by simp [impl_combine_impl_either.j0] at h
 | k + 1 => by
  have ih0 := impl_combine_impl_either.mono_l k
  ·
   intro y0 y1 y2
   unfold impl_combine_impl_either.j0
   repeat' first
   | (with_reducible exact ih0 _ _ _)
   | (with_reducible exact impl_boxesOk.mono _ _)
   | (with_reducible exact impl_combined_impl_either.mono _ _ _ _)
   | (with_reducible exact impl_rankOf.mono _ _ _)
   | (with_reducible exact LeO.refl _)
   | (with_reducible exact LeO.none _)
   | (with_reducible refine LeO.ite ?_ ?_)
   | (with_reducible refine LeO.bind ?_ (fun _ => ?_))
   | exact ih0 _ _ _
   | exact impl_boxesOk.mono _ _
   | exact impl_combined_impl_either.mono _ _ _ _
   | exact impl_rankOf.mono _ _ _
   | exact LeO.none _
   | refine LeO.ite ?_ ?_
   | refine LeO.bind ?_ (fun _ => ?_)
theorem impl_combine_impl_either.mono : ∀ a0 a1 k, LeO (impl_combine_impl_either.f k a0 a1) (impl_combine_impl_either.f (k + 1) a0 a1) := by
 intro a0 a1 k
 have ih0 := impl_combine_impl_either.mono_l k
 unfold impl_combine_impl_either.f
 repeat' first
  | (with_reducible exact ih0 _ _ _)
  | (with_reducible exact impl_boxesOk.mono _ _)
  | (with_reducible exact impl_combined_impl_either.mono _ _ _ _)
  | (with_reducible exact impl_rankOf.mono _ _ _)
  | (with_reducible exact LeO.refl _)
  | (with_reducible exact LeO.none _)
  | (with_reducible refine LeO.ite ?_ ?_)
  | (with_reducible refine LeO.bind ?_ (fun _ => ?_))
  | exact ih0 _ _ _
  | exact impl_boxesOk.mono _ _
  | exact impl_combined_impl_either.mono _ _ _ _
  | exact impl_rankOf.mono _ _ _
  | exact LeO.none _
  | refine LeO.ite ?_ ?_
  | refine LeO.bind ?_ (fun _ => ?_)
def impl_combine_impl_either.T1 : Bool × List (List Nat × List Nat) := (true, [([], []), ([0], [0]), ([1], [1]), ([2, 1], [2]), ([3], [3]), ([4, 3, 3], [3, 4]), ([5, 3], [3, 5]), ([3, 6], [3, 6]), ([7, 5], [7]), ([8], [8]), ([9, 8], [8, 9]), ([10, 8], [8, 10]), ([11, 8, 8], [8, 11]), ([12], [12]), ([13, 12], [12, 13]), ([14, 12], [12, 14]), ([12, 15, 8], [8, 12, 15]), ([16, 12, 8], [8, 16]), ([17], [17]), ([18, 17], [17, 18]), ([19, 17], [17, 19]), ([20, 17], [17, 20]), ([21, 17], [17, 21]), ([17], [17]), ([23, 17], [17, 23]), ([24, 17], [17, 24]), ([25, 17], [17, 25]), ([26, 17], [17, 26]), ([22, 27, 17], [17, 22, 27]), ([17, 28, 8], [8, 17, 28]), ([8, 29], [8, 29])])
def impl_combine_impl_either.B1 : List Nat := [0, 1, 3, 7, 15, 31, 63, 127, 255, 511, 1023, 2047, 4095, 8191, 16383, 32767, 65535, 131071, 262143, 524287, 1048575, 2097151, 4194303, 262143, 8650751, 25427967, 58982399, 126091263, 268435455, 536870911, 1073741823]
theorem impl_combine_impl_either.tab1 : rtab .any (opsOf Try.f56 1) = impl_combine_impl_either.T1 := by kernel_rfl
theorem impl_combine_impl_either.bits1 : waitsOk impl_combine_impl_either.T1.2 impl_combine_impl_either.B1 = true := by kernel_rfl
set_option maxHeartbeats 8000000 in
set_option maxRecDepth 100000 in
theorem impl_combine_impl_either.calls (k : Nat) (P0_ : Nat → Prop) (A0 : Option Addr) (c0 : Nat) (l0 : List (S42)) (P1_ : Nat → Prop) (A1 : Option Addr) (c1 : Nat) (l1 : List (S42))  (r1 : List (S42)) (r2 : Int) (w : World) (hs0 : Kd.V k42 42 w w.heap.size (fun k_ => P0_ k_) (.slice A0 l0.length c0) l0) (hs1 : Kd.V k42 42 w w.heap.size (fun k_ => P1_ k_) (.slice A1 l1.length c1) l1) (h : impl_combine_impl_either.f k l0 l1 = some (r1, r2)) :
 Calls Try.prog 56 #[.slice A0 l0.length c0, .slice A1 l1.length c1, .func (.func 57) #[] #[]] w fun e w' => ∃ v0_ : Value, e = .returned (.tuple #[v0_, .int .i64 r2]) ∧ Kd.V k42 42 w' w.heap.size (fun k_ => ((P0_ k_ ∨ P1_ k_) ∨ w.heap.size ≤ k_)) v0_ r1 ∧ Below w.heap.size w w' := by
 have HO0 := yD (show Kd.V k42 42 w w.heap.size (fun k_ => ((P0_ k_ ∨ P1_ k_) ∨ w.heap.size ≤ k_)) (.slice A0 l0.length c0) l0 from Kd.V_mono hs0 (fun k_ hk => .inl (.inl hk)))
 have HO1 := yD (show Kd.V k42 42 w w.heap.size (fun k_ => ((P0_ k_ ∨ P1_ k_) ∨ w.heap.size ≤ k_)) (.slice A1 l1.length c1) l1 from Kd.V_mono hs1 (fun k_ hk => .inl (.inr hk)))
 have HB := yD (Below.refl w.heap.size w)
 have H : ((impl_boxesOk.f k l0).bind fun t276 => (if t276 = true then ((impl_boxesOk.f k l1).bind fun t277 => (if t277 = true then (if (l0.length : Int) > 0 then (if (l1.length : Int) > 0 then (if 0 < (l0.length : Int) then (if 0 < (l1.length : Int) then (impl_combine_impl_either.j0 k l0 l1 ((((rd_T42 l0 0).f0).length : Int) != (((rd_T42 l1 0).f0).length : Int))) else (none)) else (none)) else (impl_combine_impl_either.j0 k l0 l1 false)) else (impl_combine_impl_either.j0 k l0 l1 false)) else (impl_combine_impl_either.j0 k l0 l1 true))) else (impl_combine_impl_either.j0 k l0 l1 true))) = some (r1, r2) := h
 clear h
 have HC4 := yD H
 clear H; go_enter Try.func56, Try.ntmps56
 go_upto_region 1 with (fail)
 go_cut [38] (fun v38 wc => ∃ (kq : Nat) (x38_3 : Bool), v38 = .bool x38_3 ∧ Aside0 (impl_combine_impl_either.j0 kq l0 l1 x38_3 = some (r1, r2)) ∧ Aside0 (kq ≤ k) ∧ Aside0 (Kd.V k42 42 wc w.heap.size (fun k_ => ((P0_ k_ ∨ P1_ k_) ∨ w.heap.size ≤ k_)) (.slice A0 l0.length c0) l0) ∧ Aside0 (Kd.V k42 42 wc w.heap.size (fun k_ => ((P0_ k_ ∨ P1_ k_) ∨ w.heap.size ≤ k_)) (.slice A1 l1.length c1) l1) ∧ Aside0 (Below w.heap.size w wc))
 case first =>
  have H := HC4.out; clear HC4
  obtain ⟨t276, A50, H⟩ := zW_ H
  replace H : (if t276 = true then ((impl_boxesOk.f k l1).bind fun t277 => (if t277 = true then (if (l0.length : Int) > 0 then (if (l1.length : Int) > 0 then (if 0 < (l0.length : Int) then (if 0 < (l1.length : Int) then (impl_combine_impl_either.j0 k l0 l1 ((((rd_T42 l0 0).f0).length : Int) != (((rd_T42 l1 0).f0).length : Int))) else (none)) else (none)) else (impl_combine_impl_either.j0 k l0 l1 false)) else (impl_combine_impl_either.j0 k l0 l1 false)) else (impl_combine_impl_either.j0 k l0 l1 true))) else (impl_combine_impl_either.j0 k l0 l1 true)) = some (r1, r2) := H
  have A5 := yD A50
  clear A50
  by_cases c6 : t276 = true
  ·
   subst c6
   have H1 : ((impl_boxesOk.f k l1).bind fun t277 => (if t277 = true then (if (l0.length : Int) > 0 then (if (l1.length : Int) > 0 then (if 0 < (l0.length : Int) then (if 0 < (l1.length : Int) then (impl_combine_impl_either.j0 k l0 l1 ((((rd_T42 l0 0).f0).length : Int) != (((rd_T42 l1 0).f0).length : Int))) else (none)) else (none)) else (impl_combine_impl_either.j0 k l0 l1 false)) else (impl_combine_impl_either.j0 k l0 l1 false)) else (impl_combine_impl_either.j0 k l0 l1 true))) = some (r1, r2) := by rw [if_pos rfl] at H; exact H
   clear H; have H := H1; clear H1
   obtain ⟨t277, A70, H⟩ := zW_ H
   replace H : (if t277 = true then (if (l0.length : Int) > 0 then (if (l1.length : Int) > 0 then (if 0 < (l0.length : Int) then (if 0 < (l1.length : Int) then (impl_combine_impl_either.j0 k l0 l1 ((((rd_T42 l0 0).f0).length : Int) != (((rd_T42 l1 0).f0).length : Int))) else (none)) else (none)) else (impl_combine_impl_either.j0 k l0 l1 false)) else (impl_combine_impl_either.j0 k l0 l1 false)) else (impl_combine_impl_either.j0 k l0 l1 true)) = some (r1, r2) := H
   have A7 := yD A70
   clear A70
   by_cases c8 : t277 = true
   ·
    subst c8
    have H1 : (if (l0.length : Int) > 0 then (if (l1.length : Int) > 0 then (if 0 < (l0.length : Int) then (if 0 < (l1.length : Int) then (impl_combine_impl_either.j0 k l0 l1 ((((rd_T42 l0 0).f0).length : Int) != (((rd_T42 l1 0).f0).length : Int))) else (none)) else (none)) else (impl_combine_impl_either.j0 k l0 l1 false)) else (impl_combine_impl_either.j0 k l0 l1 false)) = some (r1, r2) := by rw [if_pos rfl] at H; exact H
    clear H; have H := H1; clear H1
    by_cases c9 : (l0.length : Int) > 0
    ·
     rw [if_pos c9] at H
     have c9b0 : decide (0 < (l0.length : Int)) = true := zR c9
     have c9b1 : decide (0 < l0.length) = true := zR (by omega)
     clear c9
     (first | rw [c9b0] | (simp only [i64_w, i32_w]; rw [c9b0]) | (simp only [bne] at c9b0; rw [c9b0]) | skip)
     by_cases c10 : (l1.length : Int) > 0
     ·
      rw [if_pos c10] at H
      have c10b0 : decide (0 < (l1.length : Int)) = true := zR c10
      have c10b1 : decide (0 < l1.length) = true := zR (by omega)
      clear c10
      by_cases c11 : 0 < (l0.length : Int)
      ·
       rw [if_pos c11] at H
       have c11b0 : decide (0 < (l0.length : Int)) = true := zR c11
       have c11b1 : decide (0 < l0.length) = true := zR (by omega)
       clear c11
       by_cases c12 : 0 < (l1.length : Int)
       ·
        rw [if_pos c12] at H
        have c12b0 : decide (0 < (l1.length : Int)) = true := zR c12
        have c12b1 : decide (0 < l1.length) = true := zR (by omega)
        clear c12
        have H' := yD H
        clear H
        try go_wp2
        have n0_ := yD (Kd.V_drew HO0.out)
        have n1_ := yD (Kd.V_drew HO1.out)
        have n2_ := yD (yP HB.out)
        clear HO0 HO1 HB; have HO0 := n0_; have HO1 := n1_; have HB := n2_; clear n0_ n1_ n2_
        have p278 : 0 ≤ (0 : Int) := (by omega)
        have q278 : 0 < (l0.length : Int) := zP (by assumption)
        obtain ⟨ad278, A278_0, c278_0, A278_1, c278_1, e278, hx278_0, hx278_1, hl278_0, hi278_0, hl278_1, hi278_1⟩ := at_T42 (Kd.V_reads' HO0.out).2.2 0 p278 q278
        cases e278
        obtain ⟨ce278, hce278, hMe278, hcc278⟩ := Kd.V_get HO0.out z42 0 p278 (by first | exact q278 | exact zP (by assumption) | (have e_ := (Kd.V_reads' HO0.out).1; omega))
        obtain ⟨ua278_0, uc278_0, ua278_1, uc278_1, rfl, ul278_0, ge278_0, ul278_1, ge278_1⟩ := k42_openF hMe278
        have hv278_0 := hcc278 0 _ rfl
        rw [Nat.add_zero] at hv278_0
        replace hv278_0 := Option.some.inj (hv278_0.symm.trans hx278_0)
        injection hv278_0 with hva_ hvn_ hvc_
        rw [hva_] at ge278_0
        rw [hvc_] at ul278_0
        have HL278_0 := yD (show Kd.V (Kd.int .i64) 2 _ w.heap.size _ _ ((rd_T42 l0 0).f0) from Kd.V_mk ul278_0 ge278_0)
        clear hva_ hvn_ hvc_ ge278_0 ul278_0
        have hv278_1 := hcc278 1 _ rfl
        rw [add_field _ _ 1 (by omega)] at hv278_1
        replace hv278_1 := Option.some.inj (hv278_1.symm.trans hx278_1)
        injection hv278_1 with hva_ hvn_ hvc_
        rw [hva_] at ge278_1
        rw [hvc_] at ul278_1
        have HL278_1 := yD (show Kd.V (Kd.int .i64) 2 _ w.heap.size _ _ ((rd_T42 l0 0).f1) from Kd.V_mk ul278_1 ge278_1)
        clear hva_ hvn_ hvc_ ge278_1 ul278_1 hcc278 hce278
        have qi278 : (0 < l0.length) = True := eq_true (by omega)
        (try rw [show ((0 : Int)).toNat = 0 from rfl] at hx278_0)
        (try rw [show 0 * 2 = 0 from rfl] at hx278_0)
        (try rw [Addr.add_zero'] at hx278_0)
        (try rw [show ((0 : Int)).toNat = 0 from rfl] at hx278_1)
        (try rw [show 0 * 2 = 0 from rfl] at hx278_1)
        (try rw [Addr.add_zero'] at hx278_1)
        have HR278_0 := yD hi278_0
        have HC278_0 := yD hl278_0
        clear hi278_0 hl278_0
        have HR278_1 := yD hi278_1
        have HC278_1 := yD hl278_1
        clear hi278_1 hl278_1; replace p278 := eq_true p278; replace q278 := eq_true q278
        have p279 : 0 ≤ (0 : Int) := (by omega)
        have q279 : 0 < (l1.length : Int) := zP (by assumption)
        obtain ⟨ad279, A279_0, c279_0, A279_1, c279_1, e279, hx279_0, hx279_1, hl279_0, hi279_0, hl279_1, hi279_1⟩ := at_T42 (Kd.V_reads' HO1.out).2.2 0 p279 q279
        cases e279
        obtain ⟨ce279, hce279, hMe279, hcc279⟩ := Kd.V_get HO1.out z42 0 p279 (by first | exact q279 | exact zP (by assumption) | (have e_ := (Kd.V_reads' HO1.out).1; omega))
        obtain ⟨ua279_0, uc279_0, ua279_1, uc279_1, rfl, ul279_0, ge279_0, ul279_1, ge279_1⟩ := k42_openF hMe279
        have hv279_0 := hcc279 0 _ rfl
        rw [Nat.add_zero] at hv279_0
        replace hv279_0 := Option.some.inj (hv279_0.symm.trans hx279_0)
        injection hv279_0 with hva_ hvn_ hvc_
        rw [hva_] at ge279_0
        rw [hvc_] at ul279_0
        have HL279_0 := yD (show Kd.V (Kd.int .i64) 2 _ w.heap.size _ _ ((rd_T42 l1 0).f0) from Kd.V_mk ul279_0 ge279_0)
        clear hva_ hvn_ hvc_ ge279_0 ul279_0
        have hv279_1 := hcc279 1 _ rfl
        rw [add_field _ _ 1 (by omega)] at hv279_1
        replace hv279_1 := Option.some.inj (hv279_1.symm.trans hx279_1)
        injection hv279_1 with hva_ hvn_ hvc_
        rw [hva_] at ge279_1
        rw [hvc_] at ul279_1
        have HL279_1 := yD (show Kd.V (Kd.int .i64) 2 _ w.heap.size _ _ ((rd_T42 l1 0).f1) from Kd.V_mk ul279_1 ge279_1)
        clear hva_ hvn_ hvc_ ge279_1 ul279_1 hcc279 hce279
        have qi279 : (0 < l1.length) = True := eq_true (by omega)
        (try rw [show ((0 : Int)).toNat = 0 from rfl] at hx279_0)
        (try rw [show 0 * 2 = 0 from rfl] at hx279_0)
        (try rw [Addr.add_zero'] at hx279_0)
        (try rw [show ((0 : Int)).toNat = 0 from rfl] at hx279_1)
        (try rw [show 0 * 2 = 0 from rfl] at hx279_1)
        (try rw [Addr.add_zero'] at hx279_1)
        have HR279_0 := yD hi279_0
        have HC279_0 := yD hl279_0
        clear hi279_0 hl279_0
        have HR279_1 := yD hi279_1
        have HC279_1 := yD hl279_1
        clear hi279_1 hl279_1; replace p279 := eq_true p279; replace q279 := eq_true q279
        refine start_ (n := 31) (S := fun w' => w'.cell? ad278 = some (.slice A278_0 ((rd_T42 l0 0).f0).length c278_0) ∧ w'.cell? ⟨ad278.block, ad278.off + 1, none⟩ = some (.slice A278_1 ((rd_T42 l0 0).f1).length c278_1) ∧ w'.cell? ad279 = some (.slice A279_0 ((rd_T42 l1 0).f0).length c279_0) ∧ w'.cell? ⟨ad279.block, ad279.off + 1, none⟩ = some (.slice A279_1 ((rd_T42 l1 0).f1).length c279_1)) (ds := []) (bz 31 0) (by kernel_rfl) rfl rfl ⟨hx278_0, hx278_1, hx279_0, hx279_1⟩ (fun hHeld => ?_); refine with_tabW impl_combine_impl_either.tab1 impl_combine_impl_either.bits1 (fun HT_ HW_ => ?_)
        generalize w.drew = w13 at HO0 HO1 HB HL278_0 HL278_1 HL279_0 HL279_1 HR278_0 HR278_1 HR279_0 HR279_1 hx278_0 hx278_1 hx279_0 hx279_1 hHeld ⊢
        refine qA 0 8 (bz 31 1) HT_ ?_
        refine one_ (i := 1) (N := some 9) (bz 31 3) rfl rfl (one_of HT_.out (by kernel_rfl)) (by decide) (fun K hK => ?_)
        refine goes_ Try.func63 (by kernel_rfl) rfl #[.slice (some ad278) l0.length c0] (by rfl) rfl rfl (by (try simp only [zK, zL, zM]); first | done | rfl | (simp only [zN, zO]; rfl)) ?_
        with_reducible refine (impl_boxesOk.calls k _ _ l0 true _ ?side1 ?side2 A5.out).mono ?_
        (case side1 => exact kV (Kd.V_reads' HO0.out).2.2)
        (case side2 => exact (Kd.V_reads' HO0.out).2.1)
        rintro e w14 ⟨rfl, hb⟩
        have HS0_ := (hb.cell (zQ _ _ (hHeld.1))).trans (hHeld.1)
        have HS1_ := (hb.cell (zQ _ _ (hHeld.2.1))).trans (hHeld.2.1)
        have HS2_ := (hb.cell (zQ _ _ (hHeld.2.2.1))).trans (hHeld.2.2.1)
        have HS3_ := (hb.cell (zQ _ _ (hHeld.2.2.2))).trans (hHeld.2.2.2)
        refine ⟨_, rfl, ?_⟩
        have n0_ := yD (Kd.V_below (by (with_reducible repeat (first | apply Kd.V_alloc | apply Kd.V_drewN | apply Kd.V_drew)); exact HO0.out) hb)
        have n1_ := yD (Kd.V_below (by (with_reducible repeat (first | apply Kd.V_alloc | apply Kd.V_drewN | apply Kd.V_drew)); exact HO1.out) hb)
        have n2_ := yD (zC (kB HB) hb)
        clear HO0 HO1 HB; have HO0 := n0_; have HO1 := n1_; have HB := n2_; clear n0_ n1_ n2_; (try clear hb); (try clear hb2); (try clear hk); (try clear hi)
        refine hK.out _ _ ⟨HS0_, HS1_, HS2_, HS3_⟩ (fun hHeld => ?_)
        clear hK K
        refine norm_ (a' := ?_) ?_ ?_
        rotate_left
        · show Act.put _ (some 9) _ = _
          simp only [Act.put, zH, zI, zJ, i64_w, i32_w]
          rfl
        refine qA 2 10 (bz 31 7) HT_ ?_
        refine qA 3 11 (bz 31 15) HT_ ?_
        refine qA 4 12 (bz 31 31) HT_ ?_
        refine one_ (i := 5) (N := some 13) (bz 31 63) rfl rfl (one_of HT_.out (by kernel_rfl)) (by decide) (fun K hK => ?_)
        refine goes_ Try.func63 (by kernel_rfl) rfl #[.slice (some ad279) l1.length c1] (by rfl) rfl rfl (by (try simp only [zK, zL, zM]); first | done | rfl | (simp only [zN, zO]; rfl)) ?_
        with_reducible refine (impl_boxesOk.calls k _ _ l1 true _ ?side1 ?side2 A7.out).mono ?_
        (case side1 => exact kV (Kd.V_reads' HO1.out).2.2)
        (case side2 => exact (Kd.V_reads' HO1.out).2.1)
        rintro e w15 ⟨rfl, hb⟩
        have HS0_ := (hb.cell (zQ _ _ (hHeld.1))).trans (hHeld.1)
        have HS1_ := (hb.cell (zQ _ _ (hHeld.2.1))).trans (hHeld.2.1)
        have HS2_ := (hb.cell (zQ _ _ (hHeld.2.2.1))).trans (hHeld.2.2.1)
        have HS3_ := (hb.cell (zQ _ _ (hHeld.2.2.2))).trans (hHeld.2.2.2)
        refine ⟨_, rfl, ?_⟩
        have n0_ := yD (Kd.V_below (by (with_reducible repeat (first | apply Kd.V_alloc | apply Kd.V_drewN | apply Kd.V_drew)); exact HO0.out) hb)
        have n1_ := yD (Kd.V_below (by (with_reducible repeat (first | apply Kd.V_alloc | apply Kd.V_drewN | apply Kd.V_drew)); exact HO1.out) hb)
        have n2_ := yD (zC (kB HB) hb)
        clear HO0 HO1 HB; have HO0 := n0_; have HO1 := n1_; have HB := n2_; clear n0_ n1_ n2_; (try clear hb); (try clear hb2); (try clear hk); (try clear hi)
        refine hK.out _ _ ⟨HS0_, HS1_, HS2_, HS3_⟩ (fun hHeld => ?_)
        clear hK K
        refine norm_ (a' := ?_) ?_ ?_
        rotate_left
        · show Act.put _ (some 13) _ = _
          simp only [Act.put, zH, zI, zJ, i64_w, i32_w]
          rfl
        refine qA 6 14 (bz 31 127) HT_ ?_
        refine qA 7 15 (bz 31 255) HT_ ?_
        refine qA 8 16 (bz 31 511) HT_ ?_
        refine qA 9 17 (bz 31 1023) HT_ ?_
        refine qA 10 18 (bz 31 2047) HT_ ?_
        refine qA 11 19 (bz 31 4095) HT_ ?_
        refine qA 12 20 (bz 31 8191) HT_ ?_
        refine qA 13 21 (bz 31 16383) HT_ ?_
        refine qA 14 22 (bz 31 32767) HT_ ?_
        refine qA 15 23 (bz 31 65535) HT_ ?_
        refine qA 16 24 (bz 31 131071) HT_ ?_
        refine qA 17 25 (bz 31 262143) HT_ ?_
        refine qA 18 26 (bz 31 524287) HT_ ?_
        refine qA 19 27 (bz 31 1048575) HT_ ?_
        refine qA 20 28 (bz 31 2097151) HT_ ?_
        refine qA 23 31 (bz 31 10485759) HT_ ?_
        refine qA 24 32 (bz 31 27262975) HT_ ?_
        refine qA 25 33 (bz 31 60817407) HT_ ?_
        refine qC 21 29 (bz 31 62914559) HT_ HW_ hHeld ?_ (hy := by rintro w' ⟨s0, s1, s2, s3⟩; go_simp; with_reducible rfl)
        refine qA 22 30 (bz 31 67108863) HT_ ?_
        refine qC 26 34 (bz 31 134217727) HT_ HW_ hHeld ?_ (hy := by rintro w' ⟨s0, s1, s2, s3⟩; go_simp; with_reducible rfl)
        refine qA 27 35 (bz 31 268435455) HT_ ?_
        refine qA 28 36 (bz 31 536870911) HT_ ?_
        refine qA 29 37 (bz 31 1073741823) HT_ ?_
        refine qA 30 38 (bz 31 2147483647) HT_ ?_
        refine done_ (done_of HT_.out (by kernel_rfl)) ?_
        try go_wp2
        go_meet
        case rel => exact ⟨_, (((((rd_T42 l0 0).f0).length : Int) != (((rd_T42 l1 0).f0).length : Int))), (by first | rfl | (simp; done) | (simp [*]; done)), H', ⟨by first | omega | exact Nat.le_refl _⟩, ⟨by (with_reducible repeat (first | apply Kd.V_alloc | apply Kd.V_drewN | apply Kd.V_drew)); exact HO0.out⟩, ⟨by (with_reducible repeat (first | apply Kd.V_alloc | apply Kd.V_drewN | apply Kd.V_drew)); exact HO1.out⟩, ⟨kR0 HB⟩⟩
       · rw [if_neg c12] at H
         exact absurd H (by simp)
      · rw [if_neg c11] at H
        exact absurd H (by simp)
     ·
      rw [if_neg c10] at H
      have c10b0 : decide (0 < (l1.length : Int)) = false := zS c10
      have c10b1 : decide (0 < l1.length) = false := zS (by omega)
      clear c10
      have H' := yD H
      clear H
      try go_wp2
      have n0_ := yD (Kd.V_drew HO0.out)
      have n1_ := yD (Kd.V_drew HO1.out)
      have n2_ := yD (yP HB.out)
      clear HO0 HO1 HB; have HO0 := n0_; have HO1 := n1_; have HB := n2_; clear n0_ n1_ n2_
      refine start_ (n := 31) (S := fun w' => True) (ds := []) (bz 31 0) (by kernel_rfl) rfl rfl trivial (fun hHeld => ?_); refine with_tabW impl_combine_impl_either.tab1 impl_combine_impl_either.bits1 (fun HT_ HW_ => ?_)
      generalize w.drew = w16 at HO0 HO1 HB hHeld ⊢
      refine qA 0 8 (bz 31 1) HT_ ?_
      refine one_ (i := 1) (N := some 9) (bz 31 3) rfl rfl (one_of HT_.out (by kernel_rfl)) (by decide) (fun K hK => ?_)
      refine goes_ Try.func63 (by kernel_rfl) rfl #[.slice A0 l0.length c0] (by rfl) rfl rfl (by (try simp only [zK, zL, zM]); first | done | rfl | (simp only [zN, zO]; rfl)) ?_
      with_reducible refine (impl_boxesOk.calls k _ _ l0 true _ ?side1 ?side2 A5.out).mono ?_
      (case side1 => exact kV (Kd.V_reads' HO0.out).2.2)
      (case side2 => exact (Kd.V_reads' HO0.out).2.1)
      rintro e w17 ⟨rfl, hb⟩
      refine ⟨_, rfl, ?_⟩
      have n0_ := yD (Kd.V_below (by (with_reducible repeat (first | apply Kd.V_alloc | apply Kd.V_drewN | apply Kd.V_drew)); exact HO0.out) hb)
      have n1_ := yD (Kd.V_below (by (with_reducible repeat (first | apply Kd.V_alloc | apply Kd.V_drewN | apply Kd.V_drew)); exact HO1.out) hb)
      have n2_ := yD (zC (kB HB) hb)
      clear HO0 HO1 HB; have HO0 := n0_; have HO1 := n1_; have HB := n2_; clear n0_ n1_ n2_; (try clear hb); (try clear hb2); (try clear hk); (try clear hi)
      refine hK.out _ _ trivial (fun hHeld => ?_)
      clear hK K
      refine norm_ (a' := ?_) ?_ ?_
      rotate_left
      · show Act.put _ (some 9) _ = _
        simp only [Act.put, zH, zI, zJ, i64_w, i32_w]
        rfl
      refine qA 2 10 (bz 31 7) HT_ ?_
      refine qA 3 11 (bz 31 15) HT_ ?_
      refine qA 4 12 (bz 31 31) HT_ ?_
      refine one_ (i := 5) (N := some 13) (bz 31 63) rfl rfl (one_of HT_.out (by kernel_rfl)) (by decide) (fun K hK => ?_)
      refine goes_ Try.func63 (by kernel_rfl) rfl #[.slice A1 l1.length c1] (by rfl) rfl rfl (by (try simp only [zK, zL, zM]); first | done | rfl | (simp only [zN, zO]; rfl)) ?_
      with_reducible refine (impl_boxesOk.calls k _ _ l1 true _ ?side1 ?side2 A7.out).mono ?_
      (case side1 => exact kV (Kd.V_reads' HO1.out).2.2)
      (case side2 => exact (Kd.V_reads' HO1.out).2.1)
      rintro e w18 ⟨rfl, hb⟩
      refine ⟨_, rfl, ?_⟩
      have n0_ := yD (Kd.V_below (by (with_reducible repeat (first | apply Kd.V_alloc | apply Kd.V_drewN | apply Kd.V_drew)); exact HO0.out) hb)
      have n1_ := yD (Kd.V_below (by (with_reducible repeat (first | apply Kd.V_alloc | apply Kd.V_drewN | apply Kd.V_drew)); exact HO1.out) hb)
      have n2_ := yD (zC (kB HB) hb)
      clear HO0 HO1 HB; have HO0 := n0_; have HO1 := n1_; have HB := n2_; clear n0_ n1_ n2_; (try clear hb); (try clear hb2); (try clear hk); (try clear hi)
      refine hK.out _ _ trivial (fun hHeld => ?_)
      clear hK K
      refine norm_ (a' := ?_) ?_ ?_
      rotate_left
      · show Act.put _ (some 13) _ = _
        simp only [Act.put, zH, zI, zJ, i64_w, i32_w]
        rfl
      refine qA 6 14 (bz 31 127) HT_ ?_
      refine qA 7 15 (bz 31 255) HT_ ?_
      refine qA 8 16 (bz 31 511) HT_ ?_
      refine qA 9 17 (bz 31 1023) HT_ ?_
      refine qA 10 18 (bz 31 2047) HT_ ?_
      refine qA 11 19 (bz 31 4095) HT_ ?_
      refine qA 12 20 (bz 31 8191) HT_ ?_
      refine qA 13 21 (bz 31 16383) HT_ ?_
      refine qA 14 22 (bz 31 32767) HT_ ?_
      refine qA 15 23 (bz 31 65535) HT_ ?_
      refine qA 16 24 (bz 31 131071) HT_ ?_
      refine qA 17 25 (bz 31 262143) HT_ ?_
      refine qB 18 26 (bz 31 524287) HT_ ?_
      refine qB 19 27 (bz 31 1048575) HT_ ?_
      refine qB 20 28 (bz 31 2097151) HT_ ?_
      refine qB 21 29 (bz 31 4194303) HT_ ?_
      refine qB 22 30 (bz 31 8388607) HT_ ?_
      refine qB 23 31 (bz 31 16777215) HT_ ?_
      refine qB 24 32 (bz 31 33554431) HT_ ?_
      refine qB 25 33 (bz 31 67108863) HT_ ?_
      refine qB 26 34 (bz 31 134217727) HT_ ?_
      refine qB 27 35 (bz 31 268435455) HT_ ?_
      refine qB 28 36 (bz 31 536870911) HT_ ?_
      refine qA 29 37 (bz 31 1073741823) HT_ ?_
      refine qA 30 38 (bz 31 2147483647) HT_ ?_
      refine done_ (done_of HT_.out (by kernel_rfl)) ?_
      try go_wp2
      go_meet
      case rel => exact ⟨_, (false), (by first | rfl | (simp; done) | (simp [*]; done)), H', ⟨by first | omega | exact Nat.le_refl _⟩, ⟨by (with_reducible repeat (first | apply Kd.V_alloc | apply Kd.V_drewN | apply Kd.V_drew)); exact HO0.out⟩, ⟨by (with_reducible repeat (first | apply Kd.V_alloc | apply Kd.V_drewN | apply Kd.V_drew)); exact HO1.out⟩, ⟨kR0 HB⟩⟩
    ·
     rw [if_neg c9] at H
     have c9b0 : decide (0 < (l0.length : Int)) = false := zS c9
     have c9b1 : decide (0 < l0.length) = false := zS (by omega)
     clear c9
     (first | rw [c9b0] | (simp only [i64_w, i32_w]; rw [c9b0]) | (simp only [bne] at c9b0; rw [c9b0]) | skip)
     have H' := yD H
     clear H
     try go_wp2
     have n0_ := yD (Kd.V_drew HO0.out)
     have n1_ := yD (Kd.V_drew HO1.out)
     have n2_ := yD (yP HB.out)
     clear HO0 HO1 HB; have HO0 := n0_; have HO1 := n1_; have HB := n2_; clear n0_ n1_ n2_
     refine start_ (n := 31) (S := fun w' => True) (ds := []) (bz 31 0) (by kernel_rfl) rfl rfl trivial (fun hHeld => ?_); refine with_tabW impl_combine_impl_either.tab1 impl_combine_impl_either.bits1 (fun HT_ HW_ => ?_)
     generalize w.drew = w19 at HO0 HO1 HB hHeld ⊢
     refine qA 0 8 (bz 31 1) HT_ ?_
     refine one_ (i := 1) (N := some 9) (bz 31 3) rfl rfl (one_of HT_.out (by kernel_rfl)) (by decide) (fun K hK => ?_)
     refine goes_ Try.func63 (by kernel_rfl) rfl #[.slice A0 l0.length c0] (by rfl) rfl rfl (by (try simp only [zK, zL, zM]); first | done | rfl | (simp only [zN, zO]; rfl)) ?_
     with_reducible refine (impl_boxesOk.calls k _ _ l0 true _ ?side1 ?side2 A5.out).mono ?_
     (case side1 => exact kV (Kd.V_reads' HO0.out).2.2)
     (case side2 => exact (Kd.V_reads' HO0.out).2.1)
     rintro e w20 ⟨rfl, hb⟩
     refine ⟨_, rfl, ?_⟩
     have n0_ := yD (Kd.V_below (by (with_reducible repeat (first | apply Kd.V_alloc | apply Kd.V_drewN | apply Kd.V_drew)); exact HO0.out) hb)
     have n1_ := yD (Kd.V_below (by (with_reducible repeat (first | apply Kd.V_alloc | apply Kd.V_drewN | apply Kd.V_drew)); exact HO1.out) hb)
     have n2_ := yD (zC (kB HB) hb)
     clear HO0 HO1 HB; have HO0 := n0_; have HO1 := n1_; have HB := n2_; clear n0_ n1_ n2_; (try clear hb); (try clear hb2); (try clear hk); (try clear hi)
     refine hK.out _ _ trivial (fun hHeld => ?_)
     clear hK K
     refine norm_ (a' := ?_) ?_ ?_
     rotate_left
     · show Act.put _ (some 9) _ = _
       simp only [Act.put, zH, zI, zJ, i64_w, i32_w]
       rfl
     refine qA 2 10 (bz 31 7) HT_ ?_
     refine qA 3 11 (bz 31 15) HT_ ?_
     refine qA 4 12 (bz 31 31) HT_ ?_
     refine one_ (i := 5) (N := some 13) (bz 31 63) rfl rfl (one_of HT_.out (by kernel_rfl)) (by decide) (fun K hK => ?_)
     refine goes_ Try.func63 (by kernel_rfl) rfl #[.slice A1 l1.length c1] (by rfl) rfl rfl (by (try simp only [zK, zL, zM]); first | done | rfl | (simp only [zN, zO]; rfl)) ?_
     with_reducible refine (impl_boxesOk.calls k _ _ l1 true _ ?side1 ?side2 A7.out).mono ?_
     (case side1 => exact kV (Kd.V_reads' HO1.out).2.2)
     (case side2 => exact (Kd.V_reads' HO1.out).2.1)
     rintro e w21 ⟨rfl, hb⟩
     refine ⟨_, rfl, ?_⟩
     have n0_ := yD (Kd.V_below (by (with_reducible repeat (first | apply Kd.V_alloc | apply Kd.V_drewN | apply Kd.V_drew)); exact HO0.out) hb)
     have n1_ := yD (Kd.V_below (by (with_reducible repeat (first | apply Kd.V_alloc | apply Kd.V_drewN | apply Kd.V_drew)); exact HO1.out) hb)
     have n2_ := yD (zC (kB HB) hb)
     clear HO0 HO1 HB; have HO0 := n0_; have HO1 := n1_; have HB := n2_; clear n0_ n1_ n2_; (try clear hb); (try clear hb2); (try clear hk); (try clear hi)
     refine hK.out _ _ trivial (fun hHeld => ?_)
     clear hK K
     refine norm_ (a' := ?_) ?_ ?_
     rotate_left
     · show Act.put _ (some 13) _ = _
       simp only [Act.put, zH, zI, zJ, i64_w, i32_w]
       rfl
     refine qA 6 14 (bz 31 127) HT_ ?_
     refine qA 7 15 (bz 31 255) HT_ ?_
     refine qA 8 16 (bz 31 511) HT_ ?_
     refine qA 9 17 (bz 31 1023) HT_ ?_
     refine qA 10 18 (bz 31 2047) HT_ ?_
     refine qA 11 19 (bz 31 4095) HT_ ?_
     refine qA 12 20 (bz 31 8191) HT_ ?_
     refine qB 13 21 (bz 31 16383) HT_ ?_
     refine qB 14 22 (bz 31 32767) HT_ ?_
     refine qB 15 23 (bz 31 65535) HT_ ?_
     refine qA 16 24 (bz 31 131071) HT_ ?_
     refine qA 17 25 (bz 31 262143) HT_ ?_
     refine qB 18 26 (bz 31 524287) HT_ ?_
     refine qB 19 27 (bz 31 1048575) HT_ ?_
     refine qB 20 28 (bz 31 2097151) HT_ ?_
     refine qB 21 29 (bz 31 4194303) HT_ ?_
     refine qB 22 30 (bz 31 8388607) HT_ ?_
     refine qB 23 31 (bz 31 16777215) HT_ ?_
     refine qB 24 32 (bz 31 33554431) HT_ ?_
     refine qB 25 33 (bz 31 67108863) HT_ ?_
     refine qB 26 34 (bz 31 134217727) HT_ ?_
     refine qB 27 35 (bz 31 268435455) HT_ ?_
     refine qB 28 36 (bz 31 536870911) HT_ ?_
     refine qA 29 37 (bz 31 1073741823) HT_ ?_
     refine qA 30 38 (bz 31 2147483647) HT_ ?_
     refine done_ (done_of HT_.out (by kernel_rfl)) ?_
     try go_wp2
     go_meet
     case rel => exact ⟨_, (false), (by first | rfl | (simp; done) | (simp [*]; done)), H', ⟨by first | omega | exact Nat.le_refl _⟩, ⟨by (with_reducible repeat (first | apply Kd.V_alloc | apply Kd.V_drewN | apply Kd.V_drew)); exact HO0.out⟩, ⟨by (with_reducible repeat (first | apply Kd.V_alloc | apply Kd.V_drewN | apply Kd.V_drew)); exact HO1.out⟩, ⟨kR0 HB⟩⟩
   ·
    replace c8 := Bool.eq_false_iff.mpr c8
    subst c8
    have H1 : (impl_combine_impl_either.j0 k l0 l1 true) = some (r1, r2) := by rw [if_neg (show ¬ (false = true) by decide)] at H; exact H
    clear H; have H := H1; clear H1
    have H' := yD H
    clear H
    try go_wp2
    have n0_ := yD (Kd.V_drew HO0.out)
    have n1_ := yD (Kd.V_drew HO1.out)
    have n2_ := yD (yP HB.out)
    clear HO0 HO1 HB; have HO0 := n0_; have HO1 := n1_; have HB := n2_; clear n0_ n1_ n2_
    refine start_ (n := 31) (S := fun w' => True) (ds := []) (bz 31 0) (by kernel_rfl) rfl rfl trivial (fun hHeld => ?_); refine with_tabW impl_combine_impl_either.tab1 impl_combine_impl_either.bits1 (fun HT_ HW_ => ?_)
    generalize w.drew = w22 at HO0 HO1 HB hHeld ⊢
    refine qA 0 8 (bz 31 1) HT_ ?_
    refine one_ (i := 1) (N := some 9) (bz 31 3) rfl rfl (one_of HT_.out (by kernel_rfl)) (by decide) (fun K hK => ?_)
    refine goes_ Try.func63 (by kernel_rfl) rfl #[.slice A0 l0.length c0] (by rfl) rfl rfl (by (try simp only [zK, zL, zM]); first | done | rfl | (simp only [zN, zO]; rfl)) ?_
    with_reducible refine (impl_boxesOk.calls k _ _ l0 true _ ?side1 ?side2 A5.out).mono ?_
    (case side1 => exact kV (Kd.V_reads' HO0.out).2.2)
    (case side2 => exact (Kd.V_reads' HO0.out).2.1)
    rintro e w23 ⟨rfl, hb⟩
    refine ⟨_, rfl, ?_⟩
    have n0_ := yD (Kd.V_below (by (with_reducible repeat (first | apply Kd.V_alloc | apply Kd.V_drewN | apply Kd.V_drew)); exact HO0.out) hb)
    have n1_ := yD (Kd.V_below (by (with_reducible repeat (first | apply Kd.V_alloc | apply Kd.V_drewN | apply Kd.V_drew)); exact HO1.out) hb)
    have n2_ := yD (zC (kB HB) hb)
    clear HO0 HO1 HB; have HO0 := n0_; have HO1 := n1_; have HB := n2_; clear n0_ n1_ n2_; (try clear hb); (try clear hb2); (try clear hk); (try clear hi)
    refine hK.out _ _ trivial (fun hHeld => ?_)
    clear hK K
    refine norm_ (a' := ?_) ?_ ?_
    rotate_left
    · show Act.put _ (some 9) _ = _
      simp only [Act.put, zH, zI, zJ, i64_w, i32_w]
      rfl
    refine qA 2 10 (bz 31 7) HT_ ?_
    refine qA 3 11 (bz 31 15) HT_ ?_
    refine qA 4 12 (bz 31 31) HT_ ?_
    refine one_ (i := 5) (N := some 13) (bz 31 63) rfl rfl (one_of HT_.out (by kernel_rfl)) (by decide) (fun K hK => ?_)
    refine goes_ Try.func63 (by kernel_rfl) rfl #[.slice A1 l1.length c1] (by rfl) rfl rfl (by (try simp only [zK, zL, zM]); first | done | rfl | (simp only [zN, zO]; rfl)) ?_
    with_reducible refine (impl_boxesOk.calls k _ _ l1 false _ ?side1 ?side2 A7.out).mono ?_
    (case side1 => exact kV (Kd.V_reads' HO1.out).2.2)
    (case side2 => exact (Kd.V_reads' HO1.out).2.1)
    rintro e w24 ⟨rfl, hb⟩
    refine ⟨_, rfl, ?_⟩
    have n0_ := yD (Kd.V_below (by (with_reducible repeat (first | apply Kd.V_alloc | apply Kd.V_drewN | apply Kd.V_drew)); exact HO0.out) hb)
    have n1_ := yD (Kd.V_below (by (with_reducible repeat (first | apply Kd.V_alloc | apply Kd.V_drewN | apply Kd.V_drew)); exact HO1.out) hb)
    have n2_ := yD (zC (kB HB) hb)
    clear HO0 HO1 HB; have HO0 := n0_; have HO1 := n1_; have HB := n2_; clear n0_ n1_ n2_; (try clear hb); (try clear hb2); (try clear hk); (try clear hi)
    refine hK.out _ _ trivial (fun hHeld => ?_)
    clear hK K
    refine norm_ (a' := ?_) ?_ ?_
    rotate_left
    · show Act.put _ (some 13) _ = _
      simp only [Act.put, zH, zI, zJ, i64_w, i32_w]
      rfl
    refine qA 6 14 (bz 31 127) HT_ ?_
    refine qA 7 15 (bz 31 255) HT_ ?_
    refine qA 8 16 (bz 31 511) HT_ ?_
    refine qB 9 17 (bz 31 1023) HT_ ?_
    refine qB 10 18 (bz 31 2047) HT_ ?_
    refine qB 11 19 (bz 31 4095) HT_ ?_
    refine qB 12 20 (bz 31 8191) HT_ ?_
    refine qB 13 21 (bz 31 16383) HT_ ?_
    refine qB 14 22 (bz 31 32767) HT_ ?_
    refine qB 15 23 (bz 31 65535) HT_ ?_
    refine qB 16 24 (bz 31 131071) HT_ ?_
    refine qB 17 25 (bz 31 262143) HT_ ?_
    refine qB 18 26 (bz 31 524287) HT_ ?_
    refine qB 19 27 (bz 31 1048575) HT_ ?_
    refine qB 20 28 (bz 31 2097151) HT_ ?_
    refine qB 21 29 (bz 31 4194303) HT_ ?_
    refine qB 22 30 (bz 31 8388607) HT_ ?_
    refine qB 23 31 (bz 31 16777215) HT_ ?_
    refine qB 24 32 (bz 31 33554431) HT_ ?_
    refine qB 25 33 (bz 31 67108863) HT_ ?_
    refine qB 26 34 (bz 31 134217727) HT_ ?_
    refine qB 27 35 (bz 31 268435455) HT_ ?_
    refine qB 28 36 (bz 31 536870911) HT_ ?_
    refine qB 29 37 (bz 31 1073741823) HT_ ?_
    refine qA 30 38 (bz 31 2147483647) HT_ ?_
    refine done_ (done_of HT_.out (by kernel_rfl)) ?_
    try go_wp2
    go_meet
    case rel => exact ⟨_, (true), (by first | rfl | (simp; done) | (simp [*]; done)), H', ⟨by first | omega | exact Nat.le_refl _⟩, ⟨by (with_reducible repeat (first | apply Kd.V_alloc | apply Kd.V_drewN | apply Kd.V_drew)); exact HO0.out⟩, ⟨by (with_reducible repeat (first | apply Kd.V_alloc | apply Kd.V_drewN | apply Kd.V_drew)); exact HO1.out⟩, ⟨kR0 HB⟩⟩
  ·
   replace c6 := Bool.eq_false_iff.mpr c6
   subst c6
   have H1 : (impl_combine_impl_either.j0 k l0 l1 true) = some (r1, r2) := by rw [if_neg (show ¬ (false = true) by decide)] at H; exact H
   clear H; have H := H1; clear H1
   have H' := yD H
   clear H
   try go_wp2
   have n0_ := yD (Kd.V_drew HO0.out)
   have n1_ := yD (Kd.V_drew HO1.out)
   have n2_ := yD (yP HB.out)
   clear HO0 HO1 HB; have HO0 := n0_; have HO1 := n1_; have HB := n2_; clear n0_ n1_ n2_
   refine start_ (n := 31) (S := fun w' => True) (ds := []) (bz 31 0) (by kernel_rfl) rfl rfl trivial (fun hHeld => ?_); refine with_tabW impl_combine_impl_either.tab1 impl_combine_impl_either.bits1 (fun HT_ HW_ => ?_)
   generalize w.drew = w25 at HO0 HO1 HB hHeld ⊢
   refine qA 0 8 (bz 31 1) HT_ ?_
   refine one_ (i := 1) (N := some 9) (bz 31 3) rfl rfl (one_of HT_.out (by kernel_rfl)) (by decide) (fun K hK => ?_)
   refine goes_ Try.func63 (by kernel_rfl) rfl #[.slice A0 l0.length c0] (by rfl) rfl rfl (by (try simp only [zK, zL, zM]); first | done | rfl | (simp only [zN, zO]; rfl)) ?_
   with_reducible refine (impl_boxesOk.calls k _ _ l0 false _ ?side1 ?side2 A5.out).mono ?_
   (case side1 => exact kV (Kd.V_reads' HO0.out).2.2)
   (case side2 => exact (Kd.V_reads' HO0.out).2.1)
   rintro e w26 ⟨rfl, hb⟩
   refine ⟨_, rfl, ?_⟩
   have n0_ := yD (Kd.V_below (by (with_reducible repeat (first | apply Kd.V_alloc | apply Kd.V_drewN | apply Kd.V_drew)); exact HO0.out) hb)
   have n1_ := yD (Kd.V_below (by (with_reducible repeat (first | apply Kd.V_alloc | apply Kd.V_drewN | apply Kd.V_drew)); exact HO1.out) hb)
   have n2_ := yD (zC (kB HB) hb)
   clear HO0 HO1 HB; have HO0 := n0_; have HO1 := n1_; have HB := n2_; clear n0_ n1_ n2_; (try clear hb); (try clear hb2); (try clear hk); (try clear hi)
   refine hK.out _ _ trivial (fun hHeld => ?_)
   clear hK K
   refine norm_ (a' := ?_) ?_ ?_
   rotate_left
   · show Act.put _ (some 9) _ = _
     simp only [Act.put, zH, zI, zJ, i64_w, i32_w]
     rfl
   refine qA 2 10 (bz 31 7) HT_ ?_
   refine qA 3 11 (bz 31 15) HT_ ?_
   refine qB 4 12 (bz 31 31) HT_ ?_
   refine qB 5 13 (bz 31 63) HT_ ?_
   refine qB 6 14 (bz 31 127) HT_ ?_
   refine qA 7 15 (bz 31 255) HT_ ?_
   refine qA 8 16 (bz 31 511) HT_ ?_
   refine qB 9 17 (bz 31 1023) HT_ ?_
   refine qB 10 18 (bz 31 2047) HT_ ?_
   refine qB 11 19 (bz 31 4095) HT_ ?_
   refine qB 12 20 (bz 31 8191) HT_ ?_
   refine qB 13 21 (bz 31 16383) HT_ ?_
   refine qB 14 22 (bz 31 32767) HT_ ?_
   refine qB 15 23 (bz 31 65535) HT_ ?_
   refine qB 16 24 (bz 31 131071) HT_ ?_
   refine qB 17 25 (bz 31 262143) HT_ ?_
   refine qB 18 26 (bz 31 524287) HT_ ?_
   refine qB 19 27 (bz 31 1048575) HT_ ?_
   refine qB 20 28 (bz 31 2097151) HT_ ?_
   refine qB 21 29 (bz 31 4194303) HT_ ?_
   refine qB 22 30 (bz 31 8388607) HT_ ?_
   refine qB 23 31 (bz 31 16777215) HT_ ?_
   refine qB 24 32 (bz 31 33554431) HT_ ?_
   refine qB 25 33 (bz 31 67108863) HT_ ?_
   refine qB 26 34 (bz 31 134217727) HT_ ?_
   refine qB 27 35 (bz 31 268435455) HT_ ?_
   refine qB 28 36 (bz 31 536870911) HT_ ?_
   refine qB 29 37 (bz 31 1073741823) HT_ ?_
   refine qA 30 38 (bz 31 2147483647) HT_ ?_
   refine done_ (done_of HT_.out (by kernel_rfl)) ?_
   try go_wp2
   go_meet
   case rel => exact ⟨_, (true), (by first | rfl | (simp; done) | (simp [*]; done)), H', ⟨by first | omega | exact Nat.le_refl _⟩, ⟨by (with_reducible repeat (first | apply Kd.V_alloc | apply Kd.V_drewN | apply Kd.V_drew)); exact HO0.out⟩, ⟨by (with_reducible repeat (first | apply Kd.V_alloc | apply Kd.V_drewN | apply Kd.V_drew)); exact HO1.out⟩, ⟨kR0 HB⟩⟩
 case rest =>
  clear HC4; try clear c1; try clear p2; try clear c6; try clear c8
  obtain ⟨kq, x38_3, rfl, HA, HJ3, HO_0, HO_1, HB⟩ := hcut
  cases kq with
  | zero => exact absurd HA.out (by simp [impl_combine_impl_either.j0])
  | succ kj3 =>
   have H := HA.out; clear HA
   simp only [impl_combine_impl_either.j0] at H
   by_cases c27 : x38_3 = true
   ·
    subst c27
    have H1 : (some (([] : List (S42)), 1)) = some (r1, r2) := by rw [if_pos rfl] at H; exact H
    clear H; have H := H1; clear H1
    simp only [Option.some.injEq, Prod.mk.injEq] at H
    obtain ⟨rfl, rfl⟩ := H
    go_wp2
    go_ret2
    exact ⟨_, by first | rfl | (simp <;> rfl) | (simp [*] <;> rfl), Kd.N_V (base := 0) (Kd.N_nil _ _ _ _ _), kR0 HB⟩
   ·
    replace c27 := Bool.eq_false_iff.mpr c27
    subst c27
    have H1 : ((impl_rankOf.f kj3 l0 l1).bind fun t280 => ((impl_combined_impl_either.f kj3 t280 l0 l1).bind fun t281 => ((impl_normalFull.f t281).bind fun bt284 => (some (bt284.1, bt284.2))))) = some (r1, r2) := by rw [if_neg (show ¬ (false = true) by decide)] at H; exact H
    clear H; have H := H1; clear H1
    obtain ⟨t280, A280, H⟩ := zW_ H
    replace H : ((impl_combined_impl_either.f kj3 t280 l0 l1).bind fun t281 => ((impl_normalFull.f t281).bind fun bt284 => (some (bt284.1, bt284.2)))) = some (r1, r2) := H
    have A28 := yD A280
    clear A280
    obtain ⟨t281, A290, H⟩ := zW_ H
    replace H : ((impl_normalFull.f t281).bind fun bt284 => (some (bt284.1, bt284.2))) = some (r1, r2) := H
    have A29 := yD A290
    clear A290
    obtain ⟨⟨t284, t287⟩, A300, H⟩ := zW_ H
    replace H : (some (t284, t287)) = some (r1, r2) := H
    have A30 := yD A300
    clear A300
    simp only [Option.some.injEq, Prod.mk.injEq] at H
    obtain ⟨rfl, rfl⟩ := H
    go_wp2_with (first | ((with_reducible refine gate_callee (f := 99) rfl ?_); refine goesL_ (some 41) rfl rfl Try.func99 (by kernel_rfl) rfl #[.slice A0 l0.length c0, .slice A1 l1.length c1] rfl (by (try simp only [zK, zL, zM]); first | done | rfl | (simp only [zN, zO]; rfl)) ?_; (with_reducible refine (impl_rankOf.calls kj3 (fun k_ => ((P0_ k_ ∨ P1_ k_) ∨ w.heap.size ≤ k_)) _ _ l0 (fun k_ => ((P0_ k_ ∨ P1_ k_) ∨ w.heap.size ≤ k_)) _ _ l1 t280 _ ?side1 ?side2 A28.out).mono ?_); (case side1 => exact HO_0.out); (case side2 => exact HO_1.out); rintro e w31 ⟨rfl, hb⟩; refine ⟨_, rfl, ?_⟩; have n0_ := yD (Kd.V_below (by (with_reducible repeat (first | apply Kd.V_alloc | apply Kd.V_drewN | apply Kd.V_drew)); exact HO_0.out) hb); have n1_ := yD (Kd.V_below (by (with_reducible repeat (first | apply Kd.V_alloc | apply Kd.V_drewN | apply Kd.V_drew)); exact HO_1.out) hb); have n2_ := yD (zC (kB HB) hb); clear HO_0; clear HO_1; clear HB; have HO_0 := n0_; have HO_1 := n1_; have HB := n2_; clear n0_ n1_ n2_; (try clear hb); (try clear hb2); (try clear hk); (try clear hi)) | ((with_reducible refine gate_callee (f := 87) rfl ?_); refine goesL_ (some 45) rfl rfl Try.func87 (by kernel_rfl) rfl #[.int .i64 t280, .slice A0 l0.length c0, .slice A1 l1.length c1, .func (.func 57) #[] #[]] rfl (by (try simp only [zK, zL, zM]); first | done | rfl | (simp only [zN, zO]; rfl)) ?_; (with_reducible refine (impl_combined_impl_either.calls kj3 t280 (fun k_ => ((P0_ k_ ∨ P1_ k_) ∨ w.heap.size ≤ k_)) _ _ l0 (fun k_ => ((P0_ k_ ∨ P1_ k_) ∨ w.heap.size ≤ k_)) _ _ l1  t281 _ ?side1 ?side2 A29.out).mono ?_); (case side1 => exact HO_0.out); (case side2 => exact HO_1.out); rintro e w32 ⟨v282, rfl, ho0, hb⟩; refine ⟨_, rfl, ?_⟩; have n0_ := yD (Kd.V_elder' (by (with_reducible repeat (first | apply Kd.V_alloc | apply Kd.V_drewN | apply Kd.V_drew)); exact HO_0.out) (Kd.N_base ho0) hb); have n1_ := yD (Kd.V_elder' (by (with_reducible repeat (first | apply Kd.V_alloc | apply Kd.V_drewN | apply Kd.V_drew)); exact HO_1.out) (Kd.N_base ho0) hb); have n2_ := yD (Kd.N_lower (Kd.N_mono (ok' := fun k_ => ((P0_ k_ ∨ P1_ k_) ∨ w.heap.size ≤ k_)) ho0 (fun k_ hk_ => Or.elim hk_ (fun hs_ => Or.elim hs_ (fun hs_ => hs_) (fun hs_ => hs_)) (fun hn_ => (.inr (Nat.le_trans (below_size (kB HB)) hn_))))) (below_size (kB HB))); have n3_ := yD (zC (kB HB) hb); clear HO_0; clear HO_1; clear HB; have HO_0 := n0_; have HO_1 := n1_; have HO283 := n2_; have HB := n3_; clear n0_ n1_ n2_ n3_; (try clear hb); (try clear hb2); (try clear hk); (try clear hi); (try clear ho0); obtain ⟨Ao33, co33, eo33⟩ := Kd.N_slice HO283.out; subst eo33) | ((with_reducible refine gate_callee (f := 86) rfl ?_); refine goesL_ (some 46) rfl rfl Try.func86 (by kernel_rfl) rfl #[.slice Ao33 t281.length co33] rfl (by (try simp only [zK, zL, zM]); first | done | rfl | (simp only [zN, zO]; rfl)) ?_; (with_reducible refine (impl_normalFull.calls (fun k_ => ((P0_ k_ ∨ P1_ k_) ∨ w.heap.size ≤ k_)) _ _ t281 t284 t287 _ ?side1 A30.out).mono ?_); (case side1 => exact Kd.N_V (HO283.out)); rintro e w34 ⟨v285, rfl, ho0, hb⟩; refine ⟨_, rfl, ?_⟩; have n0_ := yD (Kd.V_below (by (with_reducible repeat (first | apply Kd.V_alloc | apply Kd.V_drewN | apply Kd.V_drew)); exact HO_0.out) hb); have n1_ := yD (Kd.V_below (by (with_reducible repeat (first | apply Kd.V_alloc | apply Kd.V_drewN | apply Kd.V_drew)); exact HO_1.out) hb); have n2_ := yD (Kd.N_below (by (with_reducible repeat (first | apply Kd.N_alloc | apply Kd.N_drewN | apply Kd.N_drew)); exact HO283.out) hb); have n3_ := yD (Kd.V_lower (Kd.V_mono (ok' := fun k_ => ((P0_ k_ ∨ P1_ k_) ∨ w.heap.size ≤ k_)) ho0 (fun k_ hk_ => Or.elim hk_ (fun hs_ => hs_) (fun hn_ => (.inr (Nat.le_trans (below_size (kB HB)) hn_))))) (below_size (kB HB))); have n4_ := yD (zC (kB HB) hb); clear HO_0; clear HO_1; clear HO283; clear HB; have HO_0 := n0_; have HO_1 := n1_; have HO283 := n2_; have HO286 := n3_; have HB := n4_; clear n0_ n1_ n2_ n3_ n4_; (try clear hb); (try clear hb2); (try clear hk); (try clear hi); (try clear ho0)))
    go_ret2
    exact ⟨_, by first | rfl | (simp <;> rfl) | (simp [*] <;> rfl), by (with_reducible repeat (first | apply Kd.V_alloc | apply Kd.V_drewN | apply Kd.V_drew)); exact HO286.out, kR0 HB⟩

end Go.Proofs.Ytdiaebjbiddefaa.PFnNormalForm
