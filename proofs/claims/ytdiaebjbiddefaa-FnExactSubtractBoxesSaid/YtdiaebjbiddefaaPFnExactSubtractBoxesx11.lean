/- Each Go function here comes to what the plain function of its name says, where that says something. Made by a program of this session, over the print. -/
import Derived.Test.YtdiaebjbiddefaaPFnExactSubtractBoxesx0
import Derived.Test.YtdiaebjbiddefaaPFnExactSubtractBoxesx10
namespace Go.Proofs.Ytdiaebjbiddefaa.PFnExactSubtractBoxes
open Go.RowKit Go.Proofs.YtdiaebjbiddefaaW.PrintWords Go.Proofs.YtdiaebjbiddefaaW.PrintLast Go.Proofs.YtdiaebjbiddefaaW.PrintMore
attribute [local go_sem] max2_int min2_int max_two min_two max_three min_three max_four min_four   -- for this text's walks alone
set_option linter.unusedVariables false
set_option linter.unusedSimpArgs false

/-! ### impl_section: function 123 -/
def impl_section.l0 : Nat → Int → List (S42) → List (S42) → Int → Int → Option ((List (S42)))
 | 0, _, _, _, _, _ => none
 | k + 1, x1, x5, x8, x9, x10 => if x10 < x9 then (if 0 ≤ x10 then (if x10 < (x8.length : Int) then (if 0 < (((rd_T42 x8 x10).f0).length : Int) then (if 0 < (((rd_T42 x8 x10).f1).length : Int) then ((impl_within.f x1 (rd ((rd_T42 x8 x10).f0) 0) (wrap64 ((rd ((rd_T42 x8 x10).f1) 0) - 1))).bind fun t305 => (if t305 = true then (if 1 ≤ (((rd_T42 x8 x10).f0).length : Int) then (if 1 ≤ (((rd_T42 x8 x10).f1).length : Int) then (if x5.length < 2932031007402 then (impl_section.l0 k x1 (x5 ++ [(⟨(((rd_T42 x8 x10).f0).drop 1), (((rd_T42 x8 x10).f1).drop 1)⟩ : S42)]) x8 x9 (wrap64 (x10 + 1))) else (none)) else (none)) else (none)) else (impl_section.l0 k x1 x5 x8 x9 (wrap64 (x10 + 1))))) else (none)) else (none)) else (none)) else (none)) else (some x5)
def impl_section.f (k : Nat) (l0 : List (S42)) (a1 : Int) : Option ((List (S42))) := impl_section.l0 k a1 ([] : List (S42)) l0 (l0.length : Int) 0
theorem impl_section.mono_l : ∀ k, (∀ y0 y1 y2 y3 y4, LeO (impl_section.l0 k y0 y1 y2 y3 y4) (impl_section.l0 (k + 1) y0 y1 y2 y3 y4))
 | 0 => fun _ _ _ _ _ r h => by simp [impl_section.l0] at h
 | k + 1 => by
  have ih0 := impl_section.mono_l k
  · intro y0 y1 y2 y3 y4
    unfold impl_section.l0
    repeat' (with_reducible first | exact ih0 _ _ _ _ _ | exact LeO.refl _ | exact LeO.none _ | refine LeO.ite ?_ ?_ | refine LeO.bind ?_ (fun _ => ?_))
theorem impl_section.mono : ∀ a0 a1 k, LeO (impl_section.f k a0 a1) (impl_section.f (k + 1) a0 a1) := by
 intro a0 a1 k
 have ih0 := impl_section.mono_l k
 unfold impl_section.f
 repeat' (with_reducible first | exact ih0 _ _ _ _ _ | exact LeO.refl _ | exact LeO.none _ | refine LeO.ite ?_ ?_ | refine LeO.bind ?_ (fun _ => ?_))
def impl_section.T5 : Bool × List (List Nat × List Nat) := (true, [([], []), ([], []), ([1], [1]), ([2], [2]), ([3], [3]), ([], []), ([5], [5]), ([6], [6]), ([7], [7]), ([8], [8]), ([0, 4, 9], [0, 4, 9])])
def impl_section.B5 : List Nat := [0, 0, 2, 6, 14, 0, 32, 96, 224, 480, 1023]
theorem impl_section.tab5 : rtab .any (opsOf Try.f123 5) = impl_section.T5 := by kernel_rfl
theorem impl_section.bits5 : waitsOk impl_section.T5.2 impl_section.B5 = true := by kernel_rfl
def impl_section.T6 : Bool × List (List Nat × List Nat) := (true, [([], []), ([], []), ([1], [1]), ([2], [2]), ([], []), ([4], [4]), ([5], [5]), ([3, 6], [3, 6]), ([7], [7]), ([0, 8], [0, 8]), ([9, 9, 0, 1, 2, 3, 4, 5, 6, 7, 8, 9], [0, 9])])
def impl_section.B6 : List Nat := [0, 0, 2, 6, 0, 16, 48, 126, 254, 511, 1023]
theorem impl_section.tab6 : rtab .any (opsOf Try.f123 6) = impl_section.T6 := by kernel_rfl
theorem impl_section.bits6 : waitsOk impl_section.T6.2 impl_section.B6 = true := by kernel_rfl
set_option maxHeartbeats 8000000 in
set_option maxRecDepth 100000 in
theorem impl_section.calls (k : Nat) (P0_ : Nat → Prop) (A0 : Option Addr) (c0 : Nat) (l0 : List (S42)) (a1 : Int) (r : List (S42)) (w : World) (hs0 : Kd.V k42 42 w w.heap.size (fun k_ => P0_ k_) (.slice A0 l0.length c0) l0) (h : impl_section.f k l0 a1 = some r) :
 Calls Try.prog 123 #[.slice A0 l0.length c0, .int .i64 a1] w fun e w' => ∃ v0_ : Value, e = .returned (v0_) ∧ Kd.V k42 42 w' w.heap.size (fun k_ => (P0_ k_ ∨ w.heap.size ≤ k_)) v0_ r ∧ Below w.heap.size w w' := by
 have hu42 := Try.underlying42
 have HO0 := yD (show Kd.V k42 42 w w.heap.size (fun k_ => (P0_ k_ ∨ w.heap.size ≤ k_)) (.slice A0 l0.length c0) l0 from Kd.V_mono hs0 (fun k_ hk => .inl hk))
 have HB := yD (Below.refl w.heap.size w)
 have H : (impl_section.l0 k a1 ([] : List (S42)) l0 (l0.length : Int) 0) = some r := h
 clear h
 have H' := yD H
 clear H; go_enter Try.func123, Try.ntmps123
 go_wp2
 go_loopg [5, 10] k (fun kq v5 v10 w' => ∃ (x5_1 : List (S42)) (x10_1 : Int), v10 = .int .i64 x10_1 ∧ Aside0 (impl_section.l0 kq a1 x5_1 l0 (l0.length : Int) x10_1 = some r) ∧ Aside0 (kq ≤ k) ∧ Aside0 (Kd.N k42 42 w' w.heap.size (fun k_ => (P0_ k_ ∨ w.heap.size ≤ k_)) v5 x5_1) ∧ Aside0 (Kd.V k42 42 w' w.heap.size (fun k_ => (P0_ k_ ∨ w.heap.size ≤ k_) ∧ oB v5 k_) (.slice A0 l0.length c0) l0) ∧ Aside0 (Below w.heap.size w w'))
 case atStart => exact ⟨(([] : List (S42))), (0), (by first | rfl | (simp; done) | (simp [*]; done)), H', ⟨Nat.le_refl _⟩, ⟨by first | exact Kd.S_nil _ _ _ _ _ | exact Kd.N_nil _ _ _ _ _ | exact Kd.V_nil _ _ _ _ _ | exact Kd.Q_nil _ _ _ _ _ | exact Kd.R_nil _ _ _ _ _⟩, ⟨mV HO0 (fun _ hk => ⟨hk, (by simp [oB, Value.ownBlock])⟩)⟩, ⟨kR1 HB⟩⟩
 case round =>
  clear H'
  try clear c1
  obtain ⟨x5_1, x10_1, rfl, HA, HK1, HO_5, HO_8, HB⟩ := hrel
  cases gk with
  | zero => exact absurd HA.out (by simp [impl_section.l0])
  | succ k1 =>
   have H := HA.out; clear HA
   simp only [impl_section.l0] at H
   by_cases c3 : x10_1 < (l0.length : Int)
   ·
    rw [if_pos c3] at H
    have c3b0 : decide (x10_1 < (l0.length : Int)) = true := zR c3; clear c3
    by_cases c4 : 0 ≤ x10_1
    ·
     rw [if_pos c4] at H
     have c4b0 : decide (0 ≤ x10_1) = true := zR c4; clear c4
     by_cases c5 : x10_1 < (l0.length : Int)
     ·
      rw [if_pos c5] at H
      have c5b0 : decide (x10_1 < (l0.length : Int)) = true := zR c5; clear c5
      by_cases c6 : 0 < (((rd_T42 l0 x10_1).f0).length : Int)
      ·
       rw [if_pos c6] at H
       have c6b0 : decide (0 < (((rd_T42 l0 x10_1).f0).length : Int)) = true := zR c6
       have c6b1 : decide (0 < ((rd_T42 l0 x10_1).f0).length) = true := zR (by omega)
       clear c6
       by_cases c7 : 0 < (((rd_T42 l0 x10_1).f1).length : Int)
       ·
        rw [if_pos c7] at H
        have c7b0 : decide (0 < (((rd_T42 l0 x10_1).f1).length : Int)) = true := zR c7
        have c7b1 : decide (0 < ((rd_T42 l0 x10_1).f1).length) = true := zR (by omega)
        clear c7
        obtain ⟨t305, A80, H⟩ := zW_ H
        replace H : (if t305 = true then (if 1 ≤ (((rd_T42 l0 x10_1).f0).length : Int) then (if 1 ≤ (((rd_T42 l0 x10_1).f1).length : Int) then (if x5_1.length < 2932031007402 then (impl_section.l0 k1 a1 (x5_1 ++ [(⟨(((rd_T42 l0 x10_1).f0).drop 1), (((rd_T42 l0 x10_1).f1).drop 1)⟩ : S42)]) l0 (l0.length : Int) (wrap64 (x10_1 + 1))) else (none)) else (none)) else (none)) else (impl_section.l0 k1 a1 x5_1 l0 (l0.length : Int) (wrap64 (x10_1 + 1)))) = some r := H
        have A8 := yD A80
        clear A80
        by_cases c9 : t305 = true
        ·
         subst c9
         replace H : (if 1 ≤ (((rd_T42 l0 x10_1).f0).length : Int) then (if 1 ≤ (((rd_T42 l0 x10_1).f1).length : Int) then (if x5_1.length < 2932031007402 then (impl_section.l0 k1 a1 (x5_1 ++ [(⟨(((rd_T42 l0 x10_1).f0).drop 1), (((rd_T42 l0 x10_1).f1).drop 1)⟩ : S42)]) l0 (l0.length : Int) (wrap64 (x10_1 + 1))) else (none)) else (none)) else (none)) = some r := (by rw [if_pos rfl] at H; exact H)
         by_cases c10 : 1 ≤ (((rd_T42 l0 x10_1).f0).length : Int)
         ·
          rw [if_pos c10] at H
          have c10b0 := eq_true c10
          have c10b1 : decide (1 ≤ (((rd_T42 l0 x10_1).f0).length : Int)) = true := zR c10; clear c10
          obtain ⟨y306, hy306⟩ : ∃ y_ : List Int, y_ = (((rd_T42 l0 x10_1).f0).drop 1) := ⟨_, rfl⟩
          replace H : (if 1 ≤ (((rd_T42 l0 x10_1).f1).length : Int) then (if x5_1.length < 2932031007402 then (impl_section.l0 k1 a1 (x5_1 ++ [(⟨y306, (((rd_T42 l0 x10_1).f1).drop 1)⟩ : S42)]) l0 (l0.length : Int) (wrap64 (x10_1 + 1))) else (none)) else (none)) = some r := by first | (rw [hy306]; with_reducible exact H) | (have H2_ := (Option.bind_some _ _).symm.trans H; rw [hy306]; with_reducible exact H2_) | (have H2_ := (Option.bind_some _ _).symm.trans H; with_reducible exact H2_) | with_reducible exact H | (rw [hy306]; exact H) | exact H
          have Ny306 := yD hy306
          clear hy306
          by_cases c11 : 1 ≤ (((rd_T42 l0 x10_1).f1).length : Int)
          ·
           rw [if_pos c11] at H
           have c11b0 := eq_true c11
           have c11b1 : decide (1 ≤ (((rd_T42 l0 x10_1).f1).length : Int)) = true := zR c11; clear c11
           obtain ⟨y311, hy311⟩ : ∃ y_ : List Int, y_ = (((rd_T42 l0 x10_1).f1).drop 1) := ⟨_, rfl⟩
           replace H : (if x5_1.length < 2932031007402 then (impl_section.l0 k1 a1 (x5_1 ++ [(⟨y306, y311⟩ : S42)]) l0 (l0.length : Int) (wrap64 (x10_1 + 1))) else (none)) = some r := by first | (rw [hy311]; with_reducible exact H) | (have H2_ := (Option.bind_some _ _).symm.trans H; rw [hy311]; with_reducible exact H2_) | (have H2_ := (Option.bind_some _ _).symm.trans H; with_reducible exact H2_) | with_reducible exact H | (rw [hy311]; exact H) | exact H
           have Ny311 := yD hy311
           clear hy311
           by_cases c12 : x5_1.length < 2932031007402
           ·
            rw [if_pos c12] at H
            have LMc12 := yD c12
            clear c12
            obtain ⟨y316, hy316⟩ : ∃ y_ : List (S42), y_ = (x5_1 ++ [(⟨y306, y311⟩ : S42)]) := ⟨_, rfl⟩
            replace H : (impl_section.l0 k1 a1 y316 l0 (l0.length : Int) (wrap64 (x10_1 + 1))) = some r := by first | (rw [hy316]; with_reducible exact H) | (have H2_ := (Option.bind_some _ _).symm.trans H; rw [hy316]; with_reducible exact H2_) | (have H2_ := (Option.bind_some _ _).symm.trans H; with_reducible exact H2_) | with_reducible exact H | (rw [hy316]; exact H) | exact H
            have Ny316 := yD hy316
            clear hy316
            have H' := yD H
            clear H
            have p301 : 0 ≤ (x10_1 : Int) := zP (by assumption)
            have q301 : x10_1 < (l0.length : Int) := zP (by assumption)
            obtain ⟨ad301, A301_0, c301_0, A301_1, c301_1, e301, hx301_0, hx301_1, hl301_0, hi301_0, hl301_1, hi301_1⟩ := at_T42 (Kd.V_reads' HO_8.out).2.2 x10_1 p301 q301
            cases e301
            obtain ⟨ce301, hce301, hMe301, hcc301⟩ := Kd.V_get HO_8.out z42 x10_1 p301 (by first | exact q301 | exact zP (by assumption) | (have e_ := (Kd.V_reads' HO_8.out).1; omega))
            obtain ⟨ua301_0, uc301_0, ua301_1, uc301_1, rfl, ul301_0, ge301_0, ul301_1, ge301_1⟩ := k42_openF hMe301
            have hv301_0 := hcc301 0 _ rfl
            rw [Nat.add_zero] at hv301_0
            replace hv301_0 := Option.some.inj (hv301_0.symm.trans hx301_0)
            injection hv301_0 with hva_ hvn_ hvc_
            rw [hva_] at ge301_0
            rw [hvc_] at ul301_0
            have HL301_0 := yD (show Kd.V (Kd.int .i64) 2 _ w.heap.size _ _ ((rd_T42 l0 x10_1).f0) from Kd.V_mk ul301_0 ge301_0)
            clear hva_ hvn_ hvc_ ge301_0 ul301_0
            have hv301_1 := hcc301 1 _ rfl
            rw [add_field _ _ 1 (by omega)] at hv301_1
            replace hv301_1 := Option.some.inj (hv301_1.symm.trans hx301_1)
            injection hv301_1 with hva_ hvn_ hvc_
            rw [hva_] at ge301_1
            rw [hvc_] at ul301_1
            have HL301_1 := yD (show Kd.V (Kd.int .i64) 2 _ w.heap.size _ _ ((rd_T42 l0 x10_1).f1) from Kd.V_mk ul301_1 ge301_1)
            clear hva_ hvn_ hvc_ ge301_1 ul301_1 hcc301 hce301
            have HR301_0 := yD hi301_0
            have HC301_0 := yD hl301_0
            clear hi301_0 hl301_0
            have HR301_1 := yD hi301_1
            have HC301_1 := yD hl301_1
            clear hi301_1 hl301_1; replace p301 := eq_true p301; replace q301 := eq_true q301
            try go_wp2_with (first | ((with_reducible refine gate_dst (N := 7) rfl ?_); refine box_event ?hg (N := 7) ?hd (cs := #[.slice none 0 0, .slice none 0 0]) (t := 42) ?hr ?_; (case hd => rfl); (case hg => rfl); (case hr => first | (go_simp; done) | (go_simp; rfl)); intro gb302 hg w13 hbox hb; replace HO_5 := yD (Kd.N_below (Kd.N_elderB (kQ HO_5) gb302 (Nat.le_of_eq hg.symm)) hb); replace HO_8 := yD (Kd.V_below (Kd.V_elderB (kU HO_8) gb302 (Nat.le_of_eq hg.symm)) hb); replace HL301_0 := yD (Kd.V_below (Kd.V_elderB (kU HL301_0) gb302 (Nat.le_of_eq hg.symm)) hb); replace HL301_1 := yD (Kd.V_below (Kd.V_elderB (kU HL301_1) gb302 (Nat.le_of_eq hg.symm)) hb); replace HR301_0 := yD (yY (by repeat (first | (with_reducible exact HR301_0.out) | (with_reducible first | refine yV ?_ _ | refine yW ?_ _ | refine yX ?_) | exact HR301_0.out)) hb); replace HR301_1 := yD (yY (by repeat (first | (with_reducible exact HR301_1.out) | (with_reducible first | refine yV ?_ _ | refine yW ?_ _ | refine yX ?_) | exact HR301_1.out)) hb); have BK302 := yD (hbox); have GW302 := yD ((by rw [hg]; exact (below_size (kB HB)) : w.heap.size ≤ gb302)); have GE302 := yD ((by rw [hg]; exact (below_size (kB HB)) : w.heap.size ≤ gb302)); replace HB := yD (zC (kB HB) hb); clear hb hbox hg; obtain ⟨hcz14_0, hcz14_1⟩ := cz2 BK302.out; obtain ⟨hfz14_0, hfz14_1⟩ := fz2 BK302.out))
            have n0_ : Aside0 (Kd.N k42 42 ((w13.setCell ⟨gb302, 0, none⟩ (.slice A301_0 ((rd_T42 l0 x10_1).f0).length c301_0)).setCell ⟨gb302, 1, none⟩ (.slice A301_1 ((rd_T42 l0 x10_1).f1).length c301_1)) w.heap.size (fun k_ => (P0_ k_ ∨ w.heap.size ≤ k_) ∧ k_ ≠ gb302) u5 x5_1) := ⟨by (with_reducible repeat (first | apply Kd.N_alloc | apply Kd.N_drewN | apply Kd.N_drew)); exact Kd.N_mono (Kd.N_far (p := ⟨gb302, 1, none⟩) (Kd.N_far (p := ⟨gb302, 0, none⟩) (Kd.N_mono HO_5.out (fun k_ hk => (⟨hk, hk.2⟩ : _ ∧ k_ ≠ gb302))) (fun _ hk => hk.2) (.slice A301_0 ((rd_T42 l0 x10_1).f0).length c301_0)) (fun _ hk => hk.2) (.slice A301_1 ((rd_T42 l0 x10_1).f1).length c301_1)) (fun _ hk => ⟨hk.1.1, hk.1.2⟩)⟩
            have n1_ : Aside0 (Kd.V k42 42 ((w13.setCell ⟨gb302, 0, none⟩ (.slice A301_0 ((rd_T42 l0 x10_1).f0).length c301_0)).setCell ⟨gb302, 1, none⟩ (.slice A301_1 ((rd_T42 l0 x10_1).f1).length c301_1)) w.heap.size (fun k_ => (P0_ k_ ∨ w.heap.size ≤ k_) ∧ oB u5 k_ ∧ k_ ≠ gb302) (.slice (some ad301) l0.length c0) l0) := ⟨by (with_reducible repeat (first | apply Kd.V_alloc | apply Kd.V_drewN | apply Kd.V_drew)); exact Kd.V_mono (Kd.V_far (p := ⟨gb302, 1, none⟩) (Kd.V_far (p := ⟨gb302, 0, none⟩) (Kd.V_mono HO_8.out (fun k_ hk => (⟨hk, hk.2⟩ : _ ∧ k_ ≠ gb302))) (fun _ hk => hk.2) (.slice A301_0 ((rd_T42 l0 x10_1).f0).length c301_0)) (fun _ hk => hk.2) (.slice A301_1 ((rd_T42 l0 x10_1).f1).length c301_1)) (fun _ hk => ⟨hk.1.1.1, ⟨hk.1.1.2, hk.1.2⟩⟩)⟩
            have n2_ : Aside0 (Kd.V (Kd.int .i64) 2 ((w13.setCell ⟨gb302, 0, none⟩ (.slice A301_0 ((rd_T42 l0 x10_1).f0).length c301_0)).setCell ⟨gb302, 1, none⟩ (.slice A301_1 ((rd_T42 l0 x10_1).f1).length c301_1)) w.heap.size (fun k_ => (P0_ k_ ∨ w.heap.size ≤ k_) ∧ oB u5 k_ ∧ k_ ≠ gb302) (.slice A301_0 ((rd_T42 l0 x10_1).f0).length c301_0) ((rd_T42 l0 x10_1).f0)) := ⟨by (with_reducible repeat (first | apply Kd.V_alloc | apply Kd.V_drewN | apply Kd.V_drew)); exact Kd.V_mono (Kd.V_far (p := ⟨gb302, 1, none⟩) (Kd.V_far (p := ⟨gb302, 0, none⟩) (Kd.V_mono HL301_0.out (fun k_ hk => (⟨hk, hk.2⟩ : _ ∧ k_ ≠ gb302))) (fun _ hk => hk.2) (.slice A301_0 ((rd_T42 l0 x10_1).f0).length c301_0)) (fun _ hk => hk.2) (.slice A301_1 ((rd_T42 l0 x10_1).f1).length c301_1)) (fun _ hk => ⟨hk.1.1.1, ⟨hk.1.1.2, hk.1.2⟩⟩)⟩
            have n3_ : Aside0 (Kd.V (Kd.int .i64) 2 ((w13.setCell ⟨gb302, 0, none⟩ (.slice A301_0 ((rd_T42 l0 x10_1).f0).length c301_0)).setCell ⟨gb302, 1, none⟩ (.slice A301_1 ((rd_T42 l0 x10_1).f1).length c301_1)) w.heap.size (fun k_ => (P0_ k_ ∨ w.heap.size ≤ k_) ∧ oB u5 k_ ∧ k_ ≠ gb302) (.slice A301_1 ((rd_T42 l0 x10_1).f1).length c301_1) ((rd_T42 l0 x10_1).f1)) := ⟨by (with_reducible repeat (first | apply Kd.V_alloc | apply Kd.V_drewN | apply Kd.V_drew)); exact Kd.V_mono (Kd.V_far (p := ⟨gb302, 1, none⟩) (Kd.V_far (p := ⟨gb302, 0, none⟩) (Kd.V_mono HL301_1.out (fun k_ hk => (⟨hk, hk.2⟩ : _ ∧ k_ ≠ gb302))) (fun _ hk => hk.2) (.slice A301_0 ((rd_T42 l0 x10_1).f0).length c301_0)) (fun _ hk => hk.2) (.slice A301_1 ((rd_T42 l0 x10_1).f1).length c301_1)) (fun _ hk => ⟨hk.1.1.1, ⟨hk.1.1.2, hk.1.2⟩⟩)⟩
            have n4_ : Aside0 (((w13.setCell ⟨gb302, 0, none⟩ (.slice A301_0 ((rd_T42 l0 x10_1).f0).length c301_0)).setCell ⟨gb302, 1, none⟩ (.slice A301_1 ((rd_T42 l0 x10_1).f1).length c301_1)).heap[gb302]? = some (.cells #[.slice A301_0 ((rd_T42 l0 x10_1).f0).length c301_0, .slice A301_1 ((rd_T42 l0 x10_1).f1).length c301_1] 42 (0, 0))) := ⟨by (with_reducible repeat (first | refine yM ?_ _ | refine yO ?_ | refine yN ?_ _)); refine blk_put (cs := #[.slice A301_0 ((rd_T42 l0 x10_1).f0).length c301_0, .slice none 0 0]) ?_ 1 _ rfl; (with_reducible repeat (first | refine yM ?_ _ | refine yO ?_ | refine yN ?_ _)); refine blk_put (cs := #[.slice none 0 0, .slice none 0 0]) ?_ 0 _ rfl; (with_reducible repeat (first | refine yM ?_ _ | refine yO ?_ | refine yN ?_ _)); exact BK302.out⟩
            have n5_ : Aside0 (Below w.heap.size w ((w13.setCell ⟨gb302, 0, none⟩ (.slice A301_0 ((rd_T42 l0 x10_1).f0).length c301_0)).setCell ⟨gb302, 1, none⟩ (.slice A301_1 ((rd_T42 l0 x10_1).f1).length c301_1))) := ⟨kR0 HB⟩
            (try clear HO_5); (try clear HO_8); (try clear HL301_0); (try clear HL301_1); (try clear BK302); (try clear HB)
            generalize ((w13.setCell ⟨gb302, 0, none⟩ (.slice A301_0 ((rd_T42 l0 x10_1).f0).length c301_0)).setCell ⟨gb302, 1, none⟩ (.slice A301_1 ((rd_T42 l0 x10_1).f1).length c301_1)) = w15 at n0_ n1_ n2_ n3_ n4_ n5_ ⊢
            have HO_5 := n0_; have HO_8 := n1_; have HL301_0 := n2_; have HL301_1 := n3_; have BK302 := n4_; have HB := n5_; clear n0_ n1_ n2_ n3_ n4_ n5_
            have n0_ := yD (Kd.N_drew HO_5.out)
            have n1_ := yD (Kd.V_drew HO_8.out)
            have n2_ := yD (Kd.V_drew HL301_0.out)
            have n3_ := yD (Kd.V_drew HL301_1.out)
            have n4_ := yD (yO BK302.out)
            have n5_ := yD (yP HB.out)
            clear HO_5 HO_8 HL301_0 HL301_1 BK302 HB; have HO_5 := n0_; have HO_8 := n1_; have HL301_0 := n2_; have HL301_1 := n3_; have BK302 := n4_; have HB := n5_; clear n0_ n1_ n2_ n3_ n4_ n5_
            have p303 : 0 ≤ (0 : Int) := (by omega)
            have q303 : 0 < (((rd_T42 l0 x10_1).f0).length : Int) := zP (by assumption)
            obtain ⟨ad303, e303, hx303_0⟩ := Kd.at_int ((Kd.V_reads' HL301_0.out).2.2) 0 p303 q303
            cases e303
            have qi303 : (0 < ((rd_T42 l0 x10_1).f0).length) = True := eq_true (by omega)
            (try rw [show ((0 : Int)).toNat = 0 from rfl] at hx303_0)
            (try rw [Addr.add_zero'] at hx303_0)
            replace p303 := eq_true p303; replace q303 := eq_true q303
            have p304 : 0 ≤ (0 : Int) := (by omega)
            have q304 : 0 < (((rd_T42 l0 x10_1).f1).length : Int) := zP (by assumption)
            obtain ⟨ad304, e304, hx304_0⟩ := Kd.at_int ((Kd.V_reads' HL301_1.out).2.2) 0 p304 q304
            cases e304
            have qi304 : (0 < ((rd_T42 l0 x10_1).f1).length) = True := eq_true (by omega)
            (try rw [show ((0 : Int)).toNat = 0 from rfl] at hx304_0)
            (try rw [Addr.add_zero'] at hx304_0)
            replace p304 := eq_true p304; replace q304 := eq_true q304
            refine start_ (n := 11) (S := fun w' => w'.cell? ⟨gb302, 0, none⟩ = some (.slice (some ad303) ((rd_T42 l0 x10_1).f0).length c301_0) ∧ w'.cell? ⟨gb302, 1, none⟩ = some (.slice (some ad304) ((rd_T42 l0 x10_1).f1).length c301_1) ∧ w'.cell? ad303 = some (.int .i64 (rd ((rd_T42 l0 x10_1).f0) 0)) ∧ w'.cell? ad304 = some (.int .i64 (rd ((rd_T42 l0 x10_1).f1) 0))) (ds := []) (bz 11 0) (by kernel_rfl) rfl rfl ⟨(yG BK302.out 0).trans rfl, (yG BK302.out 1).trans rfl, hx303_0, hx304_0⟩ (fun hHeld => ?_); refine with_tabW impl_section.tab5 impl_section.bits5 (fun HT_ HW_ => ?_)
            generalize w15.drew = w16 at HO_5 HO_8 HL301_0 HL301_1 BK302 HB hx303_0 hx304_0 hHeld ⊢
            refine qA 0 14 (bz 11 1) HT_ ?_
            refine qA 1 15 (bz 11 3) HT_ ?_
            refine qA 5 19 (bz 11 35) HT_ ?_
            refine qC 2 16 (bz 11 39) HT_ HW_ hHeld ?_ (hy := by rintro w' ⟨s0, s1, s2, s3⟩; go_simp; with_reducible rfl)
            refine qA 3 17 (bz 11 47) HT_ ?_
            refine qC 4 18 (bz 11 63) HT_ HW_ hHeld ?_ (hy := by rintro w' ⟨s0, s1, s2, s3⟩; go_simp; with_reducible rfl)
            refine qC 6 20 (bz 11 127) HT_ HW_ hHeld ?_ (hy := by rintro w' ⟨s0, s1, s2, s3⟩; go_simp; with_reducible rfl)
            refine qA 7 21 (bz 11 255) HT_ ?_
            refine qC 8 22 (bz 11 511) HT_ HW_ hHeld ?_ (hy := by rintro w' ⟨s0, s1, s2, s3⟩; go_simp; with_reducible rfl)
            refine qA 9 23 (bz 11 1023) HT_ ?_
            refine one_ (i := 10) (N := some 24) (bz 11 2047) rfl rfl (one_of HT_.out (by kernel_rfl)) (by decide) (fun K hK => ?_)
            refine goes_ Try.func106 (by kernel_rfl) rfl #[.int .i64 a1, .int .i64 (rd ((rd_T42 l0 x10_1).f0) 0), .int .i64 (wrap64 ((rd ((rd_T42 l0 x10_1).f1) 0) - 1))] (by rfl) rfl rfl (by (try simp only [zK, zL, zM]); first | done | rfl | (simp only [zN, zO]; rfl)) ?_
            with_reducible refine (impl_within.calls a1 (rd ((rd_T42 l0 x10_1).f0) 0) (wrap64 ((rd ((rd_T42 l0 x10_1).f1) 0) - 1)) true _ A8.out).mono ?_
            rintro e w' ⟨rfl, ⟨nd, rfl⟩⟩
            refine ⟨_, rfl, ?_⟩
            refine hK.out _ _ ⟨(yG BK302.out 0).trans rfl, (yG BK302.out 1).trans rfl, hHeld.2.2.1, hHeld.2.2.2⟩ (fun hHeld => ?_)
            clear hK K
            refine norm_ (a' := ?_) ?_ ?_
            rotate_left
            · show Act.put _ (some 24) _ = _
              simp only [Act.put, zH, zI, zJ, i64_w, i32_w]
              rfl
            refine done_ (done_of HT_.out (by kernel_rfl)) ?_
            try go_wp2
            (try (rw [drewN_self w16]; generalize hq_ : World.drewN w16 _ = w16; have n0_ : Aside0 (Kd.V (Kd.int .i64) 2 w16 w.heap.size (fun k_ => (P0_ k_ ∨ w.heap.size ≤ k_) ∧ oB u5 k_ ∧ k_ ≠ gb302) (.slice (some ad303) ((rd_T42 l0 x10_1).f0).length c301_0) ((rd_T42 l0 x10_1).f0)) := ⟨by rw [← hq_]; exact (kU HL301_0)⟩; have n1_ : Aside0 (Kd.V (Kd.int .i64) 2 w16 w.heap.size (fun k_ => (P0_ k_ ∨ w.heap.size ≤ k_) ∧ oB u5 k_ ∧ k_ ≠ gb302) (.slice (some ad304) ((rd_T42 l0 x10_1).f1).length c301_1) ((rd_T42 l0 x10_1).f1)) := ⟨by rw [← hq_]; exact (kU HL301_1)⟩; have n2_ : Aside0 (Kd.N k42 42 w16 w.heap.size (fun k_ => (P0_ k_ ∨ w.heap.size ≤ k_) ∧ k_ ≠ gb302) u5 x5_1) := ⟨by rw [← hq_]; exact (kQ HO_5)⟩; have n3_ : Aside0 (Kd.V k42 42 w16 w.heap.size (fun k_ => (P0_ k_ ∨ w.heap.size ≤ k_) ∧ oB u5 k_ ∧ k_ ≠ gb302) (.slice (some ad301) l0.length c0) l0) := ⟨by rw [← hq_]; exact (kU HO_8)⟩; have n4_ : Aside0 (w16.heap[gb302]? = some (.cells #[.slice (some ad303) ((rd_T42 l0 x10_1).f0).length c301_0, .slice (some ad304) ((rd_T42 l0 x10_1).f1).length c301_1] 42 (0, 0))) := ⟨by rw [← hq_]; exact (kM BK302)⟩; have n5_ : Aside0 (Below w.heap.size w w16) := ⟨by rw [← hq_]; exact (kB HB)⟩; clear HL301_0 HL301_1 HO_5 HO_8 BK302 HB hq_; have HL301_0 := n0_; have HL301_1 := n1_; have HO_5 := n2_; have HO_8 := n3_; have BK302 := n4_; have HB := n5_; clear n0_ n1_ n2_ n3_ n4_ n5_))
            have n0_ := yD (Kd.N_drew HO_5.out)
            have n1_ := yD (Kd.V_drew HO_8.out)
            have n2_ := yD (Kd.V_drew HL301_0.out)
            have n3_ := yD (Kd.V_drew HL301_1.out)
            have n4_ := yD (yO BK302.out)
            have n5_ := yD (yP HB.out)
            clear HO_5 HO_8 HL301_0 HL301_1 BK302 HB; have HO_5 := n0_; have HO_8 := n1_; have HL301_0 := n2_; have HL301_1 := n3_; have BK302 := n4_; have HB := n5_; clear n0_ n1_ n2_ n3_ n4_ n5_
            have q18 : (1 : Int) ≤ ((((rd_T42 l0 x10_1).f0).length : Int) : Int) := zP (by assumption)
            obtain ⟨i018, hi018, _, hsz18, _⟩ := info_parts info2
            have hroom18 : ((rd_T42 l0 x10_1).f0).length ≤ c301_0 := HC301_0.out
            have hC18 : Kd.F (Kd.int .i64) _ _ (some ad303) ((rd_T42 l0 x10_1).f0).length ((rd_T42 l0 x10_1).f0) := (Kd.V_at (base := w.heap.size) HL301_0.out).2.2
            have hcut18 := cut_from (P := Try.prog) 36 2 .i64 Try.underlying36 hi018 1 hsz18 (some ad303) ((rd_T42 l0 x10_1).f0).length c301_0 1 (by omega) q18
            have hr18 := Kd.F_cut (m := (1 : Int).toNat) (c := c301_0) hC18 (by omega) hroom18
            obtain ⟨A18, hA18⟩ : ∃ A1, A1 = (if c301_0 = (1 : Int).toNat then (some ad303) else ((some ad303) : Option Addr).map (·.add ((1 : Int).toNat * 1))) := ⟨_, rfl⟩
            obtain ⟨c18, hc18⟩ : ∃ c1, c1 = c301_0 - (1 : Int).toNat := ⟨_, rfl⟩
            have hy18 : y306.length = ((rd_T42 l0 x10_1).f0).length - (1 : Int).toNat := (by rw [Ny306.out, zN] <;> omega)
            rw [show ((rd_T42 l0 x10_1).f0).drop (1 : Int).toNat = y306 from Ny306.out.symm] at hr18
            replace hr18 : Kd.F (Kd.int .i64) _ _ A18 y306.length y306 := (by rw [hA18]; exact hr18)
            rw [← hy18, ← hA18, ← hc18] at hcut18
            have HO310 := yD (show Kd.V (Kd.int .i64) 2 _ w.heap.size _ (.slice A18 y306.length c18) y306 from Kd.V_mk (by rw [hy18, hc18]; exact Nat.sub_le_sub_right hroom18 _) hr18)
            have HC310 := yD (show y306.length ≤ c18 from by rw [hy18, hc18]; exact Nat.sub_le_sub_right hroom18 _)
            clear hr18 hC18 hroom18 hi018 hsz18 hc18
            have KY18 := yD hy18
            have KA18 := yD hA18
            clear hy18 hA18; replace q18 := eq_true q18
            have q19 : (1 : Int) ≤ ((((rd_T42 l0 x10_1).f1).length : Int) : Int) := zP (by assumption)
            obtain ⟨i019, hi019, _, hsz19, _⟩ := info_parts info2
            have hroom19 : ((rd_T42 l0 x10_1).f1).length ≤ c301_1 := HC301_1.out
            have hC19 : Kd.F (Kd.int .i64) _ _ (some ad304) ((rd_T42 l0 x10_1).f1).length ((rd_T42 l0 x10_1).f1) := (Kd.V_at (base := w.heap.size) HL301_1.out).2.2
            have hcut19 := cut_from (P := Try.prog) 36 2 .i64 Try.underlying36 hi019 1 hsz19 (some ad304) ((rd_T42 l0 x10_1).f1).length c301_1 1 (by omega) q19
            have hr19 := Kd.F_cut (m := (1 : Int).toNat) (c := c301_1) hC19 (by omega) hroom19
            obtain ⟨A19, hA19⟩ : ∃ A1, A1 = (if c301_1 = (1 : Int).toNat then (some ad304) else ((some ad304) : Option Addr).map (·.add ((1 : Int).toNat * 1))) := ⟨_, rfl⟩
            obtain ⟨c19, hc19⟩ : ∃ c1, c1 = c301_1 - (1 : Int).toNat := ⟨_, rfl⟩
            have hy19 : y311.length = ((rd_T42 l0 x10_1).f1).length - (1 : Int).toNat := (by rw [Ny311.out, zN] <;> omega)
            rw [show ((rd_T42 l0 x10_1).f1).drop (1 : Int).toNat = y311 from Ny311.out.symm] at hr19
            replace hr19 : Kd.F (Kd.int .i64) _ _ A19 y311.length y311 := (by rw [hA19]; exact hr19)
            rw [← hy19, ← hA19, ← hc19] at hcut19
            have HO315 := yD (show Kd.V (Kd.int .i64) 2 _ w.heap.size _ (.slice A19 y311.length c19) y311 from Kd.V_mk (by rw [hy19, hc19]; exact Nat.sub_le_sub_right hroom19 _) hr19)
            have HC315 := yD (show y311.length ≤ c19 from by rw [hy19, hc19]; exact Nat.sub_le_sub_right hroom19 _)
            clear hr19 hC19 hroom19 hi019 hsz19 hc19
            have KY19 := yD hy19
            have KA19 := yD hA19
            clear hy19 hA19; replace q19 := eq_true q19
            refine start_ (n := 11) (S := fun w' => w'.cell? ⟨gb302, 0, none⟩ = some (.slice (some ad303) ((rd_T42 l0 x10_1).f0).length c301_0) ∧ w'.cell? ⟨gb302, 1, none⟩ = some (.slice (some ad304) ((rd_T42 l0 x10_1).f1).length c301_1)) (ds := []) (bz 11 0) (by kernel_rfl) rfl rfl ⟨(yG BK302.out 0).trans rfl, (yG BK302.out 1).trans rfl⟩ (fun hHeld => ?_); refine with_tabW impl_section.tab6 impl_section.bits6 (fun HT_ HW_ => ?_)
            generalize w16.drew = w17 at HO_5 HO_8 HL301_0 HL301_1 BK302 HB HO310 HO315 hHeld ⊢
            refine qA 0 25 (bz 11 1) HT_ ?_
            refine qA 1 26 (bz 11 3) HT_ ?_
            refine qA 4 29 (bz 11 19) HT_ ?_
            refine qC 2 27 (bz 11 23) HT_ HW_ hHeld ?_ (hy := by rintro w' ⟨s0, s1⟩; go_simp; with_reducible rfl)
            refine qA 3 28 (bz 11 31) HT_ ?_
            refine qC 5 30 (bz 11 63) HT_ HW_ hHeld ?_ (hy := by rintro w' ⟨s0, s1⟩; go_simp; with_reducible rfl)
            refine qA 6 31 (bz 11 127) HT_ ?_
            refine qA 7 32 (bz 11 255) HT_ ?_
            refine one_ (i := 8) (N := some 33) (bz 11 511) rfl rfl (one_of HT_.out (by kernel_rfl)) (by decide) (fun K hK => ?_)
            refine value_ (w1 := ?_) (v := ?_) (by rfl) rfl ?_ ?_
            rotate_left 2
            · go_simp
              constructor
              · rfl
              · rfl
            refine hK.out _ _ ⟨(yG (yN BK302.out _) 0).trans rfl, (yG (yN BK302.out _) 1).trans rfl⟩ (fun hHeld => ?_)
            clear hK K
            refine norm_ (a' := ?_) ?_ ?_
            rotate_left
            · show Act.put _ (some 33) _ = _
              simp only [Act.put, zH, zI, zJ, i64_w, i32_w]
              rfl
            refine one_ (i := 9) (N := some 34) (bz 11 1023) rfl rfl (one_of HT_.out (by kernel_rfl)) (by decide) (fun K hK => ?_)
            refine Kd.N_append_step k42 (w0 := w) w.heap.size (by rfl) (.tmp 25) (.tmp 33) 24 42 (.agg #[(.slice none 0 0), (.slice none 0 0)]) 48 rfl Try.underlying24 info42 rfl (by decide) (by omega) u5 x5_1 (⟨y306, y311⟩ : S42) [.slice A18 y306.length c18, .slice A19 y311.length c19] (fun k_ => (P0_ k_ ∨ w.heap.size ≤ k_) ∧ k_ ≠ gb302) (fun k_ => ((fun k_ => (P0_ k_ ∨ w.heap.size ≤ k_) ∧ k_ ≠ gb302)) k_ ∧ oB u5 k_) rfl rfl ?aP (fun _ hk => hk) ?aF ?aO ?aB ?aS ?aL ?_
            (case aP => exact (k42_mkF _ _ (⟨y306, y311⟩ : S42) (Kd.V_reads' (Kd.V_mono (ok' := (fun k_ => ((fun k_ => (P0_ k_ ∨ w.heap.size ≤ k_) ∧ k_ ≠ gb302)) k_ ∧ oB u5 k_)) (HO310.out) (fun k_ hk => ⟨⟨hk.1, hk.2.2⟩, hk.2.1⟩))).2.1 (Kd.V_F (Kd.V_mono (ok' := (fun k_ => ((fun k_ => (P0_ k_ ∨ w.heap.size ≤ k_) ∧ k_ ≠ gb302)) k_ ∧ oB u5 k_)) (HO310.out) (fun k_ hk => ⟨⟨hk.1, hk.2.2⟩, hk.2.1⟩))) (Kd.V_reads' (Kd.V_mono (ok' := (fun k_ => ((fun k_ => (P0_ k_ ∨ w.heap.size ≤ k_) ∧ k_ ≠ gb302)) k_ ∧ oB u5 k_)) (HO315.out) (fun k_ hk => ⟨⟨hk.1, hk.2.2⟩, hk.2.1⟩))).2.1 (Kd.V_F (Kd.V_mono (ok' := (fun k_ => ((fun k_ => (P0_ k_ ∨ w.heap.size ≤ k_) ∧ k_ ≠ gb302)) k_ ∧ oB u5 k_)) (HO315.out) (fun k_ hk => ⟨⟨hk.1, hk.2.2⟩, hk.2.1⟩)))))
            (case aB => exact (kB HB))
            (case aF => exact (fun k_ hk => ⟨(.inr (Nat.le_trans (below_size (kB HB)) hk)), Kd.freshB (g := gb302) (o := .cells #[.slice (some ad303) ((rd_T42 l0 x10_1).f0).length c301_0, .slice (some ad304) ((rd_T42 l0 x10_1).f1).length c301_1] 42 (0, 0)) (kM BK302) k_ hk⟩))
            (case aO => exact (kQ HO_5))
            (case aS => exact (below_size (kB HB)))
            (case aL => have := LMc12.out; omega)
            intro v317 w20 ho hb hg hat
            rw [← Ny316.out] at ho
            have n0_ := yD (Kd.V_afterv (ok := (fun k_ => (P0_ k_ ∨ w.heap.size ≤ k_) ∧ k_ ≠ gb302)) (mV HO_8 (fun _ hk => ⟨⟨hk.1, hk.2.2⟩, hk.2.1⟩)) hg hat)
            have n1_ := yD (Kd.V_afterv (ok := (fun k_ => (P0_ k_ ∨ w.heap.size ≤ k_) ∧ k_ ≠ gb302)) (mV HL301_0 (fun _ hk => ⟨⟨hk.1, hk.2.2⟩, hk.2.1⟩)) hg hat)
            have n2_ := yD (Kd.V_afterv (ok := (fun k_ => (P0_ k_ ∨ w.heap.size ≤ k_) ∧ k_ ≠ gb302)) (mV HL301_1 (fun _ hk => ⟨⟨hk.1, hk.2.2⟩, hk.2.1⟩)) hg hat)
            have n3_ := yD (blk_grown (g := gb302) (o := .cells #[.slice (some ad303) ((rd_T42 l0 x10_1).f0).length c301_0, .slice (some ad304) ((rd_T42 l0 x10_1).f1).length c301_1] 42 (0, 0)) (kM BK302) hg (Kd.N_away HO_5.out (fun _ hk => hk.2)))
            have n4_ := yD (Kd.V_afterv (ok := (fun k_ => (P0_ k_ ∨ w.heap.size ≤ k_) ∧ k_ ≠ gb302)) (mV HO310 (fun _ hk => ⟨⟨hk.1, hk.2.2⟩, hk.2.1⟩)) hg hat)
            have n5_ := yD (Kd.V_afterv (ok := (fun k_ => (P0_ k_ ∨ w.heap.size ≤ k_) ∧ k_ ≠ gb302)) (mV HO315 (fun _ hk => ⟨⟨hk.1, hk.2.2⟩, hk.2.1⟩)) hg hat)
            have n6_ := yD (hb)
            have n7_ := yD (ho)
            clear HO_8 HL301_0 HL301_1 BK302 HO310 HO315 HB HO_5; have HO_8 := n0_; have HL301_0 := n1_; have HL301_1 := n2_; have BK302 := n3_; have HO310 := n4_; have HO315 := n5_; have HB := n6_; have HO318 := n7_; clear n0_ n1_ n2_ n3_ n4_ n5_ n6_ n7_ ho hb hg hat
            refine hK.out _ _ ⟨(yG BK302.out 0).trans rfl, (yG BK302.out 1).trans rfl⟩ (fun hHeld => ?_)
            clear hK K
            refine norm_ (a' := ?_) ?_ ?_
            rotate_left
            · show Act.put _ (some 34) _ = _
              simp only [Act.put, zH, zI, zJ, i64_w, i32_w]
              rfl
            refine qA 10 5 (bz 11 2047) HT_ ?_
            refine done_ (done_of HT_.out (by kernel_rfl)) ?_
            try go_wp2
            go_roundg k1
            case measure => have := HK1.out; omega
            case rel => exact ⟨(y316), (wrap64 (x10_1 + 1)), (by first | rfl | (simp; done) | (simp [*]; done)), H', ⟨by have := HK1.out; omega⟩, ⟨mN HO318 (fun _ hk => hk.1)⟩, ⟨mV HO_8 (fun _ hk => ⟨hk.1.1, hk.2⟩)⟩, ⟨kR0 HB⟩⟩
           · rw [if_neg c12] at H
             exact absurd H (by simp)
          · rw [if_neg c11] at H
            exact absurd H (by simp)
         · rw [if_neg c10] at H
           exact absurd H (by simp)
        ·
         replace c9 := Bool.eq_false_iff.mpr c9
         subst c9
         replace H : (impl_section.l0 k1 a1 x5_1 l0 (l0.length : Int) (wrap64 (x10_1 + 1))) = some r := (by rw [if_neg (show ¬ (false = true) by decide)] at H; exact H)
         have H' := yD H
         clear H
         have p301 : 0 ≤ (x10_1 : Int) := zP (by assumption)
         have q301 : x10_1 < (l0.length : Int) := zP (by assumption)
         obtain ⟨ad301, A301_0, c301_0, A301_1, c301_1, e301, hx301_0, hx301_1, hl301_0, hi301_0, hl301_1, hi301_1⟩ := at_T42 (Kd.V_reads' HO_8.out).2.2 x10_1 p301 q301
         cases e301
         obtain ⟨ce301, hce301, hMe301, hcc301⟩ := Kd.V_get HO_8.out z42 x10_1 p301 (by first | exact q301 | exact zP (by assumption) | (have e_ := (Kd.V_reads' HO_8.out).1; omega))
         obtain ⟨ua301_0, uc301_0, ua301_1, uc301_1, rfl, ul301_0, ge301_0, ul301_1, ge301_1⟩ := k42_openF hMe301
         have hv301_0 := hcc301 0 _ rfl
         rw [Nat.add_zero] at hv301_0
         replace hv301_0 := Option.some.inj (hv301_0.symm.trans hx301_0)
         injection hv301_0 with hva_ hvn_ hvc_
         rw [hva_] at ge301_0
         rw [hvc_] at ul301_0
         have HL301_0 := yD (show Kd.V (Kd.int .i64) 2 _ w.heap.size _ _ ((rd_T42 l0 x10_1).f0) from Kd.V_mk ul301_0 ge301_0)
         clear hva_ hvn_ hvc_ ge301_0 ul301_0
         have hv301_1 := hcc301 1 _ rfl
         rw [add_field _ _ 1 (by omega)] at hv301_1
         replace hv301_1 := Option.some.inj (hv301_1.symm.trans hx301_1)
         injection hv301_1 with hva_ hvn_ hvc_
         rw [hva_] at ge301_1
         rw [hvc_] at ul301_1
         have HL301_1 := yD (show Kd.V (Kd.int .i64) 2 _ w.heap.size _ _ ((rd_T42 l0 x10_1).f1) from Kd.V_mk ul301_1 ge301_1)
         clear hva_ hvn_ hvc_ ge301_1 ul301_1 hcc301 hce301
         have HR301_0 := yD hi301_0
         have HC301_0 := yD hl301_0
         clear hi301_0 hl301_0
         have HR301_1 := yD hi301_1
         have HC301_1 := yD hl301_1
         clear hi301_1 hl301_1; replace p301 := eq_true p301; replace q301 := eq_true q301
         try go_wp2_with (first | ((with_reducible refine gate_dst (N := 7) rfl ?_); refine box_event ?hg (N := 7) ?hd (cs := #[.slice none 0 0, .slice none 0 0]) (t := 42) ?hr ?_; (case hd => rfl); (case hg => rfl); (case hr => first | (go_simp; done) | (go_simp; rfl)); intro gb302 hg w21 hbox hb; replace HO_5 := yD (Kd.N_below (Kd.N_elderB (kQ HO_5) gb302 (Nat.le_of_eq hg.symm)) hb); replace HO_8 := yD (Kd.V_below (Kd.V_elderB (kU HO_8) gb302 (Nat.le_of_eq hg.symm)) hb); replace HL301_0 := yD (Kd.V_below (Kd.V_elderB (kU HL301_0) gb302 (Nat.le_of_eq hg.symm)) hb); replace HL301_1 := yD (Kd.V_below (Kd.V_elderB (kU HL301_1) gb302 (Nat.le_of_eq hg.symm)) hb); replace HR301_0 := yD (yY (by repeat (first | (with_reducible exact HR301_0.out) | (with_reducible first | refine yV ?_ _ | refine yW ?_ _ | refine yX ?_) | exact HR301_0.out)) hb); replace HR301_1 := yD (yY (by repeat (first | (with_reducible exact HR301_1.out) | (with_reducible first | refine yV ?_ _ | refine yW ?_ _ | refine yX ?_) | exact HR301_1.out)) hb); have BK302 := yD (hbox); have GW302 := yD ((by rw [hg]; exact (below_size (kB HB)) : w.heap.size ≤ gb302)); have GE302 := yD ((by rw [hg]; exact (below_size (kB HB)) : w.heap.size ≤ gb302)); replace HB := yD (zC (kB HB) hb); clear hb hbox hg; obtain ⟨hcz22_0, hcz22_1⟩ := cz2 BK302.out; obtain ⟨hfz22_0, hfz22_1⟩ := fz2 BK302.out))
         have n0_ : Aside0 (Kd.N k42 42 ((w21.setCell ⟨gb302, 0, none⟩ (.slice A301_0 ((rd_T42 l0 x10_1).f0).length c301_0)).setCell ⟨gb302, 1, none⟩ (.slice A301_1 ((rd_T42 l0 x10_1).f1).length c301_1)) w.heap.size (fun k_ => (P0_ k_ ∨ w.heap.size ≤ k_) ∧ k_ ≠ gb302) u5 x5_1) := ⟨by (with_reducible repeat (first | apply Kd.N_alloc | apply Kd.N_drewN | apply Kd.N_drew)); exact Kd.N_mono (Kd.N_far (p := ⟨gb302, 1, none⟩) (Kd.N_far (p := ⟨gb302, 0, none⟩) (Kd.N_mono HO_5.out (fun k_ hk => (⟨hk, hk.2⟩ : _ ∧ k_ ≠ gb302))) (fun _ hk => hk.2) (.slice A301_0 ((rd_T42 l0 x10_1).f0).length c301_0)) (fun _ hk => hk.2) (.slice A301_1 ((rd_T42 l0 x10_1).f1).length c301_1)) (fun _ hk => ⟨hk.1.1, hk.1.2⟩)⟩
         have n1_ : Aside0 (Kd.V k42 42 ((w21.setCell ⟨gb302, 0, none⟩ (.slice A301_0 ((rd_T42 l0 x10_1).f0).length c301_0)).setCell ⟨gb302, 1, none⟩ (.slice A301_1 ((rd_T42 l0 x10_1).f1).length c301_1)) w.heap.size (fun k_ => (P0_ k_ ∨ w.heap.size ≤ k_) ∧ oB u5 k_ ∧ k_ ≠ gb302) (.slice (some ad301) l0.length c0) l0) := ⟨by (with_reducible repeat (first | apply Kd.V_alloc | apply Kd.V_drewN | apply Kd.V_drew)); exact Kd.V_mono (Kd.V_far (p := ⟨gb302, 1, none⟩) (Kd.V_far (p := ⟨gb302, 0, none⟩) (Kd.V_mono HO_8.out (fun k_ hk => (⟨hk, hk.2⟩ : _ ∧ k_ ≠ gb302))) (fun _ hk => hk.2) (.slice A301_0 ((rd_T42 l0 x10_1).f0).length c301_0)) (fun _ hk => hk.2) (.slice A301_1 ((rd_T42 l0 x10_1).f1).length c301_1)) (fun _ hk => ⟨hk.1.1.1, ⟨hk.1.1.2, hk.1.2⟩⟩)⟩
         have n2_ : Aside0 (Kd.V (Kd.int .i64) 2 ((w21.setCell ⟨gb302, 0, none⟩ (.slice A301_0 ((rd_T42 l0 x10_1).f0).length c301_0)).setCell ⟨gb302, 1, none⟩ (.slice A301_1 ((rd_T42 l0 x10_1).f1).length c301_1)) w.heap.size (fun k_ => (P0_ k_ ∨ w.heap.size ≤ k_) ∧ oB u5 k_ ∧ k_ ≠ gb302) (.slice A301_0 ((rd_T42 l0 x10_1).f0).length c301_0) ((rd_T42 l0 x10_1).f0)) := ⟨by (with_reducible repeat (first | apply Kd.V_alloc | apply Kd.V_drewN | apply Kd.V_drew)); exact Kd.V_mono (Kd.V_far (p := ⟨gb302, 1, none⟩) (Kd.V_far (p := ⟨gb302, 0, none⟩) (Kd.V_mono HL301_0.out (fun k_ hk => (⟨hk, hk.2⟩ : _ ∧ k_ ≠ gb302))) (fun _ hk => hk.2) (.slice A301_0 ((rd_T42 l0 x10_1).f0).length c301_0)) (fun _ hk => hk.2) (.slice A301_1 ((rd_T42 l0 x10_1).f1).length c301_1)) (fun _ hk => ⟨hk.1.1.1, ⟨hk.1.1.2, hk.1.2⟩⟩)⟩
         have n3_ : Aside0 (Kd.V (Kd.int .i64) 2 ((w21.setCell ⟨gb302, 0, none⟩ (.slice A301_0 ((rd_T42 l0 x10_1).f0).length c301_0)).setCell ⟨gb302, 1, none⟩ (.slice A301_1 ((rd_T42 l0 x10_1).f1).length c301_1)) w.heap.size (fun k_ => (P0_ k_ ∨ w.heap.size ≤ k_) ∧ oB u5 k_ ∧ k_ ≠ gb302) (.slice A301_1 ((rd_T42 l0 x10_1).f1).length c301_1) ((rd_T42 l0 x10_1).f1)) := ⟨by (with_reducible repeat (first | apply Kd.V_alloc | apply Kd.V_drewN | apply Kd.V_drew)); exact Kd.V_mono (Kd.V_far (p := ⟨gb302, 1, none⟩) (Kd.V_far (p := ⟨gb302, 0, none⟩) (Kd.V_mono HL301_1.out (fun k_ hk => (⟨hk, hk.2⟩ : _ ∧ k_ ≠ gb302))) (fun _ hk => hk.2) (.slice A301_0 ((rd_T42 l0 x10_1).f0).length c301_0)) (fun _ hk => hk.2) (.slice A301_1 ((rd_T42 l0 x10_1).f1).length c301_1)) (fun _ hk => ⟨hk.1.1.1, ⟨hk.1.1.2, hk.1.2⟩⟩)⟩
         have n4_ : Aside0 (((w21.setCell ⟨gb302, 0, none⟩ (.slice A301_0 ((rd_T42 l0 x10_1).f0).length c301_0)).setCell ⟨gb302, 1, none⟩ (.slice A301_1 ((rd_T42 l0 x10_1).f1).length c301_1)).heap[gb302]? = some (.cells #[.slice A301_0 ((rd_T42 l0 x10_1).f0).length c301_0, .slice A301_1 ((rd_T42 l0 x10_1).f1).length c301_1] 42 (0, 0))) := ⟨by (with_reducible repeat (first | refine yM ?_ _ | refine yO ?_ | refine yN ?_ _)); refine blk_put (cs := #[.slice A301_0 ((rd_T42 l0 x10_1).f0).length c301_0, .slice none 0 0]) ?_ 1 _ rfl; (with_reducible repeat (first | refine yM ?_ _ | refine yO ?_ | refine yN ?_ _)); refine blk_put (cs := #[.slice none 0 0, .slice none 0 0]) ?_ 0 _ rfl; (with_reducible repeat (first | refine yM ?_ _ | refine yO ?_ | refine yN ?_ _)); exact BK302.out⟩
         have n5_ : Aside0 (Below w.heap.size w ((w21.setCell ⟨gb302, 0, none⟩ (.slice A301_0 ((rd_T42 l0 x10_1).f0).length c301_0)).setCell ⟨gb302, 1, none⟩ (.slice A301_1 ((rd_T42 l0 x10_1).f1).length c301_1))) := ⟨kR0 HB⟩
         (try clear HO_5); (try clear HO_8); (try clear HL301_0); (try clear HL301_1); (try clear BK302); (try clear HB)
         generalize ((w21.setCell ⟨gb302, 0, none⟩ (.slice A301_0 ((rd_T42 l0 x10_1).f0).length c301_0)).setCell ⟨gb302, 1, none⟩ (.slice A301_1 ((rd_T42 l0 x10_1).f1).length c301_1)) = w23 at n0_ n1_ n2_ n3_ n4_ n5_ ⊢
         have HO_5 := n0_; have HO_8 := n1_; have HL301_0 := n2_; have HL301_1 := n3_; have BK302 := n4_; have HB := n5_; clear n0_ n1_ n2_ n3_ n4_ n5_
         have n0_ := yD (Kd.N_drew HO_5.out)
         have n1_ := yD (Kd.V_drew HO_8.out)
         have n2_ := yD (Kd.V_drew HL301_0.out)
         have n3_ := yD (Kd.V_drew HL301_1.out)
         have n4_ := yD (yO BK302.out)
         have n5_ := yD (yP HB.out)
         clear HO_5 HO_8 HL301_0 HL301_1 BK302 HB; have HO_5 := n0_; have HO_8 := n1_; have HL301_0 := n2_; have HL301_1 := n3_; have BK302 := n4_; have HB := n5_; clear n0_ n1_ n2_ n3_ n4_ n5_
         have p303 : 0 ≤ (0 : Int) := (by omega)
         have q303 : 0 < (((rd_T42 l0 x10_1).f0).length : Int) := zP (by assumption)
         obtain ⟨ad303, e303, hx303_0⟩ := Kd.at_int ((Kd.V_reads' HL301_0.out).2.2) 0 p303 q303
         cases e303
         have qi303 : (0 < ((rd_T42 l0 x10_1).f0).length) = True := eq_true (by omega)
         (try rw [show ((0 : Int)).toNat = 0 from rfl] at hx303_0)
         (try rw [Addr.add_zero'] at hx303_0)
         replace p303 := eq_true p303; replace q303 := eq_true q303
         have p304 : 0 ≤ (0 : Int) := (by omega)
         have q304 : 0 < (((rd_T42 l0 x10_1).f1).length : Int) := zP (by assumption)
         obtain ⟨ad304, e304, hx304_0⟩ := Kd.at_int ((Kd.V_reads' HL301_1.out).2.2) 0 p304 q304
         cases e304
         have qi304 : (0 < ((rd_T42 l0 x10_1).f1).length) = True := eq_true (by omega)
         (try rw [show ((0 : Int)).toNat = 0 from rfl] at hx304_0)
         (try rw [Addr.add_zero'] at hx304_0)
         replace p304 := eq_true p304; replace q304 := eq_true q304
         refine start_ (n := 11) (S := fun w' => w'.cell? ⟨gb302, 0, none⟩ = some (.slice (some ad303) ((rd_T42 l0 x10_1).f0).length c301_0) ∧ w'.cell? ⟨gb302, 1, none⟩ = some (.slice (some ad304) ((rd_T42 l0 x10_1).f1).length c301_1) ∧ w'.cell? ad303 = some (.int .i64 (rd ((rd_T42 l0 x10_1).f0) 0)) ∧ w'.cell? ad304 = some (.int .i64 (rd ((rd_T42 l0 x10_1).f1) 0))) (ds := []) (bz 11 0) (by kernel_rfl) rfl rfl ⟨(yG BK302.out 0).trans rfl, (yG BK302.out 1).trans rfl, hx303_0, hx304_0⟩ (fun hHeld => ?_); refine with_tabW impl_section.tab5 impl_section.bits5 (fun HT_ HW_ => ?_)
         generalize w23.drew = w24 at HO_5 HO_8 HL301_0 HL301_1 BK302 HB hx303_0 hx304_0 hHeld ⊢
         refine qA 0 14 (bz 11 1) HT_ ?_
         refine qA 1 15 (bz 11 3) HT_ ?_
         refine qA 5 19 (bz 11 35) HT_ ?_
         refine qC 2 16 (bz 11 39) HT_ HW_ hHeld ?_ (hy := by rintro w' ⟨s0, s1, s2, s3⟩; go_simp; with_reducible rfl)
         refine qA 3 17 (bz 11 47) HT_ ?_
         refine qC 4 18 (bz 11 63) HT_ HW_ hHeld ?_ (hy := by rintro w' ⟨s0, s1, s2, s3⟩; go_simp; with_reducible rfl)
         refine qC 6 20 (bz 11 127) HT_ HW_ hHeld ?_ (hy := by rintro w' ⟨s0, s1, s2, s3⟩; go_simp; with_reducible rfl)
         refine qA 7 21 (bz 11 255) HT_ ?_
         refine qC 8 22 (bz 11 511) HT_ HW_ hHeld ?_ (hy := by rintro w' ⟨s0, s1, s2, s3⟩; go_simp; with_reducible rfl)
         refine qA 9 23 (bz 11 1023) HT_ ?_
         refine one_ (i := 10) (N := some 24) (bz 11 2047) rfl rfl (one_of HT_.out (by kernel_rfl)) (by decide) (fun K hK => ?_)
         refine goes_ Try.func106 (by kernel_rfl) rfl #[.int .i64 a1, .int .i64 (rd ((rd_T42 l0 x10_1).f0) 0), .int .i64 (wrap64 ((rd ((rd_T42 l0 x10_1).f1) 0) - 1))] (by rfl) rfl rfl (by (try simp only [zK, zL, zM]); first | done | rfl | (simp only [zN, zO]; rfl)) ?_
         with_reducible refine (impl_within.calls a1 (rd ((rd_T42 l0 x10_1).f0) 0) (wrap64 ((rd ((rd_T42 l0 x10_1).f1) 0) - 1)) false _ A8.out).mono ?_
         rintro e w' ⟨rfl, ⟨nd, rfl⟩⟩
         refine ⟨_, rfl, ?_⟩
         refine hK.out _ _ ⟨(yG BK302.out 0).trans rfl, (yG BK302.out 1).trans rfl, hHeld.2.2.1, hHeld.2.2.2⟩ (fun hHeld => ?_)
         clear hK K
         refine norm_ (a' := ?_) ?_ ?_
         rotate_left
         · show Act.put _ (some 24) _ = _
           simp only [Act.put, zH, zI, zJ, i64_w, i32_w]
           rfl
         refine done_ (done_of HT_.out (by kernel_rfl)) ?_
         try go_wp2
         go_roundg k1
         case measure => have := HK1.out; omega
         case rel => exact ⟨(x5_1), (wrap64 (x10_1 + 1)), (by first | rfl | (simp; done) | (simp [*]; done)), H', ⟨by have := HK1.out; omega⟩, ⟨mN HO_5 (fun _ hk => hk.1)⟩, ⟨mV HO_8 (fun _ hk => ⟨hk.1, hk.2.1⟩)⟩, ⟨kR0 HB⟩⟩
       · rw [if_neg c7] at H
         exact absurd H (by simp)
      · rw [if_neg c6] at H
        exact absurd H (by simp)
     · rw [if_neg c5] at H
       exact absurd H (by simp)
    · rw [if_neg c4] at H
      exact absurd H (by simp)
   · rw [if_neg c3] at H
     have c3b0 : decide (x10_1 < (l0.length : Int)) = false := zS c3; clear c3; obtain rfl := Option.some.inj H
     go_wp2
     go_ret
     exact ⟨_, by first | rfl | (simp <;> rfl) | (simp [*] <;> rfl), Kd.N_V (kQ HO_5), kR1 HB⟩

/-! ### slices_Equal_int64_int64: function 107 -/
def slices_Equal_int64_int64.l0 : Nat → List Int → List Int → Int → Int → Option (Bool)
 | 0, _, _, _, _ => none
 | k + 1, x0, x1, x12, x13 => if x13 < x12 then (if 0 ≤ x13 then (if x13 < (x0.length : Int) then (if x13 < (x1.length : Int) then (if (rd x0 x13) = (rd x1 x13) then (slices_Equal_int64_int64.l0 k x0 x1 x12 (wrap64 (x13 + 1))) else (some false)) else (none)) else (none)) else (none)) else (some true)
def slices_Equal_int64_int64.f (k : Nat) (l0 : List Int) (l1 : List Int) : Option (Bool) := if (l0.length : Int) = (l1.length : Int) then (slices_Equal_int64_int64.l0 k l0 l1 (l0.length : Int) 0) else (some false)
theorem slices_Equal_int64_int64.mono_l : ∀ k, (∀ y0 y1 y2 y3, LeO (slices_Equal_int64_int64.l0 k y0 y1 y2 y3) (slices_Equal_int64_int64.l0 (k + 1) y0 y1 y2 y3))
 | 0 => fun _ _ _ _ r h => by simp [slices_Equal_int64_int64.l0] at h
 | k + 1 => by
  have ih0 := slices_Equal_int64_int64.mono_l k
  · intro y0 y1 y2 y3
    unfold slices_Equal_int64_int64.l0
    repeat' (with_reducible first | exact ih0 _ _ _ _ | exact LeO.refl _ | exact LeO.none _ | refine LeO.ite ?_ ?_ | refine LeO.bind ?_ (fun _ => ?_))
theorem slices_Equal_int64_int64.mono : ∀ a0 a1 k, LeO (slices_Equal_int64_int64.f k a0 a1) (slices_Equal_int64_int64.f (k + 1) a0 a1) := by
 intro a0 a1 k
 have ih0 := slices_Equal_int64_int64.mono_l k
 unfold slices_Equal_int64_int64.f
 repeat' (with_reducible first | exact ih0 _ _ _ _ | exact LeO.refl _ | exact LeO.none _ | refine LeO.ite ?_ ?_ | refine LeO.bind ?_ (fun _ => ?_))
set_option maxHeartbeats 8000000 in
set_option maxRecDepth 100000 in
theorem slices_Equal_int64_int64.calls (k : Nat) (A0 : Option Addr) (c0 : Nat) (l0 : List Int) (A1 : Option Addr) (c1 : Nat) (l1 : List Int) (r : Bool) (w : World) (hr0 : Kd.C (Kd.int .i64) w A0 l0.length l0) (hc0 : l0.length ≤ c0) (hr1 : Kd.C (Kd.int .i64) w A1 l1.length l1) (hc1 : l1.length ≤ c1) (h : slices_Equal_int64_int64.f k l0 l1 = some r) :
 Calls Try.prog 107 #[.slice A0 l0.length c0, .slice A1 l1.length c1] w fun e w' => e = .returned (.bool r) ∧ Drawn0 w w' := by
 have HR0 := yD hr0
 have HC0 := yD hc0
 clear hr0 hc0
 have HR1 := yD hr1
 have HC1 := yD hc1
 clear hr1 hc1
 have H : (if (l0.length : Int) = (l1.length : Int) then (slices_Equal_int64_int64.l0 k l0 l1 (l0.length : Int) 0) else (some false)) = some r := h
 clear h
 by_cases c3 : (l0.length : Int) = (l1.length : Int)
 ·
  rw [if_pos c3] at H
  have c3b0 : ((l0.length : Int) == (l1.length : Int)) = true := beq_iff_eq.mpr c3
  have c3b1 : ((l0.length : Int) != (l1.length : Int)) = false := bne_eq_false_iff_eq.mpr c3
  have c3b2 : (l0.length == l1.length) = true := by first | simpa using c3 | (simp at c3 ⊢; omega)
  clear c3
  have H' := yD H
  clear H; go_enter Try.func107, Try.ntmps107
  go_wp2
  repeat (go_quiet (fail); try go_wp2)
  go_loopg [13] k (fun kq v13 w' => ∃ (x13_1 : Int), v13 = .int .i64 x13_1 ∧ Aside0 (slices_Equal_int64_int64.l0 kq l0 l1 (l0.length : Int) x13_1 = some r) ∧ Aside0 (kq ≤ k) ∧ Drawn0 w w')
  case atStart => exact ⟨(0), (by first | rfl | (simp; done) | (simp [*]; done)), H', ⟨Nat.le_refl _⟩, by repeat (first | exact Drawn0.refl _ | apply Drawn0.step)⟩
  case round =>
   clear H'
   try clear c1; try clear c3; try clear c3b0; try clear c3b1; try clear c3b2
   obtain ⟨x13_1, rfl, HA, HK1, ⟨m1, rfl⟩⟩ := hrel
   cases gk with
   | zero => exact absurd HA.out (by simp [slices_Equal_int64_int64.l0])
   | succ k1 =>
    have H := HA.out; clear HA
    simp only [slices_Equal_int64_int64.l0] at H
    by_cases c4 : x13_1 < (l0.length : Int)
    ·
     rw [if_pos c4] at H
     have c4b0 : decide (x13_1 < (l0.length : Int)) = true := zR c4; clear c4
     by_cases c5 : 0 ≤ x13_1
     ·
      rw [if_pos c5] at H
      have c5b0 : decide (0 ≤ x13_1) = true := zR c5; clear c5
      by_cases c6 : x13_1 < (l0.length : Int)
      ·
       rw [if_pos c6] at H
       have c6b0 : decide (x13_1 < (l0.length : Int)) = true := zR c6; clear c6
       by_cases c7 : x13_1 < (l1.length : Int)
       ·
        rw [if_pos c7] at H
        have c7b0 : decide (x13_1 < (l1.length : Int)) = true := zR c7; clear c7
        by_cases c8 : (rd l0 x13_1) = (rd l1 x13_1)
        ·
         rw [if_pos c8] at H
         have c8b0 : ((rd l0 x13_1) == (rd l1 x13_1)) = true := beq_iff_eq.mpr c8
         have c8b1 : ((rd l0 x13_1) != (rd l1 x13_1)) = false := bne_eq_false_iff_eq.mpr c8
         clear c8
         have H' := yD H
         clear H
         have p319 : 0 ≤ (x13_1 : Int) := zP (by assumption)
         have q319 : x13_1 < (l0.length : Int) := zP (by assumption)
         obtain ⟨ad319, e319, hx319_0⟩ := Kd.at_int HR0.out x13_1 p319 q319
         cases e319; replace p319 := eq_true p319; replace q319 := eq_true q319
         have p320 : 0 ≤ (x13_1 : Int) := zP (by assumption)
         have q320 : x13_1 < (l1.length : Int) := zP (by assumption)
         obtain ⟨ad320, e320, hx320_0⟩ := Kd.at_int HR1.out x13_1 p320 q320
         cases e320; replace p320 := eq_true p320; replace q320 := eq_true q320
         go_wp2
         repeat (go_quiet (fail); try go_wp2)
         go_roundg k1
         case measure => have := HK1.out; omega
         case rel => exact ⟨(wrap64 (x13_1 + 1)), (by first | rfl | (simp; done) | (simp [*]; done)), H', ⟨by have := HK1.out; omega⟩, by repeat (first | exact Drawn0.refl _ | apply Drawn0.step)⟩
        ·
         rw [if_neg c8] at H
         have c8b0 : ((rd l0 x13_1) == (rd l1 x13_1)) = false := beq_eq_false_iff_ne.mpr c8
         have c8b1 : ((rd l0 x13_1) != (rd l1 x13_1)) = true := bne_iff_ne.mpr c8
         obtain rfl := Option.some.inj H
         have p319 : 0 ≤ (x13_1 : Int) := zP (by assumption)
         have q319 : x13_1 < (l0.length : Int) := zP (by assumption)
         obtain ⟨ad319, e319, hx319_0⟩ := Kd.at_int HR0.out x13_1 p319 q319
         cases e319; replace p319 := eq_true p319; replace q319 := eq_true q319
         have p320 : 0 ≤ (x13_1 : Int) := zP (by assumption)
         have q320 : x13_1 < (l1.length : Int) := zP (by assumption)
         obtain ⟨ad320, e320, hx320_0⟩ := Kd.at_int HR1.out x13_1 p320 q320
         cases e320; replace p320 := eq_true p320; replace q320 := eq_true q320
         go_wp2
         repeat (go_quiet (fail); try go_wp2)
         go_ret
         exact ⟨by first | rfl | (simp; done) | (simp [*]; done), by repeat (first | exact Drawn0.refl _ | apply Drawn0.step)⟩
       · rw [if_neg c7] at H
         exact absurd H (by simp)
      · rw [if_neg c6] at H
        exact absurd H (by simp)
     · rw [if_neg c5] at H
       exact absurd H (by simp)
    · rw [if_neg c4] at H
      have c4b0 : decide (x13_1 < (l0.length : Int)) = false := zS c4; clear c4; obtain rfl := Option.some.inj H
      go_wp2
      repeat (go_quiet (fail); try go_wp2)
      go_ret
      exact ⟨by first | rfl | (simp; done) | (simp [*]; done), by repeat (first | exact Drawn0.refl _ | apply Drawn0.step)⟩
 ·
  rw [if_neg c3] at H
  have c3b0 : ((l0.length : Int) == (l1.length : Int)) = false := beq_eq_false_iff_ne.mpr c3
  have c3b1 : ((l0.length : Int) != (l1.length : Int)) = true := bne_iff_ne.mpr c3
  have c3b2 : (l0.length == l1.length) = false := by first | simpa using c3 | (simp at c3 ⊢; omega)
  obtain rfl := Option.some.inj H; go_enter Try.func107, Try.ntmps107
  go_wp2
  repeat (go_quiet (fail); try go_wp2)
  go_ret
  exact ⟨by first | rfl | (simp; done) | (simp [*]; done), by repeat (first | exact Drawn0.refl _ | apply Drawn0.step)⟩

/-! ### impl_sameBox: function 69 -/
def impl_sameBox.f (k : Nat) (l0_0 : List Int) (l0_1 : List Int) (l1_0 : List Int) (l1_1 : List Int) : Option (Bool) := (slices_Equal_int64_int64.f k l0_0 l1_0).bind fun t323 => (if t323 = true then ((slices_Equal_int64_int64.f k l0_1 l1_1).bind fun t324 => (some t324)) else (some false))
theorem impl_sameBox.mono : ∀ a0 a1 a2 a3 k, LeO (impl_sameBox.f k a0 a1 a2 a3) (impl_sameBox.f (k + 1) a0 a1 a2 a3) := by
 intro a0 a1 a2 a3 k
 unfold impl_sameBox.f
 repeat' (with_reducible first | exact slices_Equal_int64_int64.mono _ _ _ | exact LeO.refl _ | exact LeO.none _ | refine LeO.ite ?_ ?_ | refine LeO.bind ?_ (fun _ => ?_))
set_option maxHeartbeats 8000000 in
set_option maxRecDepth 100000 in
theorem impl_sameBox.calls (k : Nat) (A0_0 : Option Addr) (c0_0 : Nat) (l0_0 : List Int) (A0_1 : Option Addr) (c0_1 : Nat) (l0_1 : List Int) (A1_0 : Option Addr) (c1_0 : Nat) (l1_0 : List Int) (A1_1 : Option Addr) (c1_1 : Nat) (l1_1 : List Int) (r : Bool) (w : World) (hr0_0 : Kd.C (Kd.int .i64) w A0_0 l0_0.length l0_0) (hc0_0 : l0_0.length ≤ c0_0) (hr0_1 : Kd.C (Kd.int .i64) w A0_1 l0_1.length l0_1) (hc0_1 : l0_1.length ≤ c0_1) (hr1_0 : Kd.C (Kd.int .i64) w A1_0 l1_0.length l1_0) (hc1_0 : l1_0.length ≤ c1_0) (hr1_1 : Kd.C (Kd.int .i64) w A1_1 l1_1.length l1_1) (hc1_1 : l1_1.length ≤ c1_1) (h : impl_sameBox.f k l0_0 l0_1 l1_0 l1_1 = some r) :
 Calls Try.prog 69 #[.agg #[.slice A0_0 l0_0.length c0_0, .slice A0_1 l0_1.length c0_1], .agg #[.slice A1_0 l1_0.length c1_0, .slice A1_1 l1_1.length c1_1]] w fun e w' => e = .returned (.bool r) ∧ Below w.heap.size w w' := by
 have hu42 := Try.underlying42
 have HR0_0 := yD hr0_0
 have HC0_0 := yD hc0_0
 clear hr0_0 hc0_0
 have HR0_1 := yD hr0_1
 have HC0_1 := yD hc0_1
 clear hr0_1 hc0_1
 have HR1_0 := yD hr1_0
 have HC1_0 := yD hc1_0
 clear hr1_0 hc1_0
 have HR1_1 := yD hr1_1
 have HC1_1 := yD hc1_1
 clear hr1_1 hc1_1
 have HB := yD (Below.refl w.heap.size w)
 have H : ((slices_Equal_int64_int64.f k l0_0 l1_0).bind fun t323 => (if t323 = true then ((slices_Equal_int64_int64.f k l0_1 l1_1).bind fun t324 => (some t324)) else (some false))) = some r := h
 clear h
 obtain ⟨t323, A30, H⟩ := zW_ H
 replace H : (if t323 = true then ((slices_Equal_int64_int64.f k l0_1 l1_1).bind fun t324 => (some t324)) else (some false)) = some r := H
 have A3 := yD A30
 clear A30
 by_cases c4 : t323 = true
 ·
  subst c4
  replace H : ((slices_Equal_int64_int64.f k l0_1 l1_1).bind fun t324 => (some t324)) = some r := (by rw [if_pos rfl] at H; exact H)
  obtain ⟨t324, A50, H⟩ := zW_ H
  replace H : (some t324) = some r := H
  have A5 := yD A50
  clear A50; obtain rfl := Option.some.inj H; go_enter Try.func69, Try.ntmps69
  go_wp2_with (first | ((with_reducible refine gate_dst (N := 2) rfl ?_); refine box_event ?hg (N := 2) ?hd (cs := #[.slice A0_0 l0_0.length c0_0, .slice A0_1 l0_1.length c0_1]) (t := 42) ?hr ?_; (case hd => rfl); (case hg => rfl); (case hr => first | (go_simp; done) | (go_simp; rfl)); intro gb321 hg w6 hbox hb; have BK321 := yD (hbox); have GW321 := yD ((by rw [hg]; exact (below_size (kB HB)) : w.heap.size ≤ gb321)); have GE321 := yD ((by rw [hg]; exact (below_size (kB HB)) : w.heap.size ≤ gb321)); replace HB := yD (zC (kB HB) hb); clear hb hbox hg) | ((with_reducible refine gate_dst (N := 3) rfl ?_); refine box_event ?hg (N := 3) ?hd (cs := #[.slice A1_0 l1_0.length c1_0, .slice A1_1 l1_1.length c1_1]) (t := 42) ?hr ?_; (case hd => rfl); (case hg => rfl); (case hr => first | (go_simp; done) | (go_simp; rfl)); intro gb322 hg w7 hbox hb; have BK322 := yD (hbox); have GW322 := yD ((by rw [hg]; exact (below_size (kB HB)) : w.heap.size ≤ gb322)); have GE322 := yD ((by rw [hg]; exact (below_size (kB HB)) : w.heap.size ≤ gb322)); replace HB := yD (zC (kB HB) hb); have NB321_322 := yD ((by rw [hg]; exact Nat.ne_of_lt (blk_lt (kN BK321)) : gb321 ≠ gb322)); have NB322_321 := yD ((by rw [hg]; exact Nat.ne_of_gt (blk_lt (kN BK321)) : gb322 ≠ gb321)); replace BK321 := yD (zB (kN BK321) hb); clear hb hbox hg; have hnb8 := NB321_322.out; have hnc8 := NB322_321.out; obtain ⟨hcz9_0, hcz9_1⟩ := cz2 BK321.out; obtain ⟨hfz9_0, hfz9_1⟩ := fz2 BK321.out; obtain ⟨hcz10_0, hcz10_1⟩ := cz2 BK322.out; obtain ⟨hfz10_0, hfz10_1⟩ := fz2 BK322.out) | ((with_reducible refine gate_callee (f := 107) rfl ?_); refine gL 9 Try.func107 #[.slice A0_0 l0_0.length c0_0, .slice A1_0 l1_0.length c1_0] ?_; (with_reducible refine (slices_Equal_int64_int64.calls k _ _ l0_0 _ _ l1_0 true _ ?side1 ?side2 ?side3 ?side4 A3.out).mono ?_); (case side1 => exact kV (yY HR0_0.out HB.out)); (case side2 => exact HC0_0.out); (case side3 => exact kV (yY HR1_0.out HB.out)); (case side4 => exact HC1_0.out); rintro e w' ⟨rfl, ⟨nd, rfl⟩⟩; refine ⟨_, rfl, ?_⟩) | (go_at_call 107; (with_reducible refine (slices_Equal_int64_int64.calls k _ _ l0_1 _ _ l1_1 t324 _ ?side1 ?side2 ?side3 ?side4 A5.out).mono ?_); (case side1 => repeat (first | exact (yY HR0_1.out (kB HB)) | (with_reducible first | refine yV ?_ _ | refine yW ?_ _ | refine yX ?_))); (case side2 => exact HC0_1.out); (case side3 => repeat (first | exact (yY HR1_1.out (kB HB)) | (with_reducible first | refine yV ?_ _ | refine yW ?_ _ | refine yX ?_))); (case side4 => exact HC1_1.out); rintro e w' ⟨rfl, ⟨nd, rfl⟩⟩))
  go_ret
  exact ⟨by first | rfl | (simp <;> rfl) | (simp [*] <;> rfl), kR0 HB⟩
 ·
  replace c4 := Bool.eq_false_iff.mpr c4
  subst c4
  replace H : (some false) = some r := (by rw [if_neg (show ¬ (false = true) by decide)] at H; exact H); obtain rfl := Option.some.inj H; go_enter Try.func69, Try.ntmps69
  go_wp2_with (first | ((with_reducible refine gate_dst (N := 2) rfl ?_); refine box_event ?hg (N := 2) ?hd (cs := #[.slice A0_0 l0_0.length c0_0, .slice A0_1 l0_1.length c0_1]) (t := 42) ?hr ?_; (case hd => rfl); (case hg => rfl); (case hr => first | (go_simp; done) | (go_simp; rfl)); intro gb321 hg w11 hbox hb; have BK321 := yD (hbox); have GW321 := yD ((by rw [hg]; exact (below_size (kB HB)) : w.heap.size ≤ gb321)); have GE321 := yD ((by rw [hg]; exact (below_size (kB HB)) : w.heap.size ≤ gb321)); replace HB := yD (zC (kB HB) hb); clear hb hbox hg) | ((with_reducible refine gate_dst (N := 3) rfl ?_); refine box_event ?hg (N := 3) ?hd (cs := #[.slice A1_0 l1_0.length c1_0, .slice A1_1 l1_1.length c1_1]) (t := 42) ?hr ?_; (case hd => rfl); (case hg => rfl); (case hr => first | (go_simp; done) | (go_simp; rfl)); intro gb322 hg w12 hbox hb; have BK322 := yD (hbox); have GW322 := yD ((by rw [hg]; exact (below_size (kB HB)) : w.heap.size ≤ gb322)); have GE322 := yD ((by rw [hg]; exact (below_size (kB HB)) : w.heap.size ≤ gb322)); replace HB := yD (zC (kB HB) hb); have NB321_322 := yD ((by rw [hg]; exact Nat.ne_of_lt (blk_lt (kN BK321)) : gb321 ≠ gb322)); have NB322_321 := yD ((by rw [hg]; exact Nat.ne_of_gt (blk_lt (kN BK321)) : gb322 ≠ gb321)); replace BK321 := yD (zB (kN BK321) hb); clear hb hbox hg; have hnb13 := NB321_322.out; have hnc13 := NB322_321.out; obtain ⟨hcz14_0, hcz14_1⟩ := cz2 BK321.out; obtain ⟨hfz14_0, hfz14_1⟩ := fz2 BK321.out; obtain ⟨hcz15_0, hcz15_1⟩ := cz2 BK322.out; obtain ⟨hfz15_0, hfz15_1⟩ := fz2 BK322.out) | ((with_reducible refine gate_callee (f := 107) rfl ?_); refine gL 9 Try.func107 #[.slice A0_0 l0_0.length c0_0, .slice A1_0 l1_0.length c1_0] ?_; (with_reducible refine (slices_Equal_int64_int64.calls k _ _ l0_0 _ _ l1_0 false _ ?side1 ?side2 ?side3 ?side4 A3.out).mono ?_); (case side1 => exact kV (yY HR0_0.out HB.out)); (case side2 => exact HC0_0.out); (case side3 => exact kV (yY HR1_0.out HB.out)); (case side4 => exact HC1_0.out); rintro e w' ⟨rfl, ⟨nd, rfl⟩⟩; refine ⟨_, rfl, ?_⟩))
  go_ret
  exact ⟨by first | rfl | (simp <;> rfl) | (simp [*] <;> rfl), kR0 HB⟩

end Go.Proofs.Ytdiaebjbiddefaa.PFnExactSubtractBoxes
