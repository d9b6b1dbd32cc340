/- Each Go function here comes to what the plain function of its name says, where that says something. Made by a program of this session, over the print. -/
import Derived.Test.YtdiaebjbiddefaaPFnNormalFormx0
import Derived.Test.YtdiaebjbiddefaaPFnNormalFormx8
namespace Go.Proofs.Ytdiaebjbiddefaa.PFnNormalForm
open Go.RowKit Go.Proofs.YtdiaebjbiddefaaW.PrintWords Go.Proofs.YtdiaebjbiddefaaW.PrintLast Go.Proofs.YtdiaebjbiddefaaW.PrintMore
attribute [local go_sem] max2_int min2_int max_two min_two max_three min_three max_four min_four   -- for this text's walks alone
set_option linter.unusedVariables false
set_option linter.unusedSimpArgs false

/-! ### spec_l07Cross: function 129 -/
def spec_l07Cross.l0 : Nat → List (S42) → Int → List (S42) → Int → Option ((List (S42)))
 | 0, _, _, _, _ => none
 | k + 1, x0, x1, x5, x6 => if x6 < (x0.length : Int) then (if 0 ≤ x6 then (if 0 < (((rd_T42 x0 x6).f0).length : Int) then (if 0 < (((rd_T42 x0 x6).f1).length : Int) then ((spec_l00In.f x1 (rd ((rd_T42 x0 x6).f0) 0) (wrap64 ((rd ((rd_T42 x0 x6).f1) 0) - 1))).bind fun t344 => (if t344 = true then (if 1 ≤ (((rd_T42 x0 x6).f0).length : Int) then (if 1 ≤ (((rd_T42 x0 x6).f1).length : Int) then (if x5.length < 2932031007402 then (spec_l07Cross.l0 k x0 x1 (x5 ++ [(⟨(((rd_T42 x0 x6).f0).drop 1), (((rd_T42 x0 x6).f1).drop 1)⟩ : S42)]) (wrap64 (x6 + 1))) else (none)) else (none)) else (none)) else (spec_l07Cross.l0 k x0 x1 x5 (wrap64 (x6 + 1))))) else (none)) else (none)) else (none)) else (some x5)
def spec_l07Cross.f (k : Nat) (l0 : List (S42)) (a1 : Int) : Option ((List (S42))) := spec_l07Cross.l0 k l0 a1 (([] : List (S42))) 0
theorem spec_l07Cross.mono_l : ∀ k, (∀ y0 y1 y2 y3, LeO (spec_l07Cross.l0 k y0 y1 y2 y3) (spec_l07Cross.l0 (k + 1) y0 y1 y2 y3))
 | 0 => fun _ _ _ _ r h => by simp [spec_l07Cross.l0] at h
 | k + 1 => by
  have ih0 := spec_l07Cross.mono_l k
  ·
   intro y0 y1 y2 y3
   unfold spec_l07Cross.l0
   repeat' first
   | (with_reducible exact ih0 _ _ _ _)
   | (with_reducible exact LeO.refl _)
   | (with_reducible exact LeO.none _)
   | (with_reducible refine LeO.ite ?_ ?_)
   | (with_reducible refine LeO.bind ?_ (fun _ => ?_))
   | exact ih0 _ _ _ _
   | exact LeO.none _
   | refine LeO.ite ?_ ?_
   | refine LeO.bind ?_ (fun _ => ?_)
theorem spec_l07Cross.mono : ∀ a0 a1 k, LeO (spec_l07Cross.f k a0 a1) (spec_l07Cross.f (k + 1) a0 a1) := by
 intro a0 a1 k
 have ih0 := spec_l07Cross.mono_l k
 unfold spec_l07Cross.f
 repeat' first
  | (with_reducible exact ih0 _ _ _ _)
  | (with_reducible exact LeO.refl _)
  | (with_reducible exact LeO.none _)
  | (with_reducible refine LeO.ite ?_ ?_)
  | (with_reducible refine LeO.bind ?_ (fun _ => ?_))
  | exact ih0 _ _ _ _
  | exact LeO.none _
  | refine LeO.ite ?_ ?_
  | refine LeO.bind ?_ (fun _ => ?_)
def spec_l07Cross.T5 : Bool × List (List Nat × List Nat) := (true, [([], []), ([], []), ([], []), ([1, 2], [1, 2]), ([3], [3]), ([4], [4]), ([5], [5]), ([6], [6]), ([], []), ([], []), ([8, 9], [8, 9]), ([10], [10]), ([11], [11]), ([12], [12]), ([13], [13]), ([14], [14]), ([0, 7, 15], [0, 7, 15])])
def spec_l07Cross.B5 : List Nat := [0, 0, 0, 6, 14, 30, 62, 126, 0, 0, 768, 1792, 3840, 7936, 16128, 32512, 65535]
theorem spec_l07Cross.tab5 : rtab .any (opsOf Try.f129 5) = spec_l07Cross.T5 := by kernel_rfl
theorem spec_l07Cross.bits5 : waitsOk spec_l07Cross.T5.2 spec_l07Cross.B5 = true := by kernel_rfl
def spec_l07Cross.T6 : Bool × List (List Nat × List Nat) := (true, [([], []), ([], []), ([], []), ([1, 2], [1, 2]), ([3], [3]), ([4], [4]), ([5], [5]), ([], []), ([], []), ([7, 8], [7, 8]), ([9], [9]), ([10], [10]), ([11], [11]), ([6, 12], [6, 12]), ([13], [13]), ([0, 14], [0, 14]), ([15, 15, 0, 1, 2, 3, 4, 5, 6, 7, 8, 9, 10, 11, 12, 13, 14, 15], [0, 15])])
def spec_l07Cross.B6 : List Nat := [0, 0, 0, 6, 14, 30, 62, 0, 0, 384, 896, 1920, 3968, 8190, 16382, 32767, 65535]
theorem spec_l07Cross.tab6 : rtab .any (opsOf Try.f129 6) = spec_l07Cross.T6 := by kernel_rfl
theorem spec_l07Cross.bits6 : waitsOk spec_l07Cross.T6.2 spec_l07Cross.B6 = true := by kernel_rfl
set_option maxHeartbeats 8000000 in
set_option maxRecDepth 100000 in
theorem spec_l07Cross.calls (k : Nat) (P0_ : Nat → Prop) (A0 : Option Addr) (c0 : Nat) (l0 : List (S42)) (a1 : Int) (r : List (S42)) (w : World) (hs0 : Kd.V k42 42 w w.heap.size (fun k_ => P0_ k_) (.slice A0 l0.length c0) l0) (h : spec_l07Cross.f k l0 a1 = some r) :
 Calls Try.prog 129 #[.slice A0 l0.length c0, .int .i64 a1] w fun e w' => ∃ v0_ : Value, e = .returned (v0_) ∧ Kd.N k42 42 w' w.heap.size (fun k_ => (P0_ k_ ∨ w.heap.size ≤ k_)) v0_ r ∧ Below w.heap.size w w' := by
 have hu42 := Try.underlying42
 have HO0 := yD (show Kd.V k42 42 w w.heap.size (fun k_ => (P0_ k_ ∨ w.heap.size ≤ k_)) (.slice A0 l0.length c0) l0 from Kd.V_mono hs0 (fun k_ hk => .inl hk))
 have HB := yD (Below.refl w.heap.size w)
 have H : (spec_l07Cross.l0 k l0 a1 (([] : List (S42))) 0) = some r := h
 clear h
 obtain ⟨y337, hy337⟩ : ∃ y_ : List (S42), y_ = (([] : List (S42))) := ⟨_, rfl⟩
 replace H : (spec_l07Cross.l0 k l0 a1 y337 0) = some r := by first | (rw [hy337]; with_reducible exact H) | (have H2_ := (Option.bind_some _ _).symm.trans H; rw [hy337]; with_reducible exact H2_) | (have H2_ := (Option.bind_some _ _).symm.trans H; with_reducible exact H2_) | with_reducible exact H | (rw [hy337]; exact H) | exact H
 have Ny337 := yD hy337
 clear hy337
 have H' := yD H
 clear H; go_enter Try.func129, Try.ntmps129
 go_wp2_with (first | ((with_reducible refine gate_dst (N := 7) rfl ?_); refine Kd.N_lit k42 _ 42 ?hg (N' := 7) ?hd (xs := ([] : List (S42))) (inner := []) (ok := (fun k_ => (P0_ k_ ∨ w.heap.size ≤ k_))) (okp := (fun k_ => (P0_ k_ ∨ w.heap.size ≤ k_))) ?hr ?hp (fun _ hk => hk) ((show ∀ k_, w.heap.size ≤ k_ → (fun k_ => (P0_ k_ ∨ w.heap.size ≤ k_)) k_ from fun k_ hk => (.inr (Nat.le_trans (below_size (kB HB)) hk))) _ (Nat.le_refl _)) (Below.refl _ _) (Nat.le_refl _) (by simp) ?_; (case hd => rfl); (case hg => rfl); (case hr => first | (go_simp; done) | (go_simp; rfl)); (case hp => exact (Reps.none _ _)); intro v338 w3 ho4 hb hg_ hnew_; clear hg_ hnew_; (first | rw [← Ny337.out] at ho4 | (simp only [Int.reduceToNat] at ho4; rw [← Ny337.out] at ho4)); have n0_ := yD (Kd.V_elder' (by (with_reducible repeat (first | apply Kd.V_alloc | apply Kd.V_drewN | apply Kd.V_drew)); exact HO0.out) (Kd.N_base ho4) hb); have n1_ := yD (Kd.N_lower ho4 (below_size (kB HB))); have n2_ := yD (zC (kB HB) hb); clear HO0; clear HB; have HO0 := n0_; have HO339 := n1_; have HB := n2_; clear n0_ n1_ n2_; clear hb ho4))
 (try simp only [Act.put, zH, zI, zJ])
 go_loopg [5, 6] k (fun kq v5 v6 w' => ∃ (x5_1 : List (S42)) (x6_1 : Int), v6 = .int .i64 x6_1 ∧ Aside0 (spec_l07Cross.l0 kq l0 a1 x5_1 x6_1 = some r) ∧ Aside0 (kq ≤ k) ∧ Aside0 (Kd.V k42 42 w' w.heap.size (fun k_ => (P0_ k_ ∨ w.heap.size ≤ k_) ∧ some k_ ≠ (v5 : Value).ownBlock) (.slice A0 l0.length c0) l0) ∧ Aside0 (Kd.N k42 42 w' w.heap.size (fun k_ => (P0_ k_ ∨ w.heap.size ≤ k_)) v5 x5_1) ∧ Aside0 (Below w.heap.size w w'))
 case atStart => exact ⟨(y337), (0), (by first | rfl | (simp; done) | (simp [*]; done)), H', ⟨Nat.le_refl _⟩, ⟨by (with_reducible repeat (first | apply Kd.V_alloc | apply Kd.V_drewN | apply Kd.V_drew)); exact HO0.out⟩, ⟨by (with_reducible repeat (first | apply Kd.N_alloc | apply Kd.N_drewN | apply Kd.N_drew)); exact HO339.out⟩, ⟨kR0 HB⟩⟩
 case round =>
  clear H'
  try clear c1; try clear p2
  obtain ⟨x5_1, x6_1, rfl, HA, HK1, HO_0, HO_5, HB⟩ := hrel
  cases gk with
  | zero => exact absurd HA.out (by simp [spec_l07Cross.l0])
  | succ k1 =>
   have H := HA.out; clear HA
   simp only [spec_l07Cross.l0] at H
   by_cases c5 : x6_1 < (l0.length : Int)
   ·
    rw [if_pos c5] at H
    have c5b0 : decide (x6_1 < (l0.length : Int)) = true := zR c5; clear c5
    by_cases c6 : 0 ≤ x6_1
    ·
     rw [if_pos c6] at H
     have c6b0 : decide (0 ≤ x6_1) = true := zR c6; clear c6
     by_cases c7 : 0 < (((rd_T42 l0 x6_1).f0).length : Int)
     ·
      rw [if_pos c7] at H
      have c7b0 : decide (0 < (((rd_T42 l0 x6_1).f0).length : Int)) = true := zR c7
      have c7b1 : decide (0 < ((rd_T42 l0 x6_1).f0).length) = true := zR (by omega)
      clear c7
      by_cases c8 : 0 < (((rd_T42 l0 x6_1).f1).length : Int)
      ·
       rw [if_pos c8] at H
       have c8b0 : decide (0 < (((rd_T42 l0 x6_1).f1).length : Int)) = true := zR c8
       have c8b1 : decide (0 < ((rd_T42 l0 x6_1).f1).length) = true := zR (by omega)
       clear c8
       obtain ⟨t344, A90, H⟩ := zW_ H
       replace H : (if t344 = true then (if 1 ≤ (((rd_T42 l0 x6_1).f0).length : Int) then (if 1 ≤ (((rd_T42 l0 x6_1).f1).length : Int) then (if x5_1.length < 2932031007402 then (spec_l07Cross.l0 k1 l0 a1 (x5_1 ++ [(⟨(((rd_T42 l0 x6_1).f0).drop 1), (((rd_T42 l0 x6_1).f1).drop 1)⟩ : S42)]) (wrap64 (x6_1 + 1))) else (none)) else (none)) else (none)) else (spec_l07Cross.l0 k1 l0 a1 x5_1 (wrap64 (x6_1 + 1)))) = some r := H
       have A9 := yD A90
       clear A90
       by_cases c10 : t344 = true
       ·
        subst c10
        have H1 : (if 1 ≤ (((rd_T42 l0 x6_1).f0).length : Int) then (if 1 ≤ (((rd_T42 l0 x6_1).f1).length : Int) then (if x5_1.length < 2932031007402 then (spec_l07Cross.l0 k1 l0 a1 (x5_1 ++ [(⟨(((rd_T42 l0 x6_1).f0).drop 1), (((rd_T42 l0 x6_1).f1).drop 1)⟩ : S42)]) (wrap64 (x6_1 + 1))) else (none)) else (none)) else (none)) = some r := by rw [if_pos rfl] at H; exact H
        clear H; have H := H1; clear H1
        by_cases c11 : 1 ≤ (((rd_T42 l0 x6_1).f0).length : Int)
        ·
         rw [if_pos c11] at H
         have c11b0 := eq_true c11
         have c11b1 : decide (1 ≤ (((rd_T42 l0 x6_1).f0).length : Int)) = true := zR c11; clear c11
         obtain ⟨y346, hy346⟩ : ∃ y_ : List Int, y_ = (((rd_T42 l0 x6_1).f0).drop 1) := ⟨_, rfl⟩
         replace H : (if 1 ≤ (((rd_T42 l0 x6_1).f1).length : Int) then (if x5_1.length < 2932031007402 then (spec_l07Cross.l0 k1 l0 a1 (x5_1 ++ [(⟨y346, (((rd_T42 l0 x6_1).f1).drop 1)⟩ : S42)]) (wrap64 (x6_1 + 1))) else (none)) else (none)) = some r := by first | (rw [hy346]; with_reducible exact H) | (have H2_ := (Option.bind_some _ _).symm.trans H; rw [hy346]; with_reducible exact H2_) | (have H2_ := (Option.bind_some _ _).symm.trans H; with_reducible exact H2_) | with_reducible exact H | (rw [hy346]; exact H) | exact H
         have Ny346 := yD hy346
         clear hy346
         by_cases c12 : 1 ≤ (((rd_T42 l0 x6_1).f1).length : Int)
         ·
          rw [if_pos c12] at H
          have c12b0 := eq_true c12
          have c12b1 : decide (1 ≤ (((rd_T42 l0 x6_1).f1).length : Int)) = true := zR c12; clear c12
          obtain ⟨y352, hy352⟩ : ∃ y_ : List Int, y_ = (((rd_T42 l0 x6_1).f1).drop 1) := ⟨_, rfl⟩
          replace H : (if x5_1.length < 2932031007402 then (spec_l07Cross.l0 k1 l0 a1 (x5_1 ++ [(⟨y346, y352⟩ : S42)]) (wrap64 (x6_1 + 1))) else (none)) = some r := by first | (rw [hy352]; with_reducible exact H) | (have H2_ := (Option.bind_some _ _).symm.trans H; rw [hy352]; with_reducible exact H2_) | (have H2_ := (Option.bind_some _ _).symm.trans H; with_reducible exact H2_) | with_reducible exact H | (rw [hy352]; exact H) | exact H
          have Ny352 := yD hy352
          clear hy352
          by_cases c13 : x5_1.length < 2932031007402
          ·
           rw [if_pos c13] at H
           have LMc13 := yD c13
           clear c13
           obtain ⟨y357, hy357⟩ : ∃ y_ : List (S42), y_ = (x5_1 ++ [(⟨y346, y352⟩ : S42)]) := ⟨_, rfl⟩
           replace H : (spec_l07Cross.l0 k1 l0 a1 y357 (wrap64 (x6_1 + 1))) = some r := by first | (rw [hy357]; with_reducible exact H) | (have H2_ := (Option.bind_some _ _).symm.trans H; rw [hy357]; with_reducible exact H2_) | (have H2_ := (Option.bind_some _ _).symm.trans H; with_reducible exact H2_) | with_reducible exact H | (rw [hy357]; exact H) | exact H
           have Ny357 := yD hy357
           clear hy357
           have H' := yD H
           clear H
           try go_wp2
           have n0_ := yD (Kd.V_drew HO_0.out)
           have n1_ := yD (Kd.N_drew HO_5.out)
           have n2_ := yD (yP HB.out)
           clear HO_0 HO_5 HB; have HO_0 := n0_; have HO_5 := n1_; have HB := n2_; clear n0_ n1_ n2_
           have p340 : 0 ≤ (x6_1 : Int) := zP (by assumption)
           have q340 : x6_1 < (l0.length : Int) := zP (by assumption)
           obtain ⟨ad340, A340_0, c340_0, A340_1, c340_1, e340, hx340_0, hx340_1, hl340_0, hi340_0, hl340_1, hi340_1⟩ := at_T42 (Kd.V_reads' HO_0.out).2.2 x6_1 p340 q340
           cases e340
           obtain ⟨ce340, hce340, hMe340, hcc340⟩ := Kd.V_get HO_0.out z42 x6_1 p340 (by first | exact q340 | exact zP (by assumption) | (have e_ := (Kd.V_reads' HO_0.out).1; omega))
           obtain ⟨ua340_0, uc340_0, ua340_1, uc340_1, rfl, ul340_0, ge340_0, ul340_1, ge340_1⟩ := k42_openF hMe340
           have hv340_0 := hcc340 0 _ rfl
           rw [Nat.add_zero] at hv340_0
           replace hv340_0 := Option.some.inj (hv340_0.symm.trans hx340_0)
           injection hv340_0 with hva_ hvn_ hvc_
           rw [hva_] at ge340_0
           rw [hvc_] at ul340_0
           have HL340_0 := yD (show Kd.V (Kd.int .i64) 2 _ w.heap.size _ _ ((rd_T42 l0 x6_1).f0) from Kd.V_mk ul340_0 ge340_0)
           clear hva_ hvn_ hvc_ ge340_0 ul340_0
           have hv340_1 := hcc340 1 _ rfl
           rw [add_field _ _ 1 (by omega)] at hv340_1
           replace hv340_1 := Option.some.inj (hv340_1.symm.trans hx340_1)
           injection hv340_1 with hva_ hvn_ hvc_
           rw [hva_] at ge340_1
           rw [hvc_] at ul340_1
           have HL340_1 := yD (show Kd.V (Kd.int .i64) 2 _ w.heap.size _ _ ((rd_T42 l0 x6_1).f1) from Kd.V_mk ul340_1 ge340_1)
           clear hva_ hvn_ hvc_ ge340_1 ul340_1 hcc340 hce340
           have HR340_0 := yD hi340_0
           have HC340_0 := yD hl340_0
           clear hi340_0 hl340_0
           have HR340_1 := yD hi340_1
           have HC340_1 := yD hl340_1
           clear hi340_1 hl340_1; replace p340 := eq_true p340; replace q340 := eq_true q340
           have p341 : 0 ≤ (0 : Int) := (by omega)
           have q341 : 0 < (((rd_T42 l0 x6_1).f0).length : Int) := zP (by assumption)
           obtain ⟨ad341, e341, hx341_0⟩ := Kd.at_int (by repeat (first | (with_reducible exact HR340_0.out) | (with_reducible first | refine yV ?_ _ | refine yW ?_ _ | refine yX ?_) | exact HR340_0.out)) 0 p341 q341
           cases e341
           have qi341 : (0 < ((rd_T42 l0 x6_1).f0).length) = True := eq_true (by omega)
           (try rw [show ((0 : Int)).toNat = 0 from rfl] at hx341_0)
           (try rw [Addr.add_zero'] at hx341_0)
           replace p341 := eq_true p341; replace q341 := eq_true q341
           have p342 : 0 ≤ (x6_1 : Int) := zP (by assumption)
           have q342 : x6_1 < (l0.length : Int) := zP (by assumption)
           obtain ⟨ad342, A342_0, c342_0, A342_1, c342_1, e342, hx342_0, hx342_1, hl342_0, hi342_0, hl342_1, hi342_1⟩ := at_T42 (Kd.V_reads' HO_0.out).2.2 x6_1 p342 q342
           obtain rfl : ad340 = ad342 := (by injection e342)
           obtain ⟨ce342, hce342, hMe342, hcc342⟩ := Kd.V_get HO_0.out z42 x6_1 p342 (by first | exact q342 | exact zP (by assumption) | (have e_ := (Kd.V_reads' HO_0.out).1; omega))
           obtain ⟨ua342_0, uc342_0, ua342_1, uc342_1, rfl, ul342_0, ge342_0, ul342_1, ge342_1⟩ := k42_openF hMe342
           have hv342_0 := hcc342 0 _ rfl
           rw [Nat.add_zero] at hv342_0
           replace hv342_0 := Option.some.inj (hv342_0.symm.trans hx342_0)
           injection hv342_0 with hva_ hvn_ hvc_
           rw [hva_] at ge342_0
           rw [hvc_] at ul342_0
           have HL342_0 := yD (show Kd.V (Kd.int .i64) 2 _ w.heap.size _ _ ((rd_T42 l0 x6_1).f0) from Kd.V_mk ul342_0 ge342_0)
           clear hva_ hvn_ hvc_ ge342_0 ul342_0
           have hv342_1 := hcc342 1 _ rfl
           rw [add_field _ _ 1 (by omega)] at hv342_1
           replace hv342_1 := Option.some.inj (hv342_1.symm.trans hx342_1)
           injection hv342_1 with hva_ hvn_ hvc_
           rw [hva_] at ge342_1
           rw [hvc_] at ul342_1
           have HL342_1 := yD (show Kd.V (Kd.int .i64) 2 _ w.heap.size _ _ ((rd_T42 l0 x6_1).f1) from Kd.V_mk ul342_1 ge342_1)
           clear hva_ hvn_ hvc_ ge342_1 ul342_1 hcc342 hce342
           have HR342_0 := yD hi342_0
           have HC342_0 := yD hl342_0
           clear hi342_0 hl342_0
           have HR342_1 := yD hi342_1
           have HC342_1 := yD hl342_1
           clear hi342_1 hl342_1; replace p342 := eq_true p342; replace q342 := eq_true q342
           have ea_ := Option.some.inj (hx340_0.symm.trans hx342_0)
           injection ea_ with ea_ en_ ec_
           subst ea_; subst ec_; clear en_
           have ea_ := Option.some.inj (hx340_1.symm.trans hx342_1)
           injection ea_ with ea_ en_ ec_
           subst ea_; subst ec_; clear en_
           have p343 : 0 ≤ (0 : Int) := (by omega)
           have q343 : 0 < (((rd_T42 l0 x6_1).f1).length : Int) := zP (by assumption)
           obtain ⟨ad343, e343, hx343_0⟩ := Kd.at_int (by repeat (first | (with_reducible exact HR342_1.out) | (with_reducible first | refine yV ?_ _ | refine yW ?_ _ | refine yX ?_) | exact HR342_1.out)) 0 p343 q343
           cases e343
           have qi343 : (0 < ((rd_T42 l0 x6_1).f1).length) = True := eq_true (by omega)
           (try rw [show ((0 : Int)).toNat = 0 from rfl] at hx343_0)
           (try rw [Addr.add_zero'] at hx343_0)
           replace p343 := eq_true p343; replace q343 := eq_true q343
           refine start_ (n := 17) (S := fun w' => w'.cell? (ad340.add ((x6_1).toNat * 2)) = some (.slice (some ad341) ((rd_T42 l0 x6_1).f0).length c340_0) ∧ w'.cell? ⟨(ad340.add ((x6_1).toNat * 2)).block, (ad340.add ((x6_1).toNat * 2)).off + 1, none⟩ = some (.slice (some ad343) ((rd_T42 l0 x6_1).f1).length c340_1) ∧ w'.cell? ad341 = some (.int .i64 (rd ((rd_T42 l0 x6_1).f0) 0)) ∧ w'.cell? (ad340.add ((x6_1).toNat * 2)) = some (.slice (some ad341) ((rd_T42 l0 x6_1).f0).length c340_0) ∧ w'.cell? ⟨(ad340.add ((x6_1).toNat * 2)).block, (ad340.add ((x6_1).toNat * 2)).off + 1, none⟩ = some (.slice (some ad343) ((rd_T42 l0 x6_1).f1).length c340_1) ∧ w'.cell? ad343 = some (.int .i64 (rd ((rd_T42 l0 x6_1).f1) 0))) (ds := []) (bz 17 0) (by kernel_rfl) rfl rfl ⟨hx340_0, hx340_1, hx341_0, hx342_0, hx342_1, hx343_0⟩ (fun hHeld => ?_); refine with_tabW spec_l07Cross.tab5 spec_l07Cross.bits5 (fun HT_ HW_ => ?_)
           generalize wr.drew = w14 at HO_0 HO_5 HB HL340_0 HL340_1 HL342_0 HL342_1 HR340_0 HR340_1 HR342_0 HR342_1 hx340_0 hx340_1 hx341_0 hx342_0 hx342_1 hx343_0 hHeld ⊢
           refine qA 0 14 (bz 17 1) HT_ ?_
           refine qA 1 15 (bz 17 3) HT_ ?_
           refine qA 2 16 (bz 17 7) HT_ ?_
           refine qA 3 17 (bz 17 15) HT_ ?_
           refine qA 4 18 (bz 17 31) HT_ ?_
           refine qA 8 22 (bz 17 287) HT_ ?_
           refine qA 9 23 (bz 17 799) HT_ ?_
           refine qA 10 24 (bz 17 1823) HT_ ?_
           refine qA 11 25 (bz 17 3871) HT_ ?_
           refine qC 5 19 (bz 17 3903) HT_ HW_ hHeld ?_ (hy := by rintro w' ⟨s0, s1, s2, s3, s4, s5⟩; go_simp; with_reducible rfl)
           refine qA 6 20 (bz 17 3967) HT_ ?_
           refine qC 7 21 (bz 17 4095) HT_ HW_ hHeld ?_ (hy := by rintro w' ⟨s0, s1, s2, s3, s4, s5⟩; go_simp; with_reducible rfl)
           refine qC 12 26 (bz 17 8191) HT_ HW_ hHeld ?_ (hy := by rintro w' ⟨s0, s1, s2, s3, s4, s5⟩; go_simp; with_reducible rfl)
           refine qA 13 27 (bz 17 16383) HT_ ?_
           refine qC 14 28 (bz 17 32767) HT_ HW_ hHeld ?_ (hy := by rintro w' ⟨s0, s1, s2, s3, s4, s5⟩; go_simp; with_reducible rfl)
           refine qA 15 29 (bz 17 65535) HT_ ?_
           refine one_ (i := 16) (N := some 30) (bz 17 131071) rfl rfl (one_of HT_.out (by kernel_rfl)) (by decide) (fun K hK => ?_)
           refine goes_ Try.func92 (by kernel_rfl) rfl #[.int .i64 a1, .int .i64 (rd ((rd_T42 l0 x6_1).f0) 0), .int .i64 (wrap64 ((rd ((rd_T42 l0 x6_1).f1) 0) - 1))] (by rfl) rfl rfl (by (try simp only [zK, zL, zM]); first | done | rfl | (simp only [zN, zO]; rfl)) ?_
           with_reducible refine (spec_l00In.calls a1 (rd ((rd_T42 l0 x6_1).f0) 0) (wrap64 ((rd ((rd_T42 l0 x6_1).f1) 0) - 1)) true _ A9.out).mono ?_
           rintro e w' ⟨rfl, ⟨nd, rfl⟩⟩
           refine ⟨_, rfl, ?_⟩
           refine hK.out _ _ ⟨hHeld.1, hHeld.2.1, hHeld.2.2.1, hHeld.2.2.2.1, hHeld.2.2.2.2.1, hHeld.2.2.2.2.2⟩ (fun hHeld => ?_)
           clear hK K
           refine norm_ (a' := ?_) ?_ ?_
           rotate_left
           · show Act.put _ (some 30) _ = _
             simp only [Act.put, zH, zI, zJ, i64_w, i32_w]
             rfl
           refine done_ (done_of HT_.out (by kernel_rfl)) ?_
           try go_wp2
           (try (rw [drewN_self w14]; generalize hq_ : World.drewN w14 _ = w14; have n0_ : Aside0 (Kd.V (Kd.int .i64) 2 w14 w.heap.size (fun k_ => (P0_ k_ ∨ w.heap.size ≤ k_) ∧ some k_ ≠ (u5 : Value).ownBlock) (.slice (some ad341) ((rd_T42 l0 x6_1).f0).length c340_0) ((rd_T42 l0 x6_1).f0)) := ⟨by rw [← hq_]; exact (by (with_reducible repeat (first | apply Kd.V_alloc | apply Kd.V_drewN | apply Kd.V_drew)); exact HL340_0.out)⟩; have n1_ : Aside0 (Kd.V (Kd.int .i64) 2 w14 w.heap.size (fun k_ => (P0_ k_ ∨ w.heap.size ≤ k_) ∧ some k_ ≠ (u5 : Value).ownBlock) (.slice (some ad343) ((rd_T42 l0 x6_1).f1).length c340_1) ((rd_T42 l0 x6_1).f1)) := ⟨by rw [← hq_]; exact (by (with_reducible repeat (first | apply Kd.V_alloc | apply Kd.V_drewN | apply Kd.V_drew)); exact HL340_1.out)⟩; have n2_ : Aside0 (Kd.V (Kd.int .i64) 2 w14 w.heap.size (fun k_ => (P0_ k_ ∨ w.heap.size ≤ k_) ∧ some k_ ≠ (u5 : Value).ownBlock) (.slice (some ad341) ((rd_T42 l0 x6_1).f0).length c340_0) ((rd_T42 l0 x6_1).f0)) := ⟨by rw [← hq_]; exact (by (with_reducible repeat (first | apply Kd.V_alloc | apply Kd.V_drewN | apply Kd.V_drew)); exact HL342_0.out)⟩; have n3_ : Aside0 (Kd.V (Kd.int .i64) 2 w14 w.heap.size (fun k_ => (P0_ k_ ∨ w.heap.size ≤ k_) ∧ some k_ ≠ (u5 : Value).ownBlock) (.slice (some ad343) ((rd_T42 l0 x6_1).f1).length c340_1) ((rd_T42 l0 x6_1).f1)) := ⟨by rw [← hq_]; exact (by (with_reducible repeat (first | apply Kd.V_alloc | apply Kd.V_drewN | apply Kd.V_drew)); exact HL342_1.out)⟩; have n4_ : Aside0 (Kd.V k42 42 w14 w.heap.size (fun k_ => (P0_ k_ ∨ w.heap.size ≤ k_) ∧ some k_ ≠ (u5 : Value).ownBlock) (.slice (some ad340) l0.length c0) l0) := ⟨by rw [← hq_]; exact (by (with_reducible repeat (first | apply Kd.V_alloc | apply Kd.V_drewN | apply Kd.V_drew)); exact HO_0.out)⟩; have n5_ : Aside0 (Kd.N k42 42 w14 w.heap.size (fun k_ => (P0_ k_ ∨ w.heap.size ≤ k_)) u5 x5_1) := ⟨by rw [← hq_]; exact (by (with_reducible repeat (first | apply Kd.N_alloc | apply Kd.N_drewN | apply Kd.N_drew)); exact HO_5.out)⟩; have n6_ : Aside0 (Below w.heap.size w w14) := ⟨by rw [← hq_]; exact (kB HB)⟩; have n7_ : Aside0 (Kd.C (Kd.int .i64) w14 (some ad341) ((rd_T42 l0 x6_1).f0).length ((rd_T42 l0 x6_1).f0)) := ⟨by rw [← hq_]; exact (by repeat (first | (with_reducible exact HR340_0.out) | (with_reducible first | refine yV ?_ _ | refine yW ?_ _ | refine yX ?_) | exact HR340_0.out))⟩; have n8_ : Aside0 (Kd.C (Kd.int .i64) w14 (some ad343) ((rd_T42 l0 x6_1).f1).length ((rd_T42 l0 x6_1).f1)) := ⟨by rw [← hq_]; exact (by repeat (first | (with_reducible exact HR340_1.out) | (with_reducible first | refine yV ?_ _ | refine yW ?_ _ | refine yX ?_) | exact HR340_1.out))⟩; have n9_ : Aside0 (Kd.C (Kd.int .i64) w14 (some ad341) ((rd_T42 l0 x6_1).f0).length ((rd_T42 l0 x6_1).f0)) := ⟨by rw [← hq_]; exact (by repeat (first | (with_reducible exact HR342_0.out) | (with_reducible first | refine yV ?_ _ | refine yW ?_ _ | refine yX ?_) | exact HR342_0.out))⟩; have n10_ : Aside0 (Kd.C (Kd.int .i64) w14 (some ad343) ((rd_T42 l0 x6_1).f1).length ((rd_T42 l0 x6_1).f1)) := ⟨by rw [← hq_]; exact (by repeat (first | (with_reducible exact HR342_1.out) | (with_reducible first | refine yV ?_ _ | refine yW ?_ _ | refine yX ?_) | exact HR342_1.out))⟩; clear HL340_0 HL340_1 HL342_0 HL342_1 HO_0 HO_5 HB HR340_0 HR340_1 HR342_0 HR342_1 hq_; have HL340_0 := n0_; have HL340_1 := n1_; have HL342_0 := n2_; have HL342_1 := n3_; have HO_0 := n4_; have HO_5 := n5_; have HB := n6_; have HR340_0 := n7_; have HR340_1 := n8_; have HR342_0 := n9_; have HR342_1 := n10_; clear n0_ n1_ n2_ n3_ n4_ n5_ n6_ n7_ n8_ n9_ n10_))
           have n0_ := yD (Kd.V_drew HO_0.out)
           have n1_ := yD (Kd.N_drew HO_5.out)
           have n2_ := yD (Kd.V_drew HL340_0.out)
           have n3_ := yD (Kd.V_drew HL340_1.out)
           have n4_ := yD (Kd.V_drew HL342_0.out)
           have n5_ := yD (Kd.V_drew HL342_1.out)
           have n6_ := yD (yX HR340_0.out)
           have n7_ := yD (yX HR340_1.out)
           have n8_ := yD (yX HR342_0.out)
           have n9_ := yD (yX HR342_1.out)
           have n10_ := yD (yP HB.out)
           clear HO_0 HO_5 HL340_0 HL340_1 HL342_0 HL342_1 HR340_0 HR340_1 HR342_0 HR342_1 HB; have HO_0 := n0_; have HO_5 := n1_; have HL340_0 := n2_; have HL340_1 := n3_; have HL342_0 := n4_; have HL342_1 := n5_; have HR340_0 := n6_; have HR340_1 := n7_; have HR342_0 := n8_; have HR342_1 := n9_; have HB := n10_; clear n0_ n1_ n2_ n3_ n4_ n5_ n6_ n7_ n8_ n9_ n10_
           have p345 : 0 ≤ (x6_1 : Int) := zP (by assumption)
           have q345 : x6_1 < (l0.length : Int) := zP (by assumption)
           obtain ⟨ad345, A345_0, c345_0, A345_1, c345_1, e345, hx345_0, hx345_1, hl345_0, hi345_0, hl345_1, hi345_1⟩ := at_T42 (Kd.V_reads' HO_0.out).2.2 x6_1 p345 q345
           obtain rfl : ad340 = ad345 := (by injection e345)
           obtain ⟨ce345, hce345, hMe345, hcc345⟩ := Kd.V_get HO_0.out z42 x6_1 p345 (by first | exact q345 | exact zP (by assumption) | (have e_ := (Kd.V_reads' HO_0.out).1; omega))
           obtain ⟨ua345_0, uc345_0, ua345_1, uc345_1, rfl, ul345_0, ge345_0, ul345_1, ge345_1⟩ := k42_openF hMe345
           have hv345_0 := hcc345 0 _ rfl
           rw [Nat.add_zero] at hv345_0
           replace hv345_0 := Option.some.inj (hv345_0.symm.trans hx345_0)
           injection hv345_0 with hva_ hvn_ hvc_
           rw [hva_] at ge345_0
           rw [hvc_] at ul345_0
           have HL345_0 := yD (show Kd.V (Kd.int .i64) 2 _ w.heap.size _ _ ((rd_T42 l0 x6_1).f0) from Kd.V_mk ul345_0 ge345_0)
           clear hva_ hvn_ hvc_ ge345_0 ul345_0
           have hv345_1 := hcc345 1 _ rfl
           rw [add_field _ _ 1 (by omega)] at hv345_1
           replace hv345_1 := Option.some.inj (hv345_1.symm.trans hx345_1)
           injection hv345_1 with hva_ hvn_ hvc_
           rw [hva_] at ge345_1
           rw [hvc_] at ul345_1
           have HL345_1 := yD (show Kd.V (Kd.int .i64) 2 _ w.heap.size _ _ ((rd_T42 l0 x6_1).f1) from Kd.V_mk ul345_1 ge345_1)
           clear hva_ hvn_ hvc_ ge345_1 ul345_1 hcc345 hce345
           have HR345_0 := yD hi345_0
           have HC345_0 := yD hl345_0
           clear hi345_0 hl345_0
           have HR345_1 := yD hi345_1
           have HC345_1 := yD hl345_1
           clear hi345_1 hl345_1; replace p345 := eq_true p345; replace q345 := eq_true q345
           have q16 : (1 : Int) ≤ ((((rd_T42 l0 x6_1).f0).length : Int) : Int) := zP (by assumption)
           obtain ⟨i016, hi016, _, hsz16, _⟩ := info_parts info2
           have hroom16 : ((rd_T42 l0 x6_1).f0).length ≤ c345_0 := HC345_0.out
           have hC16 : Kd.F (Kd.int .i64) _ _ A345_0 ((rd_T42 l0 x6_1).f0).length ((rd_T42 l0 x6_1).f0) := (Kd.V_at (base := w.heap.size) HL345_0.out).2.2
           have hcut16 := cut_from (P := Try.prog) 36 2 .i64 Try.underlying36 hi016 1 hsz16 A345_0 ((rd_T42 l0 x6_1).f0).length c345_0 1 (by omega) q16
           have hr16 := Kd.F_cut (m := (1 : Int).toNat) (c := c345_0) hC16 (by omega) hroom16
           obtain ⟨A16, hA16⟩ : ∃ A1, A1 = (if c345_0 = (1 : Int).toNat then A345_0 else (A345_0 : Option Addr).map (·.add ((1 : Int).toNat * 1))) := ⟨_, rfl⟩
           obtain ⟨c16, hc16⟩ : ∃ c1, c1 = c345_0 - (1 : Int).toNat := ⟨_, rfl⟩
           have hy16 : y346.length = ((rd_T42 l0 x6_1).f0).length - (1 : Int).toNat := (by rw [Ny346.out, zN] <;> omega)
           rw [show ((rd_T42 l0 x6_1).f0).drop (1 : Int).toNat = y346 from Ny346.out.symm] at hr16
           replace hr16 : Kd.F (Kd.int .i64) _ _ A16 y346.length y346 := (by rw [hA16]; exact hr16)
           rw [← hy16, ← hA16, ← hc16] at hcut16
           have HO350 := yD (show Kd.V (Kd.int .i64) 2 _ w.heap.size _ (.slice A16 y346.length c16) y346 from Kd.V_mk (by rw [hy16, hc16]; exact Nat.sub_le_sub_right hroom16 _) hr16)
           have HC350 := yD (show y346.length ≤ c16 from by rw [hy16, hc16]; exact Nat.sub_le_sub_right hroom16 _)
           clear hr16 hC16 hroom16 hi016 hsz16 hc16
           have KY16 := yD hy16
           have KA16 := yD hA16
           clear hy16 hA16; replace q16 := eq_true q16
           have p351 : 0 ≤ (x6_1 : Int) := zP (by assumption)
           have q351 : x6_1 < (l0.length : Int) := zP (by assumption)
           obtain ⟨ad351, A351_0, c351_0, A351_1, c351_1, e351, hx351_0, hx351_1, hl351_0, hi351_0, hl351_1, hi351_1⟩ := at_T42 (Kd.V_reads' HO_0.out).2.2 x6_1 p351 q351
           obtain rfl : ad340 = ad351 := (by injection e351)
           obtain ⟨ce351, hce351, hMe351, hcc351⟩ := Kd.V_get HO_0.out z42 x6_1 p351 (by first | exact q351 | exact zP (by assumption) | (have e_ := (Kd.V_reads' HO_0.out).1; omega))
           obtain ⟨ua351_0, uc351_0, ua351_1, uc351_1, rfl, ul351_0, ge351_0, ul351_1, ge351_1⟩ := k42_openF hMe351
           have hv351_0 := hcc351 0 _ rfl
           rw [Nat.add_zero] at hv351_0
           replace hv351_0 := Option.some.inj (hv351_0.symm.trans hx351_0)
           injection hv351_0 with hva_ hvn_ hvc_
           rw [hva_] at ge351_0
           rw [hvc_] at ul351_0
           have HL351_0 := yD (show Kd.V (Kd.int .i64) 2 _ w.heap.size _ _ ((rd_T42 l0 x6_1).f0) from Kd.V_mk ul351_0 ge351_0)
           clear hva_ hvn_ hvc_ ge351_0 ul351_0
           have hv351_1 := hcc351 1 _ rfl
           rw [add_field _ _ 1 (by omega)] at hv351_1
           replace hv351_1 := Option.some.inj (hv351_1.symm.trans hx351_1)
           injection hv351_1 with hva_ hvn_ hvc_
           rw [hva_] at ge351_1
           rw [hvc_] at ul351_1
           have HL351_1 := yD (show Kd.V (Kd.int .i64) 2 _ w.heap.size _ _ ((rd_T42 l0 x6_1).f1) from Kd.V_mk ul351_1 ge351_1)
           clear hva_ hvn_ hvc_ ge351_1 ul351_1 hcc351 hce351
           have HR351_0 := yD hi351_0
           have HC351_0 := yD hl351_0
           clear hi351_0 hl351_0
           have HR351_1 := yD hi351_1
           have HC351_1 := yD hl351_1
           clear hi351_1 hl351_1; replace p351 := eq_true p351; replace q351 := eq_true q351
           have ea_ := Option.some.inj (hx345_0.symm.trans hx351_0)
           injection ea_ with ea_ en_ ec_
           subst ea_; subst ec_; clear en_
           have ea_ := Option.some.inj (hx345_1.symm.trans hx351_1)
           injection ea_ with ea_ en_ ec_
           subst ea_; subst ec_; clear en_
           have q17 : (1 : Int) ≤ ((((rd_T42 l0 x6_1).f1).length : Int) : Int) := zP (by assumption)
           obtain ⟨i017, hi017, _, hsz17, _⟩ := info_parts info2
           have hroom17 : ((rd_T42 l0 x6_1).f1).length ≤ c345_1 := HC351_1.out
           have hC17 : Kd.F (Kd.int .i64) _ _ A345_1 ((rd_T42 l0 x6_1).f1).length ((rd_T42 l0 x6_1).f1) := (Kd.V_at (base := w.heap.size) HL351_1.out).2.2
           have hcut17 := cut_from (P := Try.prog) 36 2 .i64 Try.underlying36 hi017 1 hsz17 A345_1 ((rd_T42 l0 x6_1).f1).length c345_1 1 (by omega) q17
           have hr17 := Kd.F_cut (m := (1 : Int).toNat) (c := c345_1) hC17 (by omega) hroom17
           obtain ⟨A17, hA17⟩ : ∃ A1, A1 = (if c345_1 = (1 : Int).toNat then A345_1 else (A345_1 : Option Addr).map (·.add ((1 : Int).toNat * 1))) := ⟨_, rfl⟩
           obtain ⟨c17, hc17⟩ : ∃ c1, c1 = c345_1 - (1 : Int).toNat := ⟨_, rfl⟩
           have hy17 : y352.length = ((rd_T42 l0 x6_1).f1).length - (1 : Int).toNat := (by rw [Ny352.out, zN] <;> omega)
           rw [show ((rd_T42 l0 x6_1).f1).drop (1 : Int).toNat = y352 from Ny352.out.symm] at hr17
           replace hr17 : Kd.F (Kd.int .i64) _ _ A17 y352.length y352 := (by rw [hA17]; exact hr17)
           rw [← hy17, ← hA17, ← hc17] at hcut17
           have HO356 := yD (show Kd.V (Kd.int .i64) 2 _ w.heap.size _ (.slice A17 y352.length c17) y352 from Kd.V_mk (by rw [hy17, hc17]; exact Nat.sub_le_sub_right hroom17 _) hr17)
           have HC356 := yD (show y352.length ≤ c17 from by rw [hy17, hc17]; exact Nat.sub_le_sub_right hroom17 _)
           clear hr17 hC17 hroom17 hi017 hsz17 hc17
           have KY17 := yD hy17
           have KA17 := yD hA17
           clear hy17 hA17; replace q17 := eq_true q17
           refine start_ (n := 17) (S := fun w' => w'.cell? (ad340.add ((x6_1).toNat * 2)) = some (.slice A345_0 ((rd_T42 l0 x6_1).f0).length c345_0) ∧ w'.cell? ⟨(ad340.add ((x6_1).toNat * 2)).block, (ad340.add ((x6_1).toNat * 2)).off + 1, none⟩ = some (.slice A345_1 ((rd_T42 l0 x6_1).f1).length c345_1) ∧ w'.cell? (ad340.add ((x6_1).toNat * 2)) = some (.slice A345_0 ((rd_T42 l0 x6_1).f0).length c345_0) ∧ w'.cell? ⟨(ad340.add ((x6_1).toNat * 2)).block, (ad340.add ((x6_1).toNat * 2)).off + 1, none⟩ = some (.slice A345_1 ((rd_T42 l0 x6_1).f1).length c345_1)) (ds := [14, 15]) (bz 17 0) (by kernel_rfl) rfl rfl ⟨hx345_0, hx345_1, hx351_0, hx351_1⟩ (fun hHeld => ?_); refine with_tabW spec_l07Cross.tab6 spec_l07Cross.bits6 (fun HT_ HW_ => ?_)
           generalize w14.drew = w15 at HO_0 HO_5 HL340_0 HL340_1 HL342_0 HL342_1 HR340_0 HR340_1 HR342_0 HR342_1 HB HL345_0 HL345_1 HL351_0 HL351_1 HO350 HO356 HR345_0 HR345_1 HR351_0 HR351_1 hx345_0 hx345_1 hx351_0 hx351_1 hHeld ⊢
           refine qA 0 31 (bz 17 1) HT_ ?_
           refine qA 1 32 (bz 17 3) HT_ ?_
           refine qA 2 33 (bz 17 7) HT_ ?_
           refine qA 3 34 (bz 17 15) HT_ ?_
           refine qA 4 35 (bz 17 31) HT_ ?_
           refine qA 7 38 (bz 17 159) HT_ ?_
           refine qA 8 39 (bz 17 415) HT_ ?_
           refine qA 9 40 (bz 17 927) HT_ ?_
           refine qA 10 41 (bz 17 1951) HT_ ?_
           refine qC 5 36 (bz 17 1983) HT_ HW_ hHeld ?_ (hy := by rintro w' ⟨s0, s1, s2, s3⟩; go_simp; with_reducible rfl)
           refine qA 6 37 (bz 17 2047) HT_ ?_
           refine qC 11 42 (bz 17 4095) HT_ HW_ hHeld ?_ (hy := by rintro w' ⟨s0, s1, s2, s3⟩; go_simp; with_reducible rfl)
           refine qA 12 43 (bz 17 8191) HT_ ?_
           refine qA 13 44 (bz 17 16383) HT_ ?_
           refine last_ (i := 14) (N := some 45) #[true, true, true, true, true, true, true, true, true, true, true, true, true, true, true, false, false] rfl rfl (one_of HT_.out (by kernel_rfl)) (by decide) (fun K hK => ?_)
           refine value_ (w1 := ?_) (v := ?_) (by rfl) rfl ?_ ?_
           rotate_left 2
           · go_simp
             constructor
             · rfl
             · rfl
           refine hK.out _ _ ?_
           clear hK K
           refine norm_ (a' := ?_) ?_ ?_
           rotate_left
           · show Act.put _ (some 45) _ = _
             simp only [Act.put, zH, zI, zJ, i64_w, i32_w]
             rfl
           refine last_ (i := 15) (N := some 46) #[true, true, true, true, true, true, true, true, true, true, true, true, true, true, true, true, false] rfl rfl (one_of HT_.out (by kernel_rfl)) (by decide) (fun K hK => ?_)
           refine Kd.N_append_step k42 (w0 := w) w.heap.size (by rfl) (.tmp 31) (.tmp 45) 24 42 (.agg #[(.slice none 0 0), (.slice none 0 0)]) 48 rfl Try.underlying24 info42 rfl (by decide) (by omega) u5 x5_1 (⟨y346, y352⟩ : S42) [.slice A16 y346.length c16, .slice A17 y352.length c17] (fun k_ => (P0_ k_ ∨ w.heap.size ≤ k_)) (fun k_ => ((fun k_ => (P0_ k_ ∨ w.heap.size ≤ k_))) k_ ∧ some k_ ≠ (u5 : Value).ownBlock) rfl rfl ?aP (fun _ hk => hk) ?aF ?aO ?aB ?aS ?aL ?_
           (case aP => exact (k42_mkF _ _ (⟨y346, y352⟩ : S42) (Kd.V_reads' (Kd.V_mono (ok' := (fun k_ => ((fun k_ => (P0_ k_ ∨ w.heap.size ≤ k_))) k_ ∧ some k_ ≠ (u5 : Value).ownBlock)) (HO350.out) (fun k_ hk => ⟨hk.1, hk.2⟩))).2.1 (Kd.V_F (Kd.V_mono (ok' := (fun k_ => ((fun k_ => (P0_ k_ ∨ w.heap.size ≤ k_))) k_ ∧ some k_ ≠ (u5 : Value).ownBlock)) (HO350.out) (fun k_ hk => ⟨hk.1, hk.2⟩))) (Kd.V_reads' (Kd.V_mono (ok' := (fun k_ => ((fun k_ => (P0_ k_ ∨ w.heap.size ≤ k_))) k_ ∧ some k_ ≠ (u5 : Value).ownBlock)) (HO356.out) (fun k_ hk => ⟨hk.1, hk.2⟩))).2.1 (Kd.V_F (Kd.V_mono (ok' := (fun k_ => ((fun k_ => (P0_ k_ ∨ w.heap.size ≤ k_))) k_ ∧ some k_ ≠ (u5 : Value).ownBlock)) (HO356.out) (fun k_ hk => ⟨hk.1, hk.2⟩)))))
           (case aB => exact (kB HB))
           (case aF => exact (fun k_ hk => (.inr (Nat.le_trans (below_size (kB HB)) hk))))
           (case aO => exact (by (with_reducible repeat (first | apply Kd.N_alloc | apply Kd.N_drewN | apply Kd.N_drew)); exact HO_5.out))
           (case aS => exact (below_size (kB HB)))
           (case aL => have := LMc13.out; omega)
           intro v358 w18 ho hb hg hat
           rw [← Ny357.out] at ho
           have n0_ := yD (Kd.V_afterv (ok := (fun k_ => (P0_ k_ ∨ w.heap.size ≤ k_))) (by (with_reducible repeat (first | apply Kd.V_alloc | apply Kd.V_drewN | apply Kd.V_drew)); exact HO_0.out) hg hat)
           have n1_ := yD (Kd.V_afterv (ok := (fun k_ => (P0_ k_ ∨ w.heap.size ≤ k_))) (by (with_reducible repeat (first | apply Kd.V_alloc | apply Kd.V_drewN | apply Kd.V_drew)); exact HL340_0.out) hg hat)
           have n2_ := yD (Kd.V_afterv (ok := (fun k_ => (P0_ k_ ∨ w.heap.size ≤ k_))) (by (with_reducible repeat (first | apply Kd.V_alloc | apply Kd.V_drewN | apply Kd.V_drew)); exact HL340_1.out) hg hat)
           have n3_ := yD (Kd.V_afterv (ok := (fun k_ => (P0_ k_ ∨ w.heap.size ≤ k_))) (by (with_reducible repeat (first | apply Kd.V_alloc | apply Kd.V_drewN | apply Kd.V_drew)); exact HL342_0.out) hg hat)
           have n4_ := yD (Kd.V_afterv (ok := (fun k_ => (P0_ k_ ∨ w.heap.size ≤ k_))) (by (with_reducible repeat (first | apply Kd.V_alloc | apply Kd.V_drewN | apply Kd.V_drew)); exact HL342_1.out) hg hat)
           have n5_ := yD (Kd.V_afterv (ok := (fun k_ => (P0_ k_ ∨ w.heap.size ≤ k_))) (by (with_reducible repeat (first | apply Kd.V_alloc | apply Kd.V_drewN | apply Kd.V_drew)); exact HL345_0.out) hg hat)
           have n6_ := yD (Kd.V_afterv (ok := (fun k_ => (P0_ k_ ∨ w.heap.size ≤ k_))) (by (with_reducible repeat (first | apply Kd.V_alloc | apply Kd.V_drewN | apply Kd.V_drew)); exact HL345_1.out) hg hat)
           have n7_ := yD (Kd.V_afterv (ok := (fun k_ => (P0_ k_ ∨ w.heap.size ≤ k_))) (by (with_reducible repeat (first | apply Kd.V_alloc | apply Kd.V_drewN | apply Kd.V_drew)); exact HO350.out) hg hat)
           have n8_ := yD (Kd.V_afterv (ok := (fun k_ => (P0_ k_ ∨ w.heap.size ≤ k_))) (by (with_reducible repeat (first | apply Kd.V_alloc | apply Kd.V_drewN | apply Kd.V_drew)); exact HL351_0.out) hg hat)
           have n9_ := yD (Kd.V_afterv (ok := (fun k_ => (P0_ k_ ∨ w.heap.size ≤ k_))) (by (with_reducible repeat (first | apply Kd.V_alloc | apply Kd.V_drewN | apply Kd.V_drew)); exact HL351_1.out) hg hat)
           have n10_ := yD (Kd.V_afterv (ok := (fun k_ => (P0_ k_ ∨ w.heap.size ≤ k_))) (by (with_reducible repeat (first | apply Kd.V_alloc | apply Kd.V_drewN | apply Kd.V_drew)); exact HO356.out) hg hat)
           have n11_ := yD (hb)
           have n12_ := yD (ho)
           clear HO_0 HL340_0 HL340_1 HL342_0 HL342_1 HL345_0 HL345_1 HO350 HL351_0 HL351_1 HO356 HB HO_5; have HO_0 := n0_; have HL340_0 := n1_; have HL340_1 := n2_; have HL342_0 := n3_; have HL342_1 := n4_; have HL345_0 := n5_; have HL345_1 := n6_; have HO350 := n7_; have HL351_0 := n8_; have HL351_1 := n9_; have HO356 := n10_; have HB := n11_; have HO359 := n12_; clear n0_ n1_ n2_ n3_ n4_ n5_ n6_ n7_ n8_ n9_ n10_ n11_ n12_ ho hb hg hat
           refine hK.out _ _ ?_
           clear hK K
           refine norm_ (a' := ?_) ?_ ?_
           rotate_left
           · show Act.put _ (some 46) _ = _
             simp only [Act.put, zH, zI, zJ, i64_w, i32_w]
             rfl
           refine qA 16 5 (bz 17 131071) HT_ ?_
           refine done_ (done_of HT_.out (by kernel_rfl)) ?_
           try go_wp2
           go_roundg k1
           case measure => have := HK1.out; omega
           case rel => exact ⟨(y357), (wrap64 (x6_1 + 1)), (by first | rfl | (simp; done) | (simp [*]; done)), H', ⟨by have := HK1.out; omega⟩, ⟨by (with_reducible repeat (first | apply Kd.V_alloc | apply Kd.V_drewN | apply Kd.V_drew)); exact HO_0.out⟩, ⟨by (with_reducible repeat (first | apply Kd.N_alloc | apply Kd.N_drewN | apply Kd.N_drew)); exact HO359.out⟩, ⟨kR0 HB⟩⟩
          · rw [if_neg c13] at H
            exact absurd H (by simp)
         · rw [if_neg c12] at H
           exact absurd H (by simp)
        · rw [if_neg c11] at H
          exact absurd H (by simp)
       ·
        replace c10 := Bool.eq_false_iff.mpr c10
        subst c10
        have H1 : (spec_l07Cross.l0 k1 l0 a1 x5_1 (wrap64 (x6_1 + 1))) = some r := by rw [if_neg (show ¬ (false = true) by decide)] at H; exact H
        clear H; have H := H1; clear H1
        have H' := yD H
        clear H
        try go_wp2
        have n0_ := yD (Kd.V_drew HO_0.out)
        have n1_ := yD (Kd.N_drew HO_5.out)
        have n2_ := yD (yP HB.out)
        clear HO_0 HO_5 HB; have HO_0 := n0_; have HO_5 := n1_; have HB := n2_; clear n0_ n1_ n2_
        have p340 : 0 ≤ (x6_1 : Int) := zP (by assumption)
        have q340 : x6_1 < (l0.length : Int) := zP (by assumption)
        obtain ⟨ad340, A340_0, c340_0, A340_1, c340_1, e340, hx340_0, hx340_1, hl340_0, hi340_0, hl340_1, hi340_1⟩ := at_T42 (Kd.V_reads' HO_0.out).2.2 x6_1 p340 q340
        cases e340
        obtain ⟨ce340, hce340, hMe340, hcc340⟩ := Kd.V_get HO_0.out z42 x6_1 p340 (by first | exact q340 | exact zP (by assumption) | (have e_ := (Kd.V_reads' HO_0.out).1; omega))
        obtain ⟨ua340_0, uc340_0, ua340_1, uc340_1, rfl, ul340_0, ge340_0, ul340_1, ge340_1⟩ := k42_openF hMe340
        have hv340_0 := hcc340 0 _ rfl
        rw [Nat.add_zero] at hv340_0
        replace hv340_0 := Option.some.inj (hv340_0.symm.trans hx340_0)
        injection hv340_0 with hva_ hvn_ hvc_
        rw [hva_] at ge340_0
        rw [hvc_] at ul340_0
        have HL340_0 := yD (show Kd.V (Kd.int .i64) 2 _ w.heap.size _ _ ((rd_T42 l0 x6_1).f0) from Kd.V_mk ul340_0 ge340_0)
        clear hva_ hvn_ hvc_ ge340_0 ul340_0
        have hv340_1 := hcc340 1 _ rfl
        rw [add_field _ _ 1 (by omega)] at hv340_1
        replace hv340_1 := Option.some.inj (hv340_1.symm.trans hx340_1)
        injection hv340_1 with hva_ hvn_ hvc_
        rw [hva_] at ge340_1
        rw [hvc_] at ul340_1
        have HL340_1 := yD (show Kd.V (Kd.int .i64) 2 _ w.heap.size _ _ ((rd_T42 l0 x6_1).f1) from Kd.V_mk ul340_1 ge340_1)
        clear hva_ hvn_ hvc_ ge340_1 ul340_1 hcc340 hce340
        have HR340_0 := yD hi340_0
        have HC340_0 := yD hl340_0
        clear hi340_0 hl340_0
        have HR340_1 := yD hi340_1
        have HC340_1 := yD hl340_1
        clear hi340_1 hl340_1; replace p340 := eq_true p340; replace q340 := eq_true q340
        have p341 : 0 ≤ (0 : Int) := (by omega)
        have q341 : 0 < (((rd_T42 l0 x6_1).f0).length : Int) := zP (by assumption)
        obtain ⟨ad341, e341, hx341_0⟩ := Kd.at_int (by repeat (first | (with_reducible exact HR340_0.out) | (with_reducible first | refine yV ?_ _ | refine yW ?_ _ | refine yX ?_) | exact HR340_0.out)) 0 p341 q341
        cases e341
        have qi341 : (0 < ((rd_T42 l0 x6_1).f0).length) = True := eq_true (by omega)
        (try rw [show ((0 : Int)).toNat = 0 from rfl] at hx341_0)
        (try rw [Addr.add_zero'] at hx341_0)
        replace p341 := eq_true p341; replace q341 := eq_true q341
        have p342 : 0 ≤ (x6_1 : Int) := zP (by assumption)
        have q342 : x6_1 < (l0.length : Int) := zP (by assumption)
        obtain ⟨ad342, A342_0, c342_0, A342_1, c342_1, e342, hx342_0, hx342_1, hl342_0, hi342_0, hl342_1, hi342_1⟩ := at_T42 (Kd.V_reads' HO_0.out).2.2 x6_1 p342 q342
        obtain rfl : ad340 = ad342 := (by injection e342)
        obtain ⟨ce342, hce342, hMe342, hcc342⟩ := Kd.V_get HO_0.out z42 x6_1 p342 (by first | exact q342 | exact zP (by assumption) | (have e_ := (Kd.V_reads' HO_0.out).1; omega))
        obtain ⟨ua342_0, uc342_0, ua342_1, uc342_1, rfl, ul342_0, ge342_0, ul342_1, ge342_1⟩ := k42_openF hMe342
        have hv342_0 := hcc342 0 _ rfl
        rw [Nat.add_zero] at hv342_0
        replace hv342_0 := Option.some.inj (hv342_0.symm.trans hx342_0)
        injection hv342_0 with hva_ hvn_ hvc_
        rw [hva_] at ge342_0
        rw [hvc_] at ul342_0
        have HL342_0 := yD (show Kd.V (Kd.int .i64) 2 _ w.heap.size _ _ ((rd_T42 l0 x6_1).f0) from Kd.V_mk ul342_0 ge342_0)
        clear hva_ hvn_ hvc_ ge342_0 ul342_0
        have hv342_1 := hcc342 1 _ rfl
        rw [add_field _ _ 1 (by omega)] at hv342_1
        replace hv342_1 := Option.some.inj (hv342_1.symm.trans hx342_1)
        injection hv342_1 with hva_ hvn_ hvc_
        rw [hva_] at ge342_1
        rw [hvc_] at ul342_1
        have HL342_1 := yD (show Kd.V (Kd.int .i64) 2 _ w.heap.size _ _ ((rd_T42 l0 x6_1).f1) from Kd.V_mk ul342_1 ge342_1)
        clear hva_ hvn_ hvc_ ge342_1 ul342_1 hcc342 hce342
        have HR342_0 := yD hi342_0
        have HC342_0 := yD hl342_0
        clear hi342_0 hl342_0
        have HR342_1 := yD hi342_1
        have HC342_1 := yD hl342_1
        clear hi342_1 hl342_1; replace p342 := eq_true p342; replace q342 := eq_true q342
        have ea_ := Option.some.inj (hx340_0.symm.trans hx342_0)
        injection ea_ with ea_ en_ ec_
        subst ea_; subst ec_; clear en_
        have ea_ := Option.some.inj (hx340_1.symm.trans hx342_1)
        injection ea_ with ea_ en_ ec_
        subst ea_; subst ec_; clear en_
        have p343 : 0 ≤ (0 : Int) := (by omega)
        have q343 : 0 < (((rd_T42 l0 x6_1).f1).length : Int) := zP (by assumption)
        obtain ⟨ad343, e343, hx343_0⟩ := Kd.at_int (by repeat (first | (with_reducible exact HR342_1.out) | (with_reducible first | refine yV ?_ _ | refine yW ?_ _ | refine yX ?_) | exact HR342_1.out)) 0 p343 q343
        cases e343
        have qi343 : (0 < ((rd_T42 l0 x6_1).f1).length) = True := eq_true (by omega)
        (try rw [show ((0 : Int)).toNat = 0 from rfl] at hx343_0)
        (try rw [Addr.add_zero'] at hx343_0)
        replace p343 := eq_true p343; replace q343 := eq_true q343
        refine start_ (n := 17) (S := fun w' => w'.cell? (ad340.add ((x6_1).toNat * 2)) = some (.slice (some ad341) ((rd_T42 l0 x6_1).f0).length c340_0) ∧ w'.cell? ⟨(ad340.add ((x6_1).toNat * 2)).block, (ad340.add ((x6_1).toNat * 2)).off + 1, none⟩ = some (.slice (some ad343) ((rd_T42 l0 x6_1).f1).length c340_1) ∧ w'.cell? ad341 = some (.int .i64 (rd ((rd_T42 l0 x6_1).f0) 0)) ∧ w'.cell? (ad340.add ((x6_1).toNat * 2)) = some (.slice (some ad341) ((rd_T42 l0 x6_1).f0).length c340_0) ∧ w'.cell? ⟨(ad340.add ((x6_1).toNat * 2)).block, (ad340.add ((x6_1).toNat * 2)).off + 1, none⟩ = some (.slice (some ad343) ((rd_T42 l0 x6_1).f1).length c340_1) ∧ w'.cell? ad343 = some (.int .i64 (rd ((rd_T42 l0 x6_1).f1) 0))) (ds := []) (bz 17 0) (by kernel_rfl) rfl rfl ⟨hx340_0, hx340_1, hx341_0, hx342_0, hx342_1, hx343_0⟩ (fun hHeld => ?_); refine with_tabW spec_l07Cross.tab5 spec_l07Cross.bits5 (fun HT_ HW_ => ?_)
        generalize wr.drew = w19 at HO_0 HO_5 HB HL340_0 HL340_1 HL342_0 HL342_1 HR340_0 HR340_1 HR342_0 HR342_1 hx340_0 hx340_1 hx341_0 hx342_0 hx342_1 hx343_0 hHeld ⊢
        refine qA 0 14 (bz 17 1) HT_ ?_
        refine qA 1 15 (bz 17 3) HT_ ?_
        refine qA 2 16 (bz 17 7) HT_ ?_
        refine qA 3 17 (bz 17 15) HT_ ?_
        refine qA 4 18 (bz 17 31) HT_ ?_
        refine qA 8 22 (bz 17 287) HT_ ?_
        refine qA 9 23 (bz 17 799) HT_ ?_
        refine qA 10 24 (bz 17 1823) HT_ ?_
        refine qA 11 25 (bz 17 3871) HT_ ?_
        refine qC 5 19 (bz 17 3903) HT_ HW_ hHeld ?_ (hy := by rintro w' ⟨s0, s1, s2, s3, s4, s5⟩; go_simp; with_reducible rfl)
        refine qA 6 20 (bz 17 3967) HT_ ?_
        refine qC 7 21 (bz 17 4095) HT_ HW_ hHeld ?_ (hy := by rintro w' ⟨s0, s1, s2, s3, s4, s5⟩; go_simp; with_reducible rfl)
        refine qC 12 26 (bz 17 8191) HT_ HW_ hHeld ?_ (hy := by rintro w' ⟨s0, s1, s2, s3, s4, s5⟩; go_simp; with_reducible rfl)
        refine qA 13 27 (bz 17 16383) HT_ ?_
        refine qC 14 28 (bz 17 32767) HT_ HW_ hHeld ?_ (hy := by rintro w' ⟨s0, s1, s2, s3, s4, s5⟩; go_simp; with_reducible rfl)
        refine qA 15 29 (bz 17 65535) HT_ ?_
        refine one_ (i := 16) (N := some 30) (bz 17 131071) rfl rfl (one_of HT_.out (by kernel_rfl)) (by decide) (fun K hK => ?_)
        refine goes_ Try.func92 (by kernel_rfl) rfl #[.int .i64 a1, .int .i64 (rd ((rd_T42 l0 x6_1).f0) 0), .int .i64 (wrap64 ((rd ((rd_T42 l0 x6_1).f1) 0) - 1))] (by rfl) rfl rfl (by (try simp only [zK, zL, zM]); first | done | rfl | (simp only [zN, zO]; rfl)) ?_
        with_reducible refine (spec_l00In.calls a1 (rd ((rd_T42 l0 x6_1).f0) 0) (wrap64 ((rd ((rd_T42 l0 x6_1).f1) 0) - 1)) false _ A9.out).mono ?_
        rintro e w' ⟨rfl, ⟨nd, rfl⟩⟩
        refine ⟨_, rfl, ?_⟩
        refine hK.out _ _ ⟨hHeld.1, hHeld.2.1, hHeld.2.2.1, hHeld.2.2.2.1, hHeld.2.2.2.2.1, hHeld.2.2.2.2.2⟩ (fun hHeld => ?_)
        clear hK K
        refine norm_ (a' := ?_) ?_ ?_
        rotate_left
        · show Act.put _ (some 30) _ = _
          simp only [Act.put, zH, zI, zJ, i64_w, i32_w]
          rfl
        refine done_ (done_of HT_.out (by kernel_rfl)) ?_
        try go_wp2
        go_roundg k1
        case measure => have := HK1.out; omega
        case rel => exact ⟨(x5_1), (wrap64 (x6_1 + 1)), (by first | rfl | (simp; done) | (simp [*]; done)), H', ⟨by have := HK1.out; omega⟩, ⟨by (with_reducible repeat (first | apply Kd.V_alloc | apply Kd.V_drewN | apply Kd.V_drew)); exact HO_0.out⟩, ⟨by (with_reducible repeat (first | apply Kd.N_alloc | apply Kd.N_drewN | apply Kd.N_drew)); exact HO_5.out⟩, ⟨kR0 HB⟩⟩
      · rw [if_neg c8] at H
        exact absurd H (by simp)
     · rw [if_neg c7] at H
       exact absurd H (by simp)
    · rw [if_neg c6] at H
      exact absurd H (by simp)
   · rw [if_neg c5] at H
     have c5b0 : decide (x6_1 < (l0.length : Int)) = false := zS c5; clear c5; obtain rfl := Option.some.inj H
     go_wp2
     go_ret
     exact ⟨_, by first | rfl | (simp <;> rfl) | (simp [*] <;> rfl), by (with_reducible repeat (first | apply Kd.N_alloc | apply Kd.N_drewN | apply Kd.N_drew)); exact HO_5.out, kR0 HB⟩

end Go.Proofs.Ytdiaebjbiddefaa.PFnNormalForm
