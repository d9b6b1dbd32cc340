/- Each Go function here comes to what the plain function of its name says, where that says something. Made by a program of this session, over the print. -/
import Derived.Test.YtdiaebjbiddefaaPFnExactSubtractBoxesx0
import Derived.Test.YtdiaebjbiddefaaPFnExactSubtractBoxesx1
namespace Go.Proofs.Ytdiaebjbiddefaa.PFnExactSubtractBoxes
open Go.RowKit Go.Proofs.YtdiaebjbiddefaaW.PrintWords Go.Proofs.YtdiaebjbiddefaaW.PrintLast Go.Proofs.YtdiaebjbiddefaaW.PrintMore
attribute [local go_sem] max2_int min2_int max_two min_two max_three min_three max_four min_four   -- for this text's walks alone
set_option linter.unusedVariables false
set_option linter.unusedSimpArgs false

/-! ### spec_l07Cross: function 129 -/
def spec_l07Cross.l0 : Nat → List (S42) → Int → List (S42) → Int → Option ((List (S42)))
 | 0, _, _, _, _ => none
 | k + 1, x0, x1, x5, x6 => if x6 < (x0.length : Int) then (if 0 ≤ x6 then (if 0 < (((rd_T42 x0 x6).f0).length : Int) then (if 0 < (((rd_T42 x0 x6).f1).length : Int) then ((spec_l00In.f x1 (rd ((rd_T42 x0 x6).f0) 0) (wrap64 ((rd ((rd_T42 x0 x6).f1) 0) - 1))).bind fun t183 => (if t183 = true then (if 1 ≤ (((rd_T42 x0 x6).f0).length : Int) then (if 1 ≤ (((rd_T42 x0 x6).f1).length : Int) then (if x5.length < 2932031007402 then (spec_l07Cross.l0 k x0 x1 (x5 ++ [(⟨(((rd_T42 x0 x6).f0).drop 1), (((rd_T42 x0 x6).f1).drop 1)⟩ : S42)]) (wrap64 (x6 + 1))) else (none)) else (none)) else (none)) else (spec_l07Cross.l0 k x0 x1 x5 (wrap64 (x6 + 1))))) else (none)) else (none)) else (none)) else (some x5)
def spec_l07Cross.f (k : Nat) (l0 : List (S42)) (a1 : Int) : Option ((List (S42))) := spec_l07Cross.l0 k l0 a1 (([] : List (S42))) 0
theorem spec_l07Cross.mono_l : ∀ k, (∀ y0 y1 y2 y3, LeO (spec_l07Cross.l0 k y0 y1 y2 y3) (spec_l07Cross.l0 (k + 1) y0 y1 y2 y3))
 | 0 => fun _ _ _ _ r h => by simp [spec_l07Cross.l0] at h
 | k + 1 => by
  have ih0 := spec_l07Cross.mono_l k
  · intro y0 y1 y2 y3
    unfold spec_l07Cross.l0
    repeat' (with_reducible first | exact ih0 _ _ _ _ | exact LeO.refl _ | exact LeO.none _ | refine LeO.ite ?_ ?_ | refine LeO.bind ?_ (fun _ => ?_))
theorem spec_l07Cross.mono : ∀ a0 a1 k, LeO (spec_l07Cross.f k a0 a1) (spec_l07Cross.f (k + 1) a0 a1) := by
 intro a0 a1 k
 have ih0 := spec_l07Cross.mono_l k
 unfold spec_l07Cross.f
 repeat' (with_reducible first | exact ih0 _ _ _ _ | exact LeO.refl _ | exact LeO.none _ | refine LeO.ite ?_ ?_ | refine LeO.bind ?_ (fun _ => ?_))
def spec_l07Cross.T5 : Bool × List (List Nat × List Nat) := (true, [([], []), ([], []), ([], []), ([1, 2], [1, 2]), ([3], [3]), ([4], [4]), ([5], [5]), ([6], [6]), ([], []), ([], []), ([8, 9], [8, 9]), ([10], [10]), ([11], [11]), ([12], [12]), ([13], [13]), ([14], [14]), ([0, 7, 15], [0, 7, 15])])
def spec_l07Cross.B5 : List Nat := [0, 0, 0, 6, 14, 30, 62, 126, 0, 0, 768, 1792, 3840, 7936, 16128, 32512, 65535]
theorem spec_l07Cross.tab5 : rtab .any (opsOf Try.f129 5) = spec_l07Cross.T5 := by kernel_rfl
theorem spec_l07Cross.bits5 : waitsOk spec_l07Cross.T5.2 spec_l07Cross.B5 = true := by kernel_rfl
def spec_l07Cross.T6 : Bool × List (List Nat × List Nat) := (true, [([], []), ([], []), ([], []), ([1, 2], [1, 2]), ([3], [3]), ([4], [4]), ([5], [5]), ([], []), ([], []), ([7, 8], [7, 8]), ([9], [9]), ([10], [10]), ([11], [11]), ([6, 12], [6, 12]), ([13], [13]), ([0, 14], [0, 14]), ([15, 15, 0, 1, 2, 3, 4, 5, 6, 7, 8, 9, 10, 11, 12, 13, 14, 15], [0, 15])])
def spec_l07Cross.B6 : List Nat := [0, 0, 0, 6, 14, 30, 62, 0, 0, 384, 896, 1920, 3968, 8190, 16382, 32767, 65535]
theorem spec_l07Cross.tab6 : rtab .any (opsOf Try.f129 6) = spec_l07Cross.T6 := by kernel_rfl
theorem spec_l07Cross.bits6 : waitsOk spec_l07Cross.T6.2 spec_l07Cross.B6 = true := by kernel_rfl
set_option maxHeartbeats 8000000 in
set_option maxRecDepth 100000 in
theorem spec_l07Cross.calls (k : Nat) (P0_ : Nat → Prop) (A0 : Option Addr) (c0 : Nat) (l0 : List (S42)) (a1 : Int) (r : List (S42)) (w : World) (hs0 : Kd.V k42 42 w w.heap.size (fun k_ => P0_ k_) (.slice A0 l0.length c0) l0) (h : spec_l07Cross.f k l0 a1 = some r) :
 Calls Try.prog 129 #[.slice A0 l0.length c0, .int .i64 a1] w fun e w' => ∃ v0_ : Value, e = .returned (v0_) ∧ Kd.V k42 42 w' w.heap.size (fun k_ => (P0_ k_ ∨ w.heap.size ≤ k_)) v0_ r ∧ Below w.heap.size w w' := by
 have hu42 := Try.underlying42
 have HO0 := yD (show Kd.V k42 42 w w.heap.size (fun k_ => (P0_ k_ ∨ w.heap.size ≤ k_)) (.slice A0 l0.length c0) l0 from Kd.V_mono hs0 (fun k_ hk => .inl hk))
 have HB := yD (Below.refl w.heap.size w)
 have H : (spec_l07Cross.l0 k l0 a1 (([] : List (S42))) 0) = some r := h
 clear h
 obtain ⟨y176, hy176⟩ : ∃ y_ : List (S42), y_ = (([] : List (S42))) := ⟨_, rfl⟩
 replace H : (spec_l07Cross.l0 k l0 a1 y176 0) = some r := by first | (rw [hy176]; with_reducible exact H) | (have H2_ := (Option.bind_some _ _).symm.trans H; rw [hy176]; with_reducible exact H2_) | (have H2_ := (Option.bind_some _ _).symm.trans H; with_reducible exact H2_) | with_reducible exact H | (rw [hy176]; exact H) | exact H
 have Ny176 := yD hy176
 clear hy176
 have H' := yD H
 clear H; go_enter Try.func129, Try.ntmps129
 go_wp2_with (first | ((with_reducible refine gate_dst (N := 7) rfl ?_); refine Kd.N_lit k42 _ 42 ?hg (N' := 7) ?hd (xs := ([] : List (S42))) (inner := []) (ok := (fun k_ => (P0_ k_ ∨ w.heap.size ≤ k_))) (okp := (fun k_ => (P0_ k_ ∨ w.heap.size ≤ k_))) ?hr ?hp (fun _ hk => hk) ((show ∀ k_, w.heap.size ≤ k_ → (fun k_ => (P0_ k_ ∨ w.heap.size ≤ k_)) k_ from fun k_ hk => (.inr (Nat.le_trans (below_size (kB HB)) hk))) _ (Nat.le_refl _)) (Below.refl _ _) (Nat.le_refl _) (by simp) ?_; (case hd => rfl); (case hg => rfl); (case hr => first | (go_simp; done) | (go_simp; rfl)); (case hp => exact (Reps.none _ _)); intro v177 w3 ho4 hb hg_ hnew_; clear hg_ hnew_; (first | rw [← Ny176.out] at ho4 | (simp only [Int.reduceToNat] at ho4; rw [← Ny176.out] at ho4)); replace HO0 := yD (Kd.V_elder' (kU HO0) (Kd.N_base ho4) hb); have HO178 := yD (Kd.N_lower ho4 (below_size (kB HB))); replace HB := yD (zC (kB HB) hb); clear hb ho4))
 (try simp only [Act.put, zH, zI, zJ])
 go_loopg [5, 6] k (fun kq v5 v6 w' => ∃ (x5_1 : List (S42)) (x6_1 : Int), v6 = .int .i64 x6_1 ∧ Aside0 (spec_l07Cross.l0 kq l0 a1 x5_1 x6_1 = some r) ∧ Aside0 (kq ≤ k) ∧ Aside0 (Kd.V k42 42 w' w.heap.size (fun k_ => (P0_ k_ ∨ w.heap.size ≤ k_) ∧ oB v5 k_) (.slice A0 l0.length c0) l0) ∧ Aside0 (Kd.N k42 42 w' w.heap.size (fun k_ => (P0_ k_ ∨ w.heap.size ≤ k_)) v5 x5_1) ∧ Aside0 (Below w.heap.size w w'))
 case atStart => exact ⟨(y176), (0), (by first | rfl | (simp; done) | (simp [*]; done)), H', ⟨Nat.le_refl _⟩, ⟨kU HO0⟩, ⟨kQ HO178⟩, ⟨kR1 HB⟩⟩
 case round =>
  clear H'
  try clear c1
  obtain ⟨x5_1, x6_1, rfl, HA, HK1, HO_0, HO_5, HB⟩ := hrel
  cases gk with
  | zero => exact absurd HA.out (by simp [spec_l07Cross.l0])
  | succ k1 =>
   have H := HA.out; clear HA
   simp only [spec_l07Cross.l0] at H
   by_cases c5 : x6_1 < (l0.length : Int)
   ·
    rw [if_pos c5] at H
    have c5b0 : decide (x6_1 < (l0.length : Int)) = true := zR c5; clear c5
    by_cases c6 : 0 ≤ x6_1
    ·
     rw [if_pos c6] at H
     have c6b0 : decide (0 ≤ x6_1) = true := zR c6; clear c6
     by_cases c7 : 0 < (((rd_T42 l0 x6_1).f0).length : Int)
     ·
      rw [if_pos c7] at H
      have c7b0 : decide (0 < (((rd_T42 l0 x6_1).f0).length : Int)) = true := zR c7
      have c7b1 : decide (0 < ((rd_T42 l0 x6_1).f0).length) = true := zR (by omega)
      clear c7
      by_cases c8 : 0 < (((rd_T42 l0 x6_1).f1).length : Int)
      ·
       rw [if_pos c8] at H
       have c8b0 : decide (0 < (((rd_T42 l0 x6_1).f1).length : Int)) = true := zR c8
       have c8b1 : decide (0 < ((rd_T42 l0 x6_1).f1).length) = true := zR (by omega)
       clear c8
       obtain ⟨t183, A90, H⟩ := zW_ H
       replace H : (if t183 = true then (if 1 ≤ (((rd_T42 l0 x6_1).f0).length : Int) then (if 1 ≤ (((rd_T42 l0 x6_1).f1).length : Int) then (if x5_1.length < 2932031007402 then (spec_l07Cross.l0 k1 l0 a1 (x5_1 ++ [(⟨(((rd_T42 l0 x6_1).f0).drop 1), (((rd_T42 l0 x6_1).f1).drop 1)⟩ : S42)]) (wrap64 (x6_1 + 1))) else (none)) else (none)) else (none)) else (spec_l07Cross.l0 k1 l0 a1 x5_1 (wrap64 (x6_1 + 1)))) = some r := H
       have A9 := yD A90
       clear A90
       by_cases c10 : t183 = true
       ·
        subst c10
        replace H : (if 1 ≤ (((rd_T42 l0 x6_1).f0).length : Int) then (if 1 ≤ (((rd_T42 l0 x6_1).f1).length : Int) then (if x5_1.length < 2932031007402 then (spec_l07Cross.l0 k1 l0 a1 (x5_1 ++ [(⟨(((rd_T42 l0 x6_1).f0).drop 1), (((rd_T42 l0 x6_1).f1).drop 1)⟩ : S42)]) (wrap64 (x6_1 + 1))) else (none)) else (none)) else (none)) = some r := (by rw [if_pos rfl] at H; exact H)
        by_cases c11 : 1 ≤ (((rd_T42 l0 x6_1).f0).length : Int)
        ·
         rw [if_pos c11] at H
         have c11b0 := eq_true c11
         have c11b1 : decide (1 ≤ (((rd_T42 l0 x6_1).f0).length : Int)) = true := zR c11; clear c11
         obtain ⟨y185, hy185⟩ : ∃ y_ : List Int, y_ = (((rd_T42 l0 x6_1).f0).drop 1) := ⟨_, rfl⟩
         replace H : (if 1 ≤ (((rd_T42 l0 x6_1).f1).length : Int) then (if x5_1.length < 2932031007402 then (spec_l07Cross.l0 k1 l0 a1 (x5_1 ++ [(⟨y185, (((rd_T42 l0 x6_1).f1).drop 1)⟩ : S42)]) (wrap64 (x6_1 + 1))) else (none)) else (none)) = some r := by first | (rw [hy185]; with_reducible exact H) | (have H2_ := (Option.bind_some _ _).symm.trans H; rw [hy185]; with_reducible exact H2_) | (have H2_ := (Option.bind_some _ _).symm.trans H; with_reducible exact H2_) | with_reducible exact H | (rw [hy185]; exact H) | exact H
         have Ny185 := yD hy185
         clear hy185
         by_cases c12 : 1 ≤ (((rd_T42 l0 x6_1).f1).length : Int)
         ·
          rw [if_pos c12] at H
          have c12b0 := eq_true c12
          have c12b1 : decide (1 ≤ (((rd_T42 l0 x6_1).f1).length : Int)) = true := zR c12; clear c12
          obtain ⟨y191, hy191⟩ : ∃ y_ : List Int, y_ = (((rd_T42 l0 x6_1).f1).drop 1) := ⟨_, rfl⟩
          replace H : (if x5_1.length < 2932031007402 then (spec_l07Cross.l0 k1 l0 a1 (x5_1 ++ [(⟨y185, y191⟩ : S42)]) (wrap64 (x6_1 + 1))) else (none)) = some r := by first | (rw [hy191]; with_reducible exact H) | (have H2_ := (Option.bind_some _ _).symm.trans H; rw [hy191]; with_reducible exact H2_) | (have H2_ := (Option.bind_some _ _).symm.trans H; with_reducible exact H2_) | with_reducible exact H | (rw [hy191]; exact H) | exact H
          have Ny191 := yD hy191
          clear hy191
          by_cases c13 : x5_1.length < 2932031007402
          ·
           rw [if_pos c13] at H
           have LMc13 := yD c13
           clear c13
           obtain ⟨y196, hy196⟩ : ∃ y_ : List (S42), y_ = (x5_1 ++ [(⟨y185, y191⟩ : S42)]) := ⟨_, rfl⟩
           replace H : (spec_l07Cross.l0 k1 l0 a1 y196 (wrap64 (x6_1 + 1))) = some r := by first | (rw [hy196]; with_reducible exact H) | (have H2_ := (Option.bind_some _ _).symm.trans H; rw [hy196]; with_reducible exact H2_) | (have H2_ := (Option.bind_some _ _).symm.trans H; with_reducible exact H2_) | with_reducible exact H | (rw [hy196]; exact H) | exact H
           have Ny196 := yD hy196
           clear hy196
           have H' := yD H
           clear H
           try go_wp2
           have n0_ := yD (Kd.V_drew HO_0.out)
           have n1_ := yD (Kd.N_drew HO_5.out)
           have n2_ := yD (yP HB.out)
           clear HO_0 HO_5 HB; have HO_0 := n0_; have HO_5 := n1_; have HB := n2_; clear n0_ n1_ n2_
           have p179 : 0 ≤ (x6_1 : Int) := zP (by assumption)
           have q179 : x6_1 < (l0.length : Int) := zP (by assumption)
           obtain ⟨ad179, A179_0, c179_0, A179_1, c179_1, e179, hx179_0, hx179_1, hl179_0, hi179_0, hl179_1, hi179_1⟩ := at_T42 (Kd.V_reads' HO_0.out).2.2 x6_1 p179 q179
           cases e179
           obtain ⟨ce179, hce179, hMe179, hcc179⟩ := Kd.V_get HO_0.out z42 x6_1 p179 (by first | exact q179 | exact zP (by assumption) | (have e_ := (Kd.V_reads' HO_0.out).1; omega))
           obtain ⟨ua179_0, uc179_0, ua179_1, uc179_1, rfl, ul179_0, ge179_0, ul179_1, ge179_1⟩ := k42_openF hMe179
           have hv179_0 := hcc179 0 _ rfl
           rw [Nat.add_zero] at hv179_0
           replace hv179_0 := Option.some.inj (hv179_0.symm.trans hx179_0)
           injection hv179_0 with hva_ hvn_ hvc_
           rw [hva_] at ge179_0
           rw [hvc_] at ul179_0
           have HL179_0 := yD (show Kd.V (Kd.int .i64) 2 _ w.heap.size _ _ ((rd_T42 l0 x6_1).f0) from Kd.V_mk ul179_0 ge179_0)
           clear hva_ hvn_ hvc_ ge179_0 ul179_0
           have hv179_1 := hcc179 1 _ rfl
           rw [add_field _ _ 1 (by omega)] at hv179_1
           replace hv179_1 := Option.some.inj (hv179_1.symm.trans hx179_1)
           injection hv179_1 with hva_ hvn_ hvc_
           rw [hva_] at ge179_1
           rw [hvc_] at ul179_1
           have HL179_1 := yD (show Kd.V (Kd.int .i64) 2 _ w.heap.size _ _ ((rd_T42 l0 x6_1).f1) from Kd.V_mk ul179_1 ge179_1)
           clear hva_ hvn_ hvc_ ge179_1 ul179_1 hcc179 hce179
           have HR179_0 := yD hi179_0
           have HC179_0 := yD hl179_0
           clear hi179_0 hl179_0
           have HR179_1 := yD hi179_1
           have HC179_1 := yD hl179_1
           clear hi179_1 hl179_1; replace p179 := eq_true p179; replace q179 := eq_true q179
           have p180 : 0 ≤ (0 : Int) := (by omega)
           have q180 : 0 < (((rd_T42 l0 x6_1).f0).length : Int) := zP (by assumption)
           obtain ⟨ad180, e180, hx180_0⟩ := Kd.at_int (by repeat (first | (with_reducible exact HR179_0.out) | (with_reducible first | refine yV ?_ _ | refine yW ?_ _ | refine yX ?_) | exact HR179_0.out)) 0 p180 q180
           cases e180
           have qi180 : (0 < ((rd_T42 l0 x6_1).f0).length) = True := eq_true (by omega)
           (try rw [show ((0 : Int)).toNat = 0 from rfl] at hx180_0)
           (try rw [Addr.add_zero'] at hx180_0)
           replace p180 := eq_true p180; replace q180 := eq_true q180
           have p181 : 0 ≤ (x6_1 : Int) := zP (by assumption)
           have q181 : x6_1 < (l0.length : Int) := zP (by assumption)
           obtain ⟨ad181, A181_0, c181_0, A181_1, c181_1, e181, hx181_0, hx181_1, hl181_0, hi181_0, hl181_1, hi181_1⟩ := at_T42 (Kd.V_reads' HO_0.out).2.2 x6_1 p181 q181
           obtain rfl : ad179 = ad181 := (by injection e181)
           obtain ⟨ce181, hce181, hMe181, hcc181⟩ := Kd.V_get HO_0.out z42 x6_1 p181 (by first | exact q181 | exact zP (by assumption) | (have e_ := (Kd.V_reads' HO_0.out).1; omega))
           obtain ⟨ua181_0, uc181_0, ua181_1, uc181_1, rfl, ul181_0, ge181_0, ul181_1, ge181_1⟩ := k42_openF hMe181
           have hv181_0 := hcc181 0 _ rfl
           rw [Nat.add_zero] at hv181_0
           replace hv181_0 := Option.some.inj (hv181_0.symm.trans hx181_0)
           injection hv181_0 with hva_ hvn_ hvc_
           rw [hva_] at ge181_0
           rw [hvc_] at ul181_0
           have HL181_0 := yD (show Kd.V (Kd.int .i64) 2 _ w.heap.size _ _ ((rd_T42 l0 x6_1).f0) from Kd.V_mk ul181_0 ge181_0)
           clear hva_ hvn_ hvc_ ge181_0 ul181_0
           have hv181_1 := hcc181 1 _ rfl
           rw [add_field _ _ 1 (by omega)] at hv181_1
           replace hv181_1 := Option.some.inj (hv181_1.symm.trans hx181_1)
           injection hv181_1 with hva_ hvn_ hvc_
           rw [hva_] at ge181_1
           rw [hvc_] at ul181_1
           have HL181_1 := yD (show Kd.V (Kd.int .i64) 2 _ w.heap.size _ _ ((rd_T42 l0 x6_1).f1) from Kd.V_mk ul181_1 ge181_1)
           clear hva_ hvn_ hvc_ ge181_1 ul181_1 hcc181 hce181
           have HR181_0 := yD hi181_0
           have HC181_0 := yD hl181_0
           clear hi181_0 hl181_0
           have HR181_1 := yD hi181_1
           have HC181_1 := yD hl181_1
           clear hi181_1 hl181_1; replace p181 := eq_true p181; replace q181 := eq_true q181
           have ea_ := Option.some.inj (hx179_0.symm.trans hx181_0)
           injection ea_ with ea_ en_ ec_
           subst ea_; subst ec_; clear en_
           have ea_ := Option.some.inj (hx179_1.symm.trans hx181_1)
           injection ea_ with ea_ en_ ec_
           subst ea_; subst ec_; clear en_
           have p182 : 0 ≤ (0 : Int) := (by omega)
           have q182 : 0 < (((rd_T42 l0 x6_1).f1).length : Int) := zP (by assumption)
           obtain ⟨ad182, e182, hx182_0⟩ := Kd.at_int (by repeat (first | (with_reducible exact HR181_1.out) | (with_reducible first | refine yV ?_ _ | refine yW ?_ _ | refine yX ?_) | exact HR181_1.out)) 0 p182 q182
           cases e182
           have qi182 : (0 < ((rd_T42 l0 x6_1).f1).length) = True := eq_true (by omega)
           (try rw [show ((0 : Int)).toNat = 0 from rfl] at hx182_0)
           (try rw [Addr.add_zero'] at hx182_0)
           replace p182 := eq_true p182; replace q182 := eq_true q182
           refine start_ (n := 17) (S := fun w' => w'.cell? (ad179.add ((x6_1).toNat * 2)) = some (.slice (some ad180) ((rd_T42 l0 x6_1).f0).length c179_0) ∧ w'.cell? ⟨(ad179.add ((x6_1).toNat * 2)).block, (ad179.add ((x6_1).toNat * 2)).off + 1, none⟩ = some (.slice (some ad182) ((rd_T42 l0 x6_1).f1).length c179_1) ∧ w'.cell? ad180 = some (.int .i64 (rd ((rd_T42 l0 x6_1).f0) 0)) ∧ w'.cell? (ad179.add ((x6_1).toNat * 2)) = some (.slice (some ad180) ((rd_T42 l0 x6_1).f0).length c179_0) ∧ w'.cell? ⟨(ad179.add ((x6_1).toNat * 2)).block, (ad179.add ((x6_1).toNat * 2)).off + 1, none⟩ = some (.slice (some ad182) ((rd_T42 l0 x6_1).f1).length c179_1) ∧ w'.cell? ad182 = some (.int .i64 (rd ((rd_T42 l0 x6_1).f1) 0))) (ds := []) (bz 17 0) (by kernel_rfl) rfl rfl ⟨hx179_0, hx179_1, hx180_0, hx181_0, hx181_1, hx182_0⟩ (fun hHeld => ?_); refine with_tabW spec_l07Cross.tab5 spec_l07Cross.bits5 (fun HT_ HW_ => ?_)
           generalize wr.drew = w14 at HO_0 HO_5 HB HL179_0 HL179_1 HL181_0 HL181_1 HR179_0 HR179_1 HR181_0 HR181_1 hx179_0 hx179_1 hx180_0 hx181_0 hx181_1 hx182_0 hHeld ⊢
           refine qA 0 14 (bz 17 1) HT_ ?_
           refine qA 1 15 (bz 17 3) HT_ ?_
           refine qA 2 16 (bz 17 7) HT_ ?_
           refine qA 3 17 (bz 17 15) HT_ ?_
           refine qA 4 18 (bz 17 31) HT_ ?_
           refine qA 8 22 (bz 17 287) HT_ ?_
           refine qA 9 23 (bz 17 799) HT_ ?_
           refine qA 10 24 (bz 17 1823) HT_ ?_
           refine qA 11 25 (bz 17 3871) HT_ ?_
           refine qC 5 19 (bz 17 3903) HT_ HW_ hHeld ?_ (hy := by rintro w' ⟨s0, s1, s2, s3, s4, s5⟩; go_simp; with_reducible rfl)
           refine qA 6 20 (bz 17 3967) HT_ ?_
           refine qC 7 21 (bz 17 4095) HT_ HW_ hHeld ?_ (hy := by rintro w' ⟨s0, s1, s2, s3, s4, s5⟩; go_simp; with_reducible rfl)
           refine qC 12 26 (bz 17 8191) HT_ HW_ hHeld ?_ (hy := by rintro w' ⟨s0, s1, s2, s3, s4, s5⟩; go_simp; with_reducible rfl)
           refine qA 13 27 (bz 17 16383) HT_ ?_
           refine qC 14 28 (bz 17 32767) HT_ HW_ hHeld ?_ (hy := by rintro w' ⟨s0, s1, s2, s3, s4, s5⟩; go_simp; with_reducible rfl)
           refine qA 15 29 (bz 17 65535) HT_ ?_
           refine one_ (i := 16) (N := some 30) (bz 17 131071) rfl rfl (one_of HT_.out (by kernel_rfl)) (by decide) (fun K hK => ?_)
           refine goes_ Try.func92 (by kernel_rfl) rfl #[.int .i64 a1, .int .i64 (rd ((rd_T42 l0 x6_1).f0) 0), .int .i64 (wrap64 ((rd ((rd_T42 l0 x6_1).f1) 0) - 1))] (by rfl) rfl rfl (by (try simp only [zK, zL, zM]); first | done | rfl | (simp only [zN, zO]; rfl)) ?_
           with_reducible refine (spec_l00In.calls a1 (rd ((rd_T42 l0 x6_1).f0) 0) (wrap64 ((rd ((rd_T42 l0 x6_1).f1) 0) - 1)) true _ A9.out).mono ?_
           rintro e w' ⟨rfl, ⟨nd, rfl⟩⟩
           refine ⟨_, rfl, ?_⟩
           refine hK.out _ _ ⟨hHeld.1, hHeld.2.1, hHeld.2.2.1, hHeld.2.2.2.1, hHeld.2.2.2.2.1, hHeld.2.2.2.2.2⟩ (fun hHeld => ?_)
           clear hK K
           refine norm_ (a' := ?_) ?_ ?_
           rotate_left
           · show Act.put _ (some 30) _ = _
             simp only [Act.put, zH, zI, zJ, i64_w, i32_w]
             rfl
           refine done_ (done_of HT_.out (by kernel_rfl)) ?_
           try go_wp2
           (try (rw [drewN_self w14]; generalize hq_ : World.drewN w14 _ = w14; have n0_ : Aside0 (Kd.V (Kd.int .i64) 2 w14 w.heap.size (fun k_ => (P0_ k_ ∨ w.heap.size ≤ k_) ∧ oB u5 k_) (.slice (some ad180) ((rd_T42 l0 x6_1).f0).length c179_0) ((rd_T42 l0 x6_1).f0)) := ⟨by rw [← hq_]; exact (kU HL179_0)⟩; have n1_ : Aside0 (Kd.V (Kd.int .i64) 2 w14 w.heap.size (fun k_ => (P0_ k_ ∨ w.heap.size ≤ k_) ∧ oB u5 k_) (.slice (some ad182) ((rd_T42 l0 x6_1).f1).length c179_1) ((rd_T42 l0 x6_1).f1)) := ⟨by rw [← hq_]; exact (kU HL179_1)⟩; have n2_ : Aside0 (Kd.V (Kd.int .i64) 2 w14 w.heap.size (fun k_ => (P0_ k_ ∨ w.heap.size ≤ k_) ∧ oB u5 k_) (.slice (some ad180) ((rd_T42 l0 x6_1).f0).length c179_0) ((rd_T42 l0 x6_1).f0)) := ⟨by rw [← hq_]; exact (kU HL181_0)⟩; have n3_ : Aside0 (Kd.V (Kd.int .i64) 2 w14 w.heap.size (fun k_ => (P0_ k_ ∨ w.heap.size ≤ k_) ∧ oB u5 k_) (.slice (some ad182) ((rd_T42 l0 x6_1).f1).length c179_1) ((rd_T42 l0 x6_1).f1)) := ⟨by rw [← hq_]; exact (kU HL181_1)⟩; have n4_ : Aside0 (Kd.V k42 42 w14 w.heap.size (fun k_ => (P0_ k_ ∨ w.heap.size ≤ k_) ∧ oB u5 k_) (.slice (some ad179) l0.length c0) l0) := ⟨by rw [← hq_]; exact (kU HO_0)⟩; have n5_ : Aside0 (Kd.N k42 42 w14 w.heap.size (fun k_ => (P0_ k_ ∨ w.heap.size ≤ k_)) u5 x5_1) := ⟨by rw [← hq_]; exact (kQ HO_5)⟩; have n6_ : Aside0 (Below w.heap.size w w14) := ⟨by rw [← hq_]; exact (kB HB)⟩; have n7_ : Aside0 (Kd.C (Kd.int .i64) w14 (some ad180) ((rd_T42 l0 x6_1).f0).length ((rd_T42 l0 x6_1).f0)) := ⟨by rw [← hq_]; exact (by repeat (first | (with_reducible exact HR179_0.out) | (with_reducible first | refine yV ?_ _ | refine yW ?_ _ | refine yX ?_) | exact HR179_0.out))⟩; have n8_ : Aside0 (Kd.C (Kd.int .i64) w14 (some ad182) ((rd_T42 l0 x6_1).f1).length ((rd_T42 l0 x6_1).f1)) := ⟨by rw [← hq_]; exact (by repeat (first | (with_reducible exact HR179_1.out) | (with_reducible first | refine yV ?_ _ | refine yW ?_ _ | refine yX ?_) | exact HR179_1.out))⟩; have n9_ : Aside0 (Kd.C (Kd.int .i64) w14 (some ad180) ((rd_T42 l0 x6_1).f0).length ((rd_T42 l0 x6_1).f0)) := ⟨by rw [← hq_]; exact (by repeat (first | (with_reducible exact HR181_0.out) | (with_reducible first | refine yV ?_ _ | refine yW ?_ _ | refine yX ?_) | exact HR181_0.out))⟩; have n10_ : Aside0 (Kd.C (Kd.int .i64) w14 (some ad182) ((rd_T42 l0 x6_1).f1).length ((rd_T42 l0 x6_1).f1)) := ⟨by rw [← hq_]; exact (by repeat (first | (with_reducible exact HR181_1.out) | (with_reducible first | refine yV ?_ _ | refine yW ?_ _ | refine yX ?_) | exact HR181_1.out))⟩; clear HL179_0 HL179_1 HL181_0 HL181_1 HO_0 HO_5 HB HR179_0 HR179_1 HR181_0 HR181_1 hq_; have HL179_0 := n0_; have HL179_1 := n1_; have HL181_0 := n2_; have HL181_1 := n3_; have HO_0 := n4_; have HO_5 := n5_; have HB := n6_; have HR179_0 := n7_; have HR179_1 := n8_; have HR181_0 := n9_; have HR181_1 := n10_; clear n0_ n1_ n2_ n3_ n4_ n5_ n6_ n7_ n8_ n9_ n10_))
           have n0_ := yD (Kd.V_drew HO_0.out)
           have n1_ := yD (Kd.N_drew HO_5.out)
           have n2_ := yD (Kd.V_drew HL179_0.out)
           have n3_ := yD (Kd.V_drew HL179_1.out)
           have n4_ := yD (Kd.V_drew HL181_0.out)
           have n5_ := yD (Kd.V_drew HL181_1.out)
           have n6_ := yD (yX HR179_0.out)
           have n7_ := yD (yX HR179_1.out)
           have n8_ := yD (yX HR181_0.out)
           have n9_ := yD (yX HR181_1.out)
           have n10_ := yD (yP HB.out)
           clear HO_0 HO_5 HL179_0 HL179_1 HL181_0 HL181_1 HR179_0 HR179_1 HR181_0 HR181_1 HB; have HO_0 := n0_; have HO_5 := n1_; have HL179_0 := n2_; have HL179_1 := n3_; have HL181_0 := n4_; have HL181_1 := n5_; have HR179_0 := n6_; have HR179_1 := n7_; have HR181_0 := n8_; have HR181_1 := n9_; have HB := n10_; clear n0_ n1_ n2_ n3_ n4_ n5_ n6_ n7_ n8_ n9_ n10_
           have p184 : 0 ≤ (x6_1 : Int) := zP (by assumption)
           have q184 : x6_1 < (l0.length : Int) := zP (by assumption)
           obtain ⟨ad184, A184_0, c184_0, A184_1, c184_1, e184, hx184_0, hx184_1, hl184_0, hi184_0, hl184_1, hi184_1⟩ := at_T42 (Kd.V_reads' HO_0.out).2.2 x6_1 p184 q184
           obtain rfl : ad179 = ad184 := (by injection e184)
           obtain ⟨ce184, hce184, hMe184, hcc184⟩ := Kd.V_get HO_0.out z42 x6_1 p184 (by first | exact q184 | exact zP (by assumption) | (have e_ := (Kd.V_reads' HO_0.out).1; omega))
           obtain ⟨ua184_0, uc184_0, ua184_1, uc184_1, rfl, ul184_0, ge184_0, ul184_1, ge184_1⟩ := k42_openF hMe184
           have hv184_0 := hcc184 0 _ rfl
           rw [Nat.add_zero] at hv184_0
           replace hv184_0 := Option.some.inj (hv184_0.symm.trans hx184_0)
           injection hv184_0 with hva_ hvn_ hvc_
           rw [hva_] at ge184_0
           rw [hvc_] at ul184_0
           have HL184_0 := yD (show Kd.V (Kd.int .i64) 2 _ w.heap.size _ _ ((rd_T42 l0 x6_1).f0) from Kd.V_mk ul184_0 ge184_0)
           clear hva_ hvn_ hvc_ ge184_0 ul184_0
           have hv184_1 := hcc184 1 _ rfl
           rw [add_field _ _ 1 (by omega)] at hv184_1
           replace hv184_1 := Option.some.inj (hv184_1.symm.trans hx184_1)
           injection hv184_1 with hva_ hvn_ hvc_
           rw [hva_] at ge184_1
           rw [hvc_] at ul184_1
           have HL184_1 := yD (show Kd.V (Kd.int .i64) 2 _ w.heap.size _ _ ((rd_T42 l0 x6_1).f1) from Kd.V_mk ul184_1 ge184_1)
           clear hva_ hvn_ hvc_ ge184_1 ul184_1 hcc184 hce184
           have HR184_0 := yD hi184_0
           have HC184_0 := yD hl184_0
           clear hi184_0 hl184_0
           have HR184_1 := yD hi184_1
           have HC184_1 := yD hl184_1
           clear hi184_1 hl184_1; replace p184 := eq_true p184; replace q184 := eq_true q184
           have q16 : (1 : Int) ≤ ((((rd_T42 l0 x6_1).f0).length : Int) : Int) := zP (by assumption)
           obtain ⟨i016, hi016, _, hsz16, _⟩ := info_parts info2
           have hroom16 : ((rd_T42 l0 x6_1).f0).length ≤ c184_0 := HC184_0.out
           have hC16 : Kd.F (Kd.int .i64) _ _ A184_0 ((rd_T42 l0 x6_1).f0).length ((rd_T42 l0 x6_1).f0) := (Kd.V_at (base := w.heap.size) HL184_0.out).2.2
           have hcut16 := cut_from (P := Try.prog) 36 2 .i64 Try.underlying36 hi016 1 hsz16 A184_0 ((rd_T42 l0 x6_1).f0).length c184_0 1 (by omega) q16
           have hr16 := Kd.F_cut (m := (1 : Int).toNat) (c := c184_0) hC16 (by omega) hroom16
           obtain ⟨A16, hA16⟩ : ∃ A1, A1 = (if c184_0 = (1 : Int).toNat then A184_0 else (A184_0 : Option Addr).map (·.add ((1 : Int).toNat * 1))) := ⟨_, rfl⟩
           obtain ⟨c16, hc16⟩ : ∃ c1, c1 = c184_0 - (1 : Int).toNat := ⟨_, rfl⟩
           have hy16 : y185.length = ((rd_T42 l0 x6_1).f0).length - (1 : Int).toNat := (by rw [Ny185.out, zN] <;> omega)
           rw [show ((rd_T42 l0 x6_1).f0).drop (1 : Int).toNat = y185 from Ny185.out.symm] at hr16
           replace hr16 : Kd.F (Kd.int .i64) _ _ A16 y185.length y185 := (by rw [hA16]; exact hr16)
           rw [← hy16, ← hA16, ← hc16] at hcut16
           have HO189 := yD (show Kd.V (Kd.int .i64) 2 _ w.heap.size _ (.slice A16 y185.length c16) y185 from Kd.V_mk (by rw [hy16, hc16]; exact Nat.sub_le_sub_right hroom16 _) hr16)
           have HC189 := yD (show y185.length ≤ c16 from by rw [hy16, hc16]; exact Nat.sub_le_sub_right hroom16 _)
           clear hr16 hC16 hroom16 hi016 hsz16 hc16
           have KY16 := yD hy16
           have KA16 := yD hA16
           clear hy16 hA16; replace q16 := eq_true q16
           have p190 : 0 ≤ (x6_1 : Int) := zP (by assumption)
           have q190 : x6_1 < (l0.length : Int) := zP (by assumption)
           obtain ⟨ad190, A190_0, c190_0, A190_1, c190_1, e190, hx190_0, hx190_1, hl190_0, hi190_0, hl190_1, hi190_1⟩ := at_T42 (Kd.V_reads' HO_0.out).2.2 x6_1 p190 q190
           obtain rfl : ad179 = ad190 := (by injection e190)
           obtain ⟨ce190, hce190, hMe190, hcc190⟩ := Kd.V_get HO_0.out z42 x6_1 p190 (by first | exact q190 | exact zP (by assumption) | (have e_ := (Kd.V_reads' HO_0.out).1; omega))
           obtain ⟨ua190_0, uc190_0, ua190_1, uc190_1, rfl, ul190_0, ge190_0, ul190_1, ge190_1⟩ := k42_openF hMe190
           have hv190_0 := hcc190 0 _ rfl
           rw [Nat.add_zero] at hv190_0
           replace hv190_0 := Option.some.inj (hv190_0.symm.trans hx190_0)
           injection hv190_0 with hva_ hvn_ hvc_
           rw [hva_] at ge190_0
           rw [hvc_] at ul190_0
           have HL190_0 := yD (show Kd.V (Kd.int .i64) 2 _ w.heap.size _ _ ((rd_T42 l0 x6_1).f0) from Kd.V_mk ul190_0 ge190_0)
           clear hva_ hvn_ hvc_ ge190_0 ul190_0
           have hv190_1 := hcc190 1 _ rfl
           rw [add_field _ _ 1 (by omega)] at hv190_1
           replace hv190_1 := Option.some.inj (hv190_1.symm.trans hx190_1)
           injection hv190_1 with hva_ hvn_ hvc_
           rw [hva_] at ge190_1
           rw [hvc_] at ul190_1
           have HL190_1 := yD (show Kd.V (Kd.int .i64) 2 _ w.heap.size _ _ ((rd_T42 l0 x6_1).f1) from Kd.V_mk ul190_1 ge190_1)
           clear hva_ hvn_ hvc_ ge190_1 ul190_1 hcc190 hce190
           have HR190_0 := yD hi190_0
           have HC190_0 := yD hl190_0
           clear hi190_0 hl190_0
           have HR190_1 := yD hi190_1
           have HC190_1 := yD hl190_1
           clear hi190_1 hl190_1; replace p190 := eq_true p190; replace q190 := eq_true q190
           have ea_ := Option.some.inj (hx184_0.symm.trans hx190_0)
           injection ea_ with ea_ en_ ec_
           subst ea_; subst ec_; clear en_
           have ea_ := Option.some.inj (hx184_1.symm.trans hx190_1)
           injection ea_ with ea_ en_ ec_
           subst ea_; subst ec_; clear en_
           have q17 : (1 : Int) ≤ ((((rd_T42 l0 x6_1).f1).length : Int) : Int) := zP (by assumption)
           obtain ⟨i017, hi017, _, hsz17, _⟩ := info_parts info2
           have hroom17 : ((rd_T42 l0 x6_1).f1).length ≤ c184_1 := HC190_1.out
           have hC17 : Kd.F (Kd.int .i64) _ _ A184_1 ((rd_T42 l0 x6_1).f1).length ((rd_T42 l0 x6_1).f1) := (Kd.V_at (base := w.heap.size) HL190_1.out).2.2
           have hcut17 := cut_from (P := Try.prog) 36 2 .i64 Try.underlying36 hi017 1 hsz17 A184_1 ((rd_T42 l0 x6_1).f1).length c184_1 1 (by omega) q17
           have hr17 := Kd.F_cut (m := (1 : Int).toNat) (c := c184_1) hC17 (by omega) hroom17
           obtain ⟨A17, hA17⟩ : ∃ A1, A1 = (if c184_1 = (1 : Int).toNat then A184_1 else (A184_1 : Option Addr).map (·.add ((1 : Int).toNat * 1))) := ⟨_, rfl⟩
           obtain ⟨c17, hc17⟩ : ∃ c1, c1 = c184_1 - (1 : Int).toNat := ⟨_, rfl⟩
           have hy17 : y191.length = ((rd_T42 l0 x6_1).f1).length - (1 : Int).toNat := (by rw [Ny191.out, zN] <;> omega)
           rw [show ((rd_T42 l0 x6_1).f1).drop (1 : Int).toNat = y191 from Ny191.out.symm] at hr17
           replace hr17 : Kd.F (Kd.int .i64) _ _ A17 y191.length y191 := (by rw [hA17]; exact hr17)
           rw [← hy17, ← hA17, ← hc17] at hcut17
           have HO195 := yD (show Kd.V (Kd.int .i64) 2 _ w.heap.size _ (.slice A17 y191.length c17) y191 from Kd.V_mk (by rw [hy17, hc17]; exact Nat.sub_le_sub_right hroom17 _) hr17)
           have HC195 := yD (show y191.length ≤ c17 from by rw [hy17, hc17]; exact Nat.sub_le_sub_right hroom17 _)
           clear hr17 hC17 hroom17 hi017 hsz17 hc17
           have KY17 := yD hy17
           have KA17 := yD hA17
           clear hy17 hA17; replace q17 := eq_true q17
           refine start_ (n := 17) (S := fun w' => w'.cell? (ad179.add ((x6_1).toNat * 2)) = some (.slice A184_0 ((rd_T42 l0 x6_1).f0).length c184_0) ∧ w'.cell? ⟨(ad179.add ((x6_1).toNat * 2)).block, (ad179.add ((x6_1).toNat * 2)).off + 1, none⟩ = some (.slice A184_1 ((rd_T42 l0 x6_1).f1).length c184_1) ∧ w'.cell? (ad179.add ((x6_1).toNat * 2)) = some (.slice A184_0 ((rd_T42 l0 x6_1).f0).length c184_0) ∧ w'.cell? ⟨(ad179.add ((x6_1).toNat * 2)).block, (ad179.add ((x6_1).toNat * 2)).off + 1, none⟩ = some (.slice A184_1 ((rd_T42 l0 x6_1).f1).length c184_1)) (ds := [14, 15]) (bz 17 0) (by kernel_rfl) rfl rfl ⟨hx184_0, hx184_1, hx190_0, hx190_1⟩ (fun hHeld => ?_); refine with_tabW spec_l07Cross.tab6 spec_l07Cross.bits6 (fun HT_ HW_ => ?_)
           generalize w14.drew = w15 at HO_0 HO_5 HL179_0 HL179_1 HL181_0 HL181_1 HR179_0 HR179_1 HR181_0 HR181_1 HB HL184_0 HL184_1 HL190_0 HL190_1 HO189 HO195 HR184_0 HR184_1 HR190_0 HR190_1 hx184_0 hx184_1 hx190_0 hx190_1 hHeld ⊢
           refine qA 0 31 (bz 17 1) HT_ ?_
           refine qA 1 32 (bz 17 3) HT_ ?_
           refine qA 2 33 (bz 17 7) HT_ ?_
           refine qA 3 34 (bz 17 15) HT_ ?_
           refine qA 4 35 (bz 17 31) HT_ ?_
           refine qA 7 38 (bz 17 159) HT_ ?_
           refine qA 8 39 (bz 17 415) HT_ ?_
           refine qA 9 40 (bz 17 927) HT_ ?_
           refine qA 10 41 (bz 17 1951) HT_ ?_
           refine qC 5 36 (bz 17 1983) HT_ HW_ hHeld ?_ (hy := by rintro w' ⟨s0, s1, s2, s3⟩; go_simp; with_reducible rfl)
           refine qA 6 37 (bz 17 2047) HT_ ?_
           refine qC 11 42 (bz 17 4095) HT_ HW_ hHeld ?_ (hy := by rintro w' ⟨s0, s1, s2, s3⟩; go_simp; with_reducible rfl)
           refine qA 12 43 (bz 17 8191) HT_ ?_
           refine qA 13 44 (bz 17 16383) HT_ ?_
           refine last_ (i := 14) (N := some 45) #[true, true, true, true, true, true, true, true, true, true, true, true, true, true, true, false, false] rfl rfl (one_of HT_.out (by kernel_rfl)) (by decide) (fun K hK => ?_)
           refine value_ (w1 := ?_) (v := ?_) (by rfl) rfl ?_ ?_
           rotate_left 2
           · go_simp
             constructor
             · rfl
             · rfl
           refine hK.out _ _ ?_
           clear hK K
           refine norm_ (a' := ?_) ?_ ?_
           rotate_left
           · show Act.put _ (some 45) _ = _
             simp only [Act.put, zH, zI, zJ, i64_w, i32_w]
             rfl
           refine last_ (i := 15) (N := some 46) #[true, true, true, true, true, true, true, true, true, true, true, true, true, true, true, true, false] rfl rfl (one_of HT_.out (by kernel_rfl)) (by decide) (fun K hK => ?_)
           refine Kd.N_append_step k42 (w0 := w) w.heap.size (by rfl) (.tmp 31) (.tmp 45) 24 42 (.agg #[(.slice none 0 0), (.slice none 0 0)]) 48 rfl Try.underlying24 info42 rfl (by decide) (by omega) u5 x5_1 (⟨y185, y191⟩ : S42) [.slice A16 y185.length c16, .slice A17 y191.length c17] (fun k_ => (P0_ k_ ∨ w.heap.size ≤ k_)) (fun k_ => ((fun k_ => (P0_ k_ ∨ w.heap.size ≤ k_))) k_ ∧ oB u5 k_) rfl rfl ?aP (fun _ hk => hk) ?aF ?aO ?aB ?aS ?aL ?_
           (case aP => exact (k42_mkF _ _ (⟨y185, y191⟩ : S42) (Kd.V_reads' (Kd.V_mono (ok' := (fun k_ => ((fun k_ => (P0_ k_ ∨ w.heap.size ≤ k_))) k_ ∧ oB u5 k_)) (HO189.out) (fun k_ hk => ⟨hk.1, hk.2⟩))).2.1 (Kd.V_F (Kd.V_mono (ok' := (fun k_ => ((fun k_ => (P0_ k_ ∨ w.heap.size ≤ k_))) k_ ∧ oB u5 k_)) (HO189.out) (fun k_ hk => ⟨hk.1, hk.2⟩))) (Kd.V_reads' (Kd.V_mono (ok' := (fun k_ => ((fun k_ => (P0_ k_ ∨ w.heap.size ≤ k_))) k_ ∧ oB u5 k_)) (HO195.out) (fun k_ hk => ⟨hk.1, hk.2⟩))).2.1 (Kd.V_F (Kd.V_mono (ok' := (fun k_ => ((fun k_ => (P0_ k_ ∨ w.heap.size ≤ k_))) k_ ∧ oB u5 k_)) (HO195.out) (fun k_ hk => ⟨hk.1, hk.2⟩)))))
           (case aB => exact (kB HB))
           (case aF => exact (fun k_ hk => (.inr (Nat.le_trans (below_size (kB HB)) hk))))
           (case aO => exact (kQ HO_5))
           (case aS => exact (below_size (kB HB)))
           (case aL => have := LMc13.out; omega)
           intro v197 w18 ho hb hg hat
           rw [← Ny196.out] at ho
           have n0_ := yD (Kd.V_afterv (ok := (fun k_ => (P0_ k_ ∨ w.heap.size ≤ k_))) (kU HO_0) hg hat)
           have n1_ := yD (Kd.V_afterv (ok := (fun k_ => (P0_ k_ ∨ w.heap.size ≤ k_))) (kU HL179_0) hg hat)
           have n2_ := yD (Kd.V_afterv (ok := (fun k_ => (P0_ k_ ∨ w.heap.size ≤ k_))) (kU HL179_1) hg hat)
           have n3_ := yD (Kd.V_afterv (ok := (fun k_ => (P0_ k_ ∨ w.heap.size ≤ k_))) (kU HL181_0) hg hat)
           have n4_ := yD (Kd.V_afterv (ok := (fun k_ => (P0_ k_ ∨ w.heap.size ≤ k_))) (kU HL181_1) hg hat)
           have n5_ := yD (Kd.V_afterv (ok := (fun k_ => (P0_ k_ ∨ w.heap.size ≤ k_))) (kU HL184_0) hg hat)
           have n6_ := yD (Kd.V_afterv (ok := (fun k_ => (P0_ k_ ∨ w.heap.size ≤ k_))) (kU HL184_1) hg hat)
           have n7_ := yD (Kd.V_afterv (ok := (fun k_ => (P0_ k_ ∨ w.heap.size ≤ k_))) (kU HO189) hg hat)
           have n8_ := yD (Kd.V_afterv (ok := (fun k_ => (P0_ k_ ∨ w.heap.size ≤ k_))) (kU HL190_0) hg hat)
           have n9_ := yD (Kd.V_afterv (ok := (fun k_ => (P0_ k_ ∨ w.heap.size ≤ k_))) (kU HL190_1) hg hat)
           have n10_ := yD (Kd.V_afterv (ok := (fun k_ => (P0_ k_ ∨ w.heap.size ≤ k_))) (kU HO195) hg hat)
           have n11_ := yD (hb)
           have n12_ := yD (ho)
           clear HO_0 HL179_0 HL179_1 HL181_0 HL181_1 HL184_0 HL184_1 HO189 HL190_0 HL190_1 HO195 HB HO_5; have HO_0 := n0_; have HL179_0 := n1_; have HL179_1 := n2_; have HL181_0 := n3_; have HL181_1 := n4_; have HL184_0 := n5_; have HL184_1 := n6_; have HO189 := n7_; have HL190_0 := n8_; have HL190_1 := n9_; have HO195 := n10_; have HB := n11_; have HO198 := n12_; clear n0_ n1_ n2_ n3_ n4_ n5_ n6_ n7_ n8_ n9_ n10_ n11_ n12_ ho hb hg hat
           refine hK.out _ _ ?_
           clear hK K
           refine norm_ (a' := ?_) ?_ ?_
           rotate_left
           · show Act.put _ (some 46) _ = _
             simp only [Act.put, zH, zI, zJ, i64_w, i32_w]
             rfl
           refine qA 16 5 (bz 17 131071) HT_ ?_
           refine done_ (done_of HT_.out (by kernel_rfl)) ?_
           try go_wp2
           go_roundg k1
           case measure => have := HK1.out; omega
           case rel => exact ⟨(y196), (wrap64 (x6_1 + 1)), (by first | rfl | (simp; done) | (simp [*]; done)), H', ⟨by have := HK1.out; omega⟩, ⟨kU HO_0⟩, ⟨kQ HO198⟩, ⟨kR1 HB⟩⟩
          · rw [if_neg c13] at H
            exact absurd H (by simp)
         · rw [if_neg c12] at H
           exact absurd H (by simp)
        · rw [if_neg c11] at H
          exact absurd H (by simp)
       ·
        replace c10 := Bool.eq_false_iff.mpr c10
        subst c10
        replace H : (spec_l07Cross.l0 k1 l0 a1 x5_1 (wrap64 (x6_1 + 1))) = some r := (by rw [if_neg (show ¬ (false = true) by decide)] at H; exact H)
        have H' := yD H
        clear H
        try go_wp2
        have n0_ := yD (Kd.V_drew HO_0.out)
        have n1_ := yD (Kd.N_drew HO_5.out)
        have n2_ := yD (yP HB.out)
        clear HO_0 HO_5 HB; have HO_0 := n0_; have HO_5 := n1_; have HB := n2_; clear n0_ n1_ n2_
        have p179 : 0 ≤ (x6_1 : Int) := zP (by assumption)
        have q179 : x6_1 < (l0.length : Int) := zP (by assumption)
        obtain ⟨ad179, A179_0, c179_0, A179_1, c179_1, e179, hx179_0, hx179_1, hl179_0, hi179_0, hl179_1, hi179_1⟩ := at_T42 (Kd.V_reads' HO_0.out).2.2 x6_1 p179 q179
        cases e179
        obtain ⟨ce179, hce179, hMe179, hcc179⟩ := Kd.V_get HO_0.out z42 x6_1 p179 (by first | exact q179 | exact zP (by assumption) | (have e_ := (Kd.V_reads' HO_0.out).1; omega))
        obtain ⟨ua179_0, uc179_0, ua179_1, uc179_1, rfl, ul179_0, ge179_0, ul179_1, ge179_1⟩ := k42_openF hMe179
        have hv179_0 := hcc179 0 _ rfl
        rw [Nat.add_zero] at hv179_0
        replace hv179_0 := Option.some.inj (hv179_0.symm.trans hx179_0)
        injection hv179_0 with hva_ hvn_ hvc_
        rw [hva_] at ge179_0
        rw [hvc_] at ul179_0
        have HL179_0 := yD (show Kd.V (Kd.int .i64) 2 _ w.heap.size _ _ ((rd_T42 l0 x6_1).f0) from Kd.V_mk ul179_0 ge179_0)
        clear hva_ hvn_ hvc_ ge179_0 ul179_0
        have hv179_1 := hcc179 1 _ rfl
        rw [add_field _ _ 1 (by omega)] at hv179_1
        replace hv179_1 := Option.some.inj (hv179_1.symm.trans hx179_1)
        injection hv179_1 with hva_ hvn_ hvc_
        rw [hva_] at ge179_1
        rw [hvc_] at ul179_1
        have HL179_1 := yD (show Kd.V (Kd.int .i64) 2 _ w.heap.size _ _ ((rd_T42 l0 x6_1).f1) from Kd.V_mk ul179_1 ge179_1)
        clear hva_ hvn_ hvc_ ge179_1 ul179_1 hcc179 hce179
        have HR179_0 := yD hi179_0
        have HC179_0 := yD hl179_0
        clear hi179_0 hl179_0
        have HR179_1 := yD hi179_1
        have HC179_1 := yD hl179_1
        clear hi179_1 hl179_1; replace p179 := eq_true p179; replace q179 := eq_true q179
        have p180 : 0 ≤ (0 : Int) := (by omega)
        have q180 : 0 < (((rd_T42 l0 x6_1).f0).length : Int) := zP (by assumption)
        obtain ⟨ad180, e180, hx180_0⟩ := Kd.at_int (by repeat (first | (with_reducible exact HR179_0.out) | (with_reducible first | refine yV ?_ _ | refine yW ?_ _ | refine yX ?_) | exact HR179_0.out)) 0 p180 q180
        cases e180
        have qi180 : (0 < ((rd_T42 l0 x6_1).f0).length) = True := eq_true (by omega)
        (try rw [show ((0 : Int)).toNat = 0 from rfl] at hx180_0)
        (try rw [Addr.add_zero'] at hx180_0)
        replace p180 := eq_true p180; replace q180 := eq_true q180
        have p181 : 0 ≤ (x6_1 : Int) := zP (by assumption)
        have q181 : x6_1 < (l0.length : Int) := zP (by assumption)
        obtain ⟨ad181, A181_0, c181_0, A181_1, c181_1, e181, hx181_0, hx181_1, hl181_0, hi181_0, hl181_1, hi181_1⟩ := at_T42 (Kd.V_reads' HO_0.out).2.2 x6_1 p181 q181
        obtain rfl : ad179 = ad181 := (by injection e181)
        obtain ⟨ce181, hce181, hMe181, hcc181⟩ := Kd.V_get HO_0.out z42 x6_1 p181 (by first | exact q181 | exact zP (by assumption) | (have e_ := (Kd.V_reads' HO_0.out).1; omega))
        obtain ⟨ua181_0, uc181_0, ua181_1, uc181_1, rfl, ul181_0, ge181_0, ul181_1, ge181_1⟩ := k42_openF hMe181
        have hv181_0 := hcc181 0 _ rfl
        rw [Nat.add_zero] at hv181_0
        replace hv181_0 := Option.some.inj (hv181_0.symm.trans hx181_0)
        injection hv181_0 with hva_ hvn_ hvc_
        rw [hva_] at ge181_0
        rw [hvc_] at ul181_0
        have HL181_0 := yD (show Kd.V (Kd.int .i64) 2 _ w.heap.size _ _ ((rd_T42 l0 x6_1).f0) from Kd.V_mk ul181_0 ge181_0)
        clear hva_ hvn_ hvc_ ge181_0 ul181_0
        have hv181_1 := hcc181 1 _ rfl
        rw [add_field _ _ 1 (by omega)] at hv181_1
        replace hv181_1 := Option.some.inj (hv181_1.symm.trans hx181_1)
        injection hv181_1 with hva_ hvn_ hvc_
        rw [hva_] at ge181_1
        rw [hvc_] at ul181_1
        have HL181_1 := yD (show Kd.V (Kd.int .i64) 2 _ w.heap.size _ _ ((rd_T42 l0 x6_1).f1) from Kd.V_mk ul181_1 ge181_1)
        clear hva_ hvn_ hvc_ ge181_1 ul181_1 hcc181 hce181
        have HR181_0 := yD hi181_0
        have HC181_0 := yD hl181_0
        clear hi181_0 hl181_0
        have HR181_1 := yD hi181_1
        have HC181_1 := yD hl181_1
        clear hi181_1 hl181_1; replace p181 := eq_true p181; replace q181 := eq_true q181
        have ea_ := Option.some.inj (hx179_0.symm.trans hx181_0)
        injection ea_ with ea_ en_ ec_
        subst ea_; subst ec_; clear en_
        have ea_ := Option.some.inj (hx179_1.symm.trans hx181_1)
        injection ea_ with ea_ en_ ec_
        subst ea_; subst ec_; clear en_
        have p182 : 0 ≤ (0 : Int) := (by omega)
        have q182 : 0 < (((rd_T42 l0 x6_1).f1).length : Int) := zP (by assumption)
        obtain ⟨ad182, e182, hx182_0⟩ := Kd.at_int (by repeat (first | (with_reducible exact HR181_1.out) | (with_reducible first | refine yV ?_ _ | refine yW ?_ _ | refine yX ?_) | exact HR181_1.out)) 0 p182 q182
        cases e182
        have qi182 : (0 < ((rd_T42 l0 x6_1).f1).length) = True := eq_true (by omega)
        (try rw [show ((0 : Int)).toNat = 0 from rfl] at hx182_0)
        (try rw [Addr.add_zero'] at hx182_0)
        replace p182 := eq_true p182; replace q182 := eq_true q182
        refine start_ (n := 17) (S := fun w' => w'.cell? (ad179.add ((x6_1).toNat * 2)) = some (.slice (some ad180) ((rd_T42 l0 x6_1).f0).length c179_0) ∧ w'.cell? ⟨(ad179.add ((x6_1).toNat * 2)).block, (ad179.add ((x6_1).toNat * 2)).off + 1, none⟩ = some (.slice (some ad182) ((rd_T42 l0 x6_1).f1).length c179_1) ∧ w'.cell? ad180 = some (.int .i64 (rd ((rd_T42 l0 x6_1).f0) 0)) ∧ w'.cell? (ad179.add ((x6_1).toNat * 2)) = some (.slice (some ad180) ((rd_T42 l0 x6_1).f0).length c179_0) ∧ w'.cell? ⟨(ad179.add ((x6_1).toNat * 2)).block, (ad179.add ((x6_1).toNat * 2)).off + 1, none⟩ = some (.slice (some ad182) ((rd_T42 l0 x6_1).f1).length c179_1) ∧ w'.cell? ad182 = some (.int .i64 (rd ((rd_T42 l0 x6_1).f1) 0))) (ds := []) (bz 17 0) (by kernel_rfl) rfl rfl ⟨hx179_0, hx179_1, hx180_0, hx181_0, hx181_1, hx182_0⟩ (fun hHeld => ?_); refine with_tabW spec_l07Cross.tab5 spec_l07Cross.bits5 (fun HT_ HW_ => ?_)
        generalize wr.drew = w19 at HO_0 HO_5 HB HL179_0 HL179_1 HL181_0 HL181_1 HR179_0 HR179_1 HR181_0 HR181_1 hx179_0 hx179_1 hx180_0 hx181_0 hx181_1 hx182_0 hHeld ⊢
        refine qA 0 14 (bz 17 1) HT_ ?_
        refine qA 1 15 (bz 17 3) HT_ ?_
        refine qA 2 16 (bz 17 7) HT_ ?_
        refine qA 3 17 (bz 17 15) HT_ ?_
        refine qA 4 18 (bz 17 31) HT_ ?_
        refine qA 8 22 (bz 17 287) HT_ ?_
        refine qA 9 23 (bz 17 799) HT_ ?_
        refine qA 10 24 (bz 17 1823) HT_ ?_
        refine qA 11 25 (bz 17 3871) HT_ ?_
        refine qC 5 19 (bz 17 3903) HT_ HW_ hHeld ?_ (hy := by rintro w' ⟨s0, s1, s2, s3, s4, s5⟩; go_simp; with_reducible rfl)
        refine qA 6 20 (bz 17 3967) HT_ ?_
        refine qC 7 21 (bz 17 4095) HT_ HW_ hHeld ?_ (hy := by rintro w' ⟨s0, s1, s2, s3, s4, s5⟩; go_simp; with_reducible rfl)
        refine qC 12 26 (bz 17 8191) HT_ HW_ hHeld ?_ (hy := by rintro w' ⟨s0, s1, s2, s3, s4, s5⟩; go_simp; with_reducible rfl)
        refine qA 13 27 (bz 17 16383) HT_ ?_
        refine qC 14 28 (bz 17 32767) HT_ HW_ hHeld ?_ (hy := by rintro w' ⟨s0, s1, s2, s3, s4, s5⟩; go_simp; with_reducible rfl)
        refine qA 15 29 (bz 17 65535) HT_ ?_
        refine one_ (i := 16) (N := some 30) (bz 17 131071) rfl rfl (one_of HT_.out (by kernel_rfl)) (by decide) (fun K hK => ?_)
        refine goes_ Try.func92 (by kernel_rfl) rfl #[.int .i64 a1, .int .i64 (rd ((rd_T42 l0 x6_1).f0) 0), .int .i64 (wrap64 ((rd ((rd_T42 l0 x6_1).f1) 0) - 1))] (by rfl) rfl rfl (by (try simp only [zK, zL, zM]); first | done | rfl | (simp only [zN, zO]; rfl)) ?_
        with_reducible refine (spec_l00In.calls a1 (rd ((rd_T42 l0 x6_1).f0) 0) (wrap64 ((rd ((rd_T42 l0 x6_1).f1) 0) - 1)) false _ A9.out).mono ?_
        rintro e w' ⟨rfl, ⟨nd, rfl⟩⟩
        refine ⟨_, rfl, ?_⟩
        refine hK.out _ _ ⟨hHeld.1, hHeld.2.1, hHeld.2.2.1, hHeld.2.2.2.1, hHeld.2.2.2.2.1, hHeld.2.2.2.2.2⟩ (fun hHeld => ?_)
        clear hK K
        refine norm_ (a' := ?_) ?_ ?_
        rotate_left
        · show Act.put _ (some 30) _ = _
          simp only [Act.put, zH, zI, zJ, i64_w, i32_w]
          rfl
        refine done_ (done_of HT_.out (by kernel_rfl)) ?_
        try go_wp2
        go_roundg k1
        case measure => have := HK1.out; omega
        case rel => exact ⟨(x5_1), (wrap64 (x6_1 + 1)), (by first | rfl | (simp; done) | (simp [*]; done)), H', ⟨by have := HK1.out; omega⟩, ⟨kU HO_0⟩, ⟨kQ HO_5⟩, ⟨kR1 HB⟩⟩
      · rw [if_neg c8] at H
        exact absurd H (by simp)
     · rw [if_neg c7] at H
       exact absurd H (by simp)
    · rw [if_neg c6] at H
      exact absurd H (by simp)
   · rw [if_neg c5] at H
     have c5b0 : decide (x6_1 < (l0.length : Int)) = false := zS c5; clear c5; obtain rfl := Option.some.inj H
     go_wp2
     go_ret
     exact ⟨_, by first | rfl | (simp <;> rfl) | (simp [*] <;> rfl), Kd.N_V (kQ HO_5), kR1 HB⟩

end Go.Proofs.Ytdiaebjbiddefaa.PFnExactSubtractBoxes
