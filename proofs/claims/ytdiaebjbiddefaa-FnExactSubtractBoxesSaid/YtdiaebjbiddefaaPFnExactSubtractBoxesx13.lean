/- Each Go function here comes to what the plain function of its name says, where that says something. Made by a program of this session, over the print. -/
import Derived.Test.YtdiaebjbiddefaaPFnExactSubtractBoxesx0
import Derived.Test.YtdiaebjbiddefaaPFnExactSubtractBoxesx12
namespace Go.Proofs.Ytdiaebjbiddefaa.PFnExactSubtractBoxes
open Go.RowKit Go.Proofs.YtdiaebjbiddefaaW.PrintWords Go.Proofs.YtdiaebjbiddefaaW.PrintLast Go.Proofs.YtdiaebjbiddefaaW.PrintMore
attribute [local go_sem] max2_int min2_int max_two min_two max_three min_three max_four min_four   -- for this text's walks alone
set_option linter.unusedVariables false
set_option linter.unusedSimpArgs false

/-! ### impl_prefixed: function 124 -/
def impl_prefixed.l0 : Nat → Int → Int → List (S42) → List (S42) → Int → Int → Option ((List (S42)))
 | 0, _, _, _, _, _, _ => none
 | k + 1, x1, x2, x7, x10, x11, x12 => if x12 < x11 then (if 0 ≤ x12 then (if x12 < (x10.length : Int) then ((slices_Concat_int64_int64.f k (([(([x1] : List Int)), (rd_T42 x10 x12).f0] : List (List Int)))).bind fun t347 => ((slices_Concat_int64_int64.f k (([(([x2] : List Int)), (rd_T42 x10 x12).f1] : List (List Int)))).bind fun t356 => (if x7.length < 2932031007402 then (impl_prefixed.l0 k x1 x2 (x7 ++ [(⟨t347, t356⟩ : S42)]) x10 x11 (wrap64 (x12 + 1))) else (none)))) else (none)) else (none)) else (some x7)
def impl_prefixed.f (k : Nat) (l0 : List (S42)) (a1 : Int) (a2 : Int) : Option ((List (S42))) := impl_prefixed.l0 k a1 a2 ([] : List (S42)) l0 (l0.length : Int) 0
theorem impl_prefixed.mono_l : ∀ k, (∀ y0 y1 y2 y3 y4 y5, LeO (impl_prefixed.l0 k y0 y1 y2 y3 y4 y5) (impl_prefixed.l0 (k + 1) y0 y1 y2 y3 y4 y5))
 | 0 => fun _ _ _ _ _ _ r h => by simp [impl_prefixed.l0] at h
 | k + 1 => by
  have ih0 := impl_prefixed.mono_l k
  · intro y0 y1 y2 y3 y4 y5
    unfold impl_prefixed.l0
    repeat' (with_reducible first | exact ih0 _ _ _ _ _ _ | exact slices_Concat_int64_int64.mono _ _ | exact LeO.refl _ | exact LeO.none _ | refine LeO.ite ?_ ?_ | refine LeO.bind ?_ (fun _ => ?_))
theorem impl_prefixed.mono : ∀ a0 a1 a2 k, LeO (impl_prefixed.f k a0 a1 a2) (impl_prefixed.f (k + 1) a0 a1 a2) := by
 intro a0 a1 a2 k
 have ih0 := impl_prefixed.mono_l k
 unfold impl_prefixed.f
 repeat' (with_reducible first | exact ih0 _ _ _ _ _ _ | exact slices_Concat_int64_int64.mono _ _ | exact LeO.refl _ | exact LeO.none _ | refine LeO.ite ?_ ?_ | refine LeO.bind ?_ (fun _ => ?_))
def impl_prefixed.T5 : Bool × List (List Nat × List Nat) := (true, [([], []), ([], []), ([1], [1]), ([], []), ([3], [3]), ([2, 4], [2, 4]), ([5], [5]), ([], []), ([7], [7]), ([], []), ([9], [9]), ([8, 10], [8, 10]), ([11, 6], [11]), ([6, 12], [6, 12]), ([13], [13]), ([0, 14, 12], [0, 14]), ([15, 15, 0, 1, 2, 3, 4, 5, 6, 7, 8, 9, 10, 11, 12, 13, 14, 15], [0, 15])])
def impl_prefixed.B5 : List Nat := [0, 0, 2, 0, 8, 30, 62, 0, 128, 0, 512, 1920, 4094, 8190, 16382, 32767, 65535]
theorem impl_prefixed.tab5 : rtab .any (opsOf Try.f124 5) = impl_prefixed.T5 := by kernel_rfl
theorem impl_prefixed.bits5 : waitsOk impl_prefixed.T5.2 impl_prefixed.B5 = true := by kernel_rfl
set_option maxHeartbeats 8000000 in
set_option maxRecDepth 100000 in
theorem impl_prefixed.calls (k : Nat) (P0_ : Nat → Prop) (A0 : Option Addr) (c0 : Nat) (l0 : List (S42)) (a1 : Int) (a2 : Int) (r : List (S42)) (w : World) (hs0 : Kd.V k42 42 w w.heap.size (fun k_ => P0_ k_) (.slice A0 l0.length c0) l0) (h : impl_prefixed.f k l0 a1 a2 = some r) :
 Calls Try.prog 124 #[.slice A0 l0.length c0, .int .i64 a1, .int .i64 a2] w fun e w' => ∃ v0_ : Value, e = .returned (v0_) ∧ Kd.S k42 42 w' w.heap.size (fun k_ => (w.heap.size ≤ k_)) v0_ r ∧ Below w.heap.size w w' := by
 have hu42 := Try.underlying42
 have HO0 := yD (show Kd.V k42 42 w w.heap.size (fun k_ => (P0_ k_ ∨ w.heap.size ≤ k_)) (.slice A0 l0.length c0) l0 from Kd.V_mono hs0 (fun k_ hk => .inl hk))
 have HB := yD (Below.refl w.heap.size w)
 have H : (impl_prefixed.l0 k a1 a2 ([] : List (S42)) l0 (l0.length : Int) 0) = some r := h
 clear h
 have H' := yD H
 clear H; go_enter Try.func124, Try.ntmps124
 go_wp2
 go_loopg [7, 12] k (fun kq v7 v12 w' => ∃ (x7_1 : List (S42)) (x12_1 : Int), v12 = .int .i64 x12_1 ∧ Aside0 (impl_prefixed.l0 kq a1 a2 x7_1 l0 (l0.length : Int) x12_1 = some r) ∧ Aside0 (kq ≤ k) ∧ Aside0 (Kd.S k42 42 w' w.heap.size (fun k_ => (w.heap.size ≤ k_)) v7 x7_1) ∧ Aside0 (Kd.V k42 42 w' w.heap.size (fun k_ => (P0_ k_ ∨ w.heap.size ≤ k_) ∧ oB v7 k_) (.slice A0 l0.length c0) l0) ∧ Aside0 (Below w.heap.size w w'))
 case atStart => exact ⟨(([] : List (S42))), (0), (by first | rfl | (simp; done) | (simp [*]; done)), H', ⟨Nat.le_refl _⟩, ⟨by first | exact Kd.S_nil _ _ _ _ _ | exact Kd.N_nil _ _ _ _ _ | exact Kd.V_nil _ _ _ _ _ | exact Kd.Q_nil _ _ _ _ _ | exact Kd.R_nil _ _ _ _ _⟩, ⟨mV HO0 (fun _ hk => ⟨hk, (by simp [oB, Value.ownBlock])⟩)⟩, ⟨kR1 HB⟩⟩
 case round =>
  clear H'
  try clear c1
  obtain ⟨x7_1, x12_1, rfl, HA, HK1, HO_7, HO_10, HB⟩ := hrel
  cases gk with
  | zero => exact absurd HA.out (by simp [impl_prefixed.l0])
  | succ k1 =>
   have H := HA.out; clear HA
   simp only [impl_prefixed.l0] at H
   by_cases c4 : x12_1 < (l0.length : Int)
   ·
    rw [if_pos c4] at H
    have c4b0 : decide (x12_1 < (l0.length : Int)) = true := zR c4; clear c4
    by_cases c5 : 0 ≤ x12_1
    ·
     rw [if_pos c5] at H
     have c5b0 : decide (0 ≤ x12_1) = true := zR c5; clear c5
     by_cases c6 : x12_1 < (l0.length : Int)
     ·
      rw [if_pos c6] at H
      have c6b0 : decide (x12_1 < (l0.length : Int)) = true := zR c6; clear c6
      obtain ⟨y341, hy341⟩ : ∃ y_ : List Int, y_ = (([a1] : List Int)) := ⟨_, rfl⟩
      replace H : ((slices_Concat_int64_int64.f k1 (([y341, (rd_T42 l0 x12_1).f0] : List (List Int)))).bind fun t347 => ((slices_Concat_int64_int64.f k1 (([(([a2] : List Int)), (rd_T42 l0 x12_1).f1] : List (List Int)))).bind fun t356 => (if x7_1.length < 2932031007402 then (impl_prefixed.l0 k1 a1 a2 (x7_1 ++ [(⟨t347, t356⟩ : S42)]) l0 (l0.length : Int) (wrap64 (x12_1 + 1))) else (none)))) = some r := by first | (rw [hy341]; with_reducible exact H) | (have H2_ := (Option.bind_some _ _).symm.trans H; rw [hy341]; with_reducible exact H2_) | (have H2_ := (Option.bind_some _ _).symm.trans H; with_reducible exact H2_) | with_reducible exact H | (rw [hy341]; exact H) | exact H
      have Ny341 := yD hy341
      clear hy341
      obtain ⟨y344, hy344⟩ : ∃ y_ : List (List Int), y_ = (([y341, (rd_T42 l0 x12_1).f0] : List (List Int))) := ⟨_, rfl⟩
      replace H : ((slices_Concat_int64_int64.f k1 y344).bind fun t347 => ((slices_Concat_int64_int64.f k1 (([(([a2] : List Int)), (rd_T42 l0 x12_1).f1] : List (List Int)))).bind fun t356 => (if x7_1.length < 2932031007402 then (impl_prefixed.l0 k1 a1 a2 (x7_1 ++ [(⟨t347, t356⟩ : S42)]) l0 (l0.length : Int) (wrap64 (x12_1 + 1))) else (none)))) = some r := by first | (rw [hy344]; with_reducible exact H) | (have H2_ := (Option.bind_some _ _).symm.trans H; rw [hy344]; with_reducible exact H2_) | (have H2_ := (Option.bind_some _ _).symm.trans H; with_reducible exact H2_) | with_reducible exact H | (rw [hy344]; exact H) | exact H
      have Ny344 := yD hy344
      clear hy344
      obtain ⟨t347, A70, H⟩ := zW_ H
      replace H : ((slices_Concat_int64_int64.f k1 (([(([a2] : List Int)), (rd_T42 l0 x12_1).f1] : List (List Int)))).bind fun t356 => (if x7_1.length < 2932031007402 then (impl_prefixed.l0 k1 a1 a2 (x7_1 ++ [(⟨t347, t356⟩ : S42)]) l0 (l0.length : Int) (wrap64 (x12_1 + 1))) else (none))) = some r := H
      have A7 := yD A70
      clear A70
      obtain ⟨y350, hy350⟩ : ∃ y_ : List Int, y_ = (([a2] : List Int)) := ⟨_, rfl⟩
      replace H : ((slices_Concat_int64_int64.f k1 (([y350, (rd_T42 l0 x12_1).f1] : List (List Int)))).bind fun t356 => (if x7_1.length < 2932031007402 then (impl_prefixed.l0 k1 a1 a2 (x7_1 ++ [(⟨t347, t356⟩ : S42)]) l0 (l0.length : Int) (wrap64 (x12_1 + 1))) else (none))) = some r := by first | (rw [hy350]; with_reducible exact H) | (have H2_ := (Option.bind_some _ _).symm.trans H; rw [hy350]; with_reducible exact H2_) | (have H2_ := (Option.bind_some _ _).symm.trans H; with_reducible exact H2_) | with_reducible exact H | (rw [hy350]; exact H) | exact H
      have Ny350 := yD hy350
      clear hy350
      obtain ⟨y353, hy353⟩ : ∃ y_ : List (List Int), y_ = (([y350, (rd_T42 l0 x12_1).f1] : List (List Int))) := ⟨_, rfl⟩
      replace H : ((slices_Concat_int64_int64.f k1 y353).bind fun t356 => (if x7_1.length < 2932031007402 then (impl_prefixed.l0 k1 a1 a2 (x7_1 ++ [(⟨t347, t356⟩ : S42)]) l0 (l0.length : Int) (wrap64 (x12_1 + 1))) else (none))) = some r := by first | (rw [hy353]; with_reducible exact H) | (have H2_ := (Option.bind_some _ _).symm.trans H; rw [hy353]; with_reducible exact H2_) | (have H2_ := (Option.bind_some _ _).symm.trans H; with_reducible exact H2_) | with_reducible exact H | (rw [hy353]; exact H) | exact H
      have Ny353 := yD hy353
      clear hy353
      obtain ⟨t356, A80, H⟩ := zW_ H
      replace H : (if x7_1.length < 2932031007402 then (impl_prefixed.l0 k1 a1 a2 (x7_1 ++ [(⟨t347, t356⟩ : S42)]) l0 (l0.length : Int) (wrap64 (x12_1 + 1))) else (none)) = some r := H
      have A8 := yD A80
      clear A80
      by_cases c9 : x7_1.length < 2932031007402
      ·
       rw [if_pos c9] at H
       have LMc9 := yD c9
       clear c9
       obtain ⟨y359, hy359⟩ : ∃ y_ : List (S42), y_ = (x7_1 ++ [(⟨t347, t356⟩ : S42)]) := ⟨_, rfl⟩
       replace H : (impl_prefixed.l0 k1 a1 a2 y359 l0 (l0.length : Int) (wrap64 (x12_1 + 1))) = some r := by first | (rw [hy359]; with_reducible exact H) | (have H2_ := (Option.bind_some _ _).symm.trans H; rw [hy359]; with_reducible exact H2_) | (have H2_ := (Option.bind_some _ _).symm.trans H; with_reducible exact H2_) | with_reducible exact H | (rw [hy359]; exact H) | exact H
       have Ny359 := yD hy359
       clear hy359
       have H' := yD H
       clear H
       have p339 : 0 ≤ (x12_1 : Int) := zP (by assumption)
       have q339 : x12_1 < (l0.length : Int) := zP (by assumption)
       obtain ⟨ad339, A339_0, c339_0, A339_1, c339_1, e339, hx339_0, hx339_1, hl339_0, hi339_0, hl339_1, hi339_1⟩ := at_T42 (Kd.V_reads' HO_10.out).2.2 x12_1 p339 q339
       cases e339
       obtain ⟨ce339, hce339, hMe339, hcc339⟩ := Kd.V_get HO_10.out z42 x12_1 p339 (by first | exact q339 | exact zP (by assumption) | (have e_ := (Kd.V_reads' HO_10.out).1; omega))
       obtain ⟨ua339_0, uc339_0, ua339_1, uc339_1, rfl, ul339_0, ge339_0, ul339_1, ge339_1⟩ := k42_openF hMe339
       have hv339_0 := hcc339 0 _ rfl
       rw [Nat.add_zero] at hv339_0
       replace hv339_0 := Option.some.inj (hv339_0.symm.trans hx339_0)
       injection hv339_0 with hva_ hvn_ hvc_
       rw [hva_] at ge339_0
       rw [hvc_] at ul339_0
       have HL339_0 := yD (show Kd.V (Kd.int .i64) 2 _ w.heap.size _ _ ((rd_T42 l0 x12_1).f0) from Kd.V_mk ul339_0 ge339_0)
       clear hva_ hvn_ hvc_ ge339_0 ul339_0
       have hv339_1 := hcc339 1 _ rfl
       rw [add_field _ _ 1 (by omega)] at hv339_1
       replace hv339_1 := Option.some.inj (hv339_1.symm.trans hx339_1)
       injection hv339_1 with hva_ hvn_ hvc_
       rw [hva_] at ge339_1
       rw [hvc_] at ul339_1
       have HL339_1 := yD (show Kd.V (Kd.int .i64) 2 _ w.heap.size _ _ ((rd_T42 l0 x12_1).f1) from Kd.V_mk ul339_1 ge339_1)
       clear hva_ hvn_ hvc_ ge339_1 ul339_1 hcc339 hce339
       have HR339_0 := yD hi339_0
       have HC339_0 := yD hl339_0
       clear hi339_0 hl339_0
       have HR339_1 := yD hi339_1
       have HC339_1 := yD hl339_1
       clear hi339_1 hl339_1; replace p339 := eq_true p339; replace q339 := eq_true q339
       try go_wp2_with (first | ((with_reducible refine gate_dst (N := 9) rfl ?_); refine box_event ?hg (N := 9) ?hd (cs := #[.slice none 0 0, .slice none 0 0]) (t := 42) ?hr ?_; (case hd => rfl); (case hg => rfl); (case hr => first | (go_simp; done) | (go_simp; rfl)); intro gb340 hg w10 hbox hb; replace HO_7 := yD (Kd.S_below (Kd.S_elderB (kS HO_7) gb340 (Nat.le_of_eq hg.symm)) hb); replace HO_10 := yD (Kd.V_below (Kd.V_elderB (kU HO_10) gb340 (Nat.le_of_eq hg.symm)) hb); replace HL339_0 := yD (Kd.V_below (Kd.V_elderB (kU HL339_0) gb340 (Nat.le_of_eq hg.symm)) hb); replace HL339_1 := yD (Kd.V_below (Kd.V_elderB (kU HL339_1) gb340 (Nat.le_of_eq hg.symm)) hb); replace HR339_0 := yD (yY (by repeat (first | (with_reducible exact HR339_0.out) | (with_reducible first | refine yV ?_ _ | refine yW ?_ _ | refine yX ?_) | exact HR339_0.out)) hb); replace HR339_1 := yD (yY (by repeat (first | (with_reducible exact HR339_1.out) | (with_reducible first | refine yV ?_ _ | refine yW ?_ _ | refine yX ?_) | exact HR339_1.out)) hb); have BK340 := yD (hbox); have GW340 := yD ((by rw [hg]; exact (below_size (kB HB)) : w.heap.size ≤ gb340)); have GE340 := yD ((by rw [hg]; exact (below_size (kB HB)) : w.heap.size ≤ gb340)); replace HB := yD (zC (kB HB) hb); clear hb hbox hg; obtain ⟨hcz11_0, hcz11_1⟩ := cz2 BK340.out; obtain ⟨hfz11_0, hfz11_1⟩ := fz2 BK340.out; obtain ⟨Ao12, co12, eo12⟩ := Kd.S_slice HO_7.out; subst eo12))
       have n0_ : Aside0 (Kd.S k42 42 ((w10.setCell ⟨gb340, 0, none⟩ (.slice A339_0 ((rd_T42 l0 x12_1).f0).length c339_0)).setCell ⟨gb340, 1, none⟩ (.slice A339_1 ((rd_T42 l0 x12_1).f1).length c339_1)) w.heap.size (fun k_ => (w.heap.size ≤ k_) ∧ k_ ≠ gb340) (.slice Ao12 x7_1.length co12) x7_1) := ⟨by (with_reducible repeat (first | apply yS | apply yT | apply yU)); exact Kd.S_mono (Kd.S_far (p := ⟨gb340, 1, none⟩) (Kd.S_far (p := ⟨gb340, 0, none⟩) (Kd.S_mono HO_7.out (fun k_ hk => (⟨hk, hk.2⟩ : _ ∧ k_ ≠ gb340))) (fun _ hk => hk.2) (.slice A339_0 ((rd_T42 l0 x12_1).f0).length c339_0)) (fun _ hk => hk.2) (.slice A339_1 ((rd_T42 l0 x12_1).f1).length c339_1)) (fun _ hk => ⟨hk.1.1, hk.1.2⟩)⟩
       have n1_ : Aside0 (Kd.V k42 42 ((w10.setCell ⟨gb340, 0, none⟩ (.slice A339_0 ((rd_T42 l0 x12_1).f0).length c339_0)).setCell ⟨gb340, 1, none⟩ (.slice A339_1 ((rd_T42 l0 x12_1).f1).length c339_1)) w.heap.size (fun k_ => (P0_ k_ ∨ w.heap.size ≤ k_) ∧ oB (.slice Ao12 x7_1.length co12) k_ ∧ k_ ≠ gb340) (.slice (some ad339) l0.length c0) l0) := ⟨by (with_reducible repeat (first | apply Kd.V_alloc | apply Kd.V_drewN | apply Kd.V_drew)); exact Kd.V_mono (Kd.V_far (p := ⟨gb340, 1, none⟩) (Kd.V_far (p := ⟨gb340, 0, none⟩) (Kd.V_mono HO_10.out (fun k_ hk => (⟨hk, hk.2⟩ : _ ∧ k_ ≠ gb340))) (fun _ hk => hk.2) (.slice A339_0 ((rd_T42 l0 x12_1).f0).length c339_0)) (fun _ hk => hk.2) (.slice A339_1 ((rd_T42 l0 x12_1).f1).length c339_1)) (fun _ hk => ⟨hk.1.1.1, ⟨hk.1.1.2, hk.1.2⟩⟩)⟩
       have n2_ : Aside0 (Kd.V (Kd.int .i64) 2 ((w10.setCell ⟨gb340, 0, none⟩ (.slice A339_0 ((rd_T42 l0 x12_1).f0).length c339_0)).setCell ⟨gb340, 1, none⟩ (.slice A339_1 ((rd_T42 l0 x12_1).f1).length c339_1)) w.heap.size (fun k_ => (P0_ k_ ∨ w.heap.size ≤ k_) ∧ oB (.slice Ao12 x7_1.length co12) k_ ∧ k_ ≠ gb340) (.slice A339_0 ((rd_T42 l0 x12_1).f0).length c339_0) ((rd_T42 l0 x12_1).f0)) := ⟨by (with_reducible repeat (first | apply Kd.V_alloc | apply Kd.V_drewN | apply Kd.V_drew)); exact Kd.V_mono (Kd.V_far (p := ⟨gb340, 1, none⟩) (Kd.V_far (p := ⟨gb340, 0, none⟩) (Kd.V_mono HL339_0.out (fun k_ hk => (⟨hk, hk.2⟩ : _ ∧ k_ ≠ gb340))) (fun _ hk => hk.2) (.slice A339_0 ((rd_T42 l0 x12_1).f0).length c339_0)) (fun _ hk => hk.2) (.slice A339_1 ((rd_T42 l0 x12_1).f1).length c339_1)) (fun _ hk => ⟨hk.1.1.1, ⟨hk.1.1.2, hk.1.2⟩⟩)⟩
       have n3_ : Aside0 (Kd.V (Kd.int .i64) 2 ((w10.setCell ⟨gb340, 0, none⟩ (.slice A339_0 ((rd_T42 l0 x12_1).f0).length c339_0)).setCell ⟨gb340, 1, none⟩ (.slice A339_1 ((rd_T42 l0 x12_1).f1).length c339_1)) w.heap.size (fun k_ => (P0_ k_ ∨ w.heap.size ≤ k_) ∧ oB (.slice Ao12 x7_1.length co12) k_ ∧ k_ ≠ gb340) (.slice A339_1 ((rd_T42 l0 x12_1).f1).length c339_1) ((rd_T42 l0 x12_1).f1)) := ⟨by (with_reducible repeat (first | apply Kd.V_alloc | apply Kd.V_drewN | apply Kd.V_drew)); exact Kd.V_mono (Kd.V_far (p := ⟨gb340, 1, none⟩) (Kd.V_far (p := ⟨gb340, 0, none⟩) (Kd.V_mono HL339_1.out (fun k_ hk => (⟨hk, hk.2⟩ : _ ∧ k_ ≠ gb340))) (fun _ hk => hk.2) (.slice A339_0 ((rd_T42 l0 x12_1).f0).length c339_0)) (fun _ hk => hk.2) (.slice A339_1 ((rd_T42 l0 x12_1).f1).length c339_1)) (fun _ hk => ⟨hk.1.1.1, ⟨hk.1.1.2, hk.1.2⟩⟩)⟩
       have n4_ : Aside0 (((w10.setCell ⟨gb340, 0, none⟩ (.slice A339_0 ((rd_T42 l0 x12_1).f0).length c339_0)).setCell ⟨gb340, 1, none⟩ (.slice A339_1 ((rd_T42 l0 x12_1).f1).length c339_1)).heap[gb340]? = some (.cells #[.slice A339_0 ((rd_T42 l0 x12_1).f0).length c339_0, .slice A339_1 ((rd_T42 l0 x12_1).f1).length c339_1] 42 (0, 0))) := ⟨by (with_reducible repeat (first | refine yM ?_ _ | refine yO ?_ | refine yN ?_ _)); refine blk_put (cs := #[.slice A339_0 ((rd_T42 l0 x12_1).f0).length c339_0, .slice none 0 0]) ?_ 1 _ rfl; (with_reducible repeat (first | refine yM ?_ _ | refine yO ?_ | refine yN ?_ _)); refine blk_put (cs := #[.slice none 0 0, .slice none 0 0]) ?_ 0 _ rfl; (with_reducible repeat (first | refine yM ?_ _ | refine yO ?_ | refine yN ?_ _)); exact BK340.out⟩
       have n5_ : Aside0 (Below w.heap.size w ((w10.setCell ⟨gb340, 0, none⟩ (.slice A339_0 ((rd_T42 l0 x12_1).f0).length c339_0)).setCell ⟨gb340, 1, none⟩ (.slice A339_1 ((rd_T42 l0 x12_1).f1).length c339_1))) := ⟨kR0 HB⟩
       (try clear HO_7); (try clear HO_10); (try clear HL339_0); (try clear HL339_1); (try clear BK340); (try clear HB)
       generalize ((w10.setCell ⟨gb340, 0, none⟩ (.slice A339_0 ((rd_T42 l0 x12_1).f0).length c339_0)).setCell ⟨gb340, 1, none⟩ (.slice A339_1 ((rd_T42 l0 x12_1).f1).length c339_1)) = w13 at n0_ n1_ n2_ n3_ n4_ n5_ ⊢
       have HO_7 := n0_; have HO_10 := n1_; have HL339_0 := n2_; have HL339_1 := n3_; have BK340 := n4_; have HB := n5_; clear n0_ n1_ n2_ n3_ n4_ n5_
       have n0_ := yD (yU HO_7.out)
       have n1_ := yD (Kd.V_drew HO_10.out)
       have n2_ := yD (Kd.V_drew HL339_0.out)
       have n3_ := yD (Kd.V_drew HL339_1.out)
       have n4_ := yD (yO BK340.out)
       have n5_ := yD (yP HB.out)
       clear HO_7 HO_10 HL339_0 HL339_1 BK340 HB; have HO_7 := n0_; have HO_10 := n1_; have HL339_0 := n2_; have HL339_1 := n3_; have BK340 := n4_; have HB := n5_; clear n0_ n1_ n2_ n3_ n4_ n5_
       refine start_ (n := 17) (S := fun w' => w'.cell? ⟨gb340, 0, none⟩ = some (.slice A339_0 ((rd_T42 l0 x12_1).f0).length c339_0) ∧ w'.cell? ⟨gb340, 1, none⟩ = some (.slice A339_1 ((rd_T42 l0 x12_1).f1).length c339_1)) (ds := []) (bz 17 0) (by kernel_rfl) rfl rfl ⟨(yG BK340.out 0).trans rfl, (yG BK340.out 1).trans rfl⟩ (fun hHeld => ?_); refine with_tabW impl_prefixed.tab5 impl_prefixed.bits5 (fun HT_ HW_ => ?_)
       generalize w13.drew = w14 at HO_7 HO_10 HL339_0 HL339_1 BK340 HB hHeld ⊢
       refine qA 0 16 (bz 17 1) HT_ ?_
       refine qA 1 17 (bz 17 3) HT_ ?_
       refine qA 3 19 (bz 17 11) HT_ ?_
       refine qA 7 23 (bz 17 139) HT_ ?_
       refine qA 9 25 (bz 17 651) HT_ ?_
       refine qC 4 20 (bz 17 667) HT_ HW_ hHeld ?_ (hy := by rintro w' ⟨s0, s1⟩; go_simp; with_reducible rfl)
       refine qC 10 26 (bz 17 1691) HT_ HW_ hHeld ?_ (hy := by rintro w' ⟨s0, s1⟩; go_simp; with_reducible rfl)
       refine join_ (σ := Value × Value × Value × Value × Value) 5 #[true, true, true, true, true, true, true, true, true, true, true, true, false, false, false, false, false] (fun s_ => [(18, s_.1), (21, s_.2.1), (22, s_.2.2.1), (24, s_.2.2.2.1), (27, s_.2.2.2.2)]) (fun s_ w' => (w'.cell? ⟨gb340, 0, none⟩ = some (.slice A339_0 ((rd_T42 l0 x12_1).f0).length c339_0) ∧ w'.cell? ⟨gb340, 1, none⟩ = some (.slice A339_1 ((rd_T42 l0 x12_1).f1).length c339_1)) ∧ (Kd.V (Kd.int .i64) 2 w' w.heap.size (fun k_ => (P0_ k_ ∨ w.heap.size ≤ k_) ∧ some k_ ≠ (s_.2.1 : Value).ownBlock ∧ some k_ ≠ (s_.2.2.1 : Value).ownBlock ∧ some k_ ≠ (s_.2.2.2.2 : Value).ownBlock ∧ oB (.slice Ao12 x7_1.length co12) k_ ∧ k_ ≠ gb340) (.slice A339_0 ((rd_T42 l0 x12_1).f0).length c339_0) ((rd_T42 l0 x12_1).f0)) ∧ (Kd.V (Kd.int .i64) 2 w' w.heap.size (fun k_ => (P0_ k_ ∨ w.heap.size ≤ k_) ∧ some k_ ≠ (s_.2.1 : Value).ownBlock ∧ some k_ ≠ (s_.2.2.1 : Value).ownBlock ∧ some k_ ≠ (s_.2.2.2.2 : Value).ownBlock ∧ oB (.slice Ao12 x7_1.length co12) k_ ∧ k_ ≠ gb340) (.slice A339_1 ((rd_T42 l0 x12_1).f1).length c339_1) ((rd_T42 l0 x12_1).f1)) ∧ (Kd.N (Kd.slice 2 (Kd.int .i64)) 36 w' w.heap.size (fun k_ => (P0_ k_ ∨ w.heap.size ≤ k_) ∧ some k_ ≠ (s_.2.2.1 : Value).ownBlock ∧ some k_ ≠ (s_.2.2.2.2 : Value).ownBlock ∧ oB (.slice Ao12 x7_1.length co12) k_ ∧ k_ ≠ gb340) s_.2.1 y344) ∧ (Kd.R (Kd.int .i64) 2 w' w.heap.size (fun k_ => (w.heap.size ≤ k_)) s_.2.2.1 t347) ∧ (Kd.N (Kd.slice 2 (Kd.int .i64)) 36 w' w.heap.size (fun k_ => (P0_ k_ ∨ w.heap.size ≤ k_) ∧ some k_ ≠ (s_.2.1 : Value).ownBlock ∧ some k_ ≠ (s_.2.2.1 : Value).ownBlock ∧ oB (.slice Ao12 x7_1.length co12) k_ ∧ k_ ≠ gb340) s_.2.2.2.2 y353) ∧ (Kd.V k42 42 w' w.heap.size (fun k_ => (P0_ k_ ∨ w.heap.size ≤ k_) ∧ some k_ ≠ (s_.2.1 : Value).ownBlock ∧ some k_ ≠ (s_.2.2.1 : Value).ownBlock ∧ some k_ ≠ (s_.2.2.2.2 : Value).ownBlock ∧ oB (.slice Ao12 x7_1.length co12) k_ ∧ k_ ≠ gb340) (.slice (some ad339) l0.length c0) l0) ∧ (Kd.S k42 42 w' w.heap.size (fun k_ => (w.heap.size ≤ k_) ∧ some k_ ≠ (s_.2.2.1 : Value).ownBlock ∧ k_ ≠ gb340) (.slice Ao12 x7_1.length co12) x7_1) ∧ (w'.heap[gb340]? = some (.cells #[.slice A339_0 ((rd_T42 l0 x12_1).f0).length c339_0, .slice A339_1 ((rd_T42 l0 x12_1).f1).length c339_1] 42 (0, 0))) ∧ (Below w.heap.size w w')) ?_ ?_
       rotate_left
       ·
        intro hJ2_5_6_8_11
        refine join_ (σ := Value × Value × Value × Value) 6 #[true, true, true, true, true, true, true, true, true, true, true, false, false, false, false, false, false] (fun s_ => [(18, s_.1), (21, s_.2.1), (22, s_.2.2.1), (24, s_.2.2.2)]) (fun s_ w' => (w'.cell? ⟨gb340, 0, none⟩ = some (.slice A339_0 ((rd_T42 l0 x12_1).f0).length c339_0) ∧ w'.cell? ⟨gb340, 1, none⟩ = some (.slice A339_1 ((rd_T42 l0 x12_1).f1).length c339_1)) ∧ (Kd.V (Kd.int .i64) 2 w' w.heap.size (fun k_ => (P0_ k_ ∨ w.heap.size ≤ k_) ∧ some k_ ≠ (s_.2.1 : Value).ownBlock ∧ some k_ ≠ (s_.2.2.1 : Value).ownBlock ∧ some k_ ≠ (s_.2.2.2 : Value).ownBlock ∧ oB (.slice Ao12 x7_1.length co12) k_ ∧ k_ ≠ gb340) (.slice A339_0 ((rd_T42 l0 x12_1).f0).length c339_0) ((rd_T42 l0 x12_1).f0)) ∧ (Kd.V (Kd.int .i64) 2 w' w.heap.size (fun k_ => (P0_ k_ ∨ w.heap.size ≤ k_) ∧ some k_ ≠ (s_.2.1 : Value).ownBlock ∧ some k_ ≠ (s_.2.2.1 : Value).ownBlock ∧ some k_ ≠ (s_.2.2.2 : Value).ownBlock ∧ oB (.slice Ao12 x7_1.length co12) k_ ∧ k_ ≠ gb340) (.slice A339_1 ((rd_T42 l0 x12_1).f1).length c339_1) ((rd_T42 l0 x12_1).f1)) ∧ (Kd.N (Kd.slice 2 (Kd.int .i64)) 36 w' w.heap.size (fun k_ => (P0_ k_ ∨ w.heap.size ≤ k_) ∧ some k_ ≠ (s_.2.2.1 : Value).ownBlock ∧ some k_ ≠ (s_.2.2.2 : Value).ownBlock ∧ oB (.slice Ao12 x7_1.length co12) k_ ∧ k_ ≠ gb340) s_.2.1 y344) ∧ (Kd.R (Kd.int .i64) 2 w' w.heap.size (fun k_ => (w.heap.size ≤ k_) ∧ some k_ ≠ (s_.2.2.2 : Value).ownBlock) s_.2.2.1 t347) ∧ (Kd.R (Kd.int .i64) 2 w' w.heap.size (fun k_ => (w.heap.size ≤ k_) ∧ some k_ ≠ (s_.2.2.1 : Value).ownBlock) s_.2.2.2 y350) ∧ (Kd.V k42 42 w' w.heap.size (fun k_ => (P0_ k_ ∨ w.heap.size ≤ k_) ∧ some k_ ≠ (s_.2.1 : Value).ownBlock ∧ some k_ ≠ (s_.2.2.1 : Value).ownBlock ∧ some k_ ≠ (s_.2.2.2 : Value).ownBlock ∧ oB (.slice Ao12 x7_1.length co12) k_ ∧ k_ ≠ gb340) (.slice (some ad339) l0.length c0) l0) ∧ (Kd.S k42 42 w' w.heap.size (fun k_ => (w.heap.size ≤ k_) ∧ some k_ ≠ (s_.2.2.1 : Value).ownBlock ∧ some k_ ≠ (s_.2.2.2 : Value).ownBlock ∧ k_ ≠ gb340) (.slice Ao12 x7_1.length co12) x7_1) ∧ (w'.heap[gb340]? = some (.cells #[.slice A339_0 ((rd_T42 l0 x12_1).f0).length c339_0, .slice A339_1 ((rd_T42 l0 x12_1).f1).length c339_1] 42 (0, 0))) ∧ (Below w.heap.size w w')) ?_ ?_
        rotate_left
        ·
         intro hJ2_5_6_8
         refine join_ (σ := Value × Value × Value × Value) 6 #[true, true, true, true, true, true, false, true, true, true, true, true, false, false, false, false, false] (fun s_ => [(18, s_.1), (21, s_.2.1), (24, s_.2.2.1), (27, s_.2.2.2)]) (fun s_ w' => (w'.cell? ⟨gb340, 0, none⟩ = some (.slice A339_0 ((rd_T42 l0 x12_1).f0).length c339_0) ∧ w'.cell? ⟨gb340, 1, none⟩ = some (.slice A339_1 ((rd_T42 l0 x12_1).f1).length c339_1)) ∧ (Kd.V (Kd.int .i64) 2 w' w.heap.size (fun k_ => (P0_ k_ ∨ w.heap.size ≤ k_) ∧ some k_ ≠ (s_.2.1 : Value).ownBlock ∧ some k_ ≠ (s_.2.2.2 : Value).ownBlock ∧ oB (.slice Ao12 x7_1.length co12) k_ ∧ k_ ≠ gb340) (.slice A339_0 ((rd_T42 l0 x12_1).f0).length c339_0) ((rd_T42 l0 x12_1).f0)) ∧ (Kd.V (Kd.int .i64) 2 w' w.heap.size (fun k_ => (P0_ k_ ∨ w.heap.size ≤ k_) ∧ some k_ ≠ (s_.2.1 : Value).ownBlock ∧ some k_ ≠ (s_.2.2.2 : Value).ownBlock ∧ oB (.slice Ao12 x7_1.length co12) k_ ∧ k_ ≠ gb340) (.slice A339_1 ((rd_T42 l0 x12_1).f1).length c339_1) ((rd_T42 l0 x12_1).f1)) ∧ (Kd.N (Kd.slice 2 (Kd.int .i64)) 36 w' w.heap.size (fun k_ => (P0_ k_ ∨ w.heap.size ≤ k_) ∧ some k_ ≠ (s_.2.2.2 : Value).ownBlock ∧ oB (.slice Ao12 x7_1.length co12) k_ ∧ k_ ≠ gb340) s_.2.1 y344) ∧ (Kd.N (Kd.slice 2 (Kd.int .i64)) 36 w' w.heap.size (fun k_ => (P0_ k_ ∨ w.heap.size ≤ k_) ∧ some k_ ≠ (s_.2.1 : Value).ownBlock ∧ oB (.slice Ao12 x7_1.length co12) k_ ∧ k_ ≠ gb340) s_.2.2.2 y353) ∧ (Kd.V k42 42 w' w.heap.size (fun k_ => (P0_ k_ ∨ w.heap.size ≤ k_) ∧ some k_ ≠ (s_.2.1 : Value).ownBlock ∧ some k_ ≠ (s_.2.2.2 : Value).ownBlock ∧ oB (.slice Ao12 x7_1.length co12) k_ ∧ k_ ≠ gb340) (.slice (some ad339) l0.length c0) l0) ∧ (Kd.S k42 42 w' w.heap.size (fun k_ => (w.heap.size ≤ k_) ∧ k_ ≠ gb340) (.slice Ao12 x7_1.length co12) x7_1) ∧ (w'.heap[gb340]? = some (.cells #[.slice A339_0 ((rd_T42 l0 x12_1).f0).length c339_0, .slice A339_1 ((rd_T42 l0 x12_1).f1).length c339_1] 42 (0, 0))) ∧ (Below w.heap.size w w')) ?_ ?_
         rotate_left
         ·
          intro hJ2_5_8_11
          refine join_ (σ := Value × Value × Value) 7 #[true, true, true, true, true, true, true, true, false, true, true, false, false, false, false, false, false] (fun s_ => [(18, s_.1), (21, s_.2.1), (22, s_.2.2)]) (fun s_ w' => (w'.cell? ⟨gb340, 0, none⟩ = some (.slice A339_0 ((rd_T42 l0 x12_1).f0).length c339_0) ∧ w'.cell? ⟨gb340, 1, none⟩ = some (.slice A339_1 ((rd_T42 l0 x12_1).f1).length c339_1)) ∧ (Kd.V (Kd.int .i64) 2 w' w.heap.size (fun k_ => (P0_ k_ ∨ w.heap.size ≤ k_) ∧ some k_ ≠ (s_.2.1 : Value).ownBlock ∧ some k_ ≠ (s_.2.2 : Value).ownBlock ∧ oB (.slice Ao12 x7_1.length co12) k_ ∧ k_ ≠ gb340) (.slice A339_0 ((rd_T42 l0 x12_1).f0).length c339_0) ((rd_T42 l0 x12_1).f0)) ∧ (Kd.V (Kd.int .i64) 2 w' w.heap.size (fun k_ => (P0_ k_ ∨ w.heap.size ≤ k_) ∧ some k_ ≠ (s_.2.1 : Value).ownBlock ∧ some k_ ≠ (s_.2.2 : Value).ownBlock ∧ oB (.slice Ao12 x7_1.length co12) k_ ∧ k_ ≠ gb340) (.slice A339_1 ((rd_T42 l0 x12_1).f1).length c339_1) ((rd_T42 l0 x12_1).f1)) ∧ (Kd.N (Kd.slice 2 (Kd.int .i64)) 36 w' w.heap.size (fun k_ => (P0_ k_ ∨ w.heap.size ≤ k_) ∧ some k_ ≠ (s_.2.2 : Value).ownBlock ∧ oB (.slice Ao12 x7_1.length co12) k_ ∧ k_ ≠ gb340) s_.2.1 y344) ∧ (Kd.R (Kd.int .i64) 2 w' w.heap.size (fun k_ => (w.heap.size ≤ k_)) s_.2.2 t347) ∧ (Kd.V k42 42 w' w.heap.size (fun k_ => (P0_ k_ ∨ w.heap.size ≤ k_) ∧ some k_ ≠ (s_.2.1 : Value).ownBlock ∧ some k_ ≠ (s_.2.2 : Value).ownBlock ∧ oB (.slice Ao12 x7_1.length co12) k_ ∧ k_ ≠ gb340) (.slice (some ad339) l0.length c0) l0) ∧ (Kd.S k42 42 w' w.heap.size (fun k_ => (w.heap.size ≤ k_) ∧ some k_ ≠ (s_.2.2 : Value).ownBlock ∧ k_ ≠ gb340) (.slice Ao12 x7_1.length co12) x7_1) ∧ (w'.heap[gb340]? = some (.cells #[.slice A339_0 ((rd_T42 l0 x12_1).f0).length c339_0, .slice A339_1 ((rd_T42 l0 x12_1).f1).length c339_1] 42 (0, 0))) ∧ (Below w.heap.size w w')) ?_ ?_
          rotate_left
          ·
           intro hJ2_5_6
           refine join_ (σ := Value × Value × Value) 7 #[true, true, true, true, true, true, false, true, true, true, true, false, false, false, false, false, false] (fun s_ => [(18, s_.1), (21, s_.2.1), (24, s_.2.2)]) (fun s_ w' => (w'.cell? ⟨gb340, 0, none⟩ = some (.slice A339_0 ((rd_T42 l0 x12_1).f0).length c339_0) ∧ w'.cell? ⟨gb340, 1, none⟩ = some (.slice A339_1 ((rd_T42 l0 x12_1).f1).length c339_1)) ∧ (Kd.V (Kd.int .i64) 2 w' w.heap.size (fun k_ => (P0_ k_ ∨ w.heap.size ≤ k_) ∧ some k_ ≠ (s_.2.1 : Value).ownBlock ∧ some k_ ≠ (s_.2.2 : Value).ownBlock ∧ oB (.slice Ao12 x7_1.length co12) k_ ∧ k_ ≠ gb340) (.slice A339_0 ((rd_T42 l0 x12_1).f0).length c339_0) ((rd_T42 l0 x12_1).f0)) ∧ (Kd.V (Kd.int .i64) 2 w' w.heap.size (fun k_ => (P0_ k_ ∨ w.heap.size ≤ k_) ∧ some k_ ≠ (s_.2.1 : Value).ownBlock ∧ some k_ ≠ (s_.2.2 : Value).ownBlock ∧ oB (.slice Ao12 x7_1.length co12) k_ ∧ k_ ≠ gb340) (.slice A339_1 ((rd_T42 l0 x12_1).f1).length c339_1) ((rd_T42 l0 x12_1).f1)) ∧ (Kd.N (Kd.slice 2 (Kd.int .i64)) 36 w' w.heap.size (fun k_ => (P0_ k_ ∨ w.heap.size ≤ k_) ∧ some k_ ≠ (s_.2.2 : Value).ownBlock ∧ oB (.slice Ao12 x7_1.length co12) k_ ∧ k_ ≠ gb340) s_.2.1 y344) ∧ (Kd.R (Kd.int .i64) 2 w' w.heap.size (fun k_ => (w.heap.size ≤ k_)) s_.2.2 y350) ∧ (Kd.V k42 42 w' w.heap.size (fun k_ => (P0_ k_ ∨ w.heap.size ≤ k_) ∧ some k_ ≠ (s_.2.1 : Value).ownBlock ∧ some k_ ≠ (s_.2.2 : Value).ownBlock ∧ oB (.slice Ao12 x7_1.length co12) k_ ∧ k_ ≠ gb340) (.slice (some ad339) l0.length c0) l0) ∧ (Kd.S k42 42 w' w.heap.size (fun k_ => (w.heap.size ≤ k_) ∧ some k_ ≠ (s_.2.2 : Value).ownBlock ∧ k_ ≠ gb340) (.slice Ao12 x7_1.length co12) x7_1) ∧ (w'.heap[gb340]? = some (.cells #[.slice A339_0 ((rd_T42 l0 x12_1).f0).length c339_0, .slice A339_1 ((rd_T42 l0 x12_1).f1).length c339_1] 42 (0, 0))) ∧ (Below w.heap.size w w')) ?_ ?_
           rotate_left
           ·
            intro hJ2_5_8
            refine join_ (σ := Value × Value × Value) 7 #[true, true, true, true, true, false, false, true, true, true, true, true, false, false, false, false, false] (fun s_ => [(18, s_.1), (24, s_.2.1), (27, s_.2.2)]) (fun s_ w' => (w'.cell? ⟨gb340, 0, none⟩ = some (.slice A339_0 ((rd_T42 l0 x12_1).f0).length c339_0) ∧ w'.cell? ⟨gb340, 1, none⟩ = some (.slice A339_1 ((rd_T42 l0 x12_1).f1).length c339_1)) ∧ (Kd.V (Kd.int .i64) 2 w' w.heap.size (fun k_ => (P0_ k_ ∨ w.heap.size ≤ k_) ∧ some k_ ≠ (s_.1 : Value).ownBlock ∧ some k_ ≠ (s_.2.2 : Value).ownBlock ∧ oB (.slice Ao12 x7_1.length co12) k_ ∧ k_ ≠ gb340) (.slice A339_0 ((rd_T42 l0 x12_1).f0).length c339_0) ((rd_T42 l0 x12_1).f0)) ∧ (Kd.V (Kd.int .i64) 2 w' w.heap.size (fun k_ => (P0_ k_ ∨ w.heap.size ≤ k_) ∧ some k_ ≠ (s_.1 : Value).ownBlock ∧ some k_ ≠ (s_.2.2 : Value).ownBlock ∧ oB (.slice Ao12 x7_1.length co12) k_ ∧ k_ ≠ gb340) (.slice A339_1 ((rd_T42 l0 x12_1).f1).length c339_1) ((rd_T42 l0 x12_1).f1)) ∧ (Kd.R (Kd.int .i64) 2 w' w.heap.size (fun k_ => (w.heap.size ≤ k_)) s_.1 y341) ∧ (Kd.N (Kd.slice 2 (Kd.int .i64)) 36 w' w.heap.size (fun k_ => (P0_ k_ ∨ w.heap.size ≤ k_) ∧ some k_ ≠ (s_.1 : Value).ownBlock ∧ oB (.slice Ao12 x7_1.length co12) k_ ∧ k_ ≠ gb340) s_.2.2 y353) ∧ (Kd.V k42 42 w' w.heap.size (fun k_ => (P0_ k_ ∨ w.heap.size ≤ k_) ∧ some k_ ≠ (s_.1 : Value).ownBlock ∧ some k_ ≠ (s_.2.2 : Value).ownBlock ∧ oB (.slice Ao12 x7_1.length co12) k_ ∧ k_ ≠ gb340) (.slice (some ad339) l0.length c0) l0) ∧ (Kd.S k42 42 w' w.heap.size (fun k_ => (w.heap.size ≤ k_) ∧ some k_ ≠ (s_.1 : Value).ownBlock ∧ k_ ≠ gb340) (.slice Ao12 x7_1.length co12) x7_1) ∧ (w'.heap[gb340]? = some (.cells #[.slice A339_0 ((rd_T42 l0 x12_1).f0).length c339_0, .slice A339_1 ((rd_T42 l0 x12_1).f1).length c339_1] 42 (0, 0))) ∧ (Below w.heap.size w w')) ?_ ?_
            rotate_left
            ·
             intro hJ2_8_11
             refine join_ (σ := Value × Value) 8 #[true, true, true, true, true, true, false, true, false, true, true, false, false, false, false, false, false] (fun s_ => [(18, s_.1), (21, s_.2)]) (fun s_ w' => (w'.cell? ⟨gb340, 0, none⟩ = some (.slice A339_0 ((rd_T42 l0 x12_1).f0).length c339_0) ∧ w'.cell? ⟨gb340, 1, none⟩ = some (.slice A339_1 ((rd_T42 l0 x12_1).f1).length c339_1)) ∧ (Kd.V (Kd.int .i64) 2 w' w.heap.size (fun k_ => (P0_ k_ ∨ w.heap.size ≤ k_) ∧ some k_ ≠ (s_.2 : Value).ownBlock ∧ oB (.slice Ao12 x7_1.length co12) k_ ∧ k_ ≠ gb340) (.slice A339_0 ((rd_T42 l0 x12_1).f0).length c339_0) ((rd_T42 l0 x12_1).f0)) ∧ (Kd.V (Kd.int .i64) 2 w' w.heap.size (fun k_ => (P0_ k_ ∨ w.heap.size ≤ k_) ∧ some k_ ≠ (s_.2 : Value).ownBlock ∧ oB (.slice Ao12 x7_1.length co12) k_ ∧ k_ ≠ gb340) (.slice A339_1 ((rd_T42 l0 x12_1).f1).length c339_1) ((rd_T42 l0 x12_1).f1)) ∧ (Kd.N (Kd.slice 2 (Kd.int .i64)) 36 w' w.heap.size (fun k_ => (P0_ k_ ∨ w.heap.size ≤ k_) ∧ oB (.slice Ao12 x7_1.length co12) k_ ∧ k_ ≠ gb340) s_.2 y344) ∧ (Kd.V k42 42 w' w.heap.size (fun k_ => (P0_ k_ ∨ w.heap.size ≤ k_) ∧ some k_ ≠ (s_.2 : Value).ownBlock ∧ oB (.slice Ao12 x7_1.length co12) k_ ∧ k_ ≠ gb340) (.slice (some ad339) l0.length c0) l0) ∧ (Kd.S k42 42 w' w.heap.size (fun k_ => (w.heap.size ≤ k_) ∧ k_ ≠ gb340) (.slice Ao12 x7_1.length co12) x7_1) ∧ (w'.heap[gb340]? = some (.cells #[.slice A339_0 ((rd_T42 l0 x12_1).f0).length c339_0, .slice A339_1 ((rd_T42 l0 x12_1).f1).length c339_1] 42 (0, 0))) ∧ (Below w.heap.size w w')) ?_ ?_
             rotate_left
             ·
              intro hJ2_5
              refine join_ (σ := Value × Value) 8 #[true, true, true, true, true, false, false, true, true, true, true, false, false, false, false, false, false] (fun s_ => [(18, s_.1), (24, s_.2)]) (fun s_ w' => (w'.cell? ⟨gb340, 0, none⟩ = some (.slice A339_0 ((rd_T42 l0 x12_1).f0).length c339_0) ∧ w'.cell? ⟨gb340, 1, none⟩ = some (.slice A339_1 ((rd_T42 l0 x12_1).f1).length c339_1)) ∧ (Kd.V (Kd.int .i64) 2 w' w.heap.size (fun k_ => (P0_ k_ ∨ w.heap.size ≤ k_) ∧ some k_ ≠ (s_.1 : Value).ownBlock ∧ some k_ ≠ (s_.2 : Value).ownBlock ∧ oB (.slice Ao12 x7_1.length co12) k_ ∧ k_ ≠ gb340) (.slice A339_0 ((rd_T42 l0 x12_1).f0).length c339_0) ((rd_T42 l0 x12_1).f0)) ∧ (Kd.V (Kd.int .i64) 2 w' w.heap.size (fun k_ => (P0_ k_ ∨ w.heap.size ≤ k_) ∧ some k_ ≠ (s_.1 : Value).ownBlock ∧ some k_ ≠ (s_.2 : Value).ownBlock ∧ oB (.slice Ao12 x7_1.length co12) k_ ∧ k_ ≠ gb340) (.slice A339_1 ((rd_T42 l0 x12_1).f1).length c339_1) ((rd_T42 l0 x12_1).f1)) ∧ (Kd.R (Kd.int .i64) 2 w' w.heap.size (fun k_ => (w.heap.size ≤ k_) ∧ some k_ ≠ (s_.2 : Value).ownBlock) s_.1 y341) ∧ (Kd.R (Kd.int .i64) 2 w' w.heap.size (fun k_ => (w.heap.size ≤ k_) ∧ some k_ ≠ (s_.1 : Value).ownBlock) s_.2 y350) ∧ (Kd.V k42 42 w' w.heap.size (fun k_ => (P0_ k_ ∨ w.heap.size ≤ k_) ∧ some k_ ≠ (s_.1 : Value).ownBlock ∧ some k_ ≠ (s_.2 : Value).ownBlock ∧ oB (.slice Ao12 x7_1.length co12) k_ ∧ k_ ≠ gb340) (.slice (some ad339) l0.length c0) l0) ∧ (Kd.S k42 42 w' w.heap.size (fun k_ => (w.heap.size ≤ k_) ∧ some k_ ≠ (s_.1 : Value).ownBlock ∧ some k_ ≠ (s_.2 : Value).ownBlock ∧ k_ ≠ gb340) (.slice Ao12 x7_1.length co12) x7_1) ∧ (w'.heap[gb340]? = some (.cells #[.slice A339_0 ((rd_T42 l0 x12_1).f0).length c339_0, .slice A339_1 ((rd_T42 l0 x12_1).f1).length c339_1] 42 (0, 0))) ∧ (Below w.heap.size w w')) ?_ ?_
              rotate_left
              ·
               intro hJ2_8
               refine join_ (σ := Value × Value) 8 #[true, true, false, true, true, false, false, true, true, true, true, true, false, false, false, false, false] (fun s_ => [(24, s_.1), (27, s_.2)]) (fun s_ w' => (w'.cell? ⟨gb340, 0, none⟩ = some (.slice A339_0 ((rd_T42 l0 x12_1).f0).length c339_0) ∧ w'.cell? ⟨gb340, 1, none⟩ = some (.slice A339_1 ((rd_T42 l0 x12_1).f1).length c339_1)) ∧ (Kd.V (Kd.int .i64) 2 w' w.heap.size (fun k_ => (P0_ k_ ∨ w.heap.size ≤ k_) ∧ some k_ ≠ (s_.2 : Value).ownBlock ∧ oB (.slice Ao12 x7_1.length co12) k_ ∧ k_ ≠ gb340) (.slice A339_0 ((rd_T42 l0 x12_1).f0).length c339_0) ((rd_T42 l0 x12_1).f0)) ∧ (Kd.V (Kd.int .i64) 2 w' w.heap.size (fun k_ => (P0_ k_ ∨ w.heap.size ≤ k_) ∧ some k_ ≠ (s_.2 : Value).ownBlock ∧ oB (.slice Ao12 x7_1.length co12) k_ ∧ k_ ≠ gb340) (.slice A339_1 ((rd_T42 l0 x12_1).f1).length c339_1) ((rd_T42 l0 x12_1).f1)) ∧ (Kd.N (Kd.slice 2 (Kd.int .i64)) 36 w' w.heap.size (fun k_ => (P0_ k_ ∨ w.heap.size ≤ k_) ∧ oB (.slice Ao12 x7_1.length co12) k_ ∧ k_ ≠ gb340) s_.2 y353) ∧ (Kd.V k42 42 w' w.heap.size (fun k_ => (P0_ k_ ∨ w.heap.size ≤ k_) ∧ some k_ ≠ (s_.2 : Value).ownBlock ∧ oB (.slice Ao12 x7_1.length co12) k_ ∧ k_ ≠ gb340) (.slice (some ad339) l0.length c0) l0) ∧ (Kd.S k42 42 w' w.heap.size (fun k_ => (w.heap.size ≤ k_) ∧ k_ ≠ gb340) (.slice Ao12 x7_1.length co12) x7_1) ∧ (w'.heap[gb340]? = some (.cells #[.slice A339_0 ((rd_T42 l0 x12_1).f0).length c339_0, .slice A339_1 ((rd_T42 l0 x12_1).f1).length c339_1] 42 (0, 0))) ∧ (Below w.heap.size w w')) ?_ ?_
               rotate_left
               ·
                intro hJ8_11
                refine join_ (σ := Value) 9 #[true, true, true, true, true, false, false, true, false, true, true, false, false, false, false, false, false] (fun s_ => [(18, s_)]) (fun s_ w' => (w'.cell? ⟨gb340, 0, none⟩ = some (.slice A339_0 ((rd_T42 l0 x12_1).f0).length c339_0) ∧ w'.cell? ⟨gb340, 1, none⟩ = some (.slice A339_1 ((rd_T42 l0 x12_1).f1).length c339_1)) ∧ (Kd.V (Kd.int .i64) 2 w' w.heap.size (fun k_ => (P0_ k_ ∨ w.heap.size ≤ k_) ∧ some k_ ≠ (s_ : Value).ownBlock ∧ oB (.slice Ao12 x7_1.length co12) k_ ∧ k_ ≠ gb340) (.slice A339_0 ((rd_T42 l0 x12_1).f0).length c339_0) ((rd_T42 l0 x12_1).f0)) ∧ (Kd.V (Kd.int .i64) 2 w' w.heap.size (fun k_ => (P0_ k_ ∨ w.heap.size ≤ k_) ∧ some k_ ≠ (s_ : Value).ownBlock ∧ oB (.slice Ao12 x7_1.length co12) k_ ∧ k_ ≠ gb340) (.slice A339_1 ((rd_T42 l0 x12_1).f1).length c339_1) ((rd_T42 l0 x12_1).f1)) ∧ (Kd.R (Kd.int .i64) 2 w' w.heap.size (fun k_ => (w.heap.size ≤ k_)) s_ y341) ∧ (Kd.V k42 42 w' w.heap.size (fun k_ => (P0_ k_ ∨ w.heap.size ≤ k_) ∧ some k_ ≠ (s_ : Value).ownBlock ∧ oB (.slice Ao12 x7_1.length co12) k_ ∧ k_ ≠ gb340) (.slice (some ad339) l0.length c0) l0) ∧ (Kd.S k42 42 w' w.heap.size (fun k_ => (w.heap.size ≤ k_) ∧ some k_ ≠ (s_ : Value).ownBlock ∧ k_ ≠ gb340) (.slice Ao12 x7_1.length co12) x7_1) ∧ (w'.heap[gb340]? = some (.cells #[.slice A339_0 ((rd_T42 l0 x12_1).f0).length c339_0, .slice A339_1 ((rd_T42 l0 x12_1).f1).length c339_1] 42 (0, 0))) ∧ (Below w.heap.size w w')) ?_ ?_
                rotate_left
                ·
                 intro hJ2
                 refine join_ (σ := Value) 9 #[true, true, false, true, true, false, false, true, true, true, true, false, false, false, false, false, false] (fun s_ => [(24, s_)]) (fun s_ w' => (w'.cell? ⟨gb340, 0, none⟩ = some (.slice A339_0 ((rd_T42 l0 x12_1).f0).length c339_0) ∧ w'.cell? ⟨gb340, 1, none⟩ = some (.slice A339_1 ((rd_T42 l0 x12_1).f1).length c339_1)) ∧ (Kd.V (Kd.int .i64) 2 w' w.heap.size (fun k_ => (P0_ k_ ∨ w.heap.size ≤ k_) ∧ some k_ ≠ (s_ : Value).ownBlock ∧ oB (.slice Ao12 x7_1.length co12) k_ ∧ k_ ≠ gb340) (.slice A339_0 ((rd_T42 l0 x12_1).f0).length c339_0) ((rd_T42 l0 x12_1).f0)) ∧ (Kd.V (Kd.int .i64) 2 w' w.heap.size (fun k_ => (P0_ k_ ∨ w.heap.size ≤ k_) ∧ some k_ ≠ (s_ : Value).ownBlock ∧ oB (.slice Ao12 x7_1.length co12) k_ ∧ k_ ≠ gb340) (.slice A339_1 ((rd_T42 l0 x12_1).f1).length c339_1) ((rd_T42 l0 x12_1).f1)) ∧ (Kd.R (Kd.int .i64) 2 w' w.heap.size (fun k_ => (w.heap.size ≤ k_)) s_ y350) ∧ (Kd.V k42 42 w' w.heap.size (fun k_ => (P0_ k_ ∨ w.heap.size ≤ k_) ∧ some k_ ≠ (s_ : Value).ownBlock ∧ oB (.slice Ao12 x7_1.length co12) k_ ∧ k_ ≠ gb340) (.slice (some ad339) l0.length c0) l0) ∧ (Kd.S k42 42 w' w.heap.size (fun k_ => (w.heap.size ≤ k_) ∧ some k_ ≠ (s_ : Value).ownBlock ∧ k_ ≠ gb340) (.slice Ao12 x7_1.length co12) x7_1) ∧ (w'.heap[gb340]? = some (.cells #[.slice A339_0 ((rd_T42 l0 x12_1).f0).length c339_0, .slice A339_1 ((rd_T42 l0 x12_1).f1).length c339_1] 42 (0, 0))) ∧ (Below w.heap.size w w')) ?_ ?_
                 rotate_left
                 ·
                  intro hJ8
                  refine two_ (i := 2) (j := 8) (Ni := some 18) (Nj := some 24) #[true, true, true, true, true, false, false, true, false, true, true, false, false, false, false, false, false] #[true, true, false, true, true, false, false, true, true, true, true, false, false, false, false, false, false] rfl rfl rfl rfl (two_of HT_.out (by kernel_rfl)) (by decide) (by decide) (fun K hK => ?_) (fun K hK => ?_)
                  · skip
                    refine Kd.R_lit_step (Kd.int .i64) _ 2 ?hg (N := 18) ?hd (xs := ([a1] : List Int)) (inner := [.int .i64 a1]) (ok := fun _ => True) (okp := fun _ => True) ?hr ?hp (fun _ hk => hk) trivial (Below.refl _ _) (Nat.le_refl _) (by simp) ?_; (case hd => rfl); (case hg => rfl); (case hr => first | (go_simp; done) | (go_simp; rfl)); (case hp => exact (Reps.one (show Kd.M (Kd.int .i64) _ _ _ a1 [.int .i64 a1] from rfl) (Reps.none _ _)))
                    intro v342 w15 ho16 hb hg_ hnew_
                    clear hg_ hnew_
                    (first | rw [← Ny341.out] at ho16 | (simp only [Int.reduceToNat] at ho16; rw [← Ny341.out] at ho16))
                    have n0_ := yD (Kd.S_elder' (kS HO_7) (yH ho16) hb)
                    have n1_ := yD (Kd.V_elder' (kU HO_10) (yH ho16) hb)
                    have n2_ := yD (Kd.V_elder' (kU HL339_0) (yH ho16) hb)
                    have n3_ := yD (Kd.V_elder' (kU HL339_1) (yH ho16) hb)
                    have n4_ := yD (yZ (Kd.R_newM (M := fun k_ => (w.heap.size ≤ k_)) ho16 (below_size (kB HB)) (fun k_ h_ => h_)) (below_size (kB HB)))
                    have n5_ := yD (zB (kN BK340) hb)
                    have n6_ := yD (zC (kB HB) hb)
                    clear HO_7 HO_10 HL339_0 HL339_1 BK340 HB; have HO_7 := n0_; have HO_10 := n1_; have HL339_0 := n2_; have HL339_1 := n3_; have HO343 := n4_; have BK340 := n5_; have HB := n6_; clear n0_ n1_ n2_ n3_ n4_ n5_ n6_ hb ho16
                    refine hK.out _ _ ⟨(yG BK340.out 0).trans rfl, (yG BK340.out 1).trans rfl⟩ (fun hHeld => ?_)
                    clear hK K
                    refine norm_ (a' := ?_) ?_ ?_
                    rotate_left
                    · show Act.put _ (some 18) _ = _
                      simp only [Act.put, zH, zI, zJ, i64_w, i32_w]
                      rfl
                    exact norm_ (by first | (simp only [putAll, Act.put, zH, zI, zJ]; done) | (simp only [putAll, Act.put, zH, zI, zJ]; rfl)) (hJ2 (v342) _ ⟨hHeld, (mV HL339_0 (fun _ hk => ⟨hk.1.1, ⟨hk.2, ⟨hk.1.2.1, hk.1.2.2⟩⟩⟩)), (mV HL339_1 (fun _ hk => ⟨hk.1.1, ⟨hk.2, ⟨hk.1.2.1, hk.1.2.2⟩⟩⟩)), (mR HO343 (fun _ hk => hk.1)), (mV HO_10 (fun _ hk => ⟨hk.1.1, ⟨hk.2, ⟨hk.1.2.1, hk.1.2.2⟩⟩⟩)), (mS HO_7 (fun _ hk => ⟨hk.1.1, ⟨hk.2, hk.1.2⟩⟩)), (kM BK340), (kB HB)⟩)
                  · skip
                    refine Kd.R_lit_step (Kd.int .i64) _ 2 ?hg (N := 24) ?hd (xs := ([a2] : List Int)) (inner := [.int .i64 a2]) (ok := fun _ => True) (okp := fun _ => True) ?hr ?hp (fun _ hk => hk) trivial (Below.refl _ _) (Nat.le_refl _) (by simp) ?_; (case hd => rfl); (case hg => rfl); (case hr => first | (go_simp; done) | (go_simp; rfl)); (case hp => exact (Reps.one (show Kd.M (Kd.int .i64) _ _ _ a2 [.int .i64 a2] from rfl) (Reps.none _ _)))
                    intro v351 w15 ho16 hb hg_ hnew_
                    clear hg_ hnew_
                    (first | rw [← Ny350.out] at ho16 | (simp only [Int.reduceToNat] at ho16; rw [← Ny350.out] at ho16))
                    have n0_ := yD (Kd.S_elder' (kS HO_7) (yH ho16) hb)
                    have n1_ := yD (Kd.V_elder' (kU HO_10) (yH ho16) hb)
                    have n2_ := yD (Kd.V_elder' (kU HL339_0) (yH ho16) hb)
                    have n3_ := yD (Kd.V_elder' (kU HL339_1) (yH ho16) hb)
                    have n4_ := yD (yZ (Kd.R_newM (M := fun k_ => (w.heap.size ≤ k_)) ho16 (below_size (kB HB)) (fun k_ h_ => h_)) (below_size (kB HB)))
                    have n5_ := yD (zB (kN BK340) hb)
                    have n6_ := yD (zC (kB HB) hb)
                    clear HO_7 HO_10 HL339_0 HL339_1 BK340 HB; have HO_7 := n0_; have HO_10 := n1_; have HL339_0 := n2_; have HL339_1 := n3_; have HO352 := n4_; have BK340 := n5_; have HB := n6_; clear n0_ n1_ n2_ n3_ n4_ n5_ n6_ hb ho16
                    refine hK.out _ _ ⟨(yG BK340.out 0).trans rfl, (yG BK340.out 1).trans rfl⟩ (fun hHeld => ?_)
                    clear hK K
                    refine norm_ (a' := ?_) ?_ ?_
                    rotate_left
                    · show Act.put _ (some 24) _ = _
                      simp only [Act.put, zH, zI, zJ, i64_w, i32_w]
                      rfl
                    exact norm_ (by first | (simp only [putAll, Act.put, zH, zI, zJ]; done) | (simp only [putAll, Act.put, zH, zI, zJ]; rfl)) (hJ8 (v351) _ ⟨hHeld, (mV HL339_0 (fun _ hk => ⟨hk.1.1, ⟨hk.2, ⟨hk.1.2.1, hk.1.2.2⟩⟩⟩)), (mV HL339_1 (fun _ hk => ⟨hk.1.1, ⟨hk.2, ⟨hk.1.2.1, hk.1.2.2⟩⟩⟩)), (mR HO352 (fun _ hk => hk.1)), (mV HO_10 (fun _ hk => ⟨hk.1.1, ⟨hk.2, ⟨hk.1.2.1, hk.1.2.2⟩⟩⟩)), (mS HO_7 (fun _ hk => ⟨hk.1.1, ⟨hk.2, hk.1.2⟩⟩)), (kM BK340), (kB HB)⟩)
                 ·
                  skip
                  rintro v351 w17 ⟨hS_, h0_, h1_, h2_, h3_, h4_, h5_, h6_⟩
                  have n0_ : Aside0 (Kd.V (Kd.int .i64) 2 w17 w.heap.size (fun k_ => (P0_ k_ ∨ w.heap.size ≤ k_) ∧ oB v351 k_ ∧ oB (.slice Ao12 x7_1.length co12) k_ ∧ k_ ≠ gb340) (.slice A339_0 ((rd_T42 l0 x12_1).f0).length c339_0) ((rd_T42 l0 x12_1).f0)) := ⟨h0_⟩
                  have n1_ : Aside0 (Kd.V (Kd.int .i64) 2 w17 w.heap.size (fun k_ => (P0_ k_ ∨ w.heap.size ≤ k_) ∧ oB v351 k_ ∧ oB (.slice Ao12 x7_1.length co12) k_ ∧ k_ ≠ gb340) (.slice A339_1 ((rd_T42 l0 x12_1).f1).length c339_1) ((rd_T42 l0 x12_1).f1)) := ⟨h1_⟩
                  have n2_ : Aside0 (Kd.R (Kd.int .i64) 2 w17 w.heap.size (fun k_ => (w.heap.size ≤ k_)) v351 y350) := ⟨h2_⟩
                  have n3_ : Aside0 (Kd.V k42 42 w17 w.heap.size (fun k_ => (P0_ k_ ∨ w.heap.size ≤ k_) ∧ oB v351 k_ ∧ oB (.slice Ao12 x7_1.length co12) k_ ∧ k_ ≠ gb340) (.slice (some ad339) l0.length c0) l0) := ⟨h3_⟩
                  have n4_ : Aside0 (Kd.S k42 42 w17 w.heap.size (fun k_ => (w.heap.size ≤ k_) ∧ oB v351 k_ ∧ k_ ≠ gb340) (.slice Ao12 x7_1.length co12) x7_1) := ⟨h4_⟩
                  have n5_ : Aside0 (w17.heap[gb340]? = some (.cells #[.slice A339_0 ((rd_T42 l0 x12_1).f0).length c339_0, .slice A339_1 ((rd_T42 l0 x12_1).f1).length c339_1] 42 (0, 0))) := ⟨h5_⟩
                  have n6_ : Aside0 (Below w.heap.size w w17) := ⟨h6_⟩
                  clear HO_7 HO_10 HL339_0 HL339_1 BK340 HB h0_ h1_ h2_ h3_ h4_ h5_ h6_; have HL339_0 := n0_; have HL339_1 := n1_; have HO352 := n2_; have HO_10 := n3_; have HO_7 := n4_; have BK340 := n5_; have HB := n6_; clear n0_ n1_ n2_ n3_ n4_ n5_ n6_
                  have hHeld : w17.cell? ⟨gb340, 0, none⟩ = some (.slice A339_0 ((rd_T42 l0 x12_1).f0).length c339_0) ∧ w17.cell? ⟨gb340, 1, none⟩ = some (.slice A339_1 ((rd_T42 l0 x12_1).f1).length c339_1) := hS_
                  refine norm_ (a' := ?_) ?_ ?_
                  rotate_left
                  · simp only [putAll, Act.put, zH, zI, zJ]
                    rfl
                  refine two_ (i := 2) (j := 11) (Ni := some 18) (Nj := some 27) #[true, true, true, true, true, false, false, true, true, true, true, false, false, false, false, false, false] #[true, true, false, true, true, false, false, true, true, true, true, true, false, false, false, false, false] rfl rfl rfl rfl (two_of HT_.out (by kernel_rfl)) (by decide) (by decide) (fun K hK => ?_) (fun K hK => ?_)
                  · skip
                    refine Kd.R_lit_step (Kd.int .i64) _ 2 ?hg (N := 18) ?hd (xs := ([a1] : List Int)) (inner := [.int .i64 a1]) (ok := fun _ => True) (okp := fun _ => True) ?hr ?hp (fun _ hk => hk) trivial (Below.refl _ _) (Nat.le_refl _) (by simp) ?_; (case hd => rfl); (case hg => rfl); (case hr => first | (go_simp; done) | (go_simp; rfl)); (case hp => exact (Reps.one (show Kd.M (Kd.int .i64) _ _ _ a1 [.int .i64 a1] from rfl) (Reps.none _ _)))
                    intro v342 w18 ho19 hb hg_ hnew_
                    clear hg_ hnew_
                    (first | rw [← Ny341.out] at ho19 | (simp only [Int.reduceToNat] at ho19; rw [← Ny341.out] at ho19))
                    have n0_ := yD (Kd.S_elder' (kS HO_7) (yH ho19) hb)
                    have n1_ := yD (Kd.V_elder' (kU HO_10) (yH ho19) hb)
                    have n2_ := yD (Kd.V_elder' (kU HL339_0) (yH ho19) hb)
                    have n3_ := yD (Kd.V_elder' (kU HL339_1) (yH ho19) hb)
                    have n4_ := yD (Kd.R_elder' (kA HO352) (yH ho19) hb)
                    have n5_ := yD (yZ (yJ (Kd.R_newM (M := fun k_ => (w.heap.size ≤ k_)) ho19 (below_size (kB HB)) (fun k_ h_ => h_)) (yK (kA HO352))) (below_size (kB HB)))
                    have n6_ := yD (zB (kN BK340) hb)
                    have n7_ := yD (zC (kB HB) hb)
                    clear HO_7 HO_10 HL339_0 HL339_1 HO352 BK340 HB; have HO_7 := n0_; have HO_10 := n1_; have HL339_0 := n2_; have HL339_1 := n3_; have HO352 := n4_; have HO343 := n5_; have BK340 := n6_; have HB := n7_; clear n0_ n1_ n2_ n3_ n4_ n5_ n6_ n7_ hb ho19
                    refine hK.out _ _ ⟨(yG BK340.out 0).trans rfl, (yG BK340.out 1).trans rfl⟩ (fun hHeld => ?_)
                    clear hK K
                    refine norm_ (a' := ?_) ?_ ?_
                    rotate_left
                    · show Act.put _ (some 18) _ = _
                      simp only [Act.put, zH, zI, zJ, i64_w, i32_w]
                      rfl
                    exact norm_ (by first | (simp only [putAll, Act.put, zH, zI, zJ]; done) | (simp only [putAll, Act.put, zH, zI, zJ]; rfl)) (hJ2_8 (v342, v351) _ ⟨hHeld, (mV HL339_0 (fun _ hk => ⟨hk.1.1, ⟨hk.2, ⟨hk.1.2.1, ⟨hk.1.2.2.1, hk.1.2.2.2⟩⟩⟩⟩)), (mV HL339_1 (fun _ hk => ⟨hk.1.1, ⟨hk.2, ⟨hk.1.2.1, ⟨hk.1.2.2.1, hk.1.2.2.2⟩⟩⟩⟩)), (mR HO343 (fun _ hk => ⟨hk.1.1, hk.2⟩)), (kA HO352), (mV HO_10 (fun _ hk => ⟨hk.1.1, ⟨hk.2, ⟨hk.1.2.1, ⟨hk.1.2.2.1, hk.1.2.2.2⟩⟩⟩⟩)), (mS HO_7 (fun _ hk => ⟨hk.1.1, ⟨hk.2, ⟨hk.1.2.1, hk.1.2.2⟩⟩⟩)), (kM BK340), (kB HB)⟩)
                  ·
                   skip
                   obtain ⟨Ao18, co18, eo18⟩ := Kd.R_slice HO352.out
                   subst eo18
                   refine Kd.N_lit_step (Kd.slice 2 (Kd.int .i64)) _ 36 ?hg (N' := 27) ?hd (xs := ([y350, (rd_T42 l0 x12_1).f1] : List (List Int))) (inner := [.slice Ao18 y350.length co18, .slice A339_1 ((rd_T42 l0 x12_1).f1).length c339_1]) (ok := (fun k_ => (P0_ k_ ∨ w.heap.size ≤ k_) ∧ oB (.slice Ao12 x7_1.length co12) k_ ∧ k_ ≠ gb340)) (okp := (fun k_ => (P0_ k_ ∨ w.heap.size ≤ k_) ∧ oB (.slice Ao12 x7_1.length co12) k_ ∧ k_ ≠ gb340)) ?hr ?hp (fun _ hk => hk) ((show ∀ k_, w17.heap.size ≤ k_ → (fun k_ => (P0_ k_ ∨ w.heap.size ≤ k_) ∧ oB (.slice Ao12 x7_1.length co12) k_ ∧ k_ ≠ gb340) k_ from fun k_ hk => ⟨(.inr (Nat.le_trans (below_size (kB HB)) hk)), Kd.fresh' (Kd.S_lt (kS HO_7)) k_ hk, Kd.freshB (g := gb340) (o := .cells #[.slice A339_0 ((rd_T42 l0 x12_1).f0).length c339_0, .slice A339_1 ((rd_T42 l0 x12_1).f1).length c339_1] 42 (0, 0)) (kM BK340) k_ hk⟩) _ (Nat.le_refl _)) (Below.refl _ _) (Nat.le_refl _) (by simp) ?_; (case hd => rfl); (case hg => rfl); (case hr => first | (go_simp; done) | (go_simp; rfl)); (case hp => exact (Reps.one (show Kd.FK (Kd.slice 2 (Kd.int .i64)) _ _ y350 [.slice Ao18 y350.length co18] from (Kd.FK_slice_mk (zA (zF (ok' := (fun k_ => (P0_ k_ ∨ w.heap.size ≤ k_) ∧ oB (.slice Ao12 x7_1.length co12) k_ ∧ k_ ≠ gb340)) (Kd.R_types (Kd.R_apart' (HO352.out) (Kd.S_typed HO_7.out) (by decide)) BK340.out (by decide)) (fun k_ hk => ⟨(.inr (hk.1.1)), ⟨hk.1.2, hk.2⟩⟩))).2.1 (Kd.R_F (zF (ok' := (fun k_ => (P0_ k_ ∨ w.heap.size ≤ k_) ∧ oB (.slice Ao12 x7_1.length co12) k_ ∧ k_ ≠ gb340)) (Kd.R_types (Kd.R_apart' (HO352.out) (Kd.S_typed HO_7.out) (by decide)) BK340.out (by decide)) (fun k_ hk => ⟨(.inr (hk.1.1)), ⟨hk.1.2, hk.2⟩⟩))))) (Reps.one (show Kd.FK (Kd.slice 2 (Kd.int .i64)) _ _ ((rd_T42 l0 x12_1).f1) [.slice A339_1 ((rd_T42 l0 x12_1).f1).length c339_1] from (Kd.FK_slice_mk (Kd.V_reads' (Kd.V_mono (ok' := (fun k_ => (P0_ k_ ∨ w.heap.size ≤ k_) ∧ oB (.slice Ao12 x7_1.length co12) k_ ∧ k_ ≠ gb340)) (HL339_1.out) (fun k_ hk => ⟨hk.1, ⟨hk.2.2.1, hk.2.2.2⟩⟩))).2.1 (Kd.V_F (Kd.V_mono (ok' := (fun k_ => (P0_ k_ ∨ w.heap.size ≤ k_) ∧ oB (.slice Ao12 x7_1.length co12) k_ ∧ k_ ≠ gb340)) (HL339_1.out) (fun k_ hk => ⟨hk.1, ⟨hk.2.2.1, hk.2.2.2⟩⟩))))) (Reps.none _ _))))
                   intro v354 w19 ho20 hb hg_ hnew_
                   clear hg_ hnew_
                   (first | rw [← Ny353.out] at ho20 | (simp only [Int.reduceToNat] at ho20; rw [← Ny353.out] at ho20))
                   have n0_ := yD (Kd.S_below (kS HO_7) hb)
                   have n1_ := yD (Kd.V_elder' (kU HO_10) (Kd.N_base ho20) hb)
                   have n2_ := yD (Kd.V_elder' (kU HL339_0) (Kd.N_base ho20) hb)
                   have n3_ := yD (Kd.V_elder' (kU HL339_1) (Kd.N_base ho20) hb)
                   have n4_ := yD (Kd.N_lower ho20 (below_size (kB HB)))
                   have n5_ := yD (zB (kN BK340) hb)
                   have n6_ := yD (zC (kB HB) hb)
                   clear HO_7 HO_10 HL339_0 HL339_1 BK340 HB HO352; have HO_7 := n0_; have HO_10 := n1_; have HL339_0 := n2_; have HL339_1 := n3_; have HO355 := n4_; have BK340 := n5_; have HB := n6_; clear n0_ n1_ n2_ n3_ n4_ n5_ n6_ hb ho20
                   refine hK.out _ _ ⟨(yG BK340.out 0).trans rfl, (yG BK340.out 1).trans rfl⟩ (fun hHeld => ?_)
                   clear hK K
                   refine norm_ (a' := ?_) ?_ ?_
                   rotate_left
                   · show Act.put _ (some 27) _ = _
                     simp only [Act.put, zH, zI, zJ, i64_w, i32_w]
                     rfl
                   exact norm_ (by first | (simp only [putAll, Act.put, zH, zI, zJ]; done) | (simp only [putAll, Act.put, zH, zI, zJ]; rfl)) (hJ8_11 (.slice Ao18 y350.length co18, v354) _ ⟨hHeld, (mV HL339_0 (fun _ hk => ⟨hk.1.1, ⟨hk.2, ⟨hk.1.2.2.1, hk.1.2.2.2⟩⟩⟩)), (mV HL339_1 (fun _ hk => ⟨hk.1.1, ⟨hk.2, ⟨hk.1.2.2.1, hk.1.2.2.2⟩⟩⟩)), (kQ HO355), (mV HO_10 (fun _ hk => ⟨hk.1.1, ⟨hk.2, ⟨hk.1.2.2.1, hk.1.2.2.2⟩⟩⟩)), (mS HO_7 (fun _ hk => ⟨hk.1, hk.2.2⟩)), (kM BK340), (kB HB)⟩)
                ·
                 skip
                 rintro v342 w17 ⟨hS_, h0_, h1_, h2_, h3_, h4_, h5_, h6_⟩
                 have n0_ : Aside0 (Kd.V (Kd.int .i64) 2 w17 w.heap.size (fun k_ => (P0_ k_ ∨ w.heap.size ≤ k_) ∧ oB v342 k_ ∧ oB (.slice Ao12 x7_1.length co12) k_ ∧ k_ ≠ gb340) (.slice A339_0 ((rd_T42 l0 x12_1).f0).length c339_0) ((rd_T42 l0 x12_1).f0)) := ⟨h0_⟩
                 have n1_ : Aside0 (Kd.V (Kd.int .i64) 2 w17 w.heap.size (fun k_ => (P0_ k_ ∨ w.heap.size ≤ k_) ∧ oB v342 k_ ∧ oB (.slice Ao12 x7_1.length co12) k_ ∧ k_ ≠ gb340) (.slice A339_1 ((rd_T42 l0 x12_1).f1).length c339_1) ((rd_T42 l0 x12_1).f1)) := ⟨h1_⟩
                 have n2_ : Aside0 (Kd.R (Kd.int .i64) 2 w17 w.heap.size (fun k_ => (w.heap.size ≤ k_)) v342 y341) := ⟨h2_⟩
                 have n3_ : Aside0 (Kd.V k42 42 w17 w.heap.size (fun k_ => (P0_ k_ ∨ w.heap.size ≤ k_) ∧ oB v342 k_ ∧ oB (.slice Ao12 x7_1.length co12) k_ ∧ k_ ≠ gb340) (.slice (some ad339) l0.length c0) l0) := ⟨h3_⟩
                 have n4_ : Aside0 (Kd.S k42 42 w17 w.heap.size (fun k_ => (w.heap.size ≤ k_) ∧ oB v342 k_ ∧ k_ ≠ gb340) (.slice Ao12 x7_1.length co12) x7_1) := ⟨h4_⟩
                 have n5_ : Aside0 (w17.heap[gb340]? = some (.cells #[.slice A339_0 ((rd_T42 l0 x12_1).f0).length c339_0, .slice A339_1 ((rd_T42 l0 x12_1).f1).length c339_1] 42 (0, 0))) := ⟨h5_⟩
                 have n6_ : Aside0 (Below w.heap.size w w17) := ⟨h6_⟩
                 clear HO_7 HO_10 HL339_0 HL339_1 BK340 HB h0_ h1_ h2_ h3_ h4_ h5_ h6_; have HL339_0 := n0_; have HL339_1 := n1_; have HO343 := n2_; have HO_10 := n3_; have HO_7 := n4_; have BK340 := n5_; have HB := n6_; clear n0_ n1_ n2_ n3_ n4_ n5_ n6_
                 have hHeld : w17.cell? ⟨gb340, 0, none⟩ = some (.slice A339_0 ((rd_T42 l0 x12_1).f0).length c339_0) ∧ w17.cell? ⟨gb340, 1, none⟩ = some (.slice A339_1 ((rd_T42 l0 x12_1).f1).length c339_1) := hS_
                 obtain ⟨Ao18, co18, eo18⟩ := Kd.R_slice HO343.out
                 (first | subst eo18 | (injection eo18 with f1_ f2_ f3_; have f4_ := f1_.symm; have f5_ := f3_.symm; clear f1_ f2_ f3_; subst f4_; subst f5_))
                 refine norm_ (a' := ?_) ?_ ?_
                 rotate_left
                 · simp only [putAll, Act.put, zH, zI, zJ]
                   rfl
                 refine two_ (i := 5) (j := 8) (Ni := some 21) (Nj := some 24) #[true, true, true, true, true, true, false, true, false, true, true, false, false, false, false, false, false] #[true, true, true, true, true, false, false, true, true, true, true, false, false, false, false, false, false] rfl rfl rfl rfl (two_of HT_.out (by kernel_rfl)) (by decide) (by decide) (fun K hK => ?_) (fun K hK => ?_)
                 · skip
                   refine Kd.N_lit_step (Kd.slice 2 (Kd.int .i64)) _ 36 ?hg (N' := 21) ?hd (xs := ([y341, (rd_T42 l0 x12_1).f0] : List (List Int))) (inner := [.slice Ao18 y341.length co18, .slice A339_0 ((rd_T42 l0 x12_1).f0).length c339_0]) (ok := (fun k_ => (P0_ k_ ∨ w.heap.size ≤ k_) ∧ oB (.slice Ao12 x7_1.length co12) k_ ∧ k_ ≠ gb340)) (okp := (fun k_ => (P0_ k_ ∨ w.heap.size ≤ k_) ∧ oB (.slice Ao12 x7_1.length co12) k_ ∧ k_ ≠ gb340)) ?hr ?hp (fun _ hk => hk) ((show ∀ k_, w17.heap.size ≤ k_ → (fun k_ => (P0_ k_ ∨ w.heap.size ≤ k_) ∧ oB (.slice Ao12 x7_1.length co12) k_ ∧ k_ ≠ gb340) k_ from fun k_ hk => ⟨(.inr (Nat.le_trans (below_size (kB HB)) hk)), Kd.fresh' (Kd.S_lt (kS HO_7)) k_ hk, Kd.freshB (g := gb340) (o := .cells #[.slice A339_0 ((rd_T42 l0 x12_1).f0).length c339_0, .slice A339_1 ((rd_T42 l0 x12_1).f1).length c339_1] 42 (0, 0)) (kM BK340) k_ hk⟩) _ (Nat.le_refl _)) (Below.refl _ _) (Nat.le_refl _) (by simp) ?_; (case hd => rfl); (case hg => rfl); (case hr => first | (go_simp; done) | (go_simp; rfl)); (case hp => exact (Reps.one (show Kd.FK (Kd.slice 2 (Kd.int .i64)) _ _ y341 [.slice Ao18 y341.length co18] from (Kd.FK_slice_mk (zA (zF (ok' := (fun k_ => (P0_ k_ ∨ w.heap.size ≤ k_) ∧ oB (.slice Ao12 x7_1.length co12) k_ ∧ k_ ≠ gb340)) (Kd.R_types (Kd.R_apart' (HO343.out) (Kd.S_typed HO_7.out) (by decide)) BK340.out (by decide)) (fun k_ hk => ⟨(.inr (hk.1.1)), ⟨hk.1.2, hk.2⟩⟩))).2.1 (Kd.R_F (zF (ok' := (fun k_ => (P0_ k_ ∨ w.heap.size ≤ k_) ∧ oB (.slice Ao12 x7_1.length co12) k_ ∧ k_ ≠ gb340)) (Kd.R_types (Kd.R_apart' (HO343.out) (Kd.S_typed HO_7.out) (by decide)) BK340.out (by decide)) (fun k_ hk => ⟨(.inr (hk.1.1)), ⟨hk.1.2, hk.2⟩⟩))))) (Reps.one (show Kd.FK (Kd.slice 2 (Kd.int .i64)) _ _ ((rd_T42 l0 x12_1).f0) [.slice A339_0 ((rd_T42 l0 x12_1).f0).length c339_0] from (Kd.FK_slice_mk (Kd.V_reads' (Kd.V_mono (ok' := (fun k_ => (P0_ k_ ∨ w.heap.size ≤ k_) ∧ oB (.slice Ao12 x7_1.length co12) k_ ∧ k_ ≠ gb340)) (HL339_0.out) (fun k_ hk => ⟨hk.1, ⟨hk.2.2.1, hk.2.2.2⟩⟩))).2.1 (Kd.V_F (Kd.V_mono (ok' := (fun k_ => (P0_ k_ ∨ w.heap.size ≤ k_) ∧ oB (.slice Ao12 x7_1.length co12) k_ ∧ k_ ≠ gb340)) (HL339_0.out) (fun k_ hk => ⟨hk.1, ⟨hk.2.2.1, hk.2.2.2⟩⟩))))) (Reps.none _ _))))
                   intro v345 w19 ho20 hb hg_ hnew_
                   clear hg_ hnew_
                   (first | rw [← Ny344.out] at ho20 | (simp only [Int.reduceToNat] at ho20; rw [← Ny344.out] at ho20))
                   have n0_ := yD (Kd.S_below (kS HO_7) hb)
                   have n1_ := yD (Kd.V_elder' (kU HO_10) (Kd.N_base ho20) hb)
                   have n2_ := yD (Kd.V_elder' (kU HL339_0) (Kd.N_base ho20) hb)
                   have n3_ := yD (Kd.V_elder' (kU HL339_1) (Kd.N_base ho20) hb)
                   have n4_ := yD (Kd.N_lower ho20 (below_size (kB HB)))
                   have n5_ := yD (zB (kN BK340) hb)
                   have n6_ := yD (zC (kB HB) hb)
                   clear HO_7 HO_10 HL339_0 HL339_1 BK340 HB HO343; have HO_7 := n0_; have HO_10 := n1_; have HL339_0 := n2_; have HL339_1 := n3_; have HO346 := n4_; have BK340 := n5_; have HB := n6_; clear n0_ n1_ n2_ n3_ n4_ n5_ n6_ hb ho20
                   refine hK.out _ _ ⟨(yG BK340.out 0).trans rfl, (yG BK340.out 1).trans rfl⟩ (fun hHeld => ?_)
                   clear hK K
                   refine norm_ (a' := ?_) ?_ ?_
                   rotate_left
                   · show Act.put _ (some 21) _ = _
                     simp only [Act.put, zH, zI, zJ, i64_w, i32_w]
                     rfl
                   exact norm_ (by first | (simp only [putAll, Act.put, zH, zI, zJ]; done) | (simp only [putAll, Act.put, zH, zI, zJ]; rfl)) (hJ2_5 (.slice Ao18 y341.length co18, v345) _ ⟨hHeld, (mV HL339_0 (fun _ hk => ⟨hk.1.1, ⟨hk.2, ⟨hk.1.2.2.1, hk.1.2.2.2⟩⟩⟩)), (mV HL339_1 (fun _ hk => ⟨hk.1.1, ⟨hk.2, ⟨hk.1.2.2.1, hk.1.2.2.2⟩⟩⟩)), (kQ HO346), (mV HO_10 (fun _ hk => ⟨hk.1.1, ⟨hk.2, ⟨hk.1.2.2.1, hk.1.2.2.2⟩⟩⟩)), (mS HO_7 (fun _ hk => ⟨hk.1, hk.2.2⟩)), (kM BK340), (kB HB)⟩)
                 ·
                  skip
                  refine Kd.R_lit_step (Kd.int .i64) _ 2 ?hg (N := 24) ?hd (xs := ([a2] : List Int)) (inner := [.int .i64 a2]) (ok := fun _ => True) (okp := fun _ => True) ?hr ?hp (fun _ hk => hk) trivial (Below.refl _ _) (Nat.le_refl _) (by simp) ?_; (case hd => rfl); (case hg => rfl); (case hr => first | (go_simp; done) | (go_simp; rfl)); (case hp => exact (Reps.one (show Kd.M (Kd.int .i64) _ _ _ a2 [.int .i64 a2] from rfl) (Reps.none _ _)))
                  intro v351 w18 ho19 hb hg_ hnew_
                  clear hg_ hnew_
                  (first | rw [← Ny350.out] at ho19 | (simp only [Int.reduceToNat] at ho19; rw [← Ny350.out] at ho19))
                  have n0_ := yD (Kd.S_elder' (kS HO_7) (yH ho19) hb)
                  have n1_ := yD (Kd.V_elder' (kU HO_10) (yH ho19) hb)
                  have n2_ := yD (Kd.V_elder' (kU HL339_0) (yH ho19) hb)
                  have n3_ := yD (Kd.V_elder' (kU HL339_1) (yH ho19) hb)
                  have n4_ := yD (Kd.R_elder' (kA HO343) (yH ho19) hb)
                  have n5_ := yD (yZ (yJ (Kd.R_newM (M := fun k_ => (w.heap.size ≤ k_)) ho19 (below_size (kB HB)) (fun k_ h_ => h_)) (yK (kA HO343))) (below_size (kB HB)))
                  have n6_ := yD (zB (kN BK340) hb)
                  have n7_ := yD (zC (kB HB) hb)
                  clear HO_7 HO_10 HL339_0 HL339_1 HO343 BK340 HB; have HO_7 := n0_; have HO_10 := n1_; have HL339_0 := n2_; have HL339_1 := n3_; have HO343 := n4_; have HO352 := n5_; have BK340 := n6_; have HB := n7_; clear n0_ n1_ n2_ n3_ n4_ n5_ n6_ n7_ hb ho19
                  refine hK.out _ _ ⟨(yG BK340.out 0).trans rfl, (yG BK340.out 1).trans rfl⟩ (fun hHeld => ?_)
                  clear hK K
                  refine norm_ (a' := ?_) ?_ ?_
                  rotate_left
                  · show Act.put _ (some 24) _ = _
                    simp only [Act.put, zH, zI, zJ, i64_w, i32_w]
                    rfl
                  exact norm_ (by first | (simp only [putAll, Act.put, zH, zI, zJ]; done) | (simp only [putAll, Act.put, zH, zI, zJ]; rfl)) (hJ2_8 ((.slice Ao18 y341.length co18), v351) _ ⟨hHeld, (mV HL339_0 (fun _ hk => ⟨hk.1.1, ⟨hk.1.2.1, ⟨hk.2, ⟨hk.1.2.2.1, hk.1.2.2.2⟩⟩⟩⟩)), (mV HL339_1 (fun _ hk => ⟨hk.1.1, ⟨hk.1.2.1, ⟨hk.2, ⟨hk.1.2.2.1, hk.1.2.2.2⟩⟩⟩⟩)), (kA HO343), (mR HO352 (fun _ hk => ⟨hk.1.1, hk.2⟩)), (mV HO_10 (fun _ hk => ⟨hk.1.1, ⟨hk.1.2.1, ⟨hk.2, ⟨hk.1.2.2.1, hk.1.2.2.2⟩⟩⟩⟩)), (mS HO_7 (fun _ hk => ⟨hk.1.1, ⟨hk.1.2.1, ⟨hk.2, hk.1.2.2⟩⟩⟩)), (kM BK340), (kB HB)⟩)
               ·
                skip
                rintro ⟨v351, v354⟩ w20 ⟨hS_, h0_, h1_, h2_, h3_, h4_, h5_, h6_⟩
                have n0_ : Aside0 (Kd.V (Kd.int .i64) 2 w20 w.heap.size (fun k_ => (P0_ k_ ∨ w.heap.size ≤ k_) ∧ oB v354 k_ ∧ oB (.slice Ao12 x7_1.length co12) k_ ∧ k_ ≠ gb340) (.slice A339_0 ((rd_T42 l0 x12_1).f0).length c339_0) ((rd_T42 l0 x12_1).f0)) := ⟨h0_⟩
                have n1_ : Aside0 (Kd.V (Kd.int .i64) 2 w20 w.heap.size (fun k_ => (P0_ k_ ∨ w.heap.size ≤ k_) ∧ oB v354 k_ ∧ oB (.slice Ao12 x7_1.length co12) k_ ∧ k_ ≠ gb340) (.slice A339_1 ((rd_T42 l0 x12_1).f1).length c339_1) ((rd_T42 l0 x12_1).f1)) := ⟨h1_⟩
                have n2_ : Aside0 (Kd.N (Kd.slice 2 (Kd.int .i64)) 36 w20 w.heap.size (fun k_ => (P0_ k_ ∨ w.heap.size ≤ k_) ∧ oB (.slice Ao12 x7_1.length co12) k_ ∧ k_ ≠ gb340) v354 y353) := ⟨h2_⟩
                have n3_ : Aside0 (Kd.V k42 42 w20 w.heap.size (fun k_ => (P0_ k_ ∨ w.heap.size ≤ k_) ∧ oB v354 k_ ∧ oB (.slice Ao12 x7_1.length co12) k_ ∧ k_ ≠ gb340) (.slice (some ad339) l0.length c0) l0) := ⟨h3_⟩
                have n4_ : Aside0 (Kd.S k42 42 w20 w.heap.size (fun k_ => (w.heap.size ≤ k_) ∧ k_ ≠ gb340) (.slice Ao12 x7_1.length co12) x7_1) := ⟨h4_⟩
                have n5_ : Aside0 (w20.heap[gb340]? = some (.cells #[.slice A339_0 ((rd_T42 l0 x12_1).f0).length c339_0, .slice A339_1 ((rd_T42 l0 x12_1).f1).length c339_1] 42 (0, 0))) := ⟨h5_⟩
                have n6_ : Aside0 (Below w.heap.size w w20) := ⟨h6_⟩
                clear HO_7 HO_10 HL339_0 HL339_1 BK340 HB h0_ h1_ h2_ h3_ h4_ h5_ h6_; have HL339_0 := n0_; have HL339_1 := n1_; have HO355 := n2_; have HO_10 := n3_; have HO_7 := n4_; have BK340 := n5_; have HB := n6_; clear n0_ n1_ n2_ n3_ n4_ n5_ n6_
                have hHeld : w20.cell? ⟨gb340, 0, none⟩ = some (.slice A339_0 ((rd_T42 l0 x12_1).f0).length c339_0) ∧ w20.cell? ⟨gb340, 1, none⟩ = some (.slice A339_1 ((rd_T42 l0 x12_1).f1).length c339_1) := hS_
                refine norm_ (a' := ?_) ?_ ?_
                rotate_left
                · simp only [putAll, Act.put, zH, zI, zJ]
                  rfl
                refine one_ (i := 2) (N := some 18) (bz 17 3999) rfl rfl (one_of HT_.out (by kernel_rfl)) (by decide) (fun K hK => ?_)
                refine Kd.R_lit_step (Kd.int .i64) _ 2 ?hg (N := 18) ?hd (xs := ([a1] : List Int)) (inner := [.int .i64 a1]) (ok := fun _ => True) (okp := fun _ => True) ?hr ?hp (fun _ hk => hk) trivial (Below.refl _ _) (Nat.le_refl _) (by simp) ?_; (case hd => rfl); (case hg => rfl); (case hr => first | (go_simp; done) | (go_simp; rfl)); (case hp => exact (Reps.one (show Kd.M (Kd.int .i64) _ _ _ a1 [.int .i64 a1] from rfl) (Reps.none _ _)))
                intro v342 w21 ho22 hb hg_ hnew_
                clear hg_ hnew_
                (first | rw [← Ny341.out] at ho22 | (simp only [Int.reduceToNat] at ho22; rw [← Ny341.out] at ho22))
                have n0_ := yD (Kd.S_elder' (kS HO_7) (yH ho22) hb)
                have n1_ := yD (Kd.V_elder' (kU HO_10) (yH ho22) hb)
                have n2_ := yD (Kd.V_elder' (kU HL339_0) (yH ho22) hb)
                have n3_ := yD (Kd.V_elder' (kU HL339_1) (yH ho22) hb)
                have n4_ := yD (Kd.N_elder' (kQ HO355) (yH ho22) hb)
                have n5_ := yD (yZ (Kd.R_newM (M := fun k_ => (w.heap.size ≤ k_)) ho22 (below_size (kB HB)) (fun k_ h_ => h_)) (below_size (kB HB)))
                have n6_ := yD (zB (kN BK340) hb)
                have n7_ := yD (zC (kB HB) hb)
                clear HO_7 HO_10 HL339_0 HL339_1 HO355 BK340 HB; have HO_7 := n0_; have HO_10 := n1_; have HL339_0 := n2_; have HL339_1 := n3_; have HO355 := n4_; have HO343 := n5_; have BK340 := n6_; have HB := n7_; clear n0_ n1_ n2_ n3_ n4_ n5_ n6_ n7_ hb ho22
                refine hK.out _ _ ⟨(yG BK340.out 0).trans rfl, (yG BK340.out 1).trans rfl⟩ (fun hHeld => ?_)
                clear hK K
                refine norm_ (a' := ?_) ?_ ?_
                rotate_left
                · show Act.put _ (some 18) _ = _
                  simp only [Act.put, zH, zI, zJ, i64_w, i32_w]
                  rfl
                exact norm_ (by first | (simp only [putAll, Act.put, zH, zI, zJ]; done) | (simp only [putAll, Act.put, zH, zI, zJ]; rfl)) (hJ2_8_11 (v342, v351, v354) _ ⟨hHeld, (mV HL339_0 (fun _ hk => ⟨hk.1.1, ⟨hk.2, ⟨hk.1.2.1, ⟨hk.1.2.2.1, hk.1.2.2.2⟩⟩⟩⟩)), (mV HL339_1 (fun _ hk => ⟨hk.1.1, ⟨hk.2, ⟨hk.1.2.1, ⟨hk.1.2.2.1, hk.1.2.2.2⟩⟩⟩⟩)), (mR HO343 (fun _ hk => hk.1)), (mN HO355 (fun _ hk => ⟨hk.1.1, ⟨hk.2, ⟨hk.1.2.1, hk.1.2.2⟩⟩⟩)), (mV HO_10 (fun _ hk => ⟨hk.1.1, ⟨hk.2, ⟨hk.1.2.1, ⟨hk.1.2.2.1, hk.1.2.2.2⟩⟩⟩⟩)), (mS HO_7 (fun _ hk => ⟨hk.1.1, ⟨hk.2, hk.1.2⟩⟩)), (kM BK340), (kB HB)⟩)
              ·
               skip
               rintro ⟨v342, v351⟩ w19 ⟨hS_, h0_, h1_, h2_, h3_, h4_, h5_, h6_, h7_⟩
               have n0_ : Aside0 (Kd.V (Kd.int .i64) 2 w19 w.heap.size (fun k_ => (P0_ k_ ∨ w.heap.size ≤ k_) ∧ oB v342 k_ ∧ oB v351 k_ ∧ oB (.slice Ao12 x7_1.length co12) k_ ∧ k_ ≠ gb340) (.slice A339_0 ((rd_T42 l0 x12_1).f0).length c339_0) ((rd_T42 l0 x12_1).f0)) := ⟨h0_⟩
               have n1_ : Aside0 (Kd.V (Kd.int .i64) 2 w19 w.heap.size (fun k_ => (P0_ k_ ∨ w.heap.size ≤ k_) ∧ oB v342 k_ ∧ oB v351 k_ ∧ oB (.slice Ao12 x7_1.length co12) k_ ∧ k_ ≠ gb340) (.slice A339_1 ((rd_T42 l0 x12_1).f1).length c339_1) ((rd_T42 l0 x12_1).f1)) := ⟨h1_⟩
               have n2_ : Aside0 (Kd.R (Kd.int .i64) 2 w19 w.heap.size (fun k_ => (w.heap.size ≤ k_) ∧ oB v351 k_) v342 y341) := ⟨h2_⟩
               have n3_ : Aside0 (Kd.R (Kd.int .i64) 2 w19 w.heap.size (fun k_ => (w.heap.size ≤ k_) ∧ oB v342 k_) v351 y350) := ⟨h3_⟩
               have n4_ : Aside0 (Kd.V k42 42 w19 w.heap.size (fun k_ => (P0_ k_ ∨ w.heap.size ≤ k_) ∧ oB v342 k_ ∧ oB v351 k_ ∧ oB (.slice Ao12 x7_1.length co12) k_ ∧ k_ ≠ gb340) (.slice (some ad339) l0.length c0) l0) := ⟨h4_⟩
               have n5_ : Aside0 (Kd.S k42 42 w19 w.heap.size (fun k_ => (w.heap.size ≤ k_) ∧ oB v342 k_ ∧ oB v351 k_ ∧ k_ ≠ gb340) (.slice Ao12 x7_1.length co12) x7_1) := ⟨h5_⟩
               have n6_ : Aside0 (w19.heap[gb340]? = some (.cells #[.slice A339_0 ((rd_T42 l0 x12_1).f0).length c339_0, .slice A339_1 ((rd_T42 l0 x12_1).f1).length c339_1] 42 (0, 0))) := ⟨h6_⟩
               have n7_ : Aside0 (Below w.heap.size w w19) := ⟨h7_⟩
               clear HO_7 HO_10 HL339_0 HL339_1 BK340 HB h0_ h1_ h2_ h3_ h4_ h5_ h6_ h7_; have HL339_0 := n0_; have HL339_1 := n1_; have HO343 := n2_; have HO352 := n3_; have HO_10 := n4_; have HO_7 := n5_; have BK340 := n6_; have HB := n7_; clear n0_ n1_ n2_ n3_ n4_ n5_ n6_ n7_
               have hHeld : w19.cell? ⟨gb340, 0, none⟩ = some (.slice A339_0 ((rd_T42 l0 x12_1).f0).length c339_0) ∧ w19.cell? ⟨gb340, 1, none⟩ = some (.slice A339_1 ((rd_T42 l0 x12_1).f1).length c339_1) := hS_
               obtain ⟨Ao20, co20, eo20⟩ := Kd.R_slice HO343.out
               (first | subst eo20 | (injection eo20 with f1_ f2_ f3_; have f4_ := f1_.symm; have f5_ := f3_.symm; clear f1_ f2_ f3_; subst f4_; subst f5_))
               refine norm_ (a' := ?_) ?_ ?_
               rotate_left
               · simp only [putAll, Act.put, zH, zI, zJ]
                 rfl
               refine two_ (i := 5) (j := 11) (Ni := some 21) (Nj := some 27) #[true, true, true, true, true, true, false, true, true, true, true, false, false, false, false, false, false] #[true, true, true, true, true, false, false, true, true, true, true, true, false, false, false, false, false] rfl rfl rfl rfl (two_of HT_.out (by kernel_rfl)) (by decide) (by decide) (fun K hK => ?_) (fun K hK => ?_)
               ·
                skip
                refine Kd.N_lit_step (Kd.slice 2 (Kd.int .i64)) _ 36 ?hg (N' := 21) ?hd (xs := ([y341, (rd_T42 l0 x12_1).f0] : List (List Int))) (inner := [.slice Ao20 y341.length co20, .slice A339_0 ((rd_T42 l0 x12_1).f0).length c339_0]) (ok := (fun k_ => (P0_ k_ ∨ w.heap.size ≤ k_) ∧ oB (.slice Ao12 x7_1.length co12) k_ ∧ oB v351 k_ ∧ k_ ≠ gb340)) (okp := (fun k_ => (P0_ k_ ∨ w.heap.size ≤ k_) ∧ oB (.slice Ao12 x7_1.length co12) k_ ∧ oB v351 k_ ∧ k_ ≠ gb340)) ?hr ?hp (fun _ hk => hk) ((show ∀ k_, w19.heap.size ≤ k_ → (fun k_ => (P0_ k_ ∨ w.heap.size ≤ k_) ∧ oB (.slice Ao12 x7_1.length co12) k_ ∧ oB v351 k_ ∧ k_ ≠ gb340) k_ from fun k_ hk => ⟨(.inr (Nat.le_trans (below_size (kB HB)) hk)), Kd.fresh' (Kd.S_lt (kS HO_7)) k_ hk, Kd.fresh' (yK (kA HO352)) k_ hk, Kd.freshB (g := gb340) (o := .cells #[.slice A339_0 ((rd_T42 l0 x12_1).f0).length c339_0, .slice A339_1 ((rd_T42 l0 x12_1).f1).length c339_1] 42 (0, 0)) (kM BK340) k_ hk⟩) _ (Nat.le_refl _)) (Below.refl _ _) (Nat.le_refl _) (by simp) ?_; (case hd => rfl); (case hg => rfl); (case hr => first | (go_simp; done) | (go_simp; rfl)); (case hp => exact (Reps.one (show Kd.FK (Kd.slice 2 (Kd.int .i64)) _ _ y341 [.slice Ao20 y341.length co20] from (Kd.FK_slice_mk (zA (zF (ok' := (fun k_ => (P0_ k_ ∨ w.heap.size ≤ k_) ∧ oB (.slice Ao12 x7_1.length co12) k_ ∧ oB v351 k_ ∧ k_ ≠ gb340)) (Kd.R_types (Kd.R_apart' (HO343.out) (Kd.S_typed HO_7.out) (by decide)) BK340.out (by decide)) (fun k_ hk => ⟨(.inr (hk.1.1.1)), ⟨hk.1.2, ⟨hk.1.1.2, hk.2⟩⟩⟩))).2.1 (Kd.R_F (zF (ok' := (fun k_ => (P0_ k_ ∨ w.heap.size ≤ k_) ∧ oB (.slice Ao12 x7_1.length co12) k_ ∧ oB v351 k_ ∧ k_ ≠ gb340)) (Kd.R_types (Kd.R_apart' (HO343.out) (Kd.S_typed HO_7.out) (by decide)) BK340.out (by decide)) (fun k_ hk => ⟨(.inr (hk.1.1.1)), ⟨hk.1.2, ⟨hk.1.1.2, hk.2⟩⟩⟩))))) (Reps.one (show Kd.FK (Kd.slice 2 (Kd.int .i64)) _ _ ((rd_T42 l0 x12_1).f0) [.slice A339_0 ((rd_T42 l0 x12_1).f0).length c339_0] from (Kd.FK_slice_mk (Kd.V_reads' (Kd.V_mono (ok' := (fun k_ => (P0_ k_ ∨ w.heap.size ≤ k_) ∧ oB (.slice Ao12 x7_1.length co12) k_ ∧ oB v351 k_ ∧ k_ ≠ gb340)) (HL339_0.out) (fun k_ hk => ⟨hk.1, ⟨hk.2.2.2.1, ⟨hk.2.2.1, hk.2.2.2.2⟩⟩⟩))).2.1 (Kd.V_F (Kd.V_mono (ok' := (fun k_ => (P0_ k_ ∨ w.heap.size ≤ k_) ∧ oB (.slice Ao12 x7_1.length co12) k_ ∧ oB v351 k_ ∧ k_ ≠ gb340)) (HL339_0.out) (fun k_ hk => ⟨hk.1, ⟨hk.2.2.2.1, ⟨hk.2.2.1, hk.2.2.2.2⟩⟩⟩))))) (Reps.none _ _))))
                intro v345 w21 ho22 hb hg_ hnew_
                clear hg_ hnew_
                (first | rw [← Ny344.out] at ho22 | (simp only [Int.reduceToNat] at ho22; rw [← Ny344.out] at ho22))
                have n0_ := yD (Kd.S_below (kS HO_7) hb)
                have n1_ := yD (Kd.V_elder' (kU HO_10) (Kd.N_base ho22) hb)
                have n2_ := yD (Kd.V_elder' (kU HL339_0) (Kd.N_base ho22) hb)
                have n3_ := yD (Kd.V_elder' (kU HL339_1) (Kd.N_base ho22) hb)
                have n4_ := yD (zE (kA HO352) hb)
                have n5_ := yD (Kd.N_lower ho22 (below_size (kB HB)))
                have n6_ := yD (zB (kN BK340) hb)
                have n7_ := yD (zC (kB HB) hb)
                clear HO_7 HO_10 HL339_0 HL339_1 HO352 BK340 HB HO343; have HO_7 := n0_; have HO_10 := n1_; have HL339_0 := n2_; have HL339_1 := n3_; have HO352 := n4_; have HO346 := n5_; have BK340 := n6_; have HB := n7_; clear n0_ n1_ n2_ n3_ n4_ n5_ n6_ n7_ hb ho22
                refine hK.out _ _ ⟨(yG BK340.out 0).trans rfl, (yG BK340.out 1).trans rfl⟩ (fun hHeld => ?_)
                clear hK K
                refine norm_ (a' := ?_) ?_ ?_
                rotate_left
                · show Act.put _ (some 21) _ = _
                  simp only [Act.put, zH, zI, zJ, i64_w, i32_w]
                  rfl
                exact norm_ (by first | (simp only [putAll, Act.put, zH, zI, zJ]; done) | (simp only [putAll, Act.put, zH, zI, zJ]; rfl)) (hJ2_5_8 (.slice Ao20 y341.length co20, v345, v351) _ ⟨hHeld, (mV HL339_0 (fun _ hk => ⟨hk.1.1, ⟨hk.2, ⟨hk.1.2.2.1, ⟨hk.1.2.2.2.1, hk.1.2.2.2.2⟩⟩⟩⟩)), (mV HL339_1 (fun _ hk => ⟨hk.1.1, ⟨hk.2, ⟨hk.1.2.2.1, ⟨hk.1.2.2.2.1, hk.1.2.2.2.2⟩⟩⟩⟩)), (mN HO346 (fun _ hk => ⟨hk.1, ⟨hk.2.2.1, ⟨hk.2.1, hk.2.2.2⟩⟩⟩)), (mR HO352 (fun _ hk => hk.1)), (mV HO_10 (fun _ hk => ⟨hk.1.1, ⟨hk.2, ⟨hk.1.2.2.1, ⟨hk.1.2.2.2.1, hk.1.2.2.2.2⟩⟩⟩⟩)), (mS HO_7 (fun _ hk => ⟨hk.1, ⟨hk.2.2.1, hk.2.2.2⟩⟩)), (kM BK340), (kB HB)⟩)
               ·
                skip
                obtain ⟨Ao20b, co20b, eo20b⟩ := Kd.R_slice HO352.out
                subst eo20b
                refine Kd.N_lit_step (Kd.slice 2 (Kd.int .i64)) _ 36 ?hg (N' := 27) ?hd (xs := ([y350, (rd_T42 l0 x12_1).f1] : List (List Int))) (inner := [.slice Ao20b y350.length co20b, .slice A339_1 ((rd_T42 l0 x12_1).f1).length c339_1]) (ok := (fun k_ => (P0_ k_ ∨ w.heap.size ≤ k_) ∧ oB (.slice Ao12 x7_1.length co12) k_ ∧ oB (.slice Ao20 y341.length co20) k_ ∧ k_ ≠ gb340)) (okp := (fun k_ => (P0_ k_ ∨ w.heap.size ≤ k_) ∧ oB (.slice Ao12 x7_1.length co12) k_ ∧ oB (.slice Ao20 y341.length co20) k_ ∧ k_ ≠ gb340)) ?hr ?hp (fun _ hk => hk) ((show ∀ k_, w19.heap.size ≤ k_ → (fun k_ => (P0_ k_ ∨ w.heap.size ≤ k_) ∧ oB (.slice Ao12 x7_1.length co12) k_ ∧ oB (.slice Ao20 y341.length co20) k_ ∧ k_ ≠ gb340) k_ from fun k_ hk => ⟨(.inr (Nat.le_trans (below_size (kB HB)) hk)), Kd.fresh' (Kd.S_lt (kS HO_7)) k_ hk, Kd.fresh' (yK (kA HO343)) k_ hk, Kd.freshB (g := gb340) (o := .cells #[.slice A339_0 ((rd_T42 l0 x12_1).f0).length c339_0, .slice A339_1 ((rd_T42 l0 x12_1).f1).length c339_1] 42 (0, 0)) (kM BK340) k_ hk⟩) _ (Nat.le_refl _)) (Below.refl _ _) (Nat.le_refl _) (by simp) ?_; (case hd => rfl); (case hg => rfl); (case hr => first | (go_simp; done) | (go_simp; rfl)); (case hp => exact (Reps.one (show Kd.FK (Kd.slice 2 (Kd.int .i64)) _ _ y350 [.slice Ao20b y350.length co20b] from (Kd.FK_slice_mk (zA (zF (ok' := (fun k_ => (P0_ k_ ∨ w.heap.size ≤ k_) ∧ oB (.slice Ao12 x7_1.length co12) k_ ∧ oB (.slice Ao20 y341.length co20) k_ ∧ k_ ≠ gb340)) (Kd.R_types (Kd.R_apart' (HO352.out) (Kd.S_typed HO_7.out) (by decide)) BK340.out (by decide)) (fun k_ hk => ⟨(.inr (hk.1.1.1)), ⟨hk.1.2, ⟨hk.1.1.2, hk.2⟩⟩⟩))).2.1 (Kd.R_F (zF (ok' := (fun k_ => (P0_ k_ ∨ w.heap.size ≤ k_) ∧ oB (.slice Ao12 x7_1.length co12) k_ ∧ oB (.slice Ao20 y341.length co20) k_ ∧ k_ ≠ gb340)) (Kd.R_types (Kd.R_apart' (HO352.out) (Kd.S_typed HO_7.out) (by decide)) BK340.out (by decide)) (fun k_ hk => ⟨(.inr (hk.1.1.1)), ⟨hk.1.2, ⟨hk.1.1.2, hk.2⟩⟩⟩))))) (Reps.one (show Kd.FK (Kd.slice 2 (Kd.int .i64)) _ _ ((rd_T42 l0 x12_1).f1) [.slice A339_1 ((rd_T42 l0 x12_1).f1).length c339_1] from (Kd.FK_slice_mk (Kd.V_reads' (Kd.V_mono (ok' := (fun k_ => (P0_ k_ ∨ w.heap.size ≤ k_) ∧ oB (.slice Ao12 x7_1.length co12) k_ ∧ oB (.slice Ao20 y341.length co20) k_ ∧ k_ ≠ gb340)) (HL339_1.out) (fun k_ hk => ⟨hk.1, ⟨hk.2.2.2.1, ⟨hk.2.1, hk.2.2.2.2⟩⟩⟩))).2.1 (Kd.V_F (Kd.V_mono (ok' := (fun k_ => (P0_ k_ ∨ w.heap.size ≤ k_) ∧ oB (.slice Ao12 x7_1.length co12) k_ ∧ oB (.slice Ao20 y341.length co20) k_ ∧ k_ ≠ gb340)) (HL339_1.out) (fun k_ hk => ⟨hk.1, ⟨hk.2.2.2.1, ⟨hk.2.1, hk.2.2.2.2⟩⟩⟩))))) (Reps.none _ _))))
                intro v354 w21 ho22 hb hg_ hnew_
                clear hg_ hnew_
                (first | rw [← Ny353.out] at ho22 | (simp only [Int.reduceToNat] at ho22; rw [← Ny353.out] at ho22))
                have n0_ := yD (Kd.S_below (kS HO_7) hb)
                have n1_ := yD (Kd.V_elder' (kU HO_10) (Kd.N_base ho22) hb)
                have n2_ := yD (Kd.V_elder' (kU HL339_0) (Kd.N_base ho22) hb)
                have n3_ := yD (Kd.V_elder' (kU HL339_1) (Kd.N_base ho22) hb)
                have n4_ := yD (zE (kA HO343) hb)
                have n5_ := yD (Kd.N_lower ho22 (below_size (kB HB)))
                have n6_ := yD (zB (kN BK340) hb)
                have n7_ := yD (zC (kB HB) hb)
                clear HO_7 HO_10 HL339_0 HL339_1 HO343 BK340 HB HO352; have HO_7 := n0_; have HO_10 := n1_; have HL339_0 := n2_; have HL339_1 := n3_; have HO343 := n4_; have HO355 := n5_; have BK340 := n6_; have HB := n7_; clear n0_ n1_ n2_ n3_ n4_ n5_ n6_ n7_ hb ho22
                refine hK.out _ _ ⟨(yG BK340.out 0).trans rfl, (yG BK340.out 1).trans rfl⟩ (fun hHeld => ?_)
                clear hK K
                refine norm_ (a' := ?_) ?_ ?_
                rotate_left
                · show Act.put _ (some 27) _ = _
                  simp only [Act.put, zH, zI, zJ, i64_w, i32_w]
                  rfl
                exact norm_ (by first | (simp only [putAll, Act.put, zH, zI, zJ]; done) | (simp only [putAll, Act.put, zH, zI, zJ]; rfl)) (hJ2_8_11 ((.slice Ao20 y341.length co20), .slice Ao20b y350.length co20b, v354) _ ⟨hHeld, (mV HL339_0 (fun _ hk => ⟨hk.1.1, ⟨hk.1.2.1, ⟨hk.2, ⟨hk.1.2.2.2.1, hk.1.2.2.2.2⟩⟩⟩⟩)), (mV HL339_1 (fun _ hk => ⟨hk.1.1, ⟨hk.1.2.1, ⟨hk.2, ⟨hk.1.2.2.2.1, hk.1.2.2.2.2⟩⟩⟩⟩)), (mR HO343 (fun _ hk => hk.1)), (mN HO355 (fun _ hk => ⟨hk.1, ⟨hk.2.2.1, ⟨hk.2.1, hk.2.2.2⟩⟩⟩)), (mV HO_10 (fun _ hk => ⟨hk.1.1, ⟨hk.1.2.1, ⟨hk.2, ⟨hk.1.2.2.2.1, hk.1.2.2.2.2⟩⟩⟩⟩)), (mS HO_7 (fun _ hk => ⟨hk.1, ⟨hk.2.1, hk.2.2.2⟩⟩)), (kM BK340), (kB HB)⟩)
             ·
              skip
              rintro ⟨v342, v345⟩ w20 ⟨hS_, h0_, h1_, h2_, h3_, h4_, h5_, h6_⟩
              have n0_ : Aside0 (Kd.V (Kd.int .i64) 2 w20 w.heap.size (fun k_ => (P0_ k_ ∨ w.heap.size ≤ k_) ∧ oB v345 k_ ∧ oB (.slice Ao12 x7_1.length co12) k_ ∧ k_ ≠ gb340) (.slice A339_0 ((rd_T42 l0 x12_1).f0).length c339_0) ((rd_T42 l0 x12_1).f0)) := ⟨h0_⟩
              have n1_ : Aside0 (Kd.V (Kd.int .i64) 2 w20 w.heap.size (fun k_ => (P0_ k_ ∨ w.heap.size ≤ k_) ∧ oB v345 k_ ∧ oB (.slice Ao12 x7_1.length co12) k_ ∧ k_ ≠ gb340) (.slice A339_1 ((rd_T42 l0 x12_1).f1).length c339_1) ((rd_T42 l0 x12_1).f1)) := ⟨h1_⟩
              have n2_ : Aside0 (Kd.N (Kd.slice 2 (Kd.int .i64)) 36 w20 w.heap.size (fun k_ => (P0_ k_ ∨ w.heap.size ≤ k_) ∧ oB (.slice Ao12 x7_1.length co12) k_ ∧ k_ ≠ gb340) v345 y344) := ⟨h2_⟩
              have n3_ : Aside0 (Kd.V k42 42 w20 w.heap.size (fun k_ => (P0_ k_ ∨ w.heap.size ≤ k_) ∧ oB v345 k_ ∧ oB (.slice Ao12 x7_1.length co12) k_ ∧ k_ ≠ gb340) (.slice (some ad339) l0.length c0) l0) := ⟨h3_⟩
              have n4_ : Aside0 (Kd.S k42 42 w20 w.heap.size (fun k_ => (w.heap.size ≤ k_) ∧ k_ ≠ gb340) (.slice Ao12 x7_1.length co12) x7_1) := ⟨h4_⟩
              have n5_ : Aside0 (w20.heap[gb340]? = some (.cells #[.slice A339_0 ((rd_T42 l0 x12_1).f0).length c339_0, .slice A339_1 ((rd_T42 l0 x12_1).f1).length c339_1] 42 (0, 0))) := ⟨h5_⟩
              have n6_ : Aside0 (Below w.heap.size w w20) := ⟨h6_⟩
              clear HO_7 HO_10 HL339_0 HL339_1 BK340 HB h0_ h1_ h2_ h3_ h4_ h5_ h6_; have HL339_0 := n0_; have HL339_1 := n1_; have HO346 := n2_; have HO_10 := n3_; have HO_7 := n4_; have BK340 := n5_; have HB := n6_; clear n0_ n1_ n2_ n3_ n4_ n5_ n6_
              have hHeld : w20.cell? ⟨gb340, 0, none⟩ = some (.slice A339_0 ((rd_T42 l0 x12_1).f0).length c339_0) ∧ w20.cell? ⟨gb340, 1, none⟩ = some (.slice A339_1 ((rd_T42 l0 x12_1).f1).length c339_1) := hS_
              obtain ⟨Ao21, co21, eo21⟩ := Kd.N_slice HO346.out
              (first | subst eo21 | (injection eo21 with f1_ f2_ f3_; have f4_ := f1_.symm; have f5_ := f3_.symm; clear f1_ f2_ f3_; subst f4_; subst f5_))
              refine norm_ (a' := ?_) ?_ ?_
              rotate_left
              · simp only [putAll, Act.put, zH, zI, zJ]
                rfl
              refine two_ (i := 6) (j := 8) (Ni := some 22) (Nj := some 24) #[true, true, true, true, true, true, true, true, false, true, true, false, false, false, false, false, false] #[true, true, true, true, true, true, false, true, true, true, true, false, false, false, false, false, false] rfl rfl rfl rfl (two_of HT_.out (by kernel_rfl)) (by decide) (by decide) (fun K hK => ?_) (fun K hK => ?_)
              ·
               skip
               refine goes_ Try.func146 (by kernel_rfl) rfl #[.slice Ao21 y344.length co21] (by rfl) rfl rfl (by (try simp only [zK, zL, zM]); first | done | rfl | (simp only [zN, zO]; rfl)) ?_
               with_reducible refine (slices_Concat_int64_int64.calls k1 _ _ y344 t347 _ ?side1 ?side2 A7.out).mono ?_
               (case side1 => exact kV (Kd.N_reads' HO346.out).2.2)
               (case side2 => exact (Kd.N_reads' HO346.out).2.1)
               rintro e w22 ⟨v348, rfl, ho0, hb⟩
               refine ⟨_, rfl, ?_⟩
               have n0_ := yD (Kd.S_elder' (kS HO_7) (yH ho0) hb)
               have n1_ := yD (Kd.V_elder' (kU HO_10) (yH ho0) hb)
               have n2_ := yD (Kd.V_elder' (kU HL339_0) (yH ho0) hb)
               have n3_ := yD (Kd.V_elder' (kU HL339_1) (yH ho0) hb)
               have n4_ := yD (Kd.N_elder' (kQ HO346) (yH ho0) hb)
               have n5_ := yD (yZ (Kd.R_newM (M := fun k_ => (w.heap.size ≤ k_)) ho0 (below_size (kB HB)) (fun k_ h_ => h_)) (below_size (kB HB)))
               have n6_ := yD (zB (kN BK340) hb)
               have n7_ := yD (zC (kB HB) hb)
               clear HO_7 HO_10 HL339_0 HL339_1 HO346 BK340 HB; have HO_7 := n0_; have HO_10 := n1_; have HL339_0 := n2_; have HL339_1 := n3_; have HO346 := n4_; have HO349 := n5_; have BK340 := n6_; have HB := n7_; clear n0_ n1_ n2_ n3_ n4_ n5_ n6_ n7_; (try clear hb); (try clear hb2); (try clear hk); (try clear hi); (try clear ho0)
               refine hK.out _ _ ⟨(yG BK340.out 0).trans rfl, (yG BK340.out 1).trans rfl⟩ (fun hHeld => ?_)
               clear hK K
               refine norm_ (a' := ?_) ?_ ?_
               rotate_left
               · show Act.put _ (some 22) _ = _
                 simp only [Act.put, zH, zI, zJ, i64_w, i32_w]
                 rfl
               exact norm_ (by first | (simp only [putAll, Act.put, zH, zI, zJ]; done) | (simp only [putAll, Act.put, zH, zI, zJ]; rfl)) (hJ2_5_6 (v342, .slice Ao21 y344.length co21, v348) _ ⟨hHeld, (mV HL339_0 (fun _ hk => ⟨hk.1.1, ⟨hk.1.2.1, ⟨hk.2, ⟨hk.1.2.2.1, hk.1.2.2.2⟩⟩⟩⟩)), (mV HL339_1 (fun _ hk => ⟨hk.1.1, ⟨hk.1.2.1, ⟨hk.2, ⟨hk.1.2.2.1, hk.1.2.2.2⟩⟩⟩⟩)), (mN HO346 (fun _ hk => ⟨hk.1.1, ⟨hk.2, ⟨hk.1.2.1, hk.1.2.2⟩⟩⟩)), (mR HO349 (fun _ hk => hk.1)), (mV HO_10 (fun _ hk => ⟨hk.1.1, ⟨hk.1.2.1, ⟨hk.2, ⟨hk.1.2.2.1, hk.1.2.2.2⟩⟩⟩⟩)), (mS HO_7 (fun _ hk => ⟨hk.1.1, ⟨hk.2, hk.1.2⟩⟩)), (kM BK340), (kB HB)⟩)
              ·
               skip
               refine Kd.R_lit_step (Kd.int .i64) _ 2 ?hg (N := 24) ?hd (xs := ([a2] : List Int)) (inner := [.int .i64 a2]) (ok := fun _ => True) (okp := fun _ => True) ?hr ?hp (fun _ hk => hk) trivial (Below.refl _ _) (Nat.le_refl _) (by simp) ?_; (case hd => rfl); (case hg => rfl); (case hr => first | (go_simp; done) | (go_simp; rfl)); (case hp => exact (Reps.one (show Kd.M (Kd.int .i64) _ _ _ a2 [.int .i64 a2] from rfl) (Reps.none _ _)))
               intro v351 w21 ho22 hb hg_ hnew_
               clear hg_ hnew_
               (first | rw [← Ny350.out] at ho22 | (simp only [Int.reduceToNat] at ho22; rw [← Ny350.out] at ho22))
               have n0_ := yD (Kd.S_elder' (kS HO_7) (yH ho22) hb)
               have n1_ := yD (Kd.V_elder' (kU HO_10) (yH ho22) hb)
               have n2_ := yD (Kd.V_elder' (kU HL339_0) (yH ho22) hb)
               have n3_ := yD (Kd.V_elder' (kU HL339_1) (yH ho22) hb)
               have n4_ := yD (Kd.N_elder' (kQ HO346) (yH ho22) hb)
               have n5_ := yD (yZ (Kd.R_newM (M := fun k_ => (w.heap.size ≤ k_)) ho22 (below_size (kB HB)) (fun k_ h_ => h_)) (below_size (kB HB)))
               have n6_ := yD (zB (kN BK340) hb)
               have n7_ := yD (zC (kB HB) hb)
               clear HO_7 HO_10 HL339_0 HL339_1 HO346 BK340 HB; have HO_7 := n0_; have HO_10 := n1_; have HL339_0 := n2_; have HL339_1 := n3_; have HO346 := n4_; have HO352 := n5_; have BK340 := n6_; have HB := n7_; clear n0_ n1_ n2_ n3_ n4_ n5_ n6_ n7_ hb ho22
               refine hK.out _ _ ⟨(yG BK340.out 0).trans rfl, (yG BK340.out 1).trans rfl⟩ (fun hHeld => ?_)
               clear hK K
               refine norm_ (a' := ?_) ?_ ?_
               rotate_left
               · show Act.put _ (some 24) _ = _
                 simp only [Act.put, zH, zI, zJ, i64_w, i32_w]
                 rfl
               exact norm_ (by first | (simp only [putAll, Act.put, zH, zI, zJ]; done) | (simp only [putAll, Act.put, zH, zI, zJ]; rfl)) (hJ2_5_8 (v342, (.slice Ao21 y344.length co21), v351) _ ⟨hHeld, (mV HL339_0 (fun _ hk => ⟨hk.1.1, ⟨hk.1.2.1, ⟨hk.2, ⟨hk.1.2.2.1, hk.1.2.2.2⟩⟩⟩⟩)), (mV HL339_1 (fun _ hk => ⟨hk.1.1, ⟨hk.1.2.1, ⟨hk.2, ⟨hk.1.2.2.1, hk.1.2.2.2⟩⟩⟩⟩)), (mN HO346 (fun _ hk => ⟨hk.1.1, ⟨hk.2, ⟨hk.1.2.1, hk.1.2.2⟩⟩⟩)), (mR HO352 (fun _ hk => hk.1)), (mV HO_10 (fun _ hk => ⟨hk.1.1, ⟨hk.1.2.1, ⟨hk.2, ⟨hk.1.2.2.1, hk.1.2.2.2⟩⟩⟩⟩)), (mS HO_7 (fun _ hk => ⟨hk.1.1, ⟨hk.2, hk.1.2⟩⟩)), (kM BK340), (kB HB)⟩)
            ·
             skip
             rintro ⟨v342, v351, v354⟩ w22 ⟨hS_, h0_, h1_, h2_, h3_, h4_, h5_, h6_, h7_⟩
             have n0_ : Aside0 (Kd.V (Kd.int .i64) 2 w22 w.heap.size (fun k_ => (P0_ k_ ∨ w.heap.size ≤ k_) ∧ oB v342 k_ ∧ oB v354 k_ ∧ oB (.slice Ao12 x7_1.length co12) k_ ∧ k_ ≠ gb340) (.slice A339_0 ((rd_T42 l0 x12_1).f0).length c339_0) ((rd_T42 l0 x12_1).f0)) := ⟨h0_⟩
             have n1_ : Aside0 (Kd.V (Kd.int .i64) 2 w22 w.heap.size (fun k_ => (P0_ k_ ∨ w.heap.size ≤ k_) ∧ oB v342 k_ ∧ oB v354 k_ ∧ oB (.slice Ao12 x7_1.length co12) k_ ∧ k_ ≠ gb340) (.slice A339_1 ((rd_T42 l0 x12_1).f1).length c339_1) ((rd_T42 l0 x12_1).f1)) := ⟨h1_⟩
             have n2_ : Aside0 (Kd.R (Kd.int .i64) 2 w22 w.heap.size (fun k_ => (w.heap.size ≤ k_)) v342 y341) := ⟨h2_⟩
             have n3_ : Aside0 (Kd.N (Kd.slice 2 (Kd.int .i64)) 36 w22 w.heap.size (fun k_ => (P0_ k_ ∨ w.heap.size ≤ k_) ∧ oB v342 k_ ∧ oB (.slice Ao12 x7_1.length co12) k_ ∧ k_ ≠ gb340) v354 y353) := ⟨h3_⟩
             have n4_ : Aside0 (Kd.V k42 42 w22 w.heap.size (fun k_ => (P0_ k_ ∨ w.heap.size ≤ k_) ∧ oB v342 k_ ∧ oB v354 k_ ∧ oB (.slice Ao12 x7_1.length co12) k_ ∧ k_ ≠ gb340) (.slice (some ad339) l0.length c0) l0) := ⟨h4_⟩
             have n5_ : Aside0 (Kd.S k42 42 w22 w.heap.size (fun k_ => (w.heap.size ≤ k_) ∧ oB v342 k_ ∧ k_ ≠ gb340) (.slice Ao12 x7_1.length co12) x7_1) := ⟨h5_⟩
             have n6_ : Aside0 (w22.heap[gb340]? = some (.cells #[.slice A339_0 ((rd_T42 l0 x12_1).f0).length c339_0, .slice A339_1 ((rd_T42 l0 x12_1).f1).length c339_1] 42 (0, 0))) := ⟨h6_⟩
             have n7_ : Aside0 (Below w.heap.size w w22) := ⟨h7_⟩
             clear HO_7 HO_10 HL339_0 HL339_1 BK340 HB h0_ h1_ h2_ h3_ h4_ h5_ h6_ h7_; have HL339_0 := n0_; have HL339_1 := n1_; have HO343 := n2_; have HO355 := n3_; have HO_10 := n4_; have HO_7 := n5_; have BK340 := n6_; have HB := n7_; clear n0_ n1_ n2_ n3_ n4_ n5_ n6_ n7_
             have hHeld : w22.cell? ⟨gb340, 0, none⟩ = some (.slice A339_0 ((rd_T42 l0 x12_1).f0).length c339_0) ∧ w22.cell? ⟨gb340, 1, none⟩ = some (.slice A339_1 ((rd_T42 l0 x12_1).f1).length c339_1) := hS_
             obtain ⟨Ao23, co23, eo23⟩ := Kd.R_slice HO343.out
             (first | subst eo23 | (injection eo23 with f1_ f2_ f3_; have f4_ := f1_.symm; have f5_ := f3_.symm; clear f1_ f2_ f3_; subst f4_; subst f5_))
             refine norm_ (a' := ?_) ?_ ?_
             rotate_left
             · simp only [putAll, Act.put, zH, zI, zJ]
               rfl
             refine one_ (i := 5) (N := some 21) (bz 17 4031) rfl rfl (one_of HT_.out (by kernel_rfl)) (by decide) (fun K hK => ?_)
             refine Kd.N_lit_step (Kd.slice 2 (Kd.int .i64)) _ 36 ?hg (N' := 21) ?hd (xs := ([y341, (rd_T42 l0 x12_1).f0] : List (List Int))) (inner := [.slice Ao23 y341.length co23, .slice A339_0 ((rd_T42 l0 x12_1).f0).length c339_0]) (ok := (fun k_ => (P0_ k_ ∨ w.heap.size ≤ k_) ∧ oB (.slice Ao12 x7_1.length co12) k_ ∧ oB v354 k_ ∧ k_ ≠ gb340)) (okp := (fun k_ => (P0_ k_ ∨ w.heap.size ≤ k_) ∧ oB (.slice Ao12 x7_1.length co12) k_ ∧ oB v354 k_ ∧ k_ ≠ gb340)) ?hr ?hp (fun _ hk => hk) ((show ∀ k_, w22.heap.size ≤ k_ → (fun k_ => (P0_ k_ ∨ w.heap.size ≤ k_) ∧ oB (.slice Ao12 x7_1.length co12) k_ ∧ oB v354 k_ ∧ k_ ≠ gb340) k_ from fun k_ hk => ⟨(.inr (Nat.le_trans (below_size (kB HB)) hk)), Kd.fresh' (Kd.S_lt (kS HO_7)) k_ hk, Kd.fresh' (Kd.N_lt (kQ HO355)) k_ hk, Kd.freshB (g := gb340) (o := .cells #[.slice A339_0 ((rd_T42 l0 x12_1).f0).length c339_0, .slice A339_1 ((rd_T42 l0 x12_1).f1).length c339_1] 42 (0, 0)) (kM BK340) k_ hk⟩) _ (Nat.le_refl _)) (Below.refl _ _) (Nat.le_refl _) (by simp) ?_; (case hd => rfl); (case hg => rfl); (case hr => first | (go_simp; done) | (go_simp; rfl)); (case hp => exact (Reps.one (show Kd.FK (Kd.slice 2 (Kd.int .i64)) _ _ y341 [.slice Ao23 y341.length co23] from (Kd.FK_slice_mk (zA (zF (ok' := (fun k_ => (P0_ k_ ∨ w.heap.size ≤ k_) ∧ oB (.slice Ao12 x7_1.length co12) k_ ∧ oB v354 k_ ∧ k_ ≠ gb340)) (Kd.R_types (Kd.R_apart' (Kd.R_apart' (HO343.out) (Kd.S_typed HO_7.out) (by decide)) (Kd.N_typed HO355.out) (by decide)) BK340.out (by decide)) (fun k_ hk => ⟨(.inr (hk.1.1.1)), ⟨hk.1.1.2, ⟨hk.1.2, hk.2⟩⟩⟩))).2.1 (Kd.R_F (zF (ok' := (fun k_ => (P0_ k_ ∨ w.heap.size ≤ k_) ∧ oB (.slice Ao12 x7_1.length co12) k_ ∧ oB v354 k_ ∧ k_ ≠ gb340)) (Kd.R_types (Kd.R_apart' (Kd.R_apart' (HO343.out) (Kd.S_typed HO_7.out) (by decide)) (Kd.N_typed HO355.out) (by decide)) BK340.out (by decide)) (fun k_ hk => ⟨(.inr (hk.1.1.1)), ⟨hk.1.1.2, ⟨hk.1.2, hk.2⟩⟩⟩))))) (Reps.one (show Kd.FK (Kd.slice 2 (Kd.int .i64)) _ _ ((rd_T42 l0 x12_1).f0) [.slice A339_0 ((rd_T42 l0 x12_1).f0).length c339_0] from (Kd.FK_slice_mk (Kd.V_reads' (Kd.V_mono (ok' := (fun k_ => (P0_ k_ ∨ w.heap.size ≤ k_) ∧ oB (.slice Ao12 x7_1.length co12) k_ ∧ oB v354 k_ ∧ k_ ≠ gb340)) (HL339_0.out) (fun k_ hk => ⟨hk.1, ⟨hk.2.2.2.1, ⟨hk.2.2.1, hk.2.2.2.2⟩⟩⟩))).2.1 (Kd.V_F (Kd.V_mono (ok' := (fun k_ => (P0_ k_ ∨ w.heap.size ≤ k_) ∧ oB (.slice Ao12 x7_1.length co12) k_ ∧ oB v354 k_ ∧ k_ ≠ gb340)) (HL339_0.out) (fun k_ hk => ⟨hk.1, ⟨hk.2.2.2.1, ⟨hk.2.2.1, hk.2.2.2.2⟩⟩⟩))))) (Reps.none _ _))))
             intro v345 w24 ho25 hb hg_ hnew_
             clear hg_ hnew_
             (first | rw [← Ny344.out] at ho25 | (simp only [Int.reduceToNat] at ho25; rw [← Ny344.out] at ho25))
             have n0_ := yD (Kd.S_below (kS HO_7) hb)
             have n1_ := yD (Kd.V_elder' (kU HO_10) (Kd.N_base ho25) hb)
             have n2_ := yD (Kd.V_elder' (kU HL339_0) (Kd.N_base ho25) hb)
             have n3_ := yD (Kd.V_elder' (kU HL339_1) (Kd.N_base ho25) hb)
             have n4_ := yD (Kd.N_elder' (kQ HO355) (Kd.N_base ho25) hb)
             have n5_ := yD (Kd.N_lower ho25 (below_size (kB HB)))
             have n6_ := yD (zB (kN BK340) hb)
             have n7_ := yD (zC (kB HB) hb)
             clear HO_7 HO_10 HL339_0 HL339_1 HO355 BK340 HB HO343; have HO_7 := n0_; have HO_10 := n1_; have HL339_0 := n2_; have HL339_1 := n3_; have HO355 := n4_; have HO346 := n5_; have BK340 := n6_; have HB := n7_; clear n0_ n1_ n2_ n3_ n4_ n5_ n6_ n7_ hb ho25
             refine hK.out _ _ ⟨(yG BK340.out 0).trans rfl, (yG BK340.out 1).trans rfl⟩ (fun hHeld => ?_)
             clear hK K
             refine norm_ (a' := ?_) ?_ ?_
             rotate_left
             · show Act.put _ (some 21) _ = _
               simp only [Act.put, zH, zI, zJ, i64_w, i32_w]
               rfl
             exact norm_ (by first | (simp only [putAll, Act.put, zH, zI, zJ]; done) | (simp only [putAll, Act.put, zH, zI, zJ]; rfl)) (hJ2_5_8_11 (.slice Ao23 y341.length co23, v345, v351, v354) _ ⟨hHeld, (mV HL339_0 (fun _ hk => ⟨hk.1.1, ⟨hk.2, ⟨hk.1.2.2.1, ⟨hk.1.2.2.2.1, hk.1.2.2.2.2⟩⟩⟩⟩)), (mV HL339_1 (fun _ hk => ⟨hk.1.1, ⟨hk.2, ⟨hk.1.2.2.1, ⟨hk.1.2.2.2.1, hk.1.2.2.2.2⟩⟩⟩⟩)), (mN HO346 (fun _ hk => ⟨hk.1, ⟨hk.2.2.1, ⟨hk.2.1, hk.2.2.2⟩⟩⟩)), (mN HO355 (fun _ hk => ⟨hk.1.1, ⟨hk.2, ⟨hk.1.2.2.1, hk.1.2.2.2⟩⟩⟩)), (mV HO_10 (fun _ hk => ⟨hk.1.1, ⟨hk.2, ⟨hk.1.2.2.1, ⟨hk.1.2.2.2.1, hk.1.2.2.2.2⟩⟩⟩⟩)), (mS HO_7 (fun _ hk => ⟨hk.1, hk.2.2⟩)), (kM BK340), (kB HB)⟩)
           ·
            skip
            rintro ⟨v342, v345, v351⟩ w22 ⟨hS_, h0_, h1_, h2_, h3_, h4_, h5_, h6_, h7_⟩
            have n0_ : Aside0 (Kd.V (Kd.int .i64) 2 w22 w.heap.size (fun k_ => (P0_ k_ ∨ w.heap.size ≤ k_) ∧ oB v345 k_ ∧ oB v351 k_ ∧ oB (.slice Ao12 x7_1.length co12) k_ ∧ k_ ≠ gb340) (.slice A339_0 ((rd_T42 l0 x12_1).f0).length c339_0) ((rd_T42 l0 x12_1).f0)) := ⟨h0_⟩
            have n1_ : Aside0 (Kd.V (Kd.int .i64) 2 w22 w.heap.size (fun k_ => (P0_ k_ ∨ w.heap.size ≤ k_) ∧ oB v345 k_ ∧ oB v351 k_ ∧ oB (.slice Ao12 x7_1.length co12) k_ ∧ k_ ≠ gb340) (.slice A339_1 ((rd_T42 l0 x12_1).f1).length c339_1) ((rd_T42 l0 x12_1).f1)) := ⟨h1_⟩
            have n2_ : Aside0 (Kd.N (Kd.slice 2 (Kd.int .i64)) 36 w22 w.heap.size (fun k_ => (P0_ k_ ∨ w.heap.size ≤ k_) ∧ oB v351 k_ ∧ oB (.slice Ao12 x7_1.length co12) k_ ∧ k_ ≠ gb340) v345 y344) := ⟨h2_⟩
            have n3_ : Aside0 (Kd.R (Kd.int .i64) 2 w22 w.heap.size (fun k_ => (w.heap.size ≤ k_)) v351 y350) := ⟨h3_⟩
            have n4_ : Aside0 (Kd.V k42 42 w22 w.heap.size (fun k_ => (P0_ k_ ∨ w.heap.size ≤ k_) ∧ oB v345 k_ ∧ oB v351 k_ ∧ oB (.slice Ao12 x7_1.length co12) k_ ∧ k_ ≠ gb340) (.slice (some ad339) l0.length c0) l0) := ⟨h4_⟩
            have n5_ : Aside0 (Kd.S k42 42 w22 w.heap.size (fun k_ => (w.heap.size ≤ k_) ∧ oB v351 k_ ∧ k_ ≠ gb340) (.slice Ao12 x7_1.length co12) x7_1) := ⟨h5_⟩
            have n6_ : Aside0 (w22.heap[gb340]? = some (.cells #[.slice A339_0 ((rd_T42 l0 x12_1).f0).length c339_0, .slice A339_1 ((rd_T42 l0 x12_1).f1).length c339_1] 42 (0, 0))) := ⟨h6_⟩
            have n7_ : Aside0 (Below w.heap.size w w22) := ⟨h7_⟩
            clear HO_7 HO_10 HL339_0 HL339_1 BK340 HB h0_ h1_ h2_ h3_ h4_ h5_ h6_ h7_; have HL339_0 := n0_; have HL339_1 := n1_; have HO346 := n2_; have HO352 := n3_; have HO_10 := n4_; have HO_7 := n5_; have BK340 := n6_; have HB := n7_; clear n0_ n1_ n2_ n3_ n4_ n5_ n6_ n7_
            have hHeld : w22.cell? ⟨gb340, 0, none⟩ = some (.slice A339_0 ((rd_T42 l0 x12_1).f0).length c339_0) ∧ w22.cell? ⟨gb340, 1, none⟩ = some (.slice A339_1 ((rd_T42 l0 x12_1).f1).length c339_1) := hS_
            obtain ⟨Ao23, co23, eo23⟩ := Kd.N_slice HO346.out
            (first | subst eo23 | (injection eo23 with f1_ f2_ f3_; have f4_ := f1_.symm; have f5_ := f3_.symm; clear f1_ f2_ f3_; subst f4_; subst f5_))
            refine norm_ (a' := ?_) ?_ ?_
            rotate_left
            · simp only [putAll, Act.put, zH, zI, zJ]
              rfl
            refine two_ (i := 6) (j := 11) (Ni := some 22) (Nj := some 27) #[true, true, true, true, true, true, true, true, true, true, true, false, false, false, false, false, false] #[true, true, true, true, true, true, false, true, true, true, true, true, false, false, false, false, false] rfl rfl rfl rfl (two_of HT_.out (by kernel_rfl)) (by decide) (by decide) (fun K hK => ?_) (fun K hK => ?_)
            ·
             skip
             refine goes_ Try.func146 (by kernel_rfl) rfl #[.slice Ao23 y344.length co23] (by rfl) rfl rfl (by (try simp only [zK, zL, zM]); first | done | rfl | (simp only [zN, zO]; rfl)) ?_
             with_reducible refine (slices_Concat_int64_int64.calls k1 _ _ y344 t347 _ ?side1 ?side2 A7.out).mono ?_
             (case side1 => exact kV (Kd.N_reads' HO346.out).2.2)
             (case side2 => exact (Kd.N_reads' HO346.out).2.1)
             rintro e w24 ⟨v348, rfl, ho0, hb⟩
             refine ⟨_, rfl, ?_⟩
             have n0_ := yD (Kd.S_elder' (kS HO_7) (yH ho0) hb)
             have n1_ := yD (Kd.V_elder' (kU HO_10) (yH ho0) hb)
             have n2_ := yD (Kd.V_elder' (kU HL339_0) (yH ho0) hb)
             have n3_ := yD (Kd.V_elder' (kU HL339_1) (yH ho0) hb)
             have n4_ := yD (Kd.N_elder' (kQ HO346) (yH ho0) hb)
             have n5_ := yD (Kd.R_elder' (kA HO352) (yH ho0) hb)
             have n6_ := yD (yZ (yJ (Kd.R_newM (M := fun k_ => (w.heap.size ≤ k_)) ho0 (below_size (kB HB)) (fun k_ h_ => h_)) (yK (kA HO352))) (below_size (kB HB)))
             have n7_ := yD (zB (kN BK340) hb)
             have n8_ := yD (zC (kB HB) hb)
             clear HO_7 HO_10 HL339_0 HL339_1 HO346 HO352 BK340 HB; have HO_7 := n0_; have HO_10 := n1_; have HL339_0 := n2_; have HL339_1 := n3_; have HO346 := n4_; have HO352 := n5_; have HO349 := n6_; have BK340 := n7_; have HB := n8_; clear n0_ n1_ n2_ n3_ n4_ n5_ n6_ n7_ n8_; (try clear hb); (try clear hb2); (try clear hk); (try clear hi); (try clear ho0)
             refine hK.out _ _ ⟨(yG BK340.out 0).trans rfl, (yG BK340.out 1).trans rfl⟩ (fun hHeld => ?_)
             clear hK K
             refine norm_ (a' := ?_) ?_ ?_
             rotate_left
             · show Act.put _ (some 22) _ = _
               simp only [Act.put, zH, zI, zJ, i64_w, i32_w]
               rfl
             exact norm_ (by first | (simp only [putAll, Act.put, zH, zI, zJ]; done) | (simp only [putAll, Act.put, zH, zI, zJ]; rfl)) (hJ2_5_6_8 (v342, .slice Ao23 y344.length co23, v348, v351) _ ⟨hHeld, (mV HL339_0 (fun _ hk => ⟨hk.1.1, ⟨hk.1.2.1, ⟨hk.2, ⟨hk.1.2.2.1, ⟨hk.1.2.2.2.1, hk.1.2.2.2.2⟩⟩⟩⟩⟩)), (mV HL339_1 (fun _ hk => ⟨hk.1.1, ⟨hk.1.2.1, ⟨hk.2, ⟨hk.1.2.2.1, ⟨hk.1.2.2.2.1, hk.1.2.2.2.2⟩⟩⟩⟩⟩)), (mN HO346 (fun _ hk => ⟨hk.1.1, ⟨hk.2, ⟨hk.1.2.1, ⟨hk.1.2.2.1, hk.1.2.2.2⟩⟩⟩⟩)), (mR HO349 (fun _ hk => ⟨hk.1.1, hk.2⟩)), (kA HO352), (mV HO_10 (fun _ hk => ⟨hk.1.1, ⟨hk.1.2.1, ⟨hk.2, ⟨hk.1.2.2.1, ⟨hk.1.2.2.2.1, hk.1.2.2.2.2⟩⟩⟩⟩⟩)), (mS HO_7 (fun _ hk => ⟨hk.1.1, ⟨hk.2, ⟨hk.1.2.1, hk.1.2.2⟩⟩⟩)), (kM BK340), (kB HB)⟩)
            ·
             skip
             obtain ⟨Ao23b, co23b, eo23b⟩ := Kd.R_slice HO352.out
             subst eo23b
             refine Kd.N_lit_step (Kd.slice 2 (Kd.int .i64)) _ 36 ?hg (N' := 27) ?hd (xs := ([y350, (rd_T42 l0 x12_1).f1] : List (List Int))) (inner := [.slice Ao23b y350.length co23b, .slice A339_1 ((rd_T42 l0 x12_1).f1).length c339_1]) (ok := (fun k_ => (P0_ k_ ∨ w.heap.size ≤ k_) ∧ oB (.slice Ao12 x7_1.length co12) k_ ∧ oB (.slice Ao23 y344.length co23) k_ ∧ k_ ≠ gb340)) (okp := (fun k_ => (P0_ k_ ∨ w.heap.size ≤ k_) ∧ oB (.slice Ao12 x7_1.length co12) k_ ∧ oB (.slice Ao23 y344.length co23) k_ ∧ k_ ≠ gb340)) ?hr ?hp (fun _ hk => hk) ((show ∀ k_, w22.heap.size ≤ k_ → (fun k_ => (P0_ k_ ∨ w.heap.size ≤ k_) ∧ oB (.slice Ao12 x7_1.length co12) k_ ∧ oB (.slice Ao23 y344.length co23) k_ ∧ k_ ≠ gb340) k_ from fun k_ hk => ⟨(.inr (Nat.le_trans (below_size (kB HB)) hk)), Kd.fresh' (Kd.S_lt (kS HO_7)) k_ hk, Kd.fresh' (Kd.N_lt (kQ HO346)) k_ hk, Kd.freshB (g := gb340) (o := .cells #[.slice A339_0 ((rd_T42 l0 x12_1).f0).length c339_0, .slice A339_1 ((rd_T42 l0 x12_1).f1).length c339_1] 42 (0, 0)) (kM BK340) k_ hk⟩) _ (Nat.le_refl _)) (Below.refl _ _) (Nat.le_refl _) (by simp) ?_; (case hd => rfl); (case hg => rfl); (case hr => first | (go_simp; done) | (go_simp; rfl)); (case hp => exact (Reps.one (show Kd.FK (Kd.slice 2 (Kd.int .i64)) _ _ y350 [.slice Ao23b y350.length co23b] from (Kd.FK_slice_mk (zA (zF (ok' := (fun k_ => (P0_ k_ ∨ w.heap.size ≤ k_) ∧ oB (.slice Ao12 x7_1.length co12) k_ ∧ oB (.slice Ao23 y344.length co23) k_ ∧ k_ ≠ gb340)) (Kd.R_types (Kd.R_apart' (Kd.R_apart' (HO352.out) (Kd.S_typed HO_7.out) (by decide)) (Kd.N_typed HO346.out) (by decide)) BK340.out (by decide)) (fun k_ hk => ⟨(.inr (hk.1.1.1)), ⟨hk.1.1.2, ⟨hk.1.2, hk.2⟩⟩⟩))).2.1 (Kd.R_F (zF (ok' := (fun k_ => (P0_ k_ ∨ w.heap.size ≤ k_) ∧ oB (.slice Ao12 x7_1.length co12) k_ ∧ oB (.slice Ao23 y344.length co23) k_ ∧ k_ ≠ gb340)) (Kd.R_types (Kd.R_apart' (Kd.R_apart' (HO352.out) (Kd.S_typed HO_7.out) (by decide)) (Kd.N_typed HO346.out) (by decide)) BK340.out (by decide)) (fun k_ hk => ⟨(.inr (hk.1.1.1)), ⟨hk.1.1.2, ⟨hk.1.2, hk.2⟩⟩⟩))))) (Reps.one (show Kd.FK (Kd.slice 2 (Kd.int .i64)) _ _ ((rd_T42 l0 x12_1).f1) [.slice A339_1 ((rd_T42 l0 x12_1).f1).length c339_1] from (Kd.FK_slice_mk (Kd.V_reads' (Kd.V_mono (ok' := (fun k_ => (P0_ k_ ∨ w.heap.size ≤ k_) ∧ oB (.slice Ao12 x7_1.length co12) k_ ∧ oB (.slice Ao23 y344.length co23) k_ ∧ k_ ≠ gb340)) (HL339_1.out) (fun k_ hk => ⟨hk.1, ⟨hk.2.2.2.1, ⟨hk.2.1, hk.2.2.2.2⟩⟩⟩))).2.1 (Kd.V_F (Kd.V_mono (ok' := (fun k_ => (P0_ k_ ∨ w.heap.size ≤ k_) ∧ oB (.slice Ao12 x7_1.length co12) k_ ∧ oB (.slice Ao23 y344.length co23) k_ ∧ k_ ≠ gb340)) (HL339_1.out) (fun k_ hk => ⟨hk.1, ⟨hk.2.2.2.1, ⟨hk.2.1, hk.2.2.2.2⟩⟩⟩))))) (Reps.none _ _))))
             intro v354 w24 ho25 hb hg_ hnew_
             clear hg_ hnew_
             (first | rw [← Ny353.out] at ho25 | (simp only [Int.reduceToNat] at ho25; rw [← Ny353.out] at ho25))
             have n0_ := yD (Kd.S_below (kS HO_7) hb)
             have n1_ := yD (Kd.V_elder' (kU HO_10) (Kd.N_base ho25) hb)
             have n2_ := yD (Kd.V_elder' (kU HL339_0) (Kd.N_base ho25) hb)
             have n3_ := yD (Kd.V_elder' (kU HL339_1) (Kd.N_base ho25) hb)
             have n4_ := yD (Kd.N_elder' (kQ HO346) (Kd.N_base ho25) hb)
             have n5_ := yD (Kd.N_lower ho25 (below_size (kB HB)))
             have n6_ := yD (zB (kN BK340) hb)
             have n7_ := yD (zC (kB HB) hb)
             clear HO_7 HO_10 HL339_0 HL339_1 HO346 BK340 HB HO352; have HO_7 := n0_; have HO_10 := n1_; have HL339_0 := n2_; have HL339_1 := n3_; have HO346 := n4_; have HO355 := n5_; have BK340 := n6_; have HB := n7_; clear n0_ n1_ n2_ n3_ n4_ n5_ n6_ n7_ hb ho25
             refine hK.out _ _ ⟨(yG BK340.out 0).trans rfl, (yG BK340.out 1).trans rfl⟩ (fun hHeld => ?_)
             clear hK K
             refine norm_ (a' := ?_) ?_ ?_
             rotate_left
             · show Act.put _ (some 27) _ = _
               simp only [Act.put, zH, zI, zJ, i64_w, i32_w]
               rfl
             exact norm_ (by first | (simp only [putAll, Act.put, zH, zI, zJ]; done) | (simp only [putAll, Act.put, zH, zI, zJ]; rfl)) (hJ2_5_8_11 (v342, (.slice Ao23 y344.length co23), .slice Ao23b y350.length co23b, v354) _ ⟨hHeld, (mV HL339_0 (fun _ hk => ⟨hk.1.1, ⟨hk.1.2.1, ⟨hk.2, ⟨hk.1.2.2.2.1, hk.1.2.2.2.2⟩⟩⟩⟩)), (mV HL339_1 (fun _ hk => ⟨hk.1.1, ⟨hk.1.2.1, ⟨hk.2, ⟨hk.1.2.2.2.1, hk.1.2.2.2.2⟩⟩⟩⟩)), (mN HO346 (fun _ hk => ⟨hk.1.1, ⟨hk.2, ⟨hk.1.2.2.1, hk.1.2.2.2⟩⟩⟩)), (mN HO355 (fun _ hk => ⟨hk.1, ⟨hk.2.2.1, ⟨hk.2.1, hk.2.2.2⟩⟩⟩)), (mV HO_10 (fun _ hk => ⟨hk.1.1, ⟨hk.1.2.1, ⟨hk.2, ⟨hk.1.2.2.2.1, hk.1.2.2.2.2⟩⟩⟩⟩)), (mS HO_7 (fun _ hk => ⟨hk.1, hk.2.2⟩)), (kM BK340), (kB HB)⟩)
          ·
           skip
           rintro ⟨v342, v345, v348⟩ w22 ⟨hS_, h0_, h1_, h2_, h3_, h4_, h5_, h6_, h7_⟩
           have n0_ : Aside0 (Kd.V (Kd.int .i64) 2 w22 w.heap.size (fun k_ => (P0_ k_ ∨ w.heap.size ≤ k_) ∧ oB v345 k_ ∧ oB v348 k_ ∧ oB (.slice Ao12 x7_1.length co12) k_ ∧ k_ ≠ gb340) (.slice A339_0 ((rd_T42 l0 x12_1).f0).length c339_0) ((rd_T42 l0 x12_1).f0)) := ⟨h0_⟩
           have n1_ : Aside0 (Kd.V (Kd.int .i64) 2 w22 w.heap.size (fun k_ => (P0_ k_ ∨ w.heap.size ≤ k_) ∧ oB v345 k_ ∧ oB v348 k_ ∧ oB (.slice Ao12 x7_1.length co12) k_ ∧ k_ ≠ gb340) (.slice A339_1 ((rd_T42 l0 x12_1).f1).length c339_1) ((rd_T42 l0 x12_1).f1)) := ⟨h1_⟩
           have n2_ : Aside0 (Kd.N (Kd.slice 2 (Kd.int .i64)) 36 w22 w.heap.size (fun k_ => (P0_ k_ ∨ w.heap.size ≤ k_) ∧ oB v348 k_ ∧ oB (.slice Ao12 x7_1.length co12) k_ ∧ k_ ≠ gb340) v345 y344) := ⟨h2_⟩
           have n3_ : Aside0 (Kd.R (Kd.int .i64) 2 w22 w.heap.size (fun k_ => (w.heap.size ≤ k_)) v348 t347) := ⟨h3_⟩
           have n4_ : Aside0 (Kd.V k42 42 w22 w.heap.size (fun k_ => (P0_ k_ ∨ w.heap.size ≤ k_) ∧ oB v345 k_ ∧ oB v348 k_ ∧ oB (.slice Ao12 x7_1.length co12) k_ ∧ k_ ≠ gb340) (.slice (some ad339) l0.length c0) l0) := ⟨h4_⟩
           have n5_ : Aside0 (Kd.S k42 42 w22 w.heap.size (fun k_ => (w.heap.size ≤ k_) ∧ oB v348 k_ ∧ k_ ≠ gb340) (.slice Ao12 x7_1.length co12) x7_1) := ⟨h5_⟩
           have n6_ : Aside0 (w22.heap[gb340]? = some (.cells #[.slice A339_0 ((rd_T42 l0 x12_1).f0).length c339_0, .slice A339_1 ((rd_T42 l0 x12_1).f1).length c339_1] 42 (0, 0))) := ⟨h6_⟩
           have n7_ : Aside0 (Below w.heap.size w w22) := ⟨h7_⟩
           clear HO_7 HO_10 HL339_0 HL339_1 BK340 HB h0_ h1_ h2_ h3_ h4_ h5_ h6_ h7_; have HL339_0 := n0_; have HL339_1 := n1_; have HO346 := n2_; have HO349 := n3_; have HO_10 := n4_; have HO_7 := n5_; have BK340 := n6_; have HB := n7_; clear n0_ n1_ n2_ n3_ n4_ n5_ n6_ n7_
           have hHeld : w22.cell? ⟨gb340, 0, none⟩ = some (.slice A339_0 ((rd_T42 l0 x12_1).f0).length c339_0) ∧ w22.cell? ⟨gb340, 1, none⟩ = some (.slice A339_1 ((rd_T42 l0 x12_1).f1).length c339_1) := hS_
           refine norm_ (a' := ?_) ?_ ?_
           rotate_left
           · simp only [putAll, Act.put, zH, zI, zJ]
             rfl
           refine one_ (i := 8) (N := some 24) (bz 17 2047) rfl rfl (one_of HT_.out (by kernel_rfl)) (by decide) (fun K hK => ?_)
           refine Kd.R_lit_step (Kd.int .i64) _ 2 ?hg (N := 24) ?hd (xs := ([a2] : List Int)) (inner := [.int .i64 a2]) (ok := fun _ => True) (okp := fun _ => True) ?hr ?hp (fun _ hk => hk) trivial (Below.refl _ _) (Nat.le_refl _) (by simp) ?_; (case hd => rfl); (case hg => rfl); (case hr => first | (go_simp; done) | (go_simp; rfl)); (case hp => exact (Reps.one (show Kd.M (Kd.int .i64) _ _ _ a2 [.int .i64 a2] from rfl) (Reps.none _ _)))
           intro v351 w23 ho24 hb hg_ hnew_
           clear hg_ hnew_
           (first | rw [← Ny350.out] at ho24 | (simp only [Int.reduceToNat] at ho24; rw [← Ny350.out] at ho24))
           have n0_ := yD (Kd.S_elder' (kS HO_7) (yH ho24) hb)
           have n1_ := yD (Kd.V_elder' (kU HO_10) (yH ho24) hb)
           have n2_ := yD (Kd.V_elder' (kU HL339_0) (yH ho24) hb)
           have n3_ := yD (Kd.V_elder' (kU HL339_1) (yH ho24) hb)
           have n4_ := yD (Kd.N_elder' (kQ HO346) (yH ho24) hb)
           have n5_ := yD (Kd.R_elder' (kA HO349) (yH ho24) hb)
           have n6_ := yD (yZ (yJ (Kd.R_newM (M := fun k_ => (w.heap.size ≤ k_)) ho24 (below_size (kB HB)) (fun k_ h_ => h_)) (yK (kA HO349))) (below_size (kB HB)))
           have n7_ := yD (zB (kN BK340) hb)
           have n8_ := yD (zC (kB HB) hb)
           clear HO_7 HO_10 HL339_0 HL339_1 HO346 HO349 BK340 HB; have HO_7 := n0_; have HO_10 := n1_; have HL339_0 := n2_; have HL339_1 := n3_; have HO346 := n4_; have HO349 := n5_; have HO352 := n6_; have BK340 := n7_; have HB := n8_; clear n0_ n1_ n2_ n3_ n4_ n5_ n6_ n7_ n8_ hb ho24
           refine hK.out _ _ ⟨(yG BK340.out 0).trans rfl, (yG BK340.out 1).trans rfl⟩ (fun hHeld => ?_)
           clear hK K
           refine norm_ (a' := ?_) ?_ ?_
           rotate_left
           · show Act.put _ (some 24) _ = _
             simp only [Act.put, zH, zI, zJ, i64_w, i32_w]
             rfl
           exact norm_ (by first | (simp only [putAll, Act.put, zH, zI, zJ]; done) | (simp only [putAll, Act.put, zH, zI, zJ]; rfl)) (hJ2_5_6_8 (v342, v345, v348, v351) _ ⟨hHeld, (mV HL339_0 (fun _ hk => ⟨hk.1.1, ⟨hk.1.2.1, ⟨hk.1.2.2.1, ⟨hk.2, ⟨hk.1.2.2.2.1, hk.1.2.2.2.2⟩⟩⟩⟩⟩)), (mV HL339_1 (fun _ hk => ⟨hk.1.1, ⟨hk.1.2.1, ⟨hk.1.2.2.1, ⟨hk.2, ⟨hk.1.2.2.2.1, hk.1.2.2.2.2⟩⟩⟩⟩⟩)), (mN HO346 (fun _ hk => ⟨hk.1.1, ⟨hk.1.2.1, ⟨hk.2, ⟨hk.1.2.2.1, hk.1.2.2.2⟩⟩⟩⟩)), (kA HO349), (mR HO352 (fun _ hk => ⟨hk.1.1, hk.2⟩)), (mV HO_10 (fun _ hk => ⟨hk.1.1, ⟨hk.1.2.1, ⟨hk.1.2.2.1, ⟨hk.2, ⟨hk.1.2.2.2.1, hk.1.2.2.2.2⟩⟩⟩⟩⟩)), (mS HO_7 (fun _ hk => ⟨hk.1.1, ⟨hk.1.2.1, ⟨hk.2, hk.1.2.2⟩⟩⟩)), (kM BK340), (kB HB)⟩)
         ·
          skip
          rintro ⟨v342, v345, v351, v354⟩ w25 ⟨hS_, h0_, h1_, h2_, h3_, h4_, h5_, h6_, h7_⟩
          have n0_ : Aside0 (Kd.V (Kd.int .i64) 2 w25 w.heap.size (fun k_ => (P0_ k_ ∨ w.heap.size ≤ k_) ∧ oB v345 k_ ∧ oB v354 k_ ∧ oB (.slice Ao12 x7_1.length co12) k_ ∧ k_ ≠ gb340) (.slice A339_0 ((rd_T42 l0 x12_1).f0).length c339_0) ((rd_T42 l0 x12_1).f0)) := ⟨h0_⟩
          have n1_ : Aside0 (Kd.V (Kd.int .i64) 2 w25 w.heap.size (fun k_ => (P0_ k_ ∨ w.heap.size ≤ k_) ∧ oB v345 k_ ∧ oB v354 k_ ∧ oB (.slice Ao12 x7_1.length co12) k_ ∧ k_ ≠ gb340) (.slice A339_1 ((rd_T42 l0 x12_1).f1).length c339_1) ((rd_T42 l0 x12_1).f1)) := ⟨h1_⟩
          have n2_ : Aside0 (Kd.N (Kd.slice 2 (Kd.int .i64)) 36 w25 w.heap.size (fun k_ => (P0_ k_ ∨ w.heap.size ≤ k_) ∧ oB v354 k_ ∧ oB (.slice Ao12 x7_1.length co12) k_ ∧ k_ ≠ gb340) v345 y344) := ⟨h2_⟩
          have n3_ : Aside0 (Kd.N (Kd.slice 2 (Kd.int .i64)) 36 w25 w.heap.size (fun k_ => (P0_ k_ ∨ w.heap.size ≤ k_) ∧ oB v345 k_ ∧ oB (.slice Ao12 x7_1.length co12) k_ ∧ k_ ≠ gb340) v354 y353) := ⟨h3_⟩
          have n4_ : Aside0 (Kd.V k42 42 w25 w.heap.size (fun k_ => (P0_ k_ ∨ w.heap.size ≤ k_) ∧ oB v345 k_ ∧ oB v354 k_ ∧ oB (.slice Ao12 x7_1.length co12) k_ ∧ k_ ≠ gb340) (.slice (some ad339) l0.length c0) l0) := ⟨h4_⟩
          have n5_ : Aside0 (Kd.S k42 42 w25 w.heap.size (fun k_ => (w.heap.size ≤ k_) ∧ k_ ≠ gb340) (.slice Ao12 x7_1.length co12) x7_1) := ⟨h5_⟩
          have n6_ : Aside0 (w25.heap[gb340]? = some (.cells #[.slice A339_0 ((rd_T42 l0 x12_1).f0).length c339_0, .slice A339_1 ((rd_T42 l0 x12_1).f1).length c339_1] 42 (0, 0))) := ⟨h6_⟩
          have n7_ : Aside0 (Below w.heap.size w w25) := ⟨h7_⟩
          clear HO_7 HO_10 HL339_0 HL339_1 BK340 HB h0_ h1_ h2_ h3_ h4_ h5_ h6_ h7_; have HL339_0 := n0_; have HL339_1 := n1_; have HO346 := n2_; have HO355 := n3_; have HO_10 := n4_; have HO_7 := n5_; have BK340 := n6_; have HB := n7_; clear n0_ n1_ n2_ n3_ n4_ n5_ n6_ n7_
          have hHeld : w25.cell? ⟨gb340, 0, none⟩ = some (.slice A339_0 ((rd_T42 l0 x12_1).f0).length c339_0) ∧ w25.cell? ⟨gb340, 1, none⟩ = some (.slice A339_1 ((rd_T42 l0 x12_1).f1).length c339_1) := hS_
          obtain ⟨Ao26, co26, eo26⟩ := Kd.N_slice HO346.out
          (first | subst eo26 | (injection eo26 with f1_ f2_ f3_; have f4_ := f1_.symm; have f5_ := f3_.symm; clear f1_ f2_ f3_; subst f4_; subst f5_))
          refine norm_ (a' := ?_) ?_ ?_
          rotate_left
          · simp only [putAll, Act.put, zH, zI, zJ]
            rfl
          refine one_ (i := 6) (N := some 22) (bz 17 4095) rfl rfl (one_of HT_.out (by kernel_rfl)) (by decide) (fun K hK => ?_)
          refine goes_ Try.func146 (by kernel_rfl) rfl #[.slice Ao26 y344.length co26] (by rfl) rfl rfl (by (try simp only [zK, zL, zM]); first | done | rfl | (simp only [zN, zO]; rfl)) ?_
          with_reducible refine (slices_Concat_int64_int64.calls k1 _ _ y344 t347 _ ?side1 ?side2 A7.out).mono ?_
          (case side1 => exact kV (Kd.N_reads' HO346.out).2.2)
          (case side2 => exact (Kd.N_reads' HO346.out).2.1)
          rintro e w27 ⟨v348, rfl, ho0, hb⟩
          refine ⟨_, rfl, ?_⟩
          have n0_ := yD (Kd.S_elder' (kS HO_7) (yH ho0) hb)
          have n1_ := yD (Kd.V_elder' (kU HO_10) (yH ho0) hb)
          have n2_ := yD (Kd.V_elder' (kU HL339_0) (yH ho0) hb)
          have n3_ := yD (Kd.V_elder' (kU HL339_1) (yH ho0) hb)
          have n4_ := yD (Kd.N_elder' (kQ HO346) (yH ho0) hb)
          have n5_ := yD (Kd.N_elder' (kQ HO355) (yH ho0) hb)
          have n6_ := yD (yZ (Kd.R_newM (M := fun k_ => (w.heap.size ≤ k_)) ho0 (below_size (kB HB)) (fun k_ h_ => h_)) (below_size (kB HB)))
          have n7_ := yD (zB (kN BK340) hb)
          have n8_ := yD (zC (kB HB) hb)
          clear HO_7 HO_10 HL339_0 HL339_1 HO346 HO355 BK340 HB; have HO_7 := n0_; have HO_10 := n1_; have HL339_0 := n2_; have HL339_1 := n3_; have HO346 := n4_; have HO355 := n5_; have HO349 := n6_; have BK340 := n7_; have HB := n8_; clear n0_ n1_ n2_ n3_ n4_ n5_ n6_ n7_ n8_; (try clear hb); (try clear hb2); (try clear hk); (try clear hi); (try clear ho0)
          refine hK.out _ _ ⟨(yG BK340.out 0).trans rfl, (yG BK340.out 1).trans rfl⟩ (fun hHeld => ?_)
          clear hK K
          refine norm_ (a' := ?_) ?_ ?_
          rotate_left
          · show Act.put _ (some 22) _ = _
            simp only [Act.put, zH, zI, zJ, i64_w, i32_w]
            rfl
          exact norm_ (by first | (simp only [putAll, Act.put, zH, zI, zJ]; done) | (simp only [putAll, Act.put, zH, zI, zJ]; rfl)) (hJ2_5_6_8_11 (v342, .slice Ao26 y344.length co26, v348, v351, v354) _ ⟨hHeld, (mV HL339_0 (fun _ hk => ⟨hk.1.1, ⟨hk.1.2.1, ⟨hk.2, ⟨hk.1.2.2.1, ⟨hk.1.2.2.2.1, hk.1.2.2.2.2⟩⟩⟩⟩⟩)), (mV HL339_1 (fun _ hk => ⟨hk.1.1, ⟨hk.1.2.1, ⟨hk.2, ⟨hk.1.2.2.1, ⟨hk.1.2.2.2.1, hk.1.2.2.2.2⟩⟩⟩⟩⟩)), (mN HO346 (fun _ hk => ⟨hk.1.1, ⟨hk.2, ⟨hk.1.2.1, ⟨hk.1.2.2.1, hk.1.2.2.2⟩⟩⟩⟩)), (mR HO349 (fun _ hk => hk.1)), (mN HO355 (fun _ hk => ⟨hk.1.1, ⟨hk.1.2.1, ⟨hk.2, ⟨hk.1.2.2.1, hk.1.2.2.2⟩⟩⟩⟩)), (mV HO_10 (fun _ hk => ⟨hk.1.1, ⟨hk.1.2.1, ⟨hk.2, ⟨hk.1.2.2.1, ⟨hk.1.2.2.2.1, hk.1.2.2.2.2⟩⟩⟩⟩⟩)), (mS HO_7 (fun _ hk => ⟨hk.1.1, ⟨hk.2, hk.1.2⟩⟩)), (kM BK340), (kB HB)⟩)
        ·
         skip
         rintro ⟨v342, v345, v348, v351⟩ w24 ⟨hS_, h0_, h1_, h2_, h3_, h4_, h5_, h6_, h7_, h8_⟩
         have n0_ : Aside0 (Kd.V (Kd.int .i64) 2 w24 w.heap.size (fun k_ => (P0_ k_ ∨ w.heap.size ≤ k_) ∧ oB v345 k_ ∧ oB v348 k_ ∧ oB v351 k_ ∧ oB (.slice Ao12 x7_1.length co12) k_ ∧ k_ ≠ gb340) (.slice A339_0 ((rd_T42 l0 x12_1).f0).length c339_0) ((rd_T42 l0 x12_1).f0)) := ⟨h0_⟩
         have n1_ : Aside0 (Kd.V (Kd.int .i64) 2 w24 w.heap.size (fun k_ => (P0_ k_ ∨ w.heap.size ≤ k_) ∧ oB v345 k_ ∧ oB v348 k_ ∧ oB v351 k_ ∧ oB (.slice Ao12 x7_1.length co12) k_ ∧ k_ ≠ gb340) (.slice A339_1 ((rd_T42 l0 x12_1).f1).length c339_1) ((rd_T42 l0 x12_1).f1)) := ⟨h1_⟩
         have n2_ : Aside0 (Kd.N (Kd.slice 2 (Kd.int .i64)) 36 w24 w.heap.size (fun k_ => (P0_ k_ ∨ w.heap.size ≤ k_) ∧ oB v348 k_ ∧ oB v351 k_ ∧ oB (.slice Ao12 x7_1.length co12) k_ ∧ k_ ≠ gb340) v345 y344) := ⟨h2_⟩
         have n3_ : Aside0 (Kd.R (Kd.int .i64) 2 w24 w.heap.size (fun k_ => (w.heap.size ≤ k_) ∧ oB v351 k_) v348 t347) := ⟨h3_⟩
         have n4_ : Aside0 (Kd.R (Kd.int .i64) 2 w24 w.heap.size (fun k_ => (w.heap.size ≤ k_) ∧ oB v348 k_) v351 y350) := ⟨h4_⟩
         have n5_ : Aside0 (Kd.V k42 42 w24 w.heap.size (fun k_ => (P0_ k_ ∨ w.heap.size ≤ k_) ∧ oB v345 k_ ∧ oB v348 k_ ∧ oB v351 k_ ∧ oB (.slice Ao12 x7_1.length co12) k_ ∧ k_ ≠ gb340) (.slice (some ad339) l0.length c0) l0) := ⟨h5_⟩
         have n6_ : Aside0 (Kd.S k42 42 w24 w.heap.size (fun k_ => (w.heap.size ≤ k_) ∧ oB v348 k_ ∧ oB v351 k_ ∧ k_ ≠ gb340) (.slice Ao12 x7_1.length co12) x7_1) := ⟨h6_⟩
         have n7_ : Aside0 (w24.heap[gb340]? = some (.cells #[.slice A339_0 ((rd_T42 l0 x12_1).f0).length c339_0, .slice A339_1 ((rd_T42 l0 x12_1).f1).length c339_1] 42 (0, 0))) := ⟨h7_⟩
         have n8_ : Aside0 (Below w.heap.size w w24) := ⟨h8_⟩
         clear HO_7 HO_10 HL339_0 HL339_1 BK340 HB h0_ h1_ h2_ h3_ h4_ h5_ h6_ h7_ h8_; have HL339_0 := n0_; have HL339_1 := n1_; have HO346 := n2_; have HO349 := n3_; have HO352 := n4_; have HO_10 := n5_; have HO_7 := n6_; have BK340 := n7_; have HB := n8_; clear n0_ n1_ n2_ n3_ n4_ n5_ n6_ n7_ n8_
         have hHeld : w24.cell? ⟨gb340, 0, none⟩ = some (.slice A339_0 ((rd_T42 l0 x12_1).f0).length c339_0) ∧ w24.cell? ⟨gb340, 1, none⟩ = some (.slice A339_1 ((rd_T42 l0 x12_1).f1).length c339_1) := hS_
         obtain ⟨Ao25, co25, eo25⟩ := Kd.R_slice HO352.out
         (first | subst eo25 | (injection eo25 with f1_ f2_ f3_; have f4_ := f1_.symm; have f5_ := f3_.symm; clear f1_ f2_ f3_; subst f4_; subst f5_))
         refine norm_ (a' := ?_) ?_ ?_
         rotate_left
         · simp only [putAll, Act.put, zH, zI, zJ]
           rfl
         refine one_ (i := 11) (N := some 27) (bz 17 4095) rfl rfl (one_of HT_.out (by kernel_rfl)) (by decide) (fun K hK => ?_)
         refine Kd.N_lit_step (Kd.slice 2 (Kd.int .i64)) _ 36 ?hg (N' := 27) ?hd (xs := ([y350, (rd_T42 l0 x12_1).f1] : List (List Int))) (inner := [.slice Ao25 y350.length co25, .slice A339_1 ((rd_T42 l0 x12_1).f1).length c339_1]) (ok := (fun k_ => (P0_ k_ ∨ w.heap.size ≤ k_) ∧ oB (.slice Ao12 x7_1.length co12) k_ ∧ oB v345 k_ ∧ oB v348 k_ ∧ k_ ≠ gb340)) (okp := (fun k_ => (P0_ k_ ∨ w.heap.size ≤ k_) ∧ oB (.slice Ao12 x7_1.length co12) k_ ∧ oB v345 k_ ∧ oB v348 k_ ∧ k_ ≠ gb340)) ?hr ?hp (fun _ hk => hk) ((show ∀ k_, w24.heap.size ≤ k_ → (fun k_ => (P0_ k_ ∨ w.heap.size ≤ k_) ∧ oB (.slice Ao12 x7_1.length co12) k_ ∧ oB v345 k_ ∧ oB v348 k_ ∧ k_ ≠ gb340) k_ from fun k_ hk => ⟨(.inr (Nat.le_trans (below_size (kB HB)) hk)), Kd.fresh' (Kd.S_lt (kS HO_7)) k_ hk, Kd.fresh' (Kd.N_lt (kQ HO346)) k_ hk, Kd.fresh' (yK (kA HO349)) k_ hk, Kd.freshB (g := gb340) (o := .cells #[.slice A339_0 ((rd_T42 l0 x12_1).f0).length c339_0, .slice A339_1 ((rd_T42 l0 x12_1).f1).length c339_1] 42 (0, 0)) (kM BK340) k_ hk⟩) _ (Nat.le_refl _)) (Below.refl _ _) (Nat.le_refl _) (by simp) ?_; (case hd => rfl); (case hg => rfl); (case hr => first | (go_simp; done) | (go_simp; rfl)); (case hp => exact (Reps.one (show Kd.FK (Kd.slice 2 (Kd.int .i64)) _ _ y350 [.slice Ao25 y350.length co25] from (Kd.FK_slice_mk (zA (zF (ok' := (fun k_ => (P0_ k_ ∨ w.heap.size ≤ k_) ∧ oB (.slice Ao12 x7_1.length co12) k_ ∧ oB v345 k_ ∧ oB v348 k_ ∧ k_ ≠ gb340)) (Kd.R_types (Kd.R_apart' (Kd.R_apart' (HO352.out) (Kd.S_typed HO_7.out) (by decide)) (Kd.N_typed HO346.out) (by decide)) BK340.out (by decide)) (fun k_ hk => ⟨(.inr (hk.1.1.1.1)), ⟨hk.1.1.2, ⟨hk.1.2, ⟨hk.1.1.1.2, hk.2⟩⟩⟩⟩))).2.1 (Kd.R_F (zF (ok' := (fun k_ => (P0_ k_ ∨ w.heap.size ≤ k_) ∧ oB (.slice Ao12 x7_1.length co12) k_ ∧ oB v345 k_ ∧ oB v348 k_ ∧ k_ ≠ gb340)) (Kd.R_types (Kd.R_apart' (Kd.R_apart' (HO352.out) (Kd.S_typed HO_7.out) (by decide)) (Kd.N_typed HO346.out) (by decide)) BK340.out (by decide)) (fun k_ hk => ⟨(.inr (hk.1.1.1.1)), ⟨hk.1.1.2, ⟨hk.1.2, ⟨hk.1.1.1.2, hk.2⟩⟩⟩⟩))))) (Reps.one (show Kd.FK (Kd.slice 2 (Kd.int .i64)) _ _ ((rd_T42 l0 x12_1).f1) [.slice A339_1 ((rd_T42 l0 x12_1).f1).length c339_1] from (Kd.FK_slice_mk (Kd.V_reads' (Kd.V_mono (ok' := (fun k_ => (P0_ k_ ∨ w.heap.size ≤ k_) ∧ oB (.slice Ao12 x7_1.length co12) k_ ∧ oB v345 k_ ∧ oB v348 k_ ∧ k_ ≠ gb340)) (HL339_1.out) (fun k_ hk => ⟨hk.1, ⟨hk.2.2.2.2.1, ⟨hk.2.1, ⟨hk.2.2.1, hk.2.2.2.2.2⟩⟩⟩⟩))).2.1 (Kd.V_F (Kd.V_mono (ok' := (fun k_ => (P0_ k_ ∨ w.heap.size ≤ k_) ∧ oB (.slice Ao12 x7_1.length co12) k_ ∧ oB v345 k_ ∧ oB v348 k_ ∧ k_ ≠ gb340)) (HL339_1.out) (fun k_ hk => ⟨hk.1, ⟨hk.2.2.2.2.1, ⟨hk.2.1, ⟨hk.2.2.1, hk.2.2.2.2.2⟩⟩⟩⟩))))) (Reps.none _ _))))
         intro v354 w26 ho27 hb hg_ hnew_
         clear hg_ hnew_
         (first | rw [← Ny353.out] at ho27 | (simp only [Int.reduceToNat] at ho27; rw [← Ny353.out] at ho27))
         have n0_ := yD (Kd.S_below (kS HO_7) hb)
         have n1_ := yD (Kd.V_elder' (kU HO_10) (Kd.N_base ho27) hb)
         have n2_ := yD (Kd.V_elder' (kU HL339_0) (Kd.N_base ho27) hb)
         have n3_ := yD (Kd.V_elder' (kU HL339_1) (Kd.N_base ho27) hb)
         have n4_ := yD (Kd.N_elder' (kQ HO346) (Kd.N_base ho27) hb)
         have n5_ := yD (zE (kA HO349) hb)
         have n6_ := yD (Kd.N_lower ho27 (below_size (kB HB)))
         have n7_ := yD (zB (kN BK340) hb)
         have n8_ := yD (zC (kB HB) hb)
         clear HO_7 HO_10 HL339_0 HL339_1 HO346 HO349 BK340 HB HO352; have HO_7 := n0_; have HO_10 := n1_; have HL339_0 := n2_; have HL339_1 := n3_; have HO346 := n4_; have HO349 := n5_; have HO355 := n6_; have BK340 := n7_; have HB := n8_; clear n0_ n1_ n2_ n3_ n4_ n5_ n6_ n7_ n8_ hb ho27
         refine hK.out _ _ ⟨(yG BK340.out 0).trans rfl, (yG BK340.out 1).trans rfl⟩ (fun hHeld => ?_)
         clear hK K
         refine norm_ (a' := ?_) ?_ ?_
         rotate_left
         · show Act.put _ (some 27) _ = _
           simp only [Act.put, zH, zI, zJ, i64_w, i32_w]
           rfl
         exact norm_ (by first | (simp only [putAll, Act.put, zH, zI, zJ]; done) | (simp only [putAll, Act.put, zH, zI, zJ]; rfl)) (hJ2_5_6_8_11 (v342, v345, v348, .slice Ao25 y350.length co25, v354) _ ⟨hHeld, (mV HL339_0 (fun _ hk => ⟨hk.1.1, ⟨hk.1.2.1, ⟨hk.1.2.2.1, ⟨hk.2, ⟨hk.1.2.2.2.2.1, hk.1.2.2.2.2.2⟩⟩⟩⟩⟩)), (mV HL339_1 (fun _ hk => ⟨hk.1.1, ⟨hk.1.2.1, ⟨hk.1.2.2.1, ⟨hk.2, ⟨hk.1.2.2.2.2.1, hk.1.2.2.2.2.2⟩⟩⟩⟩⟩)), (mN HO346 (fun _ hk => ⟨hk.1.1, ⟨hk.1.2.1, ⟨hk.2, ⟨hk.1.2.2.2.1, hk.1.2.2.2.2⟩⟩⟩⟩)), (mR HO349 (fun _ hk => hk.1)), (mN HO355 (fun _ hk => ⟨hk.1, ⟨hk.2.2.1, ⟨hk.2.2.2.1, ⟨hk.2.1, hk.2.2.2.2⟩⟩⟩⟩)), (mV HO_10 (fun _ hk => ⟨hk.1.1, ⟨hk.1.2.1, ⟨hk.1.2.2.1, ⟨hk.2, ⟨hk.1.2.2.2.2.1, hk.1.2.2.2.2.2⟩⟩⟩⟩⟩)), (mS HO_7 (fun _ hk => ⟨hk.1, ⟨hk.2.1, hk.2.2.2⟩⟩)), (kM BK340), (kB HB)⟩)
       rintro ⟨v342, v345, v348, v351, v354⟩ w27 ⟨hS_, h0_, h1_, h2_, h3_, h4_, h5_, h6_, h7_, h8_⟩
       have n0_ : Aside0 (Kd.V (Kd.int .i64) 2 w27 w.heap.size (fun k_ => (P0_ k_ ∨ w.heap.size ≤ k_) ∧ oB v345 k_ ∧ oB v348 k_ ∧ oB v354 k_ ∧ oB (.slice Ao12 x7_1.length co12) k_ ∧ k_ ≠ gb340) (.slice A339_0 ((rd_T42 l0 x12_1).f0).length c339_0) ((rd_T42 l0 x12_1).f0)) := ⟨h0_⟩
       have n1_ : Aside0 (Kd.V (Kd.int .i64) 2 w27 w.heap.size (fun k_ => (P0_ k_ ∨ w.heap.size ≤ k_) ∧ oB v345 k_ ∧ oB v348 k_ ∧ oB v354 k_ ∧ oB (.slice Ao12 x7_1.length co12) k_ ∧ k_ ≠ gb340) (.slice A339_1 ((rd_T42 l0 x12_1).f1).length c339_1) ((rd_T42 l0 x12_1).f1)) := ⟨h1_⟩
       have n2_ : Aside0 (Kd.N (Kd.slice 2 (Kd.int .i64)) 36 w27 w.heap.size (fun k_ => (P0_ k_ ∨ w.heap.size ≤ k_) ∧ oB v348 k_ ∧ oB v354 k_ ∧ oB (.slice Ao12 x7_1.length co12) k_ ∧ k_ ≠ gb340) v345 y344) := ⟨h2_⟩
       have n3_ : Aside0 (Kd.R (Kd.int .i64) 2 w27 w.heap.size (fun k_ => (w.heap.size ≤ k_)) v348 t347) := ⟨h3_⟩
       have n4_ : Aside0 (Kd.N (Kd.slice 2 (Kd.int .i64)) 36 w27 w.heap.size (fun k_ => (P0_ k_ ∨ w.heap.size ≤ k_) ∧ oB v345 k_ ∧ oB v348 k_ ∧ oB (.slice Ao12 x7_1.length co12) k_ ∧ k_ ≠ gb340) v354 y353) := ⟨h4_⟩
       have n5_ : Aside0 (Kd.V k42 42 w27 w.heap.size (fun k_ => (P0_ k_ ∨ w.heap.size ≤ k_) ∧ oB v345 k_ ∧ oB v348 k_ ∧ oB v354 k_ ∧ oB (.slice Ao12 x7_1.length co12) k_ ∧ k_ ≠ gb340) (.slice (some ad339) l0.length c0) l0) := ⟨h5_⟩
       have n6_ : Aside0 (Kd.S k42 42 w27 w.heap.size (fun k_ => (w.heap.size ≤ k_) ∧ oB v348 k_ ∧ k_ ≠ gb340) (.slice Ao12 x7_1.length co12) x7_1) := ⟨h6_⟩
       have n7_ : Aside0 (w27.heap[gb340]? = some (.cells #[.slice A339_0 ((rd_T42 l0 x12_1).f0).length c339_0, .slice A339_1 ((rd_T42 l0 x12_1).f1).length c339_1] 42 (0, 0))) := ⟨h7_⟩
       have n8_ : Aside0 (Below w.heap.size w w27) := ⟨h8_⟩
       clear HO_7 HO_10 HL339_0 HL339_1 BK340 HB h0_ h1_ h2_ h3_ h4_ h5_ h6_ h7_ h8_; have HL339_0 := n0_; have HL339_1 := n1_; have HO346 := n2_; have HO349 := n3_; have HO355 := n4_; have HO_10 := n5_; have HO_7 := n6_; have BK340 := n7_; have HB := n8_; clear n0_ n1_ n2_ n3_ n4_ n5_ n6_ n7_ n8_
       have hHeld : w27.cell? ⟨gb340, 0, none⟩ = some (.slice A339_0 ((rd_T42 l0 x12_1).f0).length c339_0) ∧ w27.cell? ⟨gb340, 1, none⟩ = some (.slice A339_1 ((rd_T42 l0 x12_1).f1).length c339_1) := hS_
       obtain ⟨Ao28, co28, eo28⟩ := Kd.N_slice HO355.out
       (first | subst eo28 | (injection eo28 with f1_ f2_ f3_; have f4_ := f1_.symm; have f5_ := f3_.symm; clear f1_ f2_ f3_; subst f4_; subst f5_))
       refine norm_ (a' := ?_) ?_ ?_
       rotate_left
       · simp only [putAll, Act.put, zH, zI, zJ]
         rfl
       refine one_ (i := 12) (N := some 28) (bz 17 8191) rfl rfl (one_of HT_.out (by kernel_rfl)) (by decide) (fun K hK => ?_)
       refine goes_ Try.func146 (by kernel_rfl) rfl #[.slice Ao28 y353.length co28] (by rfl) rfl rfl (by (try simp only [zK, zL, zM]); first | done | rfl | (simp only [zN, zO]; rfl)) ?_
       with_reducible refine (slices_Concat_int64_int64.calls k1 _ _ y353 t356 _ ?side1 ?side2 A8.out).mono ?_
       (case side1 => exact kV (Kd.N_reads' HO355.out).2.2)
       (case side2 => exact (Kd.N_reads' HO355.out).2.1)
       rintro e w29 ⟨v357, rfl, ho0, hb⟩
       refine ⟨_, rfl, ?_⟩
       have n0_ := yD (Kd.S_elder' (kS HO_7) (yH ho0) hb)
       have n1_ := yD (Kd.V_elder' (kU HO_10) (yH ho0) hb)
       have n2_ := yD (Kd.V_elder' (kU HL339_0) (yH ho0) hb)
       have n3_ := yD (Kd.V_elder' (kU HL339_1) (yH ho0) hb)
       have n4_ := yD (Kd.N_elder' (kQ HO346) (yH ho0) hb)
       have n5_ := yD (Kd.R_elder' (kA HO349) (yH ho0) hb)
       have n6_ := yD (Kd.N_elder' (kQ HO355) (yH ho0) hb)
       have n7_ := yD (yZ (yJ (Kd.R_newM (M := fun k_ => (w.heap.size ≤ k_)) ho0 (below_size (kB HB)) (fun k_ h_ => h_)) (yK (kA HO349))) (below_size (kB HB)))
       have n8_ := yD (zB (kN BK340) hb)
       have n9_ := yD (zC (kB HB) hb)
       clear HO_7 HO_10 HL339_0 HL339_1 HO346 HO349 HO355 BK340 HB; have HO_7 := n0_; have HO_10 := n1_; have HL339_0 := n2_; have HL339_1 := n3_; have HO346 := n4_; have HO349 := n5_; have HO355 := n6_; have HO358 := n7_; have BK340 := n8_; have HB := n9_; clear n0_ n1_ n2_ n3_ n4_ n5_ n6_ n7_ n8_ n9_; (try clear hb); (try clear hb2); (try clear hk); (try clear hi); (try clear ho0)
       obtain ⟨Ao30, co30, eo30⟩ := Kd.R_slice HO358.out
       (first | subst eo30 | (injection eo30 with f1_ f2_ f3_; have f4_ := f1_.symm; have f5_ := f3_.symm; clear f1_ f2_ f3_; subst f4_; subst f5_))
       obtain ⟨Ao31, co31, eo31⟩ := Kd.R_slice HO349.out
       (first | subst eo31 | (injection eo31 with f1_ f2_ f3_; have f4_ := f1_.symm; have f5_ := f3_.symm; clear f1_ f2_ f3_; subst f4_; subst f5_))
       refine hK.out _ _ ⟨(yG BK340.out 0).trans rfl, (yG BK340.out 1).trans rfl⟩ (fun hHeld => ?_)
       clear hK K
       refine norm_ (a' := ?_) ?_ ?_
       rotate_left
       · show Act.put _ (some 28) _ = _
         simp only [Act.put, zH, zI, zJ, i64_w, i32_w]
         rfl
       refine qA 13 29 (bz 17 16383) HT_ ?_
       refine one_ (i := 14) (N := some 30) (bz 17 32767) rfl rfl (one_of HT_.out (by kernel_rfl)) (by decide) (fun K hK => ?_)
       refine value_ (w1 := ?_) (v := ?_) (by rfl) rfl ?_ ?_
       rotate_left 2
       · go_simp
         constructor
         · rfl
         · rfl
       refine hK.out _ _ ⟨(yG (yN BK340.out _) 0).trans rfl, (yG (yN BK340.out _) 1).trans rfl⟩ (fun hHeld => ?_)
       clear hK K
       refine norm_ (a' := ?_) ?_ ?_
       rotate_left
       · show Act.put _ (some 30) _ = _
         simp only [Act.put, zH, zI, zJ, i64_w, i32_w]
         rfl
       refine one_ (i := 15) (N := some 31) (bz 17 65535) rfl rfl (one_of HT_.out (by kernel_rfl)) (by decide) (fun K hK => ?_)
       refine Kd.S_append_step k42 (w0 := w) w.heap.size (by rfl) (.tmp 16) (.tmp 30) 24 42 (.agg #[(.slice none 0 0), (.slice none 0 0)]) 48 rfl Try.underlying24 info42 rfl (by decide) (by omega) (.slice Ao12 x7_1.length co12) x7_1 (⟨t347, t356⟩ : S42) [.slice Ao31 t347.length co31, .slice Ao30 t356.length co30] (fun k_ => (w.heap.size ≤ k_) ∧ k_ ≠ gb340) (fun k_ => some k_ = (.slice Ao31 t347.length co31 : Value).ownBlock ∨ some k_ = (.slice Ao30 t356.length co30 : Value).ownBlock) rfl rfl ?aP (fun k_ hk_ => hk_.elim (fun h_ => ((zF (ok' := fun k_ => ((fun k_ => (w.heap.size ≤ k_) ∧ k_ ≠ gb340)) k_ ∧ oB (.slice Ao12 x7_1.length co12) k_) (Kd.R_types (Kd.R_apart' (HO349.out) (Kd.S_typed HO_7.out) (by decide)) BK340.out (by decide)) (fun k_ hk => ⟨⟨hk.1.1.1, hk.2⟩, hk.1.2⟩))).1 k_ h_.symm) (fun h_ => ((zF (ok' := fun k_ => ((fun k_ => (w.heap.size ≤ k_) ∧ k_ ≠ gb340)) k_ ∧ oB (.slice Ao12 x7_1.length co12) k_) (Kd.R_types (Kd.R_apart' (HO358.out) (Kd.S_typed HO_7.out) (by decide)) BK340.out (by decide)) (fun k_ hk => ⟨⟨hk.1.1.1.1, hk.2⟩, hk.1.2⟩))).1 k_ h_.symm)) ?aF ?aO ?aB ?aS ?aL ?_
       (case aP => exact k42_mkM _ _ _ (⟨t347, t356⟩ : S42) (zF (Kd.R_tight rfl (zF (ok' := fun k_ => ((fun k_ => (w.heap.size ≤ k_) ∧ k_ ≠ gb340)) k_ ∧ oB (.slice Ao12 x7_1.length co12) k_) (Kd.R_types (Kd.R_apart' (HO349.out) (Kd.S_typed HO_7.out) (by decide)) BK340.out (by decide)) (fun k_ hk => ⟨⟨hk.1.1.1, hk.2⟩, hk.1.2⟩))) (fun _ h_ => Or.inl h_)) (zF (Kd.R_tight rfl (zF (ok' := fun k_ => ((fun k_ => (w.heap.size ≤ k_) ∧ k_ ≠ gb340)) k_ ∧ oB (.slice Ao12 x7_1.length co12) k_) (Kd.R_types (Kd.R_apart' (HO358.out) (Kd.S_typed HO_7.out) (by decide)) BK340.out (by decide)) (fun k_ hk => ⟨⟨hk.1.1.1.1, hk.2⟩, hk.1.2⟩))) (fun _ h_ => Or.inr (h_))))
       (case aB => exact (kB HB))
       (case aF => exact (fun k_ hk => ⟨(Nat.le_trans (below_size (kB HB)) hk), Kd.freshB (g := gb340) (o := .cells #[.slice A339_0 ((rd_T42 l0 x12_1).f0).length c339_0, .slice A339_1 ((rd_T42 l0 x12_1).f1).length c339_1] 42 (0, 0)) (kM BK340) k_ hk⟩))
       (case aO => exact (mS HO_7 (fun k_ hk => ⟨⟨hk.1.1, hk.1.2.2⟩, fun e_ => e_.elim (fun h_ => hk.1.2.1 h_) (fun h_ => hk.2 h_)⟩)))
       (case aS => exact (below_size (kB HB)))
       (case aL => have := LMc9.out; omega)
       intro v360 w32 ho hb hg hat
       rw [← Ny359.out] at ho
       have n0_ := yD (Kd.V_afterv (ok := (fun k_ => (P0_ k_ ∨ w.heap.size ≤ k_) ∧ oB v345 k_ ∧ oB (.slice Ao31 t347.length co31) k_ ∧ oB (.slice Ao28 y353.length co28) k_ ∧ oB (.slice Ao30 t356.length co30) k_ ∧ k_ ≠ gb340)) (mV HO_10 (fun _ hk => ⟨⟨hk.1.1, ⟨hk.1.2.1, ⟨hk.1.2.2.1, ⟨hk.1.2.2.2.1, ⟨hk.2, hk.1.2.2.2.2.2⟩⟩⟩⟩⟩, hk.1.2.2.2.2.1⟩)) hg hat)
       have n1_ := yD (Kd.V_afterv (ok := (fun k_ => (P0_ k_ ∨ w.heap.size ≤ k_) ∧ oB v345 k_ ∧ oB (.slice Ao31 t347.length co31) k_ ∧ oB (.slice Ao28 y353.length co28) k_ ∧ oB (.slice Ao30 t356.length co30) k_ ∧ k_ ≠ gb340)) (mV HL339_0 (fun _ hk => ⟨⟨hk.1.1, ⟨hk.1.2.1, ⟨hk.1.2.2.1, ⟨hk.1.2.2.2.1, ⟨hk.2, hk.1.2.2.2.2.2⟩⟩⟩⟩⟩, hk.1.2.2.2.2.1⟩)) hg hat)
       have n2_ := yD (Kd.V_afterv (ok := (fun k_ => (P0_ k_ ∨ w.heap.size ≤ k_) ∧ oB v345 k_ ∧ oB (.slice Ao31 t347.length co31) k_ ∧ oB (.slice Ao28 y353.length co28) k_ ∧ oB (.slice Ao30 t356.length co30) k_ ∧ k_ ≠ gb340)) (mV HL339_1 (fun _ hk => ⟨⟨hk.1.1, ⟨hk.1.2.1, ⟨hk.1.2.2.1, ⟨hk.1.2.2.2.1, ⟨hk.2, hk.1.2.2.2.2.2⟩⟩⟩⟩⟩, hk.1.2.2.2.2.1⟩)) hg hat)
       have n3_ := yD (blk_grown (g := gb340) (o := .cells #[.slice A339_0 ((rd_T42 l0 x12_1).f0).length c339_0, .slice A339_1 ((rd_T42 l0 x12_1).f1).length c339_1] 42 (0, 0)) (kM BK340) hg (Kd.S_away HO_7.out (fun _ hk => hk.1.2.2)))
       have n4_ := yD (Kd.N_afterv (ok := (fun k_ => (P0_ k_ ∨ w.heap.size ≤ k_) ∧ oB (.slice Ao31 t347.length co31) k_ ∧ oB (.slice Ao28 y353.length co28) k_ ∧ oB (.slice Ao30 t356.length co30) k_ ∧ k_ ≠ gb340)) (mN HO346 (fun _ hk => ⟨⟨hk.1.1, ⟨hk.1.2.1, ⟨hk.1.2.2.1, ⟨hk.2, hk.1.2.2.2.2⟩⟩⟩⟩, hk.1.2.2.2.1⟩)) hg hat)
       have n5_ := yD (Kd.N_afterv (ok := (fun k_ => (P0_ k_ ∨ w.heap.size ≤ k_) ∧ oB v345 k_ ∧ oB (.slice Ao31 t347.length co31) k_ ∧ oB (.slice Ao30 t356.length co30) k_ ∧ k_ ≠ gb340)) (mN HO355 (fun _ hk => ⟨⟨hk.1.1, ⟨hk.1.2.1, ⟨hk.1.2.2.1, ⟨hk.2, hk.1.2.2.2.2⟩⟩⟩⟩, hk.1.2.2.2.1⟩)) hg hat)
       have n6_ := yD (hb)
       have n7_ := yD (ho)
       clear HO_10 HL339_0 HL339_1 BK340 HO346 HO355 HB HO_7 HO349 HO358; have HO_10 := n0_; have HL339_0 := n1_; have HL339_1 := n2_; have BK340 := n3_; have HO346 := n4_; have HO355 := n5_; have HB := n6_; have HO361 := n7_; clear n0_ n1_ n2_ n3_ n4_ n5_ n6_ n7_ ho hb hg hat
       refine hK.out _ _ ⟨(yG BK340.out 0).trans rfl, (yG BK340.out 1).trans rfl⟩ (fun hHeld => ?_)
       clear hK K
       refine norm_ (a' := ?_) ?_ ?_
       rotate_left
       · show Act.put _ (some 31) _ = _
         simp only [Act.put, zH, zI, zJ, i64_w, i32_w]
         rfl
       refine qA 16 7 (bz 17 131071) HT_ ?_
       refine done_ (done_of HT_.out (by kernel_rfl)) ?_
       try go_wp2
       go_roundg k1
       case measure => have := HK1.out; omega
       case rel => exact ⟨(y359), (wrap64 (x12_1 + 1)), (by first | rfl | (simp; done) | (simp [*]; done)), H', ⟨by have := HK1.out; omega⟩, ⟨mS HO361 (fun _ hk => hk.1)⟩, ⟨mV HO_10 (fun _ hk => ⟨hk.1.1, hk.2⟩)⟩, ⟨kR0 HB⟩⟩
      · rw [if_neg c9] at H
        exact absurd H (by simp)
     · rw [if_neg c6] at H
       exact absurd H (by simp)
    · rw [if_neg c5] at H
      exact absurd H (by simp)
   · rw [if_neg c4] at H
     have c4b0 : decide (x12_1 < (l0.length : Int)) = false := zS c4; clear c4; obtain rfl := Option.some.inj H
     go_wp2
     go_ret
     exact ⟨_, by first | rfl | (simp <;> rfl) | (simp [*] <;> rfl), kS HO_7, kR1 HB⟩

end Go.Proofs.Ytdiaebjbiddefaa.PFnExactSubtractBoxes
