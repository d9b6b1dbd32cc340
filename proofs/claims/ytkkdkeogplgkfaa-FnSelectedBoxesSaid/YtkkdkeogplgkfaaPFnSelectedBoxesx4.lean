/- Each function here comes to its plain form. It holds without a condition. -/
import Derived.Test.YtkkdkeogplgkfaaPFnSelectedBoxesx0
import Derived.Test.YtkkdkeogplgkfaaPFnSelectedBoxesx3
namespace Go.Proofs.Ytkkdkeogplgkfaa.PFnSelectedBoxes
open Go.RowKit Go.Proofs.YtkkdkeogplgkfaaW.PrintWords Go.Proofs.YtkkdkeogplgkfaaW.PrintLast Go.Proofs.YtkkdkeogplgkfaaW.PrintMore
attribute [local go_sem] max2_int min2_int max_two min_two max_three min_three max_four min_four
set_option linter.unusedVariables false
set_option linter.unusedSimpArgs false
set_option maxHeartbeats 8000000
set_option maxRecDepth 100000
def impl_prefixed.l0 : Nat → Int → Int → List (S33) → List (S33) → Int → Int → Option ((List (S33)))
 | 0, _, _, _, _, _, _ => none
 | k + 1, x1, x2, x7, x10, x11, x12 => if x12 < x11 then (if 0 ≤ x12 then (if x12 < (x10.length : Int) then ((aY.f k (([(([x1] : List Int)), (aA x10 x12).f0] : List (List Int)))).bind fun t427 => ((aY.f k (([(([x2] : List Int)), (aA x10 x12).f1] : List (List Int)))).bind fun t436 => (if x7.length < 2932031007402 then (impl_prefixed.l0 k x1 x2 (x7 ++ [(⟨t427, t436⟩ : S33)]) x10 x11 (wrap64 (x12 + 1))) else (none)))) else (none)) else (none)) else (some x7)
def impl_prefixed.f (k : Nat) (l0 : List (S33)) (a1 a2 : Int) : Option ((List (S33))) := impl_prefixed.l0 k a1 a2 ([] : List (S33)) l0 (l0.length : Int) 0
def impl_prefixed.T5 : Bool × List (List Nat × List Nat) := (true, [([], []), ([], []), ([1], [1]), ([], []), ([3], [3]), ([2, 4], [2, 4]), ([5], [5]), ([], []), ([7], [7]), ([], []), ([9], [9]), ([8, 10], [8, 10]), ([11, 6], [11]), ([6, 12], [6, 12]), ([13], [13]), ([0, 14, 12], [0, 14]), ([15, 15, 0, 1, 2, 3, 4, 5, 6, 7, 8, 9, 10, 11, 12, 13, 14, 15], [0, 15])])
def impl_prefixed.B5 : List Nat := [0, 0, 2, 0, 8, 30, 62, 0, 128, 0, 512, 1920, 4094, 8190, 16382, 32767, 65535]
theorem impl_prefixed.tab5 : rtab .any (opsOf Try.f52 5) = impl_prefixed.T5 := by kernel_rfl
theorem impl_prefixed.bits5 : waitsOk impl_prefixed.T5.2 impl_prefixed.B5 = true := by kernel_rfl
theorem impl_prefixed.calls (k : Nat) (P0_ : Nat → Prop) (A0 : Option Addr) (c0 : Nat) (l0 : List (S33)) (a1 : Int) (a2 : Int) (r : List (S33)) (w : World) (hs0 : Kd.V k33 33 w w.heap.size (fun k_ => P0_ k_) (.slice A0 l0.length c0) l0) (h : impl_prefixed.f k l0 a1 a2 = some r) :
 Calls Try.prog 52 #[.slice A0 l0.length c0, .int .i64 a1, .int .i64 a2] w fun e w' => ∃ v0_ : Value, e = .returned (v0_) ∧ Kd.S k33 33 w' w.heap.size (fun k_ => (w.heap.size ≤ k_)) v0_ r ∧ Below w.heap.size w w' := by
 have hu33 := Try.underlying33
 have HO0 := yD (show Kd.V k33 33 w w.heap.size (fun k_ => (P0_ k_ ∨ w.heap.size ≤ k_)) (.slice A0 l0.length c0) l0 from Kd.V_mono hs0 (fun k_ hk => .inl hk))
 have HB := yD (Below.refl w.heap.size w)
 unfold impl_prefixed.f at h
 have H := h
 clear h
 have H' := yD H
 clear H; go_enter Try.func52, Try.ntmps52
 go_wp2
 go_loopg [7, 12] k (fun kq v7 v12 w' => ∃ (x7_1 : List (S33)) (x12_1 : Int), v12 = .int .i64 x12_1 ∧ aC (impl_prefixed.l0 kq a1 a2 x7_1 l0 (l0.length : Int) x12_1 = some r) ∧ aC (kq ≤ k) ∧ aC (Kd.S k33 33 w' w.heap.size (fun k_ => (w.heap.size ≤ k_)) v7 x7_1) ∧ aC (Kd.V k33 33 w' w.heap.size (fun k_ => (P0_ k_ ∨ w.heap.size ≤ k_) ∧ oB v7 k_) (.slice A0 l0.length c0) l0) ∧ aC (Below w.heap.size w w'))
 case atStart => exact ⟨(([] : List (S33))), (0), kF, H', ⟨Nat.le_refl _⟩, ⟨by first | exact Kd.S_nil _ _ _ _ _ | exact Kd.N_nil _ _ _ _ _ | exact Kd.V_nil _ _ _ _ _ | exact Kd.Q_nil _ _ _ _ _ | exact Kd.R_nil _ _ _ _ _⟩, ⟨mV HO0 (fun _ hk => ⟨hk, (by simp [oB, Value.ownBlock])⟩)⟩, ⟨kR0 HB⟩⟩
 case round =>
  clear H'
  obtain ⟨x7_1, x12_1, rfl, HA, HK1, HO_7, HO_10, HB⟩ := hrel
  cases gk with
  | zero => exact absurd HA.out (by simp [impl_prefixed.l0])
  | succ k1 =>
   have H := HA.out; clear HA
   simp only [impl_prefixed.l0] at H
   replace H := sG H; rcases H with ⟨c4b0, H⟩ | ⟨c4b0, H⟩
   · obtain rfl := sJ H
     go_wp2
     go_ret
     exact ⟨_, kE, kS HO_7, kR0 HB⟩
   replace ⟨c5b0, H⟩ := sE H
   replace ⟨c6b0, H⟩ := sE H
   generalize hy421 : ((([a1] : List Int)) : List Int) = y421 at H
   have Ny421 := yD hy421.symm
   clear hy421
   generalize hy424 : ((([y421, (aA l0 x12_1).f0] : List (List Int))) : List (List Int)) = y424 at H
   have Ny424 := yD hy424.symm
   clear hy424
   replace ⟨t427, A7, H⟩ := sV H
   generalize hy430 : ((([a2] : List Int)) : List Int) = y430 at H
   have Ny430 := yD hy430.symm
   clear hy430
   generalize hy433 : ((([y430, (aA l0 x12_1).f1] : List (List Int))) : List (List Int)) = y433 at H
   have Ny433 := yD hy433.symm
   clear hy433
   replace ⟨t436, A8, H⟩ := sV H
   replace ⟨LMc9, H⟩ := sM H
   generalize hy439 : ((x7_1 ++ [(⟨t427, t436⟩ : S33)]) : List (S33)) = y439 at H
   have Ny439 := yD hy439.symm
   clear hy439
   have H' := yD H
   clear H
   have p419 : 0 ≤ (x12_1 : Int) := zP (by assumption)
   have q419 : x12_1 < (l0.length : Int) := zP (by assumption)
   obtain ⟨ad419, A419_0, c419_0, A419_1, c419_1, e419, hx419_0, hx419_1, HC419_0, HR419_0, HC419_1, HR419_1⟩ := at_T33 (Kd.cV HO_10.out).2.2 x12_1 p419 q419
   cases e419
   obtain ⟨ce419, hce419, hMe419, hcc419⟩ := Kd.V_get HO_10.out z33 x12_1 p419 (by first | exact q419 | exact zP (by assumption) | (have e_ := (Kd.cV HO_10.out).1; omega))
   obtain ⟨ua419_0, uc419_0, ua419_1, uc419_1, rfl, ul419_0, ge419_0, ul419_1, ge419_1⟩ := k33_openF hMe419
   have hv419_0 := hcc419 0 _ rfl
   rw [Nat.add_zero] at hv419_0
   replace hv419_0 := Option.some.inj (hv419_0.symm.trans hx419_0)
   injection hv419_0 with hva_ hvn_ hvc_
   rw [hva_] at ge419_0
   rw [hvc_] at ul419_0
   have HL419_0 := yD (show Kd.V (Kd.int .i64) 2 _ w.heap.size _ _ ((aA l0 x12_1).f0) from Kd.V_mk ul419_0 ge419_0)
   clear hva_ hvn_ hvc_ ge419_0 ul419_0
   have hv419_1 := hcc419 1 _ rfl
   rw [add_field _ _ 1 (by omega)] at hv419_1
   replace hv419_1 := Option.some.inj (hv419_1.symm.trans hx419_1)
   injection hv419_1 with hva_ hvn_ hvc_
   rw [hva_] at ge419_1
   rw [hvc_] at ul419_1
   have HL419_1 := yD (show Kd.V (Kd.int .i64) 2 _ w.heap.size _ _ ((aA l0 x12_1).f1) from Kd.V_mk ul419_1 ge419_1)
   clear hva_ hvn_ hvc_ ge419_1 ul419_1 hcc419 hce419
   replace p419 := eq_true p419; replace q419 := eq_true q419
   try go_wp2_with (first | (refine gD 9 ?_; refine bE (N := 9) (cs := #[.slice none 0 0, .slice none 0 0]) (t := 33) ?_; intro gb420 hg w10 hbox hb; replace HO_7 := yD (Kd.S_below (Kd.S_elderB (kS HO_7) gb420 (Nat.le_of_eq hg.symm)) hb); replace HO_10 := yD (Kd.V_below (Kd.V_elderB (kU HO_10) gb420 (Nat.le_of_eq hg.symm)) hb); replace HL419_0 := yD (Kd.V_below (Kd.V_elderB (kU HL419_0) gb420 (Nat.le_of_eq hg.symm)) hb); replace HL419_1 := yD (Kd.V_below (Kd.V_elderB (kU HL419_1) gb420 (Nat.le_of_eq hg.symm)) hb); replace HR419_0 := yD (yY (by repeat (first | (with_reducible exact HR419_0.out) | (with_reducible first | refine yV ?_ _ | refine yW ?_ _ | refine yX ?_) | exact HR419_0.out)) hb); replace HR419_1 := yD (yY (by repeat (first | (with_reducible exact HR419_1.out) | (with_reducible first | refine yV ?_ _ | refine yW ?_ _ | refine yX ?_) | exact HR419_1.out)) hb); have BK420 := yD (hbox); have GW420 := sW hg HB; replace HB := zX HB hb; clear hb hbox hg; have := cf2_ BK420.out; obtain ⟨Ao12, co12, eo12⟩ := Kd.S_slice HO_7.out; subst eo12))
   have n0_ : aC (Kd.S k33 33 ((w10.setCell ⟨gb420, 0, none⟩ (.slice A419_0 ((aA l0 x12_1).f0).length c419_0)).setCell ⟨gb420, 1, none⟩ (.slice A419_1 ((aA l0 x12_1).f1).length c419_1)) w.heap.size (fun k_ => (w.heap.size ≤ k_) ∧ k_ ≠ gb420) (.slice Ao12 x7_1.length co12) x7_1) := ⟨by (with_reducible repeat (first | apply yS | apply yT | apply yU)); exact Kd.S_mono (Kd.S_far (p := ⟨gb420, 1, none⟩) (Kd.S_far (p := ⟨gb420, 0, none⟩) (Kd.S_mono HO_7.out (fun k_ hk => (⟨hk, hk.2⟩ : _ ∧ k_ ≠ gb420))) (fun _ hk => hk.2) (.slice A419_0 ((aA l0 x12_1).f0).length c419_0)) (fun _ hk => hk.2) (.slice A419_1 ((aA l0 x12_1).f1).length c419_1)) (fun _ hk => ⟨hk.1.1, hk.1.2⟩)⟩
   have n1_ : aC (Kd.V k33 33 ((w10.setCell ⟨gb420, 0, none⟩ (.slice A419_0 ((aA l0 x12_1).f0).length c419_0)).setCell ⟨gb420, 1, none⟩ (.slice A419_1 ((aA l0 x12_1).f1).length c419_1)) w.heap.size (fun k_ => (P0_ k_ ∨ w.heap.size ≤ k_) ∧ oB (.slice Ao12 x7_1.length co12) k_ ∧ k_ ≠ gb420) (.slice (some ad419) l0.length c0) l0) := ⟨by (with_reducible repeat (first | apply Kd.V_alloc | apply Kd.V_drewN | apply Kd.V_drew)); exact Kd.V_mono (Kd.V_far (p := ⟨gb420, 1, none⟩) (Kd.V_far (p := ⟨gb420, 0, none⟩) (Kd.V_mono HO_10.out (fun k_ hk => (⟨hk, hk.2⟩ : _ ∧ k_ ≠ gb420))) (fun _ hk => hk.2) (.slice A419_0 ((aA l0 x12_1).f0).length c419_0)) (fun _ hk => hk.2) (.slice A419_1 ((aA l0 x12_1).f1).length c419_1)) (fun _ hk => ⟨hk.1.1.1, ⟨hk.1.1.2, hk.1.2⟩⟩)⟩
   have n2_ : aC (Kd.V (Kd.int .i64) 2 ((w10.setCell ⟨gb420, 0, none⟩ (.slice A419_0 ((aA l0 x12_1).f0).length c419_0)).setCell ⟨gb420, 1, none⟩ (.slice A419_1 ((aA l0 x12_1).f1).length c419_1)) w.heap.size (fun k_ => (P0_ k_ ∨ w.heap.size ≤ k_) ∧ oB (.slice Ao12 x7_1.length co12) k_ ∧ k_ ≠ gb420) (.slice A419_0 ((aA l0 x12_1).f0).length c419_0) ((aA l0 x12_1).f0)) := ⟨by (with_reducible repeat (first | apply Kd.V_alloc | apply Kd.V_drewN | apply Kd.V_drew)); exact Kd.V_mono (Kd.V_far (p := ⟨gb420, 1, none⟩) (Kd.V_far (p := ⟨gb420, 0, none⟩) (Kd.V_mono HL419_0.out (fun k_ hk => (⟨hk, hk.2⟩ : _ ∧ k_ ≠ gb420))) (fun _ hk => hk.2) (.slice A419_0 ((aA l0 x12_1).f0).length c419_0)) (fun _ hk => hk.2) (.slice A419_1 ((aA l0 x12_1).f1).length c419_1)) (fun _ hk => ⟨hk.1.1.1, ⟨hk.1.1.2, hk.1.2⟩⟩)⟩
   have n3_ : aC (Kd.V (Kd.int .i64) 2 ((w10.setCell ⟨gb420, 0, none⟩ (.slice A419_0 ((aA l0 x12_1).f0).length c419_0)).setCell ⟨gb420, 1, none⟩ (.slice A419_1 ((aA l0 x12_1).f1).length c419_1)) w.heap.size (fun k_ => (P0_ k_ ∨ w.heap.size ≤ k_) ∧ oB (.slice Ao12 x7_1.length co12) k_ ∧ k_ ≠ gb420) (.slice A419_1 ((aA l0 x12_1).f1).length c419_1) ((aA l0 x12_1).f1)) := ⟨by (with_reducible repeat (first | apply Kd.V_alloc | apply Kd.V_drewN | apply Kd.V_drew)); exact Kd.V_mono (Kd.V_far (p := ⟨gb420, 1, none⟩) (Kd.V_far (p := ⟨gb420, 0, none⟩) (Kd.V_mono HL419_1.out (fun k_ hk => (⟨hk, hk.2⟩ : _ ∧ k_ ≠ gb420))) (fun _ hk => hk.2) (.slice A419_0 ((aA l0 x12_1).f0).length c419_0)) (fun _ hk => hk.2) (.slice A419_1 ((aA l0 x12_1).f1).length c419_1)) (fun _ hk => ⟨hk.1.1.1, ⟨hk.1.1.2, hk.1.2⟩⟩)⟩
   have n4_ : aC (((w10.setCell ⟨gb420, 0, none⟩ (.slice A419_0 ((aA l0 x12_1).f0).length c419_0)).setCell ⟨gb420, 1, none⟩ (.slice A419_1 ((aA l0 x12_1).f1).length c419_1)).heap[gb420]? = some (.cells #[.slice A419_0 ((aA l0 x12_1).f0).length c419_0, .slice A419_1 ((aA l0 x12_1).f1).length c419_1] 33 (0, 0))) := ⟨by (with_reducible repeat (first | refine yM ?_ _ | refine yO ?_ | refine yN ?_ _)); exact bA2_ BK420.out⟩
   have n5_ : aC (Below w.heap.size w ((w10.setCell ⟨gb420, 0, none⟩ (.slice A419_0 ((aA l0 x12_1).f0).length c419_0)).setCell ⟨gb420, 1, none⟩ (.slice A419_1 ((aA l0 x12_1).f1).length c419_1))) := ⟨kR1 HB⟩
   generalize ((w10.setCell ⟨gb420, 0, none⟩ (.slice A419_0 ((aA l0 x12_1).f0).length c419_0)).setCell ⟨gb420, 1, none⟩ (.slice A419_1 ((aA l0 x12_1).f1).length c419_1)) = w13 at n0_ n1_ n2_ n3_ n4_ n5_ ⊢
   have HO_7 := n0_; have HO_10 := n1_; have HL419_0 := n2_; have HL419_1 := n3_; have BK420 := n4_; have HB := n5_; clear n0_ n1_ n2_ n3_ n4_ n5_
   replace HO_7 := yD (yU HO_7.out); replace HO_10 := yD (Kd.V_drew HO_10.out); replace HL419_0 := yD (Kd.V_drew HL419_0.out); replace HL419_1 := yD (Kd.V_drew HL419_1.out); replace BK420 := yD (yO BK420.out); replace HB := yD (yP HB.out)
   refine s0 (m := 17) (S := fun w' => cl w' gb420 0 (.slice A419_0 ((aA l0 x12_1).f0).length c419_0) ∧ cl w' gb420 1 (.slice A419_1 ((aA l0 x12_1).f1).length c419_1)) impl_prefixed.tab5 impl_prefixed.bits5 (cz2 BK420.out) fun hHeld HT_ HW_ => ?_
   generalize w13.drew = w14 at HO_7 HO_10 HL419_0 HL419_1 BK420 HB hHeld ⊢
   refine qa 17 0 1 ?_; refine qa 17 1 3 ?_; refine qa 17 3 11 ?_; refine qa 17 7 139 ?_; refine qa 17 9 651 ?_; refine qc 17 4 667 hHeld ?_; refine qc 17 10 1691 hHeld ?_
   refine join_ (σ := Value × Value × Value × Value × Value) 5 #[true, true, true, true, true, true, true, true, true, true, true, true, false, false, false, false, false] (fun s_ => [(18, s_.1), (21, s_.2.1), (22, s_.2.2.1), (24, s_.2.2.2.1), (27, s_.2.2.2.2)]) (fun s_ w' => (w'.cell? ⟨gb420, 0, none⟩ = some (.slice A419_0 ((aA l0 x12_1).f0).length c419_0) ∧ w'.cell? ⟨gb420, 1, none⟩ = some (.slice A419_1 ((aA l0 x12_1).f1).length c419_1)) ∧ (Kd.V (Kd.int .i64) 2 w' w.heap.size (fun k_ => (P0_ k_ ∨ w.heap.size ≤ k_) ∧ some k_ ≠ (s_.2.1 : Value).ownBlock ∧ some k_ ≠ (s_.2.2.1 : Value).ownBlock ∧ some k_ ≠ (s_.2.2.2.2 : Value).ownBlock ∧ oB (.slice Ao12 x7_1.length co12) k_ ∧ k_ ≠ gb420) (.slice A419_0 ((aA l0 x12_1).f0).length c419_0) ((aA l0 x12_1).f0)) ∧ (Kd.V (Kd.int .i64) 2 w' w.heap.size (fun k_ => (P0_ k_ ∨ w.heap.size ≤ k_) ∧ some k_ ≠ (s_.2.1 : Value).ownBlock ∧ some k_ ≠ (s_.2.2.1 : Value).ownBlock ∧ some k_ ≠ (s_.2.2.2.2 : Value).ownBlock ∧ oB (.slice Ao12 x7_1.length co12) k_ ∧ k_ ≠ gb420) (.slice A419_1 ((aA l0 x12_1).f1).length c419_1) ((aA l0 x12_1).f1)) ∧ (Kd.N (Kd.slice 2 (Kd.int .i64)) 23 w' w.heap.size (fun k_ => (P0_ k_ ∨ w.heap.size ≤ k_) ∧ some k_ ≠ (s_.2.2.1 : Value).ownBlock ∧ some k_ ≠ (s_.2.2.2.2 : Value).ownBlock ∧ oB (.slice Ao12 x7_1.length co12) k_ ∧ k_ ≠ gb420) s_.2.1 y424) ∧ (Kd.R (Kd.int .i64) 2 w' w.heap.size (fun k_ => (w.heap.size ≤ k_)) s_.2.2.1 t427) ∧ (Kd.N (Kd.slice 2 (Kd.int .i64)) 23 w' w.heap.size (fun k_ => (P0_ k_ ∨ w.heap.size ≤ k_) ∧ some k_ ≠ (s_.2.1 : Value).ownBlock ∧ some k_ ≠ (s_.2.2.1 : Value).ownBlock ∧ oB (.slice Ao12 x7_1.length co12) k_ ∧ k_ ≠ gb420) s_.2.2.2.2 y433) ∧ (Kd.V k33 33 w' w.heap.size (fun k_ => (P0_ k_ ∨ w.heap.size ≤ k_) ∧ some k_ ≠ (s_.2.1 : Value).ownBlock ∧ some k_ ≠ (s_.2.2.1 : Value).ownBlock ∧ some k_ ≠ (s_.2.2.2.2 : Value).ownBlock ∧ oB (.slice Ao12 x7_1.length co12) k_ ∧ k_ ≠ gb420) (.slice (some ad419) l0.length c0) l0) ∧ (Kd.S k33 33 w' w.heap.size (fun k_ => (w.heap.size ≤ k_) ∧ some k_ ≠ (s_.2.2.1 : Value).ownBlock ∧ k_ ≠ gb420) (.slice Ao12 x7_1.length co12) x7_1) ∧ (w'.heap[gb420]? = some (.cells #[.slice A419_0 ((aA l0 x12_1).f0).length c419_0, .slice A419_1 ((aA l0 x12_1).f1).length c419_1] 33 (0, 0))) ∧ (Below w.heap.size w w')) ?_ ?_
   rotate_left
   ·
    intro hJ2_5_6_8_11
    refine join_ (σ := Value × Value × Value × Value) 6 #[true, true, true, true, true, true, true, true, true, true, true, false, false, false, false, false, false] (fun s_ => [(18, s_.1), (21, s_.2.1), (22, s_.2.2.1), (24, s_.2.2.2)]) (fun s_ w' => (w'.cell? ⟨gb420, 0, none⟩ = some (.slice A419_0 ((aA l0 x12_1).f0).length c419_0) ∧ w'.cell? ⟨gb420, 1, none⟩ = some (.slice A419_1 ((aA l0 x12_1).f1).length c419_1)) ∧ (Kd.V (Kd.int .i64) 2 w' w.heap.size (fun k_ => (P0_ k_ ∨ w.heap.size ≤ k_) ∧ some k_ ≠ (s_.2.1 : Value).ownBlock ∧ some k_ ≠ (s_.2.2.1 : Value).ownBlock ∧ some k_ ≠ (s_.2.2.2 : Value).ownBlock ∧ oB (.slice Ao12 x7_1.length co12) k_ ∧ k_ ≠ gb420) (.slice A419_0 ((aA l0 x12_1).f0).length c419_0) ((aA l0 x12_1).f0)) ∧ (Kd.V (Kd.int .i64) 2 w' w.heap.size (fun k_ => (P0_ k_ ∨ w.heap.size ≤ k_) ∧ some k_ ≠ (s_.2.1 : Value).ownBlock ∧ some k_ ≠ (s_.2.2.1 : Value).ownBlock ∧ some k_ ≠ (s_.2.2.2 : Value).ownBlock ∧ oB (.slice Ao12 x7_1.length co12) k_ ∧ k_ ≠ gb420) (.slice A419_1 ((aA l0 x12_1).f1).length c419_1) ((aA l0 x12_1).f1)) ∧ (Kd.N (Kd.slice 2 (Kd.int .i64)) 23 w' w.heap.size (fun k_ => (P0_ k_ ∨ w.heap.size ≤ k_) ∧ some k_ ≠ (s_.2.2.1 : Value).ownBlock ∧ some k_ ≠ (s_.2.2.2 : Value).ownBlock ∧ oB (.slice Ao12 x7_1.length co12) k_ ∧ k_ ≠ gb420) s_.2.1 y424) ∧ (Kd.R (Kd.int .i64) 2 w' w.heap.size (fun k_ => (w.heap.size ≤ k_) ∧ some k_ ≠ (s_.2.2.2 : Value).ownBlock) s_.2.2.1 t427) ∧ (Kd.R (Kd.int .i64) 2 w' w.heap.size (fun k_ => (w.heap.size ≤ k_) ∧ some k_ ≠ (s_.2.2.1 : Value).ownBlock) s_.2.2.2 y430) ∧ (Kd.V k33 33 w' w.heap.size (fun k_ => (P0_ k_ ∨ w.heap.size ≤ k_) ∧ some k_ ≠ (s_.2.1 : Value).ownBlock ∧ some k_ ≠ (s_.2.2.1 : Value).ownBlock ∧ some k_ ≠ (s_.2.2.2 : Value).ownBlock ∧ oB (.slice Ao12 x7_1.length co12) k_ ∧ k_ ≠ gb420) (.slice (some ad419) l0.length c0) l0) ∧ (Kd.S k33 33 w' w.heap.size (fun k_ => (w.heap.size ≤ k_) ∧ some k_ ≠ (s_.2.2.1 : Value).ownBlock ∧ some k_ ≠ (s_.2.2.2 : Value).ownBlock ∧ k_ ≠ gb420) (.slice Ao12 x7_1.length co12) x7_1) ∧ (w'.heap[gb420]? = some (.cells #[.slice A419_0 ((aA l0 x12_1).f0).length c419_0, .slice A419_1 ((aA l0 x12_1).f1).length c419_1] 33 (0, 0))) ∧ (Below w.heap.size w w')) ?_ ?_
    rotate_left
    ·
     intro hJ2_5_6_8
     refine join_ (σ := Value × Value × Value × Value) 6 #[true, true, true, true, true, true, false, true, true, true, true, true, false, false, false, false, false] (fun s_ => [(18, s_.1), (21, s_.2.1), (24, s_.2.2.1), (27, s_.2.2.2)]) (fun s_ w' => (w'.cell? ⟨gb420, 0, none⟩ = some (.slice A419_0 ((aA l0 x12_1).f0).length c419_0) ∧ w'.cell? ⟨gb420, 1, none⟩ = some (.slice A419_1 ((aA l0 x12_1).f1).length c419_1)) ∧ (Kd.V (Kd.int .i64) 2 w' w.heap.size (fun k_ => (P0_ k_ ∨ w.heap.size ≤ k_) ∧ some k_ ≠ (s_.2.1 : Value).ownBlock ∧ some k_ ≠ (s_.2.2.2 : Value).ownBlock ∧ oB (.slice Ao12 x7_1.length co12) k_ ∧ k_ ≠ gb420) (.slice A419_0 ((aA l0 x12_1).f0).length c419_0) ((aA l0 x12_1).f0)) ∧ (Kd.V (Kd.int .i64) 2 w' w.heap.size (fun k_ => (P0_ k_ ∨ w.heap.size ≤ k_) ∧ some k_ ≠ (s_.2.1 : Value).ownBlock ∧ some k_ ≠ (s_.2.2.2 : Value).ownBlock ∧ oB (.slice Ao12 x7_1.length co12) k_ ∧ k_ ≠ gb420) (.slice A419_1 ((aA l0 x12_1).f1).length c419_1) ((aA l0 x12_1).f1)) ∧ (Kd.N (Kd.slice 2 (Kd.int .i64)) 23 w' w.heap.size (fun k_ => (P0_ k_ ∨ w.heap.size ≤ k_) ∧ some k_ ≠ (s_.2.2.2 : Value).ownBlock ∧ oB (.slice Ao12 x7_1.length co12) k_ ∧ k_ ≠ gb420) s_.2.1 y424) ∧ (Kd.N (Kd.slice 2 (Kd.int .i64)) 23 w' w.heap.size (fun k_ => (P0_ k_ ∨ w.heap.size ≤ k_) ∧ some k_ ≠ (s_.2.1 : Value).ownBlock ∧ oB (.slice Ao12 x7_1.length co12) k_ ∧ k_ ≠ gb420) s_.2.2.2 y433) ∧ (Kd.V k33 33 w' w.heap.size (fun k_ => (P0_ k_ ∨ w.heap.size ≤ k_) ∧ some k_ ≠ (s_.2.1 : Value).ownBlock ∧ some k_ ≠ (s_.2.2.2 : Value).ownBlock ∧ oB (.slice Ao12 x7_1.length co12) k_ ∧ k_ ≠ gb420) (.slice (some ad419) l0.length c0) l0) ∧ (Kd.S k33 33 w' w.heap.size (fun k_ => (w.heap.size ≤ k_) ∧ k_ ≠ gb420) (.slice Ao12 x7_1.length co12) x7_1) ∧ (w'.heap[gb420]? = some (.cells #[.slice A419_0 ((aA l0 x12_1).f0).length c419_0, .slice A419_1 ((aA l0 x12_1).f1).length c419_1] 33 (0, 0))) ∧ (Below w.heap.size w w')) ?_ ?_
     rotate_left
     ·
      intro hJ2_5_8_11
      refine join_ (σ := Value × Value × Value) 7 #[true, true, true, true, true, true, true, true, false, true, true, false, false, false, false, false, false] (fun s_ => [(18, s_.1), (21, s_.2.1), (22, s_.2.2)]) (fun s_ w' => (w'.cell? ⟨gb420, 0, none⟩ = some (.slice A419_0 ((aA l0 x12_1).f0).length c419_0) ∧ w'.cell? ⟨gb420, 1, none⟩ = some (.slice A419_1 ((aA l0 x12_1).f1).length c419_1)) ∧ (Kd.V (Kd.int .i64) 2 w' w.heap.size (fun k_ => (P0_ k_ ∨ w.heap.size ≤ k_) ∧ some k_ ≠ (s_.2.1 : Value).ownBlock ∧ some k_ ≠ (s_.2.2 : Value).ownBlock ∧ oB (.slice Ao12 x7_1.length co12) k_ ∧ k_ ≠ gb420) (.slice A419_0 ((aA l0 x12_1).f0).length c419_0) ((aA l0 x12_1).f0)) ∧ (Kd.V (Kd.int .i64) 2 w' w.heap.size (fun k_ => (P0_ k_ ∨ w.heap.size ≤ k_) ∧ some k_ ≠ (s_.2.1 : Value).ownBlock ∧ some k_ ≠ (s_.2.2 : Value).ownBlock ∧ oB (.slice Ao12 x7_1.length co12) k_ ∧ k_ ≠ gb420) (.slice A419_1 ((aA l0 x12_1).f1).length c419_1) ((aA l0 x12_1).f1)) ∧ (Kd.N (Kd.slice 2 (Kd.int .i64)) 23 w' w.heap.size (fun k_ => (P0_ k_ ∨ w.heap.size ≤ k_) ∧ some k_ ≠ (s_.2.2 : Value).ownBlock ∧ oB (.slice Ao12 x7_1.length co12) k_ ∧ k_ ≠ gb420) s_.2.1 y424) ∧ (Kd.R (Kd.int .i64) 2 w' w.heap.size (fun k_ => (w.heap.size ≤ k_)) s_.2.2 t427) ∧ (Kd.V k33 33 w' w.heap.size (fun k_ => (P0_ k_ ∨ w.heap.size ≤ k_) ∧ some k_ ≠ (s_.2.1 : Value).ownBlock ∧ some k_ ≠ (s_.2.2 : Value).ownBlock ∧ oB (.slice Ao12 x7_1.length co12) k_ ∧ k_ ≠ gb420) (.slice (some ad419) l0.length c0) l0) ∧ (Kd.S k33 33 w' w.heap.size (fun k_ => (w.heap.size ≤ k_) ∧ some k_ ≠ (s_.2.2 : Value).ownBlock ∧ k_ ≠ gb420) (.slice Ao12 x7_1.length co12) x7_1) ∧ (w'.heap[gb420]? = some (.cells #[.slice A419_0 ((aA l0 x12_1).f0).length c419_0, .slice A419_1 ((aA l0 x12_1).f1).length c419_1] 33 (0, 0))) ∧ (Below w.heap.size w w')) ?_ ?_
      rotate_left
      ·
       intro hJ2_5_6
       refine join_ (σ := Value × Value × Value) 7 #[true, true, true, true, true, true, false, true, true, true, true, false, false, false, false, false, false] (fun s_ => [(18, s_.1), (21, s_.2.1), (24, s_.2.2)]) (fun s_ w' => (w'.cell? ⟨gb420, 0, none⟩ = some (.slice A419_0 ((aA l0 x12_1).f0).length c419_0) ∧ w'.cell? ⟨gb420, 1, none⟩ = some (.slice A419_1 ((aA l0 x12_1).f1).length c419_1)) ∧ (Kd.V (Kd.int .i64) 2 w' w.heap.size (fun k_ => (P0_ k_ ∨ w.heap.size ≤ k_) ∧ some k_ ≠ (s_.2.1 : Value).ownBlock ∧ some k_ ≠ (s_.2.2 : Value).ownBlock ∧ oB (.slice Ao12 x7_1.length co12) k_ ∧ k_ ≠ gb420) (.slice A419_0 ((aA l0 x12_1).f0).length c419_0) ((aA l0 x12_1).f0)) ∧ (Kd.V (Kd.int .i64) 2 w' w.heap.size (fun k_ => (P0_ k_ ∨ w.heap.size ≤ k_) ∧ some k_ ≠ (s_.2.1 : Value).ownBlock ∧ some k_ ≠ (s_.2.2 : Value).ownBlock ∧ oB (.slice Ao12 x7_1.length co12) k_ ∧ k_ ≠ gb420) (.slice A419_1 ((aA l0 x12_1).f1).length c419_1) ((aA l0 x12_1).f1)) ∧ (Kd.N (Kd.slice 2 (Kd.int .i64)) 23 w' w.heap.size (fun k_ => (P0_ k_ ∨ w.heap.size ≤ k_) ∧ some k_ ≠ (s_.2.2 : Value).ownBlock ∧ oB (.slice Ao12 x7_1.length co12) k_ ∧ k_ ≠ gb420) s_.2.1 y424) ∧ (Kd.R (Kd.int .i64) 2 w' w.heap.size (fun k_ => (w.heap.size ≤ k_)) s_.2.2 y430) ∧ (Kd.V k33 33 w' w.heap.size (fun k_ => (P0_ k_ ∨ w.heap.size ≤ k_) ∧ some k_ ≠ (s_.2.1 : Value).ownBlock ∧ some k_ ≠ (s_.2.2 : Value).ownBlock ∧ oB (.slice Ao12 x7_1.length co12) k_ ∧ k_ ≠ gb420) (.slice (some ad419) l0.length c0) l0) ∧ (Kd.S k33 33 w' w.heap.size (fun k_ => (w.heap.size ≤ k_) ∧ some k_ ≠ (s_.2.2 : Value).ownBlock ∧ k_ ≠ gb420) (.slice Ao12 x7_1.length co12) x7_1) ∧ (w'.heap[gb420]? = some (.cells #[.slice A419_0 ((aA l0 x12_1).f0).length c419_0, .slice A419_1 ((aA l0 x12_1).f1).length c419_1] 33 (0, 0))) ∧ (Below w.heap.size w w')) ?_ ?_
       rotate_left
       ·
        intro hJ2_5_8
        refine join_ (σ := Value × Value × Value) 7 #[true, true, true, true, true, false, false, true, true, true, true, true, false, false, false, false, false] (fun s_ => [(18, s_.1), (24, s_.2.1), (27, s_.2.2)]) (fun s_ w' => (w'.cell? ⟨gb420, 0, none⟩ = some (.slice A419_0 ((aA l0 x12_1).f0).length c419_0) ∧ w'.cell? ⟨gb420, 1, none⟩ = some (.slice A419_1 ((aA l0 x12_1).f1).length c419_1)) ∧ (Kd.V (Kd.int .i64) 2 w' w.heap.size (fun k_ => (P0_ k_ ∨ w.heap.size ≤ k_) ∧ some k_ ≠ (s_.1 : Value).ownBlock ∧ some k_ ≠ (s_.2.2 : Value).ownBlock ∧ oB (.slice Ao12 x7_1.length co12) k_ ∧ k_ ≠ gb420) (.slice A419_0 ((aA l0 x12_1).f0).length c419_0) ((aA l0 x12_1).f0)) ∧ (Kd.V (Kd.int .i64) 2 w' w.heap.size (fun k_ => (P0_ k_ ∨ w.heap.size ≤ k_) ∧ some k_ ≠ (s_.1 : Value).ownBlock ∧ some k_ ≠ (s_.2.2 : Value).ownBlock ∧ oB (.slice Ao12 x7_1.length co12) k_ ∧ k_ ≠ gb420) (.slice A419_1 ((aA l0 x12_1).f1).length c419_1) ((aA l0 x12_1).f1)) ∧ (Kd.R (Kd.int .i64) 2 w' w.heap.size (fun k_ => (w.heap.size ≤ k_)) s_.1 y421) ∧ (Kd.N (Kd.slice 2 (Kd.int .i64)) 23 w' w.heap.size (fun k_ => (P0_ k_ ∨ w.heap.size ≤ k_) ∧ some k_ ≠ (s_.1 : Value).ownBlock ∧ oB (.slice Ao12 x7_1.length co12) k_ ∧ k_ ≠ gb420) s_.2.2 y433) ∧ (Kd.V k33 33 w' w.heap.size (fun k_ => (P0_ k_ ∨ w.heap.size ≤ k_) ∧ some k_ ≠ (s_.1 : Value).ownBlock ∧ some k_ ≠ (s_.2.2 : Value).ownBlock ∧ oB (.slice Ao12 x7_1.length co12) k_ ∧ k_ ≠ gb420) (.slice (some ad419) l0.length c0) l0) ∧ (Kd.S k33 33 w' w.heap.size (fun k_ => (w.heap.size ≤ k_) ∧ some k_ ≠ (s_.1 : Value).ownBlock ∧ k_ ≠ gb420) (.slice Ao12 x7_1.length co12) x7_1) ∧ (w'.heap[gb420]? = some (.cells #[.slice A419_0 ((aA l0 x12_1).f0).length c419_0, .slice A419_1 ((aA l0 x12_1).f1).length c419_1] 33 (0, 0))) ∧ (Below w.heap.size w w')) ?_ ?_
        rotate_left
        ·
         intro hJ2_8_11
         refine join_ (σ := Value × Value) 8 #[true, true, true, true, true, true, false, true, false, true, true, false, false, false, false, false, false] (fun s_ => [(18, s_.1), (21, s_.2)]) (fun s_ w' => (w'.cell? ⟨gb420, 0, none⟩ = some (.slice A419_0 ((aA l0 x12_1).f0).length c419_0) ∧ w'.cell? ⟨gb420, 1, none⟩ = some (.slice A419_1 ((aA l0 x12_1).f1).length c419_1)) ∧ (Kd.V (Kd.int .i64) 2 w' w.heap.size (fun k_ => (P0_ k_ ∨ w.heap.size ≤ k_) ∧ some k_ ≠ (s_.2 : Value).ownBlock ∧ oB (.slice Ao12 x7_1.length co12) k_ ∧ k_ ≠ gb420) (.slice A419_0 ((aA l0 x12_1).f0).length c419_0) ((aA l0 x12_1).f0)) ∧ (Kd.V (Kd.int .i64) 2 w' w.heap.size (fun k_ => (P0_ k_ ∨ w.heap.size ≤ k_) ∧ some k_ ≠ (s_.2 : Value).ownBlock ∧ oB (.slice Ao12 x7_1.length co12) k_ ∧ k_ ≠ gb420) (.slice A419_1 ((aA l0 x12_1).f1).length c419_1) ((aA l0 x12_1).f1)) ∧ (Kd.N (Kd.slice 2 (Kd.int .i64)) 23 w' w.heap.size (fun k_ => (P0_ k_ ∨ w.heap.size ≤ k_) ∧ oB (.slice Ao12 x7_1.length co12) k_ ∧ k_ ≠ gb420) s_.2 y424) ∧ (Kd.V k33 33 w' w.heap.size (fun k_ => (P0_ k_ ∨ w.heap.size ≤ k_) ∧ some k_ ≠ (s_.2 : Value).ownBlock ∧ oB (.slice Ao12 x7_1.length co12) k_ ∧ k_ ≠ gb420) (.slice (some ad419) l0.length c0) l0) ∧ (Kd.S k33 33 w' w.heap.size (fun k_ => (w.heap.size ≤ k_) ∧ k_ ≠ gb420) (.slice Ao12 x7_1.length co12) x7_1) ∧ (w'.heap[gb420]? = some (.cells #[.slice A419_0 ((aA l0 x12_1).f0).length c419_0, .slice A419_1 ((aA l0 x12_1).f1).length c419_1] 33 (0, 0))) ∧ (Below w.heap.size w w')) ?_ ?_
         rotate_left
         ·
          intro hJ2_5
          refine join_ (σ := Value × Value) 8 #[true, true, true, true, true, false, false, true, true, true, true, false, false, false, false, false, false] (fun s_ => [(18, s_.1), (24, s_.2)]) (fun s_ w' => (w'.cell? ⟨gb420, 0, none⟩ = some (.slice A419_0 ((aA l0 x12_1).f0).length c419_0) ∧ w'.cell? ⟨gb420, 1, none⟩ = some (.slice A419_1 ((aA l0 x12_1).f1).length c419_1)) ∧ (Kd.V (Kd.int .i64) 2 w' w.heap.size (fun k_ => (P0_ k_ ∨ w.heap.size ≤ k_) ∧ some k_ ≠ (s_.1 : Value).ownBlock ∧ some k_ ≠ (s_.2 : Value).ownBlock ∧ oB (.slice Ao12 x7_1.length co12) k_ ∧ k_ ≠ gb420) (.slice A419_0 ((aA l0 x12_1).f0).length c419_0) ((aA l0 x12_1).f0)) ∧ (Kd.V (Kd.int .i64) 2 w' w.heap.size (fun k_ => (P0_ k_ ∨ w.heap.size ≤ k_) ∧ some k_ ≠ (s_.1 : Value).ownBlock ∧ some k_ ≠ (s_.2 : Value).ownBlock ∧ oB (.slice Ao12 x7_1.length co12) k_ ∧ k_ ≠ gb420) (.slice A419_1 ((aA l0 x12_1).f1).length c419_1) ((aA l0 x12_1).f1)) ∧ (Kd.R (Kd.int .i64) 2 w' w.heap.size (fun k_ => (w.heap.size ≤ k_) ∧ some k_ ≠ (s_.2 : Value).ownBlock) s_.1 y421) ∧ (Kd.R (Kd.int .i64) 2 w' w.heap.size (fun k_ => (w.heap.size ≤ k_) ∧ some k_ ≠ (s_.1 : Value).ownBlock) s_.2 y430) ∧ (Kd.V k33 33 w' w.heap.size (fun k_ => (P0_ k_ ∨ w.heap.size ≤ k_) ∧ some k_ ≠ (s_.1 : Value).ownBlock ∧ some k_ ≠ (s_.2 : Value).ownBlock ∧ oB (.slice Ao12 x7_1.length co12) k_ ∧ k_ ≠ gb420) (.slice (some ad419) l0.length c0) l0) ∧ (Kd.S k33 33 w' w.heap.size (fun k_ => (w.heap.size ≤ k_) ∧ some k_ ≠ (s_.1 : Value).ownBlock ∧ some k_ ≠ (s_.2 : Value).ownBlock ∧ k_ ≠ gb420) (.slice Ao12 x7_1.length co12) x7_1) ∧ (w'.heap[gb420]? = some (.cells #[.slice A419_0 ((aA l0 x12_1).f0).length c419_0, .slice A419_1 ((aA l0 x12_1).f1).length c419_1] 33 (0, 0))) ∧ (Below w.heap.size w w')) ?_ ?_
          rotate_left
          ·
           intro hJ2_8
           refine join_ (σ := Value × Value) 8 #[true, true, false, true, true, false, false, true, true, true, true, true, false, false, false, false, false] (fun s_ => [(24, s_.1), (27, s_.2)]) (fun s_ w' => (w'.cell? ⟨gb420, 0, none⟩ = some (.slice A419_0 ((aA l0 x12_1).f0).length c419_0) ∧ w'.cell? ⟨gb420, 1, none⟩ = some (.slice A419_1 ((aA l0 x12_1).f1).length c419_1)) ∧ (Kd.V (Kd.int .i64) 2 w' w.heap.size (fun k_ => (P0_ k_ ∨ w.heap.size ≤ k_) ∧ some k_ ≠ (s_.2 : Value).ownBlock ∧ oB (.slice Ao12 x7_1.length co12) k_ ∧ k_ ≠ gb420) (.slice A419_0 ((aA l0 x12_1).f0).length c419_0) ((aA l0 x12_1).f0)) ∧ (Kd.V (Kd.int .i64) 2 w' w.heap.size (fun k_ => (P0_ k_ ∨ w.heap.size ≤ k_) ∧ some k_ ≠ (s_.2 : Value).ownBlock ∧ oB (.slice Ao12 x7_1.length co12) k_ ∧ k_ ≠ gb420) (.slice A419_1 ((aA l0 x12_1).f1).length c419_1) ((aA l0 x12_1).f1)) ∧ (Kd.N (Kd.slice 2 (Kd.int .i64)) 23 w' w.heap.size (fun k_ => (P0_ k_ ∨ w.heap.size ≤ k_) ∧ oB (.slice Ao12 x7_1.length co12) k_ ∧ k_ ≠ gb420) s_.2 y433) ∧ (Kd.V k33 33 w' w.heap.size (fun k_ => (P0_ k_ ∨ w.heap.size ≤ k_) ∧ some k_ ≠ (s_.2 : Value).ownBlock ∧ oB (.slice Ao12 x7_1.length co12) k_ ∧ k_ ≠ gb420) (.slice (some ad419) l0.length c0) l0) ∧ (Kd.S k33 33 w' w.heap.size (fun k_ => (w.heap.size ≤ k_) ∧ k_ ≠ gb420) (.slice Ao12 x7_1.length co12) x7_1) ∧ (w'.heap[gb420]? = some (.cells #[.slice A419_0 ((aA l0 x12_1).f0).length c419_0, .slice A419_1 ((aA l0 x12_1).f1).length c419_1] 33 (0, 0))) ∧ (Below w.heap.size w w')) ?_ ?_
           rotate_left
           ·
            intro hJ8_11
            refine join_ (σ := Value) 9 #[true, true, true, true, true, false, false, true, false, true, true, false, false, false, false, false, false] (fun s_ => [(18, s_)]) (fun s_ w' => (w'.cell? ⟨gb420, 0, none⟩ = some (.slice A419_0 ((aA l0 x12_1).f0).length c419_0) ∧ w'.cell? ⟨gb420, 1, none⟩ = some (.slice A419_1 ((aA l0 x12_1).f1).length c419_1)) ∧ (Kd.V (Kd.int .i64) 2 w' w.heap.size (fun k_ => (P0_ k_ ∨ w.heap.size ≤ k_) ∧ some k_ ≠ (s_ : Value).ownBlock ∧ oB (.slice Ao12 x7_1.length co12) k_ ∧ k_ ≠ gb420) (.slice A419_0 ((aA l0 x12_1).f0).length c419_0) ((aA l0 x12_1).f0)) ∧ (Kd.V (Kd.int .i64) 2 w' w.heap.size (fun k_ => (P0_ k_ ∨ w.heap.size ≤ k_) ∧ some k_ ≠ (s_ : Value).ownBlock ∧ oB (.slice Ao12 x7_1.length co12) k_ ∧ k_ ≠ gb420) (.slice A419_1 ((aA l0 x12_1).f1).length c419_1) ((aA l0 x12_1).f1)) ∧ (Kd.R (Kd.int .i64) 2 w' w.heap.size (fun k_ => (w.heap.size ≤ k_)) s_ y421) ∧ (Kd.V k33 33 w' w.heap.size (fun k_ => (P0_ k_ ∨ w.heap.size ≤ k_) ∧ some k_ ≠ (s_ : Value).ownBlock ∧ oB (.slice Ao12 x7_1.length co12) k_ ∧ k_ ≠ gb420) (.slice (some ad419) l0.length c0) l0) ∧ (Kd.S k33 33 w' w.heap.size (fun k_ => (w.heap.size ≤ k_) ∧ some k_ ≠ (s_ : Value).ownBlock ∧ k_ ≠ gb420) (.slice Ao12 x7_1.length co12) x7_1) ∧ (w'.heap[gb420]? = some (.cells #[.slice A419_0 ((aA l0 x12_1).f0).length c419_0, .slice A419_1 ((aA l0 x12_1).f1).length c419_1] 33 (0, 0))) ∧ (Below w.heap.size w w')) ?_ ?_
            rotate_left
            ·
             intro hJ2
             refine join_ (σ := Value) 9 #[true, true, false, true, true, false, false, true, true, true, true, false, false, false, false, false, false] (fun s_ => [(24, s_)]) (fun s_ w' => (w'.cell? ⟨gb420, 0, none⟩ = some (.slice A419_0 ((aA l0 x12_1).f0).length c419_0) ∧ w'.cell? ⟨gb420, 1, none⟩ = some (.slice A419_1 ((aA l0 x12_1).f1).length c419_1)) ∧ (Kd.V (Kd.int .i64) 2 w' w.heap.size (fun k_ => (P0_ k_ ∨ w.heap.size ≤ k_) ∧ some k_ ≠ (s_ : Value).ownBlock ∧ oB (.slice Ao12 x7_1.length co12) k_ ∧ k_ ≠ gb420) (.slice A419_0 ((aA l0 x12_1).f0).length c419_0) ((aA l0 x12_1).f0)) ∧ (Kd.V (Kd.int .i64) 2 w' w.heap.size (fun k_ => (P0_ k_ ∨ w.heap.size ≤ k_) ∧ some k_ ≠ (s_ : Value).ownBlock ∧ oB (.slice Ao12 x7_1.length co12) k_ ∧ k_ ≠ gb420) (.slice A419_1 ((aA l0 x12_1).f1).length c419_1) ((aA l0 x12_1).f1)) ∧ (Kd.R (Kd.int .i64) 2 w' w.heap.size (fun k_ => (w.heap.size ≤ k_)) s_ y430) ∧ (Kd.V k33 33 w' w.heap.size (fun k_ => (P0_ k_ ∨ w.heap.size ≤ k_) ∧ some k_ ≠ (s_ : Value).ownBlock ∧ oB (.slice Ao12 x7_1.length co12) k_ ∧ k_ ≠ gb420) (.slice (some ad419) l0.length c0) l0) ∧ (Kd.S k33 33 w' w.heap.size (fun k_ => (w.heap.size ≤ k_) ∧ some k_ ≠ (s_ : Value).ownBlock ∧ k_ ≠ gb420) (.slice Ao12 x7_1.length co12) x7_1) ∧ (w'.heap[gb420]? = some (.cells #[.slice A419_0 ((aA l0 x12_1).f0).length c419_0, .slice A419_1 ((aA l0 x12_1).f1).length c419_1] 33 (0, 0))) ∧ (Below w.heap.size w w')) ?_ ?_
             rotate_left
             ·
              intro hJ8
              refine two_ (i := 2) (j := 8) (Ni := some 18) (Nj := some 24) #[true, true, true, true, true, false, false, true, false, true, true, false, false, false, false, false, false] #[true, true, false, true, true, false, false, true, true, true, true, false, false, false, false, false, false] rfl rfl rfl rfl (two_of HT_.out (by kernel_rfl)) (by decide) (by decide) (fun K hK => ?_) (fun K hK => ?_)
              · skip
                refine Kd.R_lit_step (Kd.int .i64) _ 2 ?hg (N := 18) ?hd (xs := ([a1] : List Int)) (inner := [.int .i64 a1]) (ok := fun _ => True) (okp := fun _ => True) ?hr ?hp (fun _ hk => hk) trivial (Below.refl _ _) (Nat.le_refl _) (by simp) ?_; (case hd => rfl); (case hg => rfl); (case hr => first | (go_simp; done) | (go_simp; rfl)); (case hp => exact (cW.one (show Kd.M (Kd.int .i64) _ _ _ a1 [.int .i64 a1] from rfl) (cW.none _ _)))
                intro v422 w15 ho16 hb hg_ hnew_
                clear hg_ hnew_
                (first | rw [← Ny421.out] at ho16 | (simp only [Int.reduceToNat] at ho16; rw [← Ny421.out] at ho16))
                have n0_ := yD (Kd.S_elder' (kS HO_7) (yH ho16) hb)
                have n1_ := yD (Kd.bR (kU HO_10) (yH ho16) hb)
                have n2_ := yD (Kd.bR (kU HL419_0) (yH ho16) hb)
                have n3_ := yD (Kd.bR (kU HL419_1) (yH ho16) hb)
                have n4_ := yD (yZ (Kd.R_newM (M := fun k_ => (w.heap.size ≤ k_)) ho16 (aD (kB HB)) (fun k_ h_ => h_)) (aD (kB HB)))
                have n5_ := yD (zB (kN BK420) hb)
                have n6_ := yD (zC (kB HB) hb)
                clear HO_7 HO_10 HL419_0 HL419_1 BK420 HB; have HO_7 := n0_; have HO_10 := n1_; have HL419_0 := n2_; have HL419_1 := n3_; have HO423 := n4_; have BK420 := n5_; have HB := n6_; clear n0_ n1_ n2_ n3_ n4_ n5_ n6_ hb ho16
                refine hK.out _ _ (cz2 BK420.out) (fun hHeld => ?_)
                clear hK K
                refine nZ 18 ?_
                exact norm_ (by first | (simp only [putAll, Act.put, zH, zI, zJ]; done) | (simp only [putAll, Act.put, zH, zI, zJ]; rfl)) (hJ2 (v422) _ ⟨hHeld, (mV HL419_0 (fun _ hk => ⟨hk.1.1, ⟨hk.2, ⟨hk.1.2.1, hk.1.2.2⟩⟩⟩)), (mV HL419_1 (fun _ hk => ⟨hk.1.1, ⟨hk.2, ⟨hk.1.2.1, hk.1.2.2⟩⟩⟩)), (mR HO423 (fun _ hk => hk.1)), (mV HO_10 (fun _ hk => ⟨hk.1.1, ⟨hk.2, ⟨hk.1.2.1, hk.1.2.2⟩⟩⟩)), (mS HO_7 (fun _ hk => ⟨hk.1.1, ⟨hk.2, hk.1.2⟩⟩)), (kM BK420), (kB HB)⟩)
              · skip
                refine Kd.R_lit_step (Kd.int .i64) _ 2 ?hg (N := 24) ?hd (xs := ([a2] : List Int)) (inner := [.int .i64 a2]) (ok := fun _ => True) (okp := fun _ => True) ?hr ?hp (fun _ hk => hk) trivial (Below.refl _ _) (Nat.le_refl _) (by simp) ?_; (case hd => rfl); (case hg => rfl); (case hr => first | (go_simp; done) | (go_simp; rfl)); (case hp => exact (cW.one (show Kd.M (Kd.int .i64) _ _ _ a2 [.int .i64 a2] from rfl) (cW.none _ _)))
                intro v431 w15 ho16 hb hg_ hnew_
                clear hg_ hnew_
                (first | rw [← Ny430.out] at ho16 | (simp only [Int.reduceToNat] at ho16; rw [← Ny430.out] at ho16))
                have n0_ := yD (Kd.S_elder' (kS HO_7) (yH ho16) hb)
                have n1_ := yD (Kd.bR (kU HO_10) (yH ho16) hb)
                have n2_ := yD (Kd.bR (kU HL419_0) (yH ho16) hb)
                have n3_ := yD (Kd.bR (kU HL419_1) (yH ho16) hb)
                have n4_ := yD (yZ (Kd.R_newM (M := fun k_ => (w.heap.size ≤ k_)) ho16 (aD (kB HB)) (fun k_ h_ => h_)) (aD (kB HB)))
                have n5_ := yD (zB (kN BK420) hb)
                have n6_ := yD (zC (kB HB) hb)
                clear HO_7 HO_10 HL419_0 HL419_1 BK420 HB; have HO_7 := n0_; have HO_10 := n1_; have HL419_0 := n2_; have HL419_1 := n3_; have HO432 := n4_; have BK420 := n5_; have HB := n6_; clear n0_ n1_ n2_ n3_ n4_ n5_ n6_ hb ho16
                refine hK.out _ _ (cz2 BK420.out) (fun hHeld => ?_)
                clear hK K
                refine nZ 24 ?_
                exact norm_ (by first | (simp only [putAll, Act.put, zH, zI, zJ]; done) | (simp only [putAll, Act.put, zH, zI, zJ]; rfl)) (hJ8 (v431) _ ⟨hHeld, (mV HL419_0 (fun _ hk => ⟨hk.1.1, ⟨hk.2, ⟨hk.1.2.1, hk.1.2.2⟩⟩⟩)), (mV HL419_1 (fun _ hk => ⟨hk.1.1, ⟨hk.2, ⟨hk.1.2.1, hk.1.2.2⟩⟩⟩)), (mR HO432 (fun _ hk => hk.1)), (mV HO_10 (fun _ hk => ⟨hk.1.1, ⟨hk.2, ⟨hk.1.2.1, hk.1.2.2⟩⟩⟩)), (mS HO_7 (fun _ hk => ⟨hk.1.1, ⟨hk.2, hk.1.2⟩⟩)), (kM BK420), (kB HB)⟩)
             ·
              skip
              rintro v431 w17 ⟨hS_, h0_, h1_, h2_, h3_, h4_, h5_, h6_⟩
              (try dsimp only at h0_ h1_ h2_ h3_ h4_ h5_ h6_); clear HO_7 HO_10 HL419_0 HL419_1 BK420 HB; have HL419_0 := yD h0_; have HL419_1 := yD h1_; have HO432 := yD h2_; have HO_10 := yD h3_; have HO_7 := yD h4_; have BK420 := yD h5_; have HB := yD h6_; clear h0_ h1_ h2_ h3_ h4_ h5_ h6_
              have hHeld : w17.cell? ⟨gb420, 0, none⟩ = some (.slice A419_0 ((aA l0 x12_1).f0).length c419_0) ∧ w17.cell? ⟨gb420, 1, none⟩ = some (.slice A419_1 ((aA l0 x12_1).f1).length c419_1) := hS_
              refine norm_ (a' := ?_) ?_ ?_
              rotate_left
              · simp only [putAll, Act.put, zH, zI, zJ]
                rfl
              refine two_ (i := 2) (j := 11) (Ni := some 18) (Nj := some 27) #[true, true, true, true, true, false, false, true, true, true, true, false, false, false, false, false, false] #[true, true, false, true, true, false, false, true, true, true, true, true, false, false, false, false, false] rfl rfl rfl rfl (two_of HT_.out (by kernel_rfl)) (by decide) (by decide) (fun K hK => ?_) (fun K hK => ?_)
              · skip
                refine Kd.R_lit_step (Kd.int .i64) _ 2 ?hg (N := 18) ?hd (xs := ([a1] : List Int)) (inner := [.int .i64 a1]) (ok := fun _ => True) (okp := fun _ => True) ?hr ?hp (fun _ hk => hk) trivial (Below.refl _ _) (Nat.le_refl _) (by simp) ?_; (case hd => rfl); (case hg => rfl); (case hr => first | (go_simp; done) | (go_simp; rfl)); (case hp => exact (cW.one (show Kd.M (Kd.int .i64) _ _ _ a1 [.int .i64 a1] from rfl) (cW.none _ _)))
                intro v422 w18 ho19 hb hg_ hnew_
                clear hg_ hnew_
                (first | rw [← Ny421.out] at ho19 | (simp only [Int.reduceToNat] at ho19; rw [← Ny421.out] at ho19))
                have n0_ := yD (Kd.S_elder' (kS HO_7) (yH ho19) hb)
                have n1_ := yD (Kd.bR (kU HO_10) (yH ho19) hb)
                have n2_ := yD (Kd.bR (kU HL419_0) (yH ho19) hb)
                have n3_ := yD (Kd.bR (kU HL419_1) (yH ho19) hb)
                have n4_ := yD (Kd.R_elder' (kA HO432) (yH ho19) hb)
                have n5_ := yD (yZ (yJ (Kd.R_newM (M := fun k_ => (w.heap.size ≤ k_)) ho19 (aD (kB HB)) (fun k_ h_ => h_)) (yK (kA HO432))) (aD (kB HB)))
                have n6_ := yD (zB (kN BK420) hb)
                have n7_ := yD (zC (kB HB) hb)
                clear HO_7 HO_10 HL419_0 HL419_1 HO432 BK420 HB; have HO_7 := n0_; have HO_10 := n1_; have HL419_0 := n2_; have HL419_1 := n3_; have HO432 := n4_; have HO423 := n5_; have BK420 := n6_; have HB := n7_; clear n0_ n1_ n2_ n3_ n4_ n5_ n6_ n7_ hb ho19
                refine hK.out _ _ (cz2 BK420.out) (fun hHeld => ?_)
                clear hK K
                refine nZ 18 ?_
                exact norm_ (by first | (simp only [putAll, Act.put, zH, zI, zJ]; done) | (simp only [putAll, Act.put, zH, zI, zJ]; rfl)) (hJ2_8 (v422, v431) _ ⟨hHeld, (mV HL419_0 (fun _ hk => ⟨hk.1.1, ⟨hk.2, ⟨hk.1.2.1, ⟨hk.1.2.2.1, hk.1.2.2.2⟩⟩⟩⟩)), (mV HL419_1 (fun _ hk => ⟨hk.1.1, ⟨hk.2, ⟨hk.1.2.1, ⟨hk.1.2.2.1, hk.1.2.2.2⟩⟩⟩⟩)), (mR HO423 (fun _ hk => ⟨hk.1.1, hk.2⟩)), (kA HO432), (mV HO_10 (fun _ hk => ⟨hk.1.1, ⟨hk.2, ⟨hk.1.2.1, ⟨hk.1.2.2.1, hk.1.2.2.2⟩⟩⟩⟩)), (mS HO_7 (fun _ hk => ⟨hk.1.1, ⟨hk.2, ⟨hk.1.2.1, hk.1.2.2⟩⟩⟩)), (kM BK420), (kB HB)⟩)
              ·
               skip
               obtain ⟨Ao18, co18, eo18⟩ := Kd.bS HO432.out
               subst eo18
               refine Kd.N_lit_step (Kd.slice 2 (Kd.int .i64)) _ 23 ?hg (N' := 27) ?hd (xs := ([y430, (aA l0 x12_1).f1] : List (List Int))) (inner := [.slice Ao18 y430.length co18, .slice A419_1 ((aA l0 x12_1).f1).length c419_1]) (ok := (fun k_ => (P0_ k_ ∨ w.heap.size ≤ k_) ∧ oB (.slice Ao12 x7_1.length co12) k_ ∧ k_ ≠ gb420)) (okp := (fun k_ => (P0_ k_ ∨ w.heap.size ≤ k_) ∧ oB (.slice Ao12 x7_1.length co12) k_ ∧ k_ ≠ gb420)) ?hr ?hp (fun _ hk => hk) ((show ∀ k_, w17.heap.size ≤ k_ → (fun k_ => (P0_ k_ ∨ w.heap.size ≤ k_) ∧ oB (.slice Ao12 x7_1.length co12) k_ ∧ k_ ≠ gb420) k_ from fun k_ hk => ⟨(.inr (Nat.le_trans (aD (kB HB)) hk)), Kd.cQ (Kd.S_lt (kS HO_7)) k_ hk, Kd.freshB (g := gb420) (o := .cells #[.slice A419_0 ((aA l0 x12_1).f0).length c419_0, .slice A419_1 ((aA l0 x12_1).f1).length c419_1] 33 (0, 0)) (kM BK420) k_ hk⟩) _ (Nat.le_refl _)) (Below.refl _ _) (Nat.le_refl _) (by simp) ?_; (case hd => rfl); (case hg => rfl); (case hr => first | (go_simp; done) | (go_simp; rfl)); (case hp => exact (cW.one (show Kd.FK (Kd.slice 2 (Kd.int .i64)) _ _ y430 [.slice Ao18 y430.length co18] from (Kd.FK_slice_mk (zA (zF (ok' := (fun k_ => (P0_ k_ ∨ w.heap.size ≤ k_) ∧ oB (.slice Ao12 x7_1.length co12) k_ ∧ k_ ≠ gb420)) (Kd.bQ (Kd.cH (HO432.out) (Kd.S_typed HO_7.out) (by decide)) BK420.out (by decide)) (fun k_ hk => ⟨(.inr (hk.1.1)), ⟨hk.1.2, hk.2⟩⟩))).2.1 (Kd.R_F (zF (ok' := (fun k_ => (P0_ k_ ∨ w.heap.size ≤ k_) ∧ oB (.slice Ao12 x7_1.length co12) k_ ∧ k_ ≠ gb420)) (Kd.bQ (Kd.cH (HO432.out) (Kd.S_typed HO_7.out) (by decide)) BK420.out (by decide)) (fun k_ hk => ⟨(.inr (hk.1.1)), ⟨hk.1.2, hk.2⟩⟩))))) (cW.one (show Kd.FK (Kd.slice 2 (Kd.int .i64)) _ _ ((aA l0 x12_1).f1) [.slice A419_1 ((aA l0 x12_1).f1).length c419_1] from (Kd.FK_slice_mk (Kd.cV (Kd.V_mono (ok' := (fun k_ => (P0_ k_ ∨ w.heap.size ≤ k_) ∧ oB (.slice Ao12 x7_1.length co12) k_ ∧ k_ ≠ gb420)) (HL419_1.out) (fun k_ hk => ⟨hk.1, ⟨hk.2.2.1, hk.2.2.2⟩⟩))).2.1 (Kd.V_F (Kd.V_mono (ok' := (fun k_ => (P0_ k_ ∨ w.heap.size ≤ k_) ∧ oB (.slice Ao12 x7_1.length co12) k_ ∧ k_ ≠ gb420)) (HL419_1.out) (fun k_ hk => ⟨hk.1, ⟨hk.2.2.1, hk.2.2.2⟩⟩))))) (cW.none _ _))))
               intro v434 w19 ho20 hb hg_ hnew_
               clear hg_ hnew_
               (first | rw [← Ny433.out] at ho20 | (simp only [Int.reduceToNat] at ho20; rw [← Ny433.out] at ho20))
               have n0_ := yD (Kd.S_below (kS HO_7) hb)
               have n1_ := yD (Kd.bR (kU HO_10) (Kd.N_base ho20) hb)
               have n2_ := yD (Kd.bR (kU HL419_0) (Kd.N_base ho20) hb)
               have n3_ := yD (Kd.bR (kU HL419_1) (Kd.N_base ho20) hb)
               have n4_ := yD (Kd.N_lower ho20 (aD (kB HB)))
               have n5_ := yD (zB (kN BK420) hb)
               have n6_ := yD (zC (kB HB) hb)
               clear HO_7 HO_10 HL419_0 HL419_1 BK420 HB HO432; have HO_7 := n0_; have HO_10 := n1_; have HL419_0 := n2_; have HL419_1 := n3_; have HO435 := n4_; have BK420 := n5_; have HB := n6_; clear n0_ n1_ n2_ n3_ n4_ n5_ n6_ hb ho20
               refine hK.out _ _ (cz2 BK420.out) (fun hHeld => ?_)
               clear hK K
               refine nZ 27 ?_
               exact norm_ (by first | (simp only [putAll, Act.put, zH, zI, zJ]; done) | (simp only [putAll, Act.put, zH, zI, zJ]; rfl)) (hJ8_11 (.slice Ao18 y430.length co18, v434) _ ⟨hHeld, (mV HL419_0 (fun _ hk => ⟨hk.1.1, ⟨hk.2, ⟨hk.1.2.2.1, hk.1.2.2.2⟩⟩⟩)), (mV HL419_1 (fun _ hk => ⟨hk.1.1, ⟨hk.2, ⟨hk.1.2.2.1, hk.1.2.2.2⟩⟩⟩)), (kQ HO435), (mV HO_10 (fun _ hk => ⟨hk.1.1, ⟨hk.2, ⟨hk.1.2.2.1, hk.1.2.2.2⟩⟩⟩)), (mS HO_7 (fun _ hk => ⟨hk.1, hk.2.2⟩)), (kM BK420), (kB HB)⟩)
            ·
             skip
             rintro v422 w17 ⟨hS_, h0_, h1_, h2_, h3_, h4_, h5_, h6_⟩
             (try dsimp only at h0_ h1_ h2_ h3_ h4_ h5_ h6_); clear HO_7 HO_10 HL419_0 HL419_1 BK420 HB; have HL419_0 := yD h0_; have HL419_1 := yD h1_; have HO423 := yD h2_; have HO_10 := yD h3_; have HO_7 := yD h4_; have BK420 := yD h5_; have HB := yD h6_; clear h0_ h1_ h2_ h3_ h4_ h5_ h6_
             have hHeld : w17.cell? ⟨gb420, 0, none⟩ = some (.slice A419_0 ((aA l0 x12_1).f0).length c419_0) ∧ w17.cell? ⟨gb420, 1, none⟩ = some (.slice A419_1 ((aA l0 x12_1).f1).length c419_1) := hS_
             obtain ⟨Ao18, co18, eo18⟩ := Kd.bS HO423.out
             (first | subst eo18 | (injection eo18 with f1_ f2_ f3_; have f4_ := f1_.symm; have f5_ := f3_.symm; clear f1_ f2_ f3_; subst f4_; subst f5_))
             refine norm_ (a' := ?_) ?_ ?_
             rotate_left
             · simp only [putAll, Act.put, zH, zI, zJ]
               rfl
             refine two_ (i := 5) (j := 8) (Ni := some 21) (Nj := some 24) #[true, true, true, true, true, true, false, true, false, true, true, false, false, false, false, false, false] #[true, true, true, true, true, false, false, true, true, true, true, false, false, false, false, false, false] rfl rfl rfl rfl (two_of HT_.out (by kernel_rfl)) (by decide) (by decide) (fun K hK => ?_) (fun K hK => ?_)
             · skip
               refine Kd.N_lit_step (Kd.slice 2 (Kd.int .i64)) _ 23 ?hg (N' := 21) ?hd (xs := ([y421, (aA l0 x12_1).f0] : List (List Int))) (inner := [.slice Ao18 y421.length co18, .slice A419_0 ((aA l0 x12_1).f0).length c419_0]) (ok := (fun k_ => (P0_ k_ ∨ w.heap.size ≤ k_) ∧ oB (.slice Ao12 x7_1.length co12) k_ ∧ k_ ≠ gb420)) (okp := (fun k_ => (P0_ k_ ∨ w.heap.size ≤ k_) ∧ oB (.slice Ao12 x7_1.length co12) k_ ∧ k_ ≠ gb420)) ?hr ?hp (fun _ hk => hk) ((show ∀ k_, w17.heap.size ≤ k_ → (fun k_ => (P0_ k_ ∨ w.heap.size ≤ k_) ∧ oB (.slice Ao12 x7_1.length co12) k_ ∧ k_ ≠ gb420) k_ from fun k_ hk => ⟨(.inr (Nat.le_trans (aD (kB HB)) hk)), Kd.cQ (Kd.S_lt (kS HO_7)) k_ hk, Kd.freshB (g := gb420) (o := .cells #[.slice A419_0 ((aA l0 x12_1).f0).length c419_0, .slice A419_1 ((aA l0 x12_1).f1).length c419_1] 33 (0, 0)) (kM BK420) k_ hk⟩) _ (Nat.le_refl _)) (Below.refl _ _) (Nat.le_refl _) (by simp) ?_; (case hd => rfl); (case hg => rfl); (case hr => first | (go_simp; done) | (go_simp; rfl)); (case hp => exact (cW.one (show Kd.FK (Kd.slice 2 (Kd.int .i64)) _ _ y421 [.slice Ao18 y421.length co18] from (Kd.FK_slice_mk (zA (zF (ok' := (fun k_ => (P0_ k_ ∨ w.heap.size ≤ k_) ∧ oB (.slice Ao12 x7_1.length co12) k_ ∧ k_ ≠ gb420)) (Kd.bQ (Kd.cH (HO423.out) (Kd.S_typed HO_7.out) (by decide)) BK420.out (by decide)) (fun k_ hk => ⟨(.inr (hk.1.1)), ⟨hk.1.2, hk.2⟩⟩))).2.1 (Kd.R_F (zF (ok' := (fun k_ => (P0_ k_ ∨ w.heap.size ≤ k_) ∧ oB (.slice Ao12 x7_1.length co12) k_ ∧ k_ ≠ gb420)) (Kd.bQ (Kd.cH (HO423.out) (Kd.S_typed HO_7.out) (by decide)) BK420.out (by decide)) (fun k_ hk => ⟨(.inr (hk.1.1)), ⟨hk.1.2, hk.2⟩⟩))))) (cW.one (show Kd.FK (Kd.slice 2 (Kd.int .i64)) _ _ ((aA l0 x12_1).f0) [.slice A419_0 ((aA l0 x12_1).f0).length c419_0] from (Kd.FK_slice_mk (Kd.cV (Kd.V_mono (ok' := (fun k_ => (P0_ k_ ∨ w.heap.size ≤ k_) ∧ oB (.slice Ao12 x7_1.length co12) k_ ∧ k_ ≠ gb420)) (HL419_0.out) (fun k_ hk => ⟨hk.1, ⟨hk.2.2.1, hk.2.2.2⟩⟩))).2.1 (Kd.V_F (Kd.V_mono (ok' := (fun k_ => (P0_ k_ ∨ w.heap.size ≤ k_) ∧ oB (.slice Ao12 x7_1.length co12) k_ ∧ k_ ≠ gb420)) (HL419_0.out) (fun k_ hk => ⟨hk.1, ⟨hk.2.2.1, hk.2.2.2⟩⟩))))) (cW.none _ _))))
               intro v425 w19 ho20 hb hg_ hnew_
               clear hg_ hnew_
               (first | rw [← Ny424.out] at ho20 | (simp only [Int.reduceToNat] at ho20; rw [← Ny424.out] at ho20))
               have n0_ := yD (Kd.S_below (kS HO_7) hb)
               have n1_ := yD (Kd.bR (kU HO_10) (Kd.N_base ho20) hb)
               have n2_ := yD (Kd.bR (kU HL419_0) (Kd.N_base ho20) hb)
               have n3_ := yD (Kd.bR (kU HL419_1) (Kd.N_base ho20) hb)
               have n4_ := yD (Kd.N_lower ho20 (aD (kB HB)))
               have n5_ := yD (zB (kN BK420) hb)
               have n6_ := yD (zC (kB HB) hb)
               clear HO_7 HO_10 HL419_0 HL419_1 BK420 HB HO423; have HO_7 := n0_; have HO_10 := n1_; have HL419_0 := n2_; have HL419_1 := n3_; have HO426 := n4_; have BK420 := n5_; have HB := n6_; clear n0_ n1_ n2_ n3_ n4_ n5_ n6_ hb ho20
               refine hK.out _ _ (cz2 BK420.out) (fun hHeld => ?_)
               clear hK K
               refine nZ 21 ?_
               exact norm_ (by first | (simp only [putAll, Act.put, zH, zI, zJ]; done) | (simp only [putAll, Act.put, zH, zI, zJ]; rfl)) (hJ2_5 (.slice Ao18 y421.length co18, v425) _ ⟨hHeld, (mV HL419_0 (fun _ hk => ⟨hk.1.1, ⟨hk.2, ⟨hk.1.2.2.1, hk.1.2.2.2⟩⟩⟩)), (mV HL419_1 (fun _ hk => ⟨hk.1.1, ⟨hk.2, ⟨hk.1.2.2.1, hk.1.2.2.2⟩⟩⟩)), (kQ HO426), (mV HO_10 (fun _ hk => ⟨hk.1.1, ⟨hk.2, ⟨hk.1.2.2.1, hk.1.2.2.2⟩⟩⟩)), (mS HO_7 (fun _ hk => ⟨hk.1, hk.2.2⟩)), (kM BK420), (kB HB)⟩)
             ·
              skip
              refine Kd.R_lit_step (Kd.int .i64) _ 2 ?hg (N := 24) ?hd (xs := ([a2] : List Int)) (inner := [.int .i64 a2]) (ok := fun _ => True) (okp := fun _ => True) ?hr ?hp (fun _ hk => hk) trivial (Below.refl _ _) (Nat.le_refl _) (by simp) ?_; (case hd => rfl); (case hg => rfl); (case hr => first | (go_simp; done) | (go_simp; rfl)); (case hp => exact (cW.one (show Kd.M (Kd.int .i64) _ _ _ a2 [.int .i64 a2] from rfl) (cW.none _ _)))
              intro v431 w18 ho19 hb hg_ hnew_
              clear hg_ hnew_
              (first | rw [← Ny430.out] at ho19 | (simp only [Int.reduceToNat] at ho19; rw [← Ny430.out] at ho19))
              have n0_ := yD (Kd.S_elder' (kS HO_7) (yH ho19) hb)
              have n1_ := yD (Kd.bR (kU HO_10) (yH ho19) hb)
              have n2_ := yD (Kd.bR (kU HL419_0) (yH ho19) hb)
              have n3_ := yD (Kd.bR (kU HL419_1) (yH ho19) hb)
              have n4_ := yD (Kd.R_elder' (kA HO423) (yH ho19) hb)
              have n5_ := yD (yZ (yJ (Kd.R_newM (M := fun k_ => (w.heap.size ≤ k_)) ho19 (aD (kB HB)) (fun k_ h_ => h_)) (yK (kA HO423))) (aD (kB HB)))
              have n6_ := yD (zB (kN BK420) hb)
              have n7_ := yD (zC (kB HB) hb)
              clear HO_7 HO_10 HL419_0 HL419_1 HO423 BK420 HB; have HO_7 := n0_; have HO_10 := n1_; have HL419_0 := n2_; have HL419_1 := n3_; have HO423 := n4_; have HO432 := n5_; have BK420 := n6_; have HB := n7_; clear n0_ n1_ n2_ n3_ n4_ n5_ n6_ n7_ hb ho19
              refine hK.out _ _ (cz2 BK420.out) (fun hHeld => ?_)
              clear hK K
              refine nZ 24 ?_
              exact norm_ (by first | (simp only [putAll, Act.put, zH, zI, zJ]; done) | (simp only [putAll, Act.put, zH, zI, zJ]; rfl)) (hJ2_8 ((.slice Ao18 y421.length co18), v431) _ ⟨hHeld, (mV HL419_0 (fun _ hk => ⟨hk.1.1, ⟨hk.1.2.1, ⟨hk.2, ⟨hk.1.2.2.1, hk.1.2.2.2⟩⟩⟩⟩)), (mV HL419_1 (fun _ hk => ⟨hk.1.1, ⟨hk.1.2.1, ⟨hk.2, ⟨hk.1.2.2.1, hk.1.2.2.2⟩⟩⟩⟩)), (kA HO423), (mR HO432 (fun _ hk => ⟨hk.1.1, hk.2⟩)), (mV HO_10 (fun _ hk => ⟨hk.1.1, ⟨hk.1.2.1, ⟨hk.2, ⟨hk.1.2.2.1, hk.1.2.2.2⟩⟩⟩⟩)), (mS HO_7 (fun _ hk => ⟨hk.1.1, ⟨hk.1.2.1, ⟨hk.2, hk.1.2.2⟩⟩⟩)), (kM BK420), (kB HB)⟩)
           ·
            skip
            rintro ⟨v431, v434⟩ w20 ⟨hS_, h0_, h1_, h2_, h3_, h4_, h5_, h6_⟩
            (try dsimp only at h0_ h1_ h2_ h3_ h4_ h5_ h6_); clear HO_7 HO_10 HL419_0 HL419_1 BK420 HB; have HL419_0 := yD h0_; have HL419_1 := yD h1_; have HO435 := yD h2_; have HO_10 := yD h3_; have HO_7 := yD h4_; have BK420 := yD h5_; have HB := yD h6_; clear h0_ h1_ h2_ h3_ h4_ h5_ h6_
            have hHeld : w20.cell? ⟨gb420, 0, none⟩ = some (.slice A419_0 ((aA l0 x12_1).f0).length c419_0) ∧ w20.cell? ⟨gb420, 1, none⟩ = some (.slice A419_1 ((aA l0 x12_1).f1).length c419_1) := hS_
            refine norm_ (a' := ?_) ?_ ?_
            rotate_left
            · simp only [putAll, Act.put, zH, zI, zJ]
              rfl
            refine qo 17 2 3999 (some 18) fun K hK => ?_
            refine Kd.R_lit_step (Kd.int .i64) _ 2 ?hg (N := 18) ?hd (xs := ([a1] : List Int)) (inner := [.int .i64 a1]) (ok := fun _ => True) (okp := fun _ => True) ?hr ?hp (fun _ hk => hk) trivial (Below.refl _ _) (Nat.le_refl _) (by simp) ?_; (case hd => rfl); (case hg => rfl); (case hr => first | (go_simp; done) | (go_simp; rfl)); (case hp => exact (cW.one (show Kd.M (Kd.int .i64) _ _ _ a1 [.int .i64 a1] from rfl) (cW.none _ _)))
            intro v422 w21 ho22 hb hg_ hnew_
            clear hg_ hnew_
            (first | rw [← Ny421.out] at ho22 | (simp only [Int.reduceToNat] at ho22; rw [← Ny421.out] at ho22))
            have n0_ := yD (Kd.S_elder' (kS HO_7) (yH ho22) hb)
            have n1_ := yD (Kd.bR (kU HO_10) (yH ho22) hb)
            have n2_ := yD (Kd.bR (kU HL419_0) (yH ho22) hb)
            have n3_ := yD (Kd.bR (kU HL419_1) (yH ho22) hb)
            have n4_ := yD (Kd.N_elder' (kQ HO435) (yH ho22) hb)
            have n5_ := yD (yZ (Kd.R_newM (M := fun k_ => (w.heap.size ≤ k_)) ho22 (aD (kB HB)) (fun k_ h_ => h_)) (aD (kB HB)))
            have n6_ := yD (zB (kN BK420) hb)
            have n7_ := yD (zC (kB HB) hb)
            clear HO_7 HO_10 HL419_0 HL419_1 HO435 BK420 HB; have HO_7 := n0_; have HO_10 := n1_; have HL419_0 := n2_; have HL419_1 := n3_; have HO435 := n4_; have HO423 := n5_; have BK420 := n6_; have HB := n7_; clear n0_ n1_ n2_ n3_ n4_ n5_ n6_ n7_ hb ho22
            refine hK.out _ _ (cz2 BK420.out) (fun hHeld => ?_)
            clear hK K
            refine nZ 18 ?_
            exact norm_ (by first | (simp only [putAll, Act.put, zH, zI, zJ]; done) | (simp only [putAll, Act.put, zH, zI, zJ]; rfl)) (hJ2_8_11 (v422, v431, v434) _ ⟨hHeld, (mV HL419_0 (fun _ hk => ⟨hk.1.1, ⟨hk.2, ⟨hk.1.2.1, ⟨hk.1.2.2.1, hk.1.2.2.2⟩⟩⟩⟩)), (mV HL419_1 (fun _ hk => ⟨hk.1.1, ⟨hk.2, ⟨hk.1.2.1, ⟨hk.1.2.2.1, hk.1.2.2.2⟩⟩⟩⟩)), (mR HO423 (fun _ hk => hk.1)), (mN HO435 (fun _ hk => ⟨hk.1.1, ⟨hk.2, ⟨hk.1.2.1, hk.1.2.2⟩⟩⟩)), (mV HO_10 (fun _ hk => ⟨hk.1.1, ⟨hk.2, ⟨hk.1.2.1, ⟨hk.1.2.2.1, hk.1.2.2.2⟩⟩⟩⟩)), (mS HO_7 (fun _ hk => ⟨hk.1.1, ⟨hk.2, hk.1.2⟩⟩)), (kM BK420), (kB HB)⟩)
          ·
           skip
           rintro ⟨v422, v431⟩ w19 ⟨hS_, h0_, h1_, h2_, h3_, h4_, h5_, h6_, h7_⟩
           (try dsimp only at h0_ h1_ h2_ h3_ h4_ h5_ h6_ h7_); clear HO_7 HO_10 HL419_0 HL419_1 BK420 HB; have HL419_0 := yD h0_; have HL419_1 := yD h1_; have HO423 := yD h2_; have HO432 := yD h3_; have HO_10 := yD h4_; have HO_7 := yD h5_; have BK420 := yD h6_; have HB := yD h7_; clear h0_ h1_ h2_ h3_ h4_ h5_ h6_ h7_
           have hHeld : w19.cell? ⟨gb420, 0, none⟩ = some (.slice A419_0 ((aA l0 x12_1).f0).length c419_0) ∧ w19.cell? ⟨gb420, 1, none⟩ = some (.slice A419_1 ((aA l0 x12_1).f1).length c419_1) := hS_
           obtain ⟨Ao20, co20, eo20⟩ := Kd.bS HO423.out
           (first | subst eo20 | (injection eo20 with f1_ f2_ f3_; have f4_ := f1_.symm; have f5_ := f3_.symm; clear f1_ f2_ f3_; subst f4_; subst f5_))
           refine norm_ (a' := ?_) ?_ ?_
           rotate_left
           · simp only [putAll, Act.put, zH, zI, zJ]
             rfl
           refine two_ (i := 5) (j := 11) (Ni := some 21) (Nj := some 27) #[true, true, true, true, true, true, false, true, true, true, true, false, false, false, false, false, false] #[true, true, true, true, true, false, false, true, true, true, true, true, false, false, false, false, false] rfl rfl rfl rfl (two_of HT_.out (by kernel_rfl)) (by decide) (by decide) (fun K hK => ?_) (fun K hK => ?_)
           ·
            skip
            refine Kd.N_lit_step (Kd.slice 2 (Kd.int .i64)) _ 23 ?hg (N' := 21) ?hd (xs := ([y421, (aA l0 x12_1).f0] : List (List Int))) (inner := [.slice Ao20 y421.length co20, .slice A419_0 ((aA l0 x12_1).f0).length c419_0]) (ok := (fun k_ => (P0_ k_ ∨ w.heap.size ≤ k_) ∧ oB (.slice Ao12 x7_1.length co12) k_ ∧ oB v431 k_ ∧ k_ ≠ gb420)) (okp := (fun k_ => (P0_ k_ ∨ w.heap.size ≤ k_) ∧ oB (.slice Ao12 x7_1.length co12) k_ ∧ oB v431 k_ ∧ k_ ≠ gb420)) ?hr ?hp (fun _ hk => hk) ((show ∀ k_, w19.heap.size ≤ k_ → (fun k_ => (P0_ k_ ∨ w.heap.size ≤ k_) ∧ oB (.slice Ao12 x7_1.length co12) k_ ∧ oB v431 k_ ∧ k_ ≠ gb420) k_ from fun k_ hk => ⟨(.inr (Nat.le_trans (aD (kB HB)) hk)), Kd.cQ (Kd.S_lt (kS HO_7)) k_ hk, Kd.cQ (yK (kA HO432)) k_ hk, Kd.freshB (g := gb420) (o := .cells #[.slice A419_0 ((aA l0 x12_1).f0).length c419_0, .slice A419_1 ((aA l0 x12_1).f1).length c419_1] 33 (0, 0)) (kM BK420) k_ hk⟩) _ (Nat.le_refl _)) (Below.refl _ _) (Nat.le_refl _) (by simp) ?_; (case hd => rfl); (case hg => rfl); (case hr => first | (go_simp; done) | (go_simp; rfl)); (case hp => exact (cW.one (show Kd.FK (Kd.slice 2 (Kd.int .i64)) _ _ y421 [.slice Ao20 y421.length co20] from (Kd.FK_slice_mk (zA (zF (ok' := (fun k_ => (P0_ k_ ∨ w.heap.size ≤ k_) ∧ oB (.slice Ao12 x7_1.length co12) k_ ∧ oB v431 k_ ∧ k_ ≠ gb420)) (Kd.bQ (Kd.cH (HO423.out) (Kd.S_typed HO_7.out) (by decide)) BK420.out (by decide)) (fun k_ hk => ⟨(.inr (hk.1.1.1)), ⟨hk.1.2, ⟨hk.1.1.2, hk.2⟩⟩⟩))).2.1 (Kd.R_F (zF (ok' := (fun k_ => (P0_ k_ ∨ w.heap.size ≤ k_) ∧ oB (.slice Ao12 x7_1.length co12) k_ ∧ oB v431 k_ ∧ k_ ≠ gb420)) (Kd.bQ (Kd.cH (HO423.out) (Kd.S_typed HO_7.out) (by decide)) BK420.out (by decide)) (fun k_ hk => ⟨(.inr (hk.1.1.1)), ⟨hk.1.2, ⟨hk.1.1.2, hk.2⟩⟩⟩))))) (cW.one (show Kd.FK (Kd.slice 2 (Kd.int .i64)) _ _ ((aA l0 x12_1).f0) [.slice A419_0 ((aA l0 x12_1).f0).length c419_0] from (Kd.FK_slice_mk (Kd.cV (Kd.V_mono (ok' := (fun k_ => (P0_ k_ ∨ w.heap.size ≤ k_) ∧ oB (.slice Ao12 x7_1.length co12) k_ ∧ oB v431 k_ ∧ k_ ≠ gb420)) (HL419_0.out) (fun k_ hk => ⟨hk.1, ⟨hk.2.2.2.1, ⟨hk.2.2.1, hk.2.2.2.2⟩⟩⟩))).2.1 (Kd.V_F (Kd.V_mono (ok' := (fun k_ => (P0_ k_ ∨ w.heap.size ≤ k_) ∧ oB (.slice Ao12 x7_1.length co12) k_ ∧ oB v431 k_ ∧ k_ ≠ gb420)) (HL419_0.out) (fun k_ hk => ⟨hk.1, ⟨hk.2.2.2.1, ⟨hk.2.2.1, hk.2.2.2.2⟩⟩⟩))))) (cW.none _ _))))
            intro v425 w21 ho22 hb hg_ hnew_
            clear hg_ hnew_
            (first | rw [← Ny424.out] at ho22 | (simp only [Int.reduceToNat] at ho22; rw [← Ny424.out] at ho22))
            have n0_ := yD (Kd.S_below (kS HO_7) hb)
            have n1_ := yD (Kd.bR (kU HO_10) (Kd.N_base ho22) hb)
            have n2_ := yD (Kd.bR (kU HL419_0) (Kd.N_base ho22) hb)
            have n3_ := yD (Kd.bR (kU HL419_1) (Kd.N_base ho22) hb)
            have n4_ := yD (zE (kA HO432) hb)
            have n5_ := yD (Kd.N_lower ho22 (aD (kB HB)))
            have n6_ := yD (zB (kN BK420) hb)
            have n7_ := yD (zC (kB HB) hb)
            clear HO_7 HO_10 HL419_0 HL419_1 HO432 BK420 HB HO423; have HO_7 := n0_; have HO_10 := n1_; have HL419_0 := n2_; have HL419_1 := n3_; have HO432 := n4_; have HO426 := n5_; have BK420 := n6_; have HB := n7_; clear n0_ n1_ n2_ n3_ n4_ n5_ n6_ n7_ hb ho22
            refine hK.out _ _ (cz2 BK420.out) (fun hHeld => ?_)
            clear hK K
            refine nZ 21 ?_
            exact norm_ (by first | (simp only [putAll, Act.put, zH, zI, zJ]; done) | (simp only [putAll, Act.put, zH, zI, zJ]; rfl)) (hJ2_5_8 (.slice Ao20 y421.length co20, v425, v431) _ ⟨hHeld, (mV HL419_0 (fun _ hk => ⟨hk.1.1, ⟨hk.2, ⟨hk.1.2.2.1, ⟨hk.1.2.2.2.1, hk.1.2.2.2.2⟩⟩⟩⟩)), (mV HL419_1 (fun _ hk => ⟨hk.1.1, ⟨hk.2, ⟨hk.1.2.2.1, ⟨hk.1.2.2.2.1, hk.1.2.2.2.2⟩⟩⟩⟩)), (mN HO426 (fun _ hk => ⟨hk.1, ⟨hk.2.2.1, ⟨hk.2.1, hk.2.2.2⟩⟩⟩)), (mR HO432 (fun _ hk => hk.1)), (mV HO_10 (fun _ hk => ⟨hk.1.1, ⟨hk.2, ⟨hk.1.2.2.1, ⟨hk.1.2.2.2.1, hk.1.2.2.2.2⟩⟩⟩⟩)), (mS HO_7 (fun _ hk => ⟨hk.1, ⟨hk.2.2.1, hk.2.2.2⟩⟩)), (kM BK420), (kB HB)⟩)
           ·
            skip
            obtain ⟨Ao20b, co20b, eo20b⟩ := Kd.bS HO432.out
            subst eo20b
            refine Kd.N_lit_step (Kd.slice 2 (Kd.int .i64)) _ 23 ?hg (N' := 27) ?hd (xs := ([y430, (aA l0 x12_1).f1] : List (List Int))) (inner := [.slice Ao20b y430.length co20b, .slice A419_1 ((aA l0 x12_1).f1).length c419_1]) (ok := (fun k_ => (P0_ k_ ∨ w.heap.size ≤ k_) ∧ oB (.slice Ao12 x7_1.length co12) k_ ∧ oB (.slice Ao20 y421.length co20) k_ ∧ k_ ≠ gb420)) (okp := (fun k_ => (P0_ k_ ∨ w.heap.size ≤ k_) ∧ oB (.slice Ao12 x7_1.length co12) k_ ∧ oB (.slice Ao20 y421.length co20) k_ ∧ k_ ≠ gb420)) ?hr ?hp (fun _ hk => hk) ((show ∀ k_, w19.heap.size ≤ k_ → (fun k_ => (P0_ k_ ∨ w.heap.size ≤ k_) ∧ oB (.slice Ao12 x7_1.length co12) k_ ∧ oB (.slice Ao20 y421.length co20) k_ ∧ k_ ≠ gb420) k_ from fun k_ hk => ⟨(.inr (Nat.le_trans (aD (kB HB)) hk)), Kd.cQ (Kd.S_lt (kS HO_7)) k_ hk, Kd.cQ (yK (kA HO423)) k_ hk, Kd.freshB (g := gb420) (o := .cells #[.slice A419_0 ((aA l0 x12_1).f0).length c419_0, .slice A419_1 ((aA l0 x12_1).f1).length c419_1] 33 (0, 0)) (kM BK420) k_ hk⟩) _ (Nat.le_refl _)) (Below.refl _ _) (Nat.le_refl _) (by simp) ?_; (case hd => rfl); (case hg => rfl); (case hr => first | (go_simp; done) | (go_simp; rfl)); (case hp => exact (cW.one (show Kd.FK (Kd.slice 2 (Kd.int .i64)) _ _ y430 [.slice Ao20b y430.length co20b] from (Kd.FK_slice_mk (zA (zF (ok' := (fun k_ => (P0_ k_ ∨ w.heap.size ≤ k_) ∧ oB (.slice Ao12 x7_1.length co12) k_ ∧ oB (.slice Ao20 y421.length co20) k_ ∧ k_ ≠ gb420)) (Kd.bQ (Kd.cH (HO432.out) (Kd.S_typed HO_7.out) (by decide)) BK420.out (by decide)) (fun k_ hk => ⟨(.inr (hk.1.1.1)), ⟨hk.1.2, ⟨hk.1.1.2, hk.2⟩⟩⟩))).2.1 (Kd.R_F (zF (ok' := (fun k_ => (P0_ k_ ∨ w.heap.size ≤ k_) ∧ oB (.slice Ao12 x7_1.length co12) k_ ∧ oB (.slice Ao20 y421.length co20) k_ ∧ k_ ≠ gb420)) (Kd.bQ (Kd.cH (HO432.out) (Kd.S_typed HO_7.out) (by decide)) BK420.out (by decide)) (fun k_ hk => ⟨(.inr (hk.1.1.1)), ⟨hk.1.2, ⟨hk.1.1.2, hk.2⟩⟩⟩))))) (cW.one (show Kd.FK (Kd.slice 2 (Kd.int .i64)) _ _ ((aA l0 x12_1).f1) [.slice A419_1 ((aA l0 x12_1).f1).length c419_1] from (Kd.FK_slice_mk (Kd.cV (Kd.V_mono (ok' := (fun k_ => (P0_ k_ ∨ w.heap.size ≤ k_) ∧ oB (.slice Ao12 x7_1.length co12) k_ ∧ oB (.slice Ao20 y421.length co20) k_ ∧ k_ ≠ gb420)) (HL419_1.out) (fun k_ hk => ⟨hk.1, ⟨hk.2.2.2.1, ⟨hk.2.1, hk.2.2.2.2⟩⟩⟩))).2.1 (Kd.V_F (Kd.V_mono (ok' := (fun k_ => (P0_ k_ ∨ w.heap.size ≤ k_) ∧ oB (.slice Ao12 x7_1.length co12) k_ ∧ oB (.slice Ao20 y421.length co20) k_ ∧ k_ ≠ gb420)) (HL419_1.out) (fun k_ hk => ⟨hk.1, ⟨hk.2.2.2.1, ⟨hk.2.1, hk.2.2.2.2⟩⟩⟩))))) (cW.none _ _))))
            intro v434 w21 ho22 hb hg_ hnew_
            clear hg_ hnew_
            (first | rw [← Ny433.out] at ho22 | (simp only [Int.reduceToNat] at ho22; rw [← Ny433.out] at ho22))
            have n0_ := yD (Kd.S_below (kS HO_7) hb)
            have n1_ := yD (Kd.bR (kU HO_10) (Kd.N_base ho22) hb)
            have n2_ := yD (Kd.bR (kU HL419_0) (Kd.N_base ho22) hb)
            have n3_ := yD (Kd.bR (kU HL419_1) (Kd.N_base ho22) hb)
            have n4_ := yD (zE (kA HO423) hb)
            have n5_ := yD (Kd.N_lower ho22 (aD (kB HB)))
            have n6_ := yD (zB (kN BK420) hb)
            have n7_ := yD (zC (kB HB) hb)
            clear HO_7 HO_10 HL419_0 HL419_1 HO423 BK420 HB HO432; have HO_7 := n0_; have HO_10 := n1_; have HL419_0 := n2_; have HL419_1 := n3_; have HO423 := n4_; have HO435 := n5_; have BK420 := n6_; have HB := n7_; clear n0_ n1_ n2_ n3_ n4_ n5_ n6_ n7_ hb ho22
            refine hK.out _ _ (cz2 BK420.out) (fun hHeld => ?_)
            clear hK K
            refine nZ 27 ?_
            exact norm_ (by first | (simp only [putAll, Act.put, zH, zI, zJ]; done) | (simp only [putAll, Act.put, zH, zI, zJ]; rfl)) (hJ2_8_11 ((.slice Ao20 y421.length co20), .slice Ao20b y430.length co20b, v434) _ ⟨hHeld, (mV HL419_0 (fun _ hk => ⟨hk.1.1, ⟨hk.1.2.1, ⟨hk.2, ⟨hk.1.2.2.2.1, hk.1.2.2.2.2⟩⟩⟩⟩)), (mV HL419_1 (fun _ hk => ⟨hk.1.1, ⟨hk.1.2.1, ⟨hk.2, ⟨hk.1.2.2.2.1, hk.1.2.2.2.2⟩⟩⟩⟩)), (mR HO423 (fun _ hk => hk.1)), (mN HO435 (fun _ hk => ⟨hk.1, ⟨hk.2.2.1, ⟨hk.2.1, hk.2.2.2⟩⟩⟩)), (mV HO_10 (fun _ hk => ⟨hk.1.1, ⟨hk.1.2.1, ⟨hk.2, ⟨hk.1.2.2.2.1, hk.1.2.2.2.2⟩⟩⟩⟩)), (mS HO_7 (fun _ hk => ⟨hk.1, ⟨hk.2.1, hk.2.2.2⟩⟩)), (kM BK420), (kB HB)⟩)
         ·
          skip
          rintro ⟨v422, v425⟩ w20 ⟨hS_, h0_, h1_, h2_, h3_, h4_, h5_, h6_⟩
          (try dsimp only at h0_ h1_ h2_ h3_ h4_ h5_ h6_); clear HO_7 HO_10 HL419_0 HL419_1 BK420 HB; have HL419_0 := yD h0_; have HL419_1 := yD h1_; have HO426 := yD h2_; have HO_10 := yD h3_; have HO_7 := yD h4_; have BK420 := yD h5_; have HB := yD h6_; clear h0_ h1_ h2_ h3_ h4_ h5_ h6_
          have hHeld : w20.cell? ⟨gb420, 0, none⟩ = some (.slice A419_0 ((aA l0 x12_1).f0).length c419_0) ∧ w20.cell? ⟨gb420, 1, none⟩ = some (.slice A419_1 ((aA l0 x12_1).f1).length c419_1) := hS_
          obtain ⟨Ao21, co21, eo21⟩ := Kd.N_slice HO426.out
          (first | subst eo21 | (injection eo21 with f1_ f2_ f3_; have f4_ := f1_.symm; have f5_ := f3_.symm; clear f1_ f2_ f3_; subst f4_; subst f5_))
          refine norm_ (a' := ?_) ?_ ?_
          rotate_left
          · simp only [putAll, Act.put, zH, zI, zJ]
            rfl
          refine two_ (i := 6) (j := 8) (Ni := some 22) (Nj := some 24) #[true, true, true, true, true, true, true, true, false, true, true, false, false, false, false, false, false] #[true, true, true, true, true, true, false, true, true, true, true, false, false, false, false, false, false] rfl rfl rfl rfl (two_of HT_.out (by kernel_rfl)) (by decide) (by decide) (fun K hK => ?_) (fun K hK => ?_)
          ·
           skip
           refine qg Try.func78 _ (dv (aY.calls k1 _ _ y424 t427 _ ?z1 A7.out) fun v428 w22 ho0 hb => ?_)
           (case z1 => exact ⟨kV (Kd.N_reads' HO426.out).2.2, (Kd.N_reads' HO426.out).2.1⟩)
           replace HO_7 := yD (Kd.S_elder' (kS HO_7) (yH ho0) hb); replace HO_10 := yD (Kd.bR (kU HO_10) (yH ho0) hb); replace HL419_0 := yD (Kd.bR (kU HL419_0) (yH ho0) hb); replace HL419_1 := yD (Kd.bR (kU HL419_1) (yH ho0) hb); replace HO426 := yD (Kd.N_elder' (kQ HO426) (yH ho0) hb); have HO429 := yD (yZ (Kd.R_newM (M := fun k_ => (w.heap.size ≤ k_)) ho0 (aD (kB HB)) (fun k_ h_ => h_)) (aD (kB HB))); replace BK420 := zY BK420 hb; replace HB := zX HB hb
           refine hK.out _ _ (cz2 BK420.out) (fun hHeld => ?_)
           clear hK K
           refine nZ 22 ?_
           exact norm_ (by first | (simp only [putAll, Act.put, zH, zI, zJ]; done) | (simp only [putAll, Act.put, zH, zI, zJ]; rfl)) (hJ2_5_6 (v422, .slice Ao21 y424.length co21, v428) _ ⟨hHeld, (mV HL419_0 (fun _ hk => ⟨hk.1.1, ⟨hk.1.2.1, ⟨hk.2, ⟨hk.1.2.2.1, hk.1.2.2.2⟩⟩⟩⟩)), (mV HL419_1 (fun _ hk => ⟨hk.1.1, ⟨hk.1.2.1, ⟨hk.2, ⟨hk.1.2.2.1, hk.1.2.2.2⟩⟩⟩⟩)), (mN HO426 (fun _ hk => ⟨hk.1.1, ⟨hk.2, ⟨hk.1.2.1, hk.1.2.2⟩⟩⟩)), (mR HO429 (fun _ hk => hk.1)), (mV HO_10 (fun _ hk => ⟨hk.1.1, ⟨hk.1.2.1, ⟨hk.2, ⟨hk.1.2.2.1, hk.1.2.2.2⟩⟩⟩⟩)), (mS HO_7 (fun _ hk => ⟨hk.1.1, ⟨hk.2, hk.1.2⟩⟩)), (kM BK420), (kB HB)⟩)
          ·
           skip
           refine Kd.R_lit_step (Kd.int .i64) _ 2 ?hg (N := 24) ?hd (xs := ([a2] : List Int)) (inner := [.int .i64 a2]) (ok := fun _ => True) (okp := fun _ => True) ?hr ?hp (fun _ hk => hk) trivial (Below.refl _ _) (Nat.le_refl _) (by simp) ?_; (case hd => rfl); (case hg => rfl); (case hr => first | (go_simp; done) | (go_simp; rfl)); (case hp => exact (cW.one (show Kd.M (Kd.int .i64) _ _ _ a2 [.int .i64 a2] from rfl) (cW.none _ _)))
           intro v431 w21 ho22 hb hg_ hnew_
           clear hg_ hnew_
           (first | rw [← Ny430.out] at ho22 | (simp only [Int.reduceToNat] at ho22; rw [← Ny430.out] at ho22))
           have n0_ := yD (Kd.S_elder' (kS HO_7) (yH ho22) hb)
           have n1_ := yD (Kd.bR (kU HO_10) (yH ho22) hb)
           have n2_ := yD (Kd.bR (kU HL419_0) (yH ho22) hb)
           have n3_ := yD (Kd.bR (kU HL419_1) (yH ho22) hb)
           have n4_ := yD (Kd.N_elder' (kQ HO426) (yH ho22) hb)
           have n5_ := yD (yZ (Kd.R_newM (M := fun k_ => (w.heap.size ≤ k_)) ho22 (aD (kB HB)) (fun k_ h_ => h_)) (aD (kB HB)))
           have n6_ := yD (zB (kN BK420) hb)
           have n7_ := yD (zC (kB HB) hb)
           clear HO_7 HO_10 HL419_0 HL419_1 HO426 BK420 HB; have HO_7 := n0_; have HO_10 := n1_; have HL419_0 := n2_; have HL419_1 := n3_; have HO426 := n4_; have HO432 := n5_; have BK420 := n6_; have HB := n7_; clear n0_ n1_ n2_ n3_ n4_ n5_ n6_ n7_ hb ho22
           refine hK.out _ _ (cz2 BK420.out) (fun hHeld => ?_)
           clear hK K
           refine nZ 24 ?_
           exact norm_ (by first | (simp only [putAll, Act.put, zH, zI, zJ]; done) | (simp only [putAll, Act.put, zH, zI, zJ]; rfl)) (hJ2_5_8 (v422, (.slice Ao21 y424.length co21), v431) _ ⟨hHeld, (mV HL419_0 (fun _ hk => ⟨hk.1.1, ⟨hk.1.2.1, ⟨hk.2, ⟨hk.1.2.2.1, hk.1.2.2.2⟩⟩⟩⟩)), (mV HL419_1 (fun _ hk => ⟨hk.1.1, ⟨hk.1.2.1, ⟨hk.2, ⟨hk.1.2.2.1, hk.1.2.2.2⟩⟩⟩⟩)), (mN HO426 (fun _ hk => ⟨hk.1.1, ⟨hk.2, ⟨hk.1.2.1, hk.1.2.2⟩⟩⟩)), (mR HO432 (fun _ hk => hk.1)), (mV HO_10 (fun _ hk => ⟨hk.1.1, ⟨hk.1.2.1, ⟨hk.2, ⟨hk.1.2.2.1, hk.1.2.2.2⟩⟩⟩⟩)), (mS HO_7 (fun _ hk => ⟨hk.1.1, ⟨hk.2, hk.1.2⟩⟩)), (kM BK420), (kB HB)⟩)
        ·
         skip
         rintro ⟨v422, v431, v434⟩ w22 ⟨hS_, h0_, h1_, h2_, h3_, h4_, h5_, h6_, h7_⟩
         (try dsimp only at h0_ h1_ h2_ h3_ h4_ h5_ h6_ h7_); clear HO_7 HO_10 HL419_0 HL419_1 BK420 HB; have HL419_0 := yD h0_; have HL419_1 := yD h1_; have HO423 := yD h2_; have HO435 := yD h3_; have HO_10 := yD h4_; have HO_7 := yD h5_; have BK420 := yD h6_; have HB := yD h7_; clear h0_ h1_ h2_ h3_ h4_ h5_ h6_ h7_
         have hHeld : w22.cell? ⟨gb420, 0, none⟩ = some (.slice A419_0 ((aA l0 x12_1).f0).length c419_0) ∧ w22.cell? ⟨gb420, 1, none⟩ = some (.slice A419_1 ((aA l0 x12_1).f1).length c419_1) := hS_
         obtain ⟨Ao23, co23, eo23⟩ := Kd.bS HO423.out
         (first | subst eo23 | (injection eo23 with f1_ f2_ f3_; have f4_ := f1_.symm; have f5_ := f3_.symm; clear f1_ f2_ f3_; subst f4_; subst f5_))
         refine norm_ (a' := ?_) ?_ ?_
         rotate_left
         · simp only [putAll, Act.put, zH, zI, zJ]
           rfl
         refine qo 17 5 4031 (some 21) fun K hK => ?_
         refine Kd.N_lit_step (Kd.slice 2 (Kd.int .i64)) _ 23 ?hg (N' := 21) ?hd (xs := ([y421, (aA l0 x12_1).f0] : List (List Int))) (inner := [.slice Ao23 y421.length co23, .slice A419_0 ((aA l0 x12_1).f0).length c419_0]) (ok := (fun k_ => (P0_ k_ ∨ w.heap.size ≤ k_) ∧ oB (.slice Ao12 x7_1.length co12) k_ ∧ oB v434 k_ ∧ k_ ≠ gb420)) (okp := (fun k_ => (P0_ k_ ∨ w.heap.size ≤ k_) ∧ oB (.slice Ao12 x7_1.length co12) k_ ∧ oB v434 k_ ∧ k_ ≠ gb420)) ?hr ?hp (fun _ hk => hk) ((show ∀ k_, w22.heap.size ≤ k_ → (fun k_ => (P0_ k_ ∨ w.heap.size ≤ k_) ∧ oB (.slice Ao12 x7_1.length co12) k_ ∧ oB v434 k_ ∧ k_ ≠ gb420) k_ from fun k_ hk => ⟨(.inr (Nat.le_trans (aD (kB HB)) hk)), Kd.cQ (Kd.S_lt (kS HO_7)) k_ hk, Kd.cQ (Kd.N_lt (kQ HO435)) k_ hk, Kd.freshB (g := gb420) (o := .cells #[.slice A419_0 ((aA l0 x12_1).f0).length c419_0, .slice A419_1 ((aA l0 x12_1).f1).length c419_1] 33 (0, 0)) (kM BK420) k_ hk⟩) _ (Nat.le_refl _)) (Below.refl _ _) (Nat.le_refl _) (by simp) ?_; (case hd => rfl); (case hg => rfl); (case hr => first | (go_simp; done) | (go_simp; rfl)); (case hp => exact (cW.one (show Kd.FK (Kd.slice 2 (Kd.int .i64)) _ _ y421 [.slice Ao23 y421.length co23] from (Kd.FK_slice_mk (zA (zF (ok' := (fun k_ => (P0_ k_ ∨ w.heap.size ≤ k_) ∧ oB (.slice Ao12 x7_1.length co12) k_ ∧ oB v434 k_ ∧ k_ ≠ gb420)) (Kd.bQ (Kd.cH (Kd.cH (HO423.out) (Kd.S_typed HO_7.out) (by decide)) (Kd.N_typed HO435.out) (by decide)) BK420.out (by decide)) (fun k_ hk => ⟨(.inr (hk.1.1.1)), ⟨hk.1.1.2, ⟨hk.1.2, hk.2⟩⟩⟩))).2.1 (Kd.R_F (zF (ok' := (fun k_ => (P0_ k_ ∨ w.heap.size ≤ k_) ∧ oB (.slice Ao12 x7_1.length co12) k_ ∧ oB v434 k_ ∧ k_ ≠ gb420)) (Kd.bQ (Kd.cH (Kd.cH (HO423.out) (Kd.S_typed HO_7.out) (by decide)) (Kd.N_typed HO435.out) (by decide)) BK420.out (by decide)) (fun k_ hk => ⟨(.inr (hk.1.1.1)), ⟨hk.1.1.2, ⟨hk.1.2, hk.2⟩⟩⟩))))) (cW.one (show Kd.FK (Kd.slice 2 (Kd.int .i64)) _ _ ((aA l0 x12_1).f0) [.slice A419_0 ((aA l0 x12_1).f0).length c419_0] from (Kd.FK_slice_mk (Kd.cV (Kd.V_mono (ok' := (fun k_ => (P0_ k_ ∨ w.heap.size ≤ k_) ∧ oB (.slice Ao12 x7_1.length co12) k_ ∧ oB v434 k_ ∧ k_ ≠ gb420)) (HL419_0.out) (fun k_ hk => ⟨hk.1, ⟨hk.2.2.2.1, ⟨hk.2.2.1, hk.2.2.2.2⟩⟩⟩))).2.1 (Kd.V_F (Kd.V_mono (ok' := (fun k_ => (P0_ k_ ∨ w.heap.size ≤ k_) ∧ oB (.slice Ao12 x7_1.length co12) k_ ∧ oB v434 k_ ∧ k_ ≠ gb420)) (HL419_0.out) (fun k_ hk => ⟨hk.1, ⟨hk.2.2.2.1, ⟨hk.2.2.1, hk.2.2.2.2⟩⟩⟩))))) (cW.none _ _))))
         intro v425 w24 ho25 hb hg_ hnew_
         clear hg_ hnew_
         (first | rw [← Ny424.out] at ho25 | (simp only [Int.reduceToNat] at ho25; rw [← Ny424.out] at ho25))
         have n0_ := yD (Kd.S_below (kS HO_7) hb)
         have n1_ := yD (Kd.bR (kU HO_10) (Kd.N_base ho25) hb)
         have n2_ := yD (Kd.bR (kU HL419_0) (Kd.N_base ho25) hb)
         have n3_ := yD (Kd.bR (kU HL419_1) (Kd.N_base ho25) hb)
         have n4_ := yD (Kd.N_elder' (kQ HO435) (Kd.N_base ho25) hb)
         have n5_ := yD (Kd.N_lower ho25 (aD (kB HB)))
         have n6_ := yD (zB (kN BK420) hb)
         have n7_ := yD (zC (kB HB) hb)
         clear HO_7 HO_10 HL419_0 HL419_1 HO435 BK420 HB HO423; have HO_7 := n0_; have HO_10 := n1_; have HL419_0 := n2_; have HL419_1 := n3_; have HO435 := n4_; have HO426 := n5_; have BK420 := n6_; have HB := n7_; clear n0_ n1_ n2_ n3_ n4_ n5_ n6_ n7_ hb ho25
         refine hK.out _ _ (cz2 BK420.out) (fun hHeld => ?_)
         clear hK K
         refine nZ 21 ?_
         exact norm_ (by first | (simp only [putAll, Act.put, zH, zI, zJ]; done) | (simp only [putAll, Act.put, zH, zI, zJ]; rfl)) (hJ2_5_8_11 (.slice Ao23 y421.length co23, v425, v431, v434) _ ⟨hHeld, (mV HL419_0 (fun _ hk => ⟨hk.1.1, ⟨hk.2, ⟨hk.1.2.2.1, ⟨hk.1.2.2.2.1, hk.1.2.2.2.2⟩⟩⟩⟩)), (mV HL419_1 (fun _ hk => ⟨hk.1.1, ⟨hk.2, ⟨hk.1.2.2.1, ⟨hk.1.2.2.2.1, hk.1.2.2.2.2⟩⟩⟩⟩)), (mN HO426 (fun _ hk => ⟨hk.1, ⟨hk.2.2.1, ⟨hk.2.1, hk.2.2.2⟩⟩⟩)), (mN HO435 (fun _ hk => ⟨hk.1.1, ⟨hk.2, ⟨hk.1.2.2.1, hk.1.2.2.2⟩⟩⟩)), (mV HO_10 (fun _ hk => ⟨hk.1.1, ⟨hk.2, ⟨hk.1.2.2.1, ⟨hk.1.2.2.2.1, hk.1.2.2.2.2⟩⟩⟩⟩)), (mS HO_7 (fun _ hk => ⟨hk.1, hk.2.2⟩)), (kM BK420), (kB HB)⟩)
       ·
        skip
        rintro ⟨v422, v425, v431⟩ w22 ⟨hS_, h0_, h1_, h2_, h3_, h4_, h5_, h6_, h7_⟩
        (try dsimp only at h0_ h1_ h2_ h3_ h4_ h5_ h6_ h7_); clear HO_7 HO_10 HL419_0 HL419_1 BK420 HB; have HL419_0 := yD h0_; have HL419_1 := yD h1_; have HO426 := yD h2_; have HO432 := yD h3_; have HO_10 := yD h4_; have HO_7 := yD h5_; have BK420 := yD h6_; have HB := yD h7_; clear h0_ h1_ h2_ h3_ h4_ h5_ h6_ h7_
        have hHeld : w22.cell? ⟨gb420, 0, none⟩ = some (.slice A419_0 ((aA l0 x12_1).f0).length c419_0) ∧ w22.cell? ⟨gb420, 1, none⟩ = some (.slice A419_1 ((aA l0 x12_1).f1).length c419_1) := hS_
        obtain ⟨Ao23, co23, eo23⟩ := Kd.N_slice HO426.out
        (first | subst eo23 | (injection eo23 with f1_ f2_ f3_; have f4_ := f1_.symm; have f5_ := f3_.symm; clear f1_ f2_ f3_; subst f4_; subst f5_))
        refine norm_ (a' := ?_) ?_ ?_
        rotate_left
        · simp only [putAll, Act.put, zH, zI, zJ]
          rfl
        refine two_ (i := 6) (j := 11) (Ni := some 22) (Nj := some 27) #[true, true, true, true, true, true, true, true, true, true, true, false, false, false, false, false, false] #[true, true, true, true, true, true, false, true, true, true, true, true, false, false, false, false, false] rfl rfl rfl rfl (two_of HT_.out (by kernel_rfl)) (by decide) (by decide) (fun K hK => ?_) (fun K hK => ?_)
        ·
         skip
         refine qg Try.func78 _ (dv (aY.calls k1 _ _ y424 t427 _ ?z1 A7.out) fun v428 w24 ho0 hb => ?_)
         (case z1 => exact ⟨kV (Kd.N_reads' HO426.out).2.2, (Kd.N_reads' HO426.out).2.1⟩)
         replace HO_7 := yD (Kd.S_elder' (kS HO_7) (yH ho0) hb); replace HO_10 := yD (Kd.bR (kU HO_10) (yH ho0) hb); replace HL419_0 := yD (Kd.bR (kU HL419_0) (yH ho0) hb); replace HL419_1 := yD (Kd.bR (kU HL419_1) (yH ho0) hb); replace HO426 := yD (Kd.N_elder' (kQ HO426) (yH ho0) hb); have HO429 := yD (yZ (yJ (Kd.R_newM (M := fun k_ => (w.heap.size ≤ k_)) ho0 (aD (kB HB)) (fun k_ h_ => h_)) (yK (kA HO432))) (aD (kB HB))); replace HO432 := yD (Kd.R_elder' (kA HO432) (yH ho0) hb); replace BK420 := zY BK420 hb; replace HB := zX HB hb
         refine hK.out _ _ (cz2 BK420.out) (fun hHeld => ?_)
         clear hK K
         refine nZ 22 ?_
         exact norm_ (by first | (simp only [putAll, Act.put, zH, zI, zJ]; done) | (simp only [putAll, Act.put, zH, zI, zJ]; rfl)) (hJ2_5_6_8 (v422, .slice Ao23 y424.length co23, v428, v431) _ ⟨hHeld, (mV HL419_0 (fun _ hk => ⟨hk.1.1, ⟨hk.1.2.1, ⟨hk.2, ⟨hk.1.2.2.1, ⟨hk.1.2.2.2.1, hk.1.2.2.2.2⟩⟩⟩⟩⟩)), (mV HL419_1 (fun _ hk => ⟨hk.1.1, ⟨hk.1.2.1, ⟨hk.2, ⟨hk.1.2.2.1, ⟨hk.1.2.2.2.1, hk.1.2.2.2.2⟩⟩⟩⟩⟩)), (mN HO426 (fun _ hk => ⟨hk.1.1, ⟨hk.2, ⟨hk.1.2.1, ⟨hk.1.2.2.1, hk.1.2.2.2⟩⟩⟩⟩)), (mR HO429 (fun _ hk => ⟨hk.1.1, hk.2⟩)), (kA HO432), (mV HO_10 (fun _ hk => ⟨hk.1.1, ⟨hk.1.2.1, ⟨hk.2, ⟨hk.1.2.2.1, ⟨hk.1.2.2.2.1, hk.1.2.2.2.2⟩⟩⟩⟩⟩)), (mS HO_7 (fun _ hk => ⟨hk.1.1, ⟨hk.2, ⟨hk.1.2.1, hk.1.2.2⟩⟩⟩)), (kM BK420), (kB HB)⟩)
        ·
         skip
         obtain ⟨Ao23b, co23b, eo23b⟩ := Kd.bS HO432.out
         subst eo23b
         refine Kd.N_lit_step (Kd.slice 2 (Kd.int .i64)) _ 23 ?hg (N' := 27) ?hd (xs := ([y430, (aA l0 x12_1).f1] : List (List Int))) (inner := [.slice Ao23b y430.length co23b, .slice A419_1 ((aA l0 x12_1).f1).length c419_1]) (ok := (fun k_ => (P0_ k_ ∨ w.heap.size ≤ k_) ∧ oB (.slice Ao12 x7_1.length co12) k_ ∧ oB (.slice Ao23 y424.length co23) k_ ∧ k_ ≠ gb420)) (okp := (fun k_ => (P0_ k_ ∨ w.heap.size ≤ k_) ∧ oB (.slice Ao12 x7_1.length co12) k_ ∧ oB (.slice Ao23 y424.length co23) k_ ∧ k_ ≠ gb420)) ?hr ?hp (fun _ hk => hk) ((show ∀ k_, w22.heap.size ≤ k_ → (fun k_ => (P0_ k_ ∨ w.heap.size ≤ k_) ∧ oB (.slice Ao12 x7_1.length co12) k_ ∧ oB (.slice Ao23 y424.length co23) k_ ∧ k_ ≠ gb420) k_ from fun k_ hk => ⟨(.inr (Nat.le_trans (aD (kB HB)) hk)), Kd.cQ (Kd.S_lt (kS HO_7)) k_ hk, Kd.cQ (Kd.N_lt (kQ HO426)) k_ hk, Kd.freshB (g := gb420) (o := .cells #[.slice A419_0 ((aA l0 x12_1).f0).length c419_0, .slice A419_1 ((aA l0 x12_1).f1).length c419_1] 33 (0, 0)) (kM BK420) k_ hk⟩) _ (Nat.le_refl _)) (Below.refl _ _) (Nat.le_refl _) (by simp) ?_; (case hd => rfl); (case hg => rfl); (case hr => first | (go_simp; done) | (go_simp; rfl)); (case hp => exact (cW.one (show Kd.FK (Kd.slice 2 (Kd.int .i64)) _ _ y430 [.slice Ao23b y430.length co23b] from (Kd.FK_slice_mk (zA (zF (ok' := (fun k_ => (P0_ k_ ∨ w.heap.size ≤ k_) ∧ oB (.slice Ao12 x7_1.length co12) k_ ∧ oB (.slice Ao23 y424.length co23) k_ ∧ k_ ≠ gb420)) (Kd.bQ (Kd.cH (Kd.cH (HO432.out) (Kd.S_typed HO_7.out) (by decide)) (Kd.N_typed HO426.out) (by decide)) BK420.out (by decide)) (fun k_ hk => ⟨(.inr (hk.1.1.1)), ⟨hk.1.1.2, ⟨hk.1.2, hk.2⟩⟩⟩))).2.1 (Kd.R_F (zF (ok' := (fun k_ => (P0_ k_ ∨ w.heap.size ≤ k_) ∧ oB (.slice Ao12 x7_1.length co12) k_ ∧ oB (.slice Ao23 y424.length co23) k_ ∧ k_ ≠ gb420)) (Kd.bQ (Kd.cH (Kd.cH (HO432.out) (Kd.S_typed HO_7.out) (by decide)) (Kd.N_typed HO426.out) (by decide)) BK420.out (by decide)) (fun k_ hk => ⟨(.inr (hk.1.1.1)), ⟨hk.1.1.2, ⟨hk.1.2, hk.2⟩⟩⟩))))) (cW.one (show Kd.FK (Kd.slice 2 (Kd.int .i64)) _ _ ((aA l0 x12_1).f1) [.slice A419_1 ((aA l0 x12_1).f1).length c419_1] from (Kd.FK_slice_mk (Kd.cV (Kd.V_mono (ok' := (fun k_ => (P0_ k_ ∨ w.heap.size ≤ k_) ∧ oB (.slice Ao12 x7_1.length co12) k_ ∧ oB (.slice Ao23 y424.length co23) k_ ∧ k_ ≠ gb420)) (HL419_1.out) (fun k_ hk => ⟨hk.1, ⟨hk.2.2.2.1, ⟨hk.2.1, hk.2.2.2.2⟩⟩⟩))).2.1 (Kd.V_F (Kd.V_mono (ok' := (fun k_ => (P0_ k_ ∨ w.heap.size ≤ k_) ∧ oB (.slice Ao12 x7_1.length co12) k_ ∧ oB (.slice Ao23 y424.length co23) k_ ∧ k_ ≠ gb420)) (HL419_1.out) (fun k_ hk => ⟨hk.1, ⟨hk.2.2.2.1, ⟨hk.2.1, hk.2.2.2.2⟩⟩⟩))))) (cW.none _ _))))
         intro v434 w24 ho25 hb hg_ hnew_
         clear hg_ hnew_
         (first | rw [← Ny433.out] at ho25 | (simp only [Int.reduceToNat] at ho25; rw [← Ny433.out] at ho25))
         have n0_ := yD (Kd.S_below (kS HO_7) hb)
         have n1_ := yD (Kd.bR (kU HO_10) (Kd.N_base ho25) hb)
         have n2_ := yD (Kd.bR (kU HL419_0) (Kd.N_base ho25) hb)
         have n3_ := yD (Kd.bR (kU HL419_1) (Kd.N_base ho25) hb)
         have n4_ := yD (Kd.N_elder' (kQ HO426) (Kd.N_base ho25) hb)
         have n5_ := yD (Kd.N_lower ho25 (aD (kB HB)))
         have n6_ := yD (zB (kN BK420) hb)
         have n7_ := yD (zC (kB HB) hb)
         clear HO_7 HO_10 HL419_0 HL419_1 HO426 BK420 HB HO432; have HO_7 := n0_; have HO_10 := n1_; have HL419_0 := n2_; have HL419_1 := n3_; have HO426 := n4_; have HO435 := n5_; have BK420 := n6_; have HB := n7_; clear n0_ n1_ n2_ n3_ n4_ n5_ n6_ n7_ hb ho25
         refine hK.out _ _ (cz2 BK420.out) (fun hHeld => ?_)
         clear hK K
         refine nZ 27 ?_
         exact norm_ (by first | (simp only [putAll, Act.put, zH, zI, zJ]; done) | (simp only [putAll, Act.put, zH, zI, zJ]; rfl)) (hJ2_5_8_11 (v422, (.slice Ao23 y424.length co23), .slice Ao23b y430.length co23b, v434) _ ⟨hHeld, (mV HL419_0 (fun _ hk => ⟨hk.1.1, ⟨hk.1.2.1, ⟨hk.2, ⟨hk.1.2.2.2.1, hk.1.2.2.2.2⟩⟩⟩⟩)), (mV HL419_1 (fun _ hk => ⟨hk.1.1, ⟨hk.1.2.1, ⟨hk.2, ⟨hk.1.2.2.2.1, hk.1.2.2.2.2⟩⟩⟩⟩)), (mN HO426 (fun _ hk => ⟨hk.1.1, ⟨hk.2, ⟨hk.1.2.2.1, hk.1.2.2.2⟩⟩⟩)), (mN HO435 (fun _ hk => ⟨hk.1, ⟨hk.2.2.1, ⟨hk.2.1, hk.2.2.2⟩⟩⟩)), (mV HO_10 (fun _ hk => ⟨hk.1.1, ⟨hk.1.2.1, ⟨hk.2, ⟨hk.1.2.2.2.1, hk.1.2.2.2.2⟩⟩⟩⟩)), (mS HO_7 (fun _ hk => ⟨hk.1, hk.2.2⟩)), (kM BK420), (kB HB)⟩)
      ·
       skip
       rintro ⟨v422, v425, v428⟩ w22 ⟨hS_, h0_, h1_, h2_, h3_, h4_, h5_, h6_, h7_⟩
       (try dsimp only at h0_ h1_ h2_ h3_ h4_ h5_ h6_ h7_); clear HO_7 HO_10 HL419_0 HL419_1 BK420 HB; have HL419_0 := yD h0_; have HL419_1 := yD h1_; have HO426 := yD h2_; have HO429 := yD h3_; have HO_10 := yD h4_; have HO_7 := yD h5_; have BK420 := yD h6_; have HB := yD h7_; clear h0_ h1_ h2_ h3_ h4_ h5_ h6_ h7_
       have hHeld : w22.cell? ⟨gb420, 0, none⟩ = some (.slice A419_0 ((aA l0 x12_1).f0).length c419_0) ∧ w22.cell? ⟨gb420, 1, none⟩ = some (.slice A419_1 ((aA l0 x12_1).f1).length c419_1) := hS_
       refine norm_ (a' := ?_) ?_ ?_
       rotate_left
       · simp only [putAll, Act.put, zH, zI, zJ]
         rfl
       refine qo 17 8 2047 (some 24) fun K hK => ?_
       refine Kd.R_lit_step (Kd.int .i64) _ 2 ?hg (N := 24) ?hd (xs := ([a2] : List Int)) (inner := [.int .i64 a2]) (ok := fun _ => True) (okp := fun _ => True) ?hr ?hp (fun _ hk => hk) trivial (Below.refl _ _) (Nat.le_refl _) (by simp) ?_; (case hd => rfl); (case hg => rfl); (case hr => first | (go_simp; done) | (go_simp; rfl)); (case hp => exact (cW.one (show Kd.M (Kd.int .i64) _ _ _ a2 [.int .i64 a2] from rfl) (cW.none _ _)))
       intro v431 w23 ho24 hb hg_ hnew_
       clear hg_ hnew_
       (first | rw [← Ny430.out] at ho24 | (simp only [Int.reduceToNat] at ho24; rw [← Ny430.out] at ho24))
       have n0_ := yD (Kd.S_elder' (kS HO_7) (yH ho24) hb)
       have n1_ := yD (Kd.bR (kU HO_10) (yH ho24) hb)
       have n2_ := yD (Kd.bR (kU HL419_0) (yH ho24) hb)
       have n3_ := yD (Kd.bR (kU HL419_1) (yH ho24) hb)
       have n4_ := yD (Kd.N_elder' (kQ HO426) (yH ho24) hb)
       have n5_ := yD (Kd.R_elder' (kA HO429) (yH ho24) hb)
       have n6_ := yD (yZ (yJ (Kd.R_newM (M := fun k_ => (w.heap.size ≤ k_)) ho24 (aD (kB HB)) (fun k_ h_ => h_)) (yK (kA HO429))) (aD (kB HB)))
       have n7_ := yD (zB (kN BK420) hb)
       have n8_ := yD (zC (kB HB) hb)
       clear HO_7 HO_10 HL419_0 HL419_1 HO426 HO429 BK420 HB; have HO_7 := n0_; have HO_10 := n1_; have HL419_0 := n2_; have HL419_1 := n3_; have HO426 := n4_; have HO429 := n5_; have HO432 := n6_; have BK420 := n7_; have HB := n8_; clear n0_ n1_ n2_ n3_ n4_ n5_ n6_ n7_ n8_ hb ho24
       refine hK.out _ _ (cz2 BK420.out) (fun hHeld => ?_)
       clear hK K
       refine nZ 24 ?_
       exact norm_ (by first | (simp only [putAll, Act.put, zH, zI, zJ]; done) | (simp only [putAll, Act.put, zH, zI, zJ]; rfl)) (hJ2_5_6_8 (v422, v425, v428, v431) _ ⟨hHeld, (mV HL419_0 (fun _ hk => ⟨hk.1.1, ⟨hk.1.2.1, ⟨hk.1.2.2.1, ⟨hk.2, ⟨hk.1.2.2.2.1, hk.1.2.2.2.2⟩⟩⟩⟩⟩)), (mV HL419_1 (fun _ hk => ⟨hk.1.1, ⟨hk.1.2.1, ⟨hk.1.2.2.1, ⟨hk.2, ⟨hk.1.2.2.2.1, hk.1.2.2.2.2⟩⟩⟩⟩⟩)), (mN HO426 (fun _ hk => ⟨hk.1.1, ⟨hk.1.2.1, ⟨hk.2, ⟨hk.1.2.2.1, hk.1.2.2.2⟩⟩⟩⟩)), (kA HO429), (mR HO432 (fun _ hk => ⟨hk.1.1, hk.2⟩)), (mV HO_10 (fun _ hk => ⟨hk.1.1, ⟨hk.1.2.1, ⟨hk.1.2.2.1, ⟨hk.2, ⟨hk.1.2.2.2.1, hk.1.2.2.2.2⟩⟩⟩⟩⟩)), (mS HO_7 (fun _ hk => ⟨hk.1.1, ⟨hk.1.2.1, ⟨hk.2, hk.1.2.2⟩⟩⟩)), (kM BK420), (kB HB)⟩)
     ·
      skip
      rintro ⟨v422, v425, v431, v434⟩ w25 ⟨hS_, h0_, h1_, h2_, h3_, h4_, h5_, h6_, h7_⟩
      (try dsimp only at h0_ h1_ h2_ h3_ h4_ h5_ h6_ h7_); clear HO_7 HO_10 HL419_0 HL419_1 BK420 HB; have HL419_0 := yD h0_; have HL419_1 := yD h1_; have HO426 := yD h2_; have HO435 := yD h3_; have HO_10 := yD h4_; have HO_7 := yD h5_; have BK420 := yD h6_; have HB := yD h7_; clear h0_ h1_ h2_ h3_ h4_ h5_ h6_ h7_
      have hHeld : w25.cell? ⟨gb420, 0, none⟩ = some (.slice A419_0 ((aA l0 x12_1).f0).length c419_0) ∧ w25.cell? ⟨gb420, 1, none⟩ = some (.slice A419_1 ((aA l0 x12_1).f1).length c419_1) := hS_
      obtain ⟨Ao26, co26, eo26⟩ := Kd.N_slice HO426.out
      (first | subst eo26 | (injection eo26 with f1_ f2_ f3_; have f4_ := f1_.symm; have f5_ := f3_.symm; clear f1_ f2_ f3_; subst f4_; subst f5_))
      refine norm_ (a' := ?_) ?_ ?_
      rotate_left
      · simp only [putAll, Act.put, zH, zI, zJ]
        rfl
      refine qo 17 6 4095 (some 22) fun K hK => ?_
      refine qg Try.func78 _ (dv (aY.calls k1 _ _ y424 t427 _ ?z1 A7.out) fun v428 w27 ho0 hb => ?_)
      (case z1 => exact ⟨kV (Kd.N_reads' HO426.out).2.2, (Kd.N_reads' HO426.out).2.1⟩)
      replace HO_7 := yD (Kd.S_elder' (kS HO_7) (yH ho0) hb); replace HO_10 := yD (Kd.bR (kU HO_10) (yH ho0) hb); replace HL419_0 := yD (Kd.bR (kU HL419_0) (yH ho0) hb); replace HL419_1 := yD (Kd.bR (kU HL419_1) (yH ho0) hb); replace HO426 := yD (Kd.N_elder' (kQ HO426) (yH ho0) hb); replace HO435 := yD (Kd.N_elder' (kQ HO435) (yH ho0) hb); have HO429 := yD (yZ (Kd.R_newM (M := fun k_ => (w.heap.size ≤ k_)) ho0 (aD (kB HB)) (fun k_ h_ => h_)) (aD (kB HB))); replace BK420 := zY BK420 hb; replace HB := zX HB hb
      refine hK.out _ _ (cz2 BK420.out) (fun hHeld => ?_)
      clear hK K
      refine nZ 22 ?_
      exact norm_ (by first | (simp only [putAll, Act.put, zH, zI, zJ]; done) | (simp only [putAll, Act.put, zH, zI, zJ]; rfl)) (hJ2_5_6_8_11 (v422, .slice Ao26 y424.length co26, v428, v431, v434) _ ⟨hHeld, (mV HL419_0 (fun _ hk => ⟨hk.1.1, ⟨hk.1.2.1, ⟨hk.2, ⟨hk.1.2.2.1, ⟨hk.1.2.2.2.1, hk.1.2.2.2.2⟩⟩⟩⟩⟩)), (mV HL419_1 (fun _ hk => ⟨hk.1.1, ⟨hk.1.2.1, ⟨hk.2, ⟨hk.1.2.2.1, ⟨hk.1.2.2.2.1, hk.1.2.2.2.2⟩⟩⟩⟩⟩)), (mN HO426 (fun _ hk => ⟨hk.1.1, ⟨hk.2, ⟨hk.1.2.1, ⟨hk.1.2.2.1, hk.1.2.2.2⟩⟩⟩⟩)), (mR HO429 (fun _ hk => hk.1)), (mN HO435 (fun _ hk => ⟨hk.1.1, ⟨hk.1.2.1, ⟨hk.2, ⟨hk.1.2.2.1, hk.1.2.2.2⟩⟩⟩⟩)), (mV HO_10 (fun _ hk => ⟨hk.1.1, ⟨hk.1.2.1, ⟨hk.2, ⟨hk.1.2.2.1, ⟨hk.1.2.2.2.1, hk.1.2.2.2.2⟩⟩⟩⟩⟩)), (mS HO_7 (fun _ hk => ⟨hk.1.1, ⟨hk.2, hk.1.2⟩⟩)), (kM BK420), (kB HB)⟩)
    ·
     skip
     rintro ⟨v422, v425, v428, v431⟩ w24 ⟨hS_, h0_, h1_, h2_, h3_, h4_, h5_, h6_, h7_, h8_⟩
     (try dsimp only at h0_ h1_ h2_ h3_ h4_ h5_ h6_ h7_ h8_); clear HO_7 HO_10 HL419_0 HL419_1 BK420 HB; have HL419_0 := yD h0_; have HL419_1 := yD h1_; have HO426 := yD h2_; have HO429 := yD h3_; have HO432 := yD h4_; have HO_10 := yD h5_; have HO_7 := yD h6_; have BK420 := yD h7_; have HB := yD h8_; clear h0_ h1_ h2_ h3_ h4_ h5_ h6_ h7_ h8_
     have hHeld : w24.cell? ⟨gb420, 0, none⟩ = some (.slice A419_0 ((aA l0 x12_1).f0).length c419_0) ∧ w24.cell? ⟨gb420, 1, none⟩ = some (.slice A419_1 ((aA l0 x12_1).f1).length c419_1) := hS_
     obtain ⟨Ao25, co25, eo25⟩ := Kd.bS HO432.out
     (first | subst eo25 | (injection eo25 with f1_ f2_ f3_; have f4_ := f1_.symm; have f5_ := f3_.symm; clear f1_ f2_ f3_; subst f4_; subst f5_))
     refine norm_ (a' := ?_) ?_ ?_
     rotate_left
     · simp only [putAll, Act.put, zH, zI, zJ]
       rfl
     refine qo 17 11 4095 (some 27) fun K hK => ?_
     refine Kd.N_lit_step (Kd.slice 2 (Kd.int .i64)) _ 23 ?hg (N' := 27) ?hd (xs := ([y430, (aA l0 x12_1).f1] : List (List Int))) (inner := [.slice Ao25 y430.length co25, .slice A419_1 ((aA l0 x12_1).f1).length c419_1]) (ok := (fun k_ => (P0_ k_ ∨ w.heap.size ≤ k_) ∧ oB (.slice Ao12 x7_1.length co12) k_ ∧ oB v425 k_ ∧ oB v428 k_ ∧ k_ ≠ gb420)) (okp := (fun k_ => (P0_ k_ ∨ w.heap.size ≤ k_) ∧ oB (.slice Ao12 x7_1.length co12) k_ ∧ oB v425 k_ ∧ oB v428 k_ ∧ k_ ≠ gb420)) ?hr ?hp (fun _ hk => hk) ((show ∀ k_, w24.heap.size ≤ k_ → (fun k_ => (P0_ k_ ∨ w.heap.size ≤ k_) ∧ oB (.slice Ao12 x7_1.length co12) k_ ∧ oB v425 k_ ∧ oB v428 k_ ∧ k_ ≠ gb420) k_ from fun k_ hk => ⟨(.inr (Nat.le_trans (aD (kB HB)) hk)), Kd.cQ (Kd.S_lt (kS HO_7)) k_ hk, Kd.cQ (Kd.N_lt (kQ HO426)) k_ hk, Kd.cQ (yK (kA HO429)) k_ hk, Kd.freshB (g := gb420) (o := .cells #[.slice A419_0 ((aA l0 x12_1).f0).length c419_0, .slice A419_1 ((aA l0 x12_1).f1).length c419_1] 33 (0, 0)) (kM BK420) k_ hk⟩) _ (Nat.le_refl _)) (Below.refl _ _) (Nat.le_refl _) (by simp) ?_; (case hd => rfl); (case hg => rfl); (case hr => first | (go_simp; done) | (go_simp; rfl)); (case hp => exact (cW.one (show Kd.FK (Kd.slice 2 (Kd.int .i64)) _ _ y430 [.slice Ao25 y430.length co25] from (Kd.FK_slice_mk (zA (zF (ok' := (fun k_ => (P0_ k_ ∨ w.heap.size ≤ k_) ∧ oB (.slice Ao12 x7_1.length co12) k_ ∧ oB v425 k_ ∧ oB v428 k_ ∧ k_ ≠ gb420)) (Kd.bQ (Kd.cH (Kd.cH (HO432.out) (Kd.S_typed HO_7.out) (by decide)) (Kd.N_typed HO426.out) (by decide)) BK420.out (by decide)) (fun k_ hk => ⟨(.inr (hk.1.1.1.1)), ⟨hk.1.1.2, ⟨hk.1.2, ⟨hk.1.1.1.2, hk.2⟩⟩⟩⟩))).2.1 (Kd.R_F (zF (ok' := (fun k_ => (P0_ k_ ∨ w.heap.size ≤ k_) ∧ oB (.slice Ao12 x7_1.length co12) k_ ∧ oB v425 k_ ∧ oB v428 k_ ∧ k_ ≠ gb420)) (Kd.bQ (Kd.cH (Kd.cH (HO432.out) (Kd.S_typed HO_7.out) (by decide)) (Kd.N_typed HO426.out) (by decide)) BK420.out (by decide)) (fun k_ hk => ⟨(.inr (hk.1.1.1.1)), ⟨hk.1.1.2, ⟨hk.1.2, ⟨hk.1.1.1.2, hk.2⟩⟩⟩⟩))))) (cW.one (show Kd.FK (Kd.slice 2 (Kd.int .i64)) _ _ ((aA l0 x12_1).f1) [.slice A419_1 ((aA l0 x12_1).f1).length c419_1] from (Kd.FK_slice_mk (Kd.cV (Kd.V_mono (ok' := (fun k_ => (P0_ k_ ∨ w.heap.size ≤ k_) ∧ oB (.slice Ao12 x7_1.length co12) k_ ∧ oB v425 k_ ∧ oB v428 k_ ∧ k_ ≠ gb420)) (HL419_1.out) (fun k_ hk => ⟨hk.1, ⟨hk.2.2.2.2.1, ⟨hk.2.1, ⟨hk.2.2.1, hk.2.2.2.2.2⟩⟩⟩⟩))).2.1 (Kd.V_F (Kd.V_mono (ok' := (fun k_ => (P0_ k_ ∨ w.heap.size ≤ k_) ∧ oB (.slice Ao12 x7_1.length co12) k_ ∧ oB v425 k_ ∧ oB v428 k_ ∧ k_ ≠ gb420)) (HL419_1.out) (fun k_ hk => ⟨hk.1, ⟨hk.2.2.2.2.1, ⟨hk.2.1, ⟨hk.2.2.1, hk.2.2.2.2.2⟩⟩⟩⟩))))) (cW.none _ _))))
     intro v434 w26 ho27 hb hg_ hnew_
     clear hg_ hnew_
     (first | rw [← Ny433.out] at ho27 | (simp only [Int.reduceToNat] at ho27; rw [← Ny433.out] at ho27))
     have n0_ := yD (Kd.S_below (kS HO_7) hb)
     have n1_ := yD (Kd.bR (kU HO_10) (Kd.N_base ho27) hb)
     have n2_ := yD (Kd.bR (kU HL419_0) (Kd.N_base ho27) hb)
     have n3_ := yD (Kd.bR (kU HL419_1) (Kd.N_base ho27) hb)
     have n4_ := yD (Kd.N_elder' (kQ HO426) (Kd.N_base ho27) hb)
     have n5_ := yD (zE (kA HO429) hb)
     have n6_ := yD (Kd.N_lower ho27 (aD (kB HB)))
     have n7_ := yD (zB (kN BK420) hb)
     have n8_ := yD (zC (kB HB) hb)
     clear HO_7 HO_10 HL419_0 HL419_1 HO426 HO429 BK420 HB HO432; have HO_7 := n0_; have HO_10 := n1_; have HL419_0 := n2_; have HL419_1 := n3_; have HO426 := n4_; have HO429 := n5_; have HO435 := n6_; have BK420 := n7_; have HB := n8_; clear n0_ n1_ n2_ n3_ n4_ n5_ n6_ n7_ n8_ hb ho27
     refine hK.out _ _ (cz2 BK420.out) (fun hHeld => ?_)
     clear hK K
     refine nZ 27 ?_
     exact norm_ (by first | (simp only [putAll, Act.put, zH, zI, zJ]; done) | (simp only [putAll, Act.put, zH, zI, zJ]; rfl)) (hJ2_5_6_8_11 (v422, v425, v428, .slice Ao25 y430.length co25, v434) _ ⟨hHeld, (mV HL419_0 (fun _ hk => ⟨hk.1.1, ⟨hk.1.2.1, ⟨hk.1.2.2.1, ⟨hk.2, ⟨hk.1.2.2.2.2.1, hk.1.2.2.2.2.2⟩⟩⟩⟩⟩)), (mV HL419_1 (fun _ hk => ⟨hk.1.1, ⟨hk.1.2.1, ⟨hk.1.2.2.1, ⟨hk.2, ⟨hk.1.2.2.2.2.1, hk.1.2.2.2.2.2⟩⟩⟩⟩⟩)), (mN HO426 (fun _ hk => ⟨hk.1.1, ⟨hk.1.2.1, ⟨hk.2, ⟨hk.1.2.2.2.1, hk.1.2.2.2.2⟩⟩⟩⟩)), (mR HO429 (fun _ hk => hk.1)), (mN HO435 (fun _ hk => ⟨hk.1, ⟨hk.2.2.1, ⟨hk.2.2.2.1, ⟨hk.2.1, hk.2.2.2.2⟩⟩⟩⟩)), (mV HO_10 (fun _ hk => ⟨hk.1.1, ⟨hk.1.2.1, ⟨hk.1.2.2.1, ⟨hk.2, ⟨hk.1.2.2.2.2.1, hk.1.2.2.2.2.2⟩⟩⟩⟩⟩)), (mS HO_7 (fun _ hk => ⟨hk.1, ⟨hk.2.1, hk.2.2.2⟩⟩)), (kM BK420), (kB HB)⟩)
   rintro ⟨v422, v425, v428, v431, v434⟩ w27 ⟨hS_, h0_, h1_, h2_, h3_, h4_, h5_, h6_, h7_, h8_⟩
   (try dsimp only at h0_ h1_ h2_ h3_ h4_ h5_ h6_ h7_ h8_); clear HO_7 HO_10 HL419_0 HL419_1 BK420 HB; have HL419_0 := yD h0_; have HL419_1 := yD h1_; have HO426 := yD h2_; have HO429 := yD h3_; have HO435 := yD h4_; have HO_10 := yD h5_; have HO_7 := yD h6_; have BK420 := yD h7_; have HB := yD h8_; clear h0_ h1_ h2_ h3_ h4_ h5_ h6_ h7_ h8_
   have hHeld : w27.cell? ⟨gb420, 0, none⟩ = some (.slice A419_0 ((aA l0 x12_1).f0).length c419_0) ∧ w27.cell? ⟨gb420, 1, none⟩ = some (.slice A419_1 ((aA l0 x12_1).f1).length c419_1) := hS_
   obtain ⟨Ao28, co28, eo28⟩ := Kd.N_slice HO435.out
   (first | subst eo28 | (injection eo28 with f1_ f2_ f3_; have f4_ := f1_.symm; have f5_ := f3_.symm; clear f1_ f2_ f3_; subst f4_; subst f5_))
   refine norm_ (a' := ?_) ?_ ?_
   rotate_left
   · simp only [putAll, Act.put, zH, zI, zJ]
     rfl
   refine qo 17 12 8191 (some 28) fun K hK => ?_
   refine qg Try.func78 _ (dv (aY.calls k1 _ _ y433 t436 _ ?z1 A8.out) fun v437 w29 ho0 hb => ?_)
   (case z1 => exact ⟨kV (Kd.N_reads' HO435.out).2.2, (Kd.N_reads' HO435.out).2.1⟩)
   replace HO_7 := yD (Kd.S_elder' (kS HO_7) (yH ho0) hb); replace HO_10 := yD (Kd.bR (kU HO_10) (yH ho0) hb); replace HL419_0 := yD (Kd.bR (kU HL419_0) (yH ho0) hb); replace HL419_1 := yD (Kd.bR (kU HL419_1) (yH ho0) hb); replace HO426 := yD (Kd.N_elder' (kQ HO426) (yH ho0) hb); replace HO435 := yD (Kd.N_elder' (kQ HO435) (yH ho0) hb); have HO438 := yD (yZ (yJ (Kd.R_newM (M := fun k_ => (w.heap.size ≤ k_)) ho0 (aD (kB HB)) (fun k_ h_ => h_)) (yK (kA HO429))) (aD (kB HB))); replace HO429 := yD (Kd.R_elder' (kA HO429) (yH ho0) hb); replace BK420 := zY BK420 hb; replace HB := zX HB hb
   obtain ⟨Ao30, co30, eo30⟩ := Kd.bS HO438.out
   (first | subst eo30 | (injection eo30 with f1_ f2_ f3_; have f4_ := f1_.symm; have f5_ := f3_.symm; clear f1_ f2_ f3_; subst f4_; subst f5_))
   obtain ⟨Ao31, co31, eo31⟩ := Kd.bS HO429.out
   (first | subst eo31 | (injection eo31 with f1_ f2_ f3_; have f4_ := f1_.symm; have f5_ := f3_.symm; clear f1_ f2_ f3_; subst f4_; subst f5_))
   refine hK.out _ _ (cz2 BK420.out) (fun hHeld => ?_)
   clear hK K
   refine nZ 28 ?_
   refine qa 17 13 16383 ?_
   refine qo 17 14 32767 (some 30) fun K hK => ?_
   refine value_ (w1 := ?_) (v := ?_) (by rfl) rfl ?_ ?_
   rotate_left 2
   · go_simp
     constructor
     · rfl
     · rfl
   refine hK.out _ _ (cz2 (yN BK420.out _)) (fun hHeld => ?_)
   clear hK K
   refine nZ 30 ?_
   refine qo 17 15 65535 (some 31) fun K hK => ?_
   refine Kd.S_append_step k33 (w0 := w) w.heap.size (by rfl) (.tmp 16) (.tmp 30) 29 33 (.agg #[(.slice none 0 0), (.slice none 0 0)]) 48 rfl Try.underlying29 info33 rfl (by decide) (by omega) (.slice Ao12 x7_1.length co12) x7_1 (⟨t427, t436⟩ : S33) [.slice Ao31 t427.length co31, .slice Ao30 t436.length co30] (fun k_ => (w.heap.size ≤ k_) ∧ k_ ≠ gb420) (fun k_ => some k_ = (.slice Ao31 t427.length co31 : Value).ownBlock ∨ some k_ = (.slice Ao30 t436.length co30 : Value).ownBlock) rfl rfl ?aP (fun k_ hk_ => hk_.elim (fun h_ => ((zF (ok' := fun k_ => ((fun k_ => (w.heap.size ≤ k_) ∧ k_ ≠ gb420)) k_ ∧ oB (.slice Ao12 x7_1.length co12) k_) (Kd.bQ (Kd.cH (HO429.out) (Kd.S_typed HO_7.out) (by decide)) BK420.out (by decide)) (fun k_ hk => ⟨⟨hk.1.1.1, hk.2⟩, hk.1.2⟩))).1 k_ h_.symm) (fun h_ => ((zF (ok' := fun k_ => ((fun k_ => (w.heap.size ≤ k_) ∧ k_ ≠ gb420)) k_ ∧ oB (.slice Ao12 x7_1.length co12) k_) (Kd.bQ (Kd.cH (HO438.out) (Kd.S_typed HO_7.out) (by decide)) BK420.out (by decide)) (fun k_ hk => ⟨⟨hk.1.1.1.1, hk.2⟩, hk.1.2⟩))).1 k_ h_.symm)) ?aF ?aO ?aB ?aS ?aL ?_
   (case aP => exact k33_mkM _ _ _ (⟨t427, t436⟩ : S33) (zF (Kd.R_tight rfl (zF (ok' := fun k_ => ((fun k_ => (w.heap.size ≤ k_) ∧ k_ ≠ gb420)) k_ ∧ oB (.slice Ao12 x7_1.length co12) k_) (Kd.bQ (Kd.cH (HO429.out) (Kd.S_typed HO_7.out) (by decide)) BK420.out (by decide)) (fun k_ hk => ⟨⟨hk.1.1.1, hk.2⟩, hk.1.2⟩))) (fun _ h_ => Or.inl h_)) (zF (Kd.R_tight rfl (zF (ok' := fun k_ => ((fun k_ => (w.heap.size ≤ k_) ∧ k_ ≠ gb420)) k_ ∧ oB (.slice Ao12 x7_1.length co12) k_) (Kd.bQ (Kd.cH (HO438.out) (Kd.S_typed HO_7.out) (by decide)) BK420.out (by decide)) (fun k_ hk => ⟨⟨hk.1.1.1.1, hk.2⟩, hk.1.2⟩))) (fun _ h_ => Or.inr (h_))))
   (case aB => exact (kB HB))
   (case aF => exact (fun k_ hk => ⟨(Nat.le_trans (aD (kB HB)) hk), Kd.freshB (g := gb420) (o := .cells #[.slice A419_0 ((aA l0 x12_1).f0).length c419_0, .slice A419_1 ((aA l0 x12_1).f1).length c419_1] 33 (0, 0)) (kM BK420) k_ hk⟩))
   (case aO => exact (mS HO_7 (fun k_ hk => ⟨⟨hk.1.1, hk.1.2.2⟩, fun e_ => e_.elim (fun h_ => hk.1.2.1 h_) (fun h_ => hk.2 h_)⟩)))
   (case aS => exact (aD (kB HB)))
   (case aL => have := LMc9.out; omega)
   intro v440 w32 ho hb hg hat
   rw [← Ny439.out] at ho
   have n0_ := yD (Kd.V_afterv (ok := (fun k_ => (P0_ k_ ∨ w.heap.size ≤ k_) ∧ oB v425 k_ ∧ oB (.slice Ao31 t427.length co31) k_ ∧ oB (.slice Ao28 y433.length co28) k_ ∧ oB (.slice Ao30 t436.length co30) k_ ∧ k_ ≠ gb420)) (mV HO_10 (fun _ hk => ⟨⟨hk.1.1, ⟨hk.1.2.1, ⟨hk.1.2.2.1, ⟨hk.1.2.2.2.1, ⟨hk.2, hk.1.2.2.2.2.2⟩⟩⟩⟩⟩, hk.1.2.2.2.2.1⟩)) hg hat)
   have n1_ := yD (Kd.V_afterv (ok := (fun k_ => (P0_ k_ ∨ w.heap.size ≤ k_) ∧ oB v425 k_ ∧ oB (.slice Ao31 t427.length co31) k_ ∧ oB (.slice Ao28 y433.length co28) k_ ∧ oB (.slice Ao30 t436.length co30) k_ ∧ k_ ≠ gb420)) (mV HL419_0 (fun _ hk => ⟨⟨hk.1.1, ⟨hk.1.2.1, ⟨hk.1.2.2.1, ⟨hk.1.2.2.2.1, ⟨hk.2, hk.1.2.2.2.2.2⟩⟩⟩⟩⟩, hk.1.2.2.2.2.1⟩)) hg hat)
   have n2_ := yD (Kd.V_afterv (ok := (fun k_ => (P0_ k_ ∨ w.heap.size ≤ k_) ∧ oB v425 k_ ∧ oB (.slice Ao31 t427.length co31) k_ ∧ oB (.slice Ao28 y433.length co28) k_ ∧ oB (.slice Ao30 t436.length co30) k_ ∧ k_ ≠ gb420)) (mV HL419_1 (fun _ hk => ⟨⟨hk.1.1, ⟨hk.1.2.1, ⟨hk.1.2.2.1, ⟨hk.1.2.2.2.1, ⟨hk.2, hk.1.2.2.2.2.2⟩⟩⟩⟩⟩, hk.1.2.2.2.2.1⟩)) hg hat)
   have n3_ := yD (blk_grown (g := gb420) (o := .cells #[.slice A419_0 ((aA l0 x12_1).f0).length c419_0, .slice A419_1 ((aA l0 x12_1).f1).length c419_1] 33 (0, 0)) (kM BK420) hg (Kd.S_away HO_7.out (fun _ hk => hk.1.2.2)))
   have n4_ := yD (Kd.N_afterv (ok := (fun k_ => (P0_ k_ ∨ w.heap.size ≤ k_) ∧ oB (.slice Ao31 t427.length co31) k_ ∧ oB (.slice Ao28 y433.length co28) k_ ∧ oB (.slice Ao30 t436.length co30) k_ ∧ k_ ≠ gb420)) (mN HO426 (fun _ hk => ⟨⟨hk.1.1, ⟨hk.1.2.1, ⟨hk.1.2.2.1, ⟨hk.2, hk.1.2.2.2.2⟩⟩⟩⟩, hk.1.2.2.2.1⟩)) hg hat)
   have n5_ := yD (Kd.N_afterv (ok := (fun k_ => (P0_ k_ ∨ w.heap.size ≤ k_) ∧ oB v425 k_ ∧ oB (.slice Ao31 t427.length co31) k_ ∧ oB (.slice Ao30 t436.length co30) k_ ∧ k_ ≠ gb420)) (mN HO435 (fun _ hk => ⟨⟨hk.1.1, ⟨hk.1.2.1, ⟨hk.1.2.2.1, ⟨hk.2, hk.1.2.2.2.2⟩⟩⟩⟩, hk.1.2.2.2.1⟩)) hg hat)
   have n6_ := yD (hb)
   have n7_ := yD (ho)
   clear HO_10 HL419_0 HL419_1 BK420 HO426 HO435 HB HO_7 HO429 HO438; have HO_10 := n0_; have HL419_0 := n1_; have HL419_1 := n2_; have BK420 := n3_; have HO426 := n4_; have HO435 := n5_; have HB := n6_; have HO441 := n7_; clear n0_ n1_ n2_ n3_ n4_ n5_ n6_ n7_ ho hb hg hat
   refine hK.out _ _ (cz2 BK420.out) (fun hHeld => ?_)
   clear hK K
   refine nZ 31 ?_
   refine qa 17 16 131071 ?_
   refine qd ?_
   try go_wp2
   go_roundg k1
   case measure => have := HK1.out; omega
   case rel => exact ⟨(y439), (wrap64 (x12_1 + 1)), kF, H', ⟨by have := HK1.out; omega⟩, ⟨mS HO441 (fun _ hk => hk.1)⟩, ⟨mV HO_10 (fun _ hk => ⟨hk.1.1, hk.2⟩)⟩, ⟨kR1 HB⟩⟩
end Go.Proofs.Ytkkdkeogplgkfaa.PFnSelectedBoxes
