/- Each function here comes to its plain form. It holds without a condition. -/
import Derived.Test.YtdiaebjbiddefaaPFnExactBoxesOfx0
import Derived.Test.YtdiaebjbiddefaaPFnExactBoxesOfx5
namespace Go.Proofs.Ytdiaebjbiddefaa.PFnExactBoxesOf
open Go.RowKit Go.Proofs.YtdiaebjbiddefaaW.PrintWords Go.Proofs.YtdiaebjbiddefaaW.PrintLast Go.Proofs.YtdiaebjbiddefaaW.PrintMore
attribute [local go_sem] max2_int min2_int max_two min_two max_three min_three max_four min_four   -- for this text's walks alone
set_option linter.unusedVariables false
set_option linter.unusedSimpArgs false
set_option maxHeartbeats 8000000
set_option maxRecDepth 100000

/-! ### impl_prefixed: function 124 -/
def impl_prefixed.l0 : Nat → Int → Int → List (S42) → List (S42) → Int → Int → Option ((List (S42)))
 | 0, _, _, _, _, _, _ => none
 | k + 1, x1, x2, x7, x10, x11, x12 => if x12 < x11 then (if 0 ≤ x12 then (if x12 < (x10.length : Int) then ((slices_Concat_int64_int64.f k (([(([x1] : List Int)), (rd_T42 x10 x12).f0] : List (List Int)))).bind fun t574 => ((slices_Concat_int64_int64.f k (([(([x2] : List Int)), (rd_T42 x10 x12).f1] : List (List Int)))).bind fun t583 => (if x7.length < 2932031007402 then (impl_prefixed.l0 k x1 x2 (x7 ++ [(⟨t574, t583⟩ : S42)]) x10 x11 (wrap64 (x12 + 1))) else (none)))) else (none)) else (none)) else (some x7)
def impl_prefixed.f (k : Nat) (l0 : List (S42)) (a1 : Int) (a2 : Int) : Option ((List (S42))) := impl_prefixed.l0 k a1 a2 ([] : List (S42)) l0 (l0.length : Int) 0
def impl_prefixed.T5 : Bool × List (List Nat × List Nat) := (true, [([], []), ([], []), ([1], [1]), ([], []), ([3], [3]), ([2, 4], [2, 4]), ([5], [5]), ([], []), ([7], [7]), ([], []), ([9], [9]), ([8, 10], [8, 10]), ([11, 6], [11]), ([6, 12], [6, 12]), ([13], [13]), ([0, 14, 12], [0, 14]), ([15, 15, 0, 1, 2, 3, 4, 5, 6, 7, 8, 9, 10, 11, 12, 13, 14, 15], [0, 15])])
def impl_prefixed.B5 : List Nat := [0, 0, 2, 0, 8, 30, 62, 0, 128, 0, 512, 1920, 4094, 8190, 16382, 32767, 65535]
theorem impl_prefixed.tab5 : rtab .any (opsOf Try.f124 5) = impl_prefixed.T5 := by kernel_rfl
theorem impl_prefixed.bits5 : waitsOk impl_prefixed.T5.2 impl_prefixed.B5 = true := by kernel_rfl
theorem impl_prefixed.calls (k : Nat) (P0_ : Nat → Prop) (A0 : Option Addr) (c0 : Nat) (l0 : List (S42)) (a1 : Int) (a2 : Int) (r : List (S42)) (w : World) (hs0 : Kd.V k42 42 w w.heap.size (fun k_ => P0_ k_) (.slice A0 l0.length c0) l0) (h : impl_prefixed.f k l0 a1 a2 = some r) :
 Calls Try.prog 124 #[.slice A0 l0.length c0, .int .i64 a1, .int .i64 a2] w fun e w' => ∃ v0_ : Value, e = .returned (v0_) ∧ Kd.S k42 42 w' w.heap.size (fun k_ => (w.heap.size ≤ k_)) v0_ r ∧ Below w.heap.size w w' := by
 have hu42 := Try.underlying42
 have HO0 := yD (show Kd.V k42 42 w w.heap.size (fun k_ => (P0_ k_ ∨ w.heap.size ≤ k_)) (.slice A0 l0.length c0) l0 from Kd.V_mono hs0 (fun k_ hk => .inl hk))
 have HB := yD (Below.refl w.heap.size w)
 have H : (impl_prefixed.l0 k a1 a2 ([] : List (S42)) l0 (l0.length : Int) 0) = some r := h
 clear h
 have H' := yD H
 clear H; go_enter Try.func124, Try.ntmps124
 go_wp2
 go_loopg [7, 12] k (fun kq v7 v12 w' => ∃ (x7_1 : List (S42)) (x12_1 : Int), v12 = .int .i64 x12_1 ∧ Aside0 (impl_prefixed.l0 kq a1 a2 x7_1 l0 (l0.length : Int) x12_1 = some r) ∧ Aside0 (kq ≤ k) ∧ Aside0 (Kd.S k42 42 w' w.heap.size (fun k_ => (w.heap.size ≤ k_)) v7 x7_1) ∧ Aside0 (Kd.V k42 42 w' w.heap.size (fun k_ => (P0_ k_ ∨ w.heap.size ≤ k_) ∧ oB v7 k_) (.slice A0 l0.length c0) l0) ∧ Aside0 (Below w.heap.size w w'))
 case atStart => exact ⟨(([] : List (S42))), (0), kF, H', ⟨Nat.le_refl _⟩, ⟨by first | exact Kd.S_nil _ _ _ _ _ | exact Kd.N_nil _ _ _ _ _ | exact Kd.V_nil _ _ _ _ _ | exact Kd.Q_nil _ _ _ _ _ | exact Kd.R_nil _ _ _ _ _⟩, ⟨mV HO0 (fun _ hk => ⟨hk, (by simp [oB, Value.ownBlock])⟩)⟩, ⟨kR1 HB⟩⟩
 case round =>
  clear H'
  obtain ⟨x7_1, x12_1, rfl, HA, HK1, HO_7, HO_10, HB⟩ := hrel
  cases gk with
  | zero => exact absurd HA.out (by simp [impl_prefixed.l0])
  | succ k1 =>
   have H := HA.out; clear HA
   simp only [impl_prefixed.l0] at H
   replace H := sG H; rcases H with ⟨c4b0, H⟩ | ⟨c4b0, H⟩
   · obtain rfl := sJ H
     go_wp2
     go_ret
     exact ⟨_, kE, kS HO_7, kR1 HB⟩
   replace ⟨c5b0, H⟩ := sE H
   replace ⟨c6b0, H⟩ := sE H
   generalize hy568 : ((([a1] : List Int)) : List Int) = y568 at H
   have Ny568 := yD hy568.symm
   clear hy568
   generalize hy571 : ((([y568, (rd_T42 l0 x12_1).f0] : List (List Int))) : List (List Int)) = y571 at H
   have Ny571 := yD hy571.symm
   clear hy571
   replace ⟨t574, A7, H⟩ := sV H
   generalize hy577 : ((([a2] : List Int)) : List Int) = y577 at H
   have Ny577 := yD hy577.symm
   clear hy577
   generalize hy580 : ((([y577, (rd_T42 l0 x12_1).f1] : List (List Int))) : List (List Int)) = y580 at H
   have Ny580 := yD hy580.symm
   clear hy580
   replace ⟨t583, A8, H⟩ := sV H
   replace ⟨LMc9, H⟩ := sM H
   generalize hy586 : ((x7_1 ++ [(⟨t574, t583⟩ : S42)]) : List (S42)) = y586 at H
   have Ny586 := yD hy586.symm
   clear hy586
   have H' := yD H
   clear H
   have p566 : 0 ≤ (x12_1 : Int) := zP (by assumption)
   have q566 : x12_1 < (l0.length : Int) := zP (by assumption)
   obtain ⟨ad566, A566_0, c566_0, A566_1, c566_1, e566, hx566_0, hx566_1, HC566_0, HR566_0, HC566_1, HR566_1⟩ := at_T42 (Kd.V_reads' HO_10.out).2.2 x12_1 p566 q566
   cases e566
   obtain ⟨ce566, hce566, hMe566, hcc566⟩ := Kd.V_get HO_10.out z42 x12_1 p566 (by first | exact q566 | exact zP (by assumption) | (have e_ := (Kd.V_reads' HO_10.out).1; omega))
   obtain ⟨ua566_0, uc566_0, ua566_1, uc566_1, rfl, ul566_0, ge566_0, ul566_1, ge566_1⟩ := k42_openF hMe566
   have hv566_0 := hcc566 0 _ rfl
   rw [Nat.add_zero] at hv566_0
   replace hv566_0 := Option.some.inj (hv566_0.symm.trans hx566_0)
   injection hv566_0 with hva_ hvn_ hvc_
   rw [hva_] at ge566_0
   rw [hvc_] at ul566_0
   have HL566_0 := yD (show Kd.V (Kd.int .i64) 2 _ w.heap.size _ _ ((rd_T42 l0 x12_1).f0) from Kd.V_mk ul566_0 ge566_0)
   clear hva_ hvn_ hvc_ ge566_0 ul566_0
   have hv566_1 := hcc566 1 _ rfl
   rw [add_field _ _ 1 (by omega)] at hv566_1
   replace hv566_1 := Option.some.inj (hv566_1.symm.trans hx566_1)
   injection hv566_1 with hva_ hvn_ hvc_
   rw [hva_] at ge566_1
   rw [hvc_] at ul566_1
   have HL566_1 := yD (show Kd.V (Kd.int .i64) 2 _ w.heap.size _ _ ((rd_T42 l0 x12_1).f1) from Kd.V_mk ul566_1 ge566_1)
   clear hva_ hvn_ hvc_ ge566_1 ul566_1 hcc566 hce566
   replace p566 := eq_true p566; replace q566 := eq_true q566
   try go_wp2_with (first | ((with_reducible refine gate_dst (N := 9) rfl ?_); refine bE (N := 9) (cs := #[.slice none 0 0, .slice none 0 0]) (t := 42) ?_; intro gb567 hg w10 hbox hb; replace HO_7 := yD (Kd.S_below (Kd.S_elderB (kS HO_7) gb567 (Nat.le_of_eq hg.symm)) hb); replace HO_10 := yD (Kd.V_below (Kd.V_elderB (kU HO_10) gb567 (Nat.le_of_eq hg.symm)) hb); replace HL566_0 := yD (Kd.V_below (Kd.V_elderB (kU HL566_0) gb567 (Nat.le_of_eq hg.symm)) hb); replace HL566_1 := yD (Kd.V_below (Kd.V_elderB (kU HL566_1) gb567 (Nat.le_of_eq hg.symm)) hb); replace HR566_0 := yD (yY (by repeat (first | (with_reducible exact HR566_0.out) | (with_reducible first | refine yV ?_ _ | refine yW ?_ _ | refine yX ?_) | exact HR566_0.out)) hb); replace HR566_1 := yD (yY (by repeat (first | (with_reducible exact HR566_1.out) | (with_reducible first | refine yV ?_ _ | refine yW ?_ _ | refine yX ?_) | exact HR566_1.out)) hb); have BK567 := yD (hbox); have GW567 := sW hg HB; replace HB := zX HB hb; clear hb hbox hg; have := cf2_ BK567.out; obtain ⟨Ao12, co12, eo12⟩ := Kd.S_slice HO_7.out; subst eo12))
   have n0_ : Aside0 (Kd.S k42 42 ((w10.setCell ⟨gb567, 0, none⟩ (.slice A566_0 ((rd_T42 l0 x12_1).f0).length c566_0)).setCell ⟨gb567, 1, none⟩ (.slice A566_1 ((rd_T42 l0 x12_1).f1).length c566_1)) w.heap.size (fun k_ => (w.heap.size ≤ k_) ∧ k_ ≠ gb567) (.slice Ao12 x7_1.length co12) x7_1) := ⟨by (with_reducible repeat (first | apply yS | apply yT | apply yU)); exact Kd.S_mono (Kd.S_far (p := ⟨gb567, 1, none⟩) (Kd.S_far (p := ⟨gb567, 0, none⟩) (Kd.S_mono HO_7.out (fun k_ hk => (⟨hk, hk.2⟩ : _ ∧ k_ ≠ gb567))) (fun _ hk => hk.2) (.slice A566_0 ((rd_T42 l0 x12_1).f0).length c566_0)) (fun _ hk => hk.2) (.slice A566_1 ((rd_T42 l0 x12_1).f1).length c566_1)) (fun _ hk => ⟨hk.1.1, hk.1.2⟩)⟩
   have n1_ : Aside0 (Kd.V k42 42 ((w10.setCell ⟨gb567, 0, none⟩ (.slice A566_0 ((rd_T42 l0 x12_1).f0).length c566_0)).setCell ⟨gb567, 1, none⟩ (.slice A566_1 ((rd_T42 l0 x12_1).f1).length c566_1)) w.heap.size (fun k_ => (P0_ k_ ∨ w.heap.size ≤ k_) ∧ oB (.slice Ao12 x7_1.length co12) k_ ∧ k_ ≠ gb567) (.slice (some ad566) l0.length c0) l0) := ⟨by (with_reducible repeat (first | apply Kd.V_alloc | apply Kd.V_drewN | apply Kd.V_drew)); exact Kd.V_mono (Kd.V_far (p := ⟨gb567, 1, none⟩) (Kd.V_far (p := ⟨gb567, 0, none⟩) (Kd.V_mono HO_10.out (fun k_ hk => (⟨hk, hk.2⟩ : _ ∧ k_ ≠ gb567))) (fun _ hk => hk.2) (.slice A566_0 ((rd_T42 l0 x12_1).f0).length c566_0)) (fun _ hk => hk.2) (.slice A566_1 ((rd_T42 l0 x12_1).f1).length c566_1)) (fun _ hk => ⟨hk.1.1.1, ⟨hk.1.1.2, hk.1.2⟩⟩)⟩
   have n2_ : Aside0 (Kd.V (Kd.int .i64) 2 ((w10.setCell ⟨gb567, 0, none⟩ (.slice A566_0 ((rd_T42 l0 x12_1).f0).length c566_0)).setCell ⟨gb567, 1, none⟩ (.slice A566_1 ((rd_T42 l0 x12_1).f1).length c566_1)) w.heap.size (fun k_ => (P0_ k_ ∨ w.heap.size ≤ k_) ∧ oB (.slice Ao12 x7_1.length co12) k_ ∧ k_ ≠ gb567) (.slice A566_0 ((rd_T42 l0 x12_1).f0).length c566_0) ((rd_T42 l0 x12_1).f0)) := ⟨by (with_reducible repeat (first | apply Kd.V_alloc | apply Kd.V_drewN | apply Kd.V_drew)); exact Kd.V_mono (Kd.V_far (p := ⟨gb567, 1, none⟩) (Kd.V_far (p := ⟨gb567, 0, none⟩) (Kd.V_mono HL566_0.out (fun k_ hk => (⟨hk, hk.2⟩ : _ ∧ k_ ≠ gb567))) (fun _ hk => hk.2) (.slice A566_0 ((rd_T42 l0 x12_1).f0).length c566_0)) (fun _ hk => hk.2) (.slice A566_1 ((rd_T42 l0 x12_1).f1).length c566_1)) (fun _ hk => ⟨hk.1.1.1, ⟨hk.1.1.2, hk.1.2⟩⟩)⟩
   have n3_ : Aside0 (Kd.V (Kd.int .i64) 2 ((w10.setCell ⟨gb567, 0, none⟩ (.slice A566_0 ((rd_T42 l0 x12_1).f0).length c566_0)).setCell ⟨gb567, 1, none⟩ (.slice A566_1 ((rd_T42 l0 x12_1).f1).length c566_1)) w.heap.size (fun k_ => (P0_ k_ ∨ w.heap.size ≤ k_) ∧ oB (.slice Ao12 x7_1.length co12) k_ ∧ k_ ≠ gb567) (.slice A566_1 ((rd_T42 l0 x12_1).f1).length c566_1) ((rd_T42 l0 x12_1).f1)) := ⟨by (with_reducible repeat (first | apply Kd.V_alloc | apply Kd.V_drewN | apply Kd.V_drew)); exact Kd.V_mono (Kd.V_far (p := ⟨gb567, 1, none⟩) (Kd.V_far (p := ⟨gb567, 0, none⟩) (Kd.V_mono HL566_1.out (fun k_ hk => (⟨hk, hk.2⟩ : _ ∧ k_ ≠ gb567))) (fun _ hk => hk.2) (.slice A566_0 ((rd_T42 l0 x12_1).f0).length c566_0)) (fun _ hk => hk.2) (.slice A566_1 ((rd_T42 l0 x12_1).f1).length c566_1)) (fun _ hk => ⟨hk.1.1.1, ⟨hk.1.1.2, hk.1.2⟩⟩)⟩
   have n4_ : Aside0 (((w10.setCell ⟨gb567, 0, none⟩ (.slice A566_0 ((rd_T42 l0 x12_1).f0).length c566_0)).setCell ⟨gb567, 1, none⟩ (.slice A566_1 ((rd_T42 l0 x12_1).f1).length c566_1)).heap[gb567]? = some (.cells #[.slice A566_0 ((rd_T42 l0 x12_1).f0).length c566_0, .slice A566_1 ((rd_T42 l0 x12_1).f1).length c566_1] 42 (0, 0))) := ⟨by (with_reducible repeat (first | refine yM ?_ _ | refine yO ?_ | refine yN ?_ _)); exact bA2_ BK567.out⟩
   have n5_ : Aside0 (Below w.heap.size w ((w10.setCell ⟨gb567, 0, none⟩ (.slice A566_0 ((rd_T42 l0 x12_1).f0).length c566_0)).setCell ⟨gb567, 1, none⟩ (.slice A566_1 ((rd_T42 l0 x12_1).f1).length c566_1))) := ⟨kR0 HB⟩
   generalize ((w10.setCell ⟨gb567, 0, none⟩ (.slice A566_0 ((rd_T42 l0 x12_1).f0).length c566_0)).setCell ⟨gb567, 1, none⟩ (.slice A566_1 ((rd_T42 l0 x12_1).f1).length c566_1)) = w13 at n0_ n1_ n2_ n3_ n4_ n5_ ⊢
   have HO_7 := n0_; have HO_10 := n1_; have HL566_0 := n2_; have HL566_1 := n3_; have BK567 := n4_; have HB := n5_; clear n0_ n1_ n2_ n3_ n4_ n5_
   replace HO_7 := yD (yU HO_7.out); replace HO_10 := yD (Kd.V_drew HO_10.out); replace HL566_0 := yD (Kd.V_drew HL566_0.out); replace HL566_1 := yD (Kd.V_drew HL566_1.out); replace BK567 := yD (yO BK567.out); replace HB := yD (yP HB.out)
   refine s0 (m := 17) (S := fun w' => cl w' gb567 0 (.slice A566_0 ((rd_T42 l0 x12_1).f0).length c566_0) ∧ cl w' gb567 1 (.slice A566_1 ((rd_T42 l0 x12_1).f1).length c566_1)) impl_prefixed.tab5 impl_prefixed.bits5 (cz2 BK567.out) fun hHeld HT_ HW_ => ?_
   generalize w13.drew = w14 at HO_7 HO_10 HL566_0 HL566_1 BK567 HB hHeld ⊢
   refine qa 17 0 1 ?_; refine qa 17 1 3 ?_; refine qa 17 3 11 ?_; refine qa 17 7 139 ?_; refine qa 17 9 651 ?_; refine qc 17 4 667 hHeld ?_; refine qc 17 10 1691 hHeld ?_
   refine join_ (σ := Value × Value × Value × Value × Value) 5 #[true, true, true, true, true, true, true, true, true, true, true, true, false, false, false, false, false] (fun s_ => [(18, s_.1), (21, s_.2.1), (22, s_.2.2.1), (24, s_.2.2.2.1), (27, s_.2.2.2.2)]) (fun s_ w' => (w'.cell? ⟨gb567, 0, none⟩ = some (.slice A566_0 ((rd_T42 l0 x12_1).f0).length c566_0) ∧ w'.cell? ⟨gb567, 1, none⟩ = some (.slice A566_1 ((rd_T42 l0 x12_1).f1).length c566_1)) ∧ (Kd.V (Kd.int .i64) 2 w' w.heap.size (fun k_ => (P0_ k_ ∨ w.heap.size ≤ k_) ∧ some k_ ≠ (s_.2.1 : Value).ownBlock ∧ some k_ ≠ (s_.2.2.1 : Value).ownBlock ∧ some k_ ≠ (s_.2.2.2.2 : Value).ownBlock ∧ oB (.slice Ao12 x7_1.length co12) k_ ∧ k_ ≠ gb567) (.slice A566_0 ((rd_T42 l0 x12_1).f0).length c566_0) ((rd_T42 l0 x12_1).f0)) ∧ (Kd.V (Kd.int .i64) 2 w' w.heap.size (fun k_ => (P0_ k_ ∨ w.heap.size ≤ k_) ∧ some k_ ≠ (s_.2.1 : Value).ownBlock ∧ some k_ ≠ (s_.2.2.1 : Value).ownBlock ∧ some k_ ≠ (s_.2.2.2.2 : Value).ownBlock ∧ oB (.slice Ao12 x7_1.length co12) k_ ∧ k_ ≠ gb567) (.slice A566_1 ((rd_T42 l0 x12_1).f1).length c566_1) ((rd_T42 l0 x12_1).f1)) ∧ (Kd.N (Kd.slice 2 (Kd.int .i64)) 36 w' w.heap.size (fun k_ => (P0_ k_ ∨ w.heap.size ≤ k_) ∧ some k_ ≠ (s_.2.2.1 : Value).ownBlock ∧ some k_ ≠ (s_.2.2.2.2 : Value).ownBlock ∧ oB (.slice Ao12 x7_1.length co12) k_ ∧ k_ ≠ gb567) s_.2.1 y571) ∧ (Kd.R (Kd.int .i64) 2 w' w.heap.size (fun k_ => (w.heap.size ≤ k_)) s_.2.2.1 t574) ∧ (Kd.N (Kd.slice 2 (Kd.int .i64)) 36 w' w.heap.size (fun k_ => (P0_ k_ ∨ w.heap.size ≤ k_) ∧ some k_ ≠ (s_.2.1 : Value).ownBlock ∧ some k_ ≠ (s_.2.2.1 : Value).ownBlock ∧ oB (.slice Ao12 x7_1.length co12) k_ ∧ k_ ≠ gb567) s_.2.2.2.2 y580) ∧ (Kd.V k42 42 w' w.heap.size (fun k_ => (P0_ k_ ∨ w.heap.size ≤ k_) ∧ some k_ ≠ (s_.2.1 : Value).ownBlock ∧ some k_ ≠ (s_.2.2.1 : Value).ownBlock ∧ some k_ ≠ (s_.2.2.2.2 : Value).ownBlock ∧ oB (.slice Ao12 x7_1.length co12) k_ ∧ k_ ≠ gb567) (.slice (some ad566) l0.length c0) l0) ∧ (Kd.S k42 42 w' w.heap.size (fun k_ => (w.heap.size ≤ k_) ∧ some k_ ≠ (s_.2.2.1 : Value).ownBlock ∧ k_ ≠ gb567) (.slice Ao12 x7_1.length co12) x7_1) ∧ (w'.heap[gb567]? = some (.cells #[.slice A566_0 ((rd_T42 l0 x12_1).f0).length c566_0, .slice A566_1 ((rd_T42 l0 x12_1).f1).length c566_1] 42 (0, 0))) ∧ (Below w.heap.size w w')) ?_ ?_
   rotate_left
   ·
    intro hJ2_5_6_8_11
    refine join_ (σ := Value × Value × Value × Value) 6 #[true, true, true, true, true, true, true, true, true, true, true, false, false, false, false, false, false] (fun s_ => [(18, s_.1), (21, s_.2.1), (22, s_.2.2.1), (24, s_.2.2.2)]) (fun s_ w' => (w'.cell? ⟨gb567, 0, none⟩ = some (.slice A566_0 ((rd_T42 l0 x12_1).f0).length c566_0) ∧ w'.cell? ⟨gb567, 1, none⟩ = some (.slice A566_1 ((rd_T42 l0 x12_1).f1).length c566_1)) ∧ (Kd.V (Kd.int .i64) 2 w' w.heap.size (fun k_ => (P0_ k_ ∨ w.heap.size ≤ k_) ∧ some k_ ≠ (s_.2.1 : Value).ownBlock ∧ some k_ ≠ (s_.2.2.1 : Value).ownBlock ∧ some k_ ≠ (s_.2.2.2 : Value).ownBlock ∧ oB (.slice Ao12 x7_1.length co12) k_ ∧ k_ ≠ gb567) (.slice A566_0 ((rd_T42 l0 x12_1).f0).length c566_0) ((rd_T42 l0 x12_1).f0)) ∧ (Kd.V (Kd.int .i64) 2 w' w.heap.size (fun k_ => (P0_ k_ ∨ w.heap.size ≤ k_) ∧ some k_ ≠ (s_.2.1 : Value).ownBlock ∧ some k_ ≠ (s_.2.2.1 : Value).ownBlock ∧ some k_ ≠ (s_.2.2.2 : Value).ownBlock ∧ oB (.slice Ao12 x7_1.length co12) k_ ∧ k_ ≠ gb567) (.slice A566_1 ((rd_T42 l0 x12_1).f1).length c566_1) ((rd_T42 l0 x12_1).f1)) ∧ (Kd.N (Kd.slice 2 (Kd.int .i64)) 36 w' w.heap.size (fun k_ => (P0_ k_ ∨ w.heap.size ≤ k_) ∧ some k_ ≠ (s_.2.2.1 : Value).ownBlock ∧ some k_ ≠ (s_.2.2.2 : Value).ownBlock ∧ oB (.slice Ao12 x7_1.length co12) k_ ∧ k_ ≠ gb567) s_.2.1 y571) ∧ (Kd.R (Kd.int .i64) 2 w' w.heap.size (fun k_ => (w.heap.size ≤ k_) ∧ some k_ ≠ (s_.2.2.2 : Value).ownBlock) s_.2.2.1 t574) ∧ (Kd.R (Kd.int .i64) 2 w' w.heap.size (fun k_ => (w.heap.size ≤ k_) ∧ some k_ ≠ (s_.2.2.1 : Value).ownBlock) s_.2.2.2 y577) ∧ (Kd.V k42 42 w' w.heap.size (fun k_ => (P0_ k_ ∨ w.heap.size ≤ k_) ∧ some k_ ≠ (s_.2.1 : Value).ownBlock ∧ some k_ ≠ (s_.2.2.1 : Value).ownBlock ∧ some k_ ≠ (s_.2.2.2 : Value).ownBlock ∧ oB (.slice Ao12 x7_1.length co12) k_ ∧ k_ ≠ gb567) (.slice (some ad566) l0.length c0) l0) ∧ (Kd.S k42 42 w' w.heap.size (fun k_ => (w.heap.size ≤ k_) ∧ some k_ ≠ (s_.2.2.1 : Value).ownBlock ∧ some k_ ≠ (s_.2.2.2 : Value).ownBlock ∧ k_ ≠ gb567) (.slice Ao12 x7_1.length co12) x7_1) ∧ (w'.heap[gb567]? = some (.cells #[.slice A566_0 ((rd_T42 l0 x12_1).f0).length c566_0, .slice A566_1 ((rd_T42 l0 x12_1).f1).length c566_1] 42 (0, 0))) ∧ (Below w.heap.size w w')) ?_ ?_
    rotate_left
    ·
     intro hJ2_5_6_8
     refine join_ (σ := Value × Value × Value × Value) 6 #[true, true, true, true, true, true, false, true, true, true, true, true, false, false, false, false, false] (fun s_ => [(18, s_.1), (21, s_.2.1), (24, s_.2.2.1), (27, s_.2.2.2)]) (fun s_ w' => (w'.cell? ⟨gb567, 0, none⟩ = some (.slice A566_0 ((rd_T42 l0 x12_1).f0).length c566_0) ∧ w'.cell? ⟨gb567, 1, none⟩ = some (.slice A566_1 ((rd_T42 l0 x12_1).f1).length c566_1)) ∧ (Kd.V (Kd.int .i64) 2 w' w.heap.size (fun k_ => (P0_ k_ ∨ w.heap.size ≤ k_) ∧ some k_ ≠ (s_.2.1 : Value).ownBlock ∧ some k_ ≠ (s_.2.2.2 : Value).ownBlock ∧ oB (.slice Ao12 x7_1.length co12) k_ ∧ k_ ≠ gb567) (.slice A566_0 ((rd_T42 l0 x12_1).f0).length c566_0) ((rd_T42 l0 x12_1).f0)) ∧ (Kd.V (Kd.int .i64) 2 w' w.heap.size (fun k_ => (P0_ k_ ∨ w.heap.size ≤ k_) ∧ some k_ ≠ (s_.2.1 : Value).ownBlock ∧ some k_ ≠ (s_.2.2.2 : Value).ownBlock ∧ oB (.slice Ao12 x7_1.length co12) k_ ∧ k_ ≠ gb567) (.slice A566_1 ((rd_T42 l0 x12_1).f1).length c566_1) ((rd_T42 l0 x12_1).f1)) ∧ (Kd.N (Kd.slice 2 (Kd.int .i64)) 36 w' w.heap.size (fun k_ => (P0_ k_ ∨ w.heap.size ≤ k_) ∧ some k_ ≠ (s_.2.2.2 : Value).ownBlock ∧ oB (.slice Ao12 x7_1.length co12) k_ ∧ k_ ≠ gb567) s_.2.1 y571) ∧ (Kd.N (Kd.slice 2 (Kd.int .i64)) 36 w' w.heap.size (fun k_ => (P0_ k_ ∨ w.heap.size ≤ k_) ∧ some k_ ≠ (s_.2.1 : Value).ownBlock ∧ oB (.slice Ao12 x7_1.length co12) k_ ∧ k_ ≠ gb567) s_.2.2.2 y580) ∧ (Kd.V k42 42 w' w.heap.size (fun k_ => (P0_ k_ ∨ w.heap.size ≤ k_) ∧ some k_ ≠ (s_.2.1 : Value).ownBlock ∧ some k_ ≠ (s_.2.2.2 : Value).ownBlock ∧ oB (.slice Ao12 x7_1.length co12) k_ ∧ k_ ≠ gb567) (.slice (some ad566) l0.length c0) l0) ∧ (Kd.S k42 42 w' w.heap.size (fun k_ => (w.heap.size ≤ k_) ∧ k_ ≠ gb567) (.slice Ao12 x7_1.length co12) x7_1) ∧ (w'.heap[gb567]? = some (.cells #[.slice A566_0 ((rd_T42 l0 x12_1).f0).length c566_0, .slice A566_1 ((rd_T42 l0 x12_1).f1).length c566_1] 42 (0, 0))) ∧ (Below w.heap.size w w')) ?_ ?_
     rotate_left
     ·
      intro hJ2_5_8_11
      refine join_ (σ := Value × Value × Value) 7 #[true, true, true, true, true, true, true, true, false, true, true, false, false, false, false, false, false] (fun s_ => [(18, s_.1), (21, s_.2.1), (22, s_.2.2)]) (fun s_ w' => (w'.cell? ⟨gb567, 0, none⟩ = some (.slice A566_0 ((rd_T42 l0 x12_1).f0).length c566_0) ∧ w'.cell? ⟨gb567, 1, none⟩ = some (.slice A566_1 ((rd_T42 l0 x12_1).f1).length c566_1)) ∧ (Kd.V (Kd.int .i64) 2 w' w.heap.size (fun k_ => (P0_ k_ ∨ w.heap.size ≤ k_) ∧ some k_ ≠ (s_.2.1 : Value).ownBlock ∧ some k_ ≠ (s_.2.2 : Value).ownBlock ∧ oB (.slice Ao12 x7_1.length co12) k_ ∧ k_ ≠ gb567) (.slice A566_0 ((rd_T42 l0 x12_1).f0).length c566_0) ((rd_T42 l0 x12_1).f0)) ∧ (Kd.V (Kd.int .i64) 2 w' w.heap.size (fun k_ => (P0_ k_ ∨ w.heap.size ≤ k_) ∧ some k_ ≠ (s_.2.1 : Value).ownBlock ∧ some k_ ≠ (s_.2.2 : Value).ownBlock ∧ oB (.slice Ao12 x7_1.length co12) k_ ∧ k_ ≠ gb567) (.slice A566_1 ((rd_T42 l0 x12_1).f1).length c566_1) ((rd_T42 l0 x12_1).f1)) ∧ (Kd.N (Kd.slice 2 (Kd.int .i64)) 36 w' w.heap.size (fun k_ => (P0_ k_ ∨ w.heap.size ≤ k_) ∧ some k_ ≠ (s_.2.2 : Value).ownBlock ∧ oB (.slice Ao12 x7_1.length co12) k_ ∧ k_ ≠ gb567) s_.2.1 y571) ∧ (Kd.R (Kd.int .i64) 2 w' w.heap.size (fun k_ => (w.heap.size ≤ k_)) s_.2.2 t574) ∧ (Kd.V k42 42 w' w.heap.size (fun k_ => (P0_ k_ ∨ w.heap.size ≤ k_) ∧ some k_ ≠ (s_.2.1 : Value).ownBlock ∧ some k_ ≠ (s_.2.2 : Value).ownBlock ∧ oB (.slice Ao12 x7_1.length co12) k_ ∧ k_ ≠ gb567) (.slice (some ad566) l0.length c0) l0) ∧ (Kd.S k42 42 w' w.heap.size (fun k_ => (w.heap.size ≤ k_) ∧ some k_ ≠ (s_.2.2 : Value).ownBlock ∧ k_ ≠ gb567) (.slice Ao12 x7_1.length co12) x7_1) ∧ (w'.heap[gb567]? = some (.cells #[.slice A566_0 ((rd_T42 l0 x12_1).f0).length c566_0, .slice A566_1 ((rd_T42 l0 x12_1).f1).length c566_1] 42 (0, 0))) ∧ (Below w.heap.size w w')) ?_ ?_
      rotate_left
      ·
       intro hJ2_5_6
       refine join_ (σ := Value × Value × Value) 7 #[true, true, true, true, true, true, false, true, true, true, true, false, false, false, false, false, false] (fun s_ => [(18, s_.1), (21, s_.2.1), (24, s_.2.2)]) (fun s_ w' => (w'.cell? ⟨gb567, 0, none⟩ = some (.slice A566_0 ((rd_T42 l0 x12_1).f0).length c566_0) ∧ w'.cell? ⟨gb567, 1, none⟩ = some (.slice A566_1 ((rd_T42 l0 x12_1).f1).length c566_1)) ∧ (Kd.V (Kd.int .i64) 2 w' w.heap.size (fun k_ => (P0_ k_ ∨ w.heap.size ≤ k_) ∧ some k_ ≠ (s_.2.1 : Value).ownBlock ∧ some k_ ≠ (s_.2.2 : Value).ownBlock ∧ oB (.slice Ao12 x7_1.length co12) k_ ∧ k_ ≠ gb567) (.slice A566_0 ((rd_T42 l0 x12_1).f0).length c566_0) ((rd_T42 l0 x12_1).f0)) ∧ (Kd.V (Kd.int .i64) 2 w' w.heap.size (fun k_ => (P0_ k_ ∨ w.heap.size ≤ k_) ∧ some k_ ≠ (s_.2.1 : Value).ownBlock ∧ some k_ ≠ (s_.2.2 : Value).ownBlock ∧ oB (.slice Ao12 x7_1.length co12) k_ ∧ k_ ≠ gb567) (.slice A566_1 ((rd_T42 l0 x12_1).f1).length c566_1) ((rd_T42 l0 x12_1).f1)) ∧ (Kd.N (Kd.slice 2 (Kd.int .i64)) 36 w' w.heap.size (fun k_ => (P0_ k_ ∨ w.heap.size ≤ k_) ∧ some k_ ≠ (s_.2.2 : Value).ownBlock ∧ oB (.slice Ao12 x7_1.length co12) k_ ∧ k_ ≠ gb567) s_.2.1 y571) ∧ (Kd.R (Kd.int .i64) 2 w' w.heap.size (fun k_ => (w.heap.size ≤ k_)) s_.2.2 y577) ∧ (Kd.V k42 42 w' w.heap.size (fun k_ => (P0_ k_ ∨ w.heap.size ≤ k_) ∧ some k_ ≠ (s_.2.1 : Value).ownBlock ∧ some k_ ≠ (s_.2.2 : Value).ownBlock ∧ oB (.slice Ao12 x7_1.length co12) k_ ∧ k_ ≠ gb567) (.slice (some ad566) l0.length c0) l0) ∧ (Kd.S k42 42 w' w.heap.size (fun k_ => (w.heap.size ≤ k_) ∧ some k_ ≠ (s_.2.2 : Value).ownBlock ∧ k_ ≠ gb567) (.slice Ao12 x7_1.length co12) x7_1) ∧ (w'.heap[gb567]? = some (.cells #[.slice A566_0 ((rd_T42 l0 x12_1).f0).length c566_0, .slice A566_1 ((rd_T42 l0 x12_1).f1).length c566_1] 42 (0, 0))) ∧ (Below w.heap.size w w')) ?_ ?_
       rotate_left
       ·
        intro hJ2_5_8
        refine join_ (σ := Value × Value × Value) 7 #[true, true, true, true, true, false, false, true, true, true, true, true, false, false, false, false, false] (fun s_ => [(18, s_.1), (24, s_.2.1), (27, s_.2.2)]) (fun s_ w' => (w'.cell? ⟨gb567, 0, none⟩ = some (.slice A566_0 ((rd_T42 l0 x12_1).f0).length c566_0) ∧ w'.cell? ⟨gb567, 1, none⟩ = some (.slice A566_1 ((rd_T42 l0 x12_1).f1).length c566_1)) ∧ (Kd.V (Kd.int .i64) 2 w' w.heap.size (fun k_ => (P0_ k_ ∨ w.heap.size ≤ k_) ∧ some k_ ≠ (s_.1 : Value).ownBlock ∧ some k_ ≠ (s_.2.2 : Value).ownBlock ∧ oB (.slice Ao12 x7_1.length co12) k_ ∧ k_ ≠ gb567) (.slice A566_0 ((rd_T42 l0 x12_1).f0).length c566_0) ((rd_T42 l0 x12_1).f0)) ∧ (Kd.V (Kd.int .i64) 2 w' w.heap.size (fun k_ => (P0_ k_ ∨ w.heap.size ≤ k_) ∧ some k_ ≠ (s_.1 : Value).ownBlock ∧ some k_ ≠ (s_.2.2 : Value).ownBlock ∧ oB (.slice Ao12 x7_1.length co12) k_ ∧ k_ ≠ gb567) (.slice A566_1 ((rd_T42 l0 x12_1).f1).length c566_1) ((rd_T42 l0 x12_1).f1)) ∧ (Kd.R (Kd.int .i64) 2 w' w.heap.size (fun k_ => (w.heap.size ≤ k_)) s_.1 y568) ∧ (Kd.N (Kd.slice 2 (Kd.int .i64)) 36 w' w.heap.size (fun k_ => (P0_ k_ ∨ w.heap.size ≤ k_) ∧ some k_ ≠ (s_.1 : Value).ownBlock ∧ oB (.slice Ao12 x7_1.length co12) k_ ∧ k_ ≠ gb567) s_.2.2 y580) ∧ (Kd.V k42 42 w' w.heap.size (fun k_ => (P0_ k_ ∨ w.heap.size ≤ k_) ∧ some k_ ≠ (s_.1 : Value).ownBlock ∧ some k_ ≠ (s_.2.2 : Value).ownBlock ∧ oB (.slice Ao12 x7_1.length co12) k_ ∧ k_ ≠ gb567) (.slice (some ad566) l0.length c0) l0) ∧ (Kd.S k42 42 w' w.heap.size (fun k_ => (w.heap.size ≤ k_) ∧ some k_ ≠ (s_.1 : Value).ownBlock ∧ k_ ≠ gb567) (.slice Ao12 x7_1.length co12) x7_1) ∧ (w'.heap[gb567]? = some (.cells #[.slice A566_0 ((rd_T42 l0 x12_1).f0).length c566_0, .slice A566_1 ((rd_T42 l0 x12_1).f1).length c566_1] 42 (0, 0))) ∧ (Below w.heap.size w w')) ?_ ?_
        rotate_left
        ·
         intro hJ2_8_11
         refine join_ (σ := Value × Value) 8 #[true, true, true, true, true, true, false, true, false, true, true, false, false, false, false, false, false] (fun s_ => [(18, s_.1), (21, s_.2)]) (fun s_ w' => (w'.cell? ⟨gb567, 0, none⟩ = some (.slice A566_0 ((rd_T42 l0 x12_1).f0).length c566_0) ∧ w'.cell? ⟨gb567, 1, none⟩ = some (.slice A566_1 ((rd_T42 l0 x12_1).f1).length c566_1)) ∧ (Kd.V (Kd.int .i64) 2 w' w.heap.size (fun k_ => (P0_ k_ ∨ w.heap.size ≤ k_) ∧ some k_ ≠ (s_.2 : Value).ownBlock ∧ oB (.slice Ao12 x7_1.length co12) k_ ∧ k_ ≠ gb567) (.slice A566_0 ((rd_T42 l0 x12_1).f0).length c566_0) ((rd_T42 l0 x12_1).f0)) ∧ (Kd.V (Kd.int .i64) 2 w' w.heap.size (fun k_ => (P0_ k_ ∨ w.heap.size ≤ k_) ∧ some k_ ≠ (s_.2 : Value).ownBlock ∧ oB (.slice Ao12 x7_1.length co12) k_ ∧ k_ ≠ gb567) (.slice A566_1 ((rd_T42 l0 x12_1).f1).length c566_1) ((rd_T42 l0 x12_1).f1)) ∧ (Kd.N (Kd.slice 2 (Kd.int .i64)) 36 w' w.heap.size (fun k_ => (P0_ k_ ∨ w.heap.size ≤ k_) ∧ oB (.slice Ao12 x7_1.length co12) k_ ∧ k_ ≠ gb567) s_.2 y571) ∧ (Kd.V k42 42 w' w.heap.size (fun k_ => (P0_ k_ ∨ w.heap.size ≤ k_) ∧ some k_ ≠ (s_.2 : Value).ownBlock ∧ oB (.slice Ao12 x7_1.length co12) k_ ∧ k_ ≠ gb567) (.slice (some ad566) l0.length c0) l0) ∧ (Kd.S k42 42 w' w.heap.size (fun k_ => (w.heap.size ≤ k_) ∧ k_ ≠ gb567) (.slice Ao12 x7_1.length co12) x7_1) ∧ (w'.heap[gb567]? = some (.cells #[.slice A566_0 ((rd_T42 l0 x12_1).f0).length c566_0, .slice A566_1 ((rd_T42 l0 x12_1).f1).length c566_1] 42 (0, 0))) ∧ (Below w.heap.size w w')) ?_ ?_
         rotate_left
         ·
          intro hJ2_5
          refine join_ (σ := Value × Value) 8 #[true, true, true, true, true, false, false, true, true, true, true, false, false, false, false, false, false] (fun s_ => [(18, s_.1), (24, s_.2)]) (fun s_ w' => (w'.cell? ⟨gb567, 0, none⟩ = some (.slice A566_0 ((rd_T42 l0 x12_1).f0).length c566_0) ∧ w'.cell? ⟨gb567, 1, none⟩ = some (.slice A566_1 ((rd_T42 l0 x12_1).f1).length c566_1)) ∧ (Kd.V (Kd.int .i64) 2 w' w.heap.size (fun k_ => (P0_ k_ ∨ w.heap.size ≤ k_) ∧ some k_ ≠ (s_.1 : Value).ownBlock ∧ some k_ ≠ (s_.2 : Value).ownBlock ∧ oB (.slice Ao12 x7_1.length co12) k_ ∧ k_ ≠ gb567) (.slice A566_0 ((rd_T42 l0 x12_1).f0).length c566_0) ((rd_T42 l0 x12_1).f0)) ∧ (Kd.V (Kd.int .i64) 2 w' w.heap.size (fun k_ => (P0_ k_ ∨ w.heap.size ≤ k_) ∧ some k_ ≠ (s_.1 : Value).ownBlock ∧ some k_ ≠ (s_.2 : Value).ownBlock ∧ oB (.slice Ao12 x7_1.length co12) k_ ∧ k_ ≠ gb567) (.slice A566_1 ((rd_T42 l0 x12_1).f1).length c566_1) ((rd_T42 l0 x12_1).f1)) ∧ (Kd.R (Kd.int .i64) 2 w' w.heap.size (fun k_ => (w.heap.size ≤ k_) ∧ some k_ ≠ (s_.2 : Value).ownBlock) s_.1 y568) ∧ (Kd.R (Kd.int .i64) 2 w' w.heap.size (fun k_ => (w.heap.size ≤ k_) ∧ some k_ ≠ (s_.1 : Value).ownBlock) s_.2 y577) ∧ (Kd.V k42 42 w' w.heap.size (fun k_ => (P0_ k_ ∨ w.heap.size ≤ k_) ∧ some k_ ≠ (s_.1 : Value).ownBlock ∧ some k_ ≠ (s_.2 : Value).ownBlock ∧ oB (.slice Ao12 x7_1.length co12) k_ ∧ k_ ≠ gb567) (.slice (some ad566) l0.length c0) l0) ∧ (Kd.S k42 42 w' w.heap.size (fun k_ => (w.heap.size ≤ k_) ∧ some k_ ≠ (s_.1 : Value).ownBlock ∧ some k_ ≠ (s_.2 : Value).ownBlock ∧ k_ ≠ gb567) (.slice Ao12 x7_1.length co12) x7_1) ∧ (w'.heap[gb567]? = some (.cells #[.slice A566_0 ((rd_T42 l0 x12_1).f0).length c566_0, .slice A566_1 ((rd_T42 l0 x12_1).f1).length c566_1] 42 (0, 0))) ∧ (Below w.heap.size w w')) ?_ ?_
          rotate_left
          ·
           intro hJ2_8
           refine join_ (σ := Value × Value) 8 #[true, true, false, true, true, false, false, true, true, true, true, true, false, false, false, false, false] (fun s_ => [(24, s_.1), (27, s_.2)]) (fun s_ w' => (w'.cell? ⟨gb567, 0, none⟩ = some (.slice A566_0 ((rd_T42 l0 x12_1).f0).length c566_0) ∧ w'.cell? ⟨gb567, 1, none⟩ = some (.slice A566_1 ((rd_T42 l0 x12_1).f1).length c566_1)) ∧ (Kd.V (Kd.int .i64) 2 w' w.heap.size (fun k_ => (P0_ k_ ∨ w.heap.size ≤ k_) ∧ some k_ ≠ (s_.2 : Value).ownBlock ∧ oB (.slice Ao12 x7_1.length co12) k_ ∧ k_ ≠ gb567) (.slice A566_0 ((rd_T42 l0 x12_1).f0).length c566_0) ((rd_T42 l0 x12_1).f0)) ∧ (Kd.V (Kd.int .i64) 2 w' w.heap.size (fun k_ => (P0_ k_ ∨ w.heap.size ≤ k_) ∧ some k_ ≠ (s_.2 : Value).ownBlock ∧ oB (.slice Ao12 x7_1.length co12) k_ ∧ k_ ≠ gb567) (.slice A566_1 ((rd_T42 l0 x12_1).f1).length c566_1) ((rd_T42 l0 x12_1).f1)) ∧ (Kd.N (Kd.slice 2 (Kd.int .i64)) 36 w' w.heap.size (fun k_ => (P0_ k_ ∨ w.heap.size ≤ k_) ∧ oB (.slice Ao12 x7_1.length co12) k_ ∧ k_ ≠ gb567) s_.2 y580) ∧ (Kd.V k42 42 w' w.heap.size (fun k_ => (P0_ k_ ∨ w.heap.size ≤ k_) ∧ some k_ ≠ (s_.2 : Value).ownBlock ∧ oB (.slice Ao12 x7_1.length co12) k_ ∧ k_ ≠ gb567) (.slice (some ad566) l0.length c0) l0) ∧ (Kd.S k42 42 w' w.heap.size (fun k_ => (w.heap.size ≤ k_) ∧ k_ ≠ gb567) (.slice Ao12 x7_1.length co12) x7_1) ∧ (w'.heap[gb567]? = some (.cells #[.slice A566_0 ((rd_T42 l0 x12_1).f0).length c566_0, .slice A566_1 ((rd_T42 l0 x12_1).f1).length c566_1] 42 (0, 0))) ∧ (Below w.heap.size w w')) ?_ ?_
           rotate_left
           ·
            intro hJ8_11
            refine join_ (σ := Value) 9 #[true, true, true, true, true, false, false, true, false, true, true, false, false, false, false, false, false] (fun s_ => [(18, s_)]) (fun s_ w' => (w'.cell? ⟨gb567, 0, none⟩ = some (.slice A566_0 ((rd_T42 l0 x12_1).f0).length c566_0) ∧ w'.cell? ⟨gb567, 1, none⟩ = some (.slice A566_1 ((rd_T42 l0 x12_1).f1).length c566_1)) ∧ (Kd.V (Kd.int .i64) 2 w' w.heap.size (fun k_ => (P0_ k_ ∨ w.heap.size ≤ k_) ∧ some k_ ≠ (s_ : Value).ownBlock ∧ oB (.slice Ao12 x7_1.length co12) k_ ∧ k_ ≠ gb567) (.slice A566_0 ((rd_T42 l0 x12_1).f0).length c566_0) ((rd_T42 l0 x12_1).f0)) ∧ (Kd.V (Kd.int .i64) 2 w' w.heap.size (fun k_ => (P0_ k_ ∨ w.heap.size ≤ k_) ∧ some k_ ≠ (s_ : Value).ownBlock ∧ oB (.slice Ao12 x7_1.length co12) k_ ∧ k_ ≠ gb567) (.slice A566_1 ((rd_T42 l0 x12_1).f1).length c566_1) ((rd_T42 l0 x12_1).f1)) ∧ (Kd.R (Kd.int .i64) 2 w' w.heap.size (fun k_ => (w.heap.size ≤ k_)) s_ y568) ∧ (Kd.V k42 42 w' w.heap.size (fun k_ => (P0_ k_ ∨ w.heap.size ≤ k_) ∧ some k_ ≠ (s_ : Value).ownBlock ∧ oB (.slice Ao12 x7_1.length co12) k_ ∧ k_ ≠ gb567) (.slice (some ad566) l0.length c0) l0) ∧ (Kd.S k42 42 w' w.heap.size (fun k_ => (w.heap.size ≤ k_) ∧ some k_ ≠ (s_ : Value).ownBlock ∧ k_ ≠ gb567) (.slice Ao12 x7_1.length co12) x7_1) ∧ (w'.heap[gb567]? = some (.cells #[.slice A566_0 ((rd_T42 l0 x12_1).f0).length c566_0, .slice A566_1 ((rd_T42 l0 x12_1).f1).length c566_1] 42 (0, 0))) ∧ (Below w.heap.size w w')) ?_ ?_
            rotate_left
            ·
             intro hJ2
             refine join_ (σ := Value) 9 #[true, true, false, true, true, false, false, true, true, true, true, false, false, false, false, false, false] (fun s_ => [(24, s_)]) (fun s_ w' => (w'.cell? ⟨gb567, 0, none⟩ = some (.slice A566_0 ((rd_T42 l0 x12_1).f0).length c566_0) ∧ w'.cell? ⟨gb567, 1, none⟩ = some (.slice A566_1 ((rd_T42 l0 x12_1).f1).length c566_1)) ∧ (Kd.V (Kd.int .i64) 2 w' w.heap.size (fun k_ => (P0_ k_ ∨ w.heap.size ≤ k_) ∧ some k_ ≠ (s_ : Value).ownBlock ∧ oB (.slice Ao12 x7_1.length co12) k_ ∧ k_ ≠ gb567) (.slice A566_0 ((rd_T42 l0 x12_1).f0).length c566_0) ((rd_T42 l0 x12_1).f0)) ∧ (Kd.V (Kd.int .i64) 2 w' w.heap.size (fun k_ => (P0_ k_ ∨ w.heap.size ≤ k_) ∧ some k_ ≠ (s_ : Value).ownBlock ∧ oB (.slice Ao12 x7_1.length co12) k_ ∧ k_ ≠ gb567) (.slice A566_1 ((rd_T42 l0 x12_1).f1).length c566_1) ((rd_T42 l0 x12_1).f1)) ∧ (Kd.R (Kd.int .i64) 2 w' w.heap.size (fun k_ => (w.heap.size ≤ k_)) s_ y577) ∧ (Kd.V k42 42 w' w.heap.size (fun k_ => (P0_ k_ ∨ w.heap.size ≤ k_) ∧ some k_ ≠ (s_ : Value).ownBlock ∧ oB (.slice Ao12 x7_1.length co12) k_ ∧ k_ ≠ gb567) (.slice (some ad566) l0.length c0) l0) ∧ (Kd.S k42 42 w' w.heap.size (fun k_ => (w.heap.size ≤ k_) ∧ some k_ ≠ (s_ : Value).ownBlock ∧ k_ ≠ gb567) (.slice Ao12 x7_1.length co12) x7_1) ∧ (w'.heap[gb567]? = some (.cells #[.slice A566_0 ((rd_T42 l0 x12_1).f0).length c566_0, .slice A566_1 ((rd_T42 l0 x12_1).f1).length c566_1] 42 (0, 0))) ∧ (Below w.heap.size w w')) ?_ ?_
             rotate_left
             ·
              intro hJ8
              refine two_ (i := 2) (j := 8) (Ni := some 18) (Nj := some 24) #[true, true, true, true, true, false, false, true, false, true, true, false, false, false, false, false, false] #[true, true, false, true, true, false, false, true, true, true, true, false, false, false, false, false, false] rfl rfl rfl rfl (two_of HT_.out (by kernel_rfl)) (by decide) (by decide) (fun K hK => ?_) (fun K hK => ?_)
              · skip
                refine Kd.R_lit_step (Kd.int .i64) _ 2 ?hg (N := 18) ?hd (xs := ([a1] : List Int)) (inner := [.int .i64 a1]) (ok := fun _ => True) (okp := fun _ => True) ?hr ?hp (fun _ hk => hk) trivial (Below.refl _ _) (Nat.le_refl _) (by simp) ?_; (case hd => rfl); (case hg => rfl); (case hr => first | (go_simp; done) | (go_simp; rfl)); (case hp => exact (Reps.one (show Kd.M (Kd.int .i64) _ _ _ a1 [.int .i64 a1] from rfl) (Reps.none _ _)))
                intro v569 w15 ho16 hb hg_ hnew_
                clear hg_ hnew_
                (first | rw [← Ny568.out] at ho16 | (simp only [Int.reduceToNat] at ho16; rw [← Ny568.out] at ho16))
                have n0_ := yD (Kd.S_elder' (kS HO_7) (yH ho16) hb)
                have n1_ := yD (Kd.V_elder' (kU HO_10) (yH ho16) hb)
                have n2_ := yD (Kd.V_elder' (kU HL566_0) (yH ho16) hb)
                have n3_ := yD (Kd.V_elder' (kU HL566_1) (yH ho16) hb)
                have n4_ := yD (yZ (Kd.R_newM (M := fun k_ => (w.heap.size ≤ k_)) ho16 (below_size (kB HB)) (fun k_ h_ => h_)) (below_size (kB HB)))
                have n5_ := yD (zB (kN BK567) hb)
                have n6_ := yD (zC (kB HB) hb)
                clear HO_7 HO_10 HL566_0 HL566_1 BK567 HB; have HO_7 := n0_; have HO_10 := n1_; have HL566_0 := n2_; have HL566_1 := n3_; have HO570 := n4_; have BK567 := n5_; have HB := n6_; clear n0_ n1_ n2_ n3_ n4_ n5_ n6_ hb ho16
                refine hK.out _ _ (cz2 BK567.out) (fun hHeld => ?_)
                clear hK K
                refine nZ 18 ?_
                exact norm_ (by first | (simp only [putAll, Act.put, zH, zI, zJ]; done) | (simp only [putAll, Act.put, zH, zI, zJ]; rfl)) (hJ2 (v569) _ ⟨hHeld, (mV HL566_0 (fun _ hk => ⟨hk.1.1, ⟨hk.2, ⟨hk.1.2.1, hk.1.2.2⟩⟩⟩)), (mV HL566_1 (fun _ hk => ⟨hk.1.1, ⟨hk.2, ⟨hk.1.2.1, hk.1.2.2⟩⟩⟩)), (mR HO570 (fun _ hk => hk.1)), (mV HO_10 (fun _ hk => ⟨hk.1.1, ⟨hk.2, ⟨hk.1.2.1, hk.1.2.2⟩⟩⟩)), (mS HO_7 (fun _ hk => ⟨hk.1.1, ⟨hk.2, hk.1.2⟩⟩)), (kM BK567), (kB HB)⟩)
              · skip
                refine Kd.R_lit_step (Kd.int .i64) _ 2 ?hg (N := 24) ?hd (xs := ([a2] : List Int)) (inner := [.int .i64 a2]) (ok := fun _ => True) (okp := fun _ => True) ?hr ?hp (fun _ hk => hk) trivial (Below.refl _ _) (Nat.le_refl _) (by simp) ?_; (case hd => rfl); (case hg => rfl); (case hr => first | (go_simp; done) | (go_simp; rfl)); (case hp => exact (Reps.one (show Kd.M (Kd.int .i64) _ _ _ a2 [.int .i64 a2] from rfl) (Reps.none _ _)))
                intro v578 w15 ho16 hb hg_ hnew_
                clear hg_ hnew_
                (first | rw [← Ny577.out] at ho16 | (simp only [Int.reduceToNat] at ho16; rw [← Ny577.out] at ho16))
                have n0_ := yD (Kd.S_elder' (kS HO_7) (yH ho16) hb)
                have n1_ := yD (Kd.V_elder' (kU HO_10) (yH ho16) hb)
                have n2_ := yD (Kd.V_elder' (kU HL566_0) (yH ho16) hb)
                have n3_ := yD (Kd.V_elder' (kU HL566_1) (yH ho16) hb)
                have n4_ := yD (yZ (Kd.R_newM (M := fun k_ => (w.heap.size ≤ k_)) ho16 (below_size (kB HB)) (fun k_ h_ => h_)) (below_size (kB HB)))
                have n5_ := yD (zB (kN BK567) hb)
                have n6_ := yD (zC (kB HB) hb)
                clear HO_7 HO_10 HL566_0 HL566_1 BK567 HB; have HO_7 := n0_; have HO_10 := n1_; have HL566_0 := n2_; have HL566_1 := n3_; have HO579 := n4_; have BK567 := n5_; have HB := n6_; clear n0_ n1_ n2_ n3_ n4_ n5_ n6_ hb ho16
                refine hK.out _ _ (cz2 BK567.out) (fun hHeld => ?_)
                clear hK K
                refine nZ 24 ?_
                exact norm_ (by first | (simp only [putAll, Act.put, zH, zI, zJ]; done) | (simp only [putAll, Act.put, zH, zI, zJ]; rfl)) (hJ8 (v578) _ ⟨hHeld, (mV HL566_0 (fun _ hk => ⟨hk.1.1, ⟨hk.2, ⟨hk.1.2.1, hk.1.2.2⟩⟩⟩)), (mV HL566_1 (fun _ hk => ⟨hk.1.1, ⟨hk.2, ⟨hk.1.2.1, hk.1.2.2⟩⟩⟩)), (mR HO579 (fun _ hk => hk.1)), (mV HO_10 (fun _ hk => ⟨hk.1.1, ⟨hk.2, ⟨hk.1.2.1, hk.1.2.2⟩⟩⟩)), (mS HO_7 (fun _ hk => ⟨hk.1.1, ⟨hk.2, hk.1.2⟩⟩)), (kM BK567), (kB HB)⟩)
             ·
              skip
              rintro v578 w17 ⟨hS_, h0_, h1_, h2_, h3_, h4_, h5_, h6_⟩
              (try dsimp only at h0_ h1_ h2_ h3_ h4_ h5_ h6_); clear HO_7 HO_10 HL566_0 HL566_1 BK567 HB; have HL566_0 := yD h0_; have HL566_1 := yD h1_; have HO579 := yD h2_; have HO_10 := yD h3_; have HO_7 := yD h4_; have BK567 := yD h5_; have HB := yD h6_; clear h0_ h1_ h2_ h3_ h4_ h5_ h6_
              have hHeld : w17.cell? ⟨gb567, 0, none⟩ = some (.slice A566_0 ((rd_T42 l0 x12_1).f0).length c566_0) ∧ w17.cell? ⟨gb567, 1, none⟩ = some (.slice A566_1 ((rd_T42 l0 x12_1).f1).length c566_1) := hS_
              refine norm_ (a' := ?_) ?_ ?_
              rotate_left
              · simp only [putAll, Act.put, zH, zI, zJ]
                rfl
              refine two_ (i := 2) (j := 11) (Ni := some 18) (Nj := some 27) #[true, true, true, true, true, false, false, true, true, true, true, false, false, false, false, false, false] #[true, true, false, true, true, false, false, true, true, true, true, true, false, false, false, false, false] rfl rfl rfl rfl (two_of HT_.out (by kernel_rfl)) (by decide) (by decide) (fun K hK => ?_) (fun K hK => ?_)
              · skip
                refine Kd.R_lit_step (Kd.int .i64) _ 2 ?hg (N := 18) ?hd (xs := ([a1] : List Int)) (inner := [.int .i64 a1]) (ok := fun _ => True) (okp := fun _ => True) ?hr ?hp (fun _ hk => hk) trivial (Below.refl _ _) (Nat.le_refl _) (by simp) ?_; (case hd => rfl); (case hg => rfl); (case hr => first | (go_simp; done) | (go_simp; rfl)); (case hp => exact (Reps.one (show Kd.M (Kd.int .i64) _ _ _ a1 [.int .i64 a1] from rfl) (Reps.none _ _)))
                intro v569 w18 ho19 hb hg_ hnew_
                clear hg_ hnew_
                (first | rw [← Ny568.out] at ho19 | (simp only [Int.reduceToNat] at ho19; rw [← Ny568.out] at ho19))
                have n0_ := yD (Kd.S_elder' (kS HO_7) (yH ho19) hb)
                have n1_ := yD (Kd.V_elder' (kU HO_10) (yH ho19) hb)
                have n2_ := yD (Kd.V_elder' (kU HL566_0) (yH ho19) hb)
                have n3_ := yD (Kd.V_elder' (kU HL566_1) (yH ho19) hb)
                have n4_ := yD (Kd.R_elder' (kA HO579) (yH ho19) hb)
                have n5_ := yD (yZ (yJ (Kd.R_newM (M := fun k_ => (w.heap.size ≤ k_)) ho19 (below_size (kB HB)) (fun k_ h_ => h_)) (yK (kA HO579))) (below_size (kB HB)))
                have n6_ := yD (zB (kN BK567) hb)
                have n7_ := yD (zC (kB HB) hb)
                clear HO_7 HO_10 HL566_0 HL566_1 HO579 BK567 HB; have HO_7 := n0_; have HO_10 := n1_; have HL566_0 := n2_; have HL566_1 := n3_; have HO579 := n4_; have HO570 := n5_; have BK567 := n6_; have HB := n7_; clear n0_ n1_ n2_ n3_ n4_ n5_ n6_ n7_ hb ho19
                refine hK.out _ _ (cz2 BK567.out) (fun hHeld => ?_)
                clear hK K
                refine nZ 18 ?_
                exact norm_ (by first | (simp only [putAll, Act.put, zH, zI, zJ]; done) | (simp only [putAll, Act.put, zH, zI, zJ]; rfl)) (hJ2_8 (v569, v578) _ ⟨hHeld, (mV HL566_0 (fun _ hk => ⟨hk.1.1, ⟨hk.2, ⟨hk.1.2.1, ⟨hk.1.2.2.1, hk.1.2.2.2⟩⟩⟩⟩)), (mV HL566_1 (fun _ hk => ⟨hk.1.1, ⟨hk.2, ⟨hk.1.2.1, ⟨hk.1.2.2.1, hk.1.2.2.2⟩⟩⟩⟩)), (mR HO570 (fun _ hk => ⟨hk.1.1, hk.2⟩)), (kA HO579), (mV HO_10 (fun _ hk => ⟨hk.1.1, ⟨hk.2, ⟨hk.1.2.1, ⟨hk.1.2.2.1, hk.1.2.2.2⟩⟩⟩⟩)), (mS HO_7 (fun _ hk => ⟨hk.1.1, ⟨hk.2, ⟨hk.1.2.1, hk.1.2.2⟩⟩⟩)), (kM BK567), (kB HB)⟩)
              ·
               skip
               obtain ⟨Ao18, co18, eo18⟩ := Kd.R_slice HO579.out
               subst eo18
               refine Kd.N_lit_step (Kd.slice 2 (Kd.int .i64)) _ 36 ?hg (N' := 27) ?hd (xs := ([y577, (rd_T42 l0 x12_1).f1] : List (List Int))) (inner := [.slice Ao18 y577.length co18, .slice A566_1 ((rd_T42 l0 x12_1).f1).length c566_1]) (ok := (fun k_ => (P0_ k_ ∨ w.heap.size ≤ k_) ∧ oB (.slice Ao12 x7_1.length co12) k_ ∧ k_ ≠ gb567)) (okp := (fun k_ => (P0_ k_ ∨ w.heap.size ≤ k_) ∧ oB (.slice Ao12 x7_1.length co12) k_ ∧ k_ ≠ gb567)) ?hr ?hp (fun _ hk => hk) ((show ∀ k_, w17.heap.size ≤ k_ → (fun k_ => (P0_ k_ ∨ w.heap.size ≤ k_) ∧ oB (.slice Ao12 x7_1.length co12) k_ ∧ k_ ≠ gb567) k_ from fun k_ hk => ⟨(.inr (Nat.le_trans (below_size (kB HB)) hk)), Kd.fresh' (Kd.S_lt (kS HO_7)) k_ hk, Kd.freshB (g := gb567) (o := .cells #[.slice A566_0 ((rd_T42 l0 x12_1).f0).length c566_0, .slice A566_1 ((rd_T42 l0 x12_1).f1).length c566_1] 42 (0, 0)) (kM BK567) k_ hk⟩) _ (Nat.le_refl _)) (Below.refl _ _) (Nat.le_refl _) (by simp) ?_; (case hd => rfl); (case hg => rfl); (case hr => first | (go_simp; done) | (go_simp; rfl)); (case hp => exact (Reps.one (show Kd.FK (Kd.slice 2 (Kd.int .i64)) _ _ y577 [.slice Ao18 y577.length co18] from (Kd.FK_slice_mk (zA (zF (ok' := (fun k_ => (P0_ k_ ∨ w.heap.size ≤ k_) ∧ oB (.slice Ao12 x7_1.length co12) k_ ∧ k_ ≠ gb567)) (Kd.R_types (Kd.R_apart' (HO579.out) (Kd.S_typed HO_7.out) (by decide)) BK567.out (by decide)) (fun k_ hk => ⟨(.inr (hk.1.1)), ⟨hk.1.2, hk.2⟩⟩))).2.1 (Kd.R_F (zF (ok' := (fun k_ => (P0_ k_ ∨ w.heap.size ≤ k_) ∧ oB (.slice Ao12 x7_1.length co12) k_ ∧ k_ ≠ gb567)) (Kd.R_types (Kd.R_apart' (HO579.out) (Kd.S_typed HO_7.out) (by decide)) BK567.out (by decide)) (fun k_ hk => ⟨(.inr (hk.1.1)), ⟨hk.1.2, hk.2⟩⟩))))) (Reps.one (show Kd.FK (Kd.slice 2 (Kd.int .i64)) _ _ ((rd_T42 l0 x12_1).f1) [.slice A566_1 ((rd_T42 l0 x12_1).f1).length c566_1] from (Kd.FK_slice_mk (Kd.V_reads' (Kd.V_mono (ok' := (fun k_ => (P0_ k_ ∨ w.heap.size ≤ k_) ∧ oB (.slice Ao12 x7_1.length co12) k_ ∧ k_ ≠ gb567)) (HL566_1.out) (fun k_ hk => ⟨hk.1, ⟨hk.2.2.1, hk.2.2.2⟩⟩))).2.1 (Kd.V_F (Kd.V_mono (ok' := (fun k_ => (P0_ k_ ∨ w.heap.size ≤ k_) ∧ oB (.slice Ao12 x7_1.length co12) k_ ∧ k_ ≠ gb567)) (HL566_1.out) (fun k_ hk => ⟨hk.1, ⟨hk.2.2.1, hk.2.2.2⟩⟩))))) (Reps.none _ _))))
               intro v581 w19 ho20 hb hg_ hnew_
               clear hg_ hnew_
               (first | rw [← Ny580.out] at ho20 | (simp only [Int.reduceToNat] at ho20; rw [← Ny580.out] at ho20))
               have n0_ := yD (Kd.S_below (kS HO_7) hb)
               have n1_ := yD (Kd.V_elder' (kU HO_10) (Kd.N_base ho20) hb)
               have n2_ := yD (Kd.V_elder' (kU HL566_0) (Kd.N_base ho20) hb)
               have n3_ := yD (Kd.V_elder' (kU HL566_1) (Kd.N_base ho20) hb)
               have n4_ := yD (Kd.N_lower ho20 (below_size (kB HB)))
               have n5_ := yD (zB (kN BK567) hb)
               have n6_ := yD (zC (kB HB) hb)
               clear HO_7 HO_10 HL566_0 HL566_1 BK567 HB HO579; have HO_7 := n0_; have HO_10 := n1_; have HL566_0 := n2_; have HL566_1 := n3_; have HO582 := n4_; have BK567 := n5_; have HB := n6_; clear n0_ n1_ n2_ n3_ n4_ n5_ n6_ hb ho20
               refine hK.out _ _ (cz2 BK567.out) (fun hHeld => ?_)
               clear hK K
               refine nZ 27 ?_
               exact norm_ (by first | (simp only [putAll, Act.put, zH, zI, zJ]; done) | (simp only [putAll, Act.put, zH, zI, zJ]; rfl)) (hJ8_11 (.slice Ao18 y577.length co18, v581) _ ⟨hHeld, (mV HL566_0 (fun _ hk => ⟨hk.1.1, ⟨hk.2, ⟨hk.1.2.2.1, hk.1.2.2.2⟩⟩⟩)), (mV HL566_1 (fun _ hk => ⟨hk.1.1, ⟨hk.2, ⟨hk.1.2.2.1, hk.1.2.2.2⟩⟩⟩)), (kQ HO582), (mV HO_10 (fun _ hk => ⟨hk.1.1, ⟨hk.2, ⟨hk.1.2.2.1, hk.1.2.2.2⟩⟩⟩)), (mS HO_7 (fun _ hk => ⟨hk.1, hk.2.2⟩)), (kM BK567), (kB HB)⟩)
            ·
             skip
             rintro v569 w17 ⟨hS_, h0_, h1_, h2_, h3_, h4_, h5_, h6_⟩
             (try dsimp only at h0_ h1_ h2_ h3_ h4_ h5_ h6_); clear HO_7 HO_10 HL566_0 HL566_1 BK567 HB; have HL566_0 := yD h0_; have HL566_1 := yD h1_; have HO570 := yD h2_; have HO_10 := yD h3_; have HO_7 := yD h4_; have BK567 := yD h5_; have HB := yD h6_; clear h0_ h1_ h2_ h3_ h4_ h5_ h6_
             have hHeld : w17.cell? ⟨gb567, 0, none⟩ = some (.slice A566_0 ((rd_T42 l0 x12_1).f0).length c566_0) ∧ w17.cell? ⟨gb567, 1, none⟩ = some (.slice A566_1 ((rd_T42 l0 x12_1).f1).length c566_1) := hS_
             obtain ⟨Ao18, co18, eo18⟩ := Kd.R_slice HO570.out
             (first | subst eo18 | (injection eo18 with f1_ f2_ f3_; have f4_ := f1_.symm; have f5_ := f3_.symm; clear f1_ f2_ f3_; subst f4_; subst f5_))
             refine norm_ (a' := ?_) ?_ ?_
             rotate_left
             · simp only [putAll, Act.put, zH, zI, zJ]
               rfl
             refine two_ (i := 5) (j := 8) (Ni := some 21) (Nj := some 24) #[true, true, true, true, true, true, false, true, false, true, true, false, false, false, false, false, false] #[true, true, true, true, true, false, false, true, true, true, true, false, false, false, false, false, false] rfl rfl rfl rfl (two_of HT_.out (by kernel_rfl)) (by decide) (by decide) (fun K hK => ?_) (fun K hK => ?_)
             · skip
               refine Kd.N_lit_step (Kd.slice 2 (Kd.int .i64)) _ 36 ?hg (N' := 21) ?hd (xs := ([y568, (rd_T42 l0 x12_1).f0] : List (List Int))) (inner := [.slice Ao18 y568.length co18, .slice A566_0 ((rd_T42 l0 x12_1).f0).length c566_0]) (ok := (fun k_ => (P0_ k_ ∨ w.heap.size ≤ k_) ∧ oB (.slice Ao12 x7_1.length co12) k_ ∧ k_ ≠ gb567)) (okp := (fun k_ => (P0_ k_ ∨ w.heap.size ≤ k_) ∧ oB (.slice Ao12 x7_1.length co12) k_ ∧ k_ ≠ gb567)) ?hr ?hp (fun _ hk => hk) ((show ∀ k_, w17.heap.size ≤ k_ → (fun k_ => (P0_ k_ ∨ w.heap.size ≤ k_) ∧ oB (.slice Ao12 x7_1.length co12) k_ ∧ k_ ≠ gb567) k_ from fun k_ hk => ⟨(.inr (Nat.le_trans (below_size (kB HB)) hk)), Kd.fresh' (Kd.S_lt (kS HO_7)) k_ hk, Kd.freshB (g := gb567) (o := .cells #[.slice A566_0 ((rd_T42 l0 x12_1).f0).length c566_0, .slice A566_1 ((rd_T42 l0 x12_1).f1).length c566_1] 42 (0, 0)) (kM BK567) k_ hk⟩) _ (Nat.le_refl _)) (Below.refl _ _) (Nat.le_refl _) (by simp) ?_; (case hd => rfl); (case hg => rfl); (case hr => first | (go_simp; done) | (go_simp; rfl)); (case hp => exact (Reps.one (show Kd.FK (Kd.slice 2 (Kd.int .i64)) _ _ y568 [.slice Ao18 y568.length co18] from (Kd.FK_slice_mk (zA (zF (ok' := (fun k_ => (P0_ k_ ∨ w.heap.size ≤ k_) ∧ oB (.slice Ao12 x7_1.length co12) k_ ∧ k_ ≠ gb567)) (Kd.R_types (Kd.R_apart' (HO570.out) (Kd.S_typed HO_7.out) (by decide)) BK567.out (by decide)) (fun k_ hk => ⟨(.inr (hk.1.1)), ⟨hk.1.2, hk.2⟩⟩))).2.1 (Kd.R_F (zF (ok' := (fun k_ => (P0_ k_ ∨ w.heap.size ≤ k_) ∧ oB (.slice Ao12 x7_1.length co12) k_ ∧ k_ ≠ gb567)) (Kd.R_types (Kd.R_apart' (HO570.out) (Kd.S_typed HO_7.out) (by decide)) BK567.out (by decide)) (fun k_ hk => ⟨(.inr (hk.1.1)), ⟨hk.1.2, hk.2⟩⟩))))) (Reps.one (show Kd.FK (Kd.slice 2 (Kd.int .i64)) _ _ ((rd_T42 l0 x12_1).f0) [.slice A566_0 ((rd_T42 l0 x12_1).f0).length c566_0] from (Kd.FK_slice_mk (Kd.V_reads' (Kd.V_mono (ok' := (fun k_ => (P0_ k_ ∨ w.heap.size ≤ k_) ∧ oB (.slice Ao12 x7_1.length co12) k_ ∧ k_ ≠ gb567)) (HL566_0.out) (fun k_ hk => ⟨hk.1, ⟨hk.2.2.1, hk.2.2.2⟩⟩))).2.1 (Kd.V_F (Kd.V_mono (ok' := (fun k_ => (P0_ k_ ∨ w.heap.size ≤ k_) ∧ oB (.slice Ao12 x7_1.length co12) k_ ∧ k_ ≠ gb567)) (HL566_0.out) (fun k_ hk => ⟨hk.1, ⟨hk.2.2.1, hk.2.2.2⟩⟩))))) (Reps.none _ _))))
               intro v572 w19 ho20 hb hg_ hnew_
               clear hg_ hnew_
               (first | rw [← Ny571.out] at ho20 | (simp only [Int.reduceToNat] at ho20; rw [← Ny571.out] at ho20))
               have n0_ := yD (Kd.S_below (kS HO_7) hb)
               have n1_ := yD (Kd.V_elder' (kU HO_10) (Kd.N_base ho20) hb)
               have n2_ := yD (Kd.V_elder' (kU HL566_0) (Kd.N_base ho20) hb)
               have n3_ := yD (Kd.V_elder' (kU HL566_1) (Kd.N_base ho20) hb)
               have n4_ := yD (Kd.N_lower ho20 (below_size (kB HB)))
               have n5_ := yD (zB (kN BK567) hb)
               have n6_ := yD (zC (kB HB) hb)
               clear HO_7 HO_10 HL566_0 HL566_1 BK567 HB HO570; have HO_7 := n0_; have HO_10 := n1_; have HL566_0 := n2_; have HL566_1 := n3_; have HO573 := n4_; have BK567 := n5_; have HB := n6_; clear n0_ n1_ n2_ n3_ n4_ n5_ n6_ hb ho20
               refine hK.out _ _ (cz2 BK567.out) (fun hHeld => ?_)
               clear hK K
               refine nZ 21 ?_
               exact norm_ (by first | (simp only [putAll, Act.put, zH, zI, zJ]; done) | (simp only [putAll, Act.put, zH, zI, zJ]; rfl)) (hJ2_5 (.slice Ao18 y568.length co18, v572) _ ⟨hHeld, (mV HL566_0 (fun _ hk => ⟨hk.1.1, ⟨hk.2, ⟨hk.1.2.2.1, hk.1.2.2.2⟩⟩⟩)), (mV HL566_1 (fun _ hk => ⟨hk.1.1, ⟨hk.2, ⟨hk.1.2.2.1, hk.1.2.2.2⟩⟩⟩)), (kQ HO573), (mV HO_10 (fun _ hk => ⟨hk.1.1, ⟨hk.2, ⟨hk.1.2.2.1, hk.1.2.2.2⟩⟩⟩)), (mS HO_7 (fun _ hk => ⟨hk.1, hk.2.2⟩)), (kM BK567), (kB HB)⟩)
             ·
              skip
              refine Kd.R_lit_step (Kd.int .i64) _ 2 ?hg (N := 24) ?hd (xs := ([a2] : List Int)) (inner := [.int .i64 a2]) (ok := fun _ => True) (okp := fun _ => True) ?hr ?hp (fun _ hk => hk) trivial (Below.refl _ _) (Nat.le_refl _) (by simp) ?_; (case hd => rfl); (case hg => rfl); (case hr => first | (go_simp; done) | (go_simp; rfl)); (case hp => exact (Reps.one (show Kd.M (Kd.int .i64) _ _ _ a2 [.int .i64 a2] from rfl) (Reps.none _ _)))
              intro v578 w18 ho19 hb hg_ hnew_
              clear hg_ hnew_
              (first | rw [← Ny577.out] at ho19 | (simp only [Int.reduceToNat] at ho19; rw [← Ny577.out] at ho19))
              have n0_ := yD (Kd.S_elder' (kS HO_7) (yH ho19) hb)
              have n1_ := yD (Kd.V_elder' (kU HO_10) (yH ho19) hb)
              have n2_ := yD (Kd.V_elder' (kU HL566_0) (yH ho19) hb)
              have n3_ := yD (Kd.V_elder' (kU HL566_1) (yH ho19) hb)
              have n4_ := yD (Kd.R_elder' (kA HO570) (yH ho19) hb)
              have n5_ := yD (yZ (yJ (Kd.R_newM (M := fun k_ => (w.heap.size ≤ k_)) ho19 (below_size (kB HB)) (fun k_ h_ => h_)) (yK (kA HO570))) (below_size (kB HB)))
              have n6_ := yD (zB (kN BK567) hb)
              have n7_ := yD (zC (kB HB) hb)
              clear HO_7 HO_10 HL566_0 HL566_1 HO570 BK567 HB; have HO_7 := n0_; have HO_10 := n1_; have HL566_0 := n2_; have HL566_1 := n3_; have HO570 := n4_; have HO579 := n5_; have BK567 := n6_; have HB := n7_; clear n0_ n1_ n2_ n3_ n4_ n5_ n6_ n7_ hb ho19
              refine hK.out _ _ (cz2 BK567.out) (fun hHeld => ?_)
              clear hK K
              refine nZ 24 ?_
              exact norm_ (by first | (simp only [putAll, Act.put, zH, zI, zJ]; done) | (simp only [putAll, Act.put, zH, zI, zJ]; rfl)) (hJ2_8 ((.slice Ao18 y568.length co18), v578) _ ⟨hHeld, (mV HL566_0 (fun _ hk => ⟨hk.1.1, ⟨hk.1.2.1, ⟨hk.2, ⟨hk.1.2.2.1, hk.1.2.2.2⟩⟩⟩⟩)), (mV HL566_1 (fun _ hk => ⟨hk.1.1, ⟨hk.1.2.1, ⟨hk.2, ⟨hk.1.2.2.1, hk.1.2.2.2⟩⟩⟩⟩)), (kA HO570), (mR HO579 (fun _ hk => ⟨hk.1.1, hk.2⟩)), (mV HO_10 (fun _ hk => ⟨hk.1.1, ⟨hk.1.2.1, ⟨hk.2, ⟨hk.1.2.2.1, hk.1.2.2.2⟩⟩⟩⟩)), (mS HO_7 (fun _ hk => ⟨hk.1.1, ⟨hk.1.2.1, ⟨hk.2, hk.1.2.2⟩⟩⟩)), (kM BK567), (kB HB)⟩)
           ·
            skip
            rintro ⟨v578, v581⟩ w20 ⟨hS_, h0_, h1_, h2_, h3_, h4_, h5_, h6_⟩
            (try dsimp only at h0_ h1_ h2_ h3_ h4_ h5_ h6_); clear HO_7 HO_10 HL566_0 HL566_1 BK567 HB; have HL566_0 := yD h0_; have HL566_1 := yD h1_; have HO582 := yD h2_; have HO_10 := yD h3_; have HO_7 := yD h4_; have BK567 := yD h5_; have HB := yD h6_; clear h0_ h1_ h2_ h3_ h4_ h5_ h6_
            have hHeld : w20.cell? ⟨gb567, 0, none⟩ = some (.slice A566_0 ((rd_T42 l0 x12_1).f0).length c566_0) ∧ w20.cell? ⟨gb567, 1, none⟩ = some (.slice A566_1 ((rd_T42 l0 x12_1).f1).length c566_1) := hS_
            refine norm_ (a' := ?_) ?_ ?_
            rotate_left
            · simp only [putAll, Act.put, zH, zI, zJ]
              rfl
            refine qo 17 2 3999 (some 18) fun K hK => ?_
            refine Kd.R_lit_step (Kd.int .i64) _ 2 ?hg (N := 18) ?hd (xs := ([a1] : List Int)) (inner := [.int .i64 a1]) (ok := fun _ => True) (okp := fun _ => True) ?hr ?hp (fun _ hk => hk) trivial (Below.refl _ _) (Nat.le_refl _) (by simp) ?_; (case hd => rfl); (case hg => rfl); (case hr => first | (go_simp; done) | (go_simp; rfl)); (case hp => exact (Reps.one (show Kd.M (Kd.int .i64) _ _ _ a1 [.int .i64 a1] from rfl) (Reps.none _ _)))
            intro v569 w21 ho22 hb hg_ hnew_
            clear hg_ hnew_
            (first | rw [← Ny568.out] at ho22 | (simp only [Int.reduceToNat] at ho22; rw [← Ny568.out] at ho22))
            have n0_ := yD (Kd.S_elder' (kS HO_7) (yH ho22) hb)
            have n1_ := yD (Kd.V_elder' (kU HO_10) (yH ho22) hb)
            have n2_ := yD (Kd.V_elder' (kU HL566_0) (yH ho22) hb)
            have n3_ := yD (Kd.V_elder' (kU HL566_1) (yH ho22) hb)
            have n4_ := yD (Kd.N_elder' (kQ HO582) (yH ho22) hb)
            have n5_ := yD (yZ (Kd.R_newM (M := fun k_ => (w.heap.size ≤ k_)) ho22 (below_size (kB HB)) (fun k_ h_ => h_)) (below_size (kB HB)))
            have n6_ := yD (zB (kN BK567) hb)
            have n7_ := yD (zC (kB HB) hb)
            clear HO_7 HO_10 HL566_0 HL566_1 HO582 BK567 HB; have HO_7 := n0_; have HO_10 := n1_; have HL566_0 := n2_; have HL566_1 := n3_; have HO582 := n4_; have HO570 := n5_; have BK567 := n6_; have HB := n7_; clear n0_ n1_ n2_ n3_ n4_ n5_ n6_ n7_ hb ho22
            refine hK.out _ _ (cz2 BK567.out) (fun hHeld => ?_)
            clear hK K
            refine nZ 18 ?_
            exact norm_ (by first | (simp only [putAll, Act.put, zH, zI, zJ]; done) | (simp only [putAll, Act.put, zH, zI, zJ]; rfl)) (hJ2_8_11 (v569, v578, v581) _ ⟨hHeld, (mV HL566_0 (fun _ hk => ⟨hk.1.1, ⟨hk.2, ⟨hk.1.2.1, ⟨hk.1.2.2.1, hk.1.2.2.2⟩⟩⟩⟩)), (mV HL566_1 (fun _ hk => ⟨hk.1.1, ⟨hk.2, ⟨hk.1.2.1, ⟨hk.1.2.2.1, hk.1.2.2.2⟩⟩⟩⟩)), (mR HO570 (fun _ hk => hk.1)), (mN HO582 (fun _ hk => ⟨hk.1.1, ⟨hk.2, ⟨hk.1.2.1, hk.1.2.2⟩⟩⟩)), (mV HO_10 (fun _ hk => ⟨hk.1.1, ⟨hk.2, ⟨hk.1.2.1, ⟨hk.1.2.2.1, hk.1.2.2.2⟩⟩⟩⟩)), (mS HO_7 (fun _ hk => ⟨hk.1.1, ⟨hk.2, hk.1.2⟩⟩)), (kM BK567), (kB HB)⟩)
          ·
           skip
           rintro ⟨v569, v578⟩ w19 ⟨hS_, h0_, h1_, h2_, h3_, h4_, h5_, h6_, h7_⟩
           (try dsimp only at h0_ h1_ h2_ h3_ h4_ h5_ h6_ h7_); clear HO_7 HO_10 HL566_0 HL566_1 BK567 HB; have HL566_0 := yD h0_; have HL566_1 := yD h1_; have HO570 := yD h2_; have HO579 := yD h3_; have HO_10 := yD h4_; have HO_7 := yD h5_; have BK567 := yD h6_; have HB := yD h7_; clear h0_ h1_ h2_ h3_ h4_ h5_ h6_ h7_
           have hHeld : w19.cell? ⟨gb567, 0, none⟩ = some (.slice A566_0 ((rd_T42 l0 x12_1).f0).length c566_0) ∧ w19.cell? ⟨gb567, 1, none⟩ = some (.slice A566_1 ((rd_T42 l0 x12_1).f1).length c566_1) := hS_
           obtain ⟨Ao20, co20, eo20⟩ := Kd.R_slice HO570.out
           (first | subst eo20 | (injection eo20 with f1_ f2_ f3_; have f4_ := f1_.symm; have f5_ := f3_.symm; clear f1_ f2_ f3_; subst f4_; subst f5_))
           refine norm_ (a' := ?_) ?_ ?_
           rotate_left
           · simp only [putAll, Act.put, zH, zI, zJ]
             rfl
           refine two_ (i := 5) (j := 11) (Ni := some 21) (Nj := some 27) #[true, true, true, true, true, true, false, true, true, true, true, false, false, false, false, false, false] #[true, true, true, true, true, false, false, true, true, true, true, true, false, false, false, false, false] rfl rfl rfl rfl (two_of HT_.out (by kernel_rfl)) (by decide) (by decide) (fun K hK => ?_) (fun K hK => ?_)
           ·
            skip
            refine Kd.N_lit_step (Kd.slice 2 (Kd.int .i64)) _ 36 ?hg (N' := 21) ?hd (xs := ([y568, (rd_T42 l0 x12_1).f0] : List (List Int))) (inner := [.slice Ao20 y568.length co20, .slice A566_0 ((rd_T42 l0 x12_1).f0).length c566_0]) (ok := (fun k_ => (P0_ k_ ∨ w.heap.size ≤ k_) ∧ oB (.slice Ao12 x7_1.length co12) k_ ∧ oB v578 k_ ∧ k_ ≠ gb567)) (okp := (fun k_ => (P0_ k_ ∨ w.heap.size ≤ k_) ∧ oB (.slice Ao12 x7_1.length co12) k_ ∧ oB v578 k_ ∧ k_ ≠ gb567)) ?hr ?hp (fun _ hk => hk) ((show ∀ k_, w19.heap.size ≤ k_ → (fun k_ => (P0_ k_ ∨ w.heap.size ≤ k_) ∧ oB (.slice Ao12 x7_1.length co12) k_ ∧ oB v578 k_ ∧ k_ ≠ gb567) k_ from fun k_ hk => ⟨(.inr (Nat.le_trans (below_size (kB HB)) hk)), Kd.fresh' (Kd.S_lt (kS HO_7)) k_ hk, Kd.fresh' (yK (kA HO579)) k_ hk, Kd.freshB (g := gb567) (o := .cells #[.slice A566_0 ((rd_T42 l0 x12_1).f0).length c566_0, .slice A566_1 ((rd_T42 l0 x12_1).f1).length c566_1] 42 (0, 0)) (kM BK567) k_ hk⟩) _ (Nat.le_refl _)) (Below.refl _ _) (Nat.le_refl _) (by simp) ?_; (case hd => rfl); (case hg => rfl); (case hr => first | (go_simp; done) | (go_simp; rfl)); (case hp => exact (Reps.one (show Kd.FK (Kd.slice 2 (Kd.int .i64)) _ _ y568 [.slice Ao20 y568.length co20] from (Kd.FK_slice_mk (zA (zF (ok' := (fun k_ => (P0_ k_ ∨ w.heap.size ≤ k_) ∧ oB (.slice Ao12 x7_1.length co12) k_ ∧ oB v578 k_ ∧ k_ ≠ gb567)) (Kd.R_types (Kd.R_apart' (HO570.out) (Kd.S_typed HO_7.out) (by decide)) BK567.out (by decide)) (fun k_ hk => ⟨(.inr (hk.1.1.1)), ⟨hk.1.2, ⟨hk.1.1.2, hk.2⟩⟩⟩))).2.1 (Kd.R_F (zF (ok' := (fun k_ => (P0_ k_ ∨ w.heap.size ≤ k_) ∧ oB (.slice Ao12 x7_1.length co12) k_ ∧ oB v578 k_ ∧ k_ ≠ gb567)) (Kd.R_types (Kd.R_apart' (HO570.out) (Kd.S_typed HO_7.out) (by decide)) BK567.out (by decide)) (fun k_ hk => ⟨(.inr (hk.1.1.1)), ⟨hk.1.2, ⟨hk.1.1.2, hk.2⟩⟩⟩))))) (Reps.one (show Kd.FK (Kd.slice 2 (Kd.int .i64)) _ _ ((rd_T42 l0 x12_1).f0) [.slice A566_0 ((rd_T42 l0 x12_1).f0).length c566_0] from (Kd.FK_slice_mk (Kd.V_reads' (Kd.V_mono (ok' := (fun k_ => (P0_ k_ ∨ w.heap.size ≤ k_) ∧ oB (.slice Ao12 x7_1.length co12) k_ ∧ oB v578 k_ ∧ k_ ≠ gb567)) (HL566_0.out) (fun k_ hk => ⟨hk.1, ⟨hk.2.2.2.1, ⟨hk.2.2.1, hk.2.2.2.2⟩⟩⟩))).2.1 (Kd.V_F (Kd.V_mono (ok' := (fun k_ => (P0_ k_ ∨ w.heap.size ≤ k_) ∧ oB (.slice Ao12 x7_1.length co12) k_ ∧ oB v578 k_ ∧ k_ ≠ gb567)) (HL566_0.out) (fun k_ hk => ⟨hk.1, ⟨hk.2.2.2.1, ⟨hk.2.2.1, hk.2.2.2.2⟩⟩⟩))))) (Reps.none _ _))))
            intro v572 w21 ho22 hb hg_ hnew_
            clear hg_ hnew_
            (first | rw [← Ny571.out] at ho22 | (simp only [Int.reduceToNat] at ho22; rw [← Ny571.out] at ho22))
            have n0_ := yD (Kd.S_below (kS HO_7) hb)
            have n1_ := yD (Kd.V_elder' (kU HO_10) (Kd.N_base ho22) hb)
            have n2_ := yD (Kd.V_elder' (kU HL566_0) (Kd.N_base ho22) hb)
            have n3_ := yD (Kd.V_elder' (kU HL566_1) (Kd.N_base ho22) hb)
            have n4_ := yD (zE (kA HO579) hb)
            have n5_ := yD (Kd.N_lower ho22 (below_size (kB HB)))
            have n6_ := yD (zB (kN BK567) hb)
            have n7_ := yD (zC (kB HB) hb)
            clear HO_7 HO_10 HL566_0 HL566_1 HO579 BK567 HB HO570; have HO_7 := n0_; have HO_10 := n1_; have HL566_0 := n2_; have HL566_1 := n3_; have HO579 := n4_; have HO573 := n5_; have BK567 := n6_; have HB := n7_; clear n0_ n1_ n2_ n3_ n4_ n5_ n6_ n7_ hb ho22
            refine hK.out _ _ (cz2 BK567.out) (fun hHeld => ?_)
            clear hK K
            refine nZ 21 ?_
            exact norm_ (by first | (simp only [putAll, Act.put, zH, zI, zJ]; done) | (simp only [putAll, Act.put, zH, zI, zJ]; rfl)) (hJ2_5_8 (.slice Ao20 y568.length co20, v572, v578) _ ⟨hHeld, (mV HL566_0 (fun _ hk => ⟨hk.1.1, ⟨hk.2, ⟨hk.1.2.2.1, ⟨hk.1.2.2.2.1, hk.1.2.2.2.2⟩⟩⟩⟩)), (mV HL566_1 (fun _ hk => ⟨hk.1.1, ⟨hk.2, ⟨hk.1.2.2.1, ⟨hk.1.2.2.2.1, hk.1.2.2.2.2⟩⟩⟩⟩)), (mN HO573 (fun _ hk => ⟨hk.1, ⟨hk.2.2.1, ⟨hk.2.1, hk.2.2.2⟩⟩⟩)), (mR HO579 (fun _ hk => hk.1)), (mV HO_10 (fun _ hk => ⟨hk.1.1, ⟨hk.2, ⟨hk.1.2.2.1, ⟨hk.1.2.2.2.1, hk.1.2.2.2.2⟩⟩⟩⟩)), (mS HO_7 (fun _ hk => ⟨hk.1, ⟨hk.2.2.1, hk.2.2.2⟩⟩)), (kM BK567), (kB HB)⟩)
           ·
            skip
            obtain ⟨Ao20b, co20b, eo20b⟩ := Kd.R_slice HO579.out
            subst eo20b
            refine Kd.N_lit_step (Kd.slice 2 (Kd.int .i64)) _ 36 ?hg (N' := 27) ?hd (xs := ([y577, (rd_T42 l0 x12_1).f1] : List (List Int))) (inner := [.slice Ao20b y577.length co20b, .slice A566_1 ((rd_T42 l0 x12_1).f1).length c566_1]) (ok := (fun k_ => (P0_ k_ ∨ w.heap.size ≤ k_) ∧ oB (.slice Ao12 x7_1.length co12) k_ ∧ oB (.slice Ao20 y568.length co20) k_ ∧ k_ ≠ gb567)) (okp := (fun k_ => (P0_ k_ ∨ w.heap.size ≤ k_) ∧ oB (.slice Ao12 x7_1.length co12) k_ ∧ oB (.slice Ao20 y568.length co20) k_ ∧ k_ ≠ gb567)) ?hr ?hp (fun _ hk => hk) ((show ∀ k_, w19.heap.size ≤ k_ → (fun k_ => (P0_ k_ ∨ w.heap.size ≤ k_) ∧ oB (.slice Ao12 x7_1.length co12) k_ ∧ oB (.slice Ao20 y568.length co20) k_ ∧ k_ ≠ gb567) k_ from fun k_ hk => ⟨(.inr (Nat.le_trans (below_size (kB HB)) hk)), Kd.fresh' (Kd.S_lt (kS HO_7)) k_ hk, Kd.fresh' (yK (kA HO570)) k_ hk, Kd.freshB (g := gb567) (o := .cells #[.slice A566_0 ((rd_T42 l0 x12_1).f0).length c566_0, .slice A566_1 ((rd_T42 l0 x12_1).f1).length c566_1] 42 (0, 0)) (kM BK567) k_ hk⟩) _ (Nat.le_refl _)) (Below.refl _ _) (Nat.le_refl _) (by simp) ?_; (case hd => rfl); (case hg => rfl); (case hr => first | (go_simp; done) | (go_simp; rfl)); (case hp => exact (Reps.one (show Kd.FK (Kd.slice 2 (Kd.int .i64)) _ _ y577 [.slice Ao20b y577.length co20b] from (Kd.FK_slice_mk (zA (zF (ok' := (fun k_ => (P0_ k_ ∨ w.heap.size ≤ k_) ∧ oB (.slice Ao12 x7_1.length co12) k_ ∧ oB (.slice Ao20 y568.length co20) k_ ∧ k_ ≠ gb567)) (Kd.R_types (Kd.R_apart' (HO579.out) (Kd.S_typed HO_7.out) (by decide)) BK567.out (by decide)) (fun k_ hk => ⟨(.inr (hk.1.1.1)), ⟨hk.1.2, ⟨hk.1.1.2, hk.2⟩⟩⟩))).2.1 (Kd.R_F (zF (ok' := (fun k_ => (P0_ k_ ∨ w.heap.size ≤ k_) ∧ oB (.slice Ao12 x7_1.length co12) k_ ∧ oB (.slice Ao20 y568.length co20) k_ ∧ k_ ≠ gb567)) (Kd.R_types (Kd.R_apart' (HO579.out) (Kd.S_typed HO_7.out) (by decide)) BK567.out (by decide)) (fun k_ hk => ⟨(.inr (hk.1.1.1)), ⟨hk.1.2, ⟨hk.1.1.2, hk.2⟩⟩⟩))))) (Reps.one (show Kd.FK (Kd.slice 2 (Kd.int .i64)) _ _ ((rd_T42 l0 x12_1).f1) [.slice A566_1 ((rd_T42 l0 x12_1).f1).length c566_1] from (Kd.FK_slice_mk (Kd.V_reads' (Kd.V_mono (ok' := (fun k_ => (P0_ k_ ∨ w.heap.size ≤ k_) ∧ oB (.slice Ao12 x7_1.length co12) k_ ∧ oB (.slice Ao20 y568.length co20) k_ ∧ k_ ≠ gb567)) (HL566_1.out) (fun k_ hk => ⟨hk.1, ⟨hk.2.2.2.1, ⟨hk.2.1, hk.2.2.2.2⟩⟩⟩))).2.1 (Kd.V_F (Kd.V_mono (ok' := (fun k_ => (P0_ k_ ∨ w.heap.size ≤ k_) ∧ oB (.slice Ao12 x7_1.length co12) k_ ∧ oB (.slice Ao20 y568.length co20) k_ ∧ k_ ≠ gb567)) (HL566_1.out) (fun k_ hk => ⟨hk.1, ⟨hk.2.2.2.1, ⟨hk.2.1, hk.2.2.2.2⟩⟩⟩))))) (Reps.none _ _))))
            intro v581 w21 ho22 hb hg_ hnew_
            clear hg_ hnew_
            (first | rw [← Ny580.out] at ho22 | (simp only [Int.reduceToNat] at ho22; rw [← Ny580.out] at ho22))
            have n0_ := yD (Kd.S_below (kS HO_7) hb)
            have n1_ := yD (Kd.V_elder' (kU HO_10) (Kd.N_base ho22) hb)
            have n2_ := yD (Kd.V_elder' (kU HL566_0) (Kd.N_base ho22) hb)
            have n3_ := yD (Kd.V_elder' (kU HL566_1) (Kd.N_base ho22) hb)
            have n4_ := yD (zE (kA HO570) hb)
            have n5_ := yD (Kd.N_lower ho22 (below_size (kB HB)))
            have n6_ := yD (zB (kN BK567) hb)
            have n7_ := yD (zC (kB HB) hb)
            clear HO_7 HO_10 HL566_0 HL566_1 HO570 BK567 HB HO579; have HO_7 := n0_; have HO_10 := n1_; have HL566_0 := n2_; have HL566_1 := n3_; have HO570 := n4_; have HO582 := n5_; have BK567 := n6_; have HB := n7_; clear n0_ n1_ n2_ n3_ n4_ n5_ n6_ n7_ hb ho22
            refine hK.out _ _ (cz2 BK567.out) (fun hHeld => ?_)
            clear hK K
            refine nZ 27 ?_
            exact norm_ (by first | (simp only [putAll, Act.put, zH, zI, zJ]; done) | (simp only [putAll, Act.put, zH, zI, zJ]; rfl)) (hJ2_8_11 ((.slice Ao20 y568.length co20), .slice Ao20b y577.length co20b, v581) _ ⟨hHeld, (mV HL566_0 (fun _ hk => ⟨hk.1.1, ⟨hk.1.2.1, ⟨hk.2, ⟨hk.1.2.2.2.1, hk.1.2.2.2.2⟩⟩⟩⟩)), (mV HL566_1 (fun _ hk => ⟨hk.1.1, ⟨hk.1.2.1, ⟨hk.2, ⟨hk.1.2.2.2.1, hk.1.2.2.2.2⟩⟩⟩⟩)), (mR HO570 (fun _ hk => hk.1)), (mN HO582 (fun _ hk => ⟨hk.1, ⟨hk.2.2.1, ⟨hk.2.1, hk.2.2.2⟩⟩⟩)), (mV HO_10 (fun _ hk => ⟨hk.1.1, ⟨hk.1.2.1, ⟨hk.2, ⟨hk.1.2.2.2.1, hk.1.2.2.2.2⟩⟩⟩⟩)), (mS HO_7 (fun _ hk => ⟨hk.1, ⟨hk.2.1, hk.2.2.2⟩⟩)), (kM BK567), (kB HB)⟩)
         ·
          skip
          rintro ⟨v569, v572⟩ w20 ⟨hS_, h0_, h1_, h2_, h3_, h4_, h5_, h6_⟩
          (try dsimp only at h0_ h1_ h2_ h3_ h4_ h5_ h6_); clear HO_7 HO_10 HL566_0 HL566_1 BK567 HB; have HL566_0 := yD h0_; have HL566_1 := yD h1_; have HO573 := yD h2_; have HO_10 := yD h3_; have HO_7 := yD h4_; have BK567 := yD h5_; have HB := yD h6_; clear h0_ h1_ h2_ h3_ h4_ h5_ h6_
          have hHeld : w20.cell? ⟨gb567, 0, none⟩ = some (.slice A566_0 ((rd_T42 l0 x12_1).f0).length c566_0) ∧ w20.cell? ⟨gb567, 1, none⟩ = some (.slice A566_1 ((rd_T42 l0 x12_1).f1).length c566_1) := hS_
          obtain ⟨Ao21, co21, eo21⟩ := Kd.N_slice HO573.out
          (first | subst eo21 | (injection eo21 with f1_ f2_ f3_; have f4_ := f1_.symm; have f5_ := f3_.symm; clear f1_ f2_ f3_; subst f4_; subst f5_))
          refine norm_ (a' := ?_) ?_ ?_
          rotate_left
          · simp only [putAll, Act.put, zH, zI, zJ]
            rfl
          refine two_ (i := 6) (j := 8) (Ni := some 22) (Nj := some 24) #[true, true, true, true, true, true, true, true, false, true, true, false, false, false, false, false, false] #[true, true, true, true, true, true, false, true, true, true, true, false, false, false, false, false, false] rfl rfl rfl rfl (two_of HT_.out (by kernel_rfl)) (by decide) (by decide) (fun K hK => ?_) (fun K hK => ?_)
          ·
           skip
           refine qg Try.func146 _ ((slices_Concat_int64_int64.calls k1 _ _ y571 t574 _ ?z1 A7.out).mono ?_)
           (case z1 => exact ⟨kV (Kd.N_reads' HO573.out).2.2, (Kd.N_reads' HO573.out).2.1⟩)
           rintro e w22 ⟨v575, rfl, ho0, hb⟩
           refine ⟨_, rfl, ?_⟩
           replace HO_7 := yD (Kd.S_elder' (kS HO_7) (yH ho0) hb); replace HO_10 := yD (Kd.V_elder' (kU HO_10) (yH ho0) hb); replace HL566_0 := yD (Kd.V_elder' (kU HL566_0) (yH ho0) hb); replace HL566_1 := yD (Kd.V_elder' (kU HL566_1) (yH ho0) hb); replace HO573 := yD (Kd.N_elder' (kQ HO573) (yH ho0) hb); have HO576 := yD (yZ (Kd.R_newM (M := fun k_ => (w.heap.size ≤ k_)) ho0 (below_size (kB HB)) (fun k_ h_ => h_)) (below_size (kB HB))); replace BK567 := zY BK567 hb; replace HB := zX HB hb
           refine hK.out _ _ (cz2 BK567.out) (fun hHeld => ?_)
           clear hK K
           refine nZ 22 ?_
           exact norm_ (by first | (simp only [putAll, Act.put, zH, zI, zJ]; done) | (simp only [putAll, Act.put, zH, zI, zJ]; rfl)) (hJ2_5_6 (v569, .slice Ao21 y571.length co21, v575) _ ⟨hHeld, (mV HL566_0 (fun _ hk => ⟨hk.1.1, ⟨hk.1.2.1, ⟨hk.2, ⟨hk.1.2.2.1, hk.1.2.2.2⟩⟩⟩⟩)), (mV HL566_1 (fun _ hk => ⟨hk.1.1, ⟨hk.1.2.1, ⟨hk.2, ⟨hk.1.2.2.1, hk.1.2.2.2⟩⟩⟩⟩)), (mN HO573 (fun _ hk => ⟨hk.1.1, ⟨hk.2, ⟨hk.1.2.1, hk.1.2.2⟩⟩⟩)), (mR HO576 (fun _ hk => hk.1)), (mV HO_10 (fun _ hk => ⟨hk.1.1, ⟨hk.1.2.1, ⟨hk.2, ⟨hk.1.2.2.1, hk.1.2.2.2⟩⟩⟩⟩)), (mS HO_7 (fun _ hk => ⟨hk.1.1, ⟨hk.2, hk.1.2⟩⟩)), (kM BK567), (kB HB)⟩)
          ·
           skip
           refine Kd.R_lit_step (Kd.int .i64) _ 2 ?hg (N := 24) ?hd (xs := ([a2] : List Int)) (inner := [.int .i64 a2]) (ok := fun _ => True) (okp := fun _ => True) ?hr ?hp (fun _ hk => hk) trivial (Below.refl _ _) (Nat.le_refl _) (by simp) ?_; (case hd => rfl); (case hg => rfl); (case hr => first | (go_simp; done) | (go_simp; rfl)); (case hp => exact (Reps.one (show Kd.M (Kd.int .i64) _ _ _ a2 [.int .i64 a2] from rfl) (Reps.none _ _)))
           intro v578 w21 ho22 hb hg_ hnew_
           clear hg_ hnew_
           (first | rw [← Ny577.out] at ho22 | (simp only [Int.reduceToNat] at ho22; rw [← Ny577.out] at ho22))
           have n0_ := yD (Kd.S_elder' (kS HO_7) (yH ho22) hb)
           have n1_ := yD (Kd.V_elder' (kU HO_10) (yH ho22) hb)
           have n2_ := yD (Kd.V_elder' (kU HL566_0) (yH ho22) hb)
           have n3_ := yD (Kd.V_elder' (kU HL566_1) (yH ho22) hb)
           have n4_ := yD (Kd.N_elder' (kQ HO573) (yH ho22) hb)
           have n5_ := yD (yZ (Kd.R_newM (M := fun k_ => (w.heap.size ≤ k_)) ho22 (below_size (kB HB)) (fun k_ h_ => h_)) (below_size (kB HB)))
           have n6_ := yD (zB (kN BK567) hb)
           have n7_ := yD (zC (kB HB) hb)
           clear HO_7 HO_10 HL566_0 HL566_1 HO573 BK567 HB; have HO_7 := n0_; have HO_10 := n1_; have HL566_0 := n2_; have HL566_1 := n3_; have HO573 := n4_; have HO579 := n5_; have BK567 := n6_; have HB := n7_; clear n0_ n1_ n2_ n3_ n4_ n5_ n6_ n7_ hb ho22
           refine hK.out _ _ (cz2 BK567.out) (fun hHeld => ?_)
           clear hK K
           refine nZ 24 ?_
           exact norm_ (by first | (simp only [putAll, Act.put, zH, zI, zJ]; done) | (simp only [putAll, Act.put, zH, zI, zJ]; rfl)) (hJ2_5_8 (v569, (.slice Ao21 y571.length co21), v578) _ ⟨hHeld, (mV HL566_0 (fun _ hk => ⟨hk.1.1, ⟨hk.1.2.1, ⟨hk.2, ⟨hk.1.2.2.1, hk.1.2.2.2⟩⟩⟩⟩)), (mV HL566_1 (fun _ hk => ⟨hk.1.1, ⟨hk.1.2.1, ⟨hk.2, ⟨hk.1.2.2.1, hk.1.2.2.2⟩⟩⟩⟩)), (mN HO573 (fun _ hk => ⟨hk.1.1, ⟨hk.2, ⟨hk.1.2.1, hk.1.2.2⟩⟩⟩)), (mR HO579 (fun _ hk => hk.1)), (mV HO_10 (fun _ hk => ⟨hk.1.1, ⟨hk.1.2.1, ⟨hk.2, ⟨hk.1.2.2.1, hk.1.2.2.2⟩⟩⟩⟩)), (mS HO_7 (fun _ hk => ⟨hk.1.1, ⟨hk.2, hk.1.2⟩⟩)), (kM BK567), (kB HB)⟩)
        ·
         skip
         rintro ⟨v569, v578, v581⟩ w22 ⟨hS_, h0_, h1_, h2_, h3_, h4_, h5_, h6_, h7_⟩
         (try dsimp only at h0_ h1_ h2_ h3_ h4_ h5_ h6_ h7_); clear HO_7 HO_10 HL566_0 HL566_1 BK567 HB; have HL566_0 := yD h0_; have HL566_1 := yD h1_; have HO570 := yD h2_; have HO582 := yD h3_; have HO_10 := yD h4_; have HO_7 := yD h5_; have BK567 := yD h6_; have HB := yD h7_; clear h0_ h1_ h2_ h3_ h4_ h5_ h6_ h7_
         have hHeld : w22.cell? ⟨gb567, 0, none⟩ = some (.slice A566_0 ((rd_T42 l0 x12_1).f0).length c566_0) ∧ w22.cell? ⟨gb567, 1, none⟩ = some (.slice A566_1 ((rd_T42 l0 x12_1).f1).length c566_1) := hS_
         obtain ⟨Ao23, co23, eo23⟩ := Kd.R_slice HO570.out
         (first | subst eo23 | (injection eo23 with f1_ f2_ f3_; have f4_ := f1_.symm; have f5_ := f3_.symm; clear f1_ f2_ f3_; subst f4_; subst f5_))
         refine norm_ (a' := ?_) ?_ ?_
         rotate_left
         · simp only [putAll, Act.put, zH, zI, zJ]
           rfl
         refine qo 17 5 4031 (some 21) fun K hK => ?_
         refine Kd.N_lit_step (Kd.slice 2 (Kd.int .i64)) _ 36 ?hg (N' := 21) ?hd (xs := ([y568, (rd_T42 l0 x12_1).f0] : List (List Int))) (inner := [.slice Ao23 y568.length co23, .slice A566_0 ((rd_T42 l0 x12_1).f0).length c566_0]) (ok := (fun k_ => (P0_ k_ ∨ w.heap.size ≤ k_) ∧ oB (.slice Ao12 x7_1.length co12) k_ ∧ oB v581 k_ ∧ k_ ≠ gb567)) (okp := (fun k_ => (P0_ k_ ∨ w.heap.size ≤ k_) ∧ oB (.slice Ao12 x7_1.length co12) k_ ∧ oB v581 k_ ∧ k_ ≠ gb567)) ?hr ?hp (fun _ hk => hk) ((show ∀ k_, w22.heap.size ≤ k_ → (fun k_ => (P0_ k_ ∨ w.heap.size ≤ k_) ∧ oB (.slice Ao12 x7_1.length co12) k_ ∧ oB v581 k_ ∧ k_ ≠ gb567) k_ from fun k_ hk => ⟨(.inr (Nat.le_trans (below_size (kB HB)) hk)), Kd.fresh' (Kd.S_lt (kS HO_7)) k_ hk, Kd.fresh' (Kd.N_lt (kQ HO582)) k_ hk, Kd.freshB (g := gb567) (o := .cells #[.slice A566_0 ((rd_T42 l0 x12_1).f0).length c566_0, .slice A566_1 ((rd_T42 l0 x12_1).f1).length c566_1] 42 (0, 0)) (kM BK567) k_ hk⟩) _ (Nat.le_refl _)) (Below.refl _ _) (Nat.le_refl _) (by simp) ?_; (case hd => rfl); (case hg => rfl); (case hr => first | (go_simp; done) | (go_simp; rfl)); (case hp => exact (Reps.one (show Kd.FK (Kd.slice 2 (Kd.int .i64)) _ _ y568 [.slice Ao23 y568.length co23] from (Kd.FK_slice_mk (zA (zF (ok' := (fun k_ => (P0_ k_ ∨ w.heap.size ≤ k_) ∧ oB (.slice Ao12 x7_1.length co12) k_ ∧ oB v581 k_ ∧ k_ ≠ gb567)) (Kd.R_types (Kd.R_apart' (Kd.R_apart' (HO570.out) (Kd.S_typed HO_7.out) (by decide)) (Kd.N_typed HO582.out) (by decide)) BK567.out (by decide)) (fun k_ hk => ⟨(.inr (hk.1.1.1)), ⟨hk.1.1.2, ⟨hk.1.2, hk.2⟩⟩⟩))).2.1 (Kd.R_F (zF (ok' := (fun k_ => (P0_ k_ ∨ w.heap.size ≤ k_) ∧ oB (.slice Ao12 x7_1.length co12) k_ ∧ oB v581 k_ ∧ k_ ≠ gb567)) (Kd.R_types (Kd.R_apart' (Kd.R_apart' (HO570.out) (Kd.S_typed HO_7.out) (by decide)) (Kd.N_typed HO582.out) (by decide)) BK567.out (by decide)) (fun k_ hk => ⟨(.inr (hk.1.1.1)), ⟨hk.1.1.2, ⟨hk.1.2, hk.2⟩⟩⟩))))) (Reps.one (show Kd.FK (Kd.slice 2 (Kd.int .i64)) _ _ ((rd_T42 l0 x12_1).f0) [.slice A566_0 ((rd_T42 l0 x12_1).f0).length c566_0] from (Kd.FK_slice_mk (Kd.V_reads' (Kd.V_mono (ok' := (fun k_ => (P0_ k_ ∨ w.heap.size ≤ k_) ∧ oB (.slice Ao12 x7_1.length co12) k_ ∧ oB v581 k_ ∧ k_ ≠ gb567)) (HL566_0.out) (fun k_ hk => ⟨hk.1, ⟨hk.2.2.2.1, ⟨hk.2.2.1, hk.2.2.2.2⟩⟩⟩))).2.1 (Kd.V_F (Kd.V_mono (ok' := (fun k_ => (P0_ k_ ∨ w.heap.size ≤ k_) ∧ oB (.slice Ao12 x7_1.length co12) k_ ∧ oB v581 k_ ∧ k_ ≠ gb567)) (HL566_0.out) (fun k_ hk => ⟨hk.1, ⟨hk.2.2.2.1, ⟨hk.2.2.1, hk.2.2.2.2⟩⟩⟩))))) (Reps.none _ _))))
         intro v572 w24 ho25 hb hg_ hnew_
         clear hg_ hnew_
         (first | rw [← Ny571.out] at ho25 | (simp only [Int.reduceToNat] at ho25; rw [← Ny571.out] at ho25))
         have n0_ := yD (Kd.S_below (kS HO_7) hb)
         have n1_ := yD (Kd.V_elder' (kU HO_10) (Kd.N_base ho25) hb)
         have n2_ := yD (Kd.V_elder' (kU HL566_0) (Kd.N_base ho25) hb)
         have n3_ := yD (Kd.V_elder' (kU HL566_1) (Kd.N_base ho25) hb)
         have n4_ := yD (Kd.N_elder' (kQ HO582) (Kd.N_base ho25) hb)
         have n5_ := yD (Kd.N_lower ho25 (below_size (kB HB)))
         have n6_ := yD (zB (kN BK567) hb)
         have n7_ := yD (zC (kB HB) hb)
         clear HO_7 HO_10 HL566_0 HL566_1 HO582 BK567 HB HO570; have HO_7 := n0_; have HO_10 := n1_; have HL566_0 := n2_; have HL566_1 := n3_; have HO582 := n4_; have HO573 := n5_; have BK567 := n6_; have HB := n7_; clear n0_ n1_ n2_ n3_ n4_ n5_ n6_ n7_ hb ho25
         refine hK.out _ _ (cz2 BK567.out) (fun hHeld => ?_)
         clear hK K
         refine nZ 21 ?_
         exact norm_ (by first | (simp only [putAll, Act.put, zH, zI, zJ]; done) | (simp only [putAll, Act.put, zH, zI, zJ]; rfl)) (hJ2_5_8_11 (.slice Ao23 y568.length co23, v572, v578, v581) _ ⟨hHeld, (mV HL566_0 (fun _ hk => ⟨hk.1.1, ⟨hk.2, ⟨hk.1.2.2.1, ⟨hk.1.2.2.2.1, hk.1.2.2.2.2⟩⟩⟩⟩)), (mV HL566_1 (fun _ hk => ⟨hk.1.1, ⟨hk.2, ⟨hk.1.2.2.1, ⟨hk.1.2.2.2.1, hk.1.2.2.2.2⟩⟩⟩⟩)), (mN HO573 (fun _ hk => ⟨hk.1, ⟨hk.2.2.1, ⟨hk.2.1, hk.2.2.2⟩⟩⟩)), (mN HO582 (fun _ hk => ⟨hk.1.1, ⟨hk.2, ⟨hk.1.2.2.1, hk.1.2.2.2⟩⟩⟩)), (mV HO_10 (fun _ hk => ⟨hk.1.1, ⟨hk.2, ⟨hk.1.2.2.1, ⟨hk.1.2.2.2.1, hk.1.2.2.2.2⟩⟩⟩⟩)), (mS HO_7 (fun _ hk => ⟨hk.1, hk.2.2⟩)), (kM BK567), (kB HB)⟩)
       ·
        skip
        rintro ⟨v569, v572, v578⟩ w22 ⟨hS_, h0_, h1_, h2_, h3_, h4_, h5_, h6_, h7_⟩
        (try dsimp only at h0_ h1_ h2_ h3_ h4_ h5_ h6_ h7_); clear HO_7 HO_10 HL566_0 HL566_1 BK567 HB; have HL566_0 := yD h0_; have HL566_1 := yD h1_; have HO573 := yD h2_; have HO579 := yD h3_; have HO_10 := yD h4_; have HO_7 := yD h5_; have BK567 := yD h6_; have HB := yD h7_; clear h0_ h1_ h2_ h3_ h4_ h5_ h6_ h7_
        have hHeld : w22.cell? ⟨gb567, 0, none⟩ = some (.slice A566_0 ((rd_T42 l0 x12_1).f0).length c566_0) ∧ w22.cell? ⟨gb567, 1, none⟩ = some (.slice A566_1 ((rd_T42 l0 x12_1).f1).length c566_1) := hS_
        obtain ⟨Ao23, co23, eo23⟩ := Kd.N_slice HO573.out
        (first | subst eo23 | (injection eo23 with f1_ f2_ f3_; have f4_ := f1_.symm; have f5_ := f3_.symm; clear f1_ f2_ f3_; subst f4_; subst f5_))
        refine norm_ (a' := ?_) ?_ ?_
        rotate_left
        · simp only [putAll, Act.put, zH, zI, zJ]
          rfl
        refine two_ (i := 6) (j := 11) (Ni := some 22) (Nj := some 27) #[true, true, true, true, true, true, true, true, true, true, true, false, false, false, false, false, false] #[true, true, true, true, true, true, false, true, true, true, true, true, false, false, false, false, false] rfl rfl rfl rfl (two_of HT_.out (by kernel_rfl)) (by decide) (by decide) (fun K hK => ?_) (fun K hK => ?_)
        ·
         skip
         refine qg Try.func146 _ ((slices_Concat_int64_int64.calls k1 _ _ y571 t574 _ ?z1 A7.out).mono ?_)
         (case z1 => exact ⟨kV (Kd.N_reads' HO573.out).2.2, (Kd.N_reads' HO573.out).2.1⟩)
         rintro e w24 ⟨v575, rfl, ho0, hb⟩
         refine ⟨_, rfl, ?_⟩
         replace HO_7 := yD (Kd.S_elder' (kS HO_7) (yH ho0) hb); replace HO_10 := yD (Kd.V_elder' (kU HO_10) (yH ho0) hb); replace HL566_0 := yD (Kd.V_elder' (kU HL566_0) (yH ho0) hb); replace HL566_1 := yD (Kd.V_elder' (kU HL566_1) (yH ho0) hb); replace HO573 := yD (Kd.N_elder' (kQ HO573) (yH ho0) hb); have HO576 := yD (yZ (yJ (Kd.R_newM (M := fun k_ => (w.heap.size ≤ k_)) ho0 (below_size (kB HB)) (fun k_ h_ => h_)) (yK (kA HO579))) (below_size (kB HB))); replace HO579 := yD (Kd.R_elder' (kA HO579) (yH ho0) hb); replace BK567 := zY BK567 hb; replace HB := zX HB hb
         refine hK.out _ _ (cz2 BK567.out) (fun hHeld => ?_)
         clear hK K
         refine nZ 22 ?_
         exact norm_ (by first | (simp only [putAll, Act.put, zH, zI, zJ]; done) | (simp only [putAll, Act.put, zH, zI, zJ]; rfl)) (hJ2_5_6_8 (v569, .slice Ao23 y571.length co23, v575, v578) _ ⟨hHeld, (mV HL566_0 (fun _ hk => ⟨hk.1.1, ⟨hk.1.2.1, ⟨hk.2, ⟨hk.1.2.2.1, ⟨hk.1.2.2.2.1, hk.1.2.2.2.2⟩⟩⟩⟩⟩)), (mV HL566_1 (fun _ hk => ⟨hk.1.1, ⟨hk.1.2.1, ⟨hk.2, ⟨hk.1.2.2.1, ⟨hk.1.2.2.2.1, hk.1.2.2.2.2⟩⟩⟩⟩⟩)), (mN HO573 (fun _ hk => ⟨hk.1.1, ⟨hk.2, ⟨hk.1.2.1, ⟨hk.1.2.2.1, hk.1.2.2.2⟩⟩⟩⟩)), (mR HO576 (fun _ hk => ⟨hk.1.1, hk.2⟩)), (kA HO579), (mV HO_10 (fun _ hk => ⟨hk.1.1, ⟨hk.1.2.1, ⟨hk.2, ⟨hk.1.2.2.1, ⟨hk.1.2.2.2.1, hk.1.2.2.2.2⟩⟩⟩⟩⟩)), (mS HO_7 (fun _ hk => ⟨hk.1.1, ⟨hk.2, ⟨hk.1.2.1, hk.1.2.2⟩⟩⟩)), (kM BK567), (kB HB)⟩)
        ·
         skip
         obtain ⟨Ao23b, co23b, eo23b⟩ := Kd.R_slice HO579.out
         subst eo23b
         refine Kd.N_lit_step (Kd.slice 2 (Kd.int .i64)) _ 36 ?hg (N' := 27) ?hd (xs := ([y577, (rd_T42 l0 x12_1).f1] : List (List Int))) (inner := [.slice Ao23b y577.length co23b, .slice A566_1 ((rd_T42 l0 x12_1).f1).length c566_1]) (ok := (fun k_ => (P0_ k_ ∨ w.heap.size ≤ k_) ∧ oB (.slice Ao12 x7_1.length co12) k_ ∧ oB (.slice Ao23 y571.length co23) k_ ∧ k_ ≠ gb567)) (okp := (fun k_ => (P0_ k_ ∨ w.heap.size ≤ k_) ∧ oB (.slice Ao12 x7_1.length co12) k_ ∧ oB (.slice Ao23 y571.length co23) k_ ∧ k_ ≠ gb567)) ?hr ?hp (fun _ hk => hk) ((show ∀ k_, w22.heap.size ≤ k_ → (fun k_ => (P0_ k_ ∨ w.heap.size ≤ k_) ∧ oB (.slice Ao12 x7_1.length co12) k_ ∧ oB (.slice Ao23 y571.length co23) k_ ∧ k_ ≠ gb567) k_ from fun k_ hk => ⟨(.inr (Nat.le_trans (below_size (kB HB)) hk)), Kd.fresh' (Kd.S_lt (kS HO_7)) k_ hk, Kd.fresh' (Kd.N_lt (kQ HO573)) k_ hk, Kd.freshB (g := gb567) (o := .cells #[.slice A566_0 ((rd_T42 l0 x12_1).f0).length c566_0, .slice A566_1 ((rd_T42 l0 x12_1).f1).length c566_1] 42 (0, 0)) (kM BK567) k_ hk⟩) _ (Nat.le_refl _)) (Below.refl _ _) (Nat.le_refl _) (by simp) ?_; (case hd => rfl); (case hg => rfl); (case hr => first | (go_simp; done) | (go_simp; rfl)); (case hp => exact (Reps.one (show Kd.FK (Kd.slice 2 (Kd.int .i64)) _ _ y577 [.slice Ao23b y577.length co23b] from (Kd.FK_slice_mk (zA (zF (ok' := (fun k_ => (P0_ k_ ∨ w.heap.size ≤ k_) ∧ oB (.slice Ao12 x7_1.length co12) k_ ∧ oB (.slice Ao23 y571.length co23) k_ ∧ k_ ≠ gb567)) (Kd.R_types (Kd.R_apart' (Kd.R_apart' (HO579.out) (Kd.S_typed HO_7.out) (by decide)) (Kd.N_typed HO573.out) (by decide)) BK567.out (by decide)) (fun k_ hk => ⟨(.inr (hk.1.1.1)), ⟨hk.1.1.2, ⟨hk.1.2, hk.2⟩⟩⟩))).2.1 (Kd.R_F (zF (ok' := (fun k_ => (P0_ k_ ∨ w.heap.size ≤ k_) ∧ oB (.slice Ao12 x7_1.length co12) k_ ∧ oB (.slice Ao23 y571.length co23) k_ ∧ k_ ≠ gb567)) (Kd.R_types (Kd.R_apart' (Kd.R_apart' (HO579.out) (Kd.S_typed HO_7.out) (by decide)) (Kd.N_typed HO573.out) (by decide)) BK567.out (by decide)) (fun k_ hk => ⟨(.inr (hk.1.1.1)), ⟨hk.1.1.2, ⟨hk.1.2, hk.2⟩⟩⟩))))) (Reps.one (show Kd.FK (Kd.slice 2 (Kd.int .i64)) _ _ ((rd_T42 l0 x12_1).f1) [.slice A566_1 ((rd_T42 l0 x12_1).f1).length c566_1] from (Kd.FK_slice_mk (Kd.V_reads' (Kd.V_mono (ok' := (fun k_ => (P0_ k_ ∨ w.heap.size ≤ k_) ∧ oB (.slice Ao12 x7_1.length co12) k_ ∧ oB (.slice Ao23 y571.length co23) k_ ∧ k_ ≠ gb567)) (HL566_1.out) (fun k_ hk => ⟨hk.1, ⟨hk.2.2.2.1, ⟨hk.2.1, hk.2.2.2.2⟩⟩⟩))).2.1 (Kd.V_F (Kd.V_mono (ok' := (fun k_ => (P0_ k_ ∨ w.heap.size ≤ k_) ∧ oB (.slice Ao12 x7_1.length co12) k_ ∧ oB (.slice Ao23 y571.length co23) k_ ∧ k_ ≠ gb567)) (HL566_1.out) (fun k_ hk => ⟨hk.1, ⟨hk.2.2.2.1, ⟨hk.2.1, hk.2.2.2.2⟩⟩⟩))))) (Reps.none _ _))))
         intro v581 w24 ho25 hb hg_ hnew_
         clear hg_ hnew_
         (first | rw [← Ny580.out] at ho25 | (simp only [Int.reduceToNat] at ho25; rw [← Ny580.out] at ho25))
         have n0_ := yD (Kd.S_below (kS HO_7) hb)
         have n1_ := yD (Kd.V_elder' (kU HO_10) (Kd.N_base ho25) hb)
         have n2_ := yD (Kd.V_elder' (kU HL566_0) (Kd.N_base ho25) hb)
         have n3_ := yD (Kd.V_elder' (kU HL566_1) (Kd.N_base ho25) hb)
         have n4_ := yD (Kd.N_elder' (kQ HO573) (Kd.N_base ho25) hb)
         have n5_ := yD (Kd.N_lower ho25 (below_size (kB HB)))
         have n6_ := yD (zB (kN BK567) hb)
         have n7_ := yD (zC (kB HB) hb)
         clear HO_7 HO_10 HL566_0 HL566_1 HO573 BK567 HB HO579; have HO_7 := n0_; have HO_10 := n1_; have HL566_0 := n2_; have HL566_1 := n3_; have HO573 := n4_; have HO582 := n5_; have BK567 := n6_; have HB := n7_; clear n0_ n1_ n2_ n3_ n4_ n5_ n6_ n7_ hb ho25
         refine hK.out _ _ (cz2 BK567.out) (fun hHeld => ?_)
         clear hK K
         refine nZ 27 ?_
         exact norm_ (by first | (simp only [putAll, Act.put, zH, zI, zJ]; done) | (simp only [putAll, Act.put, zH, zI, zJ]; rfl)) (hJ2_5_8_11 (v569, (.slice Ao23 y571.length co23), .slice Ao23b y577.length co23b, v581) _ ⟨hHeld, (mV HL566_0 (fun _ hk => ⟨hk.1.1, ⟨hk.1.2.1, ⟨hk.2, ⟨hk.1.2.2.2.1, hk.1.2.2.2.2⟩⟩⟩⟩)), (mV HL566_1 (fun _ hk => ⟨hk.1.1, ⟨hk.1.2.1, ⟨hk.2, ⟨hk.1.2.2.2.1, hk.1.2.2.2.2⟩⟩⟩⟩)), (mN HO573 (fun _ hk => ⟨hk.1.1, ⟨hk.2, ⟨hk.1.2.2.1, hk.1.2.2.2⟩⟩⟩)), (mN HO582 (fun _ hk => ⟨hk.1, ⟨hk.2.2.1, ⟨hk.2.1, hk.2.2.2⟩⟩⟩)), (mV HO_10 (fun _ hk => ⟨hk.1.1, ⟨hk.1.2.1, ⟨hk.2, ⟨hk.1.2.2.2.1, hk.1.2.2.2.2⟩⟩⟩⟩)), (mS HO_7 (fun _ hk => ⟨hk.1, hk.2.2⟩)), (kM BK567), (kB HB)⟩)
      ·
       skip
       rintro ⟨v569, v572, v575⟩ w22 ⟨hS_, h0_, h1_, h2_, h3_, h4_, h5_, h6_, h7_⟩
       (try dsimp only at h0_ h1_ h2_ h3_ h4_ h5_ h6_ h7_); clear HO_7 HO_10 HL566_0 HL566_1 BK567 HB; have HL566_0 := yD h0_; have HL566_1 := yD h1_; have HO573 := yD h2_; have HO576 := yD h3_; have HO_10 := yD h4_; have HO_7 := yD h5_; have BK567 := yD h6_; have HB := yD h7_; clear h0_ h1_ h2_ h3_ h4_ h5_ h6_ h7_
       have hHeld : w22.cell? ⟨gb567, 0, none⟩ = some (.slice A566_0 ((rd_T42 l0 x12_1).f0).length c566_0) ∧ w22.cell? ⟨gb567, 1, none⟩ = some (.slice A566_1 ((rd_T42 l0 x12_1).f1).length c566_1) := hS_
       refine norm_ (a' := ?_) ?_ ?_
       rotate_left
       · simp only [putAll, Act.put, zH, zI, zJ]
         rfl
       refine qo 17 8 2047 (some 24) fun K hK => ?_
       refine Kd.R_lit_step (Kd.int .i64) _ 2 ?hg (N := 24) ?hd (xs := ([a2] : List Int)) (inner := [.int .i64 a2]) (ok := fun _ => True) (okp := fun _ => True) ?hr ?hp (fun _ hk => hk) trivial (Below.refl _ _) (Nat.le_refl _) (by simp) ?_; (case hd => rfl); (case hg => rfl); (case hr => first | (go_simp; done) | (go_simp; rfl)); (case hp => exact (Reps.one (show Kd.M (Kd.int .i64) _ _ _ a2 [.int .i64 a2] from rfl) (Reps.none _ _)))
       intro v578 w23 ho24 hb hg_ hnew_
       clear hg_ hnew_
       (first | rw [← Ny577.out] at ho24 | (simp only [Int.reduceToNat] at ho24; rw [← Ny577.out] at ho24))
       have n0_ := yD (Kd.S_elder' (kS HO_7) (yH ho24) hb)
       have n1_ := yD (Kd.V_elder' (kU HO_10) (yH ho24) hb)
       have n2_ := yD (Kd.V_elder' (kU HL566_0) (yH ho24) hb)
       have n3_ := yD (Kd.V_elder' (kU HL566_1) (yH ho24) hb)
       have n4_ := yD (Kd.N_elder' (kQ HO573) (yH ho24) hb)
       have n5_ := yD (Kd.R_elder' (kA HO576) (yH ho24) hb)
       have n6_ := yD (yZ (yJ (Kd.R_newM (M := fun k_ => (w.heap.size ≤ k_)) ho24 (below_size (kB HB)) (fun k_ h_ => h_)) (yK (kA HO576))) (below_size (kB HB)))
       have n7_ := yD (zB (kN BK567) hb)
       have n8_ := yD (zC (kB HB) hb)
       clear HO_7 HO_10 HL566_0 HL566_1 HO573 HO576 BK567 HB; have HO_7 := n0_; have HO_10 := n1_; have HL566_0 := n2_; have HL566_1 := n3_; have HO573 := n4_; have HO576 := n5_; have HO579 := n6_; have BK567 := n7_; have HB := n8_; clear n0_ n1_ n2_ n3_ n4_ n5_ n6_ n7_ n8_ hb ho24
       refine hK.out _ _ (cz2 BK567.out) (fun hHeld => ?_)
       clear hK K
       refine nZ 24 ?_
       exact norm_ (by first | (simp only [putAll, Act.put, zH, zI, zJ]; done) | (simp only [putAll, Act.put, zH, zI, zJ]; rfl)) (hJ2_5_6_8 (v569, v572, v575, v578) _ ⟨hHeld, (mV HL566_0 (fun _ hk => ⟨hk.1.1, ⟨hk.1.2.1, ⟨hk.1.2.2.1, ⟨hk.2, ⟨hk.1.2.2.2.1, hk.1.2.2.2.2⟩⟩⟩⟩⟩)), (mV HL566_1 (fun _ hk => ⟨hk.1.1, ⟨hk.1.2.1, ⟨hk.1.2.2.1, ⟨hk.2, ⟨hk.1.2.2.2.1, hk.1.2.2.2.2⟩⟩⟩⟩⟩)), (mN HO573 (fun _ hk => ⟨hk.1.1, ⟨hk.1.2.1, ⟨hk.2, ⟨hk.1.2.2.1, hk.1.2.2.2⟩⟩⟩⟩)), (kA HO576), (mR HO579 (fun _ hk => ⟨hk.1.1, hk.2⟩)), (mV HO_10 (fun _ hk => ⟨hk.1.1, ⟨hk.1.2.1, ⟨hk.1.2.2.1, ⟨hk.2, ⟨hk.1.2.2.2.1, hk.1.2.2.2.2⟩⟩⟩⟩⟩)), (mS HO_7 (fun _ hk => ⟨hk.1.1, ⟨hk.1.2.1, ⟨hk.2, hk.1.2.2⟩⟩⟩)), (kM BK567), (kB HB)⟩)
     ·
      skip
      rintro ⟨v569, v572, v578, v581⟩ w25 ⟨hS_, h0_, h1_, h2_, h3_, h4_, h5_, h6_, h7_⟩
      (try dsimp only at h0_ h1_ h2_ h3_ h4_ h5_ h6_ h7_); clear HO_7 HO_10 HL566_0 HL566_1 BK567 HB; have HL566_0 := yD h0_; have HL566_1 := yD h1_; have HO573 := yD h2_; have HO582 := yD h3_; have HO_10 := yD h4_; have HO_7 := yD h5_; have BK567 := yD h6_; have HB := yD h7_; clear h0_ h1_ h2_ h3_ h4_ h5_ h6_ h7_
      have hHeld : w25.cell? ⟨gb567, 0, none⟩ = some (.slice A566_0 ((rd_T42 l0 x12_1).f0).length c566_0) ∧ w25.cell? ⟨gb567, 1, none⟩ = some (.slice A566_1 ((rd_T42 l0 x12_1).f1).length c566_1) := hS_
      obtain ⟨Ao26, co26, eo26⟩ := Kd.N_slice HO573.out
      (first | subst eo26 | (injection eo26 with f1_ f2_ f3_; have f4_ := f1_.symm; have f5_ := f3_.symm; clear f1_ f2_ f3_; subst f4_; subst f5_))
      refine norm_ (a' := ?_) ?_ ?_
      rotate_left
      · simp only [putAll, Act.put, zH, zI, zJ]
        rfl
      refine qo 17 6 4095 (some 22) fun K hK => ?_
      refine qg Try.func146 _ ((slices_Concat_int64_int64.calls k1 _ _ y571 t574 _ ?z1 A7.out).mono ?_)
      (case z1 => exact ⟨kV (Kd.N_reads' HO573.out).2.2, (Kd.N_reads' HO573.out).2.1⟩)
      rintro e w27 ⟨v575, rfl, ho0, hb⟩
      refine ⟨_, rfl, ?_⟩
      replace HO_7 := yD (Kd.S_elder' (kS HO_7) (yH ho0) hb); replace HO_10 := yD (Kd.V_elder' (kU HO_10) (yH ho0) hb); replace HL566_0 := yD (Kd.V_elder' (kU HL566_0) (yH ho0) hb); replace HL566_1 := yD (Kd.V_elder' (kU HL566_1) (yH ho0) hb); replace HO573 := yD (Kd.N_elder' (kQ HO573) (yH ho0) hb); replace HO582 := yD (Kd.N_elder' (kQ HO582) (yH ho0) hb); have HO576 := yD (yZ (Kd.R_newM (M := fun k_ => (w.heap.size ≤ k_)) ho0 (below_size (kB HB)) (fun k_ h_ => h_)) (below_size (kB HB))); replace BK567 := zY BK567 hb; replace HB := zX HB hb
      refine hK.out _ _ (cz2 BK567.out) (fun hHeld => ?_)
      clear hK K
      refine nZ 22 ?_
      exact norm_ (by first | (simp only [putAll, Act.put, zH, zI, zJ]; done) | (simp only [putAll, Act.put, zH, zI, zJ]; rfl)) (hJ2_5_6_8_11 (v569, .slice Ao26 y571.length co26, v575, v578, v581) _ ⟨hHeld, (mV HL566_0 (fun _ hk => ⟨hk.1.1, ⟨hk.1.2.1, ⟨hk.2, ⟨hk.1.2.2.1, ⟨hk.1.2.2.2.1, hk.1.2.2.2.2⟩⟩⟩⟩⟩)), (mV HL566_1 (fun _ hk => ⟨hk.1.1, ⟨hk.1.2.1, ⟨hk.2, ⟨hk.1.2.2.1, ⟨hk.1.2.2.2.1, hk.1.2.2.2.2⟩⟩⟩⟩⟩)), (mN HO573 (fun _ hk => ⟨hk.1.1, ⟨hk.2, ⟨hk.1.2.1, ⟨hk.1.2.2.1, hk.1.2.2.2⟩⟩⟩⟩)), (mR HO576 (fun _ hk => hk.1)), (mN HO582 (fun _ hk => ⟨hk.1.1, ⟨hk.1.2.1, ⟨hk.2, ⟨hk.1.2.2.1, hk.1.2.2.2⟩⟩⟩⟩)), (mV HO_10 (fun _ hk => ⟨hk.1.1, ⟨hk.1.2.1, ⟨hk.2, ⟨hk.1.2.2.1, ⟨hk.1.2.2.2.1, hk.1.2.2.2.2⟩⟩⟩⟩⟩)), (mS HO_7 (fun _ hk => ⟨hk.1.1, ⟨hk.2, hk.1.2⟩⟩)), (kM BK567), (kB HB)⟩)
    ·
     skip
     rintro ⟨v569, v572, v575, v578⟩ w24 ⟨hS_, h0_, h1_, h2_, h3_, h4_, h5_, h6_, h7_, h8_⟩
     (try dsimp only at h0_ h1_ h2_ h3_ h4_ h5_ h6_ h7_ h8_); clear HO_7 HO_10 HL566_0 HL566_1 BK567 HB; have HL566_0 := yD h0_; have HL566_1 := yD h1_; have HO573 := yD h2_; have HO576 := yD h3_; have HO579 := yD h4_; have HO_10 := yD h5_; have HO_7 := yD h6_; have BK567 := yD h7_; have HB := yD h8_; clear h0_ h1_ h2_ h3_ h4_ h5_ h6_ h7_ h8_
     have hHeld : w24.cell? ⟨gb567, 0, none⟩ = some (.slice A566_0 ((rd_T42 l0 x12_1).f0).length c566_0) ∧ w24.cell? ⟨gb567, 1, none⟩ = some (.slice A566_1 ((rd_T42 l0 x12_1).f1).length c566_1) := hS_
     obtain ⟨Ao25, co25, eo25⟩ := Kd.R_slice HO579.out
     (first | subst eo25 | (injection eo25 with f1_ f2_ f3_; have f4_ := f1_.symm; have f5_ := f3_.symm; clear f1_ f2_ f3_; subst f4_; subst f5_))
     refine norm_ (a' := ?_) ?_ ?_
     rotate_left
     · simp only [putAll, Act.put, zH, zI, zJ]
       rfl
     refine qo 17 11 4095 (some 27) fun K hK => ?_
     refine Kd.N_lit_step (Kd.slice 2 (Kd.int .i64)) _ 36 ?hg (N' := 27) ?hd (xs := ([y577, (rd_T42 l0 x12_1).f1] : List (List Int))) (inner := [.slice Ao25 y577.length co25, .slice A566_1 ((rd_T42 l0 x12_1).f1).length c566_1]) (ok := (fun k_ => (P0_ k_ ∨ w.heap.size ≤ k_) ∧ oB (.slice Ao12 x7_1.length co12) k_ ∧ oB v572 k_ ∧ oB v575 k_ ∧ k_ ≠ gb567)) (okp := (fun k_ => (P0_ k_ ∨ w.heap.size ≤ k_) ∧ oB (.slice Ao12 x7_1.length co12) k_ ∧ oB v572 k_ ∧ oB v575 k_ ∧ k_ ≠ gb567)) ?hr ?hp (fun _ hk => hk) ((show ∀ k_, w24.heap.size ≤ k_ → (fun k_ => (P0_ k_ ∨ w.heap.size ≤ k_) ∧ oB (.slice Ao12 x7_1.length co12) k_ ∧ oB v572 k_ ∧ oB v575 k_ ∧ k_ ≠ gb567) k_ from fun k_ hk => ⟨(.inr (Nat.le_trans (below_size (kB HB)) hk)), Kd.fresh' (Kd.S_lt (kS HO_7)) k_ hk, Kd.fresh' (Kd.N_lt (kQ HO573)) k_ hk, Kd.fresh' (yK (kA HO576)) k_ hk, Kd.freshB (g := gb567) (o := .cells #[.slice A566_0 ((rd_T42 l0 x12_1).f0).length c566_0, .slice A566_1 ((rd_T42 l0 x12_1).f1).length c566_1] 42 (0, 0)) (kM BK567) k_ hk⟩) _ (Nat.le_refl _)) (Below.refl _ _) (Nat.le_refl _) (by simp) ?_; (case hd => rfl); (case hg => rfl); (case hr => first | (go_simp; done) | (go_simp; rfl)); (case hp => exact (Reps.one (show Kd.FK (Kd.slice 2 (Kd.int .i64)) _ _ y577 [.slice Ao25 y577.length co25] from (Kd.FK_slice_mk (zA (zF (ok' := (fun k_ => (P0_ k_ ∨ w.heap.size ≤ k_) ∧ oB (.slice Ao12 x7_1.length co12) k_ ∧ oB v572 k_ ∧ oB v575 k_ ∧ k_ ≠ gb567)) (Kd.R_types (Kd.R_apart' (Kd.R_apart' (HO579.out) (Kd.S_typed HO_7.out) (by decide)) (Kd.N_typed HO573.out) (by decide)) BK567.out (by decide)) (fun k_ hk => ⟨(.inr (hk.1.1.1.1)), ⟨hk.1.1.2, ⟨hk.1.2, ⟨hk.1.1.1.2, hk.2⟩⟩⟩⟩))).2.1 (Kd.R_F (zF (ok' := (fun k_ => (P0_ k_ ∨ w.heap.size ≤ k_) ∧ oB (.slice Ao12 x7_1.length co12) k_ ∧ oB v572 k_ ∧ oB v575 k_ ∧ k_ ≠ gb567)) (Kd.R_types (Kd.R_apart' (Kd.R_apart' (HO579.out) (Kd.S_typed HO_7.out) (by decide)) (Kd.N_typed HO573.out) (by decide)) BK567.out (by decide)) (fun k_ hk => ⟨(.inr (hk.1.1.1.1)), ⟨hk.1.1.2, ⟨hk.1.2, ⟨hk.1.1.1.2, hk.2⟩⟩⟩⟩))))) (Reps.one (show Kd.FK (Kd.slice 2 (Kd.int .i64)) _ _ ((rd_T42 l0 x12_1).f1) [.slice A566_1 ((rd_T42 l0 x12_1).f1).length c566_1] from (Kd.FK_slice_mk (Kd.V_reads' (Kd.V_mono (ok' := (fun k_ => (P0_ k_ ∨ w.heap.size ≤ k_) ∧ oB (.slice Ao12 x7_1.length co12) k_ ∧ oB v572 k_ ∧ oB v575 k_ ∧ k_ ≠ gb567)) (HL566_1.out) (fun k_ hk => ⟨hk.1, ⟨hk.2.2.2.2.1, ⟨hk.2.1, ⟨hk.2.2.1, hk.2.2.2.2.2⟩⟩⟩⟩))).2.1 (Kd.V_F (Kd.V_mono (ok' := (fun k_ => (P0_ k_ ∨ w.heap.size ≤ k_) ∧ oB (.slice Ao12 x7_1.length co12) k_ ∧ oB v572 k_ ∧ oB v575 k_ ∧ k_ ≠ gb567)) (HL566_1.out) (fun k_ hk => ⟨hk.1, ⟨hk.2.2.2.2.1, ⟨hk.2.1, ⟨hk.2.2.1, hk.2.2.2.2.2⟩⟩⟩⟩))))) (Reps.none _ _))))
     intro v581 w26 ho27 hb hg_ hnew_
     clear hg_ hnew_
     (first | rw [← Ny580.out] at ho27 | (simp only [Int.reduceToNat] at ho27; rw [← Ny580.out] at ho27))
     have n0_ := yD (Kd.S_below (kS HO_7) hb)
     have n1_ := yD (Kd.V_elder' (kU HO_10) (Kd.N_base ho27) hb)
     have n2_ := yD (Kd.V_elder' (kU HL566_0) (Kd.N_base ho27) hb)
     have n3_ := yD (Kd.V_elder' (kU HL566_1) (Kd.N_base ho27) hb)
     have n4_ := yD (Kd.N_elder' (kQ HO573) (Kd.N_base ho27) hb)
     have n5_ := yD (zE (kA HO576) hb)
     have n6_ := yD (Kd.N_lower ho27 (below_size (kB HB)))
     have n7_ := yD (zB (kN BK567) hb)
     have n8_ := yD (zC (kB HB) hb)
     clear HO_7 HO_10 HL566_0 HL566_1 HO573 HO576 BK567 HB HO579; have HO_7 := n0_; have HO_10 := n1_; have HL566_0 := n2_; have HL566_1 := n3_; have HO573 := n4_; have HO576 := n5_; have HO582 := n6_; have BK567 := n7_; have HB := n8_; clear n0_ n1_ n2_ n3_ n4_ n5_ n6_ n7_ n8_ hb ho27
     refine hK.out _ _ (cz2 BK567.out) (fun hHeld => ?_)
     clear hK K
     refine nZ 27 ?_
     exact norm_ (by first | (simp only [putAll, Act.put, zH, zI, zJ]; done) | (simp only [putAll, Act.put, zH, zI, zJ]; rfl)) (hJ2_5_6_8_11 (v569, v572, v575, .slice Ao25 y577.length co25, v581) _ ⟨hHeld, (mV HL566_0 (fun _ hk => ⟨hk.1.1, ⟨hk.1.2.1, ⟨hk.1.2.2.1, ⟨hk.2, ⟨hk.1.2.2.2.2.1, hk.1.2.2.2.2.2⟩⟩⟩⟩⟩)), (mV HL566_1 (fun _ hk => ⟨hk.1.1, ⟨hk.1.2.1, ⟨hk.1.2.2.1, ⟨hk.2, ⟨hk.1.2.2.2.2.1, hk.1.2.2.2.2.2⟩⟩⟩⟩⟩)), (mN HO573 (fun _ hk => ⟨hk.1.1, ⟨hk.1.2.1, ⟨hk.2, ⟨hk.1.2.2.2.1, hk.1.2.2.2.2⟩⟩⟩⟩)), (mR HO576 (fun _ hk => hk.1)), (mN HO582 (fun _ hk => ⟨hk.1, ⟨hk.2.2.1, ⟨hk.2.2.2.1, ⟨hk.2.1, hk.2.2.2.2⟩⟩⟩⟩)), (mV HO_10 (fun _ hk => ⟨hk.1.1, ⟨hk.1.2.1, ⟨hk.1.2.2.1, ⟨hk.2, ⟨hk.1.2.2.2.2.1, hk.1.2.2.2.2.2⟩⟩⟩⟩⟩)), (mS HO_7 (fun _ hk => ⟨hk.1, ⟨hk.2.1, hk.2.2.2⟩⟩)), (kM BK567), (kB HB)⟩)
   rintro ⟨v569, v572, v575, v578, v581⟩ w27 ⟨hS_, h0_, h1_, h2_, h3_, h4_, h5_, h6_, h7_, h8_⟩
   (try dsimp only at h0_ h1_ h2_ h3_ h4_ h5_ h6_ h7_ h8_); clear HO_7 HO_10 HL566_0 HL566_1 BK567 HB; have HL566_0 := yD h0_; have HL566_1 := yD h1_; have HO573 := yD h2_; have HO576 := yD h3_; have HO582 := yD h4_; have HO_10 := yD h5_; have HO_7 := yD h6_; have BK567 := yD h7_; have HB := yD h8_; clear h0_ h1_ h2_ h3_ h4_ h5_ h6_ h7_ h8_
   have hHeld : w27.cell? ⟨gb567, 0, none⟩ = some (.slice A566_0 ((rd_T42 l0 x12_1).f0).length c566_0) ∧ w27.cell? ⟨gb567, 1, none⟩ = some (.slice A566_1 ((rd_T42 l0 x12_1).f1).length c566_1) := hS_
   obtain ⟨Ao28, co28, eo28⟩ := Kd.N_slice HO582.out
   (first | subst eo28 | (injection eo28 with f1_ f2_ f3_; have f4_ := f1_.symm; have f5_ := f3_.symm; clear f1_ f2_ f3_; subst f4_; subst f5_))
   refine norm_ (a' := ?_) ?_ ?_
   rotate_left
   · simp only [putAll, Act.put, zH, zI, zJ]
     rfl
   refine qo 17 12 8191 (some 28) fun K hK => ?_
   refine qg Try.func146 _ ((slices_Concat_int64_int64.calls k1 _ _ y580 t583 _ ?z1 A8.out).mono ?_)
   (case z1 => exact ⟨kV (Kd.N_reads' HO582.out).2.2, (Kd.N_reads' HO582.out).2.1⟩)
   rintro e w29 ⟨v584, rfl, ho0, hb⟩
   refine ⟨_, rfl, ?_⟩
   replace HO_7 := yD (Kd.S_elder' (kS HO_7) (yH ho0) hb); replace HO_10 := yD (Kd.V_elder' (kU HO_10) (yH ho0) hb); replace HL566_0 := yD (Kd.V_elder' (kU HL566_0) (yH ho0) hb); replace HL566_1 := yD (Kd.V_elder' (kU HL566_1) (yH ho0) hb); replace HO573 := yD (Kd.N_elder' (kQ HO573) (yH ho0) hb); replace HO582 := yD (Kd.N_elder' (kQ HO582) (yH ho0) hb); have HO585 := yD (yZ (yJ (Kd.R_newM (M := fun k_ => (w.heap.size ≤ k_)) ho0 (below_size (kB HB)) (fun k_ h_ => h_)) (yK (kA HO576))) (below_size (kB HB))); replace HO576 := yD (Kd.R_elder' (kA HO576) (yH ho0) hb); replace BK567 := zY BK567 hb; replace HB := zX HB hb
   obtain ⟨Ao30, co30, eo30⟩ := Kd.R_slice HO585.out
   (first | subst eo30 | (injection eo30 with f1_ f2_ f3_; have f4_ := f1_.symm; have f5_ := f3_.symm; clear f1_ f2_ f3_; subst f4_; subst f5_))
   obtain ⟨Ao31, co31, eo31⟩ := Kd.R_slice HO576.out
   (first | subst eo31 | (injection eo31 with f1_ f2_ f3_; have f4_ := f1_.symm; have f5_ := f3_.symm; clear f1_ f2_ f3_; subst f4_; subst f5_))
   refine hK.out _ _ (cz2 BK567.out) (fun hHeld => ?_)
   clear hK K
   refine nZ 28 ?_
   refine qa 17 13 16383 ?_
   refine qo 17 14 32767 (some 30) fun K hK => ?_
   refine value_ (w1 := ?_) (v := ?_) (by rfl) rfl ?_ ?_
   rotate_left 2
   · go_simp
     constructor
     · rfl
     · rfl
   refine hK.out _ _ (cz2 (yN BK567.out _)) (fun hHeld => ?_)
   clear hK K
   refine nZ 30 ?_
   refine qo 17 15 65535 (some 31) fun K hK => ?_
   refine Kd.S_append_step k42 (w0 := w) w.heap.size (by rfl) (.tmp 16) (.tmp 30) 24 42 (.agg #[(.slice none 0 0), (.slice none 0 0)]) 48 rfl Try.underlying24 info42 rfl (by decide) (by omega) (.slice Ao12 x7_1.length co12) x7_1 (⟨t574, t583⟩ : S42) [.slice Ao31 t574.length co31, .slice Ao30 t583.length co30] (fun k_ => (w.heap.size ≤ k_) ∧ k_ ≠ gb567) (fun k_ => some k_ = (.slice Ao31 t574.length co31 : Value).ownBlock ∨ some k_ = (.slice Ao30 t583.length co30 : Value).ownBlock) rfl rfl ?aP (fun k_ hk_ => hk_.elim (fun h_ => ((zF (ok' := fun k_ => ((fun k_ => (w.heap.size ≤ k_) ∧ k_ ≠ gb567)) k_ ∧ oB (.slice Ao12 x7_1.length co12) k_) (Kd.R_types (Kd.R_apart' (HO576.out) (Kd.S_typed HO_7.out) (by decide)) BK567.out (by decide)) (fun k_ hk => ⟨⟨hk.1.1.1, hk.2⟩, hk.1.2⟩))).1 k_ h_.symm) (fun h_ => ((zF (ok' := fun k_ => ((fun k_ => (w.heap.size ≤ k_) ∧ k_ ≠ gb567)) k_ ∧ oB (.slice Ao12 x7_1.length co12) k_) (Kd.R_types (Kd.R_apart' (HO585.out) (Kd.S_typed HO_7.out) (by decide)) BK567.out (by decide)) (fun k_ hk => ⟨⟨hk.1.1.1.1, hk.2⟩, hk.1.2⟩))).1 k_ h_.symm)) ?aF ?aO ?aB ?aS ?aL ?_
   (case aP => exact k42_mkM _ _ _ (⟨t574, t583⟩ : S42) (zF (Kd.R_tight rfl (zF (ok' := fun k_ => ((fun k_ => (w.heap.size ≤ k_) ∧ k_ ≠ gb567)) k_ ∧ oB (.slice Ao12 x7_1.length co12) k_) (Kd.R_types (Kd.R_apart' (HO576.out) (Kd.S_typed HO_7.out) (by decide)) BK567.out (by decide)) (fun k_ hk => ⟨⟨hk.1.1.1, hk.2⟩, hk.1.2⟩))) (fun _ h_ => Or.inl h_)) (zF (Kd.R_tight rfl (zF (ok' := fun k_ => ((fun k_ => (w.heap.size ≤ k_) ∧ k_ ≠ gb567)) k_ ∧ oB (.slice Ao12 x7_1.length co12) k_) (Kd.R_types (Kd.R_apart' (HO585.out) (Kd.S_typed HO_7.out) (by decide)) BK567.out (by decide)) (fun k_ hk => ⟨⟨hk.1.1.1.1, hk.2⟩, hk.1.2⟩))) (fun _ h_ => Or.inr (h_))))
   (case aB => exact (kB HB))
   (case aF => exact (fun k_ hk => ⟨(Nat.le_trans (below_size (kB HB)) hk), Kd.freshB (g := gb567) (o := .cells #[.slice A566_0 ((rd_T42 l0 x12_1).f0).length c566_0, .slice A566_1 ((rd_T42 l0 x12_1).f1).length c566_1] 42 (0, 0)) (kM BK567) k_ hk⟩))
   (case aO => exact (mS HO_7 (fun k_ hk => ⟨⟨hk.1.1, hk.1.2.2⟩, fun e_ => e_.elim (fun h_ => hk.1.2.1 h_) (fun h_ => hk.2 h_)⟩)))
   (case aS => exact (below_size (kB HB)))
   (case aL => have := LMc9.out; omega)
   intro v587 w32 ho hb hg hat
   rw [← Ny586.out] at ho
   have n0_ := yD (Kd.V_afterv (ok := (fun k_ => (P0_ k_ ∨ w.heap.size ≤ k_) ∧ oB v572 k_ ∧ oB (.slice Ao31 t574.length co31) k_ ∧ oB (.slice Ao28 y580.length co28) k_ ∧ oB (.slice Ao30 t583.length co30) k_ ∧ k_ ≠ gb567)) (mV HO_10 (fun _ hk => ⟨⟨hk.1.1, ⟨hk.1.2.1, ⟨hk.1.2.2.1, ⟨hk.1.2.2.2.1, ⟨hk.2, hk.1.2.2.2.2.2⟩⟩⟩⟩⟩, hk.1.2.2.2.2.1⟩)) hg hat)
   have n1_ := yD (Kd.V_afterv (ok := (fun k_ => (P0_ k_ ∨ w.heap.size ≤ k_) ∧ oB v572 k_ ∧ oB (.slice Ao31 t574.length co31) k_ ∧ oB (.slice Ao28 y580.length co28) k_ ∧ oB (.slice Ao30 t583.length co30) k_ ∧ k_ ≠ gb567)) (mV HL566_0 (fun _ hk => ⟨⟨hk.1.1, ⟨hk.1.2.1, ⟨hk.1.2.2.1, ⟨hk.1.2.2.2.1, ⟨hk.2, hk.1.2.2.2.2.2⟩⟩⟩⟩⟩, hk.1.2.2.2.2.1⟩)) hg hat)
   have n2_ := yD (Kd.V_afterv (ok := (fun k_ => (P0_ k_ ∨ w.heap.size ≤ k_) ∧ oB v572 k_ ∧ oB (.slice Ao31 t574.length co31) k_ ∧ oB (.slice Ao28 y580.length co28) k_ ∧ oB (.slice Ao30 t583.length co30) k_ ∧ k_ ≠ gb567)) (mV HL566_1 (fun _ hk => ⟨⟨hk.1.1, ⟨hk.1.2.1, ⟨hk.1.2.2.1, ⟨hk.1.2.2.2.1, ⟨hk.2, hk.1.2.2.2.2.2⟩⟩⟩⟩⟩, hk.1.2.2.2.2.1⟩)) hg hat)
   have n3_ := yD (blk_grown (g := gb567) (o := .cells #[.slice A566_0 ((rd_T42 l0 x12_1).f0).length c566_0, .slice A566_1 ((rd_T42 l0 x12_1).f1).length c566_1] 42 (0, 0)) (kM BK567) hg (Kd.S_away HO_7.out (fun _ hk => hk.1.2.2)))
   have n4_ := yD (Kd.N_afterv (ok := (fun k_ => (P0_ k_ ∨ w.heap.size ≤ k_) ∧ oB (.slice Ao31 t574.length co31) k_ ∧ oB (.slice Ao28 y580.length co28) k_ ∧ oB (.slice Ao30 t583.length co30) k_ ∧ k_ ≠ gb567)) (mN HO573 (fun _ hk => ⟨⟨hk.1.1, ⟨hk.1.2.1, ⟨hk.1.2.2.1, ⟨hk.2, hk.1.2.2.2.2⟩⟩⟩⟩, hk.1.2.2.2.1⟩)) hg hat)
   have n5_ := yD (Kd.N_afterv (ok := (fun k_ => (P0_ k_ ∨ w.heap.size ≤ k_) ∧ oB v572 k_ ∧ oB (.slice Ao31 t574.length co31) k_ ∧ oB (.slice Ao30 t583.length co30) k_ ∧ k_ ≠ gb567)) (mN HO582 (fun _ hk => ⟨⟨hk.1.1, ⟨hk.1.2.1, ⟨hk.1.2.2.1, ⟨hk.2, hk.1.2.2.2.2⟩⟩⟩⟩, hk.1.2.2.2.1⟩)) hg hat)
   have n6_ := yD (hb)
   have n7_ := yD (ho)
   clear HO_10 HL566_0 HL566_1 BK567 HO573 HO582 HB HO_7 HO576 HO585; have HO_10 := n0_; have HL566_0 := n1_; have HL566_1 := n2_; have BK567 := n3_; have HO573 := n4_; have HO582 := n5_; have HB := n6_; have HO588 := n7_; clear n0_ n1_ n2_ n3_ n4_ n5_ n6_ n7_ ho hb hg hat
   refine hK.out _ _ (cz2 BK567.out) (fun hHeld => ?_)
   clear hK K
   refine nZ 31 ?_
   refine qa 17 16 131071 ?_
   refine qd ?_
   try go_wp2
   go_roundg k1
   case measure => have := HK1.out; omega
   case rel => exact ⟨(y586), (wrap64 (x12_1 + 1)), kF, H', ⟨by have := HK1.out; omega⟩, ⟨mS HO588 (fun _ hk => hk.1)⟩, ⟨mV HO_10 (fun _ hk => ⟨hk.1.1, hk.2⟩)⟩, ⟨kR0 HB⟩⟩
end Go.Proofs.Ytdiaebjbiddefaa.PFnExactBoxesOf
