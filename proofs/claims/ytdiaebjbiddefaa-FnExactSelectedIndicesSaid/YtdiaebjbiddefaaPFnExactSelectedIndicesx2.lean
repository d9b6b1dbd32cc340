/- Each Go function here comes to what the plain function of its name says, where that says something. Made by a program of this session, over the print. -/
import Derived.Test.YtdiaebjbiddefaaPFnExactSelectedIndicesx0
namespace Go.Proofs.Ytdiaebjbiddefaa.PFnExactSelectedIndices
open Go.RowKit Go.Proofs.YtdiaebjbiddefaaW.PrintWords Go.Proofs.YtdiaebjbiddefaaW.PrintLast Go.Proofs.YtdiaebjbiddefaaW.PrintMore
attribute [local go_sem] max2_int min2_int max_two min_two max_three min_three max_four min_four   -- for this text's walks alone
set_option linter.unusedVariables false
set_option linter.unusedSimpArgs false

/-! ### spec_l06End: function 111 -/
def spec_l06End.f (a0_0 : Int) (l0_1 : List Int) (l0_2 : List Int) (l0_3 : List Int) (l0_4 : List Int) (l0_5 : List (S110)) (a1 : Int) : Option (Int) := if 0 ≤ a1 then (if a1 < (l0_1.length : Int) then (if a1 < (l0_3.length : Int) then (if a1 < (l0_2.length : Int) then (if a1 < (l0_4.length : Int) then (some (wrap64 ((wrap64 ((rd l0_1 a1) + (wrap64 ((wrap64 ((rd l0_3 a1) - 1)) * (rd l0_2 a1))))) + (rd l0_4 a1)))) else (none)) else (none)) else (none)) else (none)) else (none)
set_option maxHeartbeats 8000000 in
set_option maxRecDepth 100000 in
theorem spec_l06End.calls (a0_0 : Int) (A0_1 : Option Addr) (c0_1 : Nat) (l0_1 : List Int) (A0_2 : Option Addr) (c0_2 : Nat) (l0_2 : List Int) (A0_3 : Option Addr) (c0_3 : Nat) (l0_3 : List Int) (A0_4 : Option Addr) (c0_4 : Nat) (l0_4 : List Int) (A0_5 : Option Addr) (c0_5 : Nat) (l0_5 : List (S110)) (a1 : Int) (r : Int) (w : World) (hr0_1 : Kd.C (Kd.int .i64) w A0_1 l0_1.length l0_1) (hc0_1 : l0_1.length ≤ c0_1) (hr0_2 : Kd.C (Kd.int .i64) w A0_2 l0_2.length l0_2) (hc0_2 : l0_2.length ≤ c0_2) (hr0_3 : Kd.C (Kd.int .i64) w A0_3 l0_3.length l0_3) (hc0_3 : l0_3.length ≤ c0_3) (hr0_4 : Kd.C (Kd.int .i64) w A0_4 l0_4.length l0_4) (hc0_4 : l0_4.length ≤ c0_4) (hr0_5 : Kd.C k110 w A0_5 l0_5.length l0_5) (hc0_5 : l0_5.length ≤ c0_5) (h : spec_l06End.f a0_0 l0_1 l0_2 l0_3 l0_4 l0_5 a1 = some r) :
 Calls Try.prog 111 #[.agg #[.int .i64 a0_0, .slice A0_1 l0_1.length c0_1, .slice A0_2 l0_2.length c0_2, .slice A0_3 l0_3.length c0_3, .slice A0_4 l0_4.length c0_4, .slice A0_5 l0_5.length c0_5], .int .i64 a1] w fun e w' => e = .returned (.int .i64 r) ∧ Below w.heap.size w w' := by
 have hu55 := Try.underlying55
 have HR0_1 := yD hr0_1
 have HC0_1 := yD hc0_1
 clear hr0_1 hc0_1
 have HR0_2 := yD hr0_2
 have HC0_2 := yD hc0_2
 clear hr0_2 hc0_2
 have HR0_3 := yD hr0_3
 have HC0_3 := yD hc0_3
 clear hr0_3 hc0_3
 have HR0_4 := yD hr0_4
 have HC0_4 := yD hc0_4
 clear hr0_4 hc0_4
 have HR0_5 := yD hr0_5
 have HC0_5 := yD hc0_5
 clear hr0_5 hc0_5
 have HB := yD (Below.refl w.heap.size w)
 have H : (if 0 ≤ a1 then (if a1 < (l0_1.length : Int) then (if a1 < (l0_3.length : Int) then (if a1 < (l0_2.length : Int) then (if a1 < (l0_4.length : Int) then (some (wrap64 ((wrap64 ((rd l0_1 a1) + (wrap64 ((wrap64 ((rd l0_3 a1) - 1)) * (rd l0_2 a1))))) + (rd l0_4 a1)))) else (none)) else (none)) else (none)) else (none)) else (none)) = some r := h
 clear h
 by_cases c3 : 0 ≤ a1
 ·
  rw [if_pos c3] at H; have c3b0 : decide (0 ≤ a1) = true := zR c3; clear c3
  by_cases c4 : a1 < (l0_1.length : Int)
  ·
   rw [if_pos c4] at H; have c4b0 : decide (a1 < (l0_1.length : Int)) = true := zR c4; clear c4
   by_cases c5 : a1 < (l0_3.length : Int)
   ·
    rw [if_pos c5] at H; have c5b0 : decide (a1 < (l0_3.length : Int)) = true := zR c5; clear c5
    by_cases c6 : a1 < (l0_2.length : Int)
    ·
     rw [if_pos c6] at H; have c6b0 : decide (a1 < (l0_2.length : Int)) = true := zR c6; clear c6
     by_cases c7 : a1 < (l0_4.length : Int)
     ·
      rw [if_pos c7] at H; have c7b0 : decide (a1 < (l0_4.length : Int)) = true := zR c7; clear c7; obtain rfl := Option.some.inj H; go_enter Try.func111, Try.ntmps111
      go_wp2_with (first | ((with_reducible refine gate_dst (N := 2) rfl ?_); refine box_event ?hg (N := 2) ?hd (cs := #[.int .i64 a0_0, .slice A0_1 l0_1.length c0_1, .slice A0_2 l0_2.length c0_2, .slice A0_3 l0_3.length c0_3, .slice A0_4 l0_4.length c0_4, .slice A0_5 l0_5.length c0_5]) (t := 55) ?hr ?_; (case hd => rfl); (case hg => rfl); (case hr => first | (go_simp; done) | (go_simp; rfl)); intro gb152 hg w8 hbox hb; have n0_ := yD (zC (kB HB) hb); have n1_ := yD (hbox); have n2_ := yD ((by rw [hg]; exact (below_size (kB HB)) : w.heap.size ≤ gb152)); have n3_ := yD ((by rw [hg]; exact (below_size (kB HB)) : w.heap.size ≤ gb152)); clear HB; have HB := n0_; have BK152 := n1_; have GW152 := n2_; have GE152 := n3_; clear n0_ n1_ n2_ n3_; clear hb hbox hg; obtain ⟨hcz9_0, hcz9_1, hcz9_2, hcz9_3, hcz9_4, hcz9_5⟩ := cz6 BK152.out; obtain ⟨hfz9_0, hfz9_1, hfz9_2, hfz9_3, hfz9_4, hfz9_5⟩ := fz6 BK152.out; have p153 : 0 ≤ (a1 : Int) := zP (by assumption); have q153 : a1 < (l0_1.length : Int) := zP (by assumption); obtain ⟨ad153, e153, hx153_0⟩ := Kd.at_int HR0_1.out a1 p153 q153; cases e153; replace hx153_0 := (HB.out.cell (zQ w _ hx153_0)).trans hx153_0; replace p153 := eq_true p153; replace q153 := eq_true q153; have p154 : 0 ≤ (a1 : Int) := zP (by assumption); have q154 : a1 < (l0_3.length : Int) := zP (by assumption); obtain ⟨ad154, e154, hx154_0⟩ := Kd.at_int HR0_3.out a1 p154 q154; cases e154; replace hx154_0 := (HB.out.cell (zQ w _ hx154_0)).trans hx154_0; replace p154 := eq_true p154; replace q154 := eq_true q154; have p155 : 0 ≤ (a1 : Int) := zP (by assumption); have q155 : a1 < (l0_2.length : Int) := zP (by assumption); obtain ⟨ad155, e155, hx155_0⟩ := Kd.at_int HR0_2.out a1 p155 q155; cases e155; replace hx155_0 := (HB.out.cell (zQ w _ hx155_0)).trans hx155_0; replace p155 := eq_true p155; replace q155 := eq_true q155; have p156 : 0 ≤ (a1 : Int) := zP (by assumption); have q156 : a1 < (l0_4.length : Int) := zP (by assumption); obtain ⟨ad156, e156, hx156_0⟩ := Kd.at_int HR0_4.out a1 p156 q156; cases e156; replace hx156_0 := (HB.out.cell (zQ w _ hx156_0)).trans hx156_0; replace p156 := eq_true p156; replace q156 := eq_true q156))
      repeat (go_quiet (first | ((with_reducible refine gate_dst (N := 2) rfl ?_); refine box_event ?hg (N := 2) ?hd (cs := #[.int .i64 a0_0, .slice A0_1 l0_1.length c0_1, .slice A0_2 l0_2.length c0_2, .slice A0_3 l0_3.length c0_3, .slice A0_4 l0_4.length c0_4, .slice A0_5 l0_5.length c0_5]) (t := 55) ?hr ?_; (case hd => rfl); (case hg => rfl); (case hr => first | (go_simp; done) | (go_simp; rfl)); intro gb152 hg w8 hbox hb; have n0_ := yD (zC (kB HB) hb); have n1_ := yD (hbox); have n2_ := yD ((by rw [hg]; exact (below_size (kB HB)) : w.heap.size ≤ gb152)); have n3_ := yD ((by rw [hg]; exact (below_size (kB HB)) : w.heap.size ≤ gb152)); clear HB; have HB := n0_; have BK152 := n1_; have GW152 := n2_; have GE152 := n3_; clear n0_ n1_ n2_ n3_; clear hb hbox hg; obtain ⟨hcz9_0, hcz9_1, hcz9_2, hcz9_3, hcz9_4, hcz9_5⟩ := cz6 BK152.out; obtain ⟨hfz9_0, hfz9_1, hfz9_2, hfz9_3, hfz9_4, hfz9_5⟩ := fz6 BK152.out; have p153 : 0 ≤ (a1 : Int) := zP (by assumption); have q153 : a1 < (l0_1.length : Int) := zP (by assumption); obtain ⟨ad153, e153, hx153_0⟩ := Kd.at_int HR0_1.out a1 p153 q153; cases e153; replace hx153_0 := (HB.out.cell (zQ w _ hx153_0)).trans hx153_0; replace p153 := eq_true p153; replace q153 := eq_true q153; have p154 : 0 ≤ (a1 : Int) := zP (by assumption); have q154 : a1 < (l0_3.length : Int) := zP (by assumption); obtain ⟨ad154, e154, hx154_0⟩ := Kd.at_int HR0_3.out a1 p154 q154; cases e154; replace hx154_0 := (HB.out.cell (zQ w _ hx154_0)).trans hx154_0; replace p154 := eq_true p154; replace q154 := eq_true q154; have p155 : 0 ≤ (a1 : Int) := zP (by assumption); have q155 : a1 < (l0_2.length : Int) := zP (by assumption); obtain ⟨ad155, e155, hx155_0⟩ := Kd.at_int HR0_2.out a1 p155 q155; cases e155; replace hx155_0 := (HB.out.cell (zQ w _ hx155_0)).trans hx155_0; replace p155 := eq_true p155; replace q155 := eq_true q155; have p156 : 0 ≤ (a1 : Int) := zP (by assumption); have q156 : a1 < (l0_4.length : Int) := zP (by assumption); obtain ⟨ad156, e156, hx156_0⟩ := Kd.at_int HR0_4.out a1 p156 q156; cases e156; replace hx156_0 := (HB.out.cell (zQ w _ hx156_0)).trans hx156_0; replace p156 := eq_true p156; replace q156 := eq_true q156)); try go_wp2_with (first | ((with_reducible refine gate_dst (N := 2) rfl ?_); refine box_event ?hg (N := 2) ?hd (cs := #[.int .i64 a0_0, .slice A0_1 l0_1.length c0_1, .slice A0_2 l0_2.length c0_2, .slice A0_3 l0_3.length c0_3, .slice A0_4 l0_4.length c0_4, .slice A0_5 l0_5.length c0_5]) (t := 55) ?hr ?_; (case hd => rfl); (case hg => rfl); (case hr => first | (go_simp; done) | (go_simp; rfl)); intro gb152 hg w8 hbox hb; have n0_ := yD (zC (kB HB) hb); have n1_ := yD (hbox); have n2_ := yD ((by rw [hg]; exact (below_size (kB HB)) : w.heap.size ≤ gb152)); have n3_ := yD ((by rw [hg]; exact (below_size (kB HB)) : w.heap.size ≤ gb152)); clear HB; have HB := n0_; have BK152 := n1_; have GW152 := n2_; have GE152 := n3_; clear n0_ n1_ n2_ n3_; clear hb hbox hg; obtain ⟨hcz9_0, hcz9_1, hcz9_2, hcz9_3, hcz9_4, hcz9_5⟩ := cz6 BK152.out; obtain ⟨hfz9_0, hfz9_1, hfz9_2, hfz9_3, hfz9_4, hfz9_5⟩ := fz6 BK152.out; have p153 : 0 ≤ (a1 : Int) := zP (by assumption); have q153 : a1 < (l0_1.length : Int) := zP (by assumption); obtain ⟨ad153, e153, hx153_0⟩ := Kd.at_int HR0_1.out a1 p153 q153; cases e153; replace hx153_0 := (HB.out.cell (zQ w _ hx153_0)).trans hx153_0; replace p153 := eq_true p153; replace q153 := eq_true q153; have p154 : 0 ≤ (a1 : Int) := zP (by assumption); have q154 : a1 < (l0_3.length : Int) := zP (by assumption); obtain ⟨ad154, e154, hx154_0⟩ := Kd.at_int HR0_3.out a1 p154 q154; cases e154; replace hx154_0 := (HB.out.cell (zQ w _ hx154_0)).trans hx154_0; replace p154 := eq_true p154; replace q154 := eq_true q154; have p155 : 0 ≤ (a1 : Int) := zP (by assumption); have q155 : a1 < (l0_2.length : Int) := zP (by assumption); obtain ⟨ad155, e155, hx155_0⟩ := Kd.at_int HR0_2.out a1 p155 q155; cases e155; replace hx155_0 := (HB.out.cell (zQ w _ hx155_0)).trans hx155_0; replace p155 := eq_true p155; replace q155 := eq_true q155; have p156 : 0 ≤ (a1 : Int) := zP (by assumption); have q156 : a1 < (l0_4.length : Int) := zP (by assumption); obtain ⟨ad156, e156, hx156_0⟩ := Kd.at_int HR0_4.out a1 p156 q156; cases e156; replace hx156_0 := (HB.out.cell (zQ w _ hx156_0)).trans hx156_0; replace p156 := eq_true p156; replace q156 := eq_true q156)))
      go_ret
      exact ⟨by first | rfl | (simp <;> rfl) | (simp [*] <;> rfl), kR0 HB⟩
     ·
      rw [if_neg c7] at H
      exact absurd H (by simp)
    ·
     rw [if_neg c6] at H
     exact absurd H (by simp)
   ·
    rw [if_neg c5] at H
    exact absurd H (by simp)
  ·
   rw [if_neg c4] at H
   exact absurd H (by simp)
 ·
  rw [if_neg c3] at H
  exact absurd H (by simp)

end Go.Proofs.Ytdiaebjbiddefaa.PFnExactSelectedIndices
