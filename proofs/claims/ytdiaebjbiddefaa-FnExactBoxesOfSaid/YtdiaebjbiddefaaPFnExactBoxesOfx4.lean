/- Each function here comes to its plain form. It holds without a condition. -/
import Derived.Test.YtdiaebjbiddefaaPFnExactBoxesOfx0
import Derived.Test.YtdiaebjbiddefaaPFnExactBoxesOfx3
namespace Go.Proofs.Ytdiaebjbiddefaa.PFnExactBoxesOf
open Go.RowKit Go.Proofs.YtdiaebjbiddefaaW.PrintWords Go.Proofs.YtdiaebjbiddefaaW.PrintLast Go.Proofs.YtdiaebjbiddefaaW.PrintMore
attribute [local go_sem] max2_int min2_int max_two min_two max_three min_three max_four min_four   -- for this text's walks alone
set_option linter.unusedVariables false
set_option linter.unusedSimpArgs false
set_option maxHeartbeats 8000000
set_option maxRecDepth 100000

/-! ### impl_SameSelection: function 137 -/
def impl_SameSelection.f (k : Nat) (a0_0 : Int) (l0_1 : List Int) (l0_2 : List Int) (l0_3 : List Int) (l0_4 : List Int) (l0_5 : List (S110)) (a1_0 : Int) (l1_1 : List Int) (l1_2 : List Int) (l1_3 : List Int) (l1_4 : List Int) (l1_5 : List (S110)) : Option (Bool) := if a0_0 = a1_0 then ((impl_Selection_lists.f a0_0 l0_1 l0_2 l0_3 l0_4 l0_5).bind fun t432 => ((impl_Selection_lists.f a1_0 l1_1 l1_2 l1_3 l1_4 l1_5).bind fun t435 => ((slices_EqualFunc_slices_Equal_int64_int64.f k t432 t435).bind fun t438 => (if t438 = true then ((slices_EqualFunc_impl_samePoint.f k l0_5 l1_5).bind fun t439 => (some t439)) else (some false))))) else (some false)
def impl_SameSelection.T1 : Bool × List (List Nat × List Nat) := (true, [([], []), ([0], [0]), ([], []), ([2], [2]), ([1, 3], [1, 3]), ([4], [4]), ([5], [5]), ([6, 5, 5], [5, 6]), ([5], [5]), ([8, 7, 5], [5, 8]), ([7, 9, 9, 5], [5, 7, 9]), ([5, 10], [5, 10]), ([11, 10], [11]), ([12], [12]), ([13, 12], [12, 13]), ([12], [12]), ([15, 12], [12, 15]), ([14, 16, 12, 12], [12, 14, 16]), ([12, 17], [12, 17]), ([18, 17, 0, 1, 2, 3, 4, 5, 6, 7, 8, 9, 10, 11, 12, 13, 14, 15, 16, 17, 18], [18])])
def impl_SameSelection.B1 : List Nat := [0, 1, 0, 4, 15, 31, 63, 127, 63, 511, 1023, 2047, 4095, 8191, 16383, 8191, 40959, 131071, 262143, 524287]
theorem impl_SameSelection.tab1 : rtab .any (opsOf Try.f137 1) = impl_SameSelection.T1 := by kernel_rfl
theorem impl_SameSelection.bits1 : waitsOk impl_SameSelection.T1.2 impl_SameSelection.B1 = true := by kernel_rfl
theorem impl_SameSelection.calls (k : Nat) (a0_0 : Int) (A0_1 : Option Addr) (c0_1 : Nat) (l0_1 : List Int) (A0_2 : Option Addr) (c0_2 : Nat) (l0_2 : List Int) (A0_3 : Option Addr) (c0_3 : Nat) (l0_3 : List Int) (A0_4 : Option Addr) (c0_4 : Nat) (l0_4 : List Int) (A0_5 : Option Addr) (c0_5 : Nat) (l0_5 : List (S110)) (a1_0 : Int) (A1_1 : Option Addr) (c1_1 : Nat) (l1_1 : List Int) (A1_2 : Option Addr) (c1_2 : Nat) (l1_2 : List Int) (A1_3 : Option Addr) (c1_3 : Nat) (l1_3 : List Int) (A1_4 : Option Addr) (c1_4 : Nat) (l1_4 : List Int) (A1_5 : Option Addr) (c1_5 : Nat) (l1_5 : List (S110)) (r : Bool) (w : World) (C0_1 : Cm (Kd.int .i64) w A0_1 c0_1 l0_1) (C0_2 : Cm (Kd.int .i64) w A0_2 c0_2 l0_2) (C0_3 : Cm (Kd.int .i64) w A0_3 c0_3 l0_3) (C0_4 : Cm (Kd.int .i64) w A0_4 c0_4 l0_4) (C0_5 : Cm k110 w A0_5 c0_5 l0_5) (C1_1 : Cm (Kd.int .i64) w A1_1 c1_1 l1_1) (C1_2 : Cm (Kd.int .i64) w A1_2 c1_2 l1_2) (C1_3 : Cm (Kd.int .i64) w A1_3 c1_3 l1_3) (C1_4 : Cm (Kd.int .i64) w A1_4 c1_4 l1_4) (C1_5 : Cm k110 w A1_5 c1_5 l1_5) (h : impl_SameSelection.f k a0_0 l0_1 l0_2 l0_3 l0_4 l0_5 a1_0 l1_1 l1_2 l1_3 l1_4 l1_5 = some r) :
 Calls Try.prog 137 #[.agg #[.int .i64 a0_0, .slice A0_1 l0_1.length c0_1, .slice A0_2 l0_2.length c0_2, .slice A0_3 l0_3.length c0_3, .slice A0_4 l0_4.length c0_4, .slice A0_5 l0_5.length c0_5], .agg #[.int .i64 a1_0, .slice A1_1 l1_1.length c1_1, .slice A1_2 l1_2.length c1_2, .slice A1_3 l1_3.length c1_3, .slice A1_4 l1_4.length c1_4, .slice A1_5 l1_5.length c1_5]] w fun e w' => e = .returned (.bool r) ∧ Below w.heap.size w w' := by
 have hu55 := Try.underlying55
 have HB := yD (Below.refl w.heap.size w)
 have H : (if a0_0 = a1_0 then ((impl_Selection_lists.f a0_0 l0_1 l0_2 l0_3 l0_4 l0_5).bind fun t432 => ((impl_Selection_lists.f a1_0 l1_1 l1_2 l1_3 l1_4 l1_5).bind fun t435 => ((slices_EqualFunc_slices_Equal_int64_int64.f k t432 t435).bind fun t438 => (if t438 = true then ((slices_EqualFunc_impl_samePoint.f k l0_5 l1_5).bind fun t439 => (some t439)) else (some false))))) else (some false)) = some r := h
 clear h
 replace H := sP H; rcases H with ⟨c3, c3b0, c3b1, H⟩ | ⟨-, c3b0, c3b1, H⟩
 ·
  obtain rfl := sJ H; go_enter Try.func137, Try.ntmps137
  try go_wp2_with (first | ((with_reducible refine gate_dst (N := 2) rfl ?_); refine bF (N := 2) (cs := #[.int .i64 a0_0, .slice A0_1 l0_1.length c0_1, .slice A0_2 l0_2.length c0_2, .slice A0_3 l0_3.length c0_3, .slice A0_4 l0_4.length c0_4, .slice A0_5 l0_5.length c0_5]) (t := 55) HB ?_; intro gb430 w26 BK430 GW430 HB) | ((with_reducible refine gate_dst (N := 3) rfl ?_); refine bE (N := 3) (cs := #[.int .i64 a1_0, .slice A1_1 l1_1.length c1_1, .slice A1_2 l1_2.length c1_2, .slice A1_3 l1_3.length c1_3, .slice A1_4 l1_4.length c1_4, .slice A1_5 l1_5.length c1_5]) (t := 55) ?_; intro gb431 hg w27 hbox hb; have BK431 := yD (hbox); have GW431 := sW hg HB; replace HB := zX HB hb; have NB430_431 := yD ((by rw [hg]; exact Nat.ne_of_lt (blk_lt (kN BK430)) : gb430 ≠ gb431)); have NB431_430 := yD ((by rw [hg]; exact Nat.ne_of_gt (blk_lt (kN BK430)) : gb431 ≠ gb430)); replace BK430 := zY BK430 hb; clear hb hbox hg))
  replace BK430 := yD (yO BK430.out); replace BK431 := yD (yO BK431.out); replace HB := yD (yP HB.out)
  refine s0 (m := 20) (S := fun w' => cl w' gb430 0 (.int .i64 a0_0) ∧ cl w' gb430 1 (.slice A0_1 l0_1.length c0_1) ∧ cl w' gb430 2 (.slice A0_2 l0_2.length c0_2) ∧ cl w' gb430 3 (.slice A0_3 l0_3.length c0_3) ∧ cl w' gb430 4 (.slice A0_4 l0_4.length c0_4) ∧ cl w' gb430 5 (.slice A0_5 l0_5.length c0_5) ∧ cl w' gb431 0 (.int .i64 a1_0) ∧ cl w' gb431 1 (.slice A1_1 l1_1.length c1_1) ∧ cl w' gb431 2 (.slice A1_2 l1_2.length c1_2) ∧ cl w' gb431 3 (.slice A1_3 l1_3.length c1_3) ∧ cl w' gb431 4 (.slice A1_4 l1_4.length c1_4) ∧ cl w' gb431 5 (.slice A1_5 l1_5.length c1_5)) impl_SameSelection.tab1 impl_SameSelection.bits1 (ca6_ BK430.out (cz6 BK431.out)) fun hHeld HT_ HW_ => ?_
  generalize w27.drew = w28 at BK430 BK431 HB hHeld ⊢
  refine qa 20 0 1 ?_; refine qa 20 2 5 ?_; refine qc 20 1 7 hHeld ?_; refine qc 20 3 15 hHeld ?_; refine qa 20 4 31 ?_; refine qa 20 5 63 ?_; refine qb 20 6 127 ?_; refine qb 20 7 255 ?_; refine qb 20 8 511 ?_; refine qb 20 9 1023 ?_; refine qb 20 10 2047 ?_; refine qa 20 11 4095 ?_; refine qa 20 12 8191 ?_; refine qb 20 13 16383 ?_; refine qb 20 14 32767 ?_; refine qb 20 15 65535 ?_; refine qb 20 16 131071 ?_; refine qb 20 17 262143 ?_; refine qa 20 18 524287 ?_; refine qa 20 19 1048575 ?_
  refine qd ?_
  try go_wp2
  go_ret
  exact ⟨kE, kR0 HB⟩
 replace ⟨t432, A4, H⟩ := sV H
 replace ⟨t435, A5, H⟩ := sV H
 replace ⟨t438, A6, H⟩ := sV H
 replace H := sS H; rcases H with ⟨rfl, H⟩ | ⟨rfl, H⟩
 ·
  obtain rfl := sJ H; go_enter Try.func137, Try.ntmps137
  try go_wp2_with (first | ((with_reducible refine gate_dst (N := 2) rfl ?_); refine bF (N := 2) (cs := #[.int .i64 a0_0, .slice A0_1 l0_1.length c0_1, .slice A0_2 l0_2.length c0_2, .slice A0_3 l0_3.length c0_3, .slice A0_4 l0_4.length c0_4, .slice A0_5 l0_5.length c0_5]) (t := 55) HB ?_; intro gb430 w18 BK430 GW430 HB) | ((with_reducible refine gate_dst (N := 3) rfl ?_); refine bE (N := 3) (cs := #[.int .i64 a1_0, .slice A1_1 l1_1.length c1_1, .slice A1_2 l1_2.length c1_2, .slice A1_3 l1_3.length c1_3, .slice A1_4 l1_4.length c1_4, .slice A1_5 l1_5.length c1_5]) (t := 55) ?_; intro gb431 hg w19 hbox hb; have BK431 := yD (hbox); have GW431 := sW hg HB; replace HB := zX HB hb; have NB430_431 := yD ((by rw [hg]; exact Nat.ne_of_lt (blk_lt (kN BK430)) : gb430 ≠ gb431)); have NB431_430 := yD ((by rw [hg]; exact Nat.ne_of_gt (blk_lt (kN BK430)) : gb431 ≠ gb430)); replace BK430 := zY BK430 hb; clear hb hbox hg))
  replace BK430 := yD (yO BK430.out); replace BK431 := yD (yO BK431.out); replace HB := yD (yP HB.out)
  refine s0 (m := 20) (S := fun w' => cl w' gb430 0 (.int .i64 a0_0) ∧ cl w' gb430 1 (.slice A0_1 l0_1.length c0_1) ∧ cl w' gb430 2 (.slice A0_2 l0_2.length c0_2) ∧ cl w' gb430 3 (.slice A0_3 l0_3.length c0_3) ∧ cl w' gb430 4 (.slice A0_4 l0_4.length c0_4) ∧ cl w' gb430 5 (.slice A0_5 l0_5.length c0_5) ∧ cl w' gb431 0 (.int .i64 a1_0) ∧ cl w' gb431 1 (.slice A1_1 l1_1.length c1_1) ∧ cl w' gb431 2 (.slice A1_2 l1_2.length c1_2) ∧ cl w' gb431 3 (.slice A1_3 l1_3.length c1_3) ∧ cl w' gb431 4 (.slice A1_4 l1_4.length c1_4) ∧ cl w' gb431 5 (.slice A1_5 l1_5.length c1_5)) impl_SameSelection.tab1 impl_SameSelection.bits1 (ca6_ BK430.out (cz6 BK431.out)) fun hHeld HT_ HW_ => ?_
  generalize w19.drew = w20 at BK430 BK431 HB hHeld ⊢
  refine qa 20 0 1 ?_; refine qa 20 2 5 ?_; refine qc 20 1 7 hHeld ?_; refine qc 20 3 15 hHeld ?_; refine qa 20 4 31 ?_; refine qa 20 5 63 ?_; refine qc 20 6 127 hHeld ?_; refine qc 20 8 383 hHeld ?_
  refine qo 20 7 511 (some 12) fun K hK => ?_
  refine qg Try.func154 _ ((impl_Selection_lists.calls a0_0 (fun k_ => k_ < w.heap.size) _ _ l0_1 (fun k_ => k_ < w.heap.size) _ _ l0_2 (fun k_ => k_ < w.heap.size) _ _ l0_3 (fun k_ => k_ < w.heap.size) _ _ l0_4 _ _ l0_5 t432 _ ?z1 ?z2 ?z3 ?z4 (C0_5.b HB) A4.out).mono ?_)
  (case z1 => exact Kd.V_mk C0_1.h (Kd.F_below (Kd.C_F (Kd.heap_int .i64) C0_1.r) (kB HB)))
  (case z2 => exact Kd.V_mk C0_2.h (Kd.F_below (Kd.C_F (Kd.heap_int .i64) C0_2.r) (kB HB)))
  (case z3 => exact Kd.V_mk C0_3.h (Kd.F_below (Kd.C_F (Kd.heap_int .i64) C0_3.r) (kB HB)))
  (case z4 => exact Kd.V_mk C0_4.h (Kd.F_below (Kd.C_F (Kd.heap_int .i64) C0_4.r) (kB HB)))
  rintro e w21 ⟨v433, rfl, ho0, hb⟩
  refine ⟨_, rfl, ?_⟩
  have HO434 := yD (Kd.N_lower (Kd.N_mono (ok' := fun k_ => k_ ≠ gb430 ∧ k_ ≠ gb431) ho0 (fun k_ hk_ => ⟨Or.elim hk_ (fun hs_ => Or.elim hs_ (fun hs_ => fun e_ => Nat.not_le.2 hs_ (by rw [e_]; exact GW430.out)) (fun hs_ => Or.elim hs_ (fun hs_ => fun e_ => Nat.not_le.2 hs_ (by rw [e_]; exact GW430.out)) (fun hs_ => Or.elim hs_ (fun hs_ => fun e_ => Nat.not_le.2 hs_ (by rw [e_]; exact GW430.out)) (fun hs_ => fun e_ => Nat.not_le.2 hs_ (by rw [e_]; exact GW430.out))))) (fun hn_ => (Kd.freshB (g := gb430) (o := .cells #[.int .i64 a0_0, .slice A0_1 l0_1.length c0_1, .slice A0_2 l0_2.length c0_2, .slice A0_3 l0_3.length c0_3, .slice A0_4 l0_4.length c0_4, .slice A0_5 l0_5.length c0_5] 55 (0, 0)) (kM BK430) k_ hn_)), Or.elim hk_ (fun hs_ => Or.elim hs_ (fun hs_ => fun e_ => Nat.not_le.2 hs_ (by rw [e_]; exact GW431.out)) (fun hs_ => Or.elim hs_ (fun hs_ => fun e_ => Nat.not_le.2 hs_ (by rw [e_]; exact GW431.out)) (fun hs_ => Or.elim hs_ (fun hs_ => fun e_ => Nat.not_le.2 hs_ (by rw [e_]; exact GW431.out)) (fun hs_ => fun e_ => Nat.not_le.2 hs_ (by rw [e_]; exact GW431.out))))) (fun hn_ => (Kd.freshB (g := gb431) (o := .cells #[.int .i64 a1_0, .slice A1_1 l1_1.length c1_1, .slice A1_2 l1_2.length c1_2, .slice A1_3 l1_3.length c1_3, .slice A1_4 l1_4.length c1_4, .slice A1_5 l1_5.length c1_5] 55 (0, 0)) (kM BK431) k_ hn_))⟩)) (below_size (kB HB))); replace BK430 := zY BK430 hb; replace BK431 := zY BK431 hb; replace HB := zX HB hb
  refine hK.out _ _ (ca6_ BK430.out (cz6 BK431.out)) (fun hHeld => ?_)
  clear hK K
  refine nZ 12 ?_
  refine qo 20 9 1023 (some 14) fun K hK => ?_
  refine qg Try.func154 _ ((impl_Selection_lists.calls a1_0 (fun k_ => k_ < w.heap.size) _ _ l1_1 (fun k_ => k_ < w.heap.size) _ _ l1_2 (fun k_ => k_ < w.heap.size) _ _ l1_3 (fun k_ => k_ < w.heap.size) _ _ l1_4 _ _ l1_5 t435 _ ?z1 ?z2 ?z3 ?z4 (C1_5.b HB) A5.out).mono ?_)
  (case z1 => exact Kd.V_mk C1_1.h (Kd.F_below (Kd.C_F (Kd.heap_int .i64) C1_1.r) (kB HB)))
  (case z2 => exact Kd.V_mk C1_2.h (Kd.F_below (Kd.C_F (Kd.heap_int .i64) C1_2.r) (kB HB)))
  (case z3 => exact Kd.V_mk C1_3.h (Kd.F_below (Kd.C_F (Kd.heap_int .i64) C1_3.r) (kB HB)))
  (case z4 => exact Kd.V_mk C1_4.h (Kd.F_below (Kd.C_F (Kd.heap_int .i64) C1_4.r) (kB HB)))
  rintro e w22 ⟨v436, rfl, ho0, hb⟩
  refine ⟨_, rfl, ?_⟩
  have HO437 := yD (Kd.N_lower (Kd.N_mono (ok' := fun k_ => oB v433 k_ ∧ k_ ≠ gb430 ∧ k_ ≠ gb431) ho0 (fun k_ hk_ => ⟨Or.elim hk_ (fun hs_ => Or.elim hs_ (fun hs_ => fun e_ => Nat.not_le.2 hs_ (Kd.N_base HO434.out k_ e_.symm)) (fun hs_ => Or.elim hs_ (fun hs_ => fun e_ => Nat.not_le.2 hs_ (Kd.N_base HO434.out k_ e_.symm)) (fun hs_ => Or.elim hs_ (fun hs_ => fun e_ => Nat.not_le.2 hs_ (Kd.N_base HO434.out k_ e_.symm)) (fun hs_ => fun e_ => Nat.not_le.2 hs_ (Kd.N_base HO434.out k_ e_.symm))))) (fun hn_ => (Kd.fresh' (Kd.N_lt (kQ HO434)) k_ hn_)), Or.elim hk_ (fun hs_ => Or.elim hs_ (fun hs_ => fun e_ => Nat.not_le.2 hs_ (by rw [e_]; exact GW430.out)) (fun hs_ => Or.elim hs_ (fun hs_ => fun e_ => Nat.not_le.2 hs_ (by rw [e_]; exact GW430.out)) (fun hs_ => Or.elim hs_ (fun hs_ => fun e_ => Nat.not_le.2 hs_ (by rw [e_]; exact GW430.out)) (fun hs_ => fun e_ => Nat.not_le.2 hs_ (by rw [e_]; exact GW430.out))))) (fun hn_ => (Kd.freshB (g := gb430) (o := .cells #[.int .i64 a0_0, .slice A0_1 l0_1.length c0_1, .slice A0_2 l0_2.length c0_2, .slice A0_3 l0_3.length c0_3, .slice A0_4 l0_4.length c0_4, .slice A0_5 l0_5.length c0_5] 55 (0, 0)) (kM BK430) k_ hn_)), Or.elim hk_ (fun hs_ => Or.elim hs_ (fun hs_ => fun e_ => Nat.not_le.2 hs_ (by rw [e_]; exact GW431.out)) (fun hs_ => Or.elim hs_ (fun hs_ => fun e_ => Nat.not_le.2 hs_ (by rw [e_]; exact GW431.out)) (fun hs_ => Or.elim hs_ (fun hs_ => fun e_ => Nat.not_le.2 hs_ (by rw [e_]; exact GW431.out)) (fun hs_ => fun e_ => Nat.not_le.2 hs_ (by rw [e_]; exact GW431.out))))) (fun hn_ => (Kd.freshB (g := gb431) (o := .cells #[.int .i64 a1_0, .slice A1_1 l1_1.length c1_1, .slice A1_2 l1_2.length c1_2, .slice A1_3 l1_3.length c1_3, .slice A1_4 l1_4.length c1_4, .slice A1_5 l1_5.length c1_5] 55 (0, 0)) (kM BK431) k_ hn_))⟩)) (below_size (kB HB))); replace HO434 := yD (Kd.N_elder' (kQ HO434) (Kd.N_base ho0) hb); replace BK430 := zY BK430 hb; replace BK431 := zY BK431 hb; replace HB := zX HB hb
  obtain ⟨Ao23, co23, eo23⟩ := Kd.N_slice HO434.out
  (first | subst eo23 | (injection eo23 with f1_ f2_ f3_; have f4_ := f1_.symm; have f5_ := f3_.symm; clear f1_ f2_ f3_; subst f4_; subst f5_))
  obtain ⟨Ao24, co24, eo24⟩ := Kd.N_slice HO437.out
  (first | subst eo24 | (injection eo24 with f1_ f2_ f3_; have f4_ := f1_.symm; have f5_ := f3_.symm; clear f1_ f2_ f3_; subst f4_; subst f5_))
  refine hK.out _ _ (ca6_ BK430.out (cz6 BK431.out)) (fun hHeld => ?_)
  clear hK K
  refine nZ 14 ?_
  refine qo 20 10 2047 (some 15) fun K hK => ?_
  refine qg Try.func153 _ ((slices_EqualFunc_slices_Equal_int64_int64.calls k _ _ t432 _ _ t435 false _ ?z1 ?z3 A6.out).mono ?_)
  (case z1 => exact ⟨kV (Kd.N_reads' HO434.out).2.2, (Kd.N_reads' HO434.out).2.1⟩)
  (case z3 => exact ⟨kV (Kd.N_reads' HO437.out).2.2, (Kd.N_reads' HO437.out).2.1⟩)
  rintro e w25 ⟨rfl, hb⟩
  refine ⟨_, rfl, ?_⟩
  replace HO434 := yD (Kd.N_below (kQ HO434) hb); replace HO437 := yD (Kd.N_below (kQ HO437) hb); replace BK430 := zY BK430 hb; replace BK431 := zY BK431 hb; replace HB := zX HB hb
  refine hK.out _ _ (ca6_ BK430.out (cz6 BK431.out)) (fun hHeld => ?_)
  clear hK K
  refine nZ 15 ?_
  refine qa 20 11 4095 ?_; refine qa 20 12 8191 ?_; refine qb 20 13 16383 ?_; refine qb 20 14 32767 ?_; refine qb 20 15 65535 ?_; refine qb 20 16 131071 ?_; refine qb 20 17 262143 ?_; refine qa 20 18 524287 ?_; refine qa 20 19 1048575 ?_
  refine qd ?_
  try go_wp2
  go_ret
  exact ⟨kE, kR0 HB⟩
 replace ⟨t439, A8, H⟩ := sV H
 obtain rfl := sJ H; go_enter Try.func137, Try.ntmps137
 try go_wp2_with (first | ((with_reducible refine gate_dst (N := 2) rfl ?_); refine bF (N := 2) (cs := #[.int .i64 a0_0, .slice A0_1 l0_1.length c0_1, .slice A0_2 l0_2.length c0_2, .slice A0_3 l0_3.length c0_3, .slice A0_4 l0_4.length c0_4, .slice A0_5 l0_5.length c0_5]) (t := 55) HB ?_; intro gb430 w9 BK430 GW430 HB) | ((with_reducible refine gate_dst (N := 3) rfl ?_); refine bE (N := 3) (cs := #[.int .i64 a1_0, .slice A1_1 l1_1.length c1_1, .slice A1_2 l1_2.length c1_2, .slice A1_3 l1_3.length c1_3, .slice A1_4 l1_4.length c1_4, .slice A1_5 l1_5.length c1_5]) (t := 55) ?_; intro gb431 hg w10 hbox hb; have BK431 := yD (hbox); have GW431 := sW hg HB; replace HB := zX HB hb; have NB430_431 := yD ((by rw [hg]; exact Nat.ne_of_lt (blk_lt (kN BK430)) : gb430 ≠ gb431)); have NB431_430 := yD ((by rw [hg]; exact Nat.ne_of_gt (blk_lt (kN BK430)) : gb431 ≠ gb430)); replace BK430 := zY BK430 hb; clear hb hbox hg))
 replace BK430 := yD (yO BK430.out); replace BK431 := yD (yO BK431.out); replace HB := yD (yP HB.out)
 refine s0 (m := 20) (S := fun w' => cl w' gb430 0 (.int .i64 a0_0) ∧ cl w' gb430 1 (.slice A0_1 l0_1.length c0_1) ∧ cl w' gb430 2 (.slice A0_2 l0_2.length c0_2) ∧ cl w' gb430 3 (.slice A0_3 l0_3.length c0_3) ∧ cl w' gb430 4 (.slice A0_4 l0_4.length c0_4) ∧ cl w' gb430 5 (.slice A0_5 l0_5.length c0_5) ∧ cl w' gb431 0 (.int .i64 a1_0) ∧ cl w' gb431 1 (.slice A1_1 l1_1.length c1_1) ∧ cl w' gb431 2 (.slice A1_2 l1_2.length c1_2) ∧ cl w' gb431 3 (.slice A1_3 l1_3.length c1_3) ∧ cl w' gb431 4 (.slice A1_4 l1_4.length c1_4) ∧ cl w' gb431 5 (.slice A1_5 l1_5.length c1_5)) impl_SameSelection.tab1 impl_SameSelection.bits1 (ca6_ BK430.out (cz6 BK431.out)) fun hHeld HT_ HW_ => ?_
 generalize w10.drew = w11 at BK430 BK431 HB hHeld ⊢
 refine qa 20 0 1 ?_; refine qa 20 2 5 ?_; refine qc 20 1 7 hHeld ?_; refine qc 20 3 15 hHeld ?_; refine qa 20 4 31 ?_; refine qa 20 5 63 ?_; refine qc 20 6 127 hHeld ?_; refine qc 20 8 383 hHeld ?_
 refine qo 20 7 511 (some 12) fun K hK => ?_
 refine qg Try.func154 _ ((impl_Selection_lists.calls a0_0 (fun k_ => k_ < w.heap.size) _ _ l0_1 (fun k_ => k_ < w.heap.size) _ _ l0_2 (fun k_ => k_ < w.heap.size) _ _ l0_3 (fun k_ => k_ < w.heap.size) _ _ l0_4 _ _ l0_5 t432 _ ?z1 ?z2 ?z3 ?z4 (C0_5.b HB) A4.out).mono ?_)
 (case z1 => exact Kd.V_mk C0_1.h (Kd.F_below (Kd.C_F (Kd.heap_int .i64) C0_1.r) (kB HB)))
 (case z2 => exact Kd.V_mk C0_2.h (Kd.F_below (Kd.C_F (Kd.heap_int .i64) C0_2.r) (kB HB)))
 (case z3 => exact Kd.V_mk C0_3.h (Kd.F_below (Kd.C_F (Kd.heap_int .i64) C0_3.r) (kB HB)))
 (case z4 => exact Kd.V_mk C0_4.h (Kd.F_below (Kd.C_F (Kd.heap_int .i64) C0_4.r) (kB HB)))
 rintro e w12 ⟨v433, rfl, ho0, hb⟩
 refine ⟨_, rfl, ?_⟩
 have HO434 := yD (Kd.N_lower (Kd.N_mono (ok' := fun k_ => k_ ≠ gb430 ∧ k_ ≠ gb431) ho0 (fun k_ hk_ => ⟨Or.elim hk_ (fun hs_ => Or.elim hs_ (fun hs_ => fun e_ => Nat.not_le.2 hs_ (by rw [e_]; exact GW430.out)) (fun hs_ => Or.elim hs_ (fun hs_ => fun e_ => Nat.not_le.2 hs_ (by rw [e_]; exact GW430.out)) (fun hs_ => Or.elim hs_ (fun hs_ => fun e_ => Nat.not_le.2 hs_ (by rw [e_]; exact GW430.out)) (fun hs_ => fun e_ => Nat.not_le.2 hs_ (by rw [e_]; exact GW430.out))))) (fun hn_ => (Kd.freshB (g := gb430) (o := .cells #[.int .i64 a0_0, .slice A0_1 l0_1.length c0_1, .slice A0_2 l0_2.length c0_2, .slice A0_3 l0_3.length c0_3, .slice A0_4 l0_4.length c0_4, .slice A0_5 l0_5.length c0_5] 55 (0, 0)) (kM BK430) k_ hn_)), Or.elim hk_ (fun hs_ => Or.elim hs_ (fun hs_ => fun e_ => Nat.not_le.2 hs_ (by rw [e_]; exact GW431.out)) (fun hs_ => Or.elim hs_ (fun hs_ => fun e_ => Nat.not_le.2 hs_ (by rw [e_]; exact GW431.out)) (fun hs_ => Or.elim hs_ (fun hs_ => fun e_ => Nat.not_le.2 hs_ (by rw [e_]; exact GW431.out)) (fun hs_ => fun e_ => Nat.not_le.2 hs_ (by rw [e_]; exact GW431.out))))) (fun hn_ => (Kd.freshB (g := gb431) (o := .cells #[.int .i64 a1_0, .slice A1_1 l1_1.length c1_1, .slice A1_2 l1_2.length c1_2, .slice A1_3 l1_3.length c1_3, .slice A1_4 l1_4.length c1_4, .slice A1_5 l1_5.length c1_5] 55 (0, 0)) (kM BK431) k_ hn_))⟩)) (below_size (kB HB))); replace BK430 := zY BK430 hb; replace BK431 := zY BK431 hb; replace HB := zX HB hb
 refine hK.out _ _ (ca6_ BK430.out (cz6 BK431.out)) (fun hHeld => ?_)
 clear hK K
 refine nZ 12 ?_
 refine qo 20 9 1023 (some 14) fun K hK => ?_
 refine qg Try.func154 _ ((impl_Selection_lists.calls a1_0 (fun k_ => k_ < w.heap.size) _ _ l1_1 (fun k_ => k_ < w.heap.size) _ _ l1_2 (fun k_ => k_ < w.heap.size) _ _ l1_3 (fun k_ => k_ < w.heap.size) _ _ l1_4 _ _ l1_5 t435 _ ?z1 ?z2 ?z3 ?z4 (C1_5.b HB) A5.out).mono ?_)
 (case z1 => exact Kd.V_mk C1_1.h (Kd.F_below (Kd.C_F (Kd.heap_int .i64) C1_1.r) (kB HB)))
 (case z2 => exact Kd.V_mk C1_2.h (Kd.F_below (Kd.C_F (Kd.heap_int .i64) C1_2.r) (kB HB)))
 (case z3 => exact Kd.V_mk C1_3.h (Kd.F_below (Kd.C_F (Kd.heap_int .i64) C1_3.r) (kB HB)))
 (case z4 => exact Kd.V_mk C1_4.h (Kd.F_below (Kd.C_F (Kd.heap_int .i64) C1_4.r) (kB HB)))
 rintro e w13 ⟨v436, rfl, ho0, hb⟩
 refine ⟨_, rfl, ?_⟩
 have HO437 := yD (Kd.N_lower (Kd.N_mono (ok' := fun k_ => oB v433 k_ ∧ k_ ≠ gb430 ∧ k_ ≠ gb431) ho0 (fun k_ hk_ => ⟨Or.elim hk_ (fun hs_ => Or.elim hs_ (fun hs_ => fun e_ => Nat.not_le.2 hs_ (Kd.N_base HO434.out k_ e_.symm)) (fun hs_ => Or.elim hs_ (fun hs_ => fun e_ => Nat.not_le.2 hs_ (Kd.N_base HO434.out k_ e_.symm)) (fun hs_ => Or.elim hs_ (fun hs_ => fun e_ => Nat.not_le.2 hs_ (Kd.N_base HO434.out k_ e_.symm)) (fun hs_ => fun e_ => Nat.not_le.2 hs_ (Kd.N_base HO434.out k_ e_.symm))))) (fun hn_ => (Kd.fresh' (Kd.N_lt (kQ HO434)) k_ hn_)), Or.elim hk_ (fun hs_ => Or.elim hs_ (fun hs_ => fun e_ => Nat.not_le.2 hs_ (by rw [e_]; exact GW430.out)) (fun hs_ => Or.elim hs_ (fun hs_ => fun e_ => Nat.not_le.2 hs_ (by rw [e_]; exact GW430.out)) (fun hs_ => Or.elim hs_ (fun hs_ => fun e_ => Nat.not_le.2 hs_ (by rw [e_]; exact GW430.out)) (fun hs_ => fun e_ => Nat.not_le.2 hs_ (by rw [e_]; exact GW430.out))))) (fun hn_ => (Kd.freshB (g := gb430) (o := .cells #[.int .i64 a0_0, .slice A0_1 l0_1.length c0_1, .slice A0_2 l0_2.length c0_2, .slice A0_3 l0_3.length c0_3, .slice A0_4 l0_4.length c0_4, .slice A0_5 l0_5.length c0_5] 55 (0, 0)) (kM BK430) k_ hn_)), Or.elim hk_ (fun hs_ => Or.elim hs_ (fun hs_ => fun e_ => Nat.not_le.2 hs_ (by rw [e_]; exact GW431.out)) (fun hs_ => Or.elim hs_ (fun hs_ => fun e_ => Nat.not_le.2 hs_ (by rw [e_]; exact GW431.out)) (fun hs_ => Or.elim hs_ (fun hs_ => fun e_ => Nat.not_le.2 hs_ (by rw [e_]; exact GW431.out)) (fun hs_ => fun e_ => Nat.not_le.2 hs_ (by rw [e_]; exact GW431.out))))) (fun hn_ => (Kd.freshB (g := gb431) (o := .cells #[.int .i64 a1_0, .slice A1_1 l1_1.length c1_1, .slice A1_2 l1_2.length c1_2, .slice A1_3 l1_3.length c1_3, .slice A1_4 l1_4.length c1_4, .slice A1_5 l1_5.length c1_5] 55 (0, 0)) (kM BK431) k_ hn_))⟩)) (below_size (kB HB))); replace HO434 := yD (Kd.N_elder' (kQ HO434) (Kd.N_base ho0) hb); replace BK430 := zY BK430 hb; replace BK431 := zY BK431 hb; replace HB := zX HB hb
 obtain ⟨Ao14, co14, eo14⟩ := Kd.N_slice HO434.out
 (first | subst eo14 | (injection eo14 with f1_ f2_ f3_; have f4_ := f1_.symm; have f5_ := f3_.symm; clear f1_ f2_ f3_; subst f4_; subst f5_))
 obtain ⟨Ao15, co15, eo15⟩ := Kd.N_slice HO437.out
 (first | subst eo15 | (injection eo15 with f1_ f2_ f3_; have f4_ := f1_.symm; have f5_ := f3_.symm; clear f1_ f2_ f3_; subst f4_; subst f5_))
 refine hK.out _ _ (ca6_ BK430.out (cz6 BK431.out)) (fun hHeld => ?_)
 clear hK K
 refine nZ 14 ?_
 refine qo 20 10 2047 (some 15) fun K hK => ?_
 refine qg Try.func153 _ ((slices_EqualFunc_slices_Equal_int64_int64.calls k _ _ t432 _ _ t435 true _ ?z1 ?z3 A6.out).mono ?_)
 (case z1 => exact ⟨kV (Kd.N_reads' HO434.out).2.2, (Kd.N_reads' HO434.out).2.1⟩)
 (case z3 => exact ⟨kV (Kd.N_reads' HO437.out).2.2, (Kd.N_reads' HO437.out).2.1⟩)
 rintro e w16 ⟨rfl, hb⟩
 refine ⟨_, rfl, ?_⟩
 replace HO434 := yD (Kd.N_below (kQ HO434) hb); replace HO437 := yD (Kd.N_below (kQ HO437) hb); replace BK430 := zY BK430 hb; replace BK431 := zY BK431 hb; replace HB := zX HB hb
 refine hK.out _ _ (ca6_ BK430.out (cz6 BK431.out)) (fun hHeld => ?_)
 clear hK K
 refine nZ 15 ?_
 refine qa 20 11 4095 ?_; refine qa 20 12 8191 ?_; refine qa 20 13 16383 ?_; refine qa 20 15 49151 ?_; refine qc 20 14 65535 hHeld ?_; refine qc 20 16 131071 hHeld ?_
 refine qo 20 17 262143 (some 22) fun K hK => ?_
 refine qg Try.func155 _ ((slices_EqualFunc_impl_samePoint.calls k _ _ l0_5 _ _ l1_5 t439 _ (C0_5.b HB) (C1_5.b HB) A8.out).mono ?_)
 rintro e w17 ⟨rfl, hb⟩
 refine ⟨_, rfl, ?_⟩
 replace HO434 := yD (Kd.N_below (kQ HO434) hb); replace HO437 := yD (Kd.N_below (kQ HO437) hb); replace BK430 := zY BK430 hb; replace BK431 := zY BK431 hb; replace HB := zX HB hb
 refine hK.out _ _ (ca6_ BK430.out (cz6 BK431.out)) (fun hHeld => ?_)
 clear hK K
 refine nZ 22 ?_
 refine qa 20 18 524287 ?_; refine qa 20 19 1048575 ?_
 refine qd ?_
 try go_wp2
 go_ret
 exact ⟨kE, kR0 HB⟩

/-! ### impl_Selection_end: function 140 -/
def impl_Selection_end.f (a0_0 : Int) (l0_1 : List Int) (l0_2 : List Int) (l0_3 : List Int) (l0_4 : List Int) (l0_5 : List (S110)) (a1 : Int) : Option (Int) := if 0 ≤ a1 then (if a1 < (l0_1.length : Int) then (if a1 < (l0_3.length : Int) then (if a1 < (l0_2.length : Int) then (if a1 < (l0_4.length : Int) then (some (wrap64 ((wrap64 ((rd l0_1 a1) + (wrap64 ((wrap64 ((rd l0_3 a1) - 1)) * (rd l0_2 a1))))) + (rd l0_4 a1)))) else (none)) else (none)) else (none)) else (none)) else (none)
theorem impl_Selection_end.calls (a0_0 : Int) (A0_1 : Option Addr) (c0_1 : Nat) (l0_1 : List Int) (A0_2 : Option Addr) (c0_2 : Nat) (l0_2 : List Int) (A0_3 : Option Addr) (c0_3 : Nat) (l0_3 : List Int) (A0_4 : Option Addr) (c0_4 : Nat) (l0_4 : List Int) (A0_5 : Option Addr) (c0_5 : Nat) (l0_5 : List (S110)) (a1 : Int) (r : Int) (w : World) (C0_1 : Cm (Kd.int .i64) w A0_1 c0_1 l0_1) (C0_2 : Cm (Kd.int .i64) w A0_2 c0_2 l0_2) (C0_3 : Cm (Kd.int .i64) w A0_3 c0_3 l0_3) (C0_4 : Cm (Kd.int .i64) w A0_4 c0_4 l0_4) (C0_5 : Cm k110 w A0_5 c0_5 l0_5) (h : impl_Selection_end.f a0_0 l0_1 l0_2 l0_3 l0_4 l0_5 a1 = some r) :
 Calls Try.prog 140 #[.agg #[.int .i64 a0_0, .slice A0_1 l0_1.length c0_1, .slice A0_2 l0_2.length c0_2, .slice A0_3 l0_3.length c0_3, .slice A0_4 l0_4.length c0_4, .slice A0_5 l0_5.length c0_5], .int .i64 a1] w fun e w' => e = .returned (.int .i64 r) ∧ Below w.heap.size w w' := by
 have hu55 := Try.underlying55
 have HB := yD (Below.refl w.heap.size w)
 have H : (if 0 ≤ a1 then (if a1 < (l0_1.length : Int) then (if a1 < (l0_3.length : Int) then (if a1 < (l0_2.length : Int) then (if a1 < (l0_4.length : Int) then (some (wrap64 ((wrap64 ((rd l0_1 a1) + (wrap64 ((wrap64 ((rd l0_3 a1) - 1)) * (rd l0_2 a1))))) + (rd l0_4 a1)))) else (none)) else (none)) else (none)) else (none)) else (none)) = some r := h
 clear h
 replace ⟨c3b0, H⟩ := sE H
 replace ⟨c4b0, H⟩ := sE H
 replace ⟨c5b0, H⟩ := sE H
 replace ⟨c6b0, H⟩ := sE H
 replace ⟨c7b0, H⟩ := sE H
 obtain rfl := sJ H; go_enter Try.func140, Try.ntmps140
 go_wp2_with (first | ((with_reducible refine gate_dst (N := 2) rfl ?_); refine bF (N := 2) (cs := #[.int .i64 a0_0, .slice A0_1 l0_1.length c0_1, .slice A0_2 l0_2.length c0_2, .slice A0_3 l0_3.length c0_3, .slice A0_4 l0_4.length c0_4, .slice A0_5 l0_5.length c0_5]) (t := 55) HB ?_; intro gb440 w8 BK440 GW440 HB; have := cf6_ BK440.out; have p441 : 0 ≤ (a1 : Int) := zP (by assumption); have q441 : a1 < (l0_1.length : Int) := zP (by assumption); obtain ⟨ad441, e441, hx441_0⟩ := Kd.at_int C0_1.r a1 p441 q441; cases e441; replace hx441_0 := kD HB hx441_0; replace p441 := eq_true p441; replace q441 := eq_true q441; have p442 : 0 ≤ (a1 : Int) := zP (by assumption); have q442 : a1 < (l0_3.length : Int) := zP (by assumption); obtain ⟨ad442, e442, hx442_0⟩ := Kd.at_int C0_3.r a1 p442 q442; cases e442; replace hx442_0 := kD HB hx442_0; replace p442 := eq_true p442; replace q442 := eq_true q442; have p443 : 0 ≤ (a1 : Int) := zP (by assumption); have q443 : a1 < (l0_2.length : Int) := zP (by assumption); obtain ⟨ad443, e443, hx443_0⟩ := Kd.at_int C0_2.r a1 p443 q443; cases e443; replace hx443_0 := kD HB hx443_0; replace p443 := eq_true p443; replace q443 := eq_true q443; have p444 : 0 ≤ (a1 : Int) := zP (by assumption); have q444 : a1 < (l0_4.length : Int) := zP (by assumption); obtain ⟨ad444, e444, hx444_0⟩ := Kd.at_int C0_4.r a1 p444 q444; cases e444; replace hx444_0 := kD HB hx444_0; replace p444 := eq_true p444; replace q444 := eq_true q444))
 repeat (go_quiet (first | ((with_reducible refine gate_dst (N := 2) rfl ?_); refine bF (N := 2) (cs := #[.int .i64 a0_0, .slice A0_1 l0_1.length c0_1, .slice A0_2 l0_2.length c0_2, .slice A0_3 l0_3.length c0_3, .slice A0_4 l0_4.length c0_4, .slice A0_5 l0_5.length c0_5]) (t := 55) HB ?_; intro gb440 w8 BK440 GW440 HB; have := cf6_ BK440.out; have p441 : 0 ≤ (a1 : Int) := zP (by assumption); have q441 : a1 < (l0_1.length : Int) := zP (by assumption); obtain ⟨ad441, e441, hx441_0⟩ := Kd.at_int C0_1.r a1 p441 q441; cases e441; replace hx441_0 := kD HB hx441_0; replace p441 := eq_true p441; replace q441 := eq_true q441; have p442 : 0 ≤ (a1 : Int) := zP (by assumption); have q442 : a1 < (l0_3.length : Int) := zP (by assumption); obtain ⟨ad442, e442, hx442_0⟩ := Kd.at_int C0_3.r a1 p442 q442; cases e442; replace hx442_0 := kD HB hx442_0; replace p442 := eq_true p442; replace q442 := eq_true q442; have p443 : 0 ≤ (a1 : Int) := zP (by assumption); have q443 : a1 < (l0_2.length : Int) := zP (by assumption); obtain ⟨ad443, e443, hx443_0⟩ := Kd.at_int C0_2.r a1 p443 q443; cases e443; replace hx443_0 := kD HB hx443_0; replace p443 := eq_true p443; replace q443 := eq_true q443; have p444 : 0 ≤ (a1 : Int) := zP (by assumption); have q444 : a1 < (l0_4.length : Int) := zP (by assumption); obtain ⟨ad444, e444, hx444_0⟩ := Kd.at_int C0_4.r a1 p444 q444; cases e444; replace hx444_0 := kD HB hx444_0; replace p444 := eq_true p444; replace q444 := eq_true q444)); try go_wp2_with (first | ((with_reducible refine gate_dst (N := 2) rfl ?_); refine bF (N := 2) (cs := #[.int .i64 a0_0, .slice A0_1 l0_1.length c0_1, .slice A0_2 l0_2.length c0_2, .slice A0_3 l0_3.length c0_3, .slice A0_4 l0_4.length c0_4, .slice A0_5 l0_5.length c0_5]) (t := 55) HB ?_; intro gb440 w8 BK440 GW440 HB; have := cf6_ BK440.out; have p441 : 0 ≤ (a1 : Int) := zP (by assumption); have q441 : a1 < (l0_1.length : Int) := zP (by assumption); obtain ⟨ad441, e441, hx441_0⟩ := Kd.at_int C0_1.r a1 p441 q441; cases e441; replace hx441_0 := kD HB hx441_0; replace p441 := eq_true p441; replace q441 := eq_true q441; have p442 : 0 ≤ (a1 : Int) := zP (by assumption); have q442 : a1 < (l0_3.length : Int) := zP (by assumption); obtain ⟨ad442, e442, hx442_0⟩ := Kd.at_int C0_3.r a1 p442 q442; cases e442; replace hx442_0 := kD HB hx442_0; replace p442 := eq_true p442; replace q442 := eq_true q442; have p443 : 0 ≤ (a1 : Int) := zP (by assumption); have q443 : a1 < (l0_2.length : Int) := zP (by assumption); obtain ⟨ad443, e443, hx443_0⟩ := Kd.at_int C0_2.r a1 p443 q443; cases e443; replace hx443_0 := kD HB hx443_0; replace p443 := eq_true p443; replace q443 := eq_true q443; have p444 : 0 ≤ (a1 : Int) := zP (by assumption); have q444 : a1 < (l0_4.length : Int) := zP (by assumption); obtain ⟨ad444, e444, hx444_0⟩ := Kd.at_int C0_4.r a1 p444 q444; cases e444; replace hx444_0 := kD HB hx444_0; replace p444 := eq_true p444; replace q444 := eq_true q444)))
 go_ret
 exact ⟨kE, kR0 HB⟩
/-! ### impl_Selection_slabFormed: function 138 -/
mutual
def impl_Selection_slabFormed.j0 : Nat → Int → Bool → Int → List Int → List Int → List Int → List Int → List (S110) → Option (Bool)
 | 0, _, _, _, _, _, _, _, _ => none
 | k + 1, x3, x30, x446000, x446001, x446002, x446003, x446004, x446005 => if x30 = true then (some false) else (impl_Selection_slabFormed.l0 k x3 0 x446000 x446001 x446002 x446003 x446004 x446005)
def impl_Selection_slabFormed.l0 : Nat → Int → Int → Int → List Int → List Int → List Int → List Int → List (S110) → Option (Bool)
 | 0, _, _, _, _, _, _, _, _ => none
 | k + 1, x31, x32, x446000, x446001, x446002, x446003, x446004, x446005 => if x32 < x31 then (if 0 ≤ x32 then (if x32 < (x446001.length : Int) then ((impl_within.f (rd x446001 x32) 0 40).bind fun t447 => (if t447 = true then (if x32 < (x446003.length : Int) then ((impl_within.f (rd x446003 x32) 1 40).bind fun t449 => (if t449 = true then (if x32 < (x446004.length : Int) then ((impl_within.f (rd x446004 x32) 1 40).bind fun t451 => (if t451 = true then (if x32 < (x446002.length : Int) then ((impl_within.f (rd x446002 x32) (rd x446004 x32) 40).bind fun t454 => (if t454 = true then ((impl_Selection_end.f x446000 x446001 x446002 x446003 x446004 x446005 x32).bind fun t455 => (if t455 > 40 then (some false) else (impl_Selection_slabFormed.l0 k x31 (wrap64 (x32 + 1)) x446000 x446001 x446002 x446003 x446004 x446005))) else (some false))) else (none)) else (some false))) else (none)) else (some false))) else (none)) else (some false))) else (none)) else (none)) else (some true)
end
def impl_Selection_slabFormed.f (k : Nat) (a0_0 : Int) (l0_1 : List Int) (l0_2 : List Int) (l0_3 : List Int) (l0_4 : List Int) (l0_5 : List (S110)) : Option (Bool) := if (l0_1.length : Int) > 3 then (impl_Selection_slabFormed.j0 k (l0_1.length : Int) true a0_0 l0_1 l0_2 l0_3 l0_4 l0_5) else (if (l0_2.length : Int) = (l0_1.length : Int) then (if (l0_3.length : Int) = (l0_1.length : Int) then (impl_Selection_slabFormed.j0 k (l0_1.length : Int) ((l0_4.length : Int) != (l0_1.length : Int)) a0_0 l0_1 l0_2 l0_3 l0_4 l0_5) else (impl_Selection_slabFormed.j0 k (l0_1.length : Int) true a0_0 l0_1 l0_2 l0_3 l0_4 l0_5)) else (impl_Selection_slabFormed.j0 k (l0_1.length : Int) true a0_0 l0_1 l0_2 l0_3 l0_4 l0_5))
def impl_Selection_slabFormed.T7 : Bool × List (List Nat × List Nat) := (true, [([], []), ([0], [0]), ([], []), ([1, 2], [1, 2]), ([3], [3]), ([4], [4]), ([5], [5]), ([6, 5], [6]), ([7], [7]), ([8, 7], [7, 8]), ([7], [7]), ([9, 10, 7], [7, 9, 10]), ([11, 7], [7, 11]), ([12, 7, 7], [7, 12]), ([13, 7], [7, 13]), ([7, 14], [7, 14]), ([15, 13], [15]), ([16], [16]), ([17, 16], [16, 17]), ([16], [16]), ([18, 19, 16], [16, 18, 19]), ([20, 16], [16, 20]), ([21, 16, 16], [16, 21]), ([22, 16], [16, 22]), ([16, 23], [16, 23]), ([24, 22], [24]), ([25], [25]), ([26, 25], [25, 26]), ([25], [25]), ([27, 28, 25], [25, 27, 28]), ([29, 25], [25, 29]), ([25], [25]), ([31, 25], [25, 31]), ([25], [25]), ([32, 33, 25], [25, 32, 33]), ([34, 25], [25, 34]), ([30, 35, 25, 25], [25, 30, 35]), ([36, 25], [25, 36]), ([25, 37], [25, 37]), ([38, 36], [38]), ([39], [39]), ([39], [39]), ([40, 41, 39, 39], [39, 40, 41]), ([42, 39], [39, 42]), ([39, 43], [39, 43])])
def impl_Selection_slabFormed.B7 : List Nat := [0, 1, 0, 7, 15, 31, 63, 127, 255, 511, 255, 2047, 4095, 8191, 16383, 32767, 65535, 131071, 262143, 131071, 1048575, 2097151, 4194303, 8388607, 16777215, 33554431, 67108863, 134217727, 67108863, 536870911, 1073741823, 67108863, 2214592511, 67108863, 15099494399, 32279363583, 68719476735, 137438953471, 274877906943, 549755813887, 1099511627775, 1099511627775, 4398046511103, 8796093022207, 17592186044415]
theorem impl_Selection_slabFormed.tab7 : rtab .any (opsOf Try.f138 7) = impl_Selection_slabFormed.T7 := by kernel_rfl
theorem impl_Selection_slabFormed.bits7 : waitsOk impl_Selection_slabFormed.T7.2 impl_Selection_slabFormed.B7 = true := by kernel_rfl
theorem impl_Selection_slabFormed.calls (k : Nat) (a0_0 : Int) (A0_1 : Option Addr) (c0_1 : Nat) (l0_1 : List Int) (A0_2 : Option Addr) (c0_2 : Nat) (l0_2 : List Int) (A0_3 : Option Addr) (c0_3 : Nat) (l0_3 : List Int) (A0_4 : Option Addr) (c0_4 : Nat) (l0_4 : List Int) (A0_5 : Option Addr) (c0_5 : Nat) (l0_5 : List (S110)) (r : Bool) (w : World) (C0_1 : Cm (Kd.int .i64) w A0_1 c0_1 l0_1) (C0_2 : Cm (Kd.int .i64) w A0_2 c0_2 l0_2) (C0_3 : Cm (Kd.int .i64) w A0_3 c0_3 l0_3) (C0_4 : Cm (Kd.int .i64) w A0_4 c0_4 l0_4) (C0_5 : Cm k110 w A0_5 c0_5 l0_5) (h : impl_Selection_slabFormed.f k a0_0 l0_1 l0_2 l0_3 l0_4 l0_5 = some r) :
 Calls Try.prog 138 #[.agg #[.int .i64 a0_0, .slice A0_1 l0_1.length c0_1, .slice A0_2 l0_2.length c0_2, .slice A0_3 l0_3.length c0_3, .slice A0_4 l0_4.length c0_4, .slice A0_5 l0_5.length c0_5]] w fun e w' => e = .returned (.bool r) ∧ Below w.heap.size w w' := by
 have hu55 := Try.underlying55
 have HB := yD (Below.refl w.heap.size w)
 have H : (if (l0_1.length : Int) > 3 then (impl_Selection_slabFormed.j0 k (l0_1.length : Int) true a0_0 l0_1 l0_2 l0_3 l0_4 l0_5) else (if (l0_2.length : Int) = (l0_1.length : Int) then (if (l0_3.length : Int) = (l0_1.length : Int) then (impl_Selection_slabFormed.j0 k (l0_1.length : Int) ((l0_4.length : Int) != (l0_1.length : Int)) a0_0 l0_1 l0_2 l0_3 l0_4 l0_5) else (impl_Selection_slabFormed.j0 k (l0_1.length : Int) true a0_0 l0_1 l0_2 l0_3 l0_4 l0_5)) else (impl_Selection_slabFormed.j0 k (l0_1.length : Int) true a0_0 l0_1 l0_2 l0_3 l0_4 l0_5))) = some r := h
 clear h
 have HC2 := yD H
 clear H; go_enter Try.func138, Try.ntmps138
 go_upto_region 2 with (first | ((with_reducible refine gate_dst (N := 1) rfl ?_); (try (refine gate_guard (by rfl) ?_; dsimp only)); refine bF (N := 1) (cs := #[.int .i64 a0_0, .slice A0_1 l0_1.length c0_1, .slice A0_2 l0_2.length c0_2, .slice A0_3 l0_3.length c0_3, .slice A0_4 l0_4.length c0_4, .slice A0_5 l0_5.length c0_5]) (t := 55) HB ?_; intro gb445 w3 BK445 GW445 HB; have := cf6_ BK445.out))
 (try simp only [Act.put, zH, zI, zJ])
 go_cut [30] (fun v30 wc => ∃ (kq : Nat) (x30_1 : Bool), v30 = .bool x30_1 ∧ Aside0 (impl_Selection_slabFormed.j0 kq (l0_1.length : Int) x30_1 a0_0 l0_1 l0_2 l0_3 l0_4 l0_5 = some r) ∧ Aside0 (kq ≤ k) ∧ Aside0 (wc.heap[gb445]? = some (.cells #[.int .i64 a0_0, (.slice A0_1 l0_1.length c0_1), (.slice A0_2 l0_2.length c0_2), (.slice A0_3 l0_3.length c0_3), (.slice A0_4 l0_4.length c0_4), (.slice A0_5 l0_5.length c0_5)] 55 (0, 0))) ∧ Aside0 (Below w.heap.size w wc))
 case first =>
  have H := HC2.out; clear HC2
  replace H := sB H; rcases H with ⟨c5, H⟩ | ⟨c5, H⟩
  ·
   have c5b0 : decide (3 < (l0_1.length : Int)) = true := zR c5
   have c5b1 : decide (3 < l0_1.length) = true := zR (by omega)
   clear c5
   (first | rw [c5b0] | (simp only [i64_w, i32_w]; rw [c5b0]) | (simp only [bne] at c5b0; rw [c5b0]) | skip)
   have H' := yD H
   clear H
   go_wp2
   go_meet
   case rel => exact ⟨_, (true), kF, H', ⟨by first | omega | exact Nat.le_refl _⟩, ⟨kM BK445⟩, ⟨kR0 HB⟩⟩
  have c5b0 : decide (3 < (l0_1.length : Int)) = false := zS c5
  have c5b1 : decide (3 < l0_1.length) = false := zS (by omega)
  clear c5
  (first | rw [c5b0] | (simp only [i64_w, i32_w]; rw [c5b0]) | (simp only [bne] at c5b0; rw [c5b0]) | skip)
  replace H := sP H; rcases H with ⟨c6, c6b0, c6b1, H⟩ | ⟨c6, c6b0, c6b1, H⟩
  ·
   have c6b2 : (l0_2.length == l0_1.length) = false := by first | simpa using c6 | (simp at c6 ⊢; omega)
   have H' := yD H
   clear H
   have := cf6_ BK445.out
   go_wp2
   go_meet
   case rel => exact ⟨_, (true), kF, H', ⟨by first | omega | exact Nat.le_refl _⟩, ⟨kM BK445⟩, ⟨kR0 HB⟩⟩
  have c6b2 : (l0_2.length == l0_1.length) = true := by first | simpa using c6 | (simp at c6 ⊢; omega)
  clear c6
  replace H := sP H; rcases H with ⟨c7, c7b0, c7b1, H⟩ | ⟨c7, c7b0, c7b1, H⟩
  ·
   have c7b2 : (l0_3.length == l0_1.length) = false := by first | simpa using c7 | (simp at c7 ⊢; omega)
   have H' := yD H
   clear H
   have := cf6_ BK445.out
   go_wp2
   go_meet
   case rel => exact ⟨_, (true), kF, H', ⟨by first | omega | exact Nat.le_refl _⟩, ⟨kM BK445⟩, ⟨kR0 HB⟩⟩
  have c7b2 : (l0_3.length == l0_1.length) = true := by first | simpa using c7 | (simp at c7 ⊢; omega)
  clear c7
  have H' := yD H
  clear H
  have := cf6_ BK445.out
  go_wp2
  go_meet
  case rel => exact ⟨_, (((l0_4.length : Int) != (l0_1.length : Int))), kF, H', ⟨by first | omega | exact Nat.le_refl _⟩, ⟨kM BK445⟩, ⟨kR0 HB⟩⟩
 case rest =>
  clear HC2
  obtain ⟨kq, x30_1, rfl, HA, HJ1, BK445, HB⟩ := hcut
  cases kq with
  | zero => exact absurd HA.out (by simp [impl_Selection_slabFormed.j0])
  | succ kj1 =>
   have H := HA.out; clear HA
   simp only [impl_Selection_slabFormed.j0] at H
   replace H := sT H; rcases H with ⟨rfl, H⟩ | ⟨rfl, H⟩
   · obtain rfl := sJ H
     go_wp2
     go_ret
     exact ⟨kE, kR0 HB⟩
   have H' := yD H
   clear H
   go_wp2
   go_loopg [32] kj1 (fun kq v32 w' => ∃ (x32_2 : Int), v32 = .int .i64 x32_2 ∧ Aside0 (impl_Selection_slabFormed.l0 kq (l0_1.length : Int) x32_2 a0_0 l0_1 l0_2 l0_3 l0_4 l0_5 = some r) ∧ Aside0 (kq ≤ kj1) ∧ Aside0 (w'.heap[gb445]? = some (.cells #[.int .i64 a0_0, (.slice A0_1 l0_1.length c0_1), (.slice A0_2 l0_2.length c0_2), (.slice A0_3 l0_3.length c0_3), (.slice A0_4 l0_4.length c0_4), (.slice A0_5 l0_5.length c0_5)] 55 (0, 0))) ∧ Aside0 (Below w.heap.size w w'))
   case atStart => exact ⟨(0), kF, H', ⟨Nat.le_refl _⟩, ⟨kM BK445⟩, ⟨kR0 HB⟩⟩
   case round =>
    clear H'
    obtain ⟨x32_2, rfl, HA, HK2, BK445, HB⟩ := hrel
    cases gk with
    | zero => exact absurd HA.out (by simp [impl_Selection_slabFormed.l0])
    | succ k2 =>
     have H := HA.out; clear HA
     simp only [impl_Selection_slabFormed.l0] at H
     replace H := sG H; rcases H with ⟨c12b0, H⟩ | ⟨c12b0, H⟩
     · obtain rfl := sJ H
       go_wp2
       go_ret
       exact ⟨kE, kR0 HB⟩
     replace ⟨c13b0, H⟩ := sE H
     replace ⟨c14b0, H⟩ := sE H
     replace ⟨t447, A15, H⟩ := sV H
     replace H := sS H; rcases H with ⟨rfl, H⟩ | ⟨rfl, H⟩
     ·
      obtain rfl := sJ H
      try go_wp2
      replace BK445 := yD (yO BK445.out); replace HB := yD (yP HB.out)
      obtain ⟨p446, q446, ad446, e446, hx446_0⟩ := sI (Kd.at_int C0_1.r x32_2)
      have hw446_0 := hx446_0; cases e446
      replace hx446_0 := kD HB hx446_0
      refine s0 (m := 45) (S := fun w' => cl w' gb445 0 (.int .i64 a0_0) ∧ cl w' gb445 1 (.slice (some ad446) l0_1.length c0_1) ∧ cl w' gb445 2 (.slice A0_2 l0_2.length c0_2) ∧ cl w' gb445 3 (.slice A0_3 l0_3.length c0_3) ∧ cl w' gb445 4 (.slice A0_4 l0_4.length c0_4) ∧ cl w' gb445 5 (.slice A0_5 l0_5.length c0_5) ∧ w'.cell? (ad446.add (x32_2).toNat) = some (.int .i64 (rd l0_1 x32_2))) impl_Selection_slabFormed.tab7 impl_Selection_slabFormed.bits7 (ca6_ BK445.out ((kC HB hw446_0))) fun hHeld HT_ HW_ => ?_
      generalize wr.drew = w35 at BK445 HB hx446_0 hHeld ⊢
      refine qa 45 0 1 ?_; refine qa 45 2 5 ?_; refine qc 45 1 7 hHeld ?_; refine qa 45 3 15 ?_; refine qc 45 4 31 hHeld ?_
      refine qo 45 5 63 (some 40) fun K hK => ?_
      refine qg Try.func106 _ (dm (impl_within.calls (rd l0_1 x32_2) 0 40 false _ A15.out) fun nd => ?_)
      refine hK.out _ _ (ca6_ BK445.out ((kC HB hw446_0))) (fun hHeld => ?_)
      clear hK K
      refine nZ 40 ?_
      refine qa 45 6 127 ?_; refine qa 45 7 255 ?_; refine qb 45 8 511 ?_; refine qb 45 9 1023 ?_; refine qb 45 10 2047 ?_; refine qb 45 11 4095 ?_; refine qb 45 12 8191 ?_; refine qb 45 13 16383 ?_; refine qb 45 14 32767 ?_; refine qa 45 15 65535 ?_; refine qa 45 16 131071 ?_; refine qb 45 17 262143 ?_; refine qb 45 18 524287 ?_; refine qb 45 19 1048575 ?_; refine qb 45 20 2097151 ?_; refine qb 45 21 4194303 ?_; refine qb 45 22 8388607 ?_; refine qb 45 23 16777215 ?_; refine qa 45 24 33554431 ?_; refine qa 45 25 67108863 ?_; refine qb 45 26 134217727 ?_; refine qb 45 27 268435455 ?_; refine qb 45 28 536870911 ?_; refine qb 45 29 1073741823 ?_; refine qb 45 30 2147483647 ?_; refine qb 45 31 4294967295 ?_; refine qb 45 32 8589934591 ?_; refine qb 45 33 17179869183 ?_; refine qb 45 34 34359738367 ?_; refine qb 45 35 68719476735 ?_; refine qb 45 36 137438953471 ?_; refine qb 45 37 274877906943 ?_; refine qa 45 38 549755813887 ?_; refine qa 45 39 1099511627775 ?_; refine qb 45 40 2199023255551 ?_; refine qb 45 41 4398046511103 ?_; refine qb 45 42 8796093022207 ?_; refine qb 45 43 17592186044415 ?_; refine qa 45 44 35184372088831 ?_
      refine qd ?_
      try go_wp2
      go_ret
      exact ⟨kE, kR0 HB⟩
     replace ⟨c17b0, H⟩ := sE H
     replace ⟨t449, A18, H⟩ := sV H
     replace H := sS H; rcases H with ⟨rfl, H⟩ | ⟨rfl, H⟩
     ·
      obtain rfl := sJ H
      try go_wp2
      replace BK445 := yD (yO BK445.out); replace HB := yD (yP HB.out)
      obtain ⟨p446, q446, ad446, e446, hx446_0⟩ := sI (Kd.at_int C0_1.r x32_2)
      have hw446_0 := hx446_0; cases e446
      replace hx446_0 := kD HB hx446_0
      obtain ⟨p448, q448, ad448, e448, hx448_0⟩ := sI (Kd.at_int C0_3.r x32_2)
      have hw448_0 := hx448_0; cases e448
      replace hx448_0 := kD HB hx448_0
      refine s0 (m := 45) (S := fun w' => cl w' gb445 0 (.int .i64 a0_0) ∧ cl w' gb445 1 (.slice (some ad446) l0_1.length c0_1) ∧ cl w' gb445 2 (.slice A0_2 l0_2.length c0_2) ∧ cl w' gb445 3 (.slice (some ad448) l0_3.length c0_3) ∧ cl w' gb445 4 (.slice A0_4 l0_4.length c0_4) ∧ cl w' gb445 5 (.slice A0_5 l0_5.length c0_5) ∧ w'.cell? (ad446.add (x32_2).toNat) = some (.int .i64 (rd l0_1 x32_2)) ∧ w'.cell? (ad448.add (x32_2).toNat) = some (.int .i64 (rd l0_3 x32_2))) impl_Selection_slabFormed.tab7 impl_Selection_slabFormed.bits7 (ca6_ BK445.out ⟨(kC HB hw446_0), (kC HB hw448_0)⟩) fun hHeld HT_ HW_ => ?_
      generalize wr.drew = w34 at BK445 HB hx446_0 hx448_0 hHeld ⊢
      refine qa 45 0 1 ?_; refine qa 45 2 5 ?_; refine qc 45 1 7 hHeld ?_; refine qa 45 3 15 ?_; refine qc 45 4 31 hHeld ?_
      refine qo 45 5 63 (some 40) fun K hK => ?_
      refine qg Try.func106 _ (dm (impl_within.calls (rd l0_1 x32_2) 0 40 true _ A15.out) fun nd => ?_)
      refine hK.out _ _ (ca6_ BK445.out ⟨(kC HB hw446_0), (kC HB hw448_0)⟩) (fun hHeld => ?_)
      clear hK K
      refine nZ 40 ?_
      refine qa 45 6 127 ?_; refine qa 45 7 255 ?_; refine qa 45 8 511 ?_; refine qa 45 10 1535 ?_; refine qc 45 9 2047 hHeld ?_; refine qa 45 11 4095 ?_; refine qc 45 12 8191 hHeld ?_
      refine qo 45 13 16383 (some 48) fun K hK => ?_
      refine qg Try.func106 _ (dm (impl_within.calls (rd l0_3 x32_2) 1 40 false _ A18.out) fun nd => ?_)
      refine hK.out _ _ (ca6_ BK445.out ⟨(kC HB hw446_0), (kC HB hw448_0)⟩) (fun hHeld => ?_)
      clear hK K
      refine nZ 48 ?_
      refine qa 45 14 32767 ?_; refine qa 45 15 65535 ?_; refine qa 45 16 131071 ?_; refine qb 45 17 262143 ?_; refine qb 45 18 524287 ?_; refine qb 45 19 1048575 ?_; refine qb 45 20 2097151 ?_; refine qb 45 21 4194303 ?_; refine qb 45 22 8388607 ?_; refine qb 45 23 16777215 ?_; refine qa 45 24 33554431 ?_; refine qa 45 25 67108863 ?_; refine qb 45 26 134217727 ?_; refine qb 45 27 268435455 ?_; refine qb 45 28 536870911 ?_; refine qb 45 29 1073741823 ?_; refine qb 45 30 2147483647 ?_; refine qb 45 31 4294967295 ?_; refine qb 45 32 8589934591 ?_; refine qb 45 33 17179869183 ?_; refine qb 45 34 34359738367 ?_; refine qb 45 35 68719476735 ?_; refine qb 45 36 137438953471 ?_; refine qb 45 37 274877906943 ?_; refine qa 45 38 549755813887 ?_; refine qa 45 39 1099511627775 ?_; refine qb 45 40 2199023255551 ?_; refine qb 45 41 4398046511103 ?_; refine qb 45 42 8796093022207 ?_; refine qb 45 43 17592186044415 ?_; refine qa 45 44 35184372088831 ?_
      refine qd ?_
      try go_wp2
      go_ret
      exact ⟨kE, kR0 HB⟩
     replace ⟨c20b0, H⟩ := sE H
     replace ⟨t451, A21, H⟩ := sV H
     replace H := sS H; rcases H with ⟨rfl, H⟩ | ⟨rfl, H⟩
     ·
      obtain rfl := sJ H
      try go_wp2
      replace BK445 := yD (yO BK445.out); replace HB := yD (yP HB.out)
      obtain ⟨p446, q446, ad446, e446, hx446_0⟩ := sI (Kd.at_int C0_1.r x32_2)
      have hw446_0 := hx446_0; cases e446
      replace hx446_0 := kD HB hx446_0
      obtain ⟨p448, q448, ad448, e448, hx448_0⟩ := sI (Kd.at_int C0_3.r x32_2)
      have hw448_0 := hx448_0; cases e448
      replace hx448_0 := kD HB hx448_0
      obtain ⟨p450, q450, ad450, e450, hx450_0⟩ := sI (Kd.at_int C0_4.r x32_2)
      have hw450_0 := hx450_0; cases e450
      replace hx450_0 := kD HB hx450_0
      refine s0 (m := 45) (S := fun w' => cl w' gb445 0 (.int .i64 a0_0) ∧ cl w' gb445 1 (.slice (some ad446) l0_1.length c0_1) ∧ cl w' gb445 2 (.slice A0_2 l0_2.length c0_2) ∧ cl w' gb445 3 (.slice (some ad448) l0_3.length c0_3) ∧ cl w' gb445 4 (.slice (some ad450) l0_4.length c0_4) ∧ cl w' gb445 5 (.slice A0_5 l0_5.length c0_5) ∧ w'.cell? (ad446.add (x32_2).toNat) = some (.int .i64 (rd l0_1 x32_2)) ∧ w'.cell? (ad448.add (x32_2).toNat) = some (.int .i64 (rd l0_3 x32_2)) ∧ w'.cell? (ad450.add (x32_2).toNat) = some (.int .i64 (rd l0_4 x32_2))) impl_Selection_slabFormed.tab7 impl_Selection_slabFormed.bits7 (ca6_ BK445.out ⟨(kC HB hw446_0), (kC HB hw448_0), (kC HB hw450_0)⟩) fun hHeld HT_ HW_ => ?_
      generalize wr.drew = w33 at BK445 HB hx446_0 hx448_0 hx450_0 hHeld ⊢
      refine qa 45 0 1 ?_; refine qa 45 2 5 ?_; refine qc 45 1 7 hHeld ?_; refine qa 45 3 15 ?_; refine qc 45 4 31 hHeld ?_
      refine qo 45 5 63 (some 40) fun K hK => ?_
      refine qg Try.func106 _ (dm (impl_within.calls (rd l0_1 x32_2) 0 40 true _ A15.out) fun nd => ?_)
      refine hK.out _ _ (ca6_ BK445.out ⟨(kC HB hw446_0), (kC HB hw448_0), (kC HB hw450_0)⟩) (fun hHeld => ?_)
      clear hK K
      refine nZ 40 ?_
      refine qa 45 6 127 ?_; refine qa 45 7 255 ?_; refine qa 45 8 511 ?_; refine qa 45 10 1535 ?_; refine qc 45 9 2047 hHeld ?_; refine qa 45 11 4095 ?_; refine qc 45 12 8191 hHeld ?_
      refine qo 45 13 16383 (some 48) fun K hK => ?_
      refine qg Try.func106 _ (dm (impl_within.calls (rd l0_3 x32_2) 1 40 true _ A18.out) fun nd => ?_)
      refine hK.out _ _ (ca6_ BK445.out ⟨(kC HB hw446_0), (kC HB hw448_0), (kC HB hw450_0)⟩) (fun hHeld => ?_)
      clear hK K
      refine nZ 48 ?_
      refine qa 45 14 32767 ?_; refine qa 45 15 65535 ?_; refine qa 45 16 131071 ?_; refine qa 45 17 262143 ?_; refine qa 45 19 786431 ?_; refine qc 45 18 1048575 hHeld ?_; refine qa 45 20 2097151 ?_; refine qc 45 21 4194303 hHeld ?_
      refine qo 45 22 8388607 (some 57) fun K hK => ?_
      refine qg Try.func106 _ (dm (impl_within.calls (rd l0_4 x32_2) 1 40 false _ A21.out) fun nd => ?_)
      refine hK.out _ _ (ca6_ BK445.out ⟨(kC HB hw446_0), (kC HB hw448_0), (kC HB hw450_0)⟩) (fun hHeld => ?_)
      clear hK K
      refine nZ 57 ?_
      refine qa 45 23 16777215 ?_; refine qa 45 24 33554431 ?_; refine qa 45 25 67108863 ?_; refine qb 45 26 134217727 ?_; refine qb 45 27 268435455 ?_; refine qb 45 28 536870911 ?_; refine qb 45 29 1073741823 ?_; refine qb 45 30 2147483647 ?_; refine qb 45 31 4294967295 ?_; refine qb 45 32 8589934591 ?_; refine qb 45 33 17179869183 ?_; refine qb 45 34 34359738367 ?_; refine qb 45 35 68719476735 ?_; refine qb 45 36 137438953471 ?_; refine qb 45 37 274877906943 ?_; refine qa 45 38 549755813887 ?_; refine qa 45 39 1099511627775 ?_; refine qb 45 40 2199023255551 ?_; refine qb 45 41 4398046511103 ?_; refine qb 45 42 8796093022207 ?_; refine qb 45 43 17592186044415 ?_; refine qa 45 44 35184372088831 ?_
      refine qd ?_
      try go_wp2
      go_ret
      exact ⟨kE, kR0 HB⟩
     replace ⟨c23b0, H⟩ := sE H
     replace ⟨t454, A24, H⟩ := sV H
     replace H := sS H; rcases H with ⟨rfl, H⟩ | ⟨rfl, H⟩
     ·
      obtain rfl := sJ H
      try go_wp2
      replace BK445 := yD (yO BK445.out); replace HB := yD (yP HB.out)
      obtain ⟨p446, q446, ad446, e446, hx446_0⟩ := sI (Kd.at_int C0_1.r x32_2)
      have hw446_0 := hx446_0; cases e446
      replace hx446_0 := kD HB hx446_0
      obtain ⟨p448, q448, ad448, e448, hx448_0⟩ := sI (Kd.at_int C0_3.r x32_2)
      have hw448_0 := hx448_0; cases e448
      replace hx448_0 := kD HB hx448_0
      obtain ⟨p450, q450, ad450, e450, hx450_0⟩ := sI (Kd.at_int C0_4.r x32_2)
      have hw450_0 := hx450_0; cases e450
      replace hx450_0 := kD HB hx450_0
      obtain ⟨p452, q452, ad452, e452, hx452_0⟩ := sI (Kd.at_int C0_2.r x32_2)
      have hw452_0 := hx452_0; cases e452
      replace hx452_0 := kD HB hx452_0
      obtain ⟨p453, q453, ad453, e453, hx453_0⟩ := sI (Kd.at_int C0_4.r x32_2)
      have hw453_0 := hx453_0
      obtain rfl : ad450 = ad453 := (by injection e453)
      replace hx453_0 := kD HB hx453_0
      refine s0 (m := 45) (S := fun w' => cl w' gb445 0 (.int .i64 a0_0) ∧ cl w' gb445 1 (.slice (some ad446) l0_1.length c0_1) ∧ cl w' gb445 2 (.slice (some ad452) l0_2.length c0_2) ∧ cl w' gb445 3 (.slice (some ad448) l0_3.length c0_3) ∧ cl w' gb445 4 (.slice (some ad450) l0_4.length c0_4) ∧ cl w' gb445 5 (.slice A0_5 l0_5.length c0_5) ∧ w'.cell? (ad446.add (x32_2).toNat) = some (.int .i64 (rd l0_1 x32_2)) ∧ w'.cell? (ad448.add (x32_2).toNat) = some (.int .i64 (rd l0_3 x32_2)) ∧ w'.cell? (ad450.add (x32_2).toNat) = some (.int .i64 (rd l0_4 x32_2)) ∧ w'.cell? (ad452.add (x32_2).toNat) = some (.int .i64 (rd l0_2 x32_2)) ∧ w'.cell? (ad450.add (x32_2).toNat) = some (.int .i64 (rd l0_4 x32_2))) impl_Selection_slabFormed.tab7 impl_Selection_slabFormed.bits7 (ca6_ BK445.out ⟨(kC HB hw446_0), (kC HB hw448_0), (kC HB hw450_0), (kC HB hw452_0), (kC HB hw453_0)⟩) fun hHeld HT_ HW_ => ?_
      generalize wr.drew = w32 at BK445 HB hx446_0 hx448_0 hx450_0 hx452_0 hx453_0 hHeld ⊢
      refine qa 45 0 1 ?_; refine qa 45 2 5 ?_; refine qc 45 1 7 hHeld ?_; refine qa 45 3 15 ?_; refine qc 45 4 31 hHeld ?_
      refine qo 45 5 63 (some 40) fun K hK => ?_
      refine qg Try.func106 _ (dm (impl_within.calls (rd l0_1 x32_2) 0 40 true _ A15.out) fun nd => ?_)
      refine hK.out _ _ (ca6_ BK445.out ⟨(kC HB hw446_0), (kC HB hw448_0), (kC HB hw450_0), (kC HB hw452_0), (kC HB hw453_0)⟩) (fun hHeld => ?_)
      clear hK K
      refine nZ 40 ?_
      refine qa 45 6 127 ?_; refine qa 45 7 255 ?_; refine qa 45 8 511 ?_; refine qa 45 10 1535 ?_; refine qc 45 9 2047 hHeld ?_; refine qa 45 11 4095 ?_; refine qc 45 12 8191 hHeld ?_
      refine qo 45 13 16383 (some 48) fun K hK => ?_
      refine qg Try.func106 _ (dm (impl_within.calls (rd l0_3 x32_2) 1 40 true _ A18.out) fun nd => ?_)
      refine hK.out _ _ (ca6_ BK445.out ⟨(kC HB hw446_0), (kC HB hw448_0), (kC HB hw450_0), (kC HB hw452_0), (kC HB hw453_0)⟩) (fun hHeld => ?_)
      clear hK K
      refine nZ 48 ?_
      refine qa 45 14 32767 ?_; refine qa 45 15 65535 ?_; refine qa 45 16 131071 ?_; refine qa 45 17 262143 ?_; refine qa 45 19 786431 ?_; refine qc 45 18 1048575 hHeld ?_; refine qa 45 20 2097151 ?_; refine qc 45 21 4194303 hHeld ?_
      refine qo 45 22 8388607 (some 57) fun K hK => ?_
      refine qg Try.func106 _ (dm (impl_within.calls (rd l0_4 x32_2) 1 40 true _ A21.out) fun nd => ?_)
      refine hK.out _ _ (ca6_ BK445.out ⟨(kC HB hw446_0), (kC HB hw448_0), (kC HB hw450_0), (kC HB hw452_0), (kC HB hw453_0)⟩) (fun hHeld => ?_)
      clear hK K
      refine nZ 57 ?_
      refine qa 45 23 16777215 ?_; refine qa 45 24 33554431 ?_; refine qa 45 25 67108863 ?_; refine qa 45 26 134217727 ?_; refine qa 45 28 402653183 ?_; refine qa 45 31 2550136831 ?_; refine qa 45 33 11140071423 ?_; refine qc 45 27 11274289151 hHeld ?_; refine qa 45 29 11811160063 ?_; refine qc 45 30 12884901887 hHeld ?_; refine qc 45 32 17179869183 hHeld ?_; refine qa 45 34 34359738367 ?_; refine qc 45 35 68719476735 hHeld ?_
      refine qo 45 36 137438953471 (some 71) fun K hK => ?_
      refine qg Try.func106 _ (dm (impl_within.calls (rd l0_2 x32_2) (rd l0_4 x32_2) 40 false _ A24.out) fun nd => ?_)
      refine hK.out _ _ (ca6_ BK445.out ⟨(kC HB hw446_0), (kC HB hw448_0), (kC HB hw450_0), (kC HB hw452_0), (kC HB hw453_0)⟩) (fun hHeld => ?_)
      clear hK K
      refine nZ 71 ?_
      refine qa 45 37 274877906943 ?_; refine qa 45 38 549755813887 ?_; refine qa 45 39 1099511627775 ?_; refine qb 45 40 2199023255551 ?_; refine qb 45 41 4398046511103 ?_; refine qb 45 42 8796093022207 ?_; refine qb 45 43 17592186044415 ?_; refine qa 45 44 35184372088831 ?_
      refine qd ?_
      try go_wp2
      go_ret
      exact ⟨kE, kR0 HB⟩
     replace ⟨t455, A26, H⟩ := sV H
     replace H := sB H; rcases H with ⟨c27, H⟩ | ⟨c27, H⟩
     ·
      have c27b0 : decide (40 < t455) = true := zR c27; clear c27; obtain rfl := sJ H
      try go_wp2
      replace BK445 := yD (yO BK445.out); replace HB := yD (yP HB.out)
      obtain ⟨p446, q446, ad446, e446, hx446_0⟩ := sI (Kd.at_int C0_1.r x32_2)
      have hw446_0 := hx446_0; cases e446
      replace hx446_0 := kD HB hx446_0
      obtain ⟨p448, q448, ad448, e448, hx448_0⟩ := sI (Kd.at_int C0_3.r x32_2)
      have hw448_0 := hx448_0; cases e448
      replace hx448_0 := kD HB hx448_0
      obtain ⟨p450, q450, ad450, e450, hx450_0⟩ := sI (Kd.at_int C0_4.r x32_2)
      have hw450_0 := hx450_0; cases e450
      replace hx450_0 := kD HB hx450_0
      obtain ⟨p452, q452, ad452, e452, hx452_0⟩ := sI (Kd.at_int C0_2.r x32_2)
      have hw452_0 := hx452_0; cases e452
      replace hx452_0 := kD HB hx452_0
      obtain ⟨p453, q453, ad453, e453, hx453_0⟩ := sI (Kd.at_int C0_4.r x32_2)
      have hw453_0 := hx453_0
      obtain rfl : ad450 = ad453 := (by injection e453)
      replace hx453_0 := kD HB hx453_0
      refine s0 (m := 45) (S := fun w' => cl w' gb445 0 (.int .i64 a0_0) ∧ cl w' gb445 1 (.slice (some ad446) l0_1.length c0_1) ∧ cl w' gb445 2 (.slice (some ad452) l0_2.length c0_2) ∧ cl w' gb445 3 (.slice (some ad448) l0_3.length c0_3) ∧ cl w' gb445 4 (.slice (some ad450) l0_4.length c0_4) ∧ cl w' gb445 5 (.slice A0_5 l0_5.length c0_5) ∧ w'.cell? (ad446.add (x32_2).toNat) = some (.int .i64 (rd l0_1 x32_2)) ∧ w'.cell? (ad448.add (x32_2).toNat) = some (.int .i64 (rd l0_3 x32_2)) ∧ w'.cell? (ad450.add (x32_2).toNat) = some (.int .i64 (rd l0_4 x32_2)) ∧ w'.cell? (ad452.add (x32_2).toNat) = some (.int .i64 (rd l0_2 x32_2)) ∧ w'.cell? (ad450.add (x32_2).toNat) = some (.int .i64 (rd l0_4 x32_2))) impl_Selection_slabFormed.tab7 impl_Selection_slabFormed.bits7 (ca6_ BK445.out ⟨(kC HB hw446_0), (kC HB hw448_0), (kC HB hw450_0), (kC HB hw452_0), (kC HB hw453_0)⟩) fun hHeld HT_ HW_ => ?_
      generalize wr.drew = w28 at BK445 HB hx446_0 hx448_0 hx450_0 hx452_0 hx453_0 hHeld ⊢
      refine qa 45 0 1 ?_; refine qa 45 2 5 ?_; refine qc 45 1 7 hHeld ?_; refine qa 45 3 15 ?_; refine qc 45 4 31 hHeld ?_
      refine qo 45 5 63 (some 40) fun K hK => ?_
      refine qg Try.func106 _ (dm (impl_within.calls (rd l0_1 x32_2) 0 40 true _ A15.out) fun nd => ?_)
      refine hK.out _ _ (ca6_ BK445.out ⟨(kC HB hw446_0), (kC HB hw448_0), (kC HB hw450_0), (kC HB hw452_0), (kC HB hw453_0)⟩) (fun hHeld => ?_)
      clear hK K
      refine nZ 40 ?_
      refine qa 45 6 127 ?_; refine qa 45 7 255 ?_; refine qa 45 8 511 ?_; refine qa 45 10 1535 ?_; refine qc 45 9 2047 hHeld ?_; refine qa 45 11 4095 ?_; refine qc 45 12 8191 hHeld ?_
      refine qo 45 13 16383 (some 48) fun K hK => ?_
      refine qg Try.func106 _ (dm (impl_within.calls (rd l0_3 x32_2) 1 40 true _ A18.out) fun nd => ?_)
      refine hK.out _ _ (ca6_ BK445.out ⟨(kC HB hw446_0), (kC HB hw448_0), (kC HB hw450_0), (kC HB hw452_0), (kC HB hw453_0)⟩) (fun hHeld => ?_)
      clear hK K
      refine nZ 48 ?_
      refine qa 45 14 32767 ?_; refine qa 45 15 65535 ?_; refine qa 45 16 131071 ?_; refine qa 45 17 262143 ?_; refine qa 45 19 786431 ?_; refine qc 45 18 1048575 hHeld ?_; refine qa 45 20 2097151 ?_; refine qc 45 21 4194303 hHeld ?_
      refine qo 45 22 8388607 (some 57) fun K hK => ?_
      refine qg Try.func106 _ (dm (impl_within.calls (rd l0_4 x32_2) 1 40 true _ A21.out) fun nd => ?_)
      refine hK.out _ _ (ca6_ BK445.out ⟨(kC HB hw446_0), (kC HB hw448_0), (kC HB hw450_0), (kC HB hw452_0), (kC HB hw453_0)⟩) (fun hHeld => ?_)
      clear hK K
      refine nZ 57 ?_
      refine qa 45 23 16777215 ?_; refine qa 45 24 33554431 ?_; refine qa 45 25 67108863 ?_; refine qa 45 26 134217727 ?_; refine qa 45 28 402653183 ?_; refine qa 45 31 2550136831 ?_; refine qa 45 33 11140071423 ?_; refine qc 45 27 11274289151 hHeld ?_; refine qa 45 29 11811160063 ?_; refine qc 45 30 12884901887 hHeld ?_; refine qc 45 32 17179869183 hHeld ?_; refine qa 45 34 34359738367 ?_; refine qc 45 35 68719476735 hHeld ?_
      refine qo 45 36 137438953471 (some 71) fun K hK => ?_
      refine qg Try.func106 _ (dm (impl_within.calls (rd l0_2 x32_2) (rd l0_4 x32_2) 40 true _ A24.out) fun nd => ?_)
      refine hK.out _ _ (ca6_ BK445.out ⟨(kC HB hw446_0), (kC HB hw448_0), (kC HB hw450_0), (kC HB hw452_0), (kC HB hw453_0)⟩) (fun hHeld => ?_)
      clear hK K
      refine nZ 71 ?_
      refine qa 45 37 274877906943 ?_; refine qa 45 38 549755813887 ?_; refine qa 45 39 1099511627775 ?_; refine qa 45 41 3298534883327 ?_; refine qc 45 40 4398046511103 hHeld ?_
      refine qo 45 42 8796093022207 (some 77) fun K hK => ?_
      refine qg Try.func140 _ ((impl_Selection_end.calls a0_0 _ _ l0_1 _ _ l0_2 _ _ l0_3 _ _ l0_4 _ _ l0_5 x32_2 t455 _ (C0_1.b HB) (C0_2.b HB) (C0_3.b HB) (C0_4.b HB) (C0_5.b HB) A26.out).mono ?_)
      rintro e w29 ⟨rfl, hb⟩
      refine ⟨_, rfl, ?_⟩
      replace BK445 := zY BK445 hb; replace HB := zX HB hb
      refine hK.out _ _ (ca6_ BK445.out ⟨(kC HB hw446_0), (kC HB hw448_0), (kC HB hw450_0), (kC HB hw452_0), (kC HB hw453_0)⟩) (fun hHeld => ?_)
      clear hK K
      refine nZ 77 ?_
      refine qa 45 43 17592186044415 ?_; refine qa 45 44 35184372088831 ?_
      refine qd ?_
      try go_wp2
      go_ret
      exact ⟨kE, kR0 HB⟩
     have c27b0 : decide (40 < t455) = false := zS c27; clear c27
     have H' := yD H
     clear H
     try go_wp2
     replace BK445 := yD (yO BK445.out); replace HB := yD (yP HB.out)
     obtain ⟨p446, q446, ad446, e446, hx446_0⟩ := sI (Kd.at_int C0_1.r x32_2)
     have hw446_0 := hx446_0; cases e446
     replace hx446_0 := kD HB hx446_0
     obtain ⟨p448, q448, ad448, e448, hx448_0⟩ := sI (Kd.at_int C0_3.r x32_2)
     have hw448_0 := hx448_0; cases e448
     replace hx448_0 := kD HB hx448_0
     obtain ⟨p450, q450, ad450, e450, hx450_0⟩ := sI (Kd.at_int C0_4.r x32_2)
     have hw450_0 := hx450_0; cases e450
     replace hx450_0 := kD HB hx450_0
     obtain ⟨p452, q452, ad452, e452, hx452_0⟩ := sI (Kd.at_int C0_2.r x32_2)
     have hw452_0 := hx452_0; cases e452
     replace hx452_0 := kD HB hx452_0
     obtain ⟨p453, q453, ad453, e453, hx453_0⟩ := sI (Kd.at_int C0_4.r x32_2)
     have hw453_0 := hx453_0
     obtain rfl : ad450 = ad453 := (by injection e453)
     replace hx453_0 := kD HB hx453_0
     refine s0 (m := 45) (S := fun w' => cl w' gb445 0 (.int .i64 a0_0) ∧ cl w' gb445 1 (.slice (some ad446) l0_1.length c0_1) ∧ cl w' gb445 2 (.slice (some ad452) l0_2.length c0_2) ∧ cl w' gb445 3 (.slice (some ad448) l0_3.length c0_3) ∧ cl w' gb445 4 (.slice (some ad450) l0_4.length c0_4) ∧ cl w' gb445 5 (.slice A0_5 l0_5.length c0_5) ∧ w'.cell? (ad446.add (x32_2).toNat) = some (.int .i64 (rd l0_1 x32_2)) ∧ w'.cell? (ad448.add (x32_2).toNat) = some (.int .i64 (rd l0_3 x32_2)) ∧ w'.cell? (ad450.add (x32_2).toNat) = some (.int .i64 (rd l0_4 x32_2)) ∧ w'.cell? (ad452.add (x32_2).toNat) = some (.int .i64 (rd l0_2 x32_2)) ∧ w'.cell? (ad450.add (x32_2).toNat) = some (.int .i64 (rd l0_4 x32_2))) impl_Selection_slabFormed.tab7 impl_Selection_slabFormed.bits7 (ca6_ BK445.out ⟨(kC HB hw446_0), (kC HB hw448_0), (kC HB hw450_0), (kC HB hw452_0), (kC HB hw453_0)⟩) fun hHeld HT_ HW_ => ?_
     generalize wr.drew = w30 at BK445 HB hx446_0 hx448_0 hx450_0 hx452_0 hx453_0 hHeld ⊢
     refine qa 45 0 1 ?_; refine qa 45 2 5 ?_; refine qc 45 1 7 hHeld ?_; refine qa 45 3 15 ?_; refine qc 45 4 31 hHeld ?_
     refine qo 45 5 63 (some 40) fun K hK => ?_
     refine qg Try.func106 _ (dm (impl_within.calls (rd l0_1 x32_2) 0 40 true _ A15.out) fun nd => ?_)
     refine hK.out _ _ (ca6_ BK445.out ⟨(kC HB hw446_0), (kC HB hw448_0), (kC HB hw450_0), (kC HB hw452_0), (kC HB hw453_0)⟩) (fun hHeld => ?_)
     clear hK K
     refine nZ 40 ?_
     refine qa 45 6 127 ?_; refine qa 45 7 255 ?_; refine qa 45 8 511 ?_; refine qa 45 10 1535 ?_; refine qc 45 9 2047 hHeld ?_; refine qa 45 11 4095 ?_; refine qc 45 12 8191 hHeld ?_
     refine qo 45 13 16383 (some 48) fun K hK => ?_
     refine qg Try.func106 _ (dm (impl_within.calls (rd l0_3 x32_2) 1 40 true _ A18.out) fun nd => ?_)
     refine hK.out _ _ (ca6_ BK445.out ⟨(kC HB hw446_0), (kC HB hw448_0), (kC HB hw450_0), (kC HB hw452_0), (kC HB hw453_0)⟩) (fun hHeld => ?_)
     clear hK K
     refine nZ 48 ?_
     refine qa 45 14 32767 ?_; refine qa 45 15 65535 ?_; refine qa 45 16 131071 ?_; refine qa 45 17 262143 ?_; refine qa 45 19 786431 ?_; refine qc 45 18 1048575 hHeld ?_; refine qa 45 20 2097151 ?_; refine qc 45 21 4194303 hHeld ?_
     refine qo 45 22 8388607 (some 57) fun K hK => ?_
     refine qg Try.func106 _ (dm (impl_within.calls (rd l0_4 x32_2) 1 40 true _ A21.out) fun nd => ?_)
     refine hK.out _ _ (ca6_ BK445.out ⟨(kC HB hw446_0), (kC HB hw448_0), (kC HB hw450_0), (kC HB hw452_0), (kC HB hw453_0)⟩) (fun hHeld => ?_)
     clear hK K
     refine nZ 57 ?_
     refine qa 45 23 16777215 ?_; refine qa 45 24 33554431 ?_; refine qa 45 25 67108863 ?_; refine qa 45 26 134217727 ?_; refine qa 45 28 402653183 ?_; refine qa 45 31 2550136831 ?_; refine qa 45 33 11140071423 ?_; refine qc 45 27 11274289151 hHeld ?_; refine qa 45 29 11811160063 ?_; refine qc 45 30 12884901887 hHeld ?_; refine qc 45 32 17179869183 hHeld ?_; refine qa 45 34 34359738367 ?_; refine qc 45 35 68719476735 hHeld ?_
     refine qo 45 36 137438953471 (some 71) fun K hK => ?_
     refine qg Try.func106 _ (dm (impl_within.calls (rd l0_2 x32_2) (rd l0_4 x32_2) 40 true _ A24.out) fun nd => ?_)
     refine hK.out _ _ (ca6_ BK445.out ⟨(kC HB hw446_0), (kC HB hw448_0), (kC HB hw450_0), (kC HB hw452_0), (kC HB hw453_0)⟩) (fun hHeld => ?_)
     clear hK K
     refine nZ 71 ?_
     refine qa 45 37 274877906943 ?_; refine qa 45 38 549755813887 ?_; refine qa 45 39 1099511627775 ?_; refine qa 45 41 3298534883327 ?_; refine qc 45 40 4398046511103 hHeld ?_
     refine qo 45 42 8796093022207 (some 77) fun K hK => ?_
     refine qg Try.func140 _ ((impl_Selection_end.calls a0_0 _ _ l0_1 _ _ l0_2 _ _ l0_3 _ _ l0_4 _ _ l0_5 x32_2 t455 _ (C0_1.b HB) (C0_2.b HB) (C0_3.b HB) (C0_4.b HB) (C0_5.b HB) A26.out).mono ?_)
     rintro e w31 ⟨rfl, hb⟩
     refine ⟨_, rfl, ?_⟩
     replace BK445 := zY BK445 hb; replace HB := zX HB hb
     refine hK.out _ _ (ca6_ BK445.out ⟨(kC HB hw446_0), (kC HB hw448_0), (kC HB hw450_0), (kC HB hw452_0), (kC HB hw453_0)⟩) (fun hHeld => ?_)
     clear hK K
     refine nZ 77 ?_
     refine qa 45 43 17592186044415 ?_; refine qa 45 44 35184372088831 ?_
     refine qd ?_
     try go_wp2
     go_roundg k2
     case measure => have := HJ1.out; have := HK2.out; omega
     case rel => exact ⟨(wrap64 (x32_2 + 1)), kF, H', ⟨by have := HJ1.out; have := HK2.out; omega⟩, ⟨kM BK445⟩, ⟨kR0 HB⟩⟩
/-! ### impl_Selection_pointsFormed_1: function 157 -/
def impl_Selection_pointsFormed_1.f (k : Nat) (l0_0 : List Int) (a1_0 : Int) : Option (Bool) := if (l0_0.length : Int) = a1_0 then ((impl_allWithin.f k l0_0 0 39).bind fun t457 => (some (!t457))) else (some true)
theorem impl_Selection_pointsFormed_1.calls (k : Nat) (A0_0 : Option Addr) (c0_0 : Nat) (l0_0 : List Int) (g1_0 : Nat) (a1_0 : Int) (r : Bool) (w : World) (C0_0 : Cm (Kd.int .i64) w A0_0 c0_0 l0_0) (hb1_0 : w.heap[g1_0]? = some (.cells #[.int .i64 a1_0] 3 (0, 0))) (h : impl_Selection_pointsFormed_1.f k l0_0 a1_0 = some r) :
 Calls Try.prog 157 #[.agg #[.slice A0_0 l0_0.length c0_0], .pointer (some ⟨g1_0, 0, none⟩)] w fun e w' => e = .returned (.bool r) ∧ Below w.heap.size w w' := by
 have hu110 := Try.underlying110
 have BK48 := yD hb1_0
 clear hb1_0
 have HB := yD (Below.refl w.heap.size w)
 have H : (if (l0_0.length : Int) = a1_0 then ((impl_allWithin.f k l0_0 0 39).bind fun t457 => (some (!t457))) else (some true)) = some r := h
 clear h
 replace H := sP H; rcases H with ⟨c3, c3b0, c3b1, H⟩ | ⟨-, c3b0, c3b1, H⟩
 ·
  obtain rfl := sJ H; go_enter Try.func157, Try.ntmps157
  go_wp2_with (first | ((with_reducible refine gate_dst (N := 2) rfl ?_); refine bE (N := 2) (cs := #[.slice A0_0 l0_0.length c0_0]) (t := 110) ?_; intro gb456 hg w10 hbox hb; have BK456 := yD (hbox); have GW456 := sW hg HB; replace HB := zX HB hb; have NB48_456 := yD ((by rw [hg]; exact Nat.ne_of_lt (blk_lt (kN BK48)) : g1_0 ≠ gb456)); have NB456_48 := yD ((by rw [hg]; exact Nat.ne_of_gt (blk_lt (kN BK48)) : gb456 ≠ g1_0)); replace BK48 := zY BK48 hb; clear hb hbox hg; have hnb11 := NB456_48.out; have hnc11 := NB48_456.out; have hcz12_0 : w10.cell? ⟨gb456, 0, none⟩ = some (.slice A0_0 l0_0.length c0_0) := (yG BK456.out 0).trans rfl; have hfz12_0 := yR BK456.out 0; have hcz13_0 : w10.cell? ⟨g1_0, 0, none⟩ = some (.int .i64 a1_0) := (yG BK48.out 0).trans rfl; have hfz13_0 := yR BK48.out 0))
  go_ret
  exact ⟨kE, kR0 HB⟩
 replace ⟨t457, A4, H⟩ := sV H
 obtain rfl := sJ H; go_enter Try.func157, Try.ntmps157
 go_wp2_with (first | ((with_reducible refine gate_dst (N := 2) rfl ?_); refine bE (N := 2) (cs := #[.slice A0_0 l0_0.length c0_0]) (t := 110) ?_; intro gb456 hg w5 hbox hb; have BK456 := yD (hbox); have GW456 := sW hg HB; replace HB := zX HB hb; have NB48_456 := yD ((by rw [hg]; exact Nat.ne_of_lt (blk_lt (kN BK48)) : g1_0 ≠ gb456)); have NB456_48 := yD ((by rw [hg]; exact Nat.ne_of_gt (blk_lt (kN BK48)) : gb456 ≠ g1_0)); replace BK48 := zY BK48 hb; clear hb hbox hg; have hnb6 := NB456_48.out; have hnc6 := NB48_456.out; have hcz7_0 : w5.cell? ⟨gb456, 0, none⟩ = some (.slice A0_0 l0_0.length c0_0) := (yG BK456.out 0).trans rfl; have hfz7_0 := yR BK456.out 0; have hcz8_0 : w5.cell? ⟨g1_0, 0, none⟩ = some (.int .i64 a1_0) := (yG BK48.out 0).trans rfl; have hfz8_0 := yR BK48.out 0) | (go_at_call 136; (with_reducible refine (impl_allWithin.calls k _ _ l0_0 0 39 t457 _ (C0_0.b HB) A4.out).mono ?_); rintro e w9 ⟨rfl, hb⟩; replace BK48 := zY BK48 hb; replace BK456 := zY BK456 hb; replace HB := zX HB hb; clear hb))
 go_ret
 exact ⟨kE, kR0 HB⟩

/-! ### slices_IndexFunc_impl_Selection_pointsFormed_1: function 158 -/
def slices_IndexFunc_impl_Selection_pointsFormed_1.l0 : Nat → List (S110) → Int → Int → Int → Option (Int)
 | 0, _, _, _, _ => none
 | k + 1, x0, x7, x8, x49000 => if x8 < x7 then (if 0 ≤ x8 then (if x8 < (x0.length : Int) then ((impl_Selection_pointsFormed_1.f k ((rd_T110 x0 x8).f0) x49000).bind fun t459 => (if t459 = true then (some x8) else (slices_IndexFunc_impl_Selection_pointsFormed_1.l0 k x0 x7 (wrap64 (x8 + 1)) x49000))) else (none)) else (none)) else (some (-1))
def slices_IndexFunc_impl_Selection_pointsFormed_1.f (k : Nat) (l0 : List (S110)) (a1_0 : Int) : Option (Int) := slices_IndexFunc_impl_Selection_pointsFormed_1.l0 k l0 (l0.length : Int) 0 a1_0
theorem slices_IndexFunc_impl_Selection_pointsFormed_1.calls (k : Nat) (A0 : Option Addr) (c0 : Nat) (l0 : List (S110)) (g1_0 : Nat) (a1_0 : Int) (r : Int) (w : World) (C0 : Cm k110 w A0 c0 l0) (hb1_0 : w.heap[g1_0]? = some (.cells #[.int .i64 a1_0] 3 (0, 0))) (h : slices_IndexFunc_impl_Selection_pointsFormed_1.f k l0 a1_0 = some r) :
 Calls Try.prog 158 #[.slice A0 l0.length c0, .func (.func 157) #[] #[.pointer (some ⟨g1_0, 0, none⟩)]] w fun e w' => e = .returned (.int .i64 r) ∧ Below w.heap.size w w' := by
 have hu110 := Try.underlying110
 have BK48 := yD hb1_0
 clear hb1_0
 have HB := yD (Below.refl w.heap.size w)
 have H : (slices_IndexFunc_impl_Selection_pointsFormed_1.l0 k l0 (l0.length : Int) 0 a1_0) = some r := h
 clear h
 have H' := yD H
 clear H; go_enter Try.func158, Try.ntmps158
 go_wp2
 go_loopg [8] k (fun kq v8 w' => ∃ (x8_1 : Int), v8 = .int .i64 x8_1 ∧ Aside0 (slices_IndexFunc_impl_Selection_pointsFormed_1.l0 kq l0 (l0.length : Int) x8_1 a1_0 = some r) ∧ Aside0 (kq ≤ k) ∧ Aside0 (w'.heap[g1_0]? = some (.cells #[.int .i64 a1_0] 3 (0, 0))) ∧ Aside0 (Below w.heap.size w w'))
 case atStart => exact ⟨(0), kF, H', ⟨Nat.le_refl _⟩, ⟨kM BK48⟩, ⟨kR0 HB⟩⟩
 case round =>
  clear H'
  obtain ⟨x8_1, rfl, HA, HK1, BK48, HB⟩ := hrel
  cases gk with
  | zero => exact absurd HA.out (by simp [slices_IndexFunc_impl_Selection_pointsFormed_1.l0])
  | succ k1 =>
   have H := HA.out; clear HA
   simp only [slices_IndexFunc_impl_Selection_pointsFormed_1.l0] at H
   replace H := sG H; rcases H with ⟨c3b0, H⟩ | ⟨c3b0, H⟩
   · obtain rfl := sJ H
     go_wp2
     go_ret
     exact ⟨kE, kR0 HB⟩
   replace ⟨c4b0, H⟩ := sE H
   replace ⟨c5b0, H⟩ := sE H
   replace ⟨t459, A6, H⟩ := sV H
   replace H := sT H; rcases H with ⟨rfl, H⟩ | ⟨rfl, H⟩
   ·
    obtain rfl := sJ H
    obtain ⟨p458, q458, ad458, A458_0, c458_0, e458, hx458_0, HC458_0, HR458_0⟩ := sI (at_T110 C0.r x8_1)
    cases e458
    replace hx458_0 := kD HB hx458_0
    go_wp2_with (first | (go_at_call 157; (with_reducible refine (impl_Selection_pointsFormed_1.calls k1 _ _ ((rd_T110 l0 x8_1).f0) g1_0 a1_0 true _ (cB HR458_0 HC458_0 HB) ?z3 A6.out).mono ?_); (case z3 => exact kM BK48); rintro e w8 ⟨rfl, hb⟩; replace BK48 := zY BK48 hb; replace HB := zX HB hb; clear hb))
    go_ret
    exact ⟨kE, kR0 HB⟩
   have H' := yD H
   clear H
   obtain ⟨p458, q458, ad458, A458_0, c458_0, e458, hx458_0, HC458_0, HR458_0⟩ := sI (at_T110 C0.r x8_1)
   cases e458
   replace hx458_0 := kD HB hx458_0
   go_wp2_with (first | (go_at_call 157; (with_reducible refine (impl_Selection_pointsFormed_1.calls k1 _ _ ((rd_T110 l0 x8_1).f0) g1_0 a1_0 false _ (cB HR458_0 HC458_0 HB) ?z3 A6.out).mono ?_); (case z3 => exact kM BK48); rintro e w9 ⟨rfl, hb⟩; replace BK48 := zY BK48 hb; replace HB := zX HB hb; clear hb))
   go_roundg k1
   case measure => have := HK1.out; omega
   case rel => exact ⟨(wrap64 (x8_1 + 1)), kF, H', ⟨by have := HK1.out; omega⟩, ⟨kM BK48⟩, ⟨kR0 HB⟩⟩

/-! ### slices_ContainsFunc_impl_Selection_pointsFormed_1: function 141 -/
def slices_ContainsFunc_impl_Selection_pointsFormed_1.f (k : Nat) (l0 : List (S110)) (a1_0 : Int) : Option (Bool) := (slices_IndexFunc_impl_Selection_pointsFormed_1.f k l0 a1_0).bind fun t460 => (some (decide (t460 ≥ 0)))
theorem slices_ContainsFunc_impl_Selection_pointsFormed_1.calls (k : Nat) (A0 : Option Addr) (c0 : Nat) (l0 : List (S110)) (g1_0 : Nat) (a1_0 : Int) (r : Bool) (w : World) (C0 : Cm k110 w A0 c0 l0) (hb1_0 : w.heap[g1_0]? = some (.cells #[.int .i64 a1_0] 3 (0, 0))) (h : slices_ContainsFunc_impl_Selection_pointsFormed_1.f k l0 a1_0 = some r) :
 Calls Try.prog 141 #[.slice A0 l0.length c0, .func (.func 157) #[] #[.pointer (some ⟨g1_0, 0, none⟩)]] w fun e w' => e = .returned (.bool r) ∧ Below w.heap.size w w' := by
 have BK48 := yD hb1_0
 clear hb1_0
 have HB := yD (Below.refl w.heap.size w)
 have H : ((slices_IndexFunc_impl_Selection_pointsFormed_1.f k l0 a1_0).bind fun t460 => (some (decide (t460 ≥ 0)))) = some r := h
 clear h
 replace ⟨t460, A3, H⟩ := sV H
 obtain rfl := sJ H; go_enter Try.func141, Try.ntmps141
 go_wp2_with (first | ((with_reducible refine gate_callee (f := 158) rfl ?_); refine gL 7 Try.func158 _ ((slices_IndexFunc_impl_Selection_pointsFormed_1.calls k _ _ l0 g1_0 a1_0 t460 _ ?z1 ?z3 A3.out).mono ?_); (case z1 => exact ⟨(by repeat (first | exact C0.r | (with_reducible first | refine yV ?_ _ | refine yW ?_ _ | refine yX ?_))), C0.h⟩); (case z3 => exact kM BK48); rintro e w4 ⟨rfl, hb⟩; refine ⟨_, rfl, ?_⟩; replace BK48 := zY BK48 hb; replace HB := zX HB hb; clear hb))
 go_ret
 exact ⟨kE, kR0 HB⟩

/-! ### impl_Selection_pointsFormed: function 139 -/
def impl_Selection_pointsFormed.f (k : Nat) (a0_0 : Int) (l0_1 : List Int) (l0_2 : List Int) (l0_3 : List Int) (l0_4 : List Int) (l0_5 : List (S110)) : Option (Bool) := (impl_within.f (l0_5.length : Int) 1 24).bind fun t462 => (if t462 = true then (if 0 < (l0_5.length : Int) then (if (((rd_T110 l0_5 0).f0).length : Int) ≤ 3 then ((slices_ContainsFunc_impl_Selection_pointsFormed_1.f k l0_5 (((rd_T110 l0_5 0).f0).length : Int)).bind fun t465 => (some (!t465))) else (some false)) else (none)) else (some false))
theorem impl_Selection_pointsFormed.calls (k : Nat) (a0_0 : Int) (A0_1 : Option Addr) (c0_1 : Nat) (l0_1 : List Int) (A0_2 : Option Addr) (c0_2 : Nat) (l0_2 : List Int) (A0_3 : Option Addr) (c0_3 : Nat) (l0_3 : List Int) (A0_4 : Option Addr) (c0_4 : Nat) (l0_4 : List Int) (A0_5 : Option Addr) (c0_5 : Nat) (l0_5 : List (S110)) (r : Bool) (w : World) (C0_1 : Cm (Kd.int .i64) w A0_1 c0_1 l0_1) (C0_2 : Cm (Kd.int .i64) w A0_2 c0_2 l0_2) (C0_3 : Cm (Kd.int .i64) w A0_3 c0_3 l0_3) (C0_4 : Cm (Kd.int .i64) w A0_4 c0_4 l0_4) (C0_5 : Cm k110 w A0_5 c0_5 l0_5) (h : impl_Selection_pointsFormed.f k a0_0 l0_1 l0_2 l0_3 l0_4 l0_5 = some r) :
 Calls Try.prog 139 #[.agg #[.int .i64 a0_0, .slice A0_1 l0_1.length c0_1, .slice A0_2 l0_2.length c0_2, .slice A0_3 l0_3.length c0_3, .slice A0_4 l0_4.length c0_4, .slice A0_5 l0_5.length c0_5]] w fun e w' => e = .returned (.bool r) ∧ Below w.heap.size w w' := by
 have hu55 := Try.underlying55
 have HB := yD (Below.refl w.heap.size w)
 have H : ((impl_within.f (l0_5.length : Int) 1 24).bind fun t462 => (if t462 = true then (if 0 < (l0_5.length : Int) then (if (((rd_T110 l0_5 0).f0).length : Int) ≤ 3 then ((slices_ContainsFunc_impl_Selection_pointsFormed_1.f k l0_5 (((rd_T110 l0_5 0).f0).length : Int)).bind fun t465 => (some (!t465))) else (some false)) else (none)) else (some false))) = some r := h
 clear h
 replace ⟨t462, A2, H⟩ := sV H
 replace H := sS H; rcases H with ⟨rfl, H⟩ | ⟨rfl, H⟩
 ·
  obtain rfl := sJ H; go_enter Try.func139, Try.ntmps139
  go_wp2_with (first | ((with_reducible refine gate_dst (N := 1) rfl ?_); refine bF (N := 1) (cs := #[.int .i64 a0_0, .slice A0_1 l0_1.length c0_1, .slice A0_2 l0_2.length c0_2, .slice A0_3 l0_3.length c0_3, .slice A0_4 l0_4.length c0_4, .slice A0_5 l0_5.length c0_5]) (t := 55) HB ?_; intro gb461 w21 BK461 GW461 HB; have := cf6_ BK461.out) | ((with_reducible refine gate_callee (f := 106) rfl ?_); refine gL 7 Try.func106 _ (dm (impl_within.calls (l0_5.length : Int) 1 24 false _ A2.out) fun nd => ?_)))
  go_ret
  exact ⟨kE, kR0 HB⟩
 replace ⟨c4, H⟩ := sD H
 have c4b0 : decide (0 < (l0_5.length : Int)) = true := zR c4
 have c4b1 : decide (0 < l0_5.length) = true := zR (by omega)
 clear c4
 replace H := sC H; rcases H with ⟨c5, H⟩ | ⟨c5, H⟩
 ·
  have c5b0 : decide ((((rd_T110 l0_5 0).f0).length : Int) ≤ 3) = false := zS c5
  have c5b1 : decide (((rd_T110 l0_5 0).f0).length ≤ 3) = false := zS (by omega)
  clear c5; obtain rfl := sJ H; go_enter Try.func139, Try.ntmps139
  go_wp2_with (first | ((with_reducible refine gate_dst (N := 1) rfl ?_); refine bF (N := 1) (cs := #[.int .i64 a0_0, .slice A0_1 l0_1.length c0_1, .slice A0_2 l0_2.length c0_2, .slice A0_3 l0_3.length c0_3, .slice A0_4 l0_4.length c0_4, .slice A0_5 l0_5.length c0_5]) (t := 55) HB ?_; intro gb461 w15 BK461 GW461 HB; have := cf6_ BK461.out) | ((with_reducible refine gate_callee (f := 106) rfl ?_); refine gL 7 Try.func106 _ (dm (impl_within.calls (l0_5.length : Int) 1 24 true _ A2.out) fun nd => ?_); (try (rw [drewN_self w15]; generalize hq_ : World.drewN w15 _ = w15; replace BK461 := yD (blk_at hq_ BK461.out); replace HB := yD (below_at hq_ HB.out); clear hq_)); have := cf6_ BK461.out; have p463 : 0 ≤ (0 : Int) := (by omega); have q463 : 0 < (l0_5.length : Int) := zP (by assumption); obtain ⟨ad463, A463_0, c463_0, e463, hx463_0, HC463_0, HR463_0⟩ := at_T110 C0_5.r 0 p463 q463; cases e463; have qi463 : (0 < l0_5.length) = True := eq_true (by omega); (try rw [show ((0 : Int)).toNat = 0 from rfl] at hx463_0); (try rw [Addr.add_zero'] at hx463_0); replace hx463_0 := kD HB hx463_0; replace p463 := eq_true p463; replace q463 := eq_true q463) | ((with_reducible refine gate_dst (N := 3) rfl ?_); refine bE (N := 3) (cs := #[.int .i64 0]) (t := 3) ?_; intro gb464 hg w18 hbox hb; have BK464 := yD (hbox); have GW464 := sW hg HB; replace HB := zX HB hb; have NB461_464 := yD ((by rw [hg]; exact Nat.ne_of_lt (blk_lt (kN BK461)) : gb461 ≠ gb464)); have NB464_461 := yD ((by rw [hg]; exact Nat.ne_of_gt (blk_lt (kN BK461)) : gb464 ≠ gb461)); replace BK461 := zY BK461 hb; clear hb hbox hg; have hnb19 := NB464_461.out; have hnc19 := NB461_464.out; have hcz20_0 : w18.cell? ⟨gb464, 0, none⟩ = some (.int .i64 0) := (yG BK464.out 0).trans rfl; have hfz20_0 := yR BK464.out 0))
  go_ret
  exact ⟨kE, kR0 HB⟩
 have c5b0 : decide ((((rd_T110 l0_5 0).f0).length : Int) ≤ 3) = true := zR c5
 have c5b1 : decide (((rd_T110 l0_5 0).f0).length ≤ 3) = true := zR (by omega)
 clear c5
 replace ⟨t465, A6, H⟩ := sV H
 obtain rfl := sJ H; go_enter Try.func139, Try.ntmps139
 go_wp2_with (first | ((with_reducible refine gate_dst (N := 1) rfl ?_); refine bF (N := 1) (cs := #[.int .i64 a0_0, .slice A0_1 l0_1.length c0_1, .slice A0_2 l0_2.length c0_2, .slice A0_3 l0_3.length c0_3, .slice A0_4 l0_4.length c0_4, .slice A0_5 l0_5.length c0_5]) (t := 55) HB ?_; intro gb461 w7 BK461 GW461 HB; have := cf6_ BK461.out) | ((with_reducible refine gate_callee (f := 106) rfl ?_); refine gL 7 Try.func106 _ (dm (impl_within.calls (l0_5.length : Int) 1 24 true _ A2.out) fun nd => ?_); (try (rw [drewN_self w7]; generalize hq_ : World.drewN w7 _ = w7; replace BK461 := yD (blk_at hq_ BK461.out); replace HB := yD (below_at hq_ HB.out); clear hq_)); have := cf6_ BK461.out; have p463 : 0 ≤ (0 : Int) := (by omega); have q463 : 0 < (l0_5.length : Int) := zP (by assumption); obtain ⟨ad463, A463_0, c463_0, e463, hx463_0, HC463_0, HR463_0⟩ := at_T110 C0_5.r 0 p463 q463; cases e463; have qi463 : (0 < l0_5.length) = True := eq_true (by omega); (try rw [show ((0 : Int)).toNat = 0 from rfl] at hx463_0); (try rw [Addr.add_zero'] at hx463_0); replace hx463_0 := kD HB hx463_0; replace p463 := eq_true p463; replace q463 := eq_true q463) | ((with_reducible refine gate_dst (N := 3) rfl ?_); refine bE (N := 3) (cs := #[.int .i64 0]) (t := 3) ?_; intro gb464 hg w10 hbox hb; have BK464 := yD (hbox); have GW464 := sW hg HB; replace HB := zX HB hb; have NB461_464 := yD ((by rw [hg]; exact Nat.ne_of_lt (blk_lt (kN BK461)) : gb461 ≠ gb464)); have NB464_461 := yD ((by rw [hg]; exact Nat.ne_of_gt (blk_lt (kN BK461)) : gb464 ≠ gb461)); replace BK461 := zY BK461 hb; clear hb hbox hg; have hnb11 := NB464_461.out; have hnc11 := NB461_464.out; have hcz12_0 : w10.cell? ⟨gb464, 0, none⟩ = some (.int .i64 0) := (yG BK464.out 0).trans rfl; have hfz12_0 := yR BK464.out 0; have := cf6_ BK461.out) | (go_at_call 141; (with_reducible refine (slices_ContainsFunc_impl_Selection_pointsFormed_1.calls k _ _ l0_5 gb464 (((rd_T110 l0_5 0).f0).length : Int) t465 _ (C0_5.b HB) ?z3 A6.out).mono ?_); (case z3 => (with_reducible repeat (first | refine yM ?_ _ | refine yO ?_ | refine yN ?_ _)); refine blk_put (cs := #[.int .i64 0]) ?_ 0 _ rfl; (with_reducible repeat (first | refine yM ?_ _ | refine yO ?_ | refine yN ?_ _)); exact BK464.out); rintro e w14 ⟨rfl, hb⟩; replace BK461 := yD (zB (g := gb461) (o := .cells #[.int .i64 a0_0, .slice A0_1 l0_1.length c0_1, .slice A0_2 l0_2.length c0_2, .slice A0_3 l0_3.length c0_3, .slice A0_4 l0_4.length c0_4, .slice (some ad463) l0_5.length c0_5] 55 (0, 0)) (by (with_reducible repeat (first | refine yM ?_ _ | refine yO ?_ | refine yN ?_ _)); refine blk_far ?_ NB461_464.out _; (with_reducible repeat (first | refine yM ?_ _ | refine yO ?_ | refine yN ?_ _)); exact BK461.out) hb); replace BK464 := yD (zB (g := gb464) (o := .cells #[.int .i64 (((rd_T110 l0_5 0).f0).length : Int)] 3 (0, 0)) (by (with_reducible repeat (first | refine yM ?_ _ | refine yO ?_ | refine yN ?_ _)); refine blk_put (cs := #[.int .i64 0]) ?_ 0 _ rfl; (with_reducible repeat (first | refine yM ?_ _ | refine yO ?_ | refine yN ?_ _)); exact BK464.out) hb); replace HB := zX HB hb; clear hb))
 go_ret
 exact ⟨kE, kR0 HB⟩

/-! ### impl_FormedSelection: function 115 -/
def impl_FormedSelection.j0 : Nat → Bool → Int → Bool → Int → List Int → List Int → List Int → List Int → List (S110) → Option (Bool)
 | 0, _, _, _, _, _, _, _, _, _ => none
 | k + 1, x3, x12, x13, x467000, x467001, x467002, x467003, x467004, x467005 => if x13 = true then (if x3 = true then (some ((x467005.length : Int) == 0)) else (some false)) else (if x12 = 3 then (if (x467005.length : Int) = 0 then ((impl_Selection_slabFormed.f k x467000 x467001 x467002 x467003 x467004 x467005).bind fun t468 => (some t468)) else (some false)) else (if x12 = 4 then (if x3 = true then ((impl_Selection_pointsFormed.f k x467000 x467001 x467002 x467003 x467004 x467005).bind fun t469 => (some t469)) else (some false)) else (some false)))
def impl_FormedSelection.f (k : Nat) (a0_0 : Int) (l0_1 : List Int) (l0_2 : List Int) (l0_3 : List Int) (l0_4 : List Int) (l0_5 : List (S110)) : Option (Bool) := (impl_SameSelection.f k a0_0 ([] : List Int) ([] : List Int) ([] : List Int) ([] : List Int) l0_5 a0_0 l0_1 l0_2 l0_3 l0_4 l0_5).bind fun t467 => (if a0_0 = 1 then (impl_FormedSelection.j0 k t467 a0_0 (a0_0 == 1) a0_0 l0_1 l0_2 l0_3 l0_4 l0_5) else (impl_FormedSelection.j0 k t467 a0_0 (a0_0 == 2) a0_0 l0_1 l0_2 l0_3 l0_4 l0_5))
theorem impl_FormedSelection.calls (k : Nat) (a0_0 : Int) (A0_1 : Option Addr) (c0_1 : Nat) (l0_1 : List Int) (A0_2 : Option Addr) (c0_2 : Nat) (l0_2 : List Int) (A0_3 : Option Addr) (c0_3 : Nat) (l0_3 : List Int) (A0_4 : Option Addr) (c0_4 : Nat) (l0_4 : List Int) (A0_5 : Option Addr) (c0_5 : Nat) (l0_5 : List (S110)) (r : Bool) (w : World) (C0_1 : Cm (Kd.int .i64) w A0_1 c0_1 l0_1) (C0_2 : Cm (Kd.int .i64) w A0_2 c0_2 l0_2) (C0_3 : Cm (Kd.int .i64) w A0_3 c0_3 l0_3) (C0_4 : Cm (Kd.int .i64) w A0_4 c0_4 l0_4) (C0_5 : Cm k110 w A0_5 c0_5 l0_5) (h : impl_FormedSelection.f k a0_0 l0_1 l0_2 l0_3 l0_4 l0_5 = some r) :
 Calls Try.prog 115 #[.agg #[.int .i64 a0_0, .slice A0_1 l0_1.length c0_1, .slice A0_2 l0_2.length c0_2, .slice A0_3 l0_3.length c0_3, .slice A0_4 l0_4.length c0_4, .slice A0_5 l0_5.length c0_5]] w fun e w' => e = .returned (.bool r) ∧ Below w.heap.size w w' := by
 have hu55 := Try.underlying55
 have HB := yD (Below.refl w.heap.size w)
 have H : ((impl_SameSelection.f k a0_0 ([] : List Int) ([] : List Int) ([] : List Int) ([] : List Int) l0_5 a0_0 l0_1 l0_2 l0_3 l0_4 l0_5).bind fun t467 => (if a0_0 = 1 then (impl_FormedSelection.j0 k t467 a0_0 (a0_0 == 1) a0_0 l0_1 l0_2 l0_3 l0_4 l0_5) else (impl_FormedSelection.j0 k t467 a0_0 (a0_0 == 2) a0_0 l0_1 l0_2 l0_3 l0_4 l0_5))) = some r := h
 clear h
 replace ⟨t467, A2, H⟩ := sV H
 have HC3 := yD H
 clear H; go_enter Try.func115, Try.ntmps115
 go_upto_if 13 with (first | ((with_reducible refine gate_dst (N := 1) rfl ?_); (try (refine gate_guard (by rfl) ?_; dsimp only)); refine bF (N := 1) (cs := #[.int .i64 a0_0, .slice A0_1 l0_1.length c0_1, .slice A0_2 l0_2.length c0_2, .slice A0_3 l0_3.length c0_3, .slice A0_4 l0_4.length c0_4, .slice A0_5 l0_5.length c0_5]) (t := 55) HB ?_; intro gb466 w4 BK466 GW466 HB; have := cf6_ BK466.out) | ((with_reducible refine gate_callee (f := 137) rfl ?_); refine gL 10 Try.func137 #[.agg #[.int .i64 a0_0, .slice none 0 0, .slice none 0 0, .slice none 0 0, .slice none 0 0, .slice A0_5 l0_5.length c0_5], .agg #[.int .i64 a0_0, .slice A0_1 l0_1.length c0_1, .slice A0_2 l0_2.length c0_2, .slice A0_3 l0_3.length c0_3, .slice A0_4 l0_4.length c0_4, .slice A0_5 l0_5.length c0_5]] ?_; (refine (impl_SameSelection.calls k a0_0 _ _ ([] : List Int) _ _ ([] : List Int) _ _ ([] : List Int) _ _ ([] : List Int) _ _ l0_5 a0_0 _ _ l0_1 _ _ l0_2 _ _ l0_3 _ _ l0_4 _ _ l0_5 t467 _ ?z1 ?z3 ?z5 ?z7 (C0_5.b HB) (C0_1.b HB) (C0_2.b HB) (C0_3.b HB) (C0_4.b HB) (C0_5.b HB) A2.out).mono ?_); (case z1 => exact ⟨Kd.C_nil _ _, Nat.le_refl _⟩); (case z3 => exact ⟨Kd.C_nil _ _, Nat.le_refl _⟩); (case z5 => exact ⟨Kd.C_nil _ _, Nat.le_refl _⟩); (case z7 => exact ⟨Kd.C_nil _ _, Nat.le_refl _⟩); rintro e w6 ⟨rfl, hb⟩; refine ⟨_, rfl, ?_⟩; replace BK466 := zY BK466 hb; replace HB := zX HB hb; clear hb; have := cf6_ BK466.out))
 (try simp only [Act.put, zH, zI, zJ])
 go_cut [13] (fun v13 wc => ∃ (kq : Nat) (x13_2 : Bool), v13 = .bool x13_2 ∧ Aside0 (impl_FormedSelection.j0 kq t467 a0_0 x13_2 a0_0 l0_1 l0_2 l0_3 l0_4 l0_5 = some r) ∧ Aside0 (kq ≤ k) ∧ Aside0 (wc.heap[gb466]? = some (.cells #[.int .i64 a0_0, (.slice A0_1 l0_1.length c0_1), (.slice A0_2 l0_2.length c0_2), (.slice A0_3 l0_3.length c0_3), (.slice A0_4 l0_4.length c0_4), (.slice A0_5 l0_5.length c0_5)] 55 (0, 0))) ∧ Aside0 (Below w.heap.size w wc))
 case first =>
  have H := HC3.out; clear HC3
  replace H := sP H; rcases H with ⟨c8, c8b0, c8b1, H⟩ | ⟨-, c8b0, c8b1, H⟩
  ·
   (first | rw [c8b0] | (simp only [i64_w, i32_w]; rw [c8b0]) | (simp only [bne] at c8b0; rw [c8b0]) | skip)
   have H' := yD H
   clear H
   go_wp2
   go_meet
   case rel => exact ⟨_, ((a0_0 == 2)), kF, H', ⟨by first | omega | exact Nat.le_refl _⟩, ⟨kM BK466⟩, ⟨kR0 HB⟩⟩
  (first | rw [c8b0] | (simp only [i64_w, i32_w]; rw [c8b0]) | (simp only [bne] at c8b0; rw [c8b0]) | skip)
  have H' := yD H
  clear H
  go_wp2
  go_meet
  case rel => exact ⟨_, ((a0_0 == 1)), kF, H', ⟨by first | omega | exact Nat.le_refl _⟩, ⟨kM BK466⟩, ⟨kR0 HB⟩⟩
 case rest =>
  clear HC3
  obtain ⟨kq, x13_2, rfl, HA, HJ2, BK466, HB⟩ := hcut
  cases kq with
  | zero => exact absurd HA.out (by simp [impl_FormedSelection.j0])
  | succ kj2 =>
   have H := HA.out; clear HA
   simp only [impl_FormedSelection.j0] at H
   replace H := sT H; rcases H with ⟨rfl, H⟩ | ⟨rfl, H⟩
   ·
    replace H := sS H; rcases H with ⟨rfl, H⟩ | ⟨rfl, H⟩
    ·
     obtain rfl := sJ H
     go_wp2
     go_ret
     exact ⟨kE, kR0 HB⟩
    obtain rfl := sJ H
    have := cf6_ BK466.out
    go_wp2
    go_ret
    exact ⟨kE, kR0 HB⟩
   replace H := sQ H; rcases H with ⟨-, c12b0, c12b1, H⟩ | ⟨c12, c12b0, c12b1, H⟩
   ·
    replace H := sP H; rcases H with ⟨c13, c13b0, c13b1, H⟩ | ⟨-, c13b0, c13b1, H⟩
    ·
     have c13b2 : ¬ (l0_5 = []) := fun h_ => c13 (by rw [h_]; rfl)
     obtain rfl := sJ H
     have := cf6_ BK466.out
     go_wp2
     go_ret
     exact ⟨kE, kR0 HB⟩
    replace ⟨t468, A14, H⟩ := sV H
    obtain rfl := sJ H
    have := cf6_ BK466.out
    go_wp2_with (first | (go_at_call 138; (with_reducible refine (impl_Selection_slabFormed.calls kj2 a0_0 _ _ l0_1 _ _ l0_2 _ _ l0_3 _ _ l0_4 _ _ l0_5 t468 _ (C0_1.b HB) (C0_2.b HB) (C0_3.b HB) (C0_4.b HB) (C0_5.b HB) A14.out).mono ?_); rintro e w16 ⟨rfl, hb⟩; replace BK466 := zY BK466 hb; replace HB := zX HB hb; clear hb))
    go_ret
    exact ⟨kE, kR0 HB⟩
   replace H := sP H; rcases H with ⟨c18, c18b0, c18b1, H⟩ | ⟨-, c18b0, c18b1, H⟩
   ·
    obtain rfl := sJ H
    go_wp2
    go_ret
    exact ⟨kE, kR0 HB⟩
   replace H := sS H; rcases H with ⟨rfl, H⟩ | ⟨rfl, H⟩
   ·
    obtain rfl := sJ H
    go_wp2
    go_ret
    exact ⟨kE, kR0 HB⟩
   replace ⟨t469, A20, H⟩ := sV H
   obtain rfl := sJ H
   have := cf6_ BK466.out
   go_wp2_with (first | (go_at_call 139; (with_reducible refine (impl_Selection_pointsFormed.calls kj2 a0_0 _ _ l0_1 _ _ l0_2 _ _ l0_3 _ _ l0_4 _ _ l0_5 t469 _ (C0_1.b HB) (C0_2.b HB) (C0_3.b HB) (C0_4.b HB) (C0_5.b HB) A20.out).mono ?_); rintro e w22 ⟨rfl, hb⟩; replace BK466 := zY BK466 hb; replace HB := zX HB hb; clear hb))
   go_ret
   exact ⟨kE, kR0 HB⟩

/-! ### impl_inDims: function 143 -/
def impl_inDims.l0 : Nat → List Int → List Int → Int → Int → Option (Bool)
 | 0, _, _, _, _ => none
 | k + 1, x0, x12, x13, x14 => if x14 < x13 then (if 0 ≤ x14 then (if x14 < (x12.length : Int) then (if x14 < (x0.length : Int) then ((impl_within.f (rd x12 x14) 0 (wrap64 ((rd x0 x14) - 1))).bind fun t472 => (if t472 = true then (impl_inDims.l0 k x0 x12 x13 (wrap64 (x14 + 1))) else (some false))) else (none)) else (none)) else (none)) else (some true)
def impl_inDims.f (k : Nat) (l0 : List Int) (l1 : List Int) : Option (Bool) := if (l1.length : Int) = (l0.length : Int) then (impl_inDims.l0 k l0 l1 (l1.length : Int) 0) else (some false)
theorem impl_inDims.calls (k : Nat) (A0 : Option Addr) (c0 : Nat) (l0 : List Int) (A1 : Option Addr) (c1 : Nat) (l1 : List Int) (r : Bool) (w : World) (C0 : Cm (Kd.int .i64) w A0 c0 l0) (C1 : Cm (Kd.int .i64) w A1 c1 l1) (h : impl_inDims.f k l0 l1 = some r) :
 Calls Try.prog 143 #[.slice A0 l0.length c0, .slice A1 l1.length c1] w fun e w' => e = .returned (.bool r) ∧ Drawn0 w w' := by
 have H : (if (l1.length : Int) = (l0.length : Int) then (impl_inDims.l0 k l0 l1 (l1.length : Int) 0) else (some false)) = some r := h
 clear h
 replace H := sP H; rcases H with ⟨c3, c3b0, c3b1, H⟩ | ⟨c3, c3b0, c3b1, H⟩
 ·
  have c3b2 : (l1.length == l0.length) = false := by first | simpa using c3 | (simp at c3 ⊢; omega)
  obtain rfl := sJ H; go_enter Try.func143, Try.ntmps143
  go_wp2
  go_ret
  exact ⟨by first | rfl | (simp; done) | (simp [*]; done), by repeat (first | exact Drawn0.refl _ | apply Drawn0.step)⟩
 have c3b2 : (l1.length == l0.length) = true := by first | simpa using c3 | (simp at c3 ⊢; omega)
 clear c3
 have H' := yD H
 clear H; go_enter Try.func143, Try.ntmps143
 go_wp2
 go_loopg [14] k (fun kq v14 w' => ∃ (x14_1 : Int), v14 = .int .i64 x14_1 ∧ Aside0 (impl_inDims.l0 kq l0 l1 (l1.length : Int) x14_1 = some r) ∧ Aside0 (kq ≤ k) ∧ Drawn0 w w')
 case atStart => exact ⟨(0), kF, H', ⟨Nat.le_refl _⟩, by repeat (first | exact Drawn0.refl _ | apply Drawn0.step)⟩
 case round =>
  clear H'
  obtain ⟨x14_1, rfl, HA, HK1, ⟨m1, rfl⟩⟩ := hrel
  cases gk with
  | zero => exact absurd HA.out (by simp [impl_inDims.l0])
  | succ k1 =>
   have H := HA.out; clear HA
   simp only [impl_inDims.l0] at H
   replace H := sG H; rcases H with ⟨c4b0, H⟩ | ⟨c4b0, H⟩
   · obtain rfl := sJ H
     go_wp2
     go_ret
     exact ⟨by first | rfl | (simp; done) | (simp [*]; done), by repeat (first | exact Drawn0.refl _ | apply Drawn0.step)⟩
   replace ⟨c5b0, H⟩ := sE H
   replace ⟨c6b0, H⟩ := sE H
   replace ⟨c7b0, H⟩ := sE H
   replace ⟨t472, A8, H⟩ := sV H
   replace H := sS H; rcases H with ⟨rfl, H⟩ | ⟨rfl, H⟩
   ·
    obtain rfl := sJ H
    obtain ⟨p470, q470, ad470, e470, hx470_0⟩ := sI (Kd.at_int C1.r x14_1)
    cases e470
    obtain ⟨p471, q471, ad471, e471, hx471_0⟩ := sI (Kd.at_int C0.r x14_1)
    cases e471
    go_wp2_with (first | ((with_reducible refine gate_callee (f := 106) rfl ?_); refine gL 25 Try.func106 _ (dm (impl_within.calls (rd l1 x14_1) 0 (wrap64 ((rd l0 x14_1) - 1)) false _ A8.out) fun nd => ?_)))
    go_ret
    exact ⟨by first | rfl | (simp; done) | (simp [*]; done), by repeat (first | exact Drawn0.refl _ | apply Drawn0.step)⟩
   have H' := yD H
   clear H
   obtain ⟨p470, q470, ad470, e470, hx470_0⟩ := sI (Kd.at_int C1.r x14_1)
   cases e470
   obtain ⟨p471, q471, ad471, e471, hx471_0⟩ := sI (Kd.at_int C0.r x14_1)
   cases e471
   go_wp2_with (first | ((with_reducible refine gate_callee (f := 106) rfl ?_); refine gL 25 Try.func106 _ (dm (impl_within.calls (rd l1 x14_1) 0 (wrap64 ((rd l0 x14_1) - 1)) true _ A8.out) fun nd => ?_)))
   go_roundg k1
   case measure => have := HK1.out; omega
   case rel => exact ⟨(wrap64 (x14_1 + 1)), kF, H', ⟨by have := HK1.out; omega⟩, by repeat (first | exact Drawn0.refl _ | apply Drawn0.step)⟩

/-! ### impl_Selection_fits_1: function 142 -/
def impl_Selection_fits_1.f (k : Nat) (l0_0 : List Int) (l1_0 : List Int) : Option (Bool) := (impl_inDims.f k l1_0 l0_0).bind fun t474 => (some (!t474))
theorem impl_Selection_fits_1.calls (k : Nat) (A0_0 : Option Addr) (c0_0 : Nat) (l0_0 : List Int) (g1_0 : Nat) (A1_0 : Option Addr) (c1_0 : Nat) (l1_0 : List Int) (r : Bool) (w : World) (C0_0 : Cm (Kd.int .i64) w A0_0 c0_0 l0_0) (C1_0 : Cm (Kd.int .i64) w A1_0 c1_0 l1_0) (hb1_0 : w.heap[g1_0]? = some (.cells #[.slice A1_0 l1_0.length c1_0] 36 (0, 0))) (h : impl_Selection_fits_1.f k l0_0 l1_0 = some r) :
 Calls Try.prog 142 #[.agg #[.slice A0_0 l0_0.length c0_0], .pointer (some ⟨g1_0, 0, none⟩)] w fun e w' => e = .returned (.bool r) ∧ Below w.heap.size w w' := by
 have hu110 := Try.underlying110
 have BK48 := yD hb1_0
 clear hb1_0
 have HB := yD (Below.refl w.heap.size w)
 have H : ((impl_inDims.f k l1_0 l0_0).bind fun t474 => (some (!t474))) = some r := h
 clear h
 replace ⟨t474, A3, H⟩ := sV H
 obtain rfl := sJ H; go_enter Try.func142, Try.ntmps142
 go_wp2_with (first | ((with_reducible refine gate_dst (N := 2) rfl ?_); refine bE (N := 2) (cs := #[.slice A0_0 l0_0.length c0_0]) (t := 110) ?_; intro gb473 hg w4 hbox hb; have BK473 := yD (hbox); have GW473 := sW hg HB; replace HB := zX HB hb; have NB48_473 := yD ((by rw [hg]; exact Nat.ne_of_lt (blk_lt (kN BK48)) : g1_0 ≠ gb473)); have NB473_48 := yD ((by rw [hg]; exact Nat.ne_of_gt (blk_lt (kN BK48)) : gb473 ≠ g1_0)); replace BK48 := zY BK48 hb; clear hb hbox hg; have hnb5 := NB48_473.out; have hnc5 := NB473_48.out; have hcz6_0 : w4.cell? ⟨g1_0, 0, none⟩ = some (.slice A1_0 l1_0.length c1_0) := (yG BK48.out 0).trans rfl; have hfz6_0 := yR BK48.out 0; have hcz7_0 : w4.cell? ⟨gb473, 0, none⟩ = some (.slice A0_0 l0_0.length c0_0) := (yG BK473.out 0).trans rfl; have hfz7_0 := yR BK473.out 0) | ((with_reducible refine gate_callee (f := 143) rfl ?_); refine gL 7 Try.func143 _ (dm (impl_inDims.calls k _ _ l1_0 _ _ l0_0 t474 _ (C1_0.b HB) (C0_0.b HB) A3.out) fun nd => ?_)))
 go_ret
 exact ⟨kE, kR0 HB⟩

/-! ### slices_IndexFunc_impl_Selection_fits_1: function 158 -/
def slices_IndexFunc_impl_Selection_fits_1.l0 : Nat → List (S110) → Int → Int → List Int → Option (Int)
 | 0, _, _, _, _ => none
 | k + 1, x0, x7, x8, x49000 => if x8 < x7 then (if 0 ≤ x8 then (if x8 < (x0.length : Int) then ((impl_Selection_fits_1.f k ((rd_T110 x0 x8).f0) x49000).bind fun t476 => (if t476 = true then (some x8) else (slices_IndexFunc_impl_Selection_fits_1.l0 k x0 x7 (wrap64 (x8 + 1)) x49000))) else (none)) else (none)) else (some (-1))
def slices_IndexFunc_impl_Selection_fits_1.f (k : Nat) (l0 : List (S110)) (l1_0 : List Int) : Option (Int) := slices_IndexFunc_impl_Selection_fits_1.l0 k l0 (l0.length : Int) 0 l1_0
theorem slices_IndexFunc_impl_Selection_fits_1.calls (k : Nat) (A0 : Option Addr) (c0 : Nat) (l0 : List (S110)) (g1_0 : Nat) (A1_0 : Option Addr) (c1_0 : Nat) (l1_0 : List Int) (r : Int) (w : World) (C0 : Cm k110 w A0 c0 l0) (C1_0 : Cm (Kd.int .i64) w A1_0 c1_0 l1_0) (hb1_0 : w.heap[g1_0]? = some (.cells #[.slice A1_0 l1_0.length c1_0] 36 (0, 0))) (h : slices_IndexFunc_impl_Selection_fits_1.f k l0 l1_0 = some r) :
 Calls Try.prog 158 #[.slice A0 l0.length c0, .func (.func 142) #[] #[.pointer (some ⟨g1_0, 0, none⟩)]] w fun e w' => e = .returned (.int .i64 r) ∧ Below w.heap.size w w' := by
 have hu110 := Try.underlying110
 have BK48 := yD hb1_0
 clear hb1_0
 have HB := yD (Below.refl w.heap.size w)
 have H : (slices_IndexFunc_impl_Selection_fits_1.l0 k l0 (l0.length : Int) 0 l1_0) = some r := h
 clear h
 have H' := yD H
 clear H; go_enter Try.func158, Try.ntmps158
 go_wp2
 go_loopg [8] k (fun kq v8 w' => ∃ (x8_1 : Int), v8 = .int .i64 x8_1 ∧ Aside0 (slices_IndexFunc_impl_Selection_fits_1.l0 kq l0 (l0.length : Int) x8_1 l1_0 = some r) ∧ Aside0 (kq ≤ k) ∧ Aside0 (w'.heap[g1_0]? = some (.cells #[(.slice A1_0 l1_0.length c1_0)] 36 (0, 0))) ∧ Aside0 (Below w.heap.size w w'))
 case atStart => exact ⟨(0), kF, H', ⟨Nat.le_refl _⟩, ⟨kM BK48⟩, ⟨kR0 HB⟩⟩
 case round =>
  clear H'
  obtain ⟨x8_1, rfl, HA, HK1, BK48, HB⟩ := hrel
  cases gk with
  | zero => exact absurd HA.out (by simp [slices_IndexFunc_impl_Selection_fits_1.l0])
  | succ k1 =>
   have H := HA.out; clear HA
   simp only [slices_IndexFunc_impl_Selection_fits_1.l0] at H
   replace H := sG H; rcases H with ⟨c3b0, H⟩ | ⟨c3b0, H⟩
   · obtain rfl := sJ H
     go_wp2
     go_ret
     exact ⟨kE, kR0 HB⟩
   replace ⟨c4b0, H⟩ := sE H
   replace ⟨c5b0, H⟩ := sE H
   replace ⟨t476, A6, H⟩ := sV H
   replace H := sT H; rcases H with ⟨rfl, H⟩ | ⟨rfl, H⟩
   ·
    obtain rfl := sJ H
    obtain ⟨p475, q475, ad475, A475_0, c475_0, e475, hx475_0, HC475_0, HR475_0⟩ := sI (at_T110 C0.r x8_1)
    cases e475
    replace hx475_0 := kD HB hx475_0
    go_wp2_with (first | (go_at_call 142; (with_reducible refine (impl_Selection_fits_1.calls k1 _ _ ((rd_T110 l0 x8_1).f0) g1_0 A1_0 c1_0 l1_0 true _ (cB HR475_0 HC475_0 HB) (C1_0.b HB) ?z5 A6.out).mono ?_); (case z5 => exact kM BK48); rintro e w8 ⟨rfl, hb⟩; replace BK48 := zY BK48 hb; replace HB := zX HB hb; clear hb))
    go_ret
    exact ⟨kE, kR0 HB⟩
   have H' := yD H
   clear H
   obtain ⟨p475, q475, ad475, A475_0, c475_0, e475, hx475_0, HC475_0, HR475_0⟩ := sI (at_T110 C0.r x8_1)
   cases e475
   replace hx475_0 := kD HB hx475_0
   go_wp2_with (first | (go_at_call 142; (with_reducible refine (impl_Selection_fits_1.calls k1 _ _ ((rd_T110 l0 x8_1).f0) g1_0 A1_0 c1_0 l1_0 false _ (cB HR475_0 HC475_0 HB) (C1_0.b HB) ?z5 A6.out).mono ?_); (case z5 => exact kM BK48); rintro e w9 ⟨rfl, hb⟩; replace BK48 := zY BK48 hb; replace HB := zX HB hb; clear hb))
   go_roundg k1
   case measure => have := HK1.out; omega
   case rel => exact ⟨(wrap64 (x8_1 + 1)), kF, H', ⟨by have := HK1.out; omega⟩, ⟨kM BK48⟩, ⟨kR0 HB⟩⟩

/-! ### slices_ContainsFunc_impl_Selection_fits_1: function 141 -/
def slices_ContainsFunc_impl_Selection_fits_1.f (k : Nat) (l0 : List (S110)) (l1_0 : List Int) : Option (Bool) := (slices_IndexFunc_impl_Selection_fits_1.f k l0 l1_0).bind fun t477 => (some (decide (t477 ≥ 0)))
theorem slices_ContainsFunc_impl_Selection_fits_1.calls (k : Nat) (A0 : Option Addr) (c0 : Nat) (l0 : List (S110)) (g1_0 : Nat) (A1_0 : Option Addr) (c1_0 : Nat) (l1_0 : List Int) (r : Bool) (w : World) (C0 : Cm k110 w A0 c0 l0) (C1_0 : Cm (Kd.int .i64) w A1_0 c1_0 l1_0) (hb1_0 : w.heap[g1_0]? = some (.cells #[.slice A1_0 l1_0.length c1_0] 36 (0, 0))) (h : slices_ContainsFunc_impl_Selection_fits_1.f k l0 l1_0 = some r) :
 Calls Try.prog 141 #[.slice A0 l0.length c0, .func (.func 142) #[] #[.pointer (some ⟨g1_0, 0, none⟩)]] w fun e w' => e = .returned (.bool r) ∧ Below w.heap.size w w' := by
 have BK48 := yD hb1_0
 clear hb1_0
 have HB := yD (Below.refl w.heap.size w)
 have H : ((slices_IndexFunc_impl_Selection_fits_1.f k l0 l1_0).bind fun t477 => (some (decide (t477 ≥ 0)))) = some r := h
 clear h
 replace ⟨t477, A3, H⟩ := sV H
 obtain rfl := sJ H; go_enter Try.func141, Try.ntmps141
 go_wp2_with (first | ((with_reducible refine gate_callee (f := 158) rfl ?_); refine gL 7 Try.func158 _ ((slices_IndexFunc_impl_Selection_fits_1.calls k _ _ l0 g1_0 A1_0 c1_0 l1_0 t477 _ ?z1 ?z3 ?z5 A3.out).mono ?_); (case z1 => exact ⟨(by repeat (first | exact C0.r | (with_reducible first | refine yV ?_ _ | refine yW ?_ _ | refine yX ?_))), C0.h⟩); (case z3 => exact ⟨(by repeat (first | exact C1_0.r | (with_reducible first | refine yV ?_ _ | refine yW ?_ _ | refine yX ?_))), C1_0.h⟩); (case z5 => exact kM BK48); rintro e w4 ⟨rfl, hb⟩; refine ⟨_, rfl, ?_⟩; replace BK48 := zY BK48 hb; replace HB := zX HB hb; clear hb))
 go_ret
 exact ⟨kE, kR0 HB⟩
/-! ### impl_Selection_fits: function 116 -/
def impl_Selection_fits.l0 : Nat → List Int → Int → Int → Int → List Int → List Int → List Int → List Int → List (S110) → Option (Bool)
 | 0, _, _, _, _, _, _, _, _, _ => none
 | k + 1, x17, x18, x19, x479000, x479001, x479002, x479003, x479004, x479005 => if x19 < x18 then (if 0 ≤ x19 then (if x19 < (x17.length : Int) then ((impl_Selection_end.f x479000 x479001 x479002 x479003 x479004 x479005 x19).bind fun t481 => (if t481 > (rd x17 x19) then (some false) else (impl_Selection_fits.l0 k x17 x18 (wrap64 (x19 + 1)) x479000 x479001 x479002 x479003 x479004 x479005))) else (none)) else (none)) else (some true)
def impl_Selection_fits.f (k : Nat) (a0_0 : Int) (l0_1 : List Int) (l0_2 : List Int) (l0_3 : List Int) (l0_4 : List Int) (l0_5 : List (S110)) (l1 : List Int) : Option (Bool) := if a0_0 = 3 then (if (l0_1.length : Int) = (l1.length : Int) then (impl_Selection_fits.l0 k l1 (l1.length : Int) 0 a0_0 l0_1 l0_2 l0_3 l0_4 l0_5) else (some false)) else (if a0_0 = 4 then ((slices_ContainsFunc_impl_Selection_fits_1.f k l0_5 l1).bind fun t482 => (some (!t482))) else (some true))
theorem impl_Selection_fits.calls (k : Nat) (a0_0 : Int) (A0_1 : Option Addr) (c0_1 : Nat) (l0_1 : List Int) (A0_2 : Option Addr) (c0_2 : Nat) (l0_2 : List Int) (A0_3 : Option Addr) (c0_3 : Nat) (l0_3 : List Int) (A0_4 : Option Addr) (c0_4 : Nat) (l0_4 : List Int) (A0_5 : Option Addr) (c0_5 : Nat) (l0_5 : List (S110)) (A1 : Option Addr) (c1 : Nat) (l1 : List Int) (r : Bool) (w : World) (C0_1 : Cm (Kd.int .i64) w A0_1 c0_1 l0_1) (C0_2 : Cm (Kd.int .i64) w A0_2 c0_2 l0_2) (C0_3 : Cm (Kd.int .i64) w A0_3 c0_3 l0_3) (C0_4 : Cm (Kd.int .i64) w A0_4 c0_4 l0_4) (C0_5 : Cm k110 w A0_5 c0_5 l0_5) (C1 : Cm (Kd.int .i64) w A1 c1 l1) (h : impl_Selection_fits.f k a0_0 l0_1 l0_2 l0_3 l0_4 l0_5 l1 = some r) :
 Calls Try.prog 116 #[.agg #[.int .i64 a0_0, .slice A0_1 l0_1.length c0_1, .slice A0_2 l0_2.length c0_2, .slice A0_3 l0_3.length c0_3, .slice A0_4 l0_4.length c0_4, .slice A0_5 l0_5.length c0_5], .slice A1 l1.length c1] w fun e w' => e = .returned (.bool r) ∧ Below w.heap.size w w' := by
 have hu55 := Try.underlying55
 have HB := yD (Below.refl w.heap.size w)
 have H : (if a0_0 = 3 then (if (l0_1.length : Int) = (l1.length : Int) then (impl_Selection_fits.l0 k l1 (l1.length : Int) 0 a0_0 l0_1 l0_2 l0_3 l0_4 l0_5) else (some false)) else (if a0_0 = 4 then ((slices_ContainsFunc_impl_Selection_fits_1.f k l0_5 l1).bind fun t482 => (some (!t482))) else (some true))) = some r := h
 clear h
 replace H := sP H; rcases H with ⟨c3, c3b0, c3b1, H⟩ | ⟨-, c3b0, c3b1, H⟩
 ·
  replace H := sP H; rcases H with ⟨c26, c26b0, c26b1, H⟩ | ⟨-, c26b0, c26b1, H⟩
  ·
   obtain rfl := sJ H; go_enter Try.func116, Try.ntmps116
   go_wp2_with (first | ((with_reducible refine gate_dst (N := 2) rfl ?_); refine bF (N := 2) (cs := #[.int .i64 a0_0, .slice A0_1 l0_1.length c0_1, .slice A0_2 l0_2.length c0_2, .slice A0_3 l0_3.length c0_3, .slice A0_4 l0_4.length c0_4, .slice A0_5 l0_5.length c0_5]) (t := 55) HB ?_; intro gb478 w33 BK478 GW478 HB) | ((with_reducible refine gate_dst (N := 3) rfl ?_); refine bE (N := 3) (cs := #[.slice A1 l1.length c1]) (t := 36) ?_; intro gb479 hg w34 hbox hb; have BK479 := yD (hbox); have GW479 := sW hg HB; replace HB := zX HB hb; have NB478_479 := yD ((by rw [hg]; exact Nat.ne_of_lt (blk_lt (kN BK478)) : gb478 ≠ gb479)); have NB479_478 := yD ((by rw [hg]; exact Nat.ne_of_gt (blk_lt (kN BK478)) : gb479 ≠ gb478)); replace BK478 := zY BK478 hb; clear hb hbox hg; have hnb35 := NB478_479.out; have hnc35 := NB479_478.out; have := cf6_ BK478.out))
   go_ret
   exact ⟨kE, kR0 HB⟩
  replace ⟨t482, A27, H⟩ := sV H
  obtain rfl := sJ H; go_enter Try.func116, Try.ntmps116
  go_wp2_with (first | ((with_reducible refine gate_dst (N := 2) rfl ?_); refine bF (N := 2) (cs := #[.int .i64 a0_0, .slice A0_1 l0_1.length c0_1, .slice A0_2 l0_2.length c0_2, .slice A0_3 l0_3.length c0_3, .slice A0_4 l0_4.length c0_4, .slice A0_5 l0_5.length c0_5]) (t := 55) HB ?_; intro gb478 w28 BK478 GW478 HB) | ((with_reducible refine gate_dst (N := 3) rfl ?_); refine bE (N := 3) (cs := #[.slice A1 l1.length c1]) (t := 36) ?_; intro gb479 hg w29 hbox hb; have BK479 := yD (hbox); have GW479 := sW hg HB; replace HB := zX HB hb; have NB478_479 := yD ((by rw [hg]; exact Nat.ne_of_lt (blk_lt (kN BK478)) : gb478 ≠ gb479)); have NB479_478 := yD ((by rw [hg]; exact Nat.ne_of_gt (blk_lt (kN BK478)) : gb479 ≠ gb478)); replace BK478 := zY BK478 hb; clear hb hbox hg; have hnb30 := NB478_479.out; have hnc30 := NB479_478.out; have := cf6_ BK478.out) | ((with_reducible refine gate_callee (f := 141) rfl ?_); refine gL 35 Try.func141 _ ((slices_ContainsFunc_impl_Selection_fits_1.calls k _ _ l0_5 gb479 A1 c1 l1 t482 _ (C0_5.b HB) (C1.b HB) ?z5 A27.out).mono ?_); (case z5 => exact kM BK479); rintro e w32 ⟨rfl, hb⟩; refine ⟨_, rfl, ?_⟩; replace BK478 := zY BK478 hb; replace BK479 := zY BK479 hb; replace HB := zX HB hb; clear hb))
  go_ret
  exact ⟨kE, kR0 HB⟩
 replace H := sP H; rcases H with ⟨c4, c4b0, c4b1, H⟩ | ⟨c4, c4b0, c4b1, H⟩
 ·
  have c4b2 : (l0_1.length == l1.length) = false := by first | simpa using c4 | (simp at c4 ⊢; omega)
  obtain rfl := sJ H; go_enter Try.func116, Try.ntmps116
  go_wp2_with (first | ((with_reducible refine gate_dst (N := 2) rfl ?_); refine bF (N := 2) (cs := #[.int .i64 a0_0, .slice A0_1 l0_1.length c0_1, .slice A0_2 l0_2.length c0_2, .slice A0_3 l0_3.length c0_3, .slice A0_4 l0_4.length c0_4, .slice A0_5 l0_5.length c0_5]) (t := 55) HB ?_; intro gb478 w21 BK478 GW478 HB) | ((with_reducible refine gate_dst (N := 3) rfl ?_); refine bE (N := 3) (cs := #[.slice A1 l1.length c1]) (t := 36) ?_; intro gb479 hg w22 hbox hb; have BK479 := yD (hbox); have GW479 := sW hg HB; replace HB := zX HB hb; have NB478_479 := yD ((by rw [hg]; exact Nat.ne_of_lt (blk_lt (kN BK478)) : gb478 ≠ gb479)); have NB479_478 := yD ((by rw [hg]; exact Nat.ne_of_gt (blk_lt (kN BK478)) : gb479 ≠ gb478)); replace BK478 := zY BK478 hb; clear hb hbox hg; have hnb23 := NB478_479.out; have hnc23 := NB479_478.out; have := cf6_ BK478.out; have hcz25_0 : w22.cell? ⟨gb479, 0, none⟩ = some (.slice A1 l1.length c1) := (yG BK479.out 0).trans rfl; have hfz25_0 := yR BK479.out 0))
  go_ret
  exact ⟨kE, kR0 HB⟩
 have c4b2 : (l0_1.length == l1.length) = true := by first | simpa using c4 | (simp at c4 ⊢; omega)
 clear c4
 have H' := yD H
 clear H; go_enter Try.func116, Try.ntmps116
 go_wp2_with (first | ((with_reducible refine gate_dst (N := 2) rfl ?_); refine bF (N := 2) (cs := #[.int .i64 a0_0, .slice A0_1 l0_1.length c0_1, .slice A0_2 l0_2.length c0_2, .slice A0_3 l0_3.length c0_3, .slice A0_4 l0_4.length c0_4, .slice A0_5 l0_5.length c0_5]) (t := 55) HB ?_; intro gb478 w5 BK478 GW478 HB) | ((with_reducible refine gate_dst (N := 3) rfl ?_); refine bE (N := 3) (cs := #[.slice A1 l1.length c1]) (t := 36) ?_; intro gb479 hg w6 hbox hb; have BK479 := yD (hbox); have GW479 := sW hg HB; replace HB := zX HB hb; have NB478_479 := yD ((by rw [hg]; exact Nat.ne_of_lt (blk_lt (kN BK478)) : gb478 ≠ gb479)); have NB479_478 := yD ((by rw [hg]; exact Nat.ne_of_gt (blk_lt (kN BK478)) : gb479 ≠ gb478)); replace BK478 := zY BK478 hb; clear hb hbox hg; have hnb7 := NB478_479.out; have hnc7 := NB479_478.out; have := cf6_ BK478.out; have hcz9_0 : w6.cell? ⟨gb479, 0, none⟩ = some (.slice A1 l1.length c1) := (yG BK479.out 0).trans rfl; have hfz9_0 := yR BK479.out 0))
 (try simp only [Act.put, zH, zI, zJ])
 go_loopg [19] k (fun kq v19 w' => ∃ (x19_1 : Int), v19 = .int .i64 x19_1 ∧ Aside0 (impl_Selection_fits.l0 kq l1 (l1.length : Int) x19_1 a0_0 l0_1 l0_2 l0_3 l0_4 l0_5 = some r) ∧ Aside0 (kq ≤ k) ∧ Aside0 (w'.heap[gb478]? = some (.cells #[.int .i64 a0_0, (.slice A0_1 l0_1.length c0_1), (.slice A0_2 l0_2.length c0_2), (.slice A0_3 l0_3.length c0_3), (.slice A0_4 l0_4.length c0_4), (.slice A0_5 l0_5.length c0_5)] 55 (0, 0))) ∧ Aside0 (w'.heap[gb479]? = some (.cells #[(.slice A1 l1.length c1)] 36 (0, 0))) ∧ Aside0 (Below w.heap.size w w'))
 case atStart => exact ⟨(0), kF, H', ⟨Nat.le_refl _⟩, ⟨kM BK478⟩, ⟨kM BK479⟩, ⟨kR0 HB⟩⟩
 case round =>
  clear H'
  obtain ⟨x19_1, rfl, HA, HK1, BK478, BK479, HB⟩ := hrel
  cases gk with
  | zero => exact absurd HA.out (by simp [impl_Selection_fits.l0])
  | succ k1 =>
   have H := HA.out; clear HA
   simp only [impl_Selection_fits.l0] at H
   replace H := sG H; rcases H with ⟨c10b0, H⟩ | ⟨c10b0, H⟩
   · obtain rfl := sJ H
     go_wp2
     go_ret
     exact ⟨kE, kR0 HB⟩
   replace ⟨c11b0, H⟩ := sE H
   replace ⟨c12b0, H⟩ := sE H
   replace ⟨t481, A13, H⟩ := sV H
   replace H := sB H; rcases H with ⟨c14, H⟩ | ⟨c14, H⟩
   ·
    have c14b0 : decide ((rd l1 x19_1) < t481) = true := zR c14; clear c14; obtain rfl := sJ H
    obtain ⟨p480, q480, ad480, e480, hx480_0⟩ := sI (Kd.at_int C1.r x19_1)
    cases e480
    replace hx480_0 := kD HB hx480_0
    have hnb15 := NB478_479.out; have hnc15 := NB479_478.out
    have := cf6_ BK478.out
    go_wp2_with (first | ((with_reducible refine gate_callee (f := 140) rfl ?_); refine gL 26 Try.func140 _ ((impl_Selection_end.calls a0_0 _ _ l0_1 _ _ l0_2 _ _ l0_3 _ _ l0_4 _ _ l0_5 x19_1 t481 _ (C0_1.b HB) (C0_2.b HB) (C0_3.b HB) (C0_4.b HB) (C0_5.b HB) A13.out).mono ?_); rintro e w17 ⟨rfl, hb⟩; refine ⟨_, rfl, ?_⟩; replace BK478 := zY BK478 hb; replace BK479 := zY BK479 hb; replace HB := zX HB hb; clear hb))
    go_ret
    exact ⟨kE, kR0 HB⟩
   have c14b0 : decide ((rd l1 x19_1) < t481) = false := zS c14; clear c14
   have H' := yD H
   clear H
   obtain ⟨p480, q480, ad480, e480, hx480_0⟩ := sI (Kd.at_int C1.r x19_1)
   cases e480
   replace hx480_0 := kD HB hx480_0
   have hnb18 := NB478_479.out; have hnc18 := NB479_478.out
   have := cf6_ BK478.out
   go_wp2_with (first | ((with_reducible refine gate_callee (f := 140) rfl ?_); refine gL 26 Try.func140 _ ((impl_Selection_end.calls a0_0 _ _ l0_1 _ _ l0_2 _ _ l0_3 _ _ l0_4 _ _ l0_5 x19_1 t481 _ (C0_1.b HB) (C0_2.b HB) (C0_3.b HB) (C0_4.b HB) (C0_5.b HB) A13.out).mono ?_); rintro e w20 ⟨rfl, hb⟩; refine ⟨_, rfl, ?_⟩; replace BK478 := zY BK478 hb; replace BK479 := zY BK479 hb; replace HB := zX HB hb; clear hb))
   go_roundg k1
   case measure => have := HK1.out; omega
   case rel => exact ⟨(wrap64 (x19_1 + 1)), kF, H', ⟨by have := HK1.out; omega⟩, ⟨kM BK478⟩, ⟨kM BK479⟩, ⟨kR0 HB⟩⟩

/-! ### impl_ValidSelection: function 80 -/
def impl_ValidSelection.f (k : Nat) (l0 : List Int) (a1_0 : Int) (l1_1 : List Int) (l1_2 : List Int) (l1_3 : List Int) (l1_4 : List Int) (l1_5 : List (S110)) : Option (Bool) := (impl_ValidDims.f k l0).bind fun t484 => (if t484 = true then ((impl_FormedSelection.f k a1_0 l1_1 l1_2 l1_3 l1_4 l1_5).bind fun t485 => (if t485 = true then ((impl_Selection_fits.f k a1_0 l1_1 l1_2 l1_3 l1_4 l1_5 l0).bind fun t486 => (some t486)) else (some false))) else (some false))
theorem impl_ValidSelection.calls (k : Nat) (A0 : Option Addr) (c0 : Nat) (l0 : List Int) (a1_0 : Int) (A1_1 : Option Addr) (c1_1 : Nat) (l1_1 : List Int) (A1_2 : Option Addr) (c1_2 : Nat) (l1_2 : List Int) (A1_3 : Option Addr) (c1_3 : Nat) (l1_3 : List Int) (A1_4 : Option Addr) (c1_4 : Nat) (l1_4 : List Int) (A1_5 : Option Addr) (c1_5 : Nat) (l1_5 : List (S110)) (r : Bool) (w : World) (C0 : Cm (Kd.int .i64) w A0 c0 l0) (C1_1 : Cm (Kd.int .i64) w A1_1 c1_1 l1_1) (C1_2 : Cm (Kd.int .i64) w A1_2 c1_2 l1_2) (C1_3 : Cm (Kd.int .i64) w A1_3 c1_3 l1_3) (C1_4 : Cm (Kd.int .i64) w A1_4 c1_4 l1_4) (C1_5 : Cm k110 w A1_5 c1_5 l1_5) (h : impl_ValidSelection.f k l0 a1_0 l1_1 l1_2 l1_3 l1_4 l1_5 = some r) :
 Calls Try.prog 80 #[.slice A0 l0.length c0, .agg #[.int .i64 a1_0, .slice A1_1 l1_1.length c1_1, .slice A1_2 l1_2.length c1_2, .slice A1_3 l1_3.length c1_3, .slice A1_4 l1_4.length c1_4, .slice A1_5 l1_5.length c1_5]] w fun e w' => e = .returned (.bool r) ∧ Below w.heap.size w w' := by
 have hu55 := Try.underlying55
 have HB := yD (Below.refl w.heap.size w)
 have H : ((impl_ValidDims.f k l0).bind fun t484 => (if t484 = true then ((impl_FormedSelection.f k a1_0 l1_1 l1_2 l1_3 l1_4 l1_5).bind fun t485 => (if t485 = true then ((impl_Selection_fits.f k a1_0 l1_1 l1_2 l1_3 l1_4 l1_5 l0).bind fun t486 => (some t486)) else (some false))) else (some false))) = some r := h
 clear h
 replace ⟨t484, A3, H⟩ := sV H
 replace H := sS H; rcases H with ⟨rfl, H⟩ | ⟨rfl, H⟩
 ·
  obtain rfl := sJ H; go_enter Try.func80, Try.ntmps80
  go_wp2_with (first | ((with_reducible refine gate_dst (N := 3) rfl ?_); refine bF (N := 3) (cs := #[.int .i64 a1_0, .slice A1_1 l1_1.length c1_1, .slice A1_2 l1_2.length c1_2, .slice A1_3 l1_3.length c1_3, .slice A1_4 l1_4.length c1_4, .slice A1_5 l1_5.length c1_5]) (t := 55) HB ?_; intro gb483 w18 BK483 GW483 HB) | ((with_reducible refine gate_callee (f := 114) rfl ?_); refine gL 6 Try.func114 _ ((impl_ValidDims.calls k _ _ l0 false _ (C0.b HB) A3.out).mono ?_); rintro e w19 ⟨rfl, hb⟩; refine ⟨_, rfl, ?_⟩; replace BK483 := zY BK483 hb; replace HB := zX HB hb; clear hb))
  go_ret
  exact ⟨kE, kR0 HB⟩
 replace ⟨t485, A5, H⟩ := sV H
 replace H := sS H; rcases H with ⟨rfl, H⟩ | ⟨rfl, H⟩
 ·
  obtain rfl := sJ H; go_enter Try.func80, Try.ntmps80
  go_wp2_with (first | ((with_reducible refine gate_dst (N := 3) rfl ?_); refine bF (N := 3) (cs := #[.int .i64 a1_0, .slice A1_1 l1_1.length c1_1, .slice A1_2 l1_2.length c1_2, .slice A1_3 l1_3.length c1_3, .slice A1_4 l1_4.length c1_4, .slice A1_5 l1_5.length c1_5]) (t := 55) HB ?_; intro gb483 w14 BK483 GW483 HB) | ((with_reducible refine gate_callee (f := 114) rfl ?_); refine gL 6 Try.func114 _ ((impl_ValidDims.calls k _ _ l0 true _ (C0.b HB) A3.out).mono ?_); rintro e w15 ⟨rfl, hb⟩; refine ⟨_, rfl, ?_⟩; replace BK483 := zY BK483 hb; replace HB := zX HB hb; clear hb; have := cf6_ BK483.out) | (go_at_call 115; (with_reducible refine (impl_FormedSelection.calls k a1_0 _ _ l1_1 _ _ l1_2 _ _ l1_3 _ _ l1_4 _ _ l1_5 false _ (C1_1.b HB) (C1_2.b HB) (C1_3.b HB) (C1_4.b HB) (C1_5.b HB) A5.out).mono ?_); rintro e w17 ⟨rfl, hb⟩; replace BK483 := zY BK483 hb; replace HB := zX HB hb; clear hb))
  go_ret
  exact ⟨kE, kR0 HB⟩
 replace ⟨t486, A7, H⟩ := sV H
 obtain rfl := sJ H; go_enter Try.func80, Try.ntmps80
 go_wp2_with (first | ((with_reducible refine gate_dst (N := 3) rfl ?_); refine bF (N := 3) (cs := #[.int .i64 a1_0, .slice A1_1 l1_1.length c1_1, .slice A1_2 l1_2.length c1_2, .slice A1_3 l1_3.length c1_3, .slice A1_4 l1_4.length c1_4, .slice A1_5 l1_5.length c1_5]) (t := 55) HB ?_; intro gb483 w8 BK483 GW483 HB) | ((with_reducible refine gate_callee (f := 114) rfl ?_); refine gL 6 Try.func114 _ ((impl_ValidDims.calls k _ _ l0 true _ (C0.b HB) A3.out).mono ?_); rintro e w9 ⟨rfl, hb⟩; refine ⟨_, rfl, ?_⟩; replace BK483 := zY BK483 hb; replace HB := zX HB hb; clear hb; have := cf6_ BK483.out) | (go_at_call 115; (with_reducible refine (impl_FormedSelection.calls k a1_0 _ _ l1_1 _ _ l1_2 _ _ l1_3 _ _ l1_4 _ _ l1_5 true _ (C1_1.b HB) (C1_2.b HB) (C1_3.b HB) (C1_4.b HB) (C1_5.b HB) A5.out).mono ?_); rintro e w11 ⟨rfl, hb⟩; replace BK483 := zY BK483 hb; replace HB := zX HB hb; clear hb; have := cf6_ BK483.out) | (go_at_call 116; (with_reducible refine (impl_Selection_fits.calls k a1_0 _ _ l1_1 _ _ l1_2 _ _ l1_3 _ _ l1_4 _ _ l1_5 _ _ l0 t486 _ (C1_1.b HB) (C1_2.b HB) (C1_3.b HB) (C1_4.b HB) (C1_5.b HB) (C0.b HB) A7.out).mono ?_); rintro e w13 ⟨rfl, hb⟩; replace BK483 := zY BK483 hb; replace HB := zX HB hb; clear hb))
 go_ret
 exact ⟨kE, kR0 HB⟩

/-! ### impl_Selection_coordinates: function 144 -/
mutual
def impl_Selection_coordinates.l0 : Nat → Int → List Int → Int → Int → Int → List Int → List Int → List Int → List Int → List (S110) → Option (List Int)
 | 0, _, _, _, _, _, _, _, _, _, _ => none
 | k + 1, x1, x5, x12, x13, x488000, x488001, x488002, x488003, x488004, x488005 => if x13 < x12 then (if 0 ≤ x1 then (if x1 < (x488004.length : Int) then (impl_Selection_coordinates.l1 k x1 x5 x13 x12 x13 (rd x488004 x1) 0 x488000 x488001 x488002 x488003 x488004 x488005) else (none)) else (none)) else (some x5)
def impl_Selection_coordinates.l1 : Nat → Int → List Int → Int → Int → Int → Int → Int → Int → List Int → List Int → List Int → List Int → List (S110) → Option (List Int)
 | 0, _, _, _, _, _, _, _, _, _, _, _, _, _ => none
 | k + 1, x1, x5, x6, x12, x13, x20, x21, x488000, x488001, x488002, x488003, x488004, x488005 => if x21 < x20 then (if 0 ≤ x1 then (if x1 < (x488001.length : Int) then (if x1 < (x488002.length : Int) then (if x5.length < 17592186044416 then (impl_Selection_coordinates.l1 k x1 (x5 ++ [wrap64 ((wrap64 ((rd x488001 x1) + (wrap64 (x6 * (rd x488002 x1))))) + x21)]) x6 x12 x13 x20 (wrap64 (x21 + 1)) x488000 x488001 x488002 x488003 x488004 x488005) else (none)) else (none)) else (none)) else (none)) else (impl_Selection_coordinates.l0 k x1 x5 x12 (wrap64 (x13 + 1)) x488000 x488001 x488002 x488003 x488004 x488005)
end
def impl_Selection_coordinates.f (k : Nat) (a0_0 : Int) (l0_1 : List Int) (l0_2 : List Int) (l0_3 : List Int) (l0_4 : List Int) (l0_5 : List (S110)) (a1 : Int) : Option (List Int) := if 0 ≤ a1 then (if a1 < (l0_3.length : Int) then (impl_Selection_coordinates.l0 k a1 ([] : List Int) (rd l0_3 a1) 0 a0_0 l0_1 l0_2 l0_3 l0_4 l0_5) else (none)) else (none)
def impl_Selection_coordinates.T8 : Bool × List (List Nat × List Nat) := (true, [([], []), ([], []), ([1], [1]), ([], []), ([2, 3], [2, 3]), ([4], [4]), ([], []), ([], []), ([7], [7]), ([], []), ([8, 9], [8, 9]), ([10], [10]), ([6, 11], [6, 11]), ([5, 12], [5, 12]), ([], []), ([13, 14], [13, 14]), ([15], [15]), ([0, 16], [0, 16]), ([17, 17, 0, 1, 2, 3, 4, 5, 6, 7, 8, 9, 10, 11, 12, 13, 14, 15, 16, 17], [0, 17])])
def impl_Selection_coordinates.B8 : List Nat := [0, 0, 2, 0, 14, 30, 0, 0, 128, 0, 896, 1920, 4032, 8190, 0, 32766, 65534, 131071, 262143]
theorem impl_Selection_coordinates.tab8 : rtab .any (opsOf Try.f144 8) = impl_Selection_coordinates.T8 := by kernel_rfl
theorem impl_Selection_coordinates.bits8 : waitsOk impl_Selection_coordinates.T8.2 impl_Selection_coordinates.B8 = true := by kernel_rfl
theorem impl_Selection_coordinates.calls (k : Nat) (a0_0 : Int) (A0_1 : Option Addr) (c0_1 : Nat) (l0_1 : List Int) (A0_2 : Option Addr) (c0_2 : Nat) (l0_2 : List Int) (A0_3 : Option Addr) (c0_3 : Nat) (l0_3 : List Int) (A0_4 : Option Addr) (c0_4 : Nat) (l0_4 : List Int) (A0_5 : Option Addr) (c0_5 : Nat) (l0_5 : List (S110)) (a1 : Int) (r : List Int) (w : World) (C0_1 : Cm (Kd.int .i64) w A0_1 c0_1 l0_1) (C0_2 : Cm (Kd.int .i64) w A0_2 c0_2 l0_2) (C0_3 : Cm (Kd.int .i64) w A0_3 c0_3 l0_3) (C0_4 : Cm (Kd.int .i64) w A0_4 c0_4 l0_4) (C0_5 : Cm k110 w A0_5 c0_5 l0_5) (h : impl_Selection_coordinates.f k a0_0 l0_1 l0_2 l0_3 l0_4 l0_5 a1 = some r) :
 Calls Try.prog 144 #[.agg #[.int .i64 a0_0, .slice A0_1 l0_1.length c0_1, .slice A0_2 l0_2.length c0_2, .slice A0_3 l0_3.length c0_3, .slice A0_4 l0_4.length c0_4, .slice A0_5 l0_5.length c0_5], .int .i64 a1] w fun e w' => ∃ v0_ : Value, e = .returned (v0_) ∧ Kd.R (Kd.int .i64) 2 w' w.heap.size (fun _ => True) v0_ r ∧ Below w.heap.size w w' := by
 have hu55 := Try.underlying55
 have HB := yD (Below.refl w.heap.size w)
 have H : (if 0 ≤ a1 then (if a1 < (l0_3.length : Int) then (impl_Selection_coordinates.l0 k a1 ([] : List Int) (rd l0_3 a1) 0 a0_0 l0_1 l0_2 l0_3 l0_4 l0_5) else (none)) else (none)) = some r := h
 clear h
 replace ⟨c3b0, H⟩ := sE H
 replace ⟨c4b0, H⟩ := sE H
 have H' := yD H
 clear H; go_enter Try.func144, Try.ntmps144
 go_wp2_with (first | ((with_reducible refine gate_dst (N := 2) rfl ?_); refine bF (N := 2) (cs := #[.int .i64 a0_0, .slice A0_1 l0_1.length c0_1, .slice A0_2 l0_2.length c0_2, .slice A0_3 l0_3.length c0_3, .slice A0_4 l0_4.length c0_4, .slice A0_5 l0_5.length c0_5]) (t := 55) HB ?_; intro gb487 w5 BK487 GW487 HB; have := cf6_ BK487.out; have p488 : 0 ≤ (a1 : Int) := zP (by assumption); have q488 : a1 < (l0_3.length : Int) := zP (by assumption); obtain ⟨ad488, e488, hx488_0⟩ := Kd.at_int C0_3.r a1 p488 q488; cases e488; replace hx488_0 := kD HB hx488_0; replace p488 := eq_true p488; replace q488 := eq_true q488))
 (try simp only [Act.put, zH, zI, zJ])
 go_loopg [5, 13] k (fun kq v5 v13 w' => ∃ (x5_1 : List Int) (x13_1 : Int), v13 = .int .i64 x13_1 ∧ Aside0 (impl_Selection_coordinates.l0 kq a1 x5_1 (rd l0_3 a1) x13_1 a0_0 l0_1 l0_2 l0_3 l0_4 l0_5 = some r) ∧ Aside0 (kq ≤ k) ∧ Aside0 (Kd.R (Kd.int .i64) 2 w' w.heap.size (fun _ => True) v5 x5_1) ∧ Aside0 (w'.heap[gb487]? = some (.cells #[.int .i64 a0_0, (.slice A0_1 l0_1.length c0_1), (.slice A0_2 l0_2.length c0_2), (.slice (some ad488) l0_3.length c0_3), (.slice A0_4 l0_4.length c0_4), (.slice A0_5 l0_5.length c0_5)] 55 (0, 0))) ∧ Aside0 (Below w.heap.size w w'))
 case atStart => exact ⟨(([] : List Int)), (0), kF, H', ⟨Nat.le_refl _⟩, ⟨by first | exact Kd.R_nil _ _ _ _ _ | exact Kd.N_nil _ _ _ _ _ | exact Kd.V_nil _ _ _ _ _ | exact Kd.Q_nil _ _ _ _ _ | exact Kd.S_nil _ _ _ _ _⟩, ⟨kM BK487⟩, ⟨kR0 HB⟩⟩
 case round =>
  clear H'
  obtain ⟨x5_1, x13_1, rfl, HA, HK1, HO_5, BK487, HB⟩ := hrel
  cases gk with
  | zero => exact absurd HA.out (by simp [impl_Selection_coordinates.l0])
  | succ k1 =>
   have H := HA.out; clear HA
   simp only [impl_Selection_coordinates.l0] at H
   replace H := sG H; rcases H with ⟨c7b0, H⟩ | ⟨c7b0, H⟩
   · obtain rfl := sJ H
     go_wp2
     go_ret
     exact ⟨_, kE, kA HO_5, kR0 HB⟩
   replace ⟨c8b0, H⟩ := sE H
   replace ⟨c9b0, H⟩ := sE H
   have H' := yD H
   clear H
   have := cf6_ BK487.out
   obtain ⟨p489, q489, ad489, e489, hx489_0⟩ := sI (Kd.at_int C0_4.r a1)
   cases e489
   replace hx489_0 := kD HB hx489_0
   go_wp2
   go_loopg [5, 21] k1 (fun kq v5 v21 w' => ∃ (x5_2 : List Int) (x21_2 : Int), v21 = .int .i64 x21_2 ∧ Aside0 (impl_Selection_coordinates.l1 kq a1 x5_2 x13_1 (rd l0_3 a1) x13_1 (rd l0_4 a1) x21_2 a0_0 l0_1 l0_2 l0_3 l0_4 l0_5 = some r) ∧ Aside0 (kq ≤ k1) ∧ Aside0 (Kd.R (Kd.int .i64) 2 w' w.heap.size (fun _ => True) v5 x5_2) ∧ Aside0 (w'.heap[gb487]? = some (.cells #[.int .i64 a0_0, (.slice A0_1 l0_1.length c0_1), (.slice A0_2 l0_2.length c0_2), (.slice (some ad488) l0_3.length c0_3), (.slice (some ad489) l0_4.length c0_4), (.slice A0_5 l0_5.length c0_5)] 55 (0, 0))) ∧ Aside0 (Below w.heap.size w w'))
   case atStart => exact ⟨(x5_1), (0), kF, H', ⟨Nat.le_refl _⟩, ⟨kA HO_5⟩, ⟨kM BK487⟩, ⟨kR0 HB⟩⟩
   case round =>
    clear H'
    obtain ⟨x5_2, x21_2, rfl, HA, HK2, HO_5, BK487, HB⟩ := hrel
    cases gk with
    | zero => exact absurd HA.out (by simp [impl_Selection_coordinates.l1])
    | succ k2 =>
     have H := HA.out; clear HA
     simp only [impl_Selection_coordinates.l1] at H
     replace H := sG H; rcases H with ⟨c11b0, H⟩ | ⟨c11b0, H⟩
     ·
      have H' := yD H
      clear H
      go_wp2
      go_roundg k2
      case measure => have := HK1.out; have := HK2.out; omega
      case rel => exact ⟨(x5_2), (wrap64 (x13_1 + 1)), kF, H', ⟨by have := HK1.out; have := HK2.out; omega⟩, ⟨kA HO_5⟩, ⟨kM BK487⟩, ⟨kR0 HB⟩⟩
     replace ⟨c12b0, H⟩ := sE H
     replace ⟨c13b0, H⟩ := sE H
     replace ⟨c14b0, H⟩ := sE H
     replace ⟨LMc15, H⟩ := sM H
     generalize hy492 : ((x5_2 ++ [wrap64 ((wrap64 ((rd l0_1 a1) + (wrap64 (x13_1 * (rd l0_2 a1))))) + x21_2)]) : List Int) = y492 at H
     have Ny492 := yD hy492.symm
     clear hy492
     have H' := yD H
     clear H
     try go_wp2
     replace HO_5 := yD (yC HO_5.out); replace BK487 := yD (yO BK487.out); replace HB := yD (yP HB.out)
     obtain ⟨p490, q490, ad490, e490, hx490_0⟩ := sI (Kd.at_int C0_1.r a1)
     have hw490_0 := hx490_0; cases e490
     replace hx490_0 := kD HB hx490_0
     obtain ⟨p491, q491, ad491, e491, hx491_0⟩ := sI (Kd.at_int C0_2.r a1)
     have hw491_0 := hx491_0; cases e491
     replace hx491_0 := kD HB hx491_0
     refine s0 (m := 19) (S := fun w' => cl w' gb487 0 (.int .i64 a0_0) ∧ cl w' gb487 1 (.slice (some ad490) l0_1.length c0_1) ∧ cl w' gb487 2 (.slice (some ad491) l0_2.length c0_2) ∧ cl w' gb487 3 (.slice (some ad488) l0_3.length c0_3) ∧ cl w' gb487 4 (.slice (some ad489) l0_4.length c0_4) ∧ cl w' gb487 5 (.slice A0_5 l0_5.length c0_5) ∧ w'.cell? (ad490.add (a1).toNat) = some (.int .i64 (rd l0_1 a1)) ∧ w'.cell? (ad491.add (a1).toNat) = some (.int .i64 (rd l0_2 a1))) impl_Selection_coordinates.tab8 impl_Selection_coordinates.bits8 (ca6_ BK487.out ⟨(kC HB hw490_0), (kC HB hw491_0)⟩) fun hHeld HT_ HW_ => ?_
     generalize wr.drew = w16 at HO_5 BK487 HB hx490_0 hx491_0 hHeld ⊢
     refine qa 19 0 1 ?_; refine qa 19 1 3 ?_; refine qa 19 3 11 ?_; refine qa 19 6 75 ?_; refine qa 19 7 203 ?_; refine qa 19 9 715 ?_; refine qa 19 14 17099 ?_; refine qc 19 2 17103 hHeld ?_; refine qa 19 4 17119 ?_; refine qc 19 5 17151 hHeld ?_; refine qc 19 8 17407 hHeld ?_; refine qa 19 10 18431 ?_; refine qc 19 11 20479 hHeld ?_; refine qa 19 12 24575 ?_; refine qa 19 13 32767 ?_; refine qa 19 15 65535 ?_
     refine qo 19 16 131071 (some 40) fun K hK => ?_
     refine value_ (w1 := ?_) (v := ?_) (by rfl) rfl ?_ ?_
     rotate_left 2
     · go_simp
       constructor
       · rfl
       · rfl
     refine hK.out _ _ (ca6_ (yN BK487.out _) ⟨(World.cell?_alloc_lt _ _ _ (zQ _ _ (kC HB hw490_0))).trans (kC HB hw490_0), (World.cell?_alloc_lt _ _ _ (zQ _ _ (kC HB hw491_0))).trans (kC HB hw491_0)⟩) (fun hHeld => ?_)
     clear hK K
     refine nZ 40 ?_
     refine qo 19 17 262143 (some 41) fun K hK => ?_
     refine Kd.R_append_step (Kd.int .i64) (w0 := w) w.heap.size (by rfl) (.tmp 24) (.tmp 40) 36 2 (.int .i64 0) 8 rfl Try.underlying36 info2 rfl (by decide) (by omega) u5 x5_2 (wrap64 ((wrap64 ((rd l0_1 a1) + (wrap64 (x13_1 * (rd l0_2 a1))))) + x21_2)) [.int .i64 (wrap64 ((wrap64 ((rd l0_1 a1) + (wrap64 (x13_1 * (rd l0_2 a1))))) + x21_2))] (fun _ => True) (fun _ => False) rfl rfl ?aP (fun _ hk => hk.elim) ?aF ?aO ?aB ?aS ?aL ?_
     (case aP => exact rfl)
     (case aB => exact (kB HB))
     (case aF => exact (fun _ _ => trivial))
     (case aO => exact (kA HO_5))
     (case aS => exact (below_size (kB HB)))
     (case aL => have := LMc15.out; omega)
     intro v493 w17 ho hb hg hat
     rw [← Ny492.out] at ho
     have n0_ := yD (blk_grown (g := gb487) (o := .cells #[.int .i64 a0_0, .slice (some ad490) l0_1.length c0_1, .slice (some ad491) l0_2.length c0_2, .slice (some ad488) l0_3.length c0_3, .slice (some ad489) l0_4.length c0_4, .slice A0_5 l0_5.length c0_5] 55 (0, 0)) (kM BK487) hg (Kd.R_ne HO_5.out BK487.out (by decide)))
     have n1_ := yD (hb)
     have n2_ := yD (ho)
     clear BK487 HB HO_5; have BK487 := n0_; have HB := n1_; have HO494 := n2_; clear n0_ n1_ n2_ ho hb hg hat
     refine hK.out _ _ (ca6_ BK487.out ⟨(kC HB hw490_0), (kC HB hw491_0)⟩) (fun hHeld => ?_)
     clear hK K
     refine nZ 41 ?_
     refine qa 19 18 524287 ?_
     refine qd ?_
     try go_wp2
     go_roundg k2
     case measure => have := HK1.out; have := HK2.out; omega
     case rel => exact ⟨(y492), (wrap64 (x21_2 + 1)), kF, H', ⟨by have := HK1.out; have := HK2.out; omega⟩, ⟨kA HO494⟩, ⟨kM BK487⟩, ⟨kR0 HB⟩⟩
end Go.Proofs.Ytdiaebjbiddefaa.PFnExactBoxesOf
