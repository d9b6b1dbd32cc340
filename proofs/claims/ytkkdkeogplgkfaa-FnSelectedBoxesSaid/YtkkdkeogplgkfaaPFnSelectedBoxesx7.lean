/- Each function here comes to its plain form. It holds without a condition. -/
import Derived.Test.YtkkdkeogplgkfaaPFnSelectedBoxesx0
import Derived.Test.YtkkdkeogplgkfaaPFnSelectedBoxesx6
import Derived.Test.YtkkdkeogplgkfaaPFnSelectedBoxesx1
import Derived.Test.YtkkdkeogplgkfaaPFnSelectedBoxesx5
import Derived.Test.YtkkdkeogplgkfaaPFnSelectedBoxesx3
namespace Go.Proofs.Ytkkdkeogplgkfaa.PFnSelectedBoxes
open Go.RowKit Go.Proofs.YtkkdkeogplgkfaaW.PrintWords Go.Proofs.YtkkdkeogplgkfaaW.PrintLast Go.Proofs.YtkkdkeogplgkfaaW.PrintMore
attribute [local go_sem] max2_int min2_int max_two min_two max_three min_three max_four min_four
set_option linter.unusedVariables false
set_option linter.unusedSimpArgs false
set_option maxHeartbeats 8000000
set_option maxRecDepth 100000
mutual
def aJ.l0 : Nat → Int → List (S33) → List (S33) → Int → List (S33) → List Int → List (S33) → Int → Int → Option ((List (S33)))
 | 0, _, _, _, _, _, _, _, _, _ => none
 | k + 1, x0, x1, x2, x3, x9, x10, x11, x12, x13 => if x13 < (x10.length : Int) then (if (wrap64 (x13 + 1)) < (x10.length : Int) then (if 0 ≤ x13 then ((bN.f k x1 (rd x10 x13)).bind fun t685 => ((bN.f k x2 (rd x10 x13)).bind fun t689 => ((aJ.f k x0 t685 t689 (wrap64 (x3 - 1))).bind fun t692 => (aJ.j1 k x0 x1 x2 x3 x9 x10 x11 x12 x13 t692)))) else (none)) else (aJ.j1 k x0 x1 x2 x3 x9 x10 x11 x12 x13 (([] : List (S33))))) else (some x9)
def aJ.j1 : Nat → Int → List (S33) → List (S33) → Int → List (S33) → List Int → List (S33) → Int → Int → List (S33) → Option ((List (S33)))
 | 0, _, _, _, _, _, _, _, _, _, _ => none
 | k + 1, x0, x1, x2, x3, x9, x10, x11, x12, x13, x14 => if x13 > 0 then ((cX.f k x14 x11).bind fun t695 => (aJ.j2 k x0 x1 x2 x3 x9 x10 x11 x12 x13 x14 t695)) else (aJ.j2 k x0 x1 x2 x3 x9 x10 x11 x12 x13 x14 false)
def aJ.j2 : Nat → Int → List (S33) → List (S33) → Int → List (S33) → List Int → List (S33) → Int → Int → List (S33) → Bool → Option ((List (S33)))
 | 0, _, _, _, _, _, _, _, _, _, _, _ => none
 | k + 1, x0, x1, x2, x3, x9, x10, x11, x12, x13, x14, x74 => if x74 = true then (aJ.l0 k x0 x1 x2 x3 x9 x10 x11 x12 (wrap64 (x13 + 1))) else (aJ.l1 k x0 x1 x2 x3 x9 x10 x11 x12 x13 x14 0)
def aJ.l1 : Nat → Int → List (S33) → List (S33) → Int → List (S33) → List Int → List (S33) → Int → Int → List (S33) → Int → Option ((List (S33)))
 | 0, _, _, _, _, _, _, _, _, _, _, _ => none
 | k + 1, x0, x1, x2, x3, x9, x10, x11, x12, x13, x14, x15 => if x15 < (x11.length : Int) then ((some (([x12] : List Int) : List Int)).bind fun y696 => (if 0 ≤ x15 then (if y696.length + ((aA x11 x15).f0).length < 17592186044416 then (if 0 ≤ x13 then (if x13 < (x10.length : Int) then ((some (([rd x10 x13] : List Int) : List Int)).bind fun y704 => (if y704.length + ((aA x11 x15).f1).length < 17592186044416 then (if x9.length < 2932031007402 then (aJ.l1 k x0 x1 x2 x3 (x9 ++ [(⟨(y696 ++ ((aA x11 x15).f0)), (y704 ++ ((aA x11 x15).f1))⟩ : S33)]) x10 x11 x12 x13 x14 (wrap64 (x15 + 1))) else (none)) else (none))) else (none)) else (none)) else (none)) else (none))) else (if 0 ≤ x13 then (if x13 < (x10.length : Int) then (aJ.l0 k x0 x1 x2 x3 x9 x10 x14 (rd x10 x13) (wrap64 (x13 + 1))) else (none)) else (none))
def aJ.f : Nat → Int → List (S33) → List (S33) → Int → Option ((List (S33)))
 | 0, _, _, _, _ => none
 | k + 1, a0, l1, l2, a3 => (some (([] : List (S33)) : List (S33))).bind fun y662 => (if a3 = 0 then ((spec_l07Holds.f a0 (decide ((l1.length : Int) > 0)) (decide ((l2.length : Int) > 0))).bind fun t665 => (if t665 = true then (if y662.length < 2932031007402 then (some (y662 ++ [(⟨([] : List Int), ([] : List Int)⟩ : S33)])) else (none)) else (some y662))) else ((spec_l07Cuts.f k (([] : List Int)) l1).bind fun t672 => ((spec_l07Cuts.f k t672 l2).bind fun t675 => (aJ.l0 k a0 l1 l2 a3 y662 t675 (([] : List (S33))) 0 0))))
end
def aJ.T14 : Bool × List (List Nat × List Nat) := (true, [([], []), ([], []), ([], []), ([], []), ([2, 3], [2, 3]), ([4], [4]), ([1, 5], [1, 5]), ([], []), ([], []), ([], []), ([8, 9], [8, 9]), ([10], [10]), ([7, 11, 6], [7, 11]), ([], []), ([13], [13]), ([0, 6, 12, 14, 12], [0, 6, 12, 14]), ([15, 15, 0, 1, 2, 3, 4, 5, 6, 7, 8, 9, 10, 11, 12, 13, 14, 15], [15])])
def aJ.B14 : List Nat := [0, 0, 0, 0, 12, 28, 62, 0, 0, 0, 768, 1792, 4094, 0, 8192, 32767, 65535]
theorem aJ.tab14 : rtab .any (opsOf Try.f56 14) = aJ.T14 := by kernel_rfl
theorem aJ.bits14 : waitsOk aJ.T14.2 aJ.B14 = true := by kernel_rfl
def aJ.T20 : Bool × List (List Nat × List Nat) := (true, [([], []), ([], []), ([0, 1], [0, 1]), ([2], [2]), ([3], [3]), ([], []), ([], []), ([5, 6], [5, 6]), ([7], [7]), ([8], [8]), ([4, 9], [4, 9]), ([10, 10, 0, 1, 2, 3, 4, 5, 6, 7, 8, 9, 10], [10])])
def aJ.B20 : List Nat := [0, 0, 3, 7, 15, 0, 0, 96, 224, 480, 1023, 2047]
theorem aJ.tab20 : rtab .any (opsOf Try.f56 20) = aJ.T20 := by kernel_rfl
theorem aJ.bits20 : waitsOk aJ.T20.2 aJ.B20 = true := by kernel_rfl
theorem aJ.calls (k : Nat) : ∀ (a0 : Int) (A1 : Option Addr) (c1 : Nat) (l1 : List (S33)) (A2 : Option Addr) (c2 : Nat) (l2 : List (S33)) (a3 : Int) (r : List (S33)) (w : World) (hr1 : Kd.C k33 w A1 l1.length l1) (hc1 : l1.length ≤ c1) (hr2 : Kd.C k33 w A2 l2.length l2) (hc2 : l2.length ≤ c2) (h : aJ.f k a0 l1 l2 a3 = some r),
 Calls Try.prog 56 #[.int .i64 a0, .slice A1 l1.length c1, .slice A2 l2.length c2, .int .i64 a3] w fun e w' => ∃ v0_ : Value, e = .returned (v0_) ∧ Kd.S k33 33 w' w.heap.size (fun _ => True) v0_ r ∧ Below w.heap.size w w' := by
 induction k using Nat.strongRecOn with
 | _ k ih =>
 intro a0 A1 c1 l1 A2 c2 l2 a3 r w hr1 hc1 hr2 hc2 h
 cases k with
 | zero => exact absurd h (by simp [aJ.f])
 | succ k =>
 simp only [aJ.f] at h
 have hu33 := Try.underlying33
 have HR1 := yD hr1
 have HC1 := yD hc1
 clear hr1 hc1
 have HR2 := yD hr2
 have HC2 := yD hc2
 clear hr2 hc2
 have HB := yD (Below.refl w.heap.size w)
 have H : ((some (([] : List (S33)) : List (S33))).bind fun y662 => (if a3 = 0 then ((spec_l07Holds.f a0 (decide ((l1.length : Int) > 0)) (decide ((l2.length : Int) > 0))).bind fun t665 => (if t665 = true then (if y662.length < 2932031007402 then (some (y662 ++ [(⟨([] : List Int), ([] : List Int)⟩ : S33)])) else (none)) else (some y662))) else ((spec_l07Cuts.f k (([] : List Int)) l1).bind fun t672 => ((spec_l07Cuts.f k t672 l2).bind fun t675 => (aJ.l0 k a0 l1 l2 a3 y662 t675 (([] : List (S33))) 0 0))))) = some r := h
 clear h
 obtain ⟨y662, hy662⟩ : ∃ y_ : List (S33), y_ = (([] : List (S33))) := ⟨_, rfl⟩
 replace H : (if a3 = 0 then ((spec_l07Holds.f a0 (decide ((l1.length : Int) > 0)) (decide ((l2.length : Int) > 0))).bind fun t665 => (if t665 = true then (if y662.length < 2932031007402 then (some (y662 ++ [(⟨([] : List Int), ([] : List Int)⟩ : S33)])) else (none)) else (some y662))) else ((spec_l07Cuts.f k (([] : List Int)) l1).bind fun t672 => ((spec_l07Cuts.f k t672 l2).bind fun t675 => (aJ.l0 k a0 l1 l2 a3 y662 t675 (([] : List (S33))) 0 0)))) = some r := by first | (rw [hy662]; with_reducible exact H) | (have H2_ := (Option.bind_some _ _).symm.trans H; rw [hy662]; with_reducible exact H2_) | (have H2_ := (Option.bind_some _ _).symm.trans H; with_reducible exact H2_) | with_reducible exact H | (rw [hy662]; exact H) | exact H
 have Ny662 := yD hy662
 clear hy662
 replace H := sQ H; rcases H with ⟨-, c5b0, c5b1, H⟩ | ⟨c5, c5b0, c5b1, H⟩
 ·
  replace ⟨t665, A6, H⟩ := sV H
  replace H := sS H; rcases H with ⟨rfl, H⟩ | ⟨rfl, H⟩
  ·
   obtain rfl := sJ H; go_enter Try.func56, Try.ntmps56
   go_wp2_with (first | (refine gD 18 ?_; refine Kd.S_lit k33 _ 33 ?hg (N := 18) ?hd (xs := ([] : List (S33))) (inner := []) (ok := fun _ => True) (okp := fun _ => True) ?hr ?hp (fun _ hk => hk) trivial (Below.refl _ _) (Nat.le_refl _) (by simp) ?_; (case hd => rfl); (case hg => rfl); (case hr => first | (go_simp; done) | (go_simp; rfl)); (case hp => exact (cW.none _ _)); intro v663 w12 ho13 hb hg_ hnew_; clear hg_ hnew_; (first | rw [← Ny662.out] at ho13 | (simp only [Int.reduceToNat] at ho13; rw [← Ny662.out] at ho13)); have HO664 := yD (zG ho13 (aD (kB HB))); replace HB := zX HB hb; clear hb ho13) | (refine gC 82 ?_; refine goesL_ (some 28) rfl rfl Try.func82 (by kernel_rfl) rfl #[.int .i64 a0, .bool (decide (0 < l1.length)), .bool (decide (0 < l2.length))] rfl (by first | (with_reducible rfl; done) | (simp only [zN, zO]; rfl) | (go_simp; done) | (go_simp; rfl)) ?_; (refine (spec_l07Holds.calls a0 (decide (0 < l1.length)) (decide (0 < l2.length)) false _ (by have h_ := A6.out; rw [show decide ((l1.length : Int) > 0) = decide (0 < l1.length) from decide_eq_decide.2 (by omega), show decide ((l2.length : Int) > 0) = decide (0 < l2.length) from decide_eq_decide.2 (by omega)] at h_; exact h_)).mono ?_); rintro e w' ⟨rfl, ⟨nd, rfl⟩⟩; refine ⟨_, rfl, ?_⟩))
   go_ret
   exact ⟨_, kE, kS HO664, kR0 HB⟩
  replace ⟨LMc8, H⟩ := sM H
  obtain ⟨y666, hy666⟩ : ∃ y_ : List (S33), y_ = (y662 ++ [(⟨([] : List Int), ([] : List Int)⟩ : S33)]) := ⟨_, rfl⟩
  replace H : (some y666) = some r := by first | (rw [hy666]; with_reducible exact H) | (have H2_ := (Option.bind_some _ _).symm.trans H; rw [hy666]; with_reducible exact H2_) | (have H2_ := (Option.bind_some _ _).symm.trans H; with_reducible exact H2_) | with_reducible exact H | (rw [hy666]; exact H) | exact H
  have Ny666 := yD hy666
  clear hy666; obtain rfl := sJ H; go_enter Try.func56, Try.ntmps56
  go_wp2_with (first | (refine gD 18 ?_; refine Kd.S_lit k33 _ 33 ?hg (N := 18) ?hd (xs := ([] : List (S33))) (inner := []) (ok := fun _ => True) (okp := fun _ => True) ?hr ?hp (fun _ hk => hk) trivial (Below.refl _ _) (Nat.le_refl _) (by simp) ?_; (case hd => rfl); (case hg => rfl); (case hr => first | (go_simp; done) | (go_simp; rfl)); (case hp => exact (cW.none _ _)); intro v663 w9 ho10 hb hg_ hnew_; clear hg_ hnew_; (first | rw [← Ny662.out] at ho10 | (simp only [Int.reduceToNat] at ho10; rw [← Ny662.out] at ho10)); have HO664 := yD (zG ho10 (aD (kB HB))); replace HB := zX HB hb; clear hb ho10) | (refine gC 82 ?_; refine goesL_ (some 28) rfl rfl Try.func82 (by kernel_rfl) rfl #[.int .i64 a0, .bool (decide (0 < l1.length)), .bool (decide (0 < l2.length))] rfl (by first | (with_reducible rfl; done) | (simp only [zN, zO]; rfl) | (go_simp; done) | (go_simp; rfl)) ?_; (refine (spec_l07Holds.calls a0 (decide (0 < l1.length)) (decide (0 < l2.length)) true _ (by have h_ := A6.out; rw [show decide ((l1.length : Int) > 0) = decide (0 < l1.length) from decide_eq_decide.2 (by omega), show decide ((l2.length : Int) > 0) = decide (0 < l2.length) from decide_eq_decide.2 (by omega)] at h_; exact h_)).mono ?_); rintro e w' ⟨rfl, ⟨nd, rfl⟩⟩; refine ⟨_, rfl, ?_⟩) | ((with_reducible refine gate_builtin (b := .append) (xs := #[.tmp 29, .tmp 31]) rfl ?_); at_builtin; refine Kd.S_append k33 (w0 := w) w.heap.size rfl (.tmp 29) (.tmp 31) 29 33 (.agg #[(.slice none 0 0), (.slice none 0 0)]) 48 rfl Try.underlying29 info33 rfl (by decide) (by omega) v663 y662 (⟨([] : List Int), ([] : List Int)⟩ : S33) [.slice none 0 0, .slice none 0 0] (fun _ => True) (fun _ => False) rfl rfl ?aP (fun k_ hk_ => hk_.elim) ?aF ?aO ?aB ?aS ?aL ?_; (case aP => exact k33_mkM _ _ _ (⟨([] : List Int), ([] : List Int)⟩ : S33) (Kd.R_nil _ _ _ _ _) (Kd.R_nil _ _ _ _ _)); (case aB => exact (kB HB)); (case aF => exact (fun _ _ => trivial)); (case aO => exact (mS HO664 (fun k_ hk => ⟨trivial, fun e_ => e_⟩))); (case aS => exact (aD (kB HB))); (case aL => have := LMc8.out; omega); intro v667 w11 ho hb hg hat; rw [← Ny666.out] at ho; replace HB := yD (hb); have HO668 := yD (ho); clear HO664; clear ho hb hg hat))
  go_ret
  exact ⟨_, kE, kS HO668, kR0 HB⟩
 obtain ⟨y669, hy669⟩ : ∃ y_ : List Int, y_ = (([] : List Int)) := ⟨_, rfl⟩
 replace H : ((spec_l07Cuts.f k y669 l1).bind fun t672 => ((spec_l07Cuts.f k t672 l2).bind fun t675 => (aJ.l0 k a0 l1 l2 a3 y662 t675 (([] : List (S33))) 0 0))) = some r := by first | (rw [hy669]; with_reducible exact H) | (have H2_ := (Option.bind_some _ _).symm.trans H; rw [hy669]; with_reducible exact H2_) | (have H2_ := (Option.bind_some _ _).symm.trans H; with_reducible exact H2_) | with_reducible exact H | (rw [hy669]; exact H) | exact H
 have Ny669 := yD hy669
 clear hy669
 replace ⟨t672, A14, H⟩ := sV H
 replace ⟨t675, A15, H⟩ := sV H
 obtain ⟨y678, hy678⟩ : ∃ y_ : List (S33), y_ = (([] : List (S33))) := ⟨_, rfl⟩
 replace H : (aJ.l0 k a0 l1 l2 a3 y662 t675 y678 0 0) = some r := by first | (rw [hy678]; with_reducible exact H) | (have H2_ := (Option.bind_some _ _).symm.trans H; rw [hy678]; with_reducible exact H2_) | (have H2_ := (Option.bind_some _ _).symm.trans H; with_reducible exact H2_) | with_reducible exact H | (rw [hy678]; exact H) | exact H
 have Ny678 := yD hy678
 clear hy678
 have H' := yD H
 clear H; go_enter Try.func56, Try.ntmps56
 go_wp2_with (first | (refine gD 18 ?_; refine Kd.S_lit k33 _ 33 ?hg (N := 18) ?hd (xs := ([] : List (S33))) (inner := []) (ok := fun _ => True) (okp := fun _ => True) ?hr ?hp (fun _ hk => hk) trivial (Below.refl _ _) (Nat.le_refl _) (by simp) ?_; (case hd => rfl); (case hg => rfl); (case hr => first | (go_simp; done) | (go_simp; rfl)); (case hp => exact (cW.none _ _)); intro v663 w16 ho17 hb hg_ hnew_; clear hg_ hnew_; (first | rw [← Ny662.out] at ho17 | (simp only [Int.reduceToNat] at ho17; rw [← Ny662.out] at ho17)); have HO664 := yD (zG ho17 (aD (kB HB))); replace HB := zX HB hb; clear hb ho17) | (refine gD 34 ?_; refine Kd.R_lit (Kd.int .i64) _ 2 ?hg (N := 34) ?hd (xs := ([] : List Int)) (inner := []) (ok := fun _ => True) (okp := fun _ => True) ?hr ?hp (fun _ hk => hk) trivial (Below.refl _ _) (Nat.le_refl _) (by simp) ?_; (case hd => rfl); (case hg => rfl); (case hr => first | (go_simp; done) | (go_simp; rfl)); (case hp => exact (cW.none _ _)); intro v670 w18 ho19 hb hg_ hnew_; clear hg_ hnew_; (first | rw [← Ny669.out] at ho19 | (simp only [Int.reduceToNat] at ho19; rw [← Ny669.out] at ho19)); replace HO664 := yD (Kd.S_elder' (kS HO664) (yH ho19) hb); have HO671 := yD (yZ ho19 (aD (kB HB))); replace HB := zX HB hb; clear hb ho19; obtain ⟨Ao20, co20, eo20⟩ := Kd.bS HO671.out; subst eo20) | (refine gC 83 ?_; refine gL 36 Try.func83 _ (dv (spec_l07Cuts.calls k (fun k_ => some k_ = (.slice Ao20 y669.length co20 : Value).ownBlock) _ _ y669 _ _ l1 t672 _ ?z1 (cB HR1 HC1 HB) A14.out) fun v673 w21 ho0 hb => ?_); (case z1 => exact Kd.R_V (Kd.R_tight rfl (Kd.cH (HO671.out) (Kd.S_typed HO664.out) (by decide)))); have HO674 := yD (Kd.V_lower (Kd.V_mono (ok' := fun k_ => oB v663 k_) ho0 (fun k_ hk_ => Or.elim hk_ (fun hs_ => ((Kd.cH (HO671.out) (Kd.S_typed HO664.out) (by decide)).1 k_ hs_.symm).2) (fun hn_ => (Kd.cQ (Kd.S_lt (kS HO664)) k_ hn_)))) (aD (kB HB))); replace HO664 := yD (Kd.S_below (kS HO664) hb); replace HO671 := yD (zE (kA HO671) hb); replace HB := zX HB hb; clear hb ho0; obtain ⟨Ao22, co22, eo22⟩ := Kd.V_slice HO674.out; subst eo22) | (refine gC 83 ?_; refine gL 38 Try.func83 _ (dv (spec_l07Cuts.calls k (fun k_ => oB v663 k_) _ _ t672 _ _ l2 t675 _ ?z1 (cB HR2 HC2 HB) A15.out) fun v676 w23 ho0 hb => ?_); (case z1 => exact HO674.out); replace HO671 := yD (zE (kA HO671) hb); replace HO674 := yD (Kd.V_below (kU HO674) hb); have HO677 := yD (Kd.V_lower (Kd.V_mono (ok' := fun k_ => oB v663 k_) ho0 (fun k_ hk_ => Or.elim hk_ (fun hs_ => hs_) (fun hn_ => (Kd.cQ (Kd.S_lt (kS HO664)) k_ hn_)))) (aD (kB HB))); replace HO664 := yD (Kd.S_below (kS HO664) hb); replace HB := zX HB hb; clear hb ho0) | (refine gD 39 ?_; refine Kd.S_lit k33 _ 33 ?hg (N := 39) ?hd (xs := ([] : List (S33))) (inner := []) (ok := fun _ => True) (okp := fun _ => True) ?hr ?hp (fun _ hk => hk) trivial (Below.refl _ _) (Nat.le_refl _) (by simp) ?_; (case hd => rfl); (case hg => rfl); (case hr => first | (go_simp; done) | (go_simp; rfl)); (case hp => exact (cW.none _ _)); intro v679 w24 ho25 hb hg_ hnew_; clear hg_ hnew_; (first | rw [← Ny678.out] at ho25 | (simp only [Int.reduceToNat] at ho25; rw [← Ny678.out] at ho25)); replace HO674 := yD (Kd.bR (kU HO674) (Kd.S_base ho25) hb); replace HO677 := yD (Kd.bR (kU HO677) (Kd.S_base ho25) hb); have HO680 := yD (zG (zD (zD ho25 (Kd.S_lt (kS HO664))) (yK (kA HO671))) (aD (kB HB))); replace HO664 := yD (Kd.S_elder' (kS HO664) (Kd.S_base ho25) hb); replace HO671 := yD (zE (kA HO671) hb); replace HB := zX HB hb; clear hb ho25))
 (try simp only [Act.put, zH, zI, zJ])
 go_loopg [9, 11, 12, 13] k (fun kq v9 v11 v12 v13 w' => ∃ (x9_1 : List (S33)) (x11_1 : List (S33)) (x12_1 : Int) (x13_1 : Int), v12 = .int .i64 x12_1 ∧ v13 = .int .i64 x13_1 ∧ aC (aJ.l0 kq a0 l1 l2 a3 x9_1 t675 x11_1 x12_1 x13_1 = some r) ∧ aC (kq ≤ k) ∧ aC (Kd.S k33 33 w' w.heap.size (fun k_ => oB v11 k_) v9 x9_1) ∧ aC (Kd.V (Kd.int .i64) 2 w' w.heap.size (fun k_ => oB v9 k_ ∧ oB v11 k_) v676 t675) ∧ aC (Kd.S k33 33 w' w.heap.size (fun k_ => oB v9 k_) v11 x11_1) ∧ aC (Below w.heap.size w w'))
 case atStart => exact ⟨(y662), (y678), (0), (0), kF, kF, H', ⟨Nat.le_refl _⟩, ⟨mS HO664 (fun _ hk => hk.2)⟩, ⟨kU HO677⟩, ⟨mS HO680 (fun _ hk => hk.1.2)⟩, ⟨kR0 HB⟩⟩
 case round =>
  clear H'
  obtain ⟨x9_1, x11_1, x12_1, x13_1, rfl, rfl, HA, HK1, HO_9, HO_10, HO_11, HB⟩ := hrel
  cases gk with
  | zero => exact absurd HA.out (by simp [aJ.l0])
  | succ k1 =>
   have H := HA.out; clear HA
   simp only [aJ.l0] at H
   replace H := sG H; rcases H with ⟨c26b0, H⟩ | ⟨c26b0, H⟩
   ·
    obtain rfl := sJ H
    obtain ⟨Ao70, co70, eo70⟩ := Kd.V_slice HO_10.out
    subst eo70
    go_wp2
    go_ret
    exact ⟨_, kE, mS HO_9 (fun _ hk => trivial), kR0 HB⟩
   obtain ⟨y681, hy681⟩ : ∃ y_ : List (S33), y_ = (([] : List (S33))) := ⟨_, rfl⟩
   replace H : (if (wrap64 (x13_1 + 1)) < (t675.length : Int) then (if 0 ≤ x13_1 then ((bN.f k1 l1 (rd t675 x13_1)).bind fun t685 => ((bN.f k1 l2 (rd t675 x13_1)).bind fun t689 => ((aJ.f k1 a0 t685 t689 (wrap64 (a3 - 1))).bind fun t692 => (aJ.j1 k1 a0 l1 l2 a3 x9_1 t675 x11_1 x12_1 x13_1 t692)))) else (none)) else (aJ.j1 k1 a0 l1 l2 a3 x9_1 t675 x11_1 x12_1 x13_1 y681)) = some r := by first | (rw [hy681]; with_reducible exact H) | (have H2_ := (Option.bind_some _ _).symm.trans H; rw [hy681]; with_reducible exact H2_) | (have H2_ := (Option.bind_some _ _).symm.trans H; with_reducible exact H2_) | with_reducible exact H | (rw [hy681]; exact H) | exact H
   have Ny681 := yD hy681
   clear hy681
   have HC27 := yD H
   clear H
   obtain ⟨Ao28, co28, eo28⟩ := Kd.V_slice HO_10.out
   subst eo28
   go_upto_if 51 with (first | (refine gD 46 ?_; refine Kd.S_lit k33 _ 33 ?hg (N := 46) ?hd (xs := ([] : List (S33))) (inner := []) (ok := fun _ => True) (okp := fun _ => True) ?hr ?hp (fun _ hk => hk) trivial (Below.refl _ _) (Nat.le_refl _) (by simp) ?_; (case hd => rfl); (case hg => rfl); (case hr => first | (go_simp; done) | (go_simp; rfl)); (case hp => exact (cW.none _ _)); intro v682 w29 ho30 hb hg_ hnew_; clear hg_ hnew_; (first | rw [← Ny681.out] at ho30 | (simp only [Int.reduceToNat] at ho30; rw [← Ny681.out] at ho30)); replace HO_10 := yD (Kd.bR (kU HO_10) (Kd.S_base ho30) hb); have HO683 := yD (zG (zD (zD ho30 (Kd.S_lt (kS HO_9))) (Kd.S_lt (kS HO_11))) (aD (kB HB))); replace HO_9 := yD (Kd.S_elder' (kS HO_9) (Kd.S_base ho30) hb); replace HO_11 := yD (Kd.S_elder' (kS HO_11) (Kd.S_base ho30) hb); replace HB := zX HB hb; clear hb ho30))
   (try simp only [Act.put, zH, zI, zJ])
   go_cut [14] (fun v14 wc => ∃ (kq : Nat) (x14_26 : List (S33)), aC (aJ.j1 kq a0 l1 l2 a3 x9_1 t675 x11_1 x12_1 x13_1 x14_26 = some r) ∧ aC (kq ≤ k1) ∧ aC (Kd.S k33 33 wc w.heap.size (fun k_ => oB u11 k_ ∧ oB v14 k_) u9 x9_1) ∧ aC (Kd.V (Kd.int .i64) 2 wc w.heap.size (fun k_ => oB u9 k_ ∧ oB u11 k_ ∧ oB v14 k_) (.slice Ao28 t675.length co28) t675) ∧ aC (Kd.S k33 33 wc w.heap.size (fun k_ => oB u9 k_ ∧ oB v14 k_) u11 x11_1) ∧ aC (Kd.S k33 33 wc w.heap.size (fun k_ => oB u9 k_ ∧ oB u11 k_) v14 x14_26) ∧ aC (Below w.heap.size w wc))
   case first =>
    have H := HC27.out; clear HC27
    replace H := sG H; rcases H with ⟨c31b0, H⟩ | ⟨c31b0, H⟩
    ·
     (first | rw [c31b0] | (simp only [i64_w, i32_w]; rw [c31b0]) | (simp only [bne] at c31b0; rw [c31b0]) | skip)
     have H' := yD H
     clear H
     go_wp2
     go_meet
     case rel => exact ⟨_, (y681), H', ⟨by have := HK1.out; first | omega | exact Nat.le_refl _⟩, ⟨kS HO_9⟩, ⟨mV HO_10 (fun _ hk => ⟨hk.1.1, ⟨hk.1.2, hk.2⟩⟩)⟩, ⟨kS HO_11⟩, ⟨mS HO683 (fun _ hk => ⟨hk.1.2, hk.2⟩)⟩, ⟨kR0 HB⟩⟩
    (first | rw [c31b0] | (simp only [i64_w, i32_w]; rw [c31b0]) | (simp only [bne] at c31b0; rw [c31b0]) | skip)
    replace ⟨c32b0, H⟩ := sE H
    replace ⟨t685, A33, H⟩ := sV H
    replace ⟨t689, A34, H⟩ := sV H
    replace ⟨t692, A35, H⟩ := sV H
    have H' := yD H
    clear H
    try go_wp2
    replace HO_9 := yD (yU HO_9.out); replace HO_10 := yD (Kd.V_drew HO_10.out); replace HO_11 := yD (yU HO_11.out); replace HO683 := yD (yU HO683.out); replace HB := yD (yP HB.out)
    obtain ⟨p684, q684, ad684, e684, hx684_0⟩ := sI (Kd.aX (Kd.cV HO_10.out).2.2 x13_1)
    cases e684
    obtain ⟨p688, q688, ad688, e688, hx688_0⟩ := sI (Kd.aX (Kd.cV HO_10.out).2.2 x13_1)
    obtain rfl : ad684 = ad688 := (by injection e688)
    refine s0 (m := 17) (S := fun w' => w'.cell? (ad684.add (x13_1).toNat) = some (.int .i64 (rd t675 x13_1)) ∧ w'.cell? (ad684.add (x13_1).toNat) = some (.int .i64 (rd t675 x13_1))) aJ.tab14 aJ.bits14 ⟨hx684_0, hx688_0⟩ fun hHeld HT_ HW_ => ?_
    generalize w29.drew = w36 at HO_9 HO_10 HO_11 HO683 HB hx684_0 hx688_0 hHeld ⊢
    refine qa 17 0 1 ?_; refine qa 17 1 3 ?_; refine qa 17 2 7 ?_; refine qa 17 3 15 ?_; refine qa 17 4 31 ?_; refine qa 17 7 159 ?_; refine qa 17 8 415 ?_; refine qa 17 9 927 ?_; refine qa 17 10 1951 ?_; refine qa 17 13 10143 ?_; refine qa 17 14 26527 ?_; refine qc 17 5 26559 hHeld ?_; refine qc 17 11 28607 hHeld ?_
    refine qo 17 6 28671 (some 58) fun K hK => ?_
    refine qg Try.func84 _ ((bN.calls k1 (fun k_ => k_ < w.heap.size) _ _ l1 (rd t675 x13_1) t685 _ ?z1 A33.out).mono ?_)
    (case z1 => exact Kd.V_mk HC1.out (Kd.F_below (Kd.C_F k33_heap HR1.out) (kB HB)))
    rintro e w37 ⟨v686, rfl, ho0, hb⟩
    have HS0_ := (hb.cell (zQ _ _ (hHeld.1))).trans (hHeld.1)
    have HS1_ := (hb.cell (zQ _ _ (hHeld.2))).trans (hHeld.2)
    refine ⟨_, rfl, ?_⟩
    replace HO_10 := yD (Kd.V_below (kU HO_10) hb); have HO687 := yD (Kd.V_lower (Kd.V_mono (ok' := fun k_ => oB u9 k_ ∧ oB u11 k_ ∧ oB v682 k_) ho0 (fun k_ hk_ => ⟨Or.elim hk_ (fun hs_ => fun e_ => Nat.not_le.2 hs_ (Kd.S_base HO_9.out k_ e_.symm)) (fun hn_ => (Kd.cQ (Kd.S_lt (kS HO_9)) k_ hn_)), Or.elim hk_ (fun hs_ => fun e_ => Nat.not_le.2 hs_ (Kd.S_base HO_11.out k_ e_.symm)) (fun hn_ => (Kd.cQ (Kd.S_lt (kS HO_11)) k_ hn_)), Or.elim hk_ (fun hs_ => fun e_ => Nat.not_le.2 hs_ (Kd.S_base HO683.out k_ e_.symm)) (fun hn_ => (Kd.cQ (Kd.S_lt (kS HO683)) k_ hn_))⟩)) (aD (kB HB))); replace HO_9 := yD (Kd.S_below (kS HO_9) hb); replace HO_11 := yD (Kd.S_below (kS HO_11) hb); replace HO683 := yD (Kd.S_below (kS HO683) hb); replace HB := zX HB hb
    refine hK.out _ _ ⟨HS0_, HS1_⟩ (fun hHeld => ?_)
    clear hK K
    refine nZ 58 ?_
    refine qo 17 12 32767 (some 64) fun K hK => ?_
    refine qg Try.func84 _ ((bN.calls k1 (fun k_ => k_ < w.heap.size) _ _ l2 (rd t675 x13_1) t689 _ ?z1 A34.out).mono ?_)
    (case z1 => exact Kd.V_mk HC2.out (Kd.F_below (Kd.C_F k33_heap HR2.out) (kB HB)))
    rintro e w38 ⟨v690, rfl, ho0, hb⟩
    have HS0_ := (hb.cell (zQ _ _ (hHeld.1))).trans (hHeld.1)
    have HS1_ := (hb.cell (zQ _ _ (hHeld.2))).trans (hHeld.2)
    refine ⟨_, rfl, ?_⟩
    replace HO_10 := yD (Kd.V_below (kU HO_10) hb); replace HO687 := yD (Kd.V_below (kU HO687) hb); have HO691 := yD (Kd.V_lower (Kd.V_mono (ok' := fun k_ => oB u9 k_ ∧ oB u11 k_ ∧ oB v682 k_) ho0 (fun k_ hk_ => ⟨Or.elim hk_ (fun hs_ => fun e_ => Nat.not_le.2 hs_ (Kd.S_base HO_9.out k_ e_.symm)) (fun hn_ => (Kd.cQ (Kd.S_lt (kS HO_9)) k_ hn_)), Or.elim hk_ (fun hs_ => fun e_ => Nat.not_le.2 hs_ (Kd.S_base HO_11.out k_ e_.symm)) (fun hn_ => (Kd.cQ (Kd.S_lt (kS HO_11)) k_ hn_)), Or.elim hk_ (fun hs_ => fun e_ => Nat.not_le.2 hs_ (Kd.S_base HO683.out k_ e_.symm)) (fun hn_ => (Kd.cQ (Kd.S_lt (kS HO683)) k_ hn_))⟩)) (aD (kB HB))); replace HO_9 := yD (Kd.S_below (kS HO_9) hb); replace HO_11 := yD (Kd.S_below (kS HO_11) hb); replace HO683 := yD (Kd.S_below (kS HO683) hb); replace HB := zX HB hb
    obtain ⟨Ao39, co39, eo39⟩ := Kd.V_slice HO687.out
    (first | subst eo39 | (injection eo39 with f1_ f2_ f3_; have f4_ := f1_.symm; have f5_ := f3_.symm; clear f1_ f2_ f3_; subst f4_; subst f5_))
    obtain ⟨Ao40, co40, eo40⟩ := Kd.V_slice HO691.out
    (first | subst eo40 | (injection eo40 with f1_ f2_ f3_; have f4_ := f1_.symm; have f5_ := f3_.symm; clear f1_ f2_ f3_; subst f4_; subst f5_))
    refine hK.out _ _ ⟨HS0_, HS1_⟩ (fun hHeld => ?_)
    clear hK K
    refine nZ 64 ?_
    refine qo 17 15 65535 (some 67) fun K hK => ?_
    refine qg Try.func56 _ ((ih k1 (by have := HK1.out; omega) a0 _ _ t685 _ _ t689 (wrap64 (a3 - 1)) t692 _ ?z1 ?z2 ?z3 ?z4 A35.out).mono ?_)
    (case z1 => exact kV (Kd.cV HO687.out).2.2)
    (case z2 => exact (Kd.cV HO687.out).2.1)
    (case z3 => exact kV (Kd.cV HO691.out).2.2)
    (case z4 => exact (Kd.cV HO691.out).2.1)
    rintro e w41 ⟨v693, rfl, ho0, hb⟩
    have HS0_ := (hb.cell (zQ _ _ (hHeld.1))).trans (hHeld.1)
    have HS1_ := (hb.cell (zQ _ _ (hHeld.2))).trans (hHeld.2)
    refine ⟨_, rfl, ?_⟩
    replace HO_10 := yD (Kd.bR (kU HO_10) (Kd.S_base ho0) hb); replace HO687 := yD (Kd.bR (kU HO687) (Kd.S_base ho0) hb); replace HO691 := yD (Kd.bR (kU HO691) (Kd.S_base ho0) hb); have HO694 := yD (zG (zD (zD (zD ho0 (Kd.S_lt (kS HO_9))) (Kd.S_lt (kS HO_11))) (Kd.S_lt (kS HO683))) (aD (kB HB))); replace HO_9 := yD (Kd.S_elder' (kS HO_9) (Kd.S_base ho0) hb); replace HO_11 := yD (Kd.S_elder' (kS HO_11) (Kd.S_base ho0) hb); replace HO683 := yD (Kd.S_elder' (kS HO683) (Kd.S_base ho0) hb); replace HB := zX HB hb
    refine hK.out _ _ ⟨HS0_, HS1_⟩ (fun hHeld => ?_)
    clear hK K
    refine nZ 67 ?_
    refine qa 17 16 131071 ?_
    refine qd ?_
    try go_wp2
    go_meet
    case rel => exact ⟨_, (t692), H', ⟨by have := HK1.out; first | omega | exact Nat.le_refl _⟩, ⟨mS HO_9 (fun _ hk => ⟨hk.1.1, hk.2⟩)⟩, ⟨mV HO_10 (fun _ hk => ⟨hk.1.1.1, ⟨hk.1.1.2, hk.2⟩⟩)⟩, ⟨mS HO_11 (fun _ hk => ⟨hk.1.1, hk.2⟩)⟩, ⟨mS HO694 (fun _ hk => ⟨hk.1.1.2, hk.1.2⟩)⟩, ⟨kR0 HB⟩⟩
   case rest =>
    clear HC27
    obtain ⟨kq, x14_26, HA, HJ26, HO_9, HO_10, HO_11, HO_14, HB⟩ := hcut
    cases kq with
    | zero => exact absurd HA.out (by simp [aJ.j1])
    | succ kj26 =>
     have H := HA.out; clear HA
     simp only [aJ.j1] at H
     have HC42 := yD H
     clear H
     go_upto_region 15 with (fail)
     go_cut [74] (fun v74 wc => ∃ (kq : Nat) (x74_41 : Bool), v74 = .bool x74_41 ∧ aC (aJ.j2 kq a0 l1 l2 a3 x9_1 t675 x11_1 x12_1 x13_1 x14_26 x74_41 = some r) ∧ aC (kq ≤ kj26) ∧ aC (Kd.S k33 33 wc w.heap.size (fun k_ => oB u11 k_ ∧ oB u14 k_) u9 x9_1) ∧ aC (Kd.V (Kd.int .i64) 2 wc w.heap.size (fun k_ => oB u9 k_ ∧ oB u11 k_ ∧ oB u14 k_) (.slice Ao28 t675.length co28) t675) ∧ aC (Kd.S k33 33 wc w.heap.size (fun k_ => oB u9 k_ ∧ oB u14 k_) u11 x11_1) ∧ aC (Kd.S k33 33 wc w.heap.size (fun k_ => oB u9 k_ ∧ oB u11 k_) u14 x14_26) ∧ aC (Below w.heap.size w wc))
     case first =>
      have H := HC42.out; clear HC42
      replace H := sC H; rcases H with ⟨c43, H⟩ | ⟨c43, H⟩
      ·
       have c43b0 : decide (0 < x13_1) = false := zS c43; clear c43
       (first | rw [c43b0] | (simp only [i64_w, i32_w]; rw [c43b0]) | (simp only [bne] at c43b0; rw [c43b0]) | skip)
       have H' := yD H
       clear H
       go_wp2
       go_meet
       case rel => exact ⟨_, (false), kF, H', ⟨by have := HK1.out; have := HJ26.out; first | omega | exact Nat.le_refl _⟩, ⟨kS HO_9⟩, ⟨kU HO_10⟩, ⟨kS HO_11⟩, ⟨kS HO_14⟩, ⟨kR0 HB⟩⟩
      have c43b0 : decide (0 < x13_1) = true := zR c43; clear c43
      (first | rw [c43b0] | (simp only [i64_w, i32_w]; rw [c43b0]) | (simp only [bne] at c43b0; rw [c43b0]) | skip)
      replace ⟨t695, A44, H⟩ := sV H
      have H' := yD H
      clear H
      obtain ⟨Ao45, co45, eo45⟩ := Kd.S_slice HO_14.out
      subst eo45
      obtain ⟨Ao46, co46, eo46⟩ := Kd.S_slice HO_11.out
      subst eo46
      go_wp2_with (first | (go_at_call 85; (with_reducible refine (cX.calls kj26 _ _ x14_26 _ _ x11_1 t695 _ ?z1 ?z3 A44.out).mono ?_); (case z1 => exact ⟨kV (Kd.S_reads' HO_14.out).2.2, (Kd.S_reads' HO_14.out).2.1⟩); (case z3 => exact ⟨kV (Kd.S_reads' HO_11.out).2.2, (Kd.S_reads' HO_11.out).2.1⟩); rintro e w47 ⟨rfl, hb⟩; replace HO_9 := yD (Kd.S_below (kS HO_9) hb); replace HO_10 := yD (Kd.V_below (kU HO_10) hb); replace HO_11 := yD (Kd.S_below (kS HO_11) hb); replace HO_14 := yD (Kd.S_below (kS HO_14) hb); replace HB := zX HB hb; clear hb))
      go_meet
      case rel => exact ⟨_, (t695), kF, H', ⟨by have := HK1.out; have := HJ26.out; first | omega | exact Nat.le_refl _⟩, ⟨kS HO_9⟩, ⟨kU HO_10⟩, ⟨kS HO_11⟩, ⟨kS HO_14⟩, ⟨kR0 HB⟩⟩
     case rest =>
      clear HC42
      obtain ⟨kq, x74_41, rfl, HA, HJ41, HO_9, HO_10, HO_11, HO_14, HB⟩ := hcut
      cases kq with
      | zero => exact absurd HA.out (by simp [aJ.j2])
      | succ kj41 =>
       have H := HA.out; clear HA
       simp only [aJ.j2] at H
       replace H := sT H; rcases H with ⟨rfl, H⟩ | ⟨rfl, H⟩
       · have H' := yD H
         clear H
         go_wp2
         go_roundg kj41
         case measure => have := HK1.out; have := HJ26.out; have := HJ41.out; omega
         case rel => exact ⟨(x9_1), (x11_1), (x12_1), (wrap64 (x13_1 + 1)), kF, kF, H', ⟨by have := HK1.out; have := HJ26.out; have := HJ41.out; omega⟩, ⟨mS HO_9 (fun _ hk => hk.1)⟩, ⟨mV HO_10 (fun _ hk => ⟨hk.1, hk.2.1⟩)⟩, ⟨mS HO_11 (fun _ hk => hk.1)⟩, ⟨kR0 HB⟩⟩
       have H' := yD H
       clear H
       go_wp2
       go_loopg [9, 15] kj41 (fun kq v9 v15 w' => ∃ (x9_4 : List (S33)) (x15_4 : Int), v15 = .int .i64 x15_4 ∧ aC (aJ.l1 kq a0 l1 l2 a3 x9_4 t675 x11_1 x12_1 x13_1 x14_26 x15_4 = some r) ∧ aC (kq ≤ kj41) ∧ aC (Kd.S k33 33 w' w.heap.size (fun k_ => oB u11 k_ ∧ oB u14 k_) v9 x9_4) ∧ aC (Kd.V (Kd.int .i64) 2 w' w.heap.size (fun k_ => oB v9 k_ ∧ oB u11 k_ ∧ oB u14 k_) (.slice Ao28 t675.length co28) t675) ∧ aC (Kd.S k33 33 w' w.heap.size (fun k_ => oB v9 k_ ∧ oB u14 k_) u11 x11_1) ∧ aC (Kd.S k33 33 w' w.heap.size (fun k_ => oB v9 k_ ∧ oB u11 k_) u14 x14_26) ∧ aC (Below w.heap.size w w'))
       case atStart => exact ⟨(x9_1), (0), kF, H', ⟨Nat.le_refl _⟩, ⟨kS HO_9⟩, ⟨kU HO_10⟩, ⟨kS HO_11⟩, ⟨kS HO_14⟩, ⟨kR0 HB⟩⟩
       case round =>
        clear H'
        obtain ⟨x9_4, x15_4, rfl, HA, HK4, HO_9, HO_10, HO_11, HO_14, HB⟩ := hrel
        cases gk with
        | zero => exact absurd HA.out (by simp [aJ.l1])
        | succ k4 =>
         have H := HA.out; clear HA
         simp only [aJ.l1] at H
         replace H := sG H; rcases H with ⟨c49b0, H⟩ | ⟨c49b0, H⟩
         ·
          replace ⟨c67b0, H⟩ := sE H
          replace ⟨c68b0, H⟩ := sE H
          have H' := yD H
          clear H
          obtain ⟨Ao69, co69, eo69⟩ := Kd.S_slice HO_11.out
          subst eo69
          obtain ⟨p714, q714, ad714, e714, hx714_0⟩ := sI (Kd.aX (Kd.cV HO_10.out).2.2 x13_1)
          cases e714
          go_wp2
          go_roundg k4
          case measure => have := HK1.out; have := HJ26.out; have := HJ41.out; have := HK4.out; omega
          case rel => exact ⟨(x9_4), (x14_26), (rd t675 x13_1), (wrap64 (x13_1 + 1)), kF, kF, H', ⟨by have := HK1.out; have := HJ26.out; have := HJ41.out; have := HK4.out; omega⟩, ⟨mS HO_9 (fun _ hk => hk.2)⟩, ⟨mV HO_10 (fun _ hk => ⟨hk.1, hk.2.2⟩)⟩, ⟨mS HO_14 (fun _ hk => hk.1)⟩, ⟨kR0 HB⟩⟩
         generalize hy696 : ((([x12_1] : List Int)) : List Int) = y696 at H
         have Ny696 := yD hy696.symm
         clear hy696
         replace ⟨c50b0, H⟩ := sE H
         replace ⟨LMc51, H⟩ := sM H
         generalize hy700 : ((y696 ++ ((aA x11_1 x15_4).f0)) : List Int) = y700 at H
         have Ny700 := yD hy700.symm
         clear hy700
         replace ⟨c52b0, H⟩ := sE H
         replace ⟨c53b0, H⟩ := sE H
         generalize hy704 : ((([rd t675 x13_1] : List Int)) : List Int) = y704 at H
         have Ny704 := yD hy704.symm
         clear hy704
         replace ⟨LMc54, H⟩ := sM H
         generalize hy708 : ((y704 ++ ((aA x11_1 x15_4).f1)) : List Int) = y708 at H
         have Ny708 := yD hy708.symm
         clear hy708
         replace ⟨LMc55, H⟩ := sM H
         generalize hy711 : ((x9_4 ++ [(⟨y700, y708⟩ : S33)]) : List (S33)) = y711 at H
         have Ny711 := yD hy711.symm
         clear hy711
         have H' := yD H
         clear H
         obtain ⟨Ao56, co56, eo56⟩ := Kd.S_slice HO_11.out
         subst eo56
         try go_wp2_with (first | (refine gD 82 ?_; refine Kd.R_lit (Kd.int .i64) _ 2 ?hg (N := 82) ?hd (xs := ([x12_1] : List Int)) (inner := [.int .i64 x12_1]) (ok := fun _ => True) (okp := fun _ => True) ?hr ?hp (fun _ hk => hk) trivial (Below.refl _ _) (Nat.le_refl _) (by simp) ?_; (case hd => rfl); (case hg => rfl); (case hr => first | (go_simp; done) | (go_simp; rfl)); (case hp => exact (cW.one (show Kd.M (Kd.int .i64) _ _ _ x12_1 [.int .i64 x12_1] from rfl) (cW.none _ _))); intro v697 w57 ho58 hb hg_ hnew_; clear hg_ hnew_; (first | rw [← Ny696.out] at ho58 | (simp only [Int.reduceToNat] at ho58; rw [← Ny696.out] at ho58)); replace HO_9 := yD (Kd.S_elder' (kS HO_9) (yH ho58) hb); replace HO_10 := yD (Kd.bR (kU HO_10) (yH ho58) hb); replace HO_11 := yD (Kd.S_elder' (kS HO_11) (yH ho58) hb); replace HO_14 := yD (Kd.S_elder' (kS HO_14) (yH ho58) hb); have HO698 := yD (yZ ho58 (aD (kB HB))); replace HB := zX HB hb; clear hb ho58; have p699 : 0 ≤ (x15_4 : Int) := zP (by assumption); have q699 : x15_4 < (x11_1.length : Int) := zP (by assumption); obtain ⟨ad699, A699_0, c699_0, A699_1, c699_1, e699, hx699_0, hx699_1, HC699_0, HR699_0, HC699_1, HR699_1⟩ := at_T33 (Kd.S_reads' HO_11.out).2.2 x15_4 p699 q699; cases e699; obtain ⟨ce699, hce699, hMe699, hcc699⟩ := Kd.S_get HO_11.out z33 x15_4 p699 (by first | exact q699 | exact zP (by assumption) | (have e_ := (Kd.S_reads' HO_11.out).1; omega)); obtain ⟨ve699_0, ve699_1, rfl, ge699_0, ge699_1⟩ := k33_openM hMe699; have hv699_0 := hcc699 0 _ rfl; rw [Nat.add_zero] at hv699_0; replace hv699_0 := Option.some.inj (hv699_0.symm.trans hx699_0); rw [hv699_0] at ge699_0; have HL699_0 := yD (show Kd.R (Kd.int .i64) 2 _ _ _ _ ((aA x11_1 x15_4).f0) from ge699_0); clear hv699_0 ge699_0; have hv699_1 := hcc699 1 _ rfl; rw [add_field _ _ 1 (by omega)] at hv699_1; replace hv699_1 := Option.some.inj (hv699_1.symm.trans hx699_1); rw [hv699_1] at ge699_1; have HL699_1 := yD (show Kd.R (Kd.int .i64) 2 _ _ _ _ ((aA x11_1 x15_4).f1) from ge699_1); clear hv699_1 ge699_1; clear hcc699 hce699; replace p699 := eq_true p699; replace q699 := eq_true q699) | ((with_reducible refine gate_builtin (b := .append) (xs := #[.tmp 82, .tmp 87]) rfl ?_); at_builtin; refine Kd.R_append_rows (Kd.int .i64) (w0 := w) w.heap.size rfl (.tmp 82) (.tmp 87) 23 2 (.int .i64 0) 8 rfl Try.underlying23 info2 rfl (by decide) (by omega) v697 y696 ((aA x11_1 x15_4).f0) _ _ _ (fun _ => True) (fun _ => False) rfl rfl ?aO ?aR (fun _ _ h => h) (fun _ h => h.elim) ?aF ?aB ?aS ?aL ?_; (case aR => repeat (first | exact (by repeat (first | (with_reducible exact HR699_0.out) | (with_reducible first | refine yV ?_ _ | refine yW ?_ _ | refine yX ?_) | exact HR699_0.out)) | (with_reducible first | refine yV ?_ _ | refine yW ?_ _ | refine yX ?_))); (case aB => exact (kB HB)); (case aF => exact (fun _ _ => trivial)); (case aO => exact (kA HO698)); (case aS => exact (aD (kB HB))); (case aL => have := LMc51.out; omega); intro v701 w59 ho hb hg hat; rw [← Ny700.out] at ho; replace HO_9 := yD (Kd.S_after (ok := (fun k_ => oB (.slice (some ad699) x11_1.length co56) k_ ∧ oB u14 k_)) (kS HO_9) hg hat); replace HO_10 := yD (Kd.V_afterv (ok := (fun k_ => oB u9 k_ ∧ oB (.slice (some ad699) x11_1.length co56) k_ ∧ oB u14 k_)) (kU HO_10) hg hat); replace HO_11 := yD (Kd.S_after (ok := (fun k_ => oB u9 k_ ∧ oB u14 k_)) (kS HO_11) hg hat); replace HO_14 := yD (Kd.S_after (ok := (fun k_ => oB u9 k_ ∧ oB (.slice (some ad699) x11_1.length co56) k_)) (kS HO_14) hg hat); replace HL699_0 := yD (Kd.R_after (ok := (fun k_ => oB u9 k_ ∧ oB (.slice (some ad699) x11_1.length co56) k_ ∧ oB u14 k_)) (mR HL699_0 (fun _ hk => ⟨⟨hk.1.1.1, ⟨hk.2, hk.1.1.2⟩⟩, hk.1.2⟩)) hg hat); replace HL699_1 := yD (Kd.R_after (ok := (fun k_ => oB u9 k_ ∧ oB (.slice (some ad699) x11_1.length co56) k_ ∧ oB u14 k_)) (mR HL699_1 (fun _ hk => ⟨⟨hk.1.1.1, ⟨hk.2, hk.1.1.2⟩⟩, hk.1.2⟩)) hg hat); replace HB := yD (hb); have HO702 := yD (ho); clear HO698; clear ho hb hg hat))
         replace HO_9 := yD (yU HO_9.out); replace HO_10 := yD (Kd.V_drew HO_10.out); replace HO_11 := yD (yU HO_11.out); replace HO_14 := yD (yU HO_14.out); replace HL699_0 := yD (yC HL699_0.out); replace HL699_1 := yD (yC HL699_1.out); replace HO702 := yD (yC HO702.out); replace HB := yD (yP HB.out)
         obtain ⟨p703, q703, ad703, e703, hx703_0⟩ := sI (Kd.aX (Kd.cV HO_10.out).2.2 x13_1)
         cases e703
         have p707 : 0 ≤ (x15_4 : Int) := zP (by assumption)
         have q707 : x15_4 < (x11_1.length : Int) := zP (by assumption)
         obtain ⟨ad707, A707_0, c707_0, A707_1, c707_1, e707, hx707_0, hx707_1, HC707_0, HR707_0, HC707_1, HR707_1⟩ := at_T33 (Kd.S_reads' HO_11.out).2.2 x15_4 p707 q707
         obtain rfl : ad699 = ad707 := (by injection e707)
         obtain ⟨ce707, hce707, hMe707, hcc707⟩ := Kd.S_get HO_11.out z33 x15_4 p707 (by first | exact q707 | exact zP (by assumption) | (have e_ := (Kd.S_reads' HO_11.out).1; omega))
         obtain ⟨ve707_0, ve707_1, rfl, ge707_0, ge707_1⟩ := k33_openM hMe707
         have hv707_0 := hcc707 0 _ rfl
         rw [Nat.add_zero] at hv707_0
         replace hv707_0 := Option.some.inj (hv707_0.symm.trans hx707_0)
         rw [hv707_0] at ge707_0
         have HL707_0 := yD (show Kd.R (Kd.int .i64) 2 _ _ _ _ ((aA x11_1 x15_4).f0) from ge707_0)
         clear hv707_0 ge707_0
         have hv707_1 := hcc707 1 _ rfl
         rw [add_field _ _ 1 (by omega)] at hv707_1
         replace hv707_1 := Option.some.inj (hv707_1.symm.trans hx707_1)
         rw [hv707_1] at ge707_1
         have HL707_1 := yD (show Kd.R (Kd.int .i64) 2 _ _ _ _ ((aA x11_1 x15_4).f1) from ge707_1)
         clear hv707_1 ge707_1 hcc707 hce707
         replace p707 := eq_true p707; replace q707 := eq_true q707
         refine start_ (n := 12) (S := fun w' => w'.cell? (ad703.add (x13_1).toNat) = some (.int .i64 (rd t675 x13_1)) ∧ w'.cell? (ad699.add ((x15_4).toNat * 2)) = some (.slice A707_0 ((aA x11_1 x15_4).f0).length c707_0) ∧ w'.cell? ⟨(ad699.add ((x15_4).toNat * 2)).block, (ad699.add ((x15_4).toNat * 2)).off + 1, none⟩ = some (.slice A707_1 ((aA x11_1 x15_4).f1).length c707_1)) (ds := [10]) (bz 12 0) (by kernel_rfl) rfl rfl ⟨hx703_0, hx707_0, hx707_1⟩ (fun hHeld => ?_); refine with_tabW aJ.tab20 aJ.bits20 (fun HT_ HW_ => ?_)
         generalize w59.drew = w60 at HO_9 HO_10 HO_11 HO_14 HL699_0 HL699_1 HO702 HB HL707_0 HL707_1 HR707_0 HR707_1 hx703_0 hx707_0 hx707_1 hHeld ⊢
         refine qa 12 0 1 ?_; refine qa 12 1 3 ?_; refine qa 12 2 7 ?_; refine qa 12 5 39 ?_; refine qa 12 6 103 ?_; refine qa 12 7 231 ?_; refine qa 12 8 487 ?_; refine qc 12 3 495 hHeld ?_; refine qc 12 9 1007 hHeld ?_
         refine qo 12 4 1023 (some 93) fun K hK => ?_
         refine Kd.R_lit_step (Kd.int .i64) _ 2 ?hg (N := 93) ?hd (xs := ([rd t675 x13_1] : List Int)) (inner := [.int .i64 (rd t675 x13_1)]) (ok := fun _ => True) (okp := fun _ => True) ?hr ?hp (fun _ hk => hk) trivial (Below.refl _ _) (Nat.le_refl _) (by simp) ?_; (case hd => rfl); (case hg => rfl); (case hr => first | (go_simp; done) | (go_simp; rfl)); (case hp => exact (cW.one (show Kd.M (Kd.int .i64) _ _ _ (rd t675 x13_1) [.int .i64 (rd t675 x13_1)] from rfl) (cW.none _ _)))
         intro v705 w61 ho62 hb hg_ hnew_
         have HS0_ := (hb.cell (zQ _ _ (hHeld.1))).trans (hHeld.1)
         have HS1_ := (hb.cell (zQ _ _ (hHeld.2.1))).trans (hHeld.2.1)
         have HS2_ := (hb.cell (zQ _ _ (hHeld.2.2))).trans (hHeld.2.2)
         clear hg_ hnew_
         (first | rw [← Ny704.out] at ho62 | (simp only [Int.reduceToNat] at ho62; rw [← Ny704.out] at ho62))
         have n0_ := yD (Kd.S_elder' (kS HO_9) (yH ho62) hb)
         have n1_ := yD (Kd.bR (kU HO_10) (yH ho62) hb)
         have n2_ := yD (Kd.S_elder' (kS HO_11) (yH ho62) hb)
         have n3_ := yD (Kd.S_elder' (kS HO_14) (yH ho62) hb)
         have n4_ := yD (Kd.R_elder' (kA HL699_0) (yH ho62) hb)
         have n5_ := yD (Kd.R_elder' (kA HL699_1) (yH ho62) hb)
         have n6_ := yD (Kd.R_elder' (kA HO702) (yH ho62) hb)
         have n7_ := yD (Kd.R_elder' (kA HL707_0) (yH ho62) hb)
         have n8_ := yD (Kd.R_elder' (kA HL707_1) (yH ho62) hb)
         have n9_ := yD (yZ (yJ (yJ (yJ (yJ (yJ ho62 (yK (kA HL699_0))) (yK (kA HL699_1))) (yK (kA HO702))) (yK (kA HL707_0))) (yK (kA HL707_1))) (aD (kB HB)))
         have n10_ := yD (yY (by repeat (first | (with_reducible exact HR707_0.out) | (with_reducible first | refine yV ?_ _ | refine yW ?_ _ | refine yX ?_) | exact HR707_0.out)) hb)
         have n11_ := yD (yY (by repeat (first | (with_reducible exact HR707_1.out) | (with_reducible first | refine yV ?_ _ | refine yW ?_ _ | refine yX ?_) | exact HR707_1.out)) hb)
         have n12_ := yD (zC (kB HB) hb)
         clear HO_9 HO_10 HO_11 HO_14 HL699_0 HL699_1 HO702 HL707_0 HL707_1 HR707_0 HR707_1 HB; have HO_9 := n0_; have HO_10 := n1_; have HO_11 := n2_; have HO_14 := n3_; have HL699_0 := n4_; have HL699_1 := n5_; have HO702 := n6_; have HL707_0 := n7_; have HL707_1 := n8_; have HO706 := n9_; have HR707_0 := n10_; have HR707_1 := n11_; have HB := n12_; clear n0_ n1_ n2_ n3_ n4_ n5_ n6_ n7_ n8_ n9_ n10_ n11_ n12_ hb ho62
         refine hK.out _ _ ⟨HS0_, HS1_, HS2_⟩ (fun hHeld => ?_)
         clear hK K
         refine nZ 93 ?_
         refine last_ (i := 10) (N := some 99) #[true, true, true, true, true, true, true, true, true, true, true, false] rfl rfl (one_of HT_.out (by kernel_rfl)) (by decide) (fun K hK => ?_)
         refine Kd.R_append_rows_step (Kd.int .i64) (w0 := w) w.heap.size (by rfl) (.tmp 93) (.tmp 98) 23 2 (.int .i64 0) 8 rfl Try.underlying23 info2 rfl (by decide) (by omega) v705 y704 ((aA x11_1 x15_4).f1) _ _ _ (fun k_ => some k_ ≠ (.slice A699_0 ((aA x11_1 x15_4).f0).length c699_0 : Value).ownBlock ∧ some k_ ≠ (.slice A699_1 ((aA x11_1 x15_4).f1).length c699_1 : Value).ownBlock ∧ oB v701 k_ ∧ some k_ ≠ (.slice A707_0 ((aA x11_1 x15_4).f0).length c707_0 : Value).ownBlock ∧ some k_ ≠ (.slice A707_1 ((aA x11_1 x15_4).f1).length c707_1 : Value).ownBlock) (fun _ => False) rfl rfl ?aO ?aR (fun _ _ h => h) (fun _ h => h.elim) ?aF ?aB ?aS ?aL ?_
         (case aR => repeat (first | exact (by repeat (first | (with_reducible exact HR707_1.out) | (with_reducible first | refine yV ?_ _ | refine yW ?_ _ | refine yX ?_) | exact HR707_1.out)) | (with_reducible first | refine yV ?_ _ | refine yW ?_ _ | refine yX ?_)))
         (case aB => exact (kB HB))
         (case aF => exact (fun k_ hk => ⟨Kd.cQ (yK (kA HL699_0)) k_ hk, Kd.cQ (yK (kA HL699_1)) k_ hk, Kd.cQ (yK (kA HO702)) k_ hk, Kd.cQ (yK (kA HL707_0)) k_ hk, Kd.cQ (yK (kA HL707_1)) k_ hk⟩))
         (case aO => exact (mR HO706 (fun _ hk => ⟨hk.1.1.1.1.2, ⟨hk.1.1.1.2, ⟨hk.1.1.2, ⟨hk.1.2, hk.2⟩⟩⟩⟩)))
         (case aS => exact (aD (kB HB)))
         (case aL => have := LMc54.out; omega)
         intro v709 w63 ho hb hg hat
         rw [← Ny708.out] at ho
         have n0_ := yD (Kd.S_after (ok := (fun k_ => oB (.slice (some ad699) x11_1.length co56) k_ ∧ oB u14 k_ ∧ oB v701 k_)) (mS HO_9 (fun _ hk => ⟨⟨hk.1.1.1, ⟨hk.1.1.2, hk.1.2⟩⟩, hk.2⟩)) hg hat)
         have n1_ := yD (Kd.V_afterv (ok := (fun k_ => oB u9 k_ ∧ oB (.slice (some ad699) x11_1.length co56) k_ ∧ oB u14 k_ ∧ oB v701 k_)) (mV HO_10 (fun _ hk => ⟨⟨hk.1.1.1, ⟨hk.1.1.2.1, ⟨hk.1.1.2.2, hk.1.2⟩⟩⟩, hk.2⟩)) hg hat)
         have n2_ := yD (Kd.S_after (ok := (fun k_ => oB u9 k_ ∧ oB u14 k_ ∧ oB v701 k_)) (mS HO_11 (fun _ hk => ⟨⟨hk.1.1.1, ⟨hk.1.1.2, hk.1.2⟩⟩, hk.2⟩)) hg hat)
         have n3_ := yD (Kd.S_after (ok := (fun k_ => oB u9 k_ ∧ oB (.slice (some ad699) x11_1.length co56) k_ ∧ oB v701 k_)) (mS HO_14 (fun _ hk => ⟨⟨hk.1.1.1, ⟨hk.1.1.2, hk.1.2⟩⟩, hk.2⟩)) hg hat)
         have n4_ := yD (Kd.R_after (ok := (fun k_ => oB u9 k_ ∧ oB (.slice (some ad699) x11_1.length co56) k_ ∧ oB u14 k_ ∧ oB v701 k_)) (mR HL699_0 (fun _ hk => ⟨⟨hk.1.1.1, ⟨hk.1.1.2.1, ⟨hk.1.1.2.2, hk.1.2⟩⟩⟩, hk.2⟩)) hg hat)
         have n5_ := yD (Kd.R_after (ok := (fun k_ => oB u9 k_ ∧ oB (.slice (some ad699) x11_1.length co56) k_ ∧ oB u14 k_ ∧ oB v701 k_)) (mR HL699_1 (fun _ hk => ⟨⟨hk.1.1.1, ⟨hk.1.1.2.1, ⟨hk.1.1.2.2, hk.1.2⟩⟩⟩, hk.2⟩)) hg hat)
         have n6_ := yD (Kd.R_after (ok := (fun _ => True)) (kA HO702) hg hat)
         have n7_ := yD (Kd.R_after (ok := (fun k_ => oB u9 k_ ∧ oB (.slice (some ad699) x11_1.length co56) k_ ∧ oB u14 k_ ∧ oB v701 k_)) (mR HL707_0 (fun _ hk => ⟨⟨hk.1.1.1.1, ⟨hk.1.2, ⟨hk.1.1.1.2, hk.1.1.2⟩⟩⟩, hk.2⟩)) hg hat)
         have n8_ := yD (Kd.R_after (ok := (fun k_ => oB u9 k_ ∧ oB (.slice (some ad699) x11_1.length co56) k_ ∧ oB u14 k_ ∧ oB v701 k_)) (mR HL707_1 (fun _ hk => ⟨⟨hk.1.1.1.1, ⟨hk.1.2, ⟨hk.1.1.1.2, hk.1.1.2⟩⟩⟩, hk.2⟩)) hg hat)
         have n9_ := yD (hb)
         have n10_ := yD (ho)
         clear HO_9 HO_10 HO_11 HO_14 HL699_0 HL699_1 HO702 HL707_0 HL707_1 HB HO706; have HO_9 := n0_; have HO_10 := n1_; have HO_11 := n2_; have HO_14 := n3_; have HL699_0 := n4_; have HL699_1 := n5_; have HO702 := n6_; have HL707_0 := n7_; have HL707_1 := n8_; have HB := n9_; have HO710 := n10_; clear n0_ n1_ n2_ n3_ n4_ n5_ n6_ n7_ n8_ n9_ n10_ ho hb hg hat
         refine hK.out _ _ ?_
         clear hK K
         refine nZ 99 ?_
         refine qa 12 11 4095 ?_
         refine qd ?_
         obtain ⟨Ao64, co64, eo64⟩ := Kd.bS HO710.out
         subst eo64
         obtain ⟨Ao65, co65, eo65⟩ := Kd.bS HO702.out
         subst eo65
         try go_wp2_with (first | ((with_reducible refine gate_builtin (b := .append) (xs := #[.tmp 100, .tmp 104]) rfl ?_); at_builtin; refine Kd.S_append k33 (w0 := w) w.heap.size rfl (.tmp 100) (.tmp 104) 29 33 (.agg #[(.slice none 0 0), (.slice none 0 0)]) 48 rfl Try.underlying29 info33 rfl (by decide) (by omega) u9 x9_4 (⟨y700, y708⟩ : S33) [.slice Ao65 y700.length co65, .slice Ao64 y708.length co64] (fun k_ => oB (.slice (some ad699) x11_1.length co56) k_ ∧ oB u14 k_) (fun k_ => some k_ = (.slice Ao65 y700.length co65 : Value).ownBlock ∨ some k_ = (.slice Ao64 y708.length co64 : Value).ownBlock) rfl rfl ?aP (fun k_ hk_ => hk_.elim (fun h_ => ((zF (ok' := fun k_ => ((fun k_ => oB (.slice (some ad699) x11_1.length co56) k_ ∧ oB u14 k_)) k_ ∧ oB u9 k_) (Kd.cH (Kd.cH (Kd.cH (HO702.out) (Kd.S_typed HO_11.out) (by decide)) (Kd.S_typed HO_14.out) (by decide)) (Kd.S_typed HO_9.out) (by decide)) (fun k_ hk => ⟨⟨hk.1.1.2, hk.1.2⟩, hk.2⟩))).1 k_ h_.symm) (fun h_ => ((zF (ok' := fun k_ => ((fun k_ => oB (.slice (some ad699) x11_1.length co56) k_ ∧ oB u14 k_)) k_ ∧ oB u9 k_) (Kd.cH (Kd.cH (Kd.cH (HO710.out) (Kd.S_typed HO_11.out) (by decide)) (Kd.S_typed HO_14.out) (by decide)) (Kd.S_typed HO_9.out) (by decide)) (fun k_ hk => ⟨⟨hk.1.1.2, hk.1.2⟩, hk.2⟩))).1 k_ h_.symm)) ?aF ?aO ?aB ?aS ?aL ?_; (case aP => exact k33_mkM _ _ _ (⟨y700, y708⟩ : S33) (zF (Kd.R_tight rfl (zF (ok' := fun k_ => ((fun k_ => oB (.slice (some ad699) x11_1.length co56) k_ ∧ oB u14 k_)) k_ ∧ oB u9 k_) (Kd.cH (Kd.cH (Kd.cH (HO702.out) (Kd.S_typed HO_11.out) (by decide)) (Kd.S_typed HO_14.out) (by decide)) (Kd.S_typed HO_9.out) (by decide)) (fun k_ hk => ⟨⟨hk.1.1.2, hk.1.2⟩, hk.2⟩))) (fun _ h_ => Or.inl h_)) (zF (Kd.R_tight rfl (zF (ok' := fun k_ => ((fun k_ => oB (.slice (some ad699) x11_1.length co56) k_ ∧ oB u14 k_)) k_ ∧ oB u9 k_) (Kd.cH (Kd.cH (Kd.cH (HO710.out) (Kd.S_typed HO_11.out) (by decide)) (Kd.S_typed HO_14.out) (by decide)) (Kd.S_typed HO_9.out) (by decide)) (fun k_ hk => ⟨⟨hk.1.1.2, hk.1.2⟩, hk.2⟩))) (fun _ h_ => Or.inr (h_)))); (case aB => exact (kB HB)); (case aF => exact (fun k_ hk => ⟨Kd.cQ (Kd.S_lt (kS HO_11)) k_ hk, Kd.cQ (Kd.S_lt (kS HO_14)) k_ hk⟩)); (case aO => exact (mS HO_9 (fun k_ hk => ⟨⟨hk.1.1, hk.1.2.1⟩, fun e_ => e_.elim (fun h_ => hk.1.2.2 h_) (fun h_ => hk.2 h_)⟩))); (case aS => exact (aD (kB HB))); (case aL => have := LMc55.out; omega); intro v712 w66 ho hb hg hat; rw [← Ny711.out] at ho; replace HO_10 := yD (Kd.V_afterv (ok := (fun k_ => oB (.slice (some ad699) x11_1.length co56) k_ ∧ oB u14 k_ ∧ oB (.slice Ao65 y700.length co65) k_ ∧ oB (.slice Ao64 y708.length co64) k_)) (mV HO_10 (fun _ hk => ⟨⟨hk.1.2.1, ⟨hk.1.2.2.1, ⟨hk.1.2.2.2, hk.2⟩⟩⟩, hk.1.1⟩)) hg hat); replace HO_11 := yD (Kd.S_after (ok := (fun k_ => oB u14 k_ ∧ oB (.slice Ao65 y700.length co65) k_ ∧ oB (.slice Ao64 y708.length co64) k_)) (mS HO_11 (fun _ hk => ⟨⟨hk.1.2.1, ⟨hk.1.2.2, hk.2⟩⟩, hk.1.1⟩)) hg hat); replace HO_14 := yD (Kd.S_after (ok := (fun k_ => oB (.slice (some ad699) x11_1.length co56) k_ ∧ oB (.slice Ao65 y700.length co65) k_ ∧ oB (.slice Ao64 y708.length co64) k_)) (mS HO_14 (fun _ hk => ⟨⟨hk.1.2.1, ⟨hk.1.2.2, hk.2⟩⟩, hk.1.1⟩)) hg hat); replace HL699_0 := yD (Kd.R_after (ok := (fun k_ => oB (.slice (some ad699) x11_1.length co56) k_ ∧ oB u14 k_ ∧ oB (.slice Ao65 y700.length co65) k_ ∧ oB (.slice Ao64 y708.length co64) k_)) (mR HL699_0 (fun _ hk => ⟨⟨hk.1.2.1, ⟨hk.1.2.2.1, ⟨hk.1.2.2.2, hk.2⟩⟩⟩, hk.1.1⟩)) hg hat); replace HL699_1 := yD (Kd.R_after (ok := (fun k_ => oB (.slice (some ad699) x11_1.length co56) k_ ∧ oB u14 k_ ∧ oB (.slice Ao65 y700.length co65) k_ ∧ oB (.slice Ao64 y708.length co64) k_)) (mR HL699_1 (fun _ hk => ⟨⟨hk.1.2.1, ⟨hk.1.2.2.1, ⟨hk.1.2.2.2, hk.2⟩⟩⟩, hk.1.1⟩)) hg hat); replace HL707_0 := yD (Kd.R_after (ok := (fun k_ => oB (.slice (some ad699) x11_1.length co56) k_ ∧ oB u14 k_ ∧ oB (.slice Ao65 y700.length co65) k_ ∧ oB (.slice Ao64 y708.length co64) k_)) (mR HL707_0 (fun _ hk => ⟨⟨hk.1.2.1, ⟨hk.1.2.2.1, ⟨hk.1.2.2.2, hk.2⟩⟩⟩, hk.1.1⟩)) hg hat); replace HL707_1 := yD (Kd.R_after (ok := (fun k_ => oB (.slice (some ad699) x11_1.length co56) k_ ∧ oB u14 k_ ∧ oB (.slice Ao65 y700.length co65) k_ ∧ oB (.slice Ao64 y708.length co64) k_)) (mR HL707_1 (fun _ hk => ⟨⟨hk.1.2.1, ⟨hk.1.2.2.1, ⟨hk.1.2.2.2, hk.2⟩⟩⟩, hk.1.1⟩)) hg hat); replace HB := yD (hb); have HO713 := yD (ho); clear HO_9 HO702 HO710; clear ho hb hg hat))
         go_roundg k4
         case measure => have := HK1.out; have := HJ26.out; have := HJ41.out; have := HK4.out; omega
         case rel => exact ⟨(y711), (wrap64 (x15_4 + 1)), kF, H', ⟨by have := HK1.out; have := HJ26.out; have := HJ41.out; have := HK4.out; omega⟩, ⟨kS HO713⟩, ⟨mV HO_10 (fun _ hk => ⟨hk.2, ⟨hk.1.1, hk.1.2.1⟩⟩)⟩, ⟨mS HO_11 (fun _ hk => ⟨hk.2, hk.1.1⟩)⟩, ⟨mS HO_14 (fun _ hk => ⟨hk.2, hk.1.1⟩)⟩, ⟨kR0 HB⟩⟩
def spec_l07Of.j0 : Nat → List Int → Bool → Int → List Int → List Int → List Int → List Int → List (S68) → Option ((List (S33)))
 | 0, _, _, _, _, _, _, _, _ => none
 | k + 1, x0, x12, x716000, x716001, x716002, x716003, x716004, x716005 => if x12 = true then (if 0 ≤ (x0.length : Int) then (if ((x0.length : Int) : Int).toNat ≤ 35184372088832 then ((spec_l00Own.f x0).bind fun t720 => (some (([(⟨(List.replicate ((x0.length : Int) : Int).toNat 0), t720⟩ : S33)] : List (S33))))) else (none)) else (none)) else ((aH.f k x0 x716000 x716001 x716002 x716003 x716004 x716005).bind fun t726 => ((cO.f k x0 t726).bind fun t729 => ((aJ.f k 1 t729 ([] : List (S33)) (x0.length : Int)).bind fun t732 => (some t732))))
def spec_l07Of.f (k : Nat) (l0 : List Int) (a1_0 : Int) (l1_1 l1_2 : List Int) (l1_3 l1_4 : List Int) (l1_5 : List (S68)) : Option ((List (S33))) := if a1_0 = 1 then ((cE.f k l0).bind fun t716 => (spec_l07Of.j0 k l0 (decide (t716 > 0)) a1_0 l1_1 l1_2 l1_3 l1_4 l1_5)) else (spec_l07Of.j0 k l0 false a1_0 l1_1 l1_2 l1_3 l1_4 l1_5)
def spec_l07Of.T2 : Bool × List (List Nat × List Nat) := (true, [([], []), ([0], [0]), ([1, 1], [1]), ([], []), ([3], [3]), ([2, 4], [2, 4]), ([5], [5]), ([6, 4, 0, 1, 2, 3, 4, 5, 6], [6])])
def spec_l07Of.B2 : List Nat := [0, 1, 3, 0, 8, 31, 63, 127]
theorem spec_l07Of.tab2 : rtab .any (opsOf Try.f25 2) = spec_l07Of.T2 := by kernel_rfl
theorem spec_l07Of.bits2 : waitsOk spec_l07Of.T2.2 spec_l07Of.B2 = true := by kernel_rfl
section
variable {P : Program} {ops : Array Oper} {o : Oper} {a : Act} {Q : Exit → Act → World → Prop} {Kc : Act → World → Prop}
theorem S_lit1_step {α : Type} (d : Kd α) {W : World} (base e : Nat) (hw : Region.wanted o (yielded ops a.tmps) = true) {N : Tmp} (hd : o.dst = some N) (x : α) (inner : List Value)
 (hrun : (execOp a.eval o).run P W = .ok (.value (.slice (some ⟨W.heap.size, 0, none⟩) 1 1)) (W.alloc (.cells inner.toArray e))) (hl : inner.length = d.sz) (hM : d.M W base (fun _ => True) x inner) (hbase : base ≤ W.heap.size)
 (h : ∀ v1 w1, Kd.S d e w1 base (fun _ => True) v1 [x] → Below W.heap.size W w1 → W.grownBy w1 none → (∃ b, v1.ownBlock = some b ∧ W.heap.size ≤ b) → Kc (a.put o.dst v1) w1) : if Region.wanted o (yielded ops a.tmps) = true then Oper.wp P o a W Kc Q else Kc (a.put o.dst undef) W := by
 refine Kd.S_lits_step d (w0 := W) base e hw hd (xs := [x]) (inner := inner) (ok := fun _ => True) (fun j _ => j = 0) hrun (by simpa using hl) (fun j y hj => ?_) (fun i j k hi hj => hi.trans hj.symm) (fun _ _ _ => trivial) trivial (Below.refl _ _) hbase (by simp) (fun v1 w1 hs _ hg hat => h v1 w1 hs ((Below.refl _ _).grown hg (Nat.le_refl _) (fun k hk => by cases hk)) hg hat)
 cases j with
 | zero =>
  simp only [List.getElem?_cons_zero, Option.some.injEq] at hj
  subst hj
  rw [Nat.zero_mul, List.drop_zero, List.take_of_length_le (Nat.le_of_eq hl)]
  exact d.M_mono (fun _ _ => rfl) hM
 | succ j => simp at hj
end
theorem spec_l07Of.calls (k : Nat) (A0 : Option Addr) (c0 : Nat) (l0 : List Int) (a1_0 : Int) (A1_1 : Option Addr) (c1_1 : Nat) (l1_1 : List Int) (A1_2 : Option Addr) (c1_2 : Nat) (l1_2 : List Int) (A1_3 : Option Addr) (c1_3 : Nat) (l1_3 : List Int) (A1_4 : Option Addr) (c1_4 : Nat) (l1_4 : List Int) (A1_5 : Option Addr) (c1_5 : Nat) (l1_5 : List (S68)) (r : List (S33)) (w : World) (C0 : Cm (Kd.int .i64) w A0 c0 l0) (C1_1 : Cm (Kd.int .i64) w A1_1 c1_1 l1_1) (C1_2 : Cm (Kd.int .i64) w A1_2 c1_2 l1_2) (C1_3 : Cm (Kd.int .i64) w A1_3 c1_3 l1_3) (C1_4 : Cm (Kd.int .i64) w A1_4 c1_4 l1_4) (C1_5 : Cm k68 w A1_5 c1_5 l1_5) (h : spec_l07Of.f k l0 a1_0 l1_1 l1_2 l1_3 l1_4 l1_5 = some r) :
 Calls Try.prog 25 #[.slice A0 l0.length c0, .agg #[.int .i64 a1_0, .slice A1_1 l1_1.length c1_1, .slice A1_2 l1_2.length c1_2, .slice A1_3 l1_3.length c1_3, .slice A1_4 l1_4.length c1_4, .slice A1_5 l1_5.length c1_5]] w fun e w' => ∃ v0_ : Value, e = .returned (v0_) ∧ Kd.S k33 33 w' w.heap.size (fun _ => True) v0_ r ∧ Below w.heap.size w w' := by
 have hu26 := Try.underlying26; have hu33 := Try.underlying33
 have HB := yD (Below.refl w.heap.size w)
 unfold spec_l07Of.f at h
 have H := h
 clear h
 have HC3 := yD H
 clear H; go_enter Try.func25, Try.ntmps25
 go_upto_region 1 with (first | (refine gD 3 ?_; refine bF (N := 3) (cs := #[.int .i64 a1_0, .slice A1_1 l1_1.length c1_1, .slice A1_2 l1_2.length c1_2, .slice A1_3 l1_3.length c1_3, .slice A1_4 l1_4.length c1_4, .slice A1_5 l1_5.length c1_5]) (t := 26) HB ?_; intro gb715 w4 BK715 GW715 HB))
 (try simp only [Act.put, zH, zI, zJ])
 go_cut [12] (fun v12 wc => ∃ (kq : Nat) (x12_2 : Bool), v12 = .bool x12_2 ∧ aC (spec_l07Of.j0 kq l0 x12_2 a1_0 l1_1 l1_2 l1_3 l1_4 l1_5 = some r) ∧ aC (kq ≤ k) ∧ aC (wc.heap[gb715]? = some (.cells #[.int .i64 a1_0, (.slice A1_1 l1_1.length c1_1), (.slice A1_2 l1_2.length c1_2), (.slice A1_3 l1_3.length c1_3), (.slice A1_4 l1_4.length c1_4), (.slice A1_5 l1_5.length c1_5)] 26 (0, 0))) ∧ aC (Below w.heap.size w wc))
 case first =>
  have H := HC3.out; clear HC3
  replace H := sP H; rcases H with ⟨c5, c5b0, c5b1, H⟩ | ⟨-, c5b0, c5b1, H⟩
  ·
   (first | rw [c5b0] | (simp only [i64_w, i32_w]; rw [c5b0]) | (simp only [bne] at c5b0; rw [c5b0]) | skip)
   have H' := yD H
   clear H
   have := cf6_ BK715.out
   go_wp2
   go_meet
   case rel => exact ⟨_, (false), kF, H', ⟨by first | omega | exact Nat.le_refl _⟩, ⟨kM BK715⟩, ⟨kR1 HB⟩⟩
  (first | rw [c5b0] | (simp only [i64_w, i32_w]; rw [c5b0]) | (simp only [bne] at c5b0; rw [c5b0]) | skip)
  replace ⟨t716, A6, H⟩ := sV H
  have H' := yD H
  clear H
  have := cf6_ BK715.out
  go_wp2_with (first | (go_at_call 28; (with_reducible refine (cE.calls k _ _ l0 t716 _ (C0.b HB) A6.out).mono ?_); rintro e w' ⟨rfl, ⟨nd, rfl⟩⟩))
  go_meet
  case rel => exact ⟨_, (decide (t716 > 0)), kF, H', ⟨by first | omega | exact Nat.le_refl _⟩, ⟨kM BK715⟩, ⟨kR1 HB⟩⟩
 case rest =>
  clear HC3
  obtain ⟨kq, x12_2, rfl, HA, HJ2, BK715, HB⟩ := hcut
  cases kq with
  | zero => exact absurd HA.out (by simp [spec_l07Of.j0])
  | succ kj2 =>
   have H := HA.out; clear HA
   simp only [spec_l07Of.j0] at H
   replace H := sS H; rcases H with ⟨rfl, H⟩ | ⟨rfl, H⟩
   ·
    replace ⟨t726, A24, H⟩ := sV H
    replace ⟨t729, A25, H⟩ := sV H
    replace ⟨t732, A26, H⟩ := sV H
    obtain rfl := sJ H
    have := cf6_ BK715.out
    go_wp2_with (first | (refine gC 33 ?_; refine gL 23 Try.func33 _ (dv (aH.calls kj2 _ _ l0 a1_0 _ _ l1_1 _ _ l1_2 _ _ l1_3 _ _ l1_4 _ _ l1_5 t726 _ (C0.b HB) (C1_1.b HB) (C1_2.b HB) (C1_3.b HB) (C1_4.b HB) (C1_5.b HB) A24.out) fun v727 w28 ho0 hb => ?_); have HO728 := yD (yZ ho0 (aD (kB HB))); replace BK715 := zY BK715 hb; replace HB := zX HB hb; clear hb ho0; obtain ⟨Ao29, co29, eo29⟩ := Kd.bS HO728.out; subst eo29) | (refine gC 57 ?_; refine gL 24 Try.func57 _ (dv (cO.calls kj2 _ _ l0 _ _ t726 t729 _ (C0.b HB) ?z3 A25.out) fun v730 w30 ho0 hb => ?_); (case z3 => exact ⟨kV (zA HO728.out).2.2, (zA HO728.out).2.1⟩); have HO731 := yD (zG (zD ho0 (yK (kA HO728))) (aD (kB HB))); replace HO728 := yD (zE (kA HO728) hb); replace BK715 := zY BK715 hb; replace HB := zX HB hb; clear hb ho0; obtain ⟨Ao31, co31, eo31⟩ := Kd.S_slice HO731.out; subst eo31) | (refine gC 56 ?_; refine gL 27 Try.func56 #[.int .i64 1, .slice Ao31 t729.length co31, .slice none 0 0, .int .i64 (l0.length : Int)] ?_; (refine (aJ.calls kj2 1 _ _ t729 _ _ ([] : List (S33)) (l0.length : Int) t732 _ ?z1 ?z2 ?z3 ?z4 A26.out).mono ?_); (case z1 => exact kV (Kd.S_reads' HO731.out).2.2); (case z2 => exact (Kd.S_reads' HO731.out).2.1); (case z3 => exact Kd.C_nil _ _); (case z4 => exact Nat.le_refl _); rintro e w32 ⟨v733, rfl, ho0, hb⟩; refine ⟨_, rfl, ?_⟩; have HO734 := yD (zG (zD (zD ho0 (yK (kA HO728))) (Kd.S_lt (kS HO731))) (aD (kB HB))); replace HO728 := yD (zE (kA HO728) hb); replace HO731 := yD (Kd.S_elder' (kS HO731) (Kd.S_base ho0) hb); replace BK715 := zY BK715 hb; replace HB := zX HB hb; clear hb ho0))
    go_ret
    exact ⟨_, kE, mS HO734 (fun _ hk => trivial), kR1 HB⟩
   replace ⟨c10, H⟩ := sD H
   have c10b0 := eq_true c10
   have c10b1 : decide (0 ≤ (l0.length : Int)) = true := zR c10; clear c10
   replace ⟨c11, H⟩ := sD H
   have c11b0 := eq_true c11
   have c11b1 : decide (((l0.length : Int) : Int).toNat ≤ 35184372088832) = true := zR c11
   clear c11
   generalize hy717 : ((List.replicate ((l0.length : Int) : Int).toNat 0) : List Int) = y717 at H
   have Ny717 := yD hy717.symm
   clear hy717
   replace ⟨t720, A12, H⟩ := sV H
   obtain ⟨y723, hy723⟩ : ∃ y_ : List (S33), y_ = (([(⟨y717, t720⟩ : S33)] : List (S33))) := ⟨_, rfl⟩
   replace H : (some y723) = some r := by first | (rw [hy723]; with_reducible exact H) | (have H2_ := (Option.bind_some _ _).symm.trans H; rw [hy723]; with_reducible exact H2_) | (have H2_ := (Option.bind_some _ _).symm.trans H; with_reducible exact H2_) | with_reducible exact H | (rw [hy723]; exact H) | exact H
   have Ny723 := yD hy723
   clear hy723; obtain rfl := sJ H
   try go_wp2
   replace BK715 := yD (yO BK715.out); replace HB := yD (yP HB.out)
   refine s0 (m := 8) (S := fun w' => True) spec_l07Of.tab2 spec_l07Of.bits2 trivial fun hHeld HT_ HW_ => ?_
   generalize wc.drew = w13 at BK715 HB hHeld ⊢
   refine qa 8 0 1 ?_; refine qa 8 1 3 ?_; refine qa 8 3 11 ?_
   refine join_ (σ := Value × Value) 3 #[true, true, true, true, true, false, false, false] (fun s_ => [(15, s_.1), (17, s_.2)]) (fun s_ w' => (Kd.R (Kd.int .i64) 2 w' w.heap.size (fun k_ => some k_ ≠ (s_.2 : Value).ownBlock) s_.1 y717) ∧ (Kd.R (Kd.int .i64) 2 w' w.heap.size (fun k_ => some k_ ≠ (s_.1 : Value).ownBlock) s_.2 t720) ∧ (w'.heap[gb715]? = some (.cells #[.int .i64 a1_0, .slice A1_1 l1_1.length c1_1, .slice A1_2 l1_2.length c1_2, .slice A1_3 l1_3.length c1_3, .slice A1_4 l1_4.length c1_4, .slice A1_5 l1_5.length c1_5] 26 (0, 0))) ∧ (Below w.heap.size w w')) ?_ ?_
   rotate_left
   ·
    intro hCont
    refine two_ (i := 2) (j := 4) (Ni := some 15) (Nj := some 17) #[true, true, true, true, false, false, false, false] #[true, true, false, true, true, false, false, false] rfl rfl rfl rfl (two_of HT_.out (by kernel_rfl)) (by decide) (by decide) (fun K hK => ?_) (fun K hK => ?_)
    ·
     skip
     refine Kd.R_make_step (Kd.int .i64) _ 2 (by rfl) (N := 15) rfl 23 _ _ rfl (l0.length : Int) rfl rfl Try.underlying23 (.int .i64 0) 8 info2 rfl (by decide) (by omega) 0 (ok := fun _ => True) (okp := fun _ => True) rfl (fun _ hk => hk) trivial (zP (by assumption)) (Nat.le_trans (Nat.mul_le_mul_right _ (zP (by assumption) : (l0.length : Int).toNat ≤ 35184372088832)) (by omega)) (Below.refl _ _) (Nat.le_refl _) ?_
     intro v718 w14 ho15 hb hg_ hnew_
     clear hg_ hnew_
     (first | rw [← Ny717.out] at ho15 | (simp only [Int.reduceToNat] at ho15; rw [← Ny717.out] at ho15))
     have n0_ := yD (yZ ho15 (aD (kB HB)))
     have n1_ := yD (zB (kN BK715) hb)
     have n2_ := yD (zC (kB HB) hb)
     clear BK715 HB; have HO719 := n0_; have BK715 := n1_; have HB := n2_; clear n0_ n1_ n2_ hb ho15
     refine hK.out _ _ trivial (fun hHeld => ?_)
     clear hK K
     refine nZ 15 ?_
     refine qo 8 4 31 (some 17) fun K hK => ?_
     refine qg Try.func55 _ (dv (spec_l00Own.calls _ _ l0 t720 _ (C0.b HB) A12.out) fun v721 w16 ho0 hb => ?_)
     have HO722 := yD (yZ (yJ ho0 (yK (kA HO719))) (aD (kB HB))); replace HO719 := yD (Kd.R_elder' (kA HO719) (yH ho0) hb); replace BK715 := zY BK715 hb; replace HB := zX HB hb
     obtain ⟨Ao17, co17, eo17⟩ := Kd.bS HO722.out
     (first | subst eo17 | (injection eo17 with f1_ f2_ f3_; have f4_ := f1_.symm; have f5_ := f3_.symm; clear f1_ f2_ f3_; subst f4_; subst f5_))
     obtain ⟨Ao18, co18, eo18⟩ := Kd.bS HO719.out
     (first | subst eo18 | (injection eo18 with f1_ f2_ f3_; have f4_ := f1_.symm; have f5_ := f3_.symm; clear f1_ f2_ f3_; subst f4_; subst f5_))
     refine hK.out _ _ trivial (fun hHeld => ?_)
     clear hK K
     refine nZ 17 ?_
     exact norm_ (by simp only [putAll, Act.put, zH, zI, zJ]) (hCont (.slice Ao18 y717.length co18, .slice Ao17 t720.length co17) _ ⟨(mR HO719 (fun _ hk => hk.2)), (mR HO722 (fun _ hk => hk.2)), (kM BK715), (kB HB)⟩)
    ·
     skip
     refine qg Try.func55 _ (dv (spec_l00Own.calls _ _ l0 t720 _ (C0.b HB) A12.out) fun v721 w14 ho0 hb => ?_)
     have HO722 := yD (yZ ho0 (aD (kB HB))); replace BK715 := zY BK715 hb; replace HB := zX HB hb
     refine hK.out _ _ trivial (fun hHeld => ?_)
     clear hK K
     refine nZ 17 ?_
     refine qo 8 2 31 (some 15) fun K hK => ?_
     refine Kd.R_make_step (Kd.int .i64) _ 2 (by rfl) (N := 15) rfl 23 _ _ rfl (l0.length : Int) rfl rfl Try.underlying23 (.int .i64 0) 8 info2 rfl (by decide) (by omega) 0 (ok := fun _ => True) (okp := fun _ => True) rfl (fun _ hk => hk) trivial (zP (by assumption)) (Nat.le_trans (Nat.mul_le_mul_right _ (zP (by assumption) : (l0.length : Int).toNat ≤ 35184372088832)) (by omega)) (Below.refl _ _) (Nat.le_refl _) ?_
     intro v718 w15 ho16 hb hg_ hnew_
     clear hg_ hnew_
     (first | rw [← Ny717.out] at ho16 | (simp only [Int.reduceToNat] at ho16; rw [← Ny717.out] at ho16))
     have n0_ := yD (Kd.R_elder' (kA HO722) (yH ho16) hb)
     have n1_ := yD (yZ (yJ ho16 (yK (kA HO722))) (aD (kB HB)))
     have n2_ := yD (zB (kN BK715) hb)
     have n3_ := yD (zC (kB HB) hb)
     clear HO722 BK715 HB; have HO722 := n0_; have HO719 := n1_; have BK715 := n2_; have HB := n3_; clear n0_ n1_ n2_ n3_ hb ho16
     obtain ⟨Ao17, co17, eo17⟩ := Kd.bS HO722.out
     (first | subst eo17 | (injection eo17 with f1_ f2_ f3_; have f4_ := f1_.symm; have f5_ := f3_.symm; clear f1_ f2_ f3_; subst f4_; subst f5_))
     obtain ⟨Ao18, co18, eo18⟩ := Kd.bS HO719.out
     (first | subst eo18 | (injection eo18 with f1_ f2_ f3_; have f4_ := f1_.symm; have f5_ := f3_.symm; clear f1_ f2_ f3_; subst f4_; subst f5_))
     refine hK.out _ _ trivial (fun hHeld => ?_)
     clear hK K
     refine nZ 15 ?_
     exact norm_ (by simp only [putAll, Act.put, zH, zI, zJ]) (hCont (.slice Ao18 y717.length co18, .slice Ao17 t720.length co17) _ ⟨(mR HO719 (fun _ hk => hk.2)), (mR HO722 (fun _ hk => hk.2)), (kM BK715), (kB HB)⟩)
   rintro ⟨v718, v721⟩ w19 ⟨h0_, h1_, h2_, h3_⟩
   (try dsimp only at h0_ h1_ h2_ h3_); clear BK715 HB; have HO719 := yD h0_; have HO722 := yD h1_; have BK715 := yD h2_; have HB := yD h3_; clear h0_ h1_ h2_ h3_; have hHeld := trivial
   obtain ⟨Ao20, co20, eo20⟩ := Kd.bS HO722.out
   (first | subst eo20 | (injection eo20 with f1_ f2_ f3_; have f4_ := f1_.symm; have f5_ := f3_.symm; clear f1_ f2_ f3_; subst f4_; subst f5_))
   obtain ⟨Ao21, co21, eo21⟩ := Kd.bS HO719.out
   (first | subst eo21 | (injection eo21 with f1_ f2_ f3_; have f4_ := f1_.symm; have f5_ := f3_.symm; clear f1_ f2_ f3_; subst f4_; subst f5_))
   refine norm_ (a' := ?_) ?_ ?_
   rotate_left
   · simp only [putAll, Act.put, zH, zI, zJ]
     rfl
   refine qa 8 5 63 ?_
   refine qo 8 6 127 (some 19) fun K hK => ?_
   refine S_lit1_step k33 w.heap.size 33 ?hg (N := 19) ?hd (⟨y717, t720⟩ : S33) [.slice Ao21 y717.length co21, .slice Ao20 t720.length co20] ?hr rfl ?hp (aD (kB HB)) ?_; (case hd => rfl); (case hg => rfl); (case hr => first | (go_simp; done) | (go_simp; rfl)); (case hp => exact k33_mkM _ _ _ (⟨y717, t720⟩ : S33) (zF (kA HO719) (fun _ _ => trivial)) (zF (kA HO722) (fun _ _ => trivial)))
   intro v724 w22 ho23 hb hg_ hnew_
   clear hg_ hnew_
   (first | rw [← Ny723.out] at ho23 | (simp only [Int.reduceToNat] at ho23; rw [← Ny723.out] at ho23))
   have n0_ := yD (ho23)
   have n1_ := yD (zB (kN BK715) hb)
   have n2_ := yD (zC (kB HB) hb)
   clear BK715 HB HO719 HO722; have HO725 := n0_; have BK715 := n1_; have HB := n2_; clear n0_ n1_ n2_ hb ho23
   refine hK.out _ _ trivial (fun hHeld => ?_)
   clear hK K
   refine nZ 19 ?_
   refine qa 8 7 255 ?_
   refine qd ?_
   try go_wp2
   go_ret
   exact ⟨_, kE, kS HO725, kR1 HB⟩
def spec_BoxesOf.f (k : Nat) (l0 : List Int) (a1_0 : Int) (l1_1 l1_2 : List Int) (l1_3 l1_4 : List Int) (l1_5 : List (S68)) : Option ((List (S33)) × Int) := (bA.f k l0 a1_0 l1_1 l1_2 l1_3 l1_4 l1_5).bind fun t736 => (if t736 = true then ((spec_l07Of.f k l0 a1_0 l1_1 l1_2 l1_3 l1_4 l1_5).bind fun t737 => (if (t737.length : Int) > 32 then (some (([] : List (S33)), 5)) else (some (t737, 0)))) else (some (([] : List (S33)), 1)))
theorem spec_BoxesOf.calls (k : Nat) (A0 : Option Addr) (c0 : Nat) (l0 : List Int) (a1_0 : Int) (A1_1 : Option Addr) (c1_1 : Nat) (l1_1 : List Int) (A1_2 : Option Addr) (c1_2 : Nat) (l1_2 : List Int) (A1_3 : Option Addr) (c1_3 : Nat) (l1_3 : List Int) (A1_4 : Option Addr) (c1_4 : Nat) (l1_4 : List Int) (A1_5 : Option Addr) (c1_5 : Nat) (l1_5 : List (S68)) (r1 : List (S33)) (r2 : Int) (w : World) (C0 : Cm (Kd.int .i64) w A0 c0 l0) (C1_1 : Cm (Kd.int .i64) w A1_1 c1_1 l1_1) (C1_2 : Cm (Kd.int .i64) w A1_2 c1_2 l1_2) (C1_3 : Cm (Kd.int .i64) w A1_3 c1_3 l1_3) (C1_4 : Cm (Kd.int .i64) w A1_4 c1_4 l1_4) (C1_5 : Cm k68 w A1_5 c1_5 l1_5) (h : spec_BoxesOf.f k l0 a1_0 l1_1 l1_2 l1_3 l1_4 l1_5 = some (r1, r2)) :
 Calls Try.prog 6 #[.slice A0 l0.length c0, .agg #[.int .i64 a1_0, .slice A1_1 l1_1.length c1_1, .slice A1_2 l1_2.length c1_2, .slice A1_3 l1_3.length c1_3, .slice A1_4 l1_4.length c1_4, .slice A1_5 l1_5.length c1_5]] w fun e w' => ∃ v0_ : Value, e = .returned (.tuple #[v0_, .int .i64 r2]) ∧ Kd.S k33 33 w' w.heap.size (fun _ => True) v0_ r1 ∧ Below w.heap.size w w' := by
 have hu26 := Try.underlying26
 have HB := yD (Below.refl w.heap.size w)
 have H : ((bA.f k l0 a1_0 l1_1 l1_2 l1_3 l1_4 l1_5).bind fun t736 => (if t736 = true then ((spec_l07Of.f k l0 a1_0 l1_1 l1_2 l1_3 l1_4 l1_5).bind fun t737 => (if (t737.length : Int) > 32 then (some (([] : List (S33)), 5)) else (some (t737, 0)))) else (some (([] : List (S33)), 1)))) = some (r1, r2) := h
 clear h
 replace ⟨t736, A3, H⟩ := sV H
 replace H := sS H; rcases H with ⟨rfl, H⟩ | ⟨rfl, H⟩
 ·
  simp only [Option.some.injEq, Prod.mk.injEq] at H
  obtain ⟨rfl, rfl⟩ := H
  go_enter Try.func6, Try.ntmps6
  go_wp2_with (first | (refine gD 3 ?_; refine bF (N := 3) (cs := #[.int .i64 a1_0, .slice A1_1 l1_1.length c1_1, .slice A1_2 l1_2.length c1_2, .slice A1_3 l1_3.length c1_3, .slice A1_4 l1_4.length c1_4, .slice A1_5 l1_5.length c1_5]) (t := 26) HB ?_; intro gb735 w19 BK735 GW735 HB; have := cf6_ BK735.out) | (refine gC 24 ?_; refine gL 9 Try.func24 _ (dn (bA.calls k _ _ l0 a1_0 _ _ l1_1 _ _ l1_2 _ _ l1_3 _ _ l1_4 _ _ l1_5 false _ (C0.b HB) (C1_1.b HB) (C1_2.b HB) (C1_3.b HB) (C1_4.b HB) (C1_5.b HB) A3.out) fun w21 hb => ?_); replace BK735 := zY BK735 hb; replace HB := zX HB hb; clear hb))
  go_ret2
  exact ⟨_, kE, by first | exact Kd.S_nil _ _ _ _ _ | exact Kd.N_nil _ _ _ _ _ | exact Kd.V_nil _ _ _ _ _ | exact Kd.Q_nil _ _ _ _ _ | exact Kd.R_nil _ _ _ _ _, kR1 HB⟩
 replace ⟨t737, A5, H⟩ := sV H
 replace H := sC H; rcases H with ⟨c6, H⟩ | ⟨c6, H⟩
 ·
  have c6b0 : decide (32 < (t737.length : Int)) = false := zS c6
  have c6b1 : decide (32 < t737.length) = false := zS (by omega)
  clear c6
  simp only [Option.some.injEq, Prod.mk.injEq] at H
  obtain ⟨rfl, rfl⟩ := H
  go_enter Try.func6, Try.ntmps6
  go_wp2_with (first | (refine gD 3 ?_; refine bF (N := 3) (cs := #[.int .i64 a1_0, .slice A1_1 l1_1.length c1_1, .slice A1_2 l1_2.length c1_2, .slice A1_3 l1_3.length c1_3, .slice A1_4 l1_4.length c1_4, .slice A1_5 l1_5.length c1_5]) (t := 26) HB ?_; intro gb735 w13 BK735 GW735 HB; have := cf6_ BK735.out) | (refine gC 24 ?_; refine gL 9 Try.func24 _ (dn (bA.calls k _ _ l0 a1_0 _ _ l1_1 _ _ l1_2 _ _ l1_3 _ _ l1_4 _ _ l1_5 true _ (C0.b HB) (C1_1.b HB) (C1_2.b HB) (C1_3.b HB) (C1_4.b HB) (C1_5.b HB) A3.out) fun w15 hb => ?_); replace BK735 := zY BK735 hb; replace HB := zX HB hb; clear hb; have := cf6_ BK735.out) | (refine gC 25 ?_; refine gL 13 Try.func25 _ (dv (spec_l07Of.calls k _ _ l0 a1_0 _ _ l1_1 _ _ l1_2 _ _ l1_3 _ _ l1_4 _ _ l1_5 t737 _ (C0.b HB) (C1_1.b HB) (C1_2.b HB) (C1_3.b HB) (C1_4.b HB) (C1_5.b HB) A5.out) fun v738 w17 ho0 hb => ?_); have HO739 := yD (zG ho0 (aD (kB HB))); replace BK735 := zY BK735 hb; replace HB := zX HB hb; clear hb ho0; obtain ⟨Ao18, co18, eo18⟩ := Kd.S_slice HO739.out; subst eo18))
  go_ret2
  exact ⟨_, kE, kS HO739, kR1 HB⟩
 have c6b0 : decide (32 < (t737.length : Int)) = true := zR c6
 have c6b1 : decide (32 < t737.length) = true := zR (by omega)
 clear c6
 simp only [Option.some.injEq, Prod.mk.injEq] at H
 obtain ⟨rfl, rfl⟩ := H
 go_enter Try.func6, Try.ntmps6
 go_wp2_with (first | (refine gD 3 ?_; refine bF (N := 3) (cs := #[.int .i64 a1_0, .slice A1_1 l1_1.length c1_1, .slice A1_2 l1_2.length c1_2, .slice A1_3 l1_3.length c1_3, .slice A1_4 l1_4.length c1_4, .slice A1_5 l1_5.length c1_5]) (t := 26) HB ?_; intro gb735 w7 BK735 GW735 HB; have := cf6_ BK735.out) | (refine gC 24 ?_; refine gL 9 Try.func24 _ (dn (bA.calls k _ _ l0 a1_0 _ _ l1_1 _ _ l1_2 _ _ l1_3 _ _ l1_4 _ _ l1_5 true _ (C0.b HB) (C1_1.b HB) (C1_2.b HB) (C1_3.b HB) (C1_4.b HB) (C1_5.b HB) A3.out) fun w9 hb => ?_); replace BK735 := zY BK735 hb; replace HB := zX HB hb; clear hb; have := cf6_ BK735.out) | (refine gC 25 ?_; refine gL 13 Try.func25 _ (dv (spec_l07Of.calls k _ _ l0 a1_0 _ _ l1_1 _ _ l1_2 _ _ l1_3 _ _ l1_4 _ _ l1_5 t737 _ (C0.b HB) (C1_1.b HB) (C1_2.b HB) (C1_3.b HB) (C1_4.b HB) (C1_5.b HB) A5.out) fun v738 w11 ho0 hb => ?_); have HO739 := yD (zG ho0 (aD (kB HB))); replace BK735 := zY BK735 hb; replace HB := zX HB hb; clear hb ho0; obtain ⟨Ao12, co12, eo12⟩ := Kd.S_slice HO739.out; subst eo12))
 go_ret2
 exact ⟨_, kE, by first | exact Kd.S_nil _ _ _ _ _ | exact Kd.N_nil _ _ _ _ _ | exact Kd.V_nil _ _ _ _ _ | exact Kd.Q_nil _ _ _ _ _ | exact Kd.R_nil _ _ _ _ _, kR1 HB⟩
mutual
def bZ.j0 : Nat → Bool → List Int → List Int → Option (Bool)
 | 0, _, _, _ => none
 | k + 1, x17, x741000, x741001 => if x17 = true then (some false) else (bZ.l0 k x741000 (x741000.length : Int) 0 x741000 x741001)
def bZ.l0 : Nat → List Int → Int → Int → List Int → List Int → Option (Bool)
 | 0, _, _, _, _, _ => none
 | k + 1, x19, x20, x21, x741000, x741001 => if x21 < x20 then (if 0 ≤ x21 then (if x21 < (x19.length : Int) then (if (rd x19 x21) < 0 then (some false) else (if x21 < (x741001.length : Int) then (if (rd x19 x21) ≥ (rd x741001 x21) then (some false) else (if (rd x741001 x21) > 40 then (some false) else (bZ.l0 k x19 x20 (wrap64 (x21 + 1)) x741000 x741001))) else (none))) else (none)) else (none)) else (some true)
end
def bZ.f (k : Nat) (l0_0 l0_1 : List Int) : Option (Bool) := if (l0_0.length : Int) = (l0_1.length : Int) then (bZ.j0 k (decide ((l0_0.length : Int) > 3)) l0_0 l0_1) else (bZ.j0 k true l0_0 l0_1)
theorem bZ.calls (k : Nat) (A0_0 : Option Addr) (c0_0 : Nat) (l0_0 : List Int) (A0_1 : Option Addr) (c0_1 : Nat) (l0_1 : List Int) (r : Bool) (w : World) (C0_0 : Cm (Kd.int .i64) w A0_0 c0_0 l0_0) (C0_1 : Cm (Kd.int .i64) w A0_1 c0_1 l0_1) (h : bZ.f k l0_0 l0_1 = some r) :
 Calls Try.prog 59 #[.agg #[.slice A0_0 l0_0.length c0_0, .slice A0_1 l0_1.length c0_1]] w fun e w' => e = .returned (.bool r) ∧ Below w.heap.size w w' := by
 have hu33 := Try.underlying33
 have HB := yD (Below.refl w.heap.size w)
 unfold bZ.f at h
 have H := h
 clear h
 have HC2 := yD H
 clear H; go_enter Try.func59, Try.ntmps59
 go_upto_region 1 with (first | (refine gD 1 ?_; (try (refine gate_guard (by rfl) ?_; dsimp only)); refine bF (N := 1) (cs := #[.slice A0_0 l0_0.length c0_0, .slice A0_1 l0_1.length c0_1]) (t := 33) HB ?_; intro gb740 w3 BK740 GW740 HB))
 (try simp only [Act.put, zH, zI, zJ])
 go_cut [17] (fun v17 wc => ∃ (kq : Nat) (x17_1 : Bool), v17 = .bool x17_1 ∧ aC (bZ.j0 kq x17_1 l0_0 l0_1 = some r) ∧ aC (kq ≤ k) ∧ aC (wc.heap[gb740]? = some (.cells #[(.slice A0_0 l0_0.length c0_0), (.slice A0_1 l0_1.length c0_1)] 33 (0, 0))) ∧ aC (Below w.heap.size w wc))
 case first =>
  have H := HC2.out; clear HC2
  replace H := sP H; rcases H with ⟨c4, c4b0, c4b1, H⟩ | ⟨c4, c4b0, c4b1, H⟩
  ·
   have c4b2 : (l0_0.length == l0_1.length) = false := by first | simpa using c4 | (simp at c4 ⊢; omega)
   (first | rw [c4b0] | (simp only [i64_w, i32_w]; rw [c4b0]) | (simp only [bne] at c4b0; rw [c4b0]) | skip)
   have H' := yD H
   clear H
   have := cf2_ BK740.out
   go_wp2
   go_meet
   case rel => exact ⟨_, (true), kF, H', ⟨by first | omega | exact Nat.le_refl _⟩, ⟨kM BK740⟩, ⟨kR1 HB⟩⟩
  have c4b2 : (l0_0.length == l0_1.length) = true := by first | simpa using c4 | (simp at c4 ⊢; omega)
  clear c4
  (first | rw [c4b0] | (simp only [i64_w, i32_w]; rw [c4b0]) | (simp only [bne] at c4b0; rw [c4b0]) | skip)
  have H' := yD H
  clear H
  have := cf2_ BK740.out
  go_wp2
  go_meet
  case rel => exact ⟨_, (decide ((l0_0.length : Int) > 3)), kF, H', ⟨by first | omega | exact Nat.le_refl _⟩, ⟨kM BK740⟩, ⟨kR1 HB⟩⟩
 case rest =>
  clear HC2
  obtain ⟨kq, x17_1, rfl, HA, HJ1, BK740, HB⟩ := hcut
  cases kq with
  | zero => exact absurd HA.out (by simp [bZ.j0])
  | succ kj1 =>
   have H := HA.out; clear HA
   simp only [bZ.j0] at H
   replace H := sT H; rcases H with ⟨rfl, H⟩ | ⟨rfl, H⟩
   · obtain rfl := sJ H
     go_wp2
     go_ret
     exact ⟨kE, kR1 HB⟩
   have H' := yD H
   clear H
   have := cf2_ BK740.out
   go_wp2
   go_loopg [21] kj1 (fun kq v21 w' => ∃ (x21_2 : Int), v21 = .int .i64 x21_2 ∧ aC (bZ.l0 kq l0_0 (l0_0.length : Int) x21_2 l0_0 l0_1 = some r) ∧ aC (kq ≤ kj1) ∧ aC (w'.heap[gb740]? = some (.cells #[(.slice A0_0 l0_0.length c0_0), (.slice A0_1 l0_1.length c0_1)] 33 (0, 0))) ∧ aC (Below w.heap.size w w'))
   case atStart => exact ⟨(0), kF, H', ⟨Nat.le_refl _⟩, ⟨kM BK740⟩, ⟨kR1 HB⟩⟩
   case round =>
    clear H'
    obtain ⟨x21_2, rfl, HA, HK2, BK740, HB⟩ := hrel
    cases gk with
    | zero => exact absurd HA.out (by simp [bZ.l0])
    | succ k2 =>
     have H := HA.out; clear HA
     simp only [bZ.l0] at H
     replace H := sG H; rcases H with ⟨c9b0, H⟩ | ⟨c9b0, H⟩
     · obtain rfl := sJ H
       go_wp2
       go_ret
       exact ⟨kE, kR1 HB⟩
     replace ⟨c10b0, H⟩ := sE H
     replace ⟨c11b0, H⟩ := sE H
     replace H := sF H; rcases H with ⟨c12b0, H⟩ | ⟨c12b0, H⟩
     ·
      obtain rfl := sJ H
      obtain ⟨p741, q741, ad741, e741, hx741_0⟩ := sI (Kd.aX C0_0.r x21_2)
      cases e741
      replace hx741_0 := kD HB hx741_0
      go_wp2
      go_ret
      exact ⟨kE, kR1 HB⟩
     replace ⟨c13b0, H⟩ := sE H
     replace H := sB H; rcases H with ⟨c14, H⟩ | ⟨c14, H⟩
     ·
      have c14b0 : decide ((rd l0_1 x21_2) ≤ (rd l0_0 x21_2)) = true := zR c14; clear c14; obtain rfl := sJ H
      obtain ⟨p741, q741, ad741, e741, hx741_0⟩ := sI (Kd.aX C0_0.r x21_2)
      cases e741
      replace hx741_0 := kD HB hx741_0
      have := cf2_ BK740.out
      obtain ⟨p742, q742, ad742, e742, hx742_0⟩ := sI (Kd.aX C0_1.r x21_2)
      cases e742
      replace hx742_0 := kD HB hx742_0
      go_wp2
      go_ret
      exact ⟨kE, kR1 HB⟩
     have c14b0 : decide ((rd l0_1 x21_2) ≤ (rd l0_0 x21_2)) = false := zS c14; clear c14
     replace H := sB H; rcases H with ⟨c16, H⟩ | ⟨c16, H⟩
     ·
      have c16b0 : decide (40 < (rd l0_1 x21_2)) = true := zR c16; clear c16; obtain rfl := sJ H
      obtain ⟨p741, q741, ad741, e741, hx741_0⟩ := sI (Kd.aX C0_0.r x21_2)
      cases e741
      replace hx741_0 := kD HB hx741_0
      have := cf2_ BK740.out
      obtain ⟨p742, q742, ad742, e742, hx742_0⟩ := sI (Kd.aX C0_1.r x21_2)
      cases e742
      replace hx742_0 := kD HB hx742_0
      obtain ⟨p743, q743, ad743, e743, hx743_0⟩ := sI (Kd.aX C0_1.r x21_2)
      obtain rfl : ad742 = ad743 := (by injection e743)
      replace hx743_0 := kD HB hx743_0
      go_wp2
      go_ret
      exact ⟨kE, kR1 HB⟩
     have c16b0 : decide (40 < (rd l0_1 x21_2)) = false := zS c16; clear c16
     have H' := yD H
     clear H
     obtain ⟨p741, q741, ad741, e741, hx741_0⟩ := sI (Kd.aX C0_0.r x21_2)
     cases e741
     replace hx741_0 := kD HB hx741_0
     have := cf2_ BK740.out
     obtain ⟨p742, q742, ad742, e742, hx742_0⟩ := sI (Kd.aX C0_1.r x21_2)
     cases e742
     replace hx742_0 := kD HB hx742_0
     obtain ⟨p743, q743, ad743, e743, hx743_0⟩ := sI (Kd.aX C0_1.r x21_2)
     obtain rfl : ad742 = ad743 := (by injection e743)
     replace hx743_0 := kD HB hx743_0
     go_wp2
     go_roundg k2
     case measure => have := HJ1.out; have := HK2.out; omega
     case rel => exact ⟨(wrap64 (x21_2 + 1)), kF, H', ⟨by have := HJ1.out; have := HK2.out; omega⟩, ⟨kM BK740⟩, ⟨kR1 HB⟩⟩
def impl_boxesOk_1.f (k : Nat) (l0_0 l0_1 : List Int) (l1_0 : List (S33)) : Option (Bool) := (bZ.f k l0_0 l0_1).bind fun t745 => (if t745 = true then (if 0 < (l1_0.length : Int) then (some ((l0_0.length : Int) != (((aA l1_0 0).f0).length : Int))) else (none)) else (some true))
def impl_boxesOk_1.T1 : Bool × List (List Nat × List Nat) := (true, [([], []), ([0], [0]), ([1], [1]), ([2, 1], [2]), ([3], [3]), ([4, 3], [3, 4]), ([5, 3], [3, 5]), ([3], [3]), ([7, 3], [3, 7]), ([8, 3], [3, 8]), ([9, 3], [3, 9]), ([10, 3], [3, 10]), ([6, 11, 3], [3, 6, 11]), ([3, 12], [3, 12]), ([13, 3, 0, 1, 2, 3, 4, 5, 6, 7, 8, 9, 10, 11, 12, 13], [13])])
def impl_boxesOk_1.B1 : List Nat := [0, 1, 3, 7, 15, 31, 63, 15, 143, 399, 911, 1935, 4095, 8191, 16383]
theorem impl_boxesOk_1.tab1 : rtab .any (opsOf Try.f58 1) = impl_boxesOk_1.T1 := by kernel_rfl
theorem impl_boxesOk_1.bits1 : waitsOk impl_boxesOk_1.T1.2 impl_boxesOk_1.B1 = true := by kernel_rfl
theorem impl_boxesOk_1.calls (k : Nat) (A0_0 : Option Addr) (c0_0 : Nat) (l0_0 : List Int) (A0_1 : Option Addr) (c0_1 : Nat) (l0_1 : List Int) (g1_0 : Nat) (A1_0 : Option Addr) (c1_0 : Nat) (l1_0 : List (S33)) (r : Bool) (w : World) (C0_0 : Cm (Kd.int .i64) w A0_0 c0_0 l0_0) (C0_1 : Cm (Kd.int .i64) w A0_1 c0_1 l0_1) (C1_0 : Cm k33 w A1_0 c1_0 l1_0) (hb1_0 : w.heap[g1_0]? = some (.cells #[.slice A1_0 l1_0.length c1_0] 29 (0, 0))) (h : impl_boxesOk_1.f k l0_0 l0_1 l1_0 = some r) :
 Calls Try.prog 58 #[.agg #[.slice A0_0 l0_0.length c0_0, .slice A0_1 l0_1.length c0_1], .pointer (some ⟨g1_0, 0, none⟩)] w fun e w' => e = .returned (.bool r) ∧ Below w.heap.size w w' := by
 have hu33 := Try.underlying33
 have BK48 := yD hb1_0
 clear hb1_0
 have HB := yD (Below.refl w.heap.size w)
 unfold impl_boxesOk_1.f at h
 have H := h
 clear h
 replace ⟨t745, A3, H⟩ := sV H
 replace H := sS H; rcases H with ⟨rfl, H⟩ | ⟨rfl, H⟩
 ·
  obtain rfl := sJ H; go_enter Try.func58, Try.ntmps58
  try go_wp2_with (first | (refine gD 2 ?_; (try (refine gate_guard (by rfl) ?_; dsimp only)); refine bE (N := 2) (cs := #[.slice A0_0 l0_0.length c0_0, .slice A0_1 l0_1.length c0_1]) (t := 33) ?_; intro gb744 hg w9 hbox hb; have BK744 := yD (hbox); have GW744 := sW hg HB; replace HB := zX HB hb; have NB48_744 := yD ((by rw [hg]; exact Nat.ne_of_lt (cT (kN BK48)) : g1_0 ≠ gb744)); have NB744_48 := yD ((by rw [hg]; exact Nat.ne_of_gt (cT (kN BK48)) : gb744 ≠ g1_0)); replace BK48 := zY BK48 hb; clear hb hbox hg))
  replace BK48 := yD (yO BK48.out); replace BK744 := yD (yO BK744.out); replace HB := yD (yP HB.out)
  refine s0 (m := 15) (S := fun w' => cl w' gb744 0 (.slice A0_0 l0_0.length c0_0) ∧ cl w' gb744 1 (.slice A0_1 l0_1.length c0_1)) impl_boxesOk_1.tab1 impl_boxesOk_1.bits1 (cz2 BK744.out) fun hHeld HT_ HW_ => ?_
  generalize w9.drew = w10 at BK48 BK744 HB hHeld ⊢
  refine qc 15 0 1 hHeld ?_
  refine qo 15 1 3 (some 5) fun K hK => ?_
  refine qg Try.func59 _ (dn (bZ.calls k _ _ l0_0 _ _ l0_1 false _ (C0_0.b HB) (C0_1.b HB) A3.out) fun w11 hb => ?_)
  replace BK48 := zY BK48 hb; replace BK744 := zY BK744 hb; replace HB := zX HB hb
  refine hK.out _ _ (cz2 BK744.out) (fun hHeld => ?_)
  clear hK K
  refine nZ 5 ?_
  refine qa 15 2 7 ?_; refine qa 15 3 15 ?_; refine qb 15 4 31 ?_; refine qb 15 5 63 ?_; refine qb 15 6 127 ?_; refine qb 15 7 255 ?_; refine qb 15 8 511 ?_; refine qb 15 9 1023 ?_; refine qb 15 10 2047 ?_; refine qb 15 11 4095 ?_; refine qb 15 12 8191 ?_; refine qa 15 13 16383 ?_; refine qa 15 14 32767 ?_
  refine qd ?_
  try go_wp2
  go_ret
  exact ⟨kE, kR1 HB⟩
 replace ⟨c5, H⟩ := sD H
 have c5b0 : decide (0 < (l1_0.length : Int)) = true := zR c5
 have c5b1 : decide (0 < l1_0.length) = true := zR (by omega)
 clear c5; obtain rfl := sJ H; go_enter Try.func58, Try.ntmps58
 try go_wp2_with (first | (refine gD 2 ?_; (try (refine gate_guard (by rfl) ?_; dsimp only)); refine bE (N := 2) (cs := #[.slice A0_0 l0_0.length c0_0, .slice A0_1 l0_1.length c0_1]) (t := 33) ?_; intro gb744 hg w6 hbox hb; have BK744 := yD (hbox); have GW744 := sW hg HB; replace HB := zX HB hb; have NB48_744 := yD ((by rw [hg]; exact Nat.ne_of_lt (cT (kN BK48)) : g1_0 ≠ gb744)); have NB744_48 := yD ((by rw [hg]; exact Nat.ne_of_gt (cT (kN BK48)) : gb744 ≠ g1_0)); replace BK48 := zY BK48 hb; clear hb hbox hg))
 replace BK48 := yD (yO BK48.out); replace BK744 := yD (yO BK744.out); replace HB := yD (yP HB.out)
 have p746 : 0 ≤ (0 : Int) := (by omega)
 have q746 : 0 < (l1_0.length : Int) := zP (by assumption)
 obtain ⟨ad746, A746_0, c746_0, A746_1, c746_1, e746, hx746_0, hx746_1, HC746_0, HR746_0, HC746_1, HR746_1⟩ := at_T33 C1_0.r 0 p746 q746
 have hw746_1 := hx746_1
 (try rw [show ((0 : Int)).toNat = 0 from rfl] at hw746_1)
 (try rw [show 0 * 2 = 0 from rfl] at hw746_1)
 (try rw [Addr.add_zero'] at hw746_1)
 have hw746_0 := hx746_0
 (try rw [show ((0 : Int)).toNat = 0 from rfl] at hw746_0)
 (try rw [show 0 * 2 = 0 from rfl] at hw746_0)
 (try rw [Addr.add_zero'] at hw746_0)
 cases e746
 have qi746 : (0 < l1_0.length) = True := eq_true (by omega)
 (try rw [show ((0 : Int)).toNat = 0 from rfl] at hx746_0)
 (try rw [show 0 * 2 = 0 from rfl] at hx746_0)
 (try rw [Addr.add_zero'] at hx746_0)
 (try rw [show ((0 : Int)).toNat = 0 from rfl] at hx746_1)
 (try rw [show 0 * 2 = 0 from rfl] at hx746_1)
 (try rw [Addr.add_zero'] at hx746_1)
 replace hx746_0 := kD HB hx746_0
 replace hx746_1 := kD HB hx746_1
 replace p746 := eq_true p746; replace q746 := eq_true q746
 refine s0 (m := 15) (S := fun w' => cl w' gb744 0 (.slice A0_0 l0_0.length c0_0) ∧ cl w' gb744 1 (.slice A0_1 l0_1.length c0_1) ∧ cl w' g1_0 0 (.slice (some ad746) l1_0.length c1_0) ∧ w'.cell? ad746 = some (.slice A746_0 ((aA l1_0 0).f0).length c746_0) ∧ w'.cell? ⟨ad746.block, ad746.off + 1, none⟩ = some (.slice A746_1 ((aA l1_0 0).f1).length c746_1)) impl_boxesOk_1.tab1 impl_boxesOk_1.bits1 (ca2_ BK744.out ⟨(yG BK48.out 0).trans rfl, (kC HB hw746_0), (kC HB hw746_1)⟩) fun hHeld HT_ HW_ => ?_
 generalize w6.drew = w7 at BK48 BK744 HB HR746_0 HR746_1 hx746_0 hx746_1 hHeld ⊢
 refine qc 15 0 1 hHeld ?_
 refine qo 15 1 3 (some 5) fun K hK => ?_
 refine qg Try.func59 _ (dn (bZ.calls k _ _ l0_0 _ _ l0_1 true _ (C0_0.b HB) (C0_1.b HB) A3.out) fun w8 hb => ?_)
 replace BK48 := zY BK48 hb; replace BK744 := zY BK744 hb; replace HB := zX HB hb
 refine hK.out _ _ (ca2_ BK744.out ⟨(yG BK48.out 0).trans rfl, (kC HB hw746_0), (kC HB hw746_1)⟩) (fun hHeld => ?_)
 clear hK K
 refine nZ 5 ?_
 refine qa 15 2 7 ?_; refine qa 15 3 15 ?_; refine qa 15 4 31 ?_; refine qc 15 5 63 hHeld ?_; refine qa 15 6 127 ?_; refine qc 15 7 255 hHeld ?_; refine qa 15 8 511 ?_; refine qa 15 9 1023 ?_; refine qc 15 10 2047 hHeld ?_; refine qa 15 11 4095 ?_; refine qa 15 12 8191 ?_; refine qa 15 13 16383 ?_; refine qa 15 14 32767 ?_
 refine qd ?_
 try go_wp2
 go_ret
 exact ⟨kE, kR1 HB⟩
def bJ.l0 : Nat → List (S33) → Int → Int → List (S33) → Option (Int)
 | 0, _, _, _, _ => none
 | k + 1, x0, x7, x8, x49000 => if x8 < x7 then (if 0 ≤ x8 then (if x8 < (x0.length : Int) then ((impl_boxesOk_1.f k ((aA x0 x8).f0) ((aA x0 x8).f1) x49000).bind fun t748 => (if t748 = true then (some x8) else (bJ.l0 k x0 x7 (wrap64 (x8 + 1)) x49000))) else (none)) else (none)) else (some (-1))
def bJ.f (k : Nat) (l0 l1_0 : List (S33)) : Option (Int) := bJ.l0 k l0 (l0.length : Int) 0 l1_0
theorem bJ.calls (k : Nat) (A0 : Option Addr) (c0 : Nat) (l0 : List (S33)) (g1_0 : Nat) (A1_0 : Option Addr) (c1_0 : Nat) (l1_0 : List (S33)) (r : Int) (w : World) (C0 : Cm k33 w A0 c0 l0) (C1_0 : Cm k33 w A1_0 c1_0 l1_0) (hb1_0 : w.heap[g1_0]? = some (.cells #[.slice A1_0 l1_0.length c1_0] 29 (0, 0))) (h : bJ.f k l0 l1_0 = some r) :
 Calls Try.prog 61 #[.slice A0 l0.length c0, .func (.func 58) #[] #[.pointer (some ⟨g1_0, 0, none⟩)]] w fun e w' => e = .returned (.int .i64 r) ∧ Below w.heap.size w w' := by
 have hu33 := Try.underlying33
 have BK48 := yD hb1_0
 clear hb1_0
 have HB := yD (Below.refl w.heap.size w)
 unfold bJ.f at h
 have H := h
 clear h
 have H' := yD H
 clear H; go_enter Try.func61, Try.ntmps61
 go_wp2
 go_loopg [8] k (fun kq v8 w' => ∃ (x8_1 : Int), v8 = .int .i64 x8_1 ∧ aC (bJ.l0 kq l0 (l0.length : Int) x8_1 l1_0 = some r) ∧ aC (kq ≤ k) ∧ aC (w'.heap[g1_0]? = some (.cells #[(.slice A1_0 l1_0.length c1_0)] 29 (0, 0))) ∧ aC (Below w.heap.size w w'))
 case atStart => exact ⟨(0), kF, H', ⟨Nat.le_refl _⟩, ⟨kM BK48⟩, ⟨kR1 HB⟩⟩
 case round =>
  clear H'
  obtain ⟨x8_1, rfl, HA, HK1, BK48, HB⟩ := hrel
  cases gk with
  | zero => exact absurd HA.out (by simp [bJ.l0])
  | succ k1 =>
   have H := HA.out; clear HA
   simp only [bJ.l0] at H
   replace H := sG H; rcases H with ⟨c3b0, H⟩ | ⟨c3b0, H⟩
   · obtain rfl := sJ H
     go_wp2
     go_ret
     exact ⟨kE, kR1 HB⟩
   replace ⟨c4b0, H⟩ := sE H
   replace ⟨c5b0, H⟩ := sE H
   replace ⟨t748, A6, H⟩ := sV H
   replace H := sT H; rcases H with ⟨rfl, H⟩ | ⟨rfl, H⟩
   ·
    obtain rfl := sJ H
    obtain ⟨p747, q747, ad747, A747_0, c747_0, A747_1, c747_1, e747, hx747_0, hx747_1, HC747_0, HR747_0, HC747_1, HR747_1⟩ := sI (at_T33 C0.r x8_1)
    cases e747
    replace hx747_0 := kD HB hx747_0
    replace hx747_1 := kD HB hx747_1
    go_wp2_with (first | (go_at_call 58; (with_reducible refine (impl_boxesOk_1.calls k1 _ _ ((aA l0 x8_1).f0) _ _ ((aA l0 x8_1).f1) g1_0 A1_0 c1_0 l1_0 true _ (cB HR747_0 HC747_0 HB) (cB HR747_1 HC747_1 HB) (C1_0.b HB) ?z7 A6.out).mono ?_); (case z7 => exact kM BK48); rintro e w8 ⟨rfl, hb⟩; replace BK48 := zY BK48 hb; replace HB := zX HB hb; clear hb))
    go_ret
    exact ⟨kE, kR1 HB⟩
   have H' := yD H
   clear H
   obtain ⟨p747, q747, ad747, A747_0, c747_0, A747_1, c747_1, e747, hx747_0, hx747_1, HC747_0, HR747_0, HC747_1, HR747_1⟩ := sI (at_T33 C0.r x8_1)
   cases e747
   replace hx747_0 := kD HB hx747_0
   replace hx747_1 := kD HB hx747_1
   go_wp2_with (first | (go_at_call 58; (with_reducible refine (impl_boxesOk_1.calls k1 _ _ ((aA l0 x8_1).f0) _ _ ((aA l0 x8_1).f1) g1_0 A1_0 c1_0 l1_0 false _ (cB HR747_0 HC747_0 HB) (cB HR747_1 HC747_1 HB) (C1_0.b HB) ?z7 A6.out).mono ?_); (case z7 => exact kM BK48); rintro e w9 ⟨rfl, hb⟩; replace BK48 := zY BK48 hb; replace HB := zX HB hb; clear hb))
   go_roundg k1
   case measure => have := HK1.out; omega
   case rel => exact ⟨(wrap64 (x8_1 + 1)), kF, H', ⟨by have := HK1.out; omega⟩, ⟨kM BK48⟩, ⟨kR1 HB⟩⟩
def slices_ContainsFunc_impl_boxesOk_1.f (k : Nat) (l0 l1_0 : List (S33)) : Option (Bool) := (bJ.f k l0 l1_0).bind fun t749 => (some (decide (t749 ≥ 0)))
theorem slices_ContainsFunc_impl_boxesOk_1.calls (k : Nat) (A0 : Option Addr) (c0 : Nat) (l0 : List (S33)) (g1_0 : Nat) (A1_0 : Option Addr) (c1_0 : Nat) (l1_0 : List (S33)) (r : Bool) (w : World) (C0 : Cm k33 w A0 c0 l0) (C1_0 : Cm k33 w A1_0 c1_0 l1_0) (hb1_0 : w.heap[g1_0]? = some (.cells #[.slice A1_0 l1_0.length c1_0] 29 (0, 0))) (h : slices_ContainsFunc_impl_boxesOk_1.f k l0 l1_0 = some r) :
 Calls Try.prog 35 #[.slice A0 l0.length c0, .func (.func 58) #[] #[.pointer (some ⟨g1_0, 0, none⟩)]] w fun e w' => e = .returned (.bool r) ∧ Below w.heap.size w w' := by
 have BK48 := yD hb1_0
 clear hb1_0
 have HB := yD (Below.refl w.heap.size w)
 unfold slices_ContainsFunc_impl_boxesOk_1.f at h
 have H := h
 clear h
 replace ⟨t749, A3, H⟩ := sV H
 obtain rfl := sJ H; go_enter Try.func35, Try.ntmps35
 go_wp2_with (first | (refine gC 61 ?_; refine gL 7 Try.func61 _ (dn (bJ.calls k _ _ l0 g1_0 A1_0 c1_0 l1_0 t749 _ ?z1 ?z3 ?z5 A3.out) fun w4 hb => ?_); (case z1 => exact ⟨(by repeat (first | exact C0.r | (with_reducible first | refine yV ?_ _ | refine yW ?_ _ | refine yX ?_))), C0.h⟩); (case z3 => exact ⟨(by repeat (first | exact C1_0.r | (with_reducible first | refine yV ?_ _ | refine yW ?_ _ | refine yX ?_))), C1_0.h⟩); (case z5 => exact kM BK48); replace BK48 := zY BK48 hb; replace HB := zX HB hb; clear hb))
 go_ret
 exact ⟨kE, kR1 HB⟩
def impl_boxesOk.f (k : Nat) (l0 : List (S33)) : Option (Bool) := if (l0.length : Int) ≤ 32 then ((slices_ContainsFunc_impl_boxesOk_1.f k l0 l0).bind fun t751 => (some (!t751))) else (some false)
theorem impl_boxesOk.calls (k : Nat) (A0 : Option Addr) (c0 : Nat) (l0 : List (S33)) (r : Bool) (w : World) (C0 : Cm k33 w A0 c0 l0) (h : impl_boxesOk.f k l0 = some r) :
 Calls Try.prog 26 #[.slice A0 l0.length c0] w fun e w' => e = .returned (.bool r) ∧ Below w.heap.size w w' := by
 have HB := yD (Below.refl w.heap.size w)
 unfold impl_boxesOk.f at h
 have H := h
 clear h
 replace H := sC H; rcases H with ⟨c2, H⟩ | ⟨c2, H⟩
 ·
  have c2b0 : decide ((l0.length : Int) ≤ 32) = false := zS c2
  have c2b1 : decide (l0.length ≤ 32) = false := zS (by omega)
  clear c2; obtain rfl := sJ H; go_enter Try.func26, Try.ntmps26
  go_wp2_with (first | (refine gD 1 ?_; refine bF (N := 1) (cs := #[.slice A0 l0.length c0]) (t := 29) HB ?_; intro gb750 w7 BK750 GW750 HB; have hcz8_0 : w7.cell? ⟨gb750, 0, none⟩ = some (.slice A0 l0.length c0) := (yG BK750.out 0).trans rfl; have hfz8_0 := yR BK750.out 0))
  go_ret
  exact ⟨kE, kR1 HB⟩
 have c2b0 : decide ((l0.length : Int) ≤ 32) = true := zR c2
 have c2b1 : decide (l0.length ≤ 32) = true := zR (by omega)
 clear c2
 replace ⟨t751, A3, H⟩ := sV H
 obtain rfl := sJ H; go_enter Try.func26, Try.ntmps26
 go_wp2_with (first | (refine gD 1 ?_; refine bF (N := 1) (cs := #[.slice A0 l0.length c0]) (t := 29) HB ?_; intro gb750 w4 BK750 GW750 HB; have hcz5_0 : w4.cell? ⟨gb750, 0, none⟩ = some (.slice A0 l0.length c0) := (yG BK750.out 0).trans rfl; have hfz5_0 := yR BK750.out 0) | (go_at_call 35; (with_reducible refine (slices_ContainsFunc_impl_boxesOk_1.calls k _ _ l0 gb750 A0 c0 l0 t751 _ (C0.b HB) (C0.b HB) ?z5 A3.out).mono ?_); (case z5 => exact kM BK750); rintro e w6 ⟨rfl, hb⟩; replace BK750 := zY BK750 hb; replace HB := zX HB hb; clear hb))
 go_ret
 exact ⟨kE, kR1 HB⟩
mutual
def aW.j0 : Nat → List (S33) → Bool → Option (List Int × List Int × Bool)
 | 0, _, _ => none
 | k + 1, x0, x15 => if x15 = true then (some (([] : List Int), ([] : List Int), false)) else (if 0 < (x0.length : Int) then ((cK.f ((aA x0 0).f0)).bind fun t755 => ((cK.f ((aA x0 0).f1)).bind fun t759 => (aW.l0 k x0 (x0.length : Int) 0 t755 t759))) else (none))
def aW.l0 : Nat → List (S33) → Int → Int → List Int → List Int → Option (List Int × List Int × Bool)
 | 0, _, _, _, _, _ => none
 | k + 1, x28, x29, x30, x763000, x763001 => if x30 < x29 then (if 0 ≤ x30 then (if x30 < (x28.length : Int) then (aW.l1 k x28 x29 x30 (((aA x28 x30).f0).length : Int) 0 x763000 x763001 ((aA x28 x30).f0) ((aA x28 x30).f1)) else (none)) else (none)) else (some (x763000, x763001, true))
def aW.l1 : Nat → List (S33) → Int → Int → Int → Int → List Int → List Int → List Int → List Int → Option (List Int × List Int × Bool)
 | 0, _, _, _, _, _, _, _, _, _ => none
 | k + 1, x28, x29, x30, x36, x37, x763000, x763001, x765000, x765001 => if x37 < x36 then (if 0 ≤ x37 then (if x37 < (x763000.length : Int) then (if x37 < (x765000.length : Int) then (if x37 < (x763001.length : Int) then (if x37 < (x765001.length : Int) then (aW.l1 k x28 x29 x30 x36 (wrap64 (x37 + 1)) (x763000.set (x37 : Int).toNat (mn (rd x763000 x37) (rd x765000 x37))) (x763001.set (x37 : Int).toNat (mx (rd x763001 x37) (rd x765001 x37))) x765000 x765001) else (none)) else (none)) else (none)) else (none)) else (none)) else (aW.l0 k x28 x29 (wrap64 (x30 + 1)) x763000 x763001)
end
def aW.f (k : Nat) (l0 : List (S33)) : Option (List Int × List Int × Bool) := (impl_boxesOk.f k l0).bind fun t753 => (if t753 = true then (aW.j0 k l0 ((l0.length : Int) == 0)) else (aW.j0 k l0 true))
def aW.T3 : Bool × List (List Nat × List Nat) := (true, [([], []), ([0], [0]), ([1], [1]), ([2], [2]), ([3], [3]), ([], []), ([5], [5]), ([6], [6]), ([7], [7]), ([8, 4], [8]), ([4, 9], [4, 9]), ([], []), ([11, 10, 9, 0, 1, 2, 3, 4, 5, 6, 7, 8, 9, 10, 11], [10, 11])])
def aW.B3 : List Nat := [0, 1, 3, 7, 15, 0, 32, 96, 224, 511, 1023, 0, 4095]
theorem aW.tab3 : rtab .any (opsOf Try.f7 3) = aW.T3 := by kernel_rfl
theorem aW.bits3 : waitsOk aW.T3.2 aW.B3 = true := by kernel_rfl
def aW.T10 : Bool × List (List Nat × List Nat) := (true, [([], []), ([0], [0]), ([], []), ([], []), ([3], [3]), ([], []), ([4, 5], [4, 5]), ([6], [6]), ([], []), ([8], [8]), ([], []), ([9, 10], [9, 10]), ([11], [11]), ([7, 12], [7, 12]), ([1, 2, 0, 1, 2, 3, 4, 5, 6, 7, 8, 9, 10, 11, 12, 13], [1, 2]), ([14, 13, 0, 1, 2, 3, 4, 5, 6, 7, 8, 9, 10, 11, 12, 13], [13, 14])])
def aW.B10 : List Nat := [0, 1, 0, 0, 8, 0, 56, 120, 0, 256, 0, 1792, 3840, 8184, 16383, 32767]
theorem aW.tab10 : rtab .any (opsOf Try.f7 10) = aW.T10 := by kernel_rfl
theorem aW.bits10 : waitsOk aW.T10.2 aW.B10 = true := by kernel_rfl
def aW.T11 : Bool × List (List Nat × List Nat) := (true, [([], []), ([0], [0]), ([], []), ([], []), ([3], [3]), ([], []), ([4, 5], [4, 5]), ([6], [6]), ([], []), ([8], [8]), ([], []), ([9, 10], [9, 10]), ([11], [11]), ([7, 12], [7, 12]), ([1, 2, 0, 1, 2, 3, 4, 5, 6, 7, 8, 9, 10, 11, 12, 13], [1, 2]), ([14, 13, 0, 1, 2, 3, 4, 5, 6, 7, 8, 9, 10, 11, 12, 13], [13, 14])])
def aW.B11 : List Nat := [0, 1, 0, 0, 8, 0, 56, 120, 0, 256, 0, 1792, 3840, 8184, 16383, 32767]
theorem aW.tab11 : rtab .any (opsOf Try.f7 11) = aW.T11 := by kernel_rfl
theorem aW.bits11 : waitsOk aW.T11.2 aW.B11 = true := by kernel_rfl
theorem aW.calls (k : Nat) (A0 : Option Addr) (c0 : Nat) (l0 : List (S33)) (r1 : List Int) (r2 : List Int) (r3 : Bool) (w : World) (C0 : Cm k33 w A0 c0 l0) (h : aW.f k l0 = some (r1, r2, r3)) :
 Calls Try.prog 7 #[.slice A0 l0.length c0] w fun e w' => ∃ v0_ v1_ : Value, e = .returned (.tuple #[.agg #[v0_, v1_], .bool r3]) ∧ Kd.R (Kd.int .i64) 2 w' w.heap.size (fun k_ => some k_ ≠ (v1_ : Value).ownBlock) v0_ r1 ∧ Kd.R (Kd.int .i64) 2 w' w.heap.size (fun k_ => some k_ ≠ (v0_ : Value).ownBlock) v1_ r2 ∧ Below w.heap.size w w' := by
 have hu33 := Try.underlying33
 have HB := yD (Below.refl w.heap.size w)
 have H : ((impl_boxesOk.f k l0).bind fun t753 => (if t753 = true then (aW.j0 k l0 ((l0.length : Int) == 0)) else (aW.j0 k l0 true))) = some (r1, r2, r3) := h
 clear h
 have HC2 := yD H
 clear H; go_enter Try.func7, Try.ntmps7
 go_upto_region 1 with (first | (refine gD 2 ?_; (try (refine gate_guard (by rfl) ?_; dsimp only)); refine bF (N := 2) (cs := #[.slice none 0 0, .slice none 0 0]) (t := 33) HB ?_; intro gb752 w3 BK752 GW752 HB))
 (try simp only [Act.put, zH, zI, zJ])
 go_cut [15] (fun v15 wc => ∃ (kq : Nat) (x15_1 : Bool), v15 = .bool x15_1 ∧ aC (aW.j0 kq l0 x15_1 = some (r1, r2, r3)) ∧ aC (kq ≤ k) ∧ aC (wc.heap[gb752]? = some (.cells #[(.slice none 0 0), (.slice none 0 0)] 33 (0, 0))) ∧ aC (Below w.heap.size w wc))
 case first =>
  have H := HC2.out; clear HC2
  replace ⟨t753, A4, H⟩ := sV H
  replace H := sS H; rcases H with ⟨rfl, H⟩ | ⟨rfl, H⟩
  ·
   have H' := yD H
   clear H
   go_wp2_with (first | (refine gC 26 ?_; refine gL 9 Try.func26 _ (dn (impl_boxesOk.calls k _ _ l0 false _ (C0.b HB) A4.out) fun w7 hb => ?_); replace BK752 := zY BK752 hb; replace HB := zX HB hb; clear hb))
   go_meet
   case rel => exact ⟨_, (true), kF, H', ⟨by first | omega | exact Nat.le_refl _⟩, ⟨kM BK752⟩, ⟨kR1 HB⟩⟩
  have H' := yD H
  clear H
  go_wp2_with (first | (refine gC 26 ?_; refine gL 9 Try.func26 _ (dn (impl_boxesOk.calls k _ _ l0 true _ (C0.b HB) A4.out) fun w6 hb => ?_); replace BK752 := zY BK752 hb; replace HB := zX HB hb; clear hb))
  go_meet
  case rel => exact ⟨_, (((l0.length : Int) == 0)), kF, H', ⟨by first | omega | exact Nat.le_refl _⟩, ⟨kM BK752⟩, ⟨kR1 HB⟩⟩
 case rest =>
  clear HC2
  obtain ⟨kq, x15_1, rfl, HA, HJ1, BK752, HB⟩ := hcut
  cases kq with
  | zero => exact absurd HA.out (by simp [aW.j0])
  | succ kj1 =>
   have H := HA.out; clear HA
   simp only [aW.j0] at H
   replace H := sT H; rcases H with ⟨rfl, H⟩ | ⟨rfl, H⟩
   ·
    simp only [Option.some.injEq, Prod.mk.injEq] at H
    obtain ⟨rfl, rfl, rfl⟩ := H
    have := cf2_ BK752.out
    go_wp2
    refine bodyPost_ret (results_ct rfl _ _ gb752 33 #[.slice none 0 0, .slice none 0 0] (0, 0) _ rfl (by (with_reducible repeat (first | refine yM ?_ _ | refine yO ?_ | refine yN ?_ _)); exact bA2_ BK752.out) Try.underlying33 rfl (by kernel_rfl)) rfl ?_
    exact ⟨_, _, kE, by first | exact Kd.R_nil _ _ _ _ _ | exact Kd.N_nil _ _ _ _ _ | exact Kd.V_nil _ _ _ _ _ | exact Kd.Q_nil _ _ _ _ _ | exact Kd.S_nil _ _ _ _ _, by first | exact Kd.R_nil _ _ _ _ _ | exact Kd.N_nil _ _ _ _ _ | exact Kd.V_nil _ _ _ _ _ | exact Kd.Q_nil _ _ _ _ _ | exact Kd.S_nil _ _ _ _ _, kR1 HB⟩
   replace ⟨c10, H⟩ := sD H
   have c10b0 : decide (0 < (l0.length : Int)) = true := zR c10
   have c10b1 : decide (0 < l0.length) = true := zR (by omega)
   clear c10
   replace ⟨t755, A11, H⟩ := sV H
   replace ⟨t759, A12, H⟩ := sV H
   have H' := yD H
   clear H
   try go_wp2
   replace BK752 := yD (yO BK752.out); replace HB := yD (yP HB.out)
   have p754 : 0 ≤ (0 : Int) := (by omega)
   have q754 : 0 < (l0.length : Int) := zP (by assumption)
   obtain ⟨ad754, A754_0, c754_0, A754_1, c754_1, e754, hx754_0, hx754_1, HC754_0, HR754_0, HC754_1, HR754_1⟩ := at_T33 C0.r 0 p754 q754
   have hw754_1 := hx754_1
   (try rw [show ((0 : Int)).toNat = 0 from rfl] at hw754_1)
   (try rw [show 0 * 2 = 0 from rfl] at hw754_1)
   (try rw [Addr.add_zero'] at hw754_1)
   have hw754_0 := hx754_0
   (try rw [show ((0 : Int)).toNat = 0 from rfl] at hw754_0)
   (try rw [show 0 * 2 = 0 from rfl] at hw754_0)
   (try rw [Addr.add_zero'] at hw754_0)
   cases e754
   have qi754 : (0 < l0.length) = True := eq_true (by omega)
   (try rw [show ((0 : Int)).toNat = 0 from rfl] at hx754_0)
   (try rw [show 0 * 2 = 0 from rfl] at hx754_0)
   (try rw [Addr.add_zero'] at hx754_0)
   (try rw [show ((0 : Int)).toNat = 0 from rfl] at hx754_1)
   (try rw [show 0 * 2 = 0 from rfl] at hx754_1)
   (try rw [Addr.add_zero'] at hx754_1)
   replace hx754_0 := kD HB hx754_0
   replace hx754_1 := kD HB hx754_1
   replace p754 := eq_true p754; replace q754 := eq_true q754
   have p758 : 0 ≤ (0 : Int) := (by omega)
   have q758 : 0 < (l0.length : Int) := zP (by assumption)
   obtain ⟨ad758, A758_0, c758_0, A758_1, c758_1, e758, hx758_0, hx758_1, HC758_0, HR758_0, HC758_1, HR758_1⟩ := at_T33 C0.r 0 p758 q758
   have hw758_1 := hx758_1
   (try rw [show ((0 : Int)).toNat = 0 from rfl] at hw758_1)
   (try rw [show 0 * 2 = 0 from rfl] at hw758_1)
   (try rw [Addr.add_zero'] at hw758_1)
   have hw758_0 := hx758_0
   (try rw [show ((0 : Int)).toNat = 0 from rfl] at hw758_0)
   (try rw [show 0 * 2 = 0 from rfl] at hw758_0)
   (try rw [Addr.add_zero'] at hw758_0)
   obtain rfl : ad754 = ad758 := (by injection e758)
   have qi758 : (0 < l0.length) = True := eq_true (by omega)
   (try rw [show ((0 : Int)).toNat = 0 from rfl] at hx758_0)
   (try rw [show 0 * 2 = 0 from rfl] at hx758_0)
   (try rw [Addr.add_zero'] at hx758_0)
   (try rw [show ((0 : Int)).toNat = 0 from rfl] at hx758_1)
   (try rw [show 0 * 2 = 0 from rfl] at hx758_1)
   (try rw [Addr.add_zero'] at hx758_1)
   replace hx758_0 := kD HB hx758_0
   replace hx758_1 := kD HB hx758_1
   replace p758 := eq_true p758; replace q758 := eq_true q758
   have ea_ := Option.some.inj (hx754_0.symm.trans hx758_0)
   injection ea_ with ea_ en_ ec_
   subst ea_; subst ec_; clear en_
   have ea_ := Option.some.inj (hx754_1.symm.trans hx758_1)
   injection ea_ with ea_ en_ ec_
   subst ea_; subst ec_; clear en_
   refine s0 (m := 13) (S := fun w' => w'.cell? ad754 = some (.slice A754_0 ((aA l0 0).f0).length c754_0) ∧ w'.cell? ⟨ad754.block, ad754.off + 1, none⟩ = some (.slice A754_1 ((aA l0 0).f1).length c754_1) ∧ w'.cell? ad754 = some (.slice A754_0 ((aA l0 0).f0).length c754_0) ∧ w'.cell? ⟨ad754.block, ad754.off + 1, none⟩ = some (.slice A754_1 ((aA l0 0).f1).length c754_1)) aW.tab3 aW.bits3 ⟨(kC HB hw754_0), (kC HB hw754_1), (kC HB hw758_0), (kC HB hw758_1)⟩ fun hHeld HT_ HW_ => ?_
   generalize wc.drew = w13 at BK752 HB HR754_0 HR754_1 HR758_0 HR758_1 hx754_0 hx754_1 hx758_0 hx758_1 hHeld ⊢
   refine qa 13 0 1 ?_; refine qa 13 1 3 ?_; refine qa 13 2 7 ?_; refine qa 13 5 39 ?_; refine qa 13 6 103 ?_; refine qa 13 7 231 ?_; refine qc 13 3 239 hHeld ?_; refine qc 13 8 495 hHeld ?_
   refine join_ (σ := Value × Value × Nat) 1 #[true, true, true, true, true, true, true, true, true, true, true, true, false] (fun s_ => [(21, s_.1), (26, s_.2.1), (4, .pointer (some ⟨s_.2.2, 0, none⟩)), (27, .agg #[s_.1, s_.2.1])]) (fun s_ w' => (w'.cell? ad754 = some (.slice A754_0 ((aA l0 0).f0).length c754_0) ∧ w'.cell? ⟨ad754.block, ad754.off + 1, none⟩ = some (.slice A754_1 ((aA l0 0).f1).length c754_1) ∧ w'.cell? ad754 = some (.slice A754_0 ((aA l0 0).f0).length c754_0) ∧ w'.cell? ⟨ad754.block, ad754.off + 1, none⟩ = some (.slice A754_1 ((aA l0 0).f1).length c754_1)) ∧ (Kd.R (Kd.int .i64) 2 w' w.heap.size (fun k_ => some k_ ≠ (s_.2.1 : Value).ownBlock) s_.1 t755) ∧ (Kd.R (Kd.int .i64) 2 w' w.heap.size (fun k_ => some k_ ≠ (s_.1 : Value).ownBlock) s_.2.1 t759) ∧ (w'.heap[gb752]? = some (.cells #[.slice none 0 0, .slice none 0 0] 33 (0, 0))) ∧ (w'.heap[s_.2.2]? = some (.cells #[.slice none 0 0, .slice none 0 0] 33 (0, 0))) ∧ (w.heap.size ≤ s_.2.2) ∧ (w.heap.size ≤ s_.2.2) ∧ (gb752 ≠ s_.2.2) ∧ (s_.2.2 ≠ gb752) ∧ (Below w.heap.size w w')) ?_ ?_
   rotate_left
   ·
    intro hCont
    refine two_ (i := 4) (j := 11) (Ni := some 21) (Nj := some 4) #[true, true, true, true, true, true, true, true, true, false, false, false, false] #[true, true, true, true, false, true, true, true, true, false, false, true, false] rfl rfl rfl rfl (two_of HT_.out (by kernel_rfl)) (by decide) (by decide) (fun K hK => ?_) (fun K hK => ?_)
    ·
     skip
     refine qg Try.func20 _ (dv (cK.calls _ _ ((aA l0 0).f0) t755 _ (cB HR754_0 HC754_0 HB) A11.out) fun v756 w14 ho0 hb => ?_)
     have HO757 := yD (yZ ho0 (aD (kB HB))); replace BK752 := zY BK752 hb; replace HB := zX HB hb
     refine hK.out _ _ ⟨(kC HB hw754_0), (kC HB hw754_1), (kC HB hw758_0), (kC HB hw758_1)⟩ (fun hHeld => ?_)
     clear hK K
     refine nZ 21 ?_
     refine two_ (i := 9) (j := 11) (Ni := some 26) (Nj := some 4) #[true, true, true, true, true, true, true, true, true, true, false, false, false] #[true, true, true, true, true, true, true, true, true, false, false, true, false] rfl rfl rfl rfl (two_of HT_.out (by kernel_rfl)) (by decide) (by decide) (fun K hK => ?_) (fun K hK => ?_)
     ·
      skip
      refine qg Try.func20 _ (dv (cK.calls _ _ ((aA l0 0).f1) t759 _ (cB HR758_1 HC758_1 HB) A12.out) fun v760 w15 ho0 hb => ?_)
      have HO761 := yD (yZ (yJ ho0 (yK (kA HO757))) (aD (kB HB))); replace HO757 := yD (Kd.R_elder' (kA HO757) (yH ho0) hb); replace BK752 := zY BK752 hb; replace HB := zX HB hb
      obtain ⟨Ao16, co16, eo16⟩ := Kd.bS HO761.out
      (first | subst eo16 | (injection eo16 with f1_ f2_ f3_; have f4_ := f1_.symm; have f5_ := f3_.symm; clear f1_ f2_ f3_; subst f4_; subst f5_))
      obtain ⟨Ao17, co17, eo17⟩ := Kd.bS HO757.out
      (first | subst eo17 | (injection eo17 with f1_ f2_ f3_; have f4_ := f1_.symm; have f5_ := f3_.symm; clear f1_ f2_ f3_; subst f4_; subst f5_))
      refine hK.out _ _ ⟨(kC HB hw754_0), (kC HB hw754_1), (kC HB hw758_0), (kC HB hw758_1)⟩ (fun hHeld => ?_)
      clear hK K
      refine nZ 26 ?_
      refine qa 13 10 2047 ?_
      refine qo 13 11 4095 (some 4) fun K hK => ?_
      refine box_step ?hg (N := 4) ?hd (cs := #[.slice none 0 0, .slice none 0 0]) (t := 33) ?hr ?_; (case hd => rfl); (case hg => rfl); (case hr => first | (go_simp; done) | (go_simp; rfl))
      intro gb762 hg w18 hbox hb
      have n0_ := yD (zE (kA HO757) hb)
      have n1_ := yD (zE (kA HO761) hb)
      have n2_ := yD (zB (kN BK752) hb)
      have n3_ := yD (zC (kB HB) hb)
      have n4_ := yD (hbox)
      have n5_ := yD ((by rw [hg]; exact (aD (kB HB)) : w.heap.size ≤ gb762))
      have n6_ := yD ((by rw [hg]; exact (aD (kB HB)) : w.heap.size ≤ gb762))
      have n7_ := yD ((by rw [hg]; exact Nat.ne_of_lt (cT (kN BK752)) : gb752 ≠ gb762))
      have n8_ := yD ((by rw [hg]; exact Nat.ne_of_gt (cT (kN BK752)) : gb762 ≠ gb752))
      clear HO757 HO761 BK752 HB; have HO757 := n0_; have HO761 := n1_; have BK752 := n2_; have HB := n3_; have BK762 := n4_; have GW762 := n5_; have GW762 := n6_; have NB752_762 := n7_; have NB762_752 := n8_; clear n0_ n1_ n2_ n3_ n4_ n5_ n6_ n7_ n8_ hb hbox hg
      refine hK.out _ _ ⟨(kC HB hw754_0), (kC HB hw754_1), (kC HB hw758_0), (kC HB hw758_1)⟩ (fun hHeld => ?_)
      clear hK K
      refine nZ 4 ?_
      exact norm_ (by simp only [putAll, Act.put, zH, zI, zJ]) (hCont (.slice Ao17 t755.length co17, .slice Ao16 t759.length co16, gb762) _ ⟨hHeld, (mR HO757 (fun _ hk => hk.2)), (mR HO761 (fun _ hk => hk.2)), (kM BK752), (kM BK762), GW762.out, GW762.out, NB752_762.out, NB762_752.out, (kB HB)⟩)
     ·
      skip
      refine box_step ?hg (N := 4) ?hd (cs := #[.slice none 0 0, .slice none 0 0]) (t := 33) ?hr ?_; (case hd => rfl); (case hg => rfl); (case hr => first | (go_simp; done) | (go_simp; rfl))
      intro gb762 hg w15 hbox hb
      have n0_ := yD (zE (kA HO757) hb)
      have n1_ := yD (zB (kN BK752) hb)
      have n2_ := yD (zC (kB HB) hb)
      have n3_ := yD (hbox)
      have n4_ := yD ((by rw [hg]; exact (aD (kB HB)) : w.heap.size ≤ gb762))
      have n5_ := yD ((by rw [hg]; exact (aD (kB HB)) : w.heap.size ≤ gb762))
      have n6_ := yD ((by rw [hg]; exact Nat.ne_of_lt (cT (kN BK752)) : gb752 ≠ gb762))
      have n7_ := yD ((by rw [hg]; exact Nat.ne_of_gt (cT (kN BK752)) : gb762 ≠ gb752))
      clear HO757 BK752 HB; have HO757 := n0_; have BK752 := n1_; have HB := n2_; have BK762 := n3_; have GW762 := n4_; have GW762 := n5_; have NB752_762 := n6_; have NB762_752 := n7_; clear n0_ n1_ n2_ n3_ n4_ n5_ n6_ n7_ hb hbox hg
      refine hK.out _ _ ⟨(kC HB hw754_0), (kC HB hw754_1), (kC HB hw758_0), (kC HB hw758_1)⟩ (fun hHeld => ?_)
      clear hK K
      refine nZ 4 ?_
      refine qo 13 9 3071 (some 26) fun K hK => ?_
      refine qg Try.func20 _ (dv (cK.calls _ _ ((aA l0 0).f1) t759 _ (cB HR758_1 HC758_1 HB) A12.out) fun v760 w16 ho0 hb => ?_)
      have HO761 := yD (yZ (yJ ho0 (yK (kA HO757))) (aD (kB HB))); replace HO757 := yD (Kd.R_elder' (kA HO757) (yH ho0) hb); replace BK752 := zY BK752 hb; replace BK762 := zY BK762 hb; replace HB := zX HB hb
      obtain ⟨Ao17, co17, eo17⟩ := Kd.bS HO761.out
      (first | subst eo17 | (injection eo17 with f1_ f2_ f3_; have f4_ := f1_.symm; have f5_ := f3_.symm; clear f1_ f2_ f3_; subst f4_; subst f5_))
      obtain ⟨Ao18, co18, eo18⟩ := Kd.bS HO757.out
      (first | subst eo18 | (injection eo18 with f1_ f2_ f3_; have f4_ := f1_.symm; have f5_ := f3_.symm; clear f1_ f2_ f3_; subst f4_; subst f5_))
      refine hK.out _ _ ⟨(kC HB hw754_0), (kC HB hw754_1), (kC HB hw758_0), (kC HB hw758_1)⟩ (fun hHeld => ?_)
      clear hK K
      refine nZ 26 ?_
      refine qa 13 10 4095 ?_
      exact norm_ (by simp only [putAll, Act.put, zH, zI, zJ]) (hCont (.slice Ao18 t755.length co18, .slice Ao17 t759.length co17, gb762) _ ⟨hHeld, (mR HO757 (fun _ hk => hk.2)), (mR HO761 (fun _ hk => hk.2)), (kM BK752), (kM BK762), GW762.out, GW762.out, NB752_762.out, NB762_752.out, (kB HB)⟩)
    ·
     skip
     refine box_step ?hg (N := 4) ?hd (cs := #[.slice none 0 0, .slice none 0 0]) (t := 33) ?hr ?_; (case hd => rfl); (case hg => rfl); (case hr => first | (go_simp; done) | (go_simp; rfl))
     intro gb762 hg w14 hbox hb
     have n0_ := yD (zB (kN BK752) hb)
     have n1_ := yD (zC (kB HB) hb)
     have n2_ := yD (hbox)
     have n3_ := yD ((by rw [hg]; exact (aD (kB HB)) : w.heap.size ≤ gb762))
     have n4_ := yD ((by rw [hg]; exact (aD (kB HB)) : w.heap.size ≤ gb762))
     have n5_ := yD ((by rw [hg]; exact Nat.ne_of_lt (cT (kN BK752)) : gb752 ≠ gb762))
     have n6_ := yD ((by rw [hg]; exact Nat.ne_of_gt (cT (kN BK752)) : gb762 ≠ gb752))
     clear BK752 HB; have BK752 := n0_; have HB := n1_; have BK762 := n2_; have GW762 := n3_; have GW762 := n4_; have NB752_762 := n5_; have NB762_752 := n6_; clear n0_ n1_ n2_ n3_ n4_ n5_ n6_ hb hbox hg
     refine hK.out _ _ ⟨(kC HB hw754_0), (kC HB hw754_1), (kC HB hw758_0), (kC HB hw758_1)⟩ (fun hHeld => ?_)
     clear hK K
     refine nZ 4 ?_
     refine qo 13 4 2559 (some 21) fun K hK => ?_
     refine qg Try.func20 _ (dv (cK.calls _ _ ((aA l0 0).f0) t755 _ (cB HR754_0 HC754_0 HB) A11.out) fun v756 w15 ho0 hb => ?_)
     have HO757 := yD (yZ ho0 (aD (kB HB))); replace BK752 := zY BK752 hb; replace BK762 := zY BK762 hb; replace HB := zX HB hb
     refine hK.out _ _ ⟨(kC HB hw754_0), (kC HB hw754_1), (kC HB hw758_0), (kC HB hw758_1)⟩ (fun hHeld => ?_)
     clear hK K
     refine nZ 21 ?_
     refine qo 13 9 3071 (some 26) fun K hK => ?_
     refine qg Try.func20 _ (dv (cK.calls _ _ ((aA l0 0).f1) t759 _ (cB HR758_1 HC758_1 HB) A12.out) fun v760 w16 ho0 hb => ?_)
     have HO761 := yD (yZ (yJ ho0 (yK (kA HO757))) (aD (kB HB))); replace HO757 := yD (Kd.R_elder' (kA HO757) (yH ho0) hb); replace BK752 := zY BK752 hb; replace BK762 := zY BK762 hb; replace HB := zX HB hb
     obtain ⟨Ao17, co17, eo17⟩ := Kd.bS HO761.out
     (first | subst eo17 | (injection eo17 with f1_ f2_ f3_; have f4_ := f1_.symm; have f5_ := f3_.symm; clear f1_ f2_ f3_; subst f4_; subst f5_))
     obtain ⟨Ao18, co18, eo18⟩ := Kd.bS HO757.out
     (first | subst eo18 | (injection eo18 with f1_ f2_ f3_; have f4_ := f1_.symm; have f5_ := f3_.symm; clear f1_ f2_ f3_; subst f4_; subst f5_))
     refine hK.out _ _ ⟨(kC HB hw754_0), (kC HB hw754_1), (kC HB hw758_0), (kC HB hw758_1)⟩ (fun hHeld => ?_)
     clear hK K
     refine nZ 26 ?_
     refine qa 13 10 4095 ?_
     exact norm_ (by simp only [putAll, Act.put, zH, zI, zJ]) (hCont (.slice Ao18 t755.length co18, .slice Ao17 t759.length co17, gb762) _ ⟨hHeld, (mR HO757 (fun _ hk => hk.2)), (mR HO761 (fun _ hk => hk.2)), (kM BK752), (kM BK762), GW762.out, GW762.out, NB752_762.out, NB762_752.out, (kB HB)⟩)
   rintro ⟨v756, v760, gb762⟩ w19 ⟨hS_, h0_, h1_, h2_, h3_, h4_, h5_, h6_, h7_, h8_⟩
   (try dsimp only at h0_ h1_ h2_ h3_ h4_ h5_ h6_ h7_ h8_); clear BK752 HB; have HO757 := yD h0_; have HO761 := yD h1_; have BK752 := yD h2_; have BK762 := yD h3_; have GW762 := yD h4_; have GW762 := yD h5_; have NB752_762 := yD h6_; have NB762_752 := yD h7_; have HB := yD h8_; clear h0_ h1_ h2_ h3_ h4_ h5_ h6_ h7_ h8_
   have hHeld : w19.cell? ad754 = some (.slice A754_0 ((aA l0 0).f0).length c754_0) ∧ w19.cell? ⟨ad754.block, ad754.off + 1, none⟩ = some (.slice A754_1 ((aA l0 0).f1).length c754_1) ∧ w19.cell? ad754 = some (.slice A754_0 ((aA l0 0).f0).length c754_0) ∧ w19.cell? ⟨ad754.block, ad754.off + 1, none⟩ = some (.slice A754_1 ((aA l0 0).f1).length c754_1) := hS_
   obtain ⟨Ao20, co20, eo20⟩ := Kd.bS HO761.out
   (first | subst eo20 | (injection eo20 with f1_ f2_ f3_; have f4_ := f1_.symm; have f5_ := f3_.symm; clear f1_ f2_ f3_; subst f4_; subst f5_))
   obtain ⟨Ao21, co21, eo21⟩ := Kd.bS HO757.out
   (first | subst eo21 | (injection eo21 with f1_ f2_ f3_; have f4_ := f1_.symm; have f5_ := f3_.symm; clear f1_ f2_ f3_; subst f4_; subst f5_))
   refine norm_ (a' := ?_) ?_ ?_
   rotate_left
   · simp only [putAll, Act.put, zH, zI, zJ]
     rfl
   refine qo 13 12 8191 none fun K hK => ?_
   have hs22 : w19.cell? ⟨gb762, 0, none⟩ = some (.slice none 0 0) := (yG BK762.out 0).trans rfl
   have hfs22 := yR BK762.out 0
   have hns22_0 := NB752_762.out; have hms22_0 := NB762_752.out
   have hs23 : w19.cell? ⟨gb762, 1, none⟩ = some (.slice none 0 0) := (yG BK762.out 1).trans rfl
   have hfs23 := yR BK762.out 1
   have hns23_0 := NB752_762.out; have hms23_0 := NB762_752.out
   refine skip_ (w1 := ?_) (by rfl) rfl ?_ ?_
   rotate_left
   · go_simp
     rfl
   refine hK.out _ _ ⟨((cell_far (p := ⟨gb762, _, none⟩) (by first | exact Nat.ne_of_lt (Nat.lt_of_lt_of_le (by have := zQ _ _ hw754_0; first | rwa [add_block] at this | exact this) GW762.out) | (rw [add_block]; exact Nat.ne_of_lt (Nat.lt_of_lt_of_le (by have := zQ _ _ hw754_0; first | rwa [add_block] at this | exact this) GW762.out)) | (show (Addr.add _ _).block ≠ _; rw [add_block]; exact Nat.ne_of_lt (Nat.lt_of_lt_of_le (by have := zQ _ _ hw754_0; first | rwa [add_block] at this | exact this) GW762.out)) | (dsimp only; exact Nat.ne_of_lt (Nat.lt_of_lt_of_le (by have := zQ _ _ hw754_0; first | rwa [add_block] at this | exact this) GW762.out))) _).trans (((cell_far (p := ⟨gb762, _, none⟩) (by first | exact Nat.ne_of_lt (Nat.lt_of_lt_of_le (by have := zQ _ _ hw754_0; first | rwa [add_block] at this | exact this) GW762.out) | (rw [add_block]; exact Nat.ne_of_lt (Nat.lt_of_lt_of_le (by have := zQ _ _ hw754_0; first | rwa [add_block] at this | exact this) GW762.out)) | (show (Addr.add _ _).block ≠ _; rw [add_block]; exact Nat.ne_of_lt (Nat.lt_of_lt_of_le (by have := zQ _ _ hw754_0; first | rwa [add_block] at this | exact this) GW762.out)) | (dsimp only; exact Nat.ne_of_lt (Nat.lt_of_lt_of_le (by have := zQ _ _ hw754_0; first | rwa [add_block] at this | exact this) GW762.out))) _).trans (hHeld.1)))), ((cell_far (p := ⟨gb762, _, none⟩) (by first | exact Nat.ne_of_lt (Nat.lt_of_lt_of_le (by have := zQ _ _ hw754_1; first | rwa [add_block] at this | exact this) GW762.out) | (rw [add_block]; exact Nat.ne_of_lt (Nat.lt_of_lt_of_le (by have := zQ _ _ hw754_1; first | rwa [add_block] at this | exact this) GW762.out)) | (show (Addr.add _ _).block ≠ _; rw [add_block]; exact Nat.ne_of_lt (Nat.lt_of_lt_of_le (by have := zQ _ _ hw754_1; first | rwa [add_block] at this | exact this) GW762.out)) | (dsimp only; exact Nat.ne_of_lt (Nat.lt_of_lt_of_le (by have := zQ _ _ hw754_1; first | rwa [add_block] at this | exact this) GW762.out))) _).trans (((cell_far (p := ⟨gb762, _, none⟩) (by first | exact Nat.ne_of_lt (Nat.lt_of_lt_of_le (by have := zQ _ _ hw754_1; first | rwa [add_block] at this | exact this) GW762.out) | (rw [add_block]; exact Nat.ne_of_lt (Nat.lt_of_lt_of_le (by have := zQ _ _ hw754_1; first | rwa [add_block] at this | exact this) GW762.out)) | (show (Addr.add _ _).block ≠ _; rw [add_block]; exact Nat.ne_of_lt (Nat.lt_of_lt_of_le (by have := zQ _ _ hw754_1; first | rwa [add_block] at this | exact this) GW762.out)) | (dsimp only; exact Nat.ne_of_lt (Nat.lt_of_lt_of_le (by have := zQ _ _ hw754_1; first | rwa [add_block] at this | exact this) GW762.out))) _).trans (hHeld.2.1)))), ((cell_far (p := ⟨gb762, _, none⟩) (by first | exact Nat.ne_of_lt (Nat.lt_of_lt_of_le (by have := zQ _ _ hw758_0; first | rwa [add_block] at this | exact this) GW762.out) | (rw [add_block]; exact Nat.ne_of_lt (Nat.lt_of_lt_of_le (by have := zQ _ _ hw758_0; first | rwa [add_block] at this | exact this) GW762.out)) | (show (Addr.add _ _).block ≠ _; rw [add_block]; exact Nat.ne_of_lt (Nat.lt_of_lt_of_le (by have := zQ _ _ hw758_0; first | rwa [add_block] at this | exact this) GW762.out)) | (dsimp only; exact Nat.ne_of_lt (Nat.lt_of_lt_of_le (by have := zQ _ _ hw758_0; first | rwa [add_block] at this | exact this) GW762.out))) _).trans (((cell_far (p := ⟨gb762, _, none⟩) (by first | exact Nat.ne_of_lt (Nat.lt_of_lt_of_le (by have := zQ _ _ hw758_0; first | rwa [add_block] at this | exact this) GW762.out) | (rw [add_block]; exact Nat.ne_of_lt (Nat.lt_of_lt_of_le (by have := zQ _ _ hw758_0; first | rwa [add_block] at this | exact this) GW762.out)) | (show (Addr.add _ _).block ≠ _; rw [add_block]; exact Nat.ne_of_lt (Nat.lt_of_lt_of_le (by have := zQ _ _ hw758_0; first | rwa [add_block] at this | exact this) GW762.out)) | (dsimp only; exact Nat.ne_of_lt (Nat.lt_of_lt_of_le (by have := zQ _ _ hw758_0; first | rwa [add_block] at this | exact this) GW762.out))) _).trans (hHeld.2.2.1)))), ((cell_far (p := ⟨gb762, _, none⟩) (by first | exact Nat.ne_of_lt (Nat.lt_of_lt_of_le (by have := zQ _ _ hw758_1; first | rwa [add_block] at this | exact this) GW762.out) | (rw [add_block]; exact Nat.ne_of_lt (Nat.lt_of_lt_of_le (by have := zQ _ _ hw758_1; first | rwa [add_block] at this | exact this) GW762.out)) | (show (Addr.add _ _).block ≠ _; rw [add_block]; exact Nat.ne_of_lt (Nat.lt_of_lt_of_le (by have := zQ _ _ hw758_1; first | rwa [add_block] at this | exact this) GW762.out)) | (dsimp only; exact Nat.ne_of_lt (Nat.lt_of_lt_of_le (by have := zQ _ _ hw758_1; first | rwa [add_block] at this | exact this) GW762.out))) _).trans (((cell_far (p := ⟨gb762, _, none⟩) (by first | exact Nat.ne_of_lt (Nat.lt_of_lt_of_le (by have := zQ _ _ hw758_1; first | rwa [add_block] at this | exact this) GW762.out) | (rw [add_block]; exact Nat.ne_of_lt (Nat.lt_of_lt_of_le (by have := zQ _ _ hw758_1; first | rwa [add_block] at this | exact this) GW762.out)) | (show (Addr.add _ _).block ≠ _; rw [add_block]; exact Nat.ne_of_lt (Nat.lt_of_lt_of_le (by have := zQ _ _ hw758_1; first | rwa [add_block] at this | exact this) GW762.out)) | (dsimp only; exact Nat.ne_of_lt (Nat.lt_of_lt_of_le (by have := zQ _ _ hw758_1; first | rwa [add_block] at this | exact this) GW762.out))) _).trans (hHeld.2.2.2))))⟩ (fun hHeld => ?_)
   clear hK K
   refine qd ?_
   try go_wp2
   go_loopg [30] kj1 (fun kq v30 w' => ∃ (x30_2 : Int) (x763000_2 : List Int) (x763001_2 : List Int) (u763000 : Value) (u763001 : Value), v30 = .int .i64 x30_2 ∧ aC (aW.l0 kq l0 (l0.length : Int) x30_2 x763000_2 x763001_2 = some (r1, r2, r3)) ∧ aC (kq ≤ kj1) ∧ aC (Kd.R (Kd.int .i64) 2 w' w.heap.size (fun k_ => oB u763001 k_) u763000 x763000_2) ∧ aC (Kd.R (Kd.int .i64) 2 w' w.heap.size (fun k_ => oB u763000 k_) u763001 x763001_2) ∧ aC (w'.heap[gb752]? = some (.cells #[(.slice none 0 0), (.slice none 0 0)] 33 (0, 0))) ∧ aC (w'.heap[gb762]? = some (.cells #[u763000, u763001] 33 (0, 0))) ∧ aC (Below w.heap.size w w'))
   case atStart => exact ⟨(0), (t755), (t759), (.slice Ao21 t755.length co21), (.slice Ao20 t759.length co20), kF, H', ⟨Nat.le_refl _⟩, ⟨by (with_reducible repeat (first | apply yA | apply yB | apply yC)); exact zF (yS_ (yS_ (Kd.bQ HO757.out BK762.out (by decide)))) (fun _ hk => hk.1)⟩, ⟨by (with_reducible repeat (first | apply yA | apply yB | apply yC)); exact zF (yS_ (yS_ (Kd.bQ HO761.out BK762.out (by decide)))) (fun _ hk => hk.1)⟩, ⟨by (with_reducible repeat (first | refine yM ?_ _ | refine yO ?_ | refine yN ?_ _)); refine blk_far ?_ NB752_762.out _; (with_reducible repeat (first | refine yM ?_ _ | refine yO ?_ | refine yN ?_ _)); refine blk_far ?_ NB752_762.out _; (with_reducible repeat (first | refine yM ?_ _ | refine yO ?_ | refine yN ?_ _)); exact BK752.out⟩, ⟨by (with_reducible repeat (first | refine yM ?_ _ | refine yO ?_ | refine yN ?_ _)); exact bA2_ BK762.out⟩, ⟨kR1 HB⟩⟩
   case round =>
    clear H'
    obtain ⟨x30_2, x763000_2, x763001_2, u763000, u763001, rfl, HA, HK2, HO_763000, HO_763001, BK752, BK762, HB⟩ := hrel
    cases gk with
    | zero => exact absurd HA.out (by simp [aW.l0])
    | succ k2 =>
     have H := HA.out; clear HA
     simp only [aW.l0] at H
     replace H := sG H; rcases H with ⟨c24b0, H⟩ | ⟨c24b0, H⟩
     ·
      simp only [Option.some.injEq, Prod.mk.injEq] at H
      obtain ⟨rfl, rfl, rfl⟩ := H
      have hnb48 := NB762_752.out; have hnc48 := NB752_762.out
      have := cf2_ BK762.out
      obtain ⟨Ao50, co50, eo50⟩ := Kd.bS HO_763000.out
      subst eo50
      have := cf2_ BK752.out
      obtain ⟨Ao52, co52, eo52⟩ := Kd.bS HO_763001.out
      subst eo52
      go_wp2
      refine bodyPost_ret (results_ct rfl _ _ gb752 33 #[.slice Ao50 x763000_2.length co50, .slice Ao52 x763001_2.length co52] (0, 0) _ rfl (by (with_reducible repeat (first | refine yM ?_ _ | refine yO ?_ | refine yN ?_ _)); exact bA2_ BK752.out) Try.underlying33 rfl (by kernel_rfl)) rfl ?_
      exact ⟨_, _, kE, by (with_reducible repeat (first | apply yA | apply yB | apply yC)); exact zF (yS_ (yS_ (Kd.bQ HO_763000.out BK752.out (by decide)))) (fun _ hk => hk.1), by (with_reducible repeat (first | apply yA | apply yB | apply yC)); exact zF (yS_ (yS_ (Kd.bQ HO_763001.out BK752.out (by decide)))) (fun _ hk => hk.1), kR1 HB⟩
     replace ⟨c25b0, H⟩ := sE H
     replace ⟨c26b0, H⟩ := sE H
     have H' := yD H
     clear H
     obtain ⟨p763, q763, ad763, A763_0, c763_0, A763_1, c763_1, e763, hx763_0, hx763_1, HC763_0, HR763_0, HC763_1, HR763_1⟩ := sI (at_T33 C0.r x30_2)
     obtain rfl : ad754 = ad763 := (by injection e763)
     replace hx763_0 := kD HB hx763_0
     replace hx763_1 := kD HB hx763_1
     go_wp2_with (first | (refine gD 6 ?_; (try (refine gate_guard (by rfl) ?_; dsimp only)); refine bE (N := 6) (cs := #[.slice none 0 0, .slice none 0 0]) (t := 33) ?_; intro gb764 hg w27 hbox hb; replace HO_763000 := yD (zE (kA HO_763000) hb); replace HO_763001 := yD (zE (kA HO_763001) hb); have BK764 := yD (hbox); have GW764 := sW hg HB; replace HB := zX HB hb; have NB752_764 := yD ((by rw [hg]; exact Nat.ne_of_lt (cT (kN BK752)) : gb752 ≠ gb764)); have NB764_752 := yD ((by rw [hg]; exact Nat.ne_of_gt (cT (kN BK752)) : gb764 ≠ gb752)); replace BK752 := zY BK752 hb; have NB762_764 := yD ((by rw [hg]; exact Nat.ne_of_lt (cT (kN BK762)) : gb762 ≠ gb764)); have NB764_762 := yD ((by rw [hg]; exact Nat.ne_of_gt (cT (kN BK762)) : gb764 ≠ gb762)); replace BK762 := zY BK762 hb; clear hb hbox hg; have hnb28 := NB764_752.out; have hnc28 := NB752_764.out; have hnb29 := NB764_762.out; have hnc29 := NB762_764.out; have := cf2_ BK764.out))
     (try simp only [Act.put, zH, zI, zJ])
     go_loopg [37] k2 (fun kq v37 w' => ∃ (x37_3 : Int) (x763000_3 : List Int) (x763001_3 : List Int) (u763000 : Value) (u763001 : Value), v37 = .int .i64 x37_3 ∧ aC (aW.l1 kq l0 (l0.length : Int) x30_2 (((aA l0 x30_2).f0).length : Int) x37_3 x763000_3 x763001_3 ((aA l0 x30_2).f0) ((aA l0 x30_2).f1) = some (r1, r2, r3)) ∧ aC (kq ≤ k2) ∧ aC (Kd.R (Kd.int .i64) 2 w' w.heap.size (fun k_ => oB u763001 k_) u763000 x763000_3) ∧ aC (Kd.R (Kd.int .i64) 2 w' w.heap.size (fun k_ => oB u763000 k_) u763001 x763001_3) ∧ aC (w'.heap[gb752]? = some (.cells #[(.slice none 0 0), (.slice none 0 0)] 33 (0, 0))) ∧ aC (w'.heap[gb762]? = some (.cells #[u763000, u763001] 33 (0, 0))) ∧ aC (w'.heap[gb764]? = some (.cells #[(.slice A763_0 ((aA l0 x30_2).f0).length c763_0), (.slice A763_1 ((aA l0 x30_2).f1).length c763_1)] 33 (0, 0))) ∧ aC (Below w.heap.size w w'))
     case atStart => exact ⟨(0), (x763000_2), (x763001_2), (u763000), (u763001), kF, H', ⟨Nat.le_refl _⟩, ⟨by (with_reducible repeat (first | apply yA | apply yB | apply yC)); exact zF (yS_ (yS_ (Kd.bQ HO_763000.out BK764.out (by decide)))) (fun _ hk => hk.1)⟩, ⟨by (with_reducible repeat (first | apply yA | apply yB | apply yC)); exact zF (yS_ (yS_ (Kd.bQ HO_763001.out BK764.out (by decide)))) (fun _ hk => hk.1)⟩, ⟨by (with_reducible repeat (first | refine yM ?_ _ | refine yO ?_ | refine yN ?_ _)); refine blk_far ?_ NB752_764.out _; (with_reducible repeat (first | refine yM ?_ _ | refine yO ?_ | refine yN ?_ _)); refine blk_far ?_ NB752_764.out _; (with_reducible repeat (first | refine yM ?_ _ | refine yO ?_ | refine yN ?_ _)); exact BK752.out⟩, ⟨by (with_reducible repeat (first | refine yM ?_ _ | refine yO ?_ | refine yN ?_ _)); refine blk_far ?_ NB762_764.out _; (with_reducible repeat (first | refine yM ?_ _ | refine yO ?_ | refine yN ?_ _)); refine blk_far ?_ NB762_764.out _; (with_reducible repeat (first | refine yM ?_ _ | refine yO ?_ | refine yN ?_ _)); exact BK762.out⟩, ⟨by (with_reducible repeat (first | refine yM ?_ _ | refine yO ?_ | refine yN ?_ _)); exact bA2_ BK764.out⟩, ⟨kR1 HB⟩⟩
     case round =>
      clear H'
      obtain ⟨x37_3, x763000_3, x763001_3, u763000, u763001, rfl, HA, HK3, HO_763000, HO_763001, BK752, BK762, BK764, HB⟩ := hrel
      cases gk with
      | zero => exact absurd HA.out (by simp [aW.l1])
      | succ k3 =>
       have H := HA.out; clear HA
       simp only [aW.l1] at H
       replace H := sG H; rcases H with ⟨c31b0, H⟩ | ⟨c31b0, H⟩
       ·
        have H' := yD H
        clear H
        go_wp2
        go_roundg k3
        case measure => have := HJ1.out; have := HK2.out; have := HK3.out; omega
        case rel => exact ⟨(wrap64 (x30_2 + 1)), (x763000_3), (x763001_3), (u763000), (u763001), kF, H', ⟨by have := HJ1.out; have := HK2.out; have := HK3.out; omega⟩, ⟨kA HO_763000⟩, ⟨kA HO_763001⟩, ⟨kM BK752⟩, ⟨kM BK762⟩, ⟨kR1 HB⟩⟩
       replace ⟨c32b0, H⟩ := sE H
       replace ⟨c33b0, H⟩ := sE H
       replace ⟨c34b0, H⟩ := sE H
       obtain ⟨ji35, hji35⟩ : ∃ j_ : Int, (mn (rd x763000_3 x37_3) (rd ((aA l0 x30_2).f0) x37_3)) = j_ := ⟨_, rfl⟩
       replace H : (if x37_3 < (x763001_3.length : Int) then (if x37_3 < (((aA l0 x30_2).f1).length : Int) then (aW.l1 k3 l0 (l0.length : Int) x30_2 (((aA l0 x30_2).f0).length : Int) (wrap64 (x37_3 + 1)) (x763000_3.set (x37_3 : Int).toNat (ji35)) (x763001_3.set (x37_3 : Int).toNat (mx (rd x763001_3 x37_3) (rd ((aA l0 x30_2).f1) x37_3))) ((aA l0 x30_2).f0) ((aA l0 x30_2).f1)) else (none)) else (none)) = some (r1, r2, r3) := by first | (rw [hji35] at H; exact H) | (simp only [hji35] at H ⊢; exact H)
       have hji35_ : (if (rd ((aA l0 x30_2).f0) x37_3) < (rd x763000_3 x37_3) then (rd ((aA l0 x30_2).f0) x37_3) else (rd x763000_3 x37_3)) = ji35 := hji35
       generalize hy767 : ((x763000_3.set (x37_3 : Int).toNat (ji35)) : List Int) = y767 at H
       have Ny767 := yD hy767.symm
       clear hy767
       replace ⟨c37b0, H⟩ := sE H
       replace ⟨c38b0, H⟩ := sE H
       obtain ⟨ji39, hji39⟩ : ∃ j_ : Int, (mx (rd x763001_3 x37_3) (rd ((aA l0 x30_2).f1) x37_3)) = j_ := ⟨_, rfl⟩
       replace H : (aW.l1 k3 l0 (l0.length : Int) x30_2 (((aA l0 x30_2).f0).length : Int) (wrap64 (x37_3 + 1)) y767 (x763001_3.set (x37_3 : Int).toNat (ji39)) ((aA l0 x30_2).f0) ((aA l0 x30_2).f1)) = some (r1, r2, r3) := by first | (rw [hji39] at H; exact H) | (simp only [hji39] at H ⊢; exact H)
       have hji39_ : (if (rd x763001_3 x37_3) < (rd ((aA l0 x30_2).f1) x37_3) then (rd ((aA l0 x30_2).f1) x37_3) else (rd x763001_3 x37_3)) = ji39 := hji39
       generalize hy770 : ((x763001_3.set (x37_3 : Int).toNat (ji39)) : List Int) = y770 at H
       have Ny770 := yD hy770.symm
       clear hy770
       have H' := yD H
       clear H
       try go_wp2
       replace HO_763000 := yD (yC HO_763000.out); replace HO_763001 := yD (yC HO_763001.out); replace BK752 := yD (yO BK752.out); replace BK762 := yD (yO BK762.out); replace BK764 := yD (yO BK764.out); replace HB := yD (yP HB.out)
       obtain ⟨Ao42, co42, eo42⟩ := Kd.bS HO_763000.out
       (first | subst eo42 | (injection eo42 with f1_ f2_ f3_; have f4_ := f1_.symm; have f5_ := f3_.symm; clear f1_ f2_ f3_; subst f4_; subst f5_))
       obtain ⟨p765, q765, ad765, e765, hx765_0⟩ := sI (Kd.aX (zA HO_763000.out).2.2 x37_3)
       cases e765
       obtain ⟨p766, q766, ad766, e766, hx766_0⟩ := sI (Kd.aX HR763_0.out x37_3)
       have hw766_0 := hx766_0; cases e766
       replace hx766_0 := kD HB hx766_0
       have p36 : 0 ≤ (x37_3 : Int) := zP (by assumption)
       have q36 : (x37_3 : Int) < ((x763000_3.length : Int) : Int) := zP (by assumption)
       obtain ⟨go36, co36, eo36, gb36, gl36, cl36, HG36⟩ := Kd.R_form HO_763000.out (by omega)
       (first | cases eo36 | (injection eo36 with ea_ en_ ec_; (first | subst ea_ | (injection ea_ with ea_; subst ea_)); subst ec_; clear en_))
       have GB36 := yD gb36
       have GG36 := yD HG36
       clear gb36 gl36 HG36
       (first | simp only [add_plain] at hx765_0 | skip)
       obtain ⟨hx36_0, hf36_0⟩ := Kd.R_celln 0 HO_763000.out (x37_3 : Int) p36 q36
       replace p36 := eq_true p36; replace q36 := eq_true q36
       have HP43 := Kd.R_putn HO_763000.out (x37_3 : Int) ji35
       rw [← Ny767.out] at HP43
       have HQ43 := yD HP43
       clear HP43
       refine start_ (n := 16) (S := fun w' => w'.cell? ⟨gb762, 0, none⟩ = some (.slice (some ⟨go36, 0, none⟩) x763000_3.length co42) ∧ w'.cell? ⟨gb762, 1, none⟩ = some (u763001) ∧ w'.cell? ⟨gb764, 0, none⟩ = some (.slice (some ad766) ((aA l0 x30_2).f0).length c763_0) ∧ w'.cell? ⟨gb764, 1, none⟩ = some (.slice A763_1 ((aA l0 x30_2).f1).length c763_1) ∧ w'.cell? ⟨go36, (x37_3).toNat, none⟩ = some (.int .i64 (rd x763000_3 x37_3)) ∧ w'.cell? (ad766.add (x37_3).toNat) = some (.int .i64 (rd ((aA l0 x30_2).f0) x37_3))) (ds := [15]) (bz 16 0) (by kernel_rfl) rfl rfl (ca2_ BK762.out (ca2_ BK764.out ⟨hx765_0, (kC HB hw766_0)⟩)) (fun hHeld => ?_); refine with_tabW aW.tab10 aW.bits10 (fun HT_ HW_ => ?_)
       generalize wr.drew = w41 at HO_763000 HO_763001 BK752 BK762 BK764 HB GG36 HQ43 hf36_0 hx36_0 hx765_0 hx766_0 hHeld ⊢
       refine qa 16 0 1 ?_; refine qa 16 2 5 ?_; refine qa 16 3 13 ?_; refine qa 16 5 45 ?_; refine qa 16 8 301 ?_; refine qa 16 10 1325 ?_; refine qc 16 1 1327 hHeld ?_; refine qc 16 4 1343 hHeld ?_; refine qa 16 6 1407 ?_; refine qc 16 7 1535 hHeld ?_; refine qc 16 9 2047 hHeld ?_; refine qa 16 11 4095 ?_; refine qc 16 12 8191 hHeld ?_; refine qa 16 13 16383 ?_; refine qa 16 14 32767 ?_
       refine last_ (i := 15) (N := none) #[true, true, true, true, true, true, true, true, true, true, true, true, true, true, true, true] rfl rfl (one_of HT_.out (by kernel_rfl)) (by decide) (fun K hK => ?_)
       refine skip_ (w1 := ?_) (by rfl) rfl ?_ ?_
       rotate_left
       · go_simp
         rfl
       refine hK.out _ _ ?_
       clear hK K
       refine qd ?_
       try go_wp2
       have n0_ : aC (Kd.R (Kd.int .i64) 2 (w41.setCell ⟨go36, (x37_3 : Int).toNat, none⟩ (.int .i64 ji35)) w.heap.size (fun k_ => oB u763001 k_) (.slice (some ⟨go36, 0, none⟩) x763000_3.length co42) y767) := ⟨kA HQ43⟩
       have n1_ : aC (Kd.R (Kd.int .i64) 2 (w41.setCell ⟨go36, (x37_3 : Int).toNat, none⟩ (.int .i64 ji35)) w.heap.size (fun k_ => oB (.slice (some ⟨go36, 0, none⟩) x763000_3.length co42) k_) u763001 x763001_3) := ⟨by (with_reducible repeat (first | apply yA | apply yB | apply yC)); exact zF (yS_ (zF HO_763001.out (fun k_ hk => (⟨hk, fun e_ => hk (by rw [e_]; rfl)⟩ : _ ∧ k_ ≠ go36)))) (fun _ hk => hk.1)⟩
       have n2_ : aC ((w41.setCell ⟨go36, (x37_3 : Int).toNat, none⟩ (.int .i64 ji35)).heap[gb752]? = some (.cells #[.slice none 0 0, .slice none 0 0] 33 (0, 0))) := ⟨by (with_reducible repeat (first | refine yM ?_ _ | refine yO ?_ | refine yN ?_ _)); refine blk_far ?_ (by have h_ := Kd.R_ne HO_763000.out BK752.out (by decide); intro e_; exact h_ (by rw [e_]; rfl)) _; (with_reducible repeat (first | refine yM ?_ _ | refine yO ?_ | refine yN ?_ _)); exact BK752.out⟩
       have n3_ : aC ((w41.setCell ⟨go36, (x37_3 : Int).toNat, none⟩ (.int .i64 ji35)).heap[gb762]? = some (.cells #[.slice (some ⟨go36, 0, none⟩) x763000_3.length co42, u763001] 33 (0, 0))) := ⟨by (with_reducible repeat (first | refine yM ?_ _ | refine yO ?_ | refine yN ?_ _)); refine blk_far ?_ (by have h_ := Kd.R_ne HO_763000.out BK762.out (by decide); intro e_; exact h_ (by rw [e_]; rfl)) _; (with_reducible repeat (first | refine yM ?_ _ | refine yO ?_ | refine yN ?_ _)); exact BK762.out⟩
       have n4_ : aC ((w41.setCell ⟨go36, (x37_3 : Int).toNat, none⟩ (.int .i64 ji35)).heap[gb764]? = some (.cells #[.slice (some ad766) ((aA l0 x30_2).f0).length c763_0, .slice A763_1 ((aA l0 x30_2).f1).length c763_1] 33 (0, 0))) := ⟨by (with_reducible repeat (first | refine yM ?_ _ | refine yO ?_ | refine yN ?_ _)); refine blk_far ?_ (by have h_ := Kd.R_ne HO_763000.out BK764.out (by decide); intro e_; exact h_ (by rw [e_]; rfl)) _; (with_reducible repeat (first | refine yM ?_ _ | refine yO ?_ | refine yN ?_ _)); exact BK764.out⟩
       have n5_ : aC (Below w.heap.size w (w41.setCell ⟨go36, (x37_3 : Int).toNat, none⟩ (.int .i64 ji35))) := ⟨by repeat (first | (with_reducible first | exact HB.out | apply yQ | apply yL | apply yP | refine yE ?_ GB36.out | refine yE ?_ GW752.out | refine yE ?_ GW762.out | refine yE ?_ GW764.out) | exact HB.out)⟩
       generalize (w41.setCell ⟨go36, (x37_3 : Int).toNat, none⟩ (.int .i64 ji35)) = w44 at n0_ n1_ n2_ n3_ n4_ n5_ ⊢
       have HO_763000 := n0_; have HO_763001 := n1_; have BK752 := n2_; have BK762 := n3_; have BK764 := n4_; have HB := n5_; clear n0_ n1_ n2_ n3_ n4_ n5_
       replace HO_763000 := yD (yC HO_763000.out); replace HO_763001 := yD (yC HO_763001.out); replace BK752 := yD (yO BK752.out); replace BK762 := yD (yO BK762.out); replace BK764 := yD (yO BK764.out); replace HB := yD (yP HB.out)
       obtain ⟨Ao46, co46, eo46⟩ := Kd.bS HO_763001.out
       (first | subst eo46 | (injection eo46 with f1_ f2_ f3_; have f4_ := f1_.symm; have f5_ := f3_.symm; clear f1_ f2_ f3_; subst f4_; subst f5_))
       obtain ⟨p768, q768, ad768, e768, hx768_0⟩ := sI (Kd.aX (zA HO_763001.out).2.2 x37_3)
       cases e768
       obtain ⟨p769, q769, ad769, e769, hx769_0⟩ := sI (Kd.aX HR763_1.out x37_3)
       have hw769_0 := hx769_0; cases e769
       replace hx769_0 := kD HB hx769_0
       have p40 : 0 ≤ (x37_3 : Int) := zP (by assumption)
       have q40 : (x37_3 : Int) < ((x763001_3.length : Int) : Int) := zP (by assumption)
       obtain ⟨go40, co40, eo40, gb40, gl40, cl40, HG40⟩ := Kd.R_form HO_763001.out (by omega)
       (first | cases eo40 | (injection eo40 with ea_ en_ ec_; (first | subst ea_ | (injection ea_ with ea_; subst ea_)); subst ec_; clear en_))
       have GB40 := yD gb40
       have GG40 := yD HG40
       clear gb40 gl40 HG40
       (first | simp only [add_plain] at hx768_0 | skip)
       obtain ⟨hx40_0, hf40_0⟩ := Kd.R_celln 0 HO_763001.out (x37_3 : Int) p40 q40
       replace p40 := eq_true p40; replace q40 := eq_true q40
       have HP47 := Kd.R_putn HO_763001.out (x37_3 : Int) ji39
       rw [← Ny770.out] at HP47
       have HQ47 := yD HP47
       clear HP47
       refine start_ (n := 16) (S := fun w' => w'.cell? ⟨gb762, 0, none⟩ = some (.slice (some ⟨go36, 0, none⟩) x763000_3.length co42) ∧ w'.cell? ⟨gb762, 1, none⟩ = some (.slice (some ⟨go40, 0, none⟩) x763001_3.length co46) ∧ w'.cell? ⟨gb764, 0, none⟩ = some (.slice (some ad766) ((aA l0 x30_2).f0).length c763_0) ∧ w'.cell? ⟨gb764, 1, none⟩ = some (.slice (some ad769) ((aA l0 x30_2).f1).length c763_1) ∧ w'.cell? ⟨go40, (x37_3).toNat, none⟩ = some (.int .i64 (rd x763001_3 x37_3)) ∧ w'.cell? (ad769.add (x37_3).toNat) = some (.int .i64 (rd ((aA l0 x30_2).f1) x37_3))) (ds := [15]) (bz 16 0) (by kernel_rfl) rfl rfl (ca2_ BK762.out (ca2_ BK764.out ⟨hx768_0, (kC HB hw769_0)⟩)) (fun hHeld => ?_); refine with_tabW aW.tab11 aW.bits11 (fun HT_ HW_ => ?_)
       generalize w44.drew = w45 at HO_763000 HO_763001 BK752 BK762 BK764 HB GG40 HQ43 HQ47 hf40_0 hx40_0 hx768_0 hx769_0 hHeld ⊢
       refine qa 16 0 1 ?_; refine qa 16 2 5 ?_; refine qa 16 3 13 ?_; refine qa 16 5 45 ?_; refine qa 16 8 301 ?_; refine qa 16 10 1325 ?_; refine qc 16 1 1327 hHeld ?_; refine qc 16 4 1343 hHeld ?_; refine qa 16 6 1407 ?_; refine qc 16 7 1535 hHeld ?_; refine qc 16 9 2047 hHeld ?_; refine qa 16 11 4095 ?_; refine qc 16 12 8191 hHeld ?_; refine qa 16 13 16383 ?_; refine qa 16 14 32767 ?_
       refine last_ (i := 15) (N := none) #[true, true, true, true, true, true, true, true, true, true, true, true, true, true, true, true] rfl rfl (one_of HT_.out (by kernel_rfl)) (by decide) (fun K hK => ?_)
       refine skip_ (w1 := ?_) (by rfl) rfl ?_ ?_
       rotate_left
       · go_simp
         rfl
       refine hK.out _ _ ?_
       clear hK K
       refine qd ?_
       try go_wp2
       go_roundg k3
       case measure => have := HJ1.out; have := HK2.out; have := HK3.out; omega
       case rel => exact ⟨(wrap64 (x37_3 + 1)), (y767), (y770), (.slice (some ⟨go36, 0, none⟩) x763000_3.length co42), (.slice (some ⟨go40, 0, none⟩) x763001_3.length co46), kF, H', ⟨by have := HJ1.out; have := HK2.out; have := HK3.out; omega⟩, ⟨by (with_reducible repeat (first | apply yA | apply yB | apply yC)); exact zF (yS_ (zF HO_763000.out (fun k_ hk => (⟨hk, fun e_ => hk (by rw [e_]; rfl)⟩ : _ ∧ k_ ≠ go40)))) (fun _ hk => hk.1)⟩, ⟨kA HQ47⟩, ⟨by (with_reducible repeat (first | refine yM ?_ _ | refine yO ?_ | refine yN ?_ _)); refine blk_far ?_ (by have h_ := Kd.R_ne HO_763001.out BK752.out (by decide); intro e_; exact h_ (by rw [e_]; rfl)) _; (with_reducible repeat (first | refine yM ?_ _ | refine yO ?_ | refine yN ?_ _)); exact BK752.out⟩, ⟨by (with_reducible repeat (first | refine yM ?_ _ | refine yO ?_ | refine yN ?_ _)); refine blk_far ?_ (by have h_ := Kd.R_ne HO_763001.out BK762.out (by decide); intro e_; exact h_ (by rw [e_]; rfl)) _; (with_reducible repeat (first | refine yM ?_ _ | refine yO ?_ | refine yN ?_ _)); exact BK762.out⟩, ⟨by (with_reducible repeat (first | refine yM ?_ _ | refine yO ?_ | refine yN ?_ _)); refine blk_far ?_ (by have h_ := Kd.R_ne HO_763001.out BK764.out (by decide); intro e_; exact h_ (by rw [e_]; rfl)) _; (with_reducible repeat (first | refine yM ?_ _ | refine yO ?_ | refine yN ?_ _)); exact BK764.out⟩, ⟨by repeat (first | (with_reducible first | exact HB.out | apply yQ | apply yL | apply yP | refine yE ?_ GB40.out | refine yE ?_ GW752.out | refine yE ?_ GW762.out | refine yE ?_ GW764.out) | exact HB.out)⟩⟩
end Go.Proofs.Ytkkdkeogplgkfaa.PFnSelectedBoxes
