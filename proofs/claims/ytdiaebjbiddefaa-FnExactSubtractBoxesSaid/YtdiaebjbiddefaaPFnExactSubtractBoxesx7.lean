/- Each Go function here comes to what the plain function of its name says, where that says something. Made by a program of this session, over the print. -/
import Derived.Test.YtdiaebjbiddefaaPFnExactSubtractBoxesx0
import Derived.Test.YtdiaebjbiddefaaPFnExactSubtractBoxesx3
import Derived.Test.YtdiaebjbiddefaaPFnExactSubtractBoxesx4
import Derived.Test.YtdiaebjbiddefaaPFnExactSubtractBoxesx5
import Derived.Test.YtdiaebjbiddefaaPFnExactSubtractBoxesx6
namespace Go.Proofs.Ytdiaebjbiddefaa.PFnExactSubtractBoxes
open Go.RowKit Go.Proofs.YtdiaebjbiddefaaW.PrintWords Go.Proofs.YtdiaebjbiddefaaW.PrintLast Go.Proofs.YtdiaebjbiddefaaW.PrintMore
attribute [local go_sem] max2_int min2_int max_two min_two max_three min_three max_four min_four   -- for this text's walks alone
set_option linter.unusedVariables false
set_option linter.unusedSimpArgs false

/-! ### spec_l07Combine: function 97 -/
mutual
def spec_l07Combine.l0 : Nat → Int → List (S42) → List (S42) → Int → List (S42) → List Int → List (S42) → Int → Int → Option ((List (S42)))
 | 0, _, _, _, _, _, _, _, _, _ => none
 | k + 1, x0, x1, x2, x3, x9, x10, x11, x12, x13 => if x13 < (x10.length : Int) then (if (wrap64 (x13 + 1)) < (x10.length : Int) then (if 0 ≤ x13 then ((spec_l07Cross.f k x1 (rd x10 x13)).bind fun t231 => ((spec_l07Cross.f k x2 (rd x10 x13)).bind fun t235 => ((spec_l07Combine.f k x0 t231 t235 (wrap64 (x3 - 1))).bind fun t238 => (spec_l07Combine.j1 k x0 x1 x2 x3 x9 x10 x11 x12 x13 t238)))) else (none)) else (spec_l07Combine.j1 k x0 x1 x2 x3 x9 x10 x11 x12 x13 (([] : List (S42))))) else (some x9)
def spec_l07Combine.j1 : Nat → Int → List (S42) → List (S42) → Int → List (S42) → List Int → List (S42) → Int → Int → List (S42) → Option ((List (S42)))
 | 0, _, _, _, _, _, _, _, _, _, _ => none
 | k + 1, x0, x1, x2, x3, x9, x10, x11, x12, x13, x14 => if x13 > 0 then ((spec_l07Same.f k x14 x11).bind fun t241 => (spec_l07Combine.j2 k x0 x1 x2 x3 x9 x10 x11 x12 x13 x14 t241)) else (spec_l07Combine.j2 k x0 x1 x2 x3 x9 x10 x11 x12 x13 x14 false)
def spec_l07Combine.j2 : Nat → Int → List (S42) → List (S42) → Int → List (S42) → List Int → List (S42) → Int → Int → List (S42) → Bool → Option ((List (S42)))
 | 0, _, _, _, _, _, _, _, _, _, _, _ => none
 | k + 1, x0, x1, x2, x3, x9, x10, x11, x12, x13, x14, x74 => if x74 = true then (spec_l07Combine.l0 k x0 x1 x2 x3 x9 x10 x11 x12 (wrap64 (x13 + 1))) else (spec_l07Combine.l1 k x0 x1 x2 x3 x9 x10 x11 x12 x13 x14 0)
def spec_l07Combine.l1 : Nat → Int → List (S42) → List (S42) → Int → List (S42) → List Int → List (S42) → Int → Int → List (S42) → Int → Option ((List (S42)))
 | 0, _, _, _, _, _, _, _, _, _, _, _ => none
 | k + 1, x0, x1, x2, x3, x9, x10, x11, x12, x13, x14, x15 => if x15 < (x11.length : Int) then ((some (([x12] : List Int) : List Int)).bind fun y242 => (if 0 ≤ x15 then (if y242.length + ((rd_T42 x11 x15).f0).length < 17592186044416 then (if 0 ≤ x13 then (if x13 < (x10.length : Int) then ((some (([rd x10 x13] : List Int) : List Int)).bind fun y250 => (if y250.length + ((rd_T42 x11 x15).f1).length < 17592186044416 then (if x9.length < 2932031007402 then (spec_l07Combine.l1 k x0 x1 x2 x3 (x9 ++ [(⟨(y242 ++ ((rd_T42 x11 x15).f0)), (y250 ++ ((rd_T42 x11 x15).f1))⟩ : S42)]) x10 x11 x12 x13 x14 (wrap64 (x15 + 1))) else (none)) else (none))) else (none)) else (none)) else (none)) else (none))) else (if 0 ≤ x13 then (if x13 < (x10.length : Int) then (spec_l07Combine.l0 k x0 x1 x2 x3 x9 x10 x14 (rd x10 x13) (wrap64 (x13 + 1))) else (none)) else (none))
def spec_l07Combine.f : Nat → Int → List (S42) → List (S42) → Int → Option ((List (S42)))
 | 0, _, _, _, _ => none
 | k + 1, a0, l1, l2, a3 => (some (([] : List (S42)) : List (S42))).bind fun y208 => (if a3 = 0 then ((spec_l07Holds.f a0 (decide ((l1.length : Int) > 0)) (decide ((l2.length : Int) > 0))).bind fun t211 => (if t211 = true then (if y208.length < 2932031007402 then (some (y208 ++ [(⟨([] : List Int), ([] : List Int)⟩ : S42)])) else (none)) else (some y208))) else ((spec_l07Cuts.f k (([] : List Int)) l1).bind fun t218 => ((spec_l07Cuts.f k t218 l2).bind fun t221 => (spec_l07Combine.l0 k a0 l1 l2 a3 y208 t221 (([] : List (S42))) 0 0))))
end
theorem spec_l07Combine.mono_l : ∀ k, (∀ y0 y1 y2 y3, LeO (spec_l07Combine.f k y0 y1 y2 y3) (spec_l07Combine.f (k + 1) y0 y1 y2 y3)) ∧ (∀ y0 y1 y2 y3 y4 y5 y6 y7 y8, LeO (spec_l07Combine.l0 k y0 y1 y2 y3 y4 y5 y6 y7 y8) (spec_l07Combine.l0 (k + 1) y0 y1 y2 y3 y4 y5 y6 y7 y8)) ∧ (∀ y0 y1 y2 y3 y4 y5 y6 y7 y8 y9, LeO (spec_l07Combine.j1 k y0 y1 y2 y3 y4 y5 y6 y7 y8 y9) (spec_l07Combine.j1 (k + 1) y0 y1 y2 y3 y4 y5 y6 y7 y8 y9)) ∧ (∀ y0 y1 y2 y3 y4 y5 y6 y7 y8 y9 y10, LeO (spec_l07Combine.j2 k y0 y1 y2 y3 y4 y5 y6 y7 y8 y9 y10) (spec_l07Combine.j2 (k + 1) y0 y1 y2 y3 y4 y5 y6 y7 y8 y9 y10)) ∧ (∀ y0 y1 y2 y3 y4 y5 y6 y7 y8 y9 y10, LeO (spec_l07Combine.l1 k y0 y1 y2 y3 y4 y5 y6 y7 y8 y9 y10) (spec_l07Combine.l1 (k + 1) y0 y1 y2 y3 y4 y5 y6 y7 y8 y9 y10))
 | 0 => ⟨fun _ _ _ _ r h => by simp [spec_l07Combine.f] at h, fun _ _ _ _ _ _ _ _ _ r h => by simp [spec_l07Combine.l0] at h, fun _ _ _ _ _ _ _ _ _ _ r h => by simp [spec_l07Combine.j1] at h, fun _ _ _ _ _ _ _ _ _ _ _ r h => by simp [spec_l07Combine.j2] at h, fun _ _ _ _ _ _ _ _ _ _ _ r h => by simp [spec_l07Combine.l1] at h⟩
 | k + 1 => by
  obtain ⟨ih0, ih1, ih2, ih3, ih4⟩ := spec_l07Combine.mono_l k
  refine ⟨?_, ?_, ?_, ?_, ?_⟩
  · intro y0 y1 y2 y3
    unfold spec_l07Combine.f
    repeat' (with_reducible first | exact ih0 _ _ _ _ | exact ih1 _ _ _ _ _ _ _ _ _ | exact ih2 _ _ _ _ _ _ _ _ _ _ | exact ih3 _ _ _ _ _ _ _ _ _ _ _ | exact ih4 _ _ _ _ _ _ _ _ _ _ _ | exact spec_l07Cross.mono _ _ _ | exact spec_l07Cuts.mono _ _ _ | exact spec_l07Same.mono _ _ _ | exact LeO.refl _ | exact LeO.none _ | refine LeO.ite ?_ ?_ | refine LeO.bind ?_ (fun _ => ?_))
  · intro y0 y1 y2 y3 y4 y5 y6 y7 y8
    unfold spec_l07Combine.l0
    repeat' (with_reducible first | exact ih0 _ _ _ _ | exact ih1 _ _ _ _ _ _ _ _ _ | exact ih2 _ _ _ _ _ _ _ _ _ _ | exact ih3 _ _ _ _ _ _ _ _ _ _ _ | exact ih4 _ _ _ _ _ _ _ _ _ _ _ | exact spec_l07Cross.mono _ _ _ | exact spec_l07Cuts.mono _ _ _ | exact spec_l07Same.mono _ _ _ | exact LeO.refl _ | exact LeO.none _ | refine LeO.ite ?_ ?_ | refine LeO.bind ?_ (fun _ => ?_))
  · intro y0 y1 y2 y3 y4 y5 y6 y7 y8 y9
    unfold spec_l07Combine.j1
    repeat' (with_reducible first | exact ih0 _ _ _ _ | exact ih1 _ _ _ _ _ _ _ _ _ | exact ih2 _ _ _ _ _ _ _ _ _ _ | exact ih3 _ _ _ _ _ _ _ _ _ _ _ | exact ih4 _ _ _ _ _ _ _ _ _ _ _ | exact spec_l07Cross.mono _ _ _ | exact spec_l07Cuts.mono _ _ _ | exact spec_l07Same.mono _ _ _ | exact LeO.refl _ | exact LeO.none _ | refine LeO.ite ?_ ?_ | refine LeO.bind ?_ (fun _ => ?_))
  · intro y0 y1 y2 y3 y4 y5 y6 y7 y8 y9 y10
    unfold spec_l07Combine.j2
    repeat' (with_reducible first | exact ih0 _ _ _ _ | exact ih1 _ _ _ _ _ _ _ _ _ | exact ih2 _ _ _ _ _ _ _ _ _ _ | exact ih3 _ _ _ _ _ _ _ _ _ _ _ | exact ih4 _ _ _ _ _ _ _ _ _ _ _ | exact spec_l07Cross.mono _ _ _ | exact spec_l07Cuts.mono _ _ _ | exact spec_l07Same.mono _ _ _ | exact LeO.refl _ | exact LeO.none _ | refine LeO.ite ?_ ?_ | refine LeO.bind ?_ (fun _ => ?_))
  · intro y0 y1 y2 y3 y4 y5 y6 y7 y8 y9 y10
    unfold spec_l07Combine.l1
    repeat' (with_reducible first | exact ih0 _ _ _ _ | exact ih1 _ _ _ _ _ _ _ _ _ | exact ih2 _ _ _ _ _ _ _ _ _ _ | exact ih3 _ _ _ _ _ _ _ _ _ _ _ | exact ih4 _ _ _ _ _ _ _ _ _ _ _ | exact spec_l07Cross.mono _ _ _ | exact spec_l07Cuts.mono _ _ _ | exact spec_l07Same.mono _ _ _ | exact LeO.refl _ | exact LeO.none _ | refine LeO.ite ?_ ?_ | refine LeO.bind ?_ (fun _ => ?_))
theorem spec_l07Combine.mono : ∀ a0 a1 a2 a3 k, LeO (spec_l07Combine.f k a0 a1 a2 a3) (spec_l07Combine.f (k + 1) a0 a1 a2 a3) := by
 intro a0 a1 a2 a3 k
 obtain ⟨ih0, ih1, ih2, ih3, ih4⟩ := spec_l07Combine.mono_l k
 exact ih0 a0 a1 a2 a3
def spec_l07Combine.T14 : Bool × List (List Nat × List Nat) := (true, [([], []), ([], []), ([], []), ([], []), ([2, 3], [2, 3]), ([4], [4]), ([1, 5], [1, 5]), ([], []), ([], []), ([], []), ([8, 9], [8, 9]), ([10], [10]), ([7, 11, 6], [7, 11]), ([], []), ([13], [13]), ([0, 6, 12, 14, 12], [0, 6, 12, 14]), ([15, 15, 0, 1, 2, 3, 4, 5, 6, 7, 8, 9, 10, 11, 12, 13, 14, 15], [15])])
def spec_l07Combine.B14 : List Nat := [0, 0, 0, 0, 12, 28, 62, 0, 0, 0, 768, 1792, 4094, 0, 8192, 32767, 65535]
theorem spec_l07Combine.tab14 : rtab .any (opsOf Try.f97 14) = spec_l07Combine.T14 := by kernel_rfl
theorem spec_l07Combine.bits14 : waitsOk spec_l07Combine.T14.2 spec_l07Combine.B14 = true := by kernel_rfl
def spec_l07Combine.T20 : Bool × List (List Nat × List Nat) := (true, [([], []), ([], []), ([0, 1], [0, 1]), ([2], [2]), ([3], [3]), ([], []), ([], []), ([5, 6], [5, 6]), ([7], [7]), ([8], [8]), ([4, 9], [4, 9]), ([10, 10, 0, 1, 2, 3, 4, 5, 6, 7, 8, 9, 10], [10])])
def spec_l07Combine.B20 : List Nat := [0, 0, 3, 7, 15, 0, 0, 96, 224, 480, 1023, 2047]
theorem spec_l07Combine.tab20 : rtab .any (opsOf Try.f97 20) = spec_l07Combine.T20 := by kernel_rfl
theorem spec_l07Combine.bits20 : waitsOk spec_l07Combine.T20.2 spec_l07Combine.B20 = true := by kernel_rfl
set_option maxHeartbeats 8000000 in
set_option maxRecDepth 100000 in
theorem spec_l07Combine.calls (k : Nat) : ∀ (a0 : Int) (A1 : Option Addr) (c1 : Nat) (l1 : List (S42)) (A2 : Option Addr) (c2 : Nat) (l2 : List (S42)) (a3 : Int) (r : List (S42)) (w : World) (hr1 : Kd.C k42 w A1 l1.length l1) (hc1 : l1.length ≤ c1) (hr2 : Kd.C k42 w A2 l2.length l2) (hc2 : l2.length ≤ c2) (h : spec_l07Combine.f k a0 l1 l2 a3 = some r),
 Calls Try.prog 97 #[.int .i64 a0, .slice A1 l1.length c1, .slice A2 l2.length c2, .int .i64 a3] w fun e w' => ∃ v0_ : Value, e = .returned (v0_) ∧ Kd.S k42 42 w' w.heap.size (fun _ => True) v0_ r ∧ Below w.heap.size w w' := by
 induction k using Nat.strongRecOn with
 | _ k ih =>
 intro a0 A1 c1 l1 A2 c2 l2 a3 r w hr1 hc1 hr2 hc2 h
 cases k with
 | zero => exact absurd h (by simp [spec_l07Combine.f])
 | succ k =>
 simp only [spec_l07Combine.f] at h
 have hu42 := Try.underlying42
 have HR1 := yD hr1
 have HC1 := yD hc1
 clear hr1 hc1
 have HR2 := yD hr2
 have HC2 := yD hc2
 clear hr2 hc2
 have HB := yD (Below.refl w.heap.size w)
 have H : ((some (([] : List (S42)) : List (S42))).bind fun y208 => (if a3 = 0 then ((spec_l07Holds.f a0 (decide ((l1.length : Int) > 0)) (decide ((l2.length : Int) > 0))).bind fun t211 => (if t211 = true then (if y208.length < 2932031007402 then (some (y208 ++ [(⟨([] : List Int), ([] : List Int)⟩ : S42)])) else (none)) else (some y208))) else ((spec_l07Cuts.f k (([] : List Int)) l1).bind fun t218 => ((spec_l07Cuts.f k t218 l2).bind fun t221 => (spec_l07Combine.l0 k a0 l1 l2 a3 y208 t221 (([] : List (S42))) 0 0))))) = some r := h
 clear h
 obtain ⟨y208, hy208⟩ : ∃ y_ : List (S42), y_ = (([] : List (S42))) := ⟨_, rfl⟩
 replace H : (if a3 = 0 then ((spec_l07Holds.f a0 (decide ((l1.length : Int) > 0)) (decide ((l2.length : Int) > 0))).bind fun t211 => (if t211 = true then (if y208.length < 2932031007402 then (some (y208 ++ [(⟨([] : List Int), ([] : List Int)⟩ : S42)])) else (none)) else (some y208))) else ((spec_l07Cuts.f k (([] : List Int)) l1).bind fun t218 => ((spec_l07Cuts.f k t218 l2).bind fun t221 => (spec_l07Combine.l0 k a0 l1 l2 a3 y208 t221 (([] : List (S42))) 0 0)))) = some r := by first | (rw [hy208]; with_reducible exact H) | (have H2_ := (Option.bind_some _ _).symm.trans H; rw [hy208]; with_reducible exact H2_) | (have H2_ := (Option.bind_some _ _).symm.trans H; with_reducible exact H2_) | with_reducible exact H | (rw [hy208]; exact H) | exact H
 have Ny208 := yD hy208
 clear hy208
 by_cases c5 : a3 = 0
 ·
  rw [if_pos c5] at H
  have c5b0 : (a3 == 0) = true := beq_iff_eq.mpr c5
  have c5b1 : (a3 != 0) = false := bne_eq_false_iff_eq.mpr c5
  clear c5
  obtain ⟨t211, A60, H⟩ := zW_ H
  replace H : (if t211 = true then (if y208.length < 2932031007402 then (some (y208 ++ [(⟨([] : List Int), ([] : List Int)⟩ : S42)])) else (none)) else (some y208)) = some r := H
  have A6 := yD A60
  clear A60
  by_cases c7 : t211 = true
  ·
   subst c7
   replace H : (if y208.length < 2932031007402 then (some (y208 ++ [(⟨([] : List Int), ([] : List Int)⟩ : S42)])) else (none)) = some r := (by rw [if_pos rfl] at H; exact H)
   by_cases c8 : y208.length < 2932031007402
   ·
    rw [if_pos c8] at H
    have LMc8 := yD c8
    clear c8
    obtain ⟨y212, hy212⟩ : ∃ y_ : List (S42), y_ = (y208 ++ [(⟨([] : List Int), ([] : List Int)⟩ : S42)]) := ⟨_, rfl⟩
    replace H : (some y212) = some r := by first | (rw [hy212]; with_reducible exact H) | (have H2_ := (Option.bind_some _ _).symm.trans H; rw [hy212]; with_reducible exact H2_) | (have H2_ := (Option.bind_some _ _).symm.trans H; with_reducible exact H2_) | with_reducible exact H | (rw [hy212]; exact H) | exact H
    have Ny212 := yD hy212
    clear hy212; obtain rfl := Option.some.inj H; go_enter Try.func97, Try.ntmps97
    go_wp2_with (first | ((with_reducible refine gate_dst (N := 18) rfl ?_); refine Kd.S_lit k42 _ 42 ?hg (N := 18) ?hd (xs := ([] : List (S42))) (inner := []) (ok := fun _ => True) (okp := fun _ => True) ?hr ?hp (fun _ hk => hk) trivial (Below.refl _ _) (Nat.le_refl _) (by simp) ?_; (case hd => rfl); (case hg => rfl); (case hr => first | (go_simp; done) | (go_simp; rfl)); (case hp => exact (Reps.none _ _)); intro v209 w9 ho10 hb hg_ hnew_; clear hg_ hnew_; (first | rw [← Ny208.out] at ho10 | (simp only [Int.reduceToNat] at ho10; rw [← Ny208.out] at ho10)); have HO210 := yD (zG ho10 (below_size (kB HB))); replace HB := yD (zC (kB HB) hb); clear hb ho10) | ((with_reducible refine gate_callee (f := 127) rfl ?_); refine goesL_ (some 28) rfl rfl Try.func127 (by kernel_rfl) rfl #[.int .i64 a0, .bool (decide (0 < l1.length)), .bool (decide (0 < l2.length))] rfl (by first | (with_reducible rfl; done) | (simp only [zN, zO]; rfl) | (go_simp; done) | (go_simp; rfl)) ?_; (refine (spec_l07Holds.calls a0 (decide (0 < l1.length)) (decide (0 < l2.length)) true _ (by have h_ := A6.out; rw [show decide ((l1.length : Int) > 0) = decide (0 < l1.length) from decide_eq_decide.2 (by omega), show decide ((l2.length : Int) > 0) = decide (0 < l2.length) from decide_eq_decide.2 (by omega)] at h_; exact h_)).mono ?_); rintro e w' ⟨rfl, ⟨nd, rfl⟩⟩; refine ⟨_, rfl, ?_⟩) | ((with_reducible refine gate_builtin (b := .append) (xs := #[.tmp 29, .tmp 31]) rfl ?_); at_builtin; refine Kd.S_append k42 (w0 := w) w.heap.size rfl (.tmp 29) (.tmp 31) 24 42 (.agg #[(.slice none 0 0), (.slice none 0 0)]) 48 rfl Try.underlying24 info42 rfl (by decide) (by omega) v209 y208 (⟨([] : List Int), ([] : List Int)⟩ : S42) [.slice none 0 0, .slice none 0 0] (fun _ => True) (fun _ => False) rfl rfl ?aP (fun k_ hk_ => hk_.elim) ?aF ?aO ?aB ?aS ?aL ?_; (case aP => exact k42_mkM _ _ _ (⟨([] : List Int), ([] : List Int)⟩ : S42) (Kd.R_nil _ _ _ _ _) (Kd.R_nil _ _ _ _ _)); (case aB => exact (kB HB)); (case aF => exact (fun _ _ => trivial)); (case aO => exact (mS HO210 (fun k_ hk => ⟨trivial, fun e_ => e_⟩))); (case aS => exact (below_size (kB HB))); (case aL => have := LMc8.out; omega); intro v213 w11 ho hb hg hat; rw [← Ny212.out] at ho; replace HB := yD (hb); have HO214 := yD (ho); clear HO210; clear ho hb hg hat))
    go_ret
    exact ⟨_, by first | rfl | (simp <;> rfl) | (simp [*] <;> rfl), kS HO214, kR1 HB⟩
   · rw [if_neg c8] at H
     exact absurd H (by simp)
  · replace c7 := Bool.eq_false_iff.mpr c7
    subst c7
    replace H : (some y208) = some r := (by rw [if_neg (show ¬ (false = true) by decide)] at H; exact H); obtain rfl := Option.some.inj H; go_enter Try.func97, Try.ntmps97
    go_wp2_with (first | ((with_reducible refine gate_dst (N := 18) rfl ?_); refine Kd.S_lit k42 _ 42 ?hg (N := 18) ?hd (xs := ([] : List (S42))) (inner := []) (ok := fun _ => True) (okp := fun _ => True) ?hr ?hp (fun _ hk => hk) trivial (Below.refl _ _) (Nat.le_refl _) (by simp) ?_; (case hd => rfl); (case hg => rfl); (case hr => first | (go_simp; done) | (go_simp; rfl)); (case hp => exact (Reps.none _ _)); intro v209 w12 ho13 hb hg_ hnew_; clear hg_ hnew_; (first | rw [← Ny208.out] at ho13 | (simp only [Int.reduceToNat] at ho13; rw [← Ny208.out] at ho13)); have HO210 := yD (zG ho13 (below_size (kB HB))); replace HB := yD (zC (kB HB) hb); clear hb ho13) | ((with_reducible refine gate_callee (f := 127) rfl ?_); refine goesL_ (some 28) rfl rfl Try.func127 (by kernel_rfl) rfl #[.int .i64 a0, .bool (decide (0 < l1.length)), .bool (decide (0 < l2.length))] rfl (by first | (with_reducible rfl; done) | (simp only [zN, zO]; rfl) | (go_simp; done) | (go_simp; rfl)) ?_; (refine (spec_l07Holds.calls a0 (decide (0 < l1.length)) (decide (0 < l2.length)) false _ (by have h_ := A6.out; rw [show decide ((l1.length : Int) > 0) = decide (0 < l1.length) from decide_eq_decide.2 (by omega), show decide ((l2.length : Int) > 0) = decide (0 < l2.length) from decide_eq_decide.2 (by omega)] at h_; exact h_)).mono ?_); rintro e w' ⟨rfl, ⟨nd, rfl⟩⟩; refine ⟨_, rfl, ?_⟩))
    go_ret
    exact ⟨_, by first | rfl | (simp <;> rfl) | (simp [*] <;> rfl), kS HO210, kR1 HB⟩
 ·
  rw [if_neg c5] at H
  have c5b0 : (a3 == 0) = false := beq_eq_false_iff_ne.mpr c5
  have c5b1 : (a3 != 0) = true := bne_iff_ne.mpr c5
  obtain ⟨y215, hy215⟩ : ∃ y_ : List Int, y_ = (([] : List Int)) := ⟨_, rfl⟩
  replace H : ((spec_l07Cuts.f k y215 l1).bind fun t218 => ((spec_l07Cuts.f k t218 l2).bind fun t221 => (spec_l07Combine.l0 k a0 l1 l2 a3 y208 t221 (([] : List (S42))) 0 0))) = some r := by first | (rw [hy215]; with_reducible exact H) | (have H2_ := (Option.bind_some _ _).symm.trans H; rw [hy215]; with_reducible exact H2_) | (have H2_ := (Option.bind_some _ _).symm.trans H; with_reducible exact H2_) | with_reducible exact H | (rw [hy215]; exact H) | exact H
  have Ny215 := yD hy215
  clear hy215
  obtain ⟨t218, A140, H⟩ := zW_ H
  replace H : ((spec_l07Cuts.f k t218 l2).bind fun t221 => (spec_l07Combine.l0 k a0 l1 l2 a3 y208 t221 (([] : List (S42))) 0 0)) = some r := H
  have A14 := yD A140
  clear A140
  obtain ⟨t221, A150, H⟩ := zW_ H
  replace H : (spec_l07Combine.l0 k a0 l1 l2 a3 y208 t221 (([] : List (S42))) 0 0) = some r := H
  have A15 := yD A150
  clear A150
  obtain ⟨y224, hy224⟩ : ∃ y_ : List (S42), y_ = (([] : List (S42))) := ⟨_, rfl⟩
  replace H : (spec_l07Combine.l0 k a0 l1 l2 a3 y208 t221 y224 0 0) = some r := by first | (rw [hy224]; with_reducible exact H) | (have H2_ := (Option.bind_some _ _).symm.trans H; rw [hy224]; with_reducible exact H2_) | (have H2_ := (Option.bind_some _ _).symm.trans H; with_reducible exact H2_) | with_reducible exact H | (rw [hy224]; exact H) | exact H
  have Ny224 := yD hy224
  clear hy224
  have H' := yD H
  clear H; go_enter Try.func97, Try.ntmps97
  go_wp2_with (first | ((with_reducible refine gate_dst (N := 18) rfl ?_); refine Kd.S_lit k42 _ 42 ?hg (N := 18) ?hd (xs := ([] : List (S42))) (inner := []) (ok := fun _ => True) (okp := fun _ => True) ?hr ?hp (fun _ hk => hk) trivial (Below.refl _ _) (Nat.le_refl _) (by simp) ?_; (case hd => rfl); (case hg => rfl); (case hr => first | (go_simp; done) | (go_simp; rfl)); (case hp => exact (Reps.none _ _)); intro v209 w16 ho17 hb hg_ hnew_; clear hg_ hnew_; (first | rw [← Ny208.out] at ho17 | (simp only [Int.reduceToNat] at ho17; rw [← Ny208.out] at ho17)); have HO210 := yD (zG ho17 (below_size (kB HB))); replace HB := yD (zC (kB HB) hb); clear hb ho17) | ((with_reducible refine gate_dst (N := 34) rfl ?_); refine Kd.R_lit (Kd.int .i64) _ 2 ?hg (N := 34) ?hd (xs := ([] : List Int)) (inner := []) (ok := fun _ => True) (okp := fun _ => True) ?hr ?hp (fun _ hk => hk) trivial (Below.refl _ _) (Nat.le_refl _) (by simp) ?_; (case hd => rfl); (case hg => rfl); (case hr => first | (go_simp; done) | (go_simp; rfl)); (case hp => exact (Reps.none _ _)); intro v216 w18 ho19 hb hg_ hnew_; clear hg_ hnew_; (first | rw [← Ny215.out] at ho19 | (simp only [Int.reduceToNat] at ho19; rw [← Ny215.out] at ho19)); replace HO210 := yD (Kd.S_elder' (kS HO210) (yH ho19) hb); have HO217 := yD (yZ ho19 (below_size (kB HB))); replace HB := yD (zC (kB HB) hb); clear hb ho19; obtain ⟨Ao20, co20, eo20⟩ := Kd.R_slice HO217.out; subst eo20) | ((with_reducible refine gate_callee (f := 128) rfl ?_); refine gL 36 Try.func128 #[.slice Ao20 y215.length co20, .slice A1 l1.length c1] ?_; (with_reducible refine (spec_l07Cuts.calls k (fun k_ => some k_ = (.slice Ao20 y215.length co20 : Value).ownBlock) _ _ y215 _ _ l1 t218 _ ?side1 ?side2 ?side3 A14.out).mono ?_); (case side1 => exact Kd.R_V (Kd.R_tight rfl (Kd.R_apart' (HO217.out) (Kd.S_typed HO210.out) (by decide)))); (case side2 => exact kV (yY HR1.out HB.out)); (case side3 => exact HC1.out); rintro e w21 ⟨v219, rfl, ho0, hb⟩; refine ⟨_, rfl, ?_⟩; have HO220 := yD (Kd.V_lower (Kd.V_mono (ok' := fun k_ => oB v209 k_) ho0 (fun k_ hk_ => Or.elim hk_ (fun hs_ => ((Kd.R_apart' (HO217.out) (Kd.S_typed HO210.out) (by decide)).1 k_ hs_.symm).2) (fun hn_ => (Kd.fresh' (Kd.S_lt (kS HO210)) k_ hn_)))) (below_size (kB HB))); replace HO210 := yD (Kd.S_below (kS HO210) hb); replace HO217 := yD (zE (kA HO217) hb); replace HB := yD (zC (kB HB) hb); clear hb ho0; obtain ⟨Ao22, co22, eo22⟩ := Kd.V_slice HO220.out; subst eo22) | ((with_reducible refine gate_callee (f := 128) rfl ?_); refine gL 38 Try.func128 #[.slice Ao22 t218.length co22, .slice A2 l2.length c2] ?_; (with_reducible refine (spec_l07Cuts.calls k (fun k_ => oB v209 k_) _ _ t218 _ _ l2 t221 _ ?side1 ?side2 ?side3 A15.out).mono ?_); (case side1 => exact HO220.out); (case side2 => exact kV (yY HR2.out HB.out)); (case side3 => exact HC2.out); rintro e w23 ⟨v222, rfl, ho0, hb⟩; refine ⟨_, rfl, ?_⟩; replace HO217 := yD (zE (kA HO217) hb); replace HO220 := yD (Kd.V_below (kU HO220) hb); have HO223 := yD (Kd.V_lower (Kd.V_mono (ok' := fun k_ => oB v209 k_) ho0 (fun k_ hk_ => Or.elim hk_ (fun hs_ => hs_) (fun hn_ => (Kd.fresh' (Kd.S_lt (kS HO210)) k_ hn_)))) (below_size (kB HB))); replace HO210 := yD (Kd.S_below (kS HO210) hb); replace HB := yD (zC (kB HB) hb); clear hb ho0) | ((with_reducible refine gate_dst (N := 39) rfl ?_); refine Kd.S_lit k42 _ 42 ?hg (N := 39) ?hd (xs := ([] : List (S42))) (inner := []) (ok := fun _ => True) (okp := fun _ => True) ?hr ?hp (fun _ hk => hk) trivial (Below.refl _ _) (Nat.le_refl _) (by simp) ?_; (case hd => rfl); (case hg => rfl); (case hr => first | (go_simp; done) | (go_simp; rfl)); (case hp => exact (Reps.none _ _)); intro v225 w24 ho25 hb hg_ hnew_; clear hg_ hnew_; (first | rw [← Ny224.out] at ho25 | (simp only [Int.reduceToNat] at ho25; rw [← Ny224.out] at ho25)); replace HO220 := yD (Kd.V_elder' (kU HO220) (Kd.S_base ho25) hb); replace HO223 := yD (Kd.V_elder' (kU HO223) (Kd.S_base ho25) hb); have HO226 := yD (zG (zD (zD ho25 (Kd.S_lt (kS HO210))) (yK (kA HO217))) (below_size (kB HB))); replace HO210 := yD (Kd.S_elder' (kS HO210) (Kd.S_base ho25) hb); replace HO217 := yD (zE (kA HO217) hb); replace HB := yD (zC (kB HB) hb); clear hb ho25))
  (try simp only [Act.put, zH, zI, zJ])
  go_loopg [9, 11, 12, 13] k (fun kq v9 v11 v12 v13 w' => ∃ (x9_1 : List (S42)) (x11_1 : List (S42)) (x12_1 : Int) (x13_1 : Int), v12 = .int .i64 x12_1 ∧ v13 = .int .i64 x13_1 ∧ Aside0 (spec_l07Combine.l0 kq a0 l1 l2 a3 x9_1 t221 x11_1 x12_1 x13_1 = some r) ∧ Aside0 (kq ≤ k) ∧ Aside0 (Kd.S k42 42 w' w.heap.size (fun k_ => oB v11 k_) v9 x9_1) ∧ Aside0 (Kd.V (Kd.int .i64) 2 w' w.heap.size (fun k_ => oB v9 k_ ∧ oB v11 k_) v222 t221) ∧ Aside0 (Kd.S k42 42 w' w.heap.size (fun k_ => oB v9 k_) v11 x11_1) ∧ Aside0 (Below w.heap.size w w'))
  case atStart => exact ⟨(y208), (y224), (0), (0), (by first | rfl | (simp; done) | (simp [*]; done)), (by first | rfl | (simp; done) | (simp [*]; done)), H', ⟨Nat.le_refl _⟩, ⟨mS HO210 (fun _ hk => hk.2)⟩, ⟨kU HO223⟩, ⟨mS HO226 (fun _ hk => hk.1.2)⟩, ⟨kR1 HB⟩⟩
  case round =>
   clear H'
   try clear c1; try clear c2; try clear c5; try clear c5b0; try clear c5b1; try clear c7; try clear c8
   obtain ⟨x9_1, x11_1, x12_1, x13_1, rfl, rfl, HA, HK1, HO_9, HO_10, HO_11, HB⟩ := hrel
   cases gk with
   | zero => exact absurd HA.out (by simp [spec_l07Combine.l0])
   | succ k1 =>
    have H := HA.out; clear HA
    simp only [spec_l07Combine.l0] at H
    by_cases c26 : x13_1 < (t221.length : Int)
    ·
     rw [if_pos c26] at H
     have c26b0 : decide (x13_1 < (t221.length : Int)) = true := zR c26; clear c26
     obtain ⟨y227, hy227⟩ : ∃ y_ : List (S42), y_ = (([] : List (S42))) := ⟨_, rfl⟩
     replace H : (if (wrap64 (x13_1 + 1)) < (t221.length : Int) then (if 0 ≤ x13_1 then ((spec_l07Cross.f k1 l1 (rd t221 x13_1)).bind fun t231 => ((spec_l07Cross.f k1 l2 (rd t221 x13_1)).bind fun t235 => ((spec_l07Combine.f k1 a0 t231 t235 (wrap64 (a3 - 1))).bind fun t238 => (spec_l07Combine.j1 k1 a0 l1 l2 a3 x9_1 t221 x11_1 x12_1 x13_1 t238)))) else (none)) else (spec_l07Combine.j1 k1 a0 l1 l2 a3 x9_1 t221 x11_1 x12_1 x13_1 y227)) = some r := by first | (rw [hy227]; with_reducible exact H) | (have H2_ := (Option.bind_some _ _).symm.trans H; rw [hy227]; with_reducible exact H2_) | (have H2_ := (Option.bind_some _ _).symm.trans H; with_reducible exact H2_) | with_reducible exact H | (rw [hy227]; exact H) | exact H
     have Ny227 := yD hy227
     clear hy227
     have HC27 := yD H
     clear H
     obtain ⟨Ao28, co28, eo28⟩ := Kd.V_slice HO_10.out
     subst eo28
     go_upto_if 51 with (first | ((with_reducible refine gate_dst (N := 46) rfl ?_); refine Kd.S_lit k42 _ 42 ?hg (N := 46) ?hd (xs := ([] : List (S42))) (inner := []) (ok := fun _ => True) (okp := fun _ => True) ?hr ?hp (fun _ hk => hk) trivial (Below.refl _ _) (Nat.le_refl _) (by simp) ?_; (case hd => rfl); (case hg => rfl); (case hr => first | (go_simp; done) | (go_simp; rfl)); (case hp => exact (Reps.none _ _)); intro v228 w29 ho30 hb hg_ hnew_; clear hg_ hnew_; (first | rw [← Ny227.out] at ho30 | (simp only [Int.reduceToNat] at ho30; rw [← Ny227.out] at ho30)); replace HO_10 := yD (Kd.V_elder' (kU HO_10) (Kd.S_base ho30) hb); have HO229 := yD (zG (zD (zD ho30 (Kd.S_lt (kS HO_9))) (Kd.S_lt (kS HO_11))) (below_size (kB HB))); replace HO_9 := yD (Kd.S_elder' (kS HO_9) (Kd.S_base ho30) hb); replace HO_11 := yD (Kd.S_elder' (kS HO_11) (Kd.S_base ho30) hb); replace HB := yD (zC (kB HB) hb); clear hb ho30))
     (try simp only [Act.put, zH, zI, zJ])
     go_cut [14] (fun v14 wc => ∃ (kq : Nat) (x14_26 : List (S42)), Aside0 (spec_l07Combine.j1 kq a0 l1 l2 a3 x9_1 t221 x11_1 x12_1 x13_1 x14_26 = some r) ∧ Aside0 (kq ≤ k1) ∧ Aside0 (Kd.S k42 42 wc w.heap.size (fun k_ => oB u11 k_ ∧ oB v14 k_) u9 x9_1) ∧ Aside0 (Kd.V (Kd.int .i64) 2 wc w.heap.size (fun k_ => oB u9 k_ ∧ oB u11 k_ ∧ oB v14 k_) (.slice Ao28 t221.length co28) t221) ∧ Aside0 (Kd.S k42 42 wc w.heap.size (fun k_ => oB u9 k_ ∧ oB v14 k_) u11 x11_1) ∧ Aside0 (Kd.S k42 42 wc w.heap.size (fun k_ => oB u9 k_ ∧ oB u11 k_) v14 x14_26) ∧ Aside0 (Below w.heap.size w wc))
     case first =>
      have H := HC27.out; clear HC27
      by_cases c31 : (wrap64 (x13_1 + 1)) < (t221.length : Int)
      ·
       rw [if_pos c31] at H
       have c31b0 : decide ((wrap64 (x13_1 + 1)) < (t221.length : Int)) = true := zR c31; clear c31
       (first | rw [c31b0] | (simp only [i64_w, i32_w]; rw [c31b0]) | (simp only [bne] at c31b0; rw [c31b0]) | skip)
       by_cases c32 : 0 ≤ x13_1
       ·
        rw [if_pos c32] at H
        have c32b0 : decide (0 ≤ x13_1) = true := zR c32; clear c32
        obtain ⟨t231, A330, H⟩ := zW_ H
        replace H : ((spec_l07Cross.f k1 l2 (rd t221 x13_1)).bind fun t235 => ((spec_l07Combine.f k1 a0 t231 t235 (wrap64 (a3 - 1))).bind fun t238 => (spec_l07Combine.j1 k1 a0 l1 l2 a3 x9_1 t221 x11_1 x12_1 x13_1 t238))) = some r := H
        have A33 := yD A330
        clear A330
        obtain ⟨t235, A340, H⟩ := zW_ H
        replace H : ((spec_l07Combine.f k1 a0 t231 t235 (wrap64 (a3 - 1))).bind fun t238 => (spec_l07Combine.j1 k1 a0 l1 l2 a3 x9_1 t221 x11_1 x12_1 x13_1 t238)) = some r := H
        have A34 := yD A340
        clear A340
        obtain ⟨t238, A350, H⟩ := zW_ H
        replace H : (spec_l07Combine.j1 k1 a0 l1 l2 a3 x9_1 t221 x11_1 x12_1 x13_1 t238) = some r := H
        have A35 := yD A350
        clear A350
        have H' := yD H
        clear H
        try go_wp2
        have n0_ := yD (yU HO_9.out)
        have n1_ := yD (Kd.V_drew HO_10.out)
        have n2_ := yD (yU HO_11.out)
        have n3_ := yD (yU HO229.out)
        have n4_ := yD (yP HB.out)
        clear HO_9 HO_10 HO_11 HO229 HB; have HO_9 := n0_; have HO_10 := n1_; have HO_11 := n2_; have HO229 := n3_; have HB := n4_; clear n0_ n1_ n2_ n3_ n4_
        have p230 : 0 ≤ (x13_1 : Int) := zP (by assumption)
        have q230 : x13_1 < (t221.length : Int) := zP (by assumption)
        obtain ⟨ad230, e230, hx230_0⟩ := Kd.at_int (Kd.V_reads' HO_10.out).2.2 x13_1 p230 q230
        cases e230; replace p230 := eq_true p230; replace q230 := eq_true q230
        have p234 : 0 ≤ (x13_1 : Int) := zP (by assumption)
        have q234 : x13_1 < (t221.length : Int) := zP (by assumption)
        obtain ⟨ad234, e234, hx234_0⟩ := Kd.at_int (Kd.V_reads' HO_10.out).2.2 x13_1 p234 q234
        obtain rfl : ad230 = ad234 := (by injection e234)
        replace p234 := eq_true p234; replace q234 := eq_true q234
        refine start_ (n := 17) (S := fun w' => w'.cell? (ad230.add (x13_1).toNat) = some (.int .i64 (rd t221 x13_1)) ∧ w'.cell? (ad230.add (x13_1).toNat) = some (.int .i64 (rd t221 x13_1))) (ds := []) (bz 17 0) (by kernel_rfl) rfl rfl ⟨hx230_0, hx234_0⟩ (fun hHeld => ?_); refine with_tabW spec_l07Combine.tab14 spec_l07Combine.bits14 (fun HT_ HW_ => ?_)
        generalize w29.drew = w36 at HO_9 HO_10 HO_11 HO229 HB hx230_0 hx234_0 hHeld ⊢
        refine qA 0 52 (bz 17 1) HT_ ?_
        refine qA 1 53 (bz 17 3) HT_ ?_
        refine qA 2 54 (bz 17 7) HT_ ?_
        refine qA 3 55 (bz 17 15) HT_ ?_
        refine qA 4 56 (bz 17 31) HT_ ?_
        refine qA 7 59 (bz 17 159) HT_ ?_
        refine qA 8 60 (bz 17 415) HT_ ?_
        refine qA 9 61 (bz 17 927) HT_ ?_
        refine qA 10 62 (bz 17 1951) HT_ ?_
        refine qA 13 65 (bz 17 10143) HT_ ?_
        refine qA 14 66 (bz 17 26527) HT_ ?_
        refine qC 5 57 (bz 17 26559) HT_ HW_ hHeld ?_ (hy := by rintro w' ⟨s0, s1⟩; go_simp; with_reducible rfl)
        refine qC 11 63 (bz 17 28607) HT_ HW_ hHeld ?_ (hy := by rintro w' ⟨s0, s1⟩; go_simp; with_reducible rfl)
        refine one_ (i := 6) (N := some 58) (bz 17 28671) rfl rfl (one_of HT_.out (by kernel_rfl)) (by decide) (fun K hK => ?_)
        refine goes_ Try.func129 (by kernel_rfl) rfl #[.slice A1 l1.length c1, .int .i64 (rd t221 x13_1)] (by rfl) rfl rfl (by (try simp only [zK, zL, zM]); first | done | rfl | (simp only [zN, zO]; rfl)) ?_
        with_reducible refine (spec_l07Cross.calls k1 (fun k_ => k_ < w.heap.size) _ _ l1 (rd t221 x13_1) t231 _ ?side1 A33.out).mono ?_
        (case side1 => exact Kd.V_mk HC1.out (Kd.F_below (Kd.C_F k42_heap HR1.out) (kB HB)))
        rintro e w37 ⟨v232, rfl, ho0, hb⟩
        have HS0_ := (hb.cell (zQ _ _ (hHeld.1))).trans (hHeld.1)
        have HS1_ := (hb.cell (zQ _ _ (hHeld.2))).trans (hHeld.2)
        refine ⟨_, rfl, ?_⟩
        have n0_ := yD (Kd.S_below (kS HO_9) hb)
        have n1_ := yD (Kd.V_below (kU HO_10) hb)
        have n2_ := yD (Kd.S_below (kS HO_11) hb)
        have n3_ := yD (Kd.S_below (kS HO229) hb)
        have n4_ := yD (Kd.V_lower (Kd.V_mono (ok' := fun k_ => oB u9 k_ ∧ oB u11 k_ ∧ oB v228 k_) ho0 (fun k_ hk_ => ⟨Or.elim hk_ (fun hs_ => fun e_ => Nat.not_le.2 hs_ (Kd.S_base HO_9.out k_ e_.symm)) (fun hn_ => (Kd.fresh' (Kd.S_lt (kS HO_9)) k_ hn_)), Or.elim hk_ (fun hs_ => fun e_ => Nat.not_le.2 hs_ (Kd.S_base HO_11.out k_ e_.symm)) (fun hn_ => (Kd.fresh' (Kd.S_lt (kS HO_11)) k_ hn_)), Or.elim hk_ (fun hs_ => fun e_ => Nat.not_le.2 hs_ (Kd.S_base HO229.out k_ e_.symm)) (fun hn_ => (Kd.fresh' (Kd.S_lt (kS HO229)) k_ hn_))⟩)) (below_size (kB HB)))
        have n5_ := yD (zC (kB HB) hb)
        clear HO_9 HO_10 HO_11 HO229 HB; have HO_9 := n0_; have HO_10 := n1_; have HO_11 := n2_; have HO229 := n3_; have HO233 := n4_; have HB := n5_; clear n0_ n1_ n2_ n3_ n4_ n5_; (try clear hb); (try clear hb2); (try clear hk); (try clear hi); (try clear ho0)
        refine hK.out _ _ ⟨HS0_, HS1_⟩ (fun hHeld => ?_)
        clear hK K
        refine norm_ (a' := ?_) ?_ ?_
        rotate_left
        · show Act.put _ (some 58) _ = _
          simp only [Act.put, zH, zI, zJ, i64_w, i32_w]
          rfl
        refine one_ (i := 12) (N := some 64) (bz 17 32767) rfl rfl (one_of HT_.out (by kernel_rfl)) (by decide) (fun K hK => ?_)
        refine goes_ Try.func129 (by kernel_rfl) rfl #[.slice A2 l2.length c2, .int .i64 (rd t221 x13_1)] (by rfl) rfl rfl (by (try simp only [zK, zL, zM]); first | done | rfl | (simp only [zN, zO]; rfl)) ?_
        with_reducible refine (spec_l07Cross.calls k1 (fun k_ => k_ < w.heap.size) _ _ l2 (rd t221 x13_1) t235 _ ?side1 A34.out).mono ?_
        (case side1 => exact Kd.V_mk HC2.out (Kd.F_below (Kd.C_F k42_heap HR2.out) (kB HB)))
        rintro e w38 ⟨v236, rfl, ho0, hb⟩
        have HS0_ := (hb.cell (zQ _ _ (hHeld.1))).trans (hHeld.1)
        have HS1_ := (hb.cell (zQ _ _ (hHeld.2))).trans (hHeld.2)
        refine ⟨_, rfl, ?_⟩
        have n0_ := yD (Kd.S_below (kS HO_9) hb)
        have n1_ := yD (Kd.V_below (kU HO_10) hb)
        have n2_ := yD (Kd.S_below (kS HO_11) hb)
        have n3_ := yD (Kd.S_below (kS HO229) hb)
        have n4_ := yD (Kd.V_below (kU HO233) hb)
        have n5_ := yD (Kd.V_lower (Kd.V_mono (ok' := fun k_ => oB u9 k_ ∧ oB u11 k_ ∧ oB v228 k_) ho0 (fun k_ hk_ => ⟨Or.elim hk_ (fun hs_ => fun e_ => Nat.not_le.2 hs_ (Kd.S_base HO_9.out k_ e_.symm)) (fun hn_ => (Kd.fresh' (Kd.S_lt (kS HO_9)) k_ hn_)), Or.elim hk_ (fun hs_ => fun e_ => Nat.not_le.2 hs_ (Kd.S_base HO_11.out k_ e_.symm)) (fun hn_ => (Kd.fresh' (Kd.S_lt (kS HO_11)) k_ hn_)), Or.elim hk_ (fun hs_ => fun e_ => Nat.not_le.2 hs_ (Kd.S_base HO229.out k_ e_.symm)) (fun hn_ => (Kd.fresh' (Kd.S_lt (kS HO229)) k_ hn_))⟩)) (below_size (kB HB)))
        have n6_ := yD (zC (kB HB) hb)
        clear HO_9 HO_10 HO_11 HO229 HO233 HB; have HO_9 := n0_; have HO_10 := n1_; have HO_11 := n2_; have HO229 := n3_; have HO233 := n4_; have HO237 := n5_; have HB := n6_; clear n0_ n1_ n2_ n3_ n4_ n5_ n6_; (try clear hb); (try clear hb2); (try clear hk); (try clear hi); (try clear ho0)
        obtain ⟨Ao39, co39, eo39⟩ := Kd.V_slice HO233.out
        (first | subst eo39 | (injection eo39 with f1_ f2_ f3_; have f4_ := f1_.symm; have f5_ := f3_.symm; clear f1_ f2_ f3_; subst f4_; subst f5_))
        obtain ⟨Ao40, co40, eo40⟩ := Kd.V_slice HO237.out
        (first | subst eo40 | (injection eo40 with f1_ f2_ f3_; have f4_ := f1_.symm; have f5_ := f3_.symm; clear f1_ f2_ f3_; subst f4_; subst f5_))
        refine hK.out _ _ ⟨HS0_, HS1_⟩ (fun hHeld => ?_)
        clear hK K
        refine norm_ (a' := ?_) ?_ ?_
        rotate_left
        · show Act.put _ (some 64) _ = _
          simp only [Act.put, zH, zI, zJ, i64_w, i32_w]
          rfl
        refine one_ (i := 15) (N := some 67) (bz 17 65535) rfl rfl (one_of HT_.out (by kernel_rfl)) (by decide) (fun K hK => ?_)
        refine goes_ Try.func97 (by kernel_rfl) rfl #[.int .i64 a0, .slice Ao39 t231.length co39, .slice Ao40 t235.length co40, .int .i64 (wrap64 (a3 - 1))] (by rfl) rfl rfl (by (try simp only [zK, zL, zM]); first | done | rfl | (simp only [zN, zO]; rfl)) ?_
        with_reducible refine (ih k1 (by have := HK1.out; omega) a0 _ _ t231 _ _ t235 (wrap64 (a3 - 1)) t238 _ ?side1 ?side2 ?side3 ?side4 A35.out).mono ?_
        (case side1 => exact kV (Kd.V_reads' HO233.out).2.2)
        (case side2 => exact (Kd.V_reads' HO233.out).2.1)
        (case side3 => exact kV (Kd.V_reads' HO237.out).2.2)
        (case side4 => exact (Kd.V_reads' HO237.out).2.1)
        rintro e w41 ⟨v239, rfl, ho0, hb⟩
        have HS0_ := (hb.cell (zQ _ _ (hHeld.1))).trans (hHeld.1)
        have HS1_ := (hb.cell (zQ _ _ (hHeld.2))).trans (hHeld.2)
        refine ⟨_, rfl, ?_⟩
        have n0_ := yD (Kd.S_elder' (kS HO_9) (Kd.S_base ho0) hb)
        have n1_ := yD (Kd.V_elder' (kU HO_10) (Kd.S_base ho0) hb)
        have n2_ := yD (Kd.S_elder' (kS HO_11) (Kd.S_base ho0) hb)
        have n3_ := yD (Kd.S_elder' (kS HO229) (Kd.S_base ho0) hb)
        have n4_ := yD (Kd.V_elder' (kU HO233) (Kd.S_base ho0) hb)
        have n5_ := yD (Kd.V_elder' (kU HO237) (Kd.S_base ho0) hb)
        have n6_ := yD (zG (zD (zD (zD ho0 (Kd.S_lt (kS HO_9))) (Kd.S_lt (kS HO_11))) (Kd.S_lt (kS HO229))) (below_size (kB HB)))
        have n7_ := yD (zC (kB HB) hb)
        clear HO_9 HO_10 HO_11 HO229 HO233 HO237 HB; have HO_9 := n0_; have HO_10 := n1_; have HO_11 := n2_; have HO229 := n3_; have HO233 := n4_; have HO237 := n5_; have HO240 := n6_; have HB := n7_; clear n0_ n1_ n2_ n3_ n4_ n5_ n6_ n7_; (try clear hb); (try clear hb2); (try clear hk); (try clear hi); (try clear ho0)
        refine hK.out _ _ ⟨HS0_, HS1_⟩ (fun hHeld => ?_)
        clear hK K
        refine norm_ (a' := ?_) ?_ ?_
        rotate_left
        · show Act.put _ (some 67) _ = _
          simp only [Act.put, zH, zI, zJ, i64_w, i32_w]
          rfl
        refine qA 16 14 (bz 17 131071) HT_ ?_
        refine done_ (done_of HT_.out (by kernel_rfl)) ?_
        try go_wp2
        go_meet
        case rel => exact ⟨_, (t238), H', ⟨by have := HK1.out; first | omega | exact Nat.le_refl _⟩, ⟨mS HO_9 (fun _ hk => ⟨hk.1.1, hk.2⟩)⟩, ⟨mV HO_10 (fun _ hk => ⟨hk.1.1.1, ⟨hk.1.1.2, hk.2⟩⟩)⟩, ⟨mS HO_11 (fun _ hk => ⟨hk.1.1, hk.2⟩)⟩, ⟨mS HO240 (fun _ hk => ⟨hk.1.1.2, hk.1.2⟩)⟩, ⟨kR1 HB⟩⟩
       · rw [if_neg c32] at H
         exact absurd H (by simp)
      · rw [if_neg c31] at H
        have c31b0 : decide ((wrap64 (x13_1 + 1)) < (t221.length : Int)) = false := zS c31; clear c31
        (first | rw [c31b0] | (simp only [i64_w, i32_w]; rw [c31b0]) | (simp only [bne] at c31b0; rw [c31b0]) | skip)
        have H' := yD H
        clear H
        go_wp2
        go_meet
        case rel => exact ⟨_, (y227), H', ⟨by have := HK1.out; first | omega | exact Nat.le_refl _⟩, ⟨kS HO_9⟩, ⟨mV HO_10 (fun _ hk => ⟨hk.1.1, ⟨hk.1.2, hk.2⟩⟩)⟩, ⟨kS HO_11⟩, ⟨mS HO229 (fun _ hk => ⟨hk.1.2, hk.2⟩)⟩, ⟨kR1 HB⟩⟩
     case rest =>
      clear HC27; try clear c1; try clear c2; try clear c5; try clear c5b0; try clear c5b1; try clear c7; try clear c8; try clear c26; try clear c26b0; try clear c31; try clear c31b0; try clear c32; try clear c32b0; try clear hx230_0; try clear hx234_0; try clear p230; try clear p234; try clear q230; try clear q234
      obtain ⟨kq, x14_26, HA, HJ26, HO_9, HO_10, HO_11, HO_14, HB⟩ := hcut
      cases kq with
      | zero => exact absurd HA.out (by simp [spec_l07Combine.j1])
      | succ kj26 =>
       have H := HA.out; clear HA
       simp only [spec_l07Combine.j1] at H
       have HC42 := yD H
       clear H
       go_upto_region 15 with (fail)
       go_cut [74] (fun v74 wc => ∃ (kq : Nat) (x74_41 : Bool), v74 = .bool x74_41 ∧ Aside0 (spec_l07Combine.j2 kq a0 l1 l2 a3 x9_1 t221 x11_1 x12_1 x13_1 x14_26 x74_41 = some r) ∧ Aside0 (kq ≤ kj26) ∧ Aside0 (Kd.S k42 42 wc w.heap.size (fun k_ => oB u11 k_ ∧ oB u14 k_) u9 x9_1) ∧ Aside0 (Kd.V (Kd.int .i64) 2 wc w.heap.size (fun k_ => oB u9 k_ ∧ oB u11 k_ ∧ oB u14 k_) (.slice Ao28 t221.length co28) t221) ∧ Aside0 (Kd.S k42 42 wc w.heap.size (fun k_ => oB u9 k_ ∧ oB u14 k_) u11 x11_1) ∧ Aside0 (Kd.S k42 42 wc w.heap.size (fun k_ => oB u9 k_ ∧ oB u11 k_) u14 x14_26) ∧ Aside0 (Below w.heap.size w wc))
       case first =>
        have H := HC42.out; clear HC42
        by_cases c43 : x13_1 > 0
        ·
         rw [if_pos c43] at H
         have c43b0 : decide (0 < x13_1) = true := zR c43; clear c43
         (first | rw [c43b0] | (simp only [i64_w, i32_w]; rw [c43b0]) | (simp only [bne] at c43b0; rw [c43b0]) | skip)
         obtain ⟨t241, A440, H⟩ := zW_ H
         replace H : (spec_l07Combine.j2 kj26 a0 l1 l2 a3 x9_1 t221 x11_1 x12_1 x13_1 x14_26 t241) = some r := H
         have A44 := yD A440
         clear A440
         have H' := yD H
         clear H
         obtain ⟨Ao45, co45, eo45⟩ := Kd.S_slice HO_14.out
         subst eo45
         obtain ⟨Ao46, co46, eo46⟩ := Kd.S_slice HO_11.out
         subst eo46
         go_wp2_with (first | (go_at_call 130; (with_reducible refine (spec_l07Same.calls kj26 _ _ x14_26 _ _ x11_1 t241 _ ?side1 ?side2 ?side3 ?side4 A44.out).mono ?_); (case side1 => exact kV (Kd.S_reads' HO_14.out).2.2); (case side2 => exact (Kd.S_reads' HO_14.out).2.1); (case side3 => exact kV (Kd.S_reads' HO_11.out).2.2); (case side4 => exact (Kd.S_reads' HO_11.out).2.1); rintro e w47 ⟨rfl, hb⟩; replace HO_9 := yD (Kd.S_below (kS HO_9) hb); replace HO_10 := yD (Kd.V_below (kU HO_10) hb); replace HO_11 := yD (Kd.S_below (kS HO_11) hb); replace HO_14 := yD (Kd.S_below (kS HO_14) hb); replace HB := yD (zC (kB HB) hb); clear hb))
         go_meet
         case rel => exact ⟨_, (t241), (by first | rfl | (simp; done) | (simp [*]; done)), H', ⟨by have := HK1.out; have := HJ26.out; first | omega | exact Nat.le_refl _⟩, ⟨kS HO_9⟩, ⟨kU HO_10⟩, ⟨kS HO_11⟩, ⟨kS HO_14⟩, ⟨kR1 HB⟩⟩
        · rw [if_neg c43] at H
          have c43b0 : decide (0 < x13_1) = false := zS c43; clear c43
          (first | rw [c43b0] | (simp only [i64_w, i32_w]; rw [c43b0]) | (simp only [bne] at c43b0; rw [c43b0]) | skip)
          have H' := yD H
          clear H
          go_wp2
          go_meet
          case rel => exact ⟨_, (false), (by first | rfl | (simp; done) | (simp [*]; done)), H', ⟨by have := HK1.out; have := HJ26.out; first | omega | exact Nat.le_refl _⟩, ⟨kS HO_9⟩, ⟨kU HO_10⟩, ⟨kS HO_11⟩, ⟨kS HO_14⟩, ⟨kR1 HB⟩⟩
       case rest =>
        clear HC42; try clear c1; try clear c2; try clear c5; try clear c5b0; try clear c5b1; try clear c7; try clear c8; try clear c26; try clear c26b0; try clear c31; try clear c31b0; try clear c32; try clear c32b0; try clear c43; try clear c43b0; try clear hx230_0; try clear hx234_0; try clear p230; try clear p234; try clear q230; try clear q234
        obtain ⟨kq, x74_41, rfl, HA, HJ41, HO_9, HO_10, HO_11, HO_14, HB⟩ := hcut
        cases kq with
        | zero => exact absurd HA.out (by simp [spec_l07Combine.j2])
        | succ kj41 =>
         have H := HA.out; clear HA
         simp only [spec_l07Combine.j2] at H
         by_cases c48 : x74_41 = true
         · subst c48
           replace H : (spec_l07Combine.l0 kj41 a0 l1 l2 a3 x9_1 t221 x11_1 x12_1 (wrap64 (x13_1 + 1))) = some r := (by rw [if_pos rfl] at H; exact H)
           have H' := yD H
           clear H
           go_wp2
           go_roundg kj41
           case measure => have := HK1.out; have := HJ26.out; have := HJ41.out; omega
           case rel => exact ⟨(x9_1), (x11_1), (x12_1), (wrap64 (x13_1 + 1)), (by first | rfl | (simp; done) | (simp [*]; done)), (by first | rfl | (simp; done) | (simp [*]; done)), H', ⟨by have := HK1.out; have := HJ26.out; have := HJ41.out; omega⟩, ⟨mS HO_9 (fun _ hk => hk.1)⟩, ⟨mV HO_10 (fun _ hk => ⟨hk.1, hk.2.1⟩)⟩, ⟨mS HO_11 (fun _ hk => hk.1)⟩, ⟨kR1 HB⟩⟩
         ·
          replace c48 := Bool.eq_false_iff.mpr c48
          subst c48
          replace H : (spec_l07Combine.l1 kj41 a0 l1 l2 a3 x9_1 t221 x11_1 x12_1 x13_1 x14_26 0) = some r := (by rw [if_neg (show ¬ (false = true) by decide)] at H; exact H)
          have H' := yD H
          clear H
          go_wp2
          go_loopg [9, 15] kj41 (fun kq v9 v15 w' => ∃ (x9_4 : List (S42)) (x15_4 : Int), v15 = .int .i64 x15_4 ∧ Aside0 (spec_l07Combine.l1 kq a0 l1 l2 a3 x9_4 t221 x11_1 x12_1 x13_1 x14_26 x15_4 = some r) ∧ Aside0 (kq ≤ kj41) ∧ Aside0 (Kd.S k42 42 w' w.heap.size (fun k_ => oB u11 k_ ∧ oB u14 k_) v9 x9_4) ∧ Aside0 (Kd.V (Kd.int .i64) 2 w' w.heap.size (fun k_ => oB v9 k_ ∧ oB u11 k_ ∧ oB u14 k_) (.slice Ao28 t221.length co28) t221) ∧ Aside0 (Kd.S k42 42 w' w.heap.size (fun k_ => oB v9 k_ ∧ oB u14 k_) u11 x11_1) ∧ Aside0 (Kd.S k42 42 w' w.heap.size (fun k_ => oB v9 k_ ∧ oB u11 k_) u14 x14_26) ∧ Aside0 (Below w.heap.size w w'))
          case atStart => exact ⟨(x9_1), (0), (by first | rfl | (simp; done) | (simp [*]; done)), H', ⟨Nat.le_refl _⟩, ⟨kS HO_9⟩, ⟨kU HO_10⟩, ⟨kS HO_11⟩, ⟨kS HO_14⟩, ⟨kR1 HB⟩⟩
          case round =>
           clear H'
           try clear c1; try clear c2; try clear c5; try clear c5b0; try clear c5b1; try clear c7; try clear c8; try clear c26; try clear c26b0; try clear c31; try clear c31b0; try clear c32; try clear c32b0; try clear c43; try clear c43b0; try clear c48; try clear hx230_0; try clear hx234_0; try clear p230; try clear p234; try clear q230; try clear q234
           obtain ⟨x9_4, x15_4, rfl, HA, HK4, HO_9, HO_10, HO_11, HO_14, HB⟩ := hrel
           cases gk with
           | zero => exact absurd HA.out (by simp [spec_l07Combine.l1])
           | succ k4 =>
            have H := HA.out; clear HA
            simp only [spec_l07Combine.l1] at H
            by_cases c49 : x15_4 < (x11_1.length : Int)
            ·
             rw [if_pos c49] at H
             have c49b0 : decide (x15_4 < (x11_1.length : Int)) = true := zR c49; clear c49
             obtain ⟨y242, hy242⟩ : ∃ y_ : List Int, y_ = (([x12_1] : List Int)) := ⟨_, rfl⟩
             replace H : (if 0 ≤ x15_4 then (if y242.length + ((rd_T42 x11_1 x15_4).f0).length < 17592186044416 then (if 0 ≤ x13_1 then (if x13_1 < (t221.length : Int) then ((some (([rd t221 x13_1] : List Int) : List Int)).bind fun y250 => (if y250.length + ((rd_T42 x11_1 x15_4).f1).length < 17592186044416 then (if x9_4.length < 2932031007402 then (spec_l07Combine.l1 k4 a0 l1 l2 a3 (x9_4 ++ [(⟨(y242 ++ ((rd_T42 x11_1 x15_4).f0)), (y250 ++ ((rd_T42 x11_1 x15_4).f1))⟩ : S42)]) t221 x11_1 x12_1 x13_1 x14_26 (wrap64 (x15_4 + 1))) else (none)) else (none))) else (none)) else (none)) else (none)) else (none)) = some r := by first | (rw [hy242]; with_reducible exact H) | (have H2_ := (Option.bind_some _ _).symm.trans H; rw [hy242]; with_reducible exact H2_) | (have H2_ := (Option.bind_some _ _).symm.trans H; with_reducible exact H2_) | with_reducible exact H | (rw [hy242]; exact H) | exact H
             have Ny242 := yD hy242
             clear hy242
             by_cases c50 : 0 ≤ x15_4
             ·
              rw [if_pos c50] at H
              have c50b0 : decide (0 ≤ x15_4) = true := zR c50; clear c50
              by_cases c51 : y242.length + ((rd_T42 x11_1 x15_4).f0).length < 17592186044416
              ·
               rw [if_pos c51] at H
               have LMc51 := yD c51
               clear c51
               obtain ⟨y246, hy246⟩ : ∃ y_ : List Int, y_ = (y242 ++ ((rd_T42 x11_1 x15_4).f0)) := ⟨_, rfl⟩
               replace H : (if 0 ≤ x13_1 then (if x13_1 < (t221.length : Int) then ((some (([rd t221 x13_1] : List Int) : List Int)).bind fun y250 => (if y250.length + ((rd_T42 x11_1 x15_4).f1).length < 17592186044416 then (if x9_4.length < 2932031007402 then (spec_l07Combine.l1 k4 a0 l1 l2 a3 (x9_4 ++ [(⟨y246, (y250 ++ ((rd_T42 x11_1 x15_4).f1))⟩ : S42)]) t221 x11_1 x12_1 x13_1 x14_26 (wrap64 (x15_4 + 1))) else (none)) else (none))) else (none)) else (none)) = some r := by first | (rw [hy246]; with_reducible exact H) | (have H2_ := (Option.bind_some _ _).symm.trans H; rw [hy246]; with_reducible exact H2_) | (have H2_ := (Option.bind_some _ _).symm.trans H; with_reducible exact H2_) | with_reducible exact H | (rw [hy246]; exact H) | exact H
               have Ny246 := yD hy246
               clear hy246
               by_cases c52 : 0 ≤ x13_1
               ·
                rw [if_pos c52] at H
                have c52b0 : decide (0 ≤ x13_1) = true := zR c52; clear c52
                by_cases c53 : x13_1 < (t221.length : Int)
                ·
                 rw [if_pos c53] at H
                 have c53b0 : decide (x13_1 < (t221.length : Int)) = true := zR c53; clear c53
                 obtain ⟨y250, hy250⟩ : ∃ y_ : List Int, y_ = (([rd t221 x13_1] : List Int)) := ⟨_, rfl⟩
                 replace H : (if y250.length + ((rd_T42 x11_1 x15_4).f1).length < 17592186044416 then (if x9_4.length < 2932031007402 then (spec_l07Combine.l1 k4 a0 l1 l2 a3 (x9_4 ++ [(⟨y246, (y250 ++ ((rd_T42 x11_1 x15_4).f1))⟩ : S42)]) t221 x11_1 x12_1 x13_1 x14_26 (wrap64 (x15_4 + 1))) else (none)) else (none)) = some r := by first | (rw [hy250]; with_reducible exact H) | (have H2_ := (Option.bind_some _ _).symm.trans H; rw [hy250]; with_reducible exact H2_) | (have H2_ := (Option.bind_some _ _).symm.trans H; with_reducible exact H2_) | with_reducible exact H | (rw [hy250]; exact H) | exact H
                 have Ny250 := yD hy250
                 clear hy250
                 by_cases c54 : y250.length + ((rd_T42 x11_1 x15_4).f1).length < 17592186044416
                 ·
                  rw [if_pos c54] at H
                  have LMc54 := yD c54
                  clear c54
                  obtain ⟨y254, hy254⟩ : ∃ y_ : List Int, y_ = (y250 ++ ((rd_T42 x11_1 x15_4).f1)) := ⟨_, rfl⟩
                  replace H : (if x9_4.length < 2932031007402 then (spec_l07Combine.l1 k4 a0 l1 l2 a3 (x9_4 ++ [(⟨y246, y254⟩ : S42)]) t221 x11_1 x12_1 x13_1 x14_26 (wrap64 (x15_4 + 1))) else (none)) = some r := by first | (rw [hy254]; with_reducible exact H) | (have H2_ := (Option.bind_some _ _).symm.trans H; rw [hy254]; with_reducible exact H2_) | (have H2_ := (Option.bind_some _ _).symm.trans H; with_reducible exact H2_) | with_reducible exact H | (rw [hy254]; exact H) | exact H
                  have Ny254 := yD hy254
                  clear hy254
                  by_cases c55 : x9_4.length < 2932031007402
                  ·
                   rw [if_pos c55] at H
                   have LMc55 := yD c55
                   clear c55
                   obtain ⟨y257, hy257⟩ : ∃ y_ : List (S42), y_ = (x9_4 ++ [(⟨y246, y254⟩ : S42)]) := ⟨_, rfl⟩
                   replace H : (spec_l07Combine.l1 k4 a0 l1 l2 a3 y257 t221 x11_1 x12_1 x13_1 x14_26 (wrap64 (x15_4 + 1))) = some r := by first | (rw [hy257]; with_reducible exact H) | (have H2_ := (Option.bind_some _ _).symm.trans H; rw [hy257]; with_reducible exact H2_) | (have H2_ := (Option.bind_some _ _).symm.trans H; with_reducible exact H2_) | with_reducible exact H | (rw [hy257]; exact H) | exact H
                   have Ny257 := yD hy257
                   clear hy257
                   have H' := yD H
                   clear H
                   obtain ⟨Ao56, co56, eo56⟩ := Kd.S_slice HO_11.out
                   subst eo56
                   try go_wp2_with (first | ((with_reducible refine gate_dst (N := 82) rfl ?_); refine Kd.R_lit (Kd.int .i64) _ 2 ?hg (N := 82) ?hd (xs := ([x12_1] : List Int)) (inner := [.int .i64 x12_1]) (ok := fun _ => True) (okp := fun _ => True) ?hr ?hp (fun _ hk => hk) trivial (Below.refl _ _) (Nat.le_refl _) (by simp) ?_; (case hd => rfl); (case hg => rfl); (case hr => first | (go_simp; done) | (go_simp; rfl)); (case hp => exact (Reps.one (show Kd.M (Kd.int .i64) _ _ _ x12_1 [.int .i64 x12_1] from rfl) (Reps.none _ _))); intro v243 w57 ho58 hb hg_ hnew_; clear hg_ hnew_; (first | rw [← Ny242.out] at ho58 | (simp only [Int.reduceToNat] at ho58; rw [← Ny242.out] at ho58)); replace HO_9 := yD (Kd.S_elder' (kS HO_9) (yH ho58) hb); replace HO_10 := yD (Kd.V_elder' (kU HO_10) (yH ho58) hb); replace HO_11 := yD (Kd.S_elder' (kS HO_11) (yH ho58) hb); replace HO_14 := yD (Kd.S_elder' (kS HO_14) (yH ho58) hb); have HO244 := yD (yZ ho58 (below_size (kB HB))); replace HB := yD (zC (kB HB) hb); clear hb ho58; have p245 : 0 ≤ (x15_4 : Int) := zP (by assumption); have q245 : x15_4 < (x11_1.length : Int) := zP (by assumption); obtain ⟨ad245, A245_0, c245_0, A245_1, c245_1, e245, hx245_0, hx245_1, hl245_0, hi245_0, hl245_1, hi245_1⟩ := at_T42 (Kd.S_reads' HO_11.out).2.2 x15_4 p245 q245; cases e245; obtain ⟨ce245, hce245, hMe245, hcc245⟩ := Kd.S_get HO_11.out z42 x15_4 p245 (by first | exact q245 | exact zP (by assumption) | (have e_ := (Kd.S_reads' HO_11.out).1; omega)); obtain ⟨ve245_0, ve245_1, rfl, ge245_0, ge245_1⟩ := k42_openM hMe245; have hv245_0 := hcc245 0 _ rfl; rw [Nat.add_zero] at hv245_0; replace hv245_0 := Option.some.inj (hv245_0.symm.trans hx245_0); rw [hv245_0] at ge245_0; have HL245_0 := yD (show Kd.R (Kd.int .i64) 2 _ _ _ _ ((rd_T42 x11_1 x15_4).f0) from ge245_0); clear hv245_0 ge245_0; have hv245_1 := hcc245 1 _ rfl; rw [add_field _ _ 1 (by omega)] at hv245_1; replace hv245_1 := Option.some.inj (hv245_1.symm.trans hx245_1); rw [hv245_1] at ge245_1; have HL245_1 := yD (show Kd.R (Kd.int .i64) 2 _ _ _ _ ((rd_T42 x11_1 x15_4).f1) from ge245_1); clear hv245_1 ge245_1; clear hcc245 hce245; have HR245_0 := yD hi245_0; have HC245_0 := yD hl245_0; clear hi245_0 hl245_0; have HR245_1 := yD hi245_1; have HC245_1 := yD hl245_1; clear hi245_1 hl245_1; replace p245 := eq_true p245; replace q245 := eq_true q245) | ((with_reducible refine gate_builtin (b := .append) (xs := #[.tmp 82, .tmp 87]) rfl ?_); at_builtin; refine Kd.R_append_rows (Kd.int .i64) (w0 := w) w.heap.size rfl (.tmp 82) (.tmp 87) 36 2 (.int .i64 0) 8 rfl Try.underlying36 info2 rfl (by decide) (by omega) v243 y242 ((rd_T42 x11_1 x15_4).f0) _ _ _ (fun _ => True) (fun _ => False) rfl rfl ?aO ?aR (fun _ _ h => h) (fun _ h => h.elim) ?aF ?aB ?aS ?aL ?_; (case aR => repeat (first | exact (by repeat (first | (with_reducible exact HR245_0.out) | (with_reducible first | refine yV ?_ _ | refine yW ?_ _ | refine yX ?_) | exact HR245_0.out)) | (with_reducible first | refine yV ?_ _ | refine yW ?_ _ | refine yX ?_))); (case aB => exact (kB HB)); (case aF => exact (fun _ _ => trivial)); (case aO => exact (kA HO244)); (case aS => exact (below_size (kB HB))); (case aL => have := LMc51.out; omega); intro v247 w59 ho hb hg hat; rw [← Ny246.out] at ho; replace HO_9 := yD (Kd.S_after (ok := (fun k_ => oB (.slice (some ad245) x11_1.length co56) k_ ∧ oB u14 k_)) (kS HO_9) hg hat); replace HO_10 := yD (Kd.V_afterv (ok := (fun k_ => oB u9 k_ ∧ oB (.slice (some ad245) x11_1.length co56) k_ ∧ oB u14 k_)) (kU HO_10) hg hat); replace HO_11 := yD (Kd.S_after (ok := (fun k_ => oB u9 k_ ∧ oB u14 k_)) (kS HO_11) hg hat); replace HO_14 := yD (Kd.S_after (ok := (fun k_ => oB u9 k_ ∧ oB (.slice (some ad245) x11_1.length co56) k_)) (kS HO_14) hg hat); replace HL245_0 := yD (Kd.R_after (ok := (fun k_ => oB u9 k_ ∧ oB (.slice (some ad245) x11_1.length co56) k_ ∧ oB u14 k_)) (mR HL245_0 (fun _ hk => ⟨⟨hk.1.1.1, ⟨hk.2, hk.1.1.2⟩⟩, hk.1.2⟩)) hg hat); replace HL245_1 := yD (Kd.R_after (ok := (fun k_ => oB u9 k_ ∧ oB (.slice (some ad245) x11_1.length co56) k_ ∧ oB u14 k_)) (mR HL245_1 (fun _ hk => ⟨⟨hk.1.1.1, ⟨hk.2, hk.1.1.2⟩⟩, hk.1.2⟩)) hg hat); replace HB := yD (hb); have HO248 := yD (ho); clear HO244; clear ho hb hg hat))
                   have n0_ := yD (yU HO_9.out)
                   have n1_ := yD (Kd.V_drew HO_10.out)
                   have n2_ := yD (yU HO_11.out)
                   have n3_ := yD (yU HO_14.out)
                   have n4_ := yD (yC HL245_0.out)
                   have n5_ := yD (yC HL245_1.out)
                   have n6_ := yD (yC HO248.out)
                   have n7_ := yD (yP HB.out)
                   clear HO_9 HO_10 HO_11 HO_14 HL245_0 HL245_1 HO248 HB; have HO_9 := n0_; have HO_10 := n1_; have HO_11 := n2_; have HO_14 := n3_; have HL245_0 := n4_; have HL245_1 := n5_; have HO248 := n6_; have HB := n7_; clear n0_ n1_ n2_ n3_ n4_ n5_ n6_ n7_
                   have p249 : 0 ≤ (x13_1 : Int) := zP (by assumption)
                   have q249 : x13_1 < (t221.length : Int) := zP (by assumption)
                   obtain ⟨ad249, e249, hx249_0⟩ := Kd.at_int (Kd.V_reads' HO_10.out).2.2 x13_1 p249 q249
                   cases e249; replace p249 := eq_true p249; replace q249 := eq_true q249
                   have p253 : 0 ≤ (x15_4 : Int) := zP (by assumption)
                   have q253 : x15_4 < (x11_1.length : Int) := zP (by assumption)
                   obtain ⟨ad253, A253_0, c253_0, A253_1, c253_1, e253, hx253_0, hx253_1, hl253_0, hi253_0, hl253_1, hi253_1⟩ := at_T42 (Kd.S_reads' HO_11.out).2.2 x15_4 p253 q253
                   obtain rfl : ad245 = ad253 := (by injection e253)
                   obtain ⟨ce253, hce253, hMe253, hcc253⟩ := Kd.S_get HO_11.out z42 x15_4 p253 (by first | exact q253 | exact zP (by assumption) | (have e_ := (Kd.S_reads' HO_11.out).1; omega))
                   obtain ⟨ve253_0, ve253_1, rfl, ge253_0, ge253_1⟩ := k42_openM hMe253
                   have hv253_0 := hcc253 0 _ rfl
                   rw [Nat.add_zero] at hv253_0
                   replace hv253_0 := Option.some.inj (hv253_0.symm.trans hx253_0)
                   rw [hv253_0] at ge253_0
                   have HL253_0 := yD (show Kd.R (Kd.int .i64) 2 _ _ _ _ ((rd_T42 x11_1 x15_4).f0) from ge253_0)
                   clear hv253_0 ge253_0
                   have hv253_1 := hcc253 1 _ rfl
                   rw [add_field _ _ 1 (by omega)] at hv253_1
                   replace hv253_1 := Option.some.inj (hv253_1.symm.trans hx253_1)
                   rw [hv253_1] at ge253_1
                   have HL253_1 := yD (show Kd.R (Kd.int .i64) 2 _ _ _ _ ((rd_T42 x11_1 x15_4).f1) from ge253_1)
                   clear hv253_1 ge253_1 hcc253 hce253
                   have HR253_0 := yD hi253_0
                   have HC253_0 := yD hl253_0
                   clear hi253_0 hl253_0
                   have HR253_1 := yD hi253_1
                   have HC253_1 := yD hl253_1
                   clear hi253_1 hl253_1; replace p253 := eq_true p253; replace q253 := eq_true q253
                   refine start_ (n := 12) (S := fun w' => w'.cell? (ad249.add (x13_1).toNat) = some (.int .i64 (rd t221 x13_1)) ∧ w'.cell? (ad245.add ((x15_4).toNat * 2)) = some (.slice A253_0 ((rd_T42 x11_1 x15_4).f0).length c253_0) ∧ w'.cell? ⟨(ad245.add ((x15_4).toNat * 2)).block, (ad245.add ((x15_4).toNat * 2)).off + 1, none⟩ = some (.slice A253_1 ((rd_T42 x11_1 x15_4).f1).length c253_1)) (ds := [10]) (bz 12 0) (by kernel_rfl) rfl rfl ⟨hx249_0, hx253_0, hx253_1⟩ (fun hHeld => ?_); refine with_tabW spec_l07Combine.tab20 spec_l07Combine.bits20 (fun HT_ HW_ => ?_)
                   generalize w59.drew = w60 at HO_9 HO_10 HO_11 HO_14 HL245_0 HL245_1 HO248 HB HL253_0 HL253_1 HR253_0 HR253_1 hx249_0 hx253_0 hx253_1 hHeld ⊢
                   refine qA 0 89 (bz 12 1) HT_ ?_
                   refine qA 1 90 (bz 12 3) HT_ ?_
                   refine qA 2 91 (bz 12 7) HT_ ?_
                   refine qA 5 94 (bz 12 39) HT_ ?_
                   refine qA 6 95 (bz 12 103) HT_ ?_
                   refine qA 7 96 (bz 12 231) HT_ ?_
                   refine qA 8 97 (bz 12 487) HT_ ?_
                   refine qC 3 92 (bz 12 495) HT_ HW_ hHeld ?_ (hy := by rintro w' ⟨s0, s1, s2⟩; go_simp; with_reducible rfl)
                   refine qC 9 98 (bz 12 1007) HT_ HW_ hHeld ?_ (hy := by rintro w' ⟨s0, s1, s2⟩; go_simp; with_reducible rfl)
                   refine one_ (i := 4) (N := some 93) (bz 12 1023) rfl rfl (one_of HT_.out (by kernel_rfl)) (by decide) (fun K hK => ?_)
                   refine Kd.R_lit_step (Kd.int .i64) _ 2 ?hg (N := 93) ?hd (xs := ([rd t221 x13_1] : List Int)) (inner := [.int .i64 (rd t221 x13_1)]) (ok := fun _ => True) (okp := fun _ => True) ?hr ?hp (fun _ hk => hk) trivial (Below.refl _ _) (Nat.le_refl _) (by simp) ?_; (case hd => rfl); (case hg => rfl); (case hr => first | (go_simp; done) | (go_simp; rfl)); (case hp => exact (Reps.one (show Kd.M (Kd.int .i64) _ _ _ (rd t221 x13_1) [.int .i64 (rd t221 x13_1)] from rfl) (Reps.none _ _)))
                   intro v251 w61 ho62 hb hg_ hnew_
                   have HS0_ := (hb.cell (zQ _ _ (hHeld.1))).trans (hHeld.1)
                   have HS1_ := (hb.cell (zQ _ _ (hHeld.2.1))).trans (hHeld.2.1)
                   have HS2_ := (hb.cell (zQ _ _ (hHeld.2.2))).trans (hHeld.2.2)
                   clear hg_ hnew_
                   (first | rw [← Ny250.out] at ho62 | (simp only [Int.reduceToNat] at ho62; rw [← Ny250.out] at ho62))
                   have n0_ := yD (Kd.S_elder' (kS HO_9) (yH ho62) hb)
                   have n1_ := yD (Kd.V_elder' (kU HO_10) (yH ho62) hb)
                   have n2_ := yD (Kd.S_elder' (kS HO_11) (yH ho62) hb)
                   have n3_ := yD (Kd.S_elder' (kS HO_14) (yH ho62) hb)
                   have n4_ := yD (Kd.R_elder' (kA HL245_0) (yH ho62) hb)
                   have n5_ := yD (Kd.R_elder' (kA HL245_1) (yH ho62) hb)
                   have n6_ := yD (Kd.R_elder' (kA HO248) (yH ho62) hb)
                   have n7_ := yD (Kd.R_elder' (kA HL253_0) (yH ho62) hb)
                   have n8_ := yD (Kd.R_elder' (kA HL253_1) (yH ho62) hb)
                   have n9_ := yD (yZ (yJ (yJ (yJ (yJ (yJ ho62 (yK (kA HL245_0))) (yK (kA HL245_1))) (yK (kA HO248))) (yK (kA HL253_0))) (yK (kA HL253_1))) (below_size (kB HB)))
                   have n10_ := yD (yY (by repeat (first | (with_reducible exact HR253_0.out) | (with_reducible first | refine yV ?_ _ | refine yW ?_ _ | refine yX ?_) | exact HR253_0.out)) hb)
                   have n11_ := yD (yY (by repeat (first | (with_reducible exact HR253_1.out) | (with_reducible first | refine yV ?_ _ | refine yW ?_ _ | refine yX ?_) | exact HR253_1.out)) hb)
                   have n12_ := yD (zC (kB HB) hb)
                   clear HO_9 HO_10 HO_11 HO_14 HL245_0 HL245_1 HO248 HL253_0 HL253_1 HR253_0 HR253_1 HB; have HO_9 := n0_; have HO_10 := n1_; have HO_11 := n2_; have HO_14 := n3_; have HL245_0 := n4_; have HL245_1 := n5_; have HO248 := n6_; have HL253_0 := n7_; have HL253_1 := n8_; have HO252 := n9_; have HR253_0 := n10_; have HR253_1 := n11_; have HB := n12_; clear n0_ n1_ n2_ n3_ n4_ n5_ n6_ n7_ n8_ n9_ n10_ n11_ n12_ hb ho62
                   refine hK.out _ _ ⟨HS0_, HS1_, HS2_⟩ (fun hHeld => ?_)
                   clear hK K
                   refine norm_ (a' := ?_) ?_ ?_
                   rotate_left
                   · show Act.put _ (some 93) _ = _
                     simp only [Act.put, zH, zI, zJ, i64_w, i32_w]
                     rfl
                   refine last_ (i := 10) (N := some 99) #[true, true, true, true, true, true, true, true, true, true, true, false] rfl rfl (one_of HT_.out (by kernel_rfl)) (by decide) (fun K hK => ?_)
                   refine Kd.R_append_rows_step (Kd.int .i64) (w0 := w) w.heap.size (by rfl) (.tmp 93) (.tmp 98) 36 2 (.int .i64 0) 8 rfl Try.underlying36 info2 rfl (by decide) (by omega) v251 y250 ((rd_T42 x11_1 x15_4).f1) _ _ _ (fun k_ => some k_ ≠ (.slice A245_0 ((rd_T42 x11_1 x15_4).f0).length c245_0 : Value).ownBlock ∧ some k_ ≠ (.slice A245_1 ((rd_T42 x11_1 x15_4).f1).length c245_1 : Value).ownBlock ∧ oB v247 k_ ∧ some k_ ≠ (.slice A253_0 ((rd_T42 x11_1 x15_4).f0).length c253_0 : Value).ownBlock ∧ some k_ ≠ (.slice A253_1 ((rd_T42 x11_1 x15_4).f1).length c253_1 : Value).ownBlock) (fun _ => False) rfl rfl ?aO ?aR (fun _ _ h => h) (fun _ h => h.elim) ?aF ?aB ?aS ?aL ?_
                   (case aR => repeat (first | exact (by repeat (first | (with_reducible exact HR253_1.out) | (with_reducible first | refine yV ?_ _ | refine yW ?_ _ | refine yX ?_) | exact HR253_1.out)) | (with_reducible first | refine yV ?_ _ | refine yW ?_ _ | refine yX ?_)))
                   (case aB => exact (kB HB))
                   (case aF => exact (fun k_ hk => ⟨Kd.fresh' (yK (kA HL245_0)) k_ hk, Kd.fresh' (yK (kA HL245_1)) k_ hk, Kd.fresh' (yK (kA HO248)) k_ hk, Kd.fresh' (yK (kA HL253_0)) k_ hk, Kd.fresh' (yK (kA HL253_1)) k_ hk⟩))
                   (case aO => exact (mR HO252 (fun _ hk => ⟨hk.1.1.1.1.2, ⟨hk.1.1.1.2, ⟨hk.1.1.2, ⟨hk.1.2, hk.2⟩⟩⟩⟩)))
                   (case aS => exact (below_size (kB HB)))
                   (case aL => have := LMc54.out; omega)
                   intro v255 w63 ho hb hg hat
                   rw [← Ny254.out] at ho
                   have n0_ := yD (Kd.S_after (ok := (fun k_ => oB (.slice (some ad245) x11_1.length co56) k_ ∧ oB u14 k_ ∧ oB v247 k_)) (mS HO_9 (fun _ hk => ⟨⟨hk.1.1.1, ⟨hk.1.1.2, hk.1.2⟩⟩, hk.2⟩)) hg hat)
                   have n1_ := yD (Kd.V_afterv (ok := (fun k_ => oB u9 k_ ∧ oB (.slice (some ad245) x11_1.length co56) k_ ∧ oB u14 k_ ∧ oB v247 k_)) (mV HO_10 (fun _ hk => ⟨⟨hk.1.1.1, ⟨hk.1.1.2.1, ⟨hk.1.1.2.2, hk.1.2⟩⟩⟩, hk.2⟩)) hg hat)
                   have n2_ := yD (Kd.S_after (ok := (fun k_ => oB u9 k_ ∧ oB u14 k_ ∧ oB v247 k_)) (mS HO_11 (fun _ hk => ⟨⟨hk.1.1.1, ⟨hk.1.1.2, hk.1.2⟩⟩, hk.2⟩)) hg hat)
                   have n3_ := yD (Kd.S_after (ok := (fun k_ => oB u9 k_ ∧ oB (.slice (some ad245) x11_1.length co56) k_ ∧ oB v247 k_)) (mS HO_14 (fun _ hk => ⟨⟨hk.1.1.1, ⟨hk.1.1.2, hk.1.2⟩⟩, hk.2⟩)) hg hat)
                   have n4_ := yD (Kd.R_after (ok := (fun k_ => oB u9 k_ ∧ oB (.slice (some ad245) x11_1.length co56) k_ ∧ oB u14 k_ ∧ oB v247 k_)) (mR HL245_0 (fun _ hk => ⟨⟨hk.1.1.1, ⟨hk.1.1.2.1, ⟨hk.1.1.2.2, hk.1.2⟩⟩⟩, hk.2⟩)) hg hat)
                   have n5_ := yD (Kd.R_after (ok := (fun k_ => oB u9 k_ ∧ oB (.slice (some ad245) x11_1.length co56) k_ ∧ oB u14 k_ ∧ oB v247 k_)) (mR HL245_1 (fun _ hk => ⟨⟨hk.1.1.1, ⟨hk.1.1.2.1, ⟨hk.1.1.2.2, hk.1.2⟩⟩⟩, hk.2⟩)) hg hat)
                   have n6_ := yD (Kd.R_after (ok := (fun _ => True)) (kA HO248) hg hat)
                   have n7_ := yD (Kd.R_after (ok := (fun k_ => oB u9 k_ ∧ oB (.slice (some ad245) x11_1.length co56) k_ ∧ oB u14 k_ ∧ oB v247 k_)) (mR HL253_0 (fun _ hk => ⟨⟨hk.1.1.1.1, ⟨hk.1.2, ⟨hk.1.1.1.2, hk.1.1.2⟩⟩⟩, hk.2⟩)) hg hat)
                   have n8_ := yD (Kd.R_after (ok := (fun k_ => oB u9 k_ ∧ oB (.slice (some ad245) x11_1.length co56) k_ ∧ oB u14 k_ ∧ oB v247 k_)) (mR HL253_1 (fun _ hk => ⟨⟨hk.1.1.1.1, ⟨hk.1.2, ⟨hk.1.1.1.2, hk.1.1.2⟩⟩⟩, hk.2⟩)) hg hat)
                   have n9_ := yD (hb)
                   have n10_ := yD (ho)
                   clear HO_9 HO_10 HO_11 HO_14 HL245_0 HL245_1 HO248 HL253_0 HL253_1 HB HO252; have HO_9 := n0_; have HO_10 := n1_; have HO_11 := n2_; have HO_14 := n3_; have HL245_0 := n4_; have HL245_1 := n5_; have HO248 := n6_; have HL253_0 := n7_; have HL253_1 := n8_; have HB := n9_; have HO256 := n10_; clear n0_ n1_ n2_ n3_ n4_ n5_ n6_ n7_ n8_ n9_ n10_ ho hb hg hat
                   refine hK.out _ _ ?_
                   clear hK K
                   refine norm_ (a' := ?_) ?_ ?_
                   rotate_left
                   · show Act.put _ (some 99) _ = _
                     simp only [Act.put, zH, zI, zJ, i64_w, i32_w]
                     rfl
                   refine qA 11 17 (bz 12 4095) HT_ ?_
                   refine done_ (done_of HT_.out (by kernel_rfl)) ?_
                   obtain ⟨Ao64, co64, eo64⟩ := Kd.R_slice HO256.out
                   subst eo64
                   obtain ⟨Ao65, co65, eo65⟩ := Kd.R_slice HO248.out
                   subst eo65
                   try go_wp2_with (first | ((with_reducible refine gate_builtin (b := .append) (xs := #[.tmp 100, .tmp 104]) rfl ?_); at_builtin; refine Kd.S_append k42 (w0 := w) w.heap.size rfl (.tmp 100) (.tmp 104) 24 42 (.agg #[(.slice none 0 0), (.slice none 0 0)]) 48 rfl Try.underlying24 info42 rfl (by decide) (by omega) u9 x9_4 (⟨y246, y254⟩ : S42) [.slice Ao65 y246.length co65, .slice Ao64 y254.length co64] (fun k_ => oB (.slice (some ad245) x11_1.length co56) k_ ∧ oB u14 k_) (fun k_ => some k_ = (.slice Ao65 y246.length co65 : Value).ownBlock ∨ some k_ = (.slice Ao64 y254.length co64 : Value).ownBlock) rfl rfl ?aP (fun k_ hk_ => hk_.elim (fun h_ => ((zF (ok' := fun k_ => ((fun k_ => oB (.slice (some ad245) x11_1.length co56) k_ ∧ oB u14 k_)) k_ ∧ oB u9 k_) (Kd.R_apart' (Kd.R_apart' (Kd.R_apart' (HO248.out) (Kd.S_typed HO_11.out) (by decide)) (Kd.S_typed HO_14.out) (by decide)) (Kd.S_typed HO_9.out) (by decide)) (fun k_ hk => ⟨⟨hk.1.1.2, hk.1.2⟩, hk.2⟩))).1 k_ h_.symm) (fun h_ => ((zF (ok' := fun k_ => ((fun k_ => oB (.slice (some ad245) x11_1.length co56) k_ ∧ oB u14 k_)) k_ ∧ oB u9 k_) (Kd.R_apart' (Kd.R_apart' (Kd.R_apart' (HO256.out) (Kd.S_typed HO_11.out) (by decide)) (Kd.S_typed HO_14.out) (by decide)) (Kd.S_typed HO_9.out) (by decide)) (fun k_ hk => ⟨⟨hk.1.1.2, hk.1.2⟩, hk.2⟩))).1 k_ h_.symm)) ?aF ?aO ?aB ?aS ?aL ?_; (case aP => exact k42_mkM _ _ _ (⟨y246, y254⟩ : S42) (zF (Kd.R_tight rfl (zF (ok' := fun k_ => ((fun k_ => oB (.slice (some ad245) x11_1.length co56) k_ ∧ oB u14 k_)) k_ ∧ oB u9 k_) (Kd.R_apart' (Kd.R_apart' (Kd.R_apart' (HO248.out) (Kd.S_typed HO_11.out) (by decide)) (Kd.S_typed HO_14.out) (by decide)) (Kd.S_typed HO_9.out) (by decide)) (fun k_ hk => ⟨⟨hk.1.1.2, hk.1.2⟩, hk.2⟩))) (fun _ h_ => Or.inl h_)) (zF (Kd.R_tight rfl (zF (ok' := fun k_ => ((fun k_ => oB (.slice (some ad245) x11_1.length co56) k_ ∧ oB u14 k_)) k_ ∧ oB u9 k_) (Kd.R_apart' (Kd.R_apart' (Kd.R_apart' (HO256.out) (Kd.S_typed HO_11.out) (by decide)) (Kd.S_typed HO_14.out) (by decide)) (Kd.S_typed HO_9.out) (by decide)) (fun k_ hk => ⟨⟨hk.1.1.2, hk.1.2⟩, hk.2⟩))) (fun _ h_ => Or.inr (h_)))); (case aB => exact (kB HB)); (case aF => exact (fun k_ hk => ⟨Kd.fresh' (Kd.S_lt (kS HO_11)) k_ hk, Kd.fresh' (Kd.S_lt (kS HO_14)) k_ hk⟩)); (case aO => exact (mS HO_9 (fun k_ hk => ⟨⟨hk.1.1, hk.1.2.1⟩, fun e_ => e_.elim (fun h_ => hk.1.2.2 h_) (fun h_ => hk.2 h_)⟩))); (case aS => exact (below_size (kB HB))); (case aL => have := LMc55.out; omega); intro v258 w66 ho hb hg hat; rw [← Ny257.out] at ho; replace HO_10 := yD (Kd.V_afterv (ok := (fun k_ => oB (.slice (some ad245) x11_1.length co56) k_ ∧ oB u14 k_ ∧ oB (.slice Ao65 y246.length co65) k_ ∧ oB (.slice Ao64 y254.length co64) k_)) (mV HO_10 (fun _ hk => ⟨⟨hk.1.2.1, ⟨hk.1.2.2.1, ⟨hk.1.2.2.2, hk.2⟩⟩⟩, hk.1.1⟩)) hg hat); replace HO_11 := yD (Kd.S_after (ok := (fun k_ => oB u14 k_ ∧ oB (.slice Ao65 y246.length co65) k_ ∧ oB (.slice Ao64 y254.length co64) k_)) (mS HO_11 (fun _ hk => ⟨⟨hk.1.2.1, ⟨hk.1.2.2, hk.2⟩⟩, hk.1.1⟩)) hg hat); replace HO_14 := yD (Kd.S_after (ok := (fun k_ => oB (.slice (some ad245) x11_1.length co56) k_ ∧ oB (.slice Ao65 y246.length co65) k_ ∧ oB (.slice Ao64 y254.length co64) k_)) (mS HO_14 (fun _ hk => ⟨⟨hk.1.2.1, ⟨hk.1.2.2, hk.2⟩⟩, hk.1.1⟩)) hg hat); replace HL245_0 := yD (Kd.R_after (ok := (fun k_ => oB (.slice (some ad245) x11_1.length co56) k_ ∧ oB u14 k_ ∧ oB (.slice Ao65 y246.length co65) k_ ∧ oB (.slice Ao64 y254.length co64) k_)) (mR HL245_0 (fun _ hk => ⟨⟨hk.1.2.1, ⟨hk.1.2.2.1, ⟨hk.1.2.2.2, hk.2⟩⟩⟩, hk.1.1⟩)) hg hat); replace HL245_1 := yD (Kd.R_after (ok := (fun k_ => oB (.slice (some ad245) x11_1.length co56) k_ ∧ oB u14 k_ ∧ oB (.slice Ao65 y246.length co65) k_ ∧ oB (.slice Ao64 y254.length co64) k_)) (mR HL245_1 (fun _ hk => ⟨⟨hk.1.2.1, ⟨hk.1.2.2.1, ⟨hk.1.2.2.2, hk.2⟩⟩⟩, hk.1.1⟩)) hg hat); replace HL253_0 := yD (Kd.R_after (ok := (fun k_ => oB (.slice (some ad245) x11_1.length co56) k_ ∧ oB u14 k_ ∧ oB (.slice Ao65 y246.length co65) k_ ∧ oB (.slice Ao64 y254.length co64) k_)) (mR HL253_0 (fun _ hk => ⟨⟨hk.1.2.1, ⟨hk.1.2.2.1, ⟨hk.1.2.2.2, hk.2⟩⟩⟩, hk.1.1⟩)) hg hat); replace HL253_1 := yD (Kd.R_after (ok := (fun k_ => oB (.slice (some ad245) x11_1.length co56) k_ ∧ oB u14 k_ ∧ oB (.slice Ao65 y246.length co65) k_ ∧ oB (.slice Ao64 y254.length co64) k_)) (mR HL253_1 (fun _ hk => ⟨⟨hk.1.2.1, ⟨hk.1.2.2.1, ⟨hk.1.2.2.2, hk.2⟩⟩⟩, hk.1.1⟩)) hg hat); replace HB := yD (hb); have HO259 := yD (ho); clear HO_9 HO248 HO256; clear ho hb hg hat))
                   go_roundg k4
                   case measure => have := HK1.out; have := HJ26.out; have := HJ41.out; have := HK4.out; omega
                   case rel => exact ⟨(y257), (wrap64 (x15_4 + 1)), (by first | rfl | (simp; done) | (simp [*]; done)), H', ⟨by have := HK1.out; have := HJ26.out; have := HJ41.out; have := HK4.out; omega⟩, ⟨kS HO259⟩, ⟨mV HO_10 (fun _ hk => ⟨hk.2, ⟨hk.1.1, hk.1.2.1⟩⟩)⟩, ⟨mS HO_11 (fun _ hk => ⟨hk.2, hk.1.1⟩)⟩, ⟨mS HO_14 (fun _ hk => ⟨hk.2, hk.1.1⟩)⟩, ⟨kR1 HB⟩⟩
                  · rw [if_neg c55] at H
                    exact absurd H (by simp)
                 · rw [if_neg c54] at H
                   exact absurd H (by simp)
                · rw [if_neg c53] at H
                  exact absurd H (by simp)
               · rw [if_neg c52] at H
                 exact absurd H (by simp)
              · rw [if_neg c51] at H
                exact absurd H (by simp)
             · rw [if_neg c50] at H
               exact absurd H (by simp)
            ·
             rw [if_neg c49] at H
             have c49b0 : decide (x15_4 < (x11_1.length : Int)) = false := zS c49; clear c49
             by_cases c67 : 0 ≤ x13_1
             ·
              rw [if_pos c67] at H
              have c67b0 : decide (0 ≤ x13_1) = true := zR c67; clear c67
              by_cases c68 : x13_1 < (t221.length : Int)
              · rw [if_pos c68] at H
                have c68b0 : decide (x13_1 < (t221.length : Int)) = true := zR c68; clear c68
                have H' := yD H
                clear H
                obtain ⟨Ao69, co69, eo69⟩ := Kd.S_slice HO_11.out
                subst eo69
                have p260 : 0 ≤ (x13_1 : Int) := zP (by assumption)
                have q260 : x13_1 < (t221.length : Int) := zP (by assumption)
                obtain ⟨ad260, e260, hx260_0⟩ := Kd.at_int (Kd.V_reads' HO_10.out).2.2 x13_1 p260 q260
                cases e260; replace p260 := eq_true p260; replace q260 := eq_true q260
                go_wp2
                go_roundg k4
                case measure => have := HK1.out; have := HJ26.out; have := HJ41.out; have := HK4.out; omega
                case rel => exact ⟨(x9_4), (x14_26), (rd t221 x13_1), (wrap64 (x13_1 + 1)), (by first | rfl | (simp; done) | (simp [*]; done)), (by first | rfl | (simp; done) | (simp [*]; done)), H', ⟨by have := HK1.out; have := HJ26.out; have := HJ41.out; have := HK4.out; omega⟩, ⟨mS HO_9 (fun _ hk => hk.2)⟩, ⟨mV HO_10 (fun _ hk => ⟨hk.1, hk.2.2⟩)⟩, ⟨mS HO_14 (fun _ hk => hk.1)⟩, ⟨kR1 HB⟩⟩
              · rw [if_neg c68] at H
                exact absurd H (by simp)
             · rw [if_neg c67] at H
               exact absurd H (by simp)
    · rw [if_neg c26] at H
      have c26b0 : decide (x13_1 < (t221.length : Int)) = false := zS c26; clear c26; obtain rfl := Option.some.inj H
      obtain ⟨Ao70, co70, eo70⟩ := Kd.V_slice HO_10.out
      subst eo70
      go_wp2
      go_ret
      exact ⟨_, by first | rfl | (simp <;> rfl) | (simp [*] <;> rfl), mS HO_9 (fun _ hk => trivial), kR1 HB⟩

end Go.Proofs.Ytdiaebjbiddefaa.PFnExactSubtractBoxes
