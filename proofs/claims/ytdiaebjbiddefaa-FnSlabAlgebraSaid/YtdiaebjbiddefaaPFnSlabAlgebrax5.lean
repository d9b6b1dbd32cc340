/- Each Go function here comes to what the plain function of its name says, where that says something. Made by a program of this session, over the print. -/
import Derived.Test.YtdiaebjbiddefaaPFnSlabAlgebrax0
import Derived.Test.YtdiaebjbiddefaaPFnSlabAlgebrax4
import Derived.Test.YtdiaebjbiddefaaPFnSlabAlgebrax1
namespace Go.Proofs.Ytdiaebjbiddefaa.PFnSlabAlgebra
open Go.RowKit Go.Proofs.YtdiaebjbiddefaaW.PrintWords Go.Proofs.YtdiaebjbiddefaaW.PrintLast Go.Proofs.YtdiaebjbiddefaaW.PrintMore
attribute [local go_sem] max2_int min2_int max_two min_two max_three min_three max_four min_four   -- for this text's walks alone
set_option linter.unusedVariables false
set_option linter.unusedSimpArgs false

/-! ### spec_l07Combine: function 97 -/
mutual
def spec_l07Combine.l0 : Nat → Int → List (S42) → List (S42) → Int → List (S42) → List Int → List (S42) → Int → Int → Option ((List (S42)))
 | 0, _, _, _, _, _, _, _, _, _ => none
 | k + 1, x0, x1, x2, x3, x9, x10, x11, x12, x13 => if x13 < (x10.length : Int) then (if (wrap64 (x13 + 1)) < (x10.length : Int) then (if 0 ≤ x13 then ((spec_l07Cross.f k x1 (rd x10 x13)).bind fun t464 => ((spec_l07Cross.f k x2 (rd x10 x13)).bind fun t468 => ((spec_l07Combine.f k x0 t464 t468 (wrap64 (x3 - 1))).bind fun t471 => (spec_l07Combine.j1 k x0 x1 x2 x3 x9 x10 x11 x12 x13 t471)))) else (none)) else (spec_l07Combine.j1 k x0 x1 x2 x3 x9 x10 x11 x12 x13 (([] : List (S42))))) else (some x9)
def spec_l07Combine.j1 : Nat → Int → List (S42) → List (S42) → Int → List (S42) → List Int → List (S42) → Int → Int → List (S42) → Option ((List (S42)))
 | 0, _, _, _, _, _, _, _, _, _, _ => none
 | k + 1, x0, x1, x2, x3, x9, x10, x11, x12, x13, x14 => if x13 > 0 then ((spec_l07Same.f k x14 x11).bind fun t474 => (spec_l07Combine.j2 k x0 x1 x2 x3 x9 x10 x11 x12 x13 x14 t474)) else (spec_l07Combine.j2 k x0 x1 x2 x3 x9 x10 x11 x12 x13 x14 false)
def spec_l07Combine.j2 : Nat → Int → List (S42) → List (S42) → Int → List (S42) → List Int → List (S42) → Int → Int → List (S42) → Bool → Option ((List (S42)))
 | 0, _, _, _, _, _, _, _, _, _, _, _ => none
 | k + 1, x0, x1, x2, x3, x9, x10, x11, x12, x13, x14, x74 => if x74 = true then (spec_l07Combine.l0 k x0 x1 x2 x3 x9 x10 x11 x12 (wrap64 (x13 + 1))) else (spec_l07Combine.l1 k x0 x1 x2 x3 x9 x10 x11 x12 x13 x14 0)
def spec_l07Combine.l1 : Nat → Int → List (S42) → List (S42) → Int → List (S42) → List Int → List (S42) → Int → Int → List (S42) → Int → Option ((List (S42)))
 | 0, _, _, _, _, _, _, _, _, _, _, _ => none
 | k + 1, x0, x1, x2, x3, x9, x10, x11, x12, x13, x14, x15 => if x15 < (x11.length : Int) then ((some (([x12] : List Int) : List Int)).bind fun y475 => (if 0 ≤ x15 then (if y475.length + ((rd_T42 x11 x15).f0).length < 17592186044416 then (if 0 ≤ x13 then (if x13 < (x10.length : Int) then ((some (([rd x10 x13] : List Int) : List Int)).bind fun y483 => (if y483.length + ((rd_T42 x11 x15).f1).length < 17592186044416 then (if x9.length < 2932031007402 then (spec_l07Combine.l1 k x0 x1 x2 x3 (x9 ++ [(⟨(y475 ++ ((rd_T42 x11 x15).f0)), (y483 ++ ((rd_T42 x11 x15).f1))⟩ : S42)]) x10 x11 x12 x13 x14 (wrap64 (x15 + 1))) else (none)) else (none))) else (none)) else (none)) else (none)) else (none))) else (if 0 ≤ x13 then (if x13 < (x10.length : Int) then (spec_l07Combine.l0 k x0 x1 x2 x3 x9 x10 x14 (rd x10 x13) (wrap64 (x13 + 1))) else (none)) else (none))
def spec_l07Combine.f : Nat → Int → List (S42) → List (S42) → Int → Option ((List (S42)))
 | 0, _, _, _, _ => none
 | k + 1, a0, l1, l2, a3 => (some (([] : List (S42)) : List (S42))).bind fun y441 => (if a3 = 0 then ((spec_l07Holds.f a0 (decide ((l1.length : Int) > 0)) (decide ((l2.length : Int) > 0))).bind fun t444 => (if t444 = true then (if y441.length < 2932031007402 then (some (y441 ++ [(⟨([] : List Int), ([] : List Int)⟩ : S42)])) else (none)) else (some y441))) else ((spec_l07Cuts.f k (([] : List Int)) l1).bind fun t451 => ((spec_l07Cuts.f k t451 l2).bind fun t454 => (spec_l07Combine.l0 k a0 l1 l2 a3 y441 t454 (([] : List (S42))) 0 0))))
end
theorem spec_l07Combine.mono_l : ∀ k, (∀ y0 y1 y2 y3, LeO (spec_l07Combine.f k y0 y1 y2 y3) (spec_l07Combine.f (k + 1) y0 y1 y2 y3)) ∧ (∀ y0 y1 y2 y3 y4 y5 y6 y7 y8, LeO (spec_l07Combine.l0 k y0 y1 y2 y3 y4 y5 y6 y7 y8) (spec_l07Combine.l0 (k + 1) y0 y1 y2 y3 y4 y5 y6 y7 y8)) ∧ (∀ y0 y1 y2 y3 y4 y5 y6 y7 y8 y9, LeO (spec_l07Combine.j1 k y0 y1 y2 y3 y4 y5 y6 y7 y8 y9) (spec_l07Combine.j1 (k + 1) y0 y1 y2 y3 y4 y5 y6 y7 y8 y9)) ∧ (∀ y0 y1 y2 y3 y4 y5 y6 y7 y8 y9 y10, LeO (spec_l07Combine.j2 k y0 y1 y2 y3 y4 y5 y6 y7 y8 y9 y10) (spec_l07Combine.j2 (k + 1) y0 y1 y2 y3 y4 y5 y6 y7 y8 y9 y10)) ∧ (∀ y0 y1 y2 y3 y4 y5 y6 y7 y8 y9 y10, LeO (spec_l07Combine.l1 k y0 y1 y2 y3 y4 y5 y6 y7 y8 y9 y10) (spec_l07Combine.l1 (k + 1) y0 y1 y2 y3 y4 y5 y6 y7 y8 y9 y10))
 | 0 => ⟨fun _ _ _ _ r h => by simp [spec_l07Combine.f] at h, fun _ _ _ _ _ _ _ _ _ r h => by simp [spec_l07Combine.l0] at h, fun _ _ _ _ _ _ _ _ _ _ r h => by simp [spec_l07Combine.j1] at h, fun _ _ _ _ _ _ _ _ _ _ _ r h => by simp [spec_l07Combine.j2] at h, fun _ _ _ _ _ _ _ _ _ _ _ r h => by simp [spec_l07Combine.l1] at h⟩
 | k + 1 => by
  obtain ⟨ih0, ih1, ih2, ih3, ih4⟩ := spec_l07Combine.mono_l k
  refine ⟨?_, ?_, ?_, ?_, ?_⟩
  · intro y0 y1 y2 y3
    unfold spec_l07Combine.f
    repeat' (with_reducible first | exact ih0 _ _ _ _ | exact ih1 _ _ _ _ _ _ _ _ _ | exact ih2 _ _ _ _ _ _ _ _ _ _ | exact ih3 _ _ _ _ _ _ _ _ _ _ _ | exact ih4 _ _ _ _ _ _ _ _ _ _ _ | exact spec_l07Cross.mono _ _ _ | exact spec_l07Cuts.mono _ _ _ | exact spec_l07Same.mono _ _ _ | exact LeO.refl _ | exact LeO.none _ | refine LeO.ite ?_ ?_ | refine LeO.bind ?_ (fun _ => ?_))
  · intro y0 y1 y2 y3 y4 y5 y6 y7 y8
    unfold spec_l07Combine.l0
    repeat' (with_reducible first | exact ih0 _ _ _ _ | exact ih1 _ _ _ _ _ _ _ _ _ | exact ih2 _ _ _ _ _ _ _ _ _ _ | exact ih3 _ _ _ _ _ _ _ _ _ _ _ | exact ih4 _ _ _ _ _ _ _ _ _ _ _ | exact spec_l07Cross.mono _ _ _ | exact spec_l07Cuts.mono _ _ _ | exact spec_l07Same.mono _ _ _ | exact LeO.refl _ | exact LeO.none _ | refine LeO.ite ?_ ?_ | refine LeO.bind ?_ (fun _ => ?_))
  · intro y0 y1 y2 y3 y4 y5 y6 y7 y8 y9
    unfold spec_l07Combine.j1
    repeat' (with_reducible first | exact ih0 _ _ _ _ | exact ih1 _ _ _ _ _ _ _ _ _ | exact ih2 _ _ _ _ _ _ _ _ _ _ | exact ih3 _ _ _ _ _ _ _ _ _ _ _ | exact ih4 _ _ _ _ _ _ _ _ _ _ _ | exact spec_l07Cross.mono _ _ _ | exact spec_l07Cuts.mono _ _ _ | exact spec_l07Same.mono _ _ _ | exact LeO.refl _ | exact LeO.none _ | refine LeO.ite ?_ ?_ | refine LeO.bind ?_ (fun _ => ?_))
  · intro y0 y1 y2 y3 y4 y5 y6 y7 y8 y9 y10
    unfold spec_l07Combine.j2
    repeat' (with_reducible first | exact ih0 _ _ _ _ | exact ih1 _ _ _ _ _ _ _ _ _ | exact ih2 _ _ _ _ _ _ _ _ _ _ | exact ih3 _ _ _ _ _ _ _ _ _ _ _ | exact ih4 _ _ _ _ _ _ _ _ _ _ _ | exact spec_l07Cross.mono _ _ _ | exact spec_l07Cuts.mono _ _ _ | exact spec_l07Same.mono _ _ _ | exact LeO.refl _ | exact LeO.none _ | refine LeO.ite ?_ ?_ | refine LeO.bind ?_ (fun _ => ?_))
  · intro y0 y1 y2 y3 y4 y5 y6 y7 y8 y9 y10
    unfold spec_l07Combine.l1
    repeat' (with_reducible first | exact ih0 _ _ _ _ | exact ih1 _ _ _ _ _ _ _ _ _ | exact ih2 _ _ _ _ _ _ _ _ _ _ | exact ih3 _ _ _ _ _ _ _ _ _ _ _ | exact ih4 _ _ _ _ _ _ _ _ _ _ _ | exact spec_l07Cross.mono _ _ _ | exact spec_l07Cuts.mono _ _ _ | exact spec_l07Same.mono _ _ _ | exact LeO.refl _ | exact LeO.none _ | refine LeO.ite ?_ ?_ | refine LeO.bind ?_ (fun _ => ?_))
theorem spec_l07Combine.mono : ∀ a0 a1 a2 a3 k, LeO (spec_l07Combine.f k a0 a1 a2 a3) (spec_l07Combine.f (k + 1) a0 a1 a2 a3) := by
 intro a0 a1 a2 a3 k
 obtain ⟨ih0, ih1, ih2, ih3, ih4⟩ := spec_l07Combine.mono_l k
 exact ih0 a0 a1 a2 a3
def spec_l07Combine.T14 : Bool × List (List Nat × List Nat) := (true, [([], []), ([], []), ([], []), ([], []), ([2, 3], [2, 3]), ([4], [4]), ([1, 5], [1, 5]), ([], []), ([], []), ([], []), ([8, 9], [8, 9]), ([10], [10]), ([7, 11, 6], [7, 11]), ([], []), ([13], [13]), ([0, 6, 12, 14, 12], [0, 6, 12, 14]), ([15, 15, 0, 1, 2, 3, 4, 5, 6, 7, 8, 9, 10, 11, 12, 13, 14, 15], [15])])
def spec_l07Combine.B14 : List Nat := [0, 0, 0, 0, 12, 28, 62, 0, 0, 0, 768, 1792, 4094, 0, 8192, 32767, 65535]
theorem spec_l07Combine.tab14 : rtab .any (opsOf Try.f97 14) = spec_l07Combine.T14 := by kernel_rfl
theorem spec_l07Combine.bits14 : waitsOk spec_l07Combine.T14.2 spec_l07Combine.B14 = true := by kernel_rfl
def spec_l07Combine.T20 : Bool × List (List Nat × List Nat) := (true, [([], []), ([], []), ([0, 1], [0, 1]), ([2], [2]), ([3], [3]), ([], []), ([], []), ([5, 6], [5, 6]), ([7], [7]), ([8], [8]), ([4, 9], [4, 9]), ([10, 10, 0, 1, 2, 3, 4, 5, 6, 7, 8, 9, 10], [10])])
def spec_l07Combine.B20 : List Nat := [0, 0, 3, 7, 15, 0, 0, 96, 224, 480, 1023, 2047]
theorem spec_l07Combine.tab20 : rtab .any (opsOf Try.f97 20) = spec_l07Combine.T20 := by kernel_rfl
theorem spec_l07Combine.bits20 : waitsOk spec_l07Combine.T20.2 spec_l07Combine.B20 = true := by kernel_rfl
set_option maxHeartbeats 8000000 in
set_option maxRecDepth 100000 in
theorem spec_l07Combine.calls (k : Nat) : ∀ (a0 : Int) (A1 : Option Addr) (c1 : Nat) (l1 : List (S42)) (A2 : Option Addr) (c2 : Nat) (l2 : List (S42)) (a3 : Int) (r : List (S42)) (w : World) (hr1 : Kd.C k42 w A1 l1.length l1) (hc1 : l1.length ≤ c1) (hr2 : Kd.C k42 w A2 l2.length l2) (hc2 : l2.length ≤ c2) (h : spec_l07Combine.f k a0 l1 l2 a3 = some r),
 Calls Try.prog 97 #[.int .i64 a0, .slice A1 l1.length c1, .slice A2 l2.length c2, .int .i64 a3] w fun e w' => ∃ v0_ : Value, e = .returned (v0_) ∧ Kd.S k42 42 w' w.heap.size (fun _ => True) v0_ r ∧ Below w.heap.size w w' := by
 induction k using Nat.strongRecOn with
 | _ k ih =>
 intro a0 A1 c1 l1 A2 c2 l2 a3 r w hr1 hc1 hr2 hc2 h
 cases k with
 | zero => exact absurd h (by simp [spec_l07Combine.f])
 | succ k =>
 simp only [spec_l07Combine.f] at h
 have hu42 := Try.underlying42
 have HR1 := yD hr1
 have HC1 := yD hc1
 clear hr1 hc1
 have HR2 := yD hr2
 have HC2 := yD hc2
 clear hr2 hc2
 have HB := yD (Below.refl w.heap.size w)
 have H : ((some (([] : List (S42)) : List (S42))).bind fun y441 => (if a3 = 0 then ((spec_l07Holds.f a0 (decide ((l1.length : Int) > 0)) (decide ((l2.length : Int) > 0))).bind fun t444 => (if t444 = true then (if y441.length < 2932031007402 then (some (y441 ++ [(⟨([] : List Int), ([] : List Int)⟩ : S42)])) else (none)) else (some y441))) else ((spec_l07Cuts.f k (([] : List Int)) l1).bind fun t451 => ((spec_l07Cuts.f k t451 l2).bind fun t454 => (spec_l07Combine.l0 k a0 l1 l2 a3 y441 t454 (([] : List (S42))) 0 0))))) = some r := h
 clear h
 obtain ⟨y441, hy441⟩ : ∃ y_ : List (S42), y_ = (([] : List (S42))) := ⟨_, rfl⟩
 replace H : (if a3 = 0 then ((spec_l07Holds.f a0 (decide ((l1.length : Int) > 0)) (decide ((l2.length : Int) > 0))).bind fun t444 => (if t444 = true then (if y441.length < 2932031007402 then (some (y441 ++ [(⟨([] : List Int), ([] : List Int)⟩ : S42)])) else (none)) else (some y441))) else ((spec_l07Cuts.f k (([] : List Int)) l1).bind fun t451 => ((spec_l07Cuts.f k t451 l2).bind fun t454 => (spec_l07Combine.l0 k a0 l1 l2 a3 y441 t454 (([] : List (S42))) 0 0)))) = some r := by first | (rw [hy441]; with_reducible exact H) | (have H2_ := (Option.bind_some _ _).symm.trans H; rw [hy441]; with_reducible exact H2_) | (have H2_ := (Option.bind_some _ _).symm.trans H; with_reducible exact H2_) | with_reducible exact H | (rw [hy441]; exact H) | exact H
 have Ny441 := yD hy441
 clear hy441
 by_cases c5 : a3 = 0
 ·
  rw [if_pos c5] at H
  have c5b0 : (a3 == 0) = true := beq_iff_eq.mpr c5
  have c5b1 : (a3 != 0) = false := bne_eq_false_iff_eq.mpr c5
  clear c5
  obtain ⟨t444, A60, H⟩ := zW_ H
  replace H : (if t444 = true then (if y441.length < 2932031007402 then (some (y441 ++ [(⟨([] : List Int), ([] : List Int)⟩ : S42)])) else (none)) else (some y441)) = some r := H
  have A6 := yD A60
  clear A60
  by_cases c7 : t444 = true
  ·
   subst c7
   replace H : (if y441.length < 2932031007402 then (some (y441 ++ [(⟨([] : List Int), ([] : List Int)⟩ : S42)])) else (none)) = some r := (by rw [if_pos rfl] at H; exact H)
   by_cases c8 : y441.length < 2932031007402
   ·
    rw [if_pos c8] at H
    have LMc8 := yD c8
    clear c8
    obtain ⟨y445, hy445⟩ : ∃ y_ : List (S42), y_ = (y441 ++ [(⟨([] : List Int), ([] : List Int)⟩ : S42)]) := ⟨_, rfl⟩
    replace H : (some y445) = some r := by first | (rw [hy445]; with_reducible exact H) | (have H2_ := (Option.bind_some _ _).symm.trans H; rw [hy445]; with_reducible exact H2_) | (have H2_ := (Option.bind_some _ _).symm.trans H; with_reducible exact H2_) | with_reducible exact H | (rw [hy445]; exact H) | exact H
    have Ny445 := yD hy445
    clear hy445; obtain rfl := Option.some.inj H; go_enter Try.func97, Try.ntmps97
    go_wp2_with (first | ((with_reducible refine gate_dst (N := 18) rfl ?_); refine Kd.S_lit k42 _ 42 ?hg (N := 18) ?hd (xs := ([] : List (S42))) (inner := []) (ok := fun _ => True) (okp := fun _ => True) ?hr ?hp (fun _ hk => hk) trivial (Below.refl _ _) (Nat.le_refl _) (by simp) ?_; (case hd => rfl); (case hg => rfl); (case hr => first | (go_simp; done) | (go_simp; rfl)); (case hp => exact (Reps.none _ _)); intro v442 w9 ho10 hb hg_ hnew_; clear hg_ hnew_; (first | rw [← Ny441.out] at ho10 | (simp only [Int.reduceToNat] at ho10; rw [← Ny441.out] at ho10)); have HO443 := yD (zG ho10 (below_size (kB HB))); replace HB := yD (zC (kB HB) hb); clear hb ho10) | ((with_reducible refine gate_callee (f := 127) rfl ?_); refine goesL_ (some 28) rfl rfl Try.func127 (by kernel_rfl) rfl #[.int .i64 a0, .bool (decide (0 < l1.length)), .bool (decide (0 < l2.length))] rfl (by first | (with_reducible rfl; done) | (simp only [zN, zO]; rfl) | (go_simp; done) | (go_simp; rfl)) ?_; (refine (spec_l07Holds.calls a0 (decide (0 < l1.length)) (decide (0 < l2.length)) true _ (by have h_ := A6.out; rw [show decide ((l1.length : Int) > 0) = decide (0 < l1.length) from decide_eq_decide.2 (by omega), show decide ((l2.length : Int) > 0) = decide (0 < l2.length) from decide_eq_decide.2 (by omega)] at h_; exact h_)).mono ?_); rintro e w' ⟨rfl, ⟨nd, rfl⟩⟩; refine ⟨_, rfl, ?_⟩) | ((with_reducible refine gate_builtin (b := .append) (xs := #[.tmp 29, .tmp 31]) rfl ?_); at_builtin; refine Kd.S_append k42 (w0 := w) w.heap.size rfl (.tmp 29) (.tmp 31) 24 42 (.agg #[(.slice none 0 0), (.slice none 0 0)]) 48 rfl Try.underlying24 info42 rfl (by decide) (by omega) v442 y441 (⟨([] : List Int), ([] : List Int)⟩ : S42) [.slice none 0 0, .slice none 0 0] (fun _ => True) (fun _ => False) rfl rfl ?aP (fun k_ hk_ => hk_.elim) ?aF ?aO ?aB ?aS ?aL ?_; (case aP => exact k42_mkM _ _ _ (⟨([] : List Int), ([] : List Int)⟩ : S42) (Kd.R_nil _ _ _ _ _) (Kd.R_nil _ _ _ _ _)); (case aB => exact (kB HB)); (case aF => exact (fun _ _ => trivial)); (case aO => exact (mS HO443 (fun k_ hk => ⟨trivial, fun e_ => e_⟩))); (case aS => exact (below_size (kB HB))); (case aL => have := LMc8.out; omega); intro v446 w11 ho hb hg hat; rw [← Ny445.out] at ho; replace HB := yD (hb); have HO447 := yD (ho); clear HO443; clear ho hb hg hat))
    go_ret
    exact ⟨_, by first | rfl | (simp <;> rfl) | (simp [*] <;> rfl), kS HO447, kR0 HB⟩
   · rw [if_neg c8] at H
     exact absurd H (by simp)
  · replace c7 := Bool.eq_false_iff.mpr c7
    subst c7
    replace H : (some y441) = some r := (by rw [if_neg (show ¬ (false = true) by decide)] at H; exact H); obtain rfl := Option.some.inj H; go_enter Try.func97, Try.ntmps97
    go_wp2_with (first | ((with_reducible refine gate_dst (N := 18) rfl ?_); refine Kd.S_lit k42 _ 42 ?hg (N := 18) ?hd (xs := ([] : List (S42))) (inner := []) (ok := fun _ => True) (okp := fun _ => True) ?hr ?hp (fun _ hk => hk) trivial (Below.refl _ _) (Nat.le_refl _) (by simp) ?_; (case hd => rfl); (case hg => rfl); (case hr => first | (go_simp; done) | (go_simp; rfl)); (case hp => exact (Reps.none _ _)); intro v442 w12 ho13 hb hg_ hnew_; clear hg_ hnew_; (first | rw [← Ny441.out] at ho13 | (simp only [Int.reduceToNat] at ho13; rw [← Ny441.out] at ho13)); have HO443 := yD (zG ho13 (below_size (kB HB))); replace HB := yD (zC (kB HB) hb); clear hb ho13) | ((with_reducible refine gate_callee (f := 127) rfl ?_); refine goesL_ (some 28) rfl rfl Try.func127 (by kernel_rfl) rfl #[.int .i64 a0, .bool (decide (0 < l1.length)), .bool (decide (0 < l2.length))] rfl (by first | (with_reducible rfl; done) | (simp only [zN, zO]; rfl) | (go_simp; done) | (go_simp; rfl)) ?_; (refine (spec_l07Holds.calls a0 (decide (0 < l1.length)) (decide (0 < l2.length)) false _ (by have h_ := A6.out; rw [show decide ((l1.length : Int) > 0) = decide (0 < l1.length) from decide_eq_decide.2 (by omega), show decide ((l2.length : Int) > 0) = decide (0 < l2.length) from decide_eq_decide.2 (by omega)] at h_; exact h_)).mono ?_); rintro e w' ⟨rfl, ⟨nd, rfl⟩⟩; refine ⟨_, rfl, ?_⟩))
    go_ret
    exact ⟨_, by first | rfl | (simp <;> rfl) | (simp [*] <;> rfl), kS HO443, kR0 HB⟩
 ·
  rw [if_neg c5] at H
  have c5b0 : (a3 == 0) = false := beq_eq_false_iff_ne.mpr c5
  have c5b1 : (a3 != 0) = true := bne_iff_ne.mpr c5
  obtain ⟨y448, hy448⟩ : ∃ y_ : List Int, y_ = (([] : List Int)) := ⟨_, rfl⟩
  replace H : ((spec_l07Cuts.f k y448 l1).bind fun t451 => ((spec_l07Cuts.f k t451 l2).bind fun t454 => (spec_l07Combine.l0 k a0 l1 l2 a3 y441 t454 (([] : List (S42))) 0 0))) = some r := by first | (rw [hy448]; with_reducible exact H) | (have H2_ := (Option.bind_some _ _).symm.trans H; rw [hy448]; with_reducible exact H2_) | (have H2_ := (Option.bind_some _ _).symm.trans H; with_reducible exact H2_) | with_reducible exact H | (rw [hy448]; exact H) | exact H
  have Ny448 := yD hy448
  clear hy448
  obtain ⟨t451, A140, H⟩ := zW_ H
  replace H : ((spec_l07Cuts.f k t451 l2).bind fun t454 => (spec_l07Combine.l0 k a0 l1 l2 a3 y441 t454 (([] : List (S42))) 0 0)) = some r := H
  have A14 := yD A140
  clear A140
  obtain ⟨t454, A150, H⟩ := zW_ H
  replace H : (spec_l07Combine.l0 k a0 l1 l2 a3 y441 t454 (([] : List (S42))) 0 0) = some r := H
  have A15 := yD A150
  clear A150
  obtain ⟨y457, hy457⟩ : ∃ y_ : List (S42), y_ = (([] : List (S42))) := ⟨_, rfl⟩
  replace H : (spec_l07Combine.l0 k a0 l1 l2 a3 y441 t454 y457 0 0) = some r := by first | (rw [hy457]; with_reducible exact H) | (have H2_ := (Option.bind_some _ _).symm.trans H; rw [hy457]; with_reducible exact H2_) | (have H2_ := (Option.bind_some _ _).symm.trans H; with_reducible exact H2_) | with_reducible exact H | (rw [hy457]; exact H) | exact H
  have Ny457 := yD hy457
  clear hy457
  have H' := yD H
  clear H; go_enter Try.func97, Try.ntmps97
  go_wp2_with (first | ((with_reducible refine gate_dst (N := 18) rfl ?_); refine Kd.S_lit k42 _ 42 ?hg (N := 18) ?hd (xs := ([] : List (S42))) (inner := []) (ok := fun _ => True) (okp := fun _ => True) ?hr ?hp (fun _ hk => hk) trivial (Below.refl _ _) (Nat.le_refl _) (by simp) ?_; (case hd => rfl); (case hg => rfl); (case hr => first | (go_simp; done) | (go_simp; rfl)); (case hp => exact (Reps.none _ _)); intro v442 w16 ho17 hb hg_ hnew_; clear hg_ hnew_; (first | rw [← Ny441.out] at ho17 | (simp only [Int.reduceToNat] at ho17; rw [← Ny441.out] at ho17)); have HO443 := yD (zG ho17 (below_size (kB HB))); replace HB := yD (zC (kB HB) hb); clear hb ho17) | ((with_reducible refine gate_dst (N := 34) rfl ?_); refine Kd.R_lit (Kd.int .i64) _ 2 ?hg (N := 34) ?hd (xs := ([] : List Int)) (inner := []) (ok := fun _ => True) (okp := fun _ => True) ?hr ?hp (fun _ hk => hk) trivial (Below.refl _ _) (Nat.le_refl _) (by simp) ?_; (case hd => rfl); (case hg => rfl); (case hr => first | (go_simp; done) | (go_simp; rfl)); (case hp => exact (Reps.none _ _)); intro v449 w18 ho19 hb hg_ hnew_; clear hg_ hnew_; (first | rw [← Ny448.out] at ho19 | (simp only [Int.reduceToNat] at ho19; rw [← Ny448.out] at ho19)); replace HO443 := yD (Kd.S_elder' (kS HO443) (yH ho19) hb); have HO450 := yD (yZ ho19 (below_size (kB HB))); replace HB := yD (zC (kB HB) hb); clear hb ho19; obtain ⟨Ao20, co20, eo20⟩ := Kd.R_slice HO450.out; subst eo20) | ((with_reducible refine gate_callee (f := 128) rfl ?_); refine gL 36 Try.func128 #[.slice Ao20 y448.length co20, .slice A1 l1.length c1] ?_; (with_reducible refine (spec_l07Cuts.calls k (fun k_ => some k_ = (.slice Ao20 y448.length co20 : Value).ownBlock) _ _ y448 _ _ l1 t451 _ ?side1 ?side2 ?side3 A14.out).mono ?_); (case side1 => exact Kd.R_V (Kd.R_tight rfl (Kd.R_apart' (HO450.out) (Kd.S_typed HO443.out) (by decide)))); (case side2 => exact kV (yY HR1.out HB.out)); (case side3 => exact HC1.out); rintro e w21 ⟨v452, rfl, ho0, hb⟩; refine ⟨_, rfl, ?_⟩; have HO453 := yD (Kd.V_lower (Kd.V_mono (ok' := fun k_ => oB v442 k_) ho0 (fun k_ hk_ => Or.elim hk_ (fun hs_ => ((Kd.R_apart' (HO450.out) (Kd.S_typed HO443.out) (by decide)).1 k_ hs_.symm).2) (fun hn_ => (Kd.fresh' (Kd.S_lt (kS HO443)) k_ hn_)))) (below_size (kB HB))); replace HO443 := yD (Kd.S_below (kS HO443) hb); replace HO450 := yD (zE (kA HO450) hb); replace HB := yD (zC (kB HB) hb); clear hb ho0; obtain ⟨Ao22, co22, eo22⟩ := Kd.V_slice HO453.out; subst eo22) | ((with_reducible refine gate_callee (f := 128) rfl ?_); refine gL 38 Try.func128 #[.slice Ao22 t451.length co22, .slice A2 l2.length c2] ?_; (with_reducible refine (spec_l07Cuts.calls k (fun k_ => oB v442 k_) _ _ t451 _ _ l2 t454 _ ?side1 ?side2 ?side3 A15.out).mono ?_); (case side1 => exact HO453.out); (case side2 => exact kV (yY HR2.out HB.out)); (case side3 => exact HC2.out); rintro e w23 ⟨v455, rfl, ho0, hb⟩; refine ⟨_, rfl, ?_⟩; replace HO450 := yD (zE (kA HO450) hb); replace HO453 := yD (Kd.V_below (kU HO453) hb); have HO456 := yD (Kd.V_lower (Kd.V_mono (ok' := fun k_ => oB v442 k_) ho0 (fun k_ hk_ => Or.elim hk_ (fun hs_ => hs_) (fun hn_ => (Kd.fresh' (Kd.S_lt (kS HO443)) k_ hn_)))) (below_size (kB HB))); replace HO443 := yD (Kd.S_below (kS HO443) hb); replace HB := yD (zC (kB HB) hb); clear hb ho0) | ((with_reducible refine gate_dst (N := 39) rfl ?_); refine Kd.S_lit k42 _ 42 ?hg (N := 39) ?hd (xs := ([] : List (S42))) (inner := []) (ok := fun _ => True) (okp := fun _ => True) ?hr ?hp (fun _ hk => hk) trivial (Below.refl _ _) (Nat.le_refl _) (by simp) ?_; (case hd => rfl); (case hg => rfl); (case hr => first | (go_simp; done) | (go_simp; rfl)); (case hp => exact (Reps.none _ _)); intro v458 w24 ho25 hb hg_ hnew_; clear hg_ hnew_; (first | rw [← Ny457.out] at ho25 | (simp only [Int.reduceToNat] at ho25; rw [← Ny457.out] at ho25)); replace HO453 := yD (Kd.V_elder' (kU HO453) (Kd.S_base ho25) hb); replace HO456 := yD (Kd.V_elder' (kU HO456) (Kd.S_base ho25) hb); have HO459 := yD (zG (zD (zD ho25 (Kd.S_lt (kS HO443))) (yK (kA HO450))) (below_size (kB HB))); replace HO443 := yD (Kd.S_elder' (kS HO443) (Kd.S_base ho25) hb); replace HO450 := yD (zE (kA HO450) hb); replace HB := yD (zC (kB HB) hb); clear hb ho25))
  (try simp only [Act.put, zH, zI, zJ])
  go_loopg [9, 11, 12, 13] k (fun kq v9 v11 v12 v13 w' => ∃ (x9_1 : List (S42)) (x11_1 : List (S42)) (x12_1 : Int) (x13_1 : Int), v12 = .int .i64 x12_1 ∧ v13 = .int .i64 x13_1 ∧ Aside0 (spec_l07Combine.l0 kq a0 l1 l2 a3 x9_1 t454 x11_1 x12_1 x13_1 = some r) ∧ Aside0 (kq ≤ k) ∧ Aside0 (Kd.S k42 42 w' w.heap.size (fun k_ => oB v11 k_) v9 x9_1) ∧ Aside0 (Kd.V (Kd.int .i64) 2 w' w.heap.size (fun k_ => oB v9 k_ ∧ oB v11 k_) v455 t454) ∧ Aside0 (Kd.S k42 42 w' w.heap.size (fun k_ => oB v9 k_) v11 x11_1) ∧ Aside0 (Below w.heap.size w w'))
  case atStart => exact ⟨(y441), (y457), (0), (0), (by first | rfl | (simp; done) | (simp [*]; done)), (by first | rfl | (simp; done) | (simp [*]; done)), H', ⟨Nat.le_refl _⟩, ⟨mS HO443 (fun _ hk => hk.2)⟩, ⟨kU HO456⟩, ⟨mS HO459 (fun _ hk => hk.1.2)⟩, ⟨kR0 HB⟩⟩
  case round =>
   clear H'
   try clear c1; try clear c2; try clear c5; try clear c5b0; try clear c5b1; try clear c7; try clear c8
   obtain ⟨x9_1, x11_1, x12_1, x13_1, rfl, rfl, HA, HK1, HO_9, HO_10, HO_11, HB⟩ := hrel
   cases gk with
   | zero => exact absurd HA.out (by simp [spec_l07Combine.l0])
   | succ k1 =>
    have H := HA.out; clear HA
    simp only [spec_l07Combine.l0] at H
    by_cases c26 : x13_1 < (t454.length : Int)
    ·
     rw [if_pos c26] at H
     have c26b0 : decide (x13_1 < (t454.length : Int)) = true := zR c26; clear c26
     obtain ⟨y460, hy460⟩ : ∃ y_ : List (S42), y_ = (([] : List (S42))) := ⟨_, rfl⟩
     replace H : (if (wrap64 (x13_1 + 1)) < (t454.length : Int) then (if 0 ≤ x13_1 then ((spec_l07Cross.f k1 l1 (rd t454 x13_1)).bind fun t464 => ((spec_l07Cross.f k1 l2 (rd t454 x13_1)).bind fun t468 => ((spec_l07Combine.f k1 a0 t464 t468 (wrap64 (a3 - 1))).bind fun t471 => (spec_l07Combine.j1 k1 a0 l1 l2 a3 x9_1 t454 x11_1 x12_1 x13_1 t471)))) else (none)) else (spec_l07Combine.j1 k1 a0 l1 l2 a3 x9_1 t454 x11_1 x12_1 x13_1 y460)) = some r := by first | (rw [hy460]; with_reducible exact H) | (have H2_ := (Option.bind_some _ _).symm.trans H; rw [hy460]; with_reducible exact H2_) | (have H2_ := (Option.bind_some _ _).symm.trans H; with_reducible exact H2_) | with_reducible exact H | (rw [hy460]; exact H) | exact H
     have Ny460 := yD hy460
     clear hy460
     have HC27 := yD H
     clear H
     obtain ⟨Ao28, co28, eo28⟩ := Kd.V_slice HO_10.out
     subst eo28
     go_upto_if 51 with (first | ((with_reducible refine gate_dst (N := 46) rfl ?_); refine Kd.S_lit k42 _ 42 ?hg (N := 46) ?hd (xs := ([] : List (S42))) (inner := []) (ok := fun _ => True) (okp := fun _ => True) ?hr ?hp (fun _ hk => hk) trivial (Below.refl _ _) (Nat.le_refl _) (by simp) ?_; (case hd => rfl); (case hg => rfl); (case hr => first | (go_simp; done) | (go_simp; rfl)); (case hp => exact (Reps.none _ _)); intro v461 w29 ho30 hb hg_ hnew_; clear hg_ hnew_; (first | rw [← Ny460.out] at ho30 | (simp only [Int.reduceToNat] at ho30; rw [← Ny460.out] at ho30)); replace HO_10 := yD (Kd.V_elder' (kU HO_10) (Kd.S_base ho30) hb); have HO462 := yD (zG (zD (zD ho30 (Kd.S_lt (kS HO_9))) (Kd.S_lt (kS HO_11))) (below_size (kB HB))); replace HO_9 := yD (Kd.S_elder' (kS HO_9) (Kd.S_base ho30) hb); replace HO_11 := yD (Kd.S_elder' (kS HO_11) (Kd.S_base ho30) hb); replace HB := yD (zC (kB HB) hb); clear hb ho30))
     (try simp only [Act.put, zH, zI, zJ])
     go_cut [14] (fun v14 wc => ∃ (kq : Nat) (x14_26 : List (S42)), Aside0 (spec_l07Combine.j1 kq a0 l1 l2 a3 x9_1 t454 x11_1 x12_1 x13_1 x14_26 = some r) ∧ Aside0 (kq ≤ k1) ∧ Aside0 (Kd.S k42 42 wc w.heap.size (fun k_ => oB u11 k_ ∧ oB v14 k_) u9 x9_1) ∧ Aside0 (Kd.V (Kd.int .i64) 2 wc w.heap.size (fun k_ => oB u9 k_ ∧ oB u11 k_ ∧ oB v14 k_) (.slice Ao28 t454.length co28) t454) ∧ Aside0 (Kd.S k42 42 wc w.heap.size (fun k_ => oB u9 k_ ∧ oB v14 k_) u11 x11_1) ∧ Aside0 (Kd.S k42 42 wc w.heap.size (fun k_ => oB u9 k_ ∧ oB u11 k_) v14 x14_26) ∧ Aside0 (Below w.heap.size w wc))
     case first =>
      have H := HC27.out; clear HC27
      by_cases c31 : (wrap64 (x13_1 + 1)) < (t454.length : Int)
      ·
       rw [if_pos c31] at H
       have c31b0 : decide ((wrap64 (x13_1 + 1)) < (t454.length : Int)) = true := zR c31; clear c31
       (first | rw [c31b0] | (simp only [i64_w, i32_w]; rw [c31b0]) | (simp only [bne] at c31b0; rw [c31b0]) | skip)
       by_cases c32 : 0 ≤ x13_1
       ·
        rw [if_pos c32] at H
        have c32b0 : decide (0 ≤ x13_1) = true := zR c32; clear c32
        obtain ⟨t464, A330, H⟩ := zW_ H
        replace H : ((spec_l07Cross.f k1 l2 (rd t454 x13_1)).bind fun t468 => ((spec_l07Combine.f k1 a0 t464 t468 (wrap64 (a3 - 1))).bind fun t471 => (spec_l07Combine.j1 k1 a0 l1 l2 a3 x9_1 t454 x11_1 x12_1 x13_1 t471))) = some r := H
        have A33 := yD A330
        clear A330
        obtain ⟨t468, A340, H⟩ := zW_ H
        replace H : ((spec_l07Combine.f k1 a0 t464 t468 (wrap64 (a3 - 1))).bind fun t471 => (spec_l07Combine.j1 k1 a0 l1 l2 a3 x9_1 t454 x11_1 x12_1 x13_1 t471)) = some r := H
        have A34 := yD A340
        clear A340
        obtain ⟨t471, A350, H⟩ := zW_ H
        replace H : (spec_l07Combine.j1 k1 a0 l1 l2 a3 x9_1 t454 x11_1 x12_1 x13_1 t471) = some r := H
        have A35 := yD A350
        clear A350
        have H' := yD H
        clear H
        try go_wp2
        have n0_ := yD (yU HO_9.out)
        have n1_ := yD (Kd.V_drew HO_10.out)
        have n2_ := yD (yU HO_11.out)
        have n3_ := yD (yU HO462.out)
        have n4_ := yD (yP HB.out)
        clear HO_9 HO_10 HO_11 HO462 HB; have HO_9 := n0_; have HO_10 := n1_; have HO_11 := n2_; have HO462 := n3_; have HB := n4_; clear n0_ n1_ n2_ n3_ n4_
        have p463 : 0 ≤ (x13_1 : Int) := zP (by assumption)
        have q463 : x13_1 < (t454.length : Int) := zP (by assumption)
        obtain ⟨ad463, e463, hx463_0⟩ := Kd.at_int (Kd.V_reads' HO_10.out).2.2 x13_1 p463 q463
        cases e463; replace p463 := eq_true p463; replace q463 := eq_true q463
        have p467 : 0 ≤ (x13_1 : Int) := zP (by assumption)
        have q467 : x13_1 < (t454.length : Int) := zP (by assumption)
        obtain ⟨ad467, e467, hx467_0⟩ := Kd.at_int (Kd.V_reads' HO_10.out).2.2 x13_1 p467 q467
        obtain rfl : ad463 = ad467 := (by injection e467)
        replace p467 := eq_true p467; replace q467 := eq_true q467
        refine start_ (n := 17) (S := fun w' => w'.cell? (ad463.add (x13_1).toNat) = some (.int .i64 (rd t454 x13_1)) ∧ w'.cell? (ad463.add (x13_1).toNat) = some (.int .i64 (rd t454 x13_1))) (ds := []) (bz 17 0) (by kernel_rfl) rfl rfl ⟨hx463_0, hx467_0⟩ (fun hHeld => ?_); refine with_tabW spec_l07Combine.tab14 spec_l07Combine.bits14 (fun HT_ HW_ => ?_)
        generalize w29.drew = w36 at HO_9 HO_10 HO_11 HO462 HB hx463_0 hx467_0 hHeld ⊢
        refine qA 0 52 (bz 17 1) HT_ ?_
        refine qA 1 53 (bz 17 3) HT_ ?_
        refine qA 2 54 (bz 17 7) HT_ ?_
        refine qA 3 55 (bz 17 15) HT_ ?_
        refine qA 4 56 (bz 17 31) HT_ ?_
        refine qA 7 59 (bz 17 159) HT_ ?_
        refine qA 8 60 (bz 17 415) HT_ ?_
        refine qA 9 61 (bz 17 927) HT_ ?_
        refine qA 10 62 (bz 17 1951) HT_ ?_
        refine qA 13 65 (bz 17 10143) HT_ ?_
        refine qA 14 66 (bz 17 26527) HT_ ?_
        refine qC 5 57 (bz 17 26559) HT_ HW_ hHeld ?_ (hy := by rintro w' ⟨s0, s1⟩; go_simp; with_reducible rfl)
        refine qC 11 63 (bz 17 28607) HT_ HW_ hHeld ?_ (hy := by rintro w' ⟨s0, s1⟩; go_simp; with_reducible rfl)
        refine one_ (i := 6) (N := some 58) (bz 17 28671) rfl rfl (one_of HT_.out (by kernel_rfl)) (by decide) (fun K hK => ?_)
        refine goes_ Try.func129 (by kernel_rfl) rfl #[.slice A1 l1.length c1, .int .i64 (rd t454 x13_1)] (by rfl) rfl rfl (by (try simp only [zK, zL, zM]); first | done | rfl | (simp only [zN, zO]; rfl)) ?_
        with_reducible refine (spec_l07Cross.calls k1 (fun k_ => k_ < w.heap.size) _ _ l1 (rd t454 x13_1) t464 _ ?side1 A33.out).mono ?_
        (case side1 => exact Kd.V_mk HC1.out (Kd.F_below (Kd.C_F k42_heap HR1.out) (kB HB)))
        rintro e w37 ⟨v465, rfl, ho0, hb⟩
        have HS0_ := (hb.cell (zQ _ _ (hHeld.1))).trans (hHeld.1)
        have HS1_ := (hb.cell (zQ _ _ (hHeld.2))).trans (hHeld.2)
        refine ⟨_, rfl, ?_⟩
        have n0_ := yD (Kd.S_below (kS HO_9) hb)
        have n1_ := yD (Kd.V_below (kU HO_10) hb)
        have n2_ := yD (Kd.S_below (kS HO_11) hb)
        have n3_ := yD (Kd.S_below (kS HO462) hb)
        have n4_ := yD (Kd.V_lower (Kd.V_mono (ok' := fun k_ => oB u9 k_ ∧ oB u11 k_ ∧ oB v461 k_) ho0 (fun k_ hk_ => ⟨Or.elim hk_ (fun hs_ => fun e_ => Nat.not_le.2 hs_ (Kd.S_base HO_9.out k_ e_.symm)) (fun hn_ => (Kd.fresh' (Kd.S_lt (kS HO_9)) k_ hn_)), Or.elim hk_ (fun hs_ => fun e_ => Nat.not_le.2 hs_ (Kd.S_base HO_11.out k_ e_.symm)) (fun hn_ => (Kd.fresh' (Kd.S_lt (kS HO_11)) k_ hn_)), Or.elim hk_ (fun hs_ => fun e_ => Nat.not_le.2 hs_ (Kd.S_base HO462.out k_ e_.symm)) (fun hn_ => (Kd.fresh' (Kd.S_lt (kS HO462)) k_ hn_))⟩)) (below_size (kB HB)))
        have n5_ := yD (zC (kB HB) hb)
        clear HO_9 HO_10 HO_11 HO462 HB; have HO_9 := n0_; have HO_10 := n1_; have HO_11 := n2_; have HO462 := n3_; have HO466 := n4_; have HB := n5_; clear n0_ n1_ n2_ n3_ n4_ n5_; (try clear hb); (try clear hb2); (try clear hk); (try clear hi); (try clear ho0)
        refine hK.out _ _ ⟨HS0_, HS1_⟩ (fun hHeld => ?_)
        clear hK K
        refine norm_ (a' := ?_) ?_ ?_
        rotate_left
        · show Act.put _ (some 58) _ = _
          simp only [Act.put, zH, zI, zJ, i64_w, i32_w]
          rfl
        refine one_ (i := 12) (N := some 64) (bz 17 32767) rfl rfl (one_of HT_.out (by kernel_rfl)) (by decide) (fun K hK => ?_)
        refine goes_ Try.func129 (by kernel_rfl) rfl #[.slice A2 l2.length c2, .int .i64 (rd t454 x13_1)] (by rfl) rfl rfl (by (try simp only [zK, zL, zM]); first | done | rfl | (simp only [zN, zO]; rfl)) ?_
        with_reducible refine (spec_l07Cross.calls k1 (fun k_ => k_ < w.heap.size) _ _ l2 (rd t454 x13_1) t468 _ ?side1 A34.out).mono ?_
        (case side1 => exact Kd.V_mk HC2.out (Kd.F_below (Kd.C_F k42_heap HR2.out) (kB HB)))
        rintro e w38 ⟨v469, rfl, ho0, hb⟩
        have HS0_ := (hb.cell (zQ _ _ (hHeld.1))).trans (hHeld.1)
        have HS1_ := (hb.cell (zQ _ _ (hHeld.2))).trans (hHeld.2)
        refine ⟨_, rfl, ?_⟩
        have n0_ := yD (Kd.S_below (kS HO_9) hb)
        have n1_ := yD (Kd.V_below (kU HO_10) hb)
        have n2_ := yD (Kd.S_below (kS HO_11) hb)
        have n3_ := yD (Kd.S_below (kS HO462) hb)
        have n4_ := yD (Kd.V_below (kU HO466) hb)
        have n5_ := yD (Kd.V_lower (Kd.V_mono (ok' := fun k_ => oB u9 k_ ∧ oB u11 k_ ∧ oB v461 k_) ho0 (fun k_ hk_ => ⟨Or.elim hk_ (fun hs_ => fun e_ => Nat.not_le.2 hs_ (Kd.S_base HO_9.out k_ e_.symm)) (fun hn_ => (Kd.fresh' (Kd.S_lt (kS HO_9)) k_ hn_)), Or.elim hk_ (fun hs_ => fun e_ => Nat.not_le.2 hs_ (Kd.S_base HO_11.out k_ e_.symm)) (fun hn_ => (Kd.fresh' (Kd.S_lt (kS HO_11)) k_ hn_)), Or.elim hk_ (fun hs_ => fun e_ => Nat.not_le.2 hs_ (Kd.S_base HO462.out k_ e_.symm)) (fun hn_ => (Kd.fresh' (Kd.S_lt (kS HO462)) k_ hn_))⟩)) (below_size (kB HB)))
        have n6_ := yD (zC (kB HB) hb)
        clear HO_9 HO_10 HO_11 HO462 HO466 HB; have HO_9 := n0_; have HO_10 := n1_; have HO_11 := n2_; have HO462 := n3_; have HO466 := n4_; have HO470 := n5_; have HB := n6_; clear n0_ n1_ n2_ n3_ n4_ n5_ n6_; (try clear hb); (try clear hb2); (try clear hk); (try clear hi); (try clear ho0)
        obtain ⟨Ao39, co39, eo39⟩ := Kd.V_slice HO466.out
        (first | subst eo39 | (injection eo39 with f1_ f2_ f3_; have f4_ := f1_.symm; have f5_ := f3_.symm; clear f1_ f2_ f3_; subst f4_; subst f5_))
        obtain ⟨Ao40, co40, eo40⟩ := Kd.V_slice HO470.out
        (first | subst eo40 | (injection eo40 with f1_ f2_ f3_; have f4_ := f1_.symm; have f5_ := f3_.symm; clear f1_ f2_ f3_; subst f4_; subst f5_))
        refine hK.out _ _ ⟨HS0_, HS1_⟩ (fun hHeld => ?_)
        clear hK K
        refine norm_ (a' := ?_) ?_ ?_
        rotate_left
        · show Act.put _ (some 64) _ = _
          simp only [Act.put, zH, zI, zJ, i64_w, i32_w]
          rfl
        refine one_ (i := 15) (N := some 67) (bz 17 65535) rfl rfl (one_of HT_.out (by kernel_rfl)) (by decide) (fun K hK => ?_)
        refine goes_ Try.func97 (by kernel_rfl) rfl #[.int .i64 a0, .slice Ao39 t464.length co39, .slice Ao40 t468.length co40, .int .i64 (wrap64 (a3 - 1))] (by rfl) rfl rfl (by (try simp only [zK, zL, zM]); first | done | rfl | (simp only [zN, zO]; rfl)) ?_
        with_reducible refine (ih k1 (by have := HK1.out; omega) a0 _ _ t464 _ _ t468 (wrap64 (a3 - 1)) t471 _ ?side1 ?side2 ?side3 ?side4 A35.out).mono ?_
        (case side1 => exact kV (Kd.V_reads' HO466.out).2.2)
        (case side2 => exact (Kd.V_reads' HO466.out).2.1)
        (case side3 => exact kV (Kd.V_reads' HO470.out).2.2)
        (case side4 => exact (Kd.V_reads' HO470.out).2.1)
        rintro e w41 ⟨v472, rfl, ho0, hb⟩
        have HS0_ := (hb.cell (zQ _ _ (hHeld.1))).trans (hHeld.1)
        have HS1_ := (hb.cell (zQ _ _ (hHeld.2))).trans (hHeld.2)
        refine ⟨_, rfl, ?_⟩
        have n0_ := yD (Kd.S_elder' (kS HO_9) (Kd.S_base ho0) hb)
        have n1_ := yD (Kd.V_elder' (kU HO_10) (Kd.S_base ho0) hb)
        have n2_ := yD (Kd.S_elder' (kS HO_11) (Kd.S_base ho0) hb)
        have n3_ := yD (Kd.S_elder' (kS HO462) (Kd.S_base ho0) hb)
        have n4_ := yD (Kd.V_elder' (kU HO466) (Kd.S_base ho0) hb)
        have n5_ := yD (Kd.V_elder' (kU HO470) (Kd.S_base ho0) hb)
        have n6_ := yD (zG (zD (zD (zD ho0 (Kd.S_lt (kS HO_9))) (Kd.S_lt (kS HO_11))) (Kd.S_lt (kS HO462))) (below_size (kB HB)))
        have n7_ := yD (zC (kB HB) hb)
        clear HO_9 HO_10 HO_11 HO462 HO466 HO470 HB; have HO_9 := n0_; have HO_10 := n1_; have HO_11 := n2_; have HO462 := n3_; have HO466 := n4_; have HO470 := n5_; have HO473 := n6_; have HB := n7_; clear n0_ n1_ n2_ n3_ n4_ n5_ n6_ n7_; (try clear hb); (try clear hb2); (try clear hk); (try clear hi); (try clear ho0)
        refine hK.out _ _ ⟨HS0_, HS1_⟩ (fun hHeld => ?_)
        clear hK K
        refine norm_ (a' := ?_) ?_ ?_
        rotate_left
        · show Act.put _ (some 67) _ = _
          simp only [Act.put, zH, zI, zJ, i64_w, i32_w]
          rfl
        refine qA 16 14 (bz 17 131071) HT_ ?_
        refine done_ (done_of HT_.out (by kernel_rfl)) ?_
        try go_wp2
        go_meet
        case rel => exact ⟨_, (t471), H', ⟨by have := HK1.out; first | omega | exact Nat.le_refl _⟩, ⟨mS HO_9 (fun _ hk => ⟨hk.1.1, hk.2⟩)⟩, ⟨mV HO_10 (fun _ hk => ⟨hk.1.1.1, ⟨hk.1.1.2, hk.2⟩⟩)⟩, ⟨mS HO_11 (fun _ hk => ⟨hk.1.1, hk.2⟩)⟩, ⟨mS HO473 (fun _ hk => ⟨hk.1.1.2, hk.1.2⟩)⟩, ⟨kR0 HB⟩⟩
       · rw [if_neg c32] at H
         exact absurd H (by simp)
      · rw [if_neg c31] at H
        have c31b0 : decide ((wrap64 (x13_1 + 1)) < (t454.length : Int)) = false := zS c31; clear c31
        (first | rw [c31b0] | (simp only [i64_w, i32_w]; rw [c31b0]) | (simp only [bne] at c31b0; rw [c31b0]) | skip)
        have H' := yD H
        clear H
        go_wp2
        go_meet
        case rel => exact ⟨_, (y460), H', ⟨by have := HK1.out; first | omega | exact Nat.le_refl _⟩, ⟨kS HO_9⟩, ⟨mV HO_10 (fun _ hk => ⟨hk.1.1, ⟨hk.1.2, hk.2⟩⟩)⟩, ⟨kS HO_11⟩, ⟨mS HO462 (fun _ hk => ⟨hk.1.2, hk.2⟩)⟩, ⟨kR0 HB⟩⟩
     case rest =>
      clear HC27; try clear c1; try clear c2; try clear c5; try clear c5b0; try clear c5b1; try clear c7; try clear c8; try clear c26; try clear c26b0; try clear c31; try clear c31b0; try clear c32; try clear c32b0; try clear hx463_0; try clear hx467_0; try clear p463; try clear p467; try clear q463; try clear q467
      obtain ⟨kq, x14_26, HA, HJ26, HO_9, HO_10, HO_11, HO_14, HB⟩ := hcut
      cases kq with
      | zero => exact absurd HA.out (by simp [spec_l07Combine.j1])
      | succ kj26 =>
       have H := HA.out; clear HA
       simp only [spec_l07Combine.j1] at H
       have HC42 := yD H
       clear H
       go_upto_region 15 with (fail)
       go_cut [74] (fun v74 wc => ∃ (kq : Nat) (x74_41 : Bool), v74 = .bool x74_41 ∧ Aside0 (spec_l07Combine.j2 kq a0 l1 l2 a3 x9_1 t454 x11_1 x12_1 x13_1 x14_26 x74_41 = some r) ∧ Aside0 (kq ≤ kj26) ∧ Aside0 (Kd.S k42 42 wc w.heap.size (fun k_ => oB u11 k_ ∧ oB u14 k_) u9 x9_1) ∧ Aside0 (Kd.V (Kd.int .i64) 2 wc w.heap.size (fun k_ => oB u9 k_ ∧ oB u11 k_ ∧ oB u14 k_) (.slice Ao28 t454.length co28) t454) ∧ Aside0 (Kd.S k42 42 wc w.heap.size (fun k_ => oB u9 k_ ∧ oB u14 k_) u11 x11_1) ∧ Aside0 (Kd.S k42 42 wc w.heap.size (fun k_ => oB u9 k_ ∧ oB u11 k_) u14 x14_26) ∧ Aside0 (Below w.heap.size w wc))
       case first =>
        have H := HC42.out; clear HC42
        by_cases c43 : x13_1 > 0
        ·
         rw [if_pos c43] at H
         have c43b0 : decide (0 < x13_1) = true := zR c43; clear c43
         (first | rw [c43b0] | (simp only [i64_w, i32_w]; rw [c43b0]) | (simp only [bne] at c43b0; rw [c43b0]) | skip)
         obtain ⟨t474, A440, H⟩ := zW_ H
         replace H : (spec_l07Combine.j2 kj26 a0 l1 l2 a3 x9_1 t454 x11_1 x12_1 x13_1 x14_26 t474) = some r := H
         have A44 := yD A440
         clear A440
         have H' := yD H
         clear H
         obtain ⟨Ao45, co45, eo45⟩ := Kd.S_slice HO_14.out
         subst eo45
         obtain ⟨Ao46, co46, eo46⟩ := Kd.S_slice HO_11.out
         subst eo46
         go_wp2_with (first | (go_at_call 130; (with_reducible refine (spec_l07Same.calls kj26 _ _ x14_26 _ _ x11_1 t474 _ ?side1 ?side2 ?side3 ?side4 A44.out).mono ?_); (case side1 => exact kV (Kd.S_reads' HO_14.out).2.2); (case side2 => exact (Kd.S_reads' HO_14.out).2.1); (case side3 => exact kV (Kd.S_reads' HO_11.out).2.2); (case side4 => exact (Kd.S_reads' HO_11.out).2.1); rintro e w47 ⟨rfl, hb⟩; replace HO_9 := yD (Kd.S_below (kS HO_9) hb); replace HO_10 := yD (Kd.V_below (kU HO_10) hb); replace HO_11 := yD (Kd.S_below (kS HO_11) hb); replace HO_14 := yD (Kd.S_below (kS HO_14) hb); replace HB := yD (zC (kB HB) hb); clear hb))
         go_meet
         case rel => exact ⟨_, (t474), (by first | rfl | (simp; done) | (simp [*]; done)), H', ⟨by have := HK1.out; have := HJ26.out; first | omega | exact Nat.le_refl _⟩, ⟨kS HO_9⟩, ⟨kU HO_10⟩, ⟨kS HO_11⟩, ⟨kS HO_14⟩, ⟨kR0 HB⟩⟩
        · rw [if_neg c43] at H
          have c43b0 : decide (0 < x13_1) = false := zS c43; clear c43
          (first | rw [c43b0] | (simp only [i64_w, i32_w]; rw [c43b0]) | (simp only [bne] at c43b0; rw [c43b0]) | skip)
          have H' := yD H
          clear H
          go_wp2
          go_meet
          case rel => exact ⟨_, (false), (by first | rfl | (simp; done) | (simp [*]; done)), H', ⟨by have := HK1.out; have := HJ26.out; first | omega | exact Nat.le_refl _⟩, ⟨kS HO_9⟩, ⟨kU HO_10⟩, ⟨kS HO_11⟩, ⟨kS HO_14⟩, ⟨kR0 HB⟩⟩
       case rest =>
        clear HC42; try clear c1; try clear c2; try clear c5; try clear c5b0; try clear c5b1; try clear c7; try clear c8; try clear c26; try clear c26b0; try clear c31; try clear c31b0; try clear c32; try clear c32b0; try clear c43; try clear c43b0; try clear hx463_0; try clear hx467_0; try clear p463; try clear p467; try clear q463; try clear q467
        obtain ⟨kq, x74_41, rfl, HA, HJ41, HO_9, HO_10, HO_11, HO_14, HB⟩ := hcut
        cases kq with
        | zero => exact absurd HA.out (by simp [spec_l07Combine.j2])
        | succ kj41 =>
         have H := HA.out; clear HA
         simp only [spec_l07Combine.j2] at H
         by_cases c48 : x74_41 = true
         · subst c48
           replace H : (spec_l07Combine.l0 kj41 a0 l1 l2 a3 x9_1 t454 x11_1 x12_1 (wrap64 (x13_1 + 1))) = some r := (by rw [if_pos rfl] at H; exact H)
           have H' := yD H
           clear H
           go_wp2
           go_roundg kj41
           case measure => have := HK1.out; have := HJ26.out; have := HJ41.out; omega
           case rel => exact ⟨(x9_1), (x11_1), (x12_1), (wrap64 (x13_1 + 1)), (by first | rfl | (simp; done) | (simp [*]; done)), (by first | rfl | (simp; done) | (simp [*]; done)), H', ⟨by have := HK1.out; have := HJ26.out; have := HJ41.out; omega⟩, ⟨mS HO_9 (fun _ hk => hk.1)⟩, ⟨mV HO_10 (fun _ hk => ⟨hk.1, hk.2.1⟩)⟩, ⟨mS HO_11 (fun _ hk => hk.1)⟩, ⟨kR0 HB⟩⟩
         ·
          replace c48 := Bool.eq_false_iff.mpr c48
          subst c48
          replace H : (spec_l07Combine.l1 kj41 a0 l1 l2 a3 x9_1 t454 x11_1 x12_1 x13_1 x14_26 0) = some r := (by rw [if_neg (show ¬ (false = true) by decide)] at H; exact H)
          have H' := yD H
          clear H
          go_wp2
          go_loopg [9, 15] kj41 (fun kq v9 v15 w' => ∃ (x9_4 : List (S42)) (x15_4 : Int), v15 = .int .i64 x15_4 ∧ Aside0 (spec_l07Combine.l1 kq a0 l1 l2 a3 x9_4 t454 x11_1 x12_1 x13_1 x14_26 x15_4 = some r) ∧ Aside0 (kq ≤ kj41) ∧ Aside0 (Kd.S k42 42 w' w.heap.size (fun k_ => oB u11 k_ ∧ oB u14 k_) v9 x9_4) ∧ Aside0 (Kd.V (Kd.int .i64) 2 w' w.heap.size (fun k_ => oB v9 k_ ∧ oB u11 k_ ∧ oB u14 k_) (.slice Ao28 t454.length co28) t454) ∧ Aside0 (Kd.S k42 42 w' w.heap.size (fun k_ => oB v9 k_ ∧ oB u14 k_) u11 x11_1) ∧ Aside0 (Kd.S k42 42 w' w.heap.size (fun k_ => oB v9 k_ ∧ oB u11 k_) u14 x14_26) ∧ Aside0 (Below w.heap.size w w'))
          case atStart => exact ⟨(x9_1), (0), (by first | rfl | (simp; done) | (simp [*]; done)), H', ⟨Nat.le_refl _⟩, ⟨kS HO_9⟩, ⟨kU HO_10⟩, ⟨kS HO_11⟩, ⟨kS HO_14⟩, ⟨kR0 HB⟩⟩
          case round =>
           clear H'
           try clear c1; try clear c2; try clear c5; try clear c5b0; try clear c5b1; try clear c7; try clear c8; try clear c26; try clear c26b0; try clear c31; try clear c31b0; try clear c32; try clear c32b0; try clear c43; try clear c43b0; try clear c48; try clear hx463_0; try clear hx467_0; try clear p463; try clear p467; try clear q463; try clear q467
           obtain ⟨x9_4, x15_4, rfl, HA, HK4, HO_9, HO_10, HO_11, HO_14, HB⟩ := hrel
           cases gk with
           | zero => exact absurd HA.out (by simp [spec_l07Combine.l1])
           | succ k4 =>
            have H := HA.out; clear HA
            simp only [spec_l07Combine.l1] at H
            by_cases c49 : x15_4 < (x11_1.length : Int)
            ·
             rw [if_pos c49] at H
             have c49b0 : decide (x15_4 < (x11_1.length : Int)) = true := zR c49; clear c49
             obtain ⟨y475, hy475⟩ : ∃ y_ : List Int, y_ = (([x12_1] : List Int)) := ⟨_, rfl⟩
             replace H : (if 0 ≤ x15_4 then (if y475.length + ((rd_T42 x11_1 x15_4).f0).length < 17592186044416 then (if 0 ≤ x13_1 then (if x13_1 < (t454.length : Int) then ((some (([rd t454 x13_1] : List Int) : List Int)).bind fun y483 => (if y483.length + ((rd_T42 x11_1 x15_4).f1).length < 17592186044416 then (if x9_4.length < 2932031007402 then (spec_l07Combine.l1 k4 a0 l1 l2 a3 (x9_4 ++ [(⟨(y475 ++ ((rd_T42 x11_1 x15_4).f0)), (y483 ++ ((rd_T42 x11_1 x15_4).f1))⟩ : S42)]) t454 x11_1 x12_1 x13_1 x14_26 (wrap64 (x15_4 + 1))) else (none)) else (none))) else (none)) else (none)) else (none)) else (none)) = some r := by first | (rw [hy475]; with_reducible exact H) | (have H2_ := (Option.bind_some _ _).symm.trans H; rw [hy475]; with_reducible exact H2_) | (have H2_ := (Option.bind_some _ _).symm.trans H; with_reducible exact H2_) | with_reducible exact H | (rw [hy475]; exact H) | exact H
             have Ny475 := yD hy475
             clear hy475
             by_cases c50 : 0 ≤ x15_4
             ·
              rw [if_pos c50] at H
              have c50b0 : decide (0 ≤ x15_4) = true := zR c50; clear c50
              by_cases c51 : y475.length + ((rd_T42 x11_1 x15_4).f0).length < 17592186044416
              ·
               rw [if_pos c51] at H
               have LMc51 := yD c51
               clear c51
               obtain ⟨y479, hy479⟩ : ∃ y_ : List Int, y_ = (y475 ++ ((rd_T42 x11_1 x15_4).f0)) := ⟨_, rfl⟩
               replace H : (if 0 ≤ x13_1 then (if x13_1 < (t454.length : Int) then ((some (([rd t454 x13_1] : List Int) : List Int)).bind fun y483 => (if y483.length + ((rd_T42 x11_1 x15_4).f1).length < 17592186044416 then (if x9_4.length < 2932031007402 then (spec_l07Combine.l1 k4 a0 l1 l2 a3 (x9_4 ++ [(⟨y479, (y483 ++ ((rd_T42 x11_1 x15_4).f1))⟩ : S42)]) t454 x11_1 x12_1 x13_1 x14_26 (wrap64 (x15_4 + 1))) else (none)) else (none))) else (none)) else (none)) = some r := by first | (rw [hy479]; with_reducible exact H) | (have H2_ := (Option.bind_some _ _).symm.trans H; rw [hy479]; with_reducible exact H2_) | (have H2_ := (Option.bind_some _ _).symm.trans H; with_reducible exact H2_) | with_reducible exact H | (rw [hy479]; exact H) | exact H
               have Ny479 := yD hy479
               clear hy479
               by_cases c52 : 0 ≤ x13_1
               ·
                rw [if_pos c52] at H
                have c52b0 : decide (0 ≤ x13_1) = true := zR c52; clear c52
                by_cases c53 : x13_1 < (t454.length : Int)
                ·
                 rw [if_pos c53] at H
                 have c53b0 : decide (x13_1 < (t454.length : Int)) = true := zR c53; clear c53
                 obtain ⟨y483, hy483⟩ : ∃ y_ : List Int, y_ = (([rd t454 x13_1] : List Int)) := ⟨_, rfl⟩
                 replace H : (if y483.length + ((rd_T42 x11_1 x15_4).f1).length < 17592186044416 then (if x9_4.length < 2932031007402 then (spec_l07Combine.l1 k4 a0 l1 l2 a3 (x9_4 ++ [(⟨y479, (y483 ++ ((rd_T42 x11_1 x15_4).f1))⟩ : S42)]) t454 x11_1 x12_1 x13_1 x14_26 (wrap64 (x15_4 + 1))) else (none)) else (none)) = some r := by first | (rw [hy483]; with_reducible exact H) | (have H2_ := (Option.bind_some _ _).symm.trans H; rw [hy483]; with_reducible exact H2_) | (have H2_ := (Option.bind_some _ _).symm.trans H; with_reducible exact H2_) | with_reducible exact H | (rw [hy483]; exact H) | exact H
                 have Ny483 := yD hy483
                 clear hy483
                 by_cases c54 : y483.length + ((rd_T42 x11_1 x15_4).f1).length < 17592186044416
                 ·
                  rw [if_pos c54] at H
                  have LMc54 := yD c54
                  clear c54
                  obtain ⟨y487, hy487⟩ : ∃ y_ : List Int, y_ = (y483 ++ ((rd_T42 x11_1 x15_4).f1)) := ⟨_, rfl⟩
                  replace H : (if x9_4.length < 2932031007402 then (spec_l07Combine.l1 k4 a0 l1 l2 a3 (x9_4 ++ [(⟨y479, y487⟩ : S42)]) t454 x11_1 x12_1 x13_1 x14_26 (wrap64 (x15_4 + 1))) else (none)) = some r := by first | (rw [hy487]; with_reducible exact H) | (have H2_ := (Option.bind_some _ _).symm.trans H; rw [hy487]; with_reducible exact H2_) | (have H2_ := (Option.bind_some _ _).symm.trans H; with_reducible exact H2_) | with_reducible exact H | (rw [hy487]; exact H) | exact H
                  have Ny487 := yD hy487
                  clear hy487
                  by_cases c55 : x9_4.length < 2932031007402
                  ·
                   rw [if_pos c55] at H
                   have LMc55 := yD c55
                   clear c55
                   obtain ⟨y490, hy490⟩ : ∃ y_ : List (S42), y_ = (x9_4 ++ [(⟨y479, y487⟩ : S42)]) := ⟨_, rfl⟩
                   replace H : (spec_l07Combine.l1 k4 a0 l1 l2 a3 y490 t454 x11_1 x12_1 x13_1 x14_26 (wrap64 (x15_4 + 1))) = some r := by first | (rw [hy490]; with_reducible exact H) | (have H2_ := (Option.bind_some _ _).symm.trans H; rw [hy490]; with_reducible exact H2_) | (have H2_ := (Option.bind_some _ _).symm.trans H; with_reducible exact H2_) | with_reducible exact H | (rw [hy490]; exact H) | exact H
                   have Ny490 := yD hy490
                   clear hy490
                   have H' := yD H
                   clear H
                   obtain ⟨Ao56, co56, eo56⟩ := Kd.S_slice HO_11.out
                   subst eo56
                   try go_wp2_with (first | ((with_reducible refine gate_dst (N := 82) rfl ?_); refine Kd.R_lit (Kd.int .i64) _ 2 ?hg (N := 82) ?hd (xs := ([x12_1] : List Int)) (inner := [.int .i64 x12_1]) (ok := fun _ => True) (okp := fun _ => True) ?hr ?hp (fun _ hk => hk) trivial (Below.refl _ _) (Nat.le_refl _) (by simp) ?_; (case hd => rfl); (case hg => rfl); (case hr => first | (go_simp; done) | (go_simp; rfl)); (case hp => exact (Reps.one (show Kd.M (Kd.int .i64) _ _ _ x12_1 [.int .i64 x12_1] from rfl) (Reps.none _ _))); intro v476 w57 ho58 hb hg_ hnew_; clear hg_ hnew_; (first | rw [← Ny475.out] at ho58 | (simp only [Int.reduceToNat] at ho58; rw [← Ny475.out] at ho58)); replace HO_9 := yD (Kd.S_elder' (kS HO_9) (yH ho58) hb); replace HO_10 := yD (Kd.V_elder' (kU HO_10) (yH ho58) hb); replace HO_11 := yD (Kd.S_elder' (kS HO_11) (yH ho58) hb); replace HO_14 := yD (Kd.S_elder' (kS HO_14) (yH ho58) hb); have HO477 := yD (yZ ho58 (below_size (kB HB))); replace HB := yD (zC (kB HB) hb); clear hb ho58; have p478 : 0 ≤ (x15_4 : Int) := zP (by assumption); have q478 : x15_4 < (x11_1.length : Int) := zP (by assumption); obtain ⟨ad478, A478_0, c478_0, A478_1, c478_1, e478, hx478_0, hx478_1, hl478_0, hi478_0, hl478_1, hi478_1⟩ := at_T42 (Kd.S_reads' HO_11.out).2.2 x15_4 p478 q478; cases e478; obtain ⟨ce478, hce478, hMe478, hcc478⟩ := Kd.S_get HO_11.out z42 x15_4 p478 (by first | exact q478 | exact zP (by assumption) | (have e_ := (Kd.S_reads' HO_11.out).1; omega)); obtain ⟨ve478_0, ve478_1, rfl, ge478_0, ge478_1⟩ := k42_openM hMe478; have hv478_0 := hcc478 0 _ rfl; rw [Nat.add_zero] at hv478_0; replace hv478_0 := Option.some.inj (hv478_0.symm.trans hx478_0); rw [hv478_0] at ge478_0; have HL478_0 := yD (show Kd.R (Kd.int .i64) 2 _ _ _ _ ((rd_T42 x11_1 x15_4).f0) from ge478_0); clear hv478_0 ge478_0; have hv478_1 := hcc478 1 _ rfl; rw [add_field _ _ 1 (by omega)] at hv478_1; replace hv478_1 := Option.some.inj (hv478_1.symm.trans hx478_1); rw [hv478_1] at ge478_1; have HL478_1 := yD (show Kd.R (Kd.int .i64) 2 _ _ _ _ ((rd_T42 x11_1 x15_4).f1) from ge478_1); clear hv478_1 ge478_1; clear hcc478 hce478; have HR478_0 := yD hi478_0; have HC478_0 := yD hl478_0; clear hi478_0 hl478_0; have HR478_1 := yD hi478_1; have HC478_1 := yD hl478_1; clear hi478_1 hl478_1; replace p478 := eq_true p478; replace q478 := eq_true q478) | ((with_reducible refine gate_builtin (b := .append) (xs := #[.tmp 82, .tmp 87]) rfl ?_); at_builtin; refine Kd.R_append_rows (Kd.int .i64) (w0 := w) w.heap.size rfl (.tmp 82) (.tmp 87) 36 2 (.int .i64 0) 8 rfl Try.underlying36 info2 rfl (by decide) (by omega) v476 y475 ((rd_T42 x11_1 x15_4).f0) _ _ _ (fun _ => True) (fun _ => False) rfl rfl ?aO ?aR (fun _ _ h => h) (fun _ h => h.elim) ?aF ?aB ?aS ?aL ?_; (case aR => repeat (first | exact (by repeat (first | (with_reducible exact HR478_0.out) | (with_reducible first | refine yV ?_ _ | refine yW ?_ _ | refine yX ?_) | exact HR478_0.out)) | (with_reducible first | refine yV ?_ _ | refine yW ?_ _ | refine yX ?_))); (case aB => exact (kB HB)); (case aF => exact (fun _ _ => trivial)); (case aO => exact (kA HO477)); (case aS => exact (below_size (kB HB))); (case aL => have := LMc51.out; omega); intro v480 w59 ho hb hg hat; rw [← Ny479.out] at ho; replace HO_9 := yD (Kd.S_after (ok := (fun k_ => oB (.slice (some ad478) x11_1.length co56) k_ ∧ oB u14 k_)) (kS HO_9) hg hat); replace HO_10 := yD (Kd.V_afterv (ok := (fun k_ => oB u9 k_ ∧ oB (.slice (some ad478) x11_1.length co56) k_ ∧ oB u14 k_)) (kU HO_10) hg hat); replace HO_11 := yD (Kd.S_after (ok := (fun k_ => oB u9 k_ ∧ oB u14 k_)) (kS HO_11) hg hat); replace HO_14 := yD (Kd.S_after (ok := (fun k_ => oB u9 k_ ∧ oB (.slice (some ad478) x11_1.length co56) k_)) (kS HO_14) hg hat); replace HL478_0 := yD (Kd.R_after (ok := (fun k_ => oB u9 k_ ∧ oB (.slice (some ad478) x11_1.length co56) k_ ∧ oB u14 k_)) (mR HL478_0 (fun _ hk => ⟨⟨hk.1.1.1, ⟨hk.2, hk.1.1.2⟩⟩, hk.1.2⟩)) hg hat); replace HL478_1 := yD (Kd.R_after (ok := (fun k_ => oB u9 k_ ∧ oB (.slice (some ad478) x11_1.length co56) k_ ∧ oB u14 k_)) (mR HL478_1 (fun _ hk => ⟨⟨hk.1.1.1, ⟨hk.2, hk.1.1.2⟩⟩, hk.1.2⟩)) hg hat); replace HB := yD (hb); have HO481 := yD (ho); clear HO477; clear ho hb hg hat))
                   have n0_ := yD (yU HO_9.out)
                   have n1_ := yD (Kd.V_drew HO_10.out)
                   have n2_ := yD (yU HO_11.out)
                   have n3_ := yD (yU HO_14.out)
                   have n4_ := yD (yC HL478_0.out)
                   have n5_ := yD (yC HL478_1.out)
                   have n6_ := yD (yC HO481.out)
                   have n7_ := yD (yP HB.out)
                   clear HO_9 HO_10 HO_11 HO_14 HL478_0 HL478_1 HO481 HB; have HO_9 := n0_; have HO_10 := n1_; have HO_11 := n2_; have HO_14 := n3_; have HL478_0 := n4_; have HL478_1 := n5_; have HO481 := n6_; have HB := n7_; clear n0_ n1_ n2_ n3_ n4_ n5_ n6_ n7_
                   have p482 : 0 ≤ (x13_1 : Int) := zP (by assumption)
                   have q482 : x13_1 < (t454.length : Int) := zP (by assumption)
                   obtain ⟨ad482, e482, hx482_0⟩ := Kd.at_int (Kd.V_reads' HO_10.out).2.2 x13_1 p482 q482
                   cases e482; replace p482 := eq_true p482; replace q482 := eq_true q482
                   have p486 : 0 ≤ (x15_4 : Int) := zP (by assumption)
                   have q486 : x15_4 < (x11_1.length : Int) := zP (by assumption)
                   obtain ⟨ad486, A486_0, c486_0, A486_1, c486_1, e486, hx486_0, hx486_1, hl486_0, hi486_0, hl486_1, hi486_1⟩ := at_T42 (Kd.S_reads' HO_11.out).2.2 x15_4 p486 q486
                   obtain rfl : ad478 = ad486 := (by injection e486)
                   obtain ⟨ce486, hce486, hMe486, hcc486⟩ := Kd.S_get HO_11.out z42 x15_4 p486 (by first | exact q486 | exact zP (by assumption) | (have e_ := (Kd.S_reads' HO_11.out).1; omega))
                   obtain ⟨ve486_0, ve486_1, rfl, ge486_0, ge486_1⟩ := k42_openM hMe486
                   have hv486_0 := hcc486 0 _ rfl
                   rw [Nat.add_zero] at hv486_0
                   replace hv486_0 := Option.some.inj (hv486_0.symm.trans hx486_0)
                   rw [hv486_0] at ge486_0
                   have HL486_0 := yD (show Kd.R (Kd.int .i64) 2 _ _ _ _ ((rd_T42 x11_1 x15_4).f0) from ge486_0)
                   clear hv486_0 ge486_0
                   have hv486_1 := hcc486 1 _ rfl
                   rw [add_field _ _ 1 (by omega)] at hv486_1
                   replace hv486_1 := Option.some.inj (hv486_1.symm.trans hx486_1)
                   rw [hv486_1] at ge486_1
                   have HL486_1 := yD (show Kd.R (Kd.int .i64) 2 _ _ _ _ ((rd_T42 x11_1 x15_4).f1) from ge486_1)
                   clear hv486_1 ge486_1 hcc486 hce486
                   have HR486_0 := yD hi486_0
                   have HC486_0 := yD hl486_0
                   clear hi486_0 hl486_0
                   have HR486_1 := yD hi486_1
                   have HC486_1 := yD hl486_1
                   clear hi486_1 hl486_1; replace p486 := eq_true p486; replace q486 := eq_true q486
                   refine start_ (n := 12) (S := fun w' => w'.cell? (ad482.add (x13_1).toNat) = some (.int .i64 (rd t454 x13_1)) ∧ w'.cell? (ad478.add ((x15_4).toNat * 2)) = some (.slice A486_0 ((rd_T42 x11_1 x15_4).f0).length c486_0) ∧ w'.cell? ⟨(ad478.add ((x15_4).toNat * 2)).block, (ad478.add ((x15_4).toNat * 2)).off + 1, none⟩ = some (.slice A486_1 ((rd_T42 x11_1 x15_4).f1).length c486_1)) (ds := [10]) (bz 12 0) (by kernel_rfl) rfl rfl ⟨hx482_0, hx486_0, hx486_1⟩ (fun hHeld => ?_); refine with_tabW spec_l07Combine.tab20 spec_l07Combine.bits20 (fun HT_ HW_ => ?_)
                   generalize w59.drew = w60 at HO_9 HO_10 HO_11 HO_14 HL478_0 HL478_1 HO481 HB HL486_0 HL486_1 HR486_0 HR486_1 hx482_0 hx486_0 hx486_1 hHeld ⊢
                   refine qA 0 89 (bz 12 1) HT_ ?_
                   refine qA 1 90 (bz 12 3) HT_ ?_
                   refine qA 2 91 (bz 12 7) HT_ ?_
                   refine qA 5 94 (bz 12 39) HT_ ?_
                   refine qA 6 95 (bz 12 103) HT_ ?_
                   refine qA 7 96 (bz 12 231) HT_ ?_
                   refine qA 8 97 (bz 12 487) HT_ ?_
                   refine qC 3 92 (bz 12 495) HT_ HW_ hHeld ?_ (hy := by rintro w' ⟨s0, s1, s2⟩; go_simp; with_reducible rfl)
                   refine qC 9 98 (bz 12 1007) HT_ HW_ hHeld ?_ (hy := by rintro w' ⟨s0, s1, s2⟩; go_simp; with_reducible rfl)
                   refine one_ (i := 4) (N := some 93) (bz 12 1023) rfl rfl (one_of HT_.out (by kernel_rfl)) (by decide) (fun K hK => ?_)
                   refine Kd.R_lit_step (Kd.int .i64) _ 2 ?hg (N := 93) ?hd (xs := ([rd t454 x13_1] : List Int)) (inner := [.int .i64 (rd t454 x13_1)]) (ok := fun _ => True) (okp := fun _ => True) ?hr ?hp (fun _ hk => hk) trivial (Below.refl _ _) (Nat.le_refl _) (by simp) ?_; (case hd => rfl); (case hg => rfl); (case hr => first | (go_simp; done) | (go_simp; rfl)); (case hp => exact (Reps.one (show Kd.M (Kd.int .i64) _ _ _ (rd t454 x13_1) [.int .i64 (rd t454 x13_1)] from rfl) (Reps.none _ _)))
                   intro v484 w61 ho62 hb hg_ hnew_
                   have HS0_ := (hb.cell (zQ _ _ (hHeld.1))).trans (hHeld.1)
                   have HS1_ := (hb.cell (zQ _ _ (hHeld.2.1))).trans (hHeld.2.1)
                   have HS2_ := (hb.cell (zQ _ _ (hHeld.2.2))).trans (hHeld.2.2)
                   clear hg_ hnew_
                   (first | rw [← Ny483.out] at ho62 | (simp only [Int.reduceToNat] at ho62; rw [← Ny483.out] at ho62))
                   have n0_ := yD (Kd.S_elder' (kS HO_9) (yH ho62) hb)
                   have n1_ := yD (Kd.V_elder' (kU HO_10) (yH ho62) hb)
                   have n2_ := yD (Kd.S_elder' (kS HO_11) (yH ho62) hb)
                   have n3_ := yD (Kd.S_elder' (kS HO_14) (yH ho62) hb)
                   have n4_ := yD (Kd.R_elder' (kA HL478_0) (yH ho62) hb)
                   have n5_ := yD (Kd.R_elder' (kA HL478_1) (yH ho62) hb)
                   have n6_ := yD (Kd.R_elder' (kA HO481) (yH ho62) hb)
                   have n7_ := yD (Kd.R_elder' (kA HL486_0) (yH ho62) hb)
                   have n8_ := yD (Kd.R_elder' (kA HL486_1) (yH ho62) hb)
                   have n9_ := yD (yZ (yJ (yJ (yJ (yJ (yJ ho62 (yK (kA HL478_0))) (yK (kA HL478_1))) (yK (kA HO481))) (yK (kA HL486_0))) (yK (kA HL486_1))) (below_size (kB HB)))
                   have n10_ := yD (yY (by repeat (first | (with_reducible exact HR486_0.out) | (with_reducible first | refine yV ?_ _ | refine yW ?_ _ | refine yX ?_) | exact HR486_0.out)) hb)
                   have n11_ := yD (yY (by repeat (first | (with_reducible exact HR486_1.out) | (with_reducible first | refine yV ?_ _ | refine yW ?_ _ | refine yX ?_) | exact HR486_1.out)) hb)
                   have n12_ := yD (zC (kB HB) hb)
                   clear HO_9 HO_10 HO_11 HO_14 HL478_0 HL478_1 HO481 HL486_0 HL486_1 HR486_0 HR486_1 HB; have HO_9 := n0_; have HO_10 := n1_; have HO_11 := n2_; have HO_14 := n3_; have HL478_0 := n4_; have HL478_1 := n5_; have HO481 := n6_; have HL486_0 := n7_; have HL486_1 := n8_; have HO485 := n9_; have HR486_0 := n10_; have HR486_1 := n11_; have HB := n12_; clear n0_ n1_ n2_ n3_ n4_ n5_ n6_ n7_ n8_ n9_ n10_ n11_ n12_ hb ho62
                   refine hK.out _ _ ⟨HS0_, HS1_, HS2_⟩ (fun hHeld => ?_)
                   clear hK K
                   refine norm_ (a' := ?_) ?_ ?_
                   rotate_left
                   · show Act.put _ (some 93) _ = _
                     simp only [Act.put, zH, zI, zJ, i64_w, i32_w]
                     rfl
                   refine last_ (i := 10) (N := some 99) #[true, true, true, true, true, true, true, true, true, true, true, false] rfl rfl (one_of HT_.out (by kernel_rfl)) (by decide) (fun K hK => ?_)
                   refine Kd.R_append_rows_step (Kd.int .i64) (w0 := w) w.heap.size (by rfl) (.tmp 93) (.tmp 98) 36 2 (.int .i64 0) 8 rfl Try.underlying36 info2 rfl (by decide) (by omega) v484 y483 ((rd_T42 x11_1 x15_4).f1) _ _ _ (fun k_ => some k_ ≠ (.slice A478_0 ((rd_T42 x11_1 x15_4).f0).length c478_0 : Value).ownBlock ∧ some k_ ≠ (.slice A478_1 ((rd_T42 x11_1 x15_4).f1).length c478_1 : Value).ownBlock ∧ oB v480 k_ ∧ some k_ ≠ (.slice A486_0 ((rd_T42 x11_1 x15_4).f0).length c486_0 : Value).ownBlock ∧ some k_ ≠ (.slice A486_1 ((rd_T42 x11_1 x15_4).f1).length c486_1 : Value).ownBlock) (fun _ => False) rfl rfl ?aO ?aR (fun _ _ h => h) (fun _ h => h.elim) ?aF ?aB ?aS ?aL ?_
                   (case aR => repeat (first | exact (by repeat (first | (with_reducible exact HR486_1.out) | (with_reducible first | refine yV ?_ _ | refine yW ?_ _ | refine yX ?_) | exact HR486_1.out)) | (with_reducible first | refine yV ?_ _ | refine yW ?_ _ | refine yX ?_)))
                   (case aB => exact (kB HB))
                   (case aF => exact (fun k_ hk => ⟨Kd.fresh' (yK (kA HL478_0)) k_ hk, Kd.fresh' (yK (kA HL478_1)) k_ hk, Kd.fresh' (yK (kA HO481)) k_ hk, Kd.fresh' (yK (kA HL486_0)) k_ hk, Kd.fresh' (yK (kA HL486_1)) k_ hk⟩))
                   (case aO => exact (mR HO485 (fun _ hk => ⟨hk.1.1.1.1.2, ⟨hk.1.1.1.2, ⟨hk.1.1.2, ⟨hk.1.2, hk.2⟩⟩⟩⟩)))
                   (case aS => exact (below_size (kB HB)))
                   (case aL => have := LMc54.out; omega)
                   intro v488 w63 ho hb hg hat
                   rw [← Ny487.out] at ho
                   have n0_ := yD (Kd.S_after (ok := (fun k_ => oB (.slice (some ad478) x11_1.length co56) k_ ∧ oB u14 k_ ∧ oB v480 k_)) (mS HO_9 (fun _ hk => ⟨⟨hk.1.1.1, ⟨hk.1.1.2, hk.1.2⟩⟩, hk.2⟩)) hg hat)
                   have n1_ := yD (Kd.V_afterv (ok := (fun k_ => oB u9 k_ ∧ oB (.slice (some ad478) x11_1.length co56) k_ ∧ oB u14 k_ ∧ oB v480 k_)) (mV HO_10 (fun _ hk => ⟨⟨hk.1.1.1, ⟨hk.1.1.2.1, ⟨hk.1.1.2.2, hk.1.2⟩⟩⟩, hk.2⟩)) hg hat)
                   have n2_ := yD (Kd.S_after (ok := (fun k_ => oB u9 k_ ∧ oB u14 k_ ∧ oB v480 k_)) (mS HO_11 (fun _ hk => ⟨⟨hk.1.1.1, ⟨hk.1.1.2, hk.1.2⟩⟩, hk.2⟩)) hg hat)
                   have n3_ := yD (Kd.S_after (ok := (fun k_ => oB u9 k_ ∧ oB (.slice (some ad478) x11_1.length co56) k_ ∧ oB v480 k_)) (mS HO_14 (fun _ hk => ⟨⟨hk.1.1.1, ⟨hk.1.1.2, hk.1.2⟩⟩, hk.2⟩)) hg hat)
                   have n4_ := yD (Kd.R_after (ok := (fun k_ => oB u9 k_ ∧ oB (.slice (some ad478) x11_1.length co56) k_ ∧ oB u14 k_ ∧ oB v480 k_)) (mR HL478_0 (fun _ hk => ⟨⟨hk.1.1.1, ⟨hk.1.1.2.1, ⟨hk.1.1.2.2, hk.1.2⟩⟩⟩, hk.2⟩)) hg hat)
                   have n5_ := yD (Kd.R_after (ok := (fun k_ => oB u9 k_ ∧ oB (.slice (some ad478) x11_1.length co56) k_ ∧ oB u14 k_ ∧ oB v480 k_)) (mR HL478_1 (fun _ hk => ⟨⟨hk.1.1.1, ⟨hk.1.1.2.1, ⟨hk.1.1.2.2, hk.1.2⟩⟩⟩, hk.2⟩)) hg hat)
                   have n6_ := yD (Kd.R_after (ok := (fun _ => True)) (kA HO481) hg hat)
                   have n7_ := yD (Kd.R_after (ok := (fun k_ => oB u9 k_ ∧ oB (.slice (some ad478) x11_1.length co56) k_ ∧ oB u14 k_ ∧ oB v480 k_)) (mR HL486_0 (fun _ hk => ⟨⟨hk.1.1.1.1, ⟨hk.1.2, ⟨hk.1.1.1.2, hk.1.1.2⟩⟩⟩, hk.2⟩)) hg hat)
                   have n8_ := yD (Kd.R_after (ok := (fun k_ => oB u9 k_ ∧ oB (.slice (some ad478) x11_1.length co56) k_ ∧ oB u14 k_ ∧ oB v480 k_)) (mR HL486_1 (fun _ hk => ⟨⟨hk.1.1.1.1, ⟨hk.1.2, ⟨hk.1.1.1.2, hk.1.1.2⟩⟩⟩, hk.2⟩)) hg hat)
                   have n9_ := yD (hb)
                   have n10_ := yD (ho)
                   clear HO_9 HO_10 HO_11 HO_14 HL478_0 HL478_1 HO481 HL486_0 HL486_1 HB HO485; have HO_9 := n0_; have HO_10 := n1_; have HO_11 := n2_; have HO_14 := n3_; have HL478_0 := n4_; have HL478_1 := n5_; have HO481 := n6_; have HL486_0 := n7_; have HL486_1 := n8_; have HB := n9_; have HO489 := n10_; clear n0_ n1_ n2_ n3_ n4_ n5_ n6_ n7_ n8_ n9_ n10_ ho hb hg hat
                   refine hK.out _ _ ?_
                   clear hK K
                   refine norm_ (a' := ?_) ?_ ?_
                   rotate_left
                   · show Act.put _ (some 99) _ = _
                     simp only [Act.put, zH, zI, zJ, i64_w, i32_w]
                     rfl
                   refine qA 11 17 (bz 12 4095) HT_ ?_
                   refine done_ (done_of HT_.out (by kernel_rfl)) ?_
                   obtain ⟨Ao64, co64, eo64⟩ := Kd.R_slice HO489.out
                   subst eo64
                   obtain ⟨Ao65, co65, eo65⟩ := Kd.R_slice HO481.out
                   subst eo65
                   try go_wp2_with (first | ((with_reducible refine gate_builtin (b := .append) (xs := #[.tmp 100, .tmp 104]) rfl ?_); at_builtin; refine Kd.S_append k42 (w0 := w) w.heap.size rfl (.tmp 100) (.tmp 104) 24 42 (.agg #[(.slice none 0 0), (.slice none 0 0)]) 48 rfl Try.underlying24 info42 rfl (by decide) (by omega) u9 x9_4 (⟨y479, y487⟩ : S42) [.slice Ao65 y479.length co65, .slice Ao64 y487.length co64] (fun k_ => oB (.slice (some ad478) x11_1.length co56) k_ ∧ oB u14 k_) (fun k_ => some k_ = (.slice Ao65 y479.length co65 : Value).ownBlock ∨ some k_ = (.slice Ao64 y487.length co64 : Value).ownBlock) rfl rfl ?aP (fun k_ hk_ => hk_.elim (fun h_ => ((zF (ok' := fun k_ => ((fun k_ => oB (.slice (some ad478) x11_1.length co56) k_ ∧ oB u14 k_)) k_ ∧ oB u9 k_) (Kd.R_apart' (Kd.R_apart' (Kd.R_apart' (HO481.out) (Kd.S_typed HO_11.out) (by decide)) (Kd.S_typed HO_14.out) (by decide)) (Kd.S_typed HO_9.out) (by decide)) (fun k_ hk => ⟨⟨hk.1.1.2, hk.1.2⟩, hk.2⟩))).1 k_ h_.symm) (fun h_ => ((zF (ok' := fun k_ => ((fun k_ => oB (.slice (some ad478) x11_1.length co56) k_ ∧ oB u14 k_)) k_ ∧ oB u9 k_) (Kd.R_apart' (Kd.R_apart' (Kd.R_apart' (HO489.out) (Kd.S_typed HO_11.out) (by decide)) (Kd.S_typed HO_14.out) (by decide)) (Kd.S_typed HO_9.out) (by decide)) (fun k_ hk => ⟨⟨hk.1.1.2, hk.1.2⟩, hk.2⟩))).1 k_ h_.symm)) ?aF ?aO ?aB ?aS ?aL ?_; (case aP => exact k42_mkM _ _ _ (⟨y479, y487⟩ : S42) (zF (Kd.R_tight rfl (zF (ok' := fun k_ => ((fun k_ => oB (.slice (some ad478) x11_1.length co56) k_ ∧ oB u14 k_)) k_ ∧ oB u9 k_) (Kd.R_apart' (Kd.R_apart' (Kd.R_apart' (HO481.out) (Kd.S_typed HO_11.out) (by decide)) (Kd.S_typed HO_14.out) (by decide)) (Kd.S_typed HO_9.out) (by decide)) (fun k_ hk => ⟨⟨hk.1.1.2, hk.1.2⟩, hk.2⟩))) (fun _ h_ => Or.inl h_)) (zF (Kd.R_tight rfl (zF (ok' := fun k_ => ((fun k_ => oB (.slice (some ad478) x11_1.length co56) k_ ∧ oB u14 k_)) k_ ∧ oB u9 k_) (Kd.R_apart' (Kd.R_apart' (Kd.R_apart' (HO489.out) (Kd.S_typed HO_11.out) (by decide)) (Kd.S_typed HO_14.out) (by decide)) (Kd.S_typed HO_9.out) (by decide)) (fun k_ hk => ⟨⟨hk.1.1.2, hk.1.2⟩, hk.2⟩))) (fun _ h_ => Or.inr (h_)))); (case aB => exact (kB HB)); (case aF => exact (fun k_ hk => ⟨Kd.fresh' (Kd.S_lt (kS HO_11)) k_ hk, Kd.fresh' (Kd.S_lt (kS HO_14)) k_ hk⟩)); (case aO => exact (mS HO_9 (fun k_ hk => ⟨⟨hk.1.1, hk.1.2.1⟩, fun e_ => e_.elim (fun h_ => hk.1.2.2 h_) (fun h_ => hk.2 h_)⟩))); (case aS => exact (below_size (kB HB))); (case aL => have := LMc55.out; omega); intro v491 w66 ho hb hg hat; rw [← Ny490.out] at ho; replace HO_10 := yD (Kd.V_afterv (ok := (fun k_ => oB (.slice (some ad478) x11_1.length co56) k_ ∧ oB u14 k_ ∧ oB (.slice Ao65 y479.length co65) k_ ∧ oB (.slice Ao64 y487.length co64) k_)) (mV HO_10 (fun _ hk => ⟨⟨hk.1.2.1, ⟨hk.1.2.2.1, ⟨hk.1.2.2.2, hk.2⟩⟩⟩, hk.1.1⟩)) hg hat); replace HO_11 := yD (Kd.S_after (ok := (fun k_ => oB u14 k_ ∧ oB (.slice Ao65 y479.length co65) k_ ∧ oB (.slice Ao64 y487.length co64) k_)) (mS HO_11 (fun _ hk => ⟨⟨hk.1.2.1, ⟨hk.1.2.2, hk.2⟩⟩, hk.1.1⟩)) hg hat); replace HO_14 := yD (Kd.S_after (ok := (fun k_ => oB (.slice (some ad478) x11_1.length co56) k_ ∧ oB (.slice Ao65 y479.length co65) k_ ∧ oB (.slice Ao64 y487.length co64) k_)) (mS HO_14 (fun _ hk => ⟨⟨hk.1.2.1, ⟨hk.1.2.2, hk.2⟩⟩, hk.1.1⟩)) hg hat); replace HL478_0 := yD (Kd.R_after (ok := (fun k_ => oB (.slice (some ad478) x11_1.length co56) k_ ∧ oB u14 k_ ∧ oB (.slice Ao65 y479.length co65) k_ ∧ oB (.slice Ao64 y487.length co64) k_)) (mR HL478_0 (fun _ hk => ⟨⟨hk.1.2.1, ⟨hk.1.2.2.1, ⟨hk.1.2.2.2, hk.2⟩⟩⟩, hk.1.1⟩)) hg hat); replace HL478_1 := yD (Kd.R_after (ok := (fun k_ => oB (.slice (some ad478) x11_1.length co56) k_ ∧ oB u14 k_ ∧ oB (.slice Ao65 y479.length co65) k_ ∧ oB (.slice Ao64 y487.length co64) k_)) (mR HL478_1 (fun _ hk => ⟨⟨hk.1.2.1, ⟨hk.1.2.2.1, ⟨hk.1.2.2.2, hk.2⟩⟩⟩, hk.1.1⟩)) hg hat); replace HL486_0 := yD (Kd.R_after (ok := (fun k_ => oB (.slice (some ad478) x11_1.length co56) k_ ∧ oB u14 k_ ∧ oB (.slice Ao65 y479.length co65) k_ ∧ oB (.slice Ao64 y487.length co64) k_)) (mR HL486_0 (fun _ hk => ⟨⟨hk.1.2.1, ⟨hk.1.2.2.1, ⟨hk.1.2.2.2, hk.2⟩⟩⟩, hk.1.1⟩)) hg hat); replace HL486_1 := yD (Kd.R_after (ok := (fun k_ => oB (.slice (some ad478) x11_1.length co56) k_ ∧ oB u14 k_ ∧ oB (.slice Ao65 y479.length co65) k_ ∧ oB (.slice Ao64 y487.length co64) k_)) (mR HL486_1 (fun _ hk => ⟨⟨hk.1.2.1, ⟨hk.1.2.2.1, ⟨hk.1.2.2.2, hk.2⟩⟩⟩, hk.1.1⟩)) hg hat); replace HB := yD (hb); have HO492 := yD (ho); clear HO_9 HO481 HO489; clear ho hb hg hat))
                   go_roundg k4
                   case measure => have := HK1.out; have := HJ26.out; have := HJ41.out; have := HK4.out; omega
                   case rel => exact ⟨(y490), (wrap64 (x15_4 + 1)), (by first | rfl | (simp; done) | (simp [*]; done)), H', ⟨by have := HK1.out; have := HJ26.out; have := HJ41.out; have := HK4.out; omega⟩, ⟨kS HO492⟩, ⟨mV HO_10 (fun _ hk => ⟨hk.2, ⟨hk.1.1, hk.1.2.1⟩⟩)⟩, ⟨mS HO_11 (fun _ hk => ⟨hk.2, hk.1.1⟩)⟩, ⟨mS HO_14 (fun _ hk => ⟨hk.2, hk.1.1⟩)⟩, ⟨kR0 HB⟩⟩
                  · rw [if_neg c55] at H
                    exact absurd H (by simp)
                 · rw [if_neg c54] at H
                   exact absurd H (by simp)
                · rw [if_neg c53] at H
                  exact absurd H (by simp)
               · rw [if_neg c52] at H
                 exact absurd H (by simp)
              · rw [if_neg c51] at H
                exact absurd H (by simp)
             · rw [if_neg c50] at H
               exact absurd H (by simp)
            ·
             rw [if_neg c49] at H
             have c49b0 : decide (x15_4 < (x11_1.length : Int)) = false := zS c49; clear c49
             by_cases c67 : 0 ≤ x13_1
             ·
              rw [if_pos c67] at H
              have c67b0 : decide (0 ≤ x13_1) = true := zR c67; clear c67
              by_cases c68 : x13_1 < (t454.length : Int)
              · rw [if_pos c68] at H
                have c68b0 : decide (x13_1 < (t454.length : Int)) = true := zR c68; clear c68
                have H' := yD H
                clear H
                obtain ⟨Ao69, co69, eo69⟩ := Kd.S_slice HO_11.out
                subst eo69
                have p493 : 0 ≤ (x13_1 : Int) := zP (by assumption)
                have q493 : x13_1 < (t454.length : Int) := zP (by assumption)
                obtain ⟨ad493, e493, hx493_0⟩ := Kd.at_int (Kd.V_reads' HO_10.out).2.2 x13_1 p493 q493
                cases e493; replace p493 := eq_true p493; replace q493 := eq_true q493
                go_wp2
                go_roundg k4
                case measure => have := HK1.out; have := HJ26.out; have := HJ41.out; have := HK4.out; omega
                case rel => exact ⟨(x9_4), (x14_26), (rd t454 x13_1), (wrap64 (x13_1 + 1)), (by first | rfl | (simp; done) | (simp [*]; done)), (by first | rfl | (simp; done) | (simp [*]; done)), H', ⟨by have := HK1.out; have := HJ26.out; have := HJ41.out; have := HK4.out; omega⟩, ⟨mS HO_9 (fun _ hk => hk.2)⟩, ⟨mV HO_10 (fun _ hk => ⟨hk.1, hk.2.2⟩)⟩, ⟨mS HO_14 (fun _ hk => hk.1)⟩, ⟨kR0 HB⟩⟩
              · rw [if_neg c68] at H
                exact absurd H (by simp)
             · rw [if_neg c67] at H
               exact absurd H (by simp)
    · rw [if_neg c26] at H
      have c26b0 : decide (x13_1 < (t454.length : Int)) = false := zS c26; clear c26; obtain rfl := Option.some.inj H
      obtain ⟨Ao70, co70, eo70⟩ := Kd.V_slice HO_10.out
      subst eo70
      go_wp2
      go_ret
      exact ⟨_, by first | rfl | (simp <;> rfl) | (simp [*] <;> rfl), mS HO_9 (fun _ hk => trivial), kR0 HB⟩
/-! ### spec_l07Do: function 54 -/
def spec_l07Do.j0 : Nat → Int → List (S42) → List (S42) → Bool → Option ((List (S42)) × Int)
 | 0, _, _, _, _ => none
 | k + 1, x0, x1, x2, x39 => if x39 = true then (some (([] : List (S42)), 1)) else ((spec_l07Rank.f x1 x2).bind fun t498 => ((spec_l07Combine.f k x0 x1 x2 t498).bind fun t499 => (if (t499.length : Int) > 32 then (some (([] : List (S42)), 5)) else (some (t499, 0)))))
def spec_l07Do.f (k : Nat) (a0 : Int) (l1 : List (S42)) (l2 : List (S42)) : Option ((List (S42)) × Int) := (spec_l07List.f k l1).bind fun t494 => (if t494 = true then ((spec_l07List.f k l2).bind fun t495 => (if t495 = true then (if (l1.length : Int) > 0 then (if (l2.length : Int) > 0 then (if 0 < (l1.length : Int) then (if 0 < (l2.length : Int) then (spec_l07Do.j0 k a0 l1 l2 ((((rd_T42 l1 0).f0).length : Int) != (((rd_T42 l2 0).f0).length : Int))) else (none)) else (none)) else (spec_l07Do.j0 k a0 l1 l2 false)) else (spec_l07Do.j0 k a0 l1 l2 false)) else (spec_l07Do.j0 k a0 l1 l2 true))) else (spec_l07Do.j0 k a0 l1 l2 true))
theorem spec_l07Do.mono_l : ∀ k, (∀ y0 y1 y2 y3, LeO (spec_l07Do.j0 k y0 y1 y2 y3) (spec_l07Do.j0 (k + 1) y0 y1 y2 y3))
 | 0 => fun _ _ _ _ r h => by simp [spec_l07Do.j0] at h
 | k + 1 => by
  have ih0 := spec_l07Do.mono_l k
  · intro y0 y1 y2 y3
    unfold spec_l07Do.j0
    repeat' (with_reducible first | exact ih0 _ _ _ _ | exact spec_l07Combine.mono _ _ _ _ _ | exact spec_l07List.mono _ _ | exact LeO.refl _ | exact LeO.none _ | refine LeO.ite ?_ ?_ | refine LeO.bind ?_ (fun _ => ?_))
theorem spec_l07Do.mono : ∀ a0 a1 a2 k, LeO (spec_l07Do.f k a0 a1 a2) (spec_l07Do.f (k + 1) a0 a1 a2) := by
 intro a0 a1 a2 k
 have ih0 := spec_l07Do.mono_l k
 unfold spec_l07Do.f
 repeat' (with_reducible first | exact ih0 _ _ _ _ | exact spec_l07Combine.mono _ _ _ _ _ | exact spec_l07List.mono _ _ | exact LeO.refl _ | exact LeO.none _ | refine LeO.ite ?_ ?_ | refine LeO.bind ?_ (fun _ => ?_))
def spec_l07Do.T1 : Bool × List (List Nat × List Nat) := (true, [([], []), ([0], [0]), ([1], [1]), ([2, 1], [2]), ([3], [3]), ([4, 3, 3], [3, 4]), ([5, 3], [3, 5]), ([3, 6], [3, 6]), ([7, 5], [7]), ([8], [8]), ([9, 8], [8, 9]), ([10, 8], [8, 10]), ([11, 8, 8], [8, 11]), ([12], [12]), ([13, 12], [12, 13]), ([14, 12], [12, 14]), ([12, 15, 8], [8, 12, 15]), ([16, 12, 8], [8, 16]), ([17], [17]), ([18, 17], [17, 18]), ([19, 17], [17, 19]), ([20, 17], [17, 20]), ([21, 17], [17, 21]), ([17], [17]), ([23, 17], [17, 23]), ([24, 17], [17, 24]), ([25, 17], [17, 25]), ([26, 17], [17, 26]), ([22, 27, 17], [17, 22, 27]), ([17, 28, 8], [8, 17, 28]), ([8, 29], [8, 29])])
def spec_l07Do.B1 : List Nat := [0, 1, 3, 7, 15, 31, 63, 127, 255, 511, 1023, 2047, 4095, 8191, 16383, 32767, 65535, 131071, 262143, 524287, 1048575, 2097151, 4194303, 262143, 8650751, 25427967, 58982399, 126091263, 268435455, 536870911, 1073741823]
theorem spec_l07Do.tab1 : rtab .any (opsOf Try.f54 1) = spec_l07Do.T1 := by kernel_rfl
theorem spec_l07Do.bits1 : waitsOk spec_l07Do.T1.2 spec_l07Do.B1 = true := by kernel_rfl
set_option maxHeartbeats 8000000 in
set_option maxRecDepth 100000 in
theorem spec_l07Do.calls (k : Nat) (a0 : Int) (A1 : Option Addr) (c1 : Nat) (l1 : List (S42)) (A2 : Option Addr) (c2 : Nat) (l2 : List (S42)) (r1 : List (S42)) (r2 : Int) (w : World) (hr1 : Kd.C k42 w A1 l1.length l1) (hc1 : l1.length ≤ c1) (hr2 : Kd.C k42 w A2 l2.length l2) (hc2 : l2.length ≤ c2) (h : spec_l07Do.f k a0 l1 l2 = some (r1, r2)) :
 Calls Try.prog 54 #[.int .i64 a0, .slice A1 l1.length c1, .slice A2 l2.length c2] w fun e w' => ∃ v0_ : Value, e = .returned (.tuple #[v0_, .int .i64 r2]) ∧ Kd.S k42 42 w' w.heap.size (fun _ => True) v0_ r1 ∧ Below w.heap.size w w' := by
 have HR1 := yD hr1
 have HC1 := yD hc1
 clear hr1 hc1
 have HR2 := yD hr2
 have HC2 := yD hc2
 clear hr2 hc2
 have HB := yD (Below.refl w.heap.size w)
 have H : ((spec_l07List.f k l1).bind fun t494 => (if t494 = true then ((spec_l07List.f k l2).bind fun t495 => (if t495 = true then (if (l1.length : Int) > 0 then (if (l2.length : Int) > 0 then (if 0 < (l1.length : Int) then (if 0 < (l2.length : Int) then (spec_l07Do.j0 k a0 l1 l2 ((((rd_T42 l1 0).f0).length : Int) != (((rd_T42 l2 0).f0).length : Int))) else (none)) else (none)) else (spec_l07Do.j0 k a0 l1 l2 false)) else (spec_l07Do.j0 k a0 l1 l2 false)) else (spec_l07Do.j0 k a0 l1 l2 true))) else (spec_l07Do.j0 k a0 l1 l2 true))) = some (r1, r2) := h
 clear h
 have HC4 := yD H
 clear H; go_enter Try.func54, Try.ntmps54
 go_upto_region 1 with (fail)
 go_cut [39] (fun v39 wc => ∃ (kq : Nat) (x39_3 : Bool), v39 = .bool x39_3 ∧ Aside0 (spec_l07Do.j0 kq a0 l1 l2 x39_3 = some (r1, r2)) ∧ Aside0 (kq ≤ k) ∧ Aside0 (Below w.heap.size w wc))
 case first =>
  have H := HC4.out; clear HC4
  obtain ⟨t494, A50, H⟩ := zW_ H
  replace H : (if t494 = true then ((spec_l07List.f k l2).bind fun t495 => (if t495 = true then (if (l1.length : Int) > 0 then (if (l2.length : Int) > 0 then (if 0 < (l1.length : Int) then (if 0 < (l2.length : Int) then (spec_l07Do.j0 k a0 l1 l2 ((((rd_T42 l1 0).f0).length : Int) != (((rd_T42 l2 0).f0).length : Int))) else (none)) else (none)) else (spec_l07Do.j0 k a0 l1 l2 false)) else (spec_l07Do.j0 k a0 l1 l2 false)) else (spec_l07Do.j0 k a0 l1 l2 true))) else (spec_l07Do.j0 k a0 l1 l2 true)) = some (r1, r2) := H
  have A5 := yD A50
  clear A50
  by_cases c6 : t494 = true
  ·
   subst c6
   replace H : ((spec_l07List.f k l2).bind fun t495 => (if t495 = true then (if (l1.length : Int) > 0 then (if (l2.length : Int) > 0 then (if 0 < (l1.length : Int) then (if 0 < (l2.length : Int) then (spec_l07Do.j0 k a0 l1 l2 ((((rd_T42 l1 0).f0).length : Int) != (((rd_T42 l2 0).f0).length : Int))) else (none)) else (none)) else (spec_l07Do.j0 k a0 l1 l2 false)) else (spec_l07Do.j0 k a0 l1 l2 false)) else (spec_l07Do.j0 k a0 l1 l2 true))) = some (r1, r2) := (by rw [if_pos rfl] at H; exact H)
   obtain ⟨t495, A70, H⟩ := zW_ H
   replace H : (if t495 = true then (if (l1.length : Int) > 0 then (if (l2.length : Int) > 0 then (if 0 < (l1.length : Int) then (if 0 < (l2.length : Int) then (spec_l07Do.j0 k a0 l1 l2 ((((rd_T42 l1 0).f0).length : Int) != (((rd_T42 l2 0).f0).length : Int))) else (none)) else (none)) else (spec_l07Do.j0 k a0 l1 l2 false)) else (spec_l07Do.j0 k a0 l1 l2 false)) else (spec_l07Do.j0 k a0 l1 l2 true)) = some (r1, r2) := H
   have A7 := yD A70
   clear A70
   by_cases c8 : t495 = true
   ·
    subst c8
    replace H : (if (l1.length : Int) > 0 then (if (l2.length : Int) > 0 then (if 0 < (l1.length : Int) then (if 0 < (l2.length : Int) then (spec_l07Do.j0 k a0 l1 l2 ((((rd_T42 l1 0).f0).length : Int) != (((rd_T42 l2 0).f0).length : Int))) else (none)) else (none)) else (spec_l07Do.j0 k a0 l1 l2 false)) else (spec_l07Do.j0 k a0 l1 l2 false)) = some (r1, r2) := (by rw [if_pos rfl] at H; exact H)
    by_cases c9 : (l1.length : Int) > 0
    ·
     rw [if_pos c9] at H
     have c9b0 : decide (0 < (l1.length : Int)) = true := zR c9
     have c9b1 : decide (0 < l1.length) = true := zR (by omega)
     clear c9
     (first | rw [c9b0] | (simp only [i64_w, i32_w]; rw [c9b0]) | (simp only [bne] at c9b0; rw [c9b0]) | skip)
     by_cases c10 : (l2.length : Int) > 0
     ·
      rw [if_pos c10] at H
      have c10b0 : decide (0 < (l2.length : Int)) = true := zR c10
      have c10b1 : decide (0 < l2.length) = true := zR (by omega)
      clear c10
      by_cases c11 : 0 < (l1.length : Int)
      ·
       rw [if_pos c11] at H
       have c11b0 : decide (0 < (l1.length : Int)) = true := zR c11
       have c11b1 : decide (0 < l1.length) = true := zR (by omega)
       clear c11
       by_cases c12 : 0 < (l2.length : Int)
       ·
        rw [if_pos c12] at H
        have c12b0 : decide (0 < (l2.length : Int)) = true := zR c12
        have c12b1 : decide (0 < l2.length) = true := zR (by omega)
        clear c12
        have H' := yD H
        clear H
        try go_wp2
        have n0_ := yD (yP HB.out)
        clear HB; have HB := n0_; clear n0_
        have p496 : 0 ≤ (0 : Int) := (by omega)
        have q496 : 0 < (l1.length : Int) := zP (by assumption)
        obtain ⟨ad496, A496_0, c496_0, A496_1, c496_1, e496, hx496_0, hx496_1, hl496_0, hi496_0, hl496_1, hi496_1⟩ := at_T42 HR1.out 0 p496 q496
        have hw496_1 := hx496_1
        (try rw [show ((0 : Int)).toNat = 0 from rfl] at hw496_1)
        (try rw [show 0 * 2 = 0 from rfl] at hw496_1)
        (try rw [Addr.add_zero'] at hw496_1)
        have hw496_0 := hx496_0
        (try rw [show ((0 : Int)).toNat = 0 from rfl] at hw496_0)
        (try rw [show 0 * 2 = 0 from rfl] at hw496_0)
        (try rw [Addr.add_zero'] at hw496_0)
        cases e496
        have qi496 : (0 < l1.length) = True := eq_true (by omega)
        (try rw [show ((0 : Int)).toNat = 0 from rfl] at hx496_0)
        (try rw [show 0 * 2 = 0 from rfl] at hx496_0)
        (try rw [Addr.add_zero'] at hx496_0)
        (try rw [show ((0 : Int)).toNat = 0 from rfl] at hx496_1)
        (try rw [show 0 * 2 = 0 from rfl] at hx496_1)
        (try rw [Addr.add_zero'] at hx496_1)
        replace hx496_0 := (HB.out.cell (zQ w _ hx496_0)).trans hx496_0
        replace hx496_1 := (HB.out.cell (zQ w _ hx496_1)).trans hx496_1
        have HR496_0 := yD hi496_0
        have HC496_0 := yD hl496_0
        clear hi496_0 hl496_0
        have HR496_1 := yD hi496_1
        have HC496_1 := yD hl496_1
        clear hi496_1 hl496_1; replace p496 := eq_true p496; replace q496 := eq_true q496
        have p497 : 0 ≤ (0 : Int) := (by omega)
        have q497 : 0 < (l2.length : Int) := zP (by assumption)
        obtain ⟨ad497, A497_0, c497_0, A497_1, c497_1, e497, hx497_0, hx497_1, hl497_0, hi497_0, hl497_1, hi497_1⟩ := at_T42 HR2.out 0 p497 q497
        have hw497_1 := hx497_1
        (try rw [show ((0 : Int)).toNat = 0 from rfl] at hw497_1)
        (try rw [show 0 * 2 = 0 from rfl] at hw497_1)
        (try rw [Addr.add_zero'] at hw497_1)
        have hw497_0 := hx497_0
        (try rw [show ((0 : Int)).toNat = 0 from rfl] at hw497_0)
        (try rw [show 0 * 2 = 0 from rfl] at hw497_0)
        (try rw [Addr.add_zero'] at hw497_0)
        cases e497
        have qi497 : (0 < l2.length) = True := eq_true (by omega)
        (try rw [show ((0 : Int)).toNat = 0 from rfl] at hx497_0)
        (try rw [show 0 * 2 = 0 from rfl] at hx497_0)
        (try rw [Addr.add_zero'] at hx497_0)
        (try rw [show ((0 : Int)).toNat = 0 from rfl] at hx497_1)
        (try rw [show 0 * 2 = 0 from rfl] at hx497_1)
        (try rw [Addr.add_zero'] at hx497_1)
        replace hx497_0 := (HB.out.cell (zQ w _ hx497_0)).trans hx497_0
        replace hx497_1 := (HB.out.cell (zQ w _ hx497_1)).trans hx497_1
        have HR497_0 := yD hi497_0
        have HC497_0 := yD hl497_0
        clear hi497_0 hl497_0
        have HR497_1 := yD hi497_1
        have HC497_1 := yD hl497_1
        clear hi497_1 hl497_1; replace p497 := eq_true p497; replace q497 := eq_true q497
        refine start_ (n := 31) (S := fun w' => w'.cell? ad496 = some (.slice A496_0 ((rd_T42 l1 0).f0).length c496_0) ∧ w'.cell? ⟨ad496.block, ad496.off + 1, none⟩ = some (.slice A496_1 ((rd_T42 l1 0).f1).length c496_1) ∧ w'.cell? ad497 = some (.slice A497_0 ((rd_T42 l2 0).f0).length c497_0) ∧ w'.cell? ⟨ad497.block, ad497.off + 1, none⟩ = some (.slice A497_1 ((rd_T42 l2 0).f1).length c497_1)) (ds := []) (bz 31 0) (by kernel_rfl) rfl rfl ⟨((HB.out.cell (zQ w _ hw496_0)).trans hw496_0), ((HB.out.cell (zQ w _ hw496_1)).trans hw496_1), ((HB.out.cell (zQ w _ hw497_0)).trans hw497_0), ((HB.out.cell (zQ w _ hw497_1)).trans hw497_1)⟩ (fun hHeld => ?_); refine with_tabW spec_l07Do.tab1 spec_l07Do.bits1 (fun HT_ HW_ => ?_)
        generalize w.drew = w13 at HB HR496_0 HR496_1 HR497_0 HR497_1 hx496_0 hx496_1 hx497_0 hx497_1 hHeld ⊢
        refine qA 0 9 (bz 31 1) HT_ ?_
        refine one_ (i := 1) (N := some 10) (bz 31 3) rfl rfl (one_of HT_.out (by kernel_rfl)) (by decide) (fun K hK => ?_)
        refine goes_ Try.func70 (by kernel_rfl) rfl #[.slice (some ad496) l1.length c1] (by rfl) rfl rfl (by (try simp only [zK, zL, zM]); first | done | rfl | (simp only [zN, zO]; rfl)) ?_
        with_reducible refine (spec_l07List.calls k _ _ l1 true _ ?side1 ?side2 A5.out).mono ?_
        (case side1 => exact kV (yY HR1.out HB.out))
        (case side2 => exact HC1.out)
        rintro e w14 ⟨rfl, hb⟩
        refine ⟨_, rfl, ?_⟩
        have n0_ := yD (zC (kB HB) hb)
        clear HB; have HB := n0_; clear n0_; (try clear hb); (try clear hb2); (try clear hk); (try clear hi)
        refine hK.out _ _ ⟨((HB.out.cell (zQ w _ hw496_0)).trans hw496_0), ((HB.out.cell (zQ w _ hw496_1)).trans hw496_1), ((HB.out.cell (zQ w _ hw497_0)).trans hw497_0), ((HB.out.cell (zQ w _ hw497_1)).trans hw497_1)⟩ (fun hHeld => ?_)
        clear hK K
        refine norm_ (a' := ?_) ?_ ?_
        rotate_left
        · show Act.put _ (some 10) _ = _
          simp only [Act.put, zH, zI, zJ, i64_w, i32_w]
          rfl
        refine qA 2 11 (bz 31 7) HT_ ?_
        refine qA 3 12 (bz 31 15) HT_ ?_
        refine qA 4 13 (bz 31 31) HT_ ?_
        refine one_ (i := 5) (N := some 14) (bz 31 63) rfl rfl (one_of HT_.out (by kernel_rfl)) (by decide) (fun K hK => ?_)
        refine goes_ Try.func70 (by kernel_rfl) rfl #[.slice (some ad497) l2.length c2] (by rfl) rfl rfl (by (try simp only [zK, zL, zM]); first | done | rfl | (simp only [zN, zO]; rfl)) ?_
        with_reducible refine (spec_l07List.calls k _ _ l2 true _ ?side1 ?side2 A7.out).mono ?_
        (case side1 => exact kV (yY HR2.out HB.out))
        (case side2 => exact HC2.out)
        rintro e w15 ⟨rfl, hb⟩
        refine ⟨_, rfl, ?_⟩
        have n0_ := yD (zC (kB HB) hb)
        clear HB; have HB := n0_; clear n0_; (try clear hb); (try clear hb2); (try clear hk); (try clear hi)
        refine hK.out _ _ ⟨((HB.out.cell (zQ w _ hw496_0)).trans hw496_0), ((HB.out.cell (zQ w _ hw496_1)).trans hw496_1), ((HB.out.cell (zQ w _ hw497_0)).trans hw497_0), ((HB.out.cell (zQ w _ hw497_1)).trans hw497_1)⟩ (fun hHeld => ?_)
        clear hK K
        refine norm_ (a' := ?_) ?_ ?_
        rotate_left
        · show Act.put _ (some 14) _ = _
          simp only [Act.put, zH, zI, zJ, i64_w, i32_w]
          rfl
        refine qA 6 15 (bz 31 127) HT_ ?_
        refine qA 7 16 (bz 31 255) HT_ ?_
        refine qA 8 17 (bz 31 511) HT_ ?_
        refine qA 9 18 (bz 31 1023) HT_ ?_
        refine qA 10 19 (bz 31 2047) HT_ ?_
        refine qA 11 20 (bz 31 4095) HT_ ?_
        refine qA 12 21 (bz 31 8191) HT_ ?_
        refine qA 13 22 (bz 31 16383) HT_ ?_
        refine qA 14 23 (bz 31 32767) HT_ ?_
        refine qA 15 24 (bz 31 65535) HT_ ?_
        refine qA 16 25 (bz 31 131071) HT_ ?_
        refine qA 17 26 (bz 31 262143) HT_ ?_
        refine qA 18 27 (bz 31 524287) HT_ ?_
        refine qA 19 28 (bz 31 1048575) HT_ ?_
        refine qA 20 29 (bz 31 2097151) HT_ ?_
        refine qA 23 32 (bz 31 10485759) HT_ ?_
        refine qA 24 33 (bz 31 27262975) HT_ ?_
        refine qA 25 34 (bz 31 60817407) HT_ ?_
        refine qC 21 30 (bz 31 62914559) HT_ HW_ hHeld ?_ (hy := by rintro w' ⟨s0, s1, s2, s3⟩; go_simp; with_reducible rfl)
        refine qA 22 31 (bz 31 67108863) HT_ ?_
        refine qC 26 35 (bz 31 134217727) HT_ HW_ hHeld ?_ (hy := by rintro w' ⟨s0, s1, s2, s3⟩; go_simp; with_reducible rfl)
        refine qA 27 36 (bz 31 268435455) HT_ ?_
        refine qA 28 37 (bz 31 536870911) HT_ ?_
        refine qA 29 38 (bz 31 1073741823) HT_ ?_
        refine qA 30 39 (bz 31 2147483647) HT_ ?_
        refine done_ (done_of HT_.out (by kernel_rfl)) ?_
        try go_wp2
        go_meet
        case rel => exact ⟨_, (((((rd_T42 l1 0).f0).length : Int) != (((rd_T42 l2 0).f0).length : Int))), (by first | rfl | (simp; done) | (simp [*]; done)), H', ⟨by first | omega | exact Nat.le_refl _⟩, ⟨kR0 HB⟩⟩
       · rw [if_neg c12] at H
         exact absurd H (by simp)
      · rw [if_neg c11] at H
        exact absurd H (by simp)
     ·
      rw [if_neg c10] at H
      have c10b0 : decide (0 < (l2.length : Int)) = false := zS c10
      have c10b1 : decide (0 < l2.length) = false := zS (by omega)
      clear c10
      have H' := yD H
      clear H
      try go_wp2
      have n0_ := yD (yP HB.out)
      clear HB; have HB := n0_; clear n0_
      refine start_ (n := 31) (S := fun w' => True) (ds := []) (bz 31 0) (by kernel_rfl) rfl rfl trivial (fun hHeld => ?_); refine with_tabW spec_l07Do.tab1 spec_l07Do.bits1 (fun HT_ HW_ => ?_)
      generalize w.drew = w16 at HB hHeld ⊢
      refine qA 0 9 (bz 31 1) HT_ ?_
      refine one_ (i := 1) (N := some 10) (bz 31 3) rfl rfl (one_of HT_.out (by kernel_rfl)) (by decide) (fun K hK => ?_)
      refine goes_ Try.func70 (by kernel_rfl) rfl #[.slice A1 l1.length c1] (by rfl) rfl rfl (by (try simp only [zK, zL, zM]); first | done | rfl | (simp only [zN, zO]; rfl)) ?_
      with_reducible refine (spec_l07List.calls k _ _ l1 true _ ?side1 ?side2 A5.out).mono ?_
      (case side1 => exact kV (yY HR1.out HB.out))
      (case side2 => exact HC1.out)
      rintro e w17 ⟨rfl, hb⟩
      refine ⟨_, rfl, ?_⟩
      have n0_ := yD (zC (kB HB) hb)
      clear HB; have HB := n0_; clear n0_; (try clear hb); (try clear hb2); (try clear hk); (try clear hi)
      refine hK.out _ _ trivial (fun hHeld => ?_)
      clear hK K
      refine norm_ (a' := ?_) ?_ ?_
      rotate_left
      · show Act.put _ (some 10) _ = _
        simp only [Act.put, zH, zI, zJ, i64_w, i32_w]
        rfl
      refine qA 2 11 (bz 31 7) HT_ ?_
      refine qA 3 12 (bz 31 15) HT_ ?_
      refine qA 4 13 (bz 31 31) HT_ ?_
      refine one_ (i := 5) (N := some 14) (bz 31 63) rfl rfl (one_of HT_.out (by kernel_rfl)) (by decide) (fun K hK => ?_)
      refine goes_ Try.func70 (by kernel_rfl) rfl #[.slice A2 l2.length c2] (by rfl) rfl rfl (by (try simp only [zK, zL, zM]); first | done | rfl | (simp only [zN, zO]; rfl)) ?_
      with_reducible refine (spec_l07List.calls k _ _ l2 true _ ?side1 ?side2 A7.out).mono ?_
      (case side1 => exact kV (yY HR2.out HB.out))
      (case side2 => exact HC2.out)
      rintro e w18 ⟨rfl, hb⟩
      refine ⟨_, rfl, ?_⟩
      have n0_ := yD (zC (kB HB) hb)
      clear HB; have HB := n0_; clear n0_; (try clear hb); (try clear hb2); (try clear hk); (try clear hi)
      refine hK.out _ _ trivial (fun hHeld => ?_)
      clear hK K
      refine norm_ (a' := ?_) ?_ ?_
      rotate_left
      · show Act.put _ (some 14) _ = _
        simp only [Act.put, zH, zI, zJ, i64_w, i32_w]
        rfl
      refine qA 6 15 (bz 31 127) HT_ ?_
      refine qA 7 16 (bz 31 255) HT_ ?_
      refine qA 8 17 (bz 31 511) HT_ ?_
      refine qA 9 18 (bz 31 1023) HT_ ?_
      refine qA 10 19 (bz 31 2047) HT_ ?_
      refine qA 11 20 (bz 31 4095) HT_ ?_
      refine qA 12 21 (bz 31 8191) HT_ ?_
      refine qA 13 22 (bz 31 16383) HT_ ?_
      refine qA 14 23 (bz 31 32767) HT_ ?_
      refine qA 15 24 (bz 31 65535) HT_ ?_
      refine qA 16 25 (bz 31 131071) HT_ ?_
      refine qA 17 26 (bz 31 262143) HT_ ?_
      refine qB 18 27 (bz 31 524287) HT_ ?_
      refine qB 19 28 (bz 31 1048575) HT_ ?_
      refine qB 20 29 (bz 31 2097151) HT_ ?_
      refine qB 21 30 (bz 31 4194303) HT_ ?_
      refine qB 22 31 (bz 31 8388607) HT_ ?_
      refine qB 23 32 (bz 31 16777215) HT_ ?_
      refine qB 24 33 (bz 31 33554431) HT_ ?_
      refine qB 25 34 (bz 31 67108863) HT_ ?_
      refine qB 26 35 (bz 31 134217727) HT_ ?_
      refine qB 27 36 (bz 31 268435455) HT_ ?_
      refine qB 28 37 (bz 31 536870911) HT_ ?_
      refine qA 29 38 (bz 31 1073741823) HT_ ?_
      refine qA 30 39 (bz 31 2147483647) HT_ ?_
      refine done_ (done_of HT_.out (by kernel_rfl)) ?_
      try go_wp2
      go_meet
      case rel => exact ⟨_, (false), (by first | rfl | (simp; done) | (simp [*]; done)), H', ⟨by first | omega | exact Nat.le_refl _⟩, ⟨kR0 HB⟩⟩
    ·
     rw [if_neg c9] at H
     have c9b0 : decide (0 < (l1.length : Int)) = false := zS c9
     have c9b1 : decide (0 < l1.length) = false := zS (by omega)
     clear c9
     (first | rw [c9b0] | (simp only [i64_w, i32_w]; rw [c9b0]) | (simp only [bne] at c9b0; rw [c9b0]) | skip)
     have H' := yD H
     clear H
     try go_wp2
     have n0_ := yD (yP HB.out)
     clear HB; have HB := n0_; clear n0_
     refine start_ (n := 31) (S := fun w' => True) (ds := []) (bz 31 0) (by kernel_rfl) rfl rfl trivial (fun hHeld => ?_); refine with_tabW spec_l07Do.tab1 spec_l07Do.bits1 (fun HT_ HW_ => ?_)
     generalize w.drew = w19 at HB hHeld ⊢
     refine qA 0 9 (bz 31 1) HT_ ?_
     refine one_ (i := 1) (N := some 10) (bz 31 3) rfl rfl (one_of HT_.out (by kernel_rfl)) (by decide) (fun K hK => ?_)
     refine goes_ Try.func70 (by kernel_rfl) rfl #[.slice A1 l1.length c1] (by rfl) rfl rfl (by (try simp only [zK, zL, zM]); first | done | rfl | (simp only [zN, zO]; rfl)) ?_
     with_reducible refine (spec_l07List.calls k _ _ l1 true _ ?side1 ?side2 A5.out).mono ?_
     (case side1 => exact kV (yY HR1.out HB.out))
     (case side2 => exact HC1.out)
     rintro e w20 ⟨rfl, hb⟩
     refine ⟨_, rfl, ?_⟩
     have n0_ := yD (zC (kB HB) hb)
     clear HB; have HB := n0_; clear n0_; (try clear hb); (try clear hb2); (try clear hk); (try clear hi)
     refine hK.out _ _ trivial (fun hHeld => ?_)
     clear hK K
     refine norm_ (a' := ?_) ?_ ?_
     rotate_left
     · show Act.put _ (some 10) _ = _
       simp only [Act.put, zH, zI, zJ, i64_w, i32_w]
       rfl
     refine qA 2 11 (bz 31 7) HT_ ?_
     refine qA 3 12 (bz 31 15) HT_ ?_
     refine qA 4 13 (bz 31 31) HT_ ?_
     refine one_ (i := 5) (N := some 14) (bz 31 63) rfl rfl (one_of HT_.out (by kernel_rfl)) (by decide) (fun K hK => ?_)
     refine goes_ Try.func70 (by kernel_rfl) rfl #[.slice A2 l2.length c2] (by rfl) rfl rfl (by (try simp only [zK, zL, zM]); first | done | rfl | (simp only [zN, zO]; rfl)) ?_
     with_reducible refine (spec_l07List.calls k _ _ l2 true _ ?side1 ?side2 A7.out).mono ?_
     (case side1 => exact kV (yY HR2.out HB.out))
     (case side2 => exact HC2.out)
     rintro e w21 ⟨rfl, hb⟩
     refine ⟨_, rfl, ?_⟩
     have n0_ := yD (zC (kB HB) hb)
     clear HB; have HB := n0_; clear n0_; (try clear hb); (try clear hb2); (try clear hk); (try clear hi)
     refine hK.out _ _ trivial (fun hHeld => ?_)
     clear hK K
     refine norm_ (a' := ?_) ?_ ?_
     rotate_left
     · show Act.put _ (some 14) _ = _
       simp only [Act.put, zH, zI, zJ, i64_w, i32_w]
       rfl
     refine qA 6 15 (bz 31 127) HT_ ?_
     refine qA 7 16 (bz 31 255) HT_ ?_
     refine qA 8 17 (bz 31 511) HT_ ?_
     refine qA 9 18 (bz 31 1023) HT_ ?_
     refine qA 10 19 (bz 31 2047) HT_ ?_
     refine qA 11 20 (bz 31 4095) HT_ ?_
     refine qA 12 21 (bz 31 8191) HT_ ?_
     refine qB 13 22 (bz 31 16383) HT_ ?_
     refine qB 14 23 (bz 31 32767) HT_ ?_
     refine qB 15 24 (bz 31 65535) HT_ ?_
     refine qA 16 25 (bz 31 131071) HT_ ?_
     refine qA 17 26 (bz 31 262143) HT_ ?_
     refine qB 18 27 (bz 31 524287) HT_ ?_
     refine qB 19 28 (bz 31 1048575) HT_ ?_
     refine qB 20 29 (bz 31 2097151) HT_ ?_
     refine qB 21 30 (bz 31 4194303) HT_ ?_
     refine qB 22 31 (bz 31 8388607) HT_ ?_
     refine qB 23 32 (bz 31 16777215) HT_ ?_
     refine qB 24 33 (bz 31 33554431) HT_ ?_
     refine qB 25 34 (bz 31 67108863) HT_ ?_
     refine qB 26 35 (bz 31 134217727) HT_ ?_
     refine qB 27 36 (bz 31 268435455) HT_ ?_
     refine qB 28 37 (bz 31 536870911) HT_ ?_
     refine qA 29 38 (bz 31 1073741823) HT_ ?_
     refine qA 30 39 (bz 31 2147483647) HT_ ?_
     refine done_ (done_of HT_.out (by kernel_rfl)) ?_
     try go_wp2
     go_meet
     case rel => exact ⟨_, (false), (by first | rfl | (simp; done) | (simp [*]; done)), H', ⟨by first | omega | exact Nat.le_refl _⟩, ⟨kR0 HB⟩⟩
   ·
    replace c8 := Bool.eq_false_iff.mpr c8
    subst c8
    replace H : (spec_l07Do.j0 k a0 l1 l2 true) = some (r1, r2) := (by rw [if_neg (show ¬ (false = true) by decide)] at H; exact H)
    have H' := yD H
    clear H
    try go_wp2
    have n0_ := yD (yP HB.out)
    clear HB; have HB := n0_; clear n0_
    refine start_ (n := 31) (S := fun w' => True) (ds := []) (bz 31 0) (by kernel_rfl) rfl rfl trivial (fun hHeld => ?_); refine with_tabW spec_l07Do.tab1 spec_l07Do.bits1 (fun HT_ HW_ => ?_)
    generalize w.drew = w22 at HB hHeld ⊢
    refine qA 0 9 (bz 31 1) HT_ ?_
    refine one_ (i := 1) (N := some 10) (bz 31 3) rfl rfl (one_of HT_.out (by kernel_rfl)) (by decide) (fun K hK => ?_)
    refine goes_ Try.func70 (by kernel_rfl) rfl #[.slice A1 l1.length c1] (by rfl) rfl rfl (by (try simp only [zK, zL, zM]); first | done | rfl | (simp only [zN, zO]; rfl)) ?_
    with_reducible refine (spec_l07List.calls k _ _ l1 true _ ?side1 ?side2 A5.out).mono ?_
    (case side1 => exact kV (yY HR1.out HB.out))
    (case side2 => exact HC1.out)
    rintro e w23 ⟨rfl, hb⟩
    refine ⟨_, rfl, ?_⟩
    have n0_ := yD (zC (kB HB) hb)
    clear HB; have HB := n0_; clear n0_; (try clear hb); (try clear hb2); (try clear hk); (try clear hi)
    refine hK.out _ _ trivial (fun hHeld => ?_)
    clear hK K
    refine norm_ (a' := ?_) ?_ ?_
    rotate_left
    · show Act.put _ (some 10) _ = _
      simp only [Act.put, zH, zI, zJ, i64_w, i32_w]
      rfl
    refine qA 2 11 (bz 31 7) HT_ ?_
    refine qA 3 12 (bz 31 15) HT_ ?_
    refine qA 4 13 (bz 31 31) HT_ ?_
    refine one_ (i := 5) (N := some 14) (bz 31 63) rfl rfl (one_of HT_.out (by kernel_rfl)) (by decide) (fun K hK => ?_)
    refine goes_ Try.func70 (by kernel_rfl) rfl #[.slice A2 l2.length c2] (by rfl) rfl rfl (by (try simp only [zK, zL, zM]); first | done | rfl | (simp only [zN, zO]; rfl)) ?_
    with_reducible refine (spec_l07List.calls k _ _ l2 false _ ?side1 ?side2 A7.out).mono ?_
    (case side1 => exact kV (yY HR2.out HB.out))
    (case side2 => exact HC2.out)
    rintro e w24 ⟨rfl, hb⟩
    refine ⟨_, rfl, ?_⟩
    have n0_ := yD (zC (kB HB) hb)
    clear HB; have HB := n0_; clear n0_; (try clear hb); (try clear hb2); (try clear hk); (try clear hi)
    refine hK.out _ _ trivial (fun hHeld => ?_)
    clear hK K
    refine norm_ (a' := ?_) ?_ ?_
    rotate_left
    · show Act.put _ (some 14) _ = _
      simp only [Act.put, zH, zI, zJ, i64_w, i32_w]
      rfl
    refine qA 6 15 (bz 31 127) HT_ ?_
    refine qA 7 16 (bz 31 255) HT_ ?_
    refine qA 8 17 (bz 31 511) HT_ ?_
    refine qB 9 18 (bz 31 1023) HT_ ?_
    refine qB 10 19 (bz 31 2047) HT_ ?_
    refine qB 11 20 (bz 31 4095) HT_ ?_
    refine qB 12 21 (bz 31 8191) HT_ ?_
    refine qB 13 22 (bz 31 16383) HT_ ?_
    refine qB 14 23 (bz 31 32767) HT_ ?_
    refine qB 15 24 (bz 31 65535) HT_ ?_
    refine qB 16 25 (bz 31 131071) HT_ ?_
    refine qB 17 26 (bz 31 262143) HT_ ?_
    refine qB 18 27 (bz 31 524287) HT_ ?_
    refine qB 19 28 (bz 31 1048575) HT_ ?_
    refine qB 20 29 (bz 31 2097151) HT_ ?_
    refine qB 21 30 (bz 31 4194303) HT_ ?_
    refine qB 22 31 (bz 31 8388607) HT_ ?_
    refine qB 23 32 (bz 31 16777215) HT_ ?_
    refine qB 24 33 (bz 31 33554431) HT_ ?_
    refine qB 25 34 (bz 31 67108863) HT_ ?_
    refine qB 26 35 (bz 31 134217727) HT_ ?_
    refine qB 27 36 (bz 31 268435455) HT_ ?_
    refine qB 28 37 (bz 31 536870911) HT_ ?_
    refine qB 29 38 (bz 31 1073741823) HT_ ?_
    refine qA 30 39 (bz 31 2147483647) HT_ ?_
    refine done_ (done_of HT_.out (by kernel_rfl)) ?_
    try go_wp2
    go_meet
    case rel => exact ⟨_, (true), (by first | rfl | (simp; done) | (simp [*]; done)), H', ⟨by first | omega | exact Nat.le_refl _⟩, ⟨kR0 HB⟩⟩
  ·
   replace c6 := Bool.eq_false_iff.mpr c6
   subst c6
   replace H : (spec_l07Do.j0 k a0 l1 l2 true) = some (r1, r2) := (by rw [if_neg (show ¬ (false = true) by decide)] at H; exact H)
   have H' := yD H
   clear H
   try go_wp2
   have n0_ := yD (yP HB.out)
   clear HB; have HB := n0_; clear n0_
   refine start_ (n := 31) (S := fun w' => True) (ds := []) (bz 31 0) (by kernel_rfl) rfl rfl trivial (fun hHeld => ?_); refine with_tabW spec_l07Do.tab1 spec_l07Do.bits1 (fun HT_ HW_ => ?_)
   generalize w.drew = w25 at HB hHeld ⊢
   refine qA 0 9 (bz 31 1) HT_ ?_
   refine one_ (i := 1) (N := some 10) (bz 31 3) rfl rfl (one_of HT_.out (by kernel_rfl)) (by decide) (fun K hK => ?_)
   refine goes_ Try.func70 (by kernel_rfl) rfl #[.slice A1 l1.length c1] (by rfl) rfl rfl (by (try simp only [zK, zL, zM]); first | done | rfl | (simp only [zN, zO]; rfl)) ?_
   with_reducible refine (spec_l07List.calls k _ _ l1 false _ ?side1 ?side2 A5.out).mono ?_
   (case side1 => exact kV (yY HR1.out HB.out))
   (case side2 => exact HC1.out)
   rintro e w26 ⟨rfl, hb⟩
   refine ⟨_, rfl, ?_⟩
   have n0_ := yD (zC (kB HB) hb)
   clear HB; have HB := n0_; clear n0_; (try clear hb); (try clear hb2); (try clear hk); (try clear hi)
   refine hK.out _ _ trivial (fun hHeld => ?_)
   clear hK K
   refine norm_ (a' := ?_) ?_ ?_
   rotate_left
   · show Act.put _ (some 10) _ = _
     simp only [Act.put, zH, zI, zJ, i64_w, i32_w]
     rfl
   refine qA 2 11 (bz 31 7) HT_ ?_
   refine qA 3 12 (bz 31 15) HT_ ?_
   refine qB 4 13 (bz 31 31) HT_ ?_
   refine qB 5 14 (bz 31 63) HT_ ?_
   refine qB 6 15 (bz 31 127) HT_ ?_
   refine qA 7 16 (bz 31 255) HT_ ?_
   refine qA 8 17 (bz 31 511) HT_ ?_
   refine qB 9 18 (bz 31 1023) HT_ ?_
   refine qB 10 19 (bz 31 2047) HT_ ?_
   refine qB 11 20 (bz 31 4095) HT_ ?_
   refine qB 12 21 (bz 31 8191) HT_ ?_
   refine qB 13 22 (bz 31 16383) HT_ ?_
   refine qB 14 23 (bz 31 32767) HT_ ?_
   refine qB 15 24 (bz 31 65535) HT_ ?_
   refine qB 16 25 (bz 31 131071) HT_ ?_
   refine qB 17 26 (bz 31 262143) HT_ ?_
   refine qB 18 27 (bz 31 524287) HT_ ?_
   refine qB 19 28 (bz 31 1048575) HT_ ?_
   refine qB 20 29 (bz 31 2097151) HT_ ?_
   refine qB 21 30 (bz 31 4194303) HT_ ?_
   refine qB 22 31 (bz 31 8388607) HT_ ?_
   refine qB 23 32 (bz 31 16777215) HT_ ?_
   refine qB 24 33 (bz 31 33554431) HT_ ?_
   refine qB 25 34 (bz 31 67108863) HT_ ?_
   refine qB 26 35 (bz 31 134217727) HT_ ?_
   refine qB 27 36 (bz 31 268435455) HT_ ?_
   refine qB 28 37 (bz 31 536870911) HT_ ?_
   refine qB 29 38 (bz 31 1073741823) HT_ ?_
   refine qA 30 39 (bz 31 2147483647) HT_ ?_
   refine done_ (done_of HT_.out (by kernel_rfl)) ?_
   try go_wp2
   go_meet
   case rel => exact ⟨_, (true), (by first | rfl | (simp; done) | (simp [*]; done)), H', ⟨by first | omega | exact Nat.le_refl _⟩, ⟨kR0 HB⟩⟩
 case rest =>
  clear HC4; try clear c1; try clear c2; try clear c6; try clear c8
  obtain ⟨kq, x39_3, rfl, HA, HJ3, HB⟩ := hcut
  cases kq with
  | zero => exact absurd HA.out (by simp [spec_l07Do.j0])
  | succ kj3 =>
   have H := HA.out; clear HA
   simp only [spec_l07Do.j0] at H
   by_cases c27 : x39_3 = true
   · subst c27
     replace H : (some (([] : List (S42)), 1)) = some (r1, r2) := (by rw [if_pos rfl] at H; exact H)
     simp only [Option.some.injEq, Prod.mk.injEq] at H
     obtain ⟨rfl, rfl⟩ := H
     go_wp2
     go_ret2
     exact ⟨_, by first | rfl | (simp <;> rfl) | (simp [*] <;> rfl), by first | exact Kd.S_nil _ _ _ _ _ | exact Kd.N_nil _ _ _ _ _ | exact Kd.V_nil _ _ _ _ _ | exact Kd.Q_nil _ _ _ _ _ | exact Kd.R_nil _ _ _ _ _, kR0 HB⟩
   ·
    replace c27 := Bool.eq_false_iff.mpr c27
    subst c27
    replace H : ((spec_l07Rank.f l1 l2).bind fun t498 => ((spec_l07Combine.f kj3 a0 l1 l2 t498).bind fun t499 => (if (t499.length : Int) > 32 then (some (([] : List (S42)), 5)) else (some (t499, 0))))) = some (r1, r2) := (by rw [if_neg (show ¬ (false = true) by decide)] at H; exact H)
    obtain ⟨t498, A280, H⟩ := zW_ H
    replace H : ((spec_l07Combine.f kj3 a0 l1 l2 t498).bind fun t499 => (if (t499.length : Int) > 32 then (some (([] : List (S42)), 5)) else (some (t499, 0)))) = some (r1, r2) := H
    have A28 := yD A280
    clear A280
    obtain ⟨t499, A290, H⟩ := zW_ H
    replace H : (if (t499.length : Int) > 32 then (some (([] : List (S42)), 5)) else (some (t499, 0))) = some (r1, r2) := H
    have A29 := yD A290
    clear A290
    by_cases c30 : (t499.length : Int) > 32
    ·
     rw [if_pos c30] at H
     have c30b0 : decide (32 < (t499.length : Int)) = true := zR c30
     have c30b1 : decide (32 < t499.length) = true := zR (by omega)
     clear c30
     simp only [Option.some.injEq, Prod.mk.injEq] at H
     obtain ⟨rfl, rfl⟩ := H
     go_wp2_with (first | ((with_reducible refine gate_callee (f := 98) rfl ?_); refine gL 45 Try.func98 #[.slice A1 l1.length c1, .slice A2 l2.length c2] ?_; (with_reducible refine (spec_l07Rank.calls _ _ l1 _ _ l2 t498 _ ?side1 ?side2 ?side3 ?side4 A28.out).mono ?_); (case side1 => exact kV (yY HR1.out HB.out)); (case side2 => exact HC1.out); (case side3 => exact kV (yY HR2.out HB.out)); (case side4 => exact HC2.out); rintro e w' ⟨rfl, ⟨nd, rfl⟩⟩; refine ⟨_, rfl, ?_⟩) | ((with_reducible refine gate_callee (f := 97) rfl ?_); refine gL 46 Try.func97 #[.int .i64 a0, .slice A1 l1.length c1, .slice A2 l2.length c2, .int .i64 t498] ?_; (with_reducible refine (spec_l07Combine.calls kj3 a0 _ _ l1 _ _ l2 t498 t499 _ ?side1 ?side2 ?side3 ?side4 A29.out).mono ?_); (case side1 => repeat (first | exact (yY HR1.out (kB HB)) | (with_reducible first | refine yV ?_ _ | refine yW ?_ _ | refine yX ?_))); (case side2 => exact HC1.out); (case side3 => repeat (first | exact (yY HR2.out (kB HB)) | (with_reducible first | refine yV ?_ _ | refine yW ?_ _ | refine yX ?_))); (case side4 => exact HC2.out); rintro e w31 ⟨v500, rfl, ho0, hb⟩; refine ⟨_, rfl, ?_⟩; have HO501 := yD (zG ho0 (below_size (kB HB))); replace HB := yD (zC (kB HB) hb); clear hb ho0; obtain ⟨Ao32, co32, eo32⟩ := Kd.S_slice HO501.out; subst eo32))
     go_ret2
     exact ⟨_, by first | rfl | (simp <;> rfl) | (simp [*] <;> rfl), by first | exact Kd.S_nil _ _ _ _ _ | exact Kd.N_nil _ _ _ _ _ | exact Kd.V_nil _ _ _ _ _ | exact Kd.Q_nil _ _ _ _ _ | exact Kd.R_nil _ _ _ _ _, kR0 HB⟩
    ·
     rw [if_neg c30] at H
     have c30b0 : decide (32 < (t499.length : Int)) = false := zS c30
     have c30b1 : decide (32 < t499.length) = false := zS (by omega)
     clear c30
     simp only [Option.some.injEq, Prod.mk.injEq] at H
     obtain ⟨rfl, rfl⟩ := H
     go_wp2_with (first | ((with_reducible refine gate_callee (f := 98) rfl ?_); refine gL 45 Try.func98 #[.slice A1 l1.length c1, .slice A2 l2.length c2] ?_; (with_reducible refine (spec_l07Rank.calls _ _ l1 _ _ l2 t498 _ ?side1 ?side2 ?side3 ?side4 A28.out).mono ?_); (case side1 => exact kV (yY HR1.out HB.out)); (case side2 => exact HC1.out); (case side3 => exact kV (yY HR2.out HB.out)); (case side4 => exact HC2.out); rintro e w' ⟨rfl, ⟨nd, rfl⟩⟩; refine ⟨_, rfl, ?_⟩) | ((with_reducible refine gate_callee (f := 97) rfl ?_); refine gL 46 Try.func97 #[.int .i64 a0, .slice A1 l1.length c1, .slice A2 l2.length c2, .int .i64 t498] ?_; (with_reducible refine (spec_l07Combine.calls kj3 a0 _ _ l1 _ _ l2 t498 t499 _ ?side1 ?side2 ?side3 ?side4 A29.out).mono ?_); (case side1 => repeat (first | exact (yY HR1.out (kB HB)) | (with_reducible first | refine yV ?_ _ | refine yW ?_ _ | refine yX ?_))); (case side2 => exact HC1.out); (case side3 => repeat (first | exact (yY HR2.out (kB HB)) | (with_reducible first | refine yV ?_ _ | refine yW ?_ _ | refine yX ?_))); (case side4 => exact HC2.out); rintro e w33 ⟨v500, rfl, ho0, hb⟩; refine ⟨_, rfl, ?_⟩; have HO501 := yD (zG ho0 (below_size (kB HB))); replace HB := yD (zC (kB HB) hb); clear hb ho0; obtain ⟨Ao34, co34, eo34⟩ := Kd.S_slice HO501.out; subst eo34))
     go_ret2
     exact ⟨_, by first | rfl | (simp <;> rfl) | (simp [*] <;> rfl), kS HO501, kR0 HB⟩
/-! ### spec_UnionBoxes: function 20 -/
def spec_UnionBoxes.f (k : Nat) (l0 : List (S42)) (l1 : List (S42)) : Option ((List (S42)) × Int) := (spec_l07Do.f k 1 l0 l1).bind fun bt502 => (some (bt502.1, bt502.2))
theorem spec_UnionBoxes.mono : ∀ a0 a1 k, LeO (spec_UnionBoxes.f k a0 a1) (spec_UnionBoxes.f (k + 1) a0 a1) := by
 intro a0 a1 k
 unfold spec_UnionBoxes.f
 repeat' (with_reducible first | exact spec_l07Do.mono _ _ _ _ | exact LeO.refl _ | exact LeO.none _ | refine LeO.ite ?_ ?_ | refine LeO.bind ?_ (fun _ => ?_))
set_option maxHeartbeats 8000000 in
set_option maxRecDepth 100000 in
theorem spec_UnionBoxes.calls (k : Nat) (A0 : Option Addr) (c0 : Nat) (l0 : List (S42)) (A1 : Option Addr) (c1 : Nat) (l1 : List (S42)) (r1 : List (S42)) (r2 : Int) (w : World) (hr0 : Kd.C k42 w A0 l0.length l0) (hc0 : l0.length ≤ c0) (hr1 : Kd.C k42 w A1 l1.length l1) (hc1 : l1.length ≤ c1) (h : spec_UnionBoxes.f k l0 l1 = some (r1, r2)) :
 Calls Try.prog 20 #[.slice A0 l0.length c0, .slice A1 l1.length c1] w fun e w' => ∃ v0_ : Value, e = .returned (.tuple #[v0_, .int .i64 r2]) ∧ Kd.S k42 42 w' w.heap.size (fun _ => True) v0_ r1 ∧ Below w.heap.size w w' := by
 have HR0 := yD hr0
 have HC0 := yD hc0
 clear hr0 hc0
 have HR1 := yD hr1
 have HC1 := yD hc1
 clear hr1 hc1
 have HB := yD (Below.refl w.heap.size w)
 have H : ((spec_l07Do.f k 1 l0 l1).bind fun bt502 => (some (bt502.1, bt502.2))) = some (r1, r2) := h
 clear h
 obtain ⟨⟨t502, t503⟩, A30, H⟩ := zW_ H
 replace H : (some (t502, t503)) = some (r1, r2) := H
 have A3 := yD A30
 clear A30
 simp only [Option.some.injEq, Prod.mk.injEq] at H
 obtain ⟨rfl, rfl⟩ := H
 go_enter Try.func20, Try.ntmps20
 go_wp2_with (first | ((with_reducible refine gate_callee (f := 54) rfl ?_); refine gL 8 Try.func54 #[.int .i64 1, .slice A0 l0.length c0, .slice A1 l1.length c1] ?_; (with_reducible refine (spec_l07Do.calls k 1 _ _ l0 _ _ l1 t502 t503 _ ?side1 ?side2 ?side3 ?side4 A3.out).mono ?_); (case side1 => repeat (first | exact HR0.out | (with_reducible first | refine yV ?_ _ | refine yW ?_ _ | refine yX ?_))); (case side2 => exact HC0.out); (case side3 => repeat (first | exact HR1.out | (with_reducible first | refine yV ?_ _ | refine yW ?_ _ | refine yX ?_))); (case side4 => exact HC1.out); rintro e w4 ⟨v504, rfl, ho0, hb⟩; refine ⟨_, rfl, ?_⟩; have HO505 := yD (zG ho0 (below_size (kB HB))); replace HB := yD (zC (kB HB) hb); clear hb ho0))
 go_ret2
 exact ⟨_, by first | rfl | (simp <;> rfl) | (simp [*] <;> rfl), kS HO505, kR0 HB⟩

/-! ### spec_IntersectBoxes: function 22 -/
def spec_IntersectBoxes.f (k : Nat) (l0 : List (S42)) (l1 : List (S42)) : Option ((List (S42)) × Int) := (spec_l07Do.f k 2 l0 l1).bind fun bt506 => (some (bt506.1, bt506.2))
theorem spec_IntersectBoxes.mono : ∀ a0 a1 k, LeO (spec_IntersectBoxes.f k a0 a1) (spec_IntersectBoxes.f (k + 1) a0 a1) := by
 intro a0 a1 k
 unfold spec_IntersectBoxes.f
 repeat' (with_reducible first | exact spec_l07Do.mono _ _ _ _ | exact LeO.refl _ | exact LeO.none _ | refine LeO.ite ?_ ?_ | refine LeO.bind ?_ (fun _ => ?_))
set_option maxHeartbeats 8000000 in
set_option maxRecDepth 100000 in
theorem spec_IntersectBoxes.calls (k : Nat) (A0 : Option Addr) (c0 : Nat) (l0 : List (S42)) (A1 : Option Addr) (c1 : Nat) (l1 : List (S42)) (r1 : List (S42)) (r2 : Int) (w : World) (hr0 : Kd.C k42 w A0 l0.length l0) (hc0 : l0.length ≤ c0) (hr1 : Kd.C k42 w A1 l1.length l1) (hc1 : l1.length ≤ c1) (h : spec_IntersectBoxes.f k l0 l1 = some (r1, r2)) :
 Calls Try.prog 22 #[.slice A0 l0.length c0, .slice A1 l1.length c1] w fun e w' => ∃ v0_ : Value, e = .returned (.tuple #[v0_, .int .i64 r2]) ∧ Kd.S k42 42 w' w.heap.size (fun _ => True) v0_ r1 ∧ Below w.heap.size w w' := by
 have HR0 := yD hr0
 have HC0 := yD hc0
 clear hr0 hc0
 have HR1 := yD hr1
 have HC1 := yD hc1
 clear hr1 hc1
 have HB := yD (Below.refl w.heap.size w)
 have H : ((spec_l07Do.f k 2 l0 l1).bind fun bt506 => (some (bt506.1, bt506.2))) = some (r1, r2) := h
 clear h
 obtain ⟨⟨t506, t507⟩, A30, H⟩ := zW_ H
 replace H : (some (t506, t507)) = some (r1, r2) := H
 have A3 := yD A30
 clear A30
 simp only [Option.some.injEq, Prod.mk.injEq] at H
 obtain ⟨rfl, rfl⟩ := H
 go_enter Try.func22, Try.ntmps22
 go_wp2_with (first | ((with_reducible refine gate_callee (f := 54) rfl ?_); refine gL 8 Try.func54 #[.int .i64 2, .slice A0 l0.length c0, .slice A1 l1.length c1] ?_; (with_reducible refine (spec_l07Do.calls k 2 _ _ l0 _ _ l1 t506 t507 _ ?side1 ?side2 ?side3 ?side4 A3.out).mono ?_); (case side1 => repeat (first | exact HR0.out | (with_reducible first | refine yV ?_ _ | refine yW ?_ _ | refine yX ?_))); (case side2 => exact HC0.out); (case side3 => repeat (first | exact HR1.out | (with_reducible first | refine yV ?_ _ | refine yW ?_ _ | refine yX ?_))); (case side4 => exact HC1.out); rintro e w4 ⟨v508, rfl, ho0, hb⟩; refine ⟨_, rfl, ?_⟩; have HO509 := yD (zG ho0 (below_size (kB HB))); replace HB := yD (zC (kB HB) hb); clear hb ho0))
 go_ret2
 exact ⟨_, by first | rfl | (simp <;> rfl) | (simp [*] <;> rfl), kS HO509, kR0 HB⟩

/-! ### spec_SubtractBoxes: function 24 -/
def spec_SubtractBoxes.f (k : Nat) (l0 : List (S42)) (l1 : List (S42)) : Option ((List (S42)) × Int) := (spec_l07Do.f k 3 l0 l1).bind fun bt510 => (some (bt510.1, bt510.2))
theorem spec_SubtractBoxes.mono : ∀ a0 a1 k, LeO (spec_SubtractBoxes.f k a0 a1) (spec_SubtractBoxes.f (k + 1) a0 a1) := by
 intro a0 a1 k
 unfold spec_SubtractBoxes.f
 repeat' (with_reducible first | exact spec_l07Do.mono _ _ _ _ | exact LeO.refl _ | exact LeO.none _ | refine LeO.ite ?_ ?_ | refine LeO.bind ?_ (fun _ => ?_))
set_option maxHeartbeats 8000000 in
set_option maxRecDepth 100000 in
theorem spec_SubtractBoxes.calls (k : Nat) (A0 : Option Addr) (c0 : Nat) (l0 : List (S42)) (A1 : Option Addr) (c1 : Nat) (l1 : List (S42)) (r1 : List (S42)) (r2 : Int) (w : World) (hr0 : Kd.C k42 w A0 l0.length l0) (hc0 : l0.length ≤ c0) (hr1 : Kd.C k42 w A1 l1.length l1) (hc1 : l1.length ≤ c1) (h : spec_SubtractBoxes.f k l0 l1 = some (r1, r2)) :
 Calls Try.prog 24 #[.slice A0 l0.length c0, .slice A1 l1.length c1] w fun e w' => ∃ v0_ : Value, e = .returned (.tuple #[v0_, .int .i64 r2]) ∧ Kd.S k42 42 w' w.heap.size (fun _ => True) v0_ r1 ∧ Below w.heap.size w w' := by
 have HR0 := yD hr0
 have HC0 := yD hc0
 clear hr0 hc0
 have HR1 := yD hr1
 have HC1 := yD hc1
 clear hr1 hc1
 have HB := yD (Below.refl w.heap.size w)
 have H : ((spec_l07Do.f k 3 l0 l1).bind fun bt510 => (some (bt510.1, bt510.2))) = some (r1, r2) := h
 clear h
 obtain ⟨⟨t510, t511⟩, A30, H⟩ := zW_ H
 replace H : (some (t510, t511)) = some (r1, r2) := H
 have A3 := yD A30
 clear A30
 simp only [Option.some.injEq, Prod.mk.injEq] at H
 obtain ⟨rfl, rfl⟩ := H
 go_enter Try.func24, Try.ntmps24
 go_wp2_with (first | ((with_reducible refine gate_callee (f := 54) rfl ?_); refine gL 8 Try.func54 #[.int .i64 3, .slice A0 l0.length c0, .slice A1 l1.length c1] ?_; (with_reducible refine (spec_l07Do.calls k 3 _ _ l0 _ _ l1 t510 t511 _ ?side1 ?side2 ?side3 ?side4 A3.out).mono ?_); (case side1 => repeat (first | exact HR0.out | (with_reducible first | refine yV ?_ _ | refine yW ?_ _ | refine yX ?_))); (case side2 => exact HC0.out); (case side3 => repeat (first | exact HR1.out | (with_reducible first | refine yV ?_ _ | refine yW ?_ _ | refine yX ?_))); (case side4 => exact HC1.out); rintro e w4 ⟨v512, rfl, ho0, hb⟩; refine ⟨_, rfl, ?_⟩; have HO513 := yD (zG ho0 (below_size (kB HB))); replace HB := yD (zC (kB HB) hb); clear hb ho0))
 go_ret2
 exact ⟨_, by first | rfl | (simp <;> rfl) | (simp [*] <;> rfl), kS HO513, kR0 HB⟩

/-! ### laws_d8Probe: function 27 -/
def laws_d8Probe.l0 : Nat → Int → Int → List Int → Option (List Int)
 | 0, _, _, _ => none
 | k + 1, x0, x1, x5 => if x0 > 0 then (if x5.length < 17592186044416 then (laws_d8Probe.l0 k (wrap64 (x0 - 1)) (wrap64 (Int.tdiv x1 10)) (x5 ++ [Int.tmod x1 10])) else (none)) else (some x5)
def laws_d8Probe.f (k : Nat) (a0 : Int) (a1 : Int) : Option (List Int) := laws_d8Probe.l0 k a0 a1 (([] : List Int))
theorem laws_d8Probe.mono_l : ∀ k, (∀ y0 y1 y2, LeO (laws_d8Probe.l0 k y0 y1 y2) (laws_d8Probe.l0 (k + 1) y0 y1 y2))
 | 0 => fun _ _ _ r h => by simp [laws_d8Probe.l0] at h
 | k + 1 => by
  have ih0 := laws_d8Probe.mono_l k
  · intro y0 y1 y2
    unfold laws_d8Probe.l0
    repeat' (with_reducible first | exact ih0 _ _ _ | exact LeO.refl _ | exact LeO.none _ | refine LeO.ite ?_ ?_ | refine LeO.bind ?_ (fun _ => ?_))
theorem laws_d8Probe.mono : ∀ a0 a1 k, LeO (laws_d8Probe.f k a0 a1) (laws_d8Probe.f (k + 1) a0 a1) := by
 intro a0 a1 k
 have ih0 := laws_d8Probe.mono_l k
 unfold laws_d8Probe.f
 repeat' (with_reducible first | exact ih0 _ _ _ | exact LeO.refl _ | exact LeO.none _ | refine LeO.ite ?_ ?_ | refine LeO.bind ?_ (fun _ => ?_))
set_option maxHeartbeats 8000000 in
set_option maxRecDepth 100000 in
theorem laws_d8Probe.calls (k : Nat) (a0 : Int) (a1 : Int) (r : List Int) (w : World) (h : laws_d8Probe.f k a0 a1 = some r) :
 Calls Try.prog 27 #[.int .i64 a0, .int .i64 a1] w fun e w' => ∃ v0_ : Value, e = .returned (v0_) ∧ Kd.R (Kd.int .i64) 2 w' w.heap.size (fun _ => True) v0_ r ∧ Below w.heap.size w w' := by
 have HB := yD (Below.refl w.heap.size w)
 have H : (laws_d8Probe.l0 k a0 a1 (([] : List Int))) = some r := h
 clear h
 obtain ⟨y514, hy514⟩ : ∃ y_ : List Int, y_ = (([] : List Int)) := ⟨_, rfl⟩
 replace H : (laws_d8Probe.l0 k a0 a1 y514) = some r := by first | (rw [hy514]; with_reducible exact H) | (have H2_ := (Option.bind_some _ _).symm.trans H; rw [hy514]; with_reducible exact H2_) | (have H2_ := (Option.bind_some _ _).symm.trans H; with_reducible exact H2_) | with_reducible exact H | (rw [hy514]; exact H) | exact H
 have Ny514 := yD hy514
 clear hy514
 have H' := yD H
 clear H; go_enter Try.func27, Try.ntmps27
 go_wp2_with (first | ((with_reducible refine gate_dst (N := 6) rfl ?_); refine Kd.R_lit (Kd.int .i64) _ 2 ?hg (N := 6) ?hd (xs := ([] : List Int)) (inner := []) (ok := fun _ => True) (okp := fun _ => True) ?hr ?hp (fun _ hk => hk) trivial (Below.refl _ _) (Nat.le_refl _) (by simp) ?_; (case hd => rfl); (case hg => rfl); (case hr => first | (go_simp; done) | (go_simp; rfl)); (case hp => exact (Reps.none _ _)); intro v515 w3 ho4 hb hg_ hnew_; clear hg_ hnew_; (first | rw [← Ny514.out] at ho4 | (simp only [Int.reduceToNat] at ho4; rw [← Ny514.out] at ho4)); have HO516 := yD (yZ ho4 (below_size (kB HB))); replace HB := yD (zC (kB HB) hb); clear hb ho4))
 (try simp only [Act.put, zH, zI, zJ])
 go_loopg [0, 1, 5] k (fun kq v0 v1 v5 w' => ∃ (x0_1 : Int) (x1_1 : Int) (x5_1 : List Int), v0 = .int .i64 x0_1 ∧ v1 = .int .i64 x1_1 ∧ Aside0 (laws_d8Probe.l0 kq x0_1 x1_1 x5_1 = some r) ∧ Aside0 (kq ≤ k) ∧ Aside0 (Kd.R (Kd.int .i64) 2 w' w.heap.size (fun _ => True) v5 x5_1) ∧ Aside0 (Below w.heap.size w w'))
 case atStart => exact ⟨(a0), (a1), (y514), (by first | rfl | (simp; done) | (simp [*]; done)), (by first | rfl | (simp; done) | (simp [*]; done)), H', ⟨Nat.le_refl _⟩, ⟨kA HO516⟩, ⟨kR0 HB⟩⟩
 case round =>
  clear H'
  try clear c2
  obtain ⟨x0_1, x1_1, x5_1, rfl, rfl, HA, HK1, HO_5, HB⟩ := hrel
  cases gk with
  | zero => exact absurd HA.out (by simp [laws_d8Probe.l0])
  | succ k1 =>
   have H := HA.out; clear HA
   simp only [laws_d8Probe.l0] at H
   by_cases c5 : x0_1 > 0
   ·
    rw [if_pos c5] at H
    have c5b0 : decide (0 < x0_1) = true := zR c5; clear c5
    by_cases c6 : x5_1.length < 17592186044416
    ·
     rw [if_pos c6] at H
     have LMc6 := yD c6
     clear c6
     obtain ⟨y517, hy517⟩ : ∃ y_ : List Int, y_ = (x5_1 ++ [Int.tmod x1_1 10]) := ⟨_, rfl⟩
     replace H : (laws_d8Probe.l0 k1 (wrap64 (x0_1 - 1)) (wrap64 (Int.tdiv x1_1 10)) y517) = some r := by first | (rw [hy517]; with_reducible exact H) | (have H2_ := (Option.bind_some _ _).symm.trans H; rw [hy517]; with_reducible exact H2_) | (have H2_ := (Option.bind_some _ _).symm.trans H; with_reducible exact H2_) | with_reducible exact H | (rw [hy517]; exact H) | exact H
     have Ny517 := yD hy517
     clear hy517
     have H' := yD H
     clear H
     go_wp2_with (first | ((with_reducible refine gate_builtin (b := .append) (xs := #[.tmp 11, .tmp 14]) rfl ?_); at_builtin; refine Kd.R_append (Kd.int .i64) (w0 := w) w.heap.size rfl (.tmp 11) (.tmp 14) 36 2 (.int .i64 0) 8 rfl Try.underlying36 info2 rfl (by decide) (by omega) u5 x5_1 (Int.tmod x1_1 10) [.int .i64 (Int.tmod x1_1 10)] (fun _ => True) (fun _ => False) rfl rfl ?aP (fun _ hk => hk.elim) ?aF ?aO ?aB ?aS ?aL ?_; (case aP => exact rfl); (case aB => exact (kB HB)); (case aF => exact (fun _ _ => trivial)); (case aO => exact (kA HO_5)); (case aS => exact (below_size (kB HB))); (case aL => have := LMc6.out; omega); intro v518 w7 ho hb hg hat; rw [← Ny517.out] at ho; replace HB := yD (hb); have HO519 := yD (ho); clear HO_5; clear ho hb hg hat))
     go_roundg k1
     case measure => have := HK1.out; omega
     case rel => exact ⟨(wrap64 (x0_1 - 1)), (wrap64 (Int.tdiv x1_1 10)), (y517), (by first | rfl | (simp; done) | (simp [*]; done)), (by first | rfl | (simp; done) | (simp [*]; done)), H', ⟨by have := HK1.out; omega⟩, ⟨kA HO519⟩, ⟨kR0 HB⟩⟩
    · rw [if_neg c6] at H
      exact absurd H (by simp)
   · rw [if_neg c5] at H
     have c5b0 : decide (0 < x0_1) = false := zS c5; clear c5; obtain rfl := Option.some.inj H
     go_wp2
     go_ret
     exact ⟨_, by first | rfl | (simp <;> rfl) | (simp [*] <;> rfl), kA HO_5, kR0 HB⟩

/-! ### laws_d8In: function 28 -/
mutual
def laws_d8In.l0 : Nat → List (S42) → List Int → Int → Option (Bool)
 | 0, _, _, _ => none
 | k + 1, x0, x1, x5 => if x5 < (x0.length : Int) then (if 0 ≤ x5 then (if (((rd_T42 x0 x5).f0).length : Int) = (x1.length : Int) then (laws_d8In.j1 k x0 x1 x5 ((((rd_T42 x0 x5).f1).length : Int) == (x1.length : Int))) else (laws_d8In.j1 k x0 x1 x5 false)) else (none)) else (some false)
def laws_d8In.j1 : Nat → List (S42) → List Int → Int → Bool → Option (Bool)
 | 0, _, _, _, _ => none
 | k + 1, x0, x1, x5, x6 => laws_d8In.l1 k x0 x1 x5 x6 0
def laws_d8In.l1 : Nat → List (S42) → List Int → Int → Bool → Int → Option (Bool)
 | 0, _, _, _, _, _ => none
 | k + 1, x0, x1, x5, x6, x7 => if x7 < (x1.length : Int) then (if x6 = true then (if 0 ≤ x7 then (if 0 ≤ x5 then (if x5 < (x0.length : Int) then (if x7 < (((rd_T42 x0 x5).f0).length : Int) then (if (rd x1 x7) ≥ (rd ((rd_T42 x0 x5).f0) x7) then (if x7 < (((rd_T42 x0 x5).f1).length : Int) then (laws_d8In.l1 k x0 x1 x5 (decide ((rd x1 x7) < (rd ((rd_T42 x0 x5).f1) x7))) (wrap64 (x7 + 1))) else (none)) else (laws_d8In.l1 k x0 x1 x5 false (wrap64 (x7 + 1)))) else (none)) else (none)) else (none)) else (none)) else (laws_d8In.l0 k x0 x1 (wrap64 (x5 + 1)))) else (if x6 = true then (some true) else (laws_d8In.l0 k x0 x1 (wrap64 (x5 + 1))))
end
def laws_d8In.f (k : Nat) (l0 : List (S42)) (l1 : List Int) : Option (Bool) := laws_d8In.l0 k l0 l1 0
theorem laws_d8In.mono_l : ∀ k, (∀ y0 y1 y2, LeO (laws_d8In.l0 k y0 y1 y2) (laws_d8In.l0 (k + 1) y0 y1 y2)) ∧ (∀ y0 y1 y2 y3, LeO (laws_d8In.j1 k y0 y1 y2 y3) (laws_d8In.j1 (k + 1) y0 y1 y2 y3)) ∧ (∀ y0 y1 y2 y3 y4, LeO (laws_d8In.l1 k y0 y1 y2 y3 y4) (laws_d8In.l1 (k + 1) y0 y1 y2 y3 y4))
 | 0 => ⟨fun _ _ _ r h => by simp [laws_d8In.l0] at h, fun _ _ _ _ r h => by simp [laws_d8In.j1] at h, fun _ _ _ _ _ r h => by simp [laws_d8In.l1] at h⟩
 | k + 1 => by
  obtain ⟨ih0, ih1, ih2⟩ := laws_d8In.mono_l k
  refine ⟨?_, ?_, ?_⟩
  · intro y0 y1 y2
    unfold laws_d8In.l0
    repeat' (with_reducible first | exact ih0 _ _ _ | exact ih1 _ _ _ _ | exact ih2 _ _ _ _ _ | exact LeO.refl _ | exact LeO.none _ | refine LeO.ite ?_ ?_ | refine LeO.bind ?_ (fun _ => ?_))
  · intro y0 y1 y2 y3
    unfold laws_d8In.j1
    repeat' (with_reducible first | exact ih0 _ _ _ | exact ih1 _ _ _ _ | exact ih2 _ _ _ _ _ | exact LeO.refl _ | exact LeO.none _ | refine LeO.ite ?_ ?_ | refine LeO.bind ?_ (fun _ => ?_))
  · intro y0 y1 y2 y3 y4
    unfold laws_d8In.l1
    repeat' (with_reducible first | exact ih0 _ _ _ | exact ih1 _ _ _ _ | exact ih2 _ _ _ _ _ | exact LeO.refl _ | exact LeO.none _ | refine LeO.ite ?_ ?_ | refine LeO.bind ?_ (fun _ => ?_))
theorem laws_d8In.mono : ∀ a0 a1 k, LeO (laws_d8In.f k a0 a1) (laws_d8In.f (k + 1) a0 a1) := by
 intro a0 a1 k
 obtain ⟨ih0, ih1, ih2⟩ := laws_d8In.mono_l k
 unfold laws_d8In.f
 repeat' (with_reducible first | exact ih0 _ _ _ | exact ih1 _ _ _ _ | exact ih2 _ _ _ _ _ | exact LeO.refl _ | exact LeO.none _ | refine LeO.ite ?_ ?_ | refine LeO.bind ?_ (fun _ => ?_))
set_option maxHeartbeats 8000000 in
set_option maxRecDepth 100000 in
theorem laws_d8In.calls (k : Nat) (A0 : Option Addr) (c0 : Nat) (l0 : List (S42)) (A1 : Option Addr) (c1 : Nat) (l1 : List Int) (r : Bool) (w : World) (hr0 : Kd.C k42 w A0 l0.length l0) (hc0 : l0.length ≤ c0) (hr1 : Kd.C (Kd.int .i64) w A1 l1.length l1) (hc1 : l1.length ≤ c1) (h : laws_d8In.f k l0 l1 = some r) :
 Calls Try.prog 28 #[.slice A0 l0.length c0, .slice A1 l1.length c1] w fun e w' => e = .returned (.bool r) ∧ Drawn0 w w' := by
 have HR0 := yD hr0
 have HC0 := yD hc0
 clear hr0 hc0
 have HR1 := yD hr1
 have HC1 := yD hc1
 clear hr1 hc1
 have H : (laws_d8In.l0 k l0 l1 0) = some r := h
 clear h
 have H' := yD H
 clear H; go_enter Try.func28, Try.ntmps28
 go_wp2
 repeat (go_quiet (fail); try go_wp2)
 go_loopg [5] k (fun kq v5 w' => ∃ (x5_1 : Int), v5 = .int .i64 x5_1 ∧ Aside0 (laws_d8In.l0 kq l0 l1 x5_1 = some r) ∧ Aside0 (kq ≤ k) ∧ Drawn0 w w')
 case atStart => exact ⟨(0), (by first | rfl | (simp; done) | (simp [*]; done)), H', ⟨Nat.le_refl _⟩, by repeat (first | exact Drawn0.refl _ | apply Drawn0.step)⟩
 case round =>
  clear H'
  try clear c1
  obtain ⟨x5_1, rfl, HA, HK1, ⟨m1, rfl⟩⟩ := hrel
  cases gk with
  | zero => exact absurd HA.out (by simp [laws_d8In.l0])
  | succ k1 =>
   have H := HA.out; clear HA
   simp only [laws_d8In.l0] at H
   by_cases c3 : x5_1 < (l0.length : Int)
   ·
    rw [if_pos c3] at H
    have c3b0 : decide (x5_1 < (l0.length : Int)) = true := zR c3; clear c3
    have HC4 := yD H
    clear H
    go_upto_region 4 with (fail)
    repeat (go_quiet (fail); go_upto_region 4 with (fail))
    go_cut [6] (fun v6 wc => ∃ (kq : Nat) (x6_3 : Bool), v6 = .bool x6_3 ∧ Aside0 (laws_d8In.j1 kq l0 l1 x5_1 x6_3 = some r) ∧ Aside0 (kq ≤ k1) ∧ Drawn0 w wc)
    case first =>
     have H := HC4.out; clear HC4
     by_cases c5 : 0 ≤ x5_1
     ·
      rw [if_pos c5] at H
      have c5b0 : decide (0 ≤ x5_1) = true := zR c5; clear c5
      (first | rw [c5b0] | (simp only [i64_w, i32_w]; rw [c5b0]) | (simp only [bne] at c5b0; rw [c5b0]) | skip)
      by_cases c6 : (((rd_T42 l0 x5_1).f0).length : Int) = (l1.length : Int)
      ·
       rw [if_pos c6] at H
       have c6b0 : ((((rd_T42 l0 x5_1).f0).length : Int) == (l1.length : Int)) = true := beq_iff_eq.mpr c6
       have c6b1 : ((((rd_T42 l0 x5_1).f0).length : Int) != (l1.length : Int)) = false := bne_eq_false_iff_eq.mpr c6
       have c6b2 : (((rd_T42 l0 x5_1).f0).length == l1.length) = true := by first | simpa using c6 | (simp at c6 ⊢; omega)
       clear c6
       have H' := yD H
       clear H
       have p520 : 0 ≤ (x5_1 : Int) := zP (by assumption)
       have q520 : x5_1 < (l0.length : Int) := zP (by assumption)
       obtain ⟨ad520, A520_0, c520_0, A520_1, c520_1, e520, hx520_0, hx520_1, hl520_0, hi520_0, hl520_1, hi520_1⟩ := at_T42 HR0.out x5_1 p520 q520
       cases e520
       have HR520_0 := yD hi520_0
       have HC520_0 := yD hl520_0
       clear hi520_0 hl520_0
       have HR520_1 := yD hi520_1
       have HC520_1 := yD hl520_1
       clear hi520_1 hl520_1; replace p520 := eq_true p520; replace q520 := eq_true q520
       have p521 : 0 ≤ (x5_1 : Int) := zP (by assumption)
       have q521 : x5_1 < (l0.length : Int) := zP (by assumption)
       obtain ⟨ad521, A521_0, c521_0, A521_1, c521_1, e521, hx521_0, hx521_1, hl521_0, hi521_0, hl521_1, hi521_1⟩ := at_T42 HR0.out x5_1 p521 q521
       obtain rfl : ad520 = ad521 := (by injection e521)
       have HR521_0 := yD hi521_0
       have HC521_0 := yD hl521_0
       clear hi521_0 hl521_0
       have HR521_1 := yD hi521_1
       have HC521_1 := yD hl521_1
       clear hi521_1 hl521_1; replace p521 := eq_true p521; replace q521 := eq_true q521
       have ea_ := Option.some.inj (hx520_0.symm.trans hx521_0)
       injection ea_ with ea_ en_ ec_
       subst ea_; subst ec_; clear en_
       have ea_ := Option.some.inj (hx520_1.symm.trans hx521_1)
       injection ea_ with ea_ en_ ec_
       subst ea_; subst ec_; clear en_
       go_wp2
       repeat (go_quiet (fail); try go_wp2)
       go_meet
       case rel => exact ⟨_, (((((rd_T42 l0 x5_1).f1).length : Int) == (l1.length : Int))), (by first | rfl | (simp; done) | (simp [*]; done)), H', ⟨by have := HK1.out; first | omega | exact Nat.le_refl _⟩, by repeat (first | exact Drawn0.refl _ | apply Drawn0.step)⟩
      ·
       rw [if_neg c6] at H
       have c6b0 : ((((rd_T42 l0 x5_1).f0).length : Int) == (l1.length : Int)) = false := beq_eq_false_iff_ne.mpr c6
       have c6b1 : ((((rd_T42 l0 x5_1).f0).length : Int) != (l1.length : Int)) = true := bne_iff_ne.mpr c6
       have c6b2 : (((rd_T42 l0 x5_1).f0).length == l1.length) = false := by first | simpa using c6 | (simp at c6 ⊢; omega)
       have H' := yD H
       clear H
       have p520 : 0 ≤ (x5_1 : Int) := zP (by assumption)
       have q520 : x5_1 < (l0.length : Int) := zP (by assumption)
       obtain ⟨ad520, A520_0, c520_0, A520_1, c520_1, e520, hx520_0, hx520_1, hl520_0, hi520_0, hl520_1, hi520_1⟩ := at_T42 HR0.out x5_1 p520 q520
       cases e520
       have HR520_0 := yD hi520_0
       have HC520_0 := yD hl520_0
       clear hi520_0 hl520_0
       have HR520_1 := yD hi520_1
       have HC520_1 := yD hl520_1
       clear hi520_1 hl520_1; replace p520 := eq_true p520; replace q520 := eq_true q520
       go_wp2
       repeat (go_quiet (fail); try go_wp2)
       go_meet
       case rel => exact ⟨_, (false), (by first | rfl | (simp; done) | (simp [*]; done)), H', ⟨by have := HK1.out; first | omega | exact Nat.le_refl _⟩, by repeat (first | exact Drawn0.refl _ | apply Drawn0.step)⟩
     · rw [if_neg c5] at H
       exact absurd H (by simp)
    case rest =>
     clear HC4; try clear c1; try clear c3; try clear c3b0; try clear c5; try clear c5b0; try clear c6; try clear c6b0; try clear c6b1; try clear c6b2; try clear hx520_0; try clear hx520_1; try clear hx521_0; try clear hx521_1; try clear p520; try clear p521; try clear q520; try clear q521
     obtain ⟨kq, x6_3, rfl, HA, HJ3, ⟨mc3, rfl⟩⟩ := hcut
     cases kq with
     | zero => exact absurd HA.out (by simp [laws_d8In.j1])
     | succ kj3 =>
      have H := HA.out; clear HA
      simp only [laws_d8In.j1] at H
      have H' := yD H
      clear H
      go_wp2
      repeat (go_quiet (fail); try go_wp2)
      go_loopg [6, 7] kj3 (fun kq v6 v7 w' => ∃ (x6_3 : Bool) (x7_3 : Int), v6 = .bool x6_3 ∧ v7 = .int .i64 x7_3 ∧ Aside0 (laws_d8In.l1 kq l0 l1 x5_1 x6_3 x7_3 = some r) ∧ Aside0 (kq ≤ kj3) ∧ Drawn0 w w')
      case atStart => exact ⟨(x6_3), (0), (by first | rfl | (simp; done) | (simp [*]; done)), (by first | rfl | (simp; done) | (simp [*]; done)), H', ⟨Nat.le_refl _⟩, by repeat (first | exact Drawn0.refl _ | apply Drawn0.step)⟩
      case round =>
       clear H'
       try clear c1; try clear c3; try clear c3b0; try clear c5; try clear c5b0; try clear c6; try clear c6b0; try clear c6b1; try clear c6b2; try clear hx520_0; try clear hx520_1; try clear hx521_0; try clear hx521_1; try clear p520; try clear p521; try clear q520; try clear q521
       obtain ⟨x6_3, x7_3, rfl, rfl, HA, HK3, ⟨m3, rfl⟩⟩ := hrel
       cases gk with
       | zero => exact absurd HA.out (by simp [laws_d8In.l1])
       | succ k3 =>
        have H := HA.out; clear HA
        simp only [laws_d8In.l1] at H
        by_cases c7 : x7_3 < (l1.length : Int)
        ·
         rw [if_pos c7] at H
         have c7b0 : decide (x7_3 < (l1.length : Int)) = true := zR c7; clear c7
         by_cases c8 : x6_3 = true
         ·
          subst c8
          replace H : (if 0 ≤ x7_3 then (if 0 ≤ x5_1 then (if x5_1 < (l0.length : Int) then (if x7_3 < (((rd_T42 l0 x5_1).f0).length : Int) then (if (rd l1 x7_3) ≥ (rd ((rd_T42 l0 x5_1).f0) x7_3) then (if x7_3 < (((rd_T42 l0 x5_1).f1).length : Int) then (laws_d8In.l1 k3 l0 l1 x5_1 (decide ((rd l1 x7_3) < (rd ((rd_T42 l0 x5_1).f1) x7_3))) (wrap64 (x7_3 + 1))) else (none)) else (laws_d8In.l1 k3 l0 l1 x5_1 false (wrap64 (x7_3 + 1)))) else (none)) else (none)) else (none)) else (none)) = some r := (by rw [if_pos rfl] at H; exact H)
          by_cases c9 : 0 ≤ x7_3
          ·
           rw [if_pos c9] at H
           have c9b0 : decide (0 ≤ x7_3) = true := zR c9; clear c9
           by_cases c10 : 0 ≤ x5_1
           ·
            rw [if_pos c10] at H
            have c10b0 : decide (0 ≤ x5_1) = true := zR c10; clear c10
            by_cases c11 : x5_1 < (l0.length : Int)
            ·
             rw [if_pos c11] at H
             have c11b0 : decide (x5_1 < (l0.length : Int)) = true := zR c11; clear c11
             by_cases c12 : x7_3 < (((rd_T42 l0 x5_1).f0).length : Int)
             ·
              rw [if_pos c12] at H
              have c12b0 : decide (x7_3 < (((rd_T42 l0 x5_1).f0).length : Int)) = true := zR c12; clear c12
              by_cases c13 : (rd l1 x7_3) ≥ (rd ((rd_T42 l0 x5_1).f0) x7_3)
              ·
               rw [if_pos c13] at H
               have c13b0 : decide ((rd ((rd_T42 l0 x5_1).f0) x7_3) ≤ (rd l1 x7_3)) = true := zR c13; clear c13
               by_cases c14 : x7_3 < (((rd_T42 l0 x5_1).f1).length : Int)
               ·
                rw [if_pos c14] at H
                have c14b0 : decide (x7_3 < (((rd_T42 l0 x5_1).f1).length : Int)) = true := zR c14; clear c14
                have H' := yD H
                clear H
                have p522 : 0 ≤ (x7_3 : Int) := zP (by assumption)
                have q522 : x7_3 < (l1.length : Int) := zP (by assumption)
                obtain ⟨ad522, e522, hx522_0⟩ := Kd.at_int HR1.out x7_3 p522 q522
                cases e522; replace p522 := eq_true p522; replace q522 := eq_true q522
                have p523 : 0 ≤ (x5_1 : Int) := zP (by assumption)
                have q523 : x5_1 < (l0.length : Int) := zP (by assumption)
                obtain ⟨ad523, A523_0, c523_0, A523_1, c523_1, e523, hx523_0, hx523_1, hl523_0, hi523_0, hl523_1, hi523_1⟩ := at_T42 HR0.out x5_1 p523 q523
                cases e523
                have HR523_0 := yD hi523_0
                have HC523_0 := yD hl523_0
                clear hi523_0 hl523_0
                have HR523_1 := yD hi523_1
                have HC523_1 := yD hl523_1
                clear hi523_1 hl523_1; replace p523 := eq_true p523; replace q523 := eq_true q523
                have p524 : 0 ≤ (x7_3 : Int) := zP (by assumption)
                have q524 : x7_3 < (((rd_T42 l0 x5_1).f0).length : Int) := zP (by assumption)
                obtain ⟨ad524, e524, hx524_0⟩ := Kd.at_int HR523_0.out x7_3 p524 q524
                cases e524; replace p524 := eq_true p524; replace q524 := eq_true q524
                have p525 : 0 ≤ (x7_3 : Int) := zP (by assumption)
                have q525 : x7_3 < (l1.length : Int) := zP (by assumption)
                obtain ⟨ad525, e525, hx525_0⟩ := Kd.at_int HR1.out x7_3 p525 q525
                obtain rfl : ad522 = ad525 := (by injection e525)
                replace p525 := eq_true p525; replace q525 := eq_true q525
                have p526 : 0 ≤ (x5_1 : Int) := zP (by assumption)
                have q526 : x5_1 < (l0.length : Int) := zP (by assumption)
                obtain ⟨ad526, A526_0, c526_0, A526_1, c526_1, e526, hx526_0, hx526_1, hl526_0, hi526_0, hl526_1, hi526_1⟩ := at_T42 HR0.out x5_1 p526 q526
                obtain rfl : ad523 = ad526 := (by injection e526)
                have HR526_0 := yD hi526_0
                have HC526_0 := yD hl526_0
                clear hi526_0 hl526_0
                have HR526_1 := yD hi526_1
                have HC526_1 := yD hl526_1
                clear hi526_1 hl526_1; replace p526 := eq_true p526; replace q526 := eq_true q526
                have ea_ := Option.some.inj (hx523_0.symm.trans hx526_0)
                injection ea_ with ea_ en_ ec_
                subst ea_; subst ec_; clear en_
                have ea_ := Option.some.inj (hx523_1.symm.trans hx526_1)
                injection ea_ with ea_ en_ ec_
                subst ea_; subst ec_; clear en_
                have p527 : 0 ≤ (x7_3 : Int) := zP (by assumption)
                have q527 : x7_3 < (((rd_T42 l0 x5_1).f1).length : Int) := zP (by assumption)
                obtain ⟨ad527, e527, hx527_0⟩ := Kd.at_int HR526_1.out x7_3 p527 q527
                cases e527; replace p527 := eq_true p527; replace q527 := eq_true q527
                go_wp2
                repeat (go_quiet (fail); try go_wp2)
                go_roundg k3
                case measure => have := HK1.out; have := HJ3.out; have := HK3.out; omega
                case rel => exact ⟨(decide ((rd l1 x7_3) < (rd ((rd_T42 l0 x5_1).f1) x7_3))), (wrap64 (x7_3 + 1)), (by first | rfl | (simp; done) | (simp [*]; done)), (by first | rfl | (simp; done) | (simp [*]; done)), H', ⟨by have := HK1.out; have := HJ3.out; have := HK3.out; omega⟩, by repeat (first | exact Drawn0.refl _ | apply Drawn0.step)⟩
               · rw [if_neg c14] at H
                 exact absurd H (by simp)
              ·
               rw [if_neg c13] at H
               have c13b0 : decide ((rd ((rd_T42 l0 x5_1).f0) x7_3) ≤ (rd l1 x7_3)) = false := zS c13; clear c13
               have H' := yD H
               clear H
               have p522 : 0 ≤ (x7_3 : Int) := zP (by assumption)
               have q522 : x7_3 < (l1.length : Int) := zP (by assumption)
               obtain ⟨ad522, e522, hx522_0⟩ := Kd.at_int HR1.out x7_3 p522 q522
               cases e522; replace p522 := eq_true p522; replace q522 := eq_true q522
               have p523 : 0 ≤ (x5_1 : Int) := zP (by assumption)
               have q523 : x5_1 < (l0.length : Int) := zP (by assumption)
               obtain ⟨ad523, A523_0, c523_0, A523_1, c523_1, e523, hx523_0, hx523_1, hl523_0, hi523_0, hl523_1, hi523_1⟩ := at_T42 HR0.out x5_1 p523 q523
               cases e523
               have HR523_0 := yD hi523_0
               have HC523_0 := yD hl523_0
               clear hi523_0 hl523_0
               have HR523_1 := yD hi523_1
               have HC523_1 := yD hl523_1
               clear hi523_1 hl523_1; replace p523 := eq_true p523; replace q523 := eq_true q523
               have p524 : 0 ≤ (x7_3 : Int) := zP (by assumption)
               have q524 : x7_3 < (((rd_T42 l0 x5_1).f0).length : Int) := zP (by assumption)
               obtain ⟨ad524, e524, hx524_0⟩ := Kd.at_int HR523_0.out x7_3 p524 q524
               cases e524; replace p524 := eq_true p524; replace q524 := eq_true q524
               go_wp2
               repeat (go_quiet (fail); try go_wp2)
               go_roundg k3
               case measure => have := HK1.out; have := HJ3.out; have := HK3.out; omega
               case rel => exact ⟨(false), (wrap64 (x7_3 + 1)), (by first | rfl | (simp; done) | (simp [*]; done)), (by first | rfl | (simp; done) | (simp [*]; done)), H', ⟨by have := HK1.out; have := HJ3.out; have := HK3.out; omega⟩, by repeat (first | exact Drawn0.refl _ | apply Drawn0.step)⟩
             · rw [if_neg c12] at H
               exact absurd H (by simp)
            · rw [if_neg c11] at H
              exact absurd H (by simp)
           · rw [if_neg c10] at H
             exact absurd H (by simp)
          · rw [if_neg c9] at H
            exact absurd H (by simp)
         · replace c8 := Bool.eq_false_iff.mpr c8
           subst c8
           replace H : (laws_d8In.l0 k3 l0 l1 (wrap64 (x5_1 + 1))) = some r := (by rw [if_neg (show ¬ (false = true) by decide)] at H; exact H)
           have H' := yD H
           clear H
           go_wp2
           repeat (go_quiet (fail); try go_wp2)
           go_roundg k3
           case measure => have := HK1.out; have := HJ3.out; have := HK3.out; omega
           case rel => exact ⟨(wrap64 (x5_1 + 1)), (by first | rfl | (simp; done) | (simp [*]; done)), H', ⟨by have := HK1.out; have := HJ3.out; have := HK3.out; omega⟩, by repeat (first | exact Drawn0.refl _ | apply Drawn0.step)⟩
        ·
         rw [if_neg c7] at H
         have c7b0 : decide (x7_3 < (l1.length : Int)) = false := zS c7; clear c7
         by_cases c15 : x6_3 = true
         · subst c15
           replace H : (some true) = some r := (by rw [if_pos rfl] at H; exact H); obtain rfl := Option.some.inj H
           go_wp2
           repeat (go_quiet (fail); try go_wp2)
           go_ret
           exact ⟨by first | rfl | (simp; done) | (simp [*]; done), by repeat (first | exact Drawn0.refl _ | apply Drawn0.step)⟩
         · replace c15 := Bool.eq_false_iff.mpr c15
           subst c15
           replace H : (laws_d8In.l0 k3 l0 l1 (wrap64 (x5_1 + 1))) = some r := (by rw [if_neg (show ¬ (false = true) by decide)] at H; exact H)
           have H' := yD H
           clear H
           go_wp2
           repeat (go_quiet (fail); try go_wp2)
           go_roundg k3
           case measure => have := HK1.out; have := HJ3.out; have := HK3.out; omega
           case rel => exact ⟨(wrap64 (x5_1 + 1)), (by first | rfl | (simp; done) | (simp [*]; done)), H', ⟨by have := HK1.out; have := HJ3.out; have := HK3.out; omega⟩, by repeat (first | exact Drawn0.refl _ | apply Drawn0.step)⟩
   · rw [if_neg c3] at H
     have c3b0 : decide (x5_1 < (l0.length : Int)) = false := zS c3; clear c3; obtain rfl := Option.some.inj H
     go_wp2
     repeat (go_quiet (fail); try go_wp2)
     go_ret
     exact ⟨by first | rfl | (simp; done) | (simp [*]; done), by repeat (first | exact Drawn0.refl _ | apply Drawn0.step)⟩

/-! ### impl_Box_has: function 66 -/
def impl_Box_has.l0 : Nat → List Int → Int → Int → List Int → List Int → Option (Bool)
 | 0, _, _, _, _, _ => none
 | k + 1, x7, x8, x9, x529000, x529001 => if x9 < x8 then (if 0 ≤ x9 then (if x9 < (x7.length : Int) then (if x9 < (x529000.length : Int) then (if x9 < (x529001.length : Int) then ((impl_within.f (rd x7 x9) (rd x529000 x9) (wrap64 ((rd x529001 x9) - 1))).bind fun t532 => (if t532 = true then (impl_Box_has.l0 k x7 x8 (wrap64 (x9 + 1)) x529000 x529001) else (some false))) else (none)) else (none)) else (none)) else (none)) else (some true)
def impl_Box_has.f (k : Nat) (l0_0 : List Int) (l0_1 : List Int) (l1 : List Int) : Option (Bool) := impl_Box_has.l0 k l1 (l1.length : Int) 0 l0_0 l0_1
theorem impl_Box_has.mono_l : ∀ k, (∀ y0 y1 y2 y3 y4, LeO (impl_Box_has.l0 k y0 y1 y2 y3 y4) (impl_Box_has.l0 (k + 1) y0 y1 y2 y3 y4))
 | 0 => fun _ _ _ _ _ r h => by simp [impl_Box_has.l0] at h
 | k + 1 => by
  have ih0 := impl_Box_has.mono_l k
  · intro y0 y1 y2 y3 y4
    unfold impl_Box_has.l0
    repeat' (with_reducible first | exact ih0 _ _ _ _ _ | exact LeO.refl _ | exact LeO.none _ | refine LeO.ite ?_ ?_ | refine LeO.bind ?_ (fun _ => ?_))
theorem impl_Box_has.mono : ∀ a0 a1 a2 k, LeO (impl_Box_has.f k a0 a1 a2) (impl_Box_has.f (k + 1) a0 a1 a2) := by
 intro a0 a1 a2 k
 have ih0 := impl_Box_has.mono_l k
 unfold impl_Box_has.f
 repeat' (with_reducible first | exact ih0 _ _ _ _ _ | exact LeO.refl _ | exact LeO.none _ | refine LeO.ite ?_ ?_ | refine LeO.bind ?_ (fun _ => ?_))
set_option maxHeartbeats 8000000 in
set_option maxRecDepth 100000 in
theorem impl_Box_has.calls (k : Nat) (A0_0 : Option Addr) (c0_0 : Nat) (l0_0 : List Int) (A0_1 : Option Addr) (c0_1 : Nat) (l0_1 : List Int) (A1 : Option Addr) (c1 : Nat) (l1 : List Int) (r : Bool) (w : World) (hr0_0 : Kd.C (Kd.int .i64) w A0_0 l0_0.length l0_0) (hc0_0 : l0_0.length ≤ c0_0) (hr0_1 : Kd.C (Kd.int .i64) w A0_1 l0_1.length l0_1) (hc0_1 : l0_1.length ≤ c0_1) (hr1 : Kd.C (Kd.int .i64) w A1 l1.length l1) (hc1 : l1.length ≤ c1) (h : impl_Box_has.f k l0_0 l0_1 l1 = some r) :
 Calls Try.prog 66 #[.agg #[.slice A0_0 l0_0.length c0_0, .slice A0_1 l0_1.length c0_1], .slice A1 l1.length c1] w fun e w' => e = .returned (.bool r) ∧ Below w.heap.size w w' := by
 have hu42 := Try.underlying42
 have HR0_0 := yD hr0_0
 have HC0_0 := yD hc0_0
 clear hr0_0 hc0_0
 have HR0_1 := yD hr0_1
 have HC0_1 := yD hc0_1
 clear hr0_1 hc0_1
 have HR1 := yD hr1
 have HC1 := yD hc1
 clear hr1 hc1
 have HB := yD (Below.refl w.heap.size w)
 have H : (impl_Box_has.l0 k l1 (l1.length : Int) 0 l0_0 l0_1) = some r := h
 clear h
 have H' := yD H
 clear H; go_enter Try.func66, Try.ntmps66
 go_wp2_with (first | ((with_reducible refine gate_dst (N := 2) rfl ?_); refine box_event ?hg (N := 2) ?hd (cs := #[.slice A0_0 l0_0.length c0_0, .slice A0_1 l0_1.length c0_1]) (t := 42) ?hr ?_; (case hd => rfl); (case hg => rfl); (case hr => first | (go_simp; done) | (go_simp; rfl)); intro gb528 hg w3 hbox hb; have BK528 := yD (hbox); have GW528 := yD ((by rw [hg]; exact (below_size (kB HB)) : w.heap.size ≤ gb528)); have GE528 := yD ((by rw [hg]; exact (below_size (kB HB)) : w.heap.size ≤ gb528)); replace HB := yD (zC (kB HB) hb); clear hb hbox hg))
 repeat (go_quiet (first | ((with_reducible refine gate_dst (N := 2) rfl ?_); refine box_event ?hg (N := 2) ?hd (cs := #[.slice A0_0 l0_0.length c0_0, .slice A0_1 l0_1.length c0_1]) (t := 42) ?hr ?_; (case hd => rfl); (case hg => rfl); (case hr => first | (go_simp; done) | (go_simp; rfl)); intro gb528 hg w3 hbox hb; have BK528 := yD (hbox); have GW528 := yD ((by rw [hg]; exact (below_size (kB HB)) : w.heap.size ≤ gb528)); have GE528 := yD ((by rw [hg]; exact (below_size (kB HB)) : w.heap.size ≤ gb528)); replace HB := yD (zC (kB HB) hb); clear hb hbox hg)); try go_wp2_with (first | ((with_reducible refine gate_dst (N := 2) rfl ?_); refine box_event ?hg (N := 2) ?hd (cs := #[.slice A0_0 l0_0.length c0_0, .slice A0_1 l0_1.length c0_1]) (t := 42) ?hr ?_; (case hd => rfl); (case hg => rfl); (case hr => first | (go_simp; done) | (go_simp; rfl)); intro gb528 hg w3 hbox hb; have BK528 := yD (hbox); have GW528 := yD ((by rw [hg]; exact (below_size (kB HB)) : w.heap.size ≤ gb528)); have GE528 := yD ((by rw [hg]; exact (below_size (kB HB)) : w.heap.size ≤ gb528)); replace HB := yD (zC (kB HB) hb); clear hb hbox hg)))
 go_loopg [9] k (fun kq v9 w' => ∃ (x9_1 : Int), v9 = .int .i64 x9_1 ∧ Aside0 (impl_Box_has.l0 kq l1 (l1.length : Int) x9_1 l0_0 l0_1 = some r) ∧ Aside0 (kq ≤ k) ∧ Aside0 (w'.heap[gb528]? = some (.cells #[(.slice A0_0 l0_0.length c0_0), (.slice A0_1 l0_1.length c0_1)] 42 (0, 0))) ∧ Aside0 (Below w.heap.size w w'))
 case atStart => exact ⟨(0), (by first | rfl | (simp; done) | (simp [*]; done)), H', ⟨Nat.le_refl _⟩, ⟨kM BK528⟩, ⟨kR1 HB⟩⟩
 case round =>
  clear H'
  try clear c1
  obtain ⟨x9_1, rfl, HA, HK1, BK528, HB⟩ := hrel
  cases gk with
  | zero => exact absurd HA.out (by simp [impl_Box_has.l0])
  | succ k1 =>
   have H := HA.out; clear HA
   simp only [impl_Box_has.l0] at H
   by_cases c4 : x9_1 < (l1.length : Int)
   ·
    rw [if_pos c4] at H
    have c4b0 : decide (x9_1 < (l1.length : Int)) = true := zR c4; clear c4
    by_cases c5 : 0 ≤ x9_1
    ·
     rw [if_pos c5] at H
     have c5b0 : decide (0 ≤ x9_1) = true := zR c5; clear c5
     by_cases c6 : x9_1 < (l1.length : Int)
     ·
      rw [if_pos c6] at H
      have c6b0 : decide (x9_1 < (l1.length : Int)) = true := zR c6; clear c6
      by_cases c7 : x9_1 < (l0_0.length : Int)
      ·
       rw [if_pos c7] at H
       have c7b0 : decide (x9_1 < (l0_0.length : Int)) = true := zR c7; clear c7
       by_cases c8 : x9_1 < (l0_1.length : Int)
       ·
        rw [if_pos c8] at H
        have c8b0 : decide (x9_1 < (l0_1.length : Int)) = true := zR c8; clear c8
        obtain ⟨t532, A90, H⟩ := zW_ H
        replace H : (if t532 = true then (impl_Box_has.l0 k1 l1 (l1.length : Int) (wrap64 (x9_1 + 1)) l0_0 l0_1) else (some false)) = some r := H
        have A9 := yD A90
        clear A90
        by_cases c10 : t532 = true
        ·
         subst c10
         replace H : (impl_Box_has.l0 k1 l1 (l1.length : Int) (wrap64 (x9_1 + 1)) l0_0 l0_1) = some r := (by rw [if_pos rfl] at H; exact H)
         have H' := yD H
         clear H
         have p529 : 0 ≤ (x9_1 : Int) := zP (by assumption)
         have q529 : x9_1 < (l1.length : Int) := zP (by assumption)
         obtain ⟨ad529, e529, hx529_0⟩ := Kd.at_int HR1.out x9_1 p529 q529
         cases e529
         replace hx529_0 := (HB.out.cell (zQ w _ hx529_0)).trans hx529_0
         replace p529 := eq_true p529; replace q529 := eq_true q529
         obtain ⟨hcz11_0, hcz11_1⟩ := cz2 BK528.out
         obtain ⟨hfz11_0, hfz11_1⟩ := fz2 BK528.out
         have p530 : 0 ≤ (x9_1 : Int) := zP (by assumption)
         have q530 : x9_1 < (l0_0.length : Int) := zP (by assumption)
         obtain ⟨ad530, e530, hx530_0⟩ := Kd.at_int HR0_0.out x9_1 p530 q530
         cases e530
         replace hx530_0 := (HB.out.cell (zQ w _ hx530_0)).trans hx530_0
         replace p530 := eq_true p530; replace q530 := eq_true q530
         have p531 : 0 ≤ (x9_1 : Int) := zP (by assumption)
         have q531 : x9_1 < (l0_1.length : Int) := zP (by assumption)
         obtain ⟨ad531, e531, hx531_0⟩ := Kd.at_int HR0_1.out x9_1 p531 q531
         cases e531
         replace hx531_0 := (HB.out.cell (zQ w _ hx531_0)).trans hx531_0
         replace p531 := eq_true p531; replace q531 := eq_true q531
         go_wp2_with (first | (go_at_call 106; (with_reducible refine (impl_within.calls (rd l1 x9_1) (rd l0_0 x9_1) (wrap64 ((rd l0_1 x9_1) - 1)) true _ A9.out).mono ?_); rintro e w' ⟨rfl, ⟨nd, rfl⟩⟩; (try first | exact ⟨rfl, _, World.drewN_drewN _ _ _⟩ | exact ⟨rfl, _, Eq.trans (World.drewN_drewN _ _ _) (congrArg (World.drewN _) (Nat.add_assoc _ _ _))⟩)))
         repeat (go_quiet (first | (go_at_call 106; (with_reducible refine (impl_within.calls (rd l1 x9_1) (rd l0_0 x9_1) (wrap64 ((rd l0_1 x9_1) - 1)) true _ A9.out).mono ?_); rintro e w' ⟨rfl, ⟨nd, rfl⟩⟩; (try first | exact ⟨rfl, _, World.drewN_drewN _ _ _⟩ | exact ⟨rfl, _, Eq.trans (World.drewN_drewN _ _ _) (congrArg (World.drewN _) (Nat.add_assoc _ _ _))⟩))); try go_wp2_with (first | (go_at_call 106; (with_reducible refine (impl_within.calls (rd l1 x9_1) (rd l0_0 x9_1) (wrap64 ((rd l0_1 x9_1) - 1)) true _ A9.out).mono ?_); rintro e w' ⟨rfl, ⟨nd, rfl⟩⟩; (try first | exact ⟨rfl, _, World.drewN_drewN _ _ _⟩ | exact ⟨rfl, _, Eq.trans (World.drewN_drewN _ _ _) (congrArg (World.drewN _) (Nat.add_assoc _ _ _))⟩))))
         go_roundg k1
         case measure => have := HK1.out; omega
         case rel => exact ⟨(wrap64 (x9_1 + 1)), (by first | rfl | (simp; done) | (simp [*]; done)), H', ⟨by have := HK1.out; omega⟩, ⟨kM BK528⟩, ⟨kR1 HB⟩⟩
        ·
         replace c10 := Bool.eq_false_iff.mpr c10
         subst c10
         replace H : (some false) = some r := (by rw [if_neg (show ¬ (false = true) by decide)] at H; exact H); obtain rfl := Option.some.inj H
         have p529 : 0 ≤ (x9_1 : Int) := zP (by assumption)
         have q529 : x9_1 < (l1.length : Int) := zP (by assumption)
         obtain ⟨ad529, e529, hx529_0⟩ := Kd.at_int HR1.out x9_1 p529 q529
         cases e529
         replace hx529_0 := (HB.out.cell (zQ w _ hx529_0)).trans hx529_0
         replace p529 := eq_true p529; replace q529 := eq_true q529
         obtain ⟨hcz12_0, hcz12_1⟩ := cz2 BK528.out
         obtain ⟨hfz12_0, hfz12_1⟩ := fz2 BK528.out
         have p530 : 0 ≤ (x9_1 : Int) := zP (by assumption)
         have q530 : x9_1 < (l0_0.length : Int) := zP (by assumption)
         obtain ⟨ad530, e530, hx530_0⟩ := Kd.at_int HR0_0.out x9_1 p530 q530
         cases e530
         replace hx530_0 := (HB.out.cell (zQ w _ hx530_0)).trans hx530_0
         replace p530 := eq_true p530; replace q530 := eq_true q530
         have p531 : 0 ≤ (x9_1 : Int) := zP (by assumption)
         have q531 : x9_1 < (l0_1.length : Int) := zP (by assumption)
         obtain ⟨ad531, e531, hx531_0⟩ := Kd.at_int HR0_1.out x9_1 p531 q531
         cases e531
         replace hx531_0 := (HB.out.cell (zQ w _ hx531_0)).trans hx531_0
         replace p531 := eq_true p531; replace q531 := eq_true q531
         go_wp2_with (first | (go_at_call 106; (with_reducible refine (impl_within.calls (rd l1 x9_1) (rd l0_0 x9_1) (wrap64 ((rd l0_1 x9_1) - 1)) false _ A9.out).mono ?_); rintro e w' ⟨rfl, ⟨nd, rfl⟩⟩; (try first | exact ⟨rfl, _, World.drewN_drewN _ _ _⟩ | exact ⟨rfl, _, Eq.trans (World.drewN_drewN _ _ _) (congrArg (World.drewN _) (Nat.add_assoc _ _ _))⟩)))
         repeat (go_quiet (first | (go_at_call 106; (with_reducible refine (impl_within.calls (rd l1 x9_1) (rd l0_0 x9_1) (wrap64 ((rd l0_1 x9_1) - 1)) false _ A9.out).mono ?_); rintro e w' ⟨rfl, ⟨nd, rfl⟩⟩; (try first | exact ⟨rfl, _, World.drewN_drewN _ _ _⟩ | exact ⟨rfl, _, Eq.trans (World.drewN_drewN _ _ _) (congrArg (World.drewN _) (Nat.add_assoc _ _ _))⟩))); try go_wp2_with (first | (go_at_call 106; (with_reducible refine (impl_within.calls (rd l1 x9_1) (rd l0_0 x9_1) (wrap64 ((rd l0_1 x9_1) - 1)) false _ A9.out).mono ?_); rintro e w' ⟨rfl, ⟨nd, rfl⟩⟩; (try first | exact ⟨rfl, _, World.drewN_drewN _ _ _⟩ | exact ⟨rfl, _, Eq.trans (World.drewN_drewN _ _ _) (congrArg (World.drewN _) (Nat.add_assoc _ _ _))⟩))))
         go_ret
         exact ⟨by first | rfl | (simp <;> rfl) | (simp [*] <;> rfl), kR1 HB⟩
       · rw [if_neg c8] at H
         exact absurd H (by simp)
      · rw [if_neg c7] at H
        exact absurd H (by simp)
     · rw [if_neg c6] at H
       exact absurd H (by simp)
    · rw [if_neg c5] at H
      exact absurd H (by simp)
   · rw [if_neg c4] at H
     have c4b0 : decide (x9_1 < (l1.length : Int)) = false := zS c4; clear c4; obtain rfl := Option.some.inj H
     go_wp2
     repeat (go_quiet (fail); try go_wp2)
     go_ret
     exact ⟨by first | rfl | (simp <;> rfl) | (simp [*] <;> rfl), kR1 HB⟩

/-! ### impl_InBoxes_1: function 65 -/
def impl_InBoxes_1.f (k : Nat) (l0_0 : List Int) (l0_1 : List Int) (l1_0 : List Int) : Option (Bool) := if (l0_0.length : Int) = (l1_0.length : Int) then ((impl_Box_has.f k l0_0 l0_1 l1_0).bind fun t534 => (some t534)) else (some false)
theorem impl_InBoxes_1.mono : ∀ a0 a1 a2 k, LeO (impl_InBoxes_1.f k a0 a1 a2) (impl_InBoxes_1.f (k + 1) a0 a1 a2) := by
 intro a0 a1 a2 k
 unfold impl_InBoxes_1.f
 repeat' (with_reducible first | exact impl_Box_has.mono _ _ _ _ | exact LeO.refl _ | exact LeO.none _ | refine LeO.ite ?_ ?_ | refine LeO.bind ?_ (fun _ => ?_))
set_option maxHeartbeats 8000000 in
set_option maxRecDepth 100000 in
theorem impl_InBoxes_1.calls (k : Nat) (A0_0 : Option Addr) (c0_0 : Nat) (l0_0 : List Int) (A0_1 : Option Addr) (c0_1 : Nat) (l0_1 : List Int) (g1_0 : Nat) (A1_0 : Option Addr) (c1_0 : Nat) (l1_0 : List Int) (r : Bool) (w : World) (hr0_0 : Kd.C (Kd.int .i64) w A0_0 l0_0.length l0_0) (hc0_0 : l0_0.length ≤ c0_0) (hr0_1 : Kd.C (Kd.int .i64) w A0_1 l0_1.length l0_1) (hc0_1 : l0_1.length ≤ c0_1) (hr1_0 : Kd.C (Kd.int .i64) w A1_0 l1_0.length l1_0) (hc1_0 : l1_0.length ≤ c1_0) (hb1_0 : w.heap[g1_0]? = some (.cells #[.slice A1_0 l1_0.length c1_0] 36 (0, 0))) (h : impl_InBoxes_1.f k l0_0 l0_1 l1_0 = some r) :
 Calls Try.prog 65 #[.agg #[.slice A0_0 l0_0.length c0_0, .slice A0_1 l0_1.length c0_1], .pointer (some ⟨g1_0, 0, none⟩)] w fun e w' => e = .returned (.bool r) ∧ Below w.heap.size w w' := by
 have hu42 := Try.underlying42
 have HR0_0 := yD hr0_0
 have HC0_0 := yD hc0_0
 clear hr0_0 hc0_0
 have HR0_1 := yD hr0_1
 have HC0_1 := yD hc0_1
 clear hr0_1 hc0_1
 have HR1_0 := yD hr1_0
 have HC1_0 := yD hc1_0
 clear hr1_0 hc1_0
 have BK48 := yD hb1_0
 clear hb1_0
 have HB := yD (Below.refl w.heap.size w)
 have H : (if (l0_0.length : Int) = (l1_0.length : Int) then ((impl_Box_has.f k l0_0 l0_1 l1_0).bind fun t534 => (some t534)) else (some false)) = some r := h
 clear h
 by_cases c3 : (l0_0.length : Int) = (l1_0.length : Int)
 ·
  rw [if_pos c3] at H
  have c3b0 : ((l0_0.length : Int) == (l1_0.length : Int)) = true := beq_iff_eq.mpr c3
  have c3b1 : ((l0_0.length : Int) != (l1_0.length : Int)) = false := bne_eq_false_iff_eq.mpr c3
  have c3b2 : (l0_0.length == l1_0.length) = true := by first | simpa using c3 | (simp at c3 ⊢; omega)
  clear c3
  obtain ⟨t534, A40, H⟩ := zW_ H
  replace H : (some t534) = some r := H
  have A4 := yD A40
  clear A40; obtain rfl := Option.some.inj H; go_enter Try.func65, Try.ntmps65
  go_wp2_with (first | ((with_reducible refine gate_dst (N := 2) rfl ?_); refine box_event ?hg (N := 2) ?hd (cs := #[.slice A0_0 l0_0.length c0_0, .slice A0_1 l0_1.length c0_1]) (t := 42) ?hr ?_; (case hd => rfl); (case hg => rfl); (case hr => first | (go_simp; done) | (go_simp; rfl)); intro gb533 hg w5 hbox hb; have BK533 := yD (hbox); have GW533 := yD ((by rw [hg]; exact (below_size (kB HB)) : w.heap.size ≤ gb533)); have GE533 := yD ((by rw [hg]; exact (below_size (kB HB)) : w.heap.size ≤ gb533)); replace HB := yD (zC (kB HB) hb); have NB48_533 := yD ((by rw [hg]; exact Nat.ne_of_lt (blk_lt (kN BK48)) : g1_0 ≠ gb533)); have NB533_48 := yD ((by rw [hg]; exact Nat.ne_of_gt (blk_lt (kN BK48)) : gb533 ≠ g1_0)); replace BK48 := yD (zB (kN BK48) hb); clear hb hbox hg; have hnb6 := NB533_48.out; have hnc6 := NB48_533.out; obtain ⟨hcz7_0, hcz7_1⟩ := cz2 BK533.out; obtain ⟨hfz7_0, hfz7_1⟩ := fz2 BK533.out; have hcz8_0 : w5.cell? ⟨g1_0, 0, none⟩ = some (.slice A1_0 l1_0.length c1_0) := (yG BK48.out 0).trans rfl; have hfz8_0 := yR BK48.out 0) | (go_at_call 66; (with_reducible refine (impl_Box_has.calls k _ _ l0_0 _ _ l0_1 _ _ l1_0 t534 _ ?side1 ?side2 ?side3 ?side4 ?side5 ?side6 A4.out).mono ?_); (case side1 => exact kV (yY HR0_0.out HB.out)); (case side2 => exact HC0_0.out); (case side3 => exact kV (yY HR0_1.out HB.out)); (case side4 => exact HC0_1.out); (case side5 => exact kV (yY HR1_0.out HB.out)); (case side6 => exact HC1_0.out); rintro e w9 ⟨rfl, hb⟩; replace BK48 := yD (zB (kN BK48) hb); replace BK533 := yD (zB (kN BK533) hb); replace HB := yD (zC (kB HB) hb); clear hb))
  go_ret
  exact ⟨by first | rfl | (simp <;> rfl) | (simp [*] <;> rfl), kR1 HB⟩
 ·
  rw [if_neg c3] at H
  have c3b0 : ((l0_0.length : Int) == (l1_0.length : Int)) = false := beq_eq_false_iff_ne.mpr c3
  have c3b1 : ((l0_0.length : Int) != (l1_0.length : Int)) = true := bne_iff_ne.mpr c3
  have c3b2 : (l0_0.length == l1_0.length) = false := by first | simpa using c3 | (simp at c3 ⊢; omega)
  obtain rfl := Option.some.inj H; go_enter Try.func65, Try.ntmps65
  go_wp2_with (first | ((with_reducible refine gate_dst (N := 2) rfl ?_); refine box_event ?hg (N := 2) ?hd (cs := #[.slice A0_0 l0_0.length c0_0, .slice A0_1 l0_1.length c0_1]) (t := 42) ?hr ?_; (case hd => rfl); (case hg => rfl); (case hr => first | (go_simp; done) | (go_simp; rfl)); intro gb533 hg w10 hbox hb; have BK533 := yD (hbox); have GW533 := yD ((by rw [hg]; exact (below_size (kB HB)) : w.heap.size ≤ gb533)); have GE533 := yD ((by rw [hg]; exact (below_size (kB HB)) : w.heap.size ≤ gb533)); replace HB := yD (zC (kB HB) hb); have NB48_533 := yD ((by rw [hg]; exact Nat.ne_of_lt (blk_lt (kN BK48)) : g1_0 ≠ gb533)); have NB533_48 := yD ((by rw [hg]; exact Nat.ne_of_gt (blk_lt (kN BK48)) : gb533 ≠ g1_0)); replace BK48 := yD (zB (kN BK48) hb); clear hb hbox hg; have hnb11 := NB533_48.out; have hnc11 := NB48_533.out; obtain ⟨hcz12_0, hcz12_1⟩ := cz2 BK533.out; obtain ⟨hfz12_0, hfz12_1⟩ := fz2 BK533.out; have hcz13_0 : w10.cell? ⟨g1_0, 0, none⟩ = some (.slice A1_0 l1_0.length c1_0) := (yG BK48.out 0).trans rfl; have hfz13_0 := yR BK48.out 0))
  go_ret
  exact ⟨by first | rfl | (simp <;> rfl) | (simp [*] <;> rfl), kR1 HB⟩
/-! ### slices_IndexFunc_impl_InBoxes_1: function 105 -/
def slices_IndexFunc_impl_InBoxes_1.l0 : Nat → List (S42) → Int → Int → List Int → Option (Int)
 | 0, _, _, _, _ => none
 | k + 1, x0, x7, x8, x49000 => if x8 < x7 then (if 0 ≤ x8 then (if x8 < (x0.length : Int) then ((impl_InBoxes_1.f k ((rd_T42 x0 x8).f0) ((rd_T42 x0 x8).f1) x49000).bind fun t536 => (if t536 = true then (some x8) else (slices_IndexFunc_impl_InBoxes_1.l0 k x0 x7 (wrap64 (x8 + 1)) x49000))) else (none)) else (none)) else (some (-1))
def slices_IndexFunc_impl_InBoxes_1.f (k : Nat) (l0 : List (S42)) (l1_0 : List Int) : Option (Int) := slices_IndexFunc_impl_InBoxes_1.l0 k l0 (l0.length : Int) 0 l1_0
theorem slices_IndexFunc_impl_InBoxes_1.mono_l : ∀ k, (∀ y0 y1 y2 y3, LeO (slices_IndexFunc_impl_InBoxes_1.l0 k y0 y1 y2 y3) (slices_IndexFunc_impl_InBoxes_1.l0 (k + 1) y0 y1 y2 y3))
 | 0 => fun _ _ _ _ r h => by simp [slices_IndexFunc_impl_InBoxes_1.l0] at h
 | k + 1 => by
  have ih0 := slices_IndexFunc_impl_InBoxes_1.mono_l k
  · intro y0 y1 y2 y3
    unfold slices_IndexFunc_impl_InBoxes_1.l0
    repeat' (with_reducible first | exact ih0 _ _ _ _ | exact impl_InBoxes_1.mono _ _ _ _ | exact LeO.refl _ | exact LeO.none _ | refine LeO.ite ?_ ?_ | refine LeO.bind ?_ (fun _ => ?_))
theorem slices_IndexFunc_impl_InBoxes_1.mono : ∀ a0 a1 k, LeO (slices_IndexFunc_impl_InBoxes_1.f k a0 a1) (slices_IndexFunc_impl_InBoxes_1.f (k + 1) a0 a1) := by
 intro a0 a1 k
 have ih0 := slices_IndexFunc_impl_InBoxes_1.mono_l k
 unfold slices_IndexFunc_impl_InBoxes_1.f
 repeat' (with_reducible first | exact ih0 _ _ _ _ | exact impl_InBoxes_1.mono _ _ _ _ | exact LeO.refl _ | exact LeO.none _ | refine LeO.ite ?_ ?_ | refine LeO.bind ?_ (fun _ => ?_))
set_option maxHeartbeats 8000000 in
set_option maxRecDepth 100000 in
theorem slices_IndexFunc_impl_InBoxes_1.calls (k : Nat) (A0 : Option Addr) (c0 : Nat) (l0 : List (S42)) (g1_0 : Nat) (A1_0 : Option Addr) (c1_0 : Nat) (l1_0 : List Int) (r : Int) (w : World) (hr0 : Kd.C k42 w A0 l0.length l0) (hc0 : l0.length ≤ c0) (hr1_0 : Kd.C (Kd.int .i64) w A1_0 l1_0.length l1_0) (hc1_0 : l1_0.length ≤ c1_0) (hb1_0 : w.heap[g1_0]? = some (.cells #[.slice A1_0 l1_0.length c1_0] 36 (0, 0))) (h : slices_IndexFunc_impl_InBoxes_1.f k l0 l1_0 = some r) :
 Calls Try.prog 105 #[.slice A0 l0.length c0, .func (.func 65) #[] #[.pointer (some ⟨g1_0, 0, none⟩)]] w fun e w' => e = .returned (.int .i64 r) ∧ Below w.heap.size w w' := by
 have hu42 := Try.underlying42
 have HR0 := yD hr0
 have HC0 := yD hc0
 clear hr0 hc0
 have HR1_0 := yD hr1_0
 have HC1_0 := yD hc1_0
 clear hr1_0 hc1_0
 have BK48 := yD hb1_0
 clear hb1_0
 have HB := yD (Below.refl w.heap.size w)
 have H : (slices_IndexFunc_impl_InBoxes_1.l0 k l0 (l0.length : Int) 0 l1_0) = some r := h
 clear h
 have H' := yD H
 clear H; go_enter Try.func105, Try.ntmps105
 go_wp2
 go_loopg [8] k (fun kq v8 w' => ∃ (x8_1 : Int), v8 = .int .i64 x8_1 ∧ Aside0 (slices_IndexFunc_impl_InBoxes_1.l0 kq l0 (l0.length : Int) x8_1 l1_0 = some r) ∧ Aside0 (kq ≤ k) ∧ Aside0 (w'.heap[g1_0]? = some (.cells #[(.slice A1_0 l1_0.length c1_0)] 36 (0, 0))) ∧ Aside0 (Below w.heap.size w w'))
 case atStart => exact ⟨(0), (by first | rfl | (simp; done) | (simp [*]; done)), H', ⟨Nat.le_refl _⟩, ⟨kM BK48⟩, ⟨kR1 HB⟩⟩
 case round =>
  clear H'
  try clear c1
  obtain ⟨x8_1, rfl, HA, HK1, BK48, HB⟩ := hrel
  cases gk with
  | zero => exact absurd HA.out (by simp [slices_IndexFunc_impl_InBoxes_1.l0])
  | succ k1 =>
   have H := HA.out; clear HA
   simp only [slices_IndexFunc_impl_InBoxes_1.l0] at H
   by_cases c3 : x8_1 < (l0.length : Int)
   ·
    rw [if_pos c3] at H
    have c3b0 : decide (x8_1 < (l0.length : Int)) = true := zR c3; clear c3
    by_cases c4 : 0 ≤ x8_1
    ·
     rw [if_pos c4] at H
     have c4b0 : decide (0 ≤ x8_1) = true := zR c4; clear c4
     by_cases c5 : x8_1 < (l0.length : Int)
     ·
      rw [if_pos c5] at H
      have c5b0 : decide (x8_1 < (l0.length : Int)) = true := zR c5; clear c5
      obtain ⟨t536, A60, H⟩ := zW_ H
      replace H : (if t536 = true then (some x8_1) else (slices_IndexFunc_impl_InBoxes_1.l0 k1 l0 (l0.length : Int) (wrap64 (x8_1 + 1)) l1_0)) = some r := H
      have A6 := yD A60
      clear A60
      by_cases c7 : t536 = true
      ·
       subst c7
       replace H : (some x8_1) = some r := (by rw [if_pos rfl] at H; exact H); obtain rfl := Option.some.inj H
       have p535 : 0 ≤ (x8_1 : Int) := zP (by assumption)
       have q535 : x8_1 < (l0.length : Int) := zP (by assumption)
       obtain ⟨ad535, A535_0, c535_0, A535_1, c535_1, e535, hx535_0, hx535_1, hl535_0, hi535_0, hl535_1, hi535_1⟩ := at_T42 HR0.out x8_1 p535 q535
       cases e535
       replace hx535_0 := (HB.out.cell (zQ w _ hx535_0)).trans hx535_0
       replace hx535_1 := (HB.out.cell (zQ w _ hx535_1)).trans hx535_1
       have HR535_0 := yD hi535_0
       have HC535_0 := yD hl535_0
       clear hi535_0 hl535_0
       have HR535_1 := yD hi535_1
       have HC535_1 := yD hl535_1
       clear hi535_1 hl535_1; replace p535 := eq_true p535; replace q535 := eq_true q535
       go_wp2_with (first | (go_at_call 65; (with_reducible refine (impl_InBoxes_1.calls k1 _ _ ((rd_T42 l0 x8_1).f0) _ _ ((rd_T42 l0 x8_1).f1) g1_0 A1_0 c1_0 l1_0 true _ ?side1 ?side2 ?side3 ?side4 ?side5 ?side6 ?side7 A6.out).mono ?_); (case side1 => exact kV (yY HR535_0.out HB.out)); (case side2 => exact HC535_0.out); (case side3 => exact kV (yY HR535_1.out HB.out)); (case side4 => exact HC535_1.out); (case side5 => exact kV (yY HR1_0.out HB.out)); (case side6 => exact HC1_0.out); (case side7 => (with_reducible repeat (first | refine yM ?_ _ | refine yO ?_ | refine yN ?_ _)); exact BK48.out); rintro e w8 ⟨rfl, hb⟩; replace BK48 := yD (zB (kN BK48) hb); replace HB := yD (zC (kB HB) hb); clear hb))
       go_ret
       exact ⟨by first | rfl | (simp <;> rfl) | (simp [*] <;> rfl), kR1 HB⟩
      ·
       replace c7 := Bool.eq_false_iff.mpr c7
       subst c7
       replace H : (slices_IndexFunc_impl_InBoxes_1.l0 k1 l0 (l0.length : Int) (wrap64 (x8_1 + 1)) l1_0) = some r := (by rw [if_neg (show ¬ (false = true) by decide)] at H; exact H)
       have H' := yD H
       clear H
       have p535 : 0 ≤ (x8_1 : Int) := zP (by assumption)
       have q535 : x8_1 < (l0.length : Int) := zP (by assumption)
       obtain ⟨ad535, A535_0, c535_0, A535_1, c535_1, e535, hx535_0, hx535_1, hl535_0, hi535_0, hl535_1, hi535_1⟩ := at_T42 HR0.out x8_1 p535 q535
       cases e535
       replace hx535_0 := (HB.out.cell (zQ w _ hx535_0)).trans hx535_0
       replace hx535_1 := (HB.out.cell (zQ w _ hx535_1)).trans hx535_1
       have HR535_0 := yD hi535_0
       have HC535_0 := yD hl535_0
       clear hi535_0 hl535_0
       have HR535_1 := yD hi535_1
       have HC535_1 := yD hl535_1
       clear hi535_1 hl535_1; replace p535 := eq_true p535; replace q535 := eq_true q535
       go_wp2_with (first | (go_at_call 65; (with_reducible refine (impl_InBoxes_1.calls k1 _ _ ((rd_T42 l0 x8_1).f0) _ _ ((rd_T42 l0 x8_1).f1) g1_0 A1_0 c1_0 l1_0 false _ ?side1 ?side2 ?side3 ?side4 ?side5 ?side6 ?side7 A6.out).mono ?_); (case side1 => exact kV (yY HR535_0.out HB.out)); (case side2 => exact HC535_0.out); (case side3 => exact kV (yY HR535_1.out HB.out)); (case side4 => exact HC535_1.out); (case side5 => exact kV (yY HR1_0.out HB.out)); (case side6 => exact HC1_0.out); (case side7 => (with_reducible repeat (first | refine yM ?_ _ | refine yO ?_ | refine yN ?_ _)); exact BK48.out); rintro e w9 ⟨rfl, hb⟩; replace BK48 := yD (zB (kN BK48) hb); replace HB := yD (zC (kB HB) hb); clear hb))
       go_roundg k1
       case measure => have := HK1.out; omega
       case rel => exact ⟨(wrap64 (x8_1 + 1)), (by first | rfl | (simp; done) | (simp [*]; done)), H', ⟨by have := HK1.out; omega⟩, ⟨kM BK48⟩, ⟨kR1 HB⟩⟩
     · rw [if_neg c5] at H
       exact absurd H (by simp)
    · rw [if_neg c4] at H
      exact absurd H (by simp)
   · rw [if_neg c3] at H
     have c3b0 : decide (x8_1 < (l0.length : Int)) = false := zS c3; clear c3; obtain rfl := Option.some.inj H
     go_wp2
     go_ret
     exact ⟨by first | rfl | (simp <;> rfl) | (simp [*] <;> rfl), kR1 HB⟩

/-! ### slices_ContainsFunc_impl_InBoxes_1: function 64 -/
def slices_ContainsFunc_impl_InBoxes_1.f (k : Nat) (l0 : List (S42)) (l1_0 : List Int) : Option (Bool) := (slices_IndexFunc_impl_InBoxes_1.f k l0 l1_0).bind fun t537 => (some (decide (t537 ≥ 0)))
theorem slices_ContainsFunc_impl_InBoxes_1.mono : ∀ a0 a1 k, LeO (slices_ContainsFunc_impl_InBoxes_1.f k a0 a1) (slices_ContainsFunc_impl_InBoxes_1.f (k + 1) a0 a1) := by
 intro a0 a1 k
 unfold slices_ContainsFunc_impl_InBoxes_1.f
 repeat' (with_reducible first | exact slices_IndexFunc_impl_InBoxes_1.mono _ _ _ | exact LeO.refl _ | exact LeO.none _ | refine LeO.ite ?_ ?_ | refine LeO.bind ?_ (fun _ => ?_))
set_option maxHeartbeats 8000000 in
set_option maxRecDepth 100000 in
theorem slices_ContainsFunc_impl_InBoxes_1.calls (k : Nat) (A0 : Option Addr) (c0 : Nat) (l0 : List (S42)) (g1_0 : Nat) (A1_0 : Option Addr) (c1_0 : Nat) (l1_0 : List Int) (r : Bool) (w : World) (hr0 : Kd.C k42 w A0 l0.length l0) (hc0 : l0.length ≤ c0) (hr1_0 : Kd.C (Kd.int .i64) w A1_0 l1_0.length l1_0) (hc1_0 : l1_0.length ≤ c1_0) (hb1_0 : w.heap[g1_0]? = some (.cells #[.slice A1_0 l1_0.length c1_0] 36 (0, 0))) (h : slices_ContainsFunc_impl_InBoxes_1.f k l0 l1_0 = some r) :
 Calls Try.prog 64 #[.slice A0 l0.length c0, .func (.func 65) #[] #[.pointer (some ⟨g1_0, 0, none⟩)]] w fun e w' => e = .returned (.bool r) ∧ Below w.heap.size w w' := by
 have HR0 := yD hr0
 have HC0 := yD hc0
 clear hr0 hc0
 have HR1_0 := yD hr1_0
 have HC1_0 := yD hc1_0
 clear hr1_0 hc1_0
 have BK48 := yD hb1_0
 clear hb1_0
 have HB := yD (Below.refl w.heap.size w)
 have H : ((slices_IndexFunc_impl_InBoxes_1.f k l0 l1_0).bind fun t537 => (some (decide (t537 ≥ 0)))) = some r := h
 clear h
 obtain ⟨t537, A30, H⟩ := zW_ H
 replace H : (some (decide (t537 ≥ 0))) = some r := H
 have A3 := yD A30
 clear A30; obtain rfl := Option.some.inj H; go_enter Try.func64, Try.ntmps64
 go_wp2_with (first | ((with_reducible refine gate_callee (f := 105) rfl ?_); refine gL 7 Try.func105 #[.slice A0 l0.length c0, .func (.func 65) #[] #[.pointer (some ⟨g1_0, 0, none⟩)]] ?_; (with_reducible refine (slices_IndexFunc_impl_InBoxes_1.calls k _ _ l0 g1_0 A1_0 c1_0 l1_0 t537 _ ?side1 ?side2 ?side3 ?side4 ?side5 A3.out).mono ?_); (case side1 => repeat (first | exact HR0.out | (with_reducible first | refine yV ?_ _ | refine yW ?_ _ | refine yX ?_))); (case side2 => exact HC0.out); (case side3 => repeat (first | exact HR1_0.out | (with_reducible first | refine yV ?_ _ | refine yW ?_ _ | refine yX ?_))); (case side4 => exact HC1_0.out); (case side5 => (with_reducible repeat (first | refine yM ?_ _ | refine yO ?_ | refine yN ?_ _)); exact BK48.out); rintro e w4 ⟨rfl, hb⟩; refine ⟨_, rfl, ?_⟩; replace BK48 := yD (zB (kN BK48) hb); replace HB := yD (zC (kB HB) hb); clear hb))
 go_ret
 exact ⟨by first | rfl | (simp <;> rfl) | (simp [*] <;> rfl), kR1 HB⟩

/-! ### impl_InBoxes: function 29 -/
def impl_InBoxes.f (k : Nat) (l0 : List (S42)) (l1 : List Int) : Option (Bool) := (impl_boxesOk.f k l0).bind fun t539 => (if t539 = true then ((slices_ContainsFunc_impl_InBoxes_1.f k l0 l1).bind fun t540 => (some t540)) else (some false))
theorem impl_InBoxes.mono : ∀ a0 a1 k, LeO (impl_InBoxes.f k a0 a1) (impl_InBoxes.f (k + 1) a0 a1) := by
 intro a0 a1 k
 unfold impl_InBoxes.f
 repeat' (with_reducible first | exact impl_boxesOk.mono _ _ | exact slices_ContainsFunc_impl_InBoxes_1.mono _ _ _ | exact LeO.refl _ | exact LeO.none _ | refine LeO.ite ?_ ?_ | refine LeO.bind ?_ (fun _ => ?_))
set_option maxHeartbeats 8000000 in
set_option maxRecDepth 100000 in
theorem impl_InBoxes.calls (k : Nat) (A0 : Option Addr) (c0 : Nat) (l0 : List (S42)) (A1 : Option Addr) (c1 : Nat) (l1 : List Int) (r : Bool) (w : World) (hr0 : Kd.C k42 w A0 l0.length l0) (hc0 : l0.length ≤ c0) (hr1 : Kd.C (Kd.int .i64) w A1 l1.length l1) (hc1 : l1.length ≤ c1) (h : impl_InBoxes.f k l0 l1 = some r) :
 Calls Try.prog 29 #[.slice A0 l0.length c0, .slice A1 l1.length c1] w fun e w' => e = .returned (.bool r) ∧ Below w.heap.size w w' := by
 have HR0 := yD hr0
 have HC0 := yD hc0
 clear hr0 hc0
 have HR1 := yD hr1
 have HC1 := yD hc1
 clear hr1 hc1
 have HB := yD (Below.refl w.heap.size w)
 have H : ((impl_boxesOk.f k l0).bind fun t539 => (if t539 = true then ((slices_ContainsFunc_impl_InBoxes_1.f k l0 l1).bind fun t540 => (some t540)) else (some false))) = some r := h
 clear h
 obtain ⟨t539, A30, H⟩ := zW_ H
 replace H : (if t539 = true then ((slices_ContainsFunc_impl_InBoxes_1.f k l0 l1).bind fun t540 => (some t540)) else (some false)) = some r := H
 have A3 := yD A30
 clear A30
 by_cases c4 : t539 = true
 ·
  subst c4
  replace H : ((slices_ContainsFunc_impl_InBoxes_1.f k l0 l1).bind fun t540 => (some t540)) = some r := (by rw [if_pos rfl] at H; exact H)
  obtain ⟨t540, A50, H⟩ := zW_ H
  replace H : (some t540) = some r := H
  have A5 := yD A50
  clear A50; obtain rfl := Option.some.inj H; go_enter Try.func29, Try.ntmps29
  go_wp2_with (first | ((with_reducible refine gate_dst (N := 3) rfl ?_); refine box_event ?hg (N := 3) ?hd (cs := #[.slice A1 l1.length c1]) (t := 36) ?hr ?_; (case hd => rfl); (case hg => rfl); (case hr => first | (go_simp; done) | (go_simp; rfl)); intro gb538 hg w6 hbox hb; have BK538 := yD (hbox); have GW538 := yD ((by rw [hg]; exact (below_size (kB HB)) : w.heap.size ≤ gb538)); have GE538 := yD ((by rw [hg]; exact (below_size (kB HB)) : w.heap.size ≤ gb538)); replace HB := yD (zC (kB HB) hb); clear hb hbox hg) | ((with_reducible refine gate_callee (f := 63) rfl ?_); refine gL 6 Try.func63 #[.slice A0 l0.length c0] ?_; (with_reducible refine (impl_boxesOk.calls k _ _ l0 true _ ?side1 ?side2 A3.out).mono ?_); (case side1 => exact kV (yY HR0.out HB.out)); (case side2 => exact HC0.out); rintro e w7 ⟨rfl, hb⟩; refine ⟨_, rfl, ?_⟩; replace BK538 := yD (zB (kN BK538) hb); replace HB := yD (zC (kB HB) hb); clear hb) | (go_at_call 64; (with_reducible refine (slices_ContainsFunc_impl_InBoxes_1.calls k _ _ l0 gb538 A1 c1 l1 t540 _ ?side1 ?side2 ?side3 ?side4 ?side5 A5.out).mono ?_); (case side1 => exact kV (yY HR0.out HB.out)); (case side2 => exact HC0.out); (case side3 => exact kV (yY HR1.out HB.out)); (case side4 => exact HC1.out); (case side5 => (with_reducible repeat (first | refine yM ?_ _ | refine yO ?_ | refine yN ?_ _)); exact BK538.out); rintro e w8 ⟨rfl, hb⟩; replace BK538 := yD (zB (kN BK538) hb); replace HB := yD (zC (kB HB) hb); clear hb))
  go_ret
  exact ⟨by first | rfl | (simp <;> rfl) | (simp [*] <;> rfl), kR1 HB⟩
 ·
  replace c4 := Bool.eq_false_iff.mpr c4
  subst c4
  replace H : (some false) = some r := (by rw [if_neg (show ¬ (false = true) by decide)] at H; exact H); obtain rfl := Option.some.inj H; go_enter Try.func29, Try.ntmps29
  go_wp2_with (first | ((with_reducible refine gate_dst (N := 3) rfl ?_); refine box_event ?hg (N := 3) ?hd (cs := #[.slice A1 l1.length c1]) (t := 36) ?hr ?_; (case hd => rfl); (case hg => rfl); (case hr => first | (go_simp; done) | (go_simp; rfl)); intro gb538 hg w9 hbox hb; have BK538 := yD (hbox); have GW538 := yD ((by rw [hg]; exact (below_size (kB HB)) : w.heap.size ≤ gb538)); have GE538 := yD ((by rw [hg]; exact (below_size (kB HB)) : w.heap.size ≤ gb538)); replace HB := yD (zC (kB HB) hb); clear hb hbox hg) | ((with_reducible refine gate_callee (f := 63) rfl ?_); refine gL 6 Try.func63 #[.slice A0 l0.length c0] ?_; (with_reducible refine (impl_boxesOk.calls k _ _ l0 false _ ?side1 ?side2 A3.out).mono ?_); (case side1 => exact kV (yY HR0.out HB.out)); (case side2 => exact HC0.out); rintro e w10 ⟨rfl, hb⟩; refine ⟨_, rfl, ?_⟩; replace BK538 := yD (zB (kN BK538) hb); replace HB := yD (zC (kB HB) hb); clear hb))
  go_ret
  exact ⟨by first | rfl | (simp <;> rfl) | (simp [*] <;> rfl), kR1 HB⟩

/-! ### impl_BoxSize: function 67 -/
def impl_BoxSize.l0 : Nat → Int → List Int → Int → Int → List Int → List Int → Option (Int)
 | 0, _, _, _, _, _, _ => none
 | k + 1, x3, x10, x11, x12, x542000, x542001 => if x12 < x11 then (if 0 ≤ x12 then (if x12 < (x10.length : Int) then (if x12 < (x542001.length : Int) then (impl_BoxSize.l0 k (wrap64 (x3 * (wrap64 ((rd x542001 x12) - (rd x10 x12))))) x10 x11 (wrap64 (x12 + 1)) x542000 x542001) else (none)) else (none)) else (none)) else (some x3)
def impl_BoxSize.f (k : Nat) (l0_0 : List Int) (l0_1 : List Int) : Option (Int) := (impl_ValidBox.f k l0_0 l0_1).bind fun t542 => (if t542 = true then (impl_BoxSize.l0 k 1 l0_0 (l0_0.length : Int) 0 l0_0 l0_1) else (some 0))
theorem impl_BoxSize.mono_l : ∀ k, (∀ y0 y1 y2 y3 y4 y5, LeO (impl_BoxSize.l0 k y0 y1 y2 y3 y4 y5) (impl_BoxSize.l0 (k + 1) y0 y1 y2 y3 y4 y5))
 | 0 => fun _ _ _ _ _ _ r h => by simp [impl_BoxSize.l0] at h
 | k + 1 => by
  have ih0 := impl_BoxSize.mono_l k
  · intro y0 y1 y2 y3 y4 y5
    unfold impl_BoxSize.l0
    repeat' (with_reducible first | exact ih0 _ _ _ _ _ _ | exact impl_ValidBox.mono _ _ _ | exact LeO.refl _ | exact LeO.none _ | refine LeO.ite ?_ ?_ | refine LeO.bind ?_ (fun _ => ?_))
theorem impl_BoxSize.mono : ∀ a0 a1 k, LeO (impl_BoxSize.f k a0 a1) (impl_BoxSize.f (k + 1) a0 a1) := by
 intro a0 a1 k
 have ih0 := impl_BoxSize.mono_l k
 unfold impl_BoxSize.f
 repeat' (with_reducible first | exact ih0 _ _ _ _ _ _ | exact impl_ValidBox.mono _ _ _ | exact LeO.refl _ | exact LeO.none _ | refine LeO.ite ?_ ?_ | refine LeO.bind ?_ (fun _ => ?_))
set_option maxHeartbeats 8000000 in
set_option maxRecDepth 100000 in
theorem impl_BoxSize.calls (k : Nat) (A0_0 : Option Addr) (c0_0 : Nat) (l0_0 : List Int) (A0_1 : Option Addr) (c0_1 : Nat) (l0_1 : List Int) (r : Int) (w : World) (hr0_0 : Kd.C (Kd.int .i64) w A0_0 l0_0.length l0_0) (hc0_0 : l0_0.length ≤ c0_0) (hr0_1 : Kd.C (Kd.int .i64) w A0_1 l0_1.length l0_1) (hc0_1 : l0_1.length ≤ c0_1) (h : impl_BoxSize.f k l0_0 l0_1 = some r) :
 Calls Try.prog 67 #[.agg #[.slice A0_0 l0_0.length c0_0, .slice A0_1 l0_1.length c0_1]] w fun e w' => e = .returned (.int .i64 r) ∧ Below w.heap.size w w' := by
 have hu42 := Try.underlying42
 have HR0_0 := yD hr0_0
 have HC0_0 := yD hc0_0
 clear hr0_0 hc0_0
 have HR0_1 := yD hr0_1
 have HC0_1 := yD hc0_1
 clear hr0_1 hc0_1
 have HB := yD (Below.refl w.heap.size w)
 have H : ((impl_ValidBox.f k l0_0 l0_1).bind fun t542 => (if t542 = true then (impl_BoxSize.l0 k 1 l0_0 (l0_0.length : Int) 0 l0_0 l0_1) else (some 0))) = some r := h
 clear h
 obtain ⟨t542, A20, H⟩ := zW_ H
 replace H : (if t542 = true then (impl_BoxSize.l0 k 1 l0_0 (l0_0.length : Int) 0 l0_0 l0_1) else (some 0)) = some r := H
 have A2 := yD A20
 clear A20
 by_cases c3 : t542 = true
 ·
  subst c3
  replace H : (impl_BoxSize.l0 k 1 l0_0 (l0_0.length : Int) 0 l0_0 l0_1) = some r := (by rw [if_pos rfl] at H; exact H)
  have H' := yD H
  clear H; go_enter Try.func67, Try.ntmps67
  go_wp2_with (first | ((with_reducible refine gate_dst (N := 1) rfl ?_); refine box_event ?hg (N := 1) ?hd (cs := #[.slice A0_0 l0_0.length c0_0, .slice A0_1 l0_1.length c0_1]) (t := 42) ?hr ?_; (case hd => rfl); (case hg => rfl); (case hr => first | (go_simp; done) | (go_simp; rfl)); intro gb541 hg w4 hbox hb; have BK541 := yD (hbox); have GW541 := yD ((by rw [hg]; exact (below_size (kB HB)) : w.heap.size ≤ gb541)); have GE541 := yD ((by rw [hg]; exact (below_size (kB HB)) : w.heap.size ≤ gb541)); replace HB := yD (zC (kB HB) hb); clear hb hbox hg; obtain ⟨hcz5_0, hcz5_1⟩ := cz2 BK541.out; obtain ⟨hfz5_0, hfz5_1⟩ := fz2 BK541.out) | ((with_reducible refine gate_callee (f := 104) rfl ?_); refine gL 7 Try.func104 #[.agg #[.slice A0_0 l0_0.length c0_0, .slice A0_1 l0_1.length c0_1]] ?_; (with_reducible refine (impl_ValidBox.calls k _ _ l0_0 _ _ l0_1 true _ ?side1 ?side2 ?side3 ?side4 A2.out).mono ?_); (case side1 => exact kV (yY HR0_0.out HB.out)); (case side2 => exact HC0_0.out); (case side3 => exact kV (yY HR0_1.out HB.out)); (case side4 => exact HC0_1.out); rintro e w6 ⟨rfl, hb⟩; refine ⟨_, rfl, ?_⟩; replace BK541 := yD (zB (kN BK541) hb); replace HB := yD (zC (kB HB) hb); clear hb; obtain ⟨hcz7_0, hcz7_1⟩ := cz2 BK541.out; obtain ⟨hfz7_0, hfz7_1⟩ := fz2 BK541.out))
  (try simp only [Act.put, zH, zI, zJ])
  go_loopg [3, 12] k (fun kq v3 v12 w' => ∃ (x3_1 : Int) (x12_1 : Int), v3 = .int .i64 x3_1 ∧ v12 = .int .i64 x12_1 ∧ Aside0 (impl_BoxSize.l0 kq x3_1 l0_0 (l0_0.length : Int) x12_1 l0_0 l0_1 = some r) ∧ Aside0 (kq ≤ k) ∧ Aside0 (w'.heap[gb541]? = some (.cells #[(.slice A0_0 l0_0.length c0_0), (.slice A0_1 l0_1.length c0_1)] 42 (0, 0))) ∧ Aside0 (Below w.heap.size w w'))
  case atStart => exact ⟨(1), (0), (by first | rfl | (simp; done) | (simp [*]; done)), (by first | rfl | (simp; done) | (simp [*]; done)), H', ⟨Nat.le_refl _⟩, ⟨kM BK541⟩, ⟨kR1 HB⟩⟩
  case round =>
   clear H'
   try clear c1; try clear c3; try clear hcz5_0; try clear hcz5_1; try clear hcz7_0; try clear hcz7_1; try clear hfz5_0; try clear hfz5_1; try clear hfz7_0; try clear hfz7_1
   obtain ⟨x3_1, x12_1, rfl, rfl, HA, HK1, BK541, HB⟩ := hrel
   cases gk with
   | zero => exact absurd HA.out (by simp [impl_BoxSize.l0])
   | succ k1 =>
    have H := HA.out; clear HA
    simp only [impl_BoxSize.l0] at H
    by_cases c8 : x12_1 < (l0_0.length : Int)
    ·
     rw [if_pos c8] at H
     have c8b0 : decide (x12_1 < (l0_0.length : Int)) = true := zR c8; clear c8
     by_cases c9 : 0 ≤ x12_1
     ·
      rw [if_pos c9] at H
      have c9b0 : decide (0 ≤ x12_1) = true := zR c9; clear c9
      by_cases c10 : x12_1 < (l0_0.length : Int)
      ·
       rw [if_pos c10] at H
       have c10b0 : decide (x12_1 < (l0_0.length : Int)) = true := zR c10; clear c10
       by_cases c11 : x12_1 < (l0_1.length : Int)
       ·
        rw [if_pos c11] at H
        have c11b0 : decide (x12_1 < (l0_1.length : Int)) = true := zR c11; clear c11
        have H' := yD H
        clear H
        have p543 : 0 ≤ (x12_1 : Int) := zP (by assumption)
        have q543 : x12_1 < (l0_0.length : Int) := zP (by assumption)
        obtain ⟨ad543, e543, hx543_0⟩ := Kd.at_int HR0_0.out x12_1 p543 q543
        cases e543
        replace hx543_0 := (HB.out.cell (zQ w _ hx543_0)).trans hx543_0
        replace p543 := eq_true p543; replace q543 := eq_true q543
        obtain ⟨hcz12_0, hcz12_1⟩ := cz2 BK541.out
        obtain ⟨hfz12_0, hfz12_1⟩ := fz2 BK541.out
        have p544 : 0 ≤ (x12_1 : Int) := zP (by assumption)
        have q544 : x12_1 < (l0_1.length : Int) := zP (by assumption)
        obtain ⟨ad544, e544, hx544_0⟩ := Kd.at_int HR0_1.out x12_1 p544 q544
        cases e544
        replace hx544_0 := (HB.out.cell (zQ w _ hx544_0)).trans hx544_0
        replace p544 := eq_true p544; replace q544 := eq_true q544
        go_wp2
        go_roundg k1
        case measure => have := HK1.out; omega
        case rel => exact ⟨(wrap64 (x3_1 * (wrap64 ((rd l0_1 x12_1) - (rd l0_0 x12_1))))), (wrap64 (x12_1 + 1)), (by first | rfl | (simp; done) | (simp [*]; done)), (by first | rfl | (simp; done) | (simp [*]; done)), H', ⟨by have := HK1.out; omega⟩, ⟨kM BK541⟩, ⟨kR1 HB⟩⟩
       · rw [if_neg c11] at H
         exact absurd H (by simp)
      · rw [if_neg c10] at H
        exact absurd H (by simp)
     · rw [if_neg c9] at H
       exact absurd H (by simp)
    · rw [if_neg c8] at H
      have c8b0 : decide (x12_1 < (l0_0.length : Int)) = false := zS c8; clear c8; obtain rfl := Option.some.inj H
      go_wp2
      go_ret
      exact ⟨by first | rfl | (simp <;> rfl) | (simp [*] <;> rfl), kR1 HB⟩
 ·
  replace c3 := Bool.eq_false_iff.mpr c3
  subst c3
  replace H : (some 0) = some r := (by rw [if_neg (show ¬ (false = true) by decide)] at H; exact H); obtain rfl := Option.some.inj H; go_enter Try.func67, Try.ntmps67
  go_wp2_with (first | ((with_reducible refine gate_dst (N := 1) rfl ?_); refine box_event ?hg (N := 1) ?hd (cs := #[.slice A0_0 l0_0.length c0_0, .slice A0_1 l0_1.length c0_1]) (t := 42) ?hr ?_; (case hd => rfl); (case hg => rfl); (case hr => first | (go_simp; done) | (go_simp; rfl)); intro gb541 hg w13 hbox hb; have BK541 := yD (hbox); have GW541 := yD ((by rw [hg]; exact (below_size (kB HB)) : w.heap.size ≤ gb541)); have GE541 := yD ((by rw [hg]; exact (below_size (kB HB)) : w.heap.size ≤ gb541)); replace HB := yD (zC (kB HB) hb); clear hb hbox hg; obtain ⟨hcz14_0, hcz14_1⟩ := cz2 BK541.out; obtain ⟨hfz14_0, hfz14_1⟩ := fz2 BK541.out) | ((with_reducible refine gate_callee (f := 104) rfl ?_); refine gL 7 Try.func104 #[.agg #[.slice A0_0 l0_0.length c0_0, .slice A0_1 l0_1.length c0_1]] ?_; (with_reducible refine (impl_ValidBox.calls k _ _ l0_0 _ _ l0_1 false _ ?side1 ?side2 ?side3 ?side4 A2.out).mono ?_); (case side1 => exact kV (yY HR0_0.out HB.out)); (case side2 => exact HC0_0.out); (case side3 => exact kV (yY HR0_1.out HB.out)); (case side4 => exact HC0_1.out); rintro e w15 ⟨rfl, hb⟩; refine ⟨_, rfl, ?_⟩; replace BK541 := yD (zB (kN BK541) hb); replace HB := yD (zC (kB HB) hb); clear hb))
  go_ret
  exact ⟨by first | rfl | (simp <;> rfl) | (simp [*] <;> rfl), kR1 HB⟩

/-! ### laws_d8Size: function 30 -/
def laws_d8Size.l0 : Nat → List (S42) → Int → Int → Option (Int)
 | 0, _, _, _ => none
 | k + 1, x0, x3, x4 => if x4 < (x0.length : Int) then (if 0 ≤ x4 then ((impl_BoxSize.f k ((rd_T42 x0 x4).f0) ((rd_T42 x0 x4).f1)).bind fun t546 => (laws_d8Size.l0 k x0 (wrap64 (x3 + t546)) (wrap64 (x4 + 1)))) else (none)) else (some x3)
def laws_d8Size.f (k : Nat) (l0 : List (S42)) : Option (Int) := laws_d8Size.l0 k l0 0 0
theorem laws_d8Size.mono_l : ∀ k, (∀ y0 y1 y2, LeO (laws_d8Size.l0 k y0 y1 y2) (laws_d8Size.l0 (k + 1) y0 y1 y2))
 | 0 => fun _ _ _ r h => by simp [laws_d8Size.l0] at h
 | k + 1 => by
  have ih0 := laws_d8Size.mono_l k
  · intro y0 y1 y2
    unfold laws_d8Size.l0
    repeat' (with_reducible first | exact ih0 _ _ _ | exact impl_BoxSize.mono _ _ _ | exact LeO.refl _ | exact LeO.none _ | refine LeO.ite ?_ ?_ | refine LeO.bind ?_ (fun _ => ?_))
theorem laws_d8Size.mono : ∀ a0 k, LeO (laws_d8Size.f k a0) (laws_d8Size.f (k + 1) a0) := by
 intro a0 k
 have ih0 := laws_d8Size.mono_l k
 unfold laws_d8Size.f
 repeat' (with_reducible first | exact ih0 _ _ _ | exact impl_BoxSize.mono _ _ _ | exact LeO.refl _ | exact LeO.none _ | refine LeO.ite ?_ ?_ | refine LeO.bind ?_ (fun _ => ?_))
set_option maxHeartbeats 8000000 in
set_option maxRecDepth 100000 in
theorem laws_d8Size.calls (k : Nat) (A0 : Option Addr) (c0 : Nat) (l0 : List (S42)) (r : Int) (w : World) (hr0 : Kd.C k42 w A0 l0.length l0) (hc0 : l0.length ≤ c0) (h : laws_d8Size.f k l0 = some r) :
 Calls Try.prog 30 #[.slice A0 l0.length c0] w fun e w' => e = .returned (.int .i64 r) ∧ Below w.heap.size w w' := by
 have hu42 := Try.underlying42
 have HR0 := yD hr0
 have HC0 := yD hc0
 clear hr0 hc0
 have HB := yD (Below.refl w.heap.size w)
 have H : (laws_d8Size.l0 k l0 0 0) = some r := h
 clear h
 have H' := yD H
 clear H; go_enter Try.func30, Try.ntmps30
 go_wp2
 go_loopg [3, 4] k (fun kq v3 v4 w' => ∃ (x3_1 : Int) (x4_1 : Int), v3 = .int .i64 x3_1 ∧ v4 = .int .i64 x4_1 ∧ Aside0 (laws_d8Size.l0 kq l0 x3_1 x4_1 = some r) ∧ Aside0 (kq ≤ k) ∧ Aside0 (Below w.heap.size w w'))
 case atStart => exact ⟨(0), (0), (by first | rfl | (simp; done) | (simp [*]; done)), (by first | rfl | (simp; done) | (simp [*]; done)), H', ⟨Nat.le_refl _⟩, ⟨kR0 HB⟩⟩
 case round =>
  clear H'
  obtain ⟨x3_1, x4_1, rfl, rfl, HA, HK1, HB⟩ := hrel
  cases gk with
  | zero => exact absurd HA.out (by simp [laws_d8Size.l0])
  | succ k1 =>
   have H := HA.out; clear HA
   simp only [laws_d8Size.l0] at H
   by_cases c2 : x4_1 < (l0.length : Int)
   ·
    rw [if_pos c2] at H
    have c2b0 : decide (x4_1 < (l0.length : Int)) = true := zR c2; clear c2
    by_cases c3 : 0 ≤ x4_1
    ·
     rw [if_pos c3] at H
     have c3b0 : decide (0 ≤ x4_1) = true := zR c3; clear c3
     obtain ⟨t546, A40, H⟩ := zW_ H
     replace H : (laws_d8Size.l0 k1 l0 (wrap64 (x3_1 + t546)) (wrap64 (x4_1 + 1))) = some r := H
     have A4 := yD A40
     clear A40
     have H' := yD H
     clear H
     have p545 : 0 ≤ (x4_1 : Int) := zP (by assumption)
     have q545 : x4_1 < (l0.length : Int) := zP (by assumption)
     obtain ⟨ad545, A545_0, c545_0, A545_1, c545_1, e545, hx545_0, hx545_1, hl545_0, hi545_0, hl545_1, hi545_1⟩ := at_T42 HR0.out x4_1 p545 q545
     cases e545
     replace hx545_0 := (HB.out.cell (zQ w _ hx545_0)).trans hx545_0
     replace hx545_1 := (HB.out.cell (zQ w _ hx545_1)).trans hx545_1
     have HR545_0 := yD hi545_0
     have HC545_0 := yD hl545_0
     clear hi545_0 hl545_0
     have HR545_1 := yD hi545_1
     have HC545_1 := yD hl545_1
     clear hi545_1 hl545_1; replace p545 := eq_true p545; replace q545 := eq_true q545
     go_wp2_with (first | ((with_reducible refine gate_callee (f := 67) rfl ?_); refine gL 16 Try.func67 #[.agg #[.slice A545_0 ((rd_T42 l0 x4_1).f0).length c545_0, .slice A545_1 ((rd_T42 l0 x4_1).f1).length c545_1]] ?_; (with_reducible refine (impl_BoxSize.calls k1 _ _ ((rd_T42 l0 x4_1).f0) _ _ ((rd_T42 l0 x4_1).f1) t546 _ ?side1 ?side2 ?side3 ?side4 A4.out).mono ?_); (case side1 => exact kV (yY HR545_0.out HB.out)); (case side2 => exact HC545_0.out); (case side3 => exact kV (yY HR545_1.out HB.out)); (case side4 => exact HC545_1.out); rintro e w5 ⟨rfl, hb⟩; refine ⟨_, rfl, ?_⟩; replace HB := yD (zC (kB HB) hb); clear hb))
     go_roundg k1
     case measure => have := HK1.out; omega
     case rel => exact ⟨(wrap64 (x3_1 + t546)), (wrap64 (x4_1 + 1)), (by first | rfl | (simp; done) | (simp [*]; done)), (by first | rfl | (simp; done) | (simp [*]; done)), H', ⟨by have := HK1.out; omega⟩, ⟨kR0 HB⟩⟩
    · rw [if_neg c3] at H
      exact absurd H (by simp)
   · rw [if_neg c2] at H
     have c2b0 : decide (x4_1 < (l0.length : Int)) = false := zS c2; clear c2; obtain rfl := Option.some.inj H
     go_wp2
     go_ret
     exact ⟨by first | rfl | (simp <;> rfl) | (simp [*] <;> rfl), kR0 HB⟩
end Go.Proofs.Ytdiaebjbiddefaa.PFnSlabAlgebra
