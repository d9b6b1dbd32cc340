/- Each Go function here comes to what the plain function of its name says, where that says something. Made by a program of this session, over the print. -/
import Derived.Test.YtdiaebjbiddefaaPFnNormalFormx0
import Derived.Test.YtdiaebjbiddefaaPFnNormalFormx9
import Derived.Test.YtdiaebjbiddefaaPFnNormalFormx10
import Derived.Test.YtdiaebjbiddefaaPFnNormalFormx11
import Derived.Test.YtdiaebjbiddefaaPFnNormalFormx12
namespace Go.Proofs.Ytdiaebjbiddefaa.PFnNormalForm
open Go.RowKit Go.Proofs.YtdiaebjbiddefaaW.PrintWords Go.Proofs.YtdiaebjbiddefaaW.PrintLast Go.Proofs.YtdiaebjbiddefaaW.PrintMore
attribute [local go_sem] max2_int min2_int max_two min_two max_three min_three max_four min_four   -- for this text's walks alone
set_option linter.unusedVariables false
set_option linter.unusedSimpArgs false

/-! ### spec_l07Combine: function 97 -/
mutual
def spec_l07Combine.l0 : Nat → Int → List (S42) → List (S42) → Int → List (S42) → List Int → List (S42) → Int → Int → Option ((List (S42)))
 | 0, _, _, _, _, _, _, _, _, _ => none
 | k + 1, x0, x1, x2, x3, x9, x10, x11, x12, x13 => if x13 < (x10.length : Int) then (if (wrap64 (x13 + 1)) < (x10.length : Int) then (if 0 ≤ x13 then ((spec_l07Cross.f k x1 (rd x10 x13)).bind fun t392 => ((spec_l07Cross.f k x2 (rd x10 x13)).bind fun t396 => ((spec_l07Combine.f k x0 t392 t396 (wrap64 (x3 - 1))).bind fun t399 => (spec_l07Combine.j1 k x0 x1 x2 x3 x9 x10 x11 x12 x13 t399)))) else (none)) else (spec_l07Combine.j1 k x0 x1 x2 x3 x9 x10 x11 x12 x13 (([] : List (S42))))) else (some x9)
def spec_l07Combine.j1 : Nat → Int → List (S42) → List (S42) → Int → List (S42) → List Int → List (S42) → Int → Int → List (S42) → Option ((List (S42)))
 | 0, _, _, _, _, _, _, _, _, _, _ => none
 | k + 1, x0, x1, x2, x3, x9, x10, x11, x12, x13, x14 => if x13 > 0 then ((spec_l07Same.f k x14 x11).bind fun t402 => (spec_l07Combine.j2 k x0 x1 x2 x3 x9 x10 x11 x12 x13 x14 t402)) else (spec_l07Combine.j2 k x0 x1 x2 x3 x9 x10 x11 x12 x13 x14 false)
def spec_l07Combine.j2 : Nat → Int → List (S42) → List (S42) → Int → List (S42) → List Int → List (S42) → Int → Int → List (S42) → Bool → Option ((List (S42)))
 | 0, _, _, _, _, _, _, _, _, _, _, _ => none
 | k + 1, x0, x1, x2, x3, x9, x10, x11, x12, x13, x14, x74 => if x74 = true then (spec_l07Combine.l0 k x0 x1 x2 x3 x9 x10 x11 x12 (wrap64 (x13 + 1))) else (spec_l07Combine.l1 k x0 x1 x2 x3 x9 x10 x11 x12 x13 x14 0)
def spec_l07Combine.l1 : Nat → Int → List (S42) → List (S42) → Int → List (S42) → List Int → List (S42) → Int → Int → List (S42) → Int → Option ((List (S42)))
 | 0, _, _, _, _, _, _, _, _, _, _, _ => none
 | k + 1, x0, x1, x2, x3, x9, x10, x11, x12, x13, x14, x15 => if x15 < (x11.length : Int) then ((some (([x12] : List Int) : List Int)).bind fun y403 => (if 0 ≤ x15 then (if y403.length + ((rd_T42 x11 x15).f0).length < 17592186044416 then (if 0 ≤ x13 then (if x13 < (x10.length : Int) then ((some (([rd x10 x13] : List Int) : List Int)).bind fun y411 => (if y411.length + ((rd_T42 x11 x15).f1).length < 17592186044416 then (if x9.length < 2932031007402 then (spec_l07Combine.l1 k x0 x1 x2 x3 (x9 ++ [(⟨(y403 ++ ((rd_T42 x11 x15).f0)), (y411 ++ ((rd_T42 x11 x15).f1))⟩ : S42)]) x10 x11 x12 x13 x14 (wrap64 (x15 + 1))) else (none)) else (none))) else (none)) else (none)) else (none)) else (none))) else (if 0 ≤ x13 then (if x13 < (x10.length : Int) then (spec_l07Combine.l0 k x0 x1 x2 x3 x9 x10 x14 (rd x10 x13) (wrap64 (x13 + 1))) else (none)) else (none))
def spec_l07Combine.f : Nat → Int → List (S42) → List (S42) → Int → Option ((List (S42)))
 | 0, _, _, _, _ => none
 | k + 1, a0, l1, l2, a3 => (some (([] : List (S42)) : List (S42))).bind fun y369 => (if a3 = 0 then ((spec_l07Holds.f a0 (decide ((l1.length : Int) > 0)) (decide ((l2.length : Int) > 0))).bind fun t372 => (if t372 = true then (if y369.length < 2932031007402 then (some (y369 ++ [(⟨([] : List Int), ([] : List Int)⟩ : S42)])) else (none)) else (some y369))) else ((spec_l07Cuts.f k (([] : List Int)) l1).bind fun t379 => ((spec_l07Cuts.f k t379 l2).bind fun t382 => (spec_l07Combine.l0 k a0 l1 l2 a3 y369 t382 (([] : List (S42))) 0 0))))
end
theorem spec_l07Combine.mono_l : ∀ k, (∀ y0 y1 y2 y3, LeO (spec_l07Combine.f k y0 y1 y2 y3) (spec_l07Combine.f (k + 1) y0 y1 y2 y3)) ∧ (∀ y0 y1 y2 y3 y4 y5 y6 y7 y8, LeO (spec_l07Combine.l0 k y0 y1 y2 y3 y4 y5 y6 y7 y8) (spec_l07Combine.l0 (k + 1) y0 y1 y2 y3 y4 y5 y6 y7 y8)) ∧ (∀ y0 y1 y2 y3 y4 y5 y6 y7 y8 y9, LeO (spec_l07Combine.j1 k y0 y1 y2 y3 y4 y5 y6 y7 y8 y9) (spec_l07Combine.j1 (k + 1) y0 y1 y2 y3 y4 y5 y6 y7 y8 y9)) ∧ (∀ y0 y1 y2 y3 y4 y5 y6 y7 y8 y9 y10, LeO (spec_l07Combine.j2 k y0 y1 y2 y3 y4 y5 y6 y7 y8 y9 y10) (spec_l07Combine.j2 (k + 1) y0 y1 y2 y3 y4 y5 y6 y7 y8 y9 y10)) ∧ (∀ y0 y1 y2 y3 y4 y5 y6 y7 y8 y9 y10, LeO (spec_l07Combine.l1 k y0 y1 y2 y3 y4 y5 y6 y7 y8 y9 y10) (spec_l07Combine.l1 (k + 1) y0 y1 y2 y3 y4 y5 y6 y7 y8 y9 y10))
 | 0 => ⟨fun _ _ _ _ r h => by simp [spec_l07Combine.f] at h, fun _ _ _ _ _ _ _ _ _ r h => by simp [spec_l07Combine.l0] at h, fun _ _ _ _ _ _ _ _ _ _ r h => by simp [spec_l07Combine.j1] at h, fun _ _ _ _ _ _ _ _ _ _ _ r h => by simp [spec_l07Combine.j2] at h, fun _ _ _ _ _ _ _ _ _ _ _ r h => by simp [spec_l07Combine.l1] at h⟩
 | k + 1 => by
  obtain ⟨ih0, ih1, ih2, ih3, ih4⟩ := spec_l07Combine.mono_l k
  refine ⟨?_, ?_, ?_, ?_, ?_⟩
  ·
   intro y0 y1 y2 y3
   unfold spec_l07Combine.f
   repeat' first
   | (with_reducible exact ih0 _ _ _ _)
   | (with_reducible exact ih1 _ _ _ _ _ _ _ _ _)
   | (with_reducible exact ih2 _ _ _ _ _ _ _ _ _ _)
   | (with_reducible exact ih3 _ _ _ _ _ _ _ _ _ _ _)
   | (with_reducible exact ih4 _ _ _ _ _ _ _ _ _ _ _)
   | (with_reducible exact spec_l07Cross.mono _ _ _)
   | (with_reducible exact spec_l07Cuts.mono _ _ _)
   | (with_reducible exact spec_l07Same.mono _ _ _)
   | (with_reducible exact LeO.refl _)
   | (with_reducible exact LeO.none _)
   | (with_reducible refine LeO.ite ?_ ?_)
   | (with_reducible refine LeO.bind ?_ (fun _ => ?_))
   | exact ih0 _ _ _ _
   | exact ih1 _ _ _ _ _ _ _ _ _
   | exact ih2 _ _ _ _ _ _ _ _ _ _
   | exact ih3 _ _ _ _ _ _ _ _ _ _ _
   | exact ih4 _ _ _ _ _ _ _ _ _ _ _
   | exact spec_l07Cross.mono _ _ _
   | exact spec_l07Cuts.mono _ _ _
   | exact spec_l07Same.mono _ _ _
   | exact LeO.none _
   | refine LeO.ite ?_ ?_
   | refine LeO.bind ?_ (fun _ => ?_)
  ·
   intro y0 y1 y2 y3 y4 y5 y6 y7 y8
   unfold spec_l07Combine.l0
   repeat' first
   | (with_reducible exact ih0 _ _ _ _)
   | (with_reducible exact ih1 _ _ _ _ _ _ _ _ _)
   | (with_reducible exact ih2 _ _ _ _ _ _ _ _ _ _)
   | (with_reducible exact ih3 _ _ _ _ _ _ _ _ _ _ _)
   | (with_reducible exact ih4 _ _ _ _ _ _ _ _ _ _ _)
   | (with_reducible exact spec_l07Cross.mono _ _ _)
   | (with_reducible exact spec_l07Cuts.mono _ _ _)
   | (with_reducible exact spec_l07Same.mono _ _ _)
   | (with_reducible exact LeO.refl _)
   | (with_reducible exact LeO.none _)
   | (with_reducible refine LeO.ite ?_ ?_)
   | (with_reducible refine LeO.bind ?_ (fun _ => ?_))
   | exact ih0 _ _ _ _
   | exact ih1 _ _ _ _ _ _ _ _ _
   | exact ih2 _ _ _ _ _ _ _ _ _ _
   | exact ih3 _ _ _ _ _ _ _ _ _ _ _
   | exact ih4 _ _ _ _ _ _ _ _ _ _ _
   | exact spec_l07Cross.mono _ _ _
   | exact spec_l07Cuts.mono _ _ _
   | exact spec_l07Same.mono _ _ _
   | exact LeO.none _
   | refine LeO.ite ?_ ?_
   | refine LeO.bind ?_ (fun _ => ?_)
  ·
   intro y0 y1 y2 y3 y4 y5 y6 y7 y8 y9
   unfold spec_l07Combine.j1
   repeat' first
   | (with_reducible exact ih0 _ _ _ _)
   | (with_reducible exact ih1 _ _ _ _ _ _ _ _ _)
   | (with_reducible exact ih2 _ _ _ _ _ _ _ _ _ _)
   | (with_reducible exact ih3 _ _ _ _ _ _ _ _ _ _ _)
   | (with_reducible exact ih4 _ _ _ _ _ _ _ _ _ _ _)
   | (with_reducible exact spec_l07Cross.mono _ _ _)
   | (with_reducible exact spec_l07Cuts.mono _ _ _)
   | (with_reducible exact spec_l07Same.mono _ _ _)
   | (with_reducible exact LeO.refl _)
   | (with_reducible exact LeO.none _)
   | (with_reducible refine LeO.ite ?_ ?_)
   | (with_reducible refine LeO.bind ?_ (fun _ => ?_))
   | exact ih0 _ _ _ _
   | exact ih1 _ _ _ _ _ _ _ _ _
   | exact ih2 _ _ _ _ _ _ _ _ _ _
   | exact ih3 _ _ _ _ _ _ _ _ _ _ _
   | exact ih4 _ _ _ _ _ _ _ _ _ _ _
   | exact spec_l07Cross.mono _ _ _
   | exact spec_l07Cuts.mono _ _ _
   | exact spec_l07Same.mono _ _ _
   | exact LeO.none _
   | refine LeO.ite ?_ ?_
   | refine LeO.bind ?_ (fun _ => ?_)
  ·
   intro y0 y1 y2 y3 y4 y5 y6 y7 y8 y9 y10
   unfold spec_l07Combine.j2
   repeat' first
   | (with_reducible exact ih0 _ _ _ _)
   | (with_reducible exact ih1 _ _ _ _ _ _ _ _ _)
   | (with_reducible exact ih2 _ _ _ _ _ _ _ _ _ _)
   | (with_reducible exact ih3 _ _ _ _ _ _ _ _ _ _ _)
   | (with_reducible exact ih4 _ _ _ _ _ _ _ _ _ _ _)
   | (with_reducible exact spec_l07Cross.mono _ _ _)
   | (with_reducible exact spec_l07Cuts.mono _ _ _)
   | (with_reducible exact spec_l07Same.mono _ _ _)
   | (with_reducible exact LeO.refl _)
   | (with_reducible exact LeO.none _)
   | (with_reducible refine LeO.ite ?_ ?_)
   | (with_reducible refine LeO.bind ?_ (fun _ => ?_))
   | exact ih0 _ _ _ _
   | exact ih1 _ _ _ _ _ _ _ _ _
   | exact ih2 _ _ _ _ _ _ _ _ _ _
   | exact ih3 _ _ _ _ _ _ _ _ _ _ _
   | exact ih4 _ _ _ _ _ _ _ _ _ _ _
   | exact spec_l07Cross.mono _ _ _
   | exact spec_l07Cuts.mono _ _ _
   | exact spec_l07Same.mono _ _ _
   | exact LeO.none _
   | refine LeO.ite ?_ ?_
   | refine LeO.bind ?_ (fun _ => ?_)
  ·
   intro y0 y1 y2 y3 y4 y5 y6 y7 y8 y9 y10
   unfold spec_l07Combine.l1
   repeat' first
   | (with_reducible exact ih0 _ _ _ _)
   | (with_reducible exact ih1 _ _ _ _ _ _ _ _ _)
   | (with_reducible exact ih2 _ _ _ _ _ _ _ _ _ _)
   | (with_reducible exact ih3 _ _ _ _ _ _ _ _ _ _ _)
   | (with_reducible exact ih4 _ _ _ _ _ _ _ _ _ _ _)
   | (with_reducible exact spec_l07Cross.mono _ _ _)
   | (with_reducible exact spec_l07Cuts.mono _ _ _)
   | (with_reducible exact spec_l07Same.mono _ _ _)
   | (with_reducible exact LeO.refl _)
   | (with_reducible exact LeO.none _)
   | (with_reducible refine LeO.ite ?_ ?_)
   | (with_reducible refine LeO.bind ?_ (fun _ => ?_))
   | exact ih0 _ _ _ _
   | exact ih1 _ _ _ _ _ _ _ _ _
   | exact ih2 _ _ _ _ _ _ _ _ _ _
   | exact ih3 _ _ _ _ _ _ _ _ _ _ _
   | exact ih4 _ _ _ _ _ _ _ _ _ _ _
   | exact spec_l07Cross.mono _ _ _
   | exact spec_l07Cuts.mono _ _ _
   | exact spec_l07Same.mono _ _ _
   | exact LeO.none _
   | refine LeO.ite ?_ ?_
   | refine LeO.bind ?_ (fun _ => ?_)
theorem spec_l07Combine.mono : ∀ a0 a1 a2 a3 k, LeO (spec_l07Combine.f k a0 a1 a2 a3) (spec_l07Combine.f (k + 1) a0 a1 a2 a3) := by
 intro a0 a1 a2 a3 k
 obtain ⟨ih0, ih1, ih2, ih3, ih4⟩ := spec_l07Combine.mono_l k
 exact ih0 a0 a1 a2 a3
def spec_l07Combine.T14 : Bool × List (List Nat × List Nat) := (true, [([], []), ([], []), ([], []), ([], []), ([2, 3], [2, 3]), ([4], [4]), ([1, 5], [1, 5]), ([], []), ([], []), ([], []), ([8, 9], [8, 9]), ([10], [10]), ([7, 11, 6], [7, 11]), ([], []), ([13], [13]), ([0, 6, 12, 14, 12], [0, 6, 12, 14]), ([15, 15, 0, 1, 2, 3, 4, 5, 6, 7, 8, 9, 10, 11, 12, 13, 14, 15], [15])])
def spec_l07Combine.B14 : List Nat := [0, 0, 0, 0, 12, 28, 62, 0, 0, 0, 768, 1792, 4094, 0, 8192, 32767, 65535]
theorem spec_l07Combine.tab14 : rtab .any (opsOf Try.f97 14) = spec_l07Combine.T14 := by kernel_rfl
theorem spec_l07Combine.bits14 : waitsOk spec_l07Combine.T14.2 spec_l07Combine.B14 = true := by kernel_rfl
def spec_l07Combine.T20 : Bool × List (List Nat × List Nat) := (true, [([], []), ([], []), ([0, 1], [0, 1]), ([2], [2]), ([3], [3]), ([], []), ([], []), ([5, 6], [5, 6]), ([7], [7]), ([8], [8]), ([4, 9], [4, 9]), ([10, 10, 0, 1, 2, 3, 4, 5, 6, 7, 8, 9, 10], [10])])
def spec_l07Combine.B20 : List Nat := [0, 0, 3, 7, 15, 0, 0, 96, 224, 480, 1023, 2047]
theorem spec_l07Combine.tab20 : rtab .any (opsOf Try.f97 20) = spec_l07Combine.T20 := by kernel_rfl
theorem spec_l07Combine.bits20 : waitsOk spec_l07Combine.T20.2 spec_l07Combine.B20 = true := by kernel_rfl
set_option maxHeartbeats 8000000 in
set_option maxRecDepth 100000 in
theorem spec_l07Combine.calls (k : Nat) : ∀ (a0 : Int) (P1_ : Nat → Prop) (A1 : Option Addr) (c1 : Nat) (l1 : List (S42)) (P2_ : Nat → Prop) (A2 : Option Addr) (c2 : Nat) (l2 : List (S42)) (a3 : Int) (r : List (S42)) (w : World) (hs1 : Kd.V k42 42 w w.heap.size (fun k_ => P1_ k_) (.slice A1 l1.length c1) l1) (hs2 : Kd.V k42 42 w w.heap.size (fun k_ => P2_ k_) (.slice A2 l2.length c2) l2) (h : spec_l07Combine.f k a0 l1 l2 a3 = some r),
 Calls Try.prog 97 #[.int .i64 a0, .slice A1 l1.length c1, .slice A2 l2.length c2, .int .i64 a3] w fun e w' => ∃ v0_ : Value, e = .returned (v0_) ∧ Kd.N k42 42 w' w.heap.size (fun k_ => ((P1_ k_ ∨ P2_ k_) ∨ w.heap.size ≤ k_)) v0_ r ∧ Below w.heap.size w w' := by
 induction k using Nat.strongRecOn with
 | _ k ih =>
 intro a0 P1_ A1 c1 l1 P2_ A2 c2 l2 a3 r w hs1 hs2 h
 cases k with
 | zero => exact absurd h (by simp [spec_l07Combine.f])
 | succ k =>
 simp only [spec_l07Combine.f] at h
 have hu42 := Try.underlying42
 have HO1 := yD (show Kd.V k42 42 w w.heap.size (fun k_ => ((P1_ k_ ∨ P2_ k_) ∨ w.heap.size ≤ k_)) (.slice A1 l1.length c1) l1 from Kd.V_mono hs1 (fun k_ hk => .inl (.inl hk)))
 have HO2 := yD (show Kd.V k42 42 w w.heap.size (fun k_ => ((P1_ k_ ∨ P2_ k_) ∨ w.heap.size ≤ k_)) (.slice A2 l2.length c2) l2 from Kd.V_mono hs2 (fun k_ hk => .inl (.inr hk)))
 have HB := yD (Below.refl w.heap.size w)
 have H : ((some (([] : List (S42)) : List (S42))).bind fun y369 => (if a3 = 0 then ((spec_l07Holds.f a0 (decide ((l1.length : Int) > 0)) (decide ((l2.length : Int) > 0))).bind fun t372 => (if t372 = true then (if y369.length < 2932031007402 then (some (y369 ++ [(⟨([] : List Int), ([] : List Int)⟩ : S42)])) else (none)) else (some y369))) else ((spec_l07Cuts.f k (([] : List Int)) l1).bind fun t379 => ((spec_l07Cuts.f k t379 l2).bind fun t382 => (spec_l07Combine.l0 k a0 l1 l2 a3 y369 t382 (([] : List (S42))) 0 0))))) = some r := h
 clear h
 obtain ⟨y369, hy369⟩ : ∃ y_ : List (S42), y_ = (([] : List (S42))) := ⟨_, rfl⟩
 replace H : (if a3 = 0 then ((spec_l07Holds.f a0 (decide ((l1.length : Int) > 0)) (decide ((l2.length : Int) > 0))).bind fun t372 => (if t372 = true then (if y369.length < 2932031007402 then (some (y369 ++ [(⟨([] : List Int), ([] : List Int)⟩ : S42)])) else (none)) else (some y369))) else ((spec_l07Cuts.f k (([] : List Int)) l1).bind fun t379 => ((spec_l07Cuts.f k t379 l2).bind fun t382 => (spec_l07Combine.l0 k a0 l1 l2 a3 y369 t382 (([] : List (S42))) 0 0)))) = some r := by first | (rw [hy369]; with_reducible exact H) | (have H2_ := (Option.bind_some _ _).symm.trans H; rw [hy369]; with_reducible exact H2_) | (have H2_ := (Option.bind_some _ _).symm.trans H; with_reducible exact H2_) | with_reducible exact H | (rw [hy369]; exact H) | exact H
 have Ny369 := yD hy369
 clear hy369
 by_cases c5 : a3 = 0
 ·
  rw [if_pos c5] at H
  have c5b0 : (a3 == 0) = true := beq_iff_eq.mpr c5
  have c5b1 : (a3 != 0) = false := bne_eq_false_iff_eq.mpr c5
  clear c5
  obtain ⟨t372, A60, H⟩ := zW_ H
  replace H : (if t372 = true then (if y369.length < 2932031007402 then (some (y369 ++ [(⟨([] : List Int), ([] : List Int)⟩ : S42)])) else (none)) else (some y369)) = some r := H
  have A6 := yD A60
  clear A60
  by_cases c7 : t372 = true
  ·
   subst c7
   have H1 : (if y369.length < 2932031007402 then (some (y369 ++ [(⟨([] : List Int), ([] : List Int)⟩ : S42)])) else (none)) = some r := by rw [if_pos rfl] at H; exact H
   clear H; have H := H1; clear H1
   by_cases c8 : y369.length < 2932031007402
   ·
    rw [if_pos c8] at H
    have LMc8 := yD c8
    clear c8
    obtain ⟨y373, hy373⟩ : ∃ y_ : List (S42), y_ = (y369 ++ [(⟨([] : List Int), ([] : List Int)⟩ : S42)]) := ⟨_, rfl⟩
    replace H : (some y373) = some r := by first | (rw [hy373]; with_reducible exact H) | (have H2_ := (Option.bind_some _ _).symm.trans H; rw [hy373]; with_reducible exact H2_) | (have H2_ := (Option.bind_some _ _).symm.trans H; with_reducible exact H2_) | with_reducible exact H | (rw [hy373]; exact H) | exact H
    have Ny373 := yD hy373
    clear hy373; obtain rfl := Option.some.inj H; go_enter Try.func97, Try.ntmps97
    go_wp2_with (first | ((with_reducible refine gate_dst (N := 18) rfl ?_); refine Kd.N_lit k42 _ 42 ?hg (N' := 18) ?hd (xs := ([] : List (S42))) (inner := []) (ok := (fun k_ => ((P1_ k_ ∨ P2_ k_) ∨ w.heap.size ≤ k_))) (okp := (fun k_ => ((P1_ k_ ∨ P2_ k_) ∨ w.heap.size ≤ k_))) ?hr ?hp (fun _ hk => hk) ((show ∀ k_, w.heap.size ≤ k_ → (fun k_ => ((P1_ k_ ∨ P2_ k_) ∨ w.heap.size ≤ k_)) k_ from fun k_ hk => (.inr (Nat.le_trans (below_size (kB HB)) hk))) _ (Nat.le_refl _)) (Below.refl _ _) (Nat.le_refl _) (by simp) ?_; (case hd => rfl); (case hg => rfl); (case hr => first | (go_simp; done) | (go_simp; rfl)); (case hp => exact (Reps.none _ _)); intro v370 w9 ho10 hb hg_ hnew_; clear hg_ hnew_; (first | rw [← Ny369.out] at ho10 | (simp only [Int.reduceToNat] at ho10; rw [← Ny369.out] at ho10)); have n0_ := yD (Kd.V_elder' (by (with_reducible repeat (first | apply Kd.V_alloc | apply Kd.V_drewN | apply Kd.V_drew)); exact HO1.out) (Kd.N_base ho10) hb); have n1_ := yD (Kd.V_elder' (by (with_reducible repeat (first | apply Kd.V_alloc | apply Kd.V_drewN | apply Kd.V_drew)); exact HO2.out) (Kd.N_base ho10) hb); have n2_ := yD (Kd.N_lower ho10 (below_size (kB HB))); have n3_ := yD (zC (kB HB) hb); clear HO1; clear HO2; clear HB; have HO1 := n0_; have HO2 := n1_; have HO371 := n2_; have HB := n3_; clear n0_ n1_ n2_ n3_; clear hb ho10) | ((with_reducible refine gate_callee (f := 127) rfl ?_); refine goesL_ (some 28) rfl rfl Try.func127 (by kernel_rfl) rfl #[.int .i64 a0, .bool (decide (0 < l1.length)), .bool (decide (0 < l2.length))] rfl (by first | (with_reducible rfl; done) | (simp only [zN, zO]; rfl) | (go_simp; done) | (go_simp; rfl)) ?_; (refine (spec_l07Holds.calls a0 (decide (0 < l1.length)) (decide (0 < l2.length)) true _ (by have h_ := A6.out; rw [show decide ((l1.length : Int) > 0) = decide (0 < l1.length) from decide_eq_decide.2 (by omega), show decide ((l2.length : Int) > 0) = decide (0 < l2.length) from decide_eq_decide.2 (by omega)] at h_; exact h_)).mono ?_); rintro e w' ⟨rfl, ⟨nd, rfl⟩⟩; refine ⟨_, rfl, ?_⟩) | ((with_reducible refine gate_builtin (b := .append) (xs := #[.tmp 29, .tmp 31]) rfl ?_); at_builtin; refine Kd.N_append k42 (w0 := w) w.heap.size rfl (.tmp 29) (.tmp 31) 24 42 (.agg #[(.slice none 0 0), (.slice none 0 0)]) 48 rfl Try.underlying24 info42 rfl (by decide) (by omega) v370 y369 (⟨([] : List Int), ([] : List Int)⟩ : S42) [.slice none 0 0, .slice none 0 0] (fun k_ => ((P1_ k_ ∨ P2_ k_) ∨ w.heap.size ≤ k_)) (fun k_ => ((fun k_ => ((P1_ k_ ∨ P2_ k_) ∨ w.heap.size ≤ k_))) k_ ∧ some k_ ≠ (v370 : Value).ownBlock) rfl rfl ?aP (fun _ hk => hk) ?aF ?aO ?aB ?aS ?aL ?_; (case aP => exact (k42_mkF _ _ (⟨([] : List Int), ([] : List Int)⟩ : S42) (Nat.le_refl _) (Kd.F_nil _ _ _) (Nat.le_refl _) (Kd.F_nil _ _ _))); (case aB => exact (kB HB)); (case aF => exact (fun k_ hk => (.inr (Nat.le_trans (below_size (kB HB)) hk)))); (case aO => exact (by (with_reducible repeat (first | apply Kd.N_alloc | apply Kd.N_drewN | apply Kd.N_drew)); exact HO371.out)); (case aS => exact (below_size (kB HB))); (case aL => have := LMc8.out; omega); intro v374 w11 ho hb hg hat; rw [← Ny373.out] at ho; have n0_ := yD (Kd.V_afterv (ok := (fun k_ => ((P1_ k_ ∨ P2_ k_) ∨ w.heap.size ≤ k_))) (by (with_reducible repeat (first | apply Kd.V_alloc | apply Kd.V_drewN | apply Kd.V_drew)); exact HO1.out) hg hat); have n1_ := yD (Kd.V_afterv (ok := (fun k_ => ((P1_ k_ ∨ P2_ k_) ∨ w.heap.size ≤ k_))) (by (with_reducible repeat (first | apply Kd.V_alloc | apply Kd.V_drewN | apply Kd.V_drew)); exact HO2.out) hg hat); have n2_ := yD (hb); have n3_ := yD (ho); clear HO1; clear HO2; clear HB; clear HO371; have HO1 := n0_; have HO2 := n1_; have HB := n2_; have HO375 := n3_; clear n0_ n1_ n2_ n3_; clear ho hb hg hat))
    go_ret
    exact ⟨_, by first | rfl | (simp <;> rfl) | (simp [*] <;> rfl), by (with_reducible repeat (first | apply Kd.N_alloc | apply Kd.N_drewN | apply Kd.N_drew)); exact HO375.out, kR0 HB⟩
   · rw [if_neg c8] at H
     exact absurd H (by simp)
  ·
   replace c7 := Bool.eq_false_iff.mpr c7
   subst c7
   have H1 : (some y369) = some r := by rw [if_neg (show ¬ (false = true) by decide)] at H; exact H
   clear H; have H := H1; clear H1; obtain rfl := Option.some.inj H; go_enter Try.func97, Try.ntmps97
   go_wp2_with (first | ((with_reducible refine gate_dst (N := 18) rfl ?_); refine Kd.N_lit k42 _ 42 ?hg (N' := 18) ?hd (xs := ([] : List (S42))) (inner := []) (ok := (fun k_ => ((P1_ k_ ∨ P2_ k_) ∨ w.heap.size ≤ k_))) (okp := (fun k_ => ((P1_ k_ ∨ P2_ k_) ∨ w.heap.size ≤ k_))) ?hr ?hp (fun _ hk => hk) ((show ∀ k_, w.heap.size ≤ k_ → (fun k_ => ((P1_ k_ ∨ P2_ k_) ∨ w.heap.size ≤ k_)) k_ from fun k_ hk => (.inr (Nat.le_trans (below_size (kB HB)) hk))) _ (Nat.le_refl _)) (Below.refl _ _) (Nat.le_refl _) (by simp) ?_; (case hd => rfl); (case hg => rfl); (case hr => first | (go_simp; done) | (go_simp; rfl)); (case hp => exact (Reps.none _ _)); intro v370 w12 ho13 hb hg_ hnew_; clear hg_ hnew_; (first | rw [← Ny369.out] at ho13 | (simp only [Int.reduceToNat] at ho13; rw [← Ny369.out] at ho13)); have n0_ := yD (Kd.V_elder' (by (with_reducible repeat (first | apply Kd.V_alloc | apply Kd.V_drewN | apply Kd.V_drew)); exact HO1.out) (Kd.N_base ho13) hb); have n1_ := yD (Kd.V_elder' (by (with_reducible repeat (first | apply Kd.V_alloc | apply Kd.V_drewN | apply Kd.V_drew)); exact HO2.out) (Kd.N_base ho13) hb); have n2_ := yD (Kd.N_lower ho13 (below_size (kB HB))); have n3_ := yD (zC (kB HB) hb); clear HO1; clear HO2; clear HB; have HO1 := n0_; have HO2 := n1_; have HO371 := n2_; have HB := n3_; clear n0_ n1_ n2_ n3_; clear hb ho13) | ((with_reducible refine gate_callee (f := 127) rfl ?_); refine goesL_ (some 28) rfl rfl Try.func127 (by kernel_rfl) rfl #[.int .i64 a0, .bool (decide (0 < l1.length)), .bool (decide (0 < l2.length))] rfl (by first | (with_reducible rfl; done) | (simp only [zN, zO]; rfl) | (go_simp; done) | (go_simp; rfl)) ?_; (refine (spec_l07Holds.calls a0 (decide (0 < l1.length)) (decide (0 < l2.length)) false _ (by have h_ := A6.out; rw [show decide ((l1.length : Int) > 0) = decide (0 < l1.length) from decide_eq_decide.2 (by omega), show decide ((l2.length : Int) > 0) = decide (0 < l2.length) from decide_eq_decide.2 (by omega)] at h_; exact h_)).mono ?_); rintro e w' ⟨rfl, ⟨nd, rfl⟩⟩; refine ⟨_, rfl, ?_⟩))
   go_ret
   exact ⟨_, by first | rfl | (simp <;> rfl) | (simp [*] <;> rfl), by (with_reducible repeat (first | apply Kd.N_alloc | apply Kd.N_drewN | apply Kd.N_drew)); exact HO371.out, kR0 HB⟩
 ·
  rw [if_neg c5] at H
  have c5b0 : (a3 == 0) = false := beq_eq_false_iff_ne.mpr c5
  have c5b1 : (a3 != 0) = true := bne_iff_ne.mpr c5
  obtain ⟨y376, hy376⟩ : ∃ y_ : List Int, y_ = (([] : List Int)) := ⟨_, rfl⟩
  replace H : ((spec_l07Cuts.f k y376 l1).bind fun t379 => ((spec_l07Cuts.f k t379 l2).bind fun t382 => (spec_l07Combine.l0 k a0 l1 l2 a3 y369 t382 (([] : List (S42))) 0 0))) = some r := by first | (rw [hy376]; with_reducible exact H) | (have H2_ := (Option.bind_some _ _).symm.trans H; rw [hy376]; with_reducible exact H2_) | (have H2_ := (Option.bind_some _ _).symm.trans H; with_reducible exact H2_) | with_reducible exact H | (rw [hy376]; exact H) | exact H
  have Ny376 := yD hy376
  clear hy376
  obtain ⟨t379, A140, H⟩ := zW_ H
  replace H : ((spec_l07Cuts.f k t379 l2).bind fun t382 => (spec_l07Combine.l0 k a0 l1 l2 a3 y369 t382 (([] : List (S42))) 0 0)) = some r := H
  have A14 := yD A140
  clear A140
  obtain ⟨t382, A150, H⟩ := zW_ H
  replace H : (spec_l07Combine.l0 k a0 l1 l2 a3 y369 t382 (([] : List (S42))) 0 0) = some r := H
  have A15 := yD A150
  clear A150
  obtain ⟨y385, hy385⟩ : ∃ y_ : List (S42), y_ = (([] : List (S42))) := ⟨_, rfl⟩
  replace H : (spec_l07Combine.l0 k a0 l1 l2 a3 y369 t382 y385 0 0) = some r := by first | (rw [hy385]; with_reducible exact H) | (have H2_ := (Option.bind_some _ _).symm.trans H; rw [hy385]; with_reducible exact H2_) | (have H2_ := (Option.bind_some _ _).symm.trans H; with_reducible exact H2_) | with_reducible exact H | (rw [hy385]; exact H) | exact H
  have Ny385 := yD hy385
  clear hy385
  have H' := yD H
  clear H; go_enter Try.func97, Try.ntmps97
  go_wp2_with (first | ((with_reducible refine gate_dst (N := 18) rfl ?_); refine Kd.N_lit k42 _ 42 ?hg (N' := 18) ?hd (xs := ([] : List (S42))) (inner := []) (ok := (fun k_ => ((P1_ k_ ∨ P2_ k_) ∨ w.heap.size ≤ k_))) (okp := (fun k_ => ((P1_ k_ ∨ P2_ k_) ∨ w.heap.size ≤ k_))) ?hr ?hp (fun _ hk => hk) ((show ∀ k_, w.heap.size ≤ k_ → (fun k_ => ((P1_ k_ ∨ P2_ k_) ∨ w.heap.size ≤ k_)) k_ from fun k_ hk => (.inr (Nat.le_trans (below_size (kB HB)) hk))) _ (Nat.le_refl _)) (Below.refl _ _) (Nat.le_refl _) (by simp) ?_; (case hd => rfl); (case hg => rfl); (case hr => first | (go_simp; done) | (go_simp; rfl)); (case hp => exact (Reps.none _ _)); intro v370 w16 ho17 hb hg_ hnew_; clear hg_ hnew_; (first | rw [← Ny369.out] at ho17 | (simp only [Int.reduceToNat] at ho17; rw [← Ny369.out] at ho17)); have n0_ := yD (Kd.V_elder' (by (with_reducible repeat (first | apply Kd.V_alloc | apply Kd.V_drewN | apply Kd.V_drew)); exact HO1.out) (Kd.N_base ho17) hb); have n1_ := yD (Kd.V_elder' (by (with_reducible repeat (first | apply Kd.V_alloc | apply Kd.V_drewN | apply Kd.V_drew)); exact HO2.out) (Kd.N_base ho17) hb); have n2_ := yD (Kd.N_lower ho17 (below_size (kB HB))); have n3_ := yD (zC (kB HB) hb); clear HO1; clear HO2; clear HB; have HO1 := n0_; have HO2 := n1_; have HO371 := n2_; have HB := n3_; clear n0_ n1_ n2_ n3_; clear hb ho17) | ((with_reducible refine gate_dst (N := 34) rfl ?_); refine Kd.R_lit (Kd.int .i64) _ 2 ?hg (N := 34) ?hd (xs := ([] : List Int)) (inner := []) (ok := fun _ => True) (okp := fun _ => True) ?hr ?hp (fun _ hk => hk) trivial (Below.refl _ _) (Nat.le_refl _) (by simp) ?_; (case hd => rfl); (case hg => rfl); (case hr => first | (go_simp; done) | (go_simp; rfl)); (case hp => exact (Reps.none _ _)); intro v377 w18 ho19 hb hg_ hnew_; clear hg_ hnew_; (first | rw [← Ny376.out] at ho19 | (simp only [Int.reduceToNat] at ho19; rw [← Ny376.out] at ho19)); have n0_ := yD (Kd.V_elder' (by (with_reducible repeat (first | apply Kd.V_alloc | apply Kd.V_drewN | apply Kd.V_drew)); exact HO1.out) (yH ho19) hb); have n1_ := yD (Kd.V_elder' (by (with_reducible repeat (first | apply Kd.V_alloc | apply Kd.V_drewN | apply Kd.V_drew)); exact HO2.out) (yH ho19) hb); have n2_ := yD (Kd.N_elder' (by (with_reducible repeat (first | apply Kd.N_alloc | apply Kd.N_drewN | apply Kd.N_drew)); exact HO371.out) (yH ho19) hb); have n3_ := yD (yZ (Kd.R_newM (M := fun k_ => (w.heap.size ≤ k_)) ho19 (below_size (kB HB)) (fun k_ h_ => h_)) (below_size (kB HB))); have n4_ := yD (zC (kB HB) hb); clear HO1; clear HO2; clear HO371; clear HB; have HO1 := n0_; have HO2 := n1_; have HO371 := n2_; have HO378 := n3_; have HB := n4_; clear n0_ n1_ n2_ n3_ n4_; clear hb ho19; obtain ⟨Ao20, co20, eo20⟩ := Kd.R_slice HO378.out; subst eo20) | ((with_reducible refine gate_callee (f := 128) rfl ?_); refine goesL_ (some 36) rfl rfl Try.func128 (by kernel_rfl) rfl #[.slice Ao20 y376.length co20, .slice A1 l1.length c1] rfl (by (try simp only [zK, zL, zM]); first | done | rfl | (simp only [zN, zO]; rfl)) ?_; (with_reducible refine (spec_l07Cuts.calls k (fun k_ => some k_ = (.slice Ao20 y376.length co20 : Value).ownBlock) _ _ y376 _ _ l1 t379 _ ?side1 ?side2 ?side3 A14.out).mono ?_); (case side1 => exact Kd.R_V (Kd.R_tight rfl (Kd.R_apart' (HO378.out) (Kd.N_typed HO371.out) (by decide)))); (case side2 => exact kV (Kd.V_reads' HO1.out).2.2); (case side3 => exact (Kd.V_reads' HO1.out).2.1); rintro e w21 ⟨v380, rfl, ho0, hb⟩; refine ⟨_, rfl, ?_⟩; have n0_ := yD (Kd.V_below (by (with_reducible repeat (first | apply Kd.V_alloc | apply Kd.V_drewN | apply Kd.V_drew)); exact HO1.out) hb); have n1_ := yD (Kd.V_below (by (with_reducible repeat (first | apply Kd.V_alloc | apply Kd.V_drewN | apply Kd.V_drew)); exact HO2.out) hb); have n2_ := yD (Kd.N_below (by (with_reducible repeat (first | apply Kd.N_alloc | apply Kd.N_drewN | apply Kd.N_drew)); exact HO371.out) hb); have n3_ := yD (zE (kA HO378) hb); have n4_ := yD (Kd.V_lower (Kd.V_mono (ok' := fun k_ => ((P1_ k_ ∨ P2_ k_) ∨ w.heap.size ≤ k_) ∧ some k_ ≠ (v370 : Value).ownBlock) ho0 (fun k_ hk_ => ⟨Or.elim hk_ (fun hs_ => (.inr (((Kd.R_apart' (HO378.out) (Kd.N_typed HO371.out) (by decide)).1 k_ hs_.symm).1.1))) (fun hn_ => (.inr (Nat.le_trans (below_size (kB HB)) hn_))), Or.elim hk_ (fun hs_ => ((Kd.R_apart' (HO378.out) (Kd.N_typed HO371.out) (by decide)).1 k_ hs_.symm).2) (fun hn_ => (Kd.fresh' (Kd.N_lt (by (with_reducible repeat (first | apply Kd.N_alloc | apply Kd.N_drewN | apply Kd.N_drew)); exact HO371.out)) k_ hn_))⟩)) (below_size (kB HB))); have n5_ := yD (zC (kB HB) hb); clear HO1; clear HO2; clear HO371; clear HO378; clear HB; have HO1 := n0_; have HO2 := n1_; have HO371 := n2_; have HO378 := n3_; have HO381 := n4_; have HB := n5_; clear n0_ n1_ n2_ n3_ n4_ n5_; (try clear hb); (try clear hb2); (try clear hk); (try clear hi); (try clear ho0); obtain ⟨Ao22, co22, eo22⟩ := Kd.V_slice HO381.out; subst eo22) | ((with_reducible refine gate_callee (f := 128) rfl ?_); refine goesL_ (some 38) rfl rfl Try.func128 (by kernel_rfl) rfl #[.slice Ao22 t379.length co22, .slice A2 l2.length c2] rfl (by (try simp only [zK, zL, zM]); first | done | rfl | (simp only [zN, zO]; rfl)) ?_; (with_reducible refine (spec_l07Cuts.calls k (fun k_ => (((P1_ k_ ∨ P2_ k_) ∨ w.heap.size ≤ k_) ∧ some k_ ≠ (v370 : Value).ownBlock)) _ _ t379 _ _ l2 t382 _ ?side1 ?side2 ?side3 A15.out).mono ?_); (case side1 => exact HO381.out); (case side2 => exact kV (Kd.V_reads' HO2.out).2.2); (case side3 => exact (Kd.V_reads' HO2.out).2.1); rintro e w23 ⟨v383, rfl, ho0, hb⟩; refine ⟨_, rfl, ?_⟩; have n0_ := yD (Kd.V_below (by (with_reducible repeat (first | apply Kd.V_alloc | apply Kd.V_drewN | apply Kd.V_drew)); exact HO1.out) hb); have n1_ := yD (Kd.V_below (by (with_reducible repeat (first | apply Kd.V_alloc | apply Kd.V_drewN | apply Kd.V_drew)); exact HO2.out) hb); have n2_ := yD (Kd.N_below (by (with_reducible repeat (first | apply Kd.N_alloc | apply Kd.N_drewN | apply Kd.N_drew)); exact HO371.out) hb); have n3_ := yD (zE (kA HO378) hb); have n4_ := yD (Kd.V_below (by (with_reducible repeat (first | apply Kd.V_alloc | apply Kd.V_drewN | apply Kd.V_drew)); exact HO381.out) hb); have n5_ := yD (Kd.V_lower (Kd.V_mono (ok' := fun k_ => ((P1_ k_ ∨ P2_ k_) ∨ w.heap.size ≤ k_) ∧ some k_ ≠ (v370 : Value).ownBlock) ho0 (fun k_ hk_ => ⟨Or.elim hk_ (fun hs_ => hs_.1) (fun hn_ => (.inr (Nat.le_trans (below_size (kB HB)) hn_))), Or.elim hk_ (fun hs_ => hs_.2) (fun hn_ => (Kd.fresh' (Kd.N_lt (by (with_reducible repeat (first | apply Kd.N_alloc | apply Kd.N_drewN | apply Kd.N_drew)); exact HO371.out)) k_ hn_))⟩)) (below_size (kB HB))); have n6_ := yD (zC (kB HB) hb); clear HO1; clear HO2; clear HO371; clear HO378; clear HO381; clear HB; have HO1 := n0_; have HO2 := n1_; have HO371 := n2_; have HO378 := n3_; have HO381 := n4_; have HO384 := n5_; have HB := n6_; clear n0_ n1_ n2_ n3_ n4_ n5_ n6_; (try clear hb); (try clear hb2); (try clear hk); (try clear hi); (try clear ho0)) | ((with_reducible refine gate_dst (N := 39) rfl ?_); refine Kd.N_lit k42 _ 42 ?hg (N' := 39) ?hd (xs := ([] : List (S42))) (inner := []) (ok := (fun k_ => ((P1_ k_ ∨ P2_ k_) ∨ w.heap.size ≤ k_) ∧ some k_ ≠ (v370 : Value).ownBlock ∧ some k_ ≠ (.slice Ao20 y376.length co20 : Value).ownBlock)) (okp := (fun k_ => ((P1_ k_ ∨ P2_ k_) ∨ w.heap.size ≤ k_) ∧ some k_ ≠ (v370 : Value).ownBlock ∧ some k_ ≠ (.slice Ao20 y376.length co20 : Value).ownBlock)) ?hr ?hp (fun _ hk => hk) ((show ∀ k_, w23.heap.size ≤ k_ → (fun k_ => ((P1_ k_ ∨ P2_ k_) ∨ w.heap.size ≤ k_) ∧ some k_ ≠ (v370 : Value).ownBlock ∧ some k_ ≠ (.slice Ao20 y376.length co20 : Value).ownBlock) k_ from fun k_ hk => ⟨(.inr (Nat.le_trans (below_size (kB HB)) hk)), Kd.fresh' (Kd.N_lt (by (with_reducible repeat (first | apply Kd.N_alloc | apply Kd.N_drewN | apply Kd.N_drew)); exact HO371.out)) k_ hk, Kd.fresh' (yK (kA HO378)) k_ hk⟩) _ (Nat.le_refl _)) (Below.refl _ _) (Nat.le_refl _) (by simp) ?_; (case hd => rfl); (case hg => rfl); (case hr => first | (go_simp; done) | (go_simp; rfl)); (case hp => exact (Reps.none _ _)); intro v386 w24 ho25 hb hg_ hnew_; clear hg_ hnew_; (first | rw [← Ny385.out] at ho25 | (simp only [Int.reduceToNat] at ho25; rw [← Ny385.out] at ho25)); have n0_ := yD (Kd.V_elder' (by (with_reducible repeat (first | apply Kd.V_alloc | apply Kd.V_drewN | apply Kd.V_drew)); exact HO1.out) (Kd.N_base ho25) hb); have n1_ := yD (Kd.V_elder' (by (with_reducible repeat (first | apply Kd.V_alloc | apply Kd.V_drewN | apply Kd.V_drew)); exact HO2.out) (Kd.N_base ho25) hb); have n2_ := yD (Kd.N_elder' (by (with_reducible repeat (first | apply Kd.N_alloc | apply Kd.N_drewN | apply Kd.N_drew)); exact HO371.out) (Kd.N_base ho25) hb); have n3_ := yD (zE (kA HO378) hb); have n4_ := yD (Kd.V_elder' (by (with_reducible repeat (first | apply Kd.V_alloc | apply Kd.V_drewN | apply Kd.V_drew)); exact HO381.out) (Kd.N_base ho25) hb); have n5_ := yD (Kd.V_elder' (by (with_reducible repeat (first | apply Kd.V_alloc | apply Kd.V_drewN | apply Kd.V_drew)); exact HO384.out) (Kd.N_base ho25) hb); have n6_ := yD (Kd.N_lower ho25 (below_size (kB HB))); have n7_ := yD (zC (kB HB) hb); clear HO1; clear HO2; clear HO371; clear HO378; clear HO381; clear HO384; clear HB; have HO1 := n0_; have HO2 := n1_; have HO371 := n2_; have HO378 := n3_; have HO381 := n4_; have HO384 := n5_; have HO387 := n6_; have HB := n7_; clear n0_ n1_ n2_ n3_ n4_ n5_ n6_ n7_; clear hb ho25))
  (try simp only [Act.put, zH, zI, zJ])
  go_loopg [9, 11, 12, 13] k (fun kq v9 v11 v12 v13 w' => ∃ (x9_1 : List (S42)) (x11_1 : List (S42)) (x12_1 : Int) (x13_1 : Int), v12 = .int .i64 x12_1 ∧ v13 = .int .i64 x13_1 ∧ Aside0 (spec_l07Combine.l0 kq a0 l1 l2 a3 x9_1 t382 x11_1 x12_1 x13_1 = some r) ∧ Aside0 (kq ≤ k) ∧ Aside0 (Kd.V k42 42 w' w.heap.size (fun k_ => ((P1_ k_ ∨ P2_ k_) ∨ w.heap.size ≤ k_) ∧ some k_ ≠ (v9 : Value).ownBlock ∧ some k_ ≠ (v11 : Value).ownBlock) (.slice A1 l1.length c1) l1) ∧ Aside0 (Kd.V k42 42 w' w.heap.size (fun k_ => ((P1_ k_ ∨ P2_ k_) ∨ w.heap.size ≤ k_) ∧ some k_ ≠ (v9 : Value).ownBlock ∧ some k_ ≠ (v11 : Value).ownBlock) (.slice A2 l2.length c2) l2) ∧ Aside0 (Kd.N k42 42 w' w.heap.size (fun k_ => ((P1_ k_ ∨ P2_ k_) ∨ w.heap.size ≤ k_) ∧ some k_ ≠ (v11 : Value).ownBlock) v9 x9_1) ∧ Aside0 (Kd.V (Kd.int .i64) 2 w' w.heap.size (fun k_ => ((P1_ k_ ∨ P2_ k_) ∨ w.heap.size ≤ k_) ∧ some k_ ≠ (v9 : Value).ownBlock ∧ some k_ ≠ (v11 : Value).ownBlock) v383 t382) ∧ Aside0 (Kd.N k42 42 w' w.heap.size (fun k_ => ((P1_ k_ ∨ P2_ k_) ∨ w.heap.size ≤ k_) ∧ some k_ ≠ (v9 : Value).ownBlock) v11 x11_1) ∧ Aside0 (Below w.heap.size w w'))
  case atStart => exact ⟨(y369), (y385), (0), (0), (by first | rfl | (simp; done) | (simp [*]; done)), (by first | rfl | (simp; done) | (simp [*]; done)), H', ⟨Nat.le_refl _⟩, ⟨by (with_reducible repeat (first | apply Kd.V_alloc | apply Kd.V_drewN | apply Kd.V_drew)); exact Kd.V_mono HO1.out (fun _ hk => ⟨hk.1.1.1, ⟨hk.1.1.2, hk.2⟩⟩)⟩, ⟨by (with_reducible repeat (first | apply Kd.V_alloc | apply Kd.V_drewN | apply Kd.V_drew)); exact Kd.V_mono HO2.out (fun _ hk => ⟨hk.1.1.1, ⟨hk.1.1.2, hk.2⟩⟩)⟩, ⟨by (with_reducible repeat (first | apply Kd.N_alloc | apply Kd.N_drewN | apply Kd.N_drew)); exact Kd.N_mono HO371.out (fun _ hk => ⟨hk.1.1, hk.2⟩)⟩, ⟨by (with_reducible repeat (first | apply Kd.V_alloc | apply Kd.V_drewN | apply Kd.V_drew)); exact Kd.V_mono HO384.out (fun _ hk => ⟨hk.1.1, ⟨hk.1.2, hk.2⟩⟩)⟩, ⟨by (with_reducible repeat (first | apply Kd.N_alloc | apply Kd.N_drewN | apply Kd.N_drew)); exact Kd.N_mono HO387.out (fun _ hk => ⟨hk.1, hk.2.1⟩)⟩, ⟨kR0 HB⟩⟩
  case round =>
   clear H'
   try clear c1; try clear c2; try clear p2; try clear c5; try clear c5b0; try clear c5b1; try clear c7; try clear c8; try clear c9; try clear c12
   obtain ⟨x9_1, x11_1, x12_1, x13_1, rfl, rfl, HA, HK1, HO_1, HO_2, HO_9, HO_10, HO_11, HB⟩ := hrel
   cases gk with
   | zero => exact absurd HA.out (by simp [spec_l07Combine.l0])
   | succ k1 =>
    have H := HA.out; clear HA
    simp only [spec_l07Combine.l0] at H
    by_cases c26 : x13_1 < (t382.length : Int)
    ·
     rw [if_pos c26] at H
     have c26b0 : decide (x13_1 < (t382.length : Int)) = true := zR c26; clear c26
     obtain ⟨y388, hy388⟩ : ∃ y_ : List (S42), y_ = (([] : List (S42))) := ⟨_, rfl⟩
     replace H : (if (wrap64 (x13_1 + 1)) < (t382.length : Int) then (if 0 ≤ x13_1 then ((spec_l07Cross.f k1 l1 (rd t382 x13_1)).bind fun t392 => ((spec_l07Cross.f k1 l2 (rd t382 x13_1)).bind fun t396 => ((spec_l07Combine.f k1 a0 t392 t396 (wrap64 (a3 - 1))).bind fun t399 => (spec_l07Combine.j1 k1 a0 l1 l2 a3 x9_1 t382 x11_1 x12_1 x13_1 t399)))) else (none)) else (spec_l07Combine.j1 k1 a0 l1 l2 a3 x9_1 t382 x11_1 x12_1 x13_1 y388)) = some r := by first | (rw [hy388]; with_reducible exact H) | (have H2_ := (Option.bind_some _ _).symm.trans H; rw [hy388]; with_reducible exact H2_) | (have H2_ := (Option.bind_some _ _).symm.trans H; with_reducible exact H2_) | with_reducible exact H | (rw [hy388]; exact H) | exact H
     have Ny388 := yD hy388
     clear hy388
     have HC27 := yD H
     clear H
     obtain ⟨Ao28, co28, eo28⟩ := Kd.V_slice HO_10.out
     subst eo28
     go_upto_if 51 with (first | ((with_reducible refine gate_dst (N := 46) rfl ?_); refine Kd.N_lit k42 _ 42 ?hg (N' := 46) ?hd (xs := ([] : List (S42))) (inner := []) (ok := (fun k_ => ((P1_ k_ ∨ P2_ k_) ∨ w.heap.size ≤ k_) ∧ some k_ ≠ (u9 : Value).ownBlock ∧ some k_ ≠ (u11 : Value).ownBlock)) (okp := (fun k_ => ((P1_ k_ ∨ P2_ k_) ∨ w.heap.size ≤ k_) ∧ some k_ ≠ (u9 : Value).ownBlock ∧ some k_ ≠ (u11 : Value).ownBlock)) ?hr ?hp (fun _ hk => hk) ((show ∀ k_, wr.heap.size ≤ k_ → (fun k_ => ((P1_ k_ ∨ P2_ k_) ∨ w.heap.size ≤ k_) ∧ some k_ ≠ (u9 : Value).ownBlock ∧ some k_ ≠ (u11 : Value).ownBlock) k_ from fun k_ hk => ⟨(.inr (Nat.le_trans (below_size (kB HB)) hk)), Kd.fresh' (Kd.N_lt (by (with_reducible repeat (first | apply Kd.N_alloc | apply Kd.N_drewN | apply Kd.N_drew)); exact HO_9.out)) k_ hk, Kd.fresh' (Kd.N_lt (by (with_reducible repeat (first | apply Kd.N_alloc | apply Kd.N_drewN | apply Kd.N_drew)); exact HO_11.out)) k_ hk⟩) _ (Nat.le_refl _)) (Below.refl _ _) (Nat.le_refl _) (by simp) ?_; (case hd => rfl); (case hg => rfl); (case hr => first | (go_simp; done) | (go_simp; rfl)); (case hp => exact (Reps.none _ _)); intro v389 w29 ho30 hb hg_ hnew_; clear hg_ hnew_; (first | rw [← Ny388.out] at ho30 | (simp only [Int.reduceToNat] at ho30; rw [← Ny388.out] at ho30)); have n0_ := yD (Kd.V_elder' (by (with_reducible repeat (first | apply Kd.V_alloc | apply Kd.V_drewN | apply Kd.V_drew)); exact HO_1.out) (Kd.N_base ho30) hb); have n1_ := yD (Kd.V_elder' (by (with_reducible repeat (first | apply Kd.V_alloc | apply Kd.V_drewN | apply Kd.V_drew)); exact HO_2.out) (Kd.N_base ho30) hb); have n2_ := yD (Kd.N_elder' (by (with_reducible repeat (first | apply Kd.N_alloc | apply Kd.N_drewN | apply Kd.N_drew)); exact HO_9.out) (Kd.N_base ho30) hb); have n3_ := yD (Kd.V_elder' (by (with_reducible repeat (first | apply Kd.V_alloc | apply Kd.V_drewN | apply Kd.V_drew)); exact HO_10.out) (Kd.N_base ho30) hb); have n4_ := yD (Kd.N_elder' (by (with_reducible repeat (first | apply Kd.N_alloc | apply Kd.N_drewN | apply Kd.N_drew)); exact HO_11.out) (Kd.N_base ho30) hb); have n5_ := yD (Kd.N_lower ho30 (below_size (kB HB))); have n6_ := yD (zC (kB HB) hb); clear HO_1; clear HO_2; clear HO_9; clear HO_10; clear HO_11; clear HB; have HO_1 := n0_; have HO_2 := n1_; have HO_9 := n2_; have HO_10 := n3_; have HO_11 := n4_; have HO390 := n5_; have HB := n6_; clear n0_ n1_ n2_ n3_ n4_ n5_ n6_; clear hb ho30))
     (try simp only [Act.put, zH, zI, zJ])
     go_cut [14] (fun v14 wc => ∃ (kq : Nat) (x14_26 : List (S42)), Aside0 (spec_l07Combine.j1 kq a0 l1 l2 a3 x9_1 t382 x11_1 x12_1 x13_1 x14_26 = some r) ∧ Aside0 (kq ≤ k1) ∧ Aside0 (Kd.V k42 42 wc w.heap.size (fun k_ => ((P1_ k_ ∨ P2_ k_) ∨ w.heap.size ≤ k_) ∧ some k_ ≠ (u9 : Value).ownBlock ∧ some k_ ≠ (u11 : Value).ownBlock ∧ some k_ ≠ (v14 : Value).ownBlock) (.slice A1 l1.length c1) l1) ∧ Aside0 (Kd.V k42 42 wc w.heap.size (fun k_ => ((P1_ k_ ∨ P2_ k_) ∨ w.heap.size ≤ k_) ∧ some k_ ≠ (u9 : Value).ownBlock ∧ some k_ ≠ (u11 : Value).ownBlock ∧ some k_ ≠ (v14 : Value).ownBlock) (.slice A2 l2.length c2) l2) ∧ Aside0 (Kd.N k42 42 wc w.heap.size (fun k_ => ((P1_ k_ ∨ P2_ k_) ∨ w.heap.size ≤ k_) ∧ some k_ ≠ (u11 : Value).ownBlock ∧ some k_ ≠ (v14 : Value).ownBlock) u9 x9_1) ∧ Aside0 (Kd.V (Kd.int .i64) 2 wc w.heap.size (fun k_ => ((P1_ k_ ∨ P2_ k_) ∨ w.heap.size ≤ k_) ∧ some k_ ≠ (u9 : Value).ownBlock ∧ some k_ ≠ (u11 : Value).ownBlock ∧ some k_ ≠ (v14 : Value).ownBlock) (.slice Ao28 t382.length co28) t382) ∧ Aside0 (Kd.N k42 42 wc w.heap.size (fun k_ => ((P1_ k_ ∨ P2_ k_) ∨ w.heap.size ≤ k_) ∧ some k_ ≠ (u9 : Value).ownBlock ∧ some k_ ≠ (v14 : Value).ownBlock) u11 x11_1) ∧ Aside0 (Kd.N k42 42 wc w.heap.size (fun k_ => ((P1_ k_ ∨ P2_ k_) ∨ w.heap.size ≤ k_) ∧ some k_ ≠ (u9 : Value).ownBlock ∧ some k_ ≠ (u11 : Value).ownBlock) v14 x14_26) ∧ Aside0 (Below w.heap.size w wc))
     case first =>
      have H := HC27.out; clear HC27
      by_cases c31 : (wrap64 (x13_1 + 1)) < (t382.length : Int)
      ·
       rw [if_pos c31] at H
       have c31b0 : decide ((wrap64 (x13_1 + 1)) < (t382.length : Int)) = true := zR c31; clear c31
       (first | rw [c31b0] | (simp only [i64_w, i32_w]; rw [c31b0]) | (simp only [bne] at c31b0; rw [c31b0]) | skip)
       by_cases c32 : 0 ≤ x13_1
       ·
        rw [if_pos c32] at H
        have c32b0 : decide (0 ≤ x13_1) = true := zR c32; clear c32
        obtain ⟨t392, A330, H⟩ := zW_ H
        replace H : ((spec_l07Cross.f k1 l2 (rd t382 x13_1)).bind fun t396 => ((spec_l07Combine.f k1 a0 t392 t396 (wrap64 (a3 - 1))).bind fun t399 => (spec_l07Combine.j1 k1 a0 l1 l2 a3 x9_1 t382 x11_1 x12_1 x13_1 t399))) = some r := H
        have A33 := yD A330
        clear A330
        obtain ⟨t396, A340, H⟩ := zW_ H
        replace H : ((spec_l07Combine.f k1 a0 t392 t396 (wrap64 (a3 - 1))).bind fun t399 => (spec_l07Combine.j1 k1 a0 l1 l2 a3 x9_1 t382 x11_1 x12_1 x13_1 t399)) = some r := H
        have A34 := yD A340
        clear A340
        obtain ⟨t399, A350, H⟩ := zW_ H
        replace H : (spec_l07Combine.j1 k1 a0 l1 l2 a3 x9_1 t382 x11_1 x12_1 x13_1 t399) = some r := H
        have A35 := yD A350
        clear A350
        have H' := yD H
        clear H
        try go_wp2
        have n0_ := yD (Kd.V_drew HO_1.out)
        have n1_ := yD (Kd.V_drew HO_2.out)
        have n2_ := yD (Kd.N_drew HO_9.out)
        have n3_ := yD (Kd.V_drew HO_10.out)
        have n4_ := yD (Kd.N_drew HO_11.out)
        have n5_ := yD (Kd.N_drew HO390.out)
        have n6_ := yD (yP HB.out)
        clear HO_1 HO_2 HO_9 HO_10 HO_11 HO390 HB; have HO_1 := n0_; have HO_2 := n1_; have HO_9 := n2_; have HO_10 := n3_; have HO_11 := n4_; have HO390 := n5_; have HB := n6_; clear n0_ n1_ n2_ n3_ n4_ n5_ n6_
        have p391 : 0 ≤ (x13_1 : Int) := zP (by assumption)
        have q391 : x13_1 < (t382.length : Int) := zP (by assumption)
        obtain ⟨ad391, e391, hx391_0⟩ := Kd.at_int (Kd.V_reads' HO_10.out).2.2 x13_1 p391 q391
        cases e391; replace p391 := eq_true p391; replace q391 := eq_true q391
        have p395 : 0 ≤ (x13_1 : Int) := zP (by assumption)
        have q395 : x13_1 < (t382.length : Int) := zP (by assumption)
        obtain ⟨ad395, e395, hx395_0⟩ := Kd.at_int (Kd.V_reads' HO_10.out).2.2 x13_1 p395 q395
        obtain rfl : ad391 = ad395 := (by injection e395)
        replace p395 := eq_true p395; replace q395 := eq_true q395
        refine start_ (n := 17) (S := fun w' => w'.cell? (ad391.add (x13_1).toNat) = some (.int .i64 (rd t382 x13_1)) ∧ w'.cell? (ad391.add (x13_1).toNat) = some (.int .i64 (rd t382 x13_1))) (ds := []) (bz 17 0) (by kernel_rfl) rfl rfl ⟨hx391_0, hx395_0⟩ (fun hHeld => ?_); refine with_tabW spec_l07Combine.tab14 spec_l07Combine.bits14 (fun HT_ HW_ => ?_)
        generalize w29.drew = w36 at HO_1 HO_2 HO_9 HO_10 HO_11 HO390 HB hx391_0 hx395_0 hHeld ⊢
        refine qA 0 52 (bz 17 1) HT_ ?_
        refine qA 1 53 (bz 17 3) HT_ ?_
        refine qA 2 54 (bz 17 7) HT_ ?_
        refine qA 3 55 (bz 17 15) HT_ ?_
        refine qA 4 56 (bz 17 31) HT_ ?_
        refine qA 7 59 (bz 17 159) HT_ ?_
        refine qA 8 60 (bz 17 415) HT_ ?_
        refine qA 9 61 (bz 17 927) HT_ ?_
        refine qA 10 62 (bz 17 1951) HT_ ?_
        refine qA 13 65 (bz 17 10143) HT_ ?_
        refine qA 14 66 (bz 17 26527) HT_ ?_
        refine qC 5 57 (bz 17 26559) HT_ HW_ hHeld ?_ (hy := by rintro w' ⟨s0, s1⟩; go_simp; with_reducible rfl)
        refine qC 11 63 (bz 17 28607) HT_ HW_ hHeld ?_ (hy := by rintro w' ⟨s0, s1⟩; go_simp; with_reducible rfl)
        refine one_ (i := 6) (N := some 58) (bz 17 28671) rfl rfl (one_of HT_.out (by kernel_rfl)) (by decide) (fun K hK => ?_)
        refine goes_ Try.func129 (by kernel_rfl) rfl #[.slice A1 l1.length c1, .int .i64 (rd t382 x13_1)] (by rfl) rfl rfl (by (try simp only [zK, zL, zM]); first | done | rfl | (simp only [zN, zO]; rfl)) ?_
        with_reducible refine (spec_l07Cross.calls k1 (fun k_ => ((((P1_ k_ ∨ P2_ k_) ∨ w.heap.size ≤ k_) ∧ (some k_ ≠ (u9 : Value).ownBlock ∧ some k_ ≠ (u11 : Value).ownBlock)) ∧ some k_ ≠ (v389 : Value).ownBlock)) _ _ l1 (rd t382 x13_1) t392 _ ?side1 A33.out).mono ?_
        (case side1 => exact HO_1.out)
        rintro e w37 ⟨v393, rfl, ho0, hb⟩
        have HS0_ := (hb.cell (zQ _ _ (hHeld.1))).trans (hHeld.1)
        have HS1_ := (hb.cell (zQ _ _ (hHeld.2))).trans (hHeld.2)
        refine ⟨_, rfl, ?_⟩
        have n0_ := yD (Kd.V_elder' (by (with_reducible repeat (first | apply Kd.V_alloc | apply Kd.V_drewN | apply Kd.V_drew)); exact HO_1.out) (Kd.N_base ho0) hb)
        have n1_ := yD (Kd.V_elder' (by (with_reducible repeat (first | apply Kd.V_alloc | apply Kd.V_drewN | apply Kd.V_drew)); exact HO_2.out) (Kd.N_base ho0) hb)
        have n2_ := yD (Kd.N_elder' (by (with_reducible repeat (first | apply Kd.N_alloc | apply Kd.N_drewN | apply Kd.N_drew)); exact HO_9.out) (Kd.N_base ho0) hb)
        have n3_ := yD (Kd.V_elder' (by (with_reducible repeat (first | apply Kd.V_alloc | apply Kd.V_drewN | apply Kd.V_drew)); exact HO_10.out) (Kd.N_base ho0) hb)
        have n4_ := yD (Kd.N_elder' (by (with_reducible repeat (first | apply Kd.N_alloc | apply Kd.N_drewN | apply Kd.N_drew)); exact HO_11.out) (Kd.N_base ho0) hb)
        have n5_ := yD (Kd.N_elder' (by (with_reducible repeat (first | apply Kd.N_alloc | apply Kd.N_drewN | apply Kd.N_drew)); exact HO390.out) (Kd.N_base ho0) hb)
        have n6_ := yD (Kd.N_lower (Kd.N_mono (ok' := fun k_ => ((P1_ k_ ∨ P2_ k_) ∨ w.heap.size ≤ k_) ∧ some k_ ≠ (u9 : Value).ownBlock ∧ some k_ ≠ (u11 : Value).ownBlock ∧ some k_ ≠ (v389 : Value).ownBlock) ho0 (fun k_ hk_ => ⟨Or.elim hk_ (fun hs_ => hs_.1.1) (fun hn_ => (.inr (Nat.le_trans (below_size (kB HB)) hn_))), Or.elim hk_ (fun hs_ => hs_.1.2.1) (fun hn_ => (Kd.fresh' (Kd.N_lt (by (with_reducible repeat (first | apply Kd.N_alloc | apply Kd.N_drewN | apply Kd.N_drew)); exact HO_9.out)) k_ hn_)), Or.elim hk_ (fun hs_ => hs_.1.2.2) (fun hn_ => (Kd.fresh' (Kd.N_lt (by (with_reducible repeat (first | apply Kd.N_alloc | apply Kd.N_drewN | apply Kd.N_drew)); exact HO_11.out)) k_ hn_)), Or.elim hk_ (fun hs_ => hs_.2) (fun hn_ => (Kd.fresh' (Kd.N_lt (by (with_reducible repeat (first | apply Kd.N_alloc | apply Kd.N_drewN | apply Kd.N_drew)); exact HO390.out)) k_ hn_))⟩)) (below_size (kB HB)))
        have n7_ := yD (zC (kB HB) hb)
        clear HO_1 HO_2 HO_9 HO_10 HO_11 HO390 HB; have HO_1 := n0_; have HO_2 := n1_; have HO_9 := n2_; have HO_10 := n3_; have HO_11 := n4_; have HO390 := n5_; have HO394 := n6_; have HB := n7_; clear n0_ n1_ n2_ n3_ n4_ n5_ n6_ n7_; (try clear hb); (try clear hb2); (try clear hk); (try clear hi); (try clear ho0)
        refine hK.out _ _ ⟨HS0_, HS1_⟩ (fun hHeld => ?_)
        clear hK K
        refine norm_ (a' := ?_) ?_ ?_
        rotate_left
        · show Act.put _ (some 58) _ = _
          simp only [Act.put, zH, zI, zJ, i64_w, i32_w]
          rfl
        refine one_ (i := 12) (N := some 64) (bz 17 32767) rfl rfl (one_of HT_.out (by kernel_rfl)) (by decide) (fun K hK => ?_)
        refine goes_ Try.func129 (by kernel_rfl) rfl #[.slice A2 l2.length c2, .int .i64 (rd t382 x13_1)] (by rfl) rfl rfl (by (try simp only [zK, zL, zM]); first | done | rfl | (simp only [zN, zO]; rfl)) ?_
        with_reducible refine (spec_l07Cross.calls k1 (fun k_ => (((((P1_ k_ ∨ P2_ k_) ∨ w.heap.size ≤ k_) ∧ (some k_ ≠ (u9 : Value).ownBlock ∧ some k_ ≠ (u11 : Value).ownBlock)) ∧ some k_ ≠ (v389 : Value).ownBlock) ∧ some k_ ≠ (v393 : Value).ownBlock)) _ _ l2 (rd t382 x13_1) t396 _ ?side1 A34.out).mono ?_
        (case side1 => exact HO_2.out)
        rintro e w38 ⟨v397, rfl, ho0, hb⟩
        have HS0_ := (hb.cell (zQ _ _ (hHeld.1))).trans (hHeld.1)
        have HS1_ := (hb.cell (zQ _ _ (hHeld.2))).trans (hHeld.2)
        refine ⟨_, rfl, ?_⟩
        have n0_ := yD (Kd.V_elder' (by (with_reducible repeat (first | apply Kd.V_alloc | apply Kd.V_drewN | apply Kd.V_drew)); exact HO_1.out) (Kd.N_base ho0) hb)
        have n1_ := yD (Kd.V_elder' (by (with_reducible repeat (first | apply Kd.V_alloc | apply Kd.V_drewN | apply Kd.V_drew)); exact HO_2.out) (Kd.N_base ho0) hb)
        have n2_ := yD (Kd.N_elder' (by (with_reducible repeat (first | apply Kd.N_alloc | apply Kd.N_drewN | apply Kd.N_drew)); exact HO_9.out) (Kd.N_base ho0) hb)
        have n3_ := yD (Kd.V_elder' (by (with_reducible repeat (first | apply Kd.V_alloc | apply Kd.V_drewN | apply Kd.V_drew)); exact HO_10.out) (Kd.N_base ho0) hb)
        have n4_ := yD (Kd.N_elder' (by (with_reducible repeat (first | apply Kd.N_alloc | apply Kd.N_drewN | apply Kd.N_drew)); exact HO_11.out) (Kd.N_base ho0) hb)
        have n5_ := yD (Kd.N_elder' (by (with_reducible repeat (first | apply Kd.N_alloc | apply Kd.N_drewN | apply Kd.N_drew)); exact HO390.out) (Kd.N_base ho0) hb)
        have n6_ := yD (Kd.N_elder' (by (with_reducible repeat (first | apply Kd.N_alloc | apply Kd.N_drewN | apply Kd.N_drew)); exact HO394.out) (Kd.N_base ho0) hb)
        have n7_ := yD (Kd.N_lower (Kd.N_mono (ok' := fun k_ => ((P1_ k_ ∨ P2_ k_) ∨ w.heap.size ≤ k_) ∧ some k_ ≠ (u9 : Value).ownBlock ∧ some k_ ≠ (u11 : Value).ownBlock ∧ some k_ ≠ (v389 : Value).ownBlock ∧ some k_ ≠ (v393 : Value).ownBlock) ho0 (fun k_ hk_ => ⟨Or.elim hk_ (fun hs_ => hs_.1.1.1) (fun hn_ => (.inr (Nat.le_trans (below_size (kB HB)) hn_))), Or.elim hk_ (fun hs_ => hs_.1.1.2.1) (fun hn_ => (Kd.fresh' (Kd.N_lt (by (with_reducible repeat (first | apply Kd.N_alloc | apply Kd.N_drewN | apply Kd.N_drew)); exact HO_9.out)) k_ hn_)), Or.elim hk_ (fun hs_ => hs_.1.1.2.2) (fun hn_ => (Kd.fresh' (Kd.N_lt (by (with_reducible repeat (first | apply Kd.N_alloc | apply Kd.N_drewN | apply Kd.N_drew)); exact HO_11.out)) k_ hn_)), Or.elim hk_ (fun hs_ => hs_.1.2) (fun hn_ => (Kd.fresh' (Kd.N_lt (by (with_reducible repeat (first | apply Kd.N_alloc | apply Kd.N_drewN | apply Kd.N_drew)); exact HO390.out)) k_ hn_)), Or.elim hk_ (fun hs_ => hs_.2) (fun hn_ => (Kd.fresh' (Kd.N_lt (by (with_reducible repeat (first | apply Kd.N_alloc | apply Kd.N_drewN | apply Kd.N_drew)); exact HO394.out)) k_ hn_))⟩)) (below_size (kB HB)))
        have n8_ := yD (zC (kB HB) hb)
        clear HO_1 HO_2 HO_9 HO_10 HO_11 HO390 HO394 HB; have HO_1 := n0_; have HO_2 := n1_; have HO_9 := n2_; have HO_10 := n3_; have HO_11 := n4_; have HO390 := n5_; have HO394 := n6_; have HO398 := n7_; have HB := n8_; clear n0_ n1_ n2_ n3_ n4_ n5_ n6_ n7_ n8_; (try clear hb); (try clear hb2); (try clear hk); (try clear hi); (try clear ho0)
        obtain ⟨Ao39, co39, eo39⟩ := Kd.N_slice HO394.out
        (first | subst eo39 | (injection eo39 with f1_ f2_ f3_; have f4_ := f1_.symm; have f5_ := f3_.symm; clear f1_ f2_ f3_; subst f4_; subst f5_))
        obtain ⟨Ao40, co40, eo40⟩ := Kd.N_slice HO398.out
        (first | subst eo40 | (injection eo40 with f1_ f2_ f3_; have f4_ := f1_.symm; have f5_ := f3_.symm; clear f1_ f2_ f3_; subst f4_; subst f5_))
        refine hK.out _ _ ⟨HS0_, HS1_⟩ (fun hHeld => ?_)
        clear hK K
        refine norm_ (a' := ?_) ?_ ?_
        rotate_left
        · show Act.put _ (some 64) _ = _
          simp only [Act.put, zH, zI, zJ, i64_w, i32_w]
          rfl
        refine one_ (i := 15) (N := some 67) (bz 17 65535) rfl rfl (one_of HT_.out (by kernel_rfl)) (by decide) (fun K hK => ?_)
        refine goes_ Try.func97 (by kernel_rfl) rfl #[.int .i64 a0, .slice Ao39 t392.length co39, .slice Ao40 t396.length co40, .int .i64 (wrap64 (a3 - 1))] (by rfl) rfl rfl (by (try simp only [zK, zL, zM]); first | done | rfl | (simp only [zN, zO]; rfl)) ?_
        with_reducible refine (ih k1 (by have := HK1.out; omega) a0 (fun k_ => ((((P1_ k_ ∨ P2_ k_) ∨ w.heap.size ≤ k_) ∧ (some k_ ≠ (u9 : Value).ownBlock ∧ (some k_ ≠ (u11 : Value).ownBlock ∧ some k_ ≠ (v389 : Value).ownBlock))) ∧ some k_ ≠ (.slice Ao40 t396.length co40 : Value).ownBlock)) _ _ t392 (fun k_ => (((P1_ k_ ∨ P2_ k_) ∨ w.heap.size ≤ k_) ∧ (some k_ ≠ (u9 : Value).ownBlock ∧ (some k_ ≠ (u11 : Value).ownBlock ∧ (some k_ ≠ (v389 : Value).ownBlock ∧ some k_ ≠ (.slice Ao39 t392.length co39 : Value).ownBlock))))) _ _ t396 (wrap64 (a3 - 1)) t399 _ ?side1 ?side2 A35.out).mono ?_
        (case side1 => exact Kd.N_V (HO394.out))
        (case side2 => exact Kd.N_V (HO398.out))
        rintro e w41 ⟨v400, rfl, ho0, hb⟩
        have HS0_ := (hb.cell (zQ _ _ (hHeld.1))).trans (hHeld.1)
        have HS1_ := (hb.cell (zQ _ _ (hHeld.2))).trans (hHeld.2)
        refine ⟨_, rfl, ?_⟩
        have n0_ := yD (Kd.V_elder' (by (with_reducible repeat (first | apply Kd.V_alloc | apply Kd.V_drewN | apply Kd.V_drew)); exact HO_1.out) (Kd.N_base ho0) hb)
        have n1_ := yD (Kd.V_elder' (by (with_reducible repeat (first | apply Kd.V_alloc | apply Kd.V_drewN | apply Kd.V_drew)); exact HO_2.out) (Kd.N_base ho0) hb)
        have n2_ := yD (Kd.N_elder' (by (with_reducible repeat (first | apply Kd.N_alloc | apply Kd.N_drewN | apply Kd.N_drew)); exact HO_9.out) (Kd.N_base ho0) hb)
        have n3_ := yD (Kd.V_elder' (by (with_reducible repeat (first | apply Kd.V_alloc | apply Kd.V_drewN | apply Kd.V_drew)); exact HO_10.out) (Kd.N_base ho0) hb)
        have n4_ := yD (Kd.N_elder' (by (with_reducible repeat (first | apply Kd.N_alloc | apply Kd.N_drewN | apply Kd.N_drew)); exact HO_11.out) (Kd.N_base ho0) hb)
        have n5_ := yD (Kd.N_elder' (by (with_reducible repeat (first | apply Kd.N_alloc | apply Kd.N_drewN | apply Kd.N_drew)); exact HO390.out) (Kd.N_base ho0) hb)
        have n6_ := yD (Kd.N_elder' (by (with_reducible repeat (first | apply Kd.N_alloc | apply Kd.N_drewN | apply Kd.N_drew)); exact HO394.out) (Kd.N_base ho0) hb)
        have n7_ := yD (Kd.N_elder' (by (with_reducible repeat (first | apply Kd.N_alloc | apply Kd.N_drewN | apply Kd.N_drew)); exact HO398.out) (Kd.N_base ho0) hb)
        have n8_ := yD (Kd.N_lower (Kd.N_mono (ok' := fun k_ => ((P1_ k_ ∨ P2_ k_) ∨ w.heap.size ≤ k_) ∧ some k_ ≠ (u9 : Value).ownBlock ∧ some k_ ≠ (u11 : Value).ownBlock ∧ some k_ ≠ (v389 : Value).ownBlock) ho0 (fun k_ hk_ => ⟨Or.elim hk_ (fun hs_ => Or.elim hs_ (fun hs_ => hs_.1.1) (fun hs_ => hs_.1)) (fun hn_ => (.inr (Nat.le_trans (below_size (kB HB)) hn_))), Or.elim hk_ (fun hs_ => Or.elim hs_ (fun hs_ => hs_.1.2.1) (fun hs_ => hs_.2.1)) (fun hn_ => (Kd.fresh' (Kd.N_lt (by (with_reducible repeat (first | apply Kd.N_alloc | apply Kd.N_drewN | apply Kd.N_drew)); exact HO_9.out)) k_ hn_)), Or.elim hk_ (fun hs_ => Or.elim hs_ (fun hs_ => hs_.1.2.2.1) (fun hs_ => hs_.2.2.1)) (fun hn_ => (Kd.fresh' (Kd.N_lt (by (with_reducible repeat (first | apply Kd.N_alloc | apply Kd.N_drewN | apply Kd.N_drew)); exact HO_11.out)) k_ hn_)), Or.elim hk_ (fun hs_ => Or.elim hs_ (fun hs_ => hs_.1.2.2.2) (fun hs_ => hs_.2.2.2.1)) (fun hn_ => (Kd.fresh' (Kd.N_lt (by (with_reducible repeat (first | apply Kd.N_alloc | apply Kd.N_drewN | apply Kd.N_drew)); exact HO390.out)) k_ hn_))⟩)) (below_size (kB HB)))
        have n9_ := yD (zC (kB HB) hb)
        clear HO_1 HO_2 HO_9 HO_10 HO_11 HO390 HO394 HO398 HB; have HO_1 := n0_; have HO_2 := n1_; have HO_9 := n2_; have HO_10 := n3_; have HO_11 := n4_; have HO390 := n5_; have HO394 := n6_; have HO398 := n7_; have HO401 := n8_; have HB := n9_; clear n0_ n1_ n2_ n3_ n4_ n5_ n6_ n7_ n8_ n9_; (try clear hb); (try clear hb2); (try clear hk); (try clear hi); (try clear ho0)
        refine hK.out _ _ ⟨HS0_, HS1_⟩ (fun hHeld => ?_)
        clear hK K
        refine norm_ (a' := ?_) ?_ ?_
        rotate_left
        · show Act.put _ (some 67) _ = _
          simp only [Act.put, zH, zI, zJ, i64_w, i32_w]
          rfl
        refine qA 16 14 (bz 17 131071) HT_ ?_
        refine done_ (done_of HT_.out (by kernel_rfl)) ?_
        try go_wp2
        go_meet
        case rel => exact ⟨_, (t399), H', ⟨by have := HK1.out; first | omega | exact Nat.le_refl _⟩, ⟨by (with_reducible repeat (first | apply Kd.V_alloc | apply Kd.V_drewN | apply Kd.V_drew)); exact Kd.V_mono HO_1.out (fun _ hk => ⟨hk.1.1.1.1.1, ⟨hk.1.1.1.1.2.1, ⟨hk.1.1.1.1.2.2, hk.2⟩⟩⟩)⟩, ⟨by (with_reducible repeat (first | apply Kd.V_alloc | apply Kd.V_drewN | apply Kd.V_drew)); exact Kd.V_mono HO_2.out (fun _ hk => ⟨hk.1.1.1.1.1, ⟨hk.1.1.1.1.2.1, ⟨hk.1.1.1.1.2.2, hk.2⟩⟩⟩)⟩, ⟨by (with_reducible repeat (first | apply Kd.N_alloc | apply Kd.N_drewN | apply Kd.N_drew)); exact Kd.N_mono HO_9.out (fun _ hk => ⟨hk.1.1.1.1.1, ⟨hk.1.1.1.1.2, hk.2⟩⟩)⟩, ⟨by (with_reducible repeat (first | apply Kd.V_alloc | apply Kd.V_drewN | apply Kd.V_drew)); exact Kd.V_mono HO_10.out (fun _ hk => ⟨hk.1.1.1.1.1, ⟨hk.1.1.1.1.2.1, ⟨hk.1.1.1.1.2.2, hk.2⟩⟩⟩)⟩, ⟨by (with_reducible repeat (first | apply Kd.N_alloc | apply Kd.N_drewN | apply Kd.N_drew)); exact Kd.N_mono HO_11.out (fun _ hk => ⟨hk.1.1.1.1.1, ⟨hk.1.1.1.1.2, hk.2⟩⟩)⟩, ⟨by (with_reducible repeat (first | apply Kd.N_alloc | apply Kd.N_drewN | apply Kd.N_drew)); exact Kd.N_mono HO401.out (fun _ hk => ⟨hk.1, ⟨hk.2.1, hk.2.2.1⟩⟩)⟩, ⟨kR0 HB⟩⟩
       · rw [if_neg c32] at H
         exact absurd H (by simp)
      · rw [if_neg c31] at H
        have c31b0 : decide ((wrap64 (x13_1 + 1)) < (t382.length : Int)) = false := zS c31; clear c31
        (first | rw [c31b0] | (simp only [i64_w, i32_w]; rw [c31b0]) | (simp only [bne] at c31b0; rw [c31b0]) | skip)
        have H' := yD H
        clear H
        go_wp2
        go_meet
        case rel => exact ⟨_, (y388), H', ⟨by have := HK1.out; first | omega | exact Nat.le_refl _⟩, ⟨by (with_reducible repeat (first | apply Kd.V_alloc | apply Kd.V_drewN | apply Kd.V_drew)); exact Kd.V_mono HO_1.out (fun _ hk => ⟨hk.1.1, ⟨hk.1.2.1, ⟨hk.1.2.2, hk.2⟩⟩⟩)⟩, ⟨by (with_reducible repeat (first | apply Kd.V_alloc | apply Kd.V_drewN | apply Kd.V_drew)); exact Kd.V_mono HO_2.out (fun _ hk => ⟨hk.1.1, ⟨hk.1.2.1, ⟨hk.1.2.2, hk.2⟩⟩⟩)⟩, ⟨by (with_reducible repeat (first | apply Kd.N_alloc | apply Kd.N_drewN | apply Kd.N_drew)); exact Kd.N_mono HO_9.out (fun _ hk => ⟨hk.1.1, ⟨hk.1.2, hk.2⟩⟩)⟩, ⟨by (with_reducible repeat (first | apply Kd.V_alloc | apply Kd.V_drewN | apply Kd.V_drew)); exact Kd.V_mono HO_10.out (fun _ hk => ⟨hk.1.1, ⟨hk.1.2.1, ⟨hk.1.2.2, hk.2⟩⟩⟩)⟩, ⟨by (with_reducible repeat (first | apply Kd.N_alloc | apply Kd.N_drewN | apply Kd.N_drew)); exact Kd.N_mono HO_11.out (fun _ hk => ⟨hk.1.1, ⟨hk.1.2, hk.2⟩⟩)⟩, ⟨by (with_reducible repeat (first | apply Kd.N_alloc | apply Kd.N_drewN | apply Kd.N_drew)); exact HO390.out⟩, ⟨kR0 HB⟩⟩
     case rest =>
      clear HC27; try clear c1; try clear c2; try clear p2; try clear c3; try clear p3; try clear q3; try clear hx3; try clear c5; try clear c5b0; try clear c5b1; try clear p6; try clear c7; try clear c8; try clear c9; try clear c12; try clear c26; try clear c26b0; try clear c31; try clear c31b0; try clear c32; try clear c32b0; try clear p39; try clear q39; try clear hx39; try clear hx391_0; try clear hx395_0; try clear p2; try clear p391; try clear p395; try clear q391; try clear q395
      obtain ⟨kq, x14_26, HA, HJ26, HO_1, HO_2, HO_9, HO_10, HO_11, HO_14, HB⟩ := hcut
      cases kq with
      | zero => exact absurd HA.out (by simp [spec_l07Combine.j1])
      | succ kj26 =>
       have H := HA.out; clear HA
       simp only [spec_l07Combine.j1] at H
       have HC42 := yD H
       clear H
       go_upto_region 15 with (fail)
       go_cut [74] (fun v74 wc => ∃ (kq : Nat) (x74_41 : Bool), v74 = .bool x74_41 ∧ Aside0 (spec_l07Combine.j2 kq a0 l1 l2 a3 x9_1 t382 x11_1 x12_1 x13_1 x14_26 x74_41 = some r) ∧ Aside0 (kq ≤ kj26) ∧ Aside0 (Kd.V k42 42 wc w.heap.size (fun k_ => ((P1_ k_ ∨ P2_ k_) ∨ w.heap.size ≤ k_) ∧ some k_ ≠ (u9 : Value).ownBlock ∧ some k_ ≠ (u11 : Value).ownBlock ∧ some k_ ≠ (u14 : Value).ownBlock) (.slice A1 l1.length c1) l1) ∧ Aside0 (Kd.V k42 42 wc w.heap.size (fun k_ => ((P1_ k_ ∨ P2_ k_) ∨ w.heap.size ≤ k_) ∧ some k_ ≠ (u9 : Value).ownBlock ∧ some k_ ≠ (u11 : Value).ownBlock ∧ some k_ ≠ (u14 : Value).ownBlock) (.slice A2 l2.length c2) l2) ∧ Aside0 (Kd.N k42 42 wc w.heap.size (fun k_ => ((P1_ k_ ∨ P2_ k_) ∨ w.heap.size ≤ k_) ∧ some k_ ≠ (u11 : Value).ownBlock ∧ some k_ ≠ (u14 : Value).ownBlock) u9 x9_1) ∧ Aside0 (Kd.V (Kd.int .i64) 2 wc w.heap.size (fun k_ => ((P1_ k_ ∨ P2_ k_) ∨ w.heap.size ≤ k_) ∧ some k_ ≠ (u9 : Value).ownBlock ∧ some k_ ≠ (u11 : Value).ownBlock ∧ some k_ ≠ (u14 : Value).ownBlock) (.slice Ao28 t382.length co28) t382) ∧ Aside0 (Kd.N k42 42 wc w.heap.size (fun k_ => ((P1_ k_ ∨ P2_ k_) ∨ w.heap.size ≤ k_) ∧ some k_ ≠ (u9 : Value).ownBlock ∧ some k_ ≠ (u14 : Value).ownBlock) u11 x11_1) ∧ Aside0 (Kd.N k42 42 wc w.heap.size (fun k_ => ((P1_ k_ ∨ P2_ k_) ∨ w.heap.size ≤ k_) ∧ some k_ ≠ (u9 : Value).ownBlock ∧ some k_ ≠ (u11 : Value).ownBlock) u14 x14_26) ∧ Aside0 (Below w.heap.size w wc))
       case first =>
        have H := HC42.out; clear HC42
        by_cases c43 : x13_1 > 0
        ·
         rw [if_pos c43] at H
         have c43b0 : decide (0 < x13_1) = true := zR c43; clear c43
         (first | rw [c43b0] | (simp only [i64_w, i32_w]; rw [c43b0]) | (simp only [bne] at c43b0; rw [c43b0]) | skip)
         obtain ⟨t402, A440, H⟩ := zW_ H
         replace H : (spec_l07Combine.j2 kj26 a0 l1 l2 a3 x9_1 t382 x11_1 x12_1 x13_1 x14_26 t402) = some r := H
         have A44 := yD A440
         clear A440
         have H' := yD H
         clear H
         obtain ⟨Ao45, co45, eo45⟩ := Kd.N_slice HO_14.out
         subst eo45
         obtain ⟨Ao46, co46, eo46⟩ := Kd.N_slice HO_11.out
         subst eo46
         go_wp2_with (first | (go_at_call 130; (with_reducible refine (spec_l07Same.calls kj26 _ _ x14_26 _ _ x11_1 t402 _ ?side1 ?side2 ?side3 ?side4 A44.out).mono ?_); (case side1 => exact kV (Kd.N_reads' HO_14.out).2.2); (case side2 => exact (Kd.N_reads' HO_14.out).2.1); (case side3 => exact kV (Kd.N_reads' HO_11.out).2.2); (case side4 => exact (Kd.N_reads' HO_11.out).2.1); rintro e w47 ⟨rfl, hb⟩; have n0_ := yD (Kd.V_below (by (with_reducible repeat (first | apply Kd.V_alloc | apply Kd.V_drewN | apply Kd.V_drew)); exact HO_1.out) hb); have n1_ := yD (Kd.V_below (by (with_reducible repeat (first | apply Kd.V_alloc | apply Kd.V_drewN | apply Kd.V_drew)); exact HO_2.out) hb); have n2_ := yD (Kd.N_below (by (with_reducible repeat (first | apply Kd.N_alloc | apply Kd.N_drewN | apply Kd.N_drew)); exact HO_9.out) hb); have n3_ := yD (Kd.V_below (by (with_reducible repeat (first | apply Kd.V_alloc | apply Kd.V_drewN | apply Kd.V_drew)); exact HO_10.out) hb); have n4_ := yD (Kd.N_below (by (with_reducible repeat (first | apply Kd.N_alloc | apply Kd.N_drewN | apply Kd.N_drew)); exact HO_11.out) hb); have n5_ := yD (Kd.N_below (by (with_reducible repeat (first | apply Kd.N_alloc | apply Kd.N_drewN | apply Kd.N_drew)); exact HO_14.out) hb); have n6_ := yD (zC (kB HB) hb); clear HO_1; clear HO_2; clear HO_9; clear HO_10; clear HO_11; clear HO_14; clear HB; have HO_1 := n0_; have HO_2 := n1_; have HO_9 := n2_; have HO_10 := n3_; have HO_11 := n4_; have HO_14 := n5_; have HB := n6_; clear n0_ n1_ n2_ n3_ n4_ n5_ n6_; (try clear hb); (try clear hb2); (try clear hk); (try clear hi)))
         go_meet
         case rel => exact ⟨_, (t402), (by first | rfl | (simp; done) | (simp [*]; done)), H', ⟨by have := HK1.out; have := HJ26.out; first | omega | exact Nat.le_refl _⟩, ⟨by (with_reducible repeat (first | apply Kd.V_alloc | apply Kd.V_drewN | apply Kd.V_drew)); exact HO_1.out⟩, ⟨by (with_reducible repeat (first | apply Kd.V_alloc | apply Kd.V_drewN | apply Kd.V_drew)); exact HO_2.out⟩, ⟨by (with_reducible repeat (first | apply Kd.N_alloc | apply Kd.N_drewN | apply Kd.N_drew)); exact HO_9.out⟩, ⟨by (with_reducible repeat (first | apply Kd.V_alloc | apply Kd.V_drewN | apply Kd.V_drew)); exact HO_10.out⟩, ⟨by (with_reducible repeat (first | apply Kd.N_alloc | apply Kd.N_drewN | apply Kd.N_drew)); exact HO_11.out⟩, ⟨by (with_reducible repeat (first | apply Kd.N_alloc | apply Kd.N_drewN | apply Kd.N_drew)); exact HO_14.out⟩, ⟨kR0 HB⟩⟩
        · rw [if_neg c43] at H
          have c43b0 : decide (0 < x13_1) = false := zS c43; clear c43
          (first | rw [c43b0] | (simp only [i64_w, i32_w]; rw [c43b0]) | (simp only [bne] at c43b0; rw [c43b0]) | skip)
          have H' := yD H
          clear H
          go_wp2
          go_meet
          case rel => exact ⟨_, (false), (by first | rfl | (simp; done) | (simp [*]; done)), H', ⟨by have := HK1.out; have := HJ26.out; first | omega | exact Nat.le_refl _⟩, ⟨by (with_reducible repeat (first | apply Kd.V_alloc | apply Kd.V_drewN | apply Kd.V_drew)); exact HO_1.out⟩, ⟨by (with_reducible repeat (first | apply Kd.V_alloc | apply Kd.V_drewN | apply Kd.V_drew)); exact HO_2.out⟩, ⟨by (with_reducible repeat (first | apply Kd.N_alloc | apply Kd.N_drewN | apply Kd.N_drew)); exact HO_9.out⟩, ⟨by (with_reducible repeat (first | apply Kd.V_alloc | apply Kd.V_drewN | apply Kd.V_drew)); exact HO_10.out⟩, ⟨by (with_reducible repeat (first | apply Kd.N_alloc | apply Kd.N_drewN | apply Kd.N_drew)); exact HO_11.out⟩, ⟨by (with_reducible repeat (first | apply Kd.N_alloc | apply Kd.N_drewN | apply Kd.N_drew)); exact HO_14.out⟩, ⟨kR0 HB⟩⟩
       case rest =>
        clear HC42; try clear c1; try clear c2; try clear p2; try clear c3; try clear p3; try clear q3; try clear hx3; try clear c4; try clear c5; try clear c5b0; try clear c5b1; try clear p6; try clear c7; try clear c8; try clear c9; try clear c12; try clear c26; try clear c26b0; try clear c31; try clear c31b0; try clear c32; try clear c32b0; try clear p39; try clear q39; try clear hx39; try clear c43; try clear c43b0; try clear hx391_0; try clear hx395_0; try clear p2; try clear p3; try clear p39; try clear p391; try clear p395; try clear p6; try clear q3; try clear q39; try clear q391; try clear q395
        obtain ⟨kq, x74_41, rfl, HA, HJ41, HO_1, HO_2, HO_9, HO_10, HO_11, HO_14, HB⟩ := hcut
        cases kq with
        | zero => exact absurd HA.out (by simp [spec_l07Combine.j2])
        | succ kj41 =>
         have H := HA.out; clear HA
         simp only [spec_l07Combine.j2] at H
         by_cases c48 : x74_41 = true
         · subst c48
           have H1 : (spec_l07Combine.l0 kj41 a0 l1 l2 a3 x9_1 t382 x11_1 x12_1 (wrap64 (x13_1 + 1))) = some r := by rw [if_pos rfl] at H; exact H
           clear H; have H := H1; clear H1
           have H' := yD H
           clear H
           go_wp2
           go_roundg kj41
           case measure => have := HK1.out; have := HJ26.out; have := HJ41.out; omega
           case rel => exact ⟨(x9_1), (x11_1), (x12_1), (wrap64 (x13_1 + 1)), (by first | rfl | (simp; done) | (simp [*]; done)), (by first | rfl | (simp; done) | (simp [*]; done)), H', ⟨by have := HK1.out; have := HJ26.out; have := HJ41.out; omega⟩, ⟨by (with_reducible repeat (first | apply Kd.V_alloc | apply Kd.V_drewN | apply Kd.V_drew)); exact Kd.V_mono HO_1.out (fun _ hk => ⟨hk.1, ⟨hk.2.1, hk.2.2.1⟩⟩)⟩, ⟨by (with_reducible repeat (first | apply Kd.V_alloc | apply Kd.V_drewN | apply Kd.V_drew)); exact Kd.V_mono HO_2.out (fun _ hk => ⟨hk.1, ⟨hk.2.1, hk.2.2.1⟩⟩)⟩, ⟨by (with_reducible repeat (first | apply Kd.N_alloc | apply Kd.N_drewN | apply Kd.N_drew)); exact Kd.N_mono HO_9.out (fun _ hk => ⟨hk.1, hk.2.1⟩)⟩, ⟨by (with_reducible repeat (first | apply Kd.V_alloc | apply Kd.V_drewN | apply Kd.V_drew)); exact Kd.V_mono HO_10.out (fun _ hk => ⟨hk.1, ⟨hk.2.1, hk.2.2.1⟩⟩)⟩, ⟨by (with_reducible repeat (first | apply Kd.N_alloc | apply Kd.N_drewN | apply Kd.N_drew)); exact Kd.N_mono HO_11.out (fun _ hk => ⟨hk.1, hk.2.1⟩)⟩, ⟨kR0 HB⟩⟩
         ·
          replace c48 := Bool.eq_false_iff.mpr c48
          subst c48
          have H1 : (spec_l07Combine.l1 kj41 a0 l1 l2 a3 x9_1 t382 x11_1 x12_1 x13_1 x14_26 0) = some r := by rw [if_neg (show ¬ (false = true) by decide)] at H; exact H
          clear H; have H := H1; clear H1
          have H' := yD H
          clear H
          go_wp2
          go_loopg [9, 15] kj41 (fun kq v9 v15 w' => ∃ (x9_4 : List (S42)) (x15_4 : Int), v15 = .int .i64 x15_4 ∧ Aside0 (spec_l07Combine.l1 kq a0 l1 l2 a3 x9_4 t382 x11_1 x12_1 x13_1 x14_26 x15_4 = some r) ∧ Aside0 (kq ≤ kj41) ∧ Aside0 (Kd.V k42 42 w' w.heap.size (fun k_ => ((P1_ k_ ∨ P2_ k_) ∨ w.heap.size ≤ k_) ∧ some k_ ≠ (v9 : Value).ownBlock ∧ some k_ ≠ (u11 : Value).ownBlock ∧ some k_ ≠ (u14 : Value).ownBlock) (.slice A1 l1.length c1) l1) ∧ Aside0 (Kd.V k42 42 w' w.heap.size (fun k_ => ((P1_ k_ ∨ P2_ k_) ∨ w.heap.size ≤ k_) ∧ some k_ ≠ (v9 : Value).ownBlock ∧ some k_ ≠ (u11 : Value).ownBlock ∧ some k_ ≠ (u14 : Value).ownBlock) (.slice A2 l2.length c2) l2) ∧ Aside0 (Kd.N k42 42 w' w.heap.size (fun k_ => ((P1_ k_ ∨ P2_ k_) ∨ w.heap.size ≤ k_) ∧ some k_ ≠ (u11 : Value).ownBlock ∧ some k_ ≠ (u14 : Value).ownBlock) v9 x9_4) ∧ Aside0 (Kd.V (Kd.int .i64) 2 w' w.heap.size (fun k_ => ((P1_ k_ ∨ P2_ k_) ∨ w.heap.size ≤ k_) ∧ some k_ ≠ (v9 : Value).ownBlock ∧ some k_ ≠ (u11 : Value).ownBlock ∧ some k_ ≠ (u14 : Value).ownBlock) (.slice Ao28 t382.length co28) t382) ∧ Aside0 (Kd.N k42 42 w' w.heap.size (fun k_ => ((P1_ k_ ∨ P2_ k_) ∨ w.heap.size ≤ k_) ∧ some k_ ≠ (v9 : Value).ownBlock ∧ some k_ ≠ (u14 : Value).ownBlock) u11 x11_1) ∧ Aside0 (Kd.N k42 42 w' w.heap.size (fun k_ => ((P1_ k_ ∨ P2_ k_) ∨ w.heap.size ≤ k_) ∧ some k_ ≠ (v9 : Value).ownBlock ∧ some k_ ≠ (u11 : Value).ownBlock) u14 x14_26) ∧ Aside0 (Below w.heap.size w w'))
          case atStart => exact ⟨(x9_1), (0), (by first | rfl | (simp; done) | (simp [*]; done)), H', ⟨Nat.le_refl _⟩, ⟨by (with_reducible repeat (first | apply Kd.V_alloc | apply Kd.V_drewN | apply Kd.V_drew)); exact HO_1.out⟩, ⟨by (with_reducible repeat (first | apply Kd.V_alloc | apply Kd.V_drewN | apply Kd.V_drew)); exact HO_2.out⟩, ⟨by (with_reducible repeat (first | apply Kd.N_alloc | apply Kd.N_drewN | apply Kd.N_drew)); exact HO_9.out⟩, ⟨by (with_reducible repeat (first | apply Kd.V_alloc | apply Kd.V_drewN | apply Kd.V_drew)); exact HO_10.out⟩, ⟨by (with_reducible repeat (first | apply Kd.N_alloc | apply Kd.N_drewN | apply Kd.N_drew)); exact HO_11.out⟩, ⟨by (with_reducible repeat (first | apply Kd.N_alloc | apply Kd.N_drewN | apply Kd.N_drew)); exact HO_14.out⟩, ⟨kR0 HB⟩⟩
          case round =>
           clear H'
           try clear c1; try clear c2; try clear p2; try clear c3; try clear p3; try clear q3; try clear hx3; try clear c4; try clear c5; try clear c5b0; try clear c5b1; try clear p6; try clear c7; try clear c8; try clear c9; try clear c12; try clear c26; try clear c26b0; try clear c31; try clear c31b0; try clear c32; try clear c32b0; try clear p39; try clear q39; try clear hx39; try clear c43; try clear c43b0; try clear c48; try clear hx391_0; try clear hx395_0; try clear p2; try clear p3; try clear p39; try clear p391; try clear p395; try clear p6; try clear q3; try clear q39; try clear q391; try clear q395
           obtain ⟨x9_4, x15_4, rfl, HA, HK4, HO_1, HO_2, HO_9, HO_10, HO_11, HO_14, HB⟩ := hrel
           cases gk with
           | zero => exact absurd HA.out (by simp [spec_l07Combine.l1])
           | succ k4 =>
            have H := HA.out; clear HA
            simp only [spec_l07Combine.l1] at H
            by_cases c49 : x15_4 < (x11_1.length : Int)
            ·
             rw [if_pos c49] at H
             have c49b0 : decide (x15_4 < (x11_1.length : Int)) = true := zR c49; clear c49
             obtain ⟨y403, hy403⟩ : ∃ y_ : List Int, y_ = (([x12_1] : List Int)) := ⟨_, rfl⟩
             replace H : (if 0 ≤ x15_4 then (if y403.length + ((rd_T42 x11_1 x15_4).f0).length < 17592186044416 then (if 0 ≤ x13_1 then (if x13_1 < (t382.length : Int) then ((some (([rd t382 x13_1] : List Int) : List Int)).bind fun y411 => (if y411.length + ((rd_T42 x11_1 x15_4).f1).length < 17592186044416 then (if x9_4.length < 2932031007402 then (spec_l07Combine.l1 k4 a0 l1 l2 a3 (x9_4 ++ [(⟨(y403 ++ ((rd_T42 x11_1 x15_4).f0)), (y411 ++ ((rd_T42 x11_1 x15_4).f1))⟩ : S42)]) t382 x11_1 x12_1 x13_1 x14_26 (wrap64 (x15_4 + 1))) else (none)) else (none))) else (none)) else (none)) else (none)) else (none)) = some r := by first | (rw [hy403]; with_reducible exact H) | (have H2_ := (Option.bind_some _ _).symm.trans H; rw [hy403]; with_reducible exact H2_) | (have H2_ := (Option.bind_some _ _).symm.trans H; with_reducible exact H2_) | with_reducible exact H | (rw [hy403]; exact H) | exact H
             have Ny403 := yD hy403
             clear hy403
             by_cases c50 : 0 ≤ x15_4
             ·
              rw [if_pos c50] at H
              have c50b0 : decide (0 ≤ x15_4) = true := zR c50; clear c50
              by_cases c51 : y403.length + ((rd_T42 x11_1 x15_4).f0).length < 17592186044416
              ·
               rw [if_pos c51] at H
               have LMc51 := yD c51
               clear c51
               obtain ⟨y407, hy407⟩ : ∃ y_ : List Int, y_ = (y403 ++ ((rd_T42 x11_1 x15_4).f0)) := ⟨_, rfl⟩
               replace H : (if 0 ≤ x13_1 then (if x13_1 < (t382.length : Int) then ((some (([rd t382 x13_1] : List Int) : List Int)).bind fun y411 => (if y411.length + ((rd_T42 x11_1 x15_4).f1).length < 17592186044416 then (if x9_4.length < 2932031007402 then (spec_l07Combine.l1 k4 a0 l1 l2 a3 (x9_4 ++ [(⟨y407, (y411 ++ ((rd_T42 x11_1 x15_4).f1))⟩ : S42)]) t382 x11_1 x12_1 x13_1 x14_26 (wrap64 (x15_4 + 1))) else (none)) else (none))) else (none)) else (none)) = some r := by first | (rw [hy407]; with_reducible exact H) | (have H2_ := (Option.bind_some _ _).symm.trans H; rw [hy407]; with_reducible exact H2_) | (have H2_ := (Option.bind_some _ _).symm.trans H; with_reducible exact H2_) | with_reducible exact H | (rw [hy407]; exact H) | exact H
               have Ny407 := yD hy407
               clear hy407
               by_cases c52 : 0 ≤ x13_1
               ·
                rw [if_pos c52] at H
                have c52b0 : decide (0 ≤ x13_1) = true := zR c52; clear c52
                by_cases c53 : x13_1 < (t382.length : Int)
                ·
                 rw [if_pos c53] at H
                 have c53b0 : decide (x13_1 < (t382.length : Int)) = true := zR c53; clear c53
                 obtain ⟨y411, hy411⟩ : ∃ y_ : List Int, y_ = (([rd t382 x13_1] : List Int)) := ⟨_, rfl⟩
                 replace H : (if y411.length + ((rd_T42 x11_1 x15_4).f1).length < 17592186044416 then (if x9_4.length < 2932031007402 then (spec_l07Combine.l1 k4 a0 l1 l2 a3 (x9_4 ++ [(⟨y407, (y411 ++ ((rd_T42 x11_1 x15_4).f1))⟩ : S42)]) t382 x11_1 x12_1 x13_1 x14_26 (wrap64 (x15_4 + 1))) else (none)) else (none)) = some r := by first | (rw [hy411]; with_reducible exact H) | (have H2_ := (Option.bind_some _ _).symm.trans H; rw [hy411]; with_reducible exact H2_) | (have H2_ := (Option.bind_some _ _).symm.trans H; with_reducible exact H2_) | with_reducible exact H | (rw [hy411]; exact H) | exact H
                 have Ny411 := yD hy411
                 clear hy411
                 by_cases c54 : y411.length + ((rd_T42 x11_1 x15_4).f1).length < 17592186044416
                 ·
                  rw [if_pos c54] at H
                  have LMc54 := yD c54
                  clear c54
                  obtain ⟨y415, hy415⟩ : ∃ y_ : List Int, y_ = (y411 ++ ((rd_T42 x11_1 x15_4).f1)) := ⟨_, rfl⟩
                  replace H : (if x9_4.length < 2932031007402 then (spec_l07Combine.l1 k4 a0 l1 l2 a3 (x9_4 ++ [(⟨y407, y415⟩ : S42)]) t382 x11_1 x12_1 x13_1 x14_26 (wrap64 (x15_4 + 1))) else (none)) = some r := by first | (rw [hy415]; with_reducible exact H) | (have H2_ := (Option.bind_some _ _).symm.trans H; rw [hy415]; with_reducible exact H2_) | (have H2_ := (Option.bind_some _ _).symm.trans H; with_reducible exact H2_) | with_reducible exact H | (rw [hy415]; exact H) | exact H
                  have Ny415 := yD hy415
                  clear hy415
                  by_cases c55 : x9_4.length < 2932031007402
                  ·
                   rw [if_pos c55] at H
                   have LMc55 := yD c55
                   clear c55
                   obtain ⟨y418, hy418⟩ : ∃ y_ : List (S42), y_ = (x9_4 ++ [(⟨y407, y415⟩ : S42)]) := ⟨_, rfl⟩
                   replace H : (spec_l07Combine.l1 k4 a0 l1 l2 a3 y418 t382 x11_1 x12_1 x13_1 x14_26 (wrap64 (x15_4 + 1))) = some r := by first | (rw [hy418]; with_reducible exact H) | (have H2_ := (Option.bind_some _ _).symm.trans H; rw [hy418]; with_reducible exact H2_) | (have H2_ := (Option.bind_some _ _).symm.trans H; with_reducible exact H2_) | with_reducible exact H | (rw [hy418]; exact H) | exact H
                   have Ny418 := yD hy418
                   clear hy418
                   have H' := yD H
                   clear H
                   obtain ⟨Ao56, co56, eo56⟩ := Kd.N_slice HO_11.out
                   subst eo56
                   try go_wp2_with (first | ((with_reducible refine gate_dst (N := 82) rfl ?_); refine Kd.R_lit (Kd.int .i64) _ 2 ?hg (N := 82) ?hd (xs := ([x12_1] : List Int)) (inner := [.int .i64 x12_1]) (ok := fun _ => True) (okp := fun _ => True) ?hr ?hp (fun _ hk => hk) trivial (Below.refl _ _) (Nat.le_refl _) (by simp) ?_; (case hd => rfl); (case hg => rfl); (case hr => first | (go_simp; done) | (go_simp; rfl)); (case hp => exact (Reps.one (show Kd.M (Kd.int .i64) _ _ _ x12_1 [.int .i64 x12_1] from rfl) (Reps.none _ _))); intro v404 w57 ho58 hb hg_ hnew_; clear hg_ hnew_; (first | rw [← Ny403.out] at ho58 | (simp only [Int.reduceToNat] at ho58; rw [← Ny403.out] at ho58)); have n0_ := yD (Kd.V_elder' (by (with_reducible repeat (first | apply Kd.V_alloc | apply Kd.V_drewN | apply Kd.V_drew)); exact HO_1.out) (yH ho58) hb); have n1_ := yD (Kd.V_elder' (by (with_reducible repeat (first | apply Kd.V_alloc | apply Kd.V_drewN | apply Kd.V_drew)); exact HO_2.out) (yH ho58) hb); have n2_ := yD (Kd.N_elder' (by (with_reducible repeat (first | apply Kd.N_alloc | apply Kd.N_drewN | apply Kd.N_drew)); exact HO_9.out) (yH ho58) hb); have n3_ := yD (Kd.V_elder' (by (with_reducible repeat (first | apply Kd.V_alloc | apply Kd.V_drewN | apply Kd.V_drew)); exact HO_10.out) (yH ho58) hb); have n4_ := yD (Kd.N_elder' (by (with_reducible repeat (first | apply Kd.N_alloc | apply Kd.N_drewN | apply Kd.N_drew)); exact HO_11.out) (yH ho58) hb); have n5_ := yD (Kd.N_elder' (by (with_reducible repeat (first | apply Kd.N_alloc | apply Kd.N_drewN | apply Kd.N_drew)); exact HO_14.out) (yH ho58) hb); have n6_ := yD (yZ (Kd.R_newM (M := fun k_ => (w.heap.size ≤ k_)) ho58 (below_size (kB HB)) (fun k_ h_ => h_)) (below_size (kB HB))); have n7_ := yD (zC (kB HB) hb); clear HO_1; clear HO_2; clear HO_9; clear HO_10; clear HO_11; clear HO_14; clear HB; have HO_1 := n0_; have HO_2 := n1_; have HO_9 := n2_; have HO_10 := n3_; have HO_11 := n4_; have HO_14 := n5_; have HO405 := n6_; have HB := n7_; clear n0_ n1_ n2_ n3_ n4_ n5_ n6_ n7_; clear hb ho58; have p406 : 0 ≤ (x15_4 : Int) := zP (by assumption); have q406 : x15_4 < (x11_1.length : Int) := zP (by assumption); obtain ⟨ad406, A406_0, c406_0, A406_1, c406_1, e406, hx406_0, hx406_1, hl406_0, hi406_0, hl406_1, hi406_1⟩ := at_T42 (Kd.N_reads' HO_11.out).2.2 x15_4 p406 q406; cases e406; obtain ⟨ce406, hce406, hMe406, hcc406⟩ := Kd.N_get HO_11.out z42 x15_4 p406 (by first | exact q406 | exact zP (by assumption) | (have e_ := (Kd.N_reads' HO_11.out).1; omega)); obtain ⟨ua406_0, uc406_0, ua406_1, uc406_1, rfl, ul406_0, ge406_0, ul406_1, ge406_1⟩ := k42_openF hMe406; have hv406_0 := hcc406 0 _ rfl; rw [Nat.add_zero] at hv406_0; replace hv406_0 := Option.some.inj (hv406_0.symm.trans hx406_0); injection hv406_0 with hva_ hvn_ hvc_; rw [hva_] at ge406_0; rw [hvc_] at ul406_0; have HL406_0 := yD (show Kd.V (Kd.int .i64) 2 _ w.heap.size _ _ ((rd_T42 x11_1 x15_4).f0) from Kd.V_mk ul406_0 ge406_0); clear hva_ hvn_ hvc_ ge406_0 ul406_0; have hv406_1 := hcc406 1 _ rfl; rw [add_field _ _ 1 (by omega)] at hv406_1; replace hv406_1 := Option.some.inj (hv406_1.symm.trans hx406_1); injection hv406_1 with hva_ hvn_ hvc_; rw [hva_] at ge406_1; rw [hvc_] at ul406_1; have HL406_1 := yD (show Kd.V (Kd.int .i64) 2 _ w.heap.size _ _ ((rd_T42 x11_1 x15_4).f1) from Kd.V_mk ul406_1 ge406_1); clear hva_ hvn_ hvc_ ge406_1 ul406_1; clear hcc406 hce406; have HR406_0 := yD hi406_0; have HC406_0 := yD hl406_0; clear hi406_0 hl406_0; have HR406_1 := yD hi406_1; have HC406_1 := yD hl406_1; clear hi406_1 hl406_1; replace p406 := eq_true p406; replace q406 := eq_true q406) | ((with_reducible refine gate_builtin (b := .append) (xs := #[.tmp 82, .tmp 87]) rfl ?_); at_builtin; refine Kd.R_append_rows (Kd.int .i64) (w0 := w) w.heap.size rfl (.tmp 82) (.tmp 87) 36 2 (.int .i64 0) 8 rfl Try.underlying36 info2 rfl (by decide) (by omega) v404 y403 ((rd_T42 x11_1 x15_4).f0) _ _ _ (fun k_ => (w.heap.size ≤ k_)) (fun _ => False) rfl rfl ?aO ?aR (fun _ _ h => h) (fun _ h => h.elim) ?aF ?aB ?aS ?aL ?_; (case aR => repeat (first | exact (by repeat (first | (with_reducible exact HR406_0.out) | (with_reducible first | refine yV ?_ _ | refine yW ?_ _ | refine yX ?_) | exact HR406_0.out)) | (with_reducible first | refine yV ?_ _ | refine yW ?_ _ | refine yX ?_))); (case aB => exact (kB HB)); (case aF => exact (fun k_ hk => (Nat.le_trans (below_size (kB HB)) hk))); (case aO => exact (by (with_reducible repeat (first | apply yA | apply yB | apply yC)); exact zF HO405.out (fun _ hk => hk.1))); (case aS => exact (below_size (kB HB))); (case aL => have := LMc51.out; omega); intro v408 w59 ho hb hg hat; rw [← Ny407.out] at ho; have n0_ := yD (Kd.V_afterv (ok := (fun k_ => ((P1_ k_ ∨ P2_ k_) ∨ w.heap.size ≤ k_) ∧ some k_ ≠ (u9 : Value).ownBlock ∧ some k_ ≠ (.slice (some ad406) x11_1.length co56 : Value).ownBlock ∧ some k_ ≠ (u14 : Value).ownBlock)) (by (with_reducible repeat (first | apply Kd.V_alloc | apply Kd.V_drewN | apply Kd.V_drew)); exact HO_1.out) hg hat); have n1_ := yD (Kd.V_afterv (ok := (fun k_ => ((P1_ k_ ∨ P2_ k_) ∨ w.heap.size ≤ k_) ∧ some k_ ≠ (u9 : Value).ownBlock ∧ some k_ ≠ (.slice (some ad406) x11_1.length co56 : Value).ownBlock ∧ some k_ ≠ (u14 : Value).ownBlock)) (by (with_reducible repeat (first | apply Kd.V_alloc | apply Kd.V_drewN | apply Kd.V_drew)); exact HO_2.out) hg hat); have n2_ := yD (Kd.N_afterv (ok := (fun k_ => ((P1_ k_ ∨ P2_ k_) ∨ w.heap.size ≤ k_) ∧ some k_ ≠ (.slice (some ad406) x11_1.length co56 : Value).ownBlock ∧ some k_ ≠ (u14 : Value).ownBlock)) (by (with_reducible repeat (first | apply Kd.N_alloc | apply Kd.N_drewN | apply Kd.N_drew)); exact HO_9.out) hg hat); have n3_ := yD (Kd.V_afterv (ok := (fun k_ => ((P1_ k_ ∨ P2_ k_) ∨ w.heap.size ≤ k_) ∧ some k_ ≠ (u9 : Value).ownBlock ∧ some k_ ≠ (.slice (some ad406) x11_1.length co56 : Value).ownBlock ∧ some k_ ≠ (u14 : Value).ownBlock)) (by (with_reducible repeat (first | apply Kd.V_alloc | apply Kd.V_drewN | apply Kd.V_drew)); exact HO_10.out) hg hat); have n4_ := yD (Kd.N_afterv (ok := (fun k_ => ((P1_ k_ ∨ P2_ k_) ∨ w.heap.size ≤ k_) ∧ some k_ ≠ (u9 : Value).ownBlock ∧ some k_ ≠ (u14 : Value).ownBlock)) (by (with_reducible repeat (first | apply Kd.N_alloc | apply Kd.N_drewN | apply Kd.N_drew)); exact HO_11.out) hg hat); have n5_ := yD (Kd.N_afterv (ok := (fun k_ => ((P1_ k_ ∨ P2_ k_) ∨ w.heap.size ≤ k_) ∧ some k_ ≠ (u9 : Value).ownBlock ∧ some k_ ≠ (.slice (some ad406) x11_1.length co56 : Value).ownBlock)) (by (with_reducible repeat (first | apply Kd.N_alloc | apply Kd.N_drewN | apply Kd.N_drew)); exact HO_14.out) hg hat); have n6_ := yD (Kd.V_afterv (ok := (fun k_ => ((P1_ k_ ∨ P2_ k_) ∨ w.heap.size ≤ k_) ∧ some k_ ≠ (u9 : Value).ownBlock ∧ some k_ ≠ (.slice (some ad406) x11_1.length co56 : Value).ownBlock ∧ some k_ ≠ (u14 : Value).ownBlock)) (by (with_reducible repeat (first | apply Kd.V_alloc | apply Kd.V_drewN | apply Kd.V_drew)); exact Kd.V_mono HL406_0.out (fun _ hk => ⟨⟨hk.1.1.1, ⟨hk.1.1.2.1, ⟨hk.2, hk.1.1.2.2⟩⟩⟩, hk.1.2⟩)) hg hat); have n7_ := yD (Kd.V_afterv (ok := (fun k_ => ((P1_ k_ ∨ P2_ k_) ∨ w.heap.size ≤ k_) ∧ some k_ ≠ (u9 : Value).ownBlock ∧ some k_ ≠ (.slice (some ad406) x11_1.length co56 : Value).ownBlock ∧ some k_ ≠ (u14 : Value).ownBlock)) (by (with_reducible repeat (first | apply Kd.V_alloc | apply Kd.V_drewN | apply Kd.V_drew)); exact Kd.V_mono HL406_1.out (fun _ hk => ⟨⟨hk.1.1.1, ⟨hk.1.1.2.1, ⟨hk.2, hk.1.1.2.2⟩⟩⟩, hk.1.2⟩)) hg hat); have n8_ := yD (hb); have n9_ := yD (ho); clear HO_1; clear HO_2; clear HO_9; clear HO_10; clear HO_11; clear HO_14; clear HL406_0; clear HL406_1; clear HB; clear HO405; have HO_1 := n0_; have HO_2 := n1_; have HO_9 := n2_; have HO_10 := n3_; have HO_11 := n4_; have HO_14 := n5_; have HL406_0 := n6_; have HL406_1 := n7_; have HB := n8_; have HO409 := n9_; clear n0_ n1_ n2_ n3_ n4_ n5_ n6_ n7_ n8_ n9_; clear ho hb hg hat))
                   have n0_ := yD (Kd.V_drew HO_1.out)
                   have n1_ := yD (Kd.V_drew HO_2.out)
                   have n2_ := yD (Kd.N_drew HO_9.out)
                   have n3_ := yD (Kd.V_drew HO_10.out)
                   have n4_ := yD (Kd.N_drew HO_11.out)
                   have n5_ := yD (Kd.N_drew HO_14.out)
                   have n6_ := yD (Kd.V_drew HL406_0.out)
                   have n7_ := yD (Kd.V_drew HL406_1.out)
                   have n8_ := yD (yC HO409.out)
                   have n9_ := yD (yP HB.out)
                   clear HO_1 HO_2 HO_9 HO_10 HO_11 HO_14 HL406_0 HL406_1 HO409 HB; have HO_1 := n0_; have HO_2 := n1_; have HO_9 := n2_; have HO_10 := n3_; have HO_11 := n4_; have HO_14 := n5_; have HL406_0 := n6_; have HL406_1 := n7_; have HO409 := n8_; have HB := n9_; clear n0_ n1_ n2_ n3_ n4_ n5_ n6_ n7_ n8_ n9_
                   have p410 : 0 ≤ (x13_1 : Int) := zP (by assumption)
                   have q410 : x13_1 < (t382.length : Int) := zP (by assumption)
                   obtain ⟨ad410, e410, hx410_0⟩ := Kd.at_int (Kd.V_reads' HO_10.out).2.2 x13_1 p410 q410
                   cases e410; replace p410 := eq_true p410; replace q410 := eq_true q410
                   have p414 : 0 ≤ (x15_4 : Int) := zP (by assumption)
                   have q414 : x15_4 < (x11_1.length : Int) := zP (by assumption)
                   obtain ⟨ad414, A414_0, c414_0, A414_1, c414_1, e414, hx414_0, hx414_1, hl414_0, hi414_0, hl414_1, hi414_1⟩ := at_T42 (Kd.N_reads' HO_11.out).2.2 x15_4 p414 q414
                   obtain rfl : ad406 = ad414 := (by injection e414)
                   obtain ⟨ce414, hce414, hMe414, hcc414⟩ := Kd.N_get HO_11.out z42 x15_4 p414 (by first | exact q414 | exact zP (by assumption) | (have e_ := (Kd.N_reads' HO_11.out).1; omega))
                   obtain ⟨ua414_0, uc414_0, ua414_1, uc414_1, rfl, ul414_0, ge414_0, ul414_1, ge414_1⟩ := k42_openF hMe414
                   have hv414_0 := hcc414 0 _ rfl
                   rw [Nat.add_zero] at hv414_0
                   replace hv414_0 := Option.some.inj (hv414_0.symm.trans hx414_0)
                   injection hv414_0 with hva_ hvn_ hvc_
                   rw [hva_] at ge414_0
                   rw [hvc_] at ul414_0
                   have HL414_0 := yD (show Kd.V (Kd.int .i64) 2 _ w.heap.size _ _ ((rd_T42 x11_1 x15_4).f0) from Kd.V_mk ul414_0 ge414_0)
                   clear hva_ hvn_ hvc_ ge414_0 ul414_0
                   have hv414_1 := hcc414 1 _ rfl
                   rw [add_field _ _ 1 (by omega)] at hv414_1
                   replace hv414_1 := Option.some.inj (hv414_1.symm.trans hx414_1)
                   injection hv414_1 with hva_ hvn_ hvc_
                   rw [hva_] at ge414_1
                   rw [hvc_] at ul414_1
                   have HL414_1 := yD (show Kd.V (Kd.int .i64) 2 _ w.heap.size _ _ ((rd_T42 x11_1 x15_4).f1) from Kd.V_mk ul414_1 ge414_1)
                   clear hva_ hvn_ hvc_ ge414_1 ul414_1 hcc414 hce414
                   have HR414_0 := yD hi414_0
                   have HC414_0 := yD hl414_0
                   clear hi414_0 hl414_0
                   have HR414_1 := yD hi414_1
                   have HC414_1 := yD hl414_1
                   clear hi414_1 hl414_1; replace p414 := eq_true p414; replace q414 := eq_true q414
                   refine start_ (n := 12) (S := fun w' => w'.cell? (ad410.add (x13_1).toNat) = some (.int .i64 (rd t382 x13_1)) ∧ w'.cell? (ad406.add ((x15_4).toNat * 2)) = some (.slice A414_0 ((rd_T42 x11_1 x15_4).f0).length c414_0) ∧ w'.cell? ⟨(ad406.add ((x15_4).toNat * 2)).block, (ad406.add ((x15_4).toNat * 2)).off + 1, none⟩ = some (.slice A414_1 ((rd_T42 x11_1 x15_4).f1).length c414_1)) (ds := [10]) (bz 12 0) (by kernel_rfl) rfl rfl ⟨hx410_0, hx414_0, hx414_1⟩ (fun hHeld => ?_); refine with_tabW spec_l07Combine.tab20 spec_l07Combine.bits20 (fun HT_ HW_ => ?_)
                   generalize w59.drew = w60 at HO_1 HO_2 HO_9 HO_10 HO_11 HO_14 HL406_0 HL406_1 HO409 HB HL414_0 HL414_1 HR414_0 HR414_1 hx410_0 hx414_0 hx414_1 hHeld ⊢
                   refine qA 0 89 (bz 12 1) HT_ ?_
                   refine qA 1 90 (bz 12 3) HT_ ?_
                   refine qA 2 91 (bz 12 7) HT_ ?_
                   refine qA 5 94 (bz 12 39) HT_ ?_
                   refine qA 6 95 (bz 12 103) HT_ ?_
                   refine qA 7 96 (bz 12 231) HT_ ?_
                   refine qA 8 97 (bz 12 487) HT_ ?_
                   refine qC 3 92 (bz 12 495) HT_ HW_ hHeld ?_ (hy := by rintro w' ⟨s0, s1, s2⟩; go_simp; with_reducible rfl)
                   refine qC 9 98 (bz 12 1007) HT_ HW_ hHeld ?_ (hy := by rintro w' ⟨s0, s1, s2⟩; go_simp; with_reducible rfl)
                   refine one_ (i := 4) (N := some 93) (bz 12 1023) rfl rfl (one_of HT_.out (by kernel_rfl)) (by decide) (fun K hK => ?_)
                   refine Kd.R_lit_step (Kd.int .i64) _ 2 ?hg (N := 93) ?hd (xs := ([rd t382 x13_1] : List Int)) (inner := [.int .i64 (rd t382 x13_1)]) (ok := fun _ => True) (okp := fun _ => True) ?hr ?hp (fun _ hk => hk) trivial (Below.refl _ _) (Nat.le_refl _) (by simp) ?_; (case hd => rfl); (case hg => rfl); (case hr => first | (go_simp; done) | (go_simp; rfl)); (case hp => exact (Reps.one (show Kd.M (Kd.int .i64) _ _ _ (rd t382 x13_1) [.int .i64 (rd t382 x13_1)] from rfl) (Reps.none _ _)))
                   intro v412 w61 ho62 hb hg_ hnew_
                   have HS0_ := (hb.cell (zQ _ _ (hHeld.1))).trans (hHeld.1)
                   have HS1_ := (hb.cell (zQ _ _ (hHeld.2.1))).trans (hHeld.2.1)
                   have HS2_ := (hb.cell (zQ _ _ (hHeld.2.2))).trans (hHeld.2.2)
                   clear hg_ hnew_
                   (first | rw [← Ny411.out] at ho62 | (simp only [Int.reduceToNat] at ho62; rw [← Ny411.out] at ho62))
                   have n0_ := yD (Kd.V_elder' (by (with_reducible repeat (first | apply Kd.V_alloc | apply Kd.V_drewN | apply Kd.V_drew)); exact HO_1.out) (yH ho62) hb)
                   have n1_ := yD (Kd.V_elder' (by (with_reducible repeat (first | apply Kd.V_alloc | apply Kd.V_drewN | apply Kd.V_drew)); exact HO_2.out) (yH ho62) hb)
                   have n2_ := yD (Kd.N_elder' (by (with_reducible repeat (first | apply Kd.N_alloc | apply Kd.N_drewN | apply Kd.N_drew)); exact HO_9.out) (yH ho62) hb)
                   have n3_ := yD (Kd.V_elder' (by (with_reducible repeat (first | apply Kd.V_alloc | apply Kd.V_drewN | apply Kd.V_drew)); exact HO_10.out) (yH ho62) hb)
                   have n4_ := yD (Kd.N_elder' (by (with_reducible repeat (first | apply Kd.N_alloc | apply Kd.N_drewN | apply Kd.N_drew)); exact HO_11.out) (yH ho62) hb)
                   have n5_ := yD (Kd.N_elder' (by (with_reducible repeat (first | apply Kd.N_alloc | apply Kd.N_drewN | apply Kd.N_drew)); exact HO_14.out) (yH ho62) hb)
                   have n6_ := yD (Kd.V_elder' (by (with_reducible repeat (first | apply Kd.V_alloc | apply Kd.V_drewN | apply Kd.V_drew)); exact HL406_0.out) (yH ho62) hb)
                   have n7_ := yD (Kd.V_elder' (by (with_reducible repeat (first | apply Kd.V_alloc | apply Kd.V_drewN | apply Kd.V_drew)); exact HL406_1.out) (yH ho62) hb)
                   have n8_ := yD (Kd.R_elder' (kA HO409) (yH ho62) hb)
                   have n9_ := yD (Kd.V_elder' (by (with_reducible repeat (first | apply Kd.V_alloc | apply Kd.V_drewN | apply Kd.V_drew)); exact HL414_0.out) (yH ho62) hb)
                   have n10_ := yD (Kd.V_elder' (by (with_reducible repeat (first | apply Kd.V_alloc | apply Kd.V_drewN | apply Kd.V_drew)); exact HL414_1.out) (yH ho62) hb)
                   have n11_ := yD (yZ (yJ (Kd.R_newM (M := fun k_ => (w.heap.size ≤ k_)) ho62 (below_size (kB HB)) (fun k_ h_ => h_)) (yK (kA HO409))) (below_size (kB HB)))
                   have n12_ := yD (yY (by repeat (first | (with_reducible exact HR414_0.out) | (with_reducible first | refine yV ?_ _ | refine yW ?_ _ | refine yX ?_) | exact HR414_0.out)) hb)
                   have n13_ := yD (yY (by repeat (first | (with_reducible exact HR414_1.out) | (with_reducible first | refine yV ?_ _ | refine yW ?_ _ | refine yX ?_) | exact HR414_1.out)) hb)
                   have n14_ := yD (zC (kB HB) hb)
                   clear HO_1 HO_2 HO_9 HO_10 HO_11 HO_14 HL406_0 HL406_1 HO409 HL414_0 HL414_1 HR414_0 HR414_1 HB; have HO_1 := n0_; have HO_2 := n1_; have HO_9 := n2_; have HO_10 := n3_; have HO_11 := n4_; have HO_14 := n5_; have HL406_0 := n6_; have HL406_1 := n7_; have HO409 := n8_; have HL414_0 := n9_; have HL414_1 := n10_; have HO413 := n11_; have HR414_0 := n12_; have HR414_1 := n13_; have HB := n14_; clear n0_ n1_ n2_ n3_ n4_ n5_ n6_ n7_ n8_ n9_ n10_ n11_ n12_ n13_ n14_ hb ho62
                   refine hK.out _ _ ⟨HS0_, HS1_, HS2_⟩ (fun hHeld => ?_)
                   clear hK K
                   refine norm_ (a' := ?_) ?_ ?_
                   rotate_left
                   · show Act.put _ (some 93) _ = _
                     simp only [Act.put, zH, zI, zJ, i64_w, i32_w]
                     rfl
                   refine last_ (i := 10) (N := some 99) #[true, true, true, true, true, true, true, true, true, true, true, false] rfl rfl (one_of HT_.out (by kernel_rfl)) (by decide) (fun K hK => ?_)
                   refine Kd.R_append_rows_step (Kd.int .i64) (w0 := w) w.heap.size (by rfl) (.tmp 93) (.tmp 98) 36 2 (.int .i64 0) 8 rfl Try.underlying36 info2 rfl (by decide) (by omega) v412 y411 ((rd_T42 x11_1 x15_4).f1) _ _ _ (fun k_ => (w.heap.size ≤ k_) ∧ some k_ ≠ (v408 : Value).ownBlock) (fun _ => False) rfl rfl ?aO ?aR (fun _ _ h => h) (fun _ h => h.elim) ?aF ?aB ?aS ?aL ?_
                   (case aR => repeat (first | exact (by repeat (first | (with_reducible exact HR414_1.out) | (with_reducible first | refine yV ?_ _ | refine yW ?_ _ | refine yX ?_) | exact HR414_1.out)) | (with_reducible first | refine yV ?_ _ | refine yW ?_ _ | refine yX ?_)))
                   (case aB => exact (kB HB))
                   (case aF => exact (fun k_ hk => ⟨(Nat.le_trans (below_size (kB HB)) hk), Kd.fresh' (yK (kA HO409)) k_ hk⟩))
                   (case aO => exact (by (with_reducible repeat (first | apply yA | apply yB | apply yC)); exact zF HO413.out (fun _ hk => ⟨hk.1.1, hk.2⟩)))
                   (case aS => exact (below_size (kB HB)))
                   (case aL => have := LMc54.out; omega)
                   intro v416 w63 ho hb hg hat
                   rw [← Ny415.out] at ho
                   have n0_ := yD (Kd.V_afterv (ok := (fun k_ => ((P1_ k_ ∨ P2_ k_) ∨ w.heap.size ≤ k_) ∧ some k_ ≠ (u9 : Value).ownBlock ∧ some k_ ≠ (.slice (some ad406) x11_1.length co56 : Value).ownBlock ∧ some k_ ≠ (u14 : Value).ownBlock ∧ some k_ ≠ (v408 : Value).ownBlock)) (by (with_reducible repeat (first | apply Kd.V_alloc | apply Kd.V_drewN | apply Kd.V_drew)); exact Kd.V_mono HO_1.out (fun _ hk => ⟨⟨hk.1.1.1, ⟨hk.1.1.2.1, ⟨hk.1.1.2.2.1, ⟨hk.1.1.2.2.2, hk.1.2⟩⟩⟩⟩, hk.2⟩)) hg hat)
                   have n1_ := yD (Kd.V_afterv (ok := (fun k_ => ((P1_ k_ ∨ P2_ k_) ∨ w.heap.size ≤ k_) ∧ some k_ ≠ (u9 : Value).ownBlock ∧ some k_ ≠ (.slice (some ad406) x11_1.length co56 : Value).ownBlock ∧ some k_ ≠ (u14 : Value).ownBlock ∧ some k_ ≠ (v408 : Value).ownBlock)) (by (with_reducible repeat (first | apply Kd.V_alloc | apply Kd.V_drewN | apply Kd.V_drew)); exact Kd.V_mono HO_2.out (fun _ hk => ⟨⟨hk.1.1.1, ⟨hk.1.1.2.1, ⟨hk.1.1.2.2.1, ⟨hk.1.1.2.2.2, hk.1.2⟩⟩⟩⟩, hk.2⟩)) hg hat)
                   have n2_ := yD (Kd.N_afterv (ok := (fun k_ => ((P1_ k_ ∨ P2_ k_) ∨ w.heap.size ≤ k_) ∧ some k_ ≠ (.slice (some ad406) x11_1.length co56 : Value).ownBlock ∧ some k_ ≠ (u14 : Value).ownBlock ∧ some k_ ≠ (v408 : Value).ownBlock)) (by (with_reducible repeat (first | apply Kd.N_alloc | apply Kd.N_drewN | apply Kd.N_drew)); exact Kd.N_mono HO_9.out (fun _ hk => ⟨⟨hk.1.1.1, ⟨hk.1.1.2.1, ⟨hk.1.1.2.2, hk.1.2⟩⟩⟩, hk.2⟩)) hg hat)
                   have n3_ := yD (Kd.V_afterv (ok := (fun k_ => ((P1_ k_ ∨ P2_ k_) ∨ w.heap.size ≤ k_) ∧ some k_ ≠ (u9 : Value).ownBlock ∧ some k_ ≠ (.slice (some ad406) x11_1.length co56 : Value).ownBlock ∧ some k_ ≠ (u14 : Value).ownBlock ∧ some k_ ≠ (v408 : Value).ownBlock)) (by (with_reducible repeat (first | apply Kd.V_alloc | apply Kd.V_drewN | apply Kd.V_drew)); exact Kd.V_mono HO_10.out (fun _ hk => ⟨⟨hk.1.1.1, ⟨hk.1.1.2.1, ⟨hk.1.1.2.2.1, ⟨hk.1.1.2.2.2, hk.1.2⟩⟩⟩⟩, hk.2⟩)) hg hat)
                   have n4_ := yD (Kd.N_afterv (ok := (fun k_ => ((P1_ k_ ∨ P2_ k_) ∨ w.heap.size ≤ k_) ∧ some k_ ≠ (u9 : Value).ownBlock ∧ some k_ ≠ (u14 : Value).ownBlock ∧ some k_ ≠ (v408 : Value).ownBlock)) (by (with_reducible repeat (first | apply Kd.N_alloc | apply Kd.N_drewN | apply Kd.N_drew)); exact Kd.N_mono HO_11.out (fun _ hk => ⟨⟨hk.1.1.1, ⟨hk.1.1.2.1, ⟨hk.1.1.2.2, hk.1.2⟩⟩⟩, hk.2⟩)) hg hat)
                   have n5_ := yD (Kd.N_afterv (ok := (fun k_ => ((P1_ k_ ∨ P2_ k_) ∨ w.heap.size ≤ k_) ∧ some k_ ≠ (u9 : Value).ownBlock ∧ some k_ ≠ (.slice (some ad406) x11_1.length co56 : Value).ownBlock ∧ some k_ ≠ (v408 : Value).ownBlock)) (by (with_reducible repeat (first | apply Kd.N_alloc | apply Kd.N_drewN | apply Kd.N_drew)); exact Kd.N_mono HO_14.out (fun _ hk => ⟨⟨hk.1.1.1, ⟨hk.1.1.2.1, ⟨hk.1.1.2.2, hk.1.2⟩⟩⟩, hk.2⟩)) hg hat)
                   have n6_ := yD (Kd.V_afterv (ok := (fun k_ => ((P1_ k_ ∨ P2_ k_) ∨ w.heap.size ≤ k_) ∧ some k_ ≠ (u9 : Value).ownBlock ∧ some k_ ≠ (.slice (some ad406) x11_1.length co56 : Value).ownBlock ∧ some k_ ≠ (u14 : Value).ownBlock ∧ some k_ ≠ (v408 : Value).ownBlock)) (by (with_reducible repeat (first | apply Kd.V_alloc | apply Kd.V_drewN | apply Kd.V_drew)); exact Kd.V_mono HL406_0.out (fun _ hk => ⟨⟨hk.1.1.1, ⟨hk.1.1.2.1, ⟨hk.1.1.2.2.1, ⟨hk.1.1.2.2.2, hk.1.2⟩⟩⟩⟩, hk.2⟩)) hg hat)
                   have n7_ := yD (Kd.V_afterv (ok := (fun k_ => ((P1_ k_ ∨ P2_ k_) ∨ w.heap.size ≤ k_) ∧ some k_ ≠ (u9 : Value).ownBlock ∧ some k_ ≠ (.slice (some ad406) x11_1.length co56 : Value).ownBlock ∧ some k_ ≠ (u14 : Value).ownBlock ∧ some k_ ≠ (v408 : Value).ownBlock)) (by (with_reducible repeat (first | apply Kd.V_alloc | apply Kd.V_drewN | apply Kd.V_drew)); exact Kd.V_mono HL406_1.out (fun _ hk => ⟨⟨hk.1.1.1, ⟨hk.1.1.2.1, ⟨hk.1.1.2.2.1, ⟨hk.1.1.2.2.2, hk.1.2⟩⟩⟩⟩, hk.2⟩)) hg hat)
                   have n8_ := yD (Kd.R_after (ok := (fun k_ => (w.heap.size ≤ k_))) (kA HO409) hg hat)
                   have n9_ := yD (Kd.V_afterv (ok := (fun k_ => ((P1_ k_ ∨ P2_ k_) ∨ w.heap.size ≤ k_) ∧ some k_ ≠ (u9 : Value).ownBlock ∧ some k_ ≠ (.slice (some ad406) x11_1.length co56 : Value).ownBlock ∧ some k_ ≠ (u14 : Value).ownBlock ∧ some k_ ≠ (v408 : Value).ownBlock)) (by (with_reducible repeat (first | apply Kd.V_alloc | apply Kd.V_drewN | apply Kd.V_drew)); exact Kd.V_mono HL414_0.out (fun _ hk => ⟨⟨hk.1.1.1.1, ⟨hk.1.1.1.2.1, ⟨hk.1.2, ⟨hk.1.1.1.2.2, hk.1.1.2⟩⟩⟩⟩, hk.2⟩)) hg hat)
                   have n10_ := yD (Kd.V_afterv (ok := (fun k_ => ((P1_ k_ ∨ P2_ k_) ∨ w.heap.size ≤ k_) ∧ some k_ ≠ (u9 : Value).ownBlock ∧ some k_ ≠ (.slice (some ad406) x11_1.length co56 : Value).ownBlock ∧ some k_ ≠ (u14 : Value).ownBlock ∧ some k_ ≠ (v408 : Value).ownBlock)) (by (with_reducible repeat (first | apply Kd.V_alloc | apply Kd.V_drewN | apply Kd.V_drew)); exact Kd.V_mono HL414_1.out (fun _ hk => ⟨⟨hk.1.1.1.1, ⟨hk.1.1.1.2.1, ⟨hk.1.2, ⟨hk.1.1.1.2.2, hk.1.1.2⟩⟩⟩⟩, hk.2⟩)) hg hat)
                   have n11_ := yD (hb)
                   have n12_ := yD (ho)
                   clear HO_1 HO_2 HO_9 HO_10 HO_11 HO_14 HL406_0 HL406_1 HO409 HL414_0 HL414_1 HB HO413; have HO_1 := n0_; have HO_2 := n1_; have HO_9 := n2_; have HO_10 := n3_; have HO_11 := n4_; have HO_14 := n5_; have HL406_0 := n6_; have HL406_1 := n7_; have HO409 := n8_; have HL414_0 := n9_; have HL414_1 := n10_; have HB := n11_; have HO417 := n12_; clear n0_ n1_ n2_ n3_ n4_ n5_ n6_ n7_ n8_ n9_ n10_ n11_ n12_ ho hb hg hat
                   refine hK.out _ _ ?_
                   clear hK K
                   refine norm_ (a' := ?_) ?_ ?_
                   rotate_left
                   · show Act.put _ (some 99) _ = _
                     simp only [Act.put, zH, zI, zJ, i64_w, i32_w]
                     rfl
                   refine qA 11 17 (bz 12 4095) HT_ ?_
                   refine done_ (done_of HT_.out (by kernel_rfl)) ?_
                   obtain ⟨Ao64, co64, eo64⟩ := Kd.R_slice HO417.out
                   subst eo64
                   obtain ⟨Ao65, co65, eo65⟩ := Kd.R_slice HO409.out
                   subst eo65
                   try go_wp2_with (first | ((with_reducible refine gate_builtin (b := .append) (xs := #[.tmp 100, .tmp 104]) rfl ?_); at_builtin; refine Kd.N_append k42 (w0 := w) w.heap.size rfl (.tmp 100) (.tmp 104) 24 42 (.agg #[(.slice none 0 0), (.slice none 0 0)]) 48 rfl Try.underlying24 info42 rfl (by decide) (by omega) u9 x9_4 (⟨y407, y415⟩ : S42) [.slice Ao65 y407.length co65, .slice Ao64 y415.length co64] (fun k_ => ((P1_ k_ ∨ P2_ k_) ∨ w.heap.size ≤ k_) ∧ some k_ ≠ (.slice (some ad406) x11_1.length co56 : Value).ownBlock ∧ some k_ ≠ (u14 : Value).ownBlock) (fun k_ => ((fun k_ => ((P1_ k_ ∨ P2_ k_) ∨ w.heap.size ≤ k_) ∧ some k_ ≠ (.slice (some ad406) x11_1.length co56 : Value).ownBlock ∧ some k_ ≠ (u14 : Value).ownBlock)) k_ ∧ some k_ ≠ (u9 : Value).ownBlock) rfl rfl ?aP (fun _ hk => hk) ?aF ?aO ?aB ?aS ?aL ?_; (case aP => exact (k42_mkF _ _ (⟨y407, y415⟩ : S42) (zA (zF (ok' := (fun k_ => ((fun k_ => ((P1_ k_ ∨ P2_ k_) ∨ w.heap.size ≤ k_) ∧ some k_ ≠ (.slice (some ad406) x11_1.length co56 : Value).ownBlock ∧ some k_ ≠ (u14 : Value).ownBlock)) k_ ∧ some k_ ≠ (u9 : Value).ownBlock)) (Kd.R_apart' (Kd.R_apart' (Kd.R_apart' (HO409.out) (Kd.N_typed HO_11.out) (by decide)) (Kd.N_typed HO_14.out) (by decide)) (Kd.N_typed HO_9.out) (by decide)) (fun k_ hk => ⟨⟨(.inr (hk.1.1.1.1)), ⟨hk.1.1.2, hk.1.2⟩⟩, hk.2⟩))).2.1 (Kd.R_F (zF (ok' := (fun k_ => ((fun k_ => ((P1_ k_ ∨ P2_ k_) ∨ w.heap.size ≤ k_) ∧ some k_ ≠ (.slice (some ad406) x11_1.length co56 : Value).ownBlock ∧ some k_ ≠ (u14 : Value).ownBlock)) k_ ∧ some k_ ≠ (u9 : Value).ownBlock)) (Kd.R_apart' (Kd.R_apart' (Kd.R_apart' (HO409.out) (Kd.N_typed HO_11.out) (by decide)) (Kd.N_typed HO_14.out) (by decide)) (Kd.N_typed HO_9.out) (by decide)) (fun k_ hk => ⟨⟨(.inr (hk.1.1.1.1)), ⟨hk.1.1.2, hk.1.2⟩⟩, hk.2⟩))) (zA (zF (ok' := (fun k_ => ((fun k_ => ((P1_ k_ ∨ P2_ k_) ∨ w.heap.size ≤ k_) ∧ some k_ ≠ (.slice (some ad406) x11_1.length co56 : Value).ownBlock ∧ some k_ ≠ (u14 : Value).ownBlock)) k_ ∧ some k_ ≠ (u9 : Value).ownBlock)) (Kd.R_apart' (Kd.R_apart' (Kd.R_apart' (HO417.out) (Kd.N_typed HO_11.out) (by decide)) (Kd.N_typed HO_14.out) (by decide)) (Kd.N_typed HO_9.out) (by decide)) (fun k_ hk => ⟨⟨(.inr (hk.1.1.1.1)), ⟨hk.1.1.2, hk.1.2⟩⟩, hk.2⟩))).2.1 (Kd.R_F (zF (ok' := (fun k_ => ((fun k_ => ((P1_ k_ ∨ P2_ k_) ∨ w.heap.size ≤ k_) ∧ some k_ ≠ (.slice (some ad406) x11_1.length co56 : Value).ownBlock ∧ some k_ ≠ (u14 : Value).ownBlock)) k_ ∧ some k_ ≠ (u9 : Value).ownBlock)) (Kd.R_apart' (Kd.R_apart' (Kd.R_apart' (HO417.out) (Kd.N_typed HO_11.out) (by decide)) (Kd.N_typed HO_14.out) (by decide)) (Kd.N_typed HO_9.out) (by decide)) (fun k_ hk => ⟨⟨(.inr (hk.1.1.1.1)), ⟨hk.1.1.2, hk.1.2⟩⟩, hk.2⟩))))); (case aB => exact (kB HB)); (case aF => exact (fun k_ hk => ⟨(.inr (Nat.le_trans (below_size (kB HB)) hk)), Kd.fresh' (Kd.N_lt (by (with_reducible repeat (first | apply Kd.N_alloc | apply Kd.N_drewN | apply Kd.N_drew)); exact HO_11.out)) k_ hk, Kd.fresh' (Kd.N_lt (by (with_reducible repeat (first | apply Kd.N_alloc | apply Kd.N_drewN | apply Kd.N_drew)); exact HO_14.out)) k_ hk⟩)); (case aO => exact (by (with_reducible repeat (first | apply Kd.N_alloc | apply Kd.N_drewN | apply Kd.N_drew)); exact Kd.N_mono HO_9.out (fun _ hk => ⟨hk.1.1, ⟨hk.1.2.1, hk.1.2.2.1⟩⟩))); (case aS => exact (below_size (kB HB))); (case aL => have := LMc55.out; omega); intro v419 w66 ho hb hg hat; rw [← Ny418.out] at ho; have n0_ := yD (Kd.V_afterv (ok := (fun k_ => ((P1_ k_ ∨ P2_ k_) ∨ w.heap.size ≤ k_) ∧ some k_ ≠ (.slice (some ad406) x11_1.length co56 : Value).ownBlock ∧ some k_ ≠ (u14 : Value).ownBlock ∧ some k_ ≠ (.slice Ao65 y407.length co65 : Value).ownBlock ∧ some k_ ≠ (.slice Ao64 y415.length co64 : Value).ownBlock)) (by (with_reducible repeat (first | apply Kd.V_alloc | apply Kd.V_drewN | apply Kd.V_drew)); exact Kd.V_mono HO_1.out (fun _ hk => ⟨⟨hk.1.1, ⟨hk.1.2.2.1, ⟨hk.1.2.2.2.1, ⟨hk.1.2.2.2.2, hk.2⟩⟩⟩⟩, hk.1.2.1⟩)) hg hat); have n1_ := yD (Kd.V_afterv (ok := (fun k_ => ((P1_ k_ ∨ P2_ k_) ∨ w.heap.size ≤ k_) ∧ some k_ ≠ (.slice (some ad406) x11_1.length co56 : Value).ownBlock ∧ some k_ ≠ (u14 : Value).ownBlock ∧ some k_ ≠ (.slice Ao65 y407.length co65 : Value).ownBlock ∧ some k_ ≠ (.slice Ao64 y415.length co64 : Value).ownBlock)) (by (with_reducible repeat (first | apply Kd.V_alloc | apply Kd.V_drewN | apply Kd.V_drew)); exact Kd.V_mono HO_2.out (fun _ hk => ⟨⟨hk.1.1, ⟨hk.1.2.2.1, ⟨hk.1.2.2.2.1, ⟨hk.1.2.2.2.2, hk.2⟩⟩⟩⟩, hk.1.2.1⟩)) hg hat); have n2_ := yD (Kd.V_afterv (ok := (fun k_ => ((P1_ k_ ∨ P2_ k_) ∨ w.heap.size ≤ k_) ∧ some k_ ≠ (.slice (some ad406) x11_1.length co56 : Value).ownBlock ∧ some k_ ≠ (u14 : Value).ownBlock ∧ some k_ ≠ (.slice Ao65 y407.length co65 : Value).ownBlock ∧ some k_ ≠ (.slice Ao64 y415.length co64 : Value).ownBlock)) (by (with_reducible repeat (first | apply Kd.V_alloc | apply Kd.V_drewN | apply Kd.V_drew)); exact Kd.V_mono HO_10.out (fun _ hk => ⟨⟨hk.1.1, ⟨hk.1.2.2.1, ⟨hk.1.2.2.2.1, ⟨hk.1.2.2.2.2, hk.2⟩⟩⟩⟩, hk.1.2.1⟩)) hg hat); have n3_ := yD (Kd.N_afterv (ok := (fun k_ => ((P1_ k_ ∨ P2_ k_) ∨ w.heap.size ≤ k_) ∧ some k_ ≠ (u14 : Value).ownBlock ∧ some k_ ≠ (.slice Ao65 y407.length co65 : Value).ownBlock ∧ some k_ ≠ (.slice Ao64 y415.length co64 : Value).ownBlock)) (by (with_reducible repeat (first | apply Kd.N_alloc | apply Kd.N_drewN | apply Kd.N_drew)); exact Kd.N_mono HO_11.out (fun _ hk => ⟨⟨hk.1.1, ⟨hk.1.2.2.1, ⟨hk.1.2.2.2, hk.2⟩⟩⟩, hk.1.2.1⟩)) hg hat); have n4_ := yD (Kd.N_afterv (ok := (fun k_ => ((P1_ k_ ∨ P2_ k_) ∨ w.heap.size ≤ k_) ∧ some k_ ≠ (.slice (some ad406) x11_1.length co56 : Value).ownBlock ∧ some k_ ≠ (.slice Ao65 y407.length co65 : Value).ownBlock ∧ some k_ ≠ (.slice Ao64 y415.length co64 : Value).ownBlock)) (by (with_reducible repeat (first | apply Kd.N_alloc | apply Kd.N_drewN | apply Kd.N_drew)); exact Kd.N_mono HO_14.out (fun _ hk => ⟨⟨hk.1.1, ⟨hk.1.2.2.1, ⟨hk.1.2.2.2, hk.2⟩⟩⟩, hk.1.2.1⟩)) hg hat); have n5_ := yD (Kd.V_afterv (ok := (fun k_ => ((P1_ k_ ∨ P2_ k_) ∨ w.heap.size ≤ k_) ∧ some k_ ≠ (.slice (some ad406) x11_1.length co56 : Value).ownBlock ∧ some k_ ≠ (u14 : Value).ownBlock ∧ some k_ ≠ (.slice Ao65 y407.length co65 : Value).ownBlock ∧ some k_ ≠ (.slice Ao64 y415.length co64 : Value).ownBlock)) (by (with_reducible repeat (first | apply Kd.V_alloc | apply Kd.V_drewN | apply Kd.V_drew)); exact Kd.V_mono HL406_0.out (fun _ hk => ⟨⟨hk.1.1, ⟨hk.1.2.2.1, ⟨hk.1.2.2.2.1, ⟨hk.1.2.2.2.2, hk.2⟩⟩⟩⟩, hk.1.2.1⟩)) hg hat); have n6_ := yD (Kd.V_afterv (ok := (fun k_ => ((P1_ k_ ∨ P2_ k_) ∨ w.heap.size ≤ k_) ∧ some k_ ≠ (.slice (some ad406) x11_1.length co56 : Value).ownBlock ∧ some k_ ≠ (u14 : Value).ownBlock ∧ some k_ ≠ (.slice Ao65 y407.length co65 : Value).ownBlock ∧ some k_ ≠ (.slice Ao64 y415.length co64 : Value).ownBlock)) (by (with_reducible repeat (first | apply Kd.V_alloc | apply Kd.V_drewN | apply Kd.V_drew)); exact Kd.V_mono HL406_1.out (fun _ hk => ⟨⟨hk.1.1, ⟨hk.1.2.2.1, ⟨hk.1.2.2.2.1, ⟨hk.1.2.2.2.2, hk.2⟩⟩⟩⟩, hk.1.2.1⟩)) hg hat); have n7_ := yD (Kd.V_afterv (ok := (fun k_ => ((P1_ k_ ∨ P2_ k_) ∨ w.heap.size ≤ k_) ∧ some k_ ≠ (.slice (some ad406) x11_1.length co56 : Value).ownBlock ∧ some k_ ≠ (u14 : Value).ownBlock ∧ some k_ ≠ (.slice Ao65 y407.length co65 : Value).ownBlock ∧ some k_ ≠ (.slice Ao64 y415.length co64 : Value).ownBlock)) (by (with_reducible repeat (first | apply Kd.V_alloc | apply Kd.V_drewN | apply Kd.V_drew)); exact Kd.V_mono HL414_0.out (fun _ hk => ⟨⟨hk.1.1, ⟨hk.1.2.2.1, ⟨hk.1.2.2.2.1, ⟨hk.1.2.2.2.2, hk.2⟩⟩⟩⟩, hk.1.2.1⟩)) hg hat); have n8_ := yD (Kd.V_afterv (ok := (fun k_ => ((P1_ k_ ∨ P2_ k_) ∨ w.heap.size ≤ k_) ∧ some k_ ≠ (.slice (some ad406) x11_1.length co56 : Value).ownBlock ∧ some k_ ≠ (u14 : Value).ownBlock ∧ some k_ ≠ (.slice Ao65 y407.length co65 : Value).ownBlock ∧ some k_ ≠ (.slice Ao64 y415.length co64 : Value).ownBlock)) (by (with_reducible repeat (first | apply Kd.V_alloc | apply Kd.V_drewN | apply Kd.V_drew)); exact Kd.V_mono HL414_1.out (fun _ hk => ⟨⟨hk.1.1, ⟨hk.1.2.2.1, ⟨hk.1.2.2.2.1, ⟨hk.1.2.2.2.2, hk.2⟩⟩⟩⟩, hk.1.2.1⟩)) hg hat); have n9_ := yD (hb); have n10_ := yD (ho); clear HO_1; clear HO_2; clear HO_10; clear HO_11; clear HO_14; clear HL406_0; clear HL406_1; clear HL414_0; clear HL414_1; clear HB; clear HO_9; clear HO409; clear HO417; have HO_1 := n0_; have HO_2 := n1_; have HO_10 := n2_; have HO_11 := n3_; have HO_14 := n4_; have HL406_0 := n5_; have HL406_1 := n6_; have HL414_0 := n7_; have HL414_1 := n8_; have HB := n9_; have HO420 := n10_; clear n0_ n1_ n2_ n3_ n4_ n5_ n6_ n7_ n8_ n9_ n10_; clear ho hb hg hat))
                   go_roundg k4
                   case measure => have := HK1.out; have := HJ26.out; have := HJ41.out; have := HK4.out; omega
                   case rel => exact ⟨(y418), (wrap64 (x15_4 + 1)), (by first | rfl | (simp; done) | (simp [*]; done)), H', ⟨by have := HK1.out; have := HJ26.out; have := HJ41.out; have := HK4.out; omega⟩, ⟨by (with_reducible repeat (first | apply Kd.V_alloc | apply Kd.V_drewN | apply Kd.V_drew)); exact Kd.V_mono HO_1.out (fun _ hk => ⟨hk.1.1, ⟨hk.2, ⟨hk.1.2.1, hk.1.2.2.1⟩⟩⟩)⟩, ⟨by (with_reducible repeat (first | apply Kd.V_alloc | apply Kd.V_drewN | apply Kd.V_drew)); exact Kd.V_mono HO_2.out (fun _ hk => ⟨hk.1.1, ⟨hk.2, ⟨hk.1.2.1, hk.1.2.2.1⟩⟩⟩)⟩, ⟨by (with_reducible repeat (first | apply Kd.N_alloc | apply Kd.N_drewN | apply Kd.N_drew)); exact HO420.out⟩, ⟨by (with_reducible repeat (first | apply Kd.V_alloc | apply Kd.V_drewN | apply Kd.V_drew)); exact Kd.V_mono HO_10.out (fun _ hk => ⟨hk.1.1, ⟨hk.2, ⟨hk.1.2.1, hk.1.2.2.1⟩⟩⟩)⟩, ⟨by (with_reducible repeat (first | apply Kd.N_alloc | apply Kd.N_drewN | apply Kd.N_drew)); exact Kd.N_mono HO_11.out (fun _ hk => ⟨hk.1.1, ⟨hk.2, hk.1.2.1⟩⟩)⟩, ⟨by (with_reducible repeat (first | apply Kd.N_alloc | apply Kd.N_drewN | apply Kd.N_drew)); exact Kd.N_mono HO_14.out (fun _ hk => ⟨hk.1.1, ⟨hk.2, hk.1.2.1⟩⟩)⟩, ⟨kR0 HB⟩⟩
                  · rw [if_neg c55] at H
                    exact absurd H (by simp)
                 · rw [if_neg c54] at H
                   exact absurd H (by simp)
                · rw [if_neg c53] at H
                  exact absurd H (by simp)
               · rw [if_neg c52] at H
                 exact absurd H (by simp)
              · rw [if_neg c51] at H
                exact absurd H (by simp)
             · rw [if_neg c50] at H
               exact absurd H (by simp)
            ·
             rw [if_neg c49] at H
             have c49b0 : decide (x15_4 < (x11_1.length : Int)) = false := zS c49; clear c49
             by_cases c67 : 0 ≤ x13_1
             ·
              rw [if_pos c67] at H
              have c67b0 : decide (0 ≤ x13_1) = true := zR c67; clear c67
              by_cases c68 : x13_1 < (t382.length : Int)
              · rw [if_pos c68] at H
                have c68b0 : decide (x13_1 < (t382.length : Int)) = true := zR c68; clear c68
                have H' := yD H
                clear H
                obtain ⟨Ao69, co69, eo69⟩ := Kd.N_slice HO_11.out
                subst eo69
                have p421 : 0 ≤ (x13_1 : Int) := zP (by assumption)
                have q421 : x13_1 < (t382.length : Int) := zP (by assumption)
                obtain ⟨ad421, e421, hx421_0⟩ := Kd.at_int (Kd.V_reads' HO_10.out).2.2 x13_1 p421 q421
                cases e421; replace p421 := eq_true p421; replace q421 := eq_true q421
                go_wp2
                go_roundg k4
                case measure => have := HK1.out; have := HJ26.out; have := HJ41.out; have := HK4.out; omega
                case rel => exact ⟨(x9_4), (x14_26), (rd t382 x13_1), (wrap64 (x13_1 + 1)), (by first | rfl | (simp; done) | (simp [*]; done)), (by first | rfl | (simp; done) | (simp [*]; done)), H', ⟨by have := HK1.out; have := HJ26.out; have := HJ41.out; have := HK4.out; omega⟩, ⟨by (with_reducible repeat (first | apply Kd.V_alloc | apply Kd.V_drewN | apply Kd.V_drew)); exact Kd.V_mono HO_1.out (fun _ hk => ⟨hk.1, ⟨hk.2.1, hk.2.2.2⟩⟩)⟩, ⟨by (with_reducible repeat (first | apply Kd.V_alloc | apply Kd.V_drewN | apply Kd.V_drew)); exact Kd.V_mono HO_2.out (fun _ hk => ⟨hk.1, ⟨hk.2.1, hk.2.2.2⟩⟩)⟩, ⟨by (with_reducible repeat (first | apply Kd.N_alloc | apply Kd.N_drewN | apply Kd.N_drew)); exact Kd.N_mono HO_9.out (fun _ hk => ⟨hk.1, hk.2.2⟩)⟩, ⟨by (with_reducible repeat (first | apply Kd.V_alloc | apply Kd.V_drewN | apply Kd.V_drew)); exact Kd.V_mono HO_10.out (fun _ hk => ⟨hk.1, ⟨hk.2.1, hk.2.2.2⟩⟩)⟩, ⟨by (with_reducible repeat (first | apply Kd.N_alloc | apply Kd.N_drewN | apply Kd.N_drew)); exact Kd.N_mono HO_14.out (fun _ hk => ⟨hk.1, hk.2.1⟩)⟩, ⟨kR0 HB⟩⟩
              · rw [if_neg c68] at H
                exact absurd H (by simp)
             · rw [if_neg c67] at H
               exact absurd H (by simp)
    · rw [if_neg c26] at H
      have c26b0 : decide (x13_1 < (t382.length : Int)) = false := zS c26; clear c26; obtain rfl := Option.some.inj H
      obtain ⟨Ao70, co70, eo70⟩ := Kd.V_slice HO_10.out
      subst eo70
      go_wp2
      go_ret
      exact ⟨_, by first | rfl | (simp <;> rfl) | (simp [*] <;> rfl), by (with_reducible repeat (first | apply Kd.N_alloc | apply Kd.N_drewN | apply Kd.N_drew)); exact Kd.N_mono HO_9.out (fun _ hk => hk.1), kR0 HB⟩

end Go.Proofs.Ytdiaebjbiddefaa.PFnNormalForm
