/- Each Go function here comes to what the plain function of its name says, where that says something. Made by a program of this session, over the print. -/
import Derived.Test.YtdiaebjbiddefaaPFnSlabAlgebrax0
import Derived.Test.YtdiaebjbiddefaaPFnSlabAlgebrax1
import Derived.Test.YtdiaebjbiddefaaPFnSlabAlgebrax3
import Derived.Test.YtdiaebjbiddefaaPFnSlabAlgebrax4
import Derived.Test.YtdiaebjbiddefaaPFnSlabAlgebrax5
namespace Go.Proofs.Ytdiaebjbiddefaa.PFnSlabAlgebra
open Go.RowKit Go.Proofs.YtdiaebjbiddefaaW.PrintWords Go.Proofs.YtdiaebjbiddefaaW.PrintLast Go.Proofs.YtdiaebjbiddefaaW.PrintMore
attribute [local go_sem] max2_int min2_int max_two min_two max_three min_three max_four min_four   -- for this text's walks alone
set_option linter.unusedVariables false
set_option linter.unusedSimpArgs false

/-! ### laws_FnSlabAlgebra: function 7 -/
mutual
def laws_FnSlabAlgebra.j0 : Nat → Int → List (S42) → List (S42) → List (S42) → Int → List (S42) → Int → List (S42) → Int → Bool → Option (Bool)
 | 0, _, _, _, _, _, _, _, _, _, _ => none
 | k + 1, x3, x4, x5, x6, x7, x8, x9, x10, x11, x64 => if x64 = true then ((spec_UnionBoxes.f k x4 x5).bind fun bt566 => ((spec_IntersectBoxes.f k x4 x5).bind fun bt570 => ((spec_SubtractBoxes.f k x4 x5).bind fun bt574 => (if x7 = bt566.2 then (if x9 = bt570.2 then (some (x11 == bt574.2)) else (some false)) else (some false))))) else (laws_FnSlabAlgebra.l0 k x3 x4 x5 x6 x8 x10 1 0)
def laws_FnSlabAlgebra.l0 : Nat → Int → List (S42) → List (S42) → List (S42) → List (S42) → List (S42) → Int → Int → Option (Bool)
 | 0, _, _, _, _, _, _, _, _ => none
 | k + 1, x3, x4, x5, x6, x8, x10, x18, x19 => if x19 < x3 then (laws_FnSlabAlgebra.l0 k x3 x4 x5 x6 x8 x10 (wrap64 (x18 * 10)) (wrap64 (x19 + 1))) else (laws_FnSlabAlgebra.l1 k x3 x4 x5 x6 x8 x10 x18 (([0, 0, 0] : List Int)) 0)
def laws_FnSlabAlgebra.l1 : Nat → Int → List (S42) → List (S42) → List (S42) → List (S42) → List (S42) → Int → List Int → Int → Option (Bool)
 | 0, _, _, _, _, _, _, _, _, _ => none
 | k + 1, x3, x4, x5, x6, x8, x10, x18, x20, x21 => if x21 < x18 then ((laws_d8Probe.f k x3 x21).bind fun t587 => ((laws_d8In.f k x4 t587).bind fun t590 => ((laws_d8In.f k x5 t587).bind fun t591 => ((laws_d8In.f k x6 t587).bind fun t592 => ((laws_d8In.f k x8 t587).bind fun t593 => ((laws_d8In.f k x10 t587).bind fun t594 => (if t590 = true then (if (t592 != true) = true then (laws_FnSlabAlgebra.j3 k x3 x4 x5 x6 x8 x10 x18 x20 x21 t592 t593 t594 true) else (if (t593 != t591) = true then (laws_FnSlabAlgebra.j3 k x3 x4 x5 x6 x8 x10 x18 x20 x21 t592 t593 t594 true) else (if (t594 != (!t591)) = true then (laws_FnSlabAlgebra.j3 k x3 x4 x5 x6 x8 x10 x18 x20 x21 t592 t593 t594 true) else (if (Int.tmod x21 17) = 0 then ((impl_InBoxes.f k x6 t587).bind fun t595 => (laws_FnSlabAlgebra.j3 k x3 x4 x5 x6 x8 x10 x18 x20 x21 t592 t593 t594 (t595 != t592))) else (laws_FnSlabAlgebra.j3 k x3 x4 x5 x6 x8 x10 x18 x20 x21 t592 t593 t594 false))))) else (if (t592 != t591) = true then (laws_FnSlabAlgebra.j3 k x3 x4 x5 x6 x8 x10 x18 x20 x21 t592 t593 t594 true) else (if (t593 != false) = true then (laws_FnSlabAlgebra.j3 k x3 x4 x5 x6 x8 x10 x18 x20 x21 t592 t593 t594 true) else (if (t594 != false) = true then (laws_FnSlabAlgebra.j3 k x3 x4 x5 x6 x8 x10 x18 x20 x21 t592 t593 t594 true) else (if (Int.tmod x21 17) = 0 then ((impl_InBoxes.f k x6 t587).bind fun t596 => (laws_FnSlabAlgebra.j3 k x3 x4 x5 x6 x8 x10 x18 x20 x21 t592 t593 t594 (t596 != t592))) else (laws_FnSlabAlgebra.j3 k x3 x4 x5 x6 x8 x10 x18 x20 x21 t592 t593 t594 false)))))))))))) else ((laws_d8Size.f k x6).bind fun t581 => (if 0 < (x20.length : Int) then (if t581 = (rd x20 0) then ((laws_d8Size.f k x8).bind fun t583 => (if 1 < (x20.length : Int) then (if t583 = (rd x20 1) then ((laws_d8Size.f k x10).bind fun t585 => (if 2 < (x20.length : Int) then (some (t585 == (rd x20 2))) else (none))) else (some false)) else (none))) else (some false)) else (none)))
def laws_FnSlabAlgebra.j3 : Nat → Int → List (S42) → List (S42) → List (S42) → List (S42) → List (S42) → Int → List Int → Int → Bool → Bool → Bool → Bool → Option (Bool)
 | 0, _, _, _, _, _, _, _, _, _, _, _, _, _ => none
 | k + 1, x3, x4, x5, x6, x8, x10, x18, x20, x21, x25, x26, x27, x161 => if x161 = true then (some false) else (if x25 = true then (if 0 < (x20.length : Int) then (laws_FnSlabAlgebra.j4 k x3 x4 x5 x6 x8 x10 x18 (x20.set (0 : Int).toNat (wrap64 ((rd x20 0) + 1))) x21 x26 x27) else (none)) else (laws_FnSlabAlgebra.j4 k x3 x4 x5 x6 x8 x10 x18 x20 x21 x26 x27))
def laws_FnSlabAlgebra.j4 : Nat → Int → List (S42) → List (S42) → List (S42) → List (S42) → List (S42) → Int → List Int → Int → Bool → Bool → Option (Bool)
 | 0, _, _, _, _, _, _, _, _, _, _, _ => none
 | k + 1, x3, x4, x5, x6, x8, x10, x18, x20, x21, x26, x27 => if x26 = true then (if 1 < (x20.length : Int) then ((some (x20.set (1 : Int).toNat (wrap64 ((rd x20 1) + 1)) : List Int)).bind fun y600 => (if x27 = true then (if 2 < (x20.length : Int) then (laws_FnSlabAlgebra.l1 k x3 x4 x5 x6 x8 x10 x18 (y600.set (2 : Int).toNat (wrap64 ((rd y600 2) + 1))) (wrap64 (x21 + 1))) else (none)) else (laws_FnSlabAlgebra.l1 k x3 x4 x5 x6 x8 x10 x18 y600 (wrap64 (x21 + 1))))) else (none)) else (if x27 = true then (if 2 < (x20.length : Int) then (laws_FnSlabAlgebra.l1 k x3 x4 x5 x6 x8 x10 x18 (x20.set (2 : Int).toNat (wrap64 ((rd x20 2) + 1))) (wrap64 (x21 + 1))) else (none)) else (laws_FnSlabAlgebra.l1 k x3 x4 x5 x6 x8 x10 x18 x20 (wrap64 (x21 + 1))))
end
def laws_FnSlabAlgebra.f (k : Nat) (l0 : List Int) : Option (Bool) := if (l0.length : Int) > 1048576 then (some true) else ((spec_E8Boxes.f k l0).bind fun bt547 => ((impl_UnionBoxes.f k bt547.2.1 bt547.2.2).bind fun bt554 => ((impl_IntersectBoxes.f k bt547.2.1 bt547.2.2).bind fun bt558 => ((impl_SubtractBoxes.f k bt547.2.1 bt547.2.2).bind fun bt562 => (if bt554.2 = 0 then (if bt558.2 = 0 then (laws_FnSlabAlgebra.j0 k bt547.1 bt547.2.1 bt547.2.2 bt554.1 bt554.2 bt558.1 bt558.2 bt562.1 bt562.2 (bt562.2 != 0)) else (laws_FnSlabAlgebra.j0 k bt547.1 bt547.2.1 bt547.2.2 bt554.1 bt554.2 bt558.1 bt558.2 bt562.1 bt562.2 true)) else (laws_FnSlabAlgebra.j0 k bt547.1 bt547.2.1 bt547.2.2 bt554.1 bt554.2 bt558.1 bt558.2 bt562.1 bt562.2 true))))))
theorem laws_FnSlabAlgebra.mono_l : ∀ k, (∀ y0 y1 y2 y3 y4 y5 y6 y7 y8 y9, LeO (laws_FnSlabAlgebra.j0 k y0 y1 y2 y3 y4 y5 y6 y7 y8 y9) (laws_FnSlabAlgebra.j0 (k + 1) y0 y1 y2 y3 y4 y5 y6 y7 y8 y9)) ∧ (∀ y0 y1 y2 y3 y4 y5 y6 y7, LeO (laws_FnSlabAlgebra.l0 k y0 y1 y2 y3 y4 y5 y6 y7) (laws_FnSlabAlgebra.l0 (k + 1) y0 y1 y2 y3 y4 y5 y6 y7)) ∧ (∀ y0 y1 y2 y3 y4 y5 y6 y7 y8, LeO (laws_FnSlabAlgebra.l1 k y0 y1 y2 y3 y4 y5 y6 y7 y8) (laws_FnSlabAlgebra.l1 (k + 1) y0 y1 y2 y3 y4 y5 y6 y7 y8)) ∧ (∀ y0 y1 y2 y3 y4 y5 y6 y7 y8 y9 y10 y11 y12, LeO (laws_FnSlabAlgebra.j3 k y0 y1 y2 y3 y4 y5 y6 y7 y8 y9 y10 y11 y12) (laws_FnSlabAlgebra.j3 (k + 1) y0 y1 y2 y3 y4 y5 y6 y7 y8 y9 y10 y11 y12)) ∧ (∀ y0 y1 y2 y3 y4 y5 y6 y7 y8 y9 y10, LeO (laws_FnSlabAlgebra.j4 k y0 y1 y2 y3 y4 y5 y6 y7 y8 y9 y10) (laws_FnSlabAlgebra.j4 (k + 1) y0 y1 y2 y3 y4 y5 y6 y7 y8 y9 y10))
 | 0 => ⟨fun _ _ _ _ _ _ _ _ _ _ r h => by simp [laws_FnSlabAlgebra.j0] at h, fun _ _ _ _ _ _ _ _ r h => by simp [laws_FnSlabAlgebra.l0] at h, fun _ _ _ _ _ _ _ _ _ r h => by simp [laws_FnSlabAlgebra.l1] at h, fun _ _ _ _ _ _ _ _ _ _ _ _ _ r h => by simp [laws_FnSlabAlgebra.j3] at h, fun _ _ _ _ _ _ _ _ _ _ _ r h => by simp [laws_FnSlabAlgebra.j4] at h⟩
 | k + 1 => by
  obtain ⟨ih0, ih1, ih2, ih3, ih4⟩ := laws_FnSlabAlgebra.mono_l k
  refine ⟨?_, ?_, ?_, ?_, ?_⟩
  · intro y0 y1 y2 y3 y4 y5 y6 y7 y8 y9
    unfold laws_FnSlabAlgebra.j0
    repeat' (with_reducible first | exact ih0 _ _ _ _ _ _ _ _ _ _ | exact ih1 _ _ _ _ _ _ _ _ | exact ih2 _ _ _ _ _ _ _ _ _ | exact ih3 _ _ _ _ _ _ _ _ _ _ _ _ _ | exact ih4 _ _ _ _ _ _ _ _ _ _ _ | exact impl_InBoxes.mono _ _ _ | exact impl_IntersectBoxes.mono _ _ _ | exact impl_SubtractBoxes.mono _ _ _ | exact impl_UnionBoxes.mono _ _ _ | exact laws_d8In.mono _ _ _ | exact laws_d8Probe.mono _ _ _ | exact laws_d8Size.mono _ _ | exact spec_E8Boxes.mono _ _ | exact spec_IntersectBoxes.mono _ _ _ | exact spec_SubtractBoxes.mono _ _ _ | exact spec_UnionBoxes.mono _ _ _ | exact LeO.refl _ | exact LeO.none _ | refine LeO.ite ?_ ?_ | refine LeO.bind ?_ (fun _ => ?_))
  · intro y0 y1 y2 y3 y4 y5 y6 y7
    unfold laws_FnSlabAlgebra.l0
    repeat' (with_reducible first | exact ih0 _ _ _ _ _ _ _ _ _ _ | exact ih1 _ _ _ _ _ _ _ _ | exact ih2 _ _ _ _ _ _ _ _ _ | exact ih3 _ _ _ _ _ _ _ _ _ _ _ _ _ | exact ih4 _ _ _ _ _ _ _ _ _ _ _ | exact impl_InBoxes.mono _ _ _ | exact impl_IntersectBoxes.mono _ _ _ | exact impl_SubtractBoxes.mono _ _ _ | exact impl_UnionBoxes.mono _ _ _ | exact laws_d8In.mono _ _ _ | exact laws_d8Probe.mono _ _ _ | exact laws_d8Size.mono _ _ | exact spec_E8Boxes.mono _ _ | exact spec_IntersectBoxes.mono _ _ _ | exact spec_SubtractBoxes.mono _ _ _ | exact spec_UnionBoxes.mono _ _ _ | exact LeO.refl _ | exact LeO.none _ | refine LeO.ite ?_ ?_ | refine LeO.bind ?_ (fun _ => ?_))
  · intro y0 y1 y2 y3 y4 y5 y6 y7 y8
    unfold laws_FnSlabAlgebra.l1
    repeat' (with_reducible first | exact ih0 _ _ _ _ _ _ _ _ _ _ | exact ih1 _ _ _ _ _ _ _ _ | exact ih2 _ _ _ _ _ _ _ _ _ | exact ih3 _ _ _ _ _ _ _ _ _ _ _ _ _ | exact ih4 _ _ _ _ _ _ _ _ _ _ _ | exact impl_InBoxes.mono _ _ _ | exact impl_IntersectBoxes.mono _ _ _ | exact impl_SubtractBoxes.mono _ _ _ | exact impl_UnionBoxes.mono _ _ _ | exact laws_d8In.mono _ _ _ | exact laws_d8Probe.mono _ _ _ | exact laws_d8Size.mono _ _ | exact spec_E8Boxes.mono _ _ | exact spec_IntersectBoxes.mono _ _ _ | exact spec_SubtractBoxes.mono _ _ _ | exact spec_UnionBoxes.mono _ _ _ | exact LeO.refl _ | exact LeO.none _ | refine LeO.ite ?_ ?_ | refine LeO.bind ?_ (fun _ => ?_))
  · intro y0 y1 y2 y3 y4 y5 y6 y7 y8 y9 y10 y11 y12
    unfold laws_FnSlabAlgebra.j3
    repeat' (with_reducible first | exact ih0 _ _ _ _ _ _ _ _ _ _ | exact ih1 _ _ _ _ _ _ _ _ | exact ih2 _ _ _ _ _ _ _ _ _ | exact ih3 _ _ _ _ _ _ _ _ _ _ _ _ _ | exact ih4 _ _ _ _ _ _ _ _ _ _ _ | exact impl_InBoxes.mono _ _ _ | exact impl_IntersectBoxes.mono _ _ _ | exact impl_SubtractBoxes.mono _ _ _ | exact impl_UnionBoxes.mono _ _ _ | exact laws_d8In.mono _ _ _ | exact laws_d8Probe.mono _ _ _ | exact laws_d8Size.mono _ _ | exact spec_E8Boxes.mono _ _ | exact spec_IntersectBoxes.mono _ _ _ | exact spec_SubtractBoxes.mono _ _ _ | exact spec_UnionBoxes.mono _ _ _ | exact LeO.refl _ | exact LeO.none _ | refine LeO.ite ?_ ?_ | refine LeO.bind ?_ (fun _ => ?_))
  · intro y0 y1 y2 y3 y4 y5 y6 y7 y8 y9 y10
    unfold laws_FnSlabAlgebra.j4
    repeat' (with_reducible first | exact ih0 _ _ _ _ _ _ _ _ _ _ | exact ih1 _ _ _ _ _ _ _ _ | exact ih2 _ _ _ _ _ _ _ _ _ | exact ih3 _ _ _ _ _ _ _ _ _ _ _ _ _ | exact ih4 _ _ _ _ _ _ _ _ _ _ _ | exact impl_InBoxes.mono _ _ _ | exact impl_IntersectBoxes.mono _ _ _ | exact impl_SubtractBoxes.mono _ _ _ | exact impl_UnionBoxes.mono _ _ _ | exact laws_d8In.mono _ _ _ | exact laws_d8Probe.mono _ _ _ | exact laws_d8Size.mono _ _ | exact spec_E8Boxes.mono _ _ | exact spec_IntersectBoxes.mono _ _ _ | exact spec_SubtractBoxes.mono _ _ _ | exact spec_UnionBoxes.mono _ _ _ | exact LeO.refl _ | exact LeO.none _ | refine LeO.ite ?_ ?_ | refine LeO.bind ?_ (fun _ => ?_))
theorem laws_FnSlabAlgebra.mono : ∀ a0 k, LeO (laws_FnSlabAlgebra.f k a0) (laws_FnSlabAlgebra.f (k + 1) a0) := by
 intro a0 k
 obtain ⟨ih0, ih1, ih2, ih3, ih4⟩ := laws_FnSlabAlgebra.mono_l k
 unfold laws_FnSlabAlgebra.f
 repeat' (with_reducible first | exact ih0 _ _ _ _ _ _ _ _ _ _ | exact ih1 _ _ _ _ _ _ _ _ | exact ih2 _ _ _ _ _ _ _ _ _ | exact ih3 _ _ _ _ _ _ _ _ _ _ _ _ _ | exact ih4 _ _ _ _ _ _ _ _ _ _ _ | exact impl_InBoxes.mono _ _ _ | exact impl_IntersectBoxes.mono _ _ _ | exact impl_SubtractBoxes.mono _ _ _ | exact impl_UnionBoxes.mono _ _ _ | exact laws_d8In.mono _ _ _ | exact laws_d8Probe.mono _ _ _ | exact laws_d8Size.mono _ _ | exact spec_E8Boxes.mono _ _ | exact spec_IntersectBoxes.mono _ _ _ | exact spec_SubtractBoxes.mono _ _ _ | exact spec_UnionBoxes.mono _ _ _ | exact LeO.refl _ | exact LeO.none _ | refine LeO.ite ?_ ?_ | refine LeO.bind ?_ (fun _ => ?_))
def laws_FnSlabAlgebra.T35 : Bool × List (List Nat × List Nat) := (true, [([], []), ([0], [0]), ([], []), ([2], [2]), ([3], [3]), ([1, 4], [1, 4]), ([5, 1], [5]), ([6], [6]), ([7, 6, 6], [6, 7]), ([6], [6]), ([9, 6], [6, 9]), ([10, 6], [6, 10]), ([8, 11, 6], [6, 8, 11]), ([6, 12], [6, 12]), ([13, 8], [13]), ([14], [14]), ([15, 14, 14], [14, 15]), ([14], [14]), ([17, 14], [14, 17]), ([18, 14], [14, 18]), ([16, 19, 14], [14, 16, 19]), ([14, 20], [14, 20]), ([21, 16, 0, 1, 2, 3, 4, 5, 6, 7, 8, 9, 10, 11, 12, 13, 14, 15, 16, 17, 18, 19, 20, 21], [21])])
def laws_FnSlabAlgebra.B35 : List Nat := [0, 1, 0, 4, 12, 31, 63, 127, 255, 127, 639, 1663, 4095, 8191, 16383, 32767, 65535, 32767, 163839, 425983, 1048575, 2097151, 4194303]
theorem laws_FnSlabAlgebra.tab35 : rtab .any (opsOf Try.f7 35) = laws_FnSlabAlgebra.T35 := by kernel_rfl
theorem laws_FnSlabAlgebra.bits35 : waitsOk laws_FnSlabAlgebra.T35.2 laws_FnSlabAlgebra.B35 = true := by kernel_rfl
set_option maxHeartbeats 8000000 in
set_option maxRecDepth 100000 in
theorem laws_FnSlabAlgebra.calls (k : Nat) (A0 : Option Addr) (c0 : Nat) (l0 : List Int) (r : Bool) (w : World) (hr0 : Kd.C (Kd.int .u8) w A0 l0.length l0) (hc0 : l0.length ≤ c0) (h : laws_FnSlabAlgebra.f k l0 = some r) :
 Calls Try.prog 7 #[.slice A0 l0.length c0] w fun e w' => e = .returned (.bool r) ∧ Below w.heap.size w w' := by
 have HR0 := yD hr0
 have HC0 := yD hc0
 clear hr0 hc0
 have HB := yD (Below.refl w.heap.size w)
 have H : (if (l0.length : Int) > 1048576 then (some true) else ((spec_E8Boxes.f k l0).bind fun bt547 => ((impl_UnionBoxes.f k bt547.2.1 bt547.2.2).bind fun bt554 => ((impl_IntersectBoxes.f k bt547.2.1 bt547.2.2).bind fun bt558 => ((impl_SubtractBoxes.f k bt547.2.1 bt547.2.2).bind fun bt562 => (if bt554.2 = 0 then (if bt558.2 = 0 then (laws_FnSlabAlgebra.j0 k bt547.1 bt547.2.1 bt547.2.2 bt554.1 bt554.2 bt558.1 bt558.2 bt562.1 bt562.2 (bt562.2 != 0)) else (laws_FnSlabAlgebra.j0 k bt547.1 bt547.2.1 bt547.2.2 bt554.1 bt554.2 bt558.1 bt558.2 bt562.1 bt562.2 true)) else (laws_FnSlabAlgebra.j0 k bt547.1 bt547.2.1 bt547.2.2 bt554.1 bt554.2 bt558.1 bt558.2 bt562.1 bt562.2 true))))))) = some r := h
 clear h
 by_cases c2 : (l0.length : Int) > 1048576
 ·
  rw [if_pos c2] at H
  have c2b0 : decide (1048576 < (l0.length : Int)) = true := zR c2
  have c2b1 : decide (1048576 < l0.length) = true := zR (by omega)
  clear c2; obtain rfl := Option.some.inj H; go_enter Try.func7, Try.ntmps7
  go_wp2
  go_ret
  exact ⟨by first | rfl | (simp <;> rfl) | (simp [*] <;> rfl), kR0 HB⟩
 ·
  rw [if_neg c2] at H
  have c2b0 : decide (1048576 < (l0.length : Int)) = false := zS c2
  have c2b1 : decide (1048576 < l0.length) = false := zS (by omega)
  clear c2
  obtain ⟨⟨t547, t548, t549⟩, A30, H⟩ := zW_ H
  replace H : ((impl_UnionBoxes.f k t548 t549).bind fun bt554 => ((impl_IntersectBoxes.f k t548 t549).bind fun bt558 => ((impl_SubtractBoxes.f k t548 t549).bind fun bt562 => (if bt554.2 = 0 then (if bt558.2 = 0 then (laws_FnSlabAlgebra.j0 k t547 t548 t549 bt554.1 bt554.2 bt558.1 bt558.2 bt562.1 bt562.2 (bt562.2 != 0)) else (laws_FnSlabAlgebra.j0 k t547 t548 t549 bt554.1 bt554.2 bt558.1 bt558.2 bt562.1 bt562.2 true)) else (laws_FnSlabAlgebra.j0 k t547 t548 t549 bt554.1 bt554.2 bt558.1 bt558.2 bt562.1 bt562.2 true))))) = some r := H
  have A3 := yD A30
  clear A30
  obtain ⟨⟨t554, t555⟩, A40, H⟩ := zW_ H
  replace H : ((impl_IntersectBoxes.f k t548 t549).bind fun bt558 => ((impl_SubtractBoxes.f k t548 t549).bind fun bt562 => (if t555 = 0 then (if bt558.2 = 0 then (laws_FnSlabAlgebra.j0 k t547 t548 t549 t554 t555 bt558.1 bt558.2 bt562.1 bt562.2 (bt562.2 != 0)) else (laws_FnSlabAlgebra.j0 k t547 t548 t549 t554 t555 bt558.1 bt558.2 bt562.1 bt562.2 true)) else (laws_FnSlabAlgebra.j0 k t547 t548 t549 t554 t555 bt558.1 bt558.2 bt562.1 bt562.2 true)))) = some r := H
  have A4 := yD A40
  clear A40
  obtain ⟨⟨t558, t559⟩, A50, H⟩ := zW_ H
  replace H : ((impl_SubtractBoxes.f k t548 t549).bind fun bt562 => (if t555 = 0 then (if t559 = 0 then (laws_FnSlabAlgebra.j0 k t547 t548 t549 t554 t555 t558 t559 bt562.1 bt562.2 (bt562.2 != 0)) else (laws_FnSlabAlgebra.j0 k t547 t548 t549 t554 t555 t558 t559 bt562.1 bt562.2 true)) else (laws_FnSlabAlgebra.j0 k t547 t548 t549 t554 t555 t558 t559 bt562.1 bt562.2 true))) = some r := H
  have A5 := yD A50
  clear A50
  obtain ⟨⟨t562, t563⟩, A60, H⟩ := zW_ H
  replace H : (if t555 = 0 then (if t559 = 0 then (laws_FnSlabAlgebra.j0 k t547 t548 t549 t554 t555 t558 t559 t562 t563 (t563 != 0)) else (laws_FnSlabAlgebra.j0 k t547 t548 t549 t554 t555 t558 t559 t562 t563 true)) else (laws_FnSlabAlgebra.j0 k t547 t548 t549 t554 t555 t558 t559 t562 t563 true)) = some r := H
  have A6 := yD A60
  clear A60
  have HC7 := yD H
  clear H; go_enter Try.func7, Try.ntmps7
  go_upto_region 7 with (first | ((with_reducible refine gate_callee (f := 26) rfl ?_); refine gL 33 Try.func26 #[.slice A0 l0.length c0] ?_; (with_reducible refine (spec_E8Boxes.calls k _ _ l0 t547 t548 t549 _ ?side1 ?side2 A3.out).mono ?_); (case side1 => repeat (first | exact HR0.out | (with_reducible first | refine yV ?_ _ | refine yW ?_ _ | refine yX ?_))); (case side2 => exact HC0.out); rintro e w8 ⟨v550, v552, rfl, ho0, ho1, hb⟩; refine ⟨_, rfl, ?_⟩; have HO551 := yD (zG ho0 (below_size (kB HB))); have HO553 := yD (zG ho1 (below_size (kB HB))); replace HB := yD (zC (kB HB) hb); clear hb ho0 ho1; obtain ⟨Ao9, co9, eo9⟩ := Kd.S_slice HO551.out; subst eo9; obtain ⟨Ao10, co10, eo10⟩ := Kd.S_slice HO553.out; subst eo10) | ((with_reducible refine gate_callee (f := 21) rfl ?_); refine gL 40 Try.func21 #[.slice Ao9 t548.length co9, .slice Ao10 t549.length co10] ?_; (with_reducible refine (impl_UnionBoxes.calls k _ _ t548 _ _ t549 t554 t555 _ ?side1 ?side2 ?side3 ?side4 A4.out).mono ?_); (case side1 => exact kV (Kd.S_reads' HO551.out).2.2); (case side2 => exact (Kd.S_reads' HO551.out).2.1); (case side3 => exact kV (Kd.S_reads' HO553.out).2.2); (case side4 => exact (Kd.S_reads' HO553.out).2.1); rintro e w11 ⟨v556, rfl, ho0, hb⟩; refine ⟨_, rfl, ?_⟩; have HO557 := yD (zG (zD (zD ho0 (Kd.S_lt (kS HO551))) (Kd.S_lt (kS HO553))) (below_size (kB HB))); replace HO551 := yD (Kd.S_elder' (kS HO551) (Kd.S_base ho0) hb); replace HO553 := yD (Kd.S_elder' (kS HO553) (Kd.S_base ho0) hb); replace HB := yD (zC (kB HB) hb); clear hb ho0) | ((with_reducible refine gate_callee (f := 23) rfl ?_); refine gL 46 Try.func23 #[.slice Ao9 t548.length co9, .slice Ao10 t549.length co10] ?_; (with_reducible refine (impl_IntersectBoxes.calls k _ _ t548 _ _ t549 t558 t559 _ ?side1 ?side2 ?side3 ?side4 A5.out).mono ?_); (case side1 => exact kV (Kd.S_reads' HO551.out).2.2); (case side2 => exact (Kd.S_reads' HO551.out).2.1); (case side3 => exact kV (Kd.S_reads' HO553.out).2.2); (case side4 => exact (Kd.S_reads' HO553.out).2.1); rintro e w12 ⟨v560, rfl, ho0, hb⟩; refine ⟨_, rfl, ?_⟩; have HO561 := yD (zG (zD (zD (zD ho0 (Kd.S_lt (kS HO551))) (Kd.S_lt (kS HO553))) (Kd.S_lt (kS HO557))) (below_size (kB HB))); replace HO551 := yD (Kd.S_elder' (kS HO551) (Kd.S_base ho0) hb); replace HO553 := yD (Kd.S_elder' (kS HO553) (Kd.S_base ho0) hb); replace HO557 := yD (Kd.S_elder' (kS HO557) (Kd.S_base ho0) hb); replace HB := yD (zC (kB HB) hb); clear hb ho0) | ((with_reducible refine gate_callee (f := 25) rfl ?_); refine gL 52 Try.func25 #[.slice Ao9 t548.length co9, .slice Ao10 t549.length co10] ?_; (with_reducible refine (impl_SubtractBoxes.calls k _ _ t548 _ _ t549 t562 t563 _ ?side1 ?side2 ?side3 ?side4 A6.out).mono ?_); (case side1 => exact kV (Kd.S_reads' HO551.out).2.2); (case side2 => exact (Kd.S_reads' HO551.out).2.1); (case side3 => exact kV (Kd.S_reads' HO553.out).2.2); (case side4 => exact (Kd.S_reads' HO553.out).2.1); rintro e w13 ⟨v564, rfl, ho0, hb⟩; refine ⟨_, rfl, ?_⟩; have HO565 := yD (zG (zD (zD (zD (zD ho0 (Kd.S_lt (kS HO551))) (Kd.S_lt (kS HO553))) (Kd.S_lt (kS HO557))) (Kd.S_lt (kS HO561))) (below_size (kB HB))); replace HO551 := yD (Kd.S_elder' (kS HO551) (Kd.S_base ho0) hb); replace HO553 := yD (Kd.S_elder' (kS HO553) (Kd.S_base ho0) hb); replace HO557 := yD (Kd.S_elder' (kS HO557) (Kd.S_base ho0) hb); replace HO561 := yD (Kd.S_elder' (kS HO561) (Kd.S_base ho0) hb); replace HB := yD (zC (kB HB) hb); clear hb ho0))
  (try simp only [Act.put, zH, zI, zJ])
  go_cut [64] (fun v64 wc => ∃ (kq : Nat) (x64_6 : Bool), v64 = .bool x64_6 ∧ Aside0 (laws_FnSlabAlgebra.j0 kq t547 t548 t549 t554 t555 t558 t559 t562 t563 x64_6 = some r) ∧ Aside0 (kq ≤ k) ∧ Aside0 (Kd.S k42 42 wc w.heap.size (fun k_ => oB (.slice Ao10 t549.length co10) k_ ∧ oB v556 k_ ∧ oB v560 k_ ∧ oB v564 k_) (.slice Ao9 t548.length co9) t548) ∧ Aside0 (Kd.S k42 42 wc w.heap.size (fun k_ => oB (.slice Ao9 t548.length co9) k_ ∧ oB v556 k_ ∧ oB v560 k_ ∧ oB v564 k_) (.slice Ao10 t549.length co10) t549) ∧ Aside0 (Kd.S k42 42 wc w.heap.size (fun k_ => oB (.slice Ao9 t548.length co9) k_ ∧ oB (.slice Ao10 t549.length co10) k_ ∧ oB v560 k_ ∧ oB v564 k_) v556 t554) ∧ Aside0 (Kd.S k42 42 wc w.heap.size (fun k_ => oB (.slice Ao9 t548.length co9) k_ ∧ oB (.slice Ao10 t549.length co10) k_ ∧ oB v556 k_ ∧ oB v564 k_) v560 t558) ∧ Aside0 (Kd.S k42 42 wc w.heap.size (fun k_ => oB (.slice Ao9 t548.length co9) k_ ∧ oB (.slice Ao10 t549.length co10) k_ ∧ oB v556 k_ ∧ oB v560 k_) v564 t562) ∧ Aside0 (Below w.heap.size w wc))
  case first => as_aux_lemma =>
   have H := HC7.out; clear HC7
   by_cases c14 : t555 = 0
   ·
    rw [if_pos c14] at H
    have c14b0 : (t555 == 0) = true := beq_iff_eq.mpr c14
    have c14b1 : (t555 != 0) = false := bne_eq_false_iff_eq.mpr c14
    clear c14
    (first | rw [c14b0] | (simp only [i64_w, i32_w]; rw [c14b0]) | (simp only [bne] at c14b0; rw [c14b0]) | skip)
    by_cases c15 : t559 = 0
    ·
     rw [if_pos c15] at H
     have c15b0 : (t559 == 0) = true := beq_iff_eq.mpr c15
     have c15b1 : (t559 != 0) = false := bne_eq_false_iff_eq.mpr c15
     clear c15
     have H' := yD H
     clear H
     go_wp2
     go_meet
     case rel => exact ⟨_, ((t563 != 0)), (by first | rfl | (simp; done) | (simp [*]; done)), H', ⟨by first | omega | exact Nat.le_refl _⟩, ⟨mS HO551 (fun _ hk => ⟨hk.1.1.1, ⟨hk.1.1.2, ⟨hk.1.2, hk.2⟩⟩⟩)⟩, ⟨mS HO553 (fun _ hk => ⟨hk.1.1.1, ⟨hk.1.1.2, ⟨hk.1.2, hk.2⟩⟩⟩)⟩, ⟨mS HO557 (fun _ hk => ⟨hk.1.1.1.2, ⟨hk.1.1.2, ⟨hk.1.2, hk.2⟩⟩⟩)⟩, ⟨mS HO561 (fun _ hk => ⟨hk.1.1.1.2, ⟨hk.1.1.2, ⟨hk.1.2, hk.2⟩⟩⟩)⟩, ⟨mS HO565 (fun _ hk => ⟨hk.1.1.1.2, ⟨hk.1.1.2, ⟨hk.1.2, hk.2⟩⟩⟩)⟩, ⟨kR0 HB⟩⟩
    · rw [if_neg c15] at H
      have c15b0 : (t559 == 0) = false := beq_eq_false_iff_ne.mpr c15
      have c15b1 : (t559 != 0) = true := bne_iff_ne.mpr c15
      have H' := yD H
      clear H
      go_wp2
      go_meet
      case rel => exact ⟨_, (true), (by first | rfl | (simp; done) | (simp [*]; done)), H', ⟨by first | omega | exact Nat.le_refl _⟩, ⟨mS HO551 (fun _ hk => ⟨hk.1.1.1, ⟨hk.1.1.2, ⟨hk.1.2, hk.2⟩⟩⟩)⟩, ⟨mS HO553 (fun _ hk => ⟨hk.1.1.1, ⟨hk.1.1.2, ⟨hk.1.2, hk.2⟩⟩⟩)⟩, ⟨mS HO557 (fun _ hk => ⟨hk.1.1.1.2, ⟨hk.1.1.2, ⟨hk.1.2, hk.2⟩⟩⟩)⟩, ⟨mS HO561 (fun _ hk => ⟨hk.1.1.1.2, ⟨hk.1.1.2, ⟨hk.1.2, hk.2⟩⟩⟩)⟩, ⟨mS HO565 (fun _ hk => ⟨hk.1.1.1.2, ⟨hk.1.1.2, ⟨hk.1.2, hk.2⟩⟩⟩)⟩, ⟨kR0 HB⟩⟩
   ·
    rw [if_neg c14] at H
    have c14b0 : (t555 == 0) = false := beq_eq_false_iff_ne.mpr c14
    have c14b1 : (t555 != 0) = true := bne_iff_ne.mpr c14
    (first | rw [c14b0] | (simp only [i64_w, i32_w]; rw [c14b0]) | (simp only [bne] at c14b0; rw [c14b0]) | skip)
    have H' := yD H
    clear H
    go_wp2
    go_meet
    case rel => exact ⟨_, (true), (by first | rfl | (simp; done) | (simp [*]; done)), H', ⟨by first | omega | exact Nat.le_refl _⟩, ⟨mS HO551 (fun _ hk => ⟨hk.1.1.1, ⟨hk.1.1.2, ⟨hk.1.2, hk.2⟩⟩⟩)⟩, ⟨mS HO553 (fun _ hk => ⟨hk.1.1.1, ⟨hk.1.1.2, ⟨hk.1.2, hk.2⟩⟩⟩)⟩, ⟨mS HO557 (fun _ hk => ⟨hk.1.1.1.2, ⟨hk.1.1.2, ⟨hk.1.2, hk.2⟩⟩⟩)⟩, ⟨mS HO561 (fun _ hk => ⟨hk.1.1.1.2, ⟨hk.1.1.2, ⟨hk.1.2, hk.2⟩⟩⟩)⟩, ⟨mS HO565 (fun _ hk => ⟨hk.1.1.1.2, ⟨hk.1.1.2, ⟨hk.1.2, hk.2⟩⟩⟩)⟩, ⟨kR0 HB⟩⟩
  case rest => as_aux_lemma =>
   clear HC7; try clear c2; try clear c2b0; try clear c2b1; try clear c14; try clear c14b0; try clear c14b1; try clear c15; try clear c15b0; try clear c15b1
   obtain ⟨kq, x64_6, rfl, HA, HJ6, HO_4, HO_5, HO_6, HO_8, HO_10, HB⟩ := hcut
   cases kq with
   | zero => exact absurd HA.out (by simp [laws_FnSlabAlgebra.j0])
   | succ kj6 =>
    have H := HA.out; clear HA
    simp only [laws_FnSlabAlgebra.j0] at H
    by_cases c16 : x64_6 = true
    ·
     subst c16
     replace H : ((spec_UnionBoxes.f kj6 t548 t549).bind fun bt566 => ((spec_IntersectBoxes.f kj6 t548 t549).bind fun bt570 => ((spec_SubtractBoxes.f kj6 t548 t549).bind fun bt574 => (if t555 = bt566.2 then (if t559 = bt570.2 then (some (t563 == bt574.2)) else (some false)) else (some false))))) = some r := (by rw [if_pos rfl] at H; exact H)
     obtain ⟨⟨t566, t567⟩, A170, H⟩ := zW_ H
     replace H : ((spec_IntersectBoxes.f kj6 t548 t549).bind fun bt570 => ((spec_SubtractBoxes.f kj6 t548 t549).bind fun bt574 => (if t555 = t567 then (if t559 = bt570.2 then (some (t563 == bt574.2)) else (some false)) else (some false)))) = some r := H
     have A17 := yD A170
     clear A170
     obtain ⟨⟨t570, t571⟩, A180, H⟩ := zW_ H
     replace H : ((spec_SubtractBoxes.f kj6 t548 t549).bind fun bt574 => (if t555 = t567 then (if t559 = t571 then (some (t563 == bt574.2)) else (some false)) else (some false))) = some r := H
     have A18 := yD A180
     clear A180
     obtain ⟨⟨t574, t575⟩, A190, H⟩ := zW_ H
     replace H : (if t555 = t567 then (if t559 = t571 then (some (t563 == t575)) else (some false)) else (some false)) = some r := H
     have A19 := yD A190
     clear A190
     by_cases c20 : t555 = t567
     ·
      rw [if_pos c20] at H
      have c20b0 : (t555 == t567) = true := beq_iff_eq.mpr c20
      have c20b1 : (t555 != t567) = false := bne_eq_false_iff_eq.mpr c20
      clear c20
      by_cases c21 : t559 = t571
      · rw [if_pos c21] at H
        have c21b0 : (t559 == t571) = true := beq_iff_eq.mpr c21
        have c21b1 : (t559 != t571) = false := bne_eq_false_iff_eq.mpr c21
        clear c21; obtain rfl := Option.some.inj H
        go_wp2_with (first | ((with_reducible refine gate_callee (f := 20) rfl ?_); refine gL 68 Try.func20 #[.slice Ao9 t548.length co9, .slice Ao10 t549.length co10] ?_; (with_reducible refine (spec_UnionBoxes.calls kj6 _ _ t548 _ _ t549 t566 t567 _ ?side1 ?side2 ?side3 ?side4 A17.out).mono ?_); (case side1 => exact kV (Kd.S_reads' HO_4.out).2.2); (case side2 => exact (Kd.S_reads' HO_4.out).2.1); (case side3 => exact kV (Kd.S_reads' HO_5.out).2.2); (case side4 => exact (Kd.S_reads' HO_5.out).2.1); rintro e w22 ⟨v568, rfl, ho0, hb⟩; refine ⟨_, rfl, ?_⟩; have HO569 := yD (zG (zD (zD (zD (zD (zD ho0 (Kd.S_lt (kS HO_4))) (Kd.S_lt (kS HO_5))) (Kd.S_lt (kS HO_6))) (Kd.S_lt (kS HO_8))) (Kd.S_lt (kS HO_10))) (below_size (kB HB))); replace HO_4 := yD (Kd.S_elder' (kS HO_4) (Kd.S_base ho0) hb); replace HO_5 := yD (Kd.S_elder' (kS HO_5) (Kd.S_base ho0) hb); replace HO_6 := yD (Kd.S_elder' (kS HO_6) (Kd.S_base ho0) hb); replace HO_8 := yD (Kd.S_elder' (kS HO_8) (Kd.S_base ho0) hb); replace HO_10 := yD (Kd.S_elder' (kS HO_10) (Kd.S_base ho0) hb); replace HB := yD (zC (kB HB) hb); clear hb ho0) | ((with_reducible refine gate_callee (f := 22) rfl ?_); refine gL 74 Try.func22 #[.slice Ao9 t548.length co9, .slice Ao10 t549.length co10] ?_; (with_reducible refine (spec_IntersectBoxes.calls kj6 _ _ t548 _ _ t549 t570 t571 _ ?side1 ?side2 ?side3 ?side4 A18.out).mono ?_); (case side1 => exact kV (Kd.S_reads' HO_4.out).2.2); (case side2 => exact (Kd.S_reads' HO_4.out).2.1); (case side3 => exact kV (Kd.S_reads' HO_5.out).2.2); (case side4 => exact (Kd.S_reads' HO_5.out).2.1); rintro e w23 ⟨v572, rfl, ho0, hb⟩; refine ⟨_, rfl, ?_⟩; have HO573 := yD (zG (zD (zD (zD (zD (zD (zD ho0 (Kd.S_lt (kS HO_4))) (Kd.S_lt (kS HO_5))) (Kd.S_lt (kS HO_6))) (Kd.S_lt (kS HO_8))) (Kd.S_lt (kS HO_10))) (Kd.S_lt (kS HO569))) (below_size (kB HB))); replace HO_4 := yD (Kd.S_elder' (kS HO_4) (Kd.S_base ho0) hb); replace HO_5 := yD (Kd.S_elder' (kS HO_5) (Kd.S_base ho0) hb); replace HO_6 := yD (Kd.S_elder' (kS HO_6) (Kd.S_base ho0) hb); replace HO_8 := yD (Kd.S_elder' (kS HO_8) (Kd.S_base ho0) hb); replace HO_10 := yD (Kd.S_elder' (kS HO_10) (Kd.S_base ho0) hb); replace HO569 := yD (Kd.S_elder' (kS HO569) (Kd.S_base ho0) hb); replace HB := yD (zC (kB HB) hb); clear hb ho0) | ((with_reducible refine gate_callee (f := 24) rfl ?_); refine gL 80 Try.func24 #[.slice Ao9 t548.length co9, .slice Ao10 t549.length co10] ?_; (with_reducible refine (spec_SubtractBoxes.calls kj6 _ _ t548 _ _ t549 t574 t575 _ ?side1 ?side2 ?side3 ?side4 A19.out).mono ?_); (case side1 => exact kV (Kd.S_reads' HO_4.out).2.2); (case side2 => exact (Kd.S_reads' HO_4.out).2.1); (case side3 => exact kV (Kd.S_reads' HO_5.out).2.2); (case side4 => exact (Kd.S_reads' HO_5.out).2.1); rintro e w24 ⟨v576, rfl, ho0, hb⟩; refine ⟨_, rfl, ?_⟩; have HO577 := yD (zG (zD (zD (zD (zD (zD (zD (zD ho0 (Kd.S_lt (kS HO_4))) (Kd.S_lt (kS HO_5))) (Kd.S_lt (kS HO_6))) (Kd.S_lt (kS HO_8))) (Kd.S_lt (kS HO_10))) (Kd.S_lt (kS HO569))) (Kd.S_lt (kS HO573))) (below_size (kB HB))); replace HO_4 := yD (Kd.S_elder' (kS HO_4) (Kd.S_base ho0) hb); replace HO_5 := yD (Kd.S_elder' (kS HO_5) (Kd.S_base ho0) hb); replace HO_6 := yD (Kd.S_elder' (kS HO_6) (Kd.S_base ho0) hb); replace HO_8 := yD (Kd.S_elder' (kS HO_8) (Kd.S_base ho0) hb); replace HO_10 := yD (Kd.S_elder' (kS HO_10) (Kd.S_base ho0) hb); replace HO569 := yD (Kd.S_elder' (kS HO569) (Kd.S_base ho0) hb); replace HO573 := yD (Kd.S_elder' (kS HO573) (Kd.S_base ho0) hb); replace HB := yD (zC (kB HB) hb); clear hb ho0))
        go_ret
        exact ⟨by first | rfl | (simp <;> rfl) | (simp [*] <;> rfl), kR0 HB⟩
      · rw [if_neg c21] at H
        have c21b0 : (t559 == t571) = false := beq_eq_false_iff_ne.mpr c21
        have c21b1 : (t559 != t571) = true := bne_iff_ne.mpr c21
        obtain rfl := Option.some.inj H
        go_wp2_with (first | ((with_reducible refine gate_callee (f := 20) rfl ?_); refine gL 68 Try.func20 #[.slice Ao9 t548.length co9, .slice Ao10 t549.length co10] ?_; (with_reducible refine (spec_UnionBoxes.calls kj6 _ _ t548 _ _ t549 t566 t567 _ ?side1 ?side2 ?side3 ?side4 A17.out).mono ?_); (case side1 => exact kV (Kd.S_reads' HO_4.out).2.2); (case side2 => exact (Kd.S_reads' HO_4.out).2.1); (case side3 => exact kV (Kd.S_reads' HO_5.out).2.2); (case side4 => exact (Kd.S_reads' HO_5.out).2.1); rintro e w25 ⟨v568, rfl, ho0, hb⟩; refine ⟨_, rfl, ?_⟩; have HO569 := yD (zG (zD (zD (zD (zD (zD ho0 (Kd.S_lt (kS HO_4))) (Kd.S_lt (kS HO_5))) (Kd.S_lt (kS HO_6))) (Kd.S_lt (kS HO_8))) (Kd.S_lt (kS HO_10))) (below_size (kB HB))); replace HO_4 := yD (Kd.S_elder' (kS HO_4) (Kd.S_base ho0) hb); replace HO_5 := yD (Kd.S_elder' (kS HO_5) (Kd.S_base ho0) hb); replace HO_6 := yD (Kd.S_elder' (kS HO_6) (Kd.S_base ho0) hb); replace HO_8 := yD (Kd.S_elder' (kS HO_8) (Kd.S_base ho0) hb); replace HO_10 := yD (Kd.S_elder' (kS HO_10) (Kd.S_base ho0) hb); replace HB := yD (zC (kB HB) hb); clear hb ho0) | ((with_reducible refine gate_callee (f := 22) rfl ?_); refine gL 74 Try.func22 #[.slice Ao9 t548.length co9, .slice Ao10 t549.length co10] ?_; (with_reducible refine (spec_IntersectBoxes.calls kj6 _ _ t548 _ _ t549 t570 t571 _ ?side1 ?side2 ?side3 ?side4 A18.out).mono ?_); (case side1 => exact kV (Kd.S_reads' HO_4.out).2.2); (case side2 => exact (Kd.S_reads' HO_4.out).2.1); (case side3 => exact kV (Kd.S_reads' HO_5.out).2.2); (case side4 => exact (Kd.S_reads' HO_5.out).2.1); rintro e w26 ⟨v572, rfl, ho0, hb⟩; refine ⟨_, rfl, ?_⟩; have HO573 := yD (zG (zD (zD (zD (zD (zD (zD ho0 (Kd.S_lt (kS HO_4))) (Kd.S_lt (kS HO_5))) (Kd.S_lt (kS HO_6))) (Kd.S_lt (kS HO_8))) (Kd.S_lt (kS HO_10))) (Kd.S_lt (kS HO569))) (below_size (kB HB))); replace HO_4 := yD (Kd.S_elder' (kS HO_4) (Kd.S_base ho0) hb); replace HO_5 := yD (Kd.S_elder' (kS HO_5) (Kd.S_base ho0) hb); replace HO_6 := yD (Kd.S_elder' (kS HO_6) (Kd.S_base ho0) hb); replace HO_8 := yD (Kd.S_elder' (kS HO_8) (Kd.S_base ho0) hb); replace HO_10 := yD (Kd.S_elder' (kS HO_10) (Kd.S_base ho0) hb); replace HO569 := yD (Kd.S_elder' (kS HO569) (Kd.S_base ho0) hb); replace HB := yD (zC (kB HB) hb); clear hb ho0) | ((with_reducible refine gate_callee (f := 24) rfl ?_); refine gL 80 Try.func24 #[.slice Ao9 t548.length co9, .slice Ao10 t549.length co10] ?_; (with_reducible refine (spec_SubtractBoxes.calls kj6 _ _ t548 _ _ t549 t574 t575 _ ?side1 ?side2 ?side3 ?side4 A19.out).mono ?_); (case side1 => exact kV (Kd.S_reads' HO_4.out).2.2); (case side2 => exact (Kd.S_reads' HO_4.out).2.1); (case side3 => exact kV (Kd.S_reads' HO_5.out).2.2); (case side4 => exact (Kd.S_reads' HO_5.out).2.1); rintro e w27 ⟨v576, rfl, ho0, hb⟩; refine ⟨_, rfl, ?_⟩; have HO577 := yD (zG (zD (zD (zD (zD (zD (zD (zD ho0 (Kd.S_lt (kS HO_4))) (Kd.S_lt (kS HO_5))) (Kd.S_lt (kS HO_6))) (Kd.S_lt (kS HO_8))) (Kd.S_lt (kS HO_10))) (Kd.S_lt (kS HO569))) (Kd.S_lt (kS HO573))) (below_size (kB HB))); replace HO_4 := yD (Kd.S_elder' (kS HO_4) (Kd.S_base ho0) hb); replace HO_5 := yD (Kd.S_elder' (kS HO_5) (Kd.S_base ho0) hb); replace HO_6 := yD (Kd.S_elder' (kS HO_6) (Kd.S_base ho0) hb); replace HO_8 := yD (Kd.S_elder' (kS HO_8) (Kd.S_base ho0) hb); replace HO_10 := yD (Kd.S_elder' (kS HO_10) (Kd.S_base ho0) hb); replace HO569 := yD (Kd.S_elder' (kS HO569) (Kd.S_base ho0) hb); replace HO573 := yD (Kd.S_elder' (kS HO573) (Kd.S_base ho0) hb); replace HB := yD (zC (kB HB) hb); clear hb ho0))
        go_ret
        exact ⟨by first | rfl | (simp <;> rfl) | (simp [*] <;> rfl), kR0 HB⟩
     · rw [if_neg c20] at H
       have c20b0 : (t555 == t567) = false := beq_eq_false_iff_ne.mpr c20
       have c20b1 : (t555 != t567) = true := bne_iff_ne.mpr c20
       obtain rfl := Option.some.inj H
       go_wp2_with (first | ((with_reducible refine gate_callee (f := 20) rfl ?_); refine gL 68 Try.func20 #[.slice Ao9 t548.length co9, .slice Ao10 t549.length co10] ?_; (with_reducible refine (spec_UnionBoxes.calls kj6 _ _ t548 _ _ t549 t566 t567 _ ?side1 ?side2 ?side3 ?side4 A17.out).mono ?_); (case side1 => exact kV (Kd.S_reads' HO_4.out).2.2); (case side2 => exact (Kd.S_reads' HO_4.out).2.1); (case side3 => exact kV (Kd.S_reads' HO_5.out).2.2); (case side4 => exact (Kd.S_reads' HO_5.out).2.1); rintro e w28 ⟨v568, rfl, ho0, hb⟩; refine ⟨_, rfl, ?_⟩; have HO569 := yD (zG (zD (zD (zD (zD (zD ho0 (Kd.S_lt (kS HO_4))) (Kd.S_lt (kS HO_5))) (Kd.S_lt (kS HO_6))) (Kd.S_lt (kS HO_8))) (Kd.S_lt (kS HO_10))) (below_size (kB HB))); replace HO_4 := yD (Kd.S_elder' (kS HO_4) (Kd.S_base ho0) hb); replace HO_5 := yD (Kd.S_elder' (kS HO_5) (Kd.S_base ho0) hb); replace HO_6 := yD (Kd.S_elder' (kS HO_6) (Kd.S_base ho0) hb); replace HO_8 := yD (Kd.S_elder' (kS HO_8) (Kd.S_base ho0) hb); replace HO_10 := yD (Kd.S_elder' (kS HO_10) (Kd.S_base ho0) hb); replace HB := yD (zC (kB HB) hb); clear hb ho0) | ((with_reducible refine gate_callee (f := 22) rfl ?_); refine gL 74 Try.func22 #[.slice Ao9 t548.length co9, .slice Ao10 t549.length co10] ?_; (with_reducible refine (spec_IntersectBoxes.calls kj6 _ _ t548 _ _ t549 t570 t571 _ ?side1 ?side2 ?side3 ?side4 A18.out).mono ?_); (case side1 => exact kV (Kd.S_reads' HO_4.out).2.2); (case side2 => exact (Kd.S_reads' HO_4.out).2.1); (case side3 => exact kV (Kd.S_reads' HO_5.out).2.2); (case side4 => exact (Kd.S_reads' HO_5.out).2.1); rintro e w29 ⟨v572, rfl, ho0, hb⟩; refine ⟨_, rfl, ?_⟩; have HO573 := yD (zG (zD (zD (zD (zD (zD (zD ho0 (Kd.S_lt (kS HO_4))) (Kd.S_lt (kS HO_5))) (Kd.S_lt (kS HO_6))) (Kd.S_lt (kS HO_8))) (Kd.S_lt (kS HO_10))) (Kd.S_lt (kS HO569))) (below_size (kB HB))); replace HO_4 := yD (Kd.S_elder' (kS HO_4) (Kd.S_base ho0) hb); replace HO_5 := yD (Kd.S_elder' (kS HO_5) (Kd.S_base ho0) hb); replace HO_6 := yD (Kd.S_elder' (kS HO_6) (Kd.S_base ho0) hb); replace HO_8 := yD (Kd.S_elder' (kS HO_8) (Kd.S_base ho0) hb); replace HO_10 := yD (Kd.S_elder' (kS HO_10) (Kd.S_base ho0) hb); replace HO569 := yD (Kd.S_elder' (kS HO569) (Kd.S_base ho0) hb); replace HB := yD (zC (kB HB) hb); clear hb ho0) | ((with_reducible refine gate_callee (f := 24) rfl ?_); refine gL 80 Try.func24 #[.slice Ao9 t548.length co9, .slice Ao10 t549.length co10] ?_; (with_reducible refine (spec_SubtractBoxes.calls kj6 _ _ t548 _ _ t549 t574 t575 _ ?side1 ?side2 ?side3 ?side4 A19.out).mono ?_); (case side1 => exact kV (Kd.S_reads' HO_4.out).2.2); (case side2 => exact (Kd.S_reads' HO_4.out).2.1); (case side3 => exact kV (Kd.S_reads' HO_5.out).2.2); (case side4 => exact (Kd.S_reads' HO_5.out).2.1); rintro e w30 ⟨v576, rfl, ho0, hb⟩; refine ⟨_, rfl, ?_⟩; have HO577 := yD (zG (zD (zD (zD (zD (zD (zD (zD ho0 (Kd.S_lt (kS HO_4))) (Kd.S_lt (kS HO_5))) (Kd.S_lt (kS HO_6))) (Kd.S_lt (kS HO_8))) (Kd.S_lt (kS HO_10))) (Kd.S_lt (kS HO569))) (Kd.S_lt (kS HO573))) (below_size (kB HB))); replace HO_4 := yD (Kd.S_elder' (kS HO_4) (Kd.S_base ho0) hb); replace HO_5 := yD (Kd.S_elder' (kS HO_5) (Kd.S_base ho0) hb); replace HO_6 := yD (Kd.S_elder' (kS HO_6) (Kd.S_base ho0) hb); replace HO_8 := yD (Kd.S_elder' (kS HO_8) (Kd.S_base ho0) hb); replace HO_10 := yD (Kd.S_elder' (kS HO_10) (Kd.S_base ho0) hb); replace HO569 := yD (Kd.S_elder' (kS HO569) (Kd.S_base ho0) hb); replace HO573 := yD (Kd.S_elder' (kS HO573) (Kd.S_base ho0) hb); replace HB := yD (zC (kB HB) hb); clear hb ho0))
       go_ret
       exact ⟨by first | rfl | (simp <;> rfl) | (simp [*] <;> rfl), kR0 HB⟩
    ·
     replace c16 := Bool.eq_false_iff.mpr c16
     subst c16
     replace H : (laws_FnSlabAlgebra.l0 kj6 t547 t548 t549 t554 t558 t562 1 0) = some r := (by rw [if_neg (show ¬ (false = true) by decide)] at H; exact H)
     have H' := yD H
     clear H
     go_wp2
     go_loopg [18, 19] kj6 (fun kq v18 v19 w' => ∃ (x18_2 : Int) (x19_2 : Int), v18 = .int .i64 x18_2 ∧ v19 = .int .i64 x19_2 ∧ Aside0 (laws_FnSlabAlgebra.l0 kq t547 t548 t549 t554 t558 t562 x18_2 x19_2 = some r) ∧ Aside0 (kq ≤ kj6) ∧ Aside0 (Kd.S k42 42 w' w.heap.size (fun k_ => oB (.slice Ao10 t549.length co10) k_ ∧ oB v556 k_ ∧ oB v560 k_ ∧ oB v564 k_) (.slice Ao9 t548.length co9) t548) ∧ Aside0 (Kd.S k42 42 w' w.heap.size (fun k_ => oB (.slice Ao9 t548.length co9) k_ ∧ oB v556 k_ ∧ oB v560 k_ ∧ oB v564 k_) (.slice Ao10 t549.length co10) t549) ∧ Aside0 (Kd.S k42 42 w' w.heap.size (fun k_ => oB (.slice Ao9 t548.length co9) k_ ∧ oB (.slice Ao10 t549.length co10) k_ ∧ oB v560 k_ ∧ oB v564 k_) v556 t554) ∧ Aside0 (Kd.S k42 42 w' w.heap.size (fun k_ => oB (.slice Ao9 t548.length co9) k_ ∧ oB (.slice Ao10 t549.length co10) k_ ∧ oB v556 k_ ∧ oB v564 k_) v560 t558) ∧ Aside0 (Kd.S k42 42 w' w.heap.size (fun k_ => oB (.slice Ao9 t548.length co9) k_ ∧ oB (.slice Ao10 t549.length co10) k_ ∧ oB v556 k_ ∧ oB v560 k_) v564 t562) ∧ Aside0 (Below w.heap.size w w'))
     case atStart => exact ⟨(1), (0), (by first | rfl | (simp; done) | (simp [*]; done)), (by first | rfl | (simp; done) | (simp [*]; done)), H', ⟨Nat.le_refl _⟩, ⟨kS HO_4⟩, ⟨kS HO_5⟩, ⟨kS HO_6⟩, ⟨kS HO_8⟩, ⟨kS HO_10⟩, ⟨kR0 HB⟩⟩
     case round => as_aux_lemma =>
      clear H'
      try clear c1; try clear c2; try clear c2b0; try clear c2b1; try clear c14; try clear c14b0; try clear c14b1; try clear c15; try clear c15b0; try clear c15b1; try clear c16; try clear c20; try clear c20b0; try clear c20b1; try clear c21; try clear c21b0; try clear c21b1
      obtain ⟨x18_2, x19_2, rfl, rfl, HA, HK2, HO_4, HO_5, HO_6, HO_8, HO_10, HB⟩ := hrel
      cases gk with
      | zero => exact absurd HA.out (by simp [laws_FnSlabAlgebra.l0])
      | succ k2 =>
       have H := HA.out; clear HA
       simp only [laws_FnSlabAlgebra.l0] at H
       by_cases c31 : x19_2 < t547
       · rw [if_pos c31] at H
         have c31b0 : decide (x19_2 < t547) = true := zR c31; clear c31
         have H' := yD H
         clear H
         go_wp2
         go_roundg k2
         case measure => have := HJ6.out; have := HK2.out; omega
         case rel => exact ⟨(wrap64 (x18_2 * 10)), (wrap64 (x19_2 + 1)), (by first | rfl | (simp; done) | (simp [*]; done)), (by first | rfl | (simp; done) | (simp [*]; done)), H', ⟨by have := HJ6.out; have := HK2.out; omega⟩, ⟨kS HO_4⟩, ⟨kS HO_5⟩, ⟨kS HO_6⟩, ⟨kS HO_8⟩, ⟨kS HO_10⟩, ⟨kR0 HB⟩⟩
       ·
        rw [if_neg c31] at H
        have c31b0 : decide (x19_2 < t547) = false := zS c31; clear c31
        obtain ⟨y578, hy578⟩ : ∃ y_ : List Int, y_ = (([0, 0, 0] : List Int)) := ⟨_, rfl⟩
        replace H : (laws_FnSlabAlgebra.l1 k2 t547 t548 t549 t554 t558 t562 x18_2 y578 0) = some r := by first | (rw [hy578]; with_reducible exact H) | (have H2_ := (Option.bind_some _ _).symm.trans H; rw [hy578]; with_reducible exact H2_) | (have H2_ := (Option.bind_some _ _).symm.trans H; with_reducible exact H2_) | with_reducible exact H | (rw [hy578]; exact H) | exact H
        have Ny578 := yD hy578
        clear hy578
        have H' := yD H
        clear H
        go_wp2_with (first | ((with_reducible refine gate_dst (N := 103) rfl ?_); refine Kd.R_lit (Kd.int .i64) _ 2 ?hg (N := 103) ?hd (xs := ([0, 0, 0] : List Int)) (inner := [.int .i64 0, .int .i64 0, .int .i64 0]) (ok := fun _ => True) (okp := fun _ => True) ?hr ?hp (fun _ hk => hk) trivial (Below.refl _ _) (Nat.le_refl _) (by simp) ?_; (case hd => rfl); (case hg => rfl); (case hr => first | (go_simp; done) | (go_simp; rfl)); (case hp => exact (Reps.one (show Kd.M (Kd.int .i64) _ _ _ 0 [.int .i64 0] from rfl) (Reps.one (show Kd.M (Kd.int .i64) _ _ _ 0 [.int .i64 0] from rfl) (Reps.one (show Kd.M (Kd.int .i64) _ _ _ 0 [.int .i64 0] from rfl) (Reps.none _ _))))); intro v579 w32 ho33 hb hg_ hnew_; clear hg_ hnew_; (first | rw [← Ny578.out] at ho33 | (simp only [Int.reduceToNat] at ho33; rw [← Ny578.out] at ho33)); replace HO_4 := yD (Kd.S_elder' (kS HO_4) (yH ho33) hb); replace HO_5 := yD (Kd.S_elder' (kS HO_5) (yH ho33) hb); replace HO_6 := yD (Kd.S_elder' (kS HO_6) (yH ho33) hb); replace HO_8 := yD (Kd.S_elder' (kS HO_8) (yH ho33) hb); replace HO_10 := yD (Kd.S_elder' (kS HO_10) (yH ho33) hb); have HO580 := yD (yZ ho33 (below_size (kB HB))); replace HB := yD (zC (kB HB) hb); clear hb ho33))
        (try simp only [Act.put, zH, zI, zJ])
        go_loopg [21] k2 (fun kq v21 w' => ∃ (x20_3 : List Int) (x21_3 : Int), v21 = .int .i64 x21_3 ∧ Aside0 (laws_FnSlabAlgebra.l1 kq t547 t548 t549 t554 t558 t562 x18_2 x20_3 x21_3 = some r) ∧ Aside0 (kq ≤ k2) ∧ Aside0 (Kd.S k42 42 w' w.heap.size (fun k_ => oB (.slice Ao10 t549.length co10) k_ ∧ oB v556 k_ ∧ oB v560 k_ ∧ oB v564 k_ ∧ oB v579 k_) (.slice Ao9 t548.length co9) t548) ∧ Aside0 (Kd.S k42 42 w' w.heap.size (fun k_ => oB (.slice Ao9 t548.length co9) k_ ∧ oB v556 k_ ∧ oB v560 k_ ∧ oB v564 k_ ∧ oB v579 k_) (.slice Ao10 t549.length co10) t549) ∧ Aside0 (Kd.S k42 42 w' w.heap.size (fun k_ => oB (.slice Ao9 t548.length co9) k_ ∧ oB (.slice Ao10 t549.length co10) k_ ∧ oB v560 k_ ∧ oB v564 k_ ∧ oB v579 k_) v556 t554) ∧ Aside0 (Kd.S k42 42 w' w.heap.size (fun k_ => oB (.slice Ao9 t548.length co9) k_ ∧ oB (.slice Ao10 t549.length co10) k_ ∧ oB v556 k_ ∧ oB v564 k_ ∧ oB v579 k_) v560 t558) ∧ Aside0 (Kd.S k42 42 w' w.heap.size (fun k_ => oB (.slice Ao9 t548.length co9) k_ ∧ oB (.slice Ao10 t549.length co10) k_ ∧ oB v556 k_ ∧ oB v560 k_ ∧ oB v579 k_) v564 t562) ∧ Aside0 (Kd.R (Kd.int .i64) 2 w' w.heap.size (fun _ => True) v579 x20_3) ∧ Aside0 (Below w.heap.size w w'))
        case atStart => exact ⟨(y578), (0), (by first | rfl | (simp; done) | (simp [*]; done)), H', ⟨Nat.le_refl _⟩, ⟨mS HO_4 (fun _ hk => ⟨hk.1.1, ⟨hk.1.2.1, ⟨hk.1.2.2.1, ⟨hk.1.2.2.2, hk.2⟩⟩⟩⟩)⟩, ⟨mS HO_5 (fun _ hk => ⟨hk.1.1, ⟨hk.1.2.1, ⟨hk.1.2.2.1, ⟨hk.1.2.2.2, hk.2⟩⟩⟩⟩)⟩, ⟨mS HO_6 (fun _ hk => ⟨hk.1.1, ⟨hk.1.2.1, ⟨hk.1.2.2.1, ⟨hk.1.2.2.2, hk.2⟩⟩⟩⟩)⟩, ⟨mS HO_8 (fun _ hk => ⟨hk.1.1, ⟨hk.1.2.1, ⟨hk.1.2.2.1, ⟨hk.1.2.2.2, hk.2⟩⟩⟩⟩)⟩, ⟨mS HO_10 (fun _ hk => ⟨hk.1.1, ⟨hk.1.2.1, ⟨hk.1.2.2.1, ⟨hk.1.2.2.2, hk.2⟩⟩⟩⟩)⟩, ⟨kA HO580⟩, ⟨kR0 HB⟩⟩
        case round => as_aux_lemma =>
         clear H'
         try clear c1; try clear c2; try clear c2b0; try clear c2b1; try clear c14; try clear c14b0; try clear c14b1; try clear c15; try clear c15b0; try clear c15b1; try clear c16; try clear c20; try clear c20b0; try clear c20b1; try clear c21; try clear c21b0; try clear c21b1; try clear c31; try clear c31b0
         obtain ⟨x20_3, x21_3, rfl, HA, HK3, HO_4, HO_5, HO_6, HO_8, HO_10, HO_20, HB⟩ := hrel
         cases gk with
         | zero => exact absurd HA.out (by simp [laws_FnSlabAlgebra.l1])
         | succ k3 =>
          have H := HA.out; clear HA
          simp only [laws_FnSlabAlgebra.l1] at H
          by_cases c34 : x21_3 < x18_2
          ·
           rw [if_pos c34] at H
           have c34b0 : decide (x21_3 < x18_2) = true := zR c34; clear c34
           obtain ⟨t587, A350, H⟩ := zW_ H
           replace H : ((laws_d8In.f k3 t548 t587).bind fun t590 => ((laws_d8In.f k3 t549 t587).bind fun t591 => ((laws_d8In.f k3 t554 t587).bind fun t592 => ((laws_d8In.f k3 t558 t587).bind fun t593 => ((laws_d8In.f k3 t562 t587).bind fun t594 => (if t590 = true then (if (t592 != true) = true then (laws_FnSlabAlgebra.j3 k3 t547 t548 t549 t554 t558 t562 x18_2 x20_3 x21_3 t592 t593 t594 true) else (if (t593 != t591) = true then (laws_FnSlabAlgebra.j3 k3 t547 t548 t549 t554 t558 t562 x18_2 x20_3 x21_3 t592 t593 t594 true) else (if (t594 != (!t591)) = true then (laws_FnSlabAlgebra.j3 k3 t547 t548 t549 t554 t558 t562 x18_2 x20_3 x21_3 t592 t593 t594 true) else (if (Int.tmod x21_3 17) = 0 then ((impl_InBoxes.f k3 t554 t587).bind fun t595 => (laws_FnSlabAlgebra.j3 k3 t547 t548 t549 t554 t558 t562 x18_2 x20_3 x21_3 t592 t593 t594 (t595 != t592))) else (laws_FnSlabAlgebra.j3 k3 t547 t548 t549 t554 t558 t562 x18_2 x20_3 x21_3 t592 t593 t594 false))))) else (if (t592 != t591) = true then (laws_FnSlabAlgebra.j3 k3 t547 t548 t549 t554 t558 t562 x18_2 x20_3 x21_3 t592 t593 t594 true) else (if (t593 != false) = true then (laws_FnSlabAlgebra.j3 k3 t547 t548 t549 t554 t558 t562 x18_2 x20_3 x21_3 t592 t593 t594 true) else (if (t594 != false) = true then (laws_FnSlabAlgebra.j3 k3 t547 t548 t549 t554 t558 t562 x18_2 x20_3 x21_3 t592 t593 t594 true) else (if (Int.tmod x21_3 17) = 0 then ((impl_InBoxes.f k3 t554 t587).bind fun t596 => (laws_FnSlabAlgebra.j3 k3 t547 t548 t549 t554 t558 t562 x18_2 x20_3 x21_3 t592 t593 t594 (t596 != t592))) else (laws_FnSlabAlgebra.j3 k3 t547 t548 t549 t554 t558 t562 x18_2 x20_3 x21_3 t592 t593 t594 false))))))))))) = some r := H
           have A35 := yD A350
           clear A350
           obtain ⟨t590, A360, H⟩ := zW_ H
           replace H : ((laws_d8In.f k3 t549 t587).bind fun t591 => ((laws_d8In.f k3 t554 t587).bind fun t592 => ((laws_d8In.f k3 t558 t587).bind fun t593 => ((laws_d8In.f k3 t562 t587).bind fun t594 => (if t590 = true then (if (t592 != true) = true then (laws_FnSlabAlgebra.j3 k3 t547 t548 t549 t554 t558 t562 x18_2 x20_3 x21_3 t592 t593 t594 true) else (if (t593 != t591) = true then (laws_FnSlabAlgebra.j3 k3 t547 t548 t549 t554 t558 t562 x18_2 x20_3 x21_3 t592 t593 t594 true) else (if (t594 != (!t591)) = true then (laws_FnSlabAlgebra.j3 k3 t547 t548 t549 t554 t558 t562 x18_2 x20_3 x21_3 t592 t593 t594 true) else (if (Int.tmod x21_3 17) = 0 then ((impl_InBoxes.f k3 t554 t587).bind fun t595 => (laws_FnSlabAlgebra.j3 k3 t547 t548 t549 t554 t558 t562 x18_2 x20_3 x21_3 t592 t593 t594 (t595 != t592))) else (laws_FnSlabAlgebra.j3 k3 t547 t548 t549 t554 t558 t562 x18_2 x20_3 x21_3 t592 t593 t594 false))))) else (if (t592 != t591) = true then (laws_FnSlabAlgebra.j3 k3 t547 t548 t549 t554 t558 t562 x18_2 x20_3 x21_3 t592 t593 t594 true) else (if (t593 != false) = true then (laws_FnSlabAlgebra.j3 k3 t547 t548 t549 t554 t558 t562 x18_2 x20_3 x21_3 t592 t593 t594 true) else (if (t594 != false) = true then (laws_FnSlabAlgebra.j3 k3 t547 t548 t549 t554 t558 t562 x18_2 x20_3 x21_3 t592 t593 t594 true) else (if (Int.tmod x21_3 17) = 0 then ((impl_InBoxes.f k3 t554 t587).bind fun t596 => (laws_FnSlabAlgebra.j3 k3 t547 t548 t549 t554 t558 t562 x18_2 x20_3 x21_3 t592 t593 t594 (t596 != t592))) else (laws_FnSlabAlgebra.j3 k3 t547 t548 t549 t554 t558 t562 x18_2 x20_3 x21_3 t592 t593 t594 false)))))))))) = some r := H
           have A36 := yD A360
           clear A360
           obtain ⟨t591, A370, H⟩ := zW_ H
           replace H : ((laws_d8In.f k3 t554 t587).bind fun t592 => ((laws_d8In.f k3 t558 t587).bind fun t593 => ((laws_d8In.f k3 t562 t587).bind fun t594 => (if t590 = true then (if (t592 != true) = true then (laws_FnSlabAlgebra.j3 k3 t547 t548 t549 t554 t558 t562 x18_2 x20_3 x21_3 t592 t593 t594 true) else (if (t593 != t591) = true then (laws_FnSlabAlgebra.j3 k3 t547 t548 t549 t554 t558 t562 x18_2 x20_3 x21_3 t592 t593 t594 true) else (if (t594 != (!t591)) = true then (laws_FnSlabAlgebra.j3 k3 t547 t548 t549 t554 t558 t562 x18_2 x20_3 x21_3 t592 t593 t594 true) else (if (Int.tmod x21_3 17) = 0 then ((impl_InBoxes.f k3 t554 t587).bind fun t595 => (laws_FnSlabAlgebra.j3 k3 t547 t548 t549 t554 t558 t562 x18_2 x20_3 x21_3 t592 t593 t594 (t595 != t592))) else (laws_FnSlabAlgebra.j3 k3 t547 t548 t549 t554 t558 t562 x18_2 x20_3 x21_3 t592 t593 t594 false))))) else (if (t592 != t591) = true then (laws_FnSlabAlgebra.j3 k3 t547 t548 t549 t554 t558 t562 x18_2 x20_3 x21_3 t592 t593 t594 true) else (if (t593 != false) = true then (laws_FnSlabAlgebra.j3 k3 t547 t548 t549 t554 t558 t562 x18_2 x20_3 x21_3 t592 t593 t594 true) else (if (t594 != false) = true then (laws_FnSlabAlgebra.j3 k3 t547 t548 t549 t554 t558 t562 x18_2 x20_3 x21_3 t592 t593 t594 true) else (if (Int.tmod x21_3 17) = 0 then ((impl_InBoxes.f k3 t554 t587).bind fun t596 => (laws_FnSlabAlgebra.j3 k3 t547 t548 t549 t554 t558 t562 x18_2 x20_3 x21_3 t592 t593 t594 (t596 != t592))) else (laws_FnSlabAlgebra.j3 k3 t547 t548 t549 t554 t558 t562 x18_2 x20_3 x21_3 t592 t593 t594 false))))))))) = some r := H
           have A37 := yD A370
           clear A370
           obtain ⟨t592, A380, H⟩ := zW_ H
           replace H : ((laws_d8In.f k3 t558 t587).bind fun t593 => ((laws_d8In.f k3 t562 t587).bind fun t594 => (if t590 = true then (if (t592 != true) = true then (laws_FnSlabAlgebra.j3 k3 t547 t548 t549 t554 t558 t562 x18_2 x20_3 x21_3 t592 t593 t594 true) else (if (t593 != t591) = true then (laws_FnSlabAlgebra.j3 k3 t547 t548 t549 t554 t558 t562 x18_2 x20_3 x21_3 t592 t593 t594 true) else (if (t594 != (!t591)) = true then (laws_FnSlabAlgebra.j3 k3 t547 t548 t549 t554 t558 t562 x18_2 x20_3 x21_3 t592 t593 t594 true) else (if (Int.tmod x21_3 17) = 0 then ((impl_InBoxes.f k3 t554 t587).bind fun t595 => (laws_FnSlabAlgebra.j3 k3 t547 t548 t549 t554 t558 t562 x18_2 x20_3 x21_3 t592 t593 t594 (t595 != t592))) else (laws_FnSlabAlgebra.j3 k3 t547 t548 t549 t554 t558 t562 x18_2 x20_3 x21_3 t592 t593 t594 false))))) else (if (t592 != t591) = true then (laws_FnSlabAlgebra.j3 k3 t547 t548 t549 t554 t558 t562 x18_2 x20_3 x21_3 t592 t593 t594 true) else (if (t593 != false) = true then (laws_FnSlabAlgebra.j3 k3 t547 t548 t549 t554 t558 t562 x18_2 x20_3 x21_3 t592 t593 t594 true) else (if (t594 != false) = true then (laws_FnSlabAlgebra.j3 k3 t547 t548 t549 t554 t558 t562 x18_2 x20_3 x21_3 t592 t593 t594 true) else (if (Int.tmod x21_3 17) = 0 then ((impl_InBoxes.f k3 t554 t587).bind fun t596 => (laws_FnSlabAlgebra.j3 k3 t547 t548 t549 t554 t558 t562 x18_2 x20_3 x21_3 t592 t593 t594 (t596 != t592))) else (laws_FnSlabAlgebra.j3 k3 t547 t548 t549 t554 t558 t562 x18_2 x20_3 x21_3 t592 t593 t594 false)))))))) = some r := H
           have A38 := yD A380
           clear A380
           obtain ⟨t593, A390, H⟩ := zW_ H
           replace H : ((laws_d8In.f k3 t562 t587).bind fun t594 => (if t590 = true then (if (t592 != true) = true then (laws_FnSlabAlgebra.j3 k3 t547 t548 t549 t554 t558 t562 x18_2 x20_3 x21_3 t592 t593 t594 true) else (if (t593 != t591) = true then (laws_FnSlabAlgebra.j3 k3 t547 t548 t549 t554 t558 t562 x18_2 x20_3 x21_3 t592 t593 t594 true) else (if (t594 != (!t591)) = true then (laws_FnSlabAlgebra.j3 k3 t547 t548 t549 t554 t558 t562 x18_2 x20_3 x21_3 t592 t593 t594 true) else (if (Int.tmod x21_3 17) = 0 then ((impl_InBoxes.f k3 t554 t587).bind fun t595 => (laws_FnSlabAlgebra.j3 k3 t547 t548 t549 t554 t558 t562 x18_2 x20_3 x21_3 t592 t593 t594 (t595 != t592))) else (laws_FnSlabAlgebra.j3 k3 t547 t548 t549 t554 t558 t562 x18_2 x20_3 x21_3 t592 t593 t594 false))))) else (if (t592 != t591) = true then (laws_FnSlabAlgebra.j3 k3 t547 t548 t549 t554 t558 t562 x18_2 x20_3 x21_3 t592 t593 t594 true) else (if (t593 != false) = true then (laws_FnSlabAlgebra.j3 k3 t547 t548 t549 t554 t558 t562 x18_2 x20_3 x21_3 t592 t593 t594 true) else (if (t594 != false) = true then (laws_FnSlabAlgebra.j3 k3 t547 t548 t549 t554 t558 t562 x18_2 x20_3 x21_3 t592 t593 t594 true) else (if (Int.tmod x21_3 17) = 0 then ((impl_InBoxes.f k3 t554 t587).bind fun t596 => (laws_FnSlabAlgebra.j3 k3 t547 t548 t549 t554 t558 t562 x18_2 x20_3 x21_3 t592 t593 t594 (t596 != t592))) else (laws_FnSlabAlgebra.j3 k3 t547 t548 t549 t554 t558 t562 x18_2 x20_3 x21_3 t592 t593 t594 false))))))) = some r := H
           have A39 := yD A390
           clear A390
           obtain ⟨t594, A400, H⟩ := zW_ H
           replace H : (if t590 = true then (if (t592 != true) = true then (laws_FnSlabAlgebra.j3 k3 t547 t548 t549 t554 t558 t562 x18_2 x20_3 x21_3 t592 t593 t594 true) else (if (t593 != t591) = true then (laws_FnSlabAlgebra.j3 k3 t547 t548 t549 t554 t558 t562 x18_2 x20_3 x21_3 t592 t593 t594 true) else (if (t594 != (!t591)) = true then (laws_FnSlabAlgebra.j3 k3 t547 t548 t549 t554 t558 t562 x18_2 x20_3 x21_3 t592 t593 t594 true) else (if (Int.tmod x21_3 17) = 0 then ((impl_InBoxes.f k3 t554 t587).bind fun t595 => (laws_FnSlabAlgebra.j3 k3 t547 t548 t549 t554 t558 t562 x18_2 x20_3 x21_3 t592 t593 t594 (t595 != t592))) else (laws_FnSlabAlgebra.j3 k3 t547 t548 t549 t554 t558 t562 x18_2 x20_3 x21_3 t592 t593 t594 false))))) else (if (t592 != t591) = true then (laws_FnSlabAlgebra.j3 k3 t547 t548 t549 t554 t558 t562 x18_2 x20_3 x21_3 t592 t593 t594 true) else (if (t593 != false) = true then (laws_FnSlabAlgebra.j3 k3 t547 t548 t549 t554 t558 t562 x18_2 x20_3 x21_3 t592 t593 t594 true) else (if (t594 != false) = true then (laws_FnSlabAlgebra.j3 k3 t547 t548 t549 t554 t558 t562 x18_2 x20_3 x21_3 t592 t593 t594 true) else (if (Int.tmod x21_3 17) = 0 then ((impl_InBoxes.f k3 t554 t587).bind fun t596 => (laws_FnSlabAlgebra.j3 k3 t547 t548 t549 t554 t558 t562 x18_2 x20_3 x21_3 t592 t593 t594 (t596 != t592))) else (laws_FnSlabAlgebra.j3 k3 t547 t548 t549 t554 t558 t562 x18_2 x20_3 x21_3 t592 t593 t594 false)))))) = some r := H
           have A40 := yD A400
           clear A400
           have HC41 := yD H
           clear H
           go_upto_region 27 with (first | ((with_reducible refine gate_callee (f := 27) rfl ?_); refine gL 111 Try.func27 #[.int .i64 t547, .int .i64 x21_3] ?_; (with_reducible refine (laws_d8Probe.calls k3 t547 x21_3 t587 _ A35.out).mono ?_); rintro e w42 ⟨v588, rfl, ho0, hb⟩; refine ⟨_, rfl, ?_⟩; replace HO_4 := yD (Kd.S_elder' (kS HO_4) (yH ho0) hb); replace HO_5 := yD (Kd.S_elder' (kS HO_5) (yH ho0) hb); replace HO_6 := yD (Kd.S_elder' (kS HO_6) (yH ho0) hb); replace HO_8 := yD (Kd.S_elder' (kS HO_8) (yH ho0) hb); replace HO_10 := yD (Kd.S_elder' (kS HO_10) (yH ho0) hb); have HO589 := yD (yZ (yJ ho0 (yK (kA HO_20))) (below_size (kB HB))); replace HO_20 := yD (Kd.R_elder' (kA HO_20) (yH ho0) hb); replace HB := yD (zC (kB HB) hb); clear hb ho0; obtain ⟨Ao43, co43, eo43⟩ := Kd.R_slice HO589.out; subst eo43) | ((with_reducible refine gate_callee (f := 28) rfl ?_); refine gL 114 Try.func28 #[.slice Ao9 t548.length co9, .slice Ao43 t587.length co43] ?_; (with_reducible refine (laws_d8In.calls k3 _ _ t548 _ _ t587 t590 _ ?side1 ?side2 ?side3 ?side4 A36.out).mono ?_); (case side1 => exact kV (Kd.S_reads' HO_4.out).2.2); (case side2 => exact (Kd.S_reads' HO_4.out).2.1); (case side3 => exact kV (zA HO589.out).2.2); (case side4 => exact (zA HO589.out).2.1); rintro e w' ⟨rfl, ⟨nd, rfl⟩⟩; refine ⟨_, rfl, ?_⟩) | ((with_reducible refine gate_callee (f := 28) rfl ?_); refine gL 117 Try.func28 #[.slice Ao10 t549.length co10, .slice Ao43 t587.length co43] ?_; (with_reducible refine (laws_d8In.calls k3 _ _ t549 _ _ t587 t591 _ ?side1 ?side2 ?side3 ?side4 A37.out).mono ?_); (case side1 => exact kV (Kd.S_reads' HO_5.out).2.2); (case side2 => exact (Kd.S_reads' HO_5.out).2.1); (case side3 => exact kV (zA HO589.out).2.2); (case side4 => exact (zA HO589.out).2.1); rintro e w' ⟨rfl, ⟨nd, rfl⟩⟩; refine ⟨_, rfl, ?_⟩; obtain ⟨Ao44, co44, eo44⟩ := Kd.S_slice HO_6.out; subst eo44) | ((with_reducible refine gate_callee (f := 28) rfl ?_); refine gL 120 Try.func28 #[.slice Ao44 t554.length co44, .slice Ao43 t587.length co43] ?_; (with_reducible refine (laws_d8In.calls k3 _ _ t554 _ _ t587 t592 _ ?side1 ?side2 ?side3 ?side4 A38.out).mono ?_); (case side1 => exact kV (Kd.S_reads' HO_6.out).2.2); (case side2 => exact (Kd.S_reads' HO_6.out).2.1); (case side3 => exact kV (zA HO589.out).2.2); (case side4 => exact (zA HO589.out).2.1); rintro e w' ⟨rfl, ⟨nd, rfl⟩⟩; refine ⟨_, rfl, ?_⟩; obtain ⟨Ao45, co45, eo45⟩ := Kd.S_slice HO_8.out; subst eo45) | ((with_reducible refine gate_callee (f := 28) rfl ?_); refine gL 123 Try.func28 #[.slice Ao45 t558.length co45, .slice Ao43 t587.length co43] ?_; (with_reducible refine (laws_d8In.calls k3 _ _ t558 _ _ t587 t593 _ ?side1 ?side2 ?side3 ?side4 A39.out).mono ?_); (case side1 => exact kV (Kd.S_reads' HO_8.out).2.2); (case side2 => exact (Kd.S_reads' HO_8.out).2.1); (case side3 => exact kV (zA HO589.out).2.2); (case side4 => exact (zA HO589.out).2.1); rintro e w' ⟨rfl, ⟨nd, rfl⟩⟩; refine ⟨_, rfl, ?_⟩; obtain ⟨Ao46, co46, eo46⟩ := Kd.S_slice HO_10.out; subst eo46) | ((with_reducible refine gate_callee (f := 28) rfl ?_); refine gL 126 Try.func28 #[.slice Ao46 t562.length co46, .slice Ao43 t587.length co43] ?_; (with_reducible refine (laws_d8In.calls k3 _ _ t562 _ _ t587 t594 _ ?side1 ?side2 ?side3 ?side4 A40.out).mono ?_); (case side1 => exact kV (Kd.S_reads' HO_10.out).2.2); (case side2 => exact (Kd.S_reads' HO_10.out).2.1); (case side3 => exact kV (zA HO589.out).2.2); (case side4 => exact (zA HO589.out).2.1); rintro e w' ⟨rfl, ⟨nd, rfl⟩⟩; refine ⟨_, rfl, ?_⟩))
           (try simp only [Act.put, zH, zI, zJ])
           go_cut [161] (fun v161 wc => ∃ (kq : Nat) (x161_40 : Bool), v161 = .bool x161_40 ∧ Aside0 (laws_FnSlabAlgebra.j3 kq t547 t548 t549 t554 t558 t562 x18_2 x20_3 x21_3 t592 t593 t594 x161_40 = some r) ∧ Aside0 (kq ≤ k3) ∧ Aside0 (Kd.S k42 42 wc w.heap.size (fun k_ => oB (.slice Ao10 t549.length co10) k_ ∧ oB (.slice Ao44 t554.length co44) k_ ∧ oB (.slice Ao45 t558.length co45) k_ ∧ oB (.slice Ao46 t562.length co46) k_ ∧ oB v579 k_) (.slice Ao9 t548.length co9) t548) ∧ Aside0 (Kd.S k42 42 wc w.heap.size (fun k_ => oB (.slice Ao9 t548.length co9) k_ ∧ oB (.slice Ao44 t554.length co44) k_ ∧ oB (.slice Ao45 t558.length co45) k_ ∧ oB (.slice Ao46 t562.length co46) k_ ∧ oB v579 k_) (.slice Ao10 t549.length co10) t549) ∧ Aside0 (Kd.S k42 42 wc w.heap.size (fun k_ => oB (.slice Ao9 t548.length co9) k_ ∧ oB (.slice Ao10 t549.length co10) k_ ∧ oB (.slice Ao45 t558.length co45) k_ ∧ oB (.slice Ao46 t562.length co46) k_ ∧ oB v579 k_) (.slice Ao44 t554.length co44) t554) ∧ Aside0 (Kd.S k42 42 wc w.heap.size (fun k_ => oB (.slice Ao9 t548.length co9) k_ ∧ oB (.slice Ao10 t549.length co10) k_ ∧ oB (.slice Ao44 t554.length co44) k_ ∧ oB (.slice Ao46 t562.length co46) k_ ∧ oB v579 k_) (.slice Ao45 t558.length co45) t558) ∧ Aside0 (Kd.S k42 42 wc w.heap.size (fun k_ => oB (.slice Ao9 t548.length co9) k_ ∧ oB (.slice Ao10 t549.length co10) k_ ∧ oB (.slice Ao44 t554.length co44) k_ ∧ oB (.slice Ao45 t558.length co45) k_ ∧ oB v579 k_) (.slice Ao46 t562.length co46) t562) ∧ Aside0 (Kd.R (Kd.int .i64) 2 wc w.heap.size (fun _ => True) v579 x20_3) ∧ Aside0 (Below w.heap.size w wc))
           case first => as_aux_lemma =>
            have H := HC41.out; clear HC41
            by_cases c47 : t590 = true
            ·
             subst c47
             replace H : (if (t592 != true) = true then (laws_FnSlabAlgebra.j3 k3 t547 t548 t549 t554 t558 t562 x18_2 x20_3 x21_3 t592 t593 t594 true) else (if (t593 != t591) = true then (laws_FnSlabAlgebra.j3 k3 t547 t548 t549 t554 t558 t562 x18_2 x20_3 x21_3 t592 t593 t594 true) else (if (t594 != (!t591)) = true then (laws_FnSlabAlgebra.j3 k3 t547 t548 t549 t554 t558 t562 x18_2 x20_3 x21_3 t592 t593 t594 true) else (if (Int.tmod x21_3 17) = 0 then ((impl_InBoxes.f k3 t554 t587).bind fun t595 => (laws_FnSlabAlgebra.j3 k3 t547 t548 t549 t554 t558 t562 x18_2 x20_3 x21_3 t592 t593 t594 (t595 != t592))) else (laws_FnSlabAlgebra.j3 k3 t547 t548 t549 t554 t558 t562 x18_2 x20_3 x21_3 t592 t593 t594 false))))) = some r := (by rw [if_pos rfl] at H; exact H)
             by_cases c48 : (t592 != true) = true
             · rw [if_pos c48] at H
               have c48b0 : (t592 != true) = true := c48
               (try (have c48b1 : decide (t592 = true) = false := by simpa using c48))
               (try (have c48b2 : (t592 == true) = false := by simpa using c48))
               clear c48
               (first | rw [c48b0] | (simp only [i64_w, i32_w]; rw [c48b0]) | (simp only [bne] at c48b0; rw [c48b0]) | skip)
               have H' := yD H
               clear H
               go_wp2
               go_meet
               case rel => exact ⟨_, (true), (by first | rfl | (simp; done) | (simp [*]; done)), H', ⟨by have := HJ6.out; have := HK2.out; have := HK3.out; first | omega | exact Nat.le_refl _⟩, ⟨mS HO_4 (fun _ hk => ⟨hk.1.1, ⟨hk.1.2.1, ⟨hk.1.2.2.1, ⟨hk.1.2.2.2.1, hk.1.2.2.2.2⟩⟩⟩⟩)⟩, ⟨mS HO_5 (fun _ hk => ⟨hk.1.1, ⟨hk.1.2.1, ⟨hk.1.2.2.1, ⟨hk.1.2.2.2.1, hk.1.2.2.2.2⟩⟩⟩⟩)⟩, ⟨mS HO_6 (fun _ hk => ⟨hk.1.1, ⟨hk.1.2.1, ⟨hk.1.2.2.1, ⟨hk.1.2.2.2.1, hk.1.2.2.2.2⟩⟩⟩⟩)⟩, ⟨mS HO_8 (fun _ hk => ⟨hk.1.1, ⟨hk.1.2.1, ⟨hk.1.2.2.1, ⟨hk.1.2.2.2.1, hk.1.2.2.2.2⟩⟩⟩⟩)⟩, ⟨mS HO_10 (fun _ hk => ⟨hk.1.1, ⟨hk.1.2.1, ⟨hk.1.2.2.1, ⟨hk.1.2.2.2.1, hk.1.2.2.2.2⟩⟩⟩⟩)⟩, ⟨mR HO_20 (fun _ hk => trivial)⟩, ⟨kR0 HB⟩⟩
             ·
              rw [if_neg c48] at H
              have c48b0 : (t592 != true) = false := by simpa using c48
              (try (have c48b1 : decide (t592 = true) = true := by simpa using c48))
              (try (have c48b2 : (t592 == true) = true := by simpa using c48))
              clear c48
              (first | rw [c48b0] | (simp only [i64_w, i32_w]; rw [c48b0]) | (simp only [bne] at c48b0; rw [c48b0]) | skip)
              by_cases c49 : (t593 != t591) = true
              · rw [if_pos c49] at H
                have c49b0 : (t593 != t591) = true := c49
                (try (have c49b1 : decide (t593 = t591) = false := by simpa using c49))
                (try (have c49b2 : (t593 == t591) = false := by simpa using c49))
                (try (have c49b3 : ¬ (t593 = t591) := by simpa using c49))
                clear c49
                have H' := yD H
                clear H
                go_wp2
                go_meet
                case rel => exact ⟨_, (true), (by first | rfl | (simp; done) | (simp [*]; done)), H', ⟨by have := HJ6.out; have := HK2.out; have := HK3.out; first | omega | exact Nat.le_refl _⟩, ⟨mS HO_4 (fun _ hk => ⟨hk.1.1, ⟨hk.1.2.1, ⟨hk.1.2.2.1, ⟨hk.1.2.2.2.1, hk.1.2.2.2.2⟩⟩⟩⟩)⟩, ⟨mS HO_5 (fun _ hk => ⟨hk.1.1, ⟨hk.1.2.1, ⟨hk.1.2.2.1, ⟨hk.1.2.2.2.1, hk.1.2.2.2.2⟩⟩⟩⟩)⟩, ⟨mS HO_6 (fun _ hk => ⟨hk.1.1, ⟨hk.1.2.1, ⟨hk.1.2.2.1, ⟨hk.1.2.2.2.1, hk.1.2.2.2.2⟩⟩⟩⟩)⟩, ⟨mS HO_8 (fun _ hk => ⟨hk.1.1, ⟨hk.1.2.1, ⟨hk.1.2.2.1, ⟨hk.1.2.2.2.1, hk.1.2.2.2.2⟩⟩⟩⟩)⟩, ⟨mS HO_10 (fun _ hk => ⟨hk.1.1, ⟨hk.1.2.1, ⟨hk.1.2.2.1, ⟨hk.1.2.2.2.1, hk.1.2.2.2.2⟩⟩⟩⟩)⟩, ⟨mR HO_20 (fun _ hk => trivial)⟩, ⟨kR0 HB⟩⟩
              ·
               rw [if_neg c49] at H
               have c49b0 : (t593 != t591) = false := by simpa using c49
               (try (have c49b1 : decide (t593 = t591) = true := by simpa using c49))
               (try (have c49b2 : (t593 == t591) = true := by simpa using c49))
               clear c49
               by_cases c50 : (t594 != (!t591)) = true
               · rw [if_pos c50] at H
                 have c50b0 : (t594 != (!t591)) = true := c50
                 (try (have c50b1 : decide (t594 = (!t591)) = false := by simpa using c50))
                 (try (have c50b2 : (t594 == (!t591)) = false := by simpa using c50))
                 (try (have c50b3 : ¬ (t594 = (!t591)) := by simpa using c50))
                 clear c50
                 have H' := yD H
                 clear H
                 go_wp2
                 go_meet
                 case rel => exact ⟨_, (true), (by first | rfl | (simp; done) | (simp [*]; done)), H', ⟨by have := HJ6.out; have := HK2.out; have := HK3.out; first | omega | exact Nat.le_refl _⟩, ⟨mS HO_4 (fun _ hk => ⟨hk.1.1, ⟨hk.1.2.1, ⟨hk.1.2.2.1, ⟨hk.1.2.2.2.1, hk.1.2.2.2.2⟩⟩⟩⟩)⟩, ⟨mS HO_5 (fun _ hk => ⟨hk.1.1, ⟨hk.1.2.1, ⟨hk.1.2.2.1, ⟨hk.1.2.2.2.1, hk.1.2.2.2.2⟩⟩⟩⟩)⟩, ⟨mS HO_6 (fun _ hk => ⟨hk.1.1, ⟨hk.1.2.1, ⟨hk.1.2.2.1, ⟨hk.1.2.2.2.1, hk.1.2.2.2.2⟩⟩⟩⟩)⟩, ⟨mS HO_8 (fun _ hk => ⟨hk.1.1, ⟨hk.1.2.1, ⟨hk.1.2.2.1, ⟨hk.1.2.2.2.1, hk.1.2.2.2.2⟩⟩⟩⟩)⟩, ⟨mS HO_10 (fun _ hk => ⟨hk.1.1, ⟨hk.1.2.1, ⟨hk.1.2.2.1, ⟨hk.1.2.2.2.1, hk.1.2.2.2.2⟩⟩⟩⟩)⟩, ⟨mR HO_20 (fun _ hk => trivial)⟩, ⟨kR0 HB⟩⟩
               ·
                rw [if_neg c50] at H
                have c50b0 : (t594 != (!t591)) = false := by simpa using c50
                clear c50
                by_cases c51 : (Int.tmod x21_3 17) = 0
                · rw [if_pos c51] at H
                  have c51b0 : ((Int.tmod x21_3 17) == 0) = true := beq_iff_eq.mpr c51
                  have c51b1 : ((Int.tmod x21_3 17) != 0) = false := bne_eq_false_iff_eq.mpr c51
                  clear c51
                  obtain ⟨t595, A520, H⟩ := zW_ H
                  replace H : (laws_FnSlabAlgebra.j3 k3 t547 t548 t549 t554 t558 t562 x18_2 x20_3 x21_3 t592 t593 t594 (t595 != t592)) = some r := H
                  have A52 := yD A520
                  clear A520
                  have H' := yD H
                  clear H
                  obtain rfl := (show ∀ a b : Bool, (a != !b) = false → a = !b by decide) t594 t591 c50b0
                  go_wp2_with (first | (go_at_call 29; (with_reducible refine (impl_InBoxes.calls k3 _ _ t554 _ _ t587 t595 _ ?side1 ?side2 ?side3 ?side4 A52.out).mono ?_); (case side1 => exact kV (Kd.S_reads' HO_6.out).2.2); (case side2 => exact (Kd.S_reads' HO_6.out).2.1); (case side3 => exact kV (zA HO589.out).2.2); (case side4 => exact (zA HO589.out).2.1); rintro e w53 ⟨rfl, hb⟩; replace HO_4 := yD (Kd.S_below (kS HO_4) hb); replace HO_5 := yD (Kd.S_below (kS HO_5) hb); replace HO_6 := yD (Kd.S_below (kS HO_6) hb); replace HO_8 := yD (Kd.S_below (kS HO_8) hb); replace HO_10 := yD (Kd.S_below (kS HO_10) hb); replace HO_20 := yD (zE (kA HO_20) hb); replace HO589 := yD (zE (kA HO589) hb); replace HB := yD (zC (kB HB) hb); clear hb))
                  go_meet
                  case rel => exact ⟨_, ((t595 != t592)), (by first | rfl | (simp; done) | (simp [*]; done)), H', ⟨by have := HJ6.out; have := HK2.out; have := HK3.out; first | omega | exact Nat.le_refl _⟩, ⟨mS HO_4 (fun _ hk => ⟨hk.1.1, ⟨hk.1.2.1, ⟨hk.1.2.2.1, ⟨hk.1.2.2.2.1, hk.1.2.2.2.2⟩⟩⟩⟩)⟩, ⟨mS HO_5 (fun _ hk => ⟨hk.1.1, ⟨hk.1.2.1, ⟨hk.1.2.2.1, ⟨hk.1.2.2.2.1, hk.1.2.2.2.2⟩⟩⟩⟩)⟩, ⟨mS HO_6 (fun _ hk => ⟨hk.1.1, ⟨hk.1.2.1, ⟨hk.1.2.2.1, ⟨hk.1.2.2.2.1, hk.1.2.2.2.2⟩⟩⟩⟩)⟩, ⟨mS HO_8 (fun _ hk => ⟨hk.1.1, ⟨hk.1.2.1, ⟨hk.1.2.2.1, ⟨hk.1.2.2.2.1, hk.1.2.2.2.2⟩⟩⟩⟩)⟩, ⟨mS HO_10 (fun _ hk => ⟨hk.1.1, ⟨hk.1.2.1, ⟨hk.1.2.2.1, ⟨hk.1.2.2.2.1, hk.1.2.2.2.2⟩⟩⟩⟩)⟩, ⟨mR HO_20 (fun _ hk => trivial)⟩, ⟨kR0 HB⟩⟩
                · rw [if_neg c51] at H
                  have c51b0 : ((Int.tmod x21_3 17) == 0) = false := beq_eq_false_iff_ne.mpr c51
                  have c51b1 : ((Int.tmod x21_3 17) != 0) = true := bne_iff_ne.mpr c51
                  have H' := yD H
                  clear H
                  obtain rfl := (show ∀ a b : Bool, (a != !b) = false → a = !b by decide) t594 t591 c50b0
                  go_wp2
                  go_meet
                  case rel => exact ⟨_, (false), (by first | rfl | (simp; done) | (simp [*]; done)), H', ⟨by have := HJ6.out; have := HK2.out; have := HK3.out; first | omega | exact Nat.le_refl _⟩, ⟨mS HO_4 (fun _ hk => ⟨hk.1.1, ⟨hk.1.2.1, ⟨hk.1.2.2.1, ⟨hk.1.2.2.2.1, hk.1.2.2.2.2⟩⟩⟩⟩)⟩, ⟨mS HO_5 (fun _ hk => ⟨hk.1.1, ⟨hk.1.2.1, ⟨hk.1.2.2.1, ⟨hk.1.2.2.2.1, hk.1.2.2.2.2⟩⟩⟩⟩)⟩, ⟨mS HO_6 (fun _ hk => ⟨hk.1.1, ⟨hk.1.2.1, ⟨hk.1.2.2.1, ⟨hk.1.2.2.2.1, hk.1.2.2.2.2⟩⟩⟩⟩)⟩, ⟨mS HO_8 (fun _ hk => ⟨hk.1.1, ⟨hk.1.2.1, ⟨hk.1.2.2.1, ⟨hk.1.2.2.2.1, hk.1.2.2.2.2⟩⟩⟩⟩)⟩, ⟨mS HO_10 (fun _ hk => ⟨hk.1.1, ⟨hk.1.2.1, ⟨hk.1.2.2.1, ⟨hk.1.2.2.2.1, hk.1.2.2.2.2⟩⟩⟩⟩)⟩, ⟨mR HO_20 (fun _ hk => trivial)⟩, ⟨kR0 HB⟩⟩
            ·
             replace c47 := Bool.eq_false_iff.mpr c47
             subst c47
             replace H : (if (t592 != t591) = true then (laws_FnSlabAlgebra.j3 k3 t547 t548 t549 t554 t558 t562 x18_2 x20_3 x21_3 t592 t593 t594 true) else (if (t593 != false) = true then (laws_FnSlabAlgebra.j3 k3 t547 t548 t549 t554 t558 t562 x18_2 x20_3 x21_3 t592 t593 t594 true) else (if (t594 != false) = true then (laws_FnSlabAlgebra.j3 k3 t547 t548 t549 t554 t558 t562 x18_2 x20_3 x21_3 t592 t593 t594 true) else (if (Int.tmod x21_3 17) = 0 then ((impl_InBoxes.f k3 t554 t587).bind fun t596 => (laws_FnSlabAlgebra.j3 k3 t547 t548 t549 t554 t558 t562 x18_2 x20_3 x21_3 t592 t593 t594 (t596 != t592))) else (laws_FnSlabAlgebra.j3 k3 t547 t548 t549 t554 t558 t562 x18_2 x20_3 x21_3 t592 t593 t594 false))))) = some r := (by rw [if_neg (show ¬ (false = true) by decide)] at H; exact H)
             by_cases c54 : (t592 != t591) = true
             · rw [if_pos c54] at H
               have c54b0 : (t592 != t591) = true := c54
               (try (have c54b1 : decide (t592 = t591) = false := by simpa using c54))
               (try (have c54b2 : (t592 == t591) = false := by simpa using c54))
               (try (have c54b3 : ¬ (t592 = t591) := by simpa using c54))
               clear c54
               have H' := yD H
               clear H
               go_wp2
               go_meet
               case rel => exact ⟨_, (true), (by first | rfl | (simp; done) | (simp [*]; done)), H', ⟨by have := HJ6.out; have := HK2.out; have := HK3.out; first | omega | exact Nat.le_refl _⟩, ⟨mS HO_4 (fun _ hk => ⟨hk.1.1, ⟨hk.1.2.1, ⟨hk.1.2.2.1, ⟨hk.1.2.2.2.1, hk.1.2.2.2.2⟩⟩⟩⟩)⟩, ⟨mS HO_5 (fun _ hk => ⟨hk.1.1, ⟨hk.1.2.1, ⟨hk.1.2.2.1, ⟨hk.1.2.2.2.1, hk.1.2.2.2.2⟩⟩⟩⟩)⟩, ⟨mS HO_6 (fun _ hk => ⟨hk.1.1, ⟨hk.1.2.1, ⟨hk.1.2.2.1, ⟨hk.1.2.2.2.1, hk.1.2.2.2.2⟩⟩⟩⟩)⟩, ⟨mS HO_8 (fun _ hk => ⟨hk.1.1, ⟨hk.1.2.1, ⟨hk.1.2.2.1, ⟨hk.1.2.2.2.1, hk.1.2.2.2.2⟩⟩⟩⟩)⟩, ⟨mS HO_10 (fun _ hk => ⟨hk.1.1, ⟨hk.1.2.1, ⟨hk.1.2.2.1, ⟨hk.1.2.2.2.1, hk.1.2.2.2.2⟩⟩⟩⟩)⟩, ⟨mR HO_20 (fun _ hk => trivial)⟩, ⟨kR0 HB⟩⟩
             ·
              rw [if_neg c54] at H
              have c54b0 : (t592 != t591) = false := by simpa using c54
              (try (have c54b1 : decide (t592 = t591) = true := by simpa using c54))
              (try (have c54b2 : (t592 == t591) = true := by simpa using c54))
              clear c54
              by_cases c55 : (t593 != false) = true
              · rw [if_pos c55] at H
                have c55b0 : (t593 != false) = true := c55
                (try (have c55b1 : decide (t593 = false) = false := by simpa using c55))
                (try (have c55b2 : (t593 == false) = false := by simpa using c55))
                (try (have c55b3 : ¬ (t593 = false) := by simpa using c55))
                clear c55
                have H' := yD H
                clear H
                go_wp2
                go_meet
                case rel => exact ⟨_, (true), (by first | rfl | (simp; done) | (simp [*]; done)), H', ⟨by have := HJ6.out; have := HK2.out; have := HK3.out; first | omega | exact Nat.le_refl _⟩, ⟨mS HO_4 (fun _ hk => ⟨hk.1.1, ⟨hk.1.2.1, ⟨hk.1.2.2.1, ⟨hk.1.2.2.2.1, hk.1.2.2.2.2⟩⟩⟩⟩)⟩, ⟨mS HO_5 (fun _ hk => ⟨hk.1.1, ⟨hk.1.2.1, ⟨hk.1.2.2.1, ⟨hk.1.2.2.2.1, hk.1.2.2.2.2⟩⟩⟩⟩)⟩, ⟨mS HO_6 (fun _ hk => ⟨hk.1.1, ⟨hk.1.2.1, ⟨hk.1.2.2.1, ⟨hk.1.2.2.2.1, hk.1.2.2.2.2⟩⟩⟩⟩)⟩, ⟨mS HO_8 (fun _ hk => ⟨hk.1.1, ⟨hk.1.2.1, ⟨hk.1.2.2.1, ⟨hk.1.2.2.2.1, hk.1.2.2.2.2⟩⟩⟩⟩)⟩, ⟨mS HO_10 (fun _ hk => ⟨hk.1.1, ⟨hk.1.2.1, ⟨hk.1.2.2.1, ⟨hk.1.2.2.2.1, hk.1.2.2.2.2⟩⟩⟩⟩)⟩, ⟨mR HO_20 (fun _ hk => trivial)⟩, ⟨kR0 HB⟩⟩
              ·
               rw [if_neg c55] at H
               have c55b0 : (t593 != false) = false := by simpa using c55
               (try (have c55b1 : decide (t593 = false) = true := by simpa using c55))
               (try (have c55b2 : (t593 == false) = true := by simpa using c55))
               clear c55
               by_cases c56 : (t594 != false) = true
               · rw [if_pos c56] at H
                 have c56b0 : (t594 != false) = true := c56
                 (try (have c56b1 : decide (t594 = false) = false := by simpa using c56))
                 (try (have c56b2 : (t594 == false) = false := by simpa using c56))
                 (try (have c56b3 : ¬ (t594 = false) := by simpa using c56))
                 clear c56
                 have H' := yD H
                 clear H
                 go_wp2
                 go_meet
                 case rel => exact ⟨_, (true), (by first | rfl | (simp; done) | (simp [*]; done)), H', ⟨by have := HJ6.out; have := HK2.out; have := HK3.out; first | omega | exact Nat.le_refl _⟩, ⟨mS HO_4 (fun _ hk => ⟨hk.1.1, ⟨hk.1.2.1, ⟨hk.1.2.2.1, ⟨hk.1.2.2.2.1, hk.1.2.2.2.2⟩⟩⟩⟩)⟩, ⟨mS HO_5 (fun _ hk => ⟨hk.1.1, ⟨hk.1.2.1, ⟨hk.1.2.2.1, ⟨hk.1.2.2.2.1, hk.1.2.2.2.2⟩⟩⟩⟩)⟩, ⟨mS HO_6 (fun _ hk => ⟨hk.1.1, ⟨hk.1.2.1, ⟨hk.1.2.2.1, ⟨hk.1.2.2.2.1, hk.1.2.2.2.2⟩⟩⟩⟩)⟩, ⟨mS HO_8 (fun _ hk => ⟨hk.1.1, ⟨hk.1.2.1, ⟨hk.1.2.2.1, ⟨hk.1.2.2.2.1, hk.1.2.2.2.2⟩⟩⟩⟩)⟩, ⟨mS HO_10 (fun _ hk => ⟨hk.1.1, ⟨hk.1.2.1, ⟨hk.1.2.2.1, ⟨hk.1.2.2.2.1, hk.1.2.2.2.2⟩⟩⟩⟩)⟩, ⟨mR HO_20 (fun _ hk => trivial)⟩, ⟨kR0 HB⟩⟩
               ·
                rw [if_neg c56] at H
                have c56b0 : (t594 != false) = false := by simpa using c56
                (try (have c56b1 : decide (t594 = false) = true := by simpa using c56))
                (try (have c56b2 : (t594 == false) = true := by simpa using c56))
                clear c56
                by_cases c57 : (Int.tmod x21_3 17) = 0
                · rw [if_pos c57] at H
                  have c57b0 : ((Int.tmod x21_3 17) == 0) = true := beq_iff_eq.mpr c57
                  have c57b1 : ((Int.tmod x21_3 17) != 0) = false := bne_eq_false_iff_eq.mpr c57
                  clear c57
                  obtain ⟨t596, A580, H⟩ := zW_ H
                  replace H : (laws_FnSlabAlgebra.j3 k3 t547 t548 t549 t554 t558 t562 x18_2 x20_3 x21_3 t592 t593 t594 (t596 != t592)) = some r := H
                  have A58 := yD A580
                  clear A580
                  have H' := yD H
                  clear H
                  go_wp2_with (first | (go_at_call 29; (with_reducible refine (impl_InBoxes.calls k3 _ _ t554 _ _ t587 t596 _ ?side1 ?side2 ?side3 ?side4 A58.out).mono ?_); (case side1 => exact kV (Kd.S_reads' HO_6.out).2.2); (case side2 => exact (Kd.S_reads' HO_6.out).2.1); (case side3 => exact kV (zA HO589.out).2.2); (case side4 => exact (zA HO589.out).2.1); rintro e w59 ⟨rfl, hb⟩; replace HO_4 := yD (Kd.S_below (kS HO_4) hb); replace HO_5 := yD (Kd.S_below (kS HO_5) hb); replace HO_6 := yD (Kd.S_below (kS HO_6) hb); replace HO_8 := yD (Kd.S_below (kS HO_8) hb); replace HO_10 := yD (Kd.S_below (kS HO_10) hb); replace HO_20 := yD (zE (kA HO_20) hb); replace HO589 := yD (zE (kA HO589) hb); replace HB := yD (zC (kB HB) hb); clear hb))
                  go_meet
                  case rel => exact ⟨_, ((t596 != t592)), (by first | rfl | (simp; done) | (simp [*]; done)), H', ⟨by have := HJ6.out; have := HK2.out; have := HK3.out; first | omega | exact Nat.le_refl _⟩, ⟨mS HO_4 (fun _ hk => ⟨hk.1.1, ⟨hk.1.2.1, ⟨hk.1.2.2.1, ⟨hk.1.2.2.2.1, hk.1.2.2.2.2⟩⟩⟩⟩)⟩, ⟨mS HO_5 (fun _ hk => ⟨hk.1.1, ⟨hk.1.2.1, ⟨hk.1.2.2.1, ⟨hk.1.2.2.2.1, hk.1.2.2.2.2⟩⟩⟩⟩)⟩, ⟨mS HO_6 (fun _ hk => ⟨hk.1.1, ⟨hk.1.2.1, ⟨hk.1.2.2.1, ⟨hk.1.2.2.2.1, hk.1.2.2.2.2⟩⟩⟩⟩)⟩, ⟨mS HO_8 (fun _ hk => ⟨hk.1.1, ⟨hk.1.2.1, ⟨hk.1.2.2.1, ⟨hk.1.2.2.2.1, hk.1.2.2.2.2⟩⟩⟩⟩)⟩, ⟨mS HO_10 (fun _ hk => ⟨hk.1.1, ⟨hk.1.2.1, ⟨hk.1.2.2.1, ⟨hk.1.2.2.2.1, hk.1.2.2.2.2⟩⟩⟩⟩)⟩, ⟨mR HO_20 (fun _ hk => trivial)⟩, ⟨kR0 HB⟩⟩
                · rw [if_neg c57] at H
                  have c57b0 : ((Int.tmod x21_3 17) == 0) = false := beq_eq_false_iff_ne.mpr c57
                  have c57b1 : ((Int.tmod x21_3 17) != 0) = true := bne_iff_ne.mpr c57
                  have H' := yD H
                  clear H
                  go_wp2
                  go_meet
                  case rel => exact ⟨_, (false), (by first | rfl | (simp; done) | (simp [*]; done)), H', ⟨by have := HJ6.out; have := HK2.out; have := HK3.out; first | omega | exact Nat.le_refl _⟩, ⟨mS HO_4 (fun _ hk => ⟨hk.1.1, ⟨hk.1.2.1, ⟨hk.1.2.2.1, ⟨hk.1.2.2.2.1, hk.1.2.2.2.2⟩⟩⟩⟩)⟩, ⟨mS HO_5 (fun _ hk => ⟨hk.1.1, ⟨hk.1.2.1, ⟨hk.1.2.2.1, ⟨hk.1.2.2.2.1, hk.1.2.2.2.2⟩⟩⟩⟩)⟩, ⟨mS HO_6 (fun _ hk => ⟨hk.1.1, ⟨hk.1.2.1, ⟨hk.1.2.2.1, ⟨hk.1.2.2.2.1, hk.1.2.2.2.2⟩⟩⟩⟩)⟩, ⟨mS HO_8 (fun _ hk => ⟨hk.1.1, ⟨hk.1.2.1, ⟨hk.1.2.2.1, ⟨hk.1.2.2.2.1, hk.1.2.2.2.2⟩⟩⟩⟩)⟩, ⟨mS HO_10 (fun _ hk => ⟨hk.1.1, ⟨hk.1.2.1, ⟨hk.1.2.2.1, ⟨hk.1.2.2.2.1, hk.1.2.2.2.2⟩⟩⟩⟩)⟩, ⟨mR HO_20 (fun _ hk => trivial)⟩, ⟨kR0 HB⟩⟩
           case rest => as_aux_lemma =>
            clear HC41; try clear c2; try clear c2b0; try clear c2b1; try clear c14; try clear c14b0; try clear c14b1; try clear c15; try clear c15b0; try clear c15b1; try clear c16; try clear c20; try clear c20b0; try clear c20b1; try clear c21; try clear c21b0; try clear c21b1; try clear c31; try clear c31b0; try clear c34; try clear c34b0; try clear c47; try clear c48; try clear c48b0; try clear c48b1; try clear c48b2; try clear c49; try clear c49b0; try clear c49b1; try clear c49b2; try clear c50; try clear c50b0; try clear c50b1; try clear c50b2; try clear c51; try clear c51b0; try clear c51b1; try clear c54; try clear c54b0; try clear c54b1; try clear c54b2; try clear c55; try clear c55b0; try clear c55b1; try clear c55b2; try clear c56; try clear c56b0; try clear c56b1; try clear c56b2; try clear c57; try clear c57b0; try clear c57b1
            obtain ⟨kq, x161_40, rfl, HA, HJ40, HO_4, HO_5, HO_6, HO_8, HO_10, HO_20, HB⟩ := hcut
            cases kq with
            | zero => exact absurd HA.out (by simp [laws_FnSlabAlgebra.j3])
            | succ kj40 =>
             have H := HA.out; clear HA
             simp only [laws_FnSlabAlgebra.j3] at H
             by_cases c60 : x161_40 = true
             · subst c60
               replace H : (some false) = some r := (by rw [if_pos rfl] at H; exact H); obtain rfl := Option.some.inj H
               go_wp2
               go_ret
               exact ⟨by first | rfl | (simp <;> rfl) | (simp [*] <;> rfl), kR0 HB⟩
             ·
              replace c60 := Bool.eq_false_iff.mpr c60
              subst c60
              replace H : (if t592 = true then (if 0 < (x20_3.length : Int) then (laws_FnSlabAlgebra.j4 kj40 t547 t548 t549 t554 t558 t562 x18_2 (x20_3.set (0 : Int).toNat (wrap64 ((rd x20_3 0) + 1))) x21_3 t593 t594) else (none)) else (laws_FnSlabAlgebra.j4 kj40 t547 t548 t549 t554 t558 t562 x18_2 x20_3 x21_3 t593 t594)) = some r := (by rw [if_neg (show ¬ (false = true) by decide)] at H; exact H)
              have HC61 := yD H
              clear H
              go_upto_if 162 with (fail)
              go_cut [] (fun wc => ∃ (kq : Nat) (x20_60 : List Int), Aside0 (laws_FnSlabAlgebra.j4 kq t547 t548 t549 t554 t558 t562 x18_2 x20_60 x21_3 t593 t594 = some r) ∧ Aside0 (kq ≤ kj40) ∧ Aside0 (Kd.S k42 42 wc w.heap.size (fun k_ => oB (.slice Ao10 t549.length co10) k_ ∧ oB (.slice Ao44 t554.length co44) k_ ∧ oB (.slice Ao45 t558.length co45) k_ ∧ oB (.slice Ao46 t562.length co46) k_ ∧ oB v579 k_) (.slice Ao9 t548.length co9) t548) ∧ Aside0 (Kd.S k42 42 wc w.heap.size (fun k_ => oB (.slice Ao9 t548.length co9) k_ ∧ oB (.slice Ao44 t554.length co44) k_ ∧ oB (.slice Ao45 t558.length co45) k_ ∧ oB (.slice Ao46 t562.length co46) k_ ∧ oB v579 k_) (.slice Ao10 t549.length co10) t549) ∧ Aside0 (Kd.S k42 42 wc w.heap.size (fun k_ => oB (.slice Ao9 t548.length co9) k_ ∧ oB (.slice Ao10 t549.length co10) k_ ∧ oB (.slice Ao45 t558.length co45) k_ ∧ oB (.slice Ao46 t562.length co46) k_ ∧ oB v579 k_) (.slice Ao44 t554.length co44) t554) ∧ Aside0 (Kd.S k42 42 wc w.heap.size (fun k_ => oB (.slice Ao9 t548.length co9) k_ ∧ oB (.slice Ao10 t549.length co10) k_ ∧ oB (.slice Ao44 t554.length co44) k_ ∧ oB (.slice Ao46 t562.length co46) k_ ∧ oB v579 k_) (.slice Ao45 t558.length co45) t558) ∧ Aside0 (Kd.S k42 42 wc w.heap.size (fun k_ => oB (.slice Ao9 t548.length co9) k_ ∧ oB (.slice Ao10 t549.length co10) k_ ∧ oB (.slice Ao44 t554.length co44) k_ ∧ oB (.slice Ao45 t558.length co45) k_ ∧ oB v579 k_) (.slice Ao46 t562.length co46) t562) ∧ Aside0 (Kd.R (Kd.int .i64) 2 wc w.heap.size (fun _ => True) v579 x20_60) ∧ Aside0 (Below w.heap.size w wc))
              case first => as_aux_lemma =>
               have H := HC61.out; clear HC61
               by_cases c62 : t592 = true
               ·
                subst c62
                replace H : (if 0 < (x20_3.length : Int) then (laws_FnSlabAlgebra.j4 kj40 t547 t548 t549 t554 t558 t562 x18_2 (x20_3.set (0 : Int).toNat (wrap64 ((rd x20_3 0) + 1))) x21_3 t593 t594) else (none)) = some r := (by rw [if_pos rfl] at H; exact H)
                by_cases c63 : 0 < (x20_3.length : Int)
                ·
                 rw [if_pos c63] at H
                 have c63b0 : decide (0 < (x20_3.length : Int)) = true := zR c63
                 have c63b1 : decide (0 < x20_3.length) = true := zR (by omega)
                 clear c63
                 (first | rw [c63b0] | (simp only [i64_w, i32_w]; rw [c63b0]) | (simp only [bne] at c63b0; rw [c63b0]) | skip)
                 obtain ⟨y598, hy598⟩ : ∃ y_ : List Int, y_ = (x20_3.set (0 : Int).toNat (wrap64 ((rd x20_3 0) + 1))) := ⟨_, rfl⟩
                 replace H : (laws_FnSlabAlgebra.j4 kj40 t547 t548 t549 t554 t558 t562 x18_2 y598 x21_3 t593 t594) = some r := by first | (rw [hy598]; with_reducible exact H) | (have H2_ := (Option.bind_some _ _).symm.trans H; rw [hy598]; with_reducible exact H2_) | (have H2_ := (Option.bind_some _ _).symm.trans H; with_reducible exact H2_) | with_reducible exact H | (rw [hy598]; exact H) | exact H
                 have Ny598 := yD hy598
                 clear hy598
                 have H' := yD H
                 clear H
                 obtain ⟨Ao65, co65, eo65⟩ := Kd.R_slice HO_20.out
                 subst eo65
                 have p597 : 0 ≤ (0 : Int) := (by omega)
                 have q597 : 0 < (x20_3.length : Int) := zP (by assumption)
                 obtain ⟨ad597, e597, hx597_0⟩ := Kd.at_int (zA HO_20.out).2.2 0 p597 q597
                 cases e597
                 have qi597 : (0 < x20_3.length) = True := eq_true (by omega)
                 (try rw [show ((0 : Int)).toNat = 0 from rfl] at hx597_0)
                 (try rw [Addr.add_zero'] at hx597_0)
                 replace p597 := eq_true p597; replace q597 := eq_true q597
                 have p64 : 0 ≤ (0 : Int) := (by omega)
                 have q64 : (0 : Int) < ((x20_3.length : Int) : Int) := zP (by assumption)
                 have qi64 : (0 < x20_3.length) = True := eq_true (by omega)
                 obtain ⟨go64, co64, eo64, gb64, gl64, cl64, HG64⟩ := Kd.R_form HO_20.out (by omega)
                 (first | cases eo64 | (injection eo64 with ea_ en_ ec_; (first | subst ea_ | (injection ea_ with ea_; subst ea_)); subst ec_; clear en_))
                 have GB64 := yD gb64
                 have GG64 := yD HG64
                 clear gb64 gl64 HG64
                 (first | simp only [add_plain] at hx597_0 | skip)
                 obtain ⟨hx64_0, hf64_0⟩ := Kd.R_celln 0 HO_20.out (0 : Int) p64 q64
                 (try rw [show ((0 : Int)).toNat = 0 from rfl] at hx64_0)
                 (try simp only [Nat.reduceMul, Nat.zero_mul, Nat.zero_add, Nat.reduceAdd] at hx64_0)
                 (try rw [show ((0 : Int)).toNat = 0 from rfl] at hf64_0)
                 (try simp only [Nat.reduceMul, Nat.zero_mul, Nat.zero_add, Nat.reduceAdd] at hf64_0)
                 replace p64 := eq_true p64; replace q64 := eq_true q64
                 have HP66 := Kd.R_putg HO_20.out (0 : Int) (wrap64 ((rd x20_3 0) + 1))
                 go_wp2_with (first | ((with_reducible refine gate_store (t := 2) (p := 167) rfl ?_); refine store_event (t := 2) (p := 167) (v := ?vo_w67) (w1 := (wc.setCell ⟨go64, (0 : Int).toNat, none⟩ (.int .i64 (wrap64 ((rd x20_3 0) + 1))))) ?hg ?ho ?hn ?hr ?_; (case ho => rfl); (case hg => rfl); (case hn => rfl); (case hr => first | (go_simp; done) | (go_simp; rfl)); intro w67 hw; have hg : wc.grownBy w67 (some go64) := (by rw [hw]; exact HP66.2); have hp_ : Kd.R (Kd.int .i64) 2 w67 w.heap.size (fun _ => True) (.slice (some ⟨go64, 0, none⟩) x20_3.length co65) y598 := (by rw [hw, Ny598.out]; exact HP66.1); clear HP66; replace HO_4 := yD (Kd.S_after (v := (.slice (some ⟨go64, 0, none⟩) x20_3.length co65)) (v1 := (.slice (some ⟨go64, 0, none⟩) x20_3.length co65)) (ok := (fun k_ => oB (.slice Ao10 t549.length co10) k_ ∧ oB (.slice Ao44 t554.length co44) k_ ∧ oB (.slice Ao45 t558.length co45) k_ ∧ oB (.slice Ao46 t562.length co46) k_)) (mS HO_4 (fun _ hk => ⟨⟨hk.1, ⟨hk.2.1, ⟨hk.2.2.1, hk.2.2.2.1⟩⟩⟩, hk.2.2.2.2⟩)) hg (.inl rfl)); replace HO_5 := yD (Kd.S_after (v := (.slice (some ⟨go64, 0, none⟩) x20_3.length co65)) (v1 := (.slice (some ⟨go64, 0, none⟩) x20_3.length co65)) (ok := (fun k_ => oB (.slice Ao9 t548.length co9) k_ ∧ oB (.slice Ao44 t554.length co44) k_ ∧ oB (.slice Ao45 t558.length co45) k_ ∧ oB (.slice Ao46 t562.length co46) k_)) (mS HO_5 (fun _ hk => ⟨⟨hk.1, ⟨hk.2.1, ⟨hk.2.2.1, hk.2.2.2.1⟩⟩⟩, hk.2.2.2.2⟩)) hg (.inl rfl)); replace HO_6 := yD (Kd.S_after (v := (.slice (some ⟨go64, 0, none⟩) x20_3.length co65)) (v1 := (.slice (some ⟨go64, 0, none⟩) x20_3.length co65)) (ok := (fun k_ => oB (.slice Ao9 t548.length co9) k_ ∧ oB (.slice Ao10 t549.length co10) k_ ∧ oB (.slice Ao45 t558.length co45) k_ ∧ oB (.slice Ao46 t562.length co46) k_)) (mS HO_6 (fun _ hk => ⟨⟨hk.1, ⟨hk.2.1, ⟨hk.2.2.1, hk.2.2.2.1⟩⟩⟩, hk.2.2.2.2⟩)) hg (.inl rfl)); replace HO_8 := yD (Kd.S_after (v := (.slice (some ⟨go64, 0, none⟩) x20_3.length co65)) (v1 := (.slice (some ⟨go64, 0, none⟩) x20_3.length co65)) (ok := (fun k_ => oB (.slice Ao9 t548.length co9) k_ ∧ oB (.slice Ao10 t549.length co10) k_ ∧ oB (.slice Ao44 t554.length co44) k_ ∧ oB (.slice Ao46 t562.length co46) k_)) (mS HO_8 (fun _ hk => ⟨⟨hk.1, ⟨hk.2.1, ⟨hk.2.2.1, hk.2.2.2.1⟩⟩⟩, hk.2.2.2.2⟩)) hg (.inl rfl)); replace HO_10 := yD (Kd.S_after (v := (.slice (some ⟨go64, 0, none⟩) x20_3.length co65)) (v1 := (.slice (some ⟨go64, 0, none⟩) x20_3.length co65)) (ok := (fun k_ => oB (.slice Ao9 t548.length co9) k_ ∧ oB (.slice Ao10 t549.length co10) k_ ∧ oB (.slice Ao44 t554.length co44) k_ ∧ oB (.slice Ao45 t558.length co45) k_)) (mS HO_10 (fun _ hk => ⟨⟨hk.1, ⟨hk.2.1, ⟨hk.2.2.1, hk.2.2.2.1⟩⟩⟩, hk.2.2.2.2⟩)) hg (.inl rfl)); replace HO_20 := yD (hp_); replace HB := yD ((by rw [hw]; exact yE (HB.out) GB64.out : Below w.heap.size w w67)); clear hg hw hp_))
                 go_meet
                 case rel => exact ⟨_, (y598), H', ⟨by have := HJ6.out; have := HK2.out; have := HK3.out; have := HJ40.out; first | omega | exact Nat.le_refl _⟩, ⟨mS HO_4 (fun _ hk => ⟨hk.1.1, ⟨hk.1.2.1, ⟨hk.1.2.2.1, ⟨hk.1.2.2.2, hk.2⟩⟩⟩⟩)⟩, ⟨mS HO_5 (fun _ hk => ⟨hk.1.1, ⟨hk.1.2.1, ⟨hk.1.2.2.1, ⟨hk.1.2.2.2, hk.2⟩⟩⟩⟩)⟩, ⟨mS HO_6 (fun _ hk => ⟨hk.1.1, ⟨hk.1.2.1, ⟨hk.1.2.2.1, ⟨hk.1.2.2.2, hk.2⟩⟩⟩⟩)⟩, ⟨mS HO_8 (fun _ hk => ⟨hk.1.1, ⟨hk.1.2.1, ⟨hk.1.2.2.1, ⟨hk.1.2.2.2, hk.2⟩⟩⟩⟩)⟩, ⟨mS HO_10 (fun _ hk => ⟨hk.1.1, ⟨hk.1.2.1, ⟨hk.1.2.2.1, ⟨hk.1.2.2.2, hk.2⟩⟩⟩⟩)⟩, ⟨kA HO_20⟩, ⟨kR0 HB⟩⟩
                · rw [if_neg c63] at H
                  exact absurd H (by simp)
               · replace c62 := Bool.eq_false_iff.mpr c62
                 subst c62
                 replace H : (laws_FnSlabAlgebra.j4 kj40 t547 t548 t549 t554 t558 t562 x18_2 x20_3 x21_3 t593 t594) = some r := (by rw [if_neg (show ¬ (false = true) by decide)] at H; exact H)
                 have H' := yD H
                 clear H
                 go_wp2
                 go_meet
                 case rel => exact ⟨_, (x20_3), H', ⟨by have := HJ6.out; have := HK2.out; have := HK3.out; have := HJ40.out; first | omega | exact Nat.le_refl _⟩, ⟨kS HO_4⟩, ⟨kS HO_5⟩, ⟨kS HO_6⟩, ⟨kS HO_8⟩, ⟨kS HO_10⟩, ⟨kA HO_20⟩, ⟨kR0 HB⟩⟩
              case rest => as_aux_lemma =>
               clear HC61; try clear c2; try clear c2b0; try clear c2b1; try clear c14; try clear c14b0; try clear c14b1; try clear c15; try clear c15b0; try clear c15b1; try clear c16; try clear c20; try clear c20b0; try clear c20b1; try clear c21; try clear c21b0; try clear c21b1; try clear c31; try clear c31b0; try clear c34; try clear c34b0; try clear c47; try clear c48; try clear c48b0; try clear c48b1; try clear c48b2; try clear c49; try clear c49b0; try clear c49b1; try clear c49b2; try clear c50; try clear c50b0; try clear c50b1; try clear c50b2; try clear c51; try clear c51b0; try clear c51b1; try clear c54; try clear c54b0; try clear c54b1; try clear c54b2; try clear c55; try clear c55b0; try clear c55b1; try clear c55b2; try clear c56; try clear c56b0; try clear c56b1; try clear c56b2; try clear c57; try clear c57b0; try clear c57b1; try clear c60; try clear c62; try clear c63; try clear c63b0; try clear c63b1; try clear p64; try clear q64; try clear qi64; try clear hx597_0; try clear hx64_0; try clear p597; try clear p64; try clear q597; try clear q64
               obtain ⟨kq, x20_60, HA, HJ60, HO_4, HO_5, HO_6, HO_8, HO_10, HO_20, HB⟩ := hcut
               cases kq with
               | zero => exact absurd HA.out (by simp [laws_FnSlabAlgebra.j4])
               | succ kj60 =>
                have H := HA.out; clear HA
                simp only [laws_FnSlabAlgebra.j4] at H
                by_cases c68 : t593 = true
                ·
                 subst c68
                 replace H : (if 1 < (x20_60.length : Int) then ((some (x20_60.set (1 : Int).toNat (wrap64 ((rd x20_60 1) + 1)) : List Int)).bind fun y600 => (if t594 = true then (if 2 < (x20_60.length : Int) then (laws_FnSlabAlgebra.l1 kj60 t547 t548 t549 t554 t558 t562 x18_2 (y600.set (2 : Int).toNat (wrap64 ((rd y600 2) + 1))) (wrap64 (x21_3 + 1))) else (none)) else (laws_FnSlabAlgebra.l1 kj60 t547 t548 t549 t554 t558 t562 x18_2 y600 (wrap64 (x21_3 + 1))))) else (none)) = some r := (by rw [if_pos rfl] at H; exact H)
                 by_cases c69 : 1 < (x20_60.length : Int)
                 ·
                  rw [if_pos c69] at H
                  have c69b0 : decide (1 < (x20_60.length : Int)) = true := zR c69
                  have c69b1 : decide (1 < x20_60.length) = true := zR (by omega)
                  clear c69
                  obtain ⟨y600, hy600⟩ : ∃ y_ : List Int, y_ = (x20_60.set (1 : Int).toNat (wrap64 ((rd x20_60 1) + 1))) := ⟨_, rfl⟩
                  replace H : (if t594 = true then (if 2 < (x20_60.length : Int) then (laws_FnSlabAlgebra.l1 kj60 t547 t548 t549 t554 t558 t562 x18_2 (y600.set (2 : Int).toNat (wrap64 ((rd y600 2) + 1))) (wrap64 (x21_3 + 1))) else (none)) else (laws_FnSlabAlgebra.l1 kj60 t547 t548 t549 t554 t558 t562 x18_2 y600 (wrap64 (x21_3 + 1)))) = some r := by first | (rw [hy600]; with_reducible exact H) | (have H2_ := (Option.bind_some _ _).symm.trans H; rw [hy600]; with_reducible exact H2_) | (have H2_ := (Option.bind_some _ _).symm.trans H; with_reducible exact H2_) | with_reducible exact H | (rw [hy600]; exact H) | exact H
                  have Ny600 := yD hy600
                  clear hy600
                  by_cases c71 : t594 = true
                  ·
                   subst c71
                   replace H : (if 2 < (x20_60.length : Int) then (laws_FnSlabAlgebra.l1 kj60 t547 t548 t549 t554 t558 t562 x18_2 (y600.set (2 : Int).toNat (wrap64 ((rd y600 2) + 1))) (wrap64 (x21_3 + 1))) else (none)) = some r := (by rw [if_pos rfl] at H; exact H)
                   by_cases c72 : 2 < (x20_60.length : Int)
                   ·
                    rw [if_pos c72] at H
                    have c72b0 : decide (2 < (x20_60.length : Int)) = true := zR c72
                    have c72b1 : decide (2 < x20_60.length) = true := zR (by omega)
                    clear c72
                    obtain ⟨y602, hy602⟩ : ∃ y_ : List Int, y_ = (y600.set (2 : Int).toNat (wrap64 ((rd y600 2) + 1))) := ⟨_, rfl⟩
                    replace H : (laws_FnSlabAlgebra.l1 kj60 t547 t548 t549 t554 t558 t562 x18_2 y602 (wrap64 (x21_3 + 1))) = some r := by first | (rw [hy602]; with_reducible exact H) | (have H2_ := (Option.bind_some _ _).symm.trans H; rw [hy602]; with_reducible exact H2_) | (have H2_ := (Option.bind_some _ _).symm.trans H; with_reducible exact H2_) | with_reducible exact H | (rw [hy602]; exact H) | exact H
                    have Ny602 := yD hy602
                    clear hy602
                    have H' := yD H
                    clear H
                    obtain ⟨Ao74, co74, eo74⟩ := Kd.R_slice HO_20.out
                    subst eo74
                    have p599 : 0 ≤ (1 : Int) := (by omega)
                    have q599 : 1 < (x20_60.length : Int) := zP (by assumption)
                    obtain ⟨ad599, e599, hx599_0⟩ := Kd.at_int (zA HO_20.out).2.2 1 p599 q599
                    cases e599
                    (try simp only [show (1 : Int).toNat = 1 from rfl, Nat.reduceMul, Nat.reduceEqDiff, Go.Addr.add, ↓reduceIte] at hx599_0)
                    have qi599 : (1 < x20_60.length) = True := eq_true (by omega)
                    (try rw [show ((1 : Int)).toNat = 1 from rfl] at hx599_0)
                    replace p599 := eq_true p599; replace q599 := eq_true q599
                    have p70 : 0 ≤ (1 : Int) := (by omega)
                    have q70 : (1 : Int) < ((x20_60.length : Int) : Int) := zP (by assumption)
                    have qi70 : (1 < x20_60.length) = True := eq_true (by omega)
                    obtain ⟨go70, co70, eo70, gb70, gl70, cl70, HG70⟩ := Kd.R_form HO_20.out (by omega)
                    (first | cases eo70 | (injection eo70 with ea_ en_ ec_; (first | subst ea_ | (injection ea_ with ea_; subst ea_)); subst ec_; clear en_))
                    have GB70 := yD gb70
                    have GG70 := yD HG70
                    clear gb70 gl70 HG70
                    (first | simp only [add_plain] at hx599_0 | skip)
                    obtain ⟨hx70_0, hf70_0⟩ := Kd.R_celln 0 HO_20.out (1 : Int) p70 q70
                    (try rw [show ((1 : Int)).toNat = 1 from rfl] at hx70_0)
                    (try simp only [Nat.reduceMul, Nat.zero_mul, Nat.zero_add, Nat.reduceAdd] at hx70_0)
                    (try rw [show ((1 : Int)).toNat = 1 from rfl] at hf70_0)
                    (try simp only [Nat.reduceMul, Nat.zero_mul, Nat.zero_add, Nat.reduceAdd] at hf70_0)
                    replace p70 := eq_true p70; replace q70 := eq_true q70
                    have HP75 := Kd.R_putg HO_20.out (1 : Int) (wrap64 ((rd x20_60 1) + 1))
                    go_wp2_with (first | ((with_reducible refine gate_store (t := 2) (p := 173) rfl ?_); refine store_event (t := 2) (p := 173) (v := ?vo_w76) (w1 := (wc.setCell ⟨go70, (1 : Int).toNat, none⟩ (.int .i64 (wrap64 ((rd x20_60 1) + 1))))) ?hg ?ho ?hn ?hr ?_; (case ho => rfl); (case hg => rfl); (case hn => rfl); (case hr => first | (go_simp; done) | (go_simp; rfl)); intro w76 hw; have hg : wc.grownBy w76 (some go70) := (by rw [hw]; exact HP75.2); have hp_ : Kd.R (Kd.int .i64) 2 w76 w.heap.size (fun _ => True) (.slice (some ⟨go70, 0, none⟩) x20_60.length co74) y600 := (by rw [hw, Ny600.out]; exact HP75.1); clear HP75; replace HO_4 := yD (Kd.S_after (v := (.slice (some ⟨go70, 0, none⟩) x20_60.length co74)) (v1 := (.slice (some ⟨go70, 0, none⟩) x20_60.length co74)) (ok := (fun k_ => oB (.slice Ao10 t549.length co10) k_ ∧ oB (.slice Ao44 t554.length co44) k_ ∧ oB (.slice Ao45 t558.length co45) k_ ∧ oB (.slice Ao46 t562.length co46) k_)) (mS HO_4 (fun _ hk => ⟨⟨hk.1, ⟨hk.2.1, ⟨hk.2.2.1, hk.2.2.2.1⟩⟩⟩, hk.2.2.2.2⟩)) hg (.inl rfl)); replace HO_5 := yD (Kd.S_after (v := (.slice (some ⟨go70, 0, none⟩) x20_60.length co74)) (v1 := (.slice (some ⟨go70, 0, none⟩) x20_60.length co74)) (ok := (fun k_ => oB (.slice Ao9 t548.length co9) k_ ∧ oB (.slice Ao44 t554.length co44) k_ ∧ oB (.slice Ao45 t558.length co45) k_ ∧ oB (.slice Ao46 t562.length co46) k_)) (mS HO_5 (fun _ hk => ⟨⟨hk.1, ⟨hk.2.1, ⟨hk.2.2.1, hk.2.2.2.1⟩⟩⟩, hk.2.2.2.2⟩)) hg (.inl rfl)); replace HO_6 := yD (Kd.S_after (v := (.slice (some ⟨go70, 0, none⟩) x20_60.length co74)) (v1 := (.slice (some ⟨go70, 0, none⟩) x20_60.length co74)) (ok := (fun k_ => oB (.slice Ao9 t548.length co9) k_ ∧ oB (.slice Ao10 t549.length co10) k_ ∧ oB (.slice Ao45 t558.length co45) k_ ∧ oB (.slice Ao46 t562.length co46) k_)) (mS HO_6 (fun _ hk => ⟨⟨hk.1, ⟨hk.2.1, ⟨hk.2.2.1, hk.2.2.2.1⟩⟩⟩, hk.2.2.2.2⟩)) hg (.inl rfl)); replace HO_8 := yD (Kd.S_after (v := (.slice (some ⟨go70, 0, none⟩) x20_60.length co74)) (v1 := (.slice (some ⟨go70, 0, none⟩) x20_60.length co74)) (ok := (fun k_ => oB (.slice Ao9 t548.length co9) k_ ∧ oB (.slice Ao10 t549.length co10) k_ ∧ oB (.slice Ao44 t554.length co44) k_ ∧ oB (.slice Ao46 t562.length co46) k_)) (mS HO_8 (fun _ hk => ⟨⟨hk.1, ⟨hk.2.1, ⟨hk.2.2.1, hk.2.2.2.1⟩⟩⟩, hk.2.2.2.2⟩)) hg (.inl rfl)); replace HO_10 := yD (Kd.S_after (v := (.slice (some ⟨go70, 0, none⟩) x20_60.length co74)) (v1 := (.slice (some ⟨go70, 0, none⟩) x20_60.length co74)) (ok := (fun k_ => oB (.slice Ao9 t548.length co9) k_ ∧ oB (.slice Ao10 t549.length co10) k_ ∧ oB (.slice Ao44 t554.length co44) k_ ∧ oB (.slice Ao45 t558.length co45) k_)) (mS HO_10 (fun _ hk => ⟨⟨hk.1, ⟨hk.2.1, ⟨hk.2.2.1, hk.2.2.2.1⟩⟩⟩, hk.2.2.2.2⟩)) hg (.inl rfl)); replace HO_20 := yD (hp_); replace HB := yD ((by rw [hw]; exact yE (HB.out) GB70.out : Below w.heap.size w w76)); clear hg hw hp_; have p601 : 0 ≤ (2 : Int) := (by omega); have q601 : 2 < (y600.length : Int) := (by have h_ : (2 : Int) < ((x20_60.length : Int) : Int) := zP (by assumption); first | (have e_ := (zA HO_20.out).1; omega) | simpa only [Ny600.out, List.length_set] using h_); have ql601 : ((2 : Int) < ((x20_60.length : Int) : Int)) = True := eq_true (zP (by assumption)); (try have qn601 : (2 < x20_60.length) = True := eq_true (by have h_ : (2 : Int) < ((x20_60.length : Int) : Int) := zP (by assumption); omega)); obtain ⟨ad601, e601, hx601_0⟩ := Kd.at_int (zA HO_20.out).2.2 2 p601 q601; obtain rfl : (⟨go70, 0, none⟩ : Addr) = ad601 := (by injection e601); (first | simp only [add_plain] at hx601_0 | simp only [add_at] at hx601_0 | simp only [Addr.add, Nat.zero_add] at hx601_0 | skip); have qi601 : (2 < y600.length) = True := eq_true (by omega); (try rw [show ((2 : Int)).toNat = 2 from rfl] at hx601_0); replace p601 := eq_true p601; replace q601 := eq_true q601; have p73 : 0 ≤ (2 : Int) := (by omega); have q73 : (2 : Int) < ((x20_60.length : Int) : Int) := zP (by assumption); have qi73 : (2 < x20_60.length) = True := eq_true (by omega); obtain ⟨hx73_0, hf73_0⟩ := Kd.R_celln 0 HO_20.out (2 : Int) p73 q73; (try rw [show ((2 : Int)).toNat = 2 from rfl] at hx73_0); (try simp only [Nat.reduceMul, Nat.zero_mul, Nat.zero_add, Nat.reduceAdd] at hx73_0); (try rw [show ((2 : Int)).toNat = 2 from rfl] at hf73_0); (try simp only [Nat.reduceMul, Nat.zero_mul, Nat.zero_add, Nat.reduceAdd] at hf73_0); replace p73 := eq_true p73; replace q73 := eq_true q73; obtain ⟨hy77_, hz77_⟩ := Kd.R_celln 0 HO_20.out (2 : Int) (by omega) (zP (by assumption)); (try simp only [Int.reduceToNat, Int.toNat_zero, Int.toNat_ofNat, Nat.reduceMul, Nat.zero_mul, Nat.zero_add] at hy77_ hz77_); (try rw [show ((2 : Int)).toNat = 2 from rfl] at hy77_); (try rw [show ((2 : Int)).toNat = 2 from rfl] at hz77_); have HP77 := Kd.R_putg HO_20.out (2 : Int) (wrap64 ((rd y600 2) + 1))) | ((with_reducible refine gate_store (t := 2) (p := 179) rfl ?_); refine store_event (t := 2) (p := 179) (v := ?vo_w78) (w1 := (w76.setCell ⟨go70, (2 : Int).toNat, none⟩ (.int .i64 (wrap64 ((rd y600 2) + 1))))) ?hg ?ho ?hn ?hr ?_; (case ho => rfl); (case hg => rfl); (case hn => rfl); (case hr => first | (go_simp; done) | (go_simp; rfl)); intro w78 hw; have hg : w76.grownBy w78 (some go70) := (by rw [hw]; exact HP77.2); have hp_ : Kd.R (Kd.int .i64) 2 w78 w.heap.size (fun _ => True) (.slice (some ⟨go70, 0, none⟩) x20_60.length co74) y602 := (by rw [hw, Ny602.out]; exact HP77.1); clear HP77; replace HO_4 := yD (Kd.S_after (v := (.slice (some ⟨go70, 0, none⟩) x20_60.length co74)) (v1 := (.slice (some ⟨go70, 0, none⟩) x20_60.length co74)) (ok := (fun k_ => oB (.slice Ao10 t549.length co10) k_ ∧ oB (.slice Ao44 t554.length co44) k_ ∧ oB (.slice Ao45 t558.length co45) k_ ∧ oB (.slice Ao46 t562.length co46) k_)) (kS HO_4) hg (.inl rfl)); replace HO_5 := yD (Kd.S_after (v := (.slice (some ⟨go70, 0, none⟩) x20_60.length co74)) (v1 := (.slice (some ⟨go70, 0, none⟩) x20_60.length co74)) (ok := (fun k_ => oB (.slice Ao9 t548.length co9) k_ ∧ oB (.slice Ao44 t554.length co44) k_ ∧ oB (.slice Ao45 t558.length co45) k_ ∧ oB (.slice Ao46 t562.length co46) k_)) (kS HO_5) hg (.inl rfl)); replace HO_6 := yD (Kd.S_after (v := (.slice (some ⟨go70, 0, none⟩) x20_60.length co74)) (v1 := (.slice (some ⟨go70, 0, none⟩) x20_60.length co74)) (ok := (fun k_ => oB (.slice Ao9 t548.length co9) k_ ∧ oB (.slice Ao10 t549.length co10) k_ ∧ oB (.slice Ao45 t558.length co45) k_ ∧ oB (.slice Ao46 t562.length co46) k_)) (kS HO_6) hg (.inl rfl)); replace HO_8 := yD (Kd.S_after (v := (.slice (some ⟨go70, 0, none⟩) x20_60.length co74)) (v1 := (.slice (some ⟨go70, 0, none⟩) x20_60.length co74)) (ok := (fun k_ => oB (.slice Ao9 t548.length co9) k_ ∧ oB (.slice Ao10 t549.length co10) k_ ∧ oB (.slice Ao44 t554.length co44) k_ ∧ oB (.slice Ao46 t562.length co46) k_)) (kS HO_8) hg (.inl rfl)); replace HO_10 := yD (Kd.S_after (v := (.slice (some ⟨go70, 0, none⟩) x20_60.length co74)) (v1 := (.slice (some ⟨go70, 0, none⟩) x20_60.length co74)) (ok := (fun k_ => oB (.slice Ao9 t548.length co9) k_ ∧ oB (.slice Ao10 t549.length co10) k_ ∧ oB (.slice Ao44 t554.length co44) k_ ∧ oB (.slice Ao45 t558.length co45) k_)) (kS HO_10) hg (.inl rfl)); replace HO_20 := yD (hp_); replace HB := yD ((by rw [hw]; exact yE (HB.out) GB70.out : Below w.heap.size w w78)); clear hg hw hp_))
                    go_roundg kj60
                    case measure => have := HJ6.out; have := HK2.out; have := HK3.out; have := HJ40.out; have := HJ60.out; omega
                    case rel => exact ⟨(y602), (wrap64 (x21_3 + 1)), (by first | rfl | (simp; done) | (simp [*]; done)), H', ⟨by have := HJ6.out; have := HK2.out; have := HK3.out; have := HJ40.out; have := HJ60.out; omega⟩, ⟨mS HO_4 (fun _ hk => ⟨hk.1.1, ⟨hk.1.2.1, ⟨hk.1.2.2.1, ⟨hk.1.2.2.2, hk.2⟩⟩⟩⟩)⟩, ⟨mS HO_5 (fun _ hk => ⟨hk.1.1, ⟨hk.1.2.1, ⟨hk.1.2.2.1, ⟨hk.1.2.2.2, hk.2⟩⟩⟩⟩)⟩, ⟨mS HO_6 (fun _ hk => ⟨hk.1.1, ⟨hk.1.2.1, ⟨hk.1.2.2.1, ⟨hk.1.2.2.2, hk.2⟩⟩⟩⟩)⟩, ⟨mS HO_8 (fun _ hk => ⟨hk.1.1, ⟨hk.1.2.1, ⟨hk.1.2.2.1, ⟨hk.1.2.2.2, hk.2⟩⟩⟩⟩)⟩, ⟨mS HO_10 (fun _ hk => ⟨hk.1.1, ⟨hk.1.2.1, ⟨hk.1.2.2.1, ⟨hk.1.2.2.2, hk.2⟩⟩⟩⟩)⟩, ⟨kA HO_20⟩, ⟨kR0 HB⟩⟩
                   · rw [if_neg c72] at H
                     exact absurd H (by simp)
                  ·
                   replace c71 := Bool.eq_false_iff.mpr c71
                   subst c71
                   replace H : (laws_FnSlabAlgebra.l1 kj60 t547 t548 t549 t554 t558 t562 x18_2 y600 (wrap64 (x21_3 + 1))) = some r := (by rw [if_neg (show ¬ (false = true) by decide)] at H; exact H)
                   have H' := yD H
                   clear H
                   obtain ⟨Ao79, co79, eo79⟩ := Kd.R_slice HO_20.out
                   subst eo79
                   have p599 : 0 ≤ (1 : Int) := (by omega)
                   have q599 : 1 < (x20_60.length : Int) := zP (by assumption)
                   obtain ⟨ad599, e599, hx599_0⟩ := Kd.at_int (zA HO_20.out).2.2 1 p599 q599
                   cases e599
                   (try simp only [show (1 : Int).toNat = 1 from rfl, Nat.reduceMul, Nat.reduceEqDiff, Go.Addr.add, ↓reduceIte] at hx599_0)
                   have qi599 : (1 < x20_60.length) = True := eq_true (by omega)
                   (try rw [show ((1 : Int)).toNat = 1 from rfl] at hx599_0)
                   replace p599 := eq_true p599; replace q599 := eq_true q599
                   have p70 : 0 ≤ (1 : Int) := (by omega)
                   have q70 : (1 : Int) < ((x20_60.length : Int) : Int) := zP (by assumption)
                   have qi70 : (1 < x20_60.length) = True := eq_true (by omega)
                   obtain ⟨go70, co70, eo70, gb70, gl70, cl70, HG70⟩ := Kd.R_form HO_20.out (by omega)
                   (first | cases eo70 | (injection eo70 with ea_ en_ ec_; (first | subst ea_ | (injection ea_ with ea_; subst ea_)); subst ec_; clear en_))
                   have GB70 := yD gb70
                   have GG70 := yD HG70
                   clear gb70 gl70 HG70
                   (first | simp only [add_plain] at hx599_0 | skip)
                   obtain ⟨hx70_0, hf70_0⟩ := Kd.R_celln 0 HO_20.out (1 : Int) p70 q70
                   (try rw [show ((1 : Int)).toNat = 1 from rfl] at hx70_0)
                   (try simp only [Nat.reduceMul, Nat.zero_mul, Nat.zero_add, Nat.reduceAdd] at hx70_0)
                   (try rw [show ((1 : Int)).toNat = 1 from rfl] at hf70_0)
                   (try simp only [Nat.reduceMul, Nat.zero_mul, Nat.zero_add, Nat.reduceAdd] at hf70_0)
                   replace p70 := eq_true p70; replace q70 := eq_true q70
                   have HP80 := Kd.R_putg HO_20.out (1 : Int) (wrap64 ((rd x20_60 1) + 1))
                   go_wp2_with (first | ((with_reducible refine gate_store (t := 2) (p := 173) rfl ?_); refine store_event (t := 2) (p := 173) (v := ?vo_w81) (w1 := (wc.setCell ⟨go70, (1 : Int).toNat, none⟩ (.int .i64 (wrap64 ((rd x20_60 1) + 1))))) ?hg ?ho ?hn ?hr ?_; (case ho => rfl); (case hg => rfl); (case hn => rfl); (case hr => first | (go_simp; done) | (go_simp; rfl)); intro w81 hw; have hg : wc.grownBy w81 (some go70) := (by rw [hw]; exact HP80.2); have hp_ : Kd.R (Kd.int .i64) 2 w81 w.heap.size (fun _ => True) (.slice (some ⟨go70, 0, none⟩) x20_60.length co79) y600 := (by rw [hw, Ny600.out]; exact HP80.1); clear HP80; replace HO_4 := yD (Kd.S_after (v := (.slice (some ⟨go70, 0, none⟩) x20_60.length co79)) (v1 := (.slice (some ⟨go70, 0, none⟩) x20_60.length co79)) (ok := (fun k_ => oB (.slice Ao10 t549.length co10) k_ ∧ oB (.slice Ao44 t554.length co44) k_ ∧ oB (.slice Ao45 t558.length co45) k_ ∧ oB (.slice Ao46 t562.length co46) k_)) (mS HO_4 (fun _ hk => ⟨⟨hk.1, ⟨hk.2.1, ⟨hk.2.2.1, hk.2.2.2.1⟩⟩⟩, hk.2.2.2.2⟩)) hg (.inl rfl)); replace HO_5 := yD (Kd.S_after (v := (.slice (some ⟨go70, 0, none⟩) x20_60.length co79)) (v1 := (.slice (some ⟨go70, 0, none⟩) x20_60.length co79)) (ok := (fun k_ => oB (.slice Ao9 t548.length co9) k_ ∧ oB (.slice Ao44 t554.length co44) k_ ∧ oB (.slice Ao45 t558.length co45) k_ ∧ oB (.slice Ao46 t562.length co46) k_)) (mS HO_5 (fun _ hk => ⟨⟨hk.1, ⟨hk.2.1, ⟨hk.2.2.1, hk.2.2.2.1⟩⟩⟩, hk.2.2.2.2⟩)) hg (.inl rfl)); replace HO_6 := yD (Kd.S_after (v := (.slice (some ⟨go70, 0, none⟩) x20_60.length co79)) (v1 := (.slice (some ⟨go70, 0, none⟩) x20_60.length co79)) (ok := (fun k_ => oB (.slice Ao9 t548.length co9) k_ ∧ oB (.slice Ao10 t549.length co10) k_ ∧ oB (.slice Ao45 t558.length co45) k_ ∧ oB (.slice Ao46 t562.length co46) k_)) (mS HO_6 (fun _ hk => ⟨⟨hk.1, ⟨hk.2.1, ⟨hk.2.2.1, hk.2.2.2.1⟩⟩⟩, hk.2.2.2.2⟩)) hg (.inl rfl)); replace HO_8 := yD (Kd.S_after (v := (.slice (some ⟨go70, 0, none⟩) x20_60.length co79)) (v1 := (.slice (some ⟨go70, 0, none⟩) x20_60.length co79)) (ok := (fun k_ => oB (.slice Ao9 t548.length co9) k_ ∧ oB (.slice Ao10 t549.length co10) k_ ∧ oB (.slice Ao44 t554.length co44) k_ ∧ oB (.slice Ao46 t562.length co46) k_)) (mS HO_8 (fun _ hk => ⟨⟨hk.1, ⟨hk.2.1, ⟨hk.2.2.1, hk.2.2.2.1⟩⟩⟩, hk.2.2.2.2⟩)) hg (.inl rfl)); replace HO_10 := yD (Kd.S_after (v := (.slice (some ⟨go70, 0, none⟩) x20_60.length co79)) (v1 := (.slice (some ⟨go70, 0, none⟩) x20_60.length co79)) (ok := (fun k_ => oB (.slice Ao9 t548.length co9) k_ ∧ oB (.slice Ao10 t549.length co10) k_ ∧ oB (.slice Ao44 t554.length co44) k_ ∧ oB (.slice Ao45 t558.length co45) k_)) (mS HO_10 (fun _ hk => ⟨⟨hk.1, ⟨hk.2.1, ⟨hk.2.2.1, hk.2.2.2.1⟩⟩⟩, hk.2.2.2.2⟩)) hg (.inl rfl)); replace HO_20 := yD (hp_); replace HB := yD ((by rw [hw]; exact yE (HB.out) GB70.out : Below w.heap.size w w81)); clear hg hw hp_))
                   go_roundg kj60
                   case measure => have := HJ6.out; have := HK2.out; have := HK3.out; have := HJ40.out; have := HJ60.out; omega
                   case rel => exact ⟨(y600), (wrap64 (x21_3 + 1)), (by first | rfl | (simp; done) | (simp [*]; done)), H', ⟨by have := HJ6.out; have := HK2.out; have := HK3.out; have := HJ40.out; have := HJ60.out; omega⟩, ⟨mS HO_4 (fun _ hk => ⟨hk.1.1, ⟨hk.1.2.1, ⟨hk.1.2.2.1, ⟨hk.1.2.2.2, hk.2⟩⟩⟩⟩)⟩, ⟨mS HO_5 (fun _ hk => ⟨hk.1.1, ⟨hk.1.2.1, ⟨hk.1.2.2.1, ⟨hk.1.2.2.2, hk.2⟩⟩⟩⟩)⟩, ⟨mS HO_6 (fun _ hk => ⟨hk.1.1, ⟨hk.1.2.1, ⟨hk.1.2.2.1, ⟨hk.1.2.2.2, hk.2⟩⟩⟩⟩)⟩, ⟨mS HO_8 (fun _ hk => ⟨hk.1.1, ⟨hk.1.2.1, ⟨hk.1.2.2.1, ⟨hk.1.2.2.2, hk.2⟩⟩⟩⟩)⟩, ⟨mS HO_10 (fun _ hk => ⟨hk.1.1, ⟨hk.1.2.1, ⟨hk.1.2.2.1, ⟨hk.1.2.2.2, hk.2⟩⟩⟩⟩)⟩, ⟨kA HO_20⟩, ⟨kR0 HB⟩⟩
                 · rw [if_neg c69] at H
                   exact absurd H (by simp)
                ·
                 replace c68 := Bool.eq_false_iff.mpr c68
                 subst c68
                 replace H : (if t594 = true then (if 2 < (x20_60.length : Int) then (laws_FnSlabAlgebra.l1 kj60 t547 t548 t549 t554 t558 t562 x18_2 (x20_60.set (2 : Int).toNat (wrap64 ((rd x20_60 2) + 1))) (wrap64 (x21_3 + 1))) else (none)) else (laws_FnSlabAlgebra.l1 kj60 t547 t548 t549 t554 t558 t562 x18_2 x20_60 (wrap64 (x21_3 + 1)))) = some r := (by rw [if_neg (show ¬ (false = true) by decide)] at H; exact H)
                 by_cases c82 : t594 = true
                 ·
                  subst c82
                  replace H : (if 2 < (x20_60.length : Int) then (laws_FnSlabAlgebra.l1 kj60 t547 t548 t549 t554 t558 t562 x18_2 (x20_60.set (2 : Int).toNat (wrap64 ((rd x20_60 2) + 1))) (wrap64 (x21_3 + 1))) else (none)) = some r := (by rw [if_pos rfl] at H; exact H)
                  by_cases c83 : 2 < (x20_60.length : Int)
                  ·
                   rw [if_pos c83] at H
                   have c83b0 : decide (2 < (x20_60.length : Int)) = true := zR c83
                   have c83b1 : decide (2 < x20_60.length) = true := zR (by omega)
                   clear c83
                   obtain ⟨y604, hy604⟩ : ∃ y_ : List Int, y_ = (x20_60.set (2 : Int).toNat (wrap64 ((rd x20_60 2) + 1))) := ⟨_, rfl⟩
                   replace H : (laws_FnSlabAlgebra.l1 kj60 t547 t548 t549 t554 t558 t562 x18_2 y604 (wrap64 (x21_3 + 1))) = some r := by first | (rw [hy604]; with_reducible exact H) | (have H2_ := (Option.bind_some _ _).symm.trans H; rw [hy604]; with_reducible exact H2_) | (have H2_ := (Option.bind_some _ _).symm.trans H; with_reducible exact H2_) | with_reducible exact H | (rw [hy604]; exact H) | exact H
                   have Ny604 := yD hy604
                   clear hy604
                   have H' := yD H
                   clear H
                   obtain ⟨Ao85, co85, eo85⟩ := Kd.R_slice HO_20.out
                   subst eo85
                   have p603 : 0 ≤ (2 : Int) := (by omega)
                   have q603 : 2 < (x20_60.length : Int) := zP (by assumption)
                   obtain ⟨ad603, e603, hx603_0⟩ := Kd.at_int (zA HO_20.out).2.2 2 p603 q603
                   cases e603
                   (try simp only [show (2 : Int).toNat = 2 from rfl, Nat.reduceMul, Nat.reduceEqDiff, Go.Addr.add, ↓reduceIte] at hx603_0)
                   have qi603 : (2 < x20_60.length) = True := eq_true (by omega)
                   (try rw [show ((2 : Int)).toNat = 2 from rfl] at hx603_0)
                   replace p603 := eq_true p603; replace q603 := eq_true q603
                   have p84 : 0 ≤ (2 : Int) := (by omega)
                   have q84 : (2 : Int) < ((x20_60.length : Int) : Int) := zP (by assumption)
                   have qi84 : (2 < x20_60.length) = True := eq_true (by omega)
                   obtain ⟨go84, co84, eo84, gb84, gl84, cl84, HG84⟩ := Kd.R_form HO_20.out (by omega)
                   (first | cases eo84 | (injection eo84 with ea_ en_ ec_; (first | subst ea_ | (injection ea_ with ea_; subst ea_)); subst ec_; clear en_))
                   have GB84 := yD gb84
                   have GG84 := yD HG84
                   clear gb84 gl84 HG84
                   (first | simp only [add_plain] at hx603_0 | skip)
                   obtain ⟨hx84_0, hf84_0⟩ := Kd.R_celln 0 HO_20.out (2 : Int) p84 q84
                   (try rw [show ((2 : Int)).toNat = 2 from rfl] at hx84_0)
                   (try simp only [Nat.reduceMul, Nat.zero_mul, Nat.zero_add, Nat.reduceAdd] at hx84_0)
                   (try rw [show ((2 : Int)).toNat = 2 from rfl] at hf84_0)
                   (try simp only [Nat.reduceMul, Nat.zero_mul, Nat.zero_add, Nat.reduceAdd] at hf84_0)
                   replace p84 := eq_true p84; replace q84 := eq_true q84
                   have HP86 := Kd.R_putg HO_20.out (2 : Int) (wrap64 ((rd x20_60 2) + 1))
                   go_wp2_with (first | ((with_reducible refine gate_store (t := 2) (p := 179) rfl ?_); refine store_event (t := 2) (p := 179) (v := ?vo_w87) (w1 := (wc.setCell ⟨go84, (2 : Int).toNat, none⟩ (.int .i64 (wrap64 ((rd x20_60 2) + 1))))) ?hg ?ho ?hn ?hr ?_; (case ho => rfl); (case hg => rfl); (case hn => rfl); (case hr => first | (go_simp; done) | (go_simp; rfl)); intro w87 hw; have hg : wc.grownBy w87 (some go84) := (by rw [hw]; exact HP86.2); have hp_ : Kd.R (Kd.int .i64) 2 w87 w.heap.size (fun _ => True) (.slice (some ⟨go84, 0, none⟩) x20_60.length co85) y604 := (by rw [hw, Ny604.out]; exact HP86.1); clear HP86; replace HO_4 := yD (Kd.S_after (v := (.slice (some ⟨go84, 0, none⟩) x20_60.length co85)) (v1 := (.slice (some ⟨go84, 0, none⟩) x20_60.length co85)) (ok := (fun k_ => oB (.slice Ao10 t549.length co10) k_ ∧ oB (.slice Ao44 t554.length co44) k_ ∧ oB (.slice Ao45 t558.length co45) k_ ∧ oB (.slice Ao46 t562.length co46) k_)) (mS HO_4 (fun _ hk => ⟨⟨hk.1, ⟨hk.2.1, ⟨hk.2.2.1, hk.2.2.2.1⟩⟩⟩, hk.2.2.2.2⟩)) hg (.inl rfl)); replace HO_5 := yD (Kd.S_after (v := (.slice (some ⟨go84, 0, none⟩) x20_60.length co85)) (v1 := (.slice (some ⟨go84, 0, none⟩) x20_60.length co85)) (ok := (fun k_ => oB (.slice Ao9 t548.length co9) k_ ∧ oB (.slice Ao44 t554.length co44) k_ ∧ oB (.slice Ao45 t558.length co45) k_ ∧ oB (.slice Ao46 t562.length co46) k_)) (mS HO_5 (fun _ hk => ⟨⟨hk.1, ⟨hk.2.1, ⟨hk.2.2.1, hk.2.2.2.1⟩⟩⟩, hk.2.2.2.2⟩)) hg (.inl rfl)); replace HO_6 := yD (Kd.S_after (v := (.slice (some ⟨go84, 0, none⟩) x20_60.length co85)) (v1 := (.slice (some ⟨go84, 0, none⟩) x20_60.length co85)) (ok := (fun k_ => oB (.slice Ao9 t548.length co9) k_ ∧ oB (.slice Ao10 t549.length co10) k_ ∧ oB (.slice Ao45 t558.length co45) k_ ∧ oB (.slice Ao46 t562.length co46) k_)) (mS HO_6 (fun _ hk => ⟨⟨hk.1, ⟨hk.2.1, ⟨hk.2.2.1, hk.2.2.2.1⟩⟩⟩, hk.2.2.2.2⟩)) hg (.inl rfl)); replace HO_8 := yD (Kd.S_after (v := (.slice (some ⟨go84, 0, none⟩) x20_60.length co85)) (v1 := (.slice (some ⟨go84, 0, none⟩) x20_60.length co85)) (ok := (fun k_ => oB (.slice Ao9 t548.length co9) k_ ∧ oB (.slice Ao10 t549.length co10) k_ ∧ oB (.slice Ao44 t554.length co44) k_ ∧ oB (.slice Ao46 t562.length co46) k_)) (mS HO_8 (fun _ hk => ⟨⟨hk.1, ⟨hk.2.1, ⟨hk.2.2.1, hk.2.2.2.1⟩⟩⟩, hk.2.2.2.2⟩)) hg (.inl rfl)); replace HO_10 := yD (Kd.S_after (v := (.slice (some ⟨go84, 0, none⟩) x20_60.length co85)) (v1 := (.slice (some ⟨go84, 0, none⟩) x20_60.length co85)) (ok := (fun k_ => oB (.slice Ao9 t548.length co9) k_ ∧ oB (.slice Ao10 t549.length co10) k_ ∧ oB (.slice Ao44 t554.length co44) k_ ∧ oB (.slice Ao45 t558.length co45) k_)) (mS HO_10 (fun _ hk => ⟨⟨hk.1, ⟨hk.2.1, ⟨hk.2.2.1, hk.2.2.2.1⟩⟩⟩, hk.2.2.2.2⟩)) hg (.inl rfl)); replace HO_20 := yD (hp_); replace HB := yD ((by rw [hw]; exact yE (HB.out) GB84.out : Below w.heap.size w w87)); clear hg hw hp_))
                   go_roundg kj60
                   case measure => have := HJ6.out; have := HK2.out; have := HK3.out; have := HJ40.out; have := HJ60.out; omega
                   case rel => exact ⟨(y604), (wrap64 (x21_3 + 1)), (by first | rfl | (simp; done) | (simp [*]; done)), H', ⟨by have := HJ6.out; have := HK2.out; have := HK3.out; have := HJ40.out; have := HJ60.out; omega⟩, ⟨mS HO_4 (fun _ hk => ⟨hk.1.1, ⟨hk.1.2.1, ⟨hk.1.2.2.1, ⟨hk.1.2.2.2, hk.2⟩⟩⟩⟩)⟩, ⟨mS HO_5 (fun _ hk => ⟨hk.1.1, ⟨hk.1.2.1, ⟨hk.1.2.2.1, ⟨hk.1.2.2.2, hk.2⟩⟩⟩⟩)⟩, ⟨mS HO_6 (fun _ hk => ⟨hk.1.1, ⟨hk.1.2.1, ⟨hk.1.2.2.1, ⟨hk.1.2.2.2, hk.2⟩⟩⟩⟩)⟩, ⟨mS HO_8 (fun _ hk => ⟨hk.1.1, ⟨hk.1.2.1, ⟨hk.1.2.2.1, ⟨hk.1.2.2.2, hk.2⟩⟩⟩⟩)⟩, ⟨mS HO_10 (fun _ hk => ⟨hk.1.1, ⟨hk.1.2.1, ⟨hk.1.2.2.1, ⟨hk.1.2.2.2, hk.2⟩⟩⟩⟩)⟩, ⟨kA HO_20⟩, ⟨kR0 HB⟩⟩
                  · rw [if_neg c83] at H
                    exact absurd H (by simp)
                 · replace c82 := Bool.eq_false_iff.mpr c82
                   subst c82
                   replace H : (laws_FnSlabAlgebra.l1 kj60 t547 t548 t549 t554 t558 t562 x18_2 x20_60 (wrap64 (x21_3 + 1))) = some r := (by rw [if_neg (show ¬ (false = true) by decide)] at H; exact H)
                   have H' := yD H
                   clear H
                   go_wp2
                   go_roundg kj60
                   case measure => have := HJ6.out; have := HK2.out; have := HK3.out; have := HJ40.out; have := HJ60.out; omega
                   case rel => exact ⟨(x20_60), (wrap64 (x21_3 + 1)), (by first | rfl | (simp; done) | (simp [*]; done)), H', ⟨by have := HJ6.out; have := HK2.out; have := HK3.out; have := HJ40.out; have := HJ60.out; omega⟩, ⟨kS HO_4⟩, ⟨kS HO_5⟩, ⟨kS HO_6⟩, ⟨kS HO_8⟩, ⟨kS HO_10⟩, ⟨kA HO_20⟩, ⟨kR0 HB⟩⟩
          ·
           rw [if_neg c34] at H
           have c34b0 : decide (x21_3 < x18_2) = false := zS c34; clear c34
           obtain ⟨t581, A880, H⟩ := zW_ H
           replace H : (if 0 < (x20_3.length : Int) then (if t581 = (rd x20_3 0) then ((laws_d8Size.f k3 t558).bind fun t583 => (if 1 < (x20_3.length : Int) then (if t583 = (rd x20_3 1) then ((laws_d8Size.f k3 t562).bind fun t585 => (if 2 < (x20_3.length : Int) then (some (t585 == (rd x20_3 2))) else (none))) else (some false)) else (none))) else (some false)) else (none)) = some r := H
           have A88 := yD A880
           clear A880
           by_cases c89 : 0 < (x20_3.length : Int)
           ·
            rw [if_pos c89] at H
            have c89b0 : decide (0 < (x20_3.length : Int)) = true := zR c89
            have c89b1 : decide (0 < x20_3.length) = true := zR (by omega)
            clear c89
            by_cases c90 : t581 = (rd x20_3 0)
            ·
             rw [if_pos c90] at H
             have c90b0 : (t581 == (rd x20_3 0)) = true := beq_iff_eq.mpr c90
             have c90b1 : (t581 != (rd x20_3 0)) = false := bne_eq_false_iff_eq.mpr c90
             clear c90
             obtain ⟨t583, A910, H⟩ := zW_ H
             replace H : (if 1 < (x20_3.length : Int) then (if t583 = (rd x20_3 1) then ((laws_d8Size.f k3 t562).bind fun t585 => (if 2 < (x20_3.length : Int) then (some (t585 == (rd x20_3 2))) else (none))) else (some false)) else (none)) = some r := H
             have A91 := yD A910
             clear A910
             by_cases c92 : 1 < (x20_3.length : Int)
             ·
              rw [if_pos c92] at H
              have c92b0 : decide (1 < (x20_3.length : Int)) = true := zR c92
              have c92b1 : decide (1 < x20_3.length) = true := zR (by omega)
              clear c92
              by_cases c93 : t583 = (rd x20_3 1)
              ·
               rw [if_pos c93] at H
               have c93b0 : (t583 == (rd x20_3 1)) = true := beq_iff_eq.mpr c93
               have c93b1 : (t583 != (rd x20_3 1)) = false := bne_eq_false_iff_eq.mpr c93
               clear c93
               obtain ⟨t585, A940, H⟩ := zW_ H
               replace H : (if 2 < (x20_3.length : Int) then (some (t585 == (rd x20_3 2))) else (none)) = some r := H
               have A94 := yD A940
               clear A940
               by_cases c95 : 2 < (x20_3.length : Int)
               ·
                rw [if_pos c95] at H
                have c95b0 : decide (2 < (x20_3.length : Int)) = true := zR c95
                have c95b1 : decide (2 < x20_3.length) = true := zR (by omega)
                clear c95; obtain rfl := Option.some.inj H
                try go_wp2
                have n0_ := yD (yU HO_4.out)
                have n1_ := yD (yU HO_5.out)
                have n2_ := yD (yU HO_6.out)
                have n3_ := yD (yU HO_8.out)
                have n4_ := yD (yU HO_10.out)
                have n5_ := yD (yC HO_20.out)
                have n6_ := yD (yP HB.out)
                clear HO_4 HO_5 HO_6 HO_8 HO_10 HO_20 HB; have HO_4 := n0_; have HO_5 := n1_; have HO_6 := n2_; have HO_8 := n3_; have HO_10 := n4_; have HO_20 := n5_; have HB := n6_; clear n0_ n1_ n2_ n3_ n4_ n5_ n6_
                obtain ⟨Ao97, co97, eo97⟩ := Kd.R_slice HO_20.out
                (first | subst eo97 | (injection eo97 with f1_ f2_ f3_; have f4_ := f1_.symm; have f5_ := f3_.symm; clear f1_ f2_ f3_; subst f4_; subst f5_))
                have p582 : 0 ≤ (0 : Int) := (by omega)
                have q582 : 0 < (x20_3.length : Int) := zP (by assumption)
                obtain ⟨ad582, e582, hx582_0⟩ := Kd.at_int (zA HO_20.out).2.2 0 p582 q582
                cases e582
                have qi582 : (0 < x20_3.length) = True := eq_true (by omega)
                (try rw [show ((0 : Int)).toNat = 0 from rfl] at hx582_0)
                (try rw [Addr.add_zero'] at hx582_0)
                replace p582 := eq_true p582; replace q582 := eq_true q582
                obtain ⟨Ao98, co98, eo98⟩ := Kd.S_slice HO_6.out
                (first | subst eo98 | (injection eo98 with f1_ f2_ f3_; have f4_ := f1_.symm; have f5_ := f3_.symm; clear f1_ f2_ f3_; subst f4_; subst f5_))
                have p584 : 0 ≤ (1 : Int) := (by omega)
                have q584 : 1 < (x20_3.length : Int) := zP (by assumption)
                obtain ⟨ad584, e584, hx584_0⟩ := Kd.at_int (zA HO_20.out).2.2 1 p584 q584
                obtain rfl : ad582 = ad584 := (by injection e584)
                (try simp only [show (1 : Int).toNat = 1 from rfl, Nat.reduceMul, Nat.reduceEqDiff, Go.Addr.add, ↓reduceIte] at hx584_0)
                have qi584 : (1 < x20_3.length) = True := eq_true (by omega)
                (try rw [show ((1 : Int)).toNat = 1 from rfl] at hx584_0)
                replace p584 := eq_true p584; replace q584 := eq_true q584
                have p586 : 0 ≤ (2 : Int) := (by omega)
                have q586 : 2 < (x20_3.length : Int) := zP (by assumption)
                obtain ⟨ad586, e586, hx586_0⟩ := Kd.at_int (zA HO_20.out).2.2 2 p586 q586
                obtain rfl : ad582 = ad586 := (by injection e586)
                (try simp only [show (2 : Int).toNat = 2 from rfl, Nat.reduceMul, Nat.reduceEqDiff, Go.Addr.add, ↓reduceIte] at hx586_0)
                have qi586 : (2 < x20_3.length) = True := eq_true (by omega)
                (try rw [show ((2 : Int)).toNat = 2 from rfl] at hx586_0)
                replace p586 := eq_true p586; replace q586 := eq_true q586
                refine start_ (n := 23) (S := fun w' => w'.cell? ad582 = some (.int .i64 (rd x20_3 0)) ∧ w'.cell? ⟨ad582.block, ad582.off + 1, none⟩ = some (.int .i64 (rd x20_3 1)) ∧ w'.cell? ⟨ad582.block, ad582.off + 2, none⟩ = some (.int .i64 (rd x20_3 2))) (ds := []) (bz 23 0) (by kernel_rfl) rfl rfl ⟨hx582_0, hx584_0, hx586_0⟩ (fun hHeld => ?_); refine with_tabW laws_FnSlabAlgebra.tab35 laws_FnSlabAlgebra.bits35 (fun HT_ HW_ => ?_)
                generalize wr.drew = w96 at HO_4 HO_5 HO_6 HO_8 HO_10 HO_20 HB hx582_0 hx584_0 hx586_0 hHeld ⊢
                refine qA 0 180 (bz 23 1) HT_ ?_
                refine qA 2 182 (bz 23 5) HT_ ?_
                refine qA 3 183 (bz 23 13) HT_ ?_
                refine qC 4 184 (bz 23 29) HT_ HW_ hHeld ?_ (hy := by rintro w' ⟨s0, s1, s2⟩; go_simp; with_reducible rfl)
                refine one_ (i := 1) (N := some 181) (bz 23 31) rfl rfl (one_of HT_.out (by kernel_rfl)) (by decide) (fun K hK => ?_)
                refine goes_ Try.func30 (by kernel_rfl) rfl #[.slice Ao98 t554.length co98] (by rfl) rfl rfl (by (try simp only [zK, zL, zM]); first | done | rfl | (simp only [zN, zO]; rfl)) ?_
                with_reducible refine (laws_d8Size.calls k3 _ _ t554 t581 _ ?side1 ?side2 A88.out).mono ?_
                (case side1 => exact kV (Kd.S_reads' HO_6.out).2.2)
                (case side2 => exact (Kd.S_reads' HO_6.out).2.1)
                rintro e w99 ⟨rfl, hb⟩
                have HS0_ := (hb.cell (zQ _ _ (hHeld.1))).trans (hHeld.1)
                have HS1_ := (hb.cell (zQ _ _ (hHeld.2.1))).trans (hHeld.2.1)
                have HS2_ := (hb.cell (zQ _ _ (hHeld.2.2))).trans (hHeld.2.2)
                refine ⟨_, rfl, ?_⟩
                have n0_ := yD (Kd.S_below (kS HO_4) hb)
                have n1_ := yD (Kd.S_below (kS HO_5) hb)
                have n2_ := yD (Kd.S_below (kS HO_6) hb)
                have n3_ := yD (Kd.S_below (kS HO_8) hb)
                have n4_ := yD (Kd.S_below (kS HO_10) hb)
                have n5_ := yD (zE (kA HO_20) hb)
                have n6_ := yD (zC (kB HB) hb)
                clear HO_4 HO_5 HO_6 HO_8 HO_10 HO_20 HB; have HO_4 := n0_; have HO_5 := n1_; have HO_6 := n2_; have HO_8 := n3_; have HO_10 := n4_; have HO_20 := n5_; have HB := n6_; clear n0_ n1_ n2_ n3_ n4_ n5_ n6_; (try clear hb); (try clear hb2); (try clear hk); (try clear hi)
                obtain ⟨Ao100, co100, eo100⟩ := Kd.S_slice HO_8.out
                (first | subst eo100 | (injection eo100 with f1_ f2_ f3_; have f4_ := f1_.symm; have f5_ := f3_.symm; clear f1_ f2_ f3_; subst f4_; subst f5_))
                refine hK.out _ _ ⟨HS0_, HS1_, HS2_⟩ (fun hHeld => ?_)
                clear hK K
                refine norm_ (a' := ?_) ?_ ?_
                rotate_left
                · show Act.put _ (some 181) _ = _
                  simp only [Act.put, zH, zI, zJ, i64_w, i32_w]
                  rfl
                refine qA 5 185 (bz 23 63) HT_ ?_
                refine qA 6 186 (bz 23 127) HT_ ?_
                refine qA 7 187 (bz 23 255) HT_ ?_
                refine qA 9 189 (bz 23 767) HT_ ?_
                refine qA 10 190 (bz 23 1791) HT_ ?_
                refine qC 11 191 (bz 23 3839) HT_ HW_ hHeld ?_ (hy := by rintro w' ⟨s0, s1, s2⟩; go_simp; with_reducible rfl)
                refine one_ (i := 8) (N := some 188) (bz 23 4095) rfl rfl (one_of HT_.out (by kernel_rfl)) (by decide) (fun K hK => ?_)
                refine goes_ Try.func30 (by kernel_rfl) rfl #[.slice Ao100 t558.length co100] (by rfl) rfl rfl (by (try simp only [zK, zL, zM]); first | done | rfl | (simp only [zN, zO]; rfl)) ?_
                with_reducible refine (laws_d8Size.calls k3 _ _ t558 t583 _ ?side1 ?side2 A91.out).mono ?_
                (case side1 => exact kV (Kd.S_reads' HO_8.out).2.2)
                (case side2 => exact (Kd.S_reads' HO_8.out).2.1)
                rintro e w101 ⟨rfl, hb⟩
                have HS0_ := (hb.cell (zQ _ _ (hHeld.1))).trans (hHeld.1)
                have HS1_ := (hb.cell (zQ _ _ (hHeld.2.1))).trans (hHeld.2.1)
                have HS2_ := (hb.cell (zQ _ _ (hHeld.2.2))).trans (hHeld.2.2)
                refine ⟨_, rfl, ?_⟩
                have n0_ := yD (Kd.S_below (kS HO_4) hb)
                have n1_ := yD (Kd.S_below (kS HO_5) hb)
                have n2_ := yD (Kd.S_below (kS HO_6) hb)
                have n3_ := yD (Kd.S_below (kS HO_8) hb)
                have n4_ := yD (Kd.S_below (kS HO_10) hb)
                have n5_ := yD (zE (kA HO_20) hb)
                have n6_ := yD (zC (kB HB) hb)
                clear HO_4 HO_5 HO_6 HO_8 HO_10 HO_20 HB; have HO_4 := n0_; have HO_5 := n1_; have HO_6 := n2_; have HO_8 := n3_; have HO_10 := n4_; have HO_20 := n5_; have HB := n6_; clear n0_ n1_ n2_ n3_ n4_ n5_ n6_; (try clear hb); (try clear hb2); (try clear hk); (try clear hi)
                obtain ⟨Ao102, co102, eo102⟩ := Kd.S_slice HO_10.out
                (first | subst eo102 | (injection eo102 with f1_ f2_ f3_; have f4_ := f1_.symm; have f5_ := f3_.symm; clear f1_ f2_ f3_; subst f4_; subst f5_))
                refine hK.out _ _ ⟨HS0_, HS1_, HS2_⟩ (fun hHeld => ?_)
                clear hK K
                refine norm_ (a' := ?_) ?_ ?_
                rotate_left
                · show Act.put _ (some 188) _ = _
                  simp only [Act.put, zH, zI, zJ, i64_w, i32_w]
                  rfl
                refine qA 12 192 (bz 23 8191) HT_ ?_
                refine qA 13 193 (bz 23 16383) HT_ ?_
                refine qA 14 194 (bz 23 32767) HT_ ?_
                refine qA 15 195 (bz 23 65535) HT_ ?_
                refine qA 17 197 (bz 23 196607) HT_ ?_
                refine qA 18 198 (bz 23 458751) HT_ ?_
                refine qC 19 199 (bz 23 983039) HT_ HW_ hHeld ?_ (hy := by rintro w' ⟨s0, s1, s2⟩; go_simp; with_reducible rfl)
                refine one_ (i := 16) (N := some 196) (bz 23 1048575) rfl rfl (one_of HT_.out (by kernel_rfl)) (by decide) (fun K hK => ?_)
                refine goes_ Try.func30 (by kernel_rfl) rfl #[.slice Ao102 t562.length co102] (by rfl) rfl rfl (by (try simp only [zK, zL, zM]); first | done | rfl | (simp only [zN, zO]; rfl)) ?_
                with_reducible refine (laws_d8Size.calls k3 _ _ t562 t585 _ ?side1 ?side2 A94.out).mono ?_
                (case side1 => exact kV (Kd.S_reads' HO_10.out).2.2)
                (case side2 => exact (Kd.S_reads' HO_10.out).2.1)
                rintro e w103 ⟨rfl, hb⟩
                have HS0_ := (hb.cell (zQ _ _ (hHeld.1))).trans (hHeld.1)
                have HS1_ := (hb.cell (zQ _ _ (hHeld.2.1))).trans (hHeld.2.1)
                have HS2_ := (hb.cell (zQ _ _ (hHeld.2.2))).trans (hHeld.2.2)
                refine ⟨_, rfl, ?_⟩
                have n0_ := yD (Kd.S_below (kS HO_4) hb)
                have n1_ := yD (Kd.S_below (kS HO_5) hb)
                have n2_ := yD (Kd.S_below (kS HO_6) hb)
                have n3_ := yD (Kd.S_below (kS HO_8) hb)
                have n4_ := yD (Kd.S_below (kS HO_10) hb)
                have n5_ := yD (zE (kA HO_20) hb)
                have n6_ := yD (zC (kB HB) hb)
                clear HO_4 HO_5 HO_6 HO_8 HO_10 HO_20 HB; have HO_4 := n0_; have HO_5 := n1_; have HO_6 := n2_; have HO_8 := n3_; have HO_10 := n4_; have HO_20 := n5_; have HB := n6_; clear n0_ n1_ n2_ n3_ n4_ n5_ n6_; (try clear hb); (try clear hb2); (try clear hk); (try clear hi)
                refine hK.out _ _ ⟨HS0_, HS1_, HS2_⟩ (fun hHeld => ?_)
                clear hK K
                refine norm_ (a' := ?_) ?_ ?_
                rotate_left
                · show Act.put _ (some 196) _ = _
                  simp only [Act.put, zH, zI, zJ, i64_w, i32_w]
                  rfl
                refine qA 20 200 (bz 23 2097151) HT_ ?_
                refine qA 21 201 (bz 23 4194303) HT_ ?_
                refine qA 22 2 (bz 23 8388607) HT_ ?_
                refine done_ (done_of HT_.out (by kernel_rfl)) ?_
                try go_wp2
                go_ret
                exact ⟨by first | rfl | (simp <;> rfl) | (simp [*] <;> rfl), kR0 HB⟩
               · rw [if_neg c95] at H
                 exact absurd H (by simp)
              ·
               rw [if_neg c93] at H
               have c93b0 : (t583 == (rd x20_3 1)) = false := beq_eq_false_iff_ne.mpr c93
               have c93b1 : (t583 != (rd x20_3 1)) = true := bne_iff_ne.mpr c93
               obtain rfl := Option.some.inj H
               try go_wp2
               have n0_ := yD (yU HO_4.out)
               have n1_ := yD (yU HO_5.out)
               have n2_ := yD (yU HO_6.out)
               have n3_ := yD (yU HO_8.out)
               have n4_ := yD (yU HO_10.out)
               have n5_ := yD (yC HO_20.out)
               have n6_ := yD (yP HB.out)
               clear HO_4 HO_5 HO_6 HO_8 HO_10 HO_20 HB; have HO_4 := n0_; have HO_5 := n1_; have HO_6 := n2_; have HO_8 := n3_; have HO_10 := n4_; have HO_20 := n5_; have HB := n6_; clear n0_ n1_ n2_ n3_ n4_ n5_ n6_
               obtain ⟨Ao105, co105, eo105⟩ := Kd.R_slice HO_20.out
               (first | subst eo105 | (injection eo105 with f1_ f2_ f3_; have f4_ := f1_.symm; have f5_ := f3_.symm; clear f1_ f2_ f3_; subst f4_; subst f5_))
               have p582 : 0 ≤ (0 : Int) := (by omega)
               have q582 : 0 < (x20_3.length : Int) := zP (by assumption)
               obtain ⟨ad582, e582, hx582_0⟩ := Kd.at_int (zA HO_20.out).2.2 0 p582 q582
               cases e582
               have qi582 : (0 < x20_3.length) = True := eq_true (by omega)
               (try rw [show ((0 : Int)).toNat = 0 from rfl] at hx582_0)
               (try rw [Addr.add_zero'] at hx582_0)
               replace p582 := eq_true p582; replace q582 := eq_true q582
               obtain ⟨Ao106, co106, eo106⟩ := Kd.S_slice HO_6.out
               (first | subst eo106 | (injection eo106 with f1_ f2_ f3_; have f4_ := f1_.symm; have f5_ := f3_.symm; clear f1_ f2_ f3_; subst f4_; subst f5_))
               have p584 : 0 ≤ (1 : Int) := (by omega)
               have q584 : 1 < (x20_3.length : Int) := zP (by assumption)
               obtain ⟨ad584, e584, hx584_0⟩ := Kd.at_int (zA HO_20.out).2.2 1 p584 q584
               obtain rfl : ad582 = ad584 := (by injection e584)
               (try simp only [show (1 : Int).toNat = 1 from rfl, Nat.reduceMul, Nat.reduceEqDiff, Go.Addr.add, ↓reduceIte] at hx584_0)
               have qi584 : (1 < x20_3.length) = True := eq_true (by omega)
               (try rw [show ((1 : Int)).toNat = 1 from rfl] at hx584_0)
               replace p584 := eq_true p584; replace q584 := eq_true q584
               refine start_ (n := 23) (S := fun w' => w'.cell? ad582 = some (.int .i64 (rd x20_3 0)) ∧ w'.cell? ⟨ad582.block, ad582.off + 1, none⟩ = some (.int .i64 (rd x20_3 1))) (ds := []) (bz 23 0) (by kernel_rfl) rfl rfl ⟨hx582_0, hx584_0⟩ (fun hHeld => ?_); refine with_tabW laws_FnSlabAlgebra.tab35 laws_FnSlabAlgebra.bits35 (fun HT_ HW_ => ?_)
               generalize wr.drew = w104 at HO_4 HO_5 HO_6 HO_8 HO_10 HO_20 HB hx582_0 hx584_0 hHeld ⊢
               refine qA 0 180 (bz 23 1) HT_ ?_
               refine qA 2 182 (bz 23 5) HT_ ?_
               refine qA 3 183 (bz 23 13) HT_ ?_
               refine qC 4 184 (bz 23 29) HT_ HW_ hHeld ?_ (hy := by rintro w' ⟨s0, s1⟩; go_simp; with_reducible rfl)
               refine one_ (i := 1) (N := some 181) (bz 23 31) rfl rfl (one_of HT_.out (by kernel_rfl)) (by decide) (fun K hK => ?_)
               refine goes_ Try.func30 (by kernel_rfl) rfl #[.slice Ao106 t554.length co106] (by rfl) rfl rfl (by (try simp only [zK, zL, zM]); first | done | rfl | (simp only [zN, zO]; rfl)) ?_
               with_reducible refine (laws_d8Size.calls k3 _ _ t554 t581 _ ?side1 ?side2 A88.out).mono ?_
               (case side1 => exact kV (Kd.S_reads' HO_6.out).2.2)
               (case side2 => exact (Kd.S_reads' HO_6.out).2.1)
               rintro e w107 ⟨rfl, hb⟩
               have HS0_ := (hb.cell (zQ _ _ (hHeld.1))).trans (hHeld.1)
               have HS1_ := (hb.cell (zQ _ _ (hHeld.2))).trans (hHeld.2)
               refine ⟨_, rfl, ?_⟩
               have n0_ := yD (Kd.S_below (kS HO_4) hb)
               have n1_ := yD (Kd.S_below (kS HO_5) hb)
               have n2_ := yD (Kd.S_below (kS HO_6) hb)
               have n3_ := yD (Kd.S_below (kS HO_8) hb)
               have n4_ := yD (Kd.S_below (kS HO_10) hb)
               have n5_ := yD (zE (kA HO_20) hb)
               have n6_ := yD (zC (kB HB) hb)
               clear HO_4 HO_5 HO_6 HO_8 HO_10 HO_20 HB; have HO_4 := n0_; have HO_5 := n1_; have HO_6 := n2_; have HO_8 := n3_; have HO_10 := n4_; have HO_20 := n5_; have HB := n6_; clear n0_ n1_ n2_ n3_ n4_ n5_ n6_; (try clear hb); (try clear hb2); (try clear hk); (try clear hi)
               obtain ⟨Ao108, co108, eo108⟩ := Kd.S_slice HO_8.out
               (first | subst eo108 | (injection eo108 with f1_ f2_ f3_; have f4_ := f1_.symm; have f5_ := f3_.symm; clear f1_ f2_ f3_; subst f4_; subst f5_))
               refine hK.out _ _ ⟨HS0_, HS1_⟩ (fun hHeld => ?_)
               clear hK K
               refine norm_ (a' := ?_) ?_ ?_
               rotate_left
               · show Act.put _ (some 181) _ = _
                 simp only [Act.put, zH, zI, zJ, i64_w, i32_w]
                 rfl
               refine qA 5 185 (bz 23 63) HT_ ?_
               refine qA 6 186 (bz 23 127) HT_ ?_
               refine qA 7 187 (bz 23 255) HT_ ?_
               refine qA 9 189 (bz 23 767) HT_ ?_
               refine qA 10 190 (bz 23 1791) HT_ ?_
               refine qC 11 191 (bz 23 3839) HT_ HW_ hHeld ?_ (hy := by rintro w' ⟨s0, s1⟩; go_simp; with_reducible rfl)
               refine one_ (i := 8) (N := some 188) (bz 23 4095) rfl rfl (one_of HT_.out (by kernel_rfl)) (by decide) (fun K hK => ?_)
               refine goes_ Try.func30 (by kernel_rfl) rfl #[.slice Ao108 t558.length co108] (by rfl) rfl rfl (by (try simp only [zK, zL, zM]); first | done | rfl | (simp only [zN, zO]; rfl)) ?_
               with_reducible refine (laws_d8Size.calls k3 _ _ t558 t583 _ ?side1 ?side2 A91.out).mono ?_
               (case side1 => exact kV (Kd.S_reads' HO_8.out).2.2)
               (case side2 => exact (Kd.S_reads' HO_8.out).2.1)
               rintro e w109 ⟨rfl, hb⟩
               have HS0_ := (hb.cell (zQ _ _ (hHeld.1))).trans (hHeld.1)
               have HS1_ := (hb.cell (zQ _ _ (hHeld.2))).trans (hHeld.2)
               refine ⟨_, rfl, ?_⟩
               have n0_ := yD (Kd.S_below (kS HO_4) hb)
               have n1_ := yD (Kd.S_below (kS HO_5) hb)
               have n2_ := yD (Kd.S_below (kS HO_6) hb)
               have n3_ := yD (Kd.S_below (kS HO_8) hb)
               have n4_ := yD (Kd.S_below (kS HO_10) hb)
               have n5_ := yD (zE (kA HO_20) hb)
               have n6_ := yD (zC (kB HB) hb)
               clear HO_4 HO_5 HO_6 HO_8 HO_10 HO_20 HB; have HO_4 := n0_; have HO_5 := n1_; have HO_6 := n2_; have HO_8 := n3_; have HO_10 := n4_; have HO_20 := n5_; have HB := n6_; clear n0_ n1_ n2_ n3_ n4_ n5_ n6_; (try clear hb); (try clear hb2); (try clear hk); (try clear hi)
               refine hK.out _ _ ⟨HS0_, HS1_⟩ (fun hHeld => ?_)
               clear hK K
               refine norm_ (a' := ?_) ?_ ?_
               rotate_left
               · show Act.put _ (some 188) _ = _
                 simp only [Act.put, zH, zI, zJ, i64_w, i32_w]
                 rfl
               refine qA 12 192 (bz 23 8191) HT_ ?_
               refine qA 13 193 (bz 23 16383) HT_ ?_
               refine qA 14 194 (bz 23 32767) HT_ ?_
               refine qB 15 195 (bz 23 65535) HT_ ?_
               refine qB 16 196 (bz 23 131071) HT_ ?_
               refine qB 17 197 (bz 23 262143) HT_ ?_
               refine qB 18 198 (bz 23 524287) HT_ ?_
               refine qB 19 199 (bz 23 1048575) HT_ ?_
               refine qB 20 200 (bz 23 2097151) HT_ ?_
               refine qA 21 201 (bz 23 4194303) HT_ ?_
               refine qA 22 2 (bz 23 8388607) HT_ ?_
               refine done_ (done_of HT_.out (by kernel_rfl)) ?_
               try go_wp2
               go_ret
               exact ⟨by first | rfl | (simp <;> rfl) | (simp [*] <;> rfl), kR0 HB⟩
             · rw [if_neg c92] at H
               exact absurd H (by simp)
            ·
             rw [if_neg c90] at H
             have c90b0 : (t581 == (rd x20_3 0)) = false := beq_eq_false_iff_ne.mpr c90
             have c90b1 : (t581 != (rd x20_3 0)) = true := bne_iff_ne.mpr c90
             obtain rfl := Option.some.inj H
             try go_wp2
             have n0_ := yD (yU HO_4.out)
             have n1_ := yD (yU HO_5.out)
             have n2_ := yD (yU HO_6.out)
             have n3_ := yD (yU HO_8.out)
             have n4_ := yD (yU HO_10.out)
             have n5_ := yD (yC HO_20.out)
             have n6_ := yD (yP HB.out)
             clear HO_4 HO_5 HO_6 HO_8 HO_10 HO_20 HB; have HO_4 := n0_; have HO_5 := n1_; have HO_6 := n2_; have HO_8 := n3_; have HO_10 := n4_; have HO_20 := n5_; have HB := n6_; clear n0_ n1_ n2_ n3_ n4_ n5_ n6_
             obtain ⟨Ao111, co111, eo111⟩ := Kd.R_slice HO_20.out
             (first | subst eo111 | (injection eo111 with f1_ f2_ f3_; have f4_ := f1_.symm; have f5_ := f3_.symm; clear f1_ f2_ f3_; subst f4_; subst f5_))
             have p582 : 0 ≤ (0 : Int) := (by omega)
             have q582 : 0 < (x20_3.length : Int) := zP (by assumption)
             obtain ⟨ad582, e582, hx582_0⟩ := Kd.at_int (zA HO_20.out).2.2 0 p582 q582
             cases e582
             have qi582 : (0 < x20_3.length) = True := eq_true (by omega)
             (try rw [show ((0 : Int)).toNat = 0 from rfl] at hx582_0)
             (try rw [Addr.add_zero'] at hx582_0)
             replace p582 := eq_true p582; replace q582 := eq_true q582
             obtain ⟨Ao112, co112, eo112⟩ := Kd.S_slice HO_6.out
             (first | subst eo112 | (injection eo112 with f1_ f2_ f3_; have f4_ := f1_.symm; have f5_ := f3_.symm; clear f1_ f2_ f3_; subst f4_; subst f5_))
             refine start_ (n := 23) (S := fun w' => w'.cell? ad582 = some (.int .i64 (rd x20_3 0))) (ds := []) (bz 23 0) (by kernel_rfl) rfl rfl (hx582_0) (fun hHeld => ?_); refine with_tabW laws_FnSlabAlgebra.tab35 laws_FnSlabAlgebra.bits35 (fun HT_ HW_ => ?_)
             generalize wr.drew = w110 at HO_4 HO_5 HO_6 HO_8 HO_10 HO_20 HB hx582_0 hHeld ⊢
             refine qA 0 180 (bz 23 1) HT_ ?_
             refine qA 2 182 (bz 23 5) HT_ ?_
             refine qA 3 183 (bz 23 13) HT_ ?_
             refine qC 4 184 (bz 23 29) HT_ HW_ hHeld ?_ (hy := by intro w' s0; go_simp; with_reducible rfl)
             refine one_ (i := 1) (N := some 181) (bz 23 31) rfl rfl (one_of HT_.out (by kernel_rfl)) (by decide) (fun K hK => ?_)
             refine goes_ Try.func30 (by kernel_rfl) rfl #[.slice Ao112 t554.length co112] (by rfl) rfl rfl (by (try simp only [zK, zL, zM]); first | done | rfl | (simp only [zN, zO]; rfl)) ?_
             with_reducible refine (laws_d8Size.calls k3 _ _ t554 t581 _ ?side1 ?side2 A88.out).mono ?_
             (case side1 => exact kV (Kd.S_reads' HO_6.out).2.2)
             (case side2 => exact (Kd.S_reads' HO_6.out).2.1)
             rintro e w113 ⟨rfl, hb⟩
             have HS0_ := (hb.cell (zQ _ _ (hHeld))).trans (hHeld)
             refine ⟨_, rfl, ?_⟩
             have n0_ := yD (Kd.S_below (kS HO_4) hb)
             have n1_ := yD (Kd.S_below (kS HO_5) hb)
             have n2_ := yD (Kd.S_below (kS HO_6) hb)
             have n3_ := yD (Kd.S_below (kS HO_8) hb)
             have n4_ := yD (Kd.S_below (kS HO_10) hb)
             have n5_ := yD (zE (kA HO_20) hb)
             have n6_ := yD (zC (kB HB) hb)
             clear HO_4 HO_5 HO_6 HO_8 HO_10 HO_20 HB; have HO_4 := n0_; have HO_5 := n1_; have HO_6 := n2_; have HO_8 := n3_; have HO_10 := n4_; have HO_20 := n5_; have HB := n6_; clear n0_ n1_ n2_ n3_ n4_ n5_ n6_; (try clear hb); (try clear hb2); (try clear hk); (try clear hi)
             refine hK.out _ _ (HS0_) (fun hHeld => ?_)
             clear hK K
             refine norm_ (a' := ?_) ?_ ?_
             rotate_left
             · show Act.put _ (some 181) _ = _
               simp only [Act.put, zH, zI, zJ, i64_w, i32_w]
               rfl
             refine qA 5 185 (bz 23 63) HT_ ?_
             refine qA 6 186 (bz 23 127) HT_ ?_
             refine qB 7 187 (bz 23 255) HT_ ?_
             refine qB 8 188 (bz 23 511) HT_ ?_
             refine qB 9 189 (bz 23 1023) HT_ ?_
             refine qB 10 190 (bz 23 2047) HT_ ?_
             refine qB 11 191 (bz 23 4095) HT_ ?_
             refine qB 12 192 (bz 23 8191) HT_ ?_
             refine qA 13 193 (bz 23 16383) HT_ ?_
             refine qA 14 194 (bz 23 32767) HT_ ?_
             refine qB 15 195 (bz 23 65535) HT_ ?_
             refine qB 16 196 (bz 23 131071) HT_ ?_
             refine qB 17 197 (bz 23 262143) HT_ ?_
             refine qB 18 198 (bz 23 524287) HT_ ?_
             refine qB 19 199 (bz 23 1048575) HT_ ?_
             refine qB 20 200 (bz 23 2097151) HT_ ?_
             refine qA 21 201 (bz 23 4194303) HT_ ?_
             refine qA 22 2 (bz 23 8388607) HT_ ?_
             refine done_ (done_of HT_.out (by kernel_rfl)) ?_
             try go_wp2
             go_ret
             exact ⟨by first | rfl | (simp <;> rfl) | (simp [*] <;> rfl), kR0 HB⟩
           · rw [if_neg c89] at H
             exact absurd H (by simp)

-- what data that come in are: numbers of their kinds, lengths that a length can be
/-- THE ONE PURE STATEMENT of laws_FnSlabAlgebra: ours. -/
def laws_FnSlabAlgebra.Pure : Prop := ∀ (l0 : List Int), (l0.length ≤ maxLen ∧ ∀ x_ ∈ l0, (Lit.int .u8 x_).wf = true) → ∃ k, laws_FnSlabAlgebra.f k l0 = some true
theorem laws_FnSlabAlgebra.walk (P : laws_FnSlabAlgebra.Pure) (A0 : Option Addr) (c0 : Nat) (l0 : List Int) (w : World) (hr0 : Kd.C (Kd.int .u8) w A0 l0.length l0) (hc0 : l0.length ≤ c0) (o0 : (l0.length ≤ maxLen ∧ ∀ x_ ∈ l0, (Lit.int .u8 x_).wf = true)) :
 Calls Try.prog 7 #[.slice A0 l0.length c0] w fun e w' => e = .returned (.bool true) ∧ Below w.heap.size w w' := by
 obtain ⟨k, h⟩ := P l0 o0
 refine (laws_FnSlabAlgebra.calls k _ _ l0 true w hr0 hc0 h).mono ?_
 rintro e w' ⟨rfl, hd⟩
 exact ⟨rfl, hd⟩
end Go.Proofs.Ytdiaebjbiddefaa.PFnSlabAlgebra
