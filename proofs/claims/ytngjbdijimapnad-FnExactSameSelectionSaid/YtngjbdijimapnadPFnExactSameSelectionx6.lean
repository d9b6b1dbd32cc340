/- Each Go function here comes to what the plain function of its name says, where that says something. Made by a program of this session, over the print. -/
import Derived.Test.YtngjbdijimapnadPFnExactSameSelectionx0
import Derived.Test.YtngjbdijimapnadPFnExactSameSelectionx1
import Derived.Test.YtngjbdijimapnadPFnExactSameSelectionx2
import Derived.Test.YtngjbdijimapnadPFnExactSameSelectionx4
import Derived.Test.YtngjbdijimapnadPFnExactSameSelectionx5
namespace Go.Proofs.Ytngjbdijimapnad.PFnExactSameSelection
open Go.RowKit Go.Proofs.YtngjbdijimapnadW.PrintWords Go.Proofs.YtngjbdijimapnadW.PrintLast Go.Proofs.YtngjbdijimapnadW.PrintMore
attribute [local go_sem] max2_int min2_int max_two min_two max_three min_three max_four min_four   -- for this text's walks alone
set_option linter.unusedVariables false
set_option linter.unusedSimpArgs false

/-! ### laws_FnExactSameSelection: function 12 -/
mutual
def laws_FnExactSameSelection.j0 : Nat → Int → Int → List Int → List Int → List Int → List Int → List (S106) → Int → List Int → List Int → List Int → List Int → List (S106) → Option (Bool)
 | 0, _, _, _, _, _, _, _, _, _, _, _, _, _ => none
 | k + 1, x5, x203000, x203001, x203002, x203003, x203004, x203005, x204000, x204001, x204002, x204003, x204004, x204005 => (laws_szSelection.f k x204000 x204001 x204002 x204003 x204004 x204005 x5).bind fun t205 => (if t205 < 0 then (some true) else (laws_FnExactSameSelection.j1 k x203000 x203001 x203002 x203003 x203004 x203005 x204000 x204001 x204002 x204003 x204004 x204005))
def laws_FnExactSameSelection.j1 : Nat → Int → List Int → List Int → List Int → List Int → List (S106) → Int → List Int → List Int → List Int → List Int → List (S106) → Option (Bool)
 | 0, _, _, _, _, _, _, _, _, _, _, _, _ => none
 | k + 1, x203000, x203001, x203002, x203003, x203004, x203005, x204000, x204001, x204002, x204003, x204004, x204005 => (laws_toSelection.f k x203000 x203001 x203002 x203003 x203004 x203005).bind fun bt206 => ((laws_toSelection.f k x204000 x204001 x204002 x204003 x204004 x204005).bind fun bt222 => ((spec_SameSelection.f k bt206.1 bt206.2.1 bt206.2.2.1 bt206.2.2.2.1 bt206.2.2.2.2.1 bt206.2.2.2.2.2 bt222.1 bt222.2.1 bt222.2.2.1 bt222.2.2.2.1 bt222.2.2.2.2.1 bt222.2.2.2.2.2).bind fun t238 => (laws_FnExactSameSelection.j2 k t238 x203000 x203001 x203002 x203003 x203004 x203005 x204000 x204001 x204002 x204003 x204004 x204005)))
def laws_FnExactSameSelection.j2 : Nat → Bool → Int → List Int → List Int → List Int → List Int → List (S106) → Int → List Int → List Int → List Int → List Int → List (S106) → Option (Bool)
 | 0, _, _, _, _, _, _, _, _, _, _, _, _, _ => none
 | k + 1, x6, x203000, x203001, x203002, x203003, x203004, x203005, x204000, x204001, x204002, x204003, x204004, x204005 => (laws_toSelection.f k x203000 x203001 x203002 x203003 x203004 x203005).bind fun bt239 => ((laws_toSelection.f k x204000 x204001 x204002 x204003 x204004 x204005).bind fun bt256 => ((impl_SameSelection.f k bt239.1 bt239.2.1 bt239.2.2.1 bt239.2.2.2.1 bt239.2.2.2.2.1 bt239.2.2.2.2.2 bt256.1 bt256.2.1 bt256.2.2.1 bt256.2.2.2.1 bt256.2.2.2.2.1 bt256.2.2.2.2.2).bind fun t273 => (laws_FnExactSameSelection.j3 k x6 t273 x203000 x203001 x203002 x203003 x203004 x203005 x204000 x204001 x204002 x204003 x204004 x204005 bt239.1 bt239.2.1 bt239.2.2.1 bt239.2.2.2.1 bt239.2.2.2.2.1 bt239.2.2.2.2.2 bt256.1 bt256.2.1 bt256.2.2.1 bt256.2.2.2.1 bt256.2.2.2.2.1 bt256.2.2.2.2.2)))
def laws_FnExactSameSelection.j3 : Nat → Bool → Bool → Int → List Int → List Int → List Int → List Int → List (S106) → Int → List Int → List Int → List Int → List Int → List (S106) → Int → List Int → List Int → List Int → List Int → List (S94) → Int → List Int → List Int → List Int → List Int → List (S94) → Option (Bool)
 | 0, _, _, _, _, _, _, _, _, _, _, _, _, _, _, _, _, _, _, _, _, _, _, _, _, _, _ => none
 | k + 1, x6, x9, x203000, x203001, x203002, x203003, x203004, x203005, x204000, x204001, x204002, x204003, x204004, x204005, x256000, x256001, x256002, x256003, x256004, x256005, x273000, x273001, x273002, x273003, x273004, x273005 => if (x9 != x6) = true then (some false) else (laws_FnExactSameSelection.j4 k x203000 x203001 x203002 x203003 x203004 x203005 x204000 x204001 x204002 x204003 x204004 x204005 x256000 x256001 x256002 x256003 x256004 x256005 x273000 x273001 x273002 x273003 x273004 x273005)
def laws_FnExactSameSelection.j4 : Nat → Int → List Int → List Int → List Int → List Int → List (S106) → Int → List Int → List Int → List Int → List Int → List (S106) → Int → List Int → List Int → List Int → List Int → List (S94) → Int → List Int → List Int → List Int → List Int → List (S94) → Option (Bool)
 | 0, _, _, _, _, _, _, _, _, _, _, _, _, _, _, _, _, _, _, _, _, _, _, _, _ => none
 | k + 1, x203000, x203001, x203002, x203003, x203004, x203005, x204000, x204001, x204002, x204003, x204004, x204005, x256000, x256001, x256002, x256003, x256004, x256005, x273000, x273001, x273002, x273003, x273004, x273005 => (laws_toSelection.f k x203000 x203001 x203002 x203003 x203004 x203005).bind fun bt274 => ((laws_eqSelection.f k x256000 x256001 x256002 x256003 x256004 x256005 bt274.1 bt274.2.1 bt274.2.2.1 bt274.2.2.2.1 bt274.2.2.2.2.1 bt274.2.2.2.2.2).bind fun t290 => (if t290 = true then (laws_FnExactSameSelection.j5 k x204000 x204001 x204002 x204003 x204004 x204005 x273000 x273001 x273002 x273003 x273004 x273005) else (some false)))
def laws_FnExactSameSelection.j5 : Nat → Int → List Int → List Int → List Int → List Int → List (S106) → Int → List Int → List Int → List Int → List Int → List (S94) → Option (Bool)
 | 0, _, _, _, _, _, _, _, _, _, _, _, _ => none
 | k + 1, x204000, x204001, x204002, x204003, x204004, x204005, x273000, x273001, x273002, x273003, x273004, x273005 => (laws_toSelection.f k x204000 x204001 x204002 x204003 x204004 x204005).bind fun bt291 => ((laws_eqSelection.f k x273000 x273001 x273002 x273003 x273004 x273005 bt291.1 bt291.2.1 bt291.2.2.1 bt291.2.2.2.1 bt291.2.2.2.2.1 bt291.2.2.2.2.2).bind fun t307 => (if t307 = true then (some true) else (some false)))
end
def laws_FnExactSameSelection.f (k : Nat) (a0_0 : Int) (l0_1 : List Int) (l0_2 : List Int) (l0_3 : List Int) (l0_4 : List Int) (l0_5 : List (S106)) (a1_0 : Int) (l1_1 : List Int) (l1_2 : List Int) (l1_3 : List Int) (l1_4 : List Int) (l1_5 : List (S106)) : Option (Bool) := (laws_szSelection.f k a0_0 l0_1 l0_2 l0_3 l0_4 l0_5 1048576).bind fun t204 => (if t204 < 0 then (some true) else (laws_FnExactSameSelection.j0 k t204 a0_0 l0_1 l0_2 l0_3 l0_4 l0_5 a1_0 l1_1 l1_2 l1_3 l1_4 l1_5))
theorem laws_FnExactSameSelection.mono_l : ∀ k, (∀ y0 y1 y2 y3 y4 y5 y6 y7 y8 y9 y10 y11 y12, LeO (laws_FnExactSameSelection.j0 k y0 y1 y2 y3 y4 y5 y6 y7 y8 y9 y10 y11 y12) (laws_FnExactSameSelection.j0 (k + 1) y0 y1 y2 y3 y4 y5 y6 y7 y8 y9 y10 y11 y12)) ∧ (∀ y0 y1 y2 y3 y4 y5 y6 y7 y8 y9 y10 y11, LeO (laws_FnExactSameSelection.j1 k y0 y1 y2 y3 y4 y5 y6 y7 y8 y9 y10 y11) (laws_FnExactSameSelection.j1 (k + 1) y0 y1 y2 y3 y4 y5 y6 y7 y8 y9 y10 y11)) ∧ (∀ y0 y1 y2 y3 y4 y5 y6 y7 y8 y9 y10 y11 y12, LeO (laws_FnExactSameSelection.j2 k y0 y1 y2 y3 y4 y5 y6 y7 y8 y9 y10 y11 y12) (laws_FnExactSameSelection.j2 (k + 1) y0 y1 y2 y3 y4 y5 y6 y7 y8 y9 y10 y11 y12)) ∧ (∀ y0 y1 y2 y3 y4 y5 y6 y7 y8 y9 y10 y11 y12 y13 y14 y15 y16 y17 y18 y19 y20 y21 y22 y23 y24 y25, LeO (laws_FnExactSameSelection.j3 k y0 y1 y2 y3 y4 y5 y6 y7 y8 y9 y10 y11 y12 y13 y14 y15 y16 y17 y18 y19 y20 y21 y22 y23 y24 y25) (laws_FnExactSameSelection.j3 (k + 1) y0 y1 y2 y3 y4 y5 y6 y7 y8 y9 y10 y11 y12 y13 y14 y15 y16 y17 y18 y19 y20 y21 y22 y23 y24 y25)) ∧ (∀ y0 y1 y2 y3 y4 y5 y6 y7 y8 y9 y10 y11 y12 y13 y14 y15 y16 y17 y18 y19 y20 y21 y22 y23, LeO (laws_FnExactSameSelection.j4 k y0 y1 y2 y3 y4 y5 y6 y7 y8 y9 y10 y11 y12 y13 y14 y15 y16 y17 y18 y19 y20 y21 y22 y23) (laws_FnExactSameSelection.j4 (k + 1) y0 y1 y2 y3 y4 y5 y6 y7 y8 y9 y10 y11 y12 y13 y14 y15 y16 y17 y18 y19 y20 y21 y22 y23)) ∧ (∀ y0 y1 y2 y3 y4 y5 y6 y7 y8 y9 y10 y11, LeO (laws_FnExactSameSelection.j5 k y0 y1 y2 y3 y4 y5 y6 y7 y8 y9 y10 y11) (laws_FnExactSameSelection.j5 (k + 1) y0 y1 y2 y3 y4 y5 y6 y7 y8 y9 y10 y11))
 | 0 => ⟨fun _ _ _ _ _ _ _ _ _ _ _ _ _ r h => by simp [laws_FnExactSameSelection.j0] at h, fun _ _ _ _ _ _ _ _ _ _ _ _ r h => by simp [laws_FnExactSameSelection.j1] at h, fun _ _ _ _ _ _ _ _ _ _ _ _ _ r h => by simp [laws_FnExactSameSelection.j2] at h, fun _ _ _ _ _ _ _ _ _ _ _ _ _ _ _ _ _ _ _ _ _ _ _ _ _ _ r h => by simp [laws_FnExactSameSelection.j3] at h, fun _ _ _ _ _ _ _ _ _ _ _ _ _ _ _ _ _ _ _ _ _ _ _ _ r h => by simp [laws_FnExactSameSelection.j4] at h, fun _ _ _ _ _ _ _ _ _ _ _ _ r h => by simp [laws_FnExactSameSelection.j5] at h⟩
 | k + 1 => by
  obtain ⟨ih0, ih1, ih2, ih3, ih4, ih5⟩ := laws_FnExactSameSelection.mono_l k
  refine ⟨?_, ?_, ?_, ?_, ?_, ?_⟩
  ·
   intro y0 y1 y2 y3 y4 y5 y6 y7 y8 y9 y10 y11 y12
   unfold laws_FnExactSameSelection.j0
   repeat' first
   | (with_reducible exact ih0 _ _ _ _ _ _ _ _ _ _ _ _ _)
   | (with_reducible exact ih1 _ _ _ _ _ _ _ _ _ _ _ _)
   | (with_reducible exact ih2 _ _ _ _ _ _ _ _ _ _ _ _ _)
   | (with_reducible exact ih3 _ _ _ _ _ _ _ _ _ _ _ _ _ _ _ _ _ _ _ _ _ _ _ _ _ _)
   | (with_reducible exact ih4 _ _ _ _ _ _ _ _ _ _ _ _ _ _ _ _ _ _ _ _ _ _ _ _)
   | (with_reducible exact ih5 _ _ _ _ _ _ _ _ _ _ _ _)
   | (with_reducible exact impl_SameSelection.mono _ _ _ _ _ _ _ _ _ _ _ _ _)
   | (with_reducible exact laws_eqSelection.mono _ _ _ _ _ _ _ _ _ _ _ _ _)
   | (with_reducible exact laws_szSelection.mono _ _ _ _ _ _ _ _)
   | (with_reducible exact laws_toSelection.mono _ _ _ _ _ _ _)
   | (with_reducible exact spec_SameSelection.mono _ _ _ _ _ _ _ _ _ _ _ _ _)
   | (with_reducible exact LeO.refl _)
   | (with_reducible exact LeO.none _)
   | (with_reducible refine LeO.ite ?_ ?_)
   | (with_reducible refine LeO.bind ?_ (fun _ => ?_))
   | exact ih0 _ _ _ _ _ _ _ _ _ _ _ _ _
   | exact ih1 _ _ _ _ _ _ _ _ _ _ _ _
   | exact ih2 _ _ _ _ _ _ _ _ _ _ _ _ _
   | exact ih3 _ _ _ _ _ _ _ _ _ _ _ _ _ _ _ _ _ _ _ _ _ _ _ _ _ _
   | exact ih4 _ _ _ _ _ _ _ _ _ _ _ _ _ _ _ _ _ _ _ _ _ _ _ _
   | exact ih5 _ _ _ _ _ _ _ _ _ _ _ _
   | exact impl_SameSelection.mono _ _ _ _ _ _ _ _ _ _ _ _ _
   | exact laws_eqSelection.mono _ _ _ _ _ _ _ _ _ _ _ _ _
   | exact laws_szSelection.mono _ _ _ _ _ _ _ _
   | exact laws_toSelection.mono _ _ _ _ _ _ _
   | exact spec_SameSelection.mono _ _ _ _ _ _ _ _ _ _ _ _ _
   | exact LeO.none _
   | refine LeO.ite ?_ ?_
   | refine LeO.bind ?_ (fun _ => ?_)
  ·
   intro y0 y1 y2 y3 y4 y5 y6 y7 y8 y9 y10 y11
   unfold laws_FnExactSameSelection.j1
   repeat' first
   | (with_reducible exact ih0 _ _ _ _ _ _ _ _ _ _ _ _ _)
   | (with_reducible exact ih1 _ _ _ _ _ _ _ _ _ _ _ _)
   | (with_reducible exact ih2 _ _ _ _ _ _ _ _ _ _ _ _ _)
   | (with_reducible exact ih3 _ _ _ _ _ _ _ _ _ _ _ _ _ _ _ _ _ _ _ _ _ _ _ _ _ _)
   | (with_reducible exact ih4 _ _ _ _ _ _ _ _ _ _ _ _ _ _ _ _ _ _ _ _ _ _ _ _)
   | (with_reducible exact ih5 _ _ _ _ _ _ _ _ _ _ _ _)
   | (with_reducible exact impl_SameSelection.mono _ _ _ _ _ _ _ _ _ _ _ _ _)
   | (with_reducible exact laws_eqSelection.mono _ _ _ _ _ _ _ _ _ _ _ _ _)
   | (with_reducible exact laws_szSelection.mono _ _ _ _ _ _ _ _)
   | (with_reducible exact laws_toSelection.mono _ _ _ _ _ _ _)
   | (with_reducible exact spec_SameSelection.mono _ _ _ _ _ _ _ _ _ _ _ _ _)
   | (with_reducible exact LeO.refl _)
   | (with_reducible exact LeO.none _)
   | (with_reducible refine LeO.ite ?_ ?_)
   | (with_reducible refine LeO.bind ?_ (fun _ => ?_))
   | exact ih0 _ _ _ _ _ _ _ _ _ _ _ _ _
   | exact ih1 _ _ _ _ _ _ _ _ _ _ _ _
   | exact ih2 _ _ _ _ _ _ _ _ _ _ _ _ _
   | exact ih3 _ _ _ _ _ _ _ _ _ _ _ _ _ _ _ _ _ _ _ _ _ _ _ _ _ _
   | exact ih4 _ _ _ _ _ _ _ _ _ _ _ _ _ _ _ _ _ _ _ _ _ _ _ _
   | exact ih5 _ _ _ _ _ _ _ _ _ _ _ _
   | exact impl_SameSelection.mono _ _ _ _ _ _ _ _ _ _ _ _ _
   | exact laws_eqSelection.mono _ _ _ _ _ _ _ _ _ _ _ _ _
   | exact laws_szSelection.mono _ _ _ _ _ _ _ _
   | exact laws_toSelection.mono _ _ _ _ _ _ _
   | exact spec_SameSelection.mono _ _ _ _ _ _ _ _ _ _ _ _ _
   | exact LeO.none _
   | refine LeO.ite ?_ ?_
   | refine LeO.bind ?_ (fun _ => ?_)
  ·
   intro y0 y1 y2 y3 y4 y5 y6 y7 y8 y9 y10 y11 y12
   unfold laws_FnExactSameSelection.j2
   repeat' first
   | (with_reducible exact ih0 _ _ _ _ _ _ _ _ _ _ _ _ _)
   | (with_reducible exact ih1 _ _ _ _ _ _ _ _ _ _ _ _)
   | (with_reducible exact ih2 _ _ _ _ _ _ _ _ _ _ _ _ _)
   | (with_reducible exact ih3 _ _ _ _ _ _ _ _ _ _ _ _ _ _ _ _ _ _ _ _ _ _ _ _ _ _)
   | (with_reducible exact ih4 _ _ _ _ _ _ _ _ _ _ _ _ _ _ _ _ _ _ _ _ _ _ _ _)
   | (with_reducible exact ih5 _ _ _ _ _ _ _ _ _ _ _ _)
   | (with_reducible exact impl_SameSelection.mono _ _ _ _ _ _ _ _ _ _ _ _ _)
   | (with_reducible exact laws_eqSelection.mono _ _ _ _ _ _ _ _ _ _ _ _ _)
   | (with_reducible exact laws_szSelection.mono _ _ _ _ _ _ _ _)
   | (with_reducible exact laws_toSelection.mono _ _ _ _ _ _ _)
   | (with_reducible exact spec_SameSelection.mono _ _ _ _ _ _ _ _ _ _ _ _ _)
   | (with_reducible exact LeO.refl _)
   | (with_reducible exact LeO.none _)
   | (with_reducible refine LeO.ite ?_ ?_)
   | (with_reducible refine LeO.bind ?_ (fun _ => ?_))
   | exact ih0 _ _ _ _ _ _ _ _ _ _ _ _ _
   | exact ih1 _ _ _ _ _ _ _ _ _ _ _ _
   | exact ih2 _ _ _ _ _ _ _ _ _ _ _ _ _
   | exact ih3 _ _ _ _ _ _ _ _ _ _ _ _ _ _ _ _ _ _ _ _ _ _ _ _ _ _
   | exact ih4 _ _ _ _ _ _ _ _ _ _ _ _ _ _ _ _ _ _ _ _ _ _ _ _
   | exact ih5 _ _ _ _ _ _ _ _ _ _ _ _
   | exact impl_SameSelection.mono _ _ _ _ _ _ _ _ _ _ _ _ _
   | exact laws_eqSelection.mono _ _ _ _ _ _ _ _ _ _ _ _ _
   | exact laws_szSelection.mono _ _ _ _ _ _ _ _
   | exact laws_toSelection.mono _ _ _ _ _ _ _
   | exact spec_SameSelection.mono _ _ _ _ _ _ _ _ _ _ _ _ _
   | exact LeO.none _
   | refine LeO.ite ?_ ?_
   | refine LeO.bind ?_ (fun _ => ?_)
  ·
   intro y0 y1 y2 y3 y4 y5 y6 y7 y8 y9 y10 y11 y12 y13 y14 y15 y16 y17 y18 y19 y20 y21 y22 y23 y24 y25
   unfold laws_FnExactSameSelection.j3
   repeat' first
   | (with_reducible exact ih0 _ _ _ _ _ _ _ _ _ _ _ _ _)
   | (with_reducible exact ih1 _ _ _ _ _ _ _ _ _ _ _ _)
   | (with_reducible exact ih2 _ _ _ _ _ _ _ _ _ _ _ _ _)
   | (with_reducible exact ih3 _ _ _ _ _ _ _ _ _ _ _ _ _ _ _ _ _ _ _ _ _ _ _ _ _ _)
   | (with_reducible exact ih4 _ _ _ _ _ _ _ _ _ _ _ _ _ _ _ _ _ _ _ _ _ _ _ _)
   | (with_reducible exact ih5 _ _ _ _ _ _ _ _ _ _ _ _)
   | (with_reducible exact impl_SameSelection.mono _ _ _ _ _ _ _ _ _ _ _ _ _)
   | (with_reducible exact laws_eqSelection.mono _ _ _ _ _ _ _ _ _ _ _ _ _)
   | (with_reducible exact laws_szSelection.mono _ _ _ _ _ _ _ _)
   | (with_reducible exact laws_toSelection.mono _ _ _ _ _ _ _)
   | (with_reducible exact spec_SameSelection.mono _ _ _ _ _ _ _ _ _ _ _ _ _)
   | (with_reducible exact LeO.refl _)
   | (with_reducible exact LeO.none _)
   | (with_reducible refine LeO.ite ?_ ?_)
   | (with_reducible refine LeO.bind ?_ (fun _ => ?_))
   | exact ih0 _ _ _ _ _ _ _ _ _ _ _ _ _
   | exact ih1 _ _ _ _ _ _ _ _ _ _ _ _
   | exact ih2 _ _ _ _ _ _ _ _ _ _ _ _ _
   | exact ih3 _ _ _ _ _ _ _ _ _ _ _ _ _ _ _ _ _ _ _ _ _ _ _ _ _ _
   | exact ih4 _ _ _ _ _ _ _ _ _ _ _ _ _ _ _ _ _ _ _ _ _ _ _ _
   | exact ih5 _ _ _ _ _ _ _ _ _ _ _ _
   | exact impl_SameSelection.mono _ _ _ _ _ _ _ _ _ _ _ _ _
   | exact laws_eqSelection.mono _ _ _ _ _ _ _ _ _ _ _ _ _
   | exact laws_szSelection.mono _ _ _ _ _ _ _ _
   | exact laws_toSelection.mono _ _ _ _ _ _ _
   | exact spec_SameSelection.mono _ _ _ _ _ _ _ _ _ _ _ _ _
   | exact LeO.none _
   | refine LeO.ite ?_ ?_
   | refine LeO.bind ?_ (fun _ => ?_)
  ·
   intro y0 y1 y2 y3 y4 y5 y6 y7 y8 y9 y10 y11 y12 y13 y14 y15 y16 y17 y18 y19 y20 y21 y22 y23
   unfold laws_FnExactSameSelection.j4
   repeat' first
   | (with_reducible exact ih0 _ _ _ _ _ _ _ _ _ _ _ _ _)
   | (with_reducible exact ih1 _ _ _ _ _ _ _ _ _ _ _ _)
   | (with_reducible exact ih2 _ _ _ _ _ _ _ _ _ _ _ _ _)
   | (with_reducible exact ih3 _ _ _ _ _ _ _ _ _ _ _ _ _ _ _ _ _ _ _ _ _ _ _ _ _ _)
   | (with_reducible exact ih4 _ _ _ _ _ _ _ _ _ _ _ _ _ _ _ _ _ _ _ _ _ _ _ _)
   | (with_reducible exact ih5 _ _ _ _ _ _ _ _ _ _ _ _)
   | (with_reducible exact impl_SameSelection.mono _ _ _ _ _ _ _ _ _ _ _ _ _)
   | (with_reducible exact laws_eqSelection.mono _ _ _ _ _ _ _ _ _ _ _ _ _)
   | (with_reducible exact laws_szSelection.mono _ _ _ _ _ _ _ _)
   | (with_reducible exact laws_toSelection.mono _ _ _ _ _ _ _)
   | (with_reducible exact spec_SameSelection.mono _ _ _ _ _ _ _ _ _ _ _ _ _)
   | (with_reducible exact LeO.refl _)
   | (with_reducible exact LeO.none _)
   | (with_reducible refine LeO.ite ?_ ?_)
   | (with_reducible refine LeO.bind ?_ (fun _ => ?_))
   | exact ih0 _ _ _ _ _ _ _ _ _ _ _ _ _
   | exact ih1 _ _ _ _ _ _ _ _ _ _ _ _
   | exact ih2 _ _ _ _ _ _ _ _ _ _ _ _ _
   | exact ih3 _ _ _ _ _ _ _ _ _ _ _ _ _ _ _ _ _ _ _ _ _ _ _ _ _ _
   | exact ih4 _ _ _ _ _ _ _ _ _ _ _ _ _ _ _ _ _ _ _ _ _ _ _ _
   | exact ih5 _ _ _ _ _ _ _ _ _ _ _ _
   | exact impl_SameSelection.mono _ _ _ _ _ _ _ _ _ _ _ _ _
   | exact laws_eqSelection.mono _ _ _ _ _ _ _ _ _ _ _ _ _
   | exact laws_szSelection.mono _ _ _ _ _ _ _ _
   | exact laws_toSelection.mono _ _ _ _ _ _ _
   | exact spec_SameSelection.mono _ _ _ _ _ _ _ _ _ _ _ _ _
   | exact LeO.none _
   | refine LeO.ite ?_ ?_
   | refine LeO.bind ?_ (fun _ => ?_)
  ·
   intro y0 y1 y2 y3 y4 y5 y6 y7 y8 y9 y10 y11
   unfold laws_FnExactSameSelection.j5
   repeat' first
   | (with_reducible exact ih0 _ _ _ _ _ _ _ _ _ _ _ _ _)
   | (with_reducible exact ih1 _ _ _ _ _ _ _ _ _ _ _ _)
   | (with_reducible exact ih2 _ _ _ _ _ _ _ _ _ _ _ _ _)
   | (with_reducible exact ih3 _ _ _ _ _ _ _ _ _ _ _ _ _ _ _ _ _ _ _ _ _ _ _ _ _ _)
   | (with_reducible exact ih4 _ _ _ _ _ _ _ _ _ _ _ _ _ _ _ _ _ _ _ _ _ _ _ _)
   | (with_reducible exact ih5 _ _ _ _ _ _ _ _ _ _ _ _)
   | (with_reducible exact impl_SameSelection.mono _ _ _ _ _ _ _ _ _ _ _ _ _)
   | (with_reducible exact laws_eqSelection.mono _ _ _ _ _ _ _ _ _ _ _ _ _)
   | (with_reducible exact laws_szSelection.mono _ _ _ _ _ _ _ _)
   | (with_reducible exact laws_toSelection.mono _ _ _ _ _ _ _)
   | (with_reducible exact spec_SameSelection.mono _ _ _ _ _ _ _ _ _ _ _ _ _)
   | (with_reducible exact LeO.refl _)
   | (with_reducible exact LeO.none _)
   | (with_reducible refine LeO.ite ?_ ?_)
   | (with_reducible refine LeO.bind ?_ (fun _ => ?_))
   | exact ih0 _ _ _ _ _ _ _ _ _ _ _ _ _
   | exact ih1 _ _ _ _ _ _ _ _ _ _ _ _
   | exact ih2 _ _ _ _ _ _ _ _ _ _ _ _ _
   | exact ih3 _ _ _ _ _ _ _ _ _ _ _ _ _ _ _ _ _ _ _ _ _ _ _ _ _ _
   | exact ih4 _ _ _ _ _ _ _ _ _ _ _ _ _ _ _ _ _ _ _ _ _ _ _ _
   | exact ih5 _ _ _ _ _ _ _ _ _ _ _ _
   | exact impl_SameSelection.mono _ _ _ _ _ _ _ _ _ _ _ _ _
   | exact laws_eqSelection.mono _ _ _ _ _ _ _ _ _ _ _ _ _
   | exact laws_szSelection.mono _ _ _ _ _ _ _ _
   | exact laws_toSelection.mono _ _ _ _ _ _ _
   | exact spec_SameSelection.mono _ _ _ _ _ _ _ _ _ _ _ _ _
   | exact LeO.none _
   | refine LeO.ite ?_ ?_
   | refine LeO.bind ?_ (fun _ => ?_)
theorem laws_FnExactSameSelection.mono : ∀ a0 a1 a2 a3 a4 a5 a6 a7 a8 a9 a10 a11 k, LeO (laws_FnExactSameSelection.f k a0 a1 a2 a3 a4 a5 a6 a7 a8 a9 a10 a11) (laws_FnExactSameSelection.f (k + 1) a0 a1 a2 a3 a4 a5 a6 a7 a8 a9 a10 a11) := by
 intro a0 a1 a2 a3 a4 a5 a6 a7 a8 a9 a10 a11 k
 obtain ⟨ih0, ih1, ih2, ih3, ih4, ih5⟩ := laws_FnExactSameSelection.mono_l k
 unfold laws_FnExactSameSelection.f
 repeat' first
   | (with_reducible exact ih0 _ _ _ _ _ _ _ _ _ _ _ _ _)
   | (with_reducible exact ih1 _ _ _ _ _ _ _ _ _ _ _ _)
   | (with_reducible exact ih2 _ _ _ _ _ _ _ _ _ _ _ _ _)
   | (with_reducible exact ih3 _ _ _ _ _ _ _ _ _ _ _ _ _ _ _ _ _ _ _ _ _ _ _ _ _ _)
   | (with_reducible exact ih4 _ _ _ _ _ _ _ _ _ _ _ _ _ _ _ _ _ _ _ _ _ _ _ _)
   | (with_reducible exact ih5 _ _ _ _ _ _ _ _ _ _ _ _)
   | (with_reducible exact impl_SameSelection.mono _ _ _ _ _ _ _ _ _ _ _ _ _)
   | (with_reducible exact laws_eqSelection.mono _ _ _ _ _ _ _ _ _ _ _ _ _)
   | (with_reducible exact laws_szSelection.mono _ _ _ _ _ _ _ _)
   | (with_reducible exact laws_toSelection.mono _ _ _ _ _ _ _)
   | (with_reducible exact spec_SameSelection.mono _ _ _ _ _ _ _ _ _ _ _ _ _)
   | (with_reducible exact LeO.refl _)
   | (with_reducible exact LeO.none _)
   | (with_reducible refine LeO.ite ?_ ?_)
   | (with_reducible refine LeO.bind ?_ (fun _ => ?_))
   | exact ih0 _ _ _ _ _ _ _ _ _ _ _ _ _
   | exact ih1 _ _ _ _ _ _ _ _ _ _ _ _
   | exact ih2 _ _ _ _ _ _ _ _ _ _ _ _ _
   | exact ih3 _ _ _ _ _ _ _ _ _ _ _ _ _ _ _ _ _ _ _ _ _ _ _ _ _ _
   | exact ih4 _ _ _ _ _ _ _ _ _ _ _ _ _ _ _ _ _ _ _ _ _ _ _ _
   | exact ih5 _ _ _ _ _ _ _ _ _ _ _ _
   | exact impl_SameSelection.mono _ _ _ _ _ _ _ _ _ _ _ _ _
   | exact laws_eqSelection.mono _ _ _ _ _ _ _ _ _ _ _ _ _
   | exact laws_szSelection.mono _ _ _ _ _ _ _ _
   | exact laws_toSelection.mono _ _ _ _ _ _ _
   | exact spec_SameSelection.mono _ _ _ _ _ _ _ _ _ _ _ _ _
   | exact LeO.none _
   | refine LeO.ite ?_ ?_
   | refine LeO.bind ?_ (fun _ => ?_)
end Go.Proofs.Ytngjbdijimapnad.PFnExactSameSelection
