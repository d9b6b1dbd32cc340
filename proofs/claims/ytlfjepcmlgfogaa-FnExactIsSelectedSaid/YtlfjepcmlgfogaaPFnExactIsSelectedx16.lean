/- Each Go function here comes to what the plain function of its name says, where that says something. Made by a program of this session, over the print. -/
import Derived.Test.YtlfjepcmlgfogaaPFnExactIsSelectedx0
import Derived.Test.YtlfjepcmlgfogaaPFnExactIsSelectedx1
import Derived.Test.YtlfjepcmlgfogaaPFnExactIsSelectedx8
import Derived.Test.YtlfjepcmlgfogaaPFnExactIsSelectedx14
import Derived.Test.YtlfjepcmlgfogaaPFnExactIsSelectedx15
namespace Go.Proofs.Ytlfjepcmlgfogaa.PFnExactIsSelected
open Go.RowKit Go.Proofs.YtlfjepcmlgfogaaW.PrintWords Go.Proofs.YtlfjepcmlgfogaaW.PrintLast Go.Proofs.YtlfjepcmlgfogaaW.PrintMore
attribute [local go_sem] max2_int min2_int max_two min_two max_three min_three max_four min_four   -- for this text's walks alone
set_option linter.unusedVariables false
set_option linter.unusedSimpArgs false

/-! ### laws_FnExactIsSelected: function 5 -/
mutual
def laws_FnExactIsSelected.j0 : Nat → List Int → List Int → Int → List Int → List Int → List Int → List Int → List (S61) → Option (Bool)
 | 0, _, _, _, _, _, _, _, _ => none
 | k + 1, x0, x2, x389000, x389001, x389002, x389003, x389004, x389005 => if (x2.length : Int) > 1048576 then (some true) else (laws_FnExactIsSelected.j1 k x0 x2 x389000 x389001 x389002 x389003 x389004 x389005)
def laws_FnExactIsSelected.j1 : Nat → List Int → List Int → Int → List Int → List Int → List Int → List Int → List (S61) → Option (Bool)
 | 0, _, _, _, _, _, _, _, _ => none
 | k + 1, x0, x2, x389000, x389001, x389002, x389003, x389004, x389005 => (laws_szSelection.f k x389000 x389001 x389002 x389003 x389004 x389005 1048576).bind fun t389 => (if t389 < 0 then (some true) else (laws_FnExactIsSelected.j2 k x0 x2 x389000 x389001 x389002 x389003 x389004 x389005))
def laws_FnExactIsSelected.j2 : Nat → List Int → List Int → Int → List Int → List Int → List Int → List Int → List (S61) → Option (Bool)
 | 0, _, _, _, _, _, _, _, _ => none
 | k + 1, x0, x2, x389000, x389001, x389002, x389003, x389004, x389005 => (laws_toInt64S.f k x0).bind fun t390 => ((laws_toSelection.f k x389000 x389001 x389002 x389003 x389004 x389005).bind fun bt393 => ((laws_toInt64S.f k x2).bind fun t409 => ((spec_IsSelected.f k t390 bt393.1 bt393.2.1 bt393.2.2.1 bt393.2.2.2.1 bt393.2.2.2.2.1 bt393.2.2.2.2.2 t409).bind fun t412 => (laws_FnExactIsSelected.j3 k x0 x2 t412 x389000 x389001 x389002 x389003 x389004 x389005))))
def laws_FnExactIsSelected.j3 : Nat → List Int → List Int → Bool → Int → List Int → List Int → List Int → List Int → List (S61) → Option (Bool)
 | 0, _, _, _, _, _, _, _, _, _ => none
 | k + 1, x0, x2, x8, x389000, x389001, x389002, x389003, x389004, x389005 => (laws_toInt64S.f k x0).bind fun t413 => ((laws_toSelection.f k x389000 x389001 x389002 x389003 x389004 x389005).bind fun bt416 => ((laws_toInt64S.f k x2).bind fun t433 => ((impl_IsSelected.f k t413 bt416.1 bt416.2.1 bt416.2.2.1 bt416.2.2.2.1 bt416.2.2.2.2.1 bt416.2.2.2.2.2 t433).bind fun t436 => (laws_FnExactIsSelected.j4 k x0 x2 x8 t413 t433 t436 x389000 x389001 x389002 x389003 x389004 x389005 bt416.1 bt416.2.1 bt416.2.2.1 bt416.2.2.2.1 bt416.2.2.2.2.1 bt416.2.2.2.2.2))))
def laws_FnExactIsSelected.j4 : Nat → List Int → List Int → Bool → List Int → List Int → Bool → Int → List Int → List Int → List Int → List Int → List (S61) → Int → List Int → List Int → List Int → List Int → List (S65) → Option (Bool)
 | 0, _, _, _, _, _, _, _, _, _, _, _, _, _, _, _, _, _, _ => none
 | k + 1, x0, x2, x8, x9, x11, x12, x389000, x389001, x389002, x389003, x389004, x389005, x433000, x433001, x433002, x433003, x433004, x433005 => if (x12 != x8) = true then (some false) else (laws_FnExactIsSelected.j5 k x0 x2 x9 x11 x389000 x389001 x389002 x389003 x389004 x389005 x433000 x433001 x433002 x433003 x433004 x433005)
def laws_FnExactIsSelected.j5 : Nat → List Int → List Int → List Int → List Int → Int → List Int → List Int → List Int → List Int → List (S61) → Int → List Int → List Int → List Int → List Int → List (S65) → Option (Bool)
 | 0, _, _, _, _, _, _, _, _, _, _, _, _, _, _, _, _ => none
 | k + 1, x0, x2, x9, x11, x389000, x389001, x389002, x389003, x389004, x389005, x433000, x433001, x433002, x433003, x433004, x433005 => (laws_toInt64S.f k x0).bind fun t437 => ((laws_eqInt64S.f k x9 t437).bind fun t440 => (if t440 = true then (laws_FnExactIsSelected.j6 k x2 x11 x389000 x389001 x389002 x389003 x389004 x389005 x433000 x433001 x433002 x433003 x433004 x433005) else (some false)))
def laws_FnExactIsSelected.j6 : Nat → List Int → List Int → Int → List Int → List Int → List Int → List Int → List (S61) → Int → List Int → List Int → List Int → List Int → List (S65) → Option (Bool)
 | 0, _, _, _, _, _, _, _, _, _, _, _, _, _, _ => none
 | k + 1, x2, x11, x389000, x389001, x389002, x389003, x389004, x389005, x433000, x433001, x433002, x433003, x433004, x433005 => (laws_toSelection.f k x389000 x389001 x389002 x389003 x389004 x389005).bind fun bt441 => ((laws_eqSelection.f k x433000 x433001 x433002 x433003 x433004 x433005 bt441.1 bt441.2.1 bt441.2.2.1 bt441.2.2.2.1 bt441.2.2.2.2.1 bt441.2.2.2.2.2).bind fun t457 => (if t457 = true then (laws_FnExactIsSelected.j7 k x2 x11) else (some false)))
def laws_FnExactIsSelected.j7 : Nat → List Int → List Int → Option (Bool)
 | 0, _, _ => none
 | k + 1, x2, x11 => (laws_toInt64S.f k x2).bind fun t458 => ((laws_eqInt64S.f k x11 t458).bind fun t461 => (if t461 = true then (some true) else (some false)))
end
def laws_FnExactIsSelected.f (k : Nat) (l0 : List Int) (a1_0 : Int) (l1_1 : List Int) (l1_2 : List Int) (l1_3 : List Int) (l1_4 : List Int) (l1_5 : List (S61)) (l2 : List Int) : Option (Bool) := if (l0.length : Int) > 1048576 then (some true) else (laws_FnExactIsSelected.j0 k l0 l2 a1_0 l1_1 l1_2 l1_3 l1_4 l1_5)
theorem laws_FnExactIsSelected.mono_l : ∀ k, (∀ y0 y1 y2 y3 y4 y5 y6 y7, LeO (laws_FnExactIsSelected.j0 k y0 y1 y2 y3 y4 y5 y6 y7) (laws_FnExactIsSelected.j0 (k + 1) y0 y1 y2 y3 y4 y5 y6 y7)) ∧ (∀ y0 y1 y2 y3 y4 y5 y6 y7, LeO (laws_FnExactIsSelected.j1 k y0 y1 y2 y3 y4 y5 y6 y7) (laws_FnExactIsSelected.j1 (k + 1) y0 y1 y2 y3 y4 y5 y6 y7)) ∧ (∀ y0 y1 y2 y3 y4 y5 y6 y7, LeO (laws_FnExactIsSelected.j2 k y0 y1 y2 y3 y4 y5 y6 y7) (laws_FnExactIsSelected.j2 (k + 1) y0 y1 y2 y3 y4 y5 y6 y7)) ∧ (∀ y0 y1 y2 y3 y4 y5 y6 y7 y8, LeO (laws_FnExactIsSelected.j3 k y0 y1 y2 y3 y4 y5 y6 y7 y8) (laws_FnExactIsSelected.j3 (k + 1) y0 y1 y2 y3 y4 y5 y6 y7 y8)) ∧ (∀ y0 y1 y2 y3 y4 y5 y6 y7 y8 y9 y10 y11 y12 y13 y14 y15 y16 y17, LeO (laws_FnExactIsSelected.j4 k y0 y1 y2 y3 y4 y5 y6 y7 y8 y9 y10 y11 y12 y13 y14 y15 y16 y17) (laws_FnExactIsSelected.j4 (k + 1) y0 y1 y2 y3 y4 y5 y6 y7 y8 y9 y10 y11 y12 y13 y14 y15 y16 y17)) ∧ (∀ y0 y1 y2 y3 y4 y5 y6 y7 y8 y9 y10 y11 y12 y13 y14 y15, LeO (laws_FnExactIsSelected.j5 k y0 y1 y2 y3 y4 y5 y6 y7 y8 y9 y10 y11 y12 y13 y14 y15) (laws_FnExactIsSelected.j5 (k + 1) y0 y1 y2 y3 y4 y5 y6 y7 y8 y9 y10 y11 y12 y13 y14 y15)) ∧ (∀ y0 y1 y2 y3 y4 y5 y6 y7 y8 y9 y10 y11 y12 y13, LeO (laws_FnExactIsSelected.j6 k y0 y1 y2 y3 y4 y5 y6 y7 y8 y9 y10 y11 y12 y13) (laws_FnExactIsSelected.j6 (k + 1) y0 y1 y2 y3 y4 y5 y6 y7 y8 y9 y10 y11 y12 y13)) ∧ (∀ y0 y1, LeO (laws_FnExactIsSelected.j7 k y0 y1) (laws_FnExactIsSelected.j7 (k + 1) y0 y1))
 | 0 => ⟨fun _ _ _ _ _ _ _ _ r h => by simp [laws_FnExactIsSelected.j0] at h, fun _ _ _ _ _ _ _ _ r h => by simp [laws_FnExactIsSelected.j1] at h, fun _ _ _ _ _ _ _ _ r h => by simp [laws_FnExactIsSelected.j2] at h, fun _ _ _ _ _ _ _ _ _ r h => by simp [laws_FnExactIsSelected.j3] at h, fun _ _ _ _ _ _ _ _ _ _ _ _ _ _ _ _ _ _ r h => by simp [laws_FnExactIsSelected.j4] at h, fun _ _ _ _ _ _ _ _ _ _ _ _ _ _ _ _ r h => by simp [laws_FnExactIsSelected.j5] at h, fun _ _ _ _ _ _ _ _ _ _ _ _ _ _ r h => by simp [laws_FnExactIsSelected.j6] at h, fun _ _ r h => by simp [laws_FnExactIsSelected.j7] at h⟩
 | k + 1 => by
  obtain ⟨ih0, ih1, ih2, ih3, ih4, ih5, ih6, ih7⟩ := laws_FnExactIsSelected.mono_l k
  refine ⟨?_, ?_, ?_, ?_, ?_, ?_, ?_, ?_⟩
  ·
   intro y0 y1 y2 y3 y4 y5 y6 y7
   unfold laws_FnExactIsSelected.j0
   repeat' first
   | (with_reducible exact ih0 _ _ _ _ _ _ _ _)
   | (with_reducible exact ih1 _ _ _ _ _ _ _ _)
   | (with_reducible exact ih2 _ _ _ _ _ _ _ _)
   | (with_reducible exact ih3 _ _ _ _ _ _ _ _ _)
   | (with_reducible exact ih4 _ _ _ _ _ _ _ _ _ _ _ _ _ _ _ _ _ _)
   | (with_reducible exact ih5 _ _ _ _ _ _ _ _ _ _ _ _ _ _ _ _)
   | (with_reducible exact ih6 _ _ _ _ _ _ _ _ _ _ _ _ _ _)
   | (with_reducible exact ih7 _ _)
   | (with_reducible exact impl_IsSelected.mono _ _ _ _ _ _ _ _ _)
   | (with_reducible exact laws_eqInt64S.mono _ _ _)
   | (with_reducible exact laws_eqSelection.mono _ _ _ _ _ _ _ _ _ _ _ _ _)
   | (with_reducible exact laws_szSelection.mono _ _ _ _ _ _ _ _)
   | (with_reducible exact laws_toInt64S.mono _ _)
   | (with_reducible exact laws_toSelection.mono _ _ _ _ _ _ _)
   | (with_reducible exact spec_IsSelected.mono _ _ _ _ _ _ _ _ _)
   | (with_reducible exact LeO.refl _)
   | (with_reducible exact LeO.none _)
   | (with_reducible refine LeO.ite ?_ ?_)
   | (with_reducible refine LeO.bind ?_ (fun _ => ?_))
   | exact ih0 _ _ _ _ _ _ _ _
   | exact ih1 _ _ _ _ _ _ _ _
   | exact ih2 _ _ _ _ _ _ _ _
   | exact ih3 _ _ _ _ _ _ _ _ _
   | exact ih4 _ _ _ _ _ _ _ _ _ _ _ _ _ _ _ _ _ _
   | exact ih5 _ _ _ _ _ _ _ _ _ _ _ _ _ _ _ _
   | exact ih6 _ _ _ _ _ _ _ _ _ _ _ _ _ _
   | exact ih7 _ _
   | exact impl_IsSelected.mono _ _ _ _ _ _ _ _ _
   | exact laws_eqInt64S.mono _ _ _
   | exact laws_eqSelection.mono _ _ _ _ _ _ _ _ _ _ _ _ _
   | exact laws_szSelection.mono _ _ _ _ _ _ _ _
   | exact laws_toInt64S.mono _ _
   | exact laws_toSelection.mono _ _ _ _ _ _ _
   | exact spec_IsSelected.mono _ _ _ _ _ _ _ _ _
   | exact LeO.none _
   | refine LeO.ite ?_ ?_
   | refine LeO.bind ?_ (fun _ => ?_)
  ·
   intro y0 y1 y2 y3 y4 y5 y6 y7
   unfold laws_FnExactIsSelected.j1
   repeat' first
   | (with_reducible exact ih0 _ _ _ _ _ _ _ _)
   | (with_reducible exact ih1 _ _ _ _ _ _ _ _)
   | (with_reducible exact ih2 _ _ _ _ _ _ _ _)
   | (with_reducible exact ih3 _ _ _ _ _ _ _ _ _)
   | (with_reducible exact ih4 _ _ _ _ _ _ _ _ _ _ _ _ _ _ _ _ _ _)
   | (with_reducible exact ih5 _ _ _ _ _ _ _ _ _ _ _ _ _ _ _ _)
   | (with_reducible exact ih6 _ _ _ _ _ _ _ _ _ _ _ _ _ _)
   | (with_reducible exact ih7 _ _)
   | (with_reducible exact impl_IsSelected.mono _ _ _ _ _ _ _ _ _)
   | (with_reducible exact laws_eqInt64S.mono _ _ _)
   | (with_reducible exact laws_eqSelection.mono _ _ _ _ _ _ _ _ _ _ _ _ _)
   | (with_reducible exact laws_szSelection.mono _ _ _ _ _ _ _ _)
   | (with_reducible exact laws_toInt64S.mono _ _)
   | (with_reducible exact laws_toSelection.mono _ _ _ _ _ _ _)
   | (with_reducible exact spec_IsSelected.mono _ _ _ _ _ _ _ _ _)
   | (with_reducible exact LeO.refl _)
   | (with_reducible exact LeO.none _)
   | (with_reducible refine LeO.ite ?_ ?_)
   | (with_reducible refine LeO.bind ?_ (fun _ => ?_))
   | exact ih0 _ _ _ _ _ _ _ _
   | exact ih1 _ _ _ _ _ _ _ _
   | exact ih2 _ _ _ _ _ _ _ _
   | exact ih3 _ _ _ _ _ _ _ _ _
   | exact ih4 _ _ _ _ _ _ _ _ _ _ _ _ _ _ _ _ _ _
   | exact ih5 _ _ _ _ _ _ _ _ _ _ _ _ _ _ _ _
   | exact ih6 _ _ _ _ _ _ _ _ _ _ _ _ _ _
   | exact ih7 _ _
   | exact impl_IsSelected.mono _ _ _ _ _ _ _ _ _
   | exact laws_eqInt64S.mono _ _ _
   | exact laws_eqSelection.mono _ _ _ _ _ _ _ _ _ _ _ _ _
   | exact laws_szSelection.mono _ _ _ _ _ _ _ _
   | exact laws_toInt64S.mono _ _
   | exact laws_toSelection.mono _ _ _ _ _ _ _
   | exact spec_IsSelected.mono _ _ _ _ _ _ _ _ _
   | exact LeO.none _
   | refine LeO.ite ?_ ?_
   | refine LeO.bind ?_ (fun _ => ?_)
  ·
   intro y0 y1 y2 y3 y4 y5 y6 y7
   unfold laws_FnExactIsSelected.j2
   repeat' first
   | (with_reducible exact ih0 _ _ _ _ _ _ _ _)
   | (with_reducible exact ih1 _ _ _ _ _ _ _ _)
   | (with_reducible exact ih2 _ _ _ _ _ _ _ _)
   | (with_reducible exact ih3 _ _ _ _ _ _ _ _ _)
   | (with_reducible exact ih4 _ _ _ _ _ _ _ _ _ _ _ _ _ _ _ _ _ _)
   | (with_reducible exact ih5 _ _ _ _ _ _ _ _ _ _ _ _ _ _ _ _)
   | (with_reducible exact ih6 _ _ _ _ _ _ _ _ _ _ _ _ _ _)
   | (with_reducible exact ih7 _ _)
   | (with_reducible exact impl_IsSelected.mono _ _ _ _ _ _ _ _ _)
   | (with_reducible exact laws_eqInt64S.mono _ _ _)
   | (with_reducible exact laws_eqSelection.mono _ _ _ _ _ _ _ _ _ _ _ _ _)
   | (with_reducible exact laws_szSelection.mono _ _ _ _ _ _ _ _)
   | (with_reducible exact laws_toInt64S.mono _ _)
   | (with_reducible exact laws_toSelection.mono _ _ _ _ _ _ _)
   | (with_reducible exact spec_IsSelected.mono _ _ _ _ _ _ _ _ _)
   | (with_reducible exact LeO.refl _)
   | (with_reducible exact LeO.none _)
   | (with_reducible refine LeO.ite ?_ ?_)
   | (with_reducible refine LeO.bind ?_ (fun _ => ?_))
   | exact ih0 _ _ _ _ _ _ _ _
   | exact ih1 _ _ _ _ _ _ _ _
   | exact ih2 _ _ _ _ _ _ _ _
   | exact ih3 _ _ _ _ _ _ _ _ _
   | exact ih4 _ _ _ _ _ _ _ _ _ _ _ _ _ _ _ _ _ _
   | exact ih5 _ _ _ _ _ _ _ _ _ _ _ _ _ _ _ _
   | exact ih6 _ _ _ _ _ _ _ _ _ _ _ _ _ _
   | exact ih7 _ _
   | exact impl_IsSelected.mono _ _ _ _ _ _ _ _ _
   | exact laws_eqInt64S.mono _ _ _
   | exact laws_eqSelection.mono _ _ _ _ _ _ _ _ _ _ _ _ _
   | exact laws_szSelection.mono _ _ _ _ _ _ _ _
   | exact laws_toInt64S.mono _ _
   | exact laws_toSelection.mono _ _ _ _ _ _ _
   | exact spec_IsSelected.mono _ _ _ _ _ _ _ _ _
   | exact LeO.none _
   | refine LeO.ite ?_ ?_
   | refine LeO.bind ?_ (fun _ => ?_)
  ·
   intro y0 y1 y2 y3 y4 y5 y6 y7 y8
   unfold laws_FnExactIsSelected.j3
   repeat' first
   | (with_reducible exact ih0 _ _ _ _ _ _ _ _)
   | (with_reducible exact ih1 _ _ _ _ _ _ _ _)
   | (with_reducible exact ih2 _ _ _ _ _ _ _ _)
   | (with_reducible exact ih3 _ _ _ _ _ _ _ _ _)
   | (with_reducible exact ih4 _ _ _ _ _ _ _ _ _ _ _ _ _ _ _ _ _ _)
   | (with_reducible exact ih5 _ _ _ _ _ _ _ _ _ _ _ _ _ _ _ _)
   | (with_reducible exact ih6 _ _ _ _ _ _ _ _ _ _ _ _ _ _)
   | (with_reducible exact ih7 _ _)
   | (with_reducible exact impl_IsSelected.mono _ _ _ _ _ _ _ _ _)
   | (with_reducible exact laws_eqInt64S.mono _ _ _)
   | (with_reducible exact laws_eqSelection.mono _ _ _ _ _ _ _ _ _ _ _ _ _)
   | (with_reducible exact laws_szSelection.mono _ _ _ _ _ _ _ _)
   | (with_reducible exact laws_toInt64S.mono _ _)
   | (with_reducible exact laws_toSelection.mono _ _ _ _ _ _ _)
   | (with_reducible exact spec_IsSelected.mono _ _ _ _ _ _ _ _ _)
   | (with_reducible exact LeO.refl _)
   | (with_reducible exact LeO.none _)
   | (with_reducible refine LeO.ite ?_ ?_)
   | (with_reducible refine LeO.bind ?_ (fun _ => ?_))
   | exact ih0 _ _ _ _ _ _ _ _
   | exact ih1 _ _ _ _ _ _ _ _
   | exact ih2 _ _ _ _ _ _ _ _
   | exact ih3 _ _ _ _ _ _ _ _ _
   | exact ih4 _ _ _ _ _ _ _ _ _ _ _ _ _ _ _ _ _ _
   | exact ih5 _ _ _ _ _ _ _ _ _ _ _ _ _ _ _ _
   | exact ih6 _ _ _ _ _ _ _ _ _ _ _ _ _ _
   | exact ih7 _ _
   | exact impl_IsSelected.mono _ _ _ _ _ _ _ _ _
   | exact laws_eqInt64S.mono _ _ _
   | exact laws_eqSelection.mono _ _ _ _ _ _ _ _ _ _ _ _ _
   | exact laws_szSelection.mono _ _ _ _ _ _ _ _
   | exact laws_toInt64S.mono _ _
   | exact laws_toSelection.mono _ _ _ _ _ _ _
   | exact spec_IsSelected.mono _ _ _ _ _ _ _ _ _
   | exact LeO.none _
   | refine LeO.ite ?_ ?_
   | refine LeO.bind ?_ (fun _ => ?_)
  ·
   intro y0 y1 y2 y3 y4 y5 y6 y7 y8 y9 y10 y11 y12 y13 y14 y15 y16 y17
   unfold laws_FnExactIsSelected.j4
   repeat' first
   | (with_reducible exact ih0 _ _ _ _ _ _ _ _)
   | (with_reducible exact ih1 _ _ _ _ _ _ _ _)
   | (with_reducible exact ih2 _ _ _ _ _ _ _ _)
   | (with_reducible exact ih3 _ _ _ _ _ _ _ _ _)
   | (with_reducible exact ih4 _ _ _ _ _ _ _ _ _ _ _ _ _ _ _ _ _ _)
   | (with_reducible exact ih5 _ _ _ _ _ _ _ _ _ _ _ _ _ _ _ _)
   | (with_reducible exact ih6 _ _ _ _ _ _ _ _ _ _ _ _ _ _)
   | (with_reducible exact ih7 _ _)
   | (with_reducible exact impl_IsSelected.mono _ _ _ _ _ _ _ _ _)
   | (with_reducible exact laws_eqInt64S.mono _ _ _)
   | (with_reducible exact laws_eqSelection.mono _ _ _ _ _ _ _ _ _ _ _ _ _)
   | (with_reducible exact laws_szSelection.mono _ _ _ _ _ _ _ _)
   | (with_reducible exact laws_toInt64S.mono _ _)
   | (with_reducible exact laws_toSelection.mono _ _ _ _ _ _ _)
   | (with_reducible exact spec_IsSelected.mono _ _ _ _ _ _ _ _ _)
   | (with_reducible exact LeO.refl _)
   | (with_reducible exact LeO.none _)
   | (with_reducible refine LeO.ite ?_ ?_)
   | (with_reducible refine LeO.bind ?_ (fun _ => ?_))
   | exact ih0 _ _ _ _ _ _ _ _
   | exact ih1 _ _ _ _ _ _ _ _
   | exact ih2 _ _ _ _ _ _ _ _
   | exact ih3 _ _ _ _ _ _ _ _ _
   | exact ih4 _ _ _ _ _ _ _ _ _ _ _ _ _ _ _ _ _ _
   | exact ih5 _ _ _ _ _ _ _ _ _ _ _ _ _ _ _ _
   | exact ih6 _ _ _ _ _ _ _ _ _ _ _ _ _ _
   | exact ih7 _ _
   | exact impl_IsSelected.mono _ _ _ _ _ _ _ _ _
   | exact laws_eqInt64S.mono _ _ _
   | exact laws_eqSelection.mono _ _ _ _ _ _ _ _ _ _ _ _ _
   | exact laws_szSelection.mono _ _ _ _ _ _ _ _
   | exact laws_toInt64S.mono _ _
   | exact laws_toSelection.mono _ _ _ _ _ _ _
   | exact spec_IsSelected.mono _ _ _ _ _ _ _ _ _
   | exact LeO.none _
   | refine LeO.ite ?_ ?_
   | refine LeO.bind ?_ (fun _ => ?_)
  ·
   intro y0 y1 y2 y3 y4 y5 y6 y7 y8 y9 y10 y11 y12 y13 y14 y15
   unfold laws_FnExactIsSelected.j5
   repeat' first
   | (with_reducible exact ih0 _ _ _ _ _ _ _ _)
   | (with_reducible exact ih1 _ _ _ _ _ _ _ _)
   | (with_reducible exact ih2 _ _ _ _ _ _ _ _)
   | (with_reducible exact ih3 _ _ _ _ _ _ _ _ _)
   | (with_reducible exact ih4 _ _ _ _ _ _ _ _ _ _ _ _ _ _ _ _ _ _)
   | (with_reducible exact ih5 _ _ _ _ _ _ _ _ _ _ _ _ _ _ _ _)
   | (with_reducible exact ih6 _ _ _ _ _ _ _ _ _ _ _ _ _ _)
   | (with_reducible exact ih7 _ _)
   | (with_reducible exact impl_IsSelected.mono _ _ _ _ _ _ _ _ _)
   | (with_reducible exact laws_eqInt64S.mono _ _ _)
   | (with_reducible exact laws_eqSelection.mono _ _ _ _ _ _ _ _ _ _ _ _ _)
   | (with_reducible exact laws_szSelection.mono _ _ _ _ _ _ _ _)
   | (with_reducible exact laws_toInt64S.mono _ _)
   | (with_reducible exact laws_toSelection.mono _ _ _ _ _ _ _)
   | (with_reducible exact spec_IsSelected.mono _ _ _ _ _ _ _ _ _)
   | (with_reducible exact LeO.refl _)
   | (with_reducible exact LeO.none _)
   | (with_reducible refine LeO.ite ?_ ?_)
   | (with_reducible refine LeO.bind ?_ (fun _ => ?_))
   | exact ih0 _ _ _ _ _ _ _ _
   | exact ih1 _ _ _ _ _ _ _ _
   | exact ih2 _ _ _ _ _ _ _ _
   | exact ih3 _ _ _ _ _ _ _ _ _
   | exact ih4 _ _ _ _ _ _ _ _ _ _ _ _ _ _ _ _ _ _
   | exact ih5 _ _ _ _ _ _ _ _ _ _ _ _ _ _ _ _
   | exact ih6 _ _ _ _ _ _ _ _ _ _ _ _ _ _
   | exact ih7 _ _
   | exact impl_IsSelected.mono _ _ _ _ _ _ _ _ _
   | exact laws_eqInt64S.mono _ _ _
   | exact laws_eqSelection.mono _ _ _ _ _ _ _ _ _ _ _ _ _
   | exact laws_szSelection.mono _ _ _ _ _ _ _ _
   | exact laws_toInt64S.mono _ _
   | exact laws_toSelection.mono _ _ _ _ _ _ _
   | exact spec_IsSelected.mono _ _ _ _ _ _ _ _ _
   | exact LeO.none _
   | refine LeO.ite ?_ ?_
   | refine LeO.bind ?_ (fun _ => ?_)
  ·
   intro y0 y1 y2 y3 y4 y5 y6 y7 y8 y9 y10 y11 y12 y13
   unfold laws_FnExactIsSelected.j6
   repeat' first
   | (with_reducible exact ih0 _ _ _ _ _ _ _ _)
   | (with_reducible exact ih1 _ _ _ _ _ _ _ _)
   | (with_reducible exact ih2 _ _ _ _ _ _ _ _)
   | (with_reducible exact ih3 _ _ _ _ _ _ _ _ _)
   | (with_reducible exact ih4 _ _ _ _ _ _ _ _ _ _ _ _ _ _ _ _ _ _)
   | (with_reducible exact ih5 _ _ _ _ _ _ _ _ _ _ _ _ _ _ _ _)
   | (with_reducible exact ih6 _ _ _ _ _ _ _ _ _ _ _ _ _ _)
   | (with_reducible exact ih7 _ _)
   | (with_reducible exact impl_IsSelected.mono _ _ _ _ _ _ _ _ _)
   | (with_reducible exact laws_eqInt64S.mono _ _ _)
   | (with_reducible exact laws_eqSelection.mono _ _ _ _ _ _ _ _ _ _ _ _ _)
   | (with_reducible exact laws_szSelection.mono _ _ _ _ _ _ _ _)
   | (with_reducible exact laws_toInt64S.mono _ _)
   | (with_reducible exact laws_toSelection.mono _ _ _ _ _ _ _)
   | (with_reducible exact spec_IsSelected.mono _ _ _ _ _ _ _ _ _)
   | (with_reducible exact LeO.refl _)
   | (with_reducible exact LeO.none _)
   | (with_reducible refine LeO.ite ?_ ?_)
   | (with_reducible refine LeO.bind ?_ (fun _ => ?_))
   | exact ih0 _ _ _ _ _ _ _ _
   | exact ih1 _ _ _ _ _ _ _ _
   | exact ih2 _ _ _ _ _ _ _ _
   | exact ih3 _ _ _ _ _ _ _ _ _
   | exact ih4 _ _ _ _ _ _ _ _ _ _ _ _ _ _ _ _ _ _
   | exact ih5 _ _ _ _ _ _ _ _ _ _ _ _ _ _ _ _
   | exact ih6 _ _ _ _ _ _ _ _ _ _ _ _ _ _
   | exact ih7 _ _
   | exact impl_IsSelected.mono _ _ _ _ _ _ _ _ _
   | exact laws_eqInt64S.mono _ _ _
   | exact laws_eqSelection.mono _ _ _ _ _ _ _ _ _ _ _ _ _
   | exact laws_szSelection.mono _ _ _ _ _ _ _ _
   | exact laws_toInt64S.mono _ _
   | exact laws_toSelection.mono _ _ _ _ _ _ _
   | exact spec_IsSelected.mono _ _ _ _ _ _ _ _ _
   | exact LeO.none _
   | refine LeO.ite ?_ ?_
   | refine LeO.bind ?_ (fun _ => ?_)
  ·
   intro y0 y1
   unfold laws_FnExactIsSelected.j7
   repeat' first
   | (with_reducible exact ih0 _ _ _ _ _ _ _ _)
   | (with_reducible exact ih1 _ _ _ _ _ _ _ _)
   | (with_reducible exact ih2 _ _ _ _ _ _ _ _)
   | (with_reducible exact ih3 _ _ _ _ _ _ _ _ _)
   | (with_reducible exact ih4 _ _ _ _ _ _ _ _ _ _ _ _ _ _ _ _ _ _)
   | (with_reducible exact ih5 _ _ _ _ _ _ _ _ _ _ _ _ _ _ _ _)
   | (with_reducible exact ih6 _ _ _ _ _ _ _ _ _ _ _ _ _ _)
   | (with_reducible exact ih7 _ _)
   | (with_reducible exact impl_IsSelected.mono _ _ _ _ _ _ _ _ _)
   | (with_reducible exact laws_eqInt64S.mono _ _ _)
   | (with_reducible exact laws_eqSelection.mono _ _ _ _ _ _ _ _ _ _ _ _ _)
   | (with_reducible exact laws_szSelection.mono _ _ _ _ _ _ _ _)
   | (with_reducible exact laws_toInt64S.mono _ _)
   | (with_reducible exact laws_toSelection.mono _ _ _ _ _ _ _)
   | (with_reducible exact spec_IsSelected.mono _ _ _ _ _ _ _ _ _)
   | (with_reducible exact LeO.refl _)
   | (with_reducible exact LeO.none _)
   | (with_reducible refine LeO.ite ?_ ?_)
   | (with_reducible refine LeO.bind ?_ (fun _ => ?_))
   | exact ih0 _ _ _ _ _ _ _ _
   | exact ih1 _ _ _ _ _ _ _ _
   | exact ih2 _ _ _ _ _ _ _ _
   | exact ih3 _ _ _ _ _ _ _ _ _
   | exact ih4 _ _ _ _ _ _ _ _ _ _ _ _ _ _ _ _ _ _
   | exact ih5 _ _ _ _ _ _ _ _ _ _ _ _ _ _ _ _
   | exact ih6 _ _ _ _ _ _ _ _ _ _ _ _ _ _
   | exact ih7 _ _
   | exact impl_IsSelected.mono _ _ _ _ _ _ _ _ _
   | exact laws_eqInt64S.mono _ _ _
   | exact laws_eqSelection.mono _ _ _ _ _ _ _ _ _ _ _ _ _
   | exact laws_szSelection.mono _ _ _ _ _ _ _ _
   | exact laws_toInt64S.mono _ _
   | exact laws_toSelection.mono _ _ _ _ _ _ _
   | exact spec_IsSelected.mono _ _ _ _ _ _ _ _ _
   | exact LeO.none _
   | refine LeO.ite ?_ ?_
   | refine LeO.bind ?_ (fun _ => ?_)
theorem laws_FnExactIsSelected.mono : ∀ a0 a1 a2 a3 a4 a5 a6 a7 k, LeO (laws_FnExactIsSelected.f k a0 a1 a2 a3 a4 a5 a6 a7) (laws_FnExactIsSelected.f (k + 1) a0 a1 a2 a3 a4 a5 a6 a7) := by
 intro a0 a1 a2 a3 a4 a5 a6 a7 k
 obtain ⟨ih0, ih1, ih2, ih3, ih4, ih5, ih6, ih7⟩ := laws_FnExactIsSelected.mono_l k
 unfold laws_FnExactIsSelected.f
 repeat' first
   | (with_reducible exact ih0 _ _ _ _ _ _ _ _)
   | (with_reducible exact ih1 _ _ _ _ _ _ _ _)
   | (with_reducible exact ih2 _ _ _ _ _ _ _ _)
   | (with_reducible exact ih3 _ _ _ _ _ _ _ _ _)
   | (with_reducible exact ih4 _ _ _ _ _ _ _ _ _ _ _ _ _ _ _ _ _ _)
   | (with_reducible exact ih5 _ _ _ _ _ _ _ _ _ _ _ _ _ _ _ _)
   | (with_reducible exact ih6 _ _ _ _ _ _ _ _ _ _ _ _ _ _)
   | (with_reducible exact ih7 _ _)
   | (with_reducible exact impl_IsSelected.mono _ _ _ _ _ _ _ _ _)
   | (with_reducible exact laws_eqInt64S.mono _ _ _)
   | (with_reducible exact laws_eqSelection.mono _ _ _ _ _ _ _ _ _ _ _ _ _)
   | (with_reducible exact laws_szSelection.mono _ _ _ _ _ _ _ _)
   | (with_reducible exact laws_toInt64S.mono _ _)
   | (with_reducible exact laws_toSelection.mono _ _ _ _ _ _ _)
   | (with_reducible exact spec_IsSelected.mono _ _ _ _ _ _ _ _ _)
   | (with_reducible exact LeO.refl _)
   | (with_reducible exact LeO.none _)
   | (with_reducible refine LeO.ite ?_ ?_)
   | (with_reducible refine LeO.bind ?_ (fun _ => ?_))
   | exact ih0 _ _ _ _ _ _ _ _
   | exact ih1 _ _ _ _ _ _ _ _
   | exact ih2 _ _ _ _ _ _ _ _
   | exact ih3 _ _ _ _ _ _ _ _ _
   | exact ih4 _ _ _ _ _ _ _ _ _ _ _ _ _ _ _ _ _ _
   | exact ih5 _ _ _ _ _ _ _ _ _ _ _ _ _ _ _ _
   | exact ih6 _ _ _ _ _ _ _ _ _ _ _ _ _ _
   | exact ih7 _ _
   | exact impl_IsSelected.mono _ _ _ _ _ _ _ _ _
   | exact laws_eqInt64S.mono _ _ _
   | exact laws_eqSelection.mono _ _ _ _ _ _ _ _ _ _ _ _ _
   | exact laws_szSelection.mono _ _ _ _ _ _ _ _
   | exact laws_toInt64S.mono _ _
   | exact laws_toSelection.mono _ _ _ _ _ _ _
   | exact spec_IsSelected.mono _ _ _ _ _ _ _ _ _
   | exact LeO.none _
   | refine LeO.ite ?_ ?_
   | refine LeO.bind ?_ (fun _ => ?_)
def laws_FnExactIsSelected.T9 : Bool × List (List Nat × List Nat) := (true, [([], []), ([0], [0]), ([], []), ([2, 1], [2]), ([], []), ([4, 3], [4]), ([1, 3, 5, 5], [1, 3, 5]), ([6, 6, 0, 1, 2, 3, 4, 5, 6], [6])])
def laws_FnExactIsSelected.B9 : List Nat := [0, 1, 0, 7, 0, 31, 63, 127]
theorem laws_FnExactIsSelected.tab9 : rtab .any (opsOf Try.f5 9) = laws_FnExactIsSelected.T9 := by kernel_rfl
theorem laws_FnExactIsSelected.bits9 : waitsOk laws_FnExactIsSelected.T9.2 laws_FnExactIsSelected.B9 = true := by kernel_rfl
abbrev laws_FnExactIsSelected.Q_0 : Array Bool := (bz 8 0)
abbrev laws_FnExactIsSelected.Q_1 : Array Bool := (bz 8 1)
abbrev laws_FnExactIsSelected.Q_2 : Array Bool := (bz 8 17)
abbrev laws_FnExactIsSelected.Q_3 : Array Bool := (bz 8 21)
abbrev laws_FnExactIsSelected.Q_4 : Array Bool := (bz 8 23)
abbrev laws_FnExactIsSelected.Q_5 : Array Bool := (bz 8 31)
abbrev laws_FnExactIsSelected.Q_6 : Array Bool := (bz 8 63)
abbrev laws_FnExactIsSelected.Q_7 : Array Bool := (bz 8 127)
abbrev laws_FnExactIsSelected.Q_8 : Array Bool := (bz 8 255)
set_option maxHeartbeats 8000000 in
set_option maxRecDepth 100000 in
theorem laws_FnExactIsSelected.calls (k : Nat) (A0 : Option Addr) (c0 : Nat) (l0 : List Int) (a1_0 : Int) (A1_1 : Option Addr) (c1_1 : Nat) (l1_1 : List Int) (A1_2 : Option Addr) (c1_2 : Nat) (l1_2 : List Int) (A1_3 : Option Addr) (c1_3 : Nat) (l1_3 : List Int) (A1_4 : Option Addr) (c1_4 : Nat) (l1_4 : List Int) (A1_5 : Option Addr) (c1_5 : Nat) (l1_5 : List (S61)) (A2 : Option Addr) (c2 : Nat) (l2 : List Int) (r : Bool) (w : World) (hr0 : Kd.C (Kd.int .i64) w A0 l0.length l0) (hc0 : l0.length ≤ c0) (hr1_1 : Kd.C (Kd.int .i64) w A1_1 l1_1.length l1_1) (hc1_1 : l1_1.length ≤ c1_1) (hr1_2 : Kd.C (Kd.int .i64) w A1_2 l1_2.length l1_2) (hc1_2 : l1_2.length ≤ c1_2) (hr1_3 : Kd.C (Kd.int .i64) w A1_3 l1_3.length l1_3) (hc1_3 : l1_3.length ≤ c1_3) (hr1_4 : Kd.C (Kd.int .i64) w A1_4 l1_4.length l1_4) (hc1_4 : l1_4.length ≤ c1_4) (hr1_5 : Kd.C k61 w A1_5 l1_5.length l1_5) (hc1_5 : l1_5.length ≤ c1_5) (hr2 : Kd.C (Kd.int .i64) w A2 l2.length l2) (hc2 : l2.length ≤ c2) (h : laws_FnExactIsSelected.f k l0 a1_0 l1_1 l1_2 l1_3 l1_4 l1_5 l2 = some r) :
  Calls Try.prog 5 #[.slice A0 l0.length c0, .agg #[.int .i64 a1_0, .slice A1_1 l1_1.length c1_1, .slice A1_2 l1_2.length c1_2, .slice A1_3 l1_3.length c1_3, .slice A1_4 l1_4.length c1_4, .slice A1_5 l1_5.length c1_5], .slice A2 l2.length c2] w fun e w' => e = .returned (.bool r) ∧ Below w.heap.size w w' := by
 have hu35 := Try.underlying35; have hu41 := Try.underlying41
 have HR0 := yD hr0
 have HC0 := yD hc0
 clear hr0 hc0
 have HR1_1 := yD hr1_1
 have HC1_1 := yD hc1_1
 clear hr1_1 hc1_1
 have HR1_2 := yD hr1_2
 have HC1_2 := yD hc1_2
 clear hr1_2 hc1_2
 have HR1_3 := yD hr1_3
 have HC1_3 := yD hc1_3
 clear hr1_3 hc1_3
 have HR1_4 := yD hr1_4
 have HC1_4 := yD hc1_4
 clear hr1_4 hc1_4
 have HR1_5 := yD hr1_5
 have HC1_5 := yD hc1_5
 clear hr1_5 hc1_5
 have HR2 := yD hr2
 have HC2 := yD hc2
 clear hr2 hc2
 have HB := yD (Below.refl w.heap.size w)
 have H : (if (l0.length : Int) > 1048576 then (some true) else (laws_FnExactIsSelected.j0 k l0 l2 a1_0 l1_1 l1_2 l1_3 l1_4 l1_5)) = some r := h
 clear h
 have HC4 := yD H
 clear H; go_enter Try.func5, Try.ntmps5
 go_upto_if 15 with (first | ((with_reducible refine gate_dst (N := 4) rfl ?_); refine box_event ?hg (N := 4) ?hd (cs := #[.int .i64 a1_0, .slice A1_1 l1_1.length c1_1, .slice A1_2 l1_2.length c1_2, .slice A1_3 l1_3.length c1_3, .slice A1_4 l1_4.length c1_4, .slice A1_5 l1_5.length c1_5]) (t := 35) ?hr ?_; (case hd => rfl); (case hg => rfl); (case hr => first | (go_simp; done) | (go_simp; rfl)); intro gb388 hg w5 hbox hb; have n0_ := yD (zC (kB HB) hb); have n1_ := yD (hbox); have n2_ := yD ((by rw [hg]; exact (below_size (kB HB)) : w.heap.size ≤ gb388)); have n3_ := yD ((by rw [hg]; exact (below_size (kB HB)) : w.heap.size ≤ gb388)); clear HB; have HB := n0_; have BK388 := n1_; have GW388 := n2_; have GE388 := n3_; clear n0_ n1_ n2_ n3_; clear hb hbox hg))
 (try simp only [Act.put, zH, zI, zJ])
 go_cut [] (fun wc => ∃ (kq : Nat), Aside0 (laws_FnExactIsSelected.j0 kq l0 l2 a1_0 l1_1 l1_2 l1_3 l1_4 l1_5 = some r) ∧ Aside0 (kq ≤ k) ∧ Aside0 (wc.heap[gb388]? = some (.cells #[.int .i64 a1_0, (.slice A1_1 l1_1.length c1_1), (.slice A1_2 l1_2.length c1_2), (.slice A1_3 l1_3.length c1_3), (.slice A1_4 l1_4.length c1_4), (.slice A1_5 l1_5.length c1_5)] 35 (0, 0))) ∧ Aside0 (Below w.heap.size w wc))
 case first =>
  have H := HC4.out; clear HC4
  by_cases c6 : (l0.length : Int) > 1048576
  ·
   rw [if_pos c6] at H; have c6b0 : decide (1048576 < (l0.length : Int)) = true := zR c6
   have c6b1 : decide (1048576 < l0.length) = true := zR (by omega)
   clear c6
   (first | rw [c6b0] | (simp only [i64_w, i32_w]; rw [c6b0]) | (simp only [bne] at c6b0; rw [c6b0]) | skip)
   obtain rfl := Option.some.inj H
   go_wp2
   go_ret
   exact ⟨by first | rfl | (simp <;> rfl) | (simp [*] <;> rfl), by repeat (first | (with_reducible first | exact HB.out | apply yQ | apply yL | apply yP | refine yE ?_ GE388.out) | exact HB.out)⟩
  ·
   rw [if_neg c6] at H; have c6b0 : decide (1048576 < (l0.length : Int)) = false := zS c6
   have c6b1 : decide (1048576 < l0.length) = false := zS (by omega)
   clear c6
   (first | rw [c6b0] | (simp only [i64_w, i32_w]; rw [c6b0]) | (simp only [bne] at c6b0; rw [c6b0]) | skip)
   have H' := yD H
   clear H
   go_wp2
   go_meet
   case rel => exact ⟨_, H', ⟨by first | omega | exact Nat.le_refl _⟩, ⟨by (with_reducible repeat (first | refine yM ?_ _ | refine yO ?_ | refine yN ?_ _)); exact BK388.out⟩, ⟨by repeat (first | (with_reducible first | exact HB.out | apply yQ | apply yL | apply yP | refine yE ?_ GE388.out) | exact HB.out)⟩⟩
 case rest =>
  clear HC4; try clear c1; try clear c2; try clear p2; try clear c5; try clear c6; try clear c6b0; try clear c6b1
  obtain ⟨kq, HA, HJ3, BK388, HB⟩ := hcut
  cases kq with
  | zero => exact absurd HA.out (by simp [laws_FnExactIsSelected.j0])
  | succ kj3 =>
   have H := HA.out; clear HA
   simp only [laws_FnExactIsSelected.j0] at H
   have HC7 := yD H
   clear H
   go_upto_if 18 with (fail)
   go_cut [] (fun wc => ∃ (kq : Nat), Aside0 (laws_FnExactIsSelected.j1 kq l0 l2 a1_0 l1_1 l1_2 l1_3 l1_4 l1_5 = some r) ∧ Aside0 (kq ≤ kj3) ∧ Aside0 (wc.heap[gb388]? = some (.cells #[.int .i64 a1_0, (.slice A1_1 l1_1.length c1_1), (.slice A1_2 l1_2.length c1_2), (.slice A1_3 l1_3.length c1_3), (.slice A1_4 l1_4.length c1_4), (.slice A1_5 l1_5.length c1_5)] 35 (0, 0))) ∧ Aside0 (Below w.heap.size w wc))
   case first =>
    have H := HC7.out; clear HC7
    by_cases c8 : (l2.length : Int) > 1048576
    ·
     rw [if_pos c8] at H; have c8b0 : decide (1048576 < (l2.length : Int)) = true := zR c8
     have c8b1 : decide (1048576 < l2.length) = true := zR (by omega)
     clear c8
     (first | rw [c8b0] | (simp only [i64_w, i32_w]; rw [c8b0]) | (simp only [bne] at c8b0; rw [c8b0]) | skip)
     obtain rfl := Option.some.inj H
     go_wp2
     go_ret
     exact ⟨by first | rfl | (simp <;> rfl) | (simp [*] <;> rfl), by repeat (first | (with_reducible first | exact HB.out | apply yQ | apply yL | apply yP | refine yE ?_ GE388.out) | exact HB.out)⟩
    ·
     rw [if_neg c8] at H; have c8b0 : decide (1048576 < (l2.length : Int)) = false := zS c8
     have c8b1 : decide (1048576 < l2.length) = false := zS (by omega)
     clear c8
     (first | rw [c8b0] | (simp only [i64_w, i32_w]; rw [c8b0]) | (simp only [bne] at c8b0; rw [c8b0]) | skip)
     have H' := yD H
     clear H
     go_wp2
     go_meet
     case rel => exact ⟨_, H', ⟨by have := HJ3.out; first | omega | exact Nat.le_refl _⟩, ⟨by (with_reducible repeat (first | refine yM ?_ _ | refine yO ?_ | refine yN ?_ _)); exact BK388.out⟩, ⟨by repeat (first | (with_reducible first | exact HB.out | apply yQ | apply yL | apply yP | refine yE ?_ GE388.out) | exact HB.out)⟩⟩
   case rest =>
    clear HC7; try clear c1; try clear c2; try clear p2; try clear c5; try clear c6; try clear c6b0; try clear c6b1; try clear c8; try clear c8b0; try clear c8b1; try clear p2
    obtain ⟨kq, HA, HJ6, BK388, HB⟩ := hcut
    cases kq with
    | zero => exact absurd HA.out (by simp [laws_FnExactIsSelected.j1])
    | succ kj6 =>
     have H := HA.out; clear HA
     simp only [laws_FnExactIsSelected.j1] at H
     obtain ⟨t389, A90, H⟩ := zW_ H
     replace H : (if t389 < 0 then (some true) else (laws_FnExactIsSelected.j2 kj6 l0 l2 a1_0 l1_1 l1_2 l1_3 l1_4 l1_5)) = some r := H
     have A9 := yD A90
     clear A90
     have HC10 := yD H
     clear H
     obtain ⟨hcz11_0, hcz11_1, hcz11_2, hcz11_3, hcz11_4, hcz11_5⟩ := cz6 BK388.out
     obtain ⟨hfz11_0, hfz11_1, hfz11_2, hfz11_3, hfz11_4, hfz11_5⟩ := fz6 BK388.out
     go_upto_if 23 with (first | ((with_reducible refine gate_callee (f := 13) rfl ?_); refine goesL_ (some 21) rfl rfl Try.func13 (by kernel_rfl) rfl #[.agg #[.int .i64 a1_0, .slice A1_1 l1_1.length c1_1, .slice A1_2 l1_2.length c1_2, .slice A1_3 l1_3.length c1_3, .slice A1_4 l1_4.length c1_4, .slice A1_5 l1_5.length c1_5], .int .i64 1048576] rfl (by (try simp only [zK, zL, zM]); first | done | rfl | (simp only [zN, zO]; rfl)) ?_; (with_reducible refine (laws_szSelection.calls kj6 a1_0 _ _ l1_1 _ _ l1_2 _ _ l1_3 _ _ l1_4 _ _ l1_5 1048576 t389 _ ?side1 ?side2 ?side3 ?side4 ?side5 ?side6 ?side7 ?side8 ?side9 ?side10 A9.out).mono ?_); (case side1 => exact kV (yY HR1_1.out HB.out)); (case side2 => exact HC1_1.out); (case side3 => exact kV (yY HR1_2.out HB.out)); (case side4 => exact HC1_2.out); (case side5 => exact kV (yY HR1_3.out HB.out)); (case side6 => exact HC1_3.out); (case side7 => exact kV (yY HR1_4.out HB.out)); (case side8 => exact HC1_4.out); (case side9 => exact kV (yY HR1_5.out HB.out)); (case side10 => exact HC1_5.out); rintro e w12 ⟨rfl, hb⟩; refine ⟨_, rfl, ?_⟩; have n0_ := yD (zB (g := gb388) (o := .cells #[.int .i64 a1_0, .slice A1_1 l1_1.length c1_1, .slice A1_2 l1_2.length c1_2, .slice A1_3 l1_3.length c1_3, .slice A1_4 l1_4.length c1_4, .slice A1_5 l1_5.length c1_5] 35 (0, 0)) (kM BK388) hb); have n1_ := yD (zC (kB HB) hb); clear BK388; clear HB; have BK388 := n0_; have HB := n1_; clear n0_ n1_; (try clear hb); (try clear hb2); (try clear hk); (try clear hi)))
     (try simp only [Act.put, zH, zI, zJ])
     go_cut [] (fun wc => ∃ (kq : Nat), Aside0 (laws_FnExactIsSelected.j2 kq l0 l2 a1_0 l1_1 l1_2 l1_3 l1_4 l1_5 = some r) ∧ Aside0 (kq ≤ kj6) ∧ Aside0 (wc.heap[gb388]? = some (.cells #[.int .i64 a1_0, (.slice A1_1 l1_1.length c1_1), (.slice A1_2 l1_2.length c1_2), (.slice A1_3 l1_3.length c1_3), (.slice A1_4 l1_4.length c1_4), (.slice A1_5 l1_5.length c1_5)] 35 (0, 0))) ∧ Aside0 (Below w.heap.size w wc))
     case first =>
      have H := HC10.out; clear HC10
      by_cases c13 : t389 < 0
      ·
       rw [if_pos c13] at H; have c13b0 : decide (t389 < 0) = true := zR c13; clear c13
       (first | rw [c13b0] | (simp only [i64_w, i32_w]; rw [c13b0]) | (simp only [bne] at c13b0; rw [c13b0]) | skip)
       obtain rfl := Option.some.inj H
       go_wp2
       go_ret
       exact ⟨by first | rfl | (simp <;> rfl) | (simp [*] <;> rfl), by repeat (first | (with_reducible first | exact HB.out | apply yQ | apply yL | apply yP | refine yE ?_ GE388.out) | exact HB.out)⟩
      ·
       rw [if_neg c13] at H; have c13b0 : decide (t389 < 0) = false := zS c13; clear c13
       (first | rw [c13b0] | (simp only [i64_w, i32_w]; rw [c13b0]) | (simp only [bne] at c13b0; rw [c13b0]) | skip)
       have H' := yD H
       clear H
       go_wp2
       go_meet
       case rel => exact ⟨_, H', ⟨by have := HJ3.out; have := HJ6.out; first | omega | exact Nat.le_refl _⟩, ⟨by (with_reducible repeat (first | refine yM ?_ _ | refine yO ?_ | refine yN ?_ _)); exact BK388.out⟩, ⟨by repeat (first | (with_reducible first | exact HB.out | apply yQ | apply yL | apply yP | refine yE ?_ GE388.out) | exact HB.out)⟩⟩
     case rest =>
      clear HC10; try clear c1; try clear c2; try clear p2; try clear c5; try clear c6; try clear c6b0; try clear c6b1; try clear c8; try clear c8b0; try clear c8b1; try clear c13; try clear c13b0; try clear hcz11_0; try clear hcz11_1; try clear hcz11_2; try clear hcz11_3; try clear hcz11_4; try clear hcz11_5; try clear hfz11_0; try clear hfz11_1; try clear hfz11_2; try clear hfz11_3; try clear hfz11_4; try clear hfz11_5; try clear p2
      obtain ⟨kq, HA, HJ9, BK388, HB⟩ := hcut
      cases kq with
      | zero => exact absurd HA.out (by simp [laws_FnExactIsSelected.j2])
      | succ kj9 =>
       have H := HA.out; clear HA
       simp only [laws_FnExactIsSelected.j2] at H
       have HC14 := yD H
       clear H
       go_upto_region 9 with (fail)
       go_cut [8] (fun v8 wc => ∃ (kq : Nat) (x8_13 : Bool), v8 = .bool x8_13 ∧ Aside0 (laws_FnExactIsSelected.j3 kq l0 l2 x8_13 a1_0 l1_1 l1_2 l1_3 l1_4 l1_5 = some r) ∧ Aside0 (kq ≤ kj9) ∧ Aside0 (wc.heap[gb388]? = some (.cells #[.int .i64 a1_0, (.slice A1_1 l1_1.length c1_1), (.slice A1_2 l1_2.length c1_2), (.slice A1_3 l1_3.length c1_3), (.slice A1_4 l1_4.length c1_4), (.slice A1_5 l1_5.length c1_5)] 35 (0, 0))) ∧ Aside0 (Below w.heap.size w wc))
       case first =>
        have H := HC14.out; clear HC14
        obtain ⟨t390, A150, H⟩ := zW_ H
        replace H : ((laws_toSelection.f kj9 a1_0 l1_1 l1_2 l1_3 l1_4 l1_5).bind fun bt393 => ((laws_toInt64S.f kj9 l2).bind fun t409 => ((spec_IsSelected.f kj9 t390 bt393.1 bt393.2.1 bt393.2.2.1 bt393.2.2.2.1 bt393.2.2.2.2.1 bt393.2.2.2.2.2 t409).bind fun t412 => (laws_FnExactIsSelected.j3 kj9 l0 l2 t412 a1_0 l1_1 l1_2 l1_3 l1_4 l1_5)))) = some r := H
        have A15 := yD A150
        clear A150
        obtain ⟨⟨t393, t394, t397, t400, t403, t406⟩, A160, H⟩ := zW_ H
        replace H : ((laws_toInt64S.f kj9 l2).bind fun t409 => ((spec_IsSelected.f kj9 t390 t393 t394 t397 t400 t403 t406 t409).bind fun t412 => (laws_FnExactIsSelected.j3 kj9 l0 l2 t412 a1_0 l1_1 l1_2 l1_3 l1_4 l1_5))) = some r := H
        have A16 := yD A160
        clear A160
        obtain ⟨t409, A170, H⟩ := zW_ H
        replace H : ((spec_IsSelected.f kj9 t390 t393 t394 t397 t400 t403 t406 t409).bind fun t412 => (laws_FnExactIsSelected.j3 kj9 l0 l2 t412 a1_0 l1_1 l1_2 l1_3 l1_4 l1_5)) = some r := H
        have A17 := yD A170
        clear A170
        obtain ⟨t412, A180, H⟩ := zW_ H
        replace H : (laws_FnExactIsSelected.j3 kj9 l0 l2 t412 a1_0 l1_1 l1_2 l1_3 l1_4 l1_5) = some r := H
        have A18 := yD A180
        clear A180
        have H' := yD H
        clear H
        try go_wp2
        have n0_ := yD (yO BK388.out)
        have n1_ := yD (yP HB.out)
        clear BK388 HB; have BK388 := n0_; have HB := n1_; clear n0_ n1_
        refine start_ (n := 8) (S := fun w' => w'.cell? ⟨gb388, 0, none⟩ = some (.int .i64 a1_0) ∧ w'.cell? ⟨gb388, 1, none⟩ = some (.slice A1_1 l1_1.length c1_1) ∧ w'.cell? ⟨gb388, 2, none⟩ = some (.slice A1_2 l1_2.length c1_2) ∧ w'.cell? ⟨gb388, 3, none⟩ = some (.slice A1_3 l1_3.length c1_3) ∧ w'.cell? ⟨gb388, 4, none⟩ = some (.slice A1_4 l1_4.length c1_4) ∧ w'.cell? ⟨gb388, 5, none⟩ = some (.slice A1_5 l1_5.length c1_5)) (ds := []) Q_0 (by kernel_rfl) rfl rfl ⟨(yG BK388.out 0).trans rfl, (yG BK388.out 1).trans rfl, (yG BK388.out 2).trans rfl, (yG BK388.out 3).trans rfl, (yG BK388.out 4).trans rfl, (yG BK388.out 5).trans rfl⟩ (fun hHeld => ?_); refine with_tabW laws_FnExactIsSelected.tab9 laws_FnExactIsSelected.bits9 (fun HT_ HW_ => ?_)
        generalize wc.drew = w19 at BK388 HB hHeld ⊢
        refine qA 0 24 Q_1 HT_ ?_
        refine qA 4 28 Q_2 HT_ ?_
        refine qC 2 26 Q_3 HT_ HW_ hHeld ?_ (hy := by rintro w' ⟨s0, s1, s2, s3, s4, s5⟩; go_simp; with_reducible rfl)
        refine one_ (i := 1) (N := some 25) Q_4 rfl rfl (one_of HT_.out (by kernel_rfl)) (by decide) (fun K hK => ?_)
        refine goes_ Try.func15 (by kernel_rfl) rfl #[.slice A0 l0.length c0] (by rfl) rfl rfl (by (try simp only [zK, zL, zM]); first | done | rfl | (simp only [zN, zO]; rfl)) ?_
        with_reducible refine (laws_toInt64S.calls kj9 _ _ l0 t390 _ ?side1 ?side2 A15.out).mono ?_
        (case side1 => exact kV (yY HR0.out HB.out))
        (case side2 => exact HC0.out)
        rintro e w20 ⟨v391, rfl, ho0, hb⟩
        refine ⟨_, rfl, ?_⟩
        have n0_ := yD (yZ ho0 (below_size (kB HB)))
        have n1_ := yD (zB (g := gb388) (o := .cells #[.int .i64 a1_0, .slice A1_1 l1_1.length c1_1, .slice A1_2 l1_2.length c1_2, .slice A1_3 l1_3.length c1_3, .slice A1_4 l1_4.length c1_4, .slice A1_5 l1_5.length c1_5] 35 (0, 0)) (kM BK388) hb)
        have n2_ := yD (zC (kB HB) hb)
        clear BK388 HB; have HO392 := n0_; have BK388 := n1_; have HB := n2_; clear n0_ n1_ n2_; (try clear hb); (try clear hb2); (try clear hk); (try clear hi); (try clear ho0)
        refine hK.out _ _ ⟨(yG BK388.out 0).trans rfl, (yG BK388.out 1).trans rfl, (yG BK388.out 2).trans rfl, (yG BK388.out 3).trans rfl, (yG BK388.out 4).trans rfl, (yG BK388.out 5).trans rfl⟩ (fun hHeld => ?_)
        clear hK K
        refine norm_ (by show Act.put _ (some 25) _ = _; simp only [Act.put, zH, zI, zJ, i64_w, i32_w]; rfl) ?_
        refine one_ (i := 3) (N := some 27) Q_5 rfl rfl (one_of HT_.out (by kernel_rfl)) (by decide) (fun K hK => ?_)
        refine goes_ Try.func16 (by kernel_rfl) rfl #[.agg #[.int .i64 a1_0, .slice A1_1 l1_1.length c1_1, .slice A1_2 l1_2.length c1_2, .slice A1_3 l1_3.length c1_3, .slice A1_4 l1_4.length c1_4, .slice A1_5 l1_5.length c1_5]] (by rfl) rfl rfl (by (try simp only [zK, zL, zM]); first | done | rfl | (simp only [zN, zO]; rfl)) ?_
        with_reducible refine (laws_toSelection.calls kj9 a1_0 _ _ l1_1 _ _ l1_2 _ _ l1_3 _ _ l1_4 _ _ l1_5 t393 t394 t397 t400 t403 t406 _ ?side1 ?side2 ?side3 ?side4 ?side5 ?side6 ?side7 ?side8 ?side9 ?side10 A16.out).mono ?_
        (case side1 => exact kV (yY HR1_1.out HB.out))
        (case side2 => exact HC1_1.out)
        (case side3 => exact kV (yY HR1_2.out HB.out))
        (case side4 => exact HC1_2.out)
        (case side5 => exact kV (yY HR1_3.out HB.out))
        (case side6 => exact HC1_3.out)
        (case side7 => exact kV (yY HR1_4.out HB.out))
        (case side8 => exact HC1_4.out)
        (case side9 => exact kV (yY HR1_5.out HB.out))
        (case side10 => exact HC1_5.out)
        rintro e w21 ⟨v395, v398, v401, v404, v407, rfl, ho0, ho1, ho2, ho3, ho4, hb⟩
        refine ⟨_, rfl, ?_⟩
        have n0_ := yD (zF (yI (yI (yI (yI (Kd.R_old (kA HO392) hb) (yH ho0)) (yH ho1)) (yH ho2)) (yH ho3)) (fun _ h_ => h_.1))
        have n1_ := yD (yZ (yJ ho0 (yK (kA HO392))) (below_size (kB HB)))
        have n2_ := yD (yZ (yJ ho1 (yK (kA HO392))) (below_size (kB HB)))
        have n3_ := yD (yZ (yJ ho2 (yK (kA HO392))) (below_size (kB HB)))
        have n4_ := yD (yZ (yJ ho3 (yK (kA HO392))) (below_size (kB HB)))
        have n5_ := yD (zG (zD ho4 (yK (kA HO392))) (below_size (kB HB)))
        have n6_ := yD (zB (g := gb388) (o := .cells #[.int .i64 a1_0, .slice A1_1 l1_1.length c1_1, .slice A1_2 l1_2.length c1_2, .slice A1_3 l1_3.length c1_3, .slice A1_4 l1_4.length c1_4, .slice A1_5 l1_5.length c1_5] 35 (0, 0)) (kM BK388) hb)
        have n7_ := yD (zC (kB HB) hb)
        clear HO392 BK388 HB; have HO392 := n0_; have HO396 := n1_; have HO399 := n2_; have HO402 := n3_; have HO405 := n4_; have HO408 := n5_; have BK388 := n6_; have HB := n7_; clear n0_ n1_ n2_ n3_ n4_ n5_ n6_ n7_; (try clear hb); (try clear hb2); (try clear hk); (try clear hi); (try clear ho0); (try clear ho1); (try clear ho2); (try clear ho3); (try clear ho4)
        refine hK.out _ _ ⟨(yG BK388.out 0).trans rfl, (yG BK388.out 1).trans rfl, (yG BK388.out 2).trans rfl, (yG BK388.out 3).trans rfl, (yG BK388.out 4).trans rfl, (yG BK388.out 5).trans rfl⟩ (fun hHeld => ?_)
        clear hK K
        refine norm_ (by show Act.put _ (some 27) _ = _; simp only [Act.put, zH, zI, zJ, i64_w, i32_w]; rfl) ?_
        refine one_ (i := 5) (N := some 29) Q_6 rfl rfl (one_of HT_.out (by kernel_rfl)) (by decide) (fun K hK => ?_)
        refine goes_ Try.func15 (by kernel_rfl) rfl #[.slice A2 l2.length c2] (by rfl) rfl rfl (by (try simp only [zK, zL, zM]); first | done | rfl | (simp only [zN, zO]; rfl)) ?_
        with_reducible refine (laws_toInt64S.calls kj9 _ _ l2 t409 _ ?side1 ?side2 A17.out).mono ?_
        (case side1 => exact kV (yY HR2.out HB.out))
        (case side2 => exact HC2.out)
        rintro e w22 ⟨v410, rfl, ho0, hb⟩
        refine ⟨_, rfl, ?_⟩
        have n0_ := yD (Kd.R_elder' (kA HO392) (yH ho0) hb)
        have n1_ := yD (Kd.R_elder' (kA HO396) (yH ho0) hb)
        have n2_ := yD (Kd.R_elder' (kA HO399) (yH ho0) hb)
        have n3_ := yD (Kd.R_elder' (kA HO402) (yH ho0) hb)
        have n4_ := yD (Kd.R_elder' (kA HO405) (yH ho0) hb)
        have n5_ := yD (Kd.S_elder' (by (with_reducible repeat (first | apply yS | apply yT | apply yU)); exact HO408.out) (yH ho0) hb)
        have n6_ := yD (yZ (yJ (yJ (yJ (yJ (yJ ho0 (yK (kA HO392))) (yK (kA HO396))) (yK (kA HO399))) (yK (kA HO402))) (yK (kA HO405))) (below_size (kB HB)))
        have n7_ := yD (zB (g := gb388) (o := .cells #[.int .i64 a1_0, .slice A1_1 l1_1.length c1_1, .slice A1_2 l1_2.length c1_2, .slice A1_3 l1_3.length c1_3, .slice A1_4 l1_4.length c1_4, .slice A1_5 l1_5.length c1_5] 35 (0, 0)) (kM BK388) hb)
        have n8_ := yD (zC (kB HB) hb)
        clear HO392 HO396 HO399 HO402 HO405 HO408 BK388 HB; have HO392 := n0_; have HO396 := n1_; have HO399 := n2_; have HO402 := n3_; have HO405 := n4_; have HO408 := n5_; have HO411 := n6_; have BK388 := n7_; have HB := n8_; clear n0_ n1_ n2_ n3_ n4_ n5_ n6_ n7_ n8_; (try clear hb); (try clear hb2); (try clear hk); (try clear hi); (try clear ho0)
        obtain ⟨Ao23, co23, eo23⟩ := Kd.R_slice HO392.out
        (first | subst eo23 | (injection eo23 with f1_ f2_ f3_; have f4_ := f1_.symm; have f5_ := f3_.symm; clear f1_ f2_ f3_; subst f4_; subst f5_))
        obtain ⟨Ao24, co24, eo24⟩ := Kd.R_slice HO396.out
        (first | subst eo24 | (injection eo24 with f1_ f2_ f3_; have f4_ := f1_.symm; have f5_ := f3_.symm; clear f1_ f2_ f3_; subst f4_; subst f5_))
        obtain ⟨Ao25, co25, eo25⟩ := Kd.R_slice HO399.out
        (first | subst eo25 | (injection eo25 with f1_ f2_ f3_; have f4_ := f1_.symm; have f5_ := f3_.symm; clear f1_ f2_ f3_; subst f4_; subst f5_))
        obtain ⟨Ao26, co26, eo26⟩ := Kd.R_slice HO402.out
        (first | subst eo26 | (injection eo26 with f1_ f2_ f3_; have f4_ := f1_.symm; have f5_ := f3_.symm; clear f1_ f2_ f3_; subst f4_; subst f5_))
        obtain ⟨Ao27, co27, eo27⟩ := Kd.R_slice HO405.out
        (first | subst eo27 | (injection eo27 with f1_ f2_ f3_; have f4_ := f1_.symm; have f5_ := f3_.symm; clear f1_ f2_ f3_; subst f4_; subst f5_))
        obtain ⟨Ao28, co28, eo28⟩ := Kd.S_slice HO408.out
        (first | subst eo28 | (injection eo28 with f1_ f2_ f3_; have f4_ := f1_.symm; have f5_ := f3_.symm; clear f1_ f2_ f3_; subst f4_; subst f5_))
        obtain ⟨Ao29, co29, eo29⟩ := Kd.R_slice HO411.out
        (first | subst eo29 | (injection eo29 with f1_ f2_ f3_; have f4_ := f1_.symm; have f5_ := f3_.symm; clear f1_ f2_ f3_; subst f4_; subst f5_))
        refine hK.out _ _ ⟨(yG BK388.out 0).trans rfl, (yG BK388.out 1).trans rfl, (yG BK388.out 2).trans rfl, (yG BK388.out 3).trans rfl, (yG BK388.out 4).trans rfl, (yG BK388.out 5).trans rfl⟩ (fun hHeld => ?_)
        clear hK K
        refine norm_ (by show Act.put _ (some 29) _ = _; simp only [Act.put, zH, zI, zJ, i64_w, i32_w]; rfl) ?_
        refine one_ (i := 6) (N := some 30) Q_7 rfl rfl (one_of HT_.out (by kernel_rfl)) (by decide) (fun K hK => ?_)
        refine goes_ Try.func20 (by kernel_rfl) rfl #[.slice Ao23 t390.length co23, .agg #[.int .i64 t393, .slice Ao24 t394.length co24, .slice Ao25 t397.length co25, .slice Ao26 t400.length co26, .slice Ao27 t403.length co27, .slice Ao28 t406.length co28], .slice Ao29 t409.length co29] (by rfl) rfl rfl (by (try simp only [zK, zL, zM]); first | done | rfl | (simp only [zN, zO]; rfl)) ?_
        with_reducible refine (spec_IsSelected.calls kj9 _ _ t390 t393 _ _ t394 _ _ t397 _ _ t400 _ _ t403 _ _ t406 _ _ t409 t412 _ ?side1 ?side2 ?side3 ?side4 ?side5 ?side6 ?side7 ?side8 ?side9 ?side10 ?side11 ?side12 ?side13 ?side14 A18.out).mono ?_
        (case side1 => exact kV (zA HO392.out).2.2)
        (case side2 => exact (zA HO392.out).2.1)
        (case side3 => exact kV (zA HO396.out).2.2)
        (case side4 => exact (zA HO396.out).2.1)
        (case side5 => exact kV (zA HO399.out).2.2)
        (case side6 => exact (zA HO399.out).2.1)
        (case side7 => exact kV (zA HO402.out).2.2)
        (case side8 => exact (zA HO402.out).2.1)
        (case side9 => exact kV (zA HO405.out).2.2)
        (case side10 => exact (zA HO405.out).2.1)
        (case side11 => exact kV (Kd.S_reads' HO408.out).2.2)
        (case side12 => exact (Kd.S_reads' HO408.out).2.1)
        (case side13 => exact kV (zA HO411.out).2.2)
        (case side14 => exact (zA HO411.out).2.1)
        rintro e w30 ⟨rfl, hb⟩
        refine ⟨_, rfl, ?_⟩
        have n0_ := yD (zE (kA HO392) hb)
        have n1_ := yD (zE (kA HO396) hb)
        have n2_ := yD (zE (kA HO399) hb)
        have n3_ := yD (zE (kA HO402) hb)
        have n4_ := yD (zE (kA HO405) hb)
        have n5_ := yD (Kd.S_below (by (with_reducible repeat (first | apply yS | apply yT | apply yU)); exact HO408.out) hb)
        have n6_ := yD (zE (kA HO411) hb)
        have n7_ := yD (zB (g := gb388) (o := .cells #[.int .i64 a1_0, .slice A1_1 l1_1.length c1_1, .slice A1_2 l1_2.length c1_2, .slice A1_3 l1_3.length c1_3, .slice A1_4 l1_4.length c1_4, .slice A1_5 l1_5.length c1_5] 35 (0, 0)) (kM BK388) hb)
        have n8_ := yD (zC (kB HB) hb)
        clear HO392 HO396 HO399 HO402 HO405 HO408 HO411 BK388 HB; have HO392 := n0_; have HO396 := n1_; have HO399 := n2_; have HO402 := n3_; have HO405 := n4_; have HO408 := n5_; have HO411 := n6_; have BK388 := n7_; have HB := n8_; clear n0_ n1_ n2_ n3_ n4_ n5_ n6_ n7_ n8_; (try clear hb); (try clear hb2); (try clear hk); (try clear hi)
        refine hK.out _ _ ⟨(yG BK388.out 0).trans rfl, (yG BK388.out 1).trans rfl, (yG BK388.out 2).trans rfl, (yG BK388.out 3).trans rfl, (yG BK388.out 4).trans rfl, (yG BK388.out 5).trans rfl⟩ (fun hHeld => ?_)
        clear hK K
        refine norm_ (by show Act.put _ (some 30) _ = _; simp only [Act.put, zH, zI, zJ, i64_w, i32_w]; rfl) ?_
        refine qA 7 8 Q_8 HT_ ?_
        refine done_ (done_of HT_.out (by kernel_rfl)) ?_
        try go_wp2
        go_meet
        case rel => exact ⟨_, (t412), (by first | rfl | (simp; done) | (simp [*]; done)), H', ⟨by have := HJ3.out; have := HJ6.out; have := HJ9.out; first | omega | exact Nat.le_refl _⟩, ⟨by (with_reducible repeat (first | refine yM ?_ _ | refine yO ?_ | refine yN ?_ _)); exact BK388.out⟩, ⟨by repeat (first | (with_reducible first | exact HB.out | apply yQ | apply yL | apply yP | refine yE ?_ GE388.out) | exact HB.out)⟩⟩
       case rest =>
        clear HC14; try clear c1; try clear c2; try clear p2; try clear c5; try clear c6; try clear c6b0; try clear c6b1; try clear c8; try clear c8b0; try clear c8b1; try clear c13; try clear c13b0; try clear c15; try clear c16; try clear c20; try clear hcz11_0; try clear hcz11_1; try clear hcz11_2; try clear hcz11_3; try clear hcz11_4; try clear hcz11_5; try clear hfz11_0; try clear hfz11_1; try clear hfz11_2; try clear hfz11_3; try clear hfz11_4; try clear hfz11_5; try clear p2
        obtain ⟨kq, x8_13, rfl, HA, HJ13, BK388, HB⟩ := hcut
        cases kq with
        | zero => exact absurd HA.out (by simp [laws_FnExactIsSelected.j3])
        | succ kj13 =>
         have H := HA.out; clear HA
         simp only [laws_FnExactIsSelected.j3] at H
         obtain ⟨t413, A310, H⟩ := zW_ H
         replace H : ((laws_toSelection.f kj13 a1_0 l1_1 l1_2 l1_3 l1_4 l1_5).bind fun bt416 => ((laws_toInt64S.f kj13 l2).bind fun t433 => ((impl_IsSelected.f kj13 t413 bt416.1 bt416.2.1 bt416.2.2.1 bt416.2.2.2.1 bt416.2.2.2.2.1 bt416.2.2.2.2.2 t433).bind fun t436 => (laws_FnExactIsSelected.j4 kj13 l0 l2 x8_13 t413 t433 t436 a1_0 l1_1 l1_2 l1_3 l1_4 l1_5 bt416.1 bt416.2.1 bt416.2.2.1 bt416.2.2.2.1 bt416.2.2.2.2.1 bt416.2.2.2.2.2)))) = some r := H
         have A31 := yD A310
         clear A310
         obtain ⟨⟨t416, t417, t420, t423, t426, t429⟩, A320, H⟩ := zW_ H
         replace H : ((laws_toInt64S.f kj13 l2).bind fun t433 => ((impl_IsSelected.f kj13 t413 t416 t417 t420 t423 t426 t429 t433).bind fun t436 => (laws_FnExactIsSelected.j4 kj13 l0 l2 x8_13 t413 t433 t436 a1_0 l1_1 l1_2 l1_3 l1_4 l1_5 t416 t417 t420 t423 t426 t429))) = some r := H
         have A32 := yD A320
         clear A320
         obtain ⟨t433, A330, H⟩ := zW_ H
         replace H : ((impl_IsSelected.f kj13 t413 t416 t417 t420 t423 t426 t429 t433).bind fun t436 => (laws_FnExactIsSelected.j4 kj13 l0 l2 x8_13 t413 t433 t436 a1_0 l1_1 l1_2 l1_3 l1_4 l1_5 t416 t417 t420 t423 t426 t429)) = some r := H
         have A33 := yD A330
         clear A330
         have HC34 := yD H
         clear H
         go_upto_region 13 with (first | ((with_reducible refine gate_callee (f := 15) rfl ?_); refine goesL_ (some 32) rfl rfl Try.func15 (by kernel_rfl) rfl #[.slice A0 l0.length c0] rfl (by (try simp only [zK, zL, zM]); first | done | rfl | (simp only [zN, zO]; rfl)) ?_; (with_reducible refine (laws_toInt64S.calls kj13 _ _ l0 t413 _ ?side1 ?side2 A31.out).mono ?_); (case side1 => exact kV (yY HR0.out HB.out)); (case side2 => exact HC0.out); rintro e w35 ⟨v414, rfl, ho0, hb⟩; refine ⟨_, rfl, ?_⟩; have n0_ := yD (yZ ho0 (below_size (kB HB))); have n1_ := yD (zB (g := gb388) (o := .cells #[.int .i64 a1_0, .slice A1_1 l1_1.length c1_1, .slice A1_2 l1_2.length c1_2, .slice A1_3 l1_3.length c1_3, .slice A1_4 l1_4.length c1_4, .slice A1_5 l1_5.length c1_5] 35 (0, 0)) (kM BK388) hb); have n2_ := yD (zC (kB HB) hb); clear BK388; clear HB; have HO415 := n0_; have BK388 := n1_; have HB := n2_; clear n0_ n1_ n2_; (try clear hb); (try clear hb2); (try clear hk); (try clear hi); (try clear ho0); obtain ⟨hcz36_0, hcz36_1, hcz36_2, hcz36_3, hcz36_4, hcz36_5⟩ := cz6 BK388.out; obtain ⟨hfz36_0, hfz36_1, hfz36_2, hfz36_3, hfz36_4, hfz36_5⟩ := fz6 BK388.out) | ((with_reducible refine gate_callee (f := 16) rfl ?_); refine goesL_ (some 34) rfl rfl Try.func16 (by kernel_rfl) rfl #[.agg #[.int .i64 a1_0, .slice A1_1 l1_1.length c1_1, .slice A1_2 l1_2.length c1_2, .slice A1_3 l1_3.length c1_3, .slice A1_4 l1_4.length c1_4, .slice A1_5 l1_5.length c1_5]] rfl (by (try simp only [zK, zL, zM]); first | done | rfl | (simp only [zN, zO]; rfl)) ?_; (with_reducible refine (laws_toSelection.calls kj13 a1_0 _ _ l1_1 _ _ l1_2 _ _ l1_3 _ _ l1_4 _ _ l1_5 t416 t417 t420 t423 t426 t429 _ ?side1 ?side2 ?side3 ?side4 ?side5 ?side6 ?side7 ?side8 ?side9 ?side10 A32.out).mono ?_); (case side1 => exact kV (yY HR1_1.out HB.out)); (case side2 => exact HC1_1.out); (case side3 => exact kV (yY HR1_2.out HB.out)); (case side4 => exact HC1_2.out); (case side5 => exact kV (yY HR1_3.out HB.out)); (case side6 => exact HC1_3.out); (case side7 => exact kV (yY HR1_4.out HB.out)); (case side8 => exact HC1_4.out); (case side9 => exact kV (yY HR1_5.out HB.out)); (case side10 => exact HC1_5.out); rintro e w37 ⟨v418, v421, v424, v427, v430, rfl, ho0, ho1, ho2, ho3, ho4, hb⟩; refine ⟨_, rfl, ?_⟩; have n0_ := yD (zF (yI (yI (yI (yI (Kd.R_old (kA HO415) hb) (yH ho0)) (yH ho1)) (yH ho2)) (yH ho3)) (fun _ h_ => h_.1)); have n1_ := yD (yZ (yJ ho0 (yK (kA HO415))) (below_size (kB HB))); have n2_ := yD (yZ (yJ ho1 (yK (kA HO415))) (below_size (kB HB))); have n3_ := yD (yZ (yJ ho2 (yK (kA HO415))) (below_size (kB HB))); have n4_ := yD (yZ (yJ ho3 (yK (kA HO415))) (below_size (kB HB))); have n5_ := yD (zG (zD ho4 (yK (kA HO415))) (below_size (kB HB))); have n6_ := yD (zB (g := gb388) (o := .cells #[.int .i64 a1_0, .slice A1_1 l1_1.length c1_1, .slice A1_2 l1_2.length c1_2, .slice A1_3 l1_3.length c1_3, .slice A1_4 l1_4.length c1_4, .slice A1_5 l1_5.length c1_5] 35 (0, 0)) (kM BK388) hb); have n7_ := yD (zC (kB HB) hb); clear HO415; clear BK388; clear HB; have HO415 := n0_; have HO419 := n1_; have HO422 := n2_; have HO425 := n3_; have HO428 := n4_; have HO431 := n5_; have BK388 := n6_; have HB := n7_; clear n0_ n1_ n2_ n3_ n4_ n5_ n6_ n7_; (try clear hb); (try clear hb2); (try clear hk); (try clear hi); (try clear ho0); (try clear ho1); (try clear ho2); (try clear ho3); (try clear ho4)) | ((with_reducible refine gate_dst (N := 10) rfl ?_); refine box_event ?hg (N := 10) ?hd (cs := #[.int .i64 0, .slice none 0 0, .slice none 0 0, .slice none 0 0, .slice none 0 0, .slice none 0 0]) (t := 41) ?hr ?_; (case hd => rfl); (case hg => rfl); (case hr => first | (go_simp; done) | (go_simp; rfl)); intro gb432 hg w38 hbox hb; have n0_ := yD (zE (kA HO415) hb); have n1_ := yD (zE (kA HO419) hb); have n2_ := yD (zE (kA HO422) hb); have n3_ := yD (zE (kA HO425) hb); have n4_ := yD (zE (kA HO428) hb); have n5_ := yD (Kd.S_below (by (with_reducible repeat (first | apply yS | apply yT | apply yU)); exact HO431.out) hb); have n6_ := yD (zB (g := gb388) (o := .cells #[.int .i64 a1_0, .slice A1_1 l1_1.length c1_1, .slice A1_2 l1_2.length c1_2, .slice A1_3 l1_3.length c1_3, .slice A1_4 l1_4.length c1_4, .slice A1_5 l1_5.length c1_5] 35 (0, 0)) (kM BK388) hb); have n7_ := yD (zC (kB HB) hb); have n8_ := yD (hbox); have n9_ := yD ((by rw [hg]; exact (below_size (kB HB)) : w.heap.size ≤ gb432)); have n10_ := yD ((by rw [hg]; exact (below_size (kB HB)) : w.heap.size ≤ gb432)); have n11_ := yD ((by rw [hg]; exact Nat.ne_of_lt (blk_lt (g := gb388) (o := .cells #[.int .i64 a1_0, .slice A1_1 l1_1.length c1_1, .slice A1_2 l1_2.length c1_2, .slice A1_3 l1_3.length c1_3, .slice A1_4 l1_4.length c1_4, .slice A1_5 l1_5.length c1_5] 35 (0, 0)) (kM BK388)) : gb388 ≠ gb432)); have n12_ := yD ((by rw [hg]; exact Nat.ne_of_gt (blk_lt (g := gb388) (o := .cells #[.int .i64 a1_0, .slice A1_1 l1_1.length c1_1, .slice A1_2 l1_2.length c1_2, .slice A1_3 l1_3.length c1_3, .slice A1_4 l1_4.length c1_4, .slice A1_5 l1_5.length c1_5] 35 (0, 0)) (kM BK388)) : gb432 ≠ gb388)); clear HO415; clear HO419; clear HO422; clear HO425; clear HO428; clear HO431; clear BK388; clear HB; have HO415 := n0_; have HO419 := n1_; have HO422 := n2_; have HO425 := n3_; have HO428 := n4_; have HO431 := n5_; have BK388 := n6_; have HB := n7_; have BK432 := n8_; have GW432 := n9_; have GE432 := n10_; have NB388_432 := n11_; have NB432_388 := n12_; clear n0_ n1_ n2_ n3_ n4_ n5_ n6_ n7_ n8_ n9_ n10_ n11_ n12_; clear hb hbox hg; have hnb39 := NB432_388.out; have hnc39 := NB388_432.out; obtain ⟨hcz40_0, hcz40_1, hcz40_2, hcz40_3, hcz40_4, hcz40_5⟩ := cz6 BK432.out; obtain ⟨hfz40_0, hfz40_1, hfz40_2, hfz40_3, hfz40_4, hfz40_5⟩ := fz6 BK432.out; obtain ⟨Ao41, co41, eo41⟩ := Kd.R_slice HO419.out; subst eo41; obtain ⟨Ao42, co42, eo42⟩ := Kd.R_slice HO422.out; subst eo42; obtain ⟨Ao43, co43, eo43⟩ := Kd.R_slice HO425.out; subst eo43; obtain ⟨Ao44, co44, eo44⟩ := Kd.R_slice HO428.out; subst eo44; obtain ⟨Ao45, co45, eo45⟩ := Kd.S_slice HO431.out; subst eo45) | ((with_reducible refine gate_callee (f := 15) rfl ?_); refine goesL_ (some 36) rfl rfl Try.func15 (by kernel_rfl) rfl #[.slice A2 l2.length c2] rfl (by (try simp only [zK, zL, zM]); first | done | rfl | (simp only [zN, zO]; rfl)) ?_; (with_reducible refine (laws_toInt64S.calls kj13 _ _ l2 t433 _ ?side1 ?side2 A33.out).mono ?_); (case side1 => exact yY HR2.out (kB HB)); (case side2 => exact HC2.out); rintro e w46 ⟨v434, rfl, ho0, hb⟩; refine ⟨_, rfl, ?_⟩; have n0_ := yD (Kd.R_elder' (by (with_reducible repeat (first | apply yA | apply yB | apply yC)); exact (zF (yF (p := ⟨gb432, 5, none⟩) (yF (p := ⟨gb432, 4, none⟩) (yF (p := ⟨gb432, 3, none⟩) (yF (p := ⟨gb432, 2, none⟩) (yF (p := ⟨gb432, 1, none⟩) (yF (p := ⟨gb432, 0, none⟩) (Kd.R_types HO415.out BK432.out (by decide)) (fun _ hk => hk.2) (.int .i64 t416)) (fun _ hk => hk.2) (.slice Ao41 t417.length co41)) (fun _ hk => hk.2) (.slice Ao42 t420.length co42)) (fun _ hk => hk.2) (.slice Ao43 t423.length co43)) (fun _ hk => hk.2) (.slice Ao44 t426.length co44)) (fun _ hk => hk.2) (.slice Ao45 t429.length co45)) (fun _ h_ => h_.1))) (yH ho0) hb); have n1_ := yD (Kd.R_elder' (by (with_reducible repeat (first | apply yA | apply yB | apply yC)); exact (zF (yF (p := ⟨gb432, 5, none⟩) (yF (p := ⟨gb432, 4, none⟩) (yF (p := ⟨gb432, 3, none⟩) (yF (p := ⟨gb432, 2, none⟩) (yF (p := ⟨gb432, 1, none⟩) (yF (p := ⟨gb432, 0, none⟩) (Kd.R_types HO419.out BK432.out (by decide)) (fun _ hk => hk.2) (.int .i64 t416)) (fun _ hk => hk.2) (.slice Ao41 t417.length co41)) (fun _ hk => hk.2) (.slice Ao42 t420.length co42)) (fun _ hk => hk.2) (.slice Ao43 t423.length co43)) (fun _ hk => hk.2) (.slice Ao44 t426.length co44)) (fun _ hk => hk.2) (.slice Ao45 t429.length co45)) (fun _ h_ => h_.1))) (yH ho0) hb); have n2_ := yD (Kd.R_elder' (by (with_reducible repeat (first | apply yA | apply yB | apply yC)); exact (zF (yF (p := ⟨gb432, 5, none⟩) (yF (p := ⟨gb432, 4, none⟩) (yF (p := ⟨gb432, 3, none⟩) (yF (p := ⟨gb432, 2, none⟩) (yF (p := ⟨gb432, 1, none⟩) (yF (p := ⟨gb432, 0, none⟩) (Kd.R_types HO422.out BK432.out (by decide)) (fun _ hk => hk.2) (.int .i64 t416)) (fun _ hk => hk.2) (.slice Ao41 t417.length co41)) (fun _ hk => hk.2) (.slice Ao42 t420.length co42)) (fun _ hk => hk.2) (.slice Ao43 t423.length co43)) (fun _ hk => hk.2) (.slice Ao44 t426.length co44)) (fun _ hk => hk.2) (.slice Ao45 t429.length co45)) (fun _ h_ => h_.1))) (yH ho0) hb); have n3_ := yD (Kd.R_elder' (by (with_reducible repeat (first | apply yA | apply yB | apply yC)); exact (zF (yF (p := ⟨gb432, 5, none⟩) (yF (p := ⟨gb432, 4, none⟩) (yF (p := ⟨gb432, 3, none⟩) (yF (p := ⟨gb432, 2, none⟩) (yF (p := ⟨gb432, 1, none⟩) (yF (p := ⟨gb432, 0, none⟩) (Kd.R_types HO425.out BK432.out (by decide)) (fun _ hk => hk.2) (.int .i64 t416)) (fun _ hk => hk.2) (.slice Ao41 t417.length co41)) (fun _ hk => hk.2) (.slice Ao42 t420.length co42)) (fun _ hk => hk.2) (.slice Ao43 t423.length co43)) (fun _ hk => hk.2) (.slice Ao44 t426.length co44)) (fun _ hk => hk.2) (.slice Ao45 t429.length co45)) (fun _ h_ => h_.1))) (yH ho0) hb); have n4_ := yD (Kd.R_elder' (by (with_reducible repeat (first | apply yA | apply yB | apply yC)); exact (zF (yF (p := ⟨gb432, 5, none⟩) (yF (p := ⟨gb432, 4, none⟩) (yF (p := ⟨gb432, 3, none⟩) (yF (p := ⟨gb432, 2, none⟩) (yF (p := ⟨gb432, 1, none⟩) (yF (p := ⟨gb432, 0, none⟩) (Kd.R_types HO428.out BK432.out (by decide)) (fun _ hk => hk.2) (.int .i64 t416)) (fun _ hk => hk.2) (.slice Ao41 t417.length co41)) (fun _ hk => hk.2) (.slice Ao42 t420.length co42)) (fun _ hk => hk.2) (.slice Ao43 t423.length co43)) (fun _ hk => hk.2) (.slice Ao44 t426.length co44)) (fun _ hk => hk.2) (.slice Ao45 t429.length co45)) (fun _ h_ => h_.1))) (yH ho0) hb); have n5_ := yD (Kd.S_elder' (by (with_reducible repeat (first | apply yS | apply yT | apply yU)); exact (Kd.S_mono (Kd.S_far (p := ⟨gb432, 5, none⟩) (Kd.S_far (p := ⟨gb432, 4, none⟩) (Kd.S_far (p := ⟨gb432, 3, none⟩) (Kd.S_far (p := ⟨gb432, 2, none⟩) (Kd.S_far (p := ⟨gb432, 1, none⟩) (Kd.S_far (p := ⟨gb432, 0, none⟩) (Kd.S_types HO431.out BK432.out (by decide)) (fun _ hk => hk.2) (.int .i64 t416)) (fun _ hk => hk.2) (.slice Ao41 t417.length co41)) (fun _ hk => hk.2) (.slice Ao42 t420.length co42)) (fun _ hk => hk.2) (.slice Ao43 t423.length co43)) (fun _ hk => hk.2) (.slice Ao44 t426.length co44)) (fun _ hk => hk.2) (.slice Ao45 t429.length co45)) (fun _ h_ => h_.1))) (yH ho0) hb); have n6_ := yD (yZ (yJ (yJ (yJ (yJ (yJ ho0 (yK (by (with_reducible repeat (first | apply yA | apply yB | apply yC)); exact (zF (yF (p := ⟨gb432, 5, none⟩) (yF (p := ⟨gb432, 4, none⟩) (yF (p := ⟨gb432, 3, none⟩) (yF (p := ⟨gb432, 2, none⟩) (yF (p := ⟨gb432, 1, none⟩) (yF (p := ⟨gb432, 0, none⟩) (Kd.R_types HO415.out BK432.out (by decide)) (fun _ hk => hk.2) (.int .i64 t416)) (fun _ hk => hk.2) (.slice Ao41 t417.length co41)) (fun _ hk => hk.2) (.slice Ao42 t420.length co42)) (fun _ hk => hk.2) (.slice Ao43 t423.length co43)) (fun _ hk => hk.2) (.slice Ao44 t426.length co44)) (fun _ hk => hk.2) (.slice Ao45 t429.length co45)) (fun _ h_ => h_.1))))) (yK (by (with_reducible repeat (first | apply yA | apply yB | apply yC)); exact (zF (yF (p := ⟨gb432, 5, none⟩) (yF (p := ⟨gb432, 4, none⟩) (yF (p := ⟨gb432, 3, none⟩) (yF (p := ⟨gb432, 2, none⟩) (yF (p := ⟨gb432, 1, none⟩) (yF (p := ⟨gb432, 0, none⟩) (Kd.R_types HO419.out BK432.out (by decide)) (fun _ hk => hk.2) (.int .i64 t416)) (fun _ hk => hk.2) (.slice Ao41 t417.length co41)) (fun _ hk => hk.2) (.slice Ao42 t420.length co42)) (fun _ hk => hk.2) (.slice Ao43 t423.length co43)) (fun _ hk => hk.2) (.slice Ao44 t426.length co44)) (fun _ hk => hk.2) (.slice Ao45 t429.length co45)) (fun _ h_ => h_.1))))) (yK (by (with_reducible repeat (first | apply yA | apply yB | apply yC)); exact (zF (yF (p := ⟨gb432, 5, none⟩) (yF (p := ⟨gb432, 4, none⟩) (yF (p := ⟨gb432, 3, none⟩) (yF (p := ⟨gb432, 2, none⟩) (yF (p := ⟨gb432, 1, none⟩) (yF (p := ⟨gb432, 0, none⟩) (Kd.R_types HO422.out BK432.out (by decide)) (fun _ hk => hk.2) (.int .i64 t416)) (fun _ hk => hk.2) (.slice Ao41 t417.length co41)) (fun _ hk => hk.2) (.slice Ao42 t420.length co42)) (fun _ hk => hk.2) (.slice Ao43 t423.length co43)) (fun _ hk => hk.2) (.slice Ao44 t426.length co44)) (fun _ hk => hk.2) (.slice Ao45 t429.length co45)) (fun _ h_ => h_.1))))) (yK (by (with_reducible repeat (first | apply yA | apply yB | apply yC)); exact (zF (yF (p := ⟨gb432, 5, none⟩) (yF (p := ⟨gb432, 4, none⟩) (yF (p := ⟨gb432, 3, none⟩) (yF (p := ⟨gb432, 2, none⟩) (yF (p := ⟨gb432, 1, none⟩) (yF (p := ⟨gb432, 0, none⟩) (Kd.R_types HO425.out BK432.out (by decide)) (fun _ hk => hk.2) (.int .i64 t416)) (fun _ hk => hk.2) (.slice Ao41 t417.length co41)) (fun _ hk => hk.2) (.slice Ao42 t420.length co42)) (fun _ hk => hk.2) (.slice Ao43 t423.length co43)) (fun _ hk => hk.2) (.slice Ao44 t426.length co44)) (fun _ hk => hk.2) (.slice Ao45 t429.length co45)) (fun _ h_ => h_.1))))) (yK (by (with_reducible repeat (first | apply yA | apply yB | apply yC)); exact (zF (yF (p := ⟨gb432, 5, none⟩) (yF (p := ⟨gb432, 4, none⟩) (yF (p := ⟨gb432, 3, none⟩) (yF (p := ⟨gb432, 2, none⟩) (yF (p := ⟨gb432, 1, none⟩) (yF (p := ⟨gb432, 0, none⟩) (Kd.R_types HO428.out BK432.out (by decide)) (fun _ hk => hk.2) (.int .i64 t416)) (fun _ hk => hk.2) (.slice Ao41 t417.length co41)) (fun _ hk => hk.2) (.slice Ao42 t420.length co42)) (fun _ hk => hk.2) (.slice Ao43 t423.length co43)) (fun _ hk => hk.2) (.slice Ao44 t426.length co44)) (fun _ hk => hk.2) (.slice Ao45 t429.length co45)) (fun _ h_ => h_.1))))) (below_size (kB HB))); have n7_ := yD (zB (g := gb388) (o := .cells #[.int .i64 a1_0, .slice A1_1 l1_1.length c1_1, .slice A1_2 l1_2.length c1_2, .slice A1_3 l1_3.length c1_3, .slice A1_4 l1_4.length c1_4, .slice A1_5 l1_5.length c1_5] 35 (0, 0)) (by (with_reducible repeat (first | refine yM ?_ _ | refine yO ?_ | refine yN ?_ _)); refine blk_far ?_ NB388_432.out _; (with_reducible repeat (first | refine yM ?_ _ | refine yO ?_ | refine yN ?_ _)); refine blk_far ?_ NB388_432.out _; (with_reducible repeat (first | refine yM ?_ _ | refine yO ?_ | refine yN ?_ _)); refine blk_far ?_ NB388_432.out _; (with_reducible repeat (first | refine yM ?_ _ | refine yO ?_ | refine yN ?_ _)); refine blk_far ?_ NB388_432.out _; (with_reducible repeat (first | refine yM ?_ _ | refine yO ?_ | refine yN ?_ _)); refine blk_far ?_ NB388_432.out _; (with_reducible repeat (first | refine yM ?_ _ | refine yO ?_ | refine yN ?_ _)); refine blk_far ?_ NB388_432.out _; (with_reducible repeat (first | refine yM ?_ _ | refine yO ?_ | refine yN ?_ _)); exact BK388.out) hb); have n8_ := yD (zB (g := gb432) (o := .cells #[.int .i64 t416, .slice Ao41 t417.length co41, .slice Ao42 t420.length co42, .slice Ao43 t423.length co43, .slice Ao44 t426.length co44, .slice Ao45 t429.length co45] 41 (0, 0)) (by (with_reducible repeat (first | refine yM ?_ _ | refine yO ?_ | refine yN ?_ _)); refine blk_put (cs := #[.int .i64 t416, .slice Ao41 t417.length co41, .slice Ao42 t420.length co42, .slice Ao43 t423.length co43, .slice Ao44 t426.length co44, .slice none 0 0]) ?_ 5 _ rfl; (with_reducible repeat (first | refine yM ?_ _ | refine yO ?_ | refine yN ?_ _)); refine blk_put (cs := #[.int .i64 t416, .slice Ao41 t417.length co41, .slice Ao42 t420.length co42, .slice Ao43 t423.length co43, .slice none 0 0, .slice none 0 0]) ?_ 4 _ rfl; (with_reducible repeat (first | refine yM ?_ _ | refine yO ?_ | refine yN ?_ _)); refine blk_put (cs := #[.int .i64 t416, .slice Ao41 t417.length co41, .slice Ao42 t420.length co42, .slice none 0 0, .slice none 0 0, .slice none 0 0]) ?_ 3 _ rfl; (with_reducible repeat (first | refine yM ?_ _ | refine yO ?_ | refine yN ?_ _)); refine blk_put (cs := #[.int .i64 t416, .slice Ao41 t417.length co41, .slice none 0 0, .slice none 0 0, .slice none 0 0, .slice none 0 0]) ?_ 2 _ rfl; (with_reducible repeat (first | refine yM ?_ _ | refine yO ?_ | refine yN ?_ _)); refine blk_put (cs := #[.int .i64 t416, .slice none 0 0, .slice none 0 0, .slice none 0 0, .slice none 0 0, .slice none 0 0]) ?_ 1 _ rfl; (with_reducible repeat (first | refine yM ?_ _ | refine yO ?_ | refine yN ?_ _)); refine blk_put (cs := #[.int .i64 0, .slice none 0 0, .slice none 0 0, .slice none 0 0, .slice none 0 0, .slice none 0 0]) ?_ 0 _ rfl; (with_reducible repeat (first | refine yM ?_ _ | refine yO ?_ | refine yN ?_ _)); exact BK432.out) hb); have n9_ := yD (zC (kB HB) hb); clear HO415; clear HO419; clear HO422; clear HO425; clear HO428; clear HO431; clear BK388; clear BK432; clear HB; have HO415 := n0_; have HO419 := n1_; have HO422 := n2_; have HO425 := n3_; have HO428 := n4_; have HO431 := n5_; have HO435 := n6_; have BK388 := n7_; have BK432 := n8_; have HB := n9_; clear n0_ n1_ n2_ n3_ n4_ n5_ n6_ n7_ n8_ n9_; (try clear hb); (try clear hb2); (try clear hk); (try clear hi); (try clear ho0)))
         (try simp only [Act.put, zH, zI, zJ])
         go_cut [12] (fun v12 wc => ∃ (kq : Nat) (x12_33 : Bool), v12 = .bool x12_33 ∧ Aside0 (laws_FnExactIsSelected.j4 kq l0 l2 x8_13 t413 t433 x12_33 a1_0 l1_1 l1_2 l1_3 l1_4 l1_5 t416 t417 t420 t423 t426 t429 = some r) ∧ Aside0 (kq ≤ kj13) ∧ Aside0 (Kd.R (Kd.int .i64) 2 wc w.heap.size (fun k_ => some k_ ≠ (v434 : Value).ownBlock ∧ some k_ ≠ ((.slice Ao41 t417.length co41) : Value).ownBlock ∧ some k_ ≠ ((.slice Ao42 t420.length co42) : Value).ownBlock ∧ some k_ ≠ ((.slice Ao43 t423.length co43) : Value).ownBlock ∧ some k_ ≠ ((.slice Ao44 t426.length co44) : Value).ownBlock) v414 t413) ∧ Aside0 (Kd.R (Kd.int .i64) 2 wc w.heap.size (fun k_ => some k_ ≠ (v414 : Value).ownBlock ∧ some k_ ≠ ((.slice Ao41 t417.length co41) : Value).ownBlock ∧ some k_ ≠ ((.slice Ao42 t420.length co42) : Value).ownBlock ∧ some k_ ≠ ((.slice Ao43 t423.length co43) : Value).ownBlock ∧ some k_ ≠ ((.slice Ao44 t426.length co44) : Value).ownBlock) v434 t433) ∧ Aside0 (Kd.R (Kd.int .i64) 2 wc w.heap.size (fun k_ => some k_ ≠ (v414 : Value).ownBlock ∧ some k_ ≠ (v434 : Value).ownBlock ∧ some k_ ≠ ((.slice Ao42 t420.length co42) : Value).ownBlock ∧ some k_ ≠ ((.slice Ao43 t423.length co43) : Value).ownBlock ∧ some k_ ≠ ((.slice Ao44 t426.length co44) : Value).ownBlock) (.slice Ao41 t417.length co41) t417) ∧ Aside0 (Kd.R (Kd.int .i64) 2 wc w.heap.size (fun k_ => some k_ ≠ (v414 : Value).ownBlock ∧ some k_ ≠ (v434 : Value).ownBlock ∧ some k_ ≠ ((.slice Ao41 t417.length co41) : Value).ownBlock ∧ some k_ ≠ ((.slice Ao43 t423.length co43) : Value).ownBlock ∧ some k_ ≠ ((.slice Ao44 t426.length co44) : Value).ownBlock) (.slice Ao42 t420.length co42) t420) ∧ Aside0 (Kd.R (Kd.int .i64) 2 wc w.heap.size (fun k_ => some k_ ≠ (v414 : Value).ownBlock ∧ some k_ ≠ (v434 : Value).ownBlock ∧ some k_ ≠ ((.slice Ao41 t417.length co41) : Value).ownBlock ∧ some k_ ≠ ((.slice Ao42 t420.length co42) : Value).ownBlock ∧ some k_ ≠ ((.slice Ao44 t426.length co44) : Value).ownBlock) (.slice Ao43 t423.length co43) t423) ∧ Aside0 (Kd.R (Kd.int .i64) 2 wc w.heap.size (fun k_ => some k_ ≠ (v414 : Value).ownBlock ∧ some k_ ≠ (v434 : Value).ownBlock ∧ some k_ ≠ ((.slice Ao41 t417.length co41) : Value).ownBlock ∧ some k_ ≠ ((.slice Ao42 t420.length co42) : Value).ownBlock ∧ some k_ ≠ ((.slice Ao43 t423.length co43) : Value).ownBlock) (.slice Ao44 t426.length co44) t426) ∧ Aside0 (Kd.S k65 65 wc w.heap.size (fun k_ => some k_ ≠ (v414 : Value).ownBlock ∧ some k_ ≠ (v434 : Value).ownBlock ∧ some k_ ≠ ((.slice Ao41 t417.length co41) : Value).ownBlock ∧ some k_ ≠ ((.slice Ao42 t420.length co42) : Value).ownBlock ∧ some k_ ≠ ((.slice Ao43 t423.length co43) : Value).ownBlock ∧ some k_ ≠ ((.slice Ao44 t426.length co44) : Value).ownBlock) (.slice Ao45 t429.length co45) t429) ∧ Aside0 (wc.heap[gb388]? = some (.cells #[.int .i64 a1_0, (.slice A1_1 l1_1.length c1_1), (.slice A1_2 l1_2.length c1_2), (.slice A1_3 l1_3.length c1_3), (.slice A1_4 l1_4.length c1_4), (.slice A1_5 l1_5.length c1_5)] 35 (0, 0))) ∧ Aside0 (wc.heap[gb432]? = some (.cells #[.int .i64 t416, (.slice Ao41 t417.length co41), (.slice Ao42 t420.length co42), (.slice Ao43 t423.length co43), (.slice Ao44 t426.length co44), (.slice Ao45 t429.length co45)] 41 (0, 0))) ∧ Aside0 (Below w.heap.size w wc))
         case first =>
          have H := HC34.out; clear HC34
          obtain ⟨t436, A470, H⟩ := zW_ H
          replace H : (laws_FnExactIsSelected.j4 kj13 l0 l2 x8_13 t413 t433 t436 a1_0 l1_1 l1_2 l1_3 l1_4 l1_5 t416 t417 t420 t423 t426 t429) = some r := H
          have A47 := yD A470
          clear A470
          have H' := yD H
          clear H; have hnb48 := NB432_388.out; have hnc48 := NB388_432.out
          obtain ⟨hcz49_0, hcz49_1, hcz49_2, hcz49_3, hcz49_4, hcz49_5⟩ := cz6 BK432.out
          obtain ⟨hfz49_0, hfz49_1, hfz49_2, hfz49_3, hfz49_4, hfz49_5⟩ := fz6 BK432.out
          obtain ⟨Ao50, co50, eo50⟩ := Kd.R_slice HO415.out
          subst eo50
          obtain ⟨Ao51, co51, eo51⟩ := Kd.R_slice HO435.out
          subst eo51
          go_wp2_with (first | ((with_reducible refine gate_callee (f := 21) rfl ?_); refine goesL_ (some 40) rfl rfl Try.func21 (by kernel_rfl) rfl #[.slice Ao50 t413.length co50, .agg #[.int .i64 t416, .slice Ao41 t417.length co41, .slice Ao42 t420.length co42, .slice Ao43 t423.length co43, .slice Ao44 t426.length co44, .slice Ao45 t429.length co45], .slice Ao51 t433.length co51] rfl (by (try simp only [zK, zL, zM]); first | done | rfl | (simp only [zN, zO]; rfl)) ?_; (with_reducible refine (impl_IsSelected.calls kj13 _ _ t413 t416 _ _ t417 _ _ t420 _ _ t423 _ _ t426 _ _ t429 _ _ t433 t436 _ ?side1 ?side2 ?side3 ?side4 ?side5 ?side6 ?side7 ?side8 ?side9 ?side10 ?side11 ?side12 ?side13 ?side14 A47.out).mono ?_); (case side1 => exact kV (zA HO415.out).2.2); (case side2 => exact (zA HO415.out).2.1); (case side3 => exact kV (zA HO419.out).2.2); (case side4 => exact (zA HO419.out).2.1); (case side5 => exact kV (zA HO422.out).2.2); (case side6 => exact (zA HO422.out).2.1); (case side7 => exact kV (zA HO425.out).2.2); (case side8 => exact (zA HO425.out).2.1); (case side9 => exact kV (zA HO428.out).2.2); (case side10 => exact (zA HO428.out).2.1); (case side11 => exact kV (Kd.S_reads' HO431.out).2.2); (case side12 => exact (Kd.S_reads' HO431.out).2.1); (case side13 => exact kV (zA HO435.out).2.2); (case side14 => exact (zA HO435.out).2.1); rintro e w52 ⟨rfl, hb⟩; refine ⟨_, rfl, ?_⟩; have n0_ := yD (zE (kA HO415) hb); have n1_ := yD (zE (kA HO419) hb); have n2_ := yD (zE (kA HO422) hb); have n3_ := yD (zE (kA HO425) hb); have n4_ := yD (zE (kA HO428) hb); have n5_ := yD (Kd.S_below (by (with_reducible repeat (first | apply yS | apply yT | apply yU)); exact HO431.out) hb); have n6_ := yD (zE (kA HO435) hb); have n7_ := yD (zB (g := gb388) (o := .cells #[.int .i64 a1_0, .slice A1_1 l1_1.length c1_1, .slice A1_2 l1_2.length c1_2, .slice A1_3 l1_3.length c1_3, .slice A1_4 l1_4.length c1_4, .slice A1_5 l1_5.length c1_5] 35 (0, 0)) (kM BK388) hb); have n8_ := yD (zB (g := gb432) (o := .cells #[.int .i64 t416, .slice Ao41 t417.length co41, .slice Ao42 t420.length co42, .slice Ao43 t423.length co43, .slice Ao44 t426.length co44, .slice Ao45 t429.length co45] 41 (0, 0)) (kM BK432) hb); have n9_ := yD (zC (kB HB) hb); clear HO415; clear HO419; clear HO422; clear HO425; clear HO428; clear HO431; clear HO435; clear BK388; clear BK432; clear HB; have HO415 := n0_; have HO419 := n1_; have HO422 := n2_; have HO425 := n3_; have HO428 := n4_; have HO431 := n5_; have HO435 := n6_; have BK388 := n7_; have BK432 := n8_; have HB := n9_; clear n0_ n1_ n2_ n3_ n4_ n5_ n6_ n7_ n8_ n9_; (try clear hb); (try clear hb2); (try clear hk); (try clear hi)))
          go_meet
          case rel => exact ⟨_, (t436), (by first | rfl | (simp; done) | (simp [*]; done)), H', ⟨by have := HJ3.out; have := HJ6.out; have := HJ9.out; have := HJ13.out; first | omega | exact Nat.le_refl _⟩, ⟨by (with_reducible repeat (first | apply yA | apply yB | apply yC)); exact zF HO415.out (fun _ hk => ⟨hk.2, ⟨hk.1.1.1.1.2, ⟨hk.1.1.1.2, ⟨hk.1.1.2, hk.1.2⟩⟩⟩⟩)⟩, ⟨by (with_reducible repeat (first | apply yA | apply yB | apply yC)); exact zF HO435.out (fun _ hk => ⟨hk.1.1.1.1.2, ⟨hk.1.1.1.2, ⟨hk.1.1.2, ⟨hk.1.2, hk.2⟩⟩⟩⟩)⟩, ⟨by (with_reducible repeat (first | apply yA | apply yB | apply yC)); exact zF HO419.out (fun _ hk => ⟨hk.1.2, ⟨hk.2, ⟨hk.1.1.1, ⟨hk.1.1.2.1, hk.1.1.2.2⟩⟩⟩⟩)⟩, ⟨by (with_reducible repeat (first | apply yA | apply yB | apply yC)); exact zF HO422.out (fun _ hk => ⟨hk.1.2, ⟨hk.2, ⟨hk.1.1.1, ⟨hk.1.1.2.1, hk.1.1.2.2⟩⟩⟩⟩)⟩, ⟨by (with_reducible repeat (first | apply yA | apply yB | apply yC)); exact zF HO425.out (fun _ hk => ⟨hk.1.2, ⟨hk.2, ⟨hk.1.1.1, ⟨hk.1.1.2.1, hk.1.1.2.2⟩⟩⟩⟩)⟩, ⟨by (with_reducible repeat (first | apply yA | apply yB | apply yC)); exact zF HO428.out (fun _ hk => ⟨hk.1.2, ⟨hk.2, ⟨hk.1.1.1, ⟨hk.1.1.2.1, hk.1.1.2.2⟩⟩⟩⟩)⟩, ⟨by (with_reducible repeat (first | apply yS | apply yT | apply yU)); exact Kd.S_mono HO431.out (fun _ hk => ⟨hk.1.2, ⟨hk.2, ⟨hk.1.1.1, ⟨hk.1.1.2.1, ⟨hk.1.1.2.2.1, hk.1.1.2.2.2⟩⟩⟩⟩⟩)⟩, ⟨by (with_reducible repeat (first | refine yM ?_ _ | refine yO ?_ | refine yN ?_ _)); exact BK388.out⟩, ⟨by (with_reducible repeat (first | refine yM ?_ _ | refine yO ?_ | refine yN ?_ _)); exact BK432.out⟩, ⟨by repeat (first | (with_reducible first | exact HB.out | apply yQ | apply yL | apply yP | refine yE ?_ GE388.out | refine yE ?_ GE432.out) | exact HB.out)⟩⟩
         case rest =>
          clear HC34; try clear c1; try clear c2; try clear p2; try clear c3; try clear c4; try clear c5; try clear c6; try clear c6b0; try clear c6b1; try clear c8; try clear c8b0; try clear c8b1; try clear c13; try clear c13b0; try clear c15; try clear c16; try clear c20; try clear c21; try clear c39; try clear c48; try clear hcz11_0; try clear hcz11_1; try clear hcz11_2; try clear hcz11_3; try clear hcz11_4; try clear hcz11_5; try clear hcz36_0; try clear hcz36_1; try clear hcz36_2; try clear hcz36_3; try clear hcz36_4; try clear hcz36_5; try clear hcz40_0; try clear hcz40_1; try clear hcz40_2; try clear hcz40_3; try clear hcz40_4; try clear hcz40_5; try clear hcz49_0; try clear hcz49_1; try clear hcz49_2; try clear hcz49_3; try clear hcz49_4; try clear hcz49_5; try clear hfz11_0; try clear hfz11_1; try clear hfz11_2; try clear hfz11_3; try clear hfz11_4; try clear hfz11_5; try clear hfz36_0; try clear hfz36_1; try clear hfz36_2; try clear hfz36_3; try clear hfz36_4; try clear hfz36_5; try clear hfz40_0; try clear hfz40_1; try clear hfz40_2; try clear hfz40_3; try clear hfz40_4; try clear hfz40_5; try clear hfz49_0; try clear hfz49_1; try clear hfz49_2; try clear hfz49_3; try clear hfz49_4; try clear hfz49_5; try clear p2
          obtain ⟨kq, x12_33, rfl, HA, HJ33, HO_9, HO_11, HO_433001, HO_433002, HO_433003, HO_433004, HO_433005, BK388, BK432, HB⟩ := hcut
          cases kq with
          | zero => exact absurd HA.out (by simp [laws_FnExactIsSelected.j4])
          | succ kj33 =>
           have H := HA.out; clear HA
           simp only [laws_FnExactIsSelected.j4] at H
           have HC53 := yD H
           clear H
           go_upto_if 43 with (fail)
           go_cut [] (fun wc => ∃ (kq : Nat), Aside0 (laws_FnExactIsSelected.j5 kq l0 l2 t413 t433 a1_0 l1_1 l1_2 l1_3 l1_4 l1_5 t416 t417 t420 t423 t426 t429 = some r) ∧ Aside0 (kq ≤ kj33) ∧ Aside0 (Kd.R (Kd.int .i64) 2 wc w.heap.size (fun k_ => some k_ ≠ (v434 : Value).ownBlock ∧ some k_ ≠ ((.slice Ao41 t417.length co41) : Value).ownBlock ∧ some k_ ≠ ((.slice Ao42 t420.length co42) : Value).ownBlock ∧ some k_ ≠ ((.slice Ao43 t423.length co43) : Value).ownBlock ∧ some k_ ≠ ((.slice Ao44 t426.length co44) : Value).ownBlock) v414 t413) ∧ Aside0 (Kd.R (Kd.int .i64) 2 wc w.heap.size (fun k_ => some k_ ≠ (v414 : Value).ownBlock ∧ some k_ ≠ ((.slice Ao41 t417.length co41) : Value).ownBlock ∧ some k_ ≠ ((.slice Ao42 t420.length co42) : Value).ownBlock ∧ some k_ ≠ ((.slice Ao43 t423.length co43) : Value).ownBlock ∧ some k_ ≠ ((.slice Ao44 t426.length co44) : Value).ownBlock) v434 t433) ∧ Aside0 (Kd.R (Kd.int .i64) 2 wc w.heap.size (fun k_ => some k_ ≠ (v414 : Value).ownBlock ∧ some k_ ≠ (v434 : Value).ownBlock ∧ some k_ ≠ ((.slice Ao42 t420.length co42) : Value).ownBlock ∧ some k_ ≠ ((.slice Ao43 t423.length co43) : Value).ownBlock ∧ some k_ ≠ ((.slice Ao44 t426.length co44) : Value).ownBlock) (.slice Ao41 t417.length co41) t417) ∧ Aside0 (Kd.R (Kd.int .i64) 2 wc w.heap.size (fun k_ => some k_ ≠ (v414 : Value).ownBlock ∧ some k_ ≠ (v434 : Value).ownBlock ∧ some k_ ≠ ((.slice Ao41 t417.length co41) : Value).ownBlock ∧ some k_ ≠ ((.slice Ao43 t423.length co43) : Value).ownBlock ∧ some k_ ≠ ((.slice Ao44 t426.length co44) : Value).ownBlock) (.slice Ao42 t420.length co42) t420) ∧ Aside0 (Kd.R (Kd.int .i64) 2 wc w.heap.size (fun k_ => some k_ ≠ (v414 : Value).ownBlock ∧ some k_ ≠ (v434 : Value).ownBlock ∧ some k_ ≠ ((.slice Ao41 t417.length co41) : Value).ownBlock ∧ some k_ ≠ ((.slice Ao42 t420.length co42) : Value).ownBlock ∧ some k_ ≠ ((.slice Ao44 t426.length co44) : Value).ownBlock) (.slice Ao43 t423.length co43) t423) ∧ Aside0 (Kd.R (Kd.int .i64) 2 wc w.heap.size (fun k_ => some k_ ≠ (v414 : Value).ownBlock ∧ some k_ ≠ (v434 : Value).ownBlock ∧ some k_ ≠ ((.slice Ao41 t417.length co41) : Value).ownBlock ∧ some k_ ≠ ((.slice Ao42 t420.length co42) : Value).ownBlock ∧ some k_ ≠ ((.slice Ao43 t423.length co43) : Value).ownBlock) (.slice Ao44 t426.length co44) t426) ∧ Aside0 (Kd.S k65 65 wc w.heap.size (fun k_ => some k_ ≠ (v414 : Value).ownBlock ∧ some k_ ≠ (v434 : Value).ownBlock ∧ some k_ ≠ ((.slice Ao41 t417.length co41) : Value).ownBlock ∧ some k_ ≠ ((.slice Ao42 t420.length co42) : Value).ownBlock ∧ some k_ ≠ ((.slice Ao43 t423.length co43) : Value).ownBlock ∧ some k_ ≠ ((.slice Ao44 t426.length co44) : Value).ownBlock) (.slice Ao45 t429.length co45) t429) ∧ Aside0 (wc.heap[gb388]? = some (.cells #[.int .i64 a1_0, (.slice A1_1 l1_1.length c1_1), (.slice A1_2 l1_2.length c1_2), (.slice A1_3 l1_3.length c1_3), (.slice A1_4 l1_4.length c1_4), (.slice A1_5 l1_5.length c1_5)] 35 (0, 0))) ∧ Aside0 (wc.heap[gb432]? = some (.cells #[.int .i64 t416, (.slice Ao41 t417.length co41), (.slice Ao42 t420.length co42), (.slice Ao43 t423.length co43), (.slice Ao44 t426.length co44), (.slice Ao45 t429.length co45)] 41 (0, 0))) ∧ Aside0 (Below w.heap.size w wc))
           case first =>
            have H := HC53.out; clear HC53
            by_cases c54 : (x12_33 != x8_13) = true
            ·
             rw [if_pos c54] at H
             have c54b0 : (x12_33 != x8_13) = true := c54
             (try (have c54b1 : decide (x12_33 = x8_13) = false := by simpa using c54))
             (try (have c54b2 : (x12_33 == x8_13) = false := by simpa using c54))
             (try (have c54b3 : ¬ (x12_33 = x8_13) := by simpa using c54))
             clear c54
             (first | rw [c54b0] | (simp only [i64_w, i32_w]; rw [c54b0]) | (simp only [bne] at c54b0; rw [c54b0]) | skip)
             obtain rfl := Option.some.inj H
             go_wp2
             go_ret
             exact ⟨by first | rfl | (simp <;> rfl) | (simp [*] <;> rfl), by repeat (first | (with_reducible first | exact HB.out | apply yQ | apply yL | apply yP | refine yE ?_ GE388.out | refine yE ?_ GE432.out) | exact HB.out)⟩
            ·
             rw [if_neg c54] at H
             have c54b0 : (x12_33 != x8_13) = false := by simpa using c54
             (try (have c54b1 : decide (x12_33 = x8_13) = true := by simpa using c54))
             (try (have c54b2 : (x12_33 == x8_13) = true := by simpa using c54))
             clear c54
             (first | rw [c54b0] | (simp only [i64_w, i32_w]; rw [c54b0]) | (simp only [bne] at c54b0; rw [c54b0]) | skip)
             have H' := yD H
             clear H
             go_wp2
             go_meet
             case rel => exact ⟨_, H', ⟨by have := HJ3.out; have := HJ6.out; have := HJ9.out; have := HJ13.out; have := HJ33.out; first | omega | exact Nat.le_refl _⟩, ⟨by (with_reducible repeat (first | apply yA | apply yB | apply yC)); exact HO_9.out⟩, ⟨by (with_reducible repeat (first | apply yA | apply yB | apply yC)); exact HO_11.out⟩, ⟨by (with_reducible repeat (first | apply yA | apply yB | apply yC)); exact HO_433001.out⟩, ⟨by (with_reducible repeat (first | apply yA | apply yB | apply yC)); exact HO_433002.out⟩, ⟨by (with_reducible repeat (first | apply yA | apply yB | apply yC)); exact HO_433003.out⟩, ⟨by (with_reducible repeat (first | apply yA | apply yB | apply yC)); exact HO_433004.out⟩, ⟨by (with_reducible repeat (first | apply yS | apply yT | apply yU)); exact HO_433005.out⟩, ⟨by (with_reducible repeat (first | refine yM ?_ _ | refine yO ?_ | refine yN ?_ _)); exact BK388.out⟩, ⟨by (with_reducible repeat (first | refine yM ?_ _ | refine yO ?_ | refine yN ?_ _)); exact BK432.out⟩, ⟨by repeat (first | (with_reducible first | exact HB.out | apply yQ | apply yL | apply yP | refine yE ?_ GE388.out | refine yE ?_ GE432.out) | exact HB.out)⟩⟩
           case rest =>
            clear HC53; try clear c1; try clear c2; try clear p2; try clear c3; try clear c4; try clear c5; try clear c6; try clear c6b0; try clear c6b1; try clear c8; try clear c8b0; try clear c8b1; try clear c13; try clear c13b0; try clear c15; try clear c16; try clear c20; try clear c21; try clear c39; try clear c48; try clear c54; try clear c54b0; try clear c54b1; try clear c54b2; try clear hcz11_0; try clear hcz11_1; try clear hcz11_2; try clear hcz11_3; try clear hcz11_4; try clear hcz11_5; try clear hcz36_0; try clear hcz36_1; try clear hcz36_2; try clear hcz36_3; try clear hcz36_4; try clear hcz36_5; try clear hcz40_0; try clear hcz40_1; try clear hcz40_2; try clear hcz40_3; try clear hcz40_4; try clear hcz40_5; try clear hcz49_0; try clear hcz49_1; try clear hcz49_2; try clear hcz49_3; try clear hcz49_4; try clear hcz49_5; try clear hfz11_0; try clear hfz11_1; try clear hfz11_2; try clear hfz11_3; try clear hfz11_4; try clear hfz11_5; try clear hfz36_0; try clear hfz36_1; try clear hfz36_2; try clear hfz36_3; try clear hfz36_4; try clear hfz36_5; try clear hfz40_0; try clear hfz40_1; try clear hfz40_2; try clear hfz40_3; try clear hfz40_4; try clear hfz40_5; try clear hfz49_0; try clear hfz49_1; try clear hfz49_2; try clear hfz49_3; try clear hfz49_4; try clear hfz49_5; try clear p2
            obtain ⟨kq, HA, HJ52, HO_9, HO_11, HO_433001, HO_433002, HO_433003, HO_433004, HO_433005, BK388, BK432, HB⟩ := hcut
            cases kq with
            | zero => exact absurd HA.out (by simp [laws_FnExactIsSelected.j5])
            | succ kj52 =>
             have H := HA.out; clear HA
             simp only [laws_FnExactIsSelected.j5] at H
             obtain ⟨t437, A550, H⟩ := zW_ H
             replace H : ((laws_eqInt64S.f kj52 t413 t437).bind fun t440 => (if t440 = true then (laws_FnExactIsSelected.j6 kj52 l2 t433 a1_0 l1_1 l1_2 l1_3 l1_4 l1_5 t416 t417 t420 t423 t426 t429) else (some false))) = some r := H
             have A55 := yD A550
             clear A550
             obtain ⟨t440, A560, H⟩ := zW_ H
             replace H : (if t440 = true then (laws_FnExactIsSelected.j6 kj52 l2 t433 a1_0 l1_1 l1_2 l1_3 l1_4 l1_5 t416 t417 t420 t423 t426 t429) else (some false)) = some r := H
             have A56 := yD A560
             clear A560
             have HC57 := yD H
             clear H
             go_upto_if 48 with (first | ((with_reducible refine gate_callee (f := 15) rfl ?_); refine goesL_ (some 46) rfl rfl Try.func15 (by kernel_rfl) rfl #[.slice A0 l0.length c0] rfl (by (try simp only [zK, zL, zM]); first | done | rfl | (simp only [zN, zO]; rfl)) ?_; (with_reducible refine (laws_toInt64S.calls kj52 _ _ l0 t437 _ ?side1 ?side2 A55.out).mono ?_); (case side1 => exact kV (yY HR0.out HB.out)); (case side2 => exact HC0.out); rintro e w58 ⟨v438, rfl, ho0, hb⟩; refine ⟨_, rfl, ?_⟩; have n0_ := yD (Kd.R_elder' (kA HO_9) (yH ho0) hb); have n1_ := yD (Kd.R_elder' (kA HO_11) (yH ho0) hb); have n2_ := yD (Kd.R_elder' (kA HO_433001) (yH ho0) hb); have n3_ := yD (Kd.R_elder' (kA HO_433002) (yH ho0) hb); have n4_ := yD (Kd.R_elder' (kA HO_433003) (yH ho0) hb); have n5_ := yD (Kd.R_elder' (kA HO_433004) (yH ho0) hb); have n6_ := yD (Kd.S_elder' (by (with_reducible repeat (first | apply yS | apply yT | apply yU)); exact HO_433005.out) (yH ho0) hb); have n7_ := yD (yZ (yJ (yJ (yJ (yJ (yJ (yJ ho0 (yK (kA HO_9))) (yK (kA HO_11))) (yK (kA HO_433001))) (yK (kA HO_433002))) (yK (kA HO_433003))) (yK (kA HO_433004))) (below_size (kB HB))); have n8_ := yD (zB (g := gb388) (o := .cells #[.int .i64 a1_0, .slice A1_1 l1_1.length c1_1, .slice A1_2 l1_2.length c1_2, .slice A1_3 l1_3.length c1_3, .slice A1_4 l1_4.length c1_4, .slice A1_5 l1_5.length c1_5] 35 (0, 0)) (kM BK388) hb); have n9_ := yD (zB (g := gb432) (o := .cells #[.int .i64 t416, .slice Ao41 t417.length co41, .slice Ao42 t420.length co42, .slice Ao43 t423.length co43, .slice Ao44 t426.length co44, .slice Ao45 t429.length co45] 41 (0, 0)) (kM BK432) hb); have n10_ := yD (zC (kB HB) hb); clear HO_9; clear HO_11; clear HO_433001; clear HO_433002; clear HO_433003; clear HO_433004; clear HO_433005; clear BK388; clear BK432; clear HB; have HO_9 := n0_; have HO_11 := n1_; have HO_433001 := n2_; have HO_433002 := n3_; have HO_433003 := n4_; have HO_433004 := n5_; have HO_433005 := n6_; have HO439 := n7_; have BK388 := n8_; have BK432 := n9_; have HB := n10_; clear n0_ n1_ n2_ n3_ n4_ n5_ n6_ n7_ n8_ n9_ n10_; (try clear hb); (try clear hb2); (try clear hk); (try clear hi); (try clear ho0); obtain ⟨Ao59, co59, eo59⟩ := Kd.R_slice HO_9.out; subst eo59; obtain ⟨Ao60, co60, eo60⟩ := Kd.R_slice HO439.out; subst eo60) | ((with_reducible refine gate_callee (f := 18) rfl ?_); refine goesL_ (some 47) rfl rfl Try.func18 (by kernel_rfl) rfl #[.slice Ao59 t413.length co59, .slice Ao60 t437.length co60] rfl (by (try simp only [zK, zL, zM]); first | done | rfl | (simp only [zN, zO]; rfl)) ?_; (with_reducible refine (laws_eqInt64S.calls kj52 _ _ t413 _ _ t437 t440 _ ?side1 ?side2 ?side3 ?side4 A56.out).mono ?_); (case side1 => exact kV (zA HO_9.out).2.2); (case side2 => exact (zA HO_9.out).2.1); (case side3 => exact kV (zA HO439.out).2.2); (case side4 => exact (zA HO439.out).2.1); rintro e w' ⟨rfl, ⟨nd, rfl⟩⟩; refine ⟨_, rfl, ?_⟩))
             (try simp only [Act.put, zH, zI, zJ])
             go_cut [] (fun wc => ∃ (kq : Nat), Aside0 (laws_FnExactIsSelected.j6 kq l2 t433 a1_0 l1_1 l1_2 l1_3 l1_4 l1_5 t416 t417 t420 t423 t426 t429 = some r) ∧ Aside0 (kq ≤ kj52) ∧ Aside0 (Kd.R (Kd.int .i64) 2 wc w.heap.size (fun k_ => some k_ ≠ ((.slice Ao41 t417.length co41) : Value).ownBlock ∧ some k_ ≠ ((.slice Ao42 t420.length co42) : Value).ownBlock ∧ some k_ ≠ ((.slice Ao43 t423.length co43) : Value).ownBlock ∧ some k_ ≠ ((.slice Ao44 t426.length co44) : Value).ownBlock) v434 t433) ∧ Aside0 (Kd.R (Kd.int .i64) 2 wc w.heap.size (fun k_ => some k_ ≠ (v434 : Value).ownBlock ∧ some k_ ≠ ((.slice Ao42 t420.length co42) : Value).ownBlock ∧ some k_ ≠ ((.slice Ao43 t423.length co43) : Value).ownBlock ∧ some k_ ≠ ((.slice Ao44 t426.length co44) : Value).ownBlock) (.slice Ao41 t417.length co41) t417) ∧ Aside0 (Kd.R (Kd.int .i64) 2 wc w.heap.size (fun k_ => some k_ ≠ (v434 : Value).ownBlock ∧ some k_ ≠ ((.slice Ao41 t417.length co41) : Value).ownBlock ∧ some k_ ≠ ((.slice Ao43 t423.length co43) : Value).ownBlock ∧ some k_ ≠ ((.slice Ao44 t426.length co44) : Value).ownBlock) (.slice Ao42 t420.length co42) t420) ∧ Aside0 (Kd.R (Kd.int .i64) 2 wc w.heap.size (fun k_ => some k_ ≠ (v434 : Value).ownBlock ∧ some k_ ≠ ((.slice Ao41 t417.length co41) : Value).ownBlock ∧ some k_ ≠ ((.slice Ao42 t420.length co42) : Value).ownBlock ∧ some k_ ≠ ((.slice Ao44 t426.length co44) : Value).ownBlock) (.slice Ao43 t423.length co43) t423) ∧ Aside0 (Kd.R (Kd.int .i64) 2 wc w.heap.size (fun k_ => some k_ ≠ (v434 : Value).ownBlock ∧ some k_ ≠ ((.slice Ao41 t417.length co41) : Value).ownBlock ∧ some k_ ≠ ((.slice Ao42 t420.length co42) : Value).ownBlock ∧ some k_ ≠ ((.slice Ao43 t423.length co43) : Value).ownBlock) (.slice Ao44 t426.length co44) t426) ∧ Aside0 (Kd.S k65 65 wc w.heap.size (fun k_ => some k_ ≠ (v434 : Value).ownBlock ∧ some k_ ≠ ((.slice Ao41 t417.length co41) : Value).ownBlock ∧ some k_ ≠ ((.slice Ao42 t420.length co42) : Value).ownBlock ∧ some k_ ≠ ((.slice Ao43 t423.length co43) : Value).ownBlock ∧ some k_ ≠ ((.slice Ao44 t426.length co44) : Value).ownBlock) (.slice Ao45 t429.length co45) t429) ∧ Aside0 (wc.heap[gb388]? = some (.cells #[.int .i64 a1_0, (.slice A1_1 l1_1.length c1_1), (.slice A1_2 l1_2.length c1_2), (.slice A1_3 l1_3.length c1_3), (.slice A1_4 l1_4.length c1_4), (.slice A1_5 l1_5.length c1_5)] 35 (0, 0))) ∧ Aside0 (wc.heap[gb432]? = some (.cells #[.int .i64 t416, (.slice Ao41 t417.length co41), (.slice Ao42 t420.length co42), (.slice Ao43 t423.length co43), (.slice Ao44 t426.length co44), (.slice Ao45 t429.length co45)] 41 (0, 0))) ∧ Aside0 (Below w.heap.size w wc))
             case first =>
              have H := HC57.out; clear HC57
              by_cases c61 : t440 = true
              ·
               subst c61
               have H1 : (laws_FnExactIsSelected.j6 kj52 l2 t433 a1_0 l1_1 l1_2 l1_3 l1_4 l1_5 t416 t417 t420 t423 t426 t429) = some r := by rw [if_pos rfl] at H; exact H
               clear H; have H := H1; clear H1
               have H' := yD H
               clear H
               go_wp2
               go_meet
               case rel => exact ⟨_, H', ⟨by have := HJ3.out; have := HJ6.out; have := HJ9.out; have := HJ13.out; have := HJ33.out; have := HJ52.out; first | omega | exact Nat.le_refl _⟩, ⟨by (with_reducible repeat (first | apply yA | apply yB | apply yC)); exact zF HO_11.out (fun _ hk => ⟨hk.1.2.1, ⟨hk.1.2.2.1, ⟨hk.1.2.2.2.1, hk.1.2.2.2.2⟩⟩⟩)⟩, ⟨by (with_reducible repeat (first | apply yA | apply yB | apply yC)); exact zF HO_433001.out (fun _ hk => ⟨hk.1.2.1, ⟨hk.1.2.2.1, ⟨hk.1.2.2.2.1, hk.1.2.2.2.2⟩⟩⟩)⟩, ⟨by (with_reducible repeat (first | apply yA | apply yB | apply yC)); exact zF HO_433002.out (fun _ hk => ⟨hk.1.2.1, ⟨hk.1.2.2.1, ⟨hk.1.2.2.2.1, hk.1.2.2.2.2⟩⟩⟩)⟩, ⟨by (with_reducible repeat (first | apply yA | apply yB | apply yC)); exact zF HO_433003.out (fun _ hk => ⟨hk.1.2.1, ⟨hk.1.2.2.1, ⟨hk.1.2.2.2.1, hk.1.2.2.2.2⟩⟩⟩)⟩, ⟨by (with_reducible repeat (first | apply yA | apply yB | apply yC)); exact zF HO_433004.out (fun _ hk => ⟨hk.1.2.1, ⟨hk.1.2.2.1, ⟨hk.1.2.2.2.1, hk.1.2.2.2.2⟩⟩⟩)⟩, ⟨by (with_reducible repeat (first | apply yS | apply yT | apply yU)); exact Kd.S_mono HO_433005.out (fun _ hk => ⟨hk.1.2.1, ⟨hk.1.2.2.1, ⟨hk.1.2.2.2.1, ⟨hk.1.2.2.2.2.1, hk.1.2.2.2.2.2⟩⟩⟩⟩)⟩, ⟨by (with_reducible repeat (first | refine yM ?_ _ | refine yO ?_ | refine yN ?_ _)); exact BK388.out⟩, ⟨by (with_reducible repeat (first | refine yM ?_ _ | refine yO ?_ | refine yN ?_ _)); exact BK432.out⟩, ⟨by repeat (first | (with_reducible first | exact HB.out | apply yQ | apply yL | apply yP | refine yE ?_ GE388.out | refine yE ?_ GE432.out) | exact HB.out)⟩⟩
              ·
               replace c61 := Bool.eq_false_iff.mpr c61
               subst c61
               have H1 : (some false) = some r := by rw [if_neg (show ¬ (false = true) by decide)] at H; exact H
               clear H; have H := H1; clear H1; obtain rfl := Option.some.inj H
               go_wp2
               go_ret
               exact ⟨by first | rfl | (simp <;> rfl) | (simp [*] <;> rfl), by repeat (first | (with_reducible first | exact HB.out | apply yQ | apply yL | apply yP | refine yE ?_ GE388.out | refine yE ?_ GE432.out) | exact HB.out)⟩
             case rest =>
              clear HC57; try clear c1; try clear c2; try clear p2; try clear c3; try clear c4; try clear c5; try clear c6; try clear c6b0; try clear c6b1; try clear c8; try clear c8b0; try clear c8b1; try clear c13; try clear c13b0; try clear c15; try clear c16; try clear c18; try clear c20; try clear c21; try clear c39; try clear c48; try clear c54; try clear c54b0; try clear c54b1; try clear c54b2; try clear c61; try clear hcz11_0; try clear hcz11_1; try clear hcz11_2; try clear hcz11_3; try clear hcz11_4; try clear hcz11_5; try clear hcz36_0; try clear hcz36_1; try clear hcz36_2; try clear hcz36_3; try clear hcz36_4; try clear hcz36_5; try clear hcz40_0; try clear hcz40_1; try clear hcz40_2; try clear hcz40_3; try clear hcz40_4; try clear hcz40_5; try clear hcz49_0; try clear hcz49_1; try clear hcz49_2; try clear hcz49_3; try clear hcz49_4; try clear hcz49_5; try clear hfz11_0; try clear hfz11_1; try clear hfz11_2; try clear hfz11_3; try clear hfz11_4; try clear hfz11_5; try clear hfz36_0; try clear hfz36_1; try clear hfz36_2; try clear hfz36_3; try clear hfz36_4; try clear hfz36_5; try clear hfz40_0; try clear hfz40_1; try clear hfz40_2; try clear hfz40_3; try clear hfz40_4; try clear hfz40_5; try clear hfz49_0; try clear hfz49_1; try clear hfz49_2; try clear hfz49_3; try clear hfz49_4; try clear hfz49_5; try clear p2
              obtain ⟨kq, HA, HJ56, HO_11, HO_433001, HO_433002, HO_433003, HO_433004, HO_433005, BK388, BK432, HB⟩ := hcut
              cases kq with
              | zero => exact absurd HA.out (by simp [laws_FnExactIsSelected.j6])
              | succ kj56 =>
               have H := HA.out; clear HA
               simp only [laws_FnExactIsSelected.j6] at H
               obtain ⟨⟨t441, t442, t445, t448, t451, t454⟩, A620, H⟩ := zW_ H
               replace H : ((laws_eqSelection.f kj56 t416 t417 t420 t423 t426 t429 t441 t442 t445 t448 t451 t454).bind fun t457 => (if t457 = true then (laws_FnExactIsSelected.j7 kj56 l2 t433) else (some false))) = some r := H
               have A62 := yD A620
               clear A620
               obtain ⟨t457, A630, H⟩ := zW_ H
               replace H : (if t457 = true then (laws_FnExactIsSelected.j7 kj56 l2 t433) else (some false)) = some r := H
               have A63 := yD A630
               clear A630
               have HC64 := yD H
               clear H
               try go_wp2
               have n0_ := yD (yC HO_11.out)
               have n1_ := yD (yC HO_433001.out)
               have n2_ := yD (yC HO_433002.out)
               have n3_ := yD (yC HO_433003.out)
               have n4_ := yD (yC HO_433004.out)
               have n5_ := yD (yU HO_433005.out)
               have n6_ := yD (yO BK388.out)
               have n7_ := yD (yO BK432.out)
               have n8_ := yD (yP HB.out)
               clear HO_11 HO_433001 HO_433002 HO_433003 HO_433004 HO_433005 BK388 BK432 HB; have HO_11 := n0_; have HO_433001 := n1_; have HO_433002 := n2_; have HO_433003 := n3_; have HO_433004 := n4_; have HO_433005 := n5_; have BK388 := n6_; have BK432 := n7_; have HB := n8_; clear n0_ n1_ n2_ n3_ n4_ n5_ n6_ n7_ n8_
               refine start_ (n := 5) (S := fun w' => w'.cell? ⟨gb432, 0, none⟩ = some (.int .i64 t416) ∧ w'.cell? ⟨gb432, 1, none⟩ = some (.slice Ao41 t417.length co41) ∧ w'.cell? ⟨gb432, 2, none⟩ = some (.slice Ao42 t420.length co42) ∧ w'.cell? ⟨gb432, 3, none⟩ = some (.slice Ao43 t423.length co43) ∧ w'.cell? ⟨gb432, 4, none⟩ = some (.slice Ao44 t426.length co44) ∧ w'.cell? ⟨gb432, 5, none⟩ = some (.slice Ao45 t429.length co45) ∧ w'.cell? ⟨gb388, 0, none⟩ = some (.int .i64 a1_0) ∧ w'.cell? ⟨gb388, 1, none⟩ = some (.slice A1_1 l1_1.length c1_1) ∧ w'.cell? ⟨gb388, 2, none⟩ = some (.slice A1_2 l1_2.length c1_2) ∧ w'.cell? ⟨gb388, 3, none⟩ = some (.slice A1_3 l1_3.length c1_3) ∧ w'.cell? ⟨gb388, 4, none⟩ = some (.slice A1_4 l1_4.length c1_4) ∧ w'.cell? ⟨gb388, 5, none⟩ = some (.slice A1_5 l1_5.length c1_5)) (ds := []) (bz 5 0) (by kernel_rfl) rfl rfl ⟨(yG BK432.out 0).trans rfl, (yG BK432.out 1).trans rfl, (yG BK432.out 2).trans rfl, (yG BK432.out 3).trans rfl, (yG BK432.out 4).trans rfl, (yG BK432.out 5).trans rfl, (yG BK388.out 0).trans rfl, (yG BK388.out 1).trans rfl, (yG BK388.out 2).trans rfl, (yG BK388.out 3).trans rfl, (yG BK388.out 4).trans rfl, (yG BK388.out 5).trans rfl⟩ (fun hHeld => ?_)
               generalize wc.drew = w65 at HO_11 HO_433001 HO_433002 HO_433003 HO_433004 HO_433005 BK388 BK432 HB hHeld ⊢
               refine pC 0 49 (bz 5 1) rfl rfl (by kernel_rfl) (fun _ _ _ h => h) (by rfl) hHeld (by rintro w' ⟨s0, s1, s2, s3, s4, s5, s6, s7, s8, s9, s10, s11⟩; go_simp; with_reducible rfl) (by simp only [Act.put, zH, zI, zJ, i64_w, i32_w]; rfl) ?_
               refine pC 1 50 (bz 5 3) rfl rfl (by kernel_rfl) (fun _ _ _ h => h) (by rfl) hHeld (by rintro w' ⟨s0, s1, s2, s3, s4, s5, s6, s7, s8, s9, s10, s11⟩; go_simp; with_reducible rfl) (by simp only [Act.put, zH, zI, zJ, i64_w, i32_w]; rfl) ?_
               refine one_ (i := 2) (N := some 51) (bz 5 7) rfl rfl (by kernel_rfl) (by decide) (fun K hK => ?_)
               refine goes_ Try.func16 (by kernel_rfl) rfl #[.agg #[.int .i64 a1_0, .slice A1_1 l1_1.length c1_1, .slice A1_2 l1_2.length c1_2, .slice A1_3 l1_3.length c1_3, .slice A1_4 l1_4.length c1_4, .slice A1_5 l1_5.length c1_5]] (by rfl) rfl rfl (by (try simp only [zK, zL, zM]); first | done | rfl | (simp only [zN, zO]; rfl)) ?_
               with_reducible refine (laws_toSelection.calls kj56 a1_0 _ _ l1_1 _ _ l1_2 _ _ l1_3 _ _ l1_4 _ _ l1_5 t441 t442 t445 t448 t451 t454 _ ?side1 ?side2 ?side3 ?side4 ?side5 ?side6 ?side7 ?side8 ?side9 ?side10 A62.out).mono ?_
               (case side1 => exact kV (yY HR1_1.out HB.out))
               (case side2 => exact HC1_1.out)
               (case side3 => exact kV (yY HR1_2.out HB.out))
               (case side4 => exact HC1_2.out)
               (case side5 => exact kV (yY HR1_3.out HB.out))
               (case side6 => exact HC1_3.out)
               (case side7 => exact kV (yY HR1_4.out HB.out))
               (case side8 => exact HC1_4.out)
               (case side9 => exact kV (yY HR1_5.out HB.out))
               (case side10 => exact HC1_5.out)
               rintro e w66 ⟨v443, v446, v449, v452, v455, rfl, ho0, ho1, ho2, ho3, ho4, hb⟩
               refine ⟨_, rfl, ?_⟩
               have n0_ := yD (zF (yI (yI (yI (yI (Kd.R_old (kA HO_11) hb) (yH ho0)) (yH ho1)) (yH ho2)) (yH ho3)) (fun _ h_ => h_.1))
               have n1_ := yD (zF (yI (yI (yI (yI (Kd.R_old (kA HO_433001) hb) (yH ho0)) (yH ho1)) (yH ho2)) (yH ho3)) (fun _ h_ => h_.1))
               have n2_ := yD (zF (yI (yI (yI (yI (Kd.R_old (kA HO_433002) hb) (yH ho0)) (yH ho1)) (yH ho2)) (yH ho3)) (fun _ h_ => h_.1))
               have n3_ := yD (zF (yI (yI (yI (yI (Kd.R_old (kA HO_433003) hb) (yH ho0)) (yH ho1)) (yH ho2)) (yH ho3)) (fun _ h_ => h_.1))
               have n4_ := yD (zF (yI (yI (yI (yI (Kd.R_old (kA HO_433004) hb) (yH ho0)) (yH ho1)) (yH ho2)) (yH ho3)) (fun _ h_ => h_.1))
               have n5_ := yD (Kd.S_mono (Kd.S_told (Kd.S_told (Kd.S_told (Kd.S_told (Kd.S_told (Kd.S_old (by (with_reducible repeat (first | apply yS | apply yT | apply yU)); exact HO_433005.out) hb) (yH ho0)) (yH ho1)) (yH ho2)) (yH ho3)) (Kd.S_base ho4)) (fun _ h_ => h_.1))
               have n6_ := yD (yZ (yJ (yJ (yJ (yJ (yJ ho0 (yK (kA HO_11))) (yK (kA HO_433001))) (yK (kA HO_433002))) (yK (kA HO_433003))) (yK (kA HO_433004))) (below_size (kB HB)))
               have n7_ := yD (yZ (yJ (yJ (yJ (yJ (yJ ho1 (yK (kA HO_11))) (yK (kA HO_433001))) (yK (kA HO_433002))) (yK (kA HO_433003))) (yK (kA HO_433004))) (below_size (kB HB)))
               have n8_ := yD (yZ (yJ (yJ (yJ (yJ (yJ ho2 (yK (kA HO_11))) (yK (kA HO_433001))) (yK (kA HO_433002))) (yK (kA HO_433003))) (yK (kA HO_433004))) (below_size (kB HB)))
               have n9_ := yD (yZ (yJ (yJ (yJ (yJ (yJ ho3 (yK (kA HO_11))) (yK (kA HO_433001))) (yK (kA HO_433002))) (yK (kA HO_433003))) (yK (kA HO_433004))) (below_size (kB HB)))
               have n10_ := yD (zG (zD (zD (zD (zD (zD (zD ho4 (yK (kA HO_11))) (yK (kA HO_433001))) (yK (kA HO_433002))) (yK (kA HO_433003))) (yK (kA HO_433004))) (Kd.S_lt (by (with_reducible repeat (first | apply yS | apply yT | apply yU)); exact HO_433005.out))) (below_size (kB HB)))
               have n11_ := yD (zB (g := gb388) (o := .cells #[.int .i64 a1_0, .slice A1_1 l1_1.length c1_1, .slice A1_2 l1_2.length c1_2, .slice A1_3 l1_3.length c1_3, .slice A1_4 l1_4.length c1_4, .slice A1_5 l1_5.length c1_5] 35 (0, 0)) (kM BK388) hb)
               have n12_ := yD (zB (g := gb432) (o := .cells #[.int .i64 t416, .slice Ao41 t417.length co41, .slice Ao42 t420.length co42, .slice Ao43 t423.length co43, .slice Ao44 t426.length co44, .slice Ao45 t429.length co45] 41 (0, 0)) (kM BK432) hb)
               have n13_ := yD (zC (kB HB) hb)
               clear HO_11 HO_433001 HO_433002 HO_433003 HO_433004 HO_433005 BK388 BK432 HB; have HO_11 := n0_; have HO_433001 := n1_; have HO_433002 := n2_; have HO_433003 := n3_; have HO_433004 := n4_; have HO_433005 := n5_; have HO444 := n6_; have HO447 := n7_; have HO450 := n8_; have HO453 := n9_; have HO456 := n10_; have BK388 := n11_; have BK432 := n12_; have HB := n13_; clear n0_ n1_ n2_ n3_ n4_ n5_ n6_ n7_ n8_ n9_ n10_ n11_ n12_ n13_; (try clear hb); (try clear hb2); (try clear hk); (try clear hi); (try clear ho0); (try clear ho1); (try clear ho2); (try clear ho3); (try clear ho4)
               obtain ⟨Ao67, co67, eo67⟩ := Kd.R_slice HO444.out
               (first | subst eo67 | (injection eo67 with f1_ f2_ f3_; have f4_ := f1_.symm; have f5_ := f3_.symm; clear f1_ f2_ f3_; subst f4_; subst f5_))
               obtain ⟨Ao68, co68, eo68⟩ := Kd.R_slice HO447.out
               (first | subst eo68 | (injection eo68 with f1_ f2_ f3_; have f4_ := f1_.symm; have f5_ := f3_.symm; clear f1_ f2_ f3_; subst f4_; subst f5_))
               obtain ⟨Ao69, co69, eo69⟩ := Kd.R_slice HO450.out
               (first | subst eo69 | (injection eo69 with f1_ f2_ f3_; have f4_ := f1_.symm; have f5_ := f3_.symm; clear f1_ f2_ f3_; subst f4_; subst f5_))
               obtain ⟨Ao70, co70, eo70⟩ := Kd.R_slice HO453.out
               (first | subst eo70 | (injection eo70 with f1_ f2_ f3_; have f4_ := f1_.symm; have f5_ := f3_.symm; clear f1_ f2_ f3_; subst f4_; subst f5_))
               obtain ⟨Ao71, co71, eo71⟩ := Kd.S_slice HO456.out
               (first | subst eo71 | (injection eo71 with f1_ f2_ f3_; have f4_ := f1_.symm; have f5_ := f3_.symm; clear f1_ f2_ f3_; subst f4_; subst f5_))
               refine hK.out _ _ ⟨(yG BK432.out 0).trans rfl, (yG BK432.out 1).trans rfl, (yG BK432.out 2).trans rfl, (yG BK432.out 3).trans rfl, (yG BK432.out 4).trans rfl, (yG BK432.out 5).trans rfl, (yG BK388.out 0).trans rfl, (yG BK388.out 1).trans rfl, (yG BK388.out 2).trans rfl, (yG BK388.out 3).trans rfl, (yG BK388.out 4).trans rfl, (yG BK388.out 5).trans rfl⟩ (fun hHeld => ?_)
               clear hK K
               refine norm_ (by show Act.put _ (some 51) _ = _; simp only [Act.put, zH, zI, zJ, i64_w, i32_w]; rfl) ?_
               refine one_ (i := 3) (N := some 52) (bz 5 15) rfl rfl (by kernel_rfl) (by decide) (fun K hK => ?_)
               refine goes_ Try.func19 (by kernel_rfl) rfl #[.agg #[.int .i64 t416, .slice Ao41 t417.length co41, .slice Ao42 t420.length co42, .slice Ao43 t423.length co43, .slice Ao44 t426.length co44, .slice Ao45 t429.length co45], .agg #[.int .i64 t441, .slice Ao67 t442.length co67, .slice Ao68 t445.length co68, .slice Ao69 t448.length co69, .slice Ao70 t451.length co70, .slice Ao71 t454.length co71]] (by rfl) rfl rfl (by (try simp only [zK, zL, zM]); first | done | rfl | (simp only [zN, zO]; rfl)) ?_
               with_reducible refine (laws_eqSelection.calls kj56 t416 _ _ t417 _ _ t420 _ _ t423 _ _ t426 _ _ t429 t441 _ _ t442 _ _ t445 _ _ t448 _ _ t451 _ _ t454 t457 _ ?side1 ?side2 ?side3 ?side4 ?side5 ?side6 ?side7 ?side8 ?side9 ?side10 ?side11 ?side12 ?side13 ?side14 ?side15 ?side16 ?side17 ?side18 ?side19 ?side20 A63.out).mono ?_
               (case side1 => exact kV (zA HO_433001.out).2.2)
               (case side2 => exact (zA HO_433001.out).2.1)
               (case side3 => exact kV (zA HO_433002.out).2.2)
               (case side4 => exact (zA HO_433002.out).2.1)
               (case side5 => exact kV (zA HO_433003.out).2.2)
               (case side6 => exact (zA HO_433003.out).2.1)
               (case side7 => exact kV (zA HO_433004.out).2.2)
               (case side8 => exact (zA HO_433004.out).2.1)
               (case side9 => exact kV (Kd.S_reads' HO_433005.out).2.2)
               (case side10 => exact (Kd.S_reads' HO_433005.out).2.1)
               (case side11 => exact kV (zA HO444.out).2.2)
               (case side12 => exact (zA HO444.out).2.1)
               (case side13 => exact kV (zA HO447.out).2.2)
               (case side14 => exact (zA HO447.out).2.1)
               (case side15 => exact kV (zA HO450.out).2.2)
               (case side16 => exact (zA HO450.out).2.1)
               (case side17 => exact kV (zA HO453.out).2.2)
               (case side18 => exact (zA HO453.out).2.1)
               (case side19 => exact kV (Kd.S_reads' HO456.out).2.2)
               (case side20 => exact (Kd.S_reads' HO456.out).2.1)
               rintro e w72 ⟨rfl, hb⟩
               refine ⟨_, rfl, ?_⟩
               have n0_ := yD (zE (kA HO_11) hb)
               have n1_ := yD (zE (kA HO_433001) hb)
               have n2_ := yD (zE (kA HO_433002) hb)
               have n3_ := yD (zE (kA HO_433003) hb)
               have n4_ := yD (zE (kA HO_433004) hb)
               have n5_ := yD (Kd.S_below (by (with_reducible repeat (first | apply yS | apply yT | apply yU)); exact HO_433005.out) hb)
               have n6_ := yD (zE (kA HO444) hb)
               have n7_ := yD (zE (kA HO447) hb)
               have n8_ := yD (zE (kA HO450) hb)
               have n9_ := yD (zE (kA HO453) hb)
               have n10_ := yD (Kd.S_below (by (with_reducible repeat (first | apply yS | apply yT | apply yU)); exact HO456.out) hb)
               have n11_ := yD (zB (g := gb388) (o := .cells #[.int .i64 a1_0, .slice A1_1 l1_1.length c1_1, .slice A1_2 l1_2.length c1_2, .slice A1_3 l1_3.length c1_3, .slice A1_4 l1_4.length c1_4, .slice A1_5 l1_5.length c1_5] 35 (0, 0)) (kM BK388) hb)
               have n12_ := yD (zB (g := gb432) (o := .cells #[.int .i64 t416, .slice Ao41 t417.length co41, .slice Ao42 t420.length co42, .slice Ao43 t423.length co43, .slice Ao44 t426.length co44, .slice Ao45 t429.length co45] 41 (0, 0)) (kM BK432) hb)
               have n13_ := yD (zC (kB HB) hb)
               clear HO_11 HO_433001 HO_433002 HO_433003 HO_433004 HO_433005 HO444 HO447 HO450 HO453 HO456 BK388 BK432 HB; have HO_11 := n0_; have HO_433001 := n1_; have HO_433002 := n2_; have HO_433003 := n3_; have HO_433004 := n4_; have HO_433005 := n5_; have HO444 := n6_; have HO447 := n7_; have HO450 := n8_; have HO453 := n9_; have HO456 := n10_; have BK388 := n11_; have BK432 := n12_; have HB := n13_; clear n0_ n1_ n2_ n3_ n4_ n5_ n6_ n7_ n8_ n9_ n10_ n11_ n12_ n13_; (try clear hb); (try clear hb2); (try clear hk); (try clear hi)
               refine hK.out _ _ ⟨(yG BK432.out 0).trans rfl, (yG BK432.out 1).trans rfl, (yG BK432.out 2).trans rfl, (yG BK432.out 3).trans rfl, (yG BK432.out 4).trans rfl, (yG BK432.out 5).trans rfl, (yG BK388.out 0).trans rfl, (yG BK388.out 1).trans rfl, (yG BK388.out 2).trans rfl, (yG BK388.out 3).trans rfl, (yG BK388.out 4).trans rfl, (yG BK388.out 5).trans rfl⟩ (fun hHeld => ?_)
               clear hK K
               refine norm_ (by show Act.put _ (some 52) _ = _; simp only [Act.put, zH, zI, zJ, i64_w, i32_w]; rfl) ?_
               refine pA 4 53 (bz 5 31) rfl rfl (by kernel_rfl) (fun _ _ _ h => h) (by rfl) (fun _ => by go_simp; with_reducible rfl) (by simp only [Act.put, zH, zI, zJ, i64_w, i32_w]; rfl) ?_
               refine done_ (by kernel_rfl) ?_
               go_upto_if 53 with (fail)
               go_cut [] (fun wc => ∃ (kq : Nat), Aside0 (laws_FnExactIsSelected.j7 kq l2 t433 = some r) ∧ Aside0 (kq ≤ kj56) ∧ Aside0 (Kd.R (Kd.int .i64) 2 wc w.heap.size (fun k_ => some k_ ≠ ((.slice Ao41 t417.length co41) : Value).ownBlock ∧ some k_ ≠ ((.slice Ao42 t420.length co42) : Value).ownBlock ∧ some k_ ≠ ((.slice Ao43 t423.length co43) : Value).ownBlock ∧ some k_ ≠ ((.slice Ao44 t426.length co44) : Value).ownBlock) v434 t433) ∧ Aside0 (Kd.R (Kd.int .i64) 2 wc w.heap.size (fun k_ => some k_ ≠ (v434 : Value).ownBlock ∧ some k_ ≠ ((.slice Ao42 t420.length co42) : Value).ownBlock ∧ some k_ ≠ ((.slice Ao43 t423.length co43) : Value).ownBlock ∧ some k_ ≠ ((.slice Ao44 t426.length co44) : Value).ownBlock) (.slice Ao41 t417.length co41) t417) ∧ Aside0 (Kd.R (Kd.int .i64) 2 wc w.heap.size (fun k_ => some k_ ≠ (v434 : Value).ownBlock ∧ some k_ ≠ ((.slice Ao41 t417.length co41) : Value).ownBlock ∧ some k_ ≠ ((.slice Ao43 t423.length co43) : Value).ownBlock ∧ some k_ ≠ ((.slice Ao44 t426.length co44) : Value).ownBlock) (.slice Ao42 t420.length co42) t420) ∧ Aside0 (Kd.R (Kd.int .i64) 2 wc w.heap.size (fun k_ => some k_ ≠ (v434 : Value).ownBlock ∧ some k_ ≠ ((.slice Ao41 t417.length co41) : Value).ownBlock ∧ some k_ ≠ ((.slice Ao42 t420.length co42) : Value).ownBlock ∧ some k_ ≠ ((.slice Ao44 t426.length co44) : Value).ownBlock) (.slice Ao43 t423.length co43) t423) ∧ Aside0 (Kd.R (Kd.int .i64) 2 wc w.heap.size (fun k_ => some k_ ≠ (v434 : Value).ownBlock ∧ some k_ ≠ ((.slice Ao41 t417.length co41) : Value).ownBlock ∧ some k_ ≠ ((.slice Ao42 t420.length co42) : Value).ownBlock ∧ some k_ ≠ ((.slice Ao43 t423.length co43) : Value).ownBlock) (.slice Ao44 t426.length co44) t426) ∧ Aside0 (Kd.S k65 65 wc w.heap.size (fun k_ => some k_ ≠ (v434 : Value).ownBlock ∧ some k_ ≠ ((.slice Ao41 t417.length co41) : Value).ownBlock ∧ some k_ ≠ ((.slice Ao42 t420.length co42) : Value).ownBlock ∧ some k_ ≠ ((.slice Ao43 t423.length co43) : Value).ownBlock ∧ some k_ ≠ ((.slice Ao44 t426.length co44) : Value).ownBlock) (.slice Ao45 t429.length co45) t429) ∧ Aside0 (wc.heap[gb388]? = some (.cells #[.int .i64 a1_0, (.slice A1_1 l1_1.length c1_1), (.slice A1_2 l1_2.length c1_2), (.slice A1_3 l1_3.length c1_3), (.slice A1_4 l1_4.length c1_4), (.slice A1_5 l1_5.length c1_5)] 35 (0, 0))) ∧ Aside0 (wc.heap[gb432]? = some (.cells #[.int .i64 t416, (.slice Ao41 t417.length co41), (.slice Ao42 t420.length co42), (.slice Ao43 t423.length co43), (.slice Ao44 t426.length co44), (.slice Ao45 t429.length co45)] 41 (0, 0))) ∧ Aside0 (Below w.heap.size w wc))
               case first =>
                have H := HC64.out; clear HC64
                by_cases c73 : t457 = true
                ·
                 subst c73
                 have H1 : (laws_FnExactIsSelected.j7 kj56 l2 t433) = some r := by rw [if_pos rfl] at H; exact H
                 clear H; have H := H1; clear H1
                 have H' := yD H
                 clear H
                 go_wp2
                 go_meet
                 case rel => exact ⟨_, H', ⟨by have := HJ3.out; have := HJ6.out; have := HJ9.out; have := HJ13.out; have := HJ33.out; have := HJ52.out; have := HJ56.out; first | omega | exact Nat.le_refl _⟩, ⟨by (with_reducible repeat (first | apply yA | apply yB | apply yC)); exact zF HO_11.out (fun _ hk => ⟨hk.1.1.1.1.1, ⟨hk.1.1.1.1.2.1, ⟨hk.1.1.1.1.2.2.1, hk.1.1.1.1.2.2.2⟩⟩⟩)⟩, ⟨by (with_reducible repeat (first | apply yA | apply yB | apply yC)); exact zF HO_433001.out (fun _ hk => ⟨hk.1.1.1.1.1, ⟨hk.1.1.1.1.2.1, ⟨hk.1.1.1.1.2.2.1, hk.1.1.1.1.2.2.2⟩⟩⟩)⟩, ⟨by (with_reducible repeat (first | apply yA | apply yB | apply yC)); exact zF HO_433002.out (fun _ hk => ⟨hk.1.1.1.1.1, ⟨hk.1.1.1.1.2.1, ⟨hk.1.1.1.1.2.2.1, hk.1.1.1.1.2.2.2⟩⟩⟩)⟩, ⟨by (with_reducible repeat (first | apply yA | apply yB | apply yC)); exact zF HO_433003.out (fun _ hk => ⟨hk.1.1.1.1.1, ⟨hk.1.1.1.1.2.1, ⟨hk.1.1.1.1.2.2.1, hk.1.1.1.1.2.2.2⟩⟩⟩)⟩, ⟨by (with_reducible repeat (first | apply yA | apply yB | apply yC)); exact zF HO_433004.out (fun _ hk => ⟨hk.1.1.1.1.1, ⟨hk.1.1.1.1.2.1, ⟨hk.1.1.1.1.2.2.1, hk.1.1.1.1.2.2.2⟩⟩⟩)⟩, ⟨by (with_reducible repeat (first | apply yS | apply yT | apply yU)); exact Kd.S_mono HO_433005.out (fun _ hk => ⟨hk.1.1.1.1.1.1, ⟨hk.1.1.1.1.1.2.1, ⟨hk.1.1.1.1.1.2.2.1, ⟨hk.1.1.1.1.1.2.2.2.1, hk.1.1.1.1.1.2.2.2.2⟩⟩⟩⟩)⟩, ⟨by (with_reducible repeat (first | refine yM ?_ _ | refine yO ?_ | refine yN ?_ _)); exact BK388.out⟩, ⟨by (with_reducible repeat (first | refine yM ?_ _ | refine yO ?_ | refine yN ?_ _)); exact BK432.out⟩, ⟨by repeat (first | (with_reducible first | exact HB.out | apply yQ | apply yL | apply yP | refine yE ?_ GE388.out | refine yE ?_ GE432.out) | exact HB.out)⟩⟩
                ·
                 replace c73 := Bool.eq_false_iff.mpr c73
                 subst c73
                 have H1 : (some false) = some r := by rw [if_neg (show ¬ (false = true) by decide)] at H; exact H
                 clear H; have H := H1; clear H1; obtain rfl := Option.some.inj H
                 go_wp2
                 go_ret
                 exact ⟨by first | rfl | (simp <;> rfl) | (simp [*] <;> rfl), by repeat (first | (with_reducible first | exact HB.out | apply yQ | apply yL | apply yP | refine yE ?_ GE388.out | refine yE ?_ GE432.out) | exact HB.out)⟩
               case rest =>
                clear HC64; try clear c1; try clear c2; try clear p2; try clear c3; try clear c4; try clear c5; try clear c6; try clear c6b0; try clear c6b1; try clear c7; try clear c8; try clear c8b0; try clear c8b1; try clear c13; try clear c13b0; try clear c15; try clear c16; try clear c18; try clear c19; try clear c20; try clear c21; try clear c39; try clear c48; try clear c54; try clear c54b0; try clear c54b1; try clear c54b2; try clear c61; try clear c73; try clear hcz11_0; try clear hcz11_1; try clear hcz11_2; try clear hcz11_3; try clear hcz11_4; try clear hcz11_5; try clear hcz36_0; try clear hcz36_1; try clear hcz36_2; try clear hcz36_3; try clear hcz36_4; try clear hcz36_5; try clear hcz40_0; try clear hcz40_1; try clear hcz40_2; try clear hcz40_3; try clear hcz40_4; try clear hcz40_5; try clear hcz49_0; try clear hcz49_1; try clear hcz49_2; try clear hcz49_3; try clear hcz49_4; try clear hcz49_5; try clear hfz11_0; try clear hfz11_1; try clear hfz11_2; try clear hfz11_3; try clear hfz11_4; try clear hfz11_5; try clear hfz36_0; try clear hfz36_1; try clear hfz36_2; try clear hfz36_3; try clear hfz36_4; try clear hfz36_5; try clear hfz40_0; try clear hfz40_1; try clear hfz40_2; try clear hfz40_3; try clear hfz40_4; try clear hfz40_5; try clear hfz49_0; try clear hfz49_1; try clear hfz49_2; try clear hfz49_3; try clear hfz49_4; try clear hfz49_5; try clear p2
                obtain ⟨kq, HA, HJ63, HO_11, HO_433001, HO_433002, HO_433003, HO_433004, HO_433005, BK388, BK432, HB⟩ := hcut
                cases kq with
                | zero => exact absurd HA.out (by simp [laws_FnExactIsSelected.j7])
                | succ kj63 =>
                 have H := HA.out; clear HA
                 simp only [laws_FnExactIsSelected.j7] at H
                 obtain ⟨t458, A740, H⟩ := zW_ H
                 replace H : ((laws_eqInt64S.f kj63 t433 t458).bind fun t461 => (if t461 = true then (some true) else (some false))) = some r := H
                 have A74 := yD A740
                 clear A740
                 obtain ⟨t461, A750, H⟩ := zW_ H
                 replace H : (if t461 = true then (some true) else (some false)) = some r := H
                 have A75 := yD A750
                 clear A750
                 by_cases c76 : t461 = true
                 ·
                  subst c76
                  have H1 : (some true) = some r := by rw [if_pos rfl] at H; exact H
                  clear H; have H := H1; clear H1; obtain rfl := Option.some.inj H
                  go_wp2_with (first | ((with_reducible refine gate_callee (f := 15) rfl ?_); refine goesL_ (some 56) rfl rfl Try.func15 (by kernel_rfl) rfl #[.slice A2 l2.length c2] rfl (by (try simp only [zK, zL, zM]); first | done | rfl | (simp only [zN, zO]; rfl)) ?_; (with_reducible refine (laws_toInt64S.calls kj63 _ _ l2 t458 _ ?side1 ?side2 A74.out).mono ?_); (case side1 => exact kV (yY HR2.out HB.out)); (case side2 => exact HC2.out); rintro e w77 ⟨v459, rfl, ho0, hb⟩; refine ⟨_, rfl, ?_⟩; have n0_ := yD (Kd.R_elder' (kA HO_11) (yH ho0) hb); have n1_ := yD (Kd.R_elder' (kA HO_433001) (yH ho0) hb); have n2_ := yD (Kd.R_elder' (kA HO_433002) (yH ho0) hb); have n3_ := yD (Kd.R_elder' (kA HO_433003) (yH ho0) hb); have n4_ := yD (Kd.R_elder' (kA HO_433004) (yH ho0) hb); have n5_ := yD (Kd.S_elder' (by (with_reducible repeat (first | apply yS | apply yT | apply yU)); exact HO_433005.out) (yH ho0) hb); have n6_ := yD (yZ (yJ (yJ (yJ (yJ (yJ ho0 (yK (kA HO_11))) (yK (kA HO_433001))) (yK (kA HO_433002))) (yK (kA HO_433003))) (yK (kA HO_433004))) (below_size (kB HB))); have n7_ := yD (zB (g := gb388) (o := .cells #[.int .i64 a1_0, .slice A1_1 l1_1.length c1_1, .slice A1_2 l1_2.length c1_2, .slice A1_3 l1_3.length c1_3, .slice A1_4 l1_4.length c1_4, .slice A1_5 l1_5.length c1_5] 35 (0, 0)) (kM BK388) hb); have n8_ := yD (zB (g := gb432) (o := .cells #[.int .i64 t416, .slice Ao41 t417.length co41, .slice Ao42 t420.length co42, .slice Ao43 t423.length co43, .slice Ao44 t426.length co44, .slice Ao45 t429.length co45] 41 (0, 0)) (kM BK432) hb); have n9_ := yD (zC (kB HB) hb); clear HO_11; clear HO_433001; clear HO_433002; clear HO_433003; clear HO_433004; clear HO_433005; clear BK388; clear BK432; clear HB; have HO_11 := n0_; have HO_433001 := n1_; have HO_433002 := n2_; have HO_433003 := n3_; have HO_433004 := n4_; have HO_433005 := n5_; have HO460 := n6_; have BK388 := n7_; have BK432 := n8_; have HB := n9_; clear n0_ n1_ n2_ n3_ n4_ n5_ n6_ n7_ n8_ n9_; (try clear hb); (try clear hb2); (try clear hk); (try clear hi); (try clear ho0); obtain ⟨Ao78, co78, eo78⟩ := Kd.R_slice HO_11.out; subst eo78; obtain ⟨Ao79, co79, eo79⟩ := Kd.R_slice HO460.out; subst eo79) | ((with_reducible refine gate_callee (f := 18) rfl ?_); refine goesL_ (some 57) rfl rfl Try.func18 (by kernel_rfl) rfl #[.slice Ao78 t433.length co78, .slice Ao79 t458.length co79] rfl (by (try simp only [zK, zL, zM]); first | done | rfl | (simp only [zN, zO]; rfl)) ?_; (with_reducible refine (laws_eqInt64S.calls kj63 _ _ t433 _ _ t458 true _ ?side1 ?side2 ?side3 ?side4 A75.out).mono ?_); (case side1 => exact kV (zA HO_11.out).2.2); (case side2 => exact (zA HO_11.out).2.1); (case side3 => exact kV (zA HO460.out).2.2); (case side4 => exact (zA HO460.out).2.1); rintro e w' ⟨rfl, ⟨nd, rfl⟩⟩; refine ⟨_, rfl, ?_⟩))
                  go_ret
                  exact ⟨by first | rfl | (simp <;> rfl) | (simp [*] <;> rfl), by repeat (first | (with_reducible first | exact HB.out | apply yQ | apply yL | apply yP | refine yE ?_ GE388.out | refine yE ?_ GE432.out) | exact HB.out)⟩
                 ·
                  replace c76 := Bool.eq_false_iff.mpr c76
                  subst c76
                  have H1 : (some false) = some r := by rw [if_neg (show ¬ (false = true) by decide)] at H; exact H
                  clear H; have H := H1; clear H1; obtain rfl := Option.some.inj H
                  go_wp2_with (first | ((with_reducible refine gate_callee (f := 15) rfl ?_); refine goesL_ (some 56) rfl rfl Try.func15 (by kernel_rfl) rfl #[.slice A2 l2.length c2] rfl (by (try simp only [zK, zL, zM]); first | done | rfl | (simp only [zN, zO]; rfl)) ?_; (with_reducible refine (laws_toInt64S.calls kj63 _ _ l2 t458 _ ?side1 ?side2 A74.out).mono ?_); (case side1 => exact kV (yY HR2.out HB.out)); (case side2 => exact HC2.out); rintro e w80 ⟨v459, rfl, ho0, hb⟩; refine ⟨_, rfl, ?_⟩; have n0_ := yD (Kd.R_elder' (kA HO_11) (yH ho0) hb); have n1_ := yD (Kd.R_elder' (kA HO_433001) (yH ho0) hb); have n2_ := yD (Kd.R_elder' (kA HO_433002) (yH ho0) hb); have n3_ := yD (Kd.R_elder' (kA HO_433003) (yH ho0) hb); have n4_ := yD (Kd.R_elder' (kA HO_433004) (yH ho0) hb); have n5_ := yD (Kd.S_elder' (by (with_reducible repeat (first | apply yS | apply yT | apply yU)); exact HO_433005.out) (yH ho0) hb); have n6_ := yD (yZ (yJ (yJ (yJ (yJ (yJ ho0 (yK (kA HO_11))) (yK (kA HO_433001))) (yK (kA HO_433002))) (yK (kA HO_433003))) (yK (kA HO_433004))) (below_size (kB HB))); have n7_ := yD (zB (g := gb388) (o := .cells #[.int .i64 a1_0, .slice A1_1 l1_1.length c1_1, .slice A1_2 l1_2.length c1_2, .slice A1_3 l1_3.length c1_3, .slice A1_4 l1_4.length c1_4, .slice A1_5 l1_5.length c1_5] 35 (0, 0)) (kM BK388) hb); have n8_ := yD (zB (g := gb432) (o := .cells #[.int .i64 t416, .slice Ao41 t417.length co41, .slice Ao42 t420.length co42, .slice Ao43 t423.length co43, .slice Ao44 t426.length co44, .slice Ao45 t429.length co45] 41 (0, 0)) (kM BK432) hb); have n9_ := yD (zC (kB HB) hb); clear HO_11; clear HO_433001; clear HO_433002; clear HO_433003; clear HO_433004; clear HO_433005; clear BK388; clear BK432; clear HB; have HO_11 := n0_; have HO_433001 := n1_; have HO_433002 := n2_; have HO_433003 := n3_; have HO_433004 := n4_; have HO_433005 := n5_; have HO460 := n6_; have BK388 := n7_; have BK432 := n8_; have HB := n9_; clear n0_ n1_ n2_ n3_ n4_ n5_ n6_ n7_ n8_ n9_; (try clear hb); (try clear hb2); (try clear hk); (try clear hi); (try clear ho0); obtain ⟨Ao81, co81, eo81⟩ := Kd.R_slice HO_11.out; subst eo81; obtain ⟨Ao82, co82, eo82⟩ := Kd.R_slice HO460.out; subst eo82) | ((with_reducible refine gate_callee (f := 18) rfl ?_); refine goesL_ (some 57) rfl rfl Try.func18 (by kernel_rfl) rfl #[.slice Ao81 t433.length co81, .slice Ao82 t458.length co82] rfl (by (try simp only [zK, zL, zM]); first | done | rfl | (simp only [zN, zO]; rfl)) ?_; (with_reducible refine (laws_eqInt64S.calls kj63 _ _ t433 _ _ t458 false _ ?side1 ?side2 ?side3 ?side4 A75.out).mono ?_); (case side1 => exact kV (zA HO_11.out).2.2); (case side2 => exact (zA HO_11.out).2.1); (case side3 => exact kV (zA HO460.out).2.2); (case side4 => exact (zA HO460.out).2.1); rintro e w' ⟨rfl, ⟨nd, rfl⟩⟩; refine ⟨_, rfl, ?_⟩))
                  go_ret
                  exact ⟨by first | rfl | (simp <;> rfl) | (simp [*] <;> rfl), by repeat (first | (with_reducible first | exact HB.out | apply yQ | apply yL | apply yP | refine yE ?_ GE388.out | refine yE ?_ GE432.out) | exact HB.out)⟩

-- what data that come in are: numbers of their kinds, lengths that a length can be
def okS61 (x : S61) : Prop := (x.f0.length ≤ maxLen ∧ ∀ x_ ∈ x.f0, (Lit.int .i64 x_).wf = true)
def okS35 (x : S35) : Prop := (Lit.int .i64 x.f0).wf = true ∧ (x.f1.length ≤ maxLen ∧ ∀ x_ ∈ x.f1, (Lit.int .i64 x_).wf = true) ∧ (x.f2.length ≤ maxLen ∧ ∀ x_ ∈ x.f2, (Lit.int .i64 x_).wf = true) ∧ (x.f3.length ≤ maxLen ∧ ∀ x_ ∈ x.f3, (Lit.int .i64 x_).wf = true) ∧ (x.f4.length ≤ maxLen ∧ ∀ x_ ∈ x.f4, (Lit.int .i64 x_).wf = true) ∧ (x.f5.length ≤ maxLen ∧ ∀ x_ ∈ x.f5, okS61 x_)
/-- THE ONE PURE STATEMENT of laws_FnExactIsSelected: ours. -/
def laws_FnExactIsSelected.Pure : Prop := ∀ (l0 : List Int) (a1_0 : Int) (l1_1 : List Int) (l1_2 : List Int) (l1_3 : List Int) (l1_4 : List Int) (l1_5 : List (S61)) (l2 : List Int), (l0.length ≤ maxLen ∧ ∀ x_ ∈ l0, (Lit.int .i64 x_).wf = true) → (Lit.int .i64 a1_0).wf = true → (l1_1.length ≤ maxLen ∧ ∀ x_ ∈ l1_1, (Lit.int .i64 x_).wf = true) → (l1_2.length ≤ maxLen ∧ ∀ x_ ∈ l1_2, (Lit.int .i64 x_).wf = true) → (l1_3.length ≤ maxLen ∧ ∀ x_ ∈ l1_3, (Lit.int .i64 x_).wf = true) → (l1_4.length ≤ maxLen ∧ ∀ x_ ∈ l1_4, (Lit.int .i64 x_).wf = true) → (l1_5.length ≤ maxLen ∧ ∀ x_ ∈ l1_5, okS61 x_) → (l2.length ≤ maxLen ∧ ∀ x_ ∈ l2, (Lit.int .i64 x_).wf = true) → ∃ k, laws_FnExactIsSelected.f k l0 a1_0 l1_1 l1_2 l1_3 l1_4 l1_5 l2 = some true
theorem laws_FnExactIsSelected.walk (P : laws_FnExactIsSelected.Pure) (A0 : Option Addr) (c0 : Nat) (l0 : List Int) (a1_0 : Int) (A1_1 : Option Addr) (c1_1 : Nat) (l1_1 : List Int) (A1_2 : Option Addr) (c1_2 : Nat) (l1_2 : List Int) (A1_3 : Option Addr) (c1_3 : Nat) (l1_3 : List Int) (A1_4 : Option Addr) (c1_4 : Nat) (l1_4 : List Int) (A1_5 : Option Addr) (c1_5 : Nat) (l1_5 : List (S61)) (A2 : Option Addr) (c2 : Nat) (l2 : List Int) (w : World) (hr0 : Kd.C (Kd.int .i64) w A0 l0.length l0) (hc0 : l0.length ≤ c0) (hr1_1 : Kd.C (Kd.int .i64) w A1_1 l1_1.length l1_1) (hc1_1 : l1_1.length ≤ c1_1) (hr1_2 : Kd.C (Kd.int .i64) w A1_2 l1_2.length l1_2) (hc1_2 : l1_2.length ≤ c1_2) (hr1_3 : Kd.C (Kd.int .i64) w A1_3 l1_3.length l1_3) (hc1_3 : l1_3.length ≤ c1_3) (hr1_4 : Kd.C (Kd.int .i64) w A1_4 l1_4.length l1_4) (hc1_4 : l1_4.length ≤ c1_4) (hr1_5 : Kd.C k61 w A1_5 l1_5.length l1_5) (hc1_5 : l1_5.length ≤ c1_5) (hr2 : Kd.C (Kd.int .i64) w A2 l2.length l2) (hc2 : l2.length ≤ c2) (o0 : (l0.length ≤ maxLen ∧ ∀ x_ ∈ l0, (Lit.int .i64 x_).wf = true)) (o1_0 : (Lit.int .i64 a1_0).wf = true) (o1_1 : (l1_1.length ≤ maxLen ∧ ∀ x_ ∈ l1_1, (Lit.int .i64 x_).wf = true)) (o1_2 : (l1_2.length ≤ maxLen ∧ ∀ x_ ∈ l1_2, (Lit.int .i64 x_).wf = true)) (o1_3 : (l1_3.length ≤ maxLen ∧ ∀ x_ ∈ l1_3, (Lit.int .i64 x_).wf = true)) (o1_4 : (l1_4.length ≤ maxLen ∧ ∀ x_ ∈ l1_4, (Lit.int .i64 x_).wf = true)) (o1_5 : (l1_5.length ≤ maxLen ∧ ∀ x_ ∈ l1_5, okS61 x_)) (o2 : (l2.length ≤ maxLen ∧ ∀ x_ ∈ l2, (Lit.int .i64 x_).wf = true)) :
  Calls Try.prog 5 #[.slice A0 l0.length c0, .agg #[.int .i64 a1_0, .slice A1_1 l1_1.length c1_1, .slice A1_2 l1_2.length c1_2, .slice A1_3 l1_3.length c1_3, .slice A1_4 l1_4.length c1_4, .slice A1_5 l1_5.length c1_5], .slice A2 l2.length c2] w fun e w' => e = .returned (.bool true) ∧ Below w.heap.size w w' := by
 obtain ⟨k, h⟩ := P l0 a1_0 l1_1 l1_2 l1_3 l1_4 l1_5 l2 o0 o1_0 o1_1 o1_2 o1_3 o1_4 o1_5 o2
 refine (laws_FnExactIsSelected.calls k _ _ l0 a1_0 _ _ l1_1 _ _ l1_2 _ _ l1_3 _ _ l1_4 _ _ l1_5 _ _ l2 true w hr0 hc0 hr1_1 hc1_1 hr1_2 hc1_2 hr1_3 hc1_3 hr1_4 hc1_4 hr1_5 hc1_5 hr2 hc2 h).mono ?_
 rintro e w' ⟨rfl, hd⟩
 exact ⟨rfl, hd⟩

end Go.Proofs.Ytlfjepcmlgfogaa.PFnExactIsSelected
