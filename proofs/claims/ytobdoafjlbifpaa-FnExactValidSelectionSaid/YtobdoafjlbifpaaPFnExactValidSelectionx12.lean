/- Each Go function here comes to what the plain function of its name says, where that says something. Made by a program of this session, over the print. -/
import Derived.Test.YtobdoafjlbifpaaPFnExactValidSelectionx0
import Derived.Test.YtobdoafjlbifpaaPFnExactValidSelectionx1
import Derived.Test.YtobdoafjlbifpaaPFnExactValidSelectionx5
import Derived.Test.YtobdoafjlbifpaaPFnExactValidSelectionx10
import Derived.Test.YtobdoafjlbifpaaPFnExactValidSelectionx11
namespace Go.Proofs.Ytobdoafjlbifpaa.PFnExactValidSelection
open Go.RowKit Go.Proofs.YtobdoafjlbifpaaW.PrintWords Go.Proofs.YtobdoafjlbifpaaW.PrintLast Go.Proofs.YtobdoafjlbifpaaW.PrintMore
attribute [local go_sem] max2_int min2_int max_two min_two max_three min_three max_four min_four   -- for this text's walks alone
set_option linter.unusedVariables false
set_option linter.unusedSimpArgs false

/-! ### laws_FnExactValidSelection: function 4 -/
mutual
def laws_FnExactValidSelection.j0 : Nat → List Int → Int → List Int → List Int → List Int → List Int → List (S46) → Option (Bool)
 | 0, _, _, _, _, _, _, _ => none
 | k + 1, x0, x293000, x293001, x293002, x293003, x293004, x293005 => (laws_szSelection.f k x293000 x293001 x293002 x293003 x293004 x293005 1048576).bind fun t293 => (if t293 < 0 then (some true) else (laws_FnExactValidSelection.j1 k x0 x293000 x293001 x293002 x293003 x293004 x293005))
def laws_FnExactValidSelection.j1 : Nat → List Int → Int → List Int → List Int → List Int → List Int → List (S46) → Option (Bool)
 | 0, _, _, _, _, _, _, _ => none
 | k + 1, x0, x293000, x293001, x293002, x293003, x293004, x293005 => (laws_toInt64S.f k x0).bind fun t294 => ((laws_toSelection.f k x293000 x293001 x293002 x293003 x293004 x293005).bind fun bt297 => ((spec_ValidSelection.f k t294 bt297.1 bt297.2.1 bt297.2.2.1 bt297.2.2.2.1 bt297.2.2.2.2.1 bt297.2.2.2.2.2).bind fun t313 => (laws_FnExactValidSelection.j2 k x0 t313 x293000 x293001 x293002 x293003 x293004 x293005)))
def laws_FnExactValidSelection.j2 : Nat → List Int → Bool → Int → List Int → List Int → List Int → List Int → List (S46) → Option (Bool)
 | 0, _, _, _, _, _, _, _, _ => none
 | k + 1, x0, x6, x293000, x293001, x293002, x293003, x293004, x293005 => (laws_toInt64S.f k x0).bind fun t314 => ((laws_toSelection.f k x293000 x293001 x293002 x293003 x293004 x293005).bind fun bt317 => ((impl_ValidSelection.f k t314 bt317.1 bt317.2.1 bt317.2.2.1 bt317.2.2.2.1 bt317.2.2.2.2.1 bt317.2.2.2.2.2).bind fun t334 => (laws_FnExactValidSelection.j3 k x0 x6 t314 t334 x293000 x293001 x293002 x293003 x293004 x293005 bt317.1 bt317.2.1 bt317.2.2.1 bt317.2.2.2.1 bt317.2.2.2.2.1 bt317.2.2.2.2.2)))
def laws_FnExactValidSelection.j3 : Nat → List Int → Bool → List Int → Bool → Int → List Int → List Int → List Int → List Int → List (S46) → Int → List Int → List Int → List Int → List Int → List (S48) → Option (Bool)
 | 0, _, _, _, _, _, _, _, _, _, _, _, _, _, _, _, _ => none
 | k + 1, x0, x6, x7, x9, x293000, x293001, x293002, x293003, x293004, x293005, x334000, x334001, x334002, x334003, x334004, x334005 => if (x9 != x6) = true then (some false) else (laws_FnExactValidSelection.j4 k x0 x7 x293000 x293001 x293002 x293003 x293004 x293005 x334000 x334001 x334002 x334003 x334004 x334005)
def laws_FnExactValidSelection.j4 : Nat → List Int → List Int → Int → List Int → List Int → List Int → List Int → List (S46) → Int → List Int → List Int → List Int → List Int → List (S48) → Option (Bool)
 | 0, _, _, _, _, _, _, _, _, _, _, _, _, _, _ => none
 | k + 1, x0, x7, x293000, x293001, x293002, x293003, x293004, x293005, x334000, x334001, x334002, x334003, x334004, x334005 => (laws_toInt64S.f k x0).bind fun t335 => ((laws_eqInt64S.f k x7 t335).bind fun t338 => (if t338 = true then (laws_FnExactValidSelection.j5 k x293000 x293001 x293002 x293003 x293004 x293005 x334000 x334001 x334002 x334003 x334004 x334005) else (some false)))
def laws_FnExactValidSelection.j5 : Nat → Int → List Int → List Int → List Int → List Int → List (S46) → Int → List Int → List Int → List Int → List Int → List (S48) → Option (Bool)
 | 0, _, _, _, _, _, _, _, _, _, _, _, _ => none
 | k + 1, x293000, x293001, x293002, x293003, x293004, x293005, x334000, x334001, x334002, x334003, x334004, x334005 => (laws_toSelection.f k x293000 x293001 x293002 x293003 x293004 x293005).bind fun bt339 => ((laws_eqSelection.f k x334000 x334001 x334002 x334003 x334004 x334005 bt339.1 bt339.2.1 bt339.2.2.1 bt339.2.2.2.1 bt339.2.2.2.2.1 bt339.2.2.2.2.2).bind fun t355 => (if t355 = true then (some true) else (some false)))
end
def laws_FnExactValidSelection.f (k : Nat) (l0 : List Int) (a1_0 : Int) (l1_1 : List Int) (l1_2 : List Int) (l1_3 : List Int) (l1_4 : List Int) (l1_5 : List (S46)) : Option (Bool) := if (l0.length : Int) > 1048576 then (some true) else (laws_FnExactValidSelection.j0 k l0 a1_0 l1_1 l1_2 l1_3 l1_4 l1_5)
theorem laws_FnExactValidSelection.mono_l : ∀ k, (∀ y0 y1 y2 y3 y4 y5 y6, LeO (laws_FnExactValidSelection.j0 k y0 y1 y2 y3 y4 y5 y6) (laws_FnExactValidSelection.j0 (k + 1) y0 y1 y2 y3 y4 y5 y6)) ∧ (∀ y0 y1 y2 y3 y4 y5 y6, LeO (laws_FnExactValidSelection.j1 k y0 y1 y2 y3 y4 y5 y6) (laws_FnExactValidSelection.j1 (k + 1) y0 y1 y2 y3 y4 y5 y6)) ∧ (∀ y0 y1 y2 y3 y4 y5 y6 y7, LeO (laws_FnExactValidSelection.j2 k y0 y1 y2 y3 y4 y5 y6 y7) (laws_FnExactValidSelection.j2 (k + 1) y0 y1 y2 y3 y4 y5 y6 y7)) ∧ (∀ y0 y1 y2 y3 y4 y5 y6 y7 y8 y9 y10 y11 y12 y13 y14 y15, LeO (laws_FnExactValidSelection.j3 k y0 y1 y2 y3 y4 y5 y6 y7 y8 y9 y10 y11 y12 y13 y14 y15) (laws_FnExactValidSelection.j3 (k + 1) y0 y1 y2 y3 y4 y5 y6 y7 y8 y9 y10 y11 y12 y13 y14 y15)) ∧ (∀ y0 y1 y2 y3 y4 y5 y6 y7 y8 y9 y10 y11 y12 y13, LeO (laws_FnExactValidSelection.j4 k y0 y1 y2 y3 y4 y5 y6 y7 y8 y9 y10 y11 y12 y13) (laws_FnExactValidSelection.j4 (k + 1) y0 y1 y2 y3 y4 y5 y6 y7 y8 y9 y10 y11 y12 y13)) ∧ (∀ y0 y1 y2 y3 y4 y5 y6 y7 y8 y9 y10 y11, LeO (laws_FnExactValidSelection.j5 k y0 y1 y2 y3 y4 y5 y6 y7 y8 y9 y10 y11) (laws_FnExactValidSelection.j5 (k + 1) y0 y1 y2 y3 y4 y5 y6 y7 y8 y9 y10 y11))
 | 0 => ⟨fun _ _ _ _ _ _ _ r h => by simp [laws_FnExactValidSelection.j0] at h, fun _ _ _ _ _ _ _ r h => by simp [laws_FnExactValidSelection.j1] at h, fun _ _ _ _ _ _ _ _ r h => by simp [laws_FnExactValidSelection.j2] at h, fun _ _ _ _ _ _ _ _ _ _ _ _ _ _ _ _ r h => by simp [laws_FnExactValidSelection.j3] at h, fun _ _ _ _ _ _ _ _ _ _ _ _ _ _ r h => by simp [laws_FnExactValidSelection.j4] at h, fun _ _ _ _ _ _ _ _ _ _ _ _ r h => by simp [laws_FnExactValidSelection.j5] at h⟩
 | k + 1 => by
  obtain ⟨ih0, ih1, ih2, ih3, ih4, ih5⟩ := laws_FnExactValidSelection.mono_l k
  refine ⟨?_, ?_, ?_, ?_, ?_, ?_⟩
  ·
   intro y0 y1 y2 y3 y4 y5 y6
   unfold laws_FnExactValidSelection.j0
   repeat' first
   | (with_reducible exact ih0 _ _ _ _ _ _ _)
   | (with_reducible exact ih1 _ _ _ _ _ _ _)
   | (with_reducible exact ih2 _ _ _ _ _ _ _ _)
   | (with_reducible exact ih3 _ _ _ _ _ _ _ _ _ _ _ _ _ _ _ _)
   | (with_reducible exact ih4 _ _ _ _ _ _ _ _ _ _ _ _ _ _)
   | (with_reducible exact ih5 _ _ _ _ _ _ _ _ _ _ _ _)
   | (with_reducible exact impl_ValidSelection.mono _ _ _ _ _ _ _ _)
   | (with_reducible exact laws_eqInt64S.mono _ _ _)
   | (with_reducible exact laws_eqSelection.mono _ _ _ _ _ _ _ _ _ _ _ _ _)
   | (with_reducible exact laws_szSelection.mono _ _ _ _ _ _ _ _)
   | (with_reducible exact laws_toInt64S.mono _ _)
   | (with_reducible exact laws_toSelection.mono _ _ _ _ _ _ _)
   | (with_reducible exact spec_ValidSelection.mono _ _ _ _ _ _ _ _)
   | (with_reducible exact LeO.refl _)
   | (with_reducible exact LeO.none _)
   | (with_reducible refine LeO.ite ?_ ?_)
   | (with_reducible refine LeO.bind ?_ (fun _ => ?_))
   | exact ih0 _ _ _ _ _ _ _
   | exact ih1 _ _ _ _ _ _ _
   | exact ih2 _ _ _ _ _ _ _ _
   | exact ih3 _ _ _ _ _ _ _ _ _ _ _ _ _ _ _ _
   | exact ih4 _ _ _ _ _ _ _ _ _ _ _ _ _ _
   | exact ih5 _ _ _ _ _ _ _ _ _ _ _ _
   | exact impl_ValidSelection.mono _ _ _ _ _ _ _ _
   | exact laws_eqInt64S.mono _ _ _
   | exact laws_eqSelection.mono _ _ _ _ _ _ _ _ _ _ _ _ _
   | exact laws_szSelection.mono _ _ _ _ _ _ _ _
   | exact laws_toInt64S.mono _ _
   | exact laws_toSelection.mono _ _ _ _ _ _ _
   | exact spec_ValidSelection.mono _ _ _ _ _ _ _ _
   | exact LeO.none _
   | refine LeO.ite ?_ ?_
   | refine LeO.bind ?_ (fun _ => ?_)
  ·
   intro y0 y1 y2 y3 y4 y5 y6
   unfold laws_FnExactValidSelection.j1
   repeat' first
   | (with_reducible exact ih0 _ _ _ _ _ _ _)
   | (with_reducible exact ih1 _ _ _ _ _ _ _)
   | (with_reducible exact ih2 _ _ _ _ _ _ _ _)
   | (with_reducible exact ih3 _ _ _ _ _ _ _ _ _ _ _ _ _ _ _ _)
   | (with_reducible exact ih4 _ _ _ _ _ _ _ _ _ _ _ _ _ _)
   | (with_reducible exact ih5 _ _ _ _ _ _ _ _ _ _ _ _)
   | (with_reducible exact impl_ValidSelection.mono _ _ _ _ _ _ _ _)
   | (with_reducible exact laws_eqInt64S.mono _ _ _)
   | (with_reducible exact laws_eqSelection.mono _ _ _ _ _ _ _ _ _ _ _ _ _)
   | (with_reducible exact laws_szSelection.mono _ _ _ _ _ _ _ _)
   | (with_reducible exact laws_toInt64S.mono _ _)
   | (with_reducible exact laws_toSelection.mono _ _ _ _ _ _ _)
   | (with_reducible exact spec_ValidSelection.mono _ _ _ _ _ _ _ _)
   | (with_reducible exact LeO.refl _)
   | (with_reducible exact LeO.none _)
   | (with_reducible refine LeO.ite ?_ ?_)
   | (with_reducible refine LeO.bind ?_ (fun _ => ?_))
   | exact ih0 _ _ _ _ _ _ _
   | exact ih1 _ _ _ _ _ _ _
   | exact ih2 _ _ _ _ _ _ _ _
   | exact ih3 _ _ _ _ _ _ _ _ _ _ _ _ _ _ _ _
   | exact ih4 _ _ _ _ _ _ _ _ _ _ _ _ _ _
   | exact ih5 _ _ _ _ _ _ _ _ _ _ _ _
   | exact impl_ValidSelection.mono _ _ _ _ _ _ _ _
   | exact laws_eqInt64S.mono _ _ _
   | exact laws_eqSelection.mono _ _ _ _ _ _ _ _ _ _ _ _ _
   | exact laws_szSelection.mono _ _ _ _ _ _ _ _
   | exact laws_toInt64S.mono _ _
   | exact laws_toSelection.mono _ _ _ _ _ _ _
   | exact spec_ValidSelection.mono _ _ _ _ _ _ _ _
   | exact LeO.none _
   | refine LeO.ite ?_ ?_
   | refine LeO.bind ?_ (fun _ => ?_)
  ·
   intro y0 y1 y2 y3 y4 y5 y6 y7
   unfold laws_FnExactValidSelection.j2
   repeat' first
   | (with_reducible exact ih0 _ _ _ _ _ _ _)
   | (with_reducible exact ih1 _ _ _ _ _ _ _)
   | (with_reducible exact ih2 _ _ _ _ _ _ _ _)
   | (with_reducible exact ih3 _ _ _ _ _ _ _ _ _ _ _ _ _ _ _ _)
   | (with_reducible exact ih4 _ _ _ _ _ _ _ _ _ _ _ _ _ _)
   | (with_reducible exact ih5 _ _ _ _ _ _ _ _ _ _ _ _)
   | (with_reducible exact impl_ValidSelection.mono _ _ _ _ _ _ _ _)
   | (with_reducible exact laws_eqInt64S.mono _ _ _)
   | (with_reducible exact laws_eqSelection.mono _ _ _ _ _ _ _ _ _ _ _ _ _)
   | (with_reducible exact laws_szSelection.mono _ _ _ _ _ _ _ _)
   | (with_reducible exact laws_toInt64S.mono _ _)
   | (with_reducible exact laws_toSelection.mono _ _ _ _ _ _ _)
   | (with_reducible exact spec_ValidSelection.mono _ _ _ _ _ _ _ _)
   | (with_reducible exact LeO.refl _)
   | (with_reducible exact LeO.none _)
   | (with_reducible refine LeO.ite ?_ ?_)
   | (with_reducible refine LeO.bind ?_ (fun _ => ?_))
   | exact ih0 _ _ _ _ _ _ _
   | exact ih1 _ _ _ _ _ _ _
   | exact ih2 _ _ _ _ _ _ _ _
   | exact ih3 _ _ _ _ _ _ _ _ _ _ _ _ _ _ _ _
   | exact ih4 _ _ _ _ _ _ _ _ _ _ _ _ _ _
   | exact ih5 _ _ _ _ _ _ _ _ _ _ _ _
   | exact impl_ValidSelection.mono _ _ _ _ _ _ _ _
   | exact laws_eqInt64S.mono _ _ _
   | exact laws_eqSelection.mono _ _ _ _ _ _ _ _ _ _ _ _ _
   | exact laws_szSelection.mono _ _ _ _ _ _ _ _
   | exact laws_toInt64S.mono _ _
   | exact laws_toSelection.mono _ _ _ _ _ _ _
   | exact spec_ValidSelection.mono _ _ _ _ _ _ _ _
   | exact LeO.none _
   | refine LeO.ite ?_ ?_
   | refine LeO.bind ?_ (fun _ => ?_)
  ·
   intro y0 y1 y2 y3 y4 y5 y6 y7 y8 y9 y10 y11 y12 y13 y14 y15
   unfold laws_FnExactValidSelection.j3
   repeat' first
   | (with_reducible exact ih0 _ _ _ _ _ _ _)
   | (with_reducible exact ih1 _ _ _ _ _ _ _)
   | (with_reducible exact ih2 _ _ _ _ _ _ _ _)
   | (with_reducible exact ih3 _ _ _ _ _ _ _ _ _ _ _ _ _ _ _ _)
   | (with_reducible exact ih4 _ _ _ _ _ _ _ _ _ _ _ _ _ _)
   | (with_reducible exact ih5 _ _ _ _ _ _ _ _ _ _ _ _)
   | (with_reducible exact impl_ValidSelection.mono _ _ _ _ _ _ _ _)
   | (with_reducible exact laws_eqInt64S.mono _ _ _)
   | (with_reducible exact laws_eqSelection.mono _ _ _ _ _ _ _ _ _ _ _ _ _)
   | (with_reducible exact laws_szSelection.mono _ _ _ _ _ _ _ _)
   | (with_reducible exact laws_toInt64S.mono _ _)
   | (with_reducible exact laws_toSelection.mono _ _ _ _ _ _ _)
   | (with_reducible exact spec_ValidSelection.mono _ _ _ _ _ _ _ _)
   | (with_reducible exact LeO.refl _)
   | (with_reducible exact LeO.none _)
   | (with_reducible refine LeO.ite ?_ ?_)
   | (with_reducible refine LeO.bind ?_ (fun _ => ?_))
   | exact ih0 _ _ _ _ _ _ _
   | exact ih1 _ _ _ _ _ _ _
   | exact ih2 _ _ _ _ _ _ _ _
   | exact ih3 _ _ _ _ _ _ _ _ _ _ _ _ _ _ _ _
   | exact ih4 _ _ _ _ _ _ _ _ _ _ _ _ _ _
   | exact ih5 _ _ _ _ _ _ _ _ _ _ _ _
   | exact impl_ValidSelection.mono _ _ _ _ _ _ _ _
   | exact laws_eqInt64S.mono _ _ _
   | exact laws_eqSelection.mono _ _ _ _ _ _ _ _ _ _ _ _ _
   | exact laws_szSelection.mono _ _ _ _ _ _ _ _
   | exact laws_toInt64S.mono _ _
   | exact laws_toSelection.mono _ _ _ _ _ _ _
   | exact spec_ValidSelection.mono _ _ _ _ _ _ _ _
   | exact LeO.none _
   | refine LeO.ite ?_ ?_
   | refine LeO.bind ?_ (fun _ => ?_)
  ·
   intro y0 y1 y2 y3 y4 y5 y6 y7 y8 y9 y10 y11 y12 y13
   unfold laws_FnExactValidSelection.j4
   repeat' first
   | (with_reducible exact ih0 _ _ _ _ _ _ _)
   | (with_reducible exact ih1 _ _ _ _ _ _ _)
   | (with_reducible exact ih2 _ _ _ _ _ _ _ _)
   | (with_reducible exact ih3 _ _ _ _ _ _ _ _ _ _ _ _ _ _ _ _)
   | (with_reducible exact ih4 _ _ _ _ _ _ _ _ _ _ _ _ _ _)
   | (with_reducible exact ih5 _ _ _ _ _ _ _ _ _ _ _ _)
   | (with_reducible exact impl_ValidSelection.mono _ _ _ _ _ _ _ _)
   | (with_reducible exact laws_eqInt64S.mono _ _ _)
   | (with_reducible exact laws_eqSelection.mono _ _ _ _ _ _ _ _ _ _ _ _ _)
   | (with_reducible exact laws_szSelection.mono _ _ _ _ _ _ _ _)
   | (with_reducible exact laws_toInt64S.mono _ _)
   | (with_reducible exact laws_toSelection.mono _ _ _ _ _ _ _)
   | (with_reducible exact spec_ValidSelection.mono _ _ _ _ _ _ _ _)
   | (with_reducible exact LeO.refl _)
   | (with_reducible exact LeO.none _)
   | (with_reducible refine LeO.ite ?_ ?_)
   | (with_reducible refine LeO.bind ?_ (fun _ => ?_))
   | exact ih0 _ _ _ _ _ _ _
   | exact ih1 _ _ _ _ _ _ _
   | exact ih2 _ _ _ _ _ _ _ _
   | exact ih3 _ _ _ _ _ _ _ _ _ _ _ _ _ _ _ _
   | exact ih4 _ _ _ _ _ _ _ _ _ _ _ _ _ _
   | exact ih5 _ _ _ _ _ _ _ _ _ _ _ _
   | exact impl_ValidSelection.mono _ _ _ _ _ _ _ _
   | exact laws_eqInt64S.mono _ _ _
   | exact laws_eqSelection.mono _ _ _ _ _ _ _ _ _ _ _ _ _
   | exact laws_szSelection.mono _ _ _ _ _ _ _ _
   | exact laws_toInt64S.mono _ _
   | exact laws_toSelection.mono _ _ _ _ _ _ _
   | exact spec_ValidSelection.mono _ _ _ _ _ _ _ _
   | exact LeO.none _
   | refine LeO.ite ?_ ?_
   | refine LeO.bind ?_ (fun _ => ?_)
  ·
   intro y0 y1 y2 y3 y4 y5 y6 y7 y8 y9 y10 y11
   unfold laws_FnExactValidSelection.j5
   repeat' first
   | (with_reducible exact ih0 _ _ _ _ _ _ _)
   | (with_reducible exact ih1 _ _ _ _ _ _ _)
   | (with_reducible exact ih2 _ _ _ _ _ _ _ _)
   | (with_reducible exact ih3 _ _ _ _ _ _ _ _ _ _ _ _ _ _ _ _)
   | (with_reducible exact ih4 _ _ _ _ _ _ _ _ _ _ _ _ _ _)
   | (with_reducible exact ih5 _ _ _ _ _ _ _ _ _ _ _ _)
   | (with_reducible exact impl_ValidSelection.mono _ _ _ _ _ _ _ _)
   | (with_reducible exact laws_eqInt64S.mono _ _ _)
   | (with_reducible exact laws_eqSelection.mono _ _ _ _ _ _ _ _ _ _ _ _ _)
   | (with_reducible exact laws_szSelection.mono _ _ _ _ _ _ _ _)
   | (with_reducible exact laws_toInt64S.mono _ _)
   | (with_reducible exact laws_toSelection.mono _ _ _ _ _ _ _)
   | (with_reducible exact spec_ValidSelection.mono _ _ _ _ _ _ _ _)
   | (with_reducible exact LeO.refl _)
   | (with_reducible exact LeO.none _)
   | (with_reducible refine LeO.ite ?_ ?_)
   | (with_reducible refine LeO.bind ?_ (fun _ => ?_))
   | exact ih0 _ _ _ _ _ _ _
   | exact ih1 _ _ _ _ _ _ _
   | exact ih2 _ _ _ _ _ _ _ _
   | exact ih3 _ _ _ _ _ _ _ _ _ _ _ _ _ _ _ _
   | exact ih4 _ _ _ _ _ _ _ _ _ _ _ _ _ _
   | exact ih5 _ _ _ _ _ _ _ _ _ _ _ _
   | exact impl_ValidSelection.mono _ _ _ _ _ _ _ _
   | exact laws_eqInt64S.mono _ _ _
   | exact laws_eqSelection.mono _ _ _ _ _ _ _ _ _ _ _ _ _
   | exact laws_szSelection.mono _ _ _ _ _ _ _ _
   | exact laws_toInt64S.mono _ _
   | exact laws_toSelection.mono _ _ _ _ _ _ _
   | exact spec_ValidSelection.mono _ _ _ _ _ _ _ _
   | exact LeO.none _
   | refine LeO.ite ?_ ?_
   | refine LeO.bind ?_ (fun _ => ?_)
theorem laws_FnExactValidSelection.mono : ∀ a0 a1 a2 a3 a4 a5 a6 k, LeO (laws_FnExactValidSelection.f k a0 a1 a2 a3 a4 a5 a6) (laws_FnExactValidSelection.f (k + 1) a0 a1 a2 a3 a4 a5 a6) := by
 intro a0 a1 a2 a3 a4 a5 a6 k
 obtain ⟨ih0, ih1, ih2, ih3, ih4, ih5⟩ := laws_FnExactValidSelection.mono_l k
 unfold laws_FnExactValidSelection.f
 repeat' first
   | (with_reducible exact ih0 _ _ _ _ _ _ _)
   | (with_reducible exact ih1 _ _ _ _ _ _ _)
   | (with_reducible exact ih2 _ _ _ _ _ _ _ _)
   | (with_reducible exact ih3 _ _ _ _ _ _ _ _ _ _ _ _ _ _ _ _)
   | (with_reducible exact ih4 _ _ _ _ _ _ _ _ _ _ _ _ _ _)
   | (with_reducible exact ih5 _ _ _ _ _ _ _ _ _ _ _ _)
   | (with_reducible exact impl_ValidSelection.mono _ _ _ _ _ _ _ _)
   | (with_reducible exact laws_eqInt64S.mono _ _ _)
   | (with_reducible exact laws_eqSelection.mono _ _ _ _ _ _ _ _ _ _ _ _ _)
   | (with_reducible exact laws_szSelection.mono _ _ _ _ _ _ _ _)
   | (with_reducible exact laws_toInt64S.mono _ _)
   | (with_reducible exact laws_toSelection.mono _ _ _ _ _ _ _)
   | (with_reducible exact spec_ValidSelection.mono _ _ _ _ _ _ _ _)
   | (with_reducible exact LeO.refl _)
   | (with_reducible exact LeO.none _)
   | (with_reducible refine LeO.ite ?_ ?_)
   | (with_reducible refine LeO.bind ?_ (fun _ => ?_))
   | exact ih0 _ _ _ _ _ _ _
   | exact ih1 _ _ _ _ _ _ _
   | exact ih2 _ _ _ _ _ _ _ _
   | exact ih3 _ _ _ _ _ _ _ _ _ _ _ _ _ _ _ _
   | exact ih4 _ _ _ _ _ _ _ _ _ _ _ _ _ _
   | exact ih5 _ _ _ _ _ _ _ _ _ _ _ _
   | exact impl_ValidSelection.mono _ _ _ _ _ _ _ _
   | exact laws_eqInt64S.mono _ _ _
   | exact laws_eqSelection.mono _ _ _ _ _ _ _ _ _ _ _ _ _
   | exact laws_szSelection.mono _ _ _ _ _ _ _ _
   | exact laws_toInt64S.mono _ _
   | exact laws_toSelection.mono _ _ _ _ _ _ _
   | exact spec_ValidSelection.mono _ _ _ _ _ _ _ _
   | exact LeO.none _
   | refine LeO.ite ?_ ?_
   | refine LeO.bind ?_ (fun _ => ?_)
set_option maxHeartbeats 8000000 in
set_option maxRecDepth 100000 in
theorem laws_FnExactValidSelection.calls (k : Nat) (A0 : Option Addr) (c0 : Nat) (l0 : List Int) (a1_0 : Int) (A1_1 : Option Addr) (c1_1 : Nat) (l1_1 : List Int) (A1_2 : Option Addr) (c1_2 : Nat) (l1_2 : List Int) (A1_3 : Option Addr) (c1_3 : Nat) (l1_3 : List Int) (A1_4 : Option Addr) (c1_4 : Nat) (l1_4 : List Int) (A1_5 : Option Addr) (c1_5 : Nat) (l1_5 : List (S46)) (r : Bool) (w : World) (hr0 : Kd.C (Kd.int .i64) w A0 l0.length l0) (hc0 : l0.length ≤ c0) (hr1_1 : Kd.C (Kd.int .i64) w A1_1 l1_1.length l1_1) (hc1_1 : l1_1.length ≤ c1_1) (hr1_2 : Kd.C (Kd.int .i64) w A1_2 l1_2.length l1_2) (hc1_2 : l1_2.length ≤ c1_2) (hr1_3 : Kd.C (Kd.int .i64) w A1_3 l1_3.length l1_3) (hc1_3 : l1_3.length ≤ c1_3) (hr1_4 : Kd.C (Kd.int .i64) w A1_4 l1_4.length l1_4) (hc1_4 : l1_4.length ≤ c1_4) (hr1_5 : Kd.C k46 w A1_5 l1_5.length l1_5) (hc1_5 : l1_5.length ≤ c1_5) (h : laws_FnExactValidSelection.f k l0 a1_0 l1_1 l1_2 l1_3 l1_4 l1_5 = some r) :
  Calls Try.prog 4 #[.slice A0 l0.length c0, .agg #[.int .i64 a1_0, .slice A1_1 l1_1.length c1_1, .slice A1_2 l1_2.length c1_2, .slice A1_3 l1_3.length c1_3, .slice A1_4 l1_4.length c1_4, .slice A1_5 l1_5.length c1_5]] w fun e w' => e = .returned (.bool r) ∧ Below w.heap.size w w' := by
 have hu25 := Try.underlying25; have hu30 := Try.underlying30
 have HR0 := yD hr0
 have HC0 := yD hc0
 clear hr0 hc0
 have HR1_1 := yD hr1_1
 have HC1_1 := yD hc1_1
 clear hr1_1 hc1_1
 have HR1_2 := yD hr1_2
 have HC1_2 := yD hc1_2
 clear hr1_2 hc1_2
 have HR1_3 := yD hr1_3
 have HC1_3 := yD hc1_3
 clear hr1_3 hc1_3
 have HR1_4 := yD hr1_4
 have HC1_4 := yD hc1_4
 clear hr1_4 hc1_4
 have HR1_5 := yD hr1_5
 have HC1_5 := yD hc1_5
 clear hr1_5 hc1_5
 have HB := yD (Below.refl w.heap.size w)
 have H : (if (l0.length : Int) > 1048576 then (some true) else (laws_FnExactValidSelection.j0 k l0 a1_0 l1_1 l1_2 l1_3 l1_4 l1_5)) = some r := h
 clear h
 have HC3 := yD H
 clear H; go_enter Try.func4, Try.ntmps4
 go_upto_if 12 with (first | ((with_reducible refine gate_dst (N := 3) rfl ?_); refine box_event ?hg (N := 3) ?hd (cs := #[.int .i64 a1_0, .slice A1_1 l1_1.length c1_1, .slice A1_2 l1_2.length c1_2, .slice A1_3 l1_3.length c1_3, .slice A1_4 l1_4.length c1_4, .slice A1_5 l1_5.length c1_5]) (t := 25) ?hr ?_; (case hd => rfl); (case hg => rfl); (case hr => first | (go_simp; done) | (go_simp; rfl)); intro gb292 hg w4 hbox hb; have n0_ := yD (zC (by repeat (first | (with_reducible first | exact HB.out | apply yQ | apply yL | apply yP) | exact HB.out)) hb); have n1_ := yD (hbox); have n2_ := yD ((by rw [hg]; exact (below_size (by repeat (first | (with_reducible first | exact HB.out | apply yQ | apply yL | apply yP) | exact HB.out))) : w.heap.size ≤ gb292)); have n3_ := yD ((by rw [hg]; exact (below_size (by repeat (first | (with_reducible first | exact HB.out | apply yQ | apply yL | apply yP) | exact HB.out))) : w.heap.size ≤ gb292)); clear HB; have HB := n0_; have BK292 := n1_; have GW292 := n2_; have GE292 := n3_; clear n0_ n1_ n2_ n3_; clear hb hbox hg))
 (try simp only [Act.put, zH, zI, zJ])
 go_cut [] (fun wc => ∃ (kq : Nat), Aside0 (laws_FnExactValidSelection.j0 kq l0 a1_0 l1_1 l1_2 l1_3 l1_4 l1_5 = some r) ∧ Aside0 (kq ≤ k) ∧ Aside0 (wc.heap[gb292]? = some (.cells #[.int .i64 a1_0, (.slice A1_1 l1_1.length c1_1), (.slice A1_2 l1_2.length c1_2), (.slice A1_3 l1_3.length c1_3), (.slice A1_4 l1_4.length c1_4), (.slice A1_5 l1_5.length c1_5)] 25 (0, 0))) ∧ Aside0 (Below w.heap.size w wc))
 case first =>
  have H := HC3.out; clear HC3
  by_cases c5 : (l0.length : Int) > 1048576
  ·
   rw [if_pos c5] at H; have c5b0 : decide (1048576 < (l0.length : Int)) = true := zR c5
   have c5b1 : decide (1048576 < l0.length) = true := zR (by omega)
   clear c5
   (first | rw [c5b0] | (simp only [i64_w, i32_w]; rw [c5b0]) | (simp only [bne] at c5b0; rw [c5b0]) | skip)
   obtain rfl := Option.some.inj H
   go_wp2
   go_ret
   exact ⟨by first | rfl | (simp <;> rfl) | (simp [*] <;> rfl), by repeat (first | (with_reducible first | exact HB.out | apply yQ | apply yL | apply yP | refine yE ?_ GE292.out) | exact HB.out)⟩
  ·
   rw [if_neg c5] at H; have c5b0 : decide (1048576 < (l0.length : Int)) = false := zS c5
   have c5b1 : decide (1048576 < l0.length) = false := zS (by omega)
   clear c5
   (first | rw [c5b0] | (simp only [i64_w, i32_w]; rw [c5b0]) | (simp only [bne] at c5b0; rw [c5b0]) | skip)
   have H' := yD H
   clear H
   go_wp2
   go_meet
   case rel => exact ⟨_, H', ⟨by first | omega | exact Nat.le_refl _⟩, ⟨by (with_reducible repeat (first | refine yM ?_ _ | refine yO ?_ | refine yN ?_ _)); exact BK292.out⟩, ⟨by repeat (first | (with_reducible first | exact HB.out | apply yQ | apply yL | apply yP | refine yE ?_ GE292.out) | exact HB.out)⟩⟩
 case rest =>
  clear HC3; try clear c1; try clear p2; try clear c4; try clear c5; try clear c5b0; try clear c5b1
  obtain ⟨kq, HA, HJ2, BK292, HB⟩ := hcut
  cases kq with
  | zero => exact absurd HA.out (by simp [laws_FnExactValidSelection.j0])
  | succ kj2 =>
   have H := HA.out; clear HA
   simp only [laws_FnExactValidSelection.j0] at H
   obtain ⟨t293, A60, H⟩ := zW_ H
   replace H : (if t293 < 0 then (some true) else (laws_FnExactValidSelection.j1 kj2 l0 a1_0 l1_1 l1_2 l1_3 l1_4 l1_5)) = some r := H
   have A6 := yD A60
   clear A60
   have HC7 := yD H
   clear H
   have hcz8_0 : wc.cell? ⟨gb292, 0, none⟩ = some (.int .i64 a1_0) := (yG BK292.out 0).trans rfl
   have hcz8_1 : wc.cell? ⟨gb292, 1, none⟩ = some (.slice A1_1 l1_1.length c1_1) := (yG BK292.out 1).trans rfl
   have hcz8_2 : wc.cell? ⟨gb292, 2, none⟩ = some (.slice A1_2 l1_2.length c1_2) := (yG BK292.out 2).trans rfl
   have hcz8_3 : wc.cell? ⟨gb292, 3, none⟩ = some (.slice A1_3 l1_3.length c1_3) := (yG BK292.out 3).trans rfl
   have hcz8_4 : wc.cell? ⟨gb292, 4, none⟩ = some (.slice A1_4 l1_4.length c1_4) := (yG BK292.out 4).trans rfl
   have hcz8_5 : wc.cell? ⟨gb292, 5, none⟩ = some (.slice A1_5 l1_5.length c1_5) := (yG BK292.out 5).trans rfl
   have hfz8_0 := yR BK292.out 0
   have hfz8_1 := yR BK292.out 1
   have hfz8_2 := yR BK292.out 2
   have hfz8_3 := yR BK292.out 3
   have hfz8_4 := yR BK292.out 4
   have hfz8_5 := yR BK292.out 5
   go_upto_if 17 with (first | ((with_reducible refine gate_callee (f := 5) rfl ?_); refine goesL_ (some 15) rfl rfl Try.func5 (by kernel_rfl) rfl #[.agg #[.int .i64 a1_0, .slice A1_1 l1_1.length c1_1, .slice A1_2 l1_2.length c1_2, .slice A1_3 l1_3.length c1_3, .slice A1_4 l1_4.length c1_4, .slice A1_5 l1_5.length c1_5], .int .i64 1048576] rfl (by (try simp only [zK, zL, zM]); first | done | rfl | (simp only [zN, zO]; rfl)) ?_; (with_reducible refine (laws_szSelection.calls kj2 a1_0 _ _ l1_1 _ _ l1_2 _ _ l1_3 _ _ l1_4 _ _ l1_5 1048576 t293 _ ?side1 ?side2 ?side3 ?side4 ?side5 ?side6 ?side7 ?side8 ?side9 ?side10 A6.out).mono ?_); (case side1 => repeat (first | exact (yY HR1_1.out HB.out) | (with_reducible first | refine yV ?_ _ | refine yW ?_ _ | refine yX ?_))); (case side2 => exact HC1_1.out); (case side3 => repeat (first | exact (yY HR1_2.out HB.out) | (with_reducible first | refine yV ?_ _ | refine yW ?_ _ | refine yX ?_))); (case side4 => exact HC1_2.out); (case side5 => repeat (first | exact (yY HR1_3.out HB.out) | (with_reducible first | refine yV ?_ _ | refine yW ?_ _ | refine yX ?_))); (case side6 => exact HC1_3.out); (case side7 => repeat (first | exact (yY HR1_4.out HB.out) | (with_reducible first | refine yV ?_ _ | refine yW ?_ _ | refine yX ?_))); (case side8 => exact HC1_4.out); (case side9 => repeat (first | exact (yY HR1_5.out HB.out) | (with_reducible first | refine yV ?_ _ | refine yW ?_ _ | refine yX ?_))); (case side10 => exact HC1_5.out); rintro e w9 ⟨rfl, hb⟩; refine ⟨_, rfl, ?_⟩; have n0_ := yD (zB (g := gb292) (o := .cells #[.int .i64 a1_0, .slice A1_1 l1_1.length c1_1, .slice A1_2 l1_2.length c1_2, .slice A1_3 l1_3.length c1_3, .slice A1_4 l1_4.length c1_4, .slice A1_5 l1_5.length c1_5] 25 (0, 0)) (by (with_reducible repeat (first | refine yM ?_ _ | refine yO ?_ | refine yN ?_ _)); exact BK292.out) hb); have n1_ := yD (zC (by repeat (first | (with_reducible first | exact HB.out | apply yQ | apply yL | apply yP | refine yE ?_ GE292.out) | exact HB.out)) hb); clear BK292; clear HB; have BK292 := n0_; have HB := n1_; clear n0_ n1_; (try clear hb); (try clear hb2); (try clear hk); (try clear hi)))
   (try simp only [Act.put, zH, zI, zJ])
   go_cut [] (fun wc => ∃ (kq : Nat), Aside0 (laws_FnExactValidSelection.j1 kq l0 a1_0 l1_1 l1_2 l1_3 l1_4 l1_5 = some r) ∧ Aside0 (kq ≤ kj2) ∧ Aside0 (wc.heap[gb292]? = some (.cells #[.int .i64 a1_0, (.slice A1_1 l1_1.length c1_1), (.slice A1_2 l1_2.length c1_2), (.slice A1_3 l1_3.length c1_3), (.slice A1_4 l1_4.length c1_4), (.slice A1_5 l1_5.length c1_5)] 25 (0, 0))) ∧ Aside0 (Below w.heap.size w wc))
   case first =>
    have H := HC7.out; clear HC7
    by_cases c10 : t293 < 0
    ·
     rw [if_pos c10] at H; have c10b0 : decide (t293 < 0) = true := zR c10; clear c10
     (first | rw [c10b0] | (simp only [i64_w, i32_w]; rw [c10b0]) | (simp only [bne] at c10b0; rw [c10b0]) | skip)
     obtain rfl := Option.some.inj H
     go_wp2
     go_ret
     exact ⟨by first | rfl | (simp <;> rfl) | (simp [*] <;> rfl), by repeat (first | (with_reducible first | exact HB.out | apply yQ | apply yL | apply yP | refine yE ?_ GE292.out) | exact HB.out)⟩
    ·
     rw [if_neg c10] at H; have c10b0 : decide (t293 < 0) = false := zS c10; clear c10
     (first | rw [c10b0] | (simp only [i64_w, i32_w]; rw [c10b0]) | (simp only [bne] at c10b0; rw [c10b0]) | skip)
     have H' := yD H
     clear H
     go_wp2
     go_meet
     case rel => exact ⟨_, H', ⟨by have := HJ2.out; first | omega | exact Nat.le_refl _⟩, ⟨by (with_reducible repeat (first | refine yM ?_ _ | refine yO ?_ | refine yN ?_ _)); exact BK292.out⟩, ⟨by repeat (first | (with_reducible first | exact HB.out | apply yQ | apply yL | apply yP | refine yE ?_ GE292.out) | exact HB.out)⟩⟩
   case rest =>
    clear HC7; try clear c1; try clear p2; try clear c4; try clear c5; try clear c5b0; try clear c5b1; try clear c10; try clear c10b0; try clear hcz8_0; try clear hcz8_1; try clear hcz8_2; try clear hcz8_3; try clear hcz8_4; try clear hcz8_5; try clear hfz8_0; try clear hfz8_1; try clear hfz8_2; try clear hfz8_3; try clear hfz8_4; try clear hfz8_5; try clear p2
    obtain ⟨kq, HA, HJ6, BK292, HB⟩ := hcut
    cases kq with
    | zero => exact absurd HA.out (by simp [laws_FnExactValidSelection.j1])
    | succ kj6 =>
     have H := HA.out; clear HA
     simp only [laws_FnExactValidSelection.j1] at H
     have HC11 := yD H
     clear H
     go_upto_region 7 with (fail)
     go_cut [6] (fun v6 wc => ∃ (kq : Nat) (x6_10 : Bool), v6 = .bool x6_10 ∧ Aside0 (laws_FnExactValidSelection.j2 kq l0 x6_10 a1_0 l1_1 l1_2 l1_3 l1_4 l1_5 = some r) ∧ Aside0 (kq ≤ kj6) ∧ Aside0 (wc.heap[gb292]? = some (.cells #[.int .i64 a1_0, (.slice A1_1 l1_1.length c1_1), (.slice A1_2 l1_2.length c1_2), (.slice A1_3 l1_3.length c1_3), (.slice A1_4 l1_4.length c1_4), (.slice A1_5 l1_5.length c1_5)] 25 (0, 0))) ∧ Aside0 (Below w.heap.size w wc))
     case first =>
      have H := HC11.out; clear HC11
      obtain ⟨t294, A120, H⟩ := zW_ H
      replace H : ((laws_toSelection.f kj6 a1_0 l1_1 l1_2 l1_3 l1_4 l1_5).bind fun bt297 => ((spec_ValidSelection.f kj6 t294 bt297.1 bt297.2.1 bt297.2.2.1 bt297.2.2.2.1 bt297.2.2.2.2.1 bt297.2.2.2.2.2).bind fun t313 => (laws_FnExactValidSelection.j2 kj6 l0 t313 a1_0 l1_1 l1_2 l1_3 l1_4 l1_5))) = some r := H
      have A12 := yD A120
      clear A120
      obtain ⟨⟨t297, t298, t301, t304, t307, t310⟩, A130, H⟩ := zW_ H
      replace H : ((spec_ValidSelection.f kj6 t294 t297 t298 t301 t304 t307 t310).bind fun t313 => (laws_FnExactValidSelection.j2 kj6 l0 t313 a1_0 l1_1 l1_2 l1_3 l1_4 l1_5)) = some r := H
      have A13 := yD A130
      clear A130
      obtain ⟨t313, A140, H⟩ := zW_ H
      replace H : (laws_FnExactValidSelection.j2 kj6 l0 t313 a1_0 l1_1 l1_2 l1_3 l1_4 l1_5) = some r := H
      have A14 := yD A140
      clear A140
      have H' := yD H
      clear H
      try go_wp2
      have n0_ := yD (yO BK292.out)
      have n1_ := yD (yP HB.out)
      clear BK292 HB; have BK292 := n0_; have HB := n1_; clear n0_ n1_
      refine start_ (n := 6) (S := fun w' => w'.cell? ⟨gb292, 0, none⟩ = some (.int .i64 a1_0) ∧ w'.cell? ⟨gb292, 1, none⟩ = some (.slice A1_1 l1_1.length c1_1) ∧ w'.cell? ⟨gb292, 2, none⟩ = some (.slice A1_2 l1_2.length c1_2) ∧ w'.cell? ⟨gb292, 3, none⟩ = some (.slice A1_3 l1_3.length c1_3) ∧ w'.cell? ⟨gb292, 4, none⟩ = some (.slice A1_4 l1_4.length c1_4) ∧ w'.cell? ⟨gb292, 5, none⟩ = some (.slice A1_5 l1_5.length c1_5)) (ds := []) #[false, false, false, false, false, false] (by kernel_rfl) rfl rfl ⟨(yG BK292.out 0).trans rfl, (yG BK292.out 1).trans rfl, (yG BK292.out 2).trans rfl, (yG BK292.out 3).trans rfl, (yG BK292.out 4).trans rfl, (yG BK292.out 5).trans rfl⟩ (fun hHeld => ?_)
      generalize wc.drew = w15 at BK292 HB hHeld ⊢
      refine pA 0 18 #[true, false, false, false, false, false] rfl rfl (by kernel_rfl) (fun _ _ _ h => h) (by rfl) (fun _ => by go_simp; with_reducible rfl) (by simp only [Act.put, zH, zI, zJ, i64_w, i32_w]; rfl) ?_
      refine pC 2 20 #[true, false, true, false, false, false] rfl rfl (by kernel_rfl) (fun _ _ _ h => h) (by rfl) hHeld (by rintro w' ⟨s0, s1, s2, s3, s4, s5⟩; go_simp; with_reducible rfl) (by simp only [Act.put, zH, zI, zJ, i64_w, i32_w]; rfl) ?_
      refine one_ (i := 1) (N := some 19) #[true, true, true, false, false, false] rfl rfl (by kernel_rfl) (by decide) (fun K hK => ?_)
      refine goes_ Try.func11 (by kernel_rfl) rfl #[.slice A0 l0.length c0] (by rfl) rfl rfl (by (try simp only [zK, zL, zM]); first | done | rfl | (simp only [zN, zO]; rfl)) ?_
      with_reducible refine (laws_toInt64S.calls kj6 _ _ l0 t294 _ ?side1 ?side2 A12.out).mono ?_
      (case side1 => repeat (first | exact (yY HR0.out HB.out) | (with_reducible first | refine yV ?_ _ | refine yW ?_ _ | refine yX ?_)))
      (case side2 => exact HC0.out)
      rintro e w16 ⟨v295, rfl, ho0, hb⟩
      refine ⟨_, rfl, ?_⟩
      have n0_ := yD (yZ ho0 (below_size (by repeat (first | (with_reducible first | exact HB.out | apply yQ | apply yL | apply yP | refine yE ?_ GE292.out) | exact HB.out))))
      have n1_ := yD (zB (g := gb292) (o := .cells #[.int .i64 a1_0, .slice A1_1 l1_1.length c1_1, .slice A1_2 l1_2.length c1_2, .slice A1_3 l1_3.length c1_3, .slice A1_4 l1_4.length c1_4, .slice A1_5 l1_5.length c1_5] 25 (0, 0)) (by (with_reducible repeat (first | refine yM ?_ _ | refine yO ?_ | refine yN ?_ _)); exact BK292.out) hb)
      have n2_ := yD (zC (by repeat (first | (with_reducible first | exact HB.out | apply yQ | apply yL | apply yP | refine yE ?_ GE292.out) | exact HB.out)) hb)
      clear BK292 HB; have HO296 := n0_; have BK292 := n1_; have HB := n2_; clear n0_ n1_ n2_; (try clear hb); (try clear hb2); (try clear hk); (try clear hi); (try clear ho0)
      refine hK.out _ _ ⟨(yG BK292.out 0).trans rfl, (yG BK292.out 1).trans rfl, (yG BK292.out 2).trans rfl, (yG BK292.out 3).trans rfl, (yG BK292.out 4).trans rfl, (yG BK292.out 5).trans rfl⟩ (fun hHeld => ?_)
      clear hK K
      refine norm_ (by show Act.put _ (some 19) _ = _; simp only [Act.put, zH, zI, zJ, i64_w, i32_w]; rfl) ?_
      refine one_ (i := 3) (N := some 21) #[true, true, true, true, false, false] rfl rfl (by kernel_rfl) (by decide) (fun K hK => ?_)
      refine goes_ Try.func7 (by kernel_rfl) rfl #[.agg #[.int .i64 a1_0, .slice A1_1 l1_1.length c1_1, .slice A1_2 l1_2.length c1_2, .slice A1_3 l1_3.length c1_3, .slice A1_4 l1_4.length c1_4, .slice A1_5 l1_5.length c1_5]] (by rfl) rfl rfl (by (try simp only [zK, zL, zM]); first | done | rfl | (simp only [zN, zO]; rfl)) ?_
      with_reducible refine (laws_toSelection.calls kj6 a1_0 _ _ l1_1 _ _ l1_2 _ _ l1_3 _ _ l1_4 _ _ l1_5 t297 t298 t301 t304 t307 t310 _ ?side1 ?side2 ?side3 ?side4 ?side5 ?side6 ?side7 ?side8 ?side9 ?side10 A13.out).mono ?_
      (case side1 => repeat (first | exact (yY HR1_1.out HB.out) | (with_reducible first | refine yV ?_ _ | refine yW ?_ _ | refine yX ?_)))
      (case side2 => exact HC1_1.out)
      (case side3 => repeat (first | exact (yY HR1_2.out HB.out) | (with_reducible first | refine yV ?_ _ | refine yW ?_ _ | refine yX ?_)))
      (case side4 => exact HC1_2.out)
      (case side5 => repeat (first | exact (yY HR1_3.out HB.out) | (with_reducible first | refine yV ?_ _ | refine yW ?_ _ | refine yX ?_)))
      (case side6 => exact HC1_3.out)
      (case side7 => repeat (first | exact (yY HR1_4.out HB.out) | (with_reducible first | refine yV ?_ _ | refine yW ?_ _ | refine yX ?_)))
      (case side8 => exact HC1_4.out)
      (case side9 => repeat (first | exact (yY HR1_5.out HB.out) | (with_reducible first | refine yV ?_ _ | refine yW ?_ _ | refine yX ?_)))
      (case side10 => exact HC1_5.out)
      rintro e w17 ⟨v299, v302, v305, v308, v311, rfl, ho0, ho1, ho2, ho3, ho4, hb⟩
      refine ⟨_, rfl, ?_⟩
      have n0_ := yD (zF (yI (yI (yI (yI (Kd.R_old (by (with_reducible repeat (first | apply yA | apply yB | apply yC)); exact HO296.out) hb) (yH ho0)) (yH ho1)) (yH ho2)) (yH ho3)) (fun _ h_ => h_.1))
      have n1_ := yD (yZ (yJ ho0 (yK (by (with_reducible repeat (first | apply yA | apply yB | apply yC)); exact HO296.out))) (below_size (by repeat (first | (with_reducible first | exact HB.out | apply yQ | apply yL | apply yP | refine yE ?_ GE292.out) | exact HB.out))))
      have n2_ := yD (yZ (yJ ho1 (yK (by (with_reducible repeat (first | apply yA | apply yB | apply yC)); exact HO296.out))) (below_size (by repeat (first | (with_reducible first | exact HB.out | apply yQ | apply yL | apply yP | refine yE ?_ GE292.out) | exact HB.out))))
      have n3_ := yD (yZ (yJ ho2 (yK (by (with_reducible repeat (first | apply yA | apply yB | apply yC)); exact HO296.out))) (below_size (by repeat (first | (with_reducible first | exact HB.out | apply yQ | apply yL | apply yP | refine yE ?_ GE292.out) | exact HB.out))))
      have n4_ := yD (yZ (yJ ho3 (yK (by (with_reducible repeat (first | apply yA | apply yB | apply yC)); exact HO296.out))) (below_size (by repeat (first | (with_reducible first | exact HB.out | apply yQ | apply yL | apply yP | refine yE ?_ GE292.out) | exact HB.out))))
      have n5_ := yD (zG (zD ho4 (yK (by (with_reducible repeat (first | apply yA | apply yB | apply yC)); exact HO296.out))) (below_size (by repeat (first | (with_reducible first | exact HB.out | apply yQ | apply yL | apply yP | refine yE ?_ GE292.out) | exact HB.out))))
      have n6_ := yD (zB (g := gb292) (o := .cells #[.int .i64 a1_0, .slice A1_1 l1_1.length c1_1, .slice A1_2 l1_2.length c1_2, .slice A1_3 l1_3.length c1_3, .slice A1_4 l1_4.length c1_4, .slice A1_5 l1_5.length c1_5] 25 (0, 0)) (by (with_reducible repeat (first | refine yM ?_ _ | refine yO ?_ | refine yN ?_ _)); exact BK292.out) hb)
      have n7_ := yD (zC (by repeat (first | (with_reducible first | exact HB.out | apply yQ | apply yL | apply yP | refine yE ?_ GE292.out) | exact HB.out)) hb)
      clear HO296 BK292 HB; have HO296 := n0_; have HO300 := n1_; have HO303 := n2_; have HO306 := n3_; have HO309 := n4_; have HO312 := n5_; have BK292 := n6_; have HB := n7_; clear n0_ n1_ n2_ n3_ n4_ n5_ n6_ n7_; (try clear hb); (try clear hb2); (try clear hk); (try clear hi); (try clear ho0); (try clear ho1); (try clear ho2); (try clear ho3); (try clear ho4)
      obtain ⟨Ao18, co18, eo18⟩ := Kd.R_slice HO296.out
      (first | subst eo18 | (injection eo18 with f1_ f2_ f3_; have f4_ := f1_.symm; have f5_ := f3_.symm; clear f1_ f2_ f3_; subst f4_; subst f5_))
      obtain ⟨Ao19, co19, eo19⟩ := Kd.R_slice HO300.out
      (first | subst eo19 | (injection eo19 with f1_ f2_ f3_; have f4_ := f1_.symm; have f5_ := f3_.symm; clear f1_ f2_ f3_; subst f4_; subst f5_))
      obtain ⟨Ao20, co20, eo20⟩ := Kd.R_slice HO303.out
      (first | subst eo20 | (injection eo20 with f1_ f2_ f3_; have f4_ := f1_.symm; have f5_ := f3_.symm; clear f1_ f2_ f3_; subst f4_; subst f5_))
      obtain ⟨Ao21, co21, eo21⟩ := Kd.R_slice HO306.out
      (first | subst eo21 | (injection eo21 with f1_ f2_ f3_; have f4_ := f1_.symm; have f5_ := f3_.symm; clear f1_ f2_ f3_; subst f4_; subst f5_))
      obtain ⟨Ao22, co22, eo22⟩ := Kd.R_slice HO309.out
      (first | subst eo22 | (injection eo22 with f1_ f2_ f3_; have f4_ := f1_.symm; have f5_ := f3_.symm; clear f1_ f2_ f3_; subst f4_; subst f5_))
      obtain ⟨Ao23, co23, eo23⟩ := Kd.S_slice HO312.out
      (first | subst eo23 | (injection eo23 with f1_ f2_ f3_; have f4_ := f1_.symm; have f5_ := f3_.symm; clear f1_ f2_ f3_; subst f4_; subst f5_))
      refine hK.out _ _ ⟨(yG BK292.out 0).trans rfl, (yG BK292.out 1).trans rfl, (yG BK292.out 2).trans rfl, (yG BK292.out 3).trans rfl, (yG BK292.out 4).trans rfl, (yG BK292.out 5).trans rfl⟩ (fun hHeld => ?_)
      clear hK K
      refine norm_ (by show Act.put _ (some 21) _ = _; simp only [Act.put, zH, zI, zJ, i64_w, i32_w]; rfl) ?_
      refine one_ (i := 4) (N := some 22) #[true, true, true, true, true, false] rfl rfl (by kernel_rfl) (by decide) (fun K hK => ?_)
      refine goes_ Try.func10 (by kernel_rfl) rfl #[.slice Ao18 t294.length co18, .agg #[.int .i64 t297, .slice Ao19 t298.length co19, .slice Ao20 t301.length co20, .slice Ao21 t304.length co21, .slice Ao22 t307.length co22, .slice Ao23 t310.length co23]] (by rfl) rfl rfl (by (try simp only [zK, zL, zM]); first | done | rfl | (simp only [zN, zO]; rfl)) ?_
      with_reducible refine (spec_ValidSelection.calls kj6 _ _ t294 t297 _ _ t298 _ _ t301 _ _ t304 _ _ t307 _ _ t310 t313 _ ?side1 ?side2 ?side3 ?side4 ?side5 ?side6 ?side7 ?side8 ?side9 ?side10 ?side11 ?side12 A14.out).mono ?_
      (case side1 => repeat (first | exact (zA HO296.out).2.2 | (with_reducible first | refine yV ?_ _ | refine yW ?_ _ | refine yX ?_)))
      (case side2 => exact (zA HO296.out).2.1)
      (case side3 => repeat (first | exact (zA HO300.out).2.2 | (with_reducible first | refine yV ?_ _ | refine yW ?_ _ | refine yX ?_)))
      (case side4 => exact (zA HO300.out).2.1)
      (case side5 => repeat (first | exact (zA HO303.out).2.2 | (with_reducible first | refine yV ?_ _ | refine yW ?_ _ | refine yX ?_)))
      (case side6 => exact (zA HO303.out).2.1)
      (case side7 => repeat (first | exact (zA HO306.out).2.2 | (with_reducible first | refine yV ?_ _ | refine yW ?_ _ | refine yX ?_)))
      (case side8 => exact (zA HO306.out).2.1)
      (case side9 => repeat (first | exact (zA HO309.out).2.2 | (with_reducible first | refine yV ?_ _ | refine yW ?_ _ | refine yX ?_)))
      (case side10 => exact (zA HO309.out).2.1)
      (case side11 => repeat (first | exact (Kd.S_reads' HO312.out).2.2 | (with_reducible first | refine yV ?_ _ | refine yW ?_ _ | refine yX ?_)))
      (case side12 => exact (Kd.S_reads' HO312.out).2.1)
      rintro e w24 ⟨rfl, hb⟩
      refine ⟨_, rfl, ?_⟩
      have n0_ := yD (zE (by (with_reducible repeat (first | apply yA | apply yB | apply yC)); exact HO296.out) hb)
      have n1_ := yD (zE (by (with_reducible repeat (first | apply yA | apply yB | apply yC)); exact HO300.out) hb)
      have n2_ := yD (zE (by (with_reducible repeat (first | apply yA | apply yB | apply yC)); exact HO303.out) hb)
      have n3_ := yD (zE (by (with_reducible repeat (first | apply yA | apply yB | apply yC)); exact HO306.out) hb)
      have n4_ := yD (zE (by (with_reducible repeat (first | apply yA | apply yB | apply yC)); exact HO309.out) hb)
      have n5_ := yD (Kd.S_below (by (with_reducible repeat (first | apply yS | apply yT | apply yU)); exact HO312.out) hb)
      have n6_ := yD (zB (g := gb292) (o := .cells #[.int .i64 a1_0, .slice A1_1 l1_1.length c1_1, .slice A1_2 l1_2.length c1_2, .slice A1_3 l1_3.length c1_3, .slice A1_4 l1_4.length c1_4, .slice A1_5 l1_5.length c1_5] 25 (0, 0)) (by (with_reducible repeat (first | refine yM ?_ _ | refine yO ?_ | refine yN ?_ _)); exact BK292.out) hb)
      have n7_ := yD (zC (by repeat (first | (with_reducible first | exact HB.out | apply yQ | apply yL | apply yP | refine yE ?_ GE292.out) | exact HB.out)) hb)
      clear HO296 HO300 HO303 HO306 HO309 HO312 BK292 HB; have HO296 := n0_; have HO300 := n1_; have HO303 := n2_; have HO306 := n3_; have HO309 := n4_; have HO312 := n5_; have BK292 := n6_; have HB := n7_; clear n0_ n1_ n2_ n3_ n4_ n5_ n6_ n7_; (try clear hb); (try clear hb2); (try clear hk); (try clear hi)
      refine hK.out _ _ ⟨(yG BK292.out 0).trans rfl, (yG BK292.out 1).trans rfl, (yG BK292.out 2).trans rfl, (yG BK292.out 3).trans rfl, (yG BK292.out 4).trans rfl, (yG BK292.out 5).trans rfl⟩ (fun hHeld => ?_)
      clear hK K
      refine norm_ (by show Act.put _ (some 22) _ = _; simp only [Act.put, zH, zI, zJ, i64_w, i32_w]; rfl) ?_
      refine pA 5 6 #[true, true, true, true, true, true] rfl rfl (by kernel_rfl) (fun _ _ _ h => h) (by rfl) (fun _ => by go_simp; with_reducible rfl) (by simp only [Act.put, zH, zI, zJ, i64_w, i32_w]; rfl) ?_
      refine done_ (by kernel_rfl) ?_
      try go_wp2
      go_meet
      case rel => exact ⟨_, (t313), (by first | rfl | (simp; done) | (simp [*]; done)), H', ⟨by have := HJ2.out; have := HJ6.out; first | omega | exact Nat.le_refl _⟩, ⟨by (with_reducible repeat (first | refine yM ?_ _ | refine yO ?_ | refine yN ?_ _)); exact BK292.out⟩, ⟨by repeat (first | (with_reducible first | exact HB.out | apply yQ | apply yL | apply yP | refine yE ?_ GE292.out) | exact HB.out)⟩⟩
     case rest =>
      clear HC11; try clear c1; try clear p2; try clear c4; try clear c5; try clear c5b0; try clear c5b1; try clear c7; try clear c10; try clear c10b0; try clear c11; try clear hcz8_0; try clear hcz8_1; try clear hcz8_2; try clear hcz8_3; try clear hcz8_4; try clear hcz8_5; try clear hfz8_0; try clear hfz8_1; try clear hfz8_2; try clear hfz8_3; try clear hfz8_4; try clear hfz8_5; try clear p2
      obtain ⟨kq, x6_10, rfl, HA, HJ10, BK292, HB⟩ := hcut
      cases kq with
      | zero => exact absurd HA.out (by simp [laws_FnExactValidSelection.j2])
      | succ kj10 =>
       have H := HA.out; clear HA
       simp only [laws_FnExactValidSelection.j2] at H
       obtain ⟨t314, A250, H⟩ := zW_ H
       replace H : ((laws_toSelection.f kj10 a1_0 l1_1 l1_2 l1_3 l1_4 l1_5).bind fun bt317 => ((impl_ValidSelection.f kj10 t314 bt317.1 bt317.2.1 bt317.2.2.1 bt317.2.2.2.1 bt317.2.2.2.2.1 bt317.2.2.2.2.2).bind fun t334 => (laws_FnExactValidSelection.j3 kj10 l0 x6_10 t314 t334 a1_0 l1_1 l1_2 l1_3 l1_4 l1_5 bt317.1 bt317.2.1 bt317.2.2.1 bt317.2.2.2.1 bt317.2.2.2.2.1 bt317.2.2.2.2.2))) = some r := H
       have A25 := yD A250
       clear A250
       obtain ⟨⟨t317, t318, t321, t324, t327, t330⟩, A260, H⟩ := zW_ H
       replace H : ((impl_ValidSelection.f kj10 t314 t317 t318 t321 t324 t327 t330).bind fun t334 => (laws_FnExactValidSelection.j3 kj10 l0 x6_10 t314 t334 a1_0 l1_1 l1_2 l1_3 l1_4 l1_5 t317 t318 t321 t324 t327 t330)) = some r := H
       have A26 := yD A260
       clear A260
       have HC27 := yD H
       clear H
       go_upto_region 10 with (first | ((with_reducible refine gate_callee (f := 11) rfl ?_); refine goesL_ (some 24) rfl rfl Try.func11 (by kernel_rfl) rfl #[.slice A0 l0.length c0] rfl (by (try simp only [zK, zL, zM]); first | done | rfl | (simp only [zN, zO]; rfl)) ?_; (with_reducible refine (laws_toInt64S.calls kj10 _ _ l0 t314 _ ?side1 ?side2 A25.out).mono ?_); (case side1 => repeat (first | exact (yY HR0.out HB.out) | (with_reducible first | refine yV ?_ _ | refine yW ?_ _ | refine yX ?_))); (case side2 => exact HC0.out); rintro e w28 ⟨v315, rfl, ho0, hb⟩; refine ⟨_, rfl, ?_⟩; have n0_ := yD (yZ ho0 (below_size (by repeat (first | (with_reducible first | exact HB.out | apply yQ | apply yL | apply yP | refine yE ?_ GE292.out) | exact HB.out)))); have n1_ := yD (zB (g := gb292) (o := .cells #[.int .i64 a1_0, .slice A1_1 l1_1.length c1_1, .slice A1_2 l1_2.length c1_2, .slice A1_3 l1_3.length c1_3, .slice A1_4 l1_4.length c1_4, .slice A1_5 l1_5.length c1_5] 25 (0, 0)) (by (with_reducible repeat (first | refine yM ?_ _ | refine yO ?_ | refine yN ?_ _)); exact BK292.out) hb); have n2_ := yD (zC (by repeat (first | (with_reducible first | exact HB.out | apply yQ | apply yL | apply yP | refine yE ?_ GE292.out) | exact HB.out)) hb); clear BK292; clear HB; have HO316 := n0_; have BK292 := n1_; have HB := n2_; clear n0_ n1_ n2_; (try clear hb); (try clear hb2); (try clear hk); (try clear hi); (try clear ho0); have hcz29_0 : w28.cell? ⟨gb292, 0, none⟩ = some (.int .i64 a1_0) := (yG BK292.out 0).trans rfl; have hcz29_1 : w28.cell? ⟨gb292, 1, none⟩ = some (.slice A1_1 l1_1.length c1_1) := (yG BK292.out 1).trans rfl; have hcz29_2 : w28.cell? ⟨gb292, 2, none⟩ = some (.slice A1_2 l1_2.length c1_2) := (yG BK292.out 2).trans rfl; have hcz29_3 : w28.cell? ⟨gb292, 3, none⟩ = some (.slice A1_3 l1_3.length c1_3) := (yG BK292.out 3).trans rfl; have hcz29_4 : w28.cell? ⟨gb292, 4, none⟩ = some (.slice A1_4 l1_4.length c1_4) := (yG BK292.out 4).trans rfl; have hcz29_5 : w28.cell? ⟨gb292, 5, none⟩ = some (.slice A1_5 l1_5.length c1_5) := (yG BK292.out 5).trans rfl; have hfz29_0 := yR BK292.out 0; have hfz29_1 := yR BK292.out 1; have hfz29_2 := yR BK292.out 2; have hfz29_3 := yR BK292.out 3; have hfz29_4 := yR BK292.out 4; have hfz29_5 := yR BK292.out 5) | ((with_reducible refine gate_callee (f := 7) rfl ?_); refine goesL_ (some 26) rfl rfl Try.func7 (by kernel_rfl) rfl #[.agg #[.int .i64 a1_0, .slice A1_1 l1_1.length c1_1, .slice A1_2 l1_2.length c1_2, .slice A1_3 l1_3.length c1_3, .slice A1_4 l1_4.length c1_4, .slice A1_5 l1_5.length c1_5]] rfl (by (try simp only [zK, zL, zM]); first | done | rfl | (simp only [zN, zO]; rfl)) ?_; (with_reducible refine (laws_toSelection.calls kj10 a1_0 _ _ l1_1 _ _ l1_2 _ _ l1_3 _ _ l1_4 _ _ l1_5 t317 t318 t321 t324 t327 t330 _ ?side1 ?side2 ?side3 ?side4 ?side5 ?side6 ?side7 ?side8 ?side9 ?side10 A26.out).mono ?_); (case side1 => repeat (first | exact (yY HR1_1.out HB.out) | (with_reducible first | refine yV ?_ _ | refine yW ?_ _ | refine yX ?_))); (case side2 => exact HC1_1.out); (case side3 => repeat (first | exact (yY HR1_2.out HB.out) | (with_reducible first | refine yV ?_ _ | refine yW ?_ _ | refine yX ?_))); (case side4 => exact HC1_2.out); (case side5 => repeat (first | exact (yY HR1_3.out HB.out) | (with_reducible first | refine yV ?_ _ | refine yW ?_ _ | refine yX ?_))); (case side6 => exact HC1_3.out); (case side7 => repeat (first | exact (yY HR1_4.out HB.out) | (with_reducible first | refine yV ?_ _ | refine yW ?_ _ | refine yX ?_))); (case side8 => exact HC1_4.out); (case side9 => repeat (first | exact (yY HR1_5.out HB.out) | (with_reducible first | refine yV ?_ _ | refine yW ?_ _ | refine yX ?_))); (case side10 => exact HC1_5.out); rintro e w30 ⟨v319, v322, v325, v328, v331, rfl, ho0, ho1, ho2, ho3, ho4, hb⟩; refine ⟨_, rfl, ?_⟩; have n0_ := yD (zF (yI (yI (yI (yI (Kd.R_old (by (with_reducible repeat (first | apply yA | apply yB | apply yC)); exact HO316.out) hb) (yH ho0)) (yH ho1)) (yH ho2)) (yH ho3)) (fun _ h_ => h_.1)); have n1_ := yD (yZ (yJ ho0 (yK (by (with_reducible repeat (first | apply yA | apply yB | apply yC)); exact HO316.out))) (below_size (by repeat (first | (with_reducible first | exact HB.out | apply yQ | apply yL | apply yP | refine yE ?_ GE292.out) | exact HB.out)))); have n2_ := yD (yZ (yJ ho1 (yK (by (with_reducible repeat (first | apply yA | apply yB | apply yC)); exact HO316.out))) (below_size (by repeat (first | (with_reducible first | exact HB.out | apply yQ | apply yL | apply yP | refine yE ?_ GE292.out) | exact HB.out)))); have n3_ := yD (yZ (yJ ho2 (yK (by (with_reducible repeat (first | apply yA | apply yB | apply yC)); exact HO316.out))) (below_size (by repeat (first | (with_reducible first | exact HB.out | apply yQ | apply yL | apply yP | refine yE ?_ GE292.out) | exact HB.out)))); have n4_ := yD (yZ (yJ ho3 (yK (by (with_reducible repeat (first | apply yA | apply yB | apply yC)); exact HO316.out))) (below_size (by repeat (first | (with_reducible first | exact HB.out | apply yQ | apply yL | apply yP | refine yE ?_ GE292.out) | exact HB.out)))); have n5_ := yD (zG (zD ho4 (yK (by (with_reducible repeat (first | apply yA | apply yB | apply yC)); exact HO316.out))) (below_size (by repeat (first | (with_reducible first | exact HB.out | apply yQ | apply yL | apply yP | refine yE ?_ GE292.out) | exact HB.out)))); have n6_ := yD (zB (g := gb292) (o := .cells #[.int .i64 a1_0, .slice A1_1 l1_1.length c1_1, .slice A1_2 l1_2.length c1_2, .slice A1_3 l1_3.length c1_3, .slice A1_4 l1_4.length c1_4, .slice A1_5 l1_5.length c1_5] 25 (0, 0)) (by (with_reducible repeat (first | refine yM ?_ _ | refine yO ?_ | refine yN ?_ _)); exact BK292.out) hb); have n7_ := yD (zC (by repeat (first | (with_reducible first | exact HB.out | apply yQ | apply yL | apply yP | refine yE ?_ GE292.out) | exact HB.out)) hb); clear HO316; clear BK292; clear HB; have HO316 := n0_; have HO320 := n1_; have HO323 := n2_; have HO326 := n3_; have HO329 := n4_; have HO332 := n5_; have BK292 := n6_; have HB := n7_; clear n0_ n1_ n2_ n3_ n4_ n5_ n6_ n7_; (try clear hb); (try clear hb2); (try clear hk); (try clear hi); (try clear ho0); (try clear ho1); (try clear ho2); (try clear ho3); (try clear ho4)) | ((with_reducible refine gate_dst (N := 8) rfl ?_); refine box_event ?hg (N := 8) ?hd (cs := #[.int .i64 0, .slice none 0 0, .slice none 0 0, .slice none 0 0, .slice none 0 0, .slice none 0 0]) (t := 30) ?hr ?_; (case hd => rfl); (case hg => rfl); (case hr => first | (go_simp; done) | (go_simp; rfl)); intro gb333 hg w31 hbox hb; have n0_ := yD (zE (by (with_reducible repeat (first | apply yA | apply yB | apply yC)); exact HO316.out) hb); have n1_ := yD (zE (by (with_reducible repeat (first | apply yA | apply yB | apply yC)); exact HO320.out) hb); have n2_ := yD (zE (by (with_reducible repeat (first | apply yA | apply yB | apply yC)); exact HO323.out) hb); have n3_ := yD (zE (by (with_reducible repeat (first | apply yA | apply yB | apply yC)); exact HO326.out) hb); have n4_ := yD (zE (by (with_reducible repeat (first | apply yA | apply yB | apply yC)); exact HO329.out) hb); have n5_ := yD (Kd.S_below (by (with_reducible repeat (first | apply yS | apply yT | apply yU)); exact HO332.out) hb); have n6_ := yD (zB (g := gb292) (o := .cells #[.int .i64 a1_0, .slice A1_1 l1_1.length c1_1, .slice A1_2 l1_2.length c1_2, .slice A1_3 l1_3.length c1_3, .slice A1_4 l1_4.length c1_4, .slice A1_5 l1_5.length c1_5] 25 (0, 0)) (by (with_reducible repeat (first | refine yM ?_ _ | refine yO ?_ | refine yN ?_ _)); exact BK292.out) hb); have n7_ := yD (zC (by repeat (first | (with_reducible first | exact HB.out | apply yQ | apply yL | apply yP | refine yE ?_ GE292.out) | exact HB.out)) hb); have n8_ := yD (hbox); have n9_ := yD ((by rw [hg]; exact (below_size (by repeat (first | (with_reducible first | exact HB.out | apply yQ | apply yL | apply yP | refine yE ?_ GE292.out) | exact HB.out))) : w.heap.size ≤ gb333)); have n10_ := yD ((by rw [hg]; exact (below_size (by repeat (first | (with_reducible first | exact HB.out | apply yQ | apply yL | apply yP | refine yE ?_ GE292.out) | exact HB.out))) : w.heap.size ≤ gb333)); have n11_ := yD ((by rw [hg]; exact Nat.ne_of_lt (blk_lt (g := gb292) (o := .cells #[.int .i64 a1_0, .slice A1_1 l1_1.length c1_1, .slice A1_2 l1_2.length c1_2, .slice A1_3 l1_3.length c1_3, .slice A1_4 l1_4.length c1_4, .slice A1_5 l1_5.length c1_5] 25 (0, 0)) (by (with_reducible repeat (first | refine yM ?_ _ | refine yO ?_ | refine yN ?_ _)); exact BK292.out)) : gb292 ≠ gb333)); have n12_ := yD ((by rw [hg]; exact Nat.ne_of_gt (blk_lt (g := gb292) (o := .cells #[.int .i64 a1_0, .slice A1_1 l1_1.length c1_1, .slice A1_2 l1_2.length c1_2, .slice A1_3 l1_3.length c1_3, .slice A1_4 l1_4.length c1_4, .slice A1_5 l1_5.length c1_5] 25 (0, 0)) (by (with_reducible repeat (first | refine yM ?_ _ | refine yO ?_ | refine yN ?_ _)); exact BK292.out)) : gb333 ≠ gb292)); clear HO316; clear HO320; clear HO323; clear HO326; clear HO329; clear HO332; clear BK292; clear HB; have HO316 := n0_; have HO320 := n1_; have HO323 := n2_; have HO326 := n3_; have HO329 := n4_; have HO332 := n5_; have BK292 := n6_; have HB := n7_; have BK333 := n8_; have GW333 := n9_; have GE333 := n10_; have NB292_333 := n11_; have NB333_292 := n12_; clear n0_ n1_ n2_ n3_ n4_ n5_ n6_ n7_ n8_ n9_ n10_ n11_ n12_; clear hb hbox hg; have hnb32 := NB333_292.out; have hnc32 := NB292_333.out; have hcz33_0 : w31.cell? ⟨gb333, 0, none⟩ = some (.int .i64 0) := (yG BK333.out 0).trans rfl; have hcz33_1 : w31.cell? ⟨gb333, 1, none⟩ = some (.slice none 0 0) := (yG BK333.out 1).trans rfl; have hcz33_2 : w31.cell? ⟨gb333, 2, none⟩ = some (.slice none 0 0) := (yG BK333.out 2).trans rfl; have hcz33_3 : w31.cell? ⟨gb333, 3, none⟩ = some (.slice none 0 0) := (yG BK333.out 3).trans rfl; have hcz33_4 : w31.cell? ⟨gb333, 4, none⟩ = some (.slice none 0 0) := (yG BK333.out 4).trans rfl; have hcz33_5 : w31.cell? ⟨gb333, 5, none⟩ = some (.slice none 0 0) := (yG BK333.out 5).trans rfl; have hfz33_0 := yR BK333.out 0; have hfz33_1 := yR BK333.out 1; have hfz33_2 := yR BK333.out 2; have hfz33_3 := yR BK333.out 3; have hfz33_4 := yR BK333.out 4; have hfz33_5 := yR BK333.out 5; obtain ⟨Ao34, co34, eo34⟩ := Kd.R_slice HO320.out; subst eo34; obtain ⟨Ao35, co35, eo35⟩ := Kd.R_slice HO323.out; subst eo35; obtain ⟨Ao36, co36, eo36⟩ := Kd.R_slice HO326.out; subst eo36; obtain ⟨Ao37, co37, eo37⟩ := Kd.R_slice HO329.out; subst eo37; obtain ⟨Ao38, co38, eo38⟩ := Kd.S_slice HO332.out; subst eo38))
       (try simp only [Act.put, zH, zI, zJ])
       go_cut [9] (fun v9 wc => ∃ (kq : Nat) (x9_26 : Bool), v9 = .bool x9_26 ∧ Aside0 (laws_FnExactValidSelection.j3 kq l0 x6_10 t314 x9_26 a1_0 l1_1 l1_2 l1_3 l1_4 l1_5 t317 t318 t321 t324 t327 t330 = some r) ∧ Aside0 (kq ≤ kj10) ∧ Aside0 (Kd.R (Kd.int .i64) 2 wc w.heap.size (fun k_ => some k_ ≠ ((.slice Ao34 t318.length co34) : Value).ownBlock ∧ some k_ ≠ ((.slice Ao35 t321.length co35) : Value).ownBlock ∧ some k_ ≠ ((.slice Ao36 t324.length co36) : Value).ownBlock ∧ some k_ ≠ ((.slice Ao37 t327.length co37) : Value).ownBlock) v315 t314) ∧ Aside0 (Kd.R (Kd.int .i64) 2 wc w.heap.size (fun k_ => some k_ ≠ (v315 : Value).ownBlock ∧ some k_ ≠ ((.slice Ao35 t321.length co35) : Value).ownBlock ∧ some k_ ≠ ((.slice Ao36 t324.length co36) : Value).ownBlock ∧ some k_ ≠ ((.slice Ao37 t327.length co37) : Value).ownBlock) (.slice Ao34 t318.length co34) t318) ∧ Aside0 (Kd.R (Kd.int .i64) 2 wc w.heap.size (fun k_ => some k_ ≠ (v315 : Value).ownBlock ∧ some k_ ≠ ((.slice Ao34 t318.length co34) : Value).ownBlock ∧ some k_ ≠ ((.slice Ao36 t324.length co36) : Value).ownBlock ∧ some k_ ≠ ((.slice Ao37 t327.length co37) : Value).ownBlock) (.slice Ao35 t321.length co35) t321) ∧ Aside0 (Kd.R (Kd.int .i64) 2 wc w.heap.size (fun k_ => some k_ ≠ (v315 : Value).ownBlock ∧ some k_ ≠ ((.slice Ao34 t318.length co34) : Value).ownBlock ∧ some k_ ≠ ((.slice Ao35 t321.length co35) : Value).ownBlock ∧ some k_ ≠ ((.slice Ao37 t327.length co37) : Value).ownBlock) (.slice Ao36 t324.length co36) t324) ∧ Aside0 (Kd.R (Kd.int .i64) 2 wc w.heap.size (fun k_ => some k_ ≠ (v315 : Value).ownBlock ∧ some k_ ≠ ((.slice Ao34 t318.length co34) : Value).ownBlock ∧ some k_ ≠ ((.slice Ao35 t321.length co35) : Value).ownBlock ∧ some k_ ≠ ((.slice Ao36 t324.length co36) : Value).ownBlock) (.slice Ao37 t327.length co37) t327) ∧ Aside0 (Kd.S k48 48 wc w.heap.size (fun k_ => some k_ ≠ (v315 : Value).ownBlock ∧ some k_ ≠ ((.slice Ao34 t318.length co34) : Value).ownBlock ∧ some k_ ≠ ((.slice Ao35 t321.length co35) : Value).ownBlock ∧ some k_ ≠ ((.slice Ao36 t324.length co36) : Value).ownBlock ∧ some k_ ≠ ((.slice Ao37 t327.length co37) : Value).ownBlock) (.slice Ao38 t330.length co38) t330) ∧ Aside0 (wc.heap[gb292]? = some (.cells #[.int .i64 a1_0, (.slice A1_1 l1_1.length c1_1), (.slice A1_2 l1_2.length c1_2), (.slice A1_3 l1_3.length c1_3), (.slice A1_4 l1_4.length c1_4), (.slice A1_5 l1_5.length c1_5)] 25 (0, 0))) ∧ Aside0 (wc.heap[gb333]? = some (.cells #[.int .i64 t317, (.slice Ao34 t318.length co34), (.slice Ao35 t321.length co35), (.slice Ao36 t324.length co36), (.slice Ao37 t327.length co37), (.slice Ao38 t330.length co38)] 30 (0, 0))) ∧ Aside0 (Below w.heap.size w wc))
       case first =>
        have H := HC27.out; clear HC27
        obtain ⟨t334, A390, H⟩ := zW_ H
        replace H : (laws_FnExactValidSelection.j3 kj10 l0 x6_10 t314 t334 a1_0 l1_1 l1_2 l1_3 l1_4 l1_5 t317 t318 t321 t324 t327 t330) = some r := H
        have A39 := yD A390
        clear A390
        have H' := yD H
        clear H; have hnb40 := NB333_292.out; have hnc40 := NB292_333.out
        have hcz41_0 : w31.cell? ⟨gb333, 0, none⟩ = some (.int .i64 0) := (yG BK333.out 0).trans rfl
        have hcz41_1 : w31.cell? ⟨gb333, 1, none⟩ = some (.slice none 0 0) := (yG BK333.out 1).trans rfl
        have hcz41_2 : w31.cell? ⟨gb333, 2, none⟩ = some (.slice none 0 0) := (yG BK333.out 2).trans rfl
        have hcz41_3 : w31.cell? ⟨gb333, 3, none⟩ = some (.slice none 0 0) := (yG BK333.out 3).trans rfl
        have hcz41_4 : w31.cell? ⟨gb333, 4, none⟩ = some (.slice none 0 0) := (yG BK333.out 4).trans rfl
        have hcz41_5 : w31.cell? ⟨gb333, 5, none⟩ = some (.slice none 0 0) := (yG BK333.out 5).trans rfl
        have hfz41_0 := yR BK333.out 0
        have hfz41_1 := yR BK333.out 1
        have hfz41_2 := yR BK333.out 2
        have hfz41_3 := yR BK333.out 3
        have hfz41_4 := yR BK333.out 4
        have hfz41_5 := yR BK333.out 5
        obtain ⟨Ao42, co42, eo42⟩ := Kd.R_slice HO316.out
        subst eo42
        go_wp2_with (first | ((with_reducible refine gate_callee (f := 12) rfl ?_); refine goesL_ (some 29) rfl rfl Try.func12 (by kernel_rfl) rfl #[.slice Ao42 t314.length co42, .agg #[.int .i64 t317, .slice Ao34 t318.length co34, .slice Ao35 t321.length co35, .slice Ao36 t324.length co36, .slice Ao37 t327.length co37, .slice Ao38 t330.length co38]] rfl (by (try simp only [zK, zL, zM]); first | done | rfl | (simp only [zN, zO]; rfl)) ?_; (with_reducible refine (impl_ValidSelection.calls kj10 _ _ t314 t317 _ _ t318 _ _ t321 _ _ t324 _ _ t327 _ _ t330 t334 _ ?side1 ?side2 ?side3 ?side4 ?side5 ?side6 ?side7 ?side8 ?side9 ?side10 ?side11 ?side12 A39.out).mono ?_); (case side1 => refine (zA (e := 2) (base := w.heap.size) (ok := fun k_ => ((((True ∧ some k_ ≠ (.slice Ao34 t318.length co34 : Value).ownBlock) ∧ some k_ ≠ (.slice Ao35 t321.length co35 : Value).ownBlock) ∧ some k_ ≠ (.slice Ao36 t324.length co36 : Value).ownBlock) ∧ some k_ ≠ (.slice Ao37 t327.length co37 : Value).ownBlock)) (n := t314.length) (c := co42) ?_).2.2; exact (by (with_reducible repeat (first | apply yA | apply yB | apply yC)); exact (zF (yF (p := ⟨gb333, 5, none⟩) (yF (p := ⟨gb333, 4, none⟩) (yF (p := ⟨gb333, 3, none⟩) (yF (p := ⟨gb333, 2, none⟩) (yF (p := ⟨gb333, 1, none⟩) (yF (p := ⟨gb333, 0, none⟩) (Kd.R_types HO316.out BK333.out (by decide)) (fun _ hk => hk.2) (.int .i64 t317)) (fun _ hk => hk.2) (.slice Ao34 t318.length co34)) (fun _ hk => hk.2) (.slice Ao35 t321.length co35)) (fun _ hk => hk.2) (.slice Ao36 t324.length co36)) (fun _ hk => hk.2) (.slice Ao37 t327.length co37)) (fun _ hk => hk.2) (.slice Ao38 t330.length co38)) (fun _ h_ => h_.1)))); (case side2 => exact (zA HO316.out).2.1); (case side3 => refine (zA (e := 2) (base := w.heap.size) (ok := fun k_ => ((some k_ ≠ (.slice Ao35 t321.length co35 : Value).ownBlock ∧ (some k_ ≠ (.slice Ao36 t324.length co36 : Value).ownBlock ∧ some k_ ≠ (.slice Ao37 t327.length co37 : Value).ownBlock)) ∧ some k_ ≠ (.slice Ao42 t314.length co42 : Value).ownBlock)) (n := t318.length) (c := co34) ?_).2.2; exact (by (with_reducible repeat (first | apply yA | apply yB | apply yC)); exact (zF (yF (p := ⟨gb333, 5, none⟩) (yF (p := ⟨gb333, 4, none⟩) (yF (p := ⟨gb333, 3, none⟩) (yF (p := ⟨gb333, 2, none⟩) (yF (p := ⟨gb333, 1, none⟩) (yF (p := ⟨gb333, 0, none⟩) (Kd.R_types HO320.out BK333.out (by decide)) (fun _ hk => hk.2) (.int .i64 t317)) (fun _ hk => hk.2) (.slice Ao34 t318.length co34)) (fun _ hk => hk.2) (.slice Ao35 t321.length co35)) (fun _ hk => hk.2) (.slice Ao36 t324.length co36)) (fun _ hk => hk.2) (.slice Ao37 t327.length co37)) (fun _ hk => hk.2) (.slice Ao38 t330.length co38)) (fun _ h_ => h_.1)))); (case side4 => exact (zA HO320.out).2.1); (case side5 => refine (zA (e := 2) (base := w.heap.size) (ok := fun k_ => ((some k_ ≠ (.slice Ao34 t318.length co34 : Value).ownBlock ∧ (some k_ ≠ (.slice Ao36 t324.length co36 : Value).ownBlock ∧ some k_ ≠ (.slice Ao37 t327.length co37 : Value).ownBlock)) ∧ some k_ ≠ (.slice Ao42 t314.length co42 : Value).ownBlock)) (n := t321.length) (c := co35) ?_).2.2; exact (by (with_reducible repeat (first | apply yA | apply yB | apply yC)); exact (zF (yF (p := ⟨gb333, 5, none⟩) (yF (p := ⟨gb333, 4, none⟩) (yF (p := ⟨gb333, 3, none⟩) (yF (p := ⟨gb333, 2, none⟩) (yF (p := ⟨gb333, 1, none⟩) (yF (p := ⟨gb333, 0, none⟩) (Kd.R_types HO323.out BK333.out (by decide)) (fun _ hk => hk.2) (.int .i64 t317)) (fun _ hk => hk.2) (.slice Ao34 t318.length co34)) (fun _ hk => hk.2) (.slice Ao35 t321.length co35)) (fun _ hk => hk.2) (.slice Ao36 t324.length co36)) (fun _ hk => hk.2) (.slice Ao37 t327.length co37)) (fun _ hk => hk.2) (.slice Ao38 t330.length co38)) (fun _ h_ => h_.1)))); (case side6 => exact (zA HO323.out).2.1); (case side7 => refine (zA (e := 2) (base := w.heap.size) (ok := fun k_ => ((some k_ ≠ (.slice Ao34 t318.length co34 : Value).ownBlock ∧ (some k_ ≠ (.slice Ao35 t321.length co35 : Value).ownBlock ∧ some k_ ≠ (.slice Ao37 t327.length co37 : Value).ownBlock)) ∧ some k_ ≠ (.slice Ao42 t314.length co42 : Value).ownBlock)) (n := t324.length) (c := co36) ?_).2.2; exact (by (with_reducible repeat (first | apply yA | apply yB | apply yC)); exact (zF (yF (p := ⟨gb333, 5, none⟩) (yF (p := ⟨gb333, 4, none⟩) (yF (p := ⟨gb333, 3, none⟩) (yF (p := ⟨gb333, 2, none⟩) (yF (p := ⟨gb333, 1, none⟩) (yF (p := ⟨gb333, 0, none⟩) (Kd.R_types HO326.out BK333.out (by decide)) (fun _ hk => hk.2) (.int .i64 t317)) (fun _ hk => hk.2) (.slice Ao34 t318.length co34)) (fun _ hk => hk.2) (.slice Ao35 t321.length co35)) (fun _ hk => hk.2) (.slice Ao36 t324.length co36)) (fun _ hk => hk.2) (.slice Ao37 t327.length co37)) (fun _ hk => hk.2) (.slice Ao38 t330.length co38)) (fun _ h_ => h_.1)))); (case side8 => exact (zA HO326.out).2.1); (case side9 => refine (zA (e := 2) (base := w.heap.size) (ok := fun k_ => ((some k_ ≠ (.slice Ao34 t318.length co34 : Value).ownBlock ∧ (some k_ ≠ (.slice Ao35 t321.length co35 : Value).ownBlock ∧ some k_ ≠ (.slice Ao36 t324.length co36 : Value).ownBlock)) ∧ some k_ ≠ (.slice Ao42 t314.length co42 : Value).ownBlock)) (n := t327.length) (c := co37) ?_).2.2; exact (by (with_reducible repeat (first | apply yA | apply yB | apply yC)); exact (zF (yF (p := ⟨gb333, 5, none⟩) (yF (p := ⟨gb333, 4, none⟩) (yF (p := ⟨gb333, 3, none⟩) (yF (p := ⟨gb333, 2, none⟩) (yF (p := ⟨gb333, 1, none⟩) (yF (p := ⟨gb333, 0, none⟩) (Kd.R_types HO329.out BK333.out (by decide)) (fun _ hk => hk.2) (.int .i64 t317)) (fun _ hk => hk.2) (.slice Ao34 t318.length co34)) (fun _ hk => hk.2) (.slice Ao35 t321.length co35)) (fun _ hk => hk.2) (.slice Ao36 t324.length co36)) (fun _ hk => hk.2) (.slice Ao37 t327.length co37)) (fun _ hk => hk.2) (.slice Ao38 t330.length co38)) (fun _ h_ => h_.1)))); (case side10 => exact (zA HO329.out).2.1); (case side11 => refine (Kd.S_reads' (e := 48) (base := w.heap.size) (ok := fun k_ => ((some k_ ≠ (.slice Ao34 t318.length co34 : Value).ownBlock ∧ (some k_ ≠ (.slice Ao35 t321.length co35 : Value).ownBlock ∧ (some k_ ≠ (.slice Ao36 t324.length co36 : Value).ownBlock ∧ some k_ ≠ (.slice Ao37 t327.length co37 : Value).ownBlock))) ∧ some k_ ≠ (.slice Ao42 t314.length co42 : Value).ownBlock)) (n := t330.length) (c := co38) ?_).2.2; exact (by (with_reducible repeat (first | apply yS | apply yT | apply yU)); exact (Kd.S_mono (Kd.S_far (p := ⟨gb333, 5, none⟩) (Kd.S_far (p := ⟨gb333, 4, none⟩) (Kd.S_far (p := ⟨gb333, 3, none⟩) (Kd.S_far (p := ⟨gb333, 2, none⟩) (Kd.S_far (p := ⟨gb333, 1, none⟩) (Kd.S_far (p := ⟨gb333, 0, none⟩) (Kd.S_types HO332.out BK333.out (by decide)) (fun _ hk => hk.2) (.int .i64 t317)) (fun _ hk => hk.2) (.slice Ao34 t318.length co34)) (fun _ hk => hk.2) (.slice Ao35 t321.length co35)) (fun _ hk => hk.2) (.slice Ao36 t324.length co36)) (fun _ hk => hk.2) (.slice Ao37 t327.length co37)) (fun _ hk => hk.2) (.slice Ao38 t330.length co38)) (fun _ h_ => h_.1)))); (case side12 => exact (Kd.S_reads' HO332.out).2.1); rintro e w43 ⟨rfl, hb⟩; refine ⟨_, rfl, ?_⟩; have n0_ := yD (zE (by (with_reducible repeat (first | apply yA | apply yB | apply yC)); exact (zF (yF (p := ⟨gb333, 5, none⟩) (yF (p := ⟨gb333, 4, none⟩) (yF (p := ⟨gb333, 3, none⟩) (yF (p := ⟨gb333, 2, none⟩) (yF (p := ⟨gb333, 1, none⟩) (yF (p := ⟨gb333, 0, none⟩) (Kd.R_types HO316.out BK333.out (by decide)) (fun _ hk => hk.2) (.int .i64 t317)) (fun _ hk => hk.2) (.slice Ao34 t318.length co34)) (fun _ hk => hk.2) (.slice Ao35 t321.length co35)) (fun _ hk => hk.2) (.slice Ao36 t324.length co36)) (fun _ hk => hk.2) (.slice Ao37 t327.length co37)) (fun _ hk => hk.2) (.slice Ao38 t330.length co38)) (fun _ h_ => h_.1))) hb); have n1_ := yD (zE (by (with_reducible repeat (first | apply yA | apply yB | apply yC)); exact (zF (yF (p := ⟨gb333, 5, none⟩) (yF (p := ⟨gb333, 4, none⟩) (yF (p := ⟨gb333, 3, none⟩) (yF (p := ⟨gb333, 2, none⟩) (yF (p := ⟨gb333, 1, none⟩) (yF (p := ⟨gb333, 0, none⟩) (Kd.R_types HO320.out BK333.out (by decide)) (fun _ hk => hk.2) (.int .i64 t317)) (fun _ hk => hk.2) (.slice Ao34 t318.length co34)) (fun _ hk => hk.2) (.slice Ao35 t321.length co35)) (fun _ hk => hk.2) (.slice Ao36 t324.length co36)) (fun _ hk => hk.2) (.slice Ao37 t327.length co37)) (fun _ hk => hk.2) (.slice Ao38 t330.length co38)) (fun _ h_ => h_.1))) hb); have n2_ := yD (zE (by (with_reducible repeat (first | apply yA | apply yB | apply yC)); exact (zF (yF (p := ⟨gb333, 5, none⟩) (yF (p := ⟨gb333, 4, none⟩) (yF (p := ⟨gb333, 3, none⟩) (yF (p := ⟨gb333, 2, none⟩) (yF (p := ⟨gb333, 1, none⟩) (yF (p := ⟨gb333, 0, none⟩) (Kd.R_types HO323.out BK333.out (by decide)) (fun _ hk => hk.2) (.int .i64 t317)) (fun _ hk => hk.2) (.slice Ao34 t318.length co34)) (fun _ hk => hk.2) (.slice Ao35 t321.length co35)) (fun _ hk => hk.2) (.slice Ao36 t324.length co36)) (fun _ hk => hk.2) (.slice Ao37 t327.length co37)) (fun _ hk => hk.2) (.slice Ao38 t330.length co38)) (fun _ h_ => h_.1))) hb); have n3_ := yD (zE (by (with_reducible repeat (first | apply yA | apply yB | apply yC)); exact (zF (yF (p := ⟨gb333, 5, none⟩) (yF (p := ⟨gb333, 4, none⟩) (yF (p := ⟨gb333, 3, none⟩) (yF (p := ⟨gb333, 2, none⟩) (yF (p := ⟨gb333, 1, none⟩) (yF (p := ⟨gb333, 0, none⟩) (Kd.R_types HO326.out BK333.out (by decide)) (fun _ hk => hk.2) (.int .i64 t317)) (fun _ hk => hk.2) (.slice Ao34 t318.length co34)) (fun _ hk => hk.2) (.slice Ao35 t321.length co35)) (fun _ hk => hk.2) (.slice Ao36 t324.length co36)) (fun _ hk => hk.2) (.slice Ao37 t327.length co37)) (fun _ hk => hk.2) (.slice Ao38 t330.length co38)) (fun _ h_ => h_.1))) hb); have n4_ := yD (zE (by (with_reducible repeat (first | apply yA | apply yB | apply yC)); exact (zF (yF (p := ⟨gb333, 5, none⟩) (yF (p := ⟨gb333, 4, none⟩) (yF (p := ⟨gb333, 3, none⟩) (yF (p := ⟨gb333, 2, none⟩) (yF (p := ⟨gb333, 1, none⟩) (yF (p := ⟨gb333, 0, none⟩) (Kd.R_types HO329.out BK333.out (by decide)) (fun _ hk => hk.2) (.int .i64 t317)) (fun _ hk => hk.2) (.slice Ao34 t318.length co34)) (fun _ hk => hk.2) (.slice Ao35 t321.length co35)) (fun _ hk => hk.2) (.slice Ao36 t324.length co36)) (fun _ hk => hk.2) (.slice Ao37 t327.length co37)) (fun _ hk => hk.2) (.slice Ao38 t330.length co38)) (fun _ h_ => h_.1))) hb); have n5_ := yD (Kd.S_below (by (with_reducible repeat (first | apply yS | apply yT | apply yU)); exact (Kd.S_mono (Kd.S_far (p := ⟨gb333, 5, none⟩) (Kd.S_far (p := ⟨gb333, 4, none⟩) (Kd.S_far (p := ⟨gb333, 3, none⟩) (Kd.S_far (p := ⟨gb333, 2, none⟩) (Kd.S_far (p := ⟨gb333, 1, none⟩) (Kd.S_far (p := ⟨gb333, 0, none⟩) (Kd.S_types HO332.out BK333.out (by decide)) (fun _ hk => hk.2) (.int .i64 t317)) (fun _ hk => hk.2) (.slice Ao34 t318.length co34)) (fun _ hk => hk.2) (.slice Ao35 t321.length co35)) (fun _ hk => hk.2) (.slice Ao36 t324.length co36)) (fun _ hk => hk.2) (.slice Ao37 t327.length co37)) (fun _ hk => hk.2) (.slice Ao38 t330.length co38)) (fun _ h_ => h_.1))) hb); have n6_ := yD (zB (g := gb292) (o := .cells #[.int .i64 a1_0, .slice A1_1 l1_1.length c1_1, .slice A1_2 l1_2.length c1_2, .slice A1_3 l1_3.length c1_3, .slice A1_4 l1_4.length c1_4, .slice A1_5 l1_5.length c1_5] 25 (0, 0)) (by (with_reducible repeat (first | refine yM ?_ _ | refine yO ?_ | refine yN ?_ _)); refine blk_far ?_ NB292_333.out _; (with_reducible repeat (first | refine yM ?_ _ | refine yO ?_ | refine yN ?_ _)); refine blk_far ?_ NB292_333.out _; (with_reducible repeat (first | refine yM ?_ _ | refine yO ?_ | refine yN ?_ _)); refine blk_far ?_ NB292_333.out _; (with_reducible repeat (first | refine yM ?_ _ | refine yO ?_ | refine yN ?_ _)); refine blk_far ?_ NB292_333.out _; (with_reducible repeat (first | refine yM ?_ _ | refine yO ?_ | refine yN ?_ _)); refine blk_far ?_ NB292_333.out _; (with_reducible repeat (first | refine yM ?_ _ | refine yO ?_ | refine yN ?_ _)); refine blk_far ?_ NB292_333.out _; (with_reducible repeat (first | refine yM ?_ _ | refine yO ?_ | refine yN ?_ _)); exact BK292.out) hb); have n7_ := yD (zB (g := gb333) (o := .cells #[.int .i64 t317, .slice Ao34 t318.length co34, .slice Ao35 t321.length co35, .slice Ao36 t324.length co36, .slice Ao37 t327.length co37, .slice Ao38 t330.length co38] 30 (0, 0)) (by (with_reducible repeat (first | refine yM ?_ _ | refine yO ?_ | refine yN ?_ _)); refine blk_put (cs := #[.int .i64 t317, .slice Ao34 t318.length co34, .slice Ao35 t321.length co35, .slice Ao36 t324.length co36, .slice Ao37 t327.length co37, .slice none 0 0]) ?_ 5 _ rfl; (with_reducible repeat (first | refine yM ?_ _ | refine yO ?_ | refine yN ?_ _)); refine blk_put (cs := #[.int .i64 t317, .slice Ao34 t318.length co34, .slice Ao35 t321.length co35, .slice Ao36 t324.length co36, .slice none 0 0, .slice none 0 0]) ?_ 4 _ rfl; (with_reducible repeat (first | refine yM ?_ _ | refine yO ?_ | refine yN ?_ _)); refine blk_put (cs := #[.int .i64 t317, .slice Ao34 t318.length co34, .slice Ao35 t321.length co35, .slice none 0 0, .slice none 0 0, .slice none 0 0]) ?_ 3 _ rfl; (with_reducible repeat (first | refine yM ?_ _ | refine yO ?_ | refine yN ?_ _)); refine blk_put (cs := #[.int .i64 t317, .slice Ao34 t318.length co34, .slice none 0 0, .slice none 0 0, .slice none 0 0, .slice none 0 0]) ?_ 2 _ rfl; (with_reducible repeat (first | refine yM ?_ _ | refine yO ?_ | refine yN ?_ _)); refine blk_put (cs := #[.int .i64 t317, .slice none 0 0, .slice none 0 0, .slice none 0 0, .slice none 0 0, .slice none 0 0]) ?_ 1 _ rfl; (with_reducible repeat (first | refine yM ?_ _ | refine yO ?_ | refine yN ?_ _)); refine blk_put (cs := #[.int .i64 0, .slice none 0 0, .slice none 0 0, .slice none 0 0, .slice none 0 0, .slice none 0 0]) ?_ 0 _ rfl; (with_reducible repeat (first | refine yM ?_ _ | refine yO ?_ | refine yN ?_ _)); exact BK333.out) hb); have n8_ := yD (zC (by repeat (first | (with_reducible first | exact HB.out | apply yQ | apply yL | apply yP | refine yE ?_ GE292.out | refine yE ?_ GE333.out) | exact HB.out)) hb); clear HO316; clear HO320; clear HO323; clear HO326; clear HO329; clear HO332; clear BK292; clear BK333; clear HB; have HO316 := n0_; have HO320 := n1_; have HO323 := n2_; have HO326 := n3_; have HO329 := n4_; have HO332 := n5_; have BK292 := n6_; have BK333 := n7_; have HB := n8_; clear n0_ n1_ n2_ n3_ n4_ n5_ n6_ n7_ n8_; (try clear hb); (try clear hb2); (try clear hk); (try clear hi)))
        go_meet
        case rel => exact ⟨_, (t334), (by first | rfl | (simp; done) | (simp [*]; done)), H', ⟨by have := HJ2.out; have := HJ6.out; have := HJ10.out; first | omega | exact Nat.le_refl _⟩, ⟨by (with_reducible repeat (first | apply yA | apply yB | apply yC)); exact zF HO316.out (fun _ hk => ⟨hk.1.1.1.2, ⟨hk.1.1.2, ⟨hk.1.2, hk.2⟩⟩⟩)⟩, ⟨by (with_reducible repeat (first | apply yA | apply yB | apply yC)); exact zF HO320.out (fun _ hk => ⟨hk.2, ⟨hk.1.1, ⟨hk.1.2.1, hk.1.2.2⟩⟩⟩)⟩, ⟨by (with_reducible repeat (first | apply yA | apply yB | apply yC)); exact zF HO323.out (fun _ hk => ⟨hk.2, ⟨hk.1.1, ⟨hk.1.2.1, hk.1.2.2⟩⟩⟩)⟩, ⟨by (with_reducible repeat (first | apply yA | apply yB | apply yC)); exact zF HO326.out (fun _ hk => ⟨hk.2, ⟨hk.1.1, ⟨hk.1.2.1, hk.1.2.2⟩⟩⟩)⟩, ⟨by (with_reducible repeat (first | apply yA | apply yB | apply yC)); exact zF HO329.out (fun _ hk => ⟨hk.2, ⟨hk.1.1, ⟨hk.1.2.1, hk.1.2.2⟩⟩⟩)⟩, ⟨by (with_reducible repeat (first | apply yS | apply yT | apply yU)); exact Kd.S_mono HO332.out (fun _ hk => ⟨hk.2, ⟨hk.1.1, ⟨hk.1.2.1, ⟨hk.1.2.2.1, hk.1.2.2.2⟩⟩⟩⟩)⟩, ⟨by (with_reducible repeat (first | refine yM ?_ _ | refine yO ?_ | refine yN ?_ _)); exact BK292.out⟩, ⟨by (with_reducible repeat (first | refine yM ?_ _ | refine yO ?_ | refine yN ?_ _)); exact BK333.out⟩, ⟨by repeat (first | (with_reducible first | exact HB.out | apply yQ | apply yL | apply yP | refine yE ?_ GE292.out | refine yE ?_ GE333.out) | exact HB.out)⟩⟩
       case rest =>
        clear HC27; try clear c1; try clear p2; try clear c3; try clear c4; try clear c5; try clear c5b0; try clear c5b1; try clear c7; try clear c10; try clear c10b0; try clear c11; try clear c12; try clear c32; try clear c40; try clear hcz29_0; try clear hcz29_1; try clear hcz29_2; try clear hcz29_3; try clear hcz29_4; try clear hcz29_5; try clear hcz33_0; try clear hcz33_1; try clear hcz33_2; try clear hcz33_3; try clear hcz33_4; try clear hcz33_5; try clear hcz41_0; try clear hcz41_1; try clear hcz41_2; try clear hcz41_3; try clear hcz41_4; try clear hcz41_5; try clear hcz8_0; try clear hcz8_1; try clear hcz8_2; try clear hcz8_3; try clear hcz8_4; try clear hcz8_5; try clear hfz29_0; try clear hfz29_1; try clear hfz29_2; try clear hfz29_3; try clear hfz29_4; try clear hfz29_5; try clear hfz33_0; try clear hfz33_1; try clear hfz33_2; try clear hfz33_3; try clear hfz33_4; try clear hfz33_5; try clear hfz41_0; try clear hfz41_1; try clear hfz41_2; try clear hfz41_3; try clear hfz41_4; try clear hfz41_5; try clear hfz8_0; try clear hfz8_1; try clear hfz8_2; try clear hfz8_3; try clear hfz8_4; try clear hfz8_5; try clear p2
        obtain ⟨kq, x9_26, rfl, HA, HJ26, HO_7, HO_334001, HO_334002, HO_334003, HO_334004, HO_334005, BK292, BK333, HB⟩ := hcut
        cases kq with
        | zero => exact absurd HA.out (by simp [laws_FnExactValidSelection.j3])
        | succ kj26 =>
         have H := HA.out; clear HA
         simp only [laws_FnExactValidSelection.j3] at H
         have HC44 := yD H
         clear H
         go_upto_if 32 with (fail)
         go_cut [] (fun wc => ∃ (kq : Nat), Aside0 (laws_FnExactValidSelection.j4 kq l0 t314 a1_0 l1_1 l1_2 l1_3 l1_4 l1_5 t317 t318 t321 t324 t327 t330 = some r) ∧ Aside0 (kq ≤ kj26) ∧ Aside0 (Kd.R (Kd.int .i64) 2 wc w.heap.size (fun k_ => some k_ ≠ ((.slice Ao34 t318.length co34) : Value).ownBlock ∧ some k_ ≠ ((.slice Ao35 t321.length co35) : Value).ownBlock ∧ some k_ ≠ ((.slice Ao36 t324.length co36) : Value).ownBlock ∧ some k_ ≠ ((.slice Ao37 t327.length co37) : Value).ownBlock) v315 t314) ∧ Aside0 (Kd.R (Kd.int .i64) 2 wc w.heap.size (fun k_ => some k_ ≠ (v315 : Value).ownBlock ∧ some k_ ≠ ((.slice Ao35 t321.length co35) : Value).ownBlock ∧ some k_ ≠ ((.slice Ao36 t324.length co36) : Value).ownBlock ∧ some k_ ≠ ((.slice Ao37 t327.length co37) : Value).ownBlock) (.slice Ao34 t318.length co34) t318) ∧ Aside0 (Kd.R (Kd.int .i64) 2 wc w.heap.size (fun k_ => some k_ ≠ (v315 : Value).ownBlock ∧ some k_ ≠ ((.slice Ao34 t318.length co34) : Value).ownBlock ∧ some k_ ≠ ((.slice Ao36 t324.length co36) : Value).ownBlock ∧ some k_ ≠ ((.slice Ao37 t327.length co37) : Value).ownBlock) (.slice Ao35 t321.length co35) t321) ∧ Aside0 (Kd.R (Kd.int .i64) 2 wc w.heap.size (fun k_ => some k_ ≠ (v315 : Value).ownBlock ∧ some k_ ≠ ((.slice Ao34 t318.length co34) : Value).ownBlock ∧ some k_ ≠ ((.slice Ao35 t321.length co35) : Value).ownBlock ∧ some k_ ≠ ((.slice Ao37 t327.length co37) : Value).ownBlock) (.slice Ao36 t324.length co36) t324) ∧ Aside0 (Kd.R (Kd.int .i64) 2 wc w.heap.size (fun k_ => some k_ ≠ (v315 : Value).ownBlock ∧ some k_ ≠ ((.slice Ao34 t318.length co34) : Value).ownBlock ∧ some k_ ≠ ((.slice Ao35 t321.length co35) : Value).ownBlock ∧ some k_ ≠ ((.slice Ao36 t324.length co36) : Value).ownBlock) (.slice Ao37 t327.length co37) t327) ∧ Aside0 (Kd.S k48 48 wc w.heap.size (fun k_ => some k_ ≠ (v315 : Value).ownBlock ∧ some k_ ≠ ((.slice Ao34 t318.length co34) : Value).ownBlock ∧ some k_ ≠ ((.slice Ao35 t321.length co35) : Value).ownBlock ∧ some k_ ≠ ((.slice Ao36 t324.length co36) : Value).ownBlock ∧ some k_ ≠ ((.slice Ao37 t327.length co37) : Value).ownBlock) (.slice Ao38 t330.length co38) t330) ∧ Aside0 (wc.heap[gb292]? = some (.cells #[.int .i64 a1_0, (.slice A1_1 l1_1.length c1_1), (.slice A1_2 l1_2.length c1_2), (.slice A1_3 l1_3.length c1_3), (.slice A1_4 l1_4.length c1_4), (.slice A1_5 l1_5.length c1_5)] 25 (0, 0))) ∧ Aside0 (wc.heap[gb333]? = some (.cells #[.int .i64 t317, (.slice Ao34 t318.length co34), (.slice Ao35 t321.length co35), (.slice Ao36 t324.length co36), (.slice Ao37 t327.length co37), (.slice Ao38 t330.length co38)] 30 (0, 0))) ∧ Aside0 (Below w.heap.size w wc))
         case first =>
          have H := HC44.out; clear HC44
          by_cases c45 : (x9_26 != x6_10) = true
          ·
           rw [if_pos c45] at H
           have c45b0 : (x9_26 != x6_10) = true := c45
           (try (have c45b1 : decide (x9_26 = x6_10) = false := by simpa using c45))
           (try (have c45b2 : (x9_26 == x6_10) = false := by simpa using c45))
           (try (have c45b3 : ¬ (x9_26 = x6_10) := by simpa using c45))
           clear c45
           (first | rw [c45b0] | (simp only [i64_w, i32_w]; rw [c45b0]) | (simp only [bne] at c45b0; rw [c45b0]) | skip)
           obtain rfl := Option.some.inj H
           go_wp2
           go_ret
           exact ⟨by first | rfl | (simp <;> rfl) | (simp [*] <;> rfl), by repeat (first | (with_reducible first | exact HB.out | apply yQ | apply yL | apply yP | refine yE ?_ GE292.out | refine yE ?_ GE333.out) | exact HB.out)⟩
          ·
           rw [if_neg c45] at H
           have c45b0 : (x9_26 != x6_10) = false := by simpa using c45
           (try (have c45b1 : decide (x9_26 = x6_10) = true := by simpa using c45))
           (try (have c45b2 : (x9_26 == x6_10) = true := by simpa using c45))
           clear c45
           (first | rw [c45b0] | (simp only [i64_w, i32_w]; rw [c45b0]) | (simp only [bne] at c45b0; rw [c45b0]) | skip)
           have H' := yD H
           clear H
           go_wp2
           go_meet
           case rel => exact ⟨_, H', ⟨by have := HJ2.out; have := HJ6.out; have := HJ10.out; have := HJ26.out; first | omega | exact Nat.le_refl _⟩, ⟨by (with_reducible repeat (first | apply yA | apply yB | apply yC)); exact HO_7.out⟩, ⟨by (with_reducible repeat (first | apply yA | apply yB | apply yC)); exact HO_334001.out⟩, ⟨by (with_reducible repeat (first | apply yA | apply yB | apply yC)); exact HO_334002.out⟩, ⟨by (with_reducible repeat (first | apply yA | apply yB | apply yC)); exact HO_334003.out⟩, ⟨by (with_reducible repeat (first | apply yA | apply yB | apply yC)); exact HO_334004.out⟩, ⟨by (with_reducible repeat (first | apply yS | apply yT | apply yU)); exact HO_334005.out⟩, ⟨by (with_reducible repeat (first | refine yM ?_ _ | refine yO ?_ | refine yN ?_ _)); exact BK292.out⟩, ⟨by (with_reducible repeat (first | refine yM ?_ _ | refine yO ?_ | refine yN ?_ _)); exact BK333.out⟩, ⟨by repeat (first | (with_reducible first | exact HB.out | apply yQ | apply yL | apply yP | refine yE ?_ GE292.out | refine yE ?_ GE333.out) | exact HB.out)⟩⟩
         case rest =>
          clear HC44; try clear c1; try clear p2; try clear c3; try clear c4; try clear c5; try clear c5b0; try clear c5b1; try clear c7; try clear c10; try clear c10b0; try clear c11; try clear c12; try clear c32; try clear c40; try clear c45; try clear c45b0; try clear c45b1; try clear c45b2; try clear hcz29_0; try clear hcz29_1; try clear hcz29_2; try clear hcz29_3; try clear hcz29_4; try clear hcz29_5; try clear hcz33_0; try clear hcz33_1; try clear hcz33_2; try clear hcz33_3; try clear hcz33_4; try clear hcz33_5; try clear hcz41_0; try clear hcz41_1; try clear hcz41_2; try clear hcz41_3; try clear hcz41_4; try clear hcz41_5; try clear hcz8_0; try clear hcz8_1; try clear hcz8_2; try clear hcz8_3; try clear hcz8_4; try clear hcz8_5; try clear hfz29_0; try clear hfz29_1; try clear hfz29_2; try clear hfz29_3; try clear hfz29_4; try clear hfz29_5; try clear hfz33_0; try clear hfz33_1; try clear hfz33_2; try clear hfz33_3; try clear hfz33_4; try clear hfz33_5; try clear hfz41_0; try clear hfz41_1; try clear hfz41_2; try clear hfz41_3; try clear hfz41_4; try clear hfz41_5; try clear hfz8_0; try clear hfz8_1; try clear hfz8_2; try clear hfz8_3; try clear hfz8_4; try clear hfz8_5; try clear p2
          obtain ⟨kq, HA, HJ43, HO_7, HO_334001, HO_334002, HO_334003, HO_334004, HO_334005, BK292, BK333, HB⟩ := hcut
          cases kq with
          | zero => exact absurd HA.out (by simp [laws_FnExactValidSelection.j4])
          | succ kj43 =>
           have H := HA.out; clear HA
           simp only [laws_FnExactValidSelection.j4] at H
           obtain ⟨t335, A460, H⟩ := zW_ H
           replace H : ((laws_eqInt64S.f kj43 t314 t335).bind fun t338 => (if t338 = true then (laws_FnExactValidSelection.j5 kj43 a1_0 l1_1 l1_2 l1_3 l1_4 l1_5 t317 t318 t321 t324 t327 t330) else (some false))) = some r := H
           have A46 := yD A460
           clear A460
           obtain ⟨t338, A470, H⟩ := zW_ H
           replace H : (if t338 = true then (laws_FnExactValidSelection.j5 kj43 a1_0 l1_1 l1_2 l1_3 l1_4 l1_5 t317 t318 t321 t324 t327 t330) else (some false)) = some r := H
           have A47 := yD A470
           clear A470
           have HC48 := yD H
           clear H
           go_upto_if 37 with (first | ((with_reducible refine gate_callee (f := 11) rfl ?_); refine goesL_ (some 35) rfl rfl Try.func11 (by kernel_rfl) rfl #[.slice A0 l0.length c0] rfl (by (try simp only [zK, zL, zM]); first | done | rfl | (simp only [zN, zO]; rfl)) ?_; (with_reducible refine (laws_toInt64S.calls kj43 _ _ l0 t335 _ ?side1 ?side2 A46.out).mono ?_); (case side1 => repeat (first | exact (yY HR0.out HB.out) | (with_reducible first | refine yV ?_ _ | refine yW ?_ _ | refine yX ?_))); (case side2 => exact HC0.out); rintro e w49 ⟨v336, rfl, ho0, hb⟩; refine ⟨_, rfl, ?_⟩; have n0_ := yD (Kd.R_elder' (by (with_reducible repeat (first | apply yA | apply yB | apply yC)); exact HO_7.out) (yH ho0) hb); have n1_ := yD (Kd.R_elder' (by (with_reducible repeat (first | apply yA | apply yB | apply yC)); exact HO_334001.out) (yH ho0) hb); have n2_ := yD (Kd.R_elder' (by (with_reducible repeat (first | apply yA | apply yB | apply yC)); exact HO_334002.out) (yH ho0) hb); have n3_ := yD (Kd.R_elder' (by (with_reducible repeat (first | apply yA | apply yB | apply yC)); exact HO_334003.out) (yH ho0) hb); have n4_ := yD (Kd.R_elder' (by (with_reducible repeat (first | apply yA | apply yB | apply yC)); exact HO_334004.out) (yH ho0) hb); have n5_ := yD (Kd.S_elder' (by (with_reducible repeat (first | apply yS | apply yT | apply yU)); exact HO_334005.out) (yH ho0) hb); have n6_ := yD (yZ (yJ (yJ (yJ (yJ (yJ ho0 (yK (by (with_reducible repeat (first | apply yA | apply yB | apply yC)); exact HO_7.out))) (yK (by (with_reducible repeat (first | apply yA | apply yB | apply yC)); exact HO_334001.out))) (yK (by (with_reducible repeat (first | apply yA | apply yB | apply yC)); exact HO_334002.out))) (yK (by (with_reducible repeat (first | apply yA | apply yB | apply yC)); exact HO_334003.out))) (yK (by (with_reducible repeat (first | apply yA | apply yB | apply yC)); exact HO_334004.out))) (below_size (by repeat (first | (with_reducible first | exact HB.out | apply yQ | apply yL | apply yP | refine yE ?_ GE292.out | refine yE ?_ GE333.out) | exact HB.out)))); have n7_ := yD (zB (g := gb292) (o := .cells #[.int .i64 a1_0, .slice A1_1 l1_1.length c1_1, .slice A1_2 l1_2.length c1_2, .slice A1_3 l1_3.length c1_3, .slice A1_4 l1_4.length c1_4, .slice A1_5 l1_5.length c1_5] 25 (0, 0)) (by (with_reducible repeat (first | refine yM ?_ _ | refine yO ?_ | refine yN ?_ _)); exact BK292.out) hb); have n8_ := yD (zB (g := gb333) (o := .cells #[.int .i64 t317, .slice Ao34 t318.length co34, .slice Ao35 t321.length co35, .slice Ao36 t324.length co36, .slice Ao37 t327.length co37, .slice Ao38 t330.length co38] 30 (0, 0)) (by (with_reducible repeat (first | refine yM ?_ _ | refine yO ?_ | refine yN ?_ _)); exact BK333.out) hb); have n9_ := yD (zC (by repeat (first | (with_reducible first | exact HB.out | apply yQ | apply yL | apply yP | refine yE ?_ GE292.out | refine yE ?_ GE333.out) | exact HB.out)) hb); clear HO_7; clear HO_334001; clear HO_334002; clear HO_334003; clear HO_334004; clear HO_334005; clear BK292; clear BK333; clear HB; have HO_7 := n0_; have HO_334001 := n1_; have HO_334002 := n2_; have HO_334003 := n3_; have HO_334004 := n4_; have HO_334005 := n5_; have HO337 := n6_; have BK292 := n7_; have BK333 := n8_; have HB := n9_; clear n0_ n1_ n2_ n3_ n4_ n5_ n6_ n7_ n8_ n9_; (try clear hb); (try clear hb2); (try clear hk); (try clear hi); (try clear ho0); obtain ⟨Ao50, co50, eo50⟩ := Kd.R_slice HO_7.out; subst eo50; obtain ⟨Ao51, co51, eo51⟩ := Kd.R_slice HO337.out; subst eo51) | ((with_reducible refine gate_callee (f := 13) rfl ?_); refine goesL_ (some 36) rfl rfl Try.func13 (by kernel_rfl) rfl #[.slice Ao50 t314.length co50, .slice Ao51 t335.length co51] rfl (by (try simp only [zK, zL, zM]); first | done | rfl | (simp only [zN, zO]; rfl)) ?_; (with_reducible refine (laws_eqInt64S.calls kj43 _ _ t314 _ _ t335 t338 _ ?side1 ?side2 ?side3 ?side4 A47.out).mono ?_); (case side1 => repeat (first | exact (zA HO_7.out).2.2 | (with_reducible first | refine yV ?_ _ | refine yW ?_ _ | refine yX ?_))); (case side2 => exact (zA HO_7.out).2.1); (case side3 => repeat (first | exact (zA HO337.out).2.2 | (with_reducible first | refine yV ?_ _ | refine yW ?_ _ | refine yX ?_))); (case side4 => exact (zA HO337.out).2.1); rintro e w' ⟨rfl, ⟨nd, rfl⟩⟩; refine ⟨_, rfl, ?_⟩))
           (try simp only [Act.put, zH, zI, zJ])
           go_cut [] (fun wc => ∃ (kq : Nat), Aside0 (laws_FnExactValidSelection.j5 kq a1_0 l1_1 l1_2 l1_3 l1_4 l1_5 t317 t318 t321 t324 t327 t330 = some r) ∧ Aside0 (kq ≤ kj43) ∧ Aside0 (Kd.R (Kd.int .i64) 2 wc w.heap.size (fun k_ => some k_ ≠ ((.slice Ao35 t321.length co35) : Value).ownBlock ∧ some k_ ≠ ((.slice Ao36 t324.length co36) : Value).ownBlock ∧ some k_ ≠ ((.slice Ao37 t327.length co37) : Value).ownBlock) (.slice Ao34 t318.length co34) t318) ∧ Aside0 (Kd.R (Kd.int .i64) 2 wc w.heap.size (fun k_ => some k_ ≠ ((.slice Ao34 t318.length co34) : Value).ownBlock ∧ some k_ ≠ ((.slice Ao36 t324.length co36) : Value).ownBlock ∧ some k_ ≠ ((.slice Ao37 t327.length co37) : Value).ownBlock) (.slice Ao35 t321.length co35) t321) ∧ Aside0 (Kd.R (Kd.int .i64) 2 wc w.heap.size (fun k_ => some k_ ≠ ((.slice Ao34 t318.length co34) : Value).ownBlock ∧ some k_ ≠ ((.slice Ao35 t321.length co35) : Value).ownBlock ∧ some k_ ≠ ((.slice Ao37 t327.length co37) : Value).ownBlock) (.slice Ao36 t324.length co36) t324) ∧ Aside0 (Kd.R (Kd.int .i64) 2 wc w.heap.size (fun k_ => some k_ ≠ ((.slice Ao34 t318.length co34) : Value).ownBlock ∧ some k_ ≠ ((.slice Ao35 t321.length co35) : Value).ownBlock ∧ some k_ ≠ ((.slice Ao36 t324.length co36) : Value).ownBlock) (.slice Ao37 t327.length co37) t327) ∧ Aside0 (Kd.S k48 48 wc w.heap.size (fun k_ => some k_ ≠ ((.slice Ao34 t318.length co34) : Value).ownBlock ∧ some k_ ≠ ((.slice Ao35 t321.length co35) : Value).ownBlock ∧ some k_ ≠ ((.slice Ao36 t324.length co36) : Value).ownBlock ∧ some k_ ≠ ((.slice Ao37 t327.length co37) : Value).ownBlock) (.slice Ao38 t330.length co38) t330) ∧ Aside0 (wc.heap[gb292]? = some (.cells #[.int .i64 a1_0, (.slice A1_1 l1_1.length c1_1), (.slice A1_2 l1_2.length c1_2), (.slice A1_3 l1_3.length c1_3), (.slice A1_4 l1_4.length c1_4), (.slice A1_5 l1_5.length c1_5)] 25 (0, 0))) ∧ Aside0 (wc.heap[gb333]? = some (.cells #[.int .i64 t317, (.slice Ao34 t318.length co34), (.slice Ao35 t321.length co35), (.slice Ao36 t324.length co36), (.slice Ao37 t327.length co37), (.slice Ao38 t330.length co38)] 30 (0, 0))) ∧ Aside0 (Below w.heap.size w wc))
           case first =>
            have H := HC48.out; clear HC48
            by_cases c52 : t338 = true
            ·
             subst c52
             have H1 : (laws_FnExactValidSelection.j5 kj43 a1_0 l1_1 l1_2 l1_3 l1_4 l1_5 t317 t318 t321 t324 t327 t330) = some r := by rw [if_pos rfl] at H; exact H
             clear H; have H := H1; clear H1
             have H' := yD H
             clear H
             go_wp2
             go_meet
             case rel => exact ⟨_, H', ⟨by have := HJ2.out; have := HJ6.out; have := HJ10.out; have := HJ26.out; have := HJ43.out; first | omega | exact Nat.le_refl _⟩, ⟨by (with_reducible repeat (first | apply yA | apply yB | apply yC)); exact zF HO_334001.out (fun _ hk => ⟨hk.1.2.1, ⟨hk.1.2.2.1, hk.1.2.2.2⟩⟩)⟩, ⟨by (with_reducible repeat (first | apply yA | apply yB | apply yC)); exact zF HO_334002.out (fun _ hk => ⟨hk.1.2.1, ⟨hk.1.2.2.1, hk.1.2.2.2⟩⟩)⟩, ⟨by (with_reducible repeat (first | apply yA | apply yB | apply yC)); exact zF HO_334003.out (fun _ hk => ⟨hk.1.2.1, ⟨hk.1.2.2.1, hk.1.2.2.2⟩⟩)⟩, ⟨by (with_reducible repeat (first | apply yA | apply yB | apply yC)); exact zF HO_334004.out (fun _ hk => ⟨hk.1.2.1, ⟨hk.1.2.2.1, hk.1.2.2.2⟩⟩)⟩, ⟨by (with_reducible repeat (first | apply yS | apply yT | apply yU)); exact Kd.S_mono HO_334005.out (fun _ hk => ⟨hk.1.2.1, ⟨hk.1.2.2.1, ⟨hk.1.2.2.2.1, hk.1.2.2.2.2⟩⟩⟩)⟩, ⟨by (with_reducible repeat (first | refine yM ?_ _ | refine yO ?_ | refine yN ?_ _)); exact BK292.out⟩, ⟨by (with_reducible repeat (first | refine yM ?_ _ | refine yO ?_ | refine yN ?_ _)); exact BK333.out⟩, ⟨by repeat (first | (with_reducible first | exact HB.out | apply yQ | apply yL | apply yP | refine yE ?_ GE292.out | refine yE ?_ GE333.out) | exact HB.out)⟩⟩
            ·
             replace c52 := Bool.eq_false_iff.mpr c52
             subst c52
             have H1 : (some false) = some r := by rw [if_neg (show ¬ (false = true) by decide)] at H; exact H
             clear H; have H := H1; clear H1; obtain rfl := Option.some.inj H
             go_wp2
             go_ret
             exact ⟨by first | rfl | (simp <;> rfl) | (simp [*] <;> rfl), by repeat (first | (with_reducible first | exact HB.out | apply yQ | apply yL | apply yP | refine yE ?_ GE292.out | refine yE ?_ GE333.out) | exact HB.out)⟩
           case rest =>
            clear HC48; try clear c1; try clear p2; try clear c3; try clear c4; try clear c5; try clear c5b0; try clear c5b1; try clear c7; try clear c10; try clear c10b0; try clear c11; try clear c12; try clear c13; try clear c32; try clear c40; try clear c45; try clear c45b0; try clear c45b1; try clear c45b2; try clear c52; try clear hcz29_0; try clear hcz29_1; try clear hcz29_2; try clear hcz29_3; try clear hcz29_4; try clear hcz29_5; try clear hcz33_0; try clear hcz33_1; try clear hcz33_2; try clear hcz33_3; try clear hcz33_4; try clear hcz33_5; try clear hcz41_0; try clear hcz41_1; try clear hcz41_2; try clear hcz41_3; try clear hcz41_4; try clear hcz41_5; try clear hcz8_0; try clear hcz8_1; try clear hcz8_2; try clear hcz8_3; try clear hcz8_4; try clear hcz8_5; try clear hfz29_0; try clear hfz29_1; try clear hfz29_2; try clear hfz29_3; try clear hfz29_4; try clear hfz29_5; try clear hfz33_0; try clear hfz33_1; try clear hfz33_2; try clear hfz33_3; try clear hfz33_4; try clear hfz33_5; try clear hfz41_0; try clear hfz41_1; try clear hfz41_2; try clear hfz41_3; try clear hfz41_4; try clear hfz41_5; try clear hfz8_0; try clear hfz8_1; try clear hfz8_2; try clear hfz8_3; try clear hfz8_4; try clear hfz8_5; try clear p2
            obtain ⟨kq, HA, HJ47, HO_334001, HO_334002, HO_334003, HO_334004, HO_334005, BK292, BK333, HB⟩ := hcut
            cases kq with
            | zero => exact absurd HA.out (by simp [laws_FnExactValidSelection.j5])
            | succ kj47 =>
             have H := HA.out; clear HA
             simp only [laws_FnExactValidSelection.j5] at H
             obtain ⟨⟨t339, t340, t343, t346, t349, t352⟩, A530, H⟩ := zW_ H
             replace H : ((laws_eqSelection.f kj47 t317 t318 t321 t324 t327 t330 t339 t340 t343 t346 t349 t352).bind fun t355 => (if t355 = true then (some true) else (some false))) = some r := H
             have A53 := yD A530
             clear A530
             obtain ⟨t355, A540, H⟩ := zW_ H
             replace H : (if t355 = true then (some true) else (some false)) = some r := H
             have A54 := yD A540
             clear A540
             by_cases c55 : t355 = true
             ·
              subst c55
              have H1 : (some true) = some r := by rw [if_pos rfl] at H; exact H
              clear H; have H := H1; clear H1; obtain rfl := Option.some.inj H
              try go_wp2
              have n0_ := yD (yC HO_334001.out)
              have n1_ := yD (yC HO_334002.out)
              have n2_ := yD (yC HO_334003.out)
              have n3_ := yD (yC HO_334004.out)
              have n4_ := yD (yU HO_334005.out)
              have n5_ := yD (yO BK292.out)
              have n6_ := yD (yO BK333.out)
              have n7_ := yD (yP HB.out)
              clear HO_334001 HO_334002 HO_334003 HO_334004 HO_334005 BK292 BK333 HB; have HO_334001 := n0_; have HO_334002 := n1_; have HO_334003 := n2_; have HO_334004 := n3_; have HO_334005 := n4_; have BK292 := n5_; have BK333 := n6_; have HB := n7_; clear n0_ n1_ n2_ n3_ n4_ n5_ n6_ n7_
              refine start_ (n := 5) (S := fun w' => w'.cell? ⟨gb333, 0, none⟩ = some (.int .i64 t317) ∧ w'.cell? ⟨gb333, 1, none⟩ = some (.slice Ao34 t318.length co34) ∧ w'.cell? ⟨gb333, 2, none⟩ = some (.slice Ao35 t321.length co35) ∧ w'.cell? ⟨gb333, 3, none⟩ = some (.slice Ao36 t324.length co36) ∧ w'.cell? ⟨gb333, 4, none⟩ = some (.slice Ao37 t327.length co37) ∧ w'.cell? ⟨gb333, 5, none⟩ = some (.slice Ao38 t330.length co38) ∧ w'.cell? ⟨gb292, 0, none⟩ = some (.int .i64 a1_0) ∧ w'.cell? ⟨gb292, 1, none⟩ = some (.slice A1_1 l1_1.length c1_1) ∧ w'.cell? ⟨gb292, 2, none⟩ = some (.slice A1_2 l1_2.length c1_2) ∧ w'.cell? ⟨gb292, 3, none⟩ = some (.slice A1_3 l1_3.length c1_3) ∧ w'.cell? ⟨gb292, 4, none⟩ = some (.slice A1_4 l1_4.length c1_4) ∧ w'.cell? ⟨gb292, 5, none⟩ = some (.slice A1_5 l1_5.length c1_5)) (ds := []) #[false, false, false, false, false] (by kernel_rfl) rfl rfl ⟨(yG BK333.out 0).trans rfl, (yG BK333.out 1).trans rfl, (yG BK333.out 2).trans rfl, (yG BK333.out 3).trans rfl, (yG BK333.out 4).trans rfl, (yG BK333.out 5).trans rfl, (yG BK292.out 0).trans rfl, (yG BK292.out 1).trans rfl, (yG BK292.out 2).trans rfl, (yG BK292.out 3).trans rfl, (yG BK292.out 4).trans rfl, (yG BK292.out 5).trans rfl⟩ (fun hHeld => ?_)
              generalize wc.drew = w56 at HO_334001 HO_334002 HO_334003 HO_334004 HO_334005 BK292 BK333 HB hHeld ⊢
              refine pC 0 38 #[true, false, false, false, false] rfl rfl (by kernel_rfl) (fun _ _ _ h => h) (by rfl) hHeld (by rintro w' ⟨s0, s1, s2, s3, s4, s5, s6, s7, s8, s9, s10, s11⟩; go_simp; with_reducible rfl) (by simp only [Act.put, zH, zI, zJ, i64_w, i32_w]; rfl) ?_
              refine pC 1 39 #[true, true, false, false, false] rfl rfl (by kernel_rfl) (fun _ _ _ h => h) (by rfl) hHeld (by rintro w' ⟨s0, s1, s2, s3, s4, s5, s6, s7, s8, s9, s10, s11⟩; go_simp; with_reducible rfl) (by simp only [Act.put, zH, zI, zJ, i64_w, i32_w]; rfl) ?_
              refine one_ (i := 2) (N := some 40) #[true, true, true, false, false] rfl rfl (by kernel_rfl) (by decide) (fun K hK => ?_)
              refine goes_ Try.func7 (by kernel_rfl) rfl #[.agg #[.int .i64 a1_0, .slice A1_1 l1_1.length c1_1, .slice A1_2 l1_2.length c1_2, .slice A1_3 l1_3.length c1_3, .slice A1_4 l1_4.length c1_4, .slice A1_5 l1_5.length c1_5]] (by rfl) rfl rfl (by (try simp only [zK, zL, zM]); first | done | rfl | (simp only [zN, zO]; rfl)) ?_
              with_reducible refine (laws_toSelection.calls kj47 a1_0 _ _ l1_1 _ _ l1_2 _ _ l1_3 _ _ l1_4 _ _ l1_5 t339 t340 t343 t346 t349 t352 _ ?side1 ?side2 ?side3 ?side4 ?side5 ?side6 ?side7 ?side8 ?side9 ?side10 A53.out).mono ?_
              (case side1 => repeat (first | exact (yY HR1_1.out HB.out) | (with_reducible first | refine yV ?_ _ | refine yW ?_ _ | refine yX ?_)))
              (case side2 => exact HC1_1.out)
              (case side3 => repeat (first | exact (yY HR1_2.out HB.out) | (with_reducible first | refine yV ?_ _ | refine yW ?_ _ | refine yX ?_)))
              (case side4 => exact HC1_2.out)
              (case side5 => repeat (first | exact (yY HR1_3.out HB.out) | (with_reducible first | refine yV ?_ _ | refine yW ?_ _ | refine yX ?_)))
              (case side6 => exact HC1_3.out)
              (case side7 => repeat (first | exact (yY HR1_4.out HB.out) | (with_reducible first | refine yV ?_ _ | refine yW ?_ _ | refine yX ?_)))
              (case side8 => exact HC1_4.out)
              (case side9 => repeat (first | exact (yY HR1_5.out HB.out) | (with_reducible first | refine yV ?_ _ | refine yW ?_ _ | refine yX ?_)))
              (case side10 => exact HC1_5.out)
              rintro e w57 ⟨v341, v344, v347, v350, v353, rfl, ho0, ho1, ho2, ho3, ho4, hb⟩
              refine ⟨_, rfl, ?_⟩
              have n0_ := yD (zF (yI (yI (yI (yI (Kd.R_old (by (with_reducible repeat (first | apply yA | apply yB | apply yC)); exact HO_334001.out) hb) (yH ho0)) (yH ho1)) (yH ho2)) (yH ho3)) (fun _ h_ => h_.1))
              have n1_ := yD (zF (yI (yI (yI (yI (Kd.R_old (by (with_reducible repeat (first | apply yA | apply yB | apply yC)); exact HO_334002.out) hb) (yH ho0)) (yH ho1)) (yH ho2)) (yH ho3)) (fun _ h_ => h_.1))
              have n2_ := yD (zF (yI (yI (yI (yI (Kd.R_old (by (with_reducible repeat (first | apply yA | apply yB | apply yC)); exact HO_334003.out) hb) (yH ho0)) (yH ho1)) (yH ho2)) (yH ho3)) (fun _ h_ => h_.1))
              have n3_ := yD (zF (yI (yI (yI (yI (Kd.R_old (by (with_reducible repeat (first | apply yA | apply yB | apply yC)); exact HO_334004.out) hb) (yH ho0)) (yH ho1)) (yH ho2)) (yH ho3)) (fun _ h_ => h_.1))
              have n4_ := yD (Kd.S_mono (Kd.S_told (Kd.S_told (Kd.S_told (Kd.S_told (Kd.S_told (Kd.S_old (by (with_reducible repeat (first | apply yS | apply yT | apply yU)); exact HO_334005.out) hb) (yH ho0)) (yH ho1)) (yH ho2)) (yH ho3)) (Kd.S_base ho4)) (fun _ h_ => h_.1))
              have n5_ := yD (yZ (yJ (yJ (yJ (yJ ho0 (yK (by (with_reducible repeat (first | apply yA | apply yB | apply yC)); exact HO_334001.out))) (yK (by (with_reducible repeat (first | apply yA | apply yB | apply yC)); exact HO_334002.out))) (yK (by (with_reducible repeat (first | apply yA | apply yB | apply yC)); exact HO_334003.out))) (yK (by (with_reducible repeat (first | apply yA | apply yB | apply yC)); exact HO_334004.out))) (below_size (by repeat (first | (with_reducible first | exact HB.out | apply yQ | apply yL | apply yP | refine yE ?_ GE292.out | refine yE ?_ GE333.out) | exact HB.out))))
              have n6_ := yD (yZ (yJ (yJ (yJ (yJ ho1 (yK (by (with_reducible repeat (first | apply yA | apply yB | apply yC)); exact HO_334001.out))) (yK (by (with_reducible repeat (first | apply yA | apply yB | apply yC)); exact HO_334002.out))) (yK (by (with_reducible repeat (first | apply yA | apply yB | apply yC)); exact HO_334003.out))) (yK (by (with_reducible repeat (first | apply yA | apply yB | apply yC)); exact HO_334004.out))) (below_size (by repeat (first | (with_reducible first | exact HB.out | apply yQ | apply yL | apply yP | refine yE ?_ GE292.out | refine yE ?_ GE333.out) | exact HB.out))))
              have n7_ := yD (yZ (yJ (yJ (yJ (yJ ho2 (yK (by (with_reducible repeat (first | apply yA | apply yB | apply yC)); exact HO_334001.out))) (yK (by (with_reducible repeat (first | apply yA | apply yB | apply yC)); exact HO_334002.out))) (yK (by (with_reducible repeat (first | apply yA | apply yB | apply yC)); exact HO_334003.out))) (yK (by (with_reducible repeat (first | apply yA | apply yB | apply yC)); exact HO_334004.out))) (below_size (by repeat (first | (with_reducible first | exact HB.out | apply yQ | apply yL | apply yP | refine yE ?_ GE292.out | refine yE ?_ GE333.out) | exact HB.out))))
              have n8_ := yD (yZ (yJ (yJ (yJ (yJ ho3 (yK (by (with_reducible repeat (first | apply yA | apply yB | apply yC)); exact HO_334001.out))) (yK (by (with_reducible repeat (first | apply yA | apply yB | apply yC)); exact HO_334002.out))) (yK (by (with_reducible repeat (first | apply yA | apply yB | apply yC)); exact HO_334003.out))) (yK (by (with_reducible repeat (first | apply yA | apply yB | apply yC)); exact HO_334004.out))) (below_size (by repeat (first | (with_reducible first | exact HB.out | apply yQ | apply yL | apply yP | refine yE ?_ GE292.out | refine yE ?_ GE333.out) | exact HB.out))))
              have n9_ := yD (zG (zD (zD (zD (zD (zD ho4 (yK (by (with_reducible repeat (first | apply yA | apply yB | apply yC)); exact HO_334001.out))) (yK (by (with_reducible repeat (first | apply yA | apply yB | apply yC)); exact HO_334002.out))) (yK (by (with_reducible repeat (first | apply yA | apply yB | apply yC)); exact HO_334003.out))) (yK (by (with_reducible repeat (first | apply yA | apply yB | apply yC)); exact HO_334004.out))) (Kd.S_lt (by (with_reducible repeat (first | apply yS | apply yT | apply yU)); exact HO_334005.out))) (below_size (by repeat (first | (with_reducible first | exact HB.out | apply yQ | apply yL | apply yP | refine yE ?_ GE292.out | refine yE ?_ GE333.out) | exact HB.out))))
              have n10_ := yD (zB (g := gb292) (o := .cells #[.int .i64 a1_0, .slice A1_1 l1_1.length c1_1, .slice A1_2 l1_2.length c1_2, .slice A1_3 l1_3.length c1_3, .slice A1_4 l1_4.length c1_4, .slice A1_5 l1_5.length c1_5] 25 (0, 0)) (by (with_reducible repeat (first | refine yM ?_ _ | refine yO ?_ | refine yN ?_ _)); exact BK292.out) hb)
              have n11_ := yD (zB (g := gb333) (o := .cells #[.int .i64 t317, .slice Ao34 t318.length co34, .slice Ao35 t321.length co35, .slice Ao36 t324.length co36, .slice Ao37 t327.length co37, .slice Ao38 t330.length co38] 30 (0, 0)) (by (with_reducible repeat (first | refine yM ?_ _ | refine yO ?_ | refine yN ?_ _)); exact BK333.out) hb)
              have n12_ := yD (zC (by repeat (first | (with_reducible first | exact HB.out | apply yQ | apply yL | apply yP | refine yE ?_ GE292.out | refine yE ?_ GE333.out) | exact HB.out)) hb)
              clear HO_334001 HO_334002 HO_334003 HO_334004 HO_334005 BK292 BK333 HB; have HO_334001 := n0_; have HO_334002 := n1_; have HO_334003 := n2_; have HO_334004 := n3_; have HO_334005 := n4_; have HO342 := n5_; have HO345 := n6_; have HO348 := n7_; have HO351 := n8_; have HO354 := n9_; have BK292 := n10_; have BK333 := n11_; have HB := n12_; clear n0_ n1_ n2_ n3_ n4_ n5_ n6_ n7_ n8_ n9_ n10_ n11_ n12_; (try clear hb); (try clear hb2); (try clear hk); (try clear hi); (try clear ho0); (try clear ho1); (try clear ho2); (try clear ho3); (try clear ho4)
              obtain ⟨Ao58, co58, eo58⟩ := Kd.R_slice HO342.out
              (first | subst eo58 | (injection eo58 with f1_ f2_ f3_; have f4_ := f1_.symm; have f5_ := f3_.symm; clear f1_ f2_ f3_; subst f4_; subst f5_))
              obtain ⟨Ao59, co59, eo59⟩ := Kd.R_slice HO345.out
              (first | subst eo59 | (injection eo59 with f1_ f2_ f3_; have f4_ := f1_.symm; have f5_ := f3_.symm; clear f1_ f2_ f3_; subst f4_; subst f5_))
              obtain ⟨Ao60, co60, eo60⟩ := Kd.R_slice HO348.out
              (first | subst eo60 | (injection eo60 with f1_ f2_ f3_; have f4_ := f1_.symm; have f5_ := f3_.symm; clear f1_ f2_ f3_; subst f4_; subst f5_))
              obtain ⟨Ao61, co61, eo61⟩ := Kd.R_slice HO351.out
              (first | subst eo61 | (injection eo61 with f1_ f2_ f3_; have f4_ := f1_.symm; have f5_ := f3_.symm; clear f1_ f2_ f3_; subst f4_; subst f5_))
              obtain ⟨Ao62, co62, eo62⟩ := Kd.S_slice HO354.out
              (first | subst eo62 | (injection eo62 with f1_ f2_ f3_; have f4_ := f1_.symm; have f5_ := f3_.symm; clear f1_ f2_ f3_; subst f4_; subst f5_))
              refine hK.out _ _ ⟨(yG BK333.out 0).trans rfl, (yG BK333.out 1).trans rfl, (yG BK333.out 2).trans rfl, (yG BK333.out 3).trans rfl, (yG BK333.out 4).trans rfl, (yG BK333.out 5).trans rfl, (yG BK292.out 0).trans rfl, (yG BK292.out 1).trans rfl, (yG BK292.out 2).trans rfl, (yG BK292.out 3).trans rfl, (yG BK292.out 4).trans rfl, (yG BK292.out 5).trans rfl⟩ (fun hHeld => ?_)
              clear hK K
              refine norm_ (by show Act.put _ (some 40) _ = _; simp only [Act.put, zH, zI, zJ, i64_w, i32_w]; rfl) ?_
              refine one_ (i := 3) (N := some 41) #[true, true, true, true, false] rfl rfl (by kernel_rfl) (by decide) (fun K hK => ?_)
              refine goes_ Try.func9 (by kernel_rfl) rfl #[.agg #[.int .i64 t317, .slice Ao34 t318.length co34, .slice Ao35 t321.length co35, .slice Ao36 t324.length co36, .slice Ao37 t327.length co37, .slice Ao38 t330.length co38], .agg #[.int .i64 t339, .slice Ao58 t340.length co58, .slice Ao59 t343.length co59, .slice Ao60 t346.length co60, .slice Ao61 t349.length co61, .slice Ao62 t352.length co62]] (by rfl) rfl rfl (by (try simp only [zK, zL, zM]); first | done | rfl | (simp only [zN, zO]; rfl)) ?_
              with_reducible refine (laws_eqSelection.calls kj47 t317 _ _ t318 _ _ t321 _ _ t324 _ _ t327 _ _ t330 t339 _ _ t340 _ _ t343 _ _ t346 _ _ t349 _ _ t352 true _ ?side1 ?side2 ?side3 ?side4 ?side5 ?side6 ?side7 ?side8 ?side9 ?side10 ?side11 ?side12 ?side13 ?side14 ?side15 ?side16 ?side17 ?side18 ?side19 ?side20 A54.out).mono ?_
              (case side1 => repeat (first | exact (zA HO_334001.out).2.2 | (with_reducible first | refine yV ?_ _ | refine yW ?_ _ | refine yX ?_)))
              (case side2 => exact (zA HO_334001.out).2.1)
              (case side3 => repeat (first | exact (zA HO_334002.out).2.2 | (with_reducible first | refine yV ?_ _ | refine yW ?_ _ | refine yX ?_)))
              (case side4 => exact (zA HO_334002.out).2.1)
              (case side5 => repeat (first | exact (zA HO_334003.out).2.2 | (with_reducible first | refine yV ?_ _ | refine yW ?_ _ | refine yX ?_)))
              (case side6 => exact (zA HO_334003.out).2.1)
              (case side7 => repeat (first | exact (zA HO_334004.out).2.2 | (with_reducible first | refine yV ?_ _ | refine yW ?_ _ | refine yX ?_)))
              (case side8 => exact (zA HO_334004.out).2.1)
              (case side9 => repeat (first | exact (Kd.S_reads' HO_334005.out).2.2 | (with_reducible first | refine yV ?_ _ | refine yW ?_ _ | refine yX ?_)))
              (case side10 => exact (Kd.S_reads' HO_334005.out).2.1)
              (case side11 => repeat (first | exact (zA HO342.out).2.2 | (with_reducible first | refine yV ?_ _ | refine yW ?_ _ | refine yX ?_)))
              (case side12 => exact (zA HO342.out).2.1)
              (case side13 => repeat (first | exact (zA HO345.out).2.2 | (with_reducible first | refine yV ?_ _ | refine yW ?_ _ | refine yX ?_)))
              (case side14 => exact (zA HO345.out).2.1)
              (case side15 => repeat (first | exact (zA HO348.out).2.2 | (with_reducible first | refine yV ?_ _ | refine yW ?_ _ | refine yX ?_)))
              (case side16 => exact (zA HO348.out).2.1)
              (case side17 => repeat (first | exact (zA HO351.out).2.2 | (with_reducible first | refine yV ?_ _ | refine yW ?_ _ | refine yX ?_)))
              (case side18 => exact (zA HO351.out).2.1)
              (case side19 => repeat (first | exact (Kd.S_reads' HO354.out).2.2 | (with_reducible first | refine yV ?_ _ | refine yW ?_ _ | refine yX ?_)))
              (case side20 => exact (Kd.S_reads' HO354.out).2.1)
              rintro e w63 ⟨rfl, hb⟩
              refine ⟨_, rfl, ?_⟩
              have n0_ := yD (zE (by (with_reducible repeat (first | apply yA | apply yB | apply yC)); exact HO_334001.out) hb)
              have n1_ := yD (zE (by (with_reducible repeat (first | apply yA | apply yB | apply yC)); exact HO_334002.out) hb)
              have n2_ := yD (zE (by (with_reducible repeat (first | apply yA | apply yB | apply yC)); exact HO_334003.out) hb)
              have n3_ := yD (zE (by (with_reducible repeat (first | apply yA | apply yB | apply yC)); exact HO_334004.out) hb)
              have n4_ := yD (Kd.S_below (by (with_reducible repeat (first | apply yS | apply yT | apply yU)); exact HO_334005.out) hb)
              have n5_ := yD (zE (by (with_reducible repeat (first | apply yA | apply yB | apply yC)); exact HO342.out) hb)
              have n6_ := yD (zE (by (with_reducible repeat (first | apply yA | apply yB | apply yC)); exact HO345.out) hb)
              have n7_ := yD (zE (by (with_reducible repeat (first | apply yA | apply yB | apply yC)); exact HO348.out) hb)
              have n8_ := yD (zE (by (with_reducible repeat (first | apply yA | apply yB | apply yC)); exact HO351.out) hb)
              have n9_ := yD (Kd.S_below (by (with_reducible repeat (first | apply yS | apply yT | apply yU)); exact HO354.out) hb)
              have n10_ := yD (zB (g := gb292) (o := .cells #[.int .i64 a1_0, .slice A1_1 l1_1.length c1_1, .slice A1_2 l1_2.length c1_2, .slice A1_3 l1_3.length c1_3, .slice A1_4 l1_4.length c1_4, .slice A1_5 l1_5.length c1_5] 25 (0, 0)) (by (with_reducible repeat (first | refine yM ?_ _ | refine yO ?_ | refine yN ?_ _)); exact BK292.out) hb)
              have n11_ := yD (zB (g := gb333) (o := .cells #[.int .i64 t317, .slice Ao34 t318.length co34, .slice Ao35 t321.length co35, .slice Ao36 t324.length co36, .slice Ao37 t327.length co37, .slice Ao38 t330.length co38] 30 (0, 0)) (by (with_reducible repeat (first | refine yM ?_ _ | refine yO ?_ | refine yN ?_ _)); exact BK333.out) hb)
              have n12_ := yD (zC (by repeat (first | (with_reducible first | exact HB.out | apply yQ | apply yL | apply yP | refine yE ?_ GE292.out | refine yE ?_ GE333.out) | exact HB.out)) hb)
              clear HO_334001 HO_334002 HO_334003 HO_334004 HO_334005 HO342 HO345 HO348 HO351 HO354 BK292 BK333 HB; have HO_334001 := n0_; have HO_334002 := n1_; have HO_334003 := n2_; have HO_334004 := n3_; have HO_334005 := n4_; have HO342 := n5_; have HO345 := n6_; have HO348 := n7_; have HO351 := n8_; have HO354 := n9_; have BK292 := n10_; have BK333 := n11_; have HB := n12_; clear n0_ n1_ n2_ n3_ n4_ n5_ n6_ n7_ n8_ n9_ n10_ n11_ n12_; (try clear hb); (try clear hb2); (try clear hk); (try clear hi)
              refine hK.out _ _ ⟨(yG BK333.out 0).trans rfl, (yG BK333.out 1).trans rfl, (yG BK333.out 2).trans rfl, (yG BK333.out 3).trans rfl, (yG BK333.out 4).trans rfl, (yG BK333.out 5).trans rfl, (yG BK292.out 0).trans rfl, (yG BK292.out 1).trans rfl, (yG BK292.out 2).trans rfl, (yG BK292.out 3).trans rfl, (yG BK292.out 4).trans rfl, (yG BK292.out 5).trans rfl⟩ (fun hHeld => ?_)
              clear hK K
              refine norm_ (by show Act.put _ (some 41) _ = _; simp only [Act.put, zH, zI, zJ, i64_w, i32_w]; rfl) ?_
              refine pA 4 42 #[true, true, true, true, true] rfl rfl (by kernel_rfl) (fun _ _ _ h => h) (by rfl) (fun _ => by go_simp; with_reducible rfl) (by simp only [Act.put, zH, zI, zJ, i64_w, i32_w]; rfl) ?_
              refine done_ (by kernel_rfl) ?_
              try go_wp2
              go_ret
              exact ⟨by first | rfl | (simp <;> rfl) | (simp [*] <;> rfl), by repeat (first | (with_reducible first | exact HB.out | apply yQ | apply yL | apply yP | refine yE ?_ GE292.out | refine yE ?_ GE333.out) | exact HB.out)⟩
             ·
              replace c55 := Bool.eq_false_iff.mpr c55
              subst c55
              have H1 : (some false) = some r := by rw [if_neg (show ¬ (false = true) by decide)] at H; exact H
              clear H; have H := H1; clear H1; obtain rfl := Option.some.inj H
              try go_wp2
              have n0_ := yD (yC HO_334001.out)
              have n1_ := yD (yC HO_334002.out)
              have n2_ := yD (yC HO_334003.out)
              have n3_ := yD (yC HO_334004.out)
              have n4_ := yD (yU HO_334005.out)
              have n5_ := yD (yO BK292.out)
              have n6_ := yD (yO BK333.out)
              have n7_ := yD (yP HB.out)
              clear HO_334001 HO_334002 HO_334003 HO_334004 HO_334005 BK292 BK333 HB; have HO_334001 := n0_; have HO_334002 := n1_; have HO_334003 := n2_; have HO_334004 := n3_; have HO_334005 := n4_; have BK292 := n5_; have BK333 := n6_; have HB := n7_; clear n0_ n1_ n2_ n3_ n4_ n5_ n6_ n7_
              refine start_ (n := 5) (S := fun w' => w'.cell? ⟨gb333, 0, none⟩ = some (.int .i64 t317) ∧ w'.cell? ⟨gb333, 1, none⟩ = some (.slice Ao34 t318.length co34) ∧ w'.cell? ⟨gb333, 2, none⟩ = some (.slice Ao35 t321.length co35) ∧ w'.cell? ⟨gb333, 3, none⟩ = some (.slice Ao36 t324.length co36) ∧ w'.cell? ⟨gb333, 4, none⟩ = some (.slice Ao37 t327.length co37) ∧ w'.cell? ⟨gb333, 5, none⟩ = some (.slice Ao38 t330.length co38) ∧ w'.cell? ⟨gb292, 0, none⟩ = some (.int .i64 a1_0) ∧ w'.cell? ⟨gb292, 1, none⟩ = some (.slice A1_1 l1_1.length c1_1) ∧ w'.cell? ⟨gb292, 2, none⟩ = some (.slice A1_2 l1_2.length c1_2) ∧ w'.cell? ⟨gb292, 3, none⟩ = some (.slice A1_3 l1_3.length c1_3) ∧ w'.cell? ⟨gb292, 4, none⟩ = some (.slice A1_4 l1_4.length c1_4) ∧ w'.cell? ⟨gb292, 5, none⟩ = some (.slice A1_5 l1_5.length c1_5)) (ds := []) #[false, false, false, false, false] (by kernel_rfl) rfl rfl ⟨(yG BK333.out 0).trans rfl, (yG BK333.out 1).trans rfl, (yG BK333.out 2).trans rfl, (yG BK333.out 3).trans rfl, (yG BK333.out 4).trans rfl, (yG BK333.out 5).trans rfl, (yG BK292.out 0).trans rfl, (yG BK292.out 1).trans rfl, (yG BK292.out 2).trans rfl, (yG BK292.out 3).trans rfl, (yG BK292.out 4).trans rfl, (yG BK292.out 5).trans rfl⟩ (fun hHeld => ?_)
              generalize wc.drew = w64 at HO_334001 HO_334002 HO_334003 HO_334004 HO_334005 BK292 BK333 HB hHeld ⊢
              refine pC 0 38 #[true, false, false, false, false] rfl rfl (by kernel_rfl) (fun _ _ _ h => h) (by rfl) hHeld (by rintro w' ⟨s0, s1, s2, s3, s4, s5, s6, s7, s8, s9, s10, s11⟩; go_simp; with_reducible rfl) (by simp only [Act.put, zH, zI, zJ, i64_w, i32_w]; rfl) ?_
              refine pC 1 39 #[true, true, false, false, false] rfl rfl (by kernel_rfl) (fun _ _ _ h => h) (by rfl) hHeld (by rintro w' ⟨s0, s1, s2, s3, s4, s5, s6, s7, s8, s9, s10, s11⟩; go_simp; with_reducible rfl) (by simp only [Act.put, zH, zI, zJ, i64_w, i32_w]; rfl) ?_
              refine one_ (i := 2) (N := some 40) #[true, true, true, false, false] rfl rfl (by kernel_rfl) (by decide) (fun K hK => ?_)
              refine goes_ Try.func7 (by kernel_rfl) rfl #[.agg #[.int .i64 a1_0, .slice A1_1 l1_1.length c1_1, .slice A1_2 l1_2.length c1_2, .slice A1_3 l1_3.length c1_3, .slice A1_4 l1_4.length c1_4, .slice A1_5 l1_5.length c1_5]] (by rfl) rfl rfl (by (try simp only [zK, zL, zM]); first | done | rfl | (simp only [zN, zO]; rfl)) ?_
              with_reducible refine (laws_toSelection.calls kj47 a1_0 _ _ l1_1 _ _ l1_2 _ _ l1_3 _ _ l1_4 _ _ l1_5 t339 t340 t343 t346 t349 t352 _ ?side1 ?side2 ?side3 ?side4 ?side5 ?side6 ?side7 ?side8 ?side9 ?side10 A53.out).mono ?_
              (case side1 => repeat (first | exact (yY HR1_1.out HB.out) | (with_reducible first | refine yV ?_ _ | refine yW ?_ _ | refine yX ?_)))
              (case side2 => exact HC1_1.out)
              (case side3 => repeat (first | exact (yY HR1_2.out HB.out) | (with_reducible first | refine yV ?_ _ | refine yW ?_ _ | refine yX ?_)))
              (case side4 => exact HC1_2.out)
              (case side5 => repeat (first | exact (yY HR1_3.out HB.out) | (with_reducible first | refine yV ?_ _ | refine yW ?_ _ | refine yX ?_)))
              (case side6 => exact HC1_3.out)
              (case side7 => repeat (first | exact (yY HR1_4.out HB.out) | (with_reducible first | refine yV ?_ _ | refine yW ?_ _ | refine yX ?_)))
              (case side8 => exact HC1_4.out)
              (case side9 => repeat (first | exact (yY HR1_5.out HB.out) | (with_reducible first | refine yV ?_ _ | refine yW ?_ _ | refine yX ?_)))
              (case side10 => exact HC1_5.out)
              rintro e w65 ⟨v341, v344, v347, v350, v353, rfl, ho0, ho1, ho2, ho3, ho4, hb⟩
              refine ⟨_, rfl, ?_⟩
              have n0_ := yD (zF (yI (yI (yI (yI (Kd.R_old (by (with_reducible repeat (first | apply yA | apply yB | apply yC)); exact HO_334001.out) hb) (yH ho0)) (yH ho1)) (yH ho2)) (yH ho3)) (fun _ h_ => h_.1))
              have n1_ := yD (zF (yI (yI (yI (yI (Kd.R_old (by (with_reducible repeat (first | apply yA | apply yB | apply yC)); exact HO_334002.out) hb) (yH ho0)) (yH ho1)) (yH ho2)) (yH ho3)) (fun _ h_ => h_.1))
              have n2_ := yD (zF (yI (yI (yI (yI (Kd.R_old (by (with_reducible repeat (first | apply yA | apply yB | apply yC)); exact HO_334003.out) hb) (yH ho0)) (yH ho1)) (yH ho2)) (yH ho3)) (fun _ h_ => h_.1))
              have n3_ := yD (zF (yI (yI (yI (yI (Kd.R_old (by (with_reducible repeat (first | apply yA | apply yB | apply yC)); exact HO_334004.out) hb) (yH ho0)) (yH ho1)) (yH ho2)) (yH ho3)) (fun _ h_ => h_.1))
              have n4_ := yD (Kd.S_mono (Kd.S_told (Kd.S_told (Kd.S_told (Kd.S_told (Kd.S_told (Kd.S_old (by (with_reducible repeat (first | apply yS | apply yT | apply yU)); exact HO_334005.out) hb) (yH ho0)) (yH ho1)) (yH ho2)) (yH ho3)) (Kd.S_base ho4)) (fun _ h_ => h_.1))
              have n5_ := yD (yZ (yJ (yJ (yJ (yJ ho0 (yK (by (with_reducible repeat (first | apply yA | apply yB | apply yC)); exact HO_334001.out))) (yK (by (with_reducible repeat (first | apply yA | apply yB | apply yC)); exact HO_334002.out))) (yK (by (with_reducible repeat (first | apply yA | apply yB | apply yC)); exact HO_334003.out))) (yK (by (with_reducible repeat (first | apply yA | apply yB | apply yC)); exact HO_334004.out))) (below_size (by repeat (first | (with_reducible first | exact HB.out | apply yQ | apply yL | apply yP | refine yE ?_ GE292.out | refine yE ?_ GE333.out) | exact HB.out))))
              have n6_ := yD (yZ (yJ (yJ (yJ (yJ ho1 (yK (by (with_reducible repeat (first | apply yA | apply yB | apply yC)); exact HO_334001.out))) (yK (by (with_reducible repeat (first | apply yA | apply yB | apply yC)); exact HO_334002.out))) (yK (by (with_reducible repeat (first | apply yA | apply yB | apply yC)); exact HO_334003.out))) (yK (by (with_reducible repeat (first | apply yA | apply yB | apply yC)); exact HO_334004.out))) (below_size (by repeat (first | (with_reducible first | exact HB.out | apply yQ | apply yL | apply yP | refine yE ?_ GE292.out | refine yE ?_ GE333.out) | exact HB.out))))
              have n7_ := yD (yZ (yJ (yJ (yJ (yJ ho2 (yK (by (with_reducible repeat (first | apply yA | apply yB | apply yC)); exact HO_334001.out))) (yK (by (with_reducible repeat (first | apply yA | apply yB | apply yC)); exact HO_334002.out))) (yK (by (with_reducible repeat (first | apply yA | apply yB | apply yC)); exact HO_334003.out))) (yK (by (with_reducible repeat (first | apply yA | apply yB | apply yC)); exact HO_334004.out))) (below_size (by repeat (first | (with_reducible first | exact HB.out | apply yQ | apply yL | apply yP | refine yE ?_ GE292.out | refine yE ?_ GE333.out) | exact HB.out))))
              have n8_ := yD (yZ (yJ (yJ (yJ (yJ ho3 (yK (by (with_reducible repeat (first | apply yA | apply yB | apply yC)); exact HO_334001.out))) (yK (by (with_reducible repeat (first | apply yA | apply yB | apply yC)); exact HO_334002.out))) (yK (by (with_reducible repeat (first | apply yA | apply yB | apply yC)); exact HO_334003.out))) (yK (by (with_reducible repeat (first | apply yA | apply yB | apply yC)); exact HO_334004.out))) (below_size (by repeat (first | (with_reducible first | exact HB.out | apply yQ | apply yL | apply yP | refine yE ?_ GE292.out | refine yE ?_ GE333.out) | exact HB.out))))
              have n9_ := yD (zG (zD (zD (zD (zD (zD ho4 (yK (by (with_reducible repeat (first | apply yA | apply yB | apply yC)); exact HO_334001.out))) (yK (by (with_reducible repeat (first | apply yA | apply yB | apply yC)); exact HO_334002.out))) (yK (by (with_reducible repeat (first | apply yA | apply yB | apply yC)); exact HO_334003.out))) (yK (by (with_reducible repeat (first | apply yA | apply yB | apply yC)); exact HO_334004.out))) (Kd.S_lt (by (with_reducible repeat (first | apply yS | apply yT | apply yU)); exact HO_334005.out))) (below_size (by repeat (first | (with_reducible first | exact HB.out | apply yQ | apply yL | apply yP | refine yE ?_ GE292.out | refine yE ?_ GE333.out) | exact HB.out))))
              have n10_ := yD (zB (g := gb292) (o := .cells #[.int .i64 a1_0, .slice A1_1 l1_1.length c1_1, .slice A1_2 l1_2.length c1_2, .slice A1_3 l1_3.length c1_3, .slice A1_4 l1_4.length c1_4, .slice A1_5 l1_5.length c1_5] 25 (0, 0)) (by (with_reducible repeat (first | refine yM ?_ _ | refine yO ?_ | refine yN ?_ _)); exact BK292.out) hb)
              have n11_ := yD (zB (g := gb333) (o := .cells #[.int .i64 t317, .slice Ao34 t318.length co34, .slice Ao35 t321.length co35, .slice Ao36 t324.length co36, .slice Ao37 t327.length co37, .slice Ao38 t330.length co38] 30 (0, 0)) (by (with_reducible repeat (first | refine yM ?_ _ | refine yO ?_ | refine yN ?_ _)); exact BK333.out) hb)
              have n12_ := yD (zC (by repeat (first | (with_reducible first | exact HB.out | apply yQ | apply yL | apply yP | refine yE ?_ GE292.out | refine yE ?_ GE333.out) | exact HB.out)) hb)
              clear HO_334001 HO_334002 HO_334003 HO_334004 HO_334005 BK292 BK333 HB; have HO_334001 := n0_; have HO_334002 := n1_; have HO_334003 := n2_; have HO_334004 := n3_; have HO_334005 := n4_; have HO342 := n5_; have HO345 := n6_; have HO348 := n7_; have HO351 := n8_; have HO354 := n9_; have BK292 := n10_; have BK333 := n11_; have HB := n12_; clear n0_ n1_ n2_ n3_ n4_ n5_ n6_ n7_ n8_ n9_ n10_ n11_ n12_; (try clear hb); (try clear hb2); (try clear hk); (try clear hi); (try clear ho0); (try clear ho1); (try clear ho2); (try clear ho3); (try clear ho4)
              obtain ⟨Ao66, co66, eo66⟩ := Kd.R_slice HO342.out
              (first | subst eo66 | (injection eo66 with f1_ f2_ f3_; have f4_ := f1_.symm; have f5_ := f3_.symm; clear f1_ f2_ f3_; subst f4_; subst f5_))
              obtain ⟨Ao67, co67, eo67⟩ := Kd.R_slice HO345.out
              (first | subst eo67 | (injection eo67 with f1_ f2_ f3_; have f4_ := f1_.symm; have f5_ := f3_.symm; clear f1_ f2_ f3_; subst f4_; subst f5_))
              obtain ⟨Ao68, co68, eo68⟩ := Kd.R_slice HO348.out
              (first | subst eo68 | (injection eo68 with f1_ f2_ f3_; have f4_ := f1_.symm; have f5_ := f3_.symm; clear f1_ f2_ f3_; subst f4_; subst f5_))
              obtain ⟨Ao69, co69, eo69⟩ := Kd.R_slice HO351.out
              (first | subst eo69 | (injection eo69 with f1_ f2_ f3_; have f4_ := f1_.symm; have f5_ := f3_.symm; clear f1_ f2_ f3_; subst f4_; subst f5_))
              obtain ⟨Ao70, co70, eo70⟩ := Kd.S_slice HO354.out
              (first | subst eo70 | (injection eo70 with f1_ f2_ f3_; have f4_ := f1_.symm; have f5_ := f3_.symm; clear f1_ f2_ f3_; subst f4_; subst f5_))
              refine hK.out _ _ ⟨(yG BK333.out 0).trans rfl, (yG BK333.out 1).trans rfl, (yG BK333.out 2).trans rfl, (yG BK333.out 3).trans rfl, (yG BK333.out 4).trans rfl, (yG BK333.out 5).trans rfl, (yG BK292.out 0).trans rfl, (yG BK292.out 1).trans rfl, (yG BK292.out 2).trans rfl, (yG BK292.out 3).trans rfl, (yG BK292.out 4).trans rfl, (yG BK292.out 5).trans rfl⟩ (fun hHeld => ?_)
              clear hK K
              refine norm_ (by show Act.put _ (some 40) _ = _; simp only [Act.put, zH, zI, zJ, i64_w, i32_w]; rfl) ?_
              refine one_ (i := 3) (N := some 41) #[true, true, true, true, false] rfl rfl (by kernel_rfl) (by decide) (fun K hK => ?_)
              refine goes_ Try.func9 (by kernel_rfl) rfl #[.agg #[.int .i64 t317, .slice Ao34 t318.length co34, .slice Ao35 t321.length co35, .slice Ao36 t324.length co36, .slice Ao37 t327.length co37, .slice Ao38 t330.length co38], .agg #[.int .i64 t339, .slice Ao66 t340.length co66, .slice Ao67 t343.length co67, .slice Ao68 t346.length co68, .slice Ao69 t349.length co69, .slice Ao70 t352.length co70]] (by rfl) rfl rfl (by (try simp only [zK, zL, zM]); first | done | rfl | (simp only [zN, zO]; rfl)) ?_
              with_reducible refine (laws_eqSelection.calls kj47 t317 _ _ t318 _ _ t321 _ _ t324 _ _ t327 _ _ t330 t339 _ _ t340 _ _ t343 _ _ t346 _ _ t349 _ _ t352 false _ ?side1 ?side2 ?side3 ?side4 ?side5 ?side6 ?side7 ?side8 ?side9 ?side10 ?side11 ?side12 ?side13 ?side14 ?side15 ?side16 ?side17 ?side18 ?side19 ?side20 A54.out).mono ?_
              (case side1 => repeat (first | exact (zA HO_334001.out).2.2 | (with_reducible first | refine yV ?_ _ | refine yW ?_ _ | refine yX ?_)))
              (case side2 => exact (zA HO_334001.out).2.1)
              (case side3 => repeat (first | exact (zA HO_334002.out).2.2 | (with_reducible first | refine yV ?_ _ | refine yW ?_ _ | refine yX ?_)))
              (case side4 => exact (zA HO_334002.out).2.1)
              (case side5 => repeat (first | exact (zA HO_334003.out).2.2 | (with_reducible first | refine yV ?_ _ | refine yW ?_ _ | refine yX ?_)))
              (case side6 => exact (zA HO_334003.out).2.1)
              (case side7 => repeat (first | exact (zA HO_334004.out).2.2 | (with_reducible first | refine yV ?_ _ | refine yW ?_ _ | refine yX ?_)))
              (case side8 => exact (zA HO_334004.out).2.1)
              (case side9 => repeat (first | exact (Kd.S_reads' HO_334005.out).2.2 | (with_reducible first | refine yV ?_ _ | refine yW ?_ _ | refine yX ?_)))
              (case side10 => exact (Kd.S_reads' HO_334005.out).2.1)
              (case side11 => repeat (first | exact (zA HO342.out).2.2 | (with_reducible first | refine yV ?_ _ | refine yW ?_ _ | refine yX ?_)))
              (case side12 => exact (zA HO342.out).2.1)
              (case side13 => repeat (first | exact (zA HO345.out).2.2 | (with_reducible first | refine yV ?_ _ | refine yW ?_ _ | refine yX ?_)))
              (case side14 => exact (zA HO345.out).2.1)
              (case side15 => repeat (first | exact (zA HO348.out).2.2 | (with_reducible first | refine yV ?_ _ | refine yW ?_ _ | refine yX ?_)))
              (case side16 => exact (zA HO348.out).2.1)
              (case side17 => repeat (first | exact (zA HO351.out).2.2 | (with_reducible first | refine yV ?_ _ | refine yW ?_ _ | refine yX ?_)))
              (case side18 => exact (zA HO351.out).2.1)
              (case side19 => repeat (first | exact (Kd.S_reads' HO354.out).2.2 | (with_reducible first | refine yV ?_ _ | refine yW ?_ _ | refine yX ?_)))
              (case side20 => exact (Kd.S_reads' HO354.out).2.1)
              rintro e w71 ⟨rfl, hb⟩
              refine ⟨_, rfl, ?_⟩
              have n0_ := yD (zE (by (with_reducible repeat (first | apply yA | apply yB | apply yC)); exact HO_334001.out) hb)
              have n1_ := yD (zE (by (with_reducible repeat (first | apply yA | apply yB | apply yC)); exact HO_334002.out) hb)
              have n2_ := yD (zE (by (with_reducible repeat (first | apply yA | apply yB | apply yC)); exact HO_334003.out) hb)
              have n3_ := yD (zE (by (with_reducible repeat (first | apply yA | apply yB | apply yC)); exact HO_334004.out) hb)
              have n4_ := yD (Kd.S_below (by (with_reducible repeat (first | apply yS | apply yT | apply yU)); exact HO_334005.out) hb)
              have n5_ := yD (zE (by (with_reducible repeat (first | apply yA | apply yB | apply yC)); exact HO342.out) hb)
              have n6_ := yD (zE (by (with_reducible repeat (first | apply yA | apply yB | apply yC)); exact HO345.out) hb)
              have n7_ := yD (zE (by (with_reducible repeat (first | apply yA | apply yB | apply yC)); exact HO348.out) hb)
              have n8_ := yD (zE (by (with_reducible repeat (first | apply yA | apply yB | apply yC)); exact HO351.out) hb)
              have n9_ := yD (Kd.S_below (by (with_reducible repeat (first | apply yS | apply yT | apply yU)); exact HO354.out) hb)
              have n10_ := yD (zB (g := gb292) (o := .cells #[.int .i64 a1_0, .slice A1_1 l1_1.length c1_1, .slice A1_2 l1_2.length c1_2, .slice A1_3 l1_3.length c1_3, .slice A1_4 l1_4.length c1_4, .slice A1_5 l1_5.length c1_5] 25 (0, 0)) (by (with_reducible repeat (first | refine yM ?_ _ | refine yO ?_ | refine yN ?_ _)); exact BK292.out) hb)
              have n11_ := yD (zB (g := gb333) (o := .cells #[.int .i64 t317, .slice Ao34 t318.length co34, .slice Ao35 t321.length co35, .slice Ao36 t324.length co36, .slice Ao37 t327.length co37, .slice Ao38 t330.length co38] 30 (0, 0)) (by (with_reducible repeat (first | refine yM ?_ _ | refine yO ?_ | refine yN ?_ _)); exact BK333.out) hb)
              have n12_ := yD (zC (by repeat (first | (with_reducible first | exact HB.out | apply yQ | apply yL | apply yP | refine yE ?_ GE292.out | refine yE ?_ GE333.out) | exact HB.out)) hb)
              clear HO_334001 HO_334002 HO_334003 HO_334004 HO_334005 HO342 HO345 HO348 HO351 HO354 BK292 BK333 HB; have HO_334001 := n0_; have HO_334002 := n1_; have HO_334003 := n2_; have HO_334004 := n3_; have HO_334005 := n4_; have HO342 := n5_; have HO345 := n6_; have HO348 := n7_; have HO351 := n8_; have HO354 := n9_; have BK292 := n10_; have BK333 := n11_; have HB := n12_; clear n0_ n1_ n2_ n3_ n4_ n5_ n6_ n7_ n8_ n9_ n10_ n11_ n12_; (try clear hb); (try clear hb2); (try clear hk); (try clear hi)
              refine hK.out _ _ ⟨(yG BK333.out 0).trans rfl, (yG BK333.out 1).trans rfl, (yG BK333.out 2).trans rfl, (yG BK333.out 3).trans rfl, (yG BK333.out 4).trans rfl, (yG BK333.out 5).trans rfl, (yG BK292.out 0).trans rfl, (yG BK292.out 1).trans rfl, (yG BK292.out 2).trans rfl, (yG BK292.out 3).trans rfl, (yG BK292.out 4).trans rfl, (yG BK292.out 5).trans rfl⟩ (fun hHeld => ?_)
              clear hK K
              refine norm_ (by show Act.put _ (some 41) _ = _; simp only [Act.put, zH, zI, zJ, i64_w, i32_w]; rfl) ?_
              refine pA 4 42 #[true, true, true, true, true] rfl rfl (by kernel_rfl) (fun _ _ _ h => h) (by rfl) (fun _ => by go_simp; with_reducible rfl) (by simp only [Act.put, zH, zI, zJ, i64_w, i32_w]; rfl) ?_
              refine done_ (by kernel_rfl) ?_
              try go_wp2
              go_ret
              exact ⟨by first | rfl | (simp <;> rfl) | (simp [*] <;> rfl), by repeat (first | (with_reducible first | exact HB.out | apply yQ | apply yL | apply yP | refine yE ?_ GE292.out | refine yE ?_ GE333.out) | exact HB.out)⟩

-- what data that come in are: numbers of their kinds, lengths that a length can be
def okS46 (x : S46) : Prop := (x.f0.length ≤ maxLen ∧ ∀ x_ ∈ x.f0, (Lit.int .i64 x_).wf = true)
def okS25 (x : S25) : Prop := (Lit.int .i64 x.f0).wf = true ∧ (x.f1.length ≤ maxLen ∧ ∀ x_ ∈ x.f1, (Lit.int .i64 x_).wf = true) ∧ (x.f2.length ≤ maxLen ∧ ∀ x_ ∈ x.f2, (Lit.int .i64 x_).wf = true) ∧ (x.f3.length ≤ maxLen ∧ ∀ x_ ∈ x.f3, (Lit.int .i64 x_).wf = true) ∧ (x.f4.length ≤ maxLen ∧ ∀ x_ ∈ x.f4, (Lit.int .i64 x_).wf = true) ∧ (x.f5.length ≤ maxLen ∧ ∀ x_ ∈ x.f5, okS46 x_)
/-- THE ONE PURE STATEMENT of laws_FnExactValidSelection: ours. -/
def laws_FnExactValidSelection.Pure : Prop := ∀ (l0 : List Int) (a1_0 : Int) (l1_1 : List Int) (l1_2 : List Int) (l1_3 : List Int) (l1_4 : List Int) (l1_5 : List (S46)), (l0.length ≤ maxLen ∧ ∀ x_ ∈ l0, (Lit.int .i64 x_).wf = true) → (Lit.int .i64 a1_0).wf = true → (l1_1.length ≤ maxLen ∧ ∀ x_ ∈ l1_1, (Lit.int .i64 x_).wf = true) → (l1_2.length ≤ maxLen ∧ ∀ x_ ∈ l1_2, (Lit.int .i64 x_).wf = true) → (l1_3.length ≤ maxLen ∧ ∀ x_ ∈ l1_3, (Lit.int .i64 x_).wf = true) → (l1_4.length ≤ maxLen ∧ ∀ x_ ∈ l1_4, (Lit.int .i64 x_).wf = true) → (l1_5.length ≤ maxLen ∧ ∀ x_ ∈ l1_5, okS46 x_) → ∃ k, laws_FnExactValidSelection.f k l0 a1_0 l1_1 l1_2 l1_3 l1_4 l1_5 = some true
theorem laws_FnExactValidSelection.walk (P : laws_FnExactValidSelection.Pure) (A0 : Option Addr) (c0 : Nat) (l0 : List Int) (a1_0 : Int) (A1_1 : Option Addr) (c1_1 : Nat) (l1_1 : List Int) (A1_2 : Option Addr) (c1_2 : Nat) (l1_2 : List Int) (A1_3 : Option Addr) (c1_3 : Nat) (l1_3 : List Int) (A1_4 : Option Addr) (c1_4 : Nat) (l1_4 : List Int) (A1_5 : Option Addr) (c1_5 : Nat) (l1_5 : List (S46)) (w : World) (hr0 : Kd.C (Kd.int .i64) w A0 l0.length l0) (hc0 : l0.length ≤ c0) (hr1_1 : Kd.C (Kd.int .i64) w A1_1 l1_1.length l1_1) (hc1_1 : l1_1.length ≤ c1_1) (hr1_2 : Kd.C (Kd.int .i64) w A1_2 l1_2.length l1_2) (hc1_2 : l1_2.length ≤ c1_2) (hr1_3 : Kd.C (Kd.int .i64) w A1_3 l1_3.length l1_3) (hc1_3 : l1_3.length ≤ c1_3) (hr1_4 : Kd.C (Kd.int .i64) w A1_4 l1_4.length l1_4) (hc1_4 : l1_4.length ≤ c1_4) (hr1_5 : Kd.C k46 w A1_5 l1_5.length l1_5) (hc1_5 : l1_5.length ≤ c1_5) (o0 : (l0.length ≤ maxLen ∧ ∀ x_ ∈ l0, (Lit.int .i64 x_).wf = true)) (o1_0 : (Lit.int .i64 a1_0).wf = true) (o1_1 : (l1_1.length ≤ maxLen ∧ ∀ x_ ∈ l1_1, (Lit.int .i64 x_).wf = true)) (o1_2 : (l1_2.length ≤ maxLen ∧ ∀ x_ ∈ l1_2, (Lit.int .i64 x_).wf = true)) (o1_3 : (l1_3.length ≤ maxLen ∧ ∀ x_ ∈ l1_3, (Lit.int .i64 x_).wf = true)) (o1_4 : (l1_4.length ≤ maxLen ∧ ∀ x_ ∈ l1_4, (Lit.int .i64 x_).wf = true)) (o1_5 : (l1_5.length ≤ maxLen ∧ ∀ x_ ∈ l1_5, okS46 x_)) :
  Calls Try.prog 4 #[.slice A0 l0.length c0, .agg #[.int .i64 a1_0, .slice A1_1 l1_1.length c1_1, .slice A1_2 l1_2.length c1_2, .slice A1_3 l1_3.length c1_3, .slice A1_4 l1_4.length c1_4, .slice A1_5 l1_5.length c1_5]] w fun e w' => e = .returned (.bool true) ∧ Below w.heap.size w w' := by
 obtain ⟨k, h⟩ := P l0 a1_0 l1_1 l1_2 l1_3 l1_4 l1_5 o0 o1_0 o1_1 o1_2 o1_3 o1_4 o1_5
 refine (laws_FnExactValidSelection.calls k _ _ l0 a1_0 _ _ l1_1 _ _ l1_2 _ _ l1_3 _ _ l1_4 _ _ l1_5 true w hr0 hc0 hr1_1 hc1_1 hr1_2 hc1_2 hr1_3 hc1_3 hr1_4 hc1_4 hr1_5 hc1_5 h).mono ?_
 rintro e w' ⟨rfl, hd⟩
 exact ⟨rfl, hd⟩

end Go.Proofs.Ytobdoafjlbifpaa.PFnExactValidSelection
