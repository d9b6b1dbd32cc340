/- Each Go function here comes to what the plain function of its name says, where that says something. Made by a program of this session, over the print. -/
import Derived.Test.YtlfjepcmlgfogaaPFnExactSelectedCountx0
import Derived.Test.YtlfjepcmlgfogaaPFnExactSelectedCountx1
import Derived.Test.YtlfjepcmlgfogaaPFnExactSelectedCountx6
import Derived.Test.YtlfjepcmlgfogaaPFnExactSelectedCountx12
import Derived.Test.YtlfjepcmlgfogaaPFnExactSelectedCountx13
namespace Go.Proofs.Ytlfjepcmlgfogaa.PFnExactSelectedCount
open Go.RowKit Go.Proofs.YtlfjepcmlgfogaaW.PrintWords Go.Proofs.YtlfjepcmlgfogaaW.PrintLast Go.Proofs.YtlfjepcmlgfogaaW.PrintMore
attribute [local go_sem] max2_int min2_int max_two min_two max_three min_three max_four min_four   -- for this text's walks alone
set_option linter.unusedVariables false
set_option linter.unusedSimpArgs false

/-! ### laws_FnExactSelectedCount: function 4 -/
mutual
def laws_FnExactSelectedCount.j0 : Nat → List Int → Int → List Int → List Int → List Int → List Int → List (S61) → Option (Bool)
 | 0, _, _, _, _, _, _, _ => none
 | k + 1, x0, x341000, x341001, x341002, x341003, x341004, x341005 => (laws_szSelection.f k x341000 x341001 x341002 x341003 x341004 x341005 1048576).bind fun t341 => (if t341 < 0 then (some true) else (laws_FnExactSelectedCount.j1 k x0 x341000 x341001 x341002 x341003 x341004 x341005))
def laws_FnExactSelectedCount.j1 : Nat → List Int → Int → List Int → List Int → List Int → List Int → List (S61) → Option (Bool)
 | 0, _, _, _, _, _, _, _ => none
 | k + 1, x0, x341000, x341001, x341002, x341003, x341004, x341005 => (laws_toInt64S.f k x0).bind fun t342 => ((laws_toSelection.f k x341000 x341001 x341002 x341003 x341004 x341005).bind fun bt345 => ((spec_SelectedCount.f k t342 bt345.1 bt345.2.1 bt345.2.2.1 bt345.2.2.2.1 bt345.2.2.2.2.1 bt345.2.2.2.2.2).bind fun t361 => (laws_FnExactSelectedCount.j2 k x0 t361 x341000 x341001 x341002 x341003 x341004 x341005)))
def laws_FnExactSelectedCount.j2 : Nat → List Int → Int → Int → List Int → List Int → List Int → List Int → List (S61) → Option (Bool)
 | 0, _, _, _, _, _, _, _, _ => none
 | k + 1, x0, x6, x341000, x341001, x341002, x341003, x341004, x341005 => (laws_toInt64S.f k x0).bind fun t362 => ((laws_toSelection.f k x341000 x341001 x341002 x341003 x341004 x341005).bind fun bt365 => ((impl_SelectedCount.f k t362 bt365.1 bt365.2.1 bt365.2.2.1 bt365.2.2.2.1 bt365.2.2.2.2.1 bt365.2.2.2.2.2).bind fun t382 => (laws_FnExactSelectedCount.j3 k x0 x6 t362 t382 x341000 x341001 x341002 x341003 x341004 x341005 bt365.1 bt365.2.1 bt365.2.2.1 bt365.2.2.2.1 bt365.2.2.2.2.1 bt365.2.2.2.2.2)))
def laws_FnExactSelectedCount.j3 : Nat → List Int → Int → List Int → Int → Int → List Int → List Int → List Int → List Int → List (S61) → Int → List Int → List Int → List Int → List Int → List (S65) → Option (Bool)
 | 0, _, _, _, _, _, _, _, _, _, _, _, _, _, _, _, _ => none
 | k + 1, x0, x6, x7, x9, x341000, x341001, x341002, x341003, x341004, x341005, x382000, x382001, x382002, x382003, x382004, x382005 => if x9 = x6 then (laws_FnExactSelectedCount.j4 k x0 x7 x341000 x341001 x341002 x341003 x341004 x341005 x382000 x382001 x382002 x382003 x382004 x382005) else (some false)
def laws_FnExactSelectedCount.j4 : Nat → List Int → List Int → Int → List Int → List Int → List Int → List Int → List (S61) → Int → List Int → List Int → List Int → List Int → List (S65) → Option (Bool)
 | 0, _, _, _, _, _, _, _, _, _, _, _, _, _, _ => none
 | k + 1, x0, x7, x341000, x341001, x341002, x341003, x341004, x341005, x382000, x382001, x382002, x382003, x382004, x382005 => (laws_toInt64S.f k x0).bind fun t383 => ((laws_eqInt64S.f k x7 t383).bind fun t386 => (if t386 = true then (laws_FnExactSelectedCount.j5 k x341000 x341001 x341002 x341003 x341004 x341005 x382000 x382001 x382002 x382003 x382004 x382005) else (some false)))
def laws_FnExactSelectedCount.j5 : Nat → Int → List Int → List Int → List Int → List Int → List (S61) → Int → List Int → List Int → List Int → List Int → List (S65) → Option (Bool)
 | 0, _, _, _, _, _, _, _, _, _, _, _, _ => none
 | k + 1, x341000, x341001, x341002, x341003, x341004, x341005, x382000, x382001, x382002, x382003, x382004, x382005 => (laws_toSelection.f k x341000 x341001 x341002 x341003 x341004 x341005).bind fun bt387 => ((laws_eqSelection.f k x382000 x382001 x382002 x382003 x382004 x382005 bt387.1 bt387.2.1 bt387.2.2.1 bt387.2.2.2.1 bt387.2.2.2.2.1 bt387.2.2.2.2.2).bind fun t403 => (if t403 = true then (some true) else (some false)))
end
def laws_FnExactSelectedCount.f (k : Nat) (l0 : List Int) (a1_0 : Int) (l1_1 : List Int) (l1_2 : List Int) (l1_3 : List Int) (l1_4 : List Int) (l1_5 : List (S61)) : Option (Bool) := if (l0.length : Int) > 1048576 then (some true) else (laws_FnExactSelectedCount.j0 k l0 a1_0 l1_1 l1_2 l1_3 l1_4 l1_5)
theorem laws_FnExactSelectedCount.mono_l : ∀ k, (∀ y0 y1 y2 y3 y4 y5 y6, LeO (laws_FnExactSelectedCount.j0 k y0 y1 y2 y3 y4 y5 y6) (laws_FnExactSelectedCount.j0 (k + 1) y0 y1 y2 y3 y4 y5 y6)) ∧ (∀ y0 y1 y2 y3 y4 y5 y6, LeO (laws_FnExactSelectedCount.j1 k y0 y1 y2 y3 y4 y5 y6) (laws_FnExactSelectedCount.j1 (k + 1) y0 y1 y2 y3 y4 y5 y6)) ∧ (∀ y0 y1 y2 y3 y4 y5 y6 y7, LeO (laws_FnExactSelectedCount.j2 k y0 y1 y2 y3 y4 y5 y6 y7) (laws_FnExactSelectedCount.j2 (k + 1) y0 y1 y2 y3 y4 y5 y6 y7)) ∧ (∀ y0 y1 y2 y3 y4 y5 y6 y7 y8 y9 y10 y11 y12 y13 y14 y15, LeO (laws_FnExactSelectedCount.j3 k y0 y1 y2 y3 y4 y5 y6 y7 y8 y9 y10 y11 y12 y13 y14 y15) (laws_FnExactSelectedCount.j3 (k + 1) y0 y1 y2 y3 y4 y5 y6 y7 y8 y9 y10 y11 y12 y13 y14 y15)) ∧ (∀ y0 y1 y2 y3 y4 y5 y6 y7 y8 y9 y10 y11 y12 y13, LeO (laws_FnExactSelectedCount.j4 k y0 y1 y2 y3 y4 y5 y6 y7 y8 y9 y10 y11 y12 y13) (laws_FnExactSelectedCount.j4 (k + 1) y0 y1 y2 y3 y4 y5 y6 y7 y8 y9 y10 y11 y12 y13)) ∧ (∀ y0 y1 y2 y3 y4 y5 y6 y7 y8 y9 y10 y11, LeO (laws_FnExactSelectedCount.j5 k y0 y1 y2 y3 y4 y5 y6 y7 y8 y9 y10 y11) (laws_FnExactSelectedCount.j5 (k + 1) y0 y1 y2 y3 y4 y5 y6 y7 y8 y9 y10 y11))
 | 0 => ⟨fun _ _ _ _ _ _ _ r h => by simp [laws_FnExactSelectedCount.j0] at h, fun _ _ _ _ _ _ _ r h => by simp [laws_FnExactSelectedCount.j1] at h, fun _ _ _ _ _ _ _ _ r h => by simp [laws_FnExactSelectedCount.j2] at h, fun _ _ _ _ _ _ _ _ _ _ _ _ _ _ _ _ r h => by simp [laws_FnExactSelectedCount.j3] at h, fun _ _ _ _ _ _ _ _ _ _ _ _ _ _ r h => by simp [laws_FnExactSelectedCount.j4] at h, fun _ _ _ _ _ _ _ _ _ _ _ _ r h => by simp [laws_FnExactSelectedCount.j5] at h⟩
 | k + 1 => by
  obtain ⟨ih0, ih1, ih2, ih3, ih4, ih5⟩ := laws_FnExactSelectedCount.mono_l k
  refine ⟨?_, ?_, ?_, ?_, ?_, ?_⟩
  ·
   intro y0 y1 y2 y3 y4 y5 y6
   unfold laws_FnExactSelectedCount.j0
   repeat' first
   | (with_reducible exact ih0 _ _ _ _ _ _ _)
   | (with_reducible exact ih1 _ _ _ _ _ _ _)
   | (with_reducible exact ih2 _ _ _ _ _ _ _ _)
   | (with_reducible exact ih3 _ _ _ _ _ _ _ _ _ _ _ _ _ _ _ _)
   | (with_reducible exact ih4 _ _ _ _ _ _ _ _ _ _ _ _ _ _)
   | (with_reducible exact ih5 _ _ _ _ _ _ _ _ _ _ _ _)
   | (with_reducible exact impl_SelectedCount.mono _ _ _ _ _ _ _ _)
   | (with_reducible exact laws_eqInt64S.mono _ _ _)
   | (with_reducible exact laws_eqSelection.mono _ _ _ _ _ _ _ _ _ _ _ _ _)
   | (with_reducible exact laws_szSelection.mono _ _ _ _ _ _ _ _)
   | (with_reducible exact laws_toInt64S.mono _ _)
   | (with_reducible exact laws_toSelection.mono _ _ _ _ _ _ _)
   | (with_reducible exact spec_SelectedCount.mono _ _ _ _ _ _ _ _)
   | (with_reducible exact LeO.refl _)
   | (with_reducible exact LeO.none _)
   | (with_reducible refine LeO.ite ?_ ?_)
   | (with_reducible refine LeO.bind ?_ (fun _ => ?_))
   | exact ih0 _ _ _ _ _ _ _
   | exact ih1 _ _ _ _ _ _ _
   | exact ih2 _ _ _ _ _ _ _ _
   | exact ih3 _ _ _ _ _ _ _ _ _ _ _ _ _ _ _ _
   | exact ih4 _ _ _ _ _ _ _ _ _ _ _ _ _ _
   | exact ih5 _ _ _ _ _ _ _ _ _ _ _ _
   | exact impl_SelectedCount.mono _ _ _ _ _ _ _ _
   | exact laws_eqInt64S.mono _ _ _
   | exact laws_eqSelection.mono _ _ _ _ _ _ _ _ _ _ _ _ _
   | exact laws_szSelection.mono _ _ _ _ _ _ _ _
   | exact laws_toInt64S.mono _ _
   | exact laws_toSelection.mono _ _ _ _ _ _ _
   | exact spec_SelectedCount.mono _ _ _ _ _ _ _ _
   | exact LeO.none _
   | refine LeO.ite ?_ ?_
   | refine LeO.bind ?_ (fun _ => ?_)
  ·
   intro y0 y1 y2 y3 y4 y5 y6
   unfold laws_FnExactSelectedCount.j1
   repeat' first
   | (with_reducible exact ih0 _ _ _ _ _ _ _)
   | (with_reducible exact ih1 _ _ _ _ _ _ _)
   | (with_reducible exact ih2 _ _ _ _ _ _ _ _)
   | (with_reducible exact ih3 _ _ _ _ _ _ _ _ _ _ _ _ _ _ _ _)
   | (with_reducible exact ih4 _ _ _ _ _ _ _ _ _ _ _ _ _ _)
   | (with_reducible exact ih5 _ _ _ _ _ _ _ _ _ _ _ _)
   | (with_reducible exact impl_SelectedCount.mono _ _ _ _ _ _ _ _)
   | (with_reducible exact laws_eqInt64S.mono _ _ _)
   | (with_reducible exact laws_eqSelection.mono _ _ _ _ _ _ _ _ _ _ _ _ _)
   | (with_reducible exact laws_szSelection.mono _ _ _ _ _ _ _ _)
   | (with_reducible exact laws_toInt64S.mono _ _)
   | (with_reducible exact laws_toSelection.mono _ _ _ _ _ _ _)
   | (with_reducible exact spec_SelectedCount.mono _ _ _ _ _ _ _ _)
   | (with_reducible exact LeO.refl _)
   | (with_reducible exact LeO.none _)
   | (with_reducible refine LeO.ite ?_ ?_)
   | (with_reducible refine LeO.bind ?_ (fun _ => ?_))
   | exact ih0 _ _ _ _ _ _ _
   | exact ih1 _ _ _ _ _ _ _
   | exact ih2 _ _ _ _ _ _ _ _
   | exact ih3 _ _ _ _ _ _ _ _ _ _ _ _ _ _ _ _
   | exact ih4 _ _ _ _ _ _ _ _ _ _ _ _ _ _
   | exact ih5 _ _ _ _ _ _ _ _ _ _ _ _
   | exact impl_SelectedCount.mono _ _ _ _ _ _ _ _
   | exact laws_eqInt64S.mono _ _ _
   | exact laws_eqSelection.mono _ _ _ _ _ _ _ _ _ _ _ _ _
   | exact laws_szSelection.mono _ _ _ _ _ _ _ _
   | exact laws_toInt64S.mono _ _
   | exact laws_toSelection.mono _ _ _ _ _ _ _
   | exact spec_SelectedCount.mono _ _ _ _ _ _ _ _
   | exact LeO.none _
   | refine LeO.ite ?_ ?_
   | refine LeO.bind ?_ (fun _ => ?_)
  ·
   intro y0 y1 y2 y3 y4 y5 y6 y7
   unfold laws_FnExactSelectedCount.j2
   repeat' first
   | (with_reducible exact ih0 _ _ _ _ _ _ _)
   | (with_reducible exact ih1 _ _ _ _ _ _ _)
   | (with_reducible exact ih2 _ _ _ _ _ _ _ _)
   | (with_reducible exact ih3 _ _ _ _ _ _ _ _ _ _ _ _ _ _ _ _)
   | (with_reducible exact ih4 _ _ _ _ _ _ _ _ _ _ _ _ _ _)
   | (with_reducible exact ih5 _ _ _ _ _ _ _ _ _ _ _ _)
   | (with_reducible exact impl_SelectedCount.mono _ _ _ _ _ _ _ _)
   | (with_reducible exact laws_eqInt64S.mono _ _ _)
   | (with_reducible exact laws_eqSelection.mono _ _ _ _ _ _ _ _ _ _ _ _ _)
   | (with_reducible exact laws_szSelection.mono _ _ _ _ _ _ _ _)
   | (with_reducible exact laws_toInt64S.mono _ _)
   | (with_reducible exact laws_toSelection.mono _ _ _ _ _ _ _)
   | (with_reducible exact spec_SelectedCount.mono _ _ _ _ _ _ _ _)
   | (with_reducible exact LeO.refl _)
   | (with_reducible exact LeO.none _)
   | (with_reducible refine LeO.ite ?_ ?_)
   | (with_reducible refine LeO.bind ?_ (fun _ => ?_))
   | exact ih0 _ _ _ _ _ _ _
   | exact ih1 _ _ _ _ _ _ _
   | exact ih2 _ _ _ _ _ _ _ _
   | exact ih3 _ _ _ _ _ _ _ _ _ _ _ _ _ _ _ _
   | exact ih4 _ _ _ _ _ _ _ _ _ _ _ _ _ _
   | exact ih5 _ _ _ _ _ _ _ _ _ _ _ _
   | exact impl_SelectedCount.mono _ _ _ _ _ _ _ _
   | exact laws_eqInt64S.mono _ _ _
   | exact laws_eqSelection.mono _ _ _ _ _ _ _ _ _ _ _ _ _
   | exact laws_szSelection.mono _ _ _ _ _ _ _ _
   | exact laws_toInt64S.mono _ _
   | exact laws_toSelection.mono _ _ _ _ _ _ _
   | exact spec_SelectedCount.mono _ _ _ _ _ _ _ _
   | exact LeO.none _
   | refine LeO.ite ?_ ?_
   | refine LeO.bind ?_ (fun _ => ?_)
  ·
   intro y0 y1 y2 y3 y4 y5 y6 y7 y8 y9 y10 y11 y12 y13 y14 y15
   unfold laws_FnExactSelectedCount.j3
   repeat' first
   | (with_reducible exact ih0 _ _ _ _ _ _ _)
   | (with_reducible exact ih1 _ _ _ _ _ _ _)
   | (with_reducible exact ih2 _ _ _ _ _ _ _ _)
   | (with_reducible exact ih3 _ _ _ _ _ _ _ _ _ _ _ _ _ _ _ _)
   | (with_reducible exact ih4 _ _ _ _ _ _ _ _ _ _ _ _ _ _)
   | (with_reducible exact ih5 _ _ _ _ _ _ _ _ _ _ _ _)
   | (with_reducible exact impl_SelectedCount.mono _ _ _ _ _ _ _ _)
   | (with_reducible exact laws_eqInt64S.mono _ _ _)
   | (with_reducible exact laws_eqSelection.mono _ _ _ _ _ _ _ _ _ _ _ _ _)
   | (with_reducible exact laws_szSelection.mono _ _ _ _ _ _ _ _)
   | (with_reducible exact laws_toInt64S.mono _ _)
   | (with_reducible exact laws_toSelection.mono _ _ _ _ _ _ _)
   | (with_reducible exact spec_SelectedCount.mono _ _ _ _ _ _ _ _)
   | (with_reducible exact LeO.refl _)
   | (with_reducible exact LeO.none _)
   | (with_reducible refine LeO.ite ?_ ?_)
   | (with_reducible refine LeO.bind ?_ (fun _ => ?_))
   | exact ih0 _ _ _ _ _ _ _
   | exact ih1 _ _ _ _ _ _ _
   | exact ih2 _ _ _ _ _ _ _ _
   | exact ih3 _ _ _ _ _ _ _ _ _ _ _ _ _ _ _ _
   | exact ih4 _ _ _ _ _ _ _ _ _ _ _ _ _ _
   | exact ih5 _ _ _ _ _ _ _ _ _ _ _ _
   | exact impl_SelectedCount.mono _ _ _ _ _ _ _ _
   | exact laws_eqInt64S.mono _ _ _
   | exact laws_eqSelection.mono _ _ _ _ _ _ _ _ _ _ _ _ _
   | exact laws_szSelection.mono _ _ _ _ _ _ _ _
   | exact laws_toInt64S.mono _ _
   | exact laws_toSelection.mono _ _ _ _ _ _ _
   | exact spec_SelectedCount.mono _ _ _ _ _ _ _ _
   | exact LeO.none _
   | refine LeO.ite ?_ ?_
   | refine LeO.bind ?_ (fun _ => ?_)
  ·
   intro y0 y1 y2 y3 y4 y5 y6 y7 y8 y9 y10 y11 y12 y13
   unfold laws_FnExactSelectedCount.j4
   repeat' first
   | (with_reducible exact ih0 _ _ _ _ _ _ _)
   | (with_reducible exact ih1 _ _ _ _ _ _ _)
   | (with_reducible exact ih2 _ _ _ _ _ _ _ _)
   | (with_reducible exact ih3 _ _ _ _ _ _ _ _ _ _ _ _ _ _ _ _)
   | (with_reducible exact ih4 _ _ _ _ _ _ _ _ _ _ _ _ _ _)
   | (with_reducible exact ih5 _ _ _ _ _ _ _ _ _ _ _ _)
   | (with_reducible exact impl_SelectedCount.mono _ _ _ _ _ _ _ _)
   | (with_reducible exact laws_eqInt64S.mono _ _ _)
   | (with_reducible exact laws_eqSelection.mono _ _ _ _ _ _ _ _ _ _ _ _ _)
   | (with_reducible exact laws_szSelection.mono _ _ _ _ _ _ _ _)
   | (with_reducible exact laws_toInt64S.mono _ _)
   | (with_reducible exact laws_toSelection.mono _ _ _ _ _ _ _)
   | (with_reducible exact spec_SelectedCount.mono _ _ _ _ _ _ _ _)
   | (with_reducible exact LeO.refl _)
   | (with_reducible exact LeO.none _)
   | (with_reducible refine LeO.ite ?_ ?_)
   | (with_reducible refine LeO.bind ?_ (fun _ => ?_))
   | exact ih0 _ _ _ _ _ _ _
   | exact ih1 _ _ _ _ _ _ _
   | exact ih2 _ _ _ _ _ _ _ _
   | exact ih3 _ _ _ _ _ _ _ _ _ _ _ _ _ _ _ _
   | exact ih4 _ _ _ _ _ _ _ _ _ _ _ _ _ _
   | exact ih5 _ _ _ _ _ _ _ _ _ _ _ _
   | exact impl_SelectedCount.mono _ _ _ _ _ _ _ _
   | exact laws_eqInt64S.mono _ _ _
   | exact laws_eqSelection.mono _ _ _ _ _ _ _ _ _ _ _ _ _
   | exact laws_szSelection.mono _ _ _ _ _ _ _ _
   | exact laws_toInt64S.mono _ _
   | exact laws_toSelection.mono _ _ _ _ _ _ _
   | exact spec_SelectedCount.mono _ _ _ _ _ _ _ _
   | exact LeO.none _
   | refine LeO.ite ?_ ?_
   | refine LeO.bind ?_ (fun _ => ?_)
  ·
   intro y0 y1 y2 y3 y4 y5 y6 y7 y8 y9 y10 y11
   unfold laws_FnExactSelectedCount.j5
   repeat' first
   | (with_reducible exact ih0 _ _ _ _ _ _ _)
   | (with_reducible exact ih1 _ _ _ _ _ _ _)
   | (with_reducible exact ih2 _ _ _ _ _ _ _ _)
   | (with_reducible exact ih3 _ _ _ _ _ _ _ _ _ _ _ _ _ _ _ _)
   | (with_reducible exact ih4 _ _ _ _ _ _ _ _ _ _ _ _ _ _)
   | (with_reducible exact ih5 _ _ _ _ _ _ _ _ _ _ _ _)
   | (with_reducible exact impl_SelectedCount.mono _ _ _ _ _ _ _ _)
   | (with_reducible exact laws_eqInt64S.mono _ _ _)
   | (with_reducible exact laws_eqSelection.mono _ _ _ _ _ _ _ _ _ _ _ _ _)
   | (with_reducible exact laws_szSelection.mono _ _ _ _ _ _ _ _)
   | (with_reducible exact laws_toInt64S.mono _ _)
   | (with_reducible exact laws_toSelection.mono _ _ _ _ _ _ _)
   | (with_reducible exact spec_SelectedCount.mono _ _ _ _ _ _ _ _)
   | (with_reducible exact LeO.refl _)
   | (with_reducible exact LeO.none _)
   | (with_reducible refine LeO.ite ?_ ?_)
   | (with_reducible refine LeO.bind ?_ (fun _ => ?_))
   | exact ih0 _ _ _ _ _ _ _
   | exact ih1 _ _ _ _ _ _ _
   | exact ih2 _ _ _ _ _ _ _ _
   | exact ih3 _ _ _ _ _ _ _ _ _ _ _ _ _ _ _ _
   | exact ih4 _ _ _ _ _ _ _ _ _ _ _ _ _ _
   | exact ih5 _ _ _ _ _ _ _ _ _ _ _ _
   | exact impl_SelectedCount.mono _ _ _ _ _ _ _ _
   | exact laws_eqInt64S.mono _ _ _
   | exact laws_eqSelection.mono _ _ _ _ _ _ _ _ _ _ _ _ _
   | exact laws_szSelection.mono _ _ _ _ _ _ _ _
   | exact laws_toInt64S.mono _ _
   | exact laws_toSelection.mono _ _ _ _ _ _ _
   | exact spec_SelectedCount.mono _ _ _ _ _ _ _ _
   | exact LeO.none _
   | refine LeO.ite ?_ ?_
   | refine LeO.bind ?_ (fun _ => ?_)
theorem laws_FnExactSelectedCount.mono : ∀ a0 a1 a2 a3 a4 a5 a6 k, LeO (laws_FnExactSelectedCount.f k a0 a1 a2 a3 a4 a5 a6) (laws_FnExactSelectedCount.f (k + 1) a0 a1 a2 a3 a4 a5 a6) := by
 intro a0 a1 a2 a3 a4 a5 a6 k
 obtain ⟨ih0, ih1, ih2, ih3, ih4, ih5⟩ := laws_FnExactSelectedCount.mono_l k
 unfold laws_FnExactSelectedCount.f
 repeat' first
   | (with_reducible exact ih0 _ _ _ _ _ _ _)
   | (with_reducible exact ih1 _ _ _ _ _ _ _)
   | (with_reducible exact ih2 _ _ _ _ _ _ _ _)
   | (with_reducible exact ih3 _ _ _ _ _ _ _ _ _ _ _ _ _ _ _ _)
   | (with_reducible exact ih4 _ _ _ _ _ _ _ _ _ _ _ _ _ _)
   | (with_reducible exact ih5 _ _ _ _ _ _ _ _ _ _ _ _)
   | (with_reducible exact impl_SelectedCount.mono _ _ _ _ _ _ _ _)
   | (with_reducible exact laws_eqInt64S.mono _ _ _)
   | (with_reducible exact laws_eqSelection.mono _ _ _ _ _ _ _ _ _ _ _ _ _)
   | (with_reducible exact laws_szSelection.mono _ _ _ _ _ _ _ _)
   | (with_reducible exact laws_toInt64S.mono _ _)
   | (with_reducible exact laws_toSelection.mono _ _ _ _ _ _ _)
   | (with_reducible exact spec_SelectedCount.mono _ _ _ _ _ _ _ _)
   | (with_reducible exact LeO.refl _)
   | (with_reducible exact LeO.none _)
   | (with_reducible refine LeO.ite ?_ ?_)
   | (with_reducible refine LeO.bind ?_ (fun _ => ?_))
   | exact ih0 _ _ _ _ _ _ _
   | exact ih1 _ _ _ _ _ _ _
   | exact ih2 _ _ _ _ _ _ _ _
   | exact ih3 _ _ _ _ _ _ _ _ _ _ _ _ _ _ _ _
   | exact ih4 _ _ _ _ _ _ _ _ _ _ _ _ _ _
   | exact ih5 _ _ _ _ _ _ _ _ _ _ _ _
   | exact impl_SelectedCount.mono _ _ _ _ _ _ _ _
   | exact laws_eqInt64S.mono _ _ _
   | exact laws_eqSelection.mono _ _ _ _ _ _ _ _ _ _ _ _ _
   | exact laws_szSelection.mono _ _ _ _ _ _ _ _
   | exact laws_toInt64S.mono _ _
   | exact laws_toSelection.mono _ _ _ _ _ _ _
   | exact spec_SelectedCount.mono _ _ _ _ _ _ _ _
   | exact LeO.none _
   | refine LeO.ite ?_ ?_
   | refine LeO.bind ?_ (fun _ => ?_)
set_option maxHeartbeats 8000000 in
set_option maxRecDepth 100000 in
theorem laws_FnExactSelectedCount.calls (k : Nat) (A0 : Option Addr) (c0 : Nat) (l0 : List Int) (a1_0 : Int) (A1_1 : Option Addr) (c1_1 : Nat) (l1_1 : List Int) (A1_2 : Option Addr) (c1_2 : Nat) (l1_2 : List Int) (A1_3 : Option Addr) (c1_3 : Nat) (l1_3 : List Int) (A1_4 : Option Addr) (c1_4 : Nat) (l1_4 : List Int) (A1_5 : Option Addr) (c1_5 : Nat) (l1_5 : List (S61)) (r : Bool) (w : World) (hr0 : Kd.C (Kd.int .i64) w A0 l0.length l0) (hc0 : l0.length ≤ c0) (hr1_1 : Kd.C (Kd.int .i64) w A1_1 l1_1.length l1_1) (hc1_1 : l1_1.length ≤ c1_1) (hr1_2 : Kd.C (Kd.int .i64) w A1_2 l1_2.length l1_2) (hc1_2 : l1_2.length ≤ c1_2) (hr1_3 : Kd.C (Kd.int .i64) w A1_3 l1_3.length l1_3) (hc1_3 : l1_3.length ≤ c1_3) (hr1_4 : Kd.C (Kd.int .i64) w A1_4 l1_4.length l1_4) (hc1_4 : l1_4.length ≤ c1_4) (hr1_5 : Kd.C k61 w A1_5 l1_5.length l1_5) (hc1_5 : l1_5.length ≤ c1_5) (h : laws_FnExactSelectedCount.f k l0 a1_0 l1_1 l1_2 l1_3 l1_4 l1_5 = some r) :
  Calls Try.prog 4 #[.slice A0 l0.length c0, .agg #[.int .i64 a1_0, .slice A1_1 l1_1.length c1_1, .slice A1_2 l1_2.length c1_2, .slice A1_3 l1_3.length c1_3, .slice A1_4 l1_4.length c1_4, .slice A1_5 l1_5.length c1_5]] w fun e w' => e = .returned (.bool r) ∧ Below w.heap.size w w' := by
 have hu35 := Try.underlying35; have hu41 := Try.underlying41
 have HR0 := yD hr0
 have HC0 := yD hc0
 clear hr0 hc0
 have HR1_1 := yD hr1_1
 have HC1_1 := yD hc1_1
 clear hr1_1 hc1_1
 have HR1_2 := yD hr1_2
 have HC1_2 := yD hc1_2
 clear hr1_2 hc1_2
 have HR1_3 := yD hr1_3
 have HC1_3 := yD hc1_3
 clear hr1_3 hc1_3
 have HR1_4 := yD hr1_4
 have HC1_4 := yD hc1_4
 clear hr1_4 hc1_4
 have HR1_5 := yD hr1_5
 have HC1_5 := yD hc1_5
 clear hr1_5 hc1_5
 have HB := yD (Below.refl w.heap.size w)
 have H : (if (l0.length : Int) > 1048576 then (some true) else (laws_FnExactSelectedCount.j0 k l0 a1_0 l1_1 l1_2 l1_3 l1_4 l1_5)) = some r := h
 clear h
 have HC3 := yD H
 clear H; go_enter Try.func4, Try.ntmps4
 go_upto_if 12 with (first | ((with_reducible refine gate_dst (N := 3) rfl ?_); refine box_event ?hg (N := 3) ?hd (cs := #[.int .i64 a1_0, .slice A1_1 l1_1.length c1_1, .slice A1_2 l1_2.length c1_2, .slice A1_3 l1_3.length c1_3, .slice A1_4 l1_4.length c1_4, .slice A1_5 l1_5.length c1_5]) (t := 35) ?hr ?_; (case hd => rfl); (case hg => rfl); (case hr => first | (go_simp; done) | (go_simp; rfl)); intro gb340 hg w4 hbox hb; have n0_ := yD (zC (kB HB) hb); have n1_ := yD (hbox); have n2_ := yD ((by rw [hg]; exact (below_size (kB HB)) : w.heap.size ≤ gb340)); have n3_ := yD ((by rw [hg]; exact (below_size (kB HB)) : w.heap.size ≤ gb340)); clear HB; have HB := n0_; have BK340 := n1_; have GW340 := n2_; have GE340 := n3_; clear n0_ n1_ n2_ n3_; clear hb hbox hg))
 (try simp only [Act.put, zH, zI, zJ])
 go_cut [] (fun wc => ∃ (kq : Nat), Aside0 (laws_FnExactSelectedCount.j0 kq l0 a1_0 l1_1 l1_2 l1_3 l1_4 l1_5 = some r) ∧ Aside0 (kq ≤ k) ∧ Aside0 (wc.heap[gb340]? = some (.cells #[.int .i64 a1_0, (.slice A1_1 l1_1.length c1_1), (.slice A1_2 l1_2.length c1_2), (.slice A1_3 l1_3.length c1_3), (.slice A1_4 l1_4.length c1_4), (.slice A1_5 l1_5.length c1_5)] 35 (0, 0))) ∧ Aside0 (Below w.heap.size w wc))
 case first =>
  have H := HC3.out; clear HC3
  by_cases c5 : (l0.length : Int) > 1048576
  ·
   rw [if_pos c5] at H; have c5b0 : decide (1048576 < (l0.length : Int)) = true := zR c5
   have c5b1 : decide (1048576 < l0.length) = true := zR (by omega)
   clear c5
   (first | rw [c5b0] | (simp only [i64_w, i32_w]; rw [c5b0]) | (simp only [bne] at c5b0; rw [c5b0]) | skip)
   obtain rfl := Option.some.inj H
   go_wp2
   go_ret
   exact ⟨by first | rfl | (simp <;> rfl) | (simp [*] <;> rfl), by repeat (first | (with_reducible first | exact HB.out | apply yQ | apply yL | apply yP | refine yE ?_ GE340.out) | exact HB.out)⟩
  ·
   rw [if_neg c5] at H; have c5b0 : decide (1048576 < (l0.length : Int)) = false := zS c5
   have c5b1 : decide (1048576 < l0.length) = false := zS (by omega)
   clear c5
   (first | rw [c5b0] | (simp only [i64_w, i32_w]; rw [c5b0]) | (simp only [bne] at c5b0; rw [c5b0]) | skip)
   have H' := yD H
   clear H
   go_wp2
   go_meet
   case rel => exact ⟨_, H', ⟨by first | omega | exact Nat.le_refl _⟩, ⟨by (with_reducible repeat (first | refine yM ?_ _ | refine yO ?_ | refine yN ?_ _)); exact BK340.out⟩, ⟨by repeat (first | (with_reducible first | exact HB.out | apply yQ | apply yL | apply yP | refine yE ?_ GE340.out) | exact HB.out)⟩⟩
 case rest =>
  clear HC3; try clear c1; try clear p2; try clear c4; try clear c5; try clear c5b0; try clear c5b1
  obtain ⟨kq, HA, HJ2, BK340, HB⟩ := hcut
  cases kq with
  | zero => exact absurd HA.out (by simp [laws_FnExactSelectedCount.j0])
  | succ kj2 =>
   have H := HA.out; clear HA
   simp only [laws_FnExactSelectedCount.j0] at H
   obtain ⟨t341, A60, H⟩ := zW_ H
   replace H : (if t341 < 0 then (some true) else (laws_FnExactSelectedCount.j1 kj2 l0 a1_0 l1_1 l1_2 l1_3 l1_4 l1_5)) = some r := H
   have A6 := yD A60
   clear A60
   have HC7 := yD H
   clear H
   obtain ⟨hcz8_0, hcz8_1, hcz8_2, hcz8_3, hcz8_4, hcz8_5⟩ := cz6 BK340.out
   obtain ⟨hfz8_0, hfz8_1, hfz8_2, hfz8_3, hfz8_4, hfz8_5⟩ := fz6 BK340.out
   go_upto_if 17 with (first | ((with_reducible refine gate_callee (f := 13) rfl ?_); refine goesL_ (some 15) rfl rfl Try.func13 (by kernel_rfl) rfl #[.agg #[.int .i64 a1_0, .slice A1_1 l1_1.length c1_1, .slice A1_2 l1_2.length c1_2, .slice A1_3 l1_3.length c1_3, .slice A1_4 l1_4.length c1_4, .slice A1_5 l1_5.length c1_5], .int .i64 1048576] rfl (by (try simp only [zK, zL, zM]); first | done | rfl | (simp only [zN, zO]; rfl)) ?_; (with_reducible refine (laws_szSelection.calls kj2 a1_0 _ _ l1_1 _ _ l1_2 _ _ l1_3 _ _ l1_4 _ _ l1_5 1048576 t341 _ ?side1 ?side2 ?side3 ?side4 ?side5 ?side6 ?side7 ?side8 ?side9 ?side10 A6.out).mono ?_); (case side1 => repeat (first | exact (yY HR1_1.out HB.out) | (with_reducible first | refine yV ?_ _ | refine yW ?_ _ | refine yX ?_))); (case side2 => exact HC1_1.out); (case side3 => repeat (first | exact (yY HR1_2.out HB.out) | (with_reducible first | refine yV ?_ _ | refine yW ?_ _ | refine yX ?_))); (case side4 => exact HC1_2.out); (case side5 => repeat (first | exact (yY HR1_3.out HB.out) | (with_reducible first | refine yV ?_ _ | refine yW ?_ _ | refine yX ?_))); (case side6 => exact HC1_3.out); (case side7 => repeat (first | exact (yY HR1_4.out HB.out) | (with_reducible first | refine yV ?_ _ | refine yW ?_ _ | refine yX ?_))); (case side8 => exact HC1_4.out); (case side9 => repeat (first | exact (yY HR1_5.out HB.out) | (with_reducible first | refine yV ?_ _ | refine yW ?_ _ | refine yX ?_))); (case side10 => exact HC1_5.out); rintro e w9 ⟨rfl, hb⟩; refine ⟨_, rfl, ?_⟩; have n0_ := yD (zB (g := gb340) (o := .cells #[.int .i64 a1_0, .slice A1_1 l1_1.length c1_1, .slice A1_2 l1_2.length c1_2, .slice A1_3 l1_3.length c1_3, .slice A1_4 l1_4.length c1_4, .slice A1_5 l1_5.length c1_5] 35 (0, 0)) (kM BK340) hb); have n1_ := yD (zC (kB HB) hb); clear BK340; clear HB; have BK340 := n0_; have HB := n1_; clear n0_ n1_; (try clear hb); (try clear hb2); (try clear hk); (try clear hi)))
   (try simp only [Act.put, zH, zI, zJ])
   go_cut [] (fun wc => ∃ (kq : Nat), Aside0 (laws_FnExactSelectedCount.j1 kq l0 a1_0 l1_1 l1_2 l1_3 l1_4 l1_5 = some r) ∧ Aside0 (kq ≤ kj2) ∧ Aside0 (wc.heap[gb340]? = some (.cells #[.int .i64 a1_0, (.slice A1_1 l1_1.length c1_1), (.slice A1_2 l1_2.length c1_2), (.slice A1_3 l1_3.length c1_3), (.slice A1_4 l1_4.length c1_4), (.slice A1_5 l1_5.length c1_5)] 35 (0, 0))) ∧ Aside0 (Below w.heap.size w wc))
   case first =>
    have H := HC7.out; clear HC7
    by_cases c10 : t341 < 0
    ·
     rw [if_pos c10] at H; have c10b0 : decide (t341 < 0) = true := zR c10; clear c10
     (first | rw [c10b0] | (simp only [i64_w, i32_w]; rw [c10b0]) | (simp only [bne] at c10b0; rw [c10b0]) | skip)
     obtain rfl := Option.some.inj H
     go_wp2
     go_ret
     exact ⟨by first | rfl | (simp <;> rfl) | (simp [*] <;> rfl), by repeat (first | (with_reducible first | exact HB.out | apply yQ | apply yL | apply yP | refine yE ?_ GE340.out) | exact HB.out)⟩
    ·
     rw [if_neg c10] at H; have c10b0 : decide (t341 < 0) = false := zS c10; clear c10
     (first | rw [c10b0] | (simp only [i64_w, i32_w]; rw [c10b0]) | (simp only [bne] at c10b0; rw [c10b0]) | skip)
     have H' := yD H
     clear H
     go_wp2
     go_meet
     case rel => exact ⟨_, H', ⟨by have := HJ2.out; first | omega | exact Nat.le_refl _⟩, ⟨by (with_reducible repeat (first | refine yM ?_ _ | refine yO ?_ | refine yN ?_ _)); exact BK340.out⟩, ⟨by repeat (first | (with_reducible first | exact HB.out | apply yQ | apply yL | apply yP | refine yE ?_ GE340.out) | exact HB.out)⟩⟩
   case rest =>
    clear HC7; try clear c1; try clear p2; try clear c4; try clear c5; try clear c5b0; try clear c5b1; try clear c10; try clear c10b0; try clear hcz8_0; try clear hcz8_1; try clear hcz8_2; try clear hcz8_3; try clear hcz8_4; try clear hcz8_5; try clear hfz8_0; try clear hfz8_1; try clear hfz8_2; try clear hfz8_3; try clear hfz8_4; try clear hfz8_5; try clear p2
    obtain ⟨kq, HA, HJ6, BK340, HB⟩ := hcut
    cases kq with
    | zero => exact absurd HA.out (by simp [laws_FnExactSelectedCount.j1])
    | succ kj6 =>
     have H := HA.out; clear HA
     simp only [laws_FnExactSelectedCount.j1] at H
     have HC11 := yD H
     clear H
     go_upto_region 7 with (fail)
     go_cut [6] (fun v6 wc => ∃ (kq : Nat) (x6_10 : Int), v6 = .int .i64 x6_10 ∧ Aside0 (laws_FnExactSelectedCount.j2 kq l0 x6_10 a1_0 l1_1 l1_2 l1_3 l1_4 l1_5 = some r) ∧ Aside0 (kq ≤ kj6) ∧ Aside0 (wc.heap[gb340]? = some (.cells #[.int .i64 a1_0, (.slice A1_1 l1_1.length c1_1), (.slice A1_2 l1_2.length c1_2), (.slice A1_3 l1_3.length c1_3), (.slice A1_4 l1_4.length c1_4), (.slice A1_5 l1_5.length c1_5)] 35 (0, 0))) ∧ Aside0 (Below w.heap.size w wc))
     case first =>
      have H := HC11.out; clear HC11
      obtain ⟨t342, A120, H⟩ := zW_ H
      replace H : ((laws_toSelection.f kj6 a1_0 l1_1 l1_2 l1_3 l1_4 l1_5).bind fun bt345 => ((spec_SelectedCount.f kj6 t342 bt345.1 bt345.2.1 bt345.2.2.1 bt345.2.2.2.1 bt345.2.2.2.2.1 bt345.2.2.2.2.2).bind fun t361 => (laws_FnExactSelectedCount.j2 kj6 l0 t361 a1_0 l1_1 l1_2 l1_3 l1_4 l1_5))) = some r := H
      have A12 := yD A120
      clear A120
      obtain ⟨⟨t345, t346, t349, t352, t355, t358⟩, A130, H⟩ := zW_ H
      replace H : ((spec_SelectedCount.f kj6 t342 t345 t346 t349 t352 t355 t358).bind fun t361 => (laws_FnExactSelectedCount.j2 kj6 l0 t361 a1_0 l1_1 l1_2 l1_3 l1_4 l1_5)) = some r := H
      have A13 := yD A130
      clear A130
      obtain ⟨t361, A140, H⟩ := zW_ H
      replace H : (laws_FnExactSelectedCount.j2 kj6 l0 t361 a1_0 l1_1 l1_2 l1_3 l1_4 l1_5) = some r := H
      have A14 := yD A140
      clear A140
      have H' := yD H
      clear H
      try go_wp2
      have n0_ := yD (yO BK340.out)
      have n1_ := yD (yP HB.out)
      clear BK340 HB; have BK340 := n0_; have HB := n1_; clear n0_ n1_
      refine start_ (n := 6) (S := fun w' => w'.cell? ⟨gb340, 0, none⟩ = some (.int .i64 a1_0) ∧ w'.cell? ⟨gb340, 1, none⟩ = some (.slice A1_1 l1_1.length c1_1) ∧ w'.cell? ⟨gb340, 2, none⟩ = some (.slice A1_2 l1_2.length c1_2) ∧ w'.cell? ⟨gb340, 3, none⟩ = some (.slice A1_3 l1_3.length c1_3) ∧ w'.cell? ⟨gb340, 4, none⟩ = some (.slice A1_4 l1_4.length c1_4) ∧ w'.cell? ⟨gb340, 5, none⟩ = some (.slice A1_5 l1_5.length c1_5)) (ds := []) (bz 6 0) (by kernel_rfl) rfl rfl ⟨(yG BK340.out 0).trans rfl, (yG BK340.out 1).trans rfl, (yG BK340.out 2).trans rfl, (yG BK340.out 3).trans rfl, (yG BK340.out 4).trans rfl, (yG BK340.out 5).trans rfl⟩ (fun hHeld => ?_)
      generalize wc.drew = w15 at BK340 HB hHeld ⊢
      refine pA 0 18 (bz 6 1) rfl rfl (by kernel_rfl) (fun _ _ _ h => h) (by rfl) (fun _ => by go_simp; with_reducible rfl) (by simp only [Act.put, zH, zI, zJ, i64_w, i32_w]; rfl) ?_
      refine pC 2 20 (bz 6 5) rfl rfl (by kernel_rfl) (fun _ _ _ h => h) (by rfl) hHeld (by rintro w' ⟨s0, s1, s2, s3, s4, s5⟩; go_simp; with_reducible rfl) (by simp only [Act.put, zH, zI, zJ, i64_w, i32_w]; rfl) ?_
      refine one_ (i := 1) (N := some 19) (bz 6 7) rfl rfl (by kernel_rfl) (by decide) (fun K hK => ?_)
      refine goes_ Try.func15 (by kernel_rfl) rfl #[.slice A0 l0.length c0] (by rfl) rfl rfl (by (try simp only [zK, zL, zM]); first | done | rfl | (simp only [zN, zO]; rfl)) ?_
      with_reducible refine (laws_toInt64S.calls kj6 _ _ l0 t342 _ ?side1 ?side2 A12.out).mono ?_
      (case side1 => repeat (first | exact (yY HR0.out HB.out) | (with_reducible first | refine yV ?_ _ | refine yW ?_ _ | refine yX ?_)))
      (case side2 => exact HC0.out)
      rintro e w16 ⟨v343, rfl, ho0, hb⟩
      refine ⟨_, rfl, ?_⟩
      have n0_ := yD (yZ ho0 (below_size (kB HB)))
      have n1_ := yD (zB (g := gb340) (o := .cells #[.int .i64 a1_0, .slice A1_1 l1_1.length c1_1, .slice A1_2 l1_2.length c1_2, .slice A1_3 l1_3.length c1_3, .slice A1_4 l1_4.length c1_4, .slice A1_5 l1_5.length c1_5] 35 (0, 0)) (kM BK340) hb)
      have n2_ := yD (zC (kB HB) hb)
      clear BK340 HB; have HO344 := n0_; have BK340 := n1_; have HB := n2_; clear n0_ n1_ n2_; (try clear hb); (try clear hb2); (try clear hk); (try clear hi); (try clear ho0)
      refine hK.out _ _ ⟨(yG BK340.out 0).trans rfl, (yG BK340.out 1).trans rfl, (yG BK340.out 2).trans rfl, (yG BK340.out 3).trans rfl, (yG BK340.out 4).trans rfl, (yG BK340.out 5).trans rfl⟩ (fun hHeld => ?_)
      clear hK K
      refine norm_ (by show Act.put _ (some 19) _ = _; simp only [Act.put, zH, zI, zJ, i64_w, i32_w]; rfl) ?_
      refine one_ (i := 3) (N := some 21) (bz 6 15) rfl rfl (by kernel_rfl) (by decide) (fun K hK => ?_)
      refine goes_ Try.func16 (by kernel_rfl) rfl #[.agg #[.int .i64 a1_0, .slice A1_1 l1_1.length c1_1, .slice A1_2 l1_2.length c1_2, .slice A1_3 l1_3.length c1_3, .slice A1_4 l1_4.length c1_4, .slice A1_5 l1_5.length c1_5]] (by rfl) rfl rfl (by (try simp only [zK, zL, zM]); first | done | rfl | (simp only [zN, zO]; rfl)) ?_
      with_reducible refine (laws_toSelection.calls kj6 a1_0 _ _ l1_1 _ _ l1_2 _ _ l1_3 _ _ l1_4 _ _ l1_5 t345 t346 t349 t352 t355 t358 _ ?side1 ?side2 ?side3 ?side4 ?side5 ?side6 ?side7 ?side8 ?side9 ?side10 A13.out).mono ?_
      (case side1 => repeat (first | exact (yY HR1_1.out HB.out) | (with_reducible first | refine yV ?_ _ | refine yW ?_ _ | refine yX ?_)))
      (case side2 => exact HC1_1.out)
      (case side3 => repeat (first | exact (yY HR1_2.out HB.out) | (with_reducible first | refine yV ?_ _ | refine yW ?_ _ | refine yX ?_)))
      (case side4 => exact HC1_2.out)
      (case side5 => repeat (first | exact (yY HR1_3.out HB.out) | (with_reducible first | refine yV ?_ _ | refine yW ?_ _ | refine yX ?_)))
      (case side6 => exact HC1_3.out)
      (case side7 => repeat (first | exact (yY HR1_4.out HB.out) | (with_reducible first | refine yV ?_ _ | refine yW ?_ _ | refine yX ?_)))
      (case side8 => exact HC1_4.out)
      (case side9 => repeat (first | exact (yY HR1_5.out HB.out) | (with_reducible first | refine yV ?_ _ | refine yW ?_ _ | refine yX ?_)))
      (case side10 => exact HC1_5.out)
      rintro e w17 ⟨v347, v350, v353, v356, v359, rfl, ho0, ho1, ho2, ho3, ho4, hb⟩
      refine ⟨_, rfl, ?_⟩
      have n0_ := yD (zF (yI (yI (yI (yI (Kd.R_old (kA HO344) hb) (yH ho0)) (yH ho1)) (yH ho2)) (yH ho3)) (fun _ h_ => h_.1))
      have n1_ := yD (yZ (yJ ho0 (yK (kA HO344))) (below_size (kB HB)))
      have n2_ := yD (yZ (yJ ho1 (yK (kA HO344))) (below_size (kB HB)))
      have n3_ := yD (yZ (yJ ho2 (yK (kA HO344))) (below_size (kB HB)))
      have n4_ := yD (yZ (yJ ho3 (yK (kA HO344))) (below_size (kB HB)))
      have n5_ := yD (zG (zD ho4 (yK (kA HO344))) (below_size (kB HB)))
      have n6_ := yD (zB (g := gb340) (o := .cells #[.int .i64 a1_0, .slice A1_1 l1_1.length c1_1, .slice A1_2 l1_2.length c1_2, .slice A1_3 l1_3.length c1_3, .slice A1_4 l1_4.length c1_4, .slice A1_5 l1_5.length c1_5] 35 (0, 0)) (kM BK340) hb)
      have n7_ := yD (zC (kB HB) hb)
      clear HO344 BK340 HB; have HO344 := n0_; have HO348 := n1_; have HO351 := n2_; have HO354 := n3_; have HO357 := n4_; have HO360 := n5_; have BK340 := n6_; have HB := n7_; clear n0_ n1_ n2_ n3_ n4_ n5_ n6_ n7_; (try clear hb); (try clear hb2); (try clear hk); (try clear hi); (try clear ho0); (try clear ho1); (try clear ho2); (try clear ho3); (try clear ho4)
      obtain ⟨Ao18, co18, eo18⟩ := Kd.R_slice HO344.out
      (first | subst eo18 | (injection eo18 with f1_ f2_ f3_; have f4_ := f1_.symm; have f5_ := f3_.symm; clear f1_ f2_ f3_; subst f4_; subst f5_))
      obtain ⟨Ao19, co19, eo19⟩ := Kd.R_slice HO348.out
      (first | subst eo19 | (injection eo19 with f1_ f2_ f3_; have f4_ := f1_.symm; have f5_ := f3_.symm; clear f1_ f2_ f3_; subst f4_; subst f5_))
      obtain ⟨Ao20, co20, eo20⟩ := Kd.R_slice HO351.out
      (first | subst eo20 | (injection eo20 with f1_ f2_ f3_; have f4_ := f1_.symm; have f5_ := f3_.symm; clear f1_ f2_ f3_; subst f4_; subst f5_))
      obtain ⟨Ao21, co21, eo21⟩ := Kd.R_slice HO354.out
      (first | subst eo21 | (injection eo21 with f1_ f2_ f3_; have f4_ := f1_.symm; have f5_ := f3_.symm; clear f1_ f2_ f3_; subst f4_; subst f5_))
      obtain ⟨Ao22, co22, eo22⟩ := Kd.R_slice HO357.out
      (first | subst eo22 | (injection eo22 with f1_ f2_ f3_; have f4_ := f1_.symm; have f5_ := f3_.symm; clear f1_ f2_ f3_; subst f4_; subst f5_))
      obtain ⟨Ao23, co23, eo23⟩ := Kd.S_slice HO360.out
      (first | subst eo23 | (injection eo23 with f1_ f2_ f3_; have f4_ := f1_.symm; have f5_ := f3_.symm; clear f1_ f2_ f3_; subst f4_; subst f5_))
      refine hK.out _ _ ⟨(yG BK340.out 0).trans rfl, (yG BK340.out 1).trans rfl, (yG BK340.out 2).trans rfl, (yG BK340.out 3).trans rfl, (yG BK340.out 4).trans rfl, (yG BK340.out 5).trans rfl⟩ (fun hHeld => ?_)
      clear hK K
      refine norm_ (by show Act.put _ (some 21) _ = _; simp only [Act.put, zH, zI, zJ, i64_w, i32_w]; rfl) ?_
      refine one_ (i := 4) (N := some 22) (bz 6 31) rfl rfl (by kernel_rfl) (by decide) (fun K hK => ?_)
      refine goes_ Try.func14 (by kernel_rfl) rfl #[.slice Ao18 t342.length co18, .agg #[.int .i64 t345, .slice Ao19 t346.length co19, .slice Ao20 t349.length co20, .slice Ao21 t352.length co21, .slice Ao22 t355.length co22, .slice Ao23 t358.length co23]] (by rfl) rfl rfl (by (try simp only [zK, zL, zM]); first | done | rfl | (simp only [zN, zO]; rfl)) ?_
      with_reducible refine (spec_SelectedCount.calls kj6 _ _ t342 t345 _ _ t346 _ _ t349 _ _ t352 _ _ t355 _ _ t358 t361 _ ?side1 ?side2 ?side3 ?side4 ?side5 ?side6 ?side7 ?side8 ?side9 ?side10 ?side11 ?side12 A14.out).mono ?_
      (case side1 => repeat (first | exact (zA HO344.out).2.2 | (with_reducible first | refine yV ?_ _ | refine yW ?_ _ | refine yX ?_)))
      (case side2 => exact (zA HO344.out).2.1)
      (case side3 => repeat (first | exact (zA HO348.out).2.2 | (with_reducible first | refine yV ?_ _ | refine yW ?_ _ | refine yX ?_)))
      (case side4 => exact (zA HO348.out).2.1)
      (case side5 => repeat (first | exact (zA HO351.out).2.2 | (with_reducible first | refine yV ?_ _ | refine yW ?_ _ | refine yX ?_)))
      (case side6 => exact (zA HO351.out).2.1)
      (case side7 => repeat (first | exact (zA HO354.out).2.2 | (with_reducible first | refine yV ?_ _ | refine yW ?_ _ | refine yX ?_)))
      (case side8 => exact (zA HO354.out).2.1)
      (case side9 => repeat (first | exact (zA HO357.out).2.2 | (with_reducible first | refine yV ?_ _ | refine yW ?_ _ | refine yX ?_)))
      (case side10 => exact (zA HO357.out).2.1)
      (case side11 => repeat (first | exact (Kd.S_reads' HO360.out).2.2 | (with_reducible first | refine yV ?_ _ | refine yW ?_ _ | refine yX ?_)))
      (case side12 => exact (Kd.S_reads' HO360.out).2.1)
      rintro e w24 ⟨rfl, hb⟩
      refine ⟨_, rfl, ?_⟩
      have n0_ := yD (zE (kA HO344) hb)
      have n1_ := yD (zE (kA HO348) hb)
      have n2_ := yD (zE (kA HO351) hb)
      have n3_ := yD (zE (kA HO354) hb)
      have n4_ := yD (zE (kA HO357) hb)
      have n5_ := yD (Kd.S_below (by (with_reducible repeat (first | apply yS | apply yT | apply yU)); exact HO360.out) hb)
      have n6_ := yD (zB (g := gb340) (o := .cells #[.int .i64 a1_0, .slice A1_1 l1_1.length c1_1, .slice A1_2 l1_2.length c1_2, .slice A1_3 l1_3.length c1_3, .slice A1_4 l1_4.length c1_4, .slice A1_5 l1_5.length c1_5] 35 (0, 0)) (kM BK340) hb)
      have n7_ := yD (zC (kB HB) hb)
      clear HO344 HO348 HO351 HO354 HO357 HO360 BK340 HB; have HO344 := n0_; have HO348 := n1_; have HO351 := n2_; have HO354 := n3_; have HO357 := n4_; have HO360 := n5_; have BK340 := n6_; have HB := n7_; clear n0_ n1_ n2_ n3_ n4_ n5_ n6_ n7_; (try clear hb); (try clear hb2); (try clear hk); (try clear hi)
      refine hK.out _ _ ⟨(yG BK340.out 0).trans rfl, (yG BK340.out 1).trans rfl, (yG BK340.out 2).trans rfl, (yG BK340.out 3).trans rfl, (yG BK340.out 4).trans rfl, (yG BK340.out 5).trans rfl⟩ (fun hHeld => ?_)
      clear hK K
      refine norm_ (by show Act.put _ (some 22) _ = _; simp only [Act.put, zH, zI, zJ, i64_w, i32_w]; rfl) ?_
      refine pA 5 6 (bz 6 63) rfl rfl (by kernel_rfl) (fun _ _ _ h => h) (by rfl) (fun _ => by go_simp; with_reducible rfl) (by simp only [Act.put, zH, zI, zJ, i64_w, i32_w]; rfl) ?_
      refine done_ (by kernel_rfl) ?_
      try go_wp2
      go_meet
      case rel => exact ⟨_, (t361), (by first | rfl | (simp; done) | (simp [*]; done)), H', ⟨by have := HJ2.out; have := HJ6.out; first | omega | exact Nat.le_refl _⟩, ⟨by (with_reducible repeat (first | refine yM ?_ _ | refine yO ?_ | refine yN ?_ _)); exact BK340.out⟩, ⟨by repeat (first | (with_reducible first | exact HB.out | apply yQ | apply yL | apply yP | refine yE ?_ GE340.out) | exact HB.out)⟩⟩
     case rest =>
      clear HC11; try clear c1; try clear p2; try clear c4; try clear c5; try clear c5b0; try clear c5b1; try clear c10; try clear c10b0; try clear c13; try clear c14; try clear c15; try clear c16; try clear hcz8_0; try clear hcz8_1; try clear hcz8_2; try clear hcz8_3; try clear hcz8_4; try clear hcz8_5; try clear hfz8_0; try clear hfz8_1; try clear hfz8_2; try clear hfz8_3; try clear hfz8_4; try clear hfz8_5; try clear p2
      obtain ⟨kq, x6_10, rfl, HA, HJ10, BK340, HB⟩ := hcut
      cases kq with
      | zero => exact absurd HA.out (by simp [laws_FnExactSelectedCount.j2])
      | succ kj10 =>
       have H := HA.out; clear HA
       simp only [laws_FnExactSelectedCount.j2] at H
       obtain ⟨t362, A250, H⟩ := zW_ H
       replace H : ((laws_toSelection.f kj10 a1_0 l1_1 l1_2 l1_3 l1_4 l1_5).bind fun bt365 => ((impl_SelectedCount.f kj10 t362 bt365.1 bt365.2.1 bt365.2.2.1 bt365.2.2.2.1 bt365.2.2.2.2.1 bt365.2.2.2.2.2).bind fun t382 => (laws_FnExactSelectedCount.j3 kj10 l0 x6_10 t362 t382 a1_0 l1_1 l1_2 l1_3 l1_4 l1_5 bt365.1 bt365.2.1 bt365.2.2.1 bt365.2.2.2.1 bt365.2.2.2.2.1 bt365.2.2.2.2.2))) = some r := H
       have A25 := yD A250
       clear A250
       obtain ⟨⟨t365, t366, t369, t372, t375, t378⟩, A260, H⟩ := zW_ H
       replace H : ((impl_SelectedCount.f kj10 t362 t365 t366 t369 t372 t375 t378).bind fun t382 => (laws_FnExactSelectedCount.j3 kj10 l0 x6_10 t362 t382 a1_0 l1_1 l1_2 l1_3 l1_4 l1_5 t365 t366 t369 t372 t375 t378)) = some r := H
       have A26 := yD A260
       clear A260
       have HC27 := yD H
       clear H
       go_upto_region 10 with (first | ((with_reducible refine gate_callee (f := 15) rfl ?_); refine goesL_ (some 24) rfl rfl Try.func15 (by kernel_rfl) rfl #[.slice A0 l0.length c0] rfl (by (try simp only [zK, zL, zM]); first | done | rfl | (simp only [zN, zO]; rfl)) ?_; (with_reducible refine (laws_toInt64S.calls kj10 _ _ l0 t362 _ ?side1 ?side2 A25.out).mono ?_); (case side1 => repeat (first | exact (yY HR0.out HB.out) | (with_reducible first | refine yV ?_ _ | refine yW ?_ _ | refine yX ?_))); (case side2 => exact HC0.out); rintro e w28 ⟨v363, rfl, ho0, hb⟩; refine ⟨_, rfl, ?_⟩; have n0_ := yD (yZ ho0 (below_size (kB HB))); have n1_ := yD (zB (g := gb340) (o := .cells #[.int .i64 a1_0, .slice A1_1 l1_1.length c1_1, .slice A1_2 l1_2.length c1_2, .slice A1_3 l1_3.length c1_3, .slice A1_4 l1_4.length c1_4, .slice A1_5 l1_5.length c1_5] 35 (0, 0)) (kM BK340) hb); have n2_ := yD (zC (kB HB) hb); clear BK340; clear HB; have HO364 := n0_; have BK340 := n1_; have HB := n2_; clear n0_ n1_ n2_; (try clear hb); (try clear hb2); (try clear hk); (try clear hi); (try clear ho0); obtain ⟨hcz29_0, hcz29_1, hcz29_2, hcz29_3, hcz29_4, hcz29_5⟩ := cz6 BK340.out; obtain ⟨hfz29_0, hfz29_1, hfz29_2, hfz29_3, hfz29_4, hfz29_5⟩ := fz6 BK340.out) | ((with_reducible refine gate_callee (f := 16) rfl ?_); refine goesL_ (some 26) rfl rfl Try.func16 (by kernel_rfl) rfl #[.agg #[.int .i64 a1_0, .slice A1_1 l1_1.length c1_1, .slice A1_2 l1_2.length c1_2, .slice A1_3 l1_3.length c1_3, .slice A1_4 l1_4.length c1_4, .slice A1_5 l1_5.length c1_5]] rfl (by (try simp only [zK, zL, zM]); first | done | rfl | (simp only [zN, zO]; rfl)) ?_; (with_reducible refine (laws_toSelection.calls kj10 a1_0 _ _ l1_1 _ _ l1_2 _ _ l1_3 _ _ l1_4 _ _ l1_5 t365 t366 t369 t372 t375 t378 _ ?side1 ?side2 ?side3 ?side4 ?side5 ?side6 ?side7 ?side8 ?side9 ?side10 A26.out).mono ?_); (case side1 => repeat (first | exact (yY HR1_1.out HB.out) | (with_reducible first | refine yV ?_ _ | refine yW ?_ _ | refine yX ?_))); (case side2 => exact HC1_1.out); (case side3 => repeat (first | exact (yY HR1_2.out HB.out) | (with_reducible first | refine yV ?_ _ | refine yW ?_ _ | refine yX ?_))); (case side4 => exact HC1_2.out); (case side5 => repeat (first | exact (yY HR1_3.out HB.out) | (with_reducible first | refine yV ?_ _ | refine yW ?_ _ | refine yX ?_))); (case side6 => exact HC1_3.out); (case side7 => repeat (first | exact (yY HR1_4.out HB.out) | (with_reducible first | refine yV ?_ _ | refine yW ?_ _ | refine yX ?_))); (case side8 => exact HC1_4.out); (case side9 => repeat (first | exact (yY HR1_5.out HB.out) | (with_reducible first | refine yV ?_ _ | refine yW ?_ _ | refine yX ?_))); (case side10 => exact HC1_5.out); rintro e w30 ⟨v367, v370, v373, v376, v379, rfl, ho0, ho1, ho2, ho3, ho4, hb⟩; refine ⟨_, rfl, ?_⟩; have n0_ := yD (zF (yI (yI (yI (yI (Kd.R_old (kA HO364) hb) (yH ho0)) (yH ho1)) (yH ho2)) (yH ho3)) (fun _ h_ => h_.1)); have n1_ := yD (yZ (yJ ho0 (yK (kA HO364))) (below_size (kB HB))); have n2_ := yD (yZ (yJ ho1 (yK (kA HO364))) (below_size (kB HB))); have n3_ := yD (yZ (yJ ho2 (yK (kA HO364))) (below_size (kB HB))); have n4_ := yD (yZ (yJ ho3 (yK (kA HO364))) (below_size (kB HB))); have n5_ := yD (zG (zD ho4 (yK (kA HO364))) (below_size (kB HB))); have n6_ := yD (zB (g := gb340) (o := .cells #[.int .i64 a1_0, .slice A1_1 l1_1.length c1_1, .slice A1_2 l1_2.length c1_2, .slice A1_3 l1_3.length c1_3, .slice A1_4 l1_4.length c1_4, .slice A1_5 l1_5.length c1_5] 35 (0, 0)) (kM BK340) hb); have n7_ := yD (zC (kB HB) hb); clear HO364; clear BK340; clear HB; have HO364 := n0_; have HO368 := n1_; have HO371 := n2_; have HO374 := n3_; have HO377 := n4_; have HO380 := n5_; have BK340 := n6_; have HB := n7_; clear n0_ n1_ n2_ n3_ n4_ n5_ n6_ n7_; (try clear hb); (try clear hb2); (try clear hk); (try clear hi); (try clear ho0); (try clear ho1); (try clear ho2); (try clear ho3); (try clear ho4)) | ((with_reducible refine gate_dst (N := 8) rfl ?_); refine box_event ?hg (N := 8) ?hd (cs := #[.int .i64 0, .slice none 0 0, .slice none 0 0, .slice none 0 0, .slice none 0 0, .slice none 0 0]) (t := 41) ?hr ?_; (case hd => rfl); (case hg => rfl); (case hr => first | (go_simp; done) | (go_simp; rfl)); intro gb381 hg w31 hbox hb; have n0_ := yD (zE (kA HO364) hb); have n1_ := yD (zE (kA HO368) hb); have n2_ := yD (zE (kA HO371) hb); have n3_ := yD (zE (kA HO374) hb); have n4_ := yD (zE (kA HO377) hb); have n5_ := yD (Kd.S_below (by (with_reducible repeat (first | apply yS | apply yT | apply yU)); exact HO380.out) hb); have n6_ := yD (zB (g := gb340) (o := .cells #[.int .i64 a1_0, .slice A1_1 l1_1.length c1_1, .slice A1_2 l1_2.length c1_2, .slice A1_3 l1_3.length c1_3, .slice A1_4 l1_4.length c1_4, .slice A1_5 l1_5.length c1_5] 35 (0, 0)) (kM BK340) hb); have n7_ := yD (zC (kB HB) hb); have n8_ := yD (hbox); have n9_ := yD ((by rw [hg]; exact (below_size (kB HB)) : w.heap.size ≤ gb381)); have n10_ := yD ((by rw [hg]; exact (below_size (kB HB)) : w.heap.size ≤ gb381)); have n11_ := yD ((by rw [hg]; exact Nat.ne_of_lt (blk_lt (g := gb340) (o := .cells #[.int .i64 a1_0, .slice A1_1 l1_1.length c1_1, .slice A1_2 l1_2.length c1_2, .slice A1_3 l1_3.length c1_3, .slice A1_4 l1_4.length c1_4, .slice A1_5 l1_5.length c1_5] 35 (0, 0)) (kM BK340)) : gb340 ≠ gb381)); have n12_ := yD ((by rw [hg]; exact Nat.ne_of_gt (blk_lt (g := gb340) (o := .cells #[.int .i64 a1_0, .slice A1_1 l1_1.length c1_1, .slice A1_2 l1_2.length c1_2, .slice A1_3 l1_3.length c1_3, .slice A1_4 l1_4.length c1_4, .slice A1_5 l1_5.length c1_5] 35 (0, 0)) (kM BK340)) : gb381 ≠ gb340)); clear HO364; clear HO368; clear HO371; clear HO374; clear HO377; clear HO380; clear BK340; clear HB; have HO364 := n0_; have HO368 := n1_; have HO371 := n2_; have HO374 := n3_; have HO377 := n4_; have HO380 := n5_; have BK340 := n6_; have HB := n7_; have BK381 := n8_; have GW381 := n9_; have GE381 := n10_; have NB340_381 := n11_; have NB381_340 := n12_; clear n0_ n1_ n2_ n3_ n4_ n5_ n6_ n7_ n8_ n9_ n10_ n11_ n12_; clear hb hbox hg; have hnb32 := NB381_340.out; have hnc32 := NB340_381.out; obtain ⟨hcz33_0, hcz33_1, hcz33_2, hcz33_3, hcz33_4, hcz33_5⟩ := cz6 BK381.out; obtain ⟨hfz33_0, hfz33_1, hfz33_2, hfz33_3, hfz33_4, hfz33_5⟩ := fz6 BK381.out; obtain ⟨Ao34, co34, eo34⟩ := Kd.R_slice HO368.out; subst eo34; obtain ⟨Ao35, co35, eo35⟩ := Kd.R_slice HO371.out; subst eo35; obtain ⟨Ao36, co36, eo36⟩ := Kd.R_slice HO374.out; subst eo36; obtain ⟨Ao37, co37, eo37⟩ := Kd.R_slice HO377.out; subst eo37; obtain ⟨Ao38, co38, eo38⟩ := Kd.S_slice HO380.out; subst eo38))
       (try simp only [Act.put, zH, zI, zJ])
       go_cut [9] (fun v9 wc => ∃ (kq : Nat) (x9_26 : Int), v9 = .int .i64 x9_26 ∧ Aside0 (laws_FnExactSelectedCount.j3 kq l0 x6_10 t362 x9_26 a1_0 l1_1 l1_2 l1_3 l1_4 l1_5 t365 t366 t369 t372 t375 t378 = some r) ∧ Aside0 (kq ≤ kj10) ∧ Aside0 (Kd.R (Kd.int .i64) 2 wc w.heap.size (fun k_ => some k_ ≠ ((.slice Ao34 t366.length co34) : Value).ownBlock ∧ some k_ ≠ ((.slice Ao35 t369.length co35) : Value).ownBlock ∧ some k_ ≠ ((.slice Ao36 t372.length co36) : Value).ownBlock ∧ some k_ ≠ ((.slice Ao37 t375.length co37) : Value).ownBlock) v363 t362) ∧ Aside0 (Kd.R (Kd.int .i64) 2 wc w.heap.size (fun k_ => some k_ ≠ (v363 : Value).ownBlock ∧ some k_ ≠ ((.slice Ao35 t369.length co35) : Value).ownBlock ∧ some k_ ≠ ((.slice Ao36 t372.length co36) : Value).ownBlock ∧ some k_ ≠ ((.slice Ao37 t375.length co37) : Value).ownBlock) (.slice Ao34 t366.length co34) t366) ∧ Aside0 (Kd.R (Kd.int .i64) 2 wc w.heap.size (fun k_ => some k_ ≠ (v363 : Value).ownBlock ∧ some k_ ≠ ((.slice Ao34 t366.length co34) : Value).ownBlock ∧ some k_ ≠ ((.slice Ao36 t372.length co36) : Value).ownBlock ∧ some k_ ≠ ((.slice Ao37 t375.length co37) : Value).ownBlock) (.slice Ao35 t369.length co35) t369) ∧ Aside0 (Kd.R (Kd.int .i64) 2 wc w.heap.size (fun k_ => some k_ ≠ (v363 : Value).ownBlock ∧ some k_ ≠ ((.slice Ao34 t366.length co34) : Value).ownBlock ∧ some k_ ≠ ((.slice Ao35 t369.length co35) : Value).ownBlock ∧ some k_ ≠ ((.slice Ao37 t375.length co37) : Value).ownBlock) (.slice Ao36 t372.length co36) t372) ∧ Aside0 (Kd.R (Kd.int .i64) 2 wc w.heap.size (fun k_ => some k_ ≠ (v363 : Value).ownBlock ∧ some k_ ≠ ((.slice Ao34 t366.length co34) : Value).ownBlock ∧ some k_ ≠ ((.slice Ao35 t369.length co35) : Value).ownBlock ∧ some k_ ≠ ((.slice Ao36 t372.length co36) : Value).ownBlock) (.slice Ao37 t375.length co37) t375) ∧ Aside0 (Kd.S k65 65 wc w.heap.size (fun k_ => some k_ ≠ (v363 : Value).ownBlock ∧ some k_ ≠ ((.slice Ao34 t366.length co34) : Value).ownBlock ∧ some k_ ≠ ((.slice Ao35 t369.length co35) : Value).ownBlock ∧ some k_ ≠ ((.slice Ao36 t372.length co36) : Value).ownBlock ∧ some k_ ≠ ((.slice Ao37 t375.length co37) : Value).ownBlock) (.slice Ao38 t378.length co38) t378) ∧ Aside0 (wc.heap[gb340]? = some (.cells #[.int .i64 a1_0, (.slice A1_1 l1_1.length c1_1), (.slice A1_2 l1_2.length c1_2), (.slice A1_3 l1_3.length c1_3), (.slice A1_4 l1_4.length c1_4), (.slice A1_5 l1_5.length c1_5)] 35 (0, 0))) ∧ Aside0 (wc.heap[gb381]? = some (.cells #[.int .i64 t365, (.slice Ao34 t366.length co34), (.slice Ao35 t369.length co35), (.slice Ao36 t372.length co36), (.slice Ao37 t375.length co37), (.slice Ao38 t378.length co38)] 41 (0, 0))) ∧ Aside0 (Below w.heap.size w wc))
       case first =>
        have H := HC27.out; clear HC27
        obtain ⟨t382, A390, H⟩ := zW_ H
        replace H : (laws_FnExactSelectedCount.j3 kj10 l0 x6_10 t362 t382 a1_0 l1_1 l1_2 l1_3 l1_4 l1_5 t365 t366 t369 t372 t375 t378) = some r := H
        have A39 := yD A390
        clear A390
        have H' := yD H
        clear H; have hnb40 := NB381_340.out; have hnc40 := NB340_381.out
        obtain ⟨hcz41_0, hcz41_1, hcz41_2, hcz41_3, hcz41_4, hcz41_5⟩ := cz6 BK381.out
        obtain ⟨hfz41_0, hfz41_1, hfz41_2, hfz41_3, hfz41_4, hfz41_5⟩ := fz6 BK381.out
        obtain ⟨Ao42, co42, eo42⟩ := Kd.R_slice HO364.out
        subst eo42
        go_wp2_with (first | ((with_reducible refine gate_callee (f := 17) rfl ?_); refine goesL_ (some 29) rfl rfl Try.func17 (by kernel_rfl) rfl #[.slice Ao42 t362.length co42, .agg #[.int .i64 t365, .slice Ao34 t366.length co34, .slice Ao35 t369.length co35, .slice Ao36 t372.length co36, .slice Ao37 t375.length co37, .slice Ao38 t378.length co38]] rfl (by (try simp only [zK, zL, zM]); first | done | rfl | (simp only [zN, zO]; rfl)) ?_; (with_reducible refine (impl_SelectedCount.calls kj10 _ _ t362 t365 _ _ t366 _ _ t369 _ _ t372 _ _ t375 _ _ t378 t382 _ ?side1 ?side2 ?side3 ?side4 ?side5 ?side6 ?side7 ?side8 ?side9 ?side10 ?side11 ?side12 A39.out).mono ?_); (case side1 => refine (zA (e := 2) (base := w.heap.size) (ok := fun k_ => ((((True ∧ some k_ ≠ (.slice Ao34 t366.length co34 : Value).ownBlock) ∧ some k_ ≠ (.slice Ao35 t369.length co35 : Value).ownBlock) ∧ some k_ ≠ (.slice Ao36 t372.length co36 : Value).ownBlock) ∧ some k_ ≠ (.slice Ao37 t375.length co37 : Value).ownBlock)) (n := t362.length) (c := co42) ?_).2.2; exact (by (with_reducible repeat (first | apply yA | apply yB | apply yC)); exact (zF (yF (p := ⟨gb381, 5, none⟩) (yF (p := ⟨gb381, 4, none⟩) (yF (p := ⟨gb381, 3, none⟩) (yF (p := ⟨gb381, 2, none⟩) (yF (p := ⟨gb381, 1, none⟩) (yF (p := ⟨gb381, 0, none⟩) (Kd.R_types HO364.out BK381.out (by decide)) (fun _ hk => hk.2) (.int .i64 t365)) (fun _ hk => hk.2) (.slice Ao34 t366.length co34)) (fun _ hk => hk.2) (.slice Ao35 t369.length co35)) (fun _ hk => hk.2) (.slice Ao36 t372.length co36)) (fun _ hk => hk.2) (.slice Ao37 t375.length co37)) (fun _ hk => hk.2) (.slice Ao38 t378.length co38)) (fun _ h_ => h_.1)))); (case side2 => exact (zA HO364.out).2.1); (case side3 => refine (zA (e := 2) (base := w.heap.size) (ok := fun k_ => ((some k_ ≠ (.slice Ao35 t369.length co35 : Value).ownBlock ∧ (some k_ ≠ (.slice Ao36 t372.length co36 : Value).ownBlock ∧ some k_ ≠ (.slice Ao37 t375.length co37 : Value).ownBlock)) ∧ some k_ ≠ (.slice Ao42 t362.length co42 : Value).ownBlock)) (n := t366.length) (c := co34) ?_).2.2; exact (by (with_reducible repeat (first | apply yA | apply yB | apply yC)); exact (zF (yF (p := ⟨gb381, 5, none⟩) (yF (p := ⟨gb381, 4, none⟩) (yF (p := ⟨gb381, 3, none⟩) (yF (p := ⟨gb381, 2, none⟩) (yF (p := ⟨gb381, 1, none⟩) (yF (p := ⟨gb381, 0, none⟩) (Kd.R_types HO368.out BK381.out (by decide)) (fun _ hk => hk.2) (.int .i64 t365)) (fun _ hk => hk.2) (.slice Ao34 t366.length co34)) (fun _ hk => hk.2) (.slice Ao35 t369.length co35)) (fun _ hk => hk.2) (.slice Ao36 t372.length co36)) (fun _ hk => hk.2) (.slice Ao37 t375.length co37)) (fun _ hk => hk.2) (.slice Ao38 t378.length co38)) (fun _ h_ => h_.1)))); (case side4 => exact (zA HO368.out).2.1); (case side5 => refine (zA (e := 2) (base := w.heap.size) (ok := fun k_ => ((some k_ ≠ (.slice Ao34 t366.length co34 : Value).ownBlock ∧ (some k_ ≠ (.slice Ao36 t372.length co36 : Value).ownBlock ∧ some k_ ≠ (.slice Ao37 t375.length co37 : Value).ownBlock)) ∧ some k_ ≠ (.slice Ao42 t362.length co42 : Value).ownBlock)) (n := t369.length) (c := co35) ?_).2.2; exact (by (with_reducible repeat (first | apply yA | apply yB | apply yC)); exact (zF (yF (p := ⟨gb381, 5, none⟩) (yF (p := ⟨gb381, 4, none⟩) (yF (p := ⟨gb381, 3, none⟩) (yF (p := ⟨gb381, 2, none⟩) (yF (p := ⟨gb381, 1, none⟩) (yF (p := ⟨gb381, 0, none⟩) (Kd.R_types HO371.out BK381.out (by decide)) (fun _ hk => hk.2) (.int .i64 t365)) (fun _ hk => hk.2) (.slice Ao34 t366.length co34)) (fun _ hk => hk.2) (.slice Ao35 t369.length co35)) (fun _ hk => hk.2) (.slice Ao36 t372.length co36)) (fun _ hk => hk.2) (.slice Ao37 t375.length co37)) (fun _ hk => hk.2) (.slice Ao38 t378.length co38)) (fun _ h_ => h_.1)))); (case side6 => exact (zA HO371.out).2.1); (case side7 => refine (zA (e := 2) (base := w.heap.size) (ok := fun k_ => ((some k_ ≠ (.slice Ao34 t366.length co34 : Value).ownBlock ∧ (some k_ ≠ (.slice Ao35 t369.length co35 : Value).ownBlock ∧ some k_ ≠ (.slice Ao37 t375.length co37 : Value).ownBlock)) ∧ some k_ ≠ (.slice Ao42 t362.length co42 : Value).ownBlock)) (n := t372.length) (c := co36) ?_).2.2; exact (by (with_reducible repeat (first | apply yA | apply yB | apply yC)); exact (zF (yF (p := ⟨gb381, 5, none⟩) (yF (p := ⟨gb381, 4, none⟩) (yF (p := ⟨gb381, 3, none⟩) (yF (p := ⟨gb381, 2, none⟩) (yF (p := ⟨gb381, 1, none⟩) (yF (p := ⟨gb381, 0, none⟩) (Kd.R_types HO374.out BK381.out (by decide)) (fun _ hk => hk.2) (.int .i64 t365)) (fun _ hk => hk.2) (.slice Ao34 t366.length co34)) (fun _ hk => hk.2) (.slice Ao35 t369.length co35)) (fun _ hk => hk.2) (.slice Ao36 t372.length co36)) (fun _ hk => hk.2) (.slice Ao37 t375.length co37)) (fun _ hk => hk.2) (.slice Ao38 t378.length co38)) (fun _ h_ => h_.1)))); (case side8 => exact (zA HO374.out).2.1); (case side9 => refine (zA (e := 2) (base := w.heap.size) (ok := fun k_ => ((some k_ ≠ (.slice Ao34 t366.length co34 : Value).ownBlock ∧ (some k_ ≠ (.slice Ao35 t369.length co35 : Value).ownBlock ∧ some k_ ≠ (.slice Ao36 t372.length co36 : Value).ownBlock)) ∧ some k_ ≠ (.slice Ao42 t362.length co42 : Value).ownBlock)) (n := t375.length) (c := co37) ?_).2.2; exact (by (with_reducible repeat (first | apply yA | apply yB | apply yC)); exact (zF (yF (p := ⟨gb381, 5, none⟩) (yF (p := ⟨gb381, 4, none⟩) (yF (p := ⟨gb381, 3, none⟩) (yF (p := ⟨gb381, 2, none⟩) (yF (p := ⟨gb381, 1, none⟩) (yF (p := ⟨gb381, 0, none⟩) (Kd.R_types HO377.out BK381.out (by decide)) (fun _ hk => hk.2) (.int .i64 t365)) (fun _ hk => hk.2) (.slice Ao34 t366.length co34)) (fun _ hk => hk.2) (.slice Ao35 t369.length co35)) (fun _ hk => hk.2) (.slice Ao36 t372.length co36)) (fun _ hk => hk.2) (.slice Ao37 t375.length co37)) (fun _ hk => hk.2) (.slice Ao38 t378.length co38)) (fun _ h_ => h_.1)))); (case side10 => exact (zA HO377.out).2.1); (case side11 => refine (Kd.S_reads' (e := 65) (base := w.heap.size) (ok := fun k_ => ((some k_ ≠ (.slice Ao34 t366.length co34 : Value).ownBlock ∧ (some k_ ≠ (.slice Ao35 t369.length co35 : Value).ownBlock ∧ (some k_ ≠ (.slice Ao36 t372.length co36 : Value).ownBlock ∧ some k_ ≠ (.slice Ao37 t375.length co37 : Value).ownBlock))) ∧ some k_ ≠ (.slice Ao42 t362.length co42 : Value).ownBlock)) (n := t378.length) (c := co38) ?_).2.2; exact (by (with_reducible repeat (first | apply yS | apply yT | apply yU)); exact (Kd.S_mono (Kd.S_far (p := ⟨gb381, 5, none⟩) (Kd.S_far (p := ⟨gb381, 4, none⟩) (Kd.S_far (p := ⟨gb381, 3, none⟩) (Kd.S_far (p := ⟨gb381, 2, none⟩) (Kd.S_far (p := ⟨gb381, 1, none⟩) (Kd.S_far (p := ⟨gb381, 0, none⟩) (Kd.S_types HO380.out BK381.out (by decide)) (fun _ hk => hk.2) (.int .i64 t365)) (fun _ hk => hk.2) (.slice Ao34 t366.length co34)) (fun _ hk => hk.2) (.slice Ao35 t369.length co35)) (fun _ hk => hk.2) (.slice Ao36 t372.length co36)) (fun _ hk => hk.2) (.slice Ao37 t375.length co37)) (fun _ hk => hk.2) (.slice Ao38 t378.length co38)) (fun _ h_ => h_.1)))); (case side12 => exact (Kd.S_reads' HO380.out).2.1); rintro e w43 ⟨rfl, hb⟩; refine ⟨_, rfl, ?_⟩; have n0_ := yD (zE (by (with_reducible repeat (first | apply yA | apply yB | apply yC)); exact (zF (yF (p := ⟨gb381, 5, none⟩) (yF (p := ⟨gb381, 4, none⟩) (yF (p := ⟨gb381, 3, none⟩) (yF (p := ⟨gb381, 2, none⟩) (yF (p := ⟨gb381, 1, none⟩) (yF (p := ⟨gb381, 0, none⟩) (Kd.R_types HO364.out BK381.out (by decide)) (fun _ hk => hk.2) (.int .i64 t365)) (fun _ hk => hk.2) (.slice Ao34 t366.length co34)) (fun _ hk => hk.2) (.slice Ao35 t369.length co35)) (fun _ hk => hk.2) (.slice Ao36 t372.length co36)) (fun _ hk => hk.2) (.slice Ao37 t375.length co37)) (fun _ hk => hk.2) (.slice Ao38 t378.length co38)) (fun _ h_ => h_.1))) hb); have n1_ := yD (zE (by (with_reducible repeat (first | apply yA | apply yB | apply yC)); exact (zF (yF (p := ⟨gb381, 5, none⟩) (yF (p := ⟨gb381, 4, none⟩) (yF (p := ⟨gb381, 3, none⟩) (yF (p := ⟨gb381, 2, none⟩) (yF (p := ⟨gb381, 1, none⟩) (yF (p := ⟨gb381, 0, none⟩) (Kd.R_types HO368.out BK381.out (by decide)) (fun _ hk => hk.2) (.int .i64 t365)) (fun _ hk => hk.2) (.slice Ao34 t366.length co34)) (fun _ hk => hk.2) (.slice Ao35 t369.length co35)) (fun _ hk => hk.2) (.slice Ao36 t372.length co36)) (fun _ hk => hk.2) (.slice Ao37 t375.length co37)) (fun _ hk => hk.2) (.slice Ao38 t378.length co38)) (fun _ h_ => h_.1))) hb); have n2_ := yD (zE (by (with_reducible repeat (first | apply yA | apply yB | apply yC)); exact (zF (yF (p := ⟨gb381, 5, none⟩) (yF (p := ⟨gb381, 4, none⟩) (yF (p := ⟨gb381, 3, none⟩) (yF (p := ⟨gb381, 2, none⟩) (yF (p := ⟨gb381, 1, none⟩) (yF (p := ⟨gb381, 0, none⟩) (Kd.R_types HO371.out BK381.out (by decide)) (fun _ hk => hk.2) (.int .i64 t365)) (fun _ hk => hk.2) (.slice Ao34 t366.length co34)) (fun _ hk => hk.2) (.slice Ao35 t369.length co35)) (fun _ hk => hk.2) (.slice Ao36 t372.length co36)) (fun _ hk => hk.2) (.slice Ao37 t375.length co37)) (fun _ hk => hk.2) (.slice Ao38 t378.length co38)) (fun _ h_ => h_.1))) hb); have n3_ := yD (zE (by (with_reducible repeat (first | apply yA | apply yB | apply yC)); exact (zF (yF (p := ⟨gb381, 5, none⟩) (yF (p := ⟨gb381, 4, none⟩) (yF (p := ⟨gb381, 3, none⟩) (yF (p := ⟨gb381, 2, none⟩) (yF (p := ⟨gb381, 1, none⟩) (yF (p := ⟨gb381, 0, none⟩) (Kd.R_types HO374.out BK381.out (by decide)) (fun _ hk => hk.2) (.int .i64 t365)) (fun _ hk => hk.2) (.slice Ao34 t366.length co34)) (fun _ hk => hk.2) (.slice Ao35 t369.length co35)) (fun _ hk => hk.2) (.slice Ao36 t372.length co36)) (fun _ hk => hk.2) (.slice Ao37 t375.length co37)) (fun _ hk => hk.2) (.slice Ao38 t378.length co38)) (fun _ h_ => h_.1))) hb); have n4_ := yD (zE (by (with_reducible repeat (first | apply yA | apply yB | apply yC)); exact (zF (yF (p := ⟨gb381, 5, none⟩) (yF (p := ⟨gb381, 4, none⟩) (yF (p := ⟨gb381, 3, none⟩) (yF (p := ⟨gb381, 2, none⟩) (yF (p := ⟨gb381, 1, none⟩) (yF (p := ⟨gb381, 0, none⟩) (Kd.R_types HO377.out BK381.out (by decide)) (fun _ hk => hk.2) (.int .i64 t365)) (fun _ hk => hk.2) (.slice Ao34 t366.length co34)) (fun _ hk => hk.2) (.slice Ao35 t369.length co35)) (fun _ hk => hk.2) (.slice Ao36 t372.length co36)) (fun _ hk => hk.2) (.slice Ao37 t375.length co37)) (fun _ hk => hk.2) (.slice Ao38 t378.length co38)) (fun _ h_ => h_.1))) hb); have n5_ := yD (Kd.S_below (by (with_reducible repeat (first | apply yS | apply yT | apply yU)); exact (Kd.S_mono (Kd.S_far (p := ⟨gb381, 5, none⟩) (Kd.S_far (p := ⟨gb381, 4, none⟩) (Kd.S_far (p := ⟨gb381, 3, none⟩) (Kd.S_far (p := ⟨gb381, 2, none⟩) (Kd.S_far (p := ⟨gb381, 1, none⟩) (Kd.S_far (p := ⟨gb381, 0, none⟩) (Kd.S_types HO380.out BK381.out (by decide)) (fun _ hk => hk.2) (.int .i64 t365)) (fun _ hk => hk.2) (.slice Ao34 t366.length co34)) (fun _ hk => hk.2) (.slice Ao35 t369.length co35)) (fun _ hk => hk.2) (.slice Ao36 t372.length co36)) (fun _ hk => hk.2) (.slice Ao37 t375.length co37)) (fun _ hk => hk.2) (.slice Ao38 t378.length co38)) (fun _ h_ => h_.1))) hb); have n6_ := yD (zB (g := gb340) (o := .cells #[.int .i64 a1_0, .slice A1_1 l1_1.length c1_1, .slice A1_2 l1_2.length c1_2, .slice A1_3 l1_3.length c1_3, .slice A1_4 l1_4.length c1_4, .slice A1_5 l1_5.length c1_5] 35 (0, 0)) (by (with_reducible repeat (first | refine yM ?_ _ | refine yO ?_ | refine yN ?_ _)); refine blk_far ?_ NB340_381.out _; (with_reducible repeat (first | refine yM ?_ _ | refine yO ?_ | refine yN ?_ _)); refine blk_far ?_ NB340_381.out _; (with_reducible repeat (first | refine yM ?_ _ | refine yO ?_ | refine yN ?_ _)); refine blk_far ?_ NB340_381.out _; (with_reducible repeat (first | refine yM ?_ _ | refine yO ?_ | refine yN ?_ _)); refine blk_far ?_ NB340_381.out _; (with_reducible repeat (first | refine yM ?_ _ | refine yO ?_ | refine yN ?_ _)); refine blk_far ?_ NB340_381.out _; (with_reducible repeat (first | refine yM ?_ _ | refine yO ?_ | refine yN ?_ _)); refine blk_far ?_ NB340_381.out _; (with_reducible repeat (first | refine yM ?_ _ | refine yO ?_ | refine yN ?_ _)); exact BK340.out) hb); have n7_ := yD (zB (g := gb381) (o := .cells #[.int .i64 t365, .slice Ao34 t366.length co34, .slice Ao35 t369.length co35, .slice Ao36 t372.length co36, .slice Ao37 t375.length co37, .slice Ao38 t378.length co38] 41 (0, 0)) (by (with_reducible repeat (first | refine yM ?_ _ | refine yO ?_ | refine yN ?_ _)); refine blk_put (cs := #[.int .i64 t365, .slice Ao34 t366.length co34, .slice Ao35 t369.length co35, .slice Ao36 t372.length co36, .slice Ao37 t375.length co37, .slice none 0 0]) ?_ 5 _ rfl; (with_reducible repeat (first | refine yM ?_ _ | refine yO ?_ | refine yN ?_ _)); refine blk_put (cs := #[.int .i64 t365, .slice Ao34 t366.length co34, .slice Ao35 t369.length co35, .slice Ao36 t372.length co36, .slice none 0 0, .slice none 0 0]) ?_ 4 _ rfl; (with_reducible repeat (first | refine yM ?_ _ | refine yO ?_ | refine yN ?_ _)); refine blk_put (cs := #[.int .i64 t365, .slice Ao34 t366.length co34, .slice Ao35 t369.length co35, .slice none 0 0, .slice none 0 0, .slice none 0 0]) ?_ 3 _ rfl; (with_reducible repeat (first | refine yM ?_ _ | refine yO ?_ | refine yN ?_ _)); refine blk_put (cs := #[.int .i64 t365, .slice Ao34 t366.length co34, .slice none 0 0, .slice none 0 0, .slice none 0 0, .slice none 0 0]) ?_ 2 _ rfl; (with_reducible repeat (first | refine yM ?_ _ | refine yO ?_ | refine yN ?_ _)); refine blk_put (cs := #[.int .i64 t365, .slice none 0 0, .slice none 0 0, .slice none 0 0, .slice none 0 0, .slice none 0 0]) ?_ 1 _ rfl; (with_reducible repeat (first | refine yM ?_ _ | refine yO ?_ | refine yN ?_ _)); refine blk_put (cs := #[.int .i64 0, .slice none 0 0, .slice none 0 0, .slice none 0 0, .slice none 0 0, .slice none 0 0]) ?_ 0 _ rfl; (with_reducible repeat (first | refine yM ?_ _ | refine yO ?_ | refine yN ?_ _)); exact BK381.out) hb); have n8_ := yD (zC (kB HB) hb); clear HO364; clear HO368; clear HO371; clear HO374; clear HO377; clear HO380; clear BK340; clear BK381; clear HB; have HO364 := n0_; have HO368 := n1_; have HO371 := n2_; have HO374 := n3_; have HO377 := n4_; have HO380 := n5_; have BK340 := n6_; have BK381 := n7_; have HB := n8_; clear n0_ n1_ n2_ n3_ n4_ n5_ n6_ n7_ n8_; (try clear hb); (try clear hb2); (try clear hk); (try clear hi)))
        go_meet
        case rel => exact ⟨_, (t382), (by first | rfl | (simp; done) | (simp [*]; done)), H', ⟨by have := HJ2.out; have := HJ6.out; have := HJ10.out; first | omega | exact Nat.le_refl _⟩, ⟨by (with_reducible repeat (first | apply yA | apply yB | apply yC)); exact zF HO364.out (fun _ hk => ⟨hk.1.1.1.2, ⟨hk.1.1.2, ⟨hk.1.2, hk.2⟩⟩⟩)⟩, ⟨by (with_reducible repeat (first | apply yA | apply yB | apply yC)); exact zF HO368.out (fun _ hk => ⟨hk.2, ⟨hk.1.1, ⟨hk.1.2.1, hk.1.2.2⟩⟩⟩)⟩, ⟨by (with_reducible repeat (first | apply yA | apply yB | apply yC)); exact zF HO371.out (fun _ hk => ⟨hk.2, ⟨hk.1.1, ⟨hk.1.2.1, hk.1.2.2⟩⟩⟩)⟩, ⟨by (with_reducible repeat (first | apply yA | apply yB | apply yC)); exact zF HO374.out (fun _ hk => ⟨hk.2, ⟨hk.1.1, ⟨hk.1.2.1, hk.1.2.2⟩⟩⟩)⟩, ⟨by (with_reducible repeat (first | apply yA | apply yB | apply yC)); exact zF HO377.out (fun _ hk => ⟨hk.2, ⟨hk.1.1, ⟨hk.1.2.1, hk.1.2.2⟩⟩⟩)⟩, ⟨by (with_reducible repeat (first | apply yS | apply yT | apply yU)); exact Kd.S_mono HO380.out (fun _ hk => ⟨hk.2, ⟨hk.1.1, ⟨hk.1.2.1, ⟨hk.1.2.2.1, hk.1.2.2.2⟩⟩⟩⟩)⟩, ⟨by (with_reducible repeat (first | refine yM ?_ _ | refine yO ?_ | refine yN ?_ _)); exact BK340.out⟩, ⟨by (with_reducible repeat (first | refine yM ?_ _ | refine yO ?_ | refine yN ?_ _)); exact BK381.out⟩, ⟨by repeat (first | (with_reducible first | exact HB.out | apply yQ | apply yL | apply yP | refine yE ?_ GE340.out | refine yE ?_ GE381.out) | exact HB.out)⟩⟩
       case rest =>
        clear HC27; try clear c1; try clear p2; try clear c3; try clear c4; try clear c5; try clear c5b0; try clear c5b1; try clear c10; try clear c10b0; try clear c13; try clear c14; try clear c15; try clear c16; try clear c17; try clear c32; try clear c40; try clear hcz29_0; try clear hcz29_1; try clear hcz29_2; try clear hcz29_3; try clear hcz29_4; try clear hcz29_5; try clear hcz33_0; try clear hcz33_1; try clear hcz33_2; try clear hcz33_3; try clear hcz33_4; try clear hcz33_5; try clear hcz41_0; try clear hcz41_1; try clear hcz41_2; try clear hcz41_3; try clear hcz41_4; try clear hcz41_5; try clear hcz8_0; try clear hcz8_1; try clear hcz8_2; try clear hcz8_3; try clear hcz8_4; try clear hcz8_5; try clear hfz29_0; try clear hfz29_1; try clear hfz29_2; try clear hfz29_3; try clear hfz29_4; try clear hfz29_5; try clear hfz33_0; try clear hfz33_1; try clear hfz33_2; try clear hfz33_3; try clear hfz33_4; try clear hfz33_5; try clear hfz41_0; try clear hfz41_1; try clear hfz41_2; try clear hfz41_3; try clear hfz41_4; try clear hfz41_5; try clear hfz8_0; try clear hfz8_1; try clear hfz8_2; try clear hfz8_3; try clear hfz8_4; try clear hfz8_5; try clear p2
        obtain ⟨kq, x9_26, rfl, HA, HJ26, HO_7, HO_382001, HO_382002, HO_382003, HO_382004, HO_382005, BK340, BK381, HB⟩ := hcut
        cases kq with
        | zero => exact absurd HA.out (by simp [laws_FnExactSelectedCount.j3])
        | succ kj26 =>
         have H := HA.out; clear HA
         simp only [laws_FnExactSelectedCount.j3] at H
         have HC44 := yD H
         clear H
         go_upto_if 32 with (fail)
         go_cut [] (fun wc => ∃ (kq : Nat), Aside0 (laws_FnExactSelectedCount.j4 kq l0 t362 a1_0 l1_1 l1_2 l1_3 l1_4 l1_5 t365 t366 t369 t372 t375 t378 = some r) ∧ Aside0 (kq ≤ kj26) ∧ Aside0 (Kd.R (Kd.int .i64) 2 wc w.heap.size (fun k_ => some k_ ≠ ((.slice Ao34 t366.length co34) : Value).ownBlock ∧ some k_ ≠ ((.slice Ao35 t369.length co35) : Value).ownBlock ∧ some k_ ≠ ((.slice Ao36 t372.length co36) : Value).ownBlock ∧ some k_ ≠ ((.slice Ao37 t375.length co37) : Value).ownBlock) v363 t362) ∧ Aside0 (Kd.R (Kd.int .i64) 2 wc w.heap.size (fun k_ => some k_ ≠ (v363 : Value).ownBlock ∧ some k_ ≠ ((.slice Ao35 t369.length co35) : Value).ownBlock ∧ some k_ ≠ ((.slice Ao36 t372.length co36) : Value).ownBlock ∧ some k_ ≠ ((.slice Ao37 t375.length co37) : Value).ownBlock) (.slice Ao34 t366.length co34) t366) ∧ Aside0 (Kd.R (Kd.int .i64) 2 wc w.heap.size (fun k_ => some k_ ≠ (v363 : Value).ownBlock ∧ some k_ ≠ ((.slice Ao34 t366.length co34) : Value).ownBlock ∧ some k_ ≠ ((.slice Ao36 t372.length co36) : Value).ownBlock ∧ some k_ ≠ ((.slice Ao37 t375.length co37) : Value).ownBlock) (.slice Ao35 t369.length co35) t369) ∧ Aside0 (Kd.R (Kd.int .i64) 2 wc w.heap.size (fun k_ => some k_ ≠ (v363 : Value).ownBlock ∧ some k_ ≠ ((.slice Ao34 t366.length co34) : Value).ownBlock ∧ some k_ ≠ ((.slice Ao35 t369.length co35) : Value).ownBlock ∧ some k_ ≠ ((.slice Ao37 t375.length co37) : Value).ownBlock) (.slice Ao36 t372.length co36) t372) ∧ Aside0 (Kd.R (Kd.int .i64) 2 wc w.heap.size (fun k_ => some k_ ≠ (v363 : Value).ownBlock ∧ some k_ ≠ ((.slice Ao34 t366.length co34) : Value).ownBlock ∧ some k_ ≠ ((.slice Ao35 t369.length co35) : Value).ownBlock ∧ some k_ ≠ ((.slice Ao36 t372.length co36) : Value).ownBlock) (.slice Ao37 t375.length co37) t375) ∧ Aside0 (Kd.S k65 65 wc w.heap.size (fun k_ => some k_ ≠ (v363 : Value).ownBlock ∧ some k_ ≠ ((.slice Ao34 t366.length co34) : Value).ownBlock ∧ some k_ ≠ ((.slice Ao35 t369.length co35) : Value).ownBlock ∧ some k_ ≠ ((.slice Ao36 t372.length co36) : Value).ownBlock ∧ some k_ ≠ ((.slice Ao37 t375.length co37) : Value).ownBlock) (.slice Ao38 t378.length co38) t378) ∧ Aside0 (wc.heap[gb340]? = some (.cells #[.int .i64 a1_0, (.slice A1_1 l1_1.length c1_1), (.slice A1_2 l1_2.length c1_2), (.slice A1_3 l1_3.length c1_3), (.slice A1_4 l1_4.length c1_4), (.slice A1_5 l1_5.length c1_5)] 35 (0, 0))) ∧ Aside0 (wc.heap[gb381]? = some (.cells #[.int .i64 t365, (.slice Ao34 t366.length co34), (.slice Ao35 t369.length co35), (.slice Ao36 t372.length co36), (.slice Ao37 t375.length co37), (.slice Ao38 t378.length co38)] 41 (0, 0))) ∧ Aside0 (Below w.heap.size w wc))
         case first =>
          have H := HC44.out; clear HC44
          by_cases c45 : x9_26 = x6_10
          ·
           rw [if_pos c45] at H
           have c45b0 : (x9_26 == x6_10) = true := beq_iff_eq.mpr c45
           have c45b1 : (x9_26 != x6_10) = false := bne_eq_false_iff_eq.mpr c45
           clear c45
           (first | rw [c45b0] | (simp only [i64_w, i32_w]; rw [c45b0]) | (simp only [bne] at c45b0; rw [c45b0]) | skip)
           have H' := yD H
           clear H
           go_wp2
           go_meet
           case rel => exact ⟨_, H', ⟨by have := HJ2.out; have := HJ6.out; have := HJ10.out; have := HJ26.out; first | omega | exact Nat.le_refl _⟩, ⟨by (with_reducible repeat (first | apply yA | apply yB | apply yC)); exact HO_7.out⟩, ⟨by (with_reducible repeat (first | apply yA | apply yB | apply yC)); exact HO_382001.out⟩, ⟨by (with_reducible repeat (first | apply yA | apply yB | apply yC)); exact HO_382002.out⟩, ⟨by (with_reducible repeat (first | apply yA | apply yB | apply yC)); exact HO_382003.out⟩, ⟨by (with_reducible repeat (first | apply yA | apply yB | apply yC)); exact HO_382004.out⟩, ⟨by (with_reducible repeat (first | apply yS | apply yT | apply yU)); exact HO_382005.out⟩, ⟨by (with_reducible repeat (first | refine yM ?_ _ | refine yO ?_ | refine yN ?_ _)); exact BK340.out⟩, ⟨by (with_reducible repeat (first | refine yM ?_ _ | refine yO ?_ | refine yN ?_ _)); exact BK381.out⟩, ⟨by repeat (first | (with_reducible first | exact HB.out | apply yQ | apply yL | apply yP | refine yE ?_ GE340.out | refine yE ?_ GE381.out) | exact HB.out)⟩⟩
          ·
           rw [if_neg c45] at H
           have c45b0 : (x9_26 == x6_10) = false := beq_eq_false_iff_ne.mpr c45
           have c45b1 : (x9_26 != x6_10) = true := bne_iff_ne.mpr c45
           (first | rw [c45b0] | (simp only [i64_w, i32_w]; rw [c45b0]) | (simp only [bne] at c45b0; rw [c45b0]) | skip)
           obtain rfl := Option.some.inj H
           go_wp2
           go_ret
           exact ⟨by first | rfl | (simp <;> rfl) | (simp [*] <;> rfl), by repeat (first | (with_reducible first | exact HB.out | apply yQ | apply yL | apply yP | refine yE ?_ GE340.out | refine yE ?_ GE381.out) | exact HB.out)⟩
         case rest =>
          clear HC44; try clear c1; try clear p2; try clear c3; try clear c4; try clear c5; try clear c5b0; try clear c5b1; try clear c10; try clear c10b0; try clear c13; try clear c14; try clear c15; try clear c16; try clear c17; try clear c32; try clear c40; try clear c45; try clear c45b0; try clear c45b1; try clear hcz29_0; try clear hcz29_1; try clear hcz29_2; try clear hcz29_3; try clear hcz29_4; try clear hcz29_5; try clear hcz33_0; try clear hcz33_1; try clear hcz33_2; try clear hcz33_3; try clear hcz33_4; try clear hcz33_5; try clear hcz41_0; try clear hcz41_1; try clear hcz41_2; try clear hcz41_3; try clear hcz41_4; try clear hcz41_5; try clear hcz8_0; try clear hcz8_1; try clear hcz8_2; try clear hcz8_3; try clear hcz8_4; try clear hcz8_5; try clear hfz29_0; try clear hfz29_1; try clear hfz29_2; try clear hfz29_3; try clear hfz29_4; try clear hfz29_5; try clear hfz33_0; try clear hfz33_1; try clear hfz33_2; try clear hfz33_3; try clear hfz33_4; try clear hfz33_5; try clear hfz41_0; try clear hfz41_1; try clear hfz41_2; try clear hfz41_3; try clear hfz41_4; try clear hfz41_5; try clear hfz8_0; try clear hfz8_1; try clear hfz8_2; try clear hfz8_3; try clear hfz8_4; try clear hfz8_5; try clear p2
          obtain ⟨kq, HA, HJ43, HO_7, HO_382001, HO_382002, HO_382003, HO_382004, HO_382005, BK340, BK381, HB⟩ := hcut
          cases kq with
          | zero => exact absurd HA.out (by simp [laws_FnExactSelectedCount.j4])
          | succ kj43 =>
           have H := HA.out; clear HA
           simp only [laws_FnExactSelectedCount.j4] at H
           obtain ⟨t383, A460, H⟩ := zW_ H
           replace H : ((laws_eqInt64S.f kj43 t362 t383).bind fun t386 => (if t386 = true then (laws_FnExactSelectedCount.j5 kj43 a1_0 l1_1 l1_2 l1_3 l1_4 l1_5 t365 t366 t369 t372 t375 t378) else (some false))) = some r := H
           have A46 := yD A460
           clear A460
           obtain ⟨t386, A470, H⟩ := zW_ H
           replace H : (if t386 = true then (laws_FnExactSelectedCount.j5 kj43 a1_0 l1_1 l1_2 l1_3 l1_4 l1_5 t365 t366 t369 t372 t375 t378) else (some false)) = some r := H
           have A47 := yD A470
           clear A470
           have HC48 := yD H
           clear H
           go_upto_if 37 with (first | ((with_reducible refine gate_callee (f := 15) rfl ?_); refine goesL_ (some 35) rfl rfl Try.func15 (by kernel_rfl) rfl #[.slice A0 l0.length c0] rfl (by (try simp only [zK, zL, zM]); first | done | rfl | (simp only [zN, zO]; rfl)) ?_; (with_reducible refine (laws_toInt64S.calls kj43 _ _ l0 t383 _ ?side1 ?side2 A46.out).mono ?_); (case side1 => repeat (first | exact (yY HR0.out HB.out) | (with_reducible first | refine yV ?_ _ | refine yW ?_ _ | refine yX ?_))); (case side2 => exact HC0.out); rintro e w49 ⟨v384, rfl, ho0, hb⟩; refine ⟨_, rfl, ?_⟩; have n0_ := yD (Kd.R_elder' (kA HO_7) (yH ho0) hb); have n1_ := yD (Kd.R_elder' (kA HO_382001) (yH ho0) hb); have n2_ := yD (Kd.R_elder' (kA HO_382002) (yH ho0) hb); have n3_ := yD (Kd.R_elder' (kA HO_382003) (yH ho0) hb); have n4_ := yD (Kd.R_elder' (kA HO_382004) (yH ho0) hb); have n5_ := yD (Kd.S_elder' (by (with_reducible repeat (first | apply yS | apply yT | apply yU)); exact HO_382005.out) (yH ho0) hb); have n6_ := yD (yZ (yJ (yJ (yJ (yJ (yJ ho0 (yK (kA HO_7))) (yK (kA HO_382001))) (yK (kA HO_382002))) (yK (kA HO_382003))) (yK (kA HO_382004))) (below_size (kB HB))); have n7_ := yD (zB (g := gb340) (o := .cells #[.int .i64 a1_0, .slice A1_1 l1_1.length c1_1, .slice A1_2 l1_2.length c1_2, .slice A1_3 l1_3.length c1_3, .slice A1_4 l1_4.length c1_4, .slice A1_5 l1_5.length c1_5] 35 (0, 0)) (kM BK340) hb); have n8_ := yD (zB (g := gb381) (o := .cells #[.int .i64 t365, .slice Ao34 t366.length co34, .slice Ao35 t369.length co35, .slice Ao36 t372.length co36, .slice Ao37 t375.length co37, .slice Ao38 t378.length co38] 41 (0, 0)) (kM BK381) hb); have n9_ := yD (zC (kB HB) hb); clear HO_7; clear HO_382001; clear HO_382002; clear HO_382003; clear HO_382004; clear HO_382005; clear BK340; clear BK381; clear HB; have HO_7 := n0_; have HO_382001 := n1_; have HO_382002 := n2_; have HO_382003 := n3_; have HO_382004 := n4_; have HO_382005 := n5_; have HO385 := n6_; have BK340 := n7_; have BK381 := n8_; have HB := n9_; clear n0_ n1_ n2_ n3_ n4_ n5_ n6_ n7_ n8_ n9_; (try clear hb); (try clear hb2); (try clear hk); (try clear hi); (try clear ho0); obtain ⟨Ao50, co50, eo50⟩ := Kd.R_slice HO_7.out; subst eo50; obtain ⟨Ao51, co51, eo51⟩ := Kd.R_slice HO385.out; subst eo51) | ((with_reducible refine gate_callee (f := 18) rfl ?_); refine goesL_ (some 36) rfl rfl Try.func18 (by kernel_rfl) rfl #[.slice Ao50 t362.length co50, .slice Ao51 t383.length co51] rfl (by (try simp only [zK, zL, zM]); first | done | rfl | (simp only [zN, zO]; rfl)) ?_; (with_reducible refine (laws_eqInt64S.calls kj43 _ _ t362 _ _ t383 t386 _ ?side1 ?side2 ?side3 ?side4 A47.out).mono ?_); (case side1 => repeat (first | exact (zA HO_7.out).2.2 | (with_reducible first | refine yV ?_ _ | refine yW ?_ _ | refine yX ?_))); (case side2 => exact (zA HO_7.out).2.1); (case side3 => repeat (first | exact (zA HO385.out).2.2 | (with_reducible first | refine yV ?_ _ | refine yW ?_ _ | refine yX ?_))); (case side4 => exact (zA HO385.out).2.1); rintro e w' ⟨rfl, ⟨nd, rfl⟩⟩; refine ⟨_, rfl, ?_⟩))
           (try simp only [Act.put, zH, zI, zJ])
           go_cut [] (fun wc => ∃ (kq : Nat), Aside0 (laws_FnExactSelectedCount.j5 kq a1_0 l1_1 l1_2 l1_3 l1_4 l1_5 t365 t366 t369 t372 t375 t378 = some r) ∧ Aside0 (kq ≤ kj43) ∧ Aside0 (Kd.R (Kd.int .i64) 2 wc w.heap.size (fun k_ => some k_ ≠ ((.slice Ao35 t369.length co35) : Value).ownBlock ∧ some k_ ≠ ((.slice Ao36 t372.length co36) : Value).ownBlock ∧ some k_ ≠ ((.slice Ao37 t375.length co37) : Value).ownBlock) (.slice Ao34 t366.length co34) t366) ∧ Aside0 (Kd.R (Kd.int .i64) 2 wc w.heap.size (fun k_ => some k_ ≠ ((.slice Ao34 t366.length co34) : Value).ownBlock ∧ some k_ ≠ ((.slice Ao36 t372.length co36) : Value).ownBlock ∧ some k_ ≠ ((.slice Ao37 t375.length co37) : Value).ownBlock) (.slice Ao35 t369.length co35) t369) ∧ Aside0 (Kd.R (Kd.int .i64) 2 wc w.heap.size (fun k_ => some k_ ≠ ((.slice Ao34 t366.length co34) : Value).ownBlock ∧ some k_ ≠ ((.slice Ao35 t369.length co35) : Value).ownBlock ∧ some k_ ≠ ((.slice Ao37 t375.length co37) : Value).ownBlock) (.slice Ao36 t372.length co36) t372) ∧ Aside0 (Kd.R (Kd.int .i64) 2 wc w.heap.size (fun k_ => some k_ ≠ ((.slice Ao34 t366.length co34) : Value).ownBlock ∧ some k_ ≠ ((.slice Ao35 t369.length co35) : Value).ownBlock ∧ some k_ ≠ ((.slice Ao36 t372.length co36) : Value).ownBlock) (.slice Ao37 t375.length co37) t375) ∧ Aside0 (Kd.S k65 65 wc w.heap.size (fun k_ => some k_ ≠ ((.slice Ao34 t366.length co34) : Value).ownBlock ∧ some k_ ≠ ((.slice Ao35 t369.length co35) : Value).ownBlock ∧ some k_ ≠ ((.slice Ao36 t372.length co36) : Value).ownBlock ∧ some k_ ≠ ((.slice Ao37 t375.length co37) : Value).ownBlock) (.slice Ao38 t378.length co38) t378) ∧ Aside0 (wc.heap[gb340]? = some (.cells #[.int .i64 a1_0, (.slice A1_1 l1_1.length c1_1), (.slice A1_2 l1_2.length c1_2), (.slice A1_3 l1_3.length c1_3), (.slice A1_4 l1_4.length c1_4), (.slice A1_5 l1_5.length c1_5)] 35 (0, 0))) ∧ Aside0 (wc.heap[gb381]? = some (.cells #[.int .i64 t365, (.slice Ao34 t366.length co34), (.slice Ao35 t369.length co35), (.slice Ao36 t372.length co36), (.slice Ao37 t375.length co37), (.slice Ao38 t378.length co38)] 41 (0, 0))) ∧ Aside0 (Below w.heap.size w wc))
           case first =>
            have H := HC48.out; clear HC48
            by_cases c52 : t386 = true
            ·
             subst c52
             have H1 : (laws_FnExactSelectedCount.j5 kj43 a1_0 l1_1 l1_2 l1_3 l1_4 l1_5 t365 t366 t369 t372 t375 t378) = some r := by rw [if_pos rfl] at H; exact H
             clear H; have H := H1; clear H1
             have H' := yD H
             clear H
             go_wp2
             go_meet
             case rel => exact ⟨_, H', ⟨by have := HJ2.out; have := HJ6.out; have := HJ10.out; have := HJ26.out; have := HJ43.out; first | omega | exact Nat.le_refl _⟩, ⟨by (with_reducible repeat (first | apply yA | apply yB | apply yC)); exact zF HO_382001.out (fun _ hk => ⟨hk.1.2.1, ⟨hk.1.2.2.1, hk.1.2.2.2⟩⟩)⟩, ⟨by (with_reducible repeat (first | apply yA | apply yB | apply yC)); exact zF HO_382002.out (fun _ hk => ⟨hk.1.2.1, ⟨hk.1.2.2.1, hk.1.2.2.2⟩⟩)⟩, ⟨by (with_reducible repeat (first | apply yA | apply yB | apply yC)); exact zF HO_382003.out (fun _ hk => ⟨hk.1.2.1, ⟨hk.1.2.2.1, hk.1.2.2.2⟩⟩)⟩, ⟨by (with_reducible repeat (first | apply yA | apply yB | apply yC)); exact zF HO_382004.out (fun _ hk => ⟨hk.1.2.1, ⟨hk.1.2.2.1, hk.1.2.2.2⟩⟩)⟩, ⟨by (with_reducible repeat (first | apply yS | apply yT | apply yU)); exact Kd.S_mono HO_382005.out (fun _ hk => ⟨hk.1.2.1, ⟨hk.1.2.2.1, ⟨hk.1.2.2.2.1, hk.1.2.2.2.2⟩⟩⟩)⟩, ⟨by (with_reducible repeat (first | refine yM ?_ _ | refine yO ?_ | refine yN ?_ _)); exact BK340.out⟩, ⟨by (with_reducible repeat (first | refine yM ?_ _ | refine yO ?_ | refine yN ?_ _)); exact BK381.out⟩, ⟨by repeat (first | (with_reducible first | exact HB.out | apply yQ | apply yL | apply yP | refine yE ?_ GE340.out | refine yE ?_ GE381.out) | exact HB.out)⟩⟩
            ·
             replace c52 := Bool.eq_false_iff.mpr c52
             subst c52
             have H1 : (some false) = some r := by rw [if_neg (show ¬ (false = true) by decide)] at H; exact H
             clear H; have H := H1; clear H1; obtain rfl := Option.some.inj H
             go_wp2
             go_ret
             exact ⟨by first | rfl | (simp <;> rfl) | (simp [*] <;> rfl), by repeat (first | (with_reducible first | exact HB.out | apply yQ | apply yL | apply yP | refine yE ?_ GE340.out | refine yE ?_ GE381.out) | exact HB.out)⟩
           case rest =>
            clear HC48; try clear c1; try clear p2; try clear c3; try clear c4; try clear c5; try clear c5b0; try clear c5b1; try clear c10; try clear c10b0; try clear c13; try clear c14; try clear c15; try clear c16; try clear c17; try clear c18; try clear c32; try clear c40; try clear c45; try clear c45b0; try clear c45b1; try clear c52; try clear hcz29_0; try clear hcz29_1; try clear hcz29_2; try clear hcz29_3; try clear hcz29_4; try clear hcz29_5; try clear hcz33_0; try clear hcz33_1; try clear hcz33_2; try clear hcz33_3; try clear hcz33_4; try clear hcz33_5; try clear hcz41_0; try clear hcz41_1; try clear hcz41_2; try clear hcz41_3; try clear hcz41_4; try clear hcz41_5; try clear hcz8_0; try clear hcz8_1; try clear hcz8_2; try clear hcz8_3; try clear hcz8_4; try clear hcz8_5; try clear hfz29_0; try clear hfz29_1; try clear hfz29_2; try clear hfz29_3; try clear hfz29_4; try clear hfz29_5; try clear hfz33_0; try clear hfz33_1; try clear hfz33_2; try clear hfz33_3; try clear hfz33_4; try clear hfz33_5; try clear hfz41_0; try clear hfz41_1; try clear hfz41_2; try clear hfz41_3; try clear hfz41_4; try clear hfz41_5; try clear hfz8_0; try clear hfz8_1; try clear hfz8_2; try clear hfz8_3; try clear hfz8_4; try clear hfz8_5; try clear p2
            obtain ⟨kq, HA, HJ47, HO_382001, HO_382002, HO_382003, HO_382004, HO_382005, BK340, BK381, HB⟩ := hcut
            cases kq with
            | zero => exact absurd HA.out (by simp [laws_FnExactSelectedCount.j5])
            | succ kj47 =>
             have H := HA.out; clear HA
             simp only [laws_FnExactSelectedCount.j5] at H
             obtain ⟨⟨t387, t388, t391, t394, t397, t400⟩, A530, H⟩ := zW_ H
             replace H : ((laws_eqSelection.f kj47 t365 t366 t369 t372 t375 t378 t387 t388 t391 t394 t397 t400).bind fun t403 => (if t403 = true then (some true) else (some false))) = some r := H
             have A53 := yD A530
             clear A530
             obtain ⟨t403, A540, H⟩ := zW_ H
             replace H : (if t403 = true then (some true) else (some false)) = some r := H
             have A54 := yD A540
             clear A540
             by_cases c55 : t403 = true
             ·
              subst c55
              have H1 : (some true) = some r := by rw [if_pos rfl] at H; exact H
              clear H; have H := H1; clear H1; obtain rfl := Option.some.inj H
              try go_wp2
              have n0_ := yD (yC HO_382001.out)
              have n1_ := yD (yC HO_382002.out)
              have n2_ := yD (yC HO_382003.out)
              have n3_ := yD (yC HO_382004.out)
              have n4_ := yD (yU HO_382005.out)
              have n5_ := yD (yO BK340.out)
              have n6_ := yD (yO BK381.out)
              have n7_ := yD (yP HB.out)
              clear HO_382001 HO_382002 HO_382003 HO_382004 HO_382005 BK340 BK381 HB; have HO_382001 := n0_; have HO_382002 := n1_; have HO_382003 := n2_; have HO_382004 := n3_; have HO_382005 := n4_; have BK340 := n5_; have BK381 := n6_; have HB := n7_; clear n0_ n1_ n2_ n3_ n4_ n5_ n6_ n7_
              refine start_ (n := 5) (S := fun w' => w'.cell? ⟨gb381, 0, none⟩ = some (.int .i64 t365) ∧ w'.cell? ⟨gb381, 1, none⟩ = some (.slice Ao34 t366.length co34) ∧ w'.cell? ⟨gb381, 2, none⟩ = some (.slice Ao35 t369.length co35) ∧ w'.cell? ⟨gb381, 3, none⟩ = some (.slice Ao36 t372.length co36) ∧ w'.cell? ⟨gb381, 4, none⟩ = some (.slice Ao37 t375.length co37) ∧ w'.cell? ⟨gb381, 5, none⟩ = some (.slice Ao38 t378.length co38) ∧ w'.cell? ⟨gb340, 0, none⟩ = some (.int .i64 a1_0) ∧ w'.cell? ⟨gb340, 1, none⟩ = some (.slice A1_1 l1_1.length c1_1) ∧ w'.cell? ⟨gb340, 2, none⟩ = some (.slice A1_2 l1_2.length c1_2) ∧ w'.cell? ⟨gb340, 3, none⟩ = some (.slice A1_3 l1_3.length c1_3) ∧ w'.cell? ⟨gb340, 4, none⟩ = some (.slice A1_4 l1_4.length c1_4) ∧ w'.cell? ⟨gb340, 5, none⟩ = some (.slice A1_5 l1_5.length c1_5)) (ds := []) (bz 5 0) (by kernel_rfl) rfl rfl ⟨(yG BK381.out 0).trans rfl, (yG BK381.out 1).trans rfl, (yG BK381.out 2).trans rfl, (yG BK381.out 3).trans rfl, (yG BK381.out 4).trans rfl, (yG BK381.out 5).trans rfl, (yG BK340.out 0).trans rfl, (yG BK340.out 1).trans rfl, (yG BK340.out 2).trans rfl, (yG BK340.out 3).trans rfl, (yG BK340.out 4).trans rfl, (yG BK340.out 5).trans rfl⟩ (fun hHeld => ?_)
              generalize wc.drew = w56 at HO_382001 HO_382002 HO_382003 HO_382004 HO_382005 BK340 BK381 HB hHeld ⊢
              refine pC 0 38 (bz 5 1) rfl rfl (by kernel_rfl) (fun _ _ _ h => h) (by rfl) hHeld (by rintro w' ⟨s0, s1, s2, s3, s4, s5, s6, s7, s8, s9, s10, s11⟩; go_simp; with_reducible rfl) (by simp only [Act.put, zH, zI, zJ, i64_w, i32_w]; rfl) ?_
              refine pC 1 39 (bz 5 3) rfl rfl (by kernel_rfl) (fun _ _ _ h => h) (by rfl) hHeld (by rintro w' ⟨s0, s1, s2, s3, s4, s5, s6, s7, s8, s9, s10, s11⟩; go_simp; with_reducible rfl) (by simp only [Act.put, zH, zI, zJ, i64_w, i32_w]; rfl) ?_
              refine one_ (i := 2) (N := some 40) (bz 5 7) rfl rfl (by kernel_rfl) (by decide) (fun K hK => ?_)
              refine goes_ Try.func16 (by kernel_rfl) rfl #[.agg #[.int .i64 a1_0, .slice A1_1 l1_1.length c1_1, .slice A1_2 l1_2.length c1_2, .slice A1_3 l1_3.length c1_3, .slice A1_4 l1_4.length c1_4, .slice A1_5 l1_5.length c1_5]] (by rfl) rfl rfl (by (try simp only [zK, zL, zM]); first | done | rfl | (simp only [zN, zO]; rfl)) ?_
              with_reducible refine (laws_toSelection.calls kj47 a1_0 _ _ l1_1 _ _ l1_2 _ _ l1_3 _ _ l1_4 _ _ l1_5 t387 t388 t391 t394 t397 t400 _ ?side1 ?side2 ?side3 ?side4 ?side5 ?side6 ?side7 ?side8 ?side9 ?side10 A53.out).mono ?_
              (case side1 => repeat (first | exact (yY HR1_1.out HB.out) | (with_reducible first | refine yV ?_ _ | refine yW ?_ _ | refine yX ?_)))
              (case side2 => exact HC1_1.out)
              (case side3 => repeat (first | exact (yY HR1_2.out HB.out) | (with_reducible first | refine yV ?_ _ | refine yW ?_ _ | refine yX ?_)))
              (case side4 => exact HC1_2.out)
              (case side5 => repeat (first | exact (yY HR1_3.out HB.out) | (with_reducible first | refine yV ?_ _ | refine yW ?_ _ | refine yX ?_)))
              (case side6 => exact HC1_3.out)
              (case side7 => repeat (first | exact (yY HR1_4.out HB.out) | (with_reducible first | refine yV ?_ _ | refine yW ?_ _ | refine yX ?_)))
              (case side8 => exact HC1_4.out)
              (case side9 => repeat (first | exact (yY HR1_5.out HB.out) | (with_reducible first | refine yV ?_ _ | refine yW ?_ _ | refine yX ?_)))
              (case side10 => exact HC1_5.out)
              rintro e w57 ⟨v389, v392, v395, v398, v401, rfl, ho0, ho1, ho2, ho3, ho4, hb⟩
              refine ⟨_, rfl, ?_⟩
              have n0_ := yD (zF (yI (yI (yI (yI (Kd.R_old (kA HO_382001) hb) (yH ho0)) (yH ho1)) (yH ho2)) (yH ho3)) (fun _ h_ => h_.1))
              have n1_ := yD (zF (yI (yI (yI (yI (Kd.R_old (kA HO_382002) hb) (yH ho0)) (yH ho1)) (yH ho2)) (yH ho3)) (fun _ h_ => h_.1))
              have n2_ := yD (zF (yI (yI (yI (yI (Kd.R_old (kA HO_382003) hb) (yH ho0)) (yH ho1)) (yH ho2)) (yH ho3)) (fun _ h_ => h_.1))
              have n3_ := yD (zF (yI (yI (yI (yI (Kd.R_old (kA HO_382004) hb) (yH ho0)) (yH ho1)) (yH ho2)) (yH ho3)) (fun _ h_ => h_.1))
              have n4_ := yD (Kd.S_mono (Kd.S_told (Kd.S_told (Kd.S_told (Kd.S_told (Kd.S_told (Kd.S_old (by (with_reducible repeat (first | apply yS | apply yT | apply yU)); exact HO_382005.out) hb) (yH ho0)) (yH ho1)) (yH ho2)) (yH ho3)) (Kd.S_base ho4)) (fun _ h_ => h_.1))
              have n5_ := yD (yZ (yJ (yJ (yJ (yJ ho0 (yK (kA HO_382001))) (yK (kA HO_382002))) (yK (kA HO_382003))) (yK (kA HO_382004))) (below_size (kB HB)))
              have n6_ := yD (yZ (yJ (yJ (yJ (yJ ho1 (yK (kA HO_382001))) (yK (kA HO_382002))) (yK (kA HO_382003))) (yK (kA HO_382004))) (below_size (kB HB)))
              have n7_ := yD (yZ (yJ (yJ (yJ (yJ ho2 (yK (kA HO_382001))) (yK (kA HO_382002))) (yK (kA HO_382003))) (yK (kA HO_382004))) (below_size (kB HB)))
              have n8_ := yD (yZ (yJ (yJ (yJ (yJ ho3 (yK (kA HO_382001))) (yK (kA HO_382002))) (yK (kA HO_382003))) (yK (kA HO_382004))) (below_size (kB HB)))
              have n9_ := yD (zG (zD (zD (zD (zD (zD ho4 (yK (kA HO_382001))) (yK (kA HO_382002))) (yK (kA HO_382003))) (yK (kA HO_382004))) (Kd.S_lt (by (with_reducible repeat (first | apply yS | apply yT | apply yU)); exact HO_382005.out))) (below_size (kB HB)))
              have n10_ := yD (zB (g := gb340) (o := .cells #[.int .i64 a1_0, .slice A1_1 l1_1.length c1_1, .slice A1_2 l1_2.length c1_2, .slice A1_3 l1_3.length c1_3, .slice A1_4 l1_4.length c1_4, .slice A1_5 l1_5.length c1_5] 35 (0, 0)) (kM BK340) hb)
              have n11_ := yD (zB (g := gb381) (o := .cells #[.int .i64 t365, .slice Ao34 t366.length co34, .slice Ao35 t369.length co35, .slice Ao36 t372.length co36, .slice Ao37 t375.length co37, .slice Ao38 t378.length co38] 41 (0, 0)) (kM BK381) hb)
              have n12_ := yD (zC (kB HB) hb)
              clear HO_382001 HO_382002 HO_382003 HO_382004 HO_382005 BK340 BK381 HB; have HO_382001 := n0_; have HO_382002 := n1_; have HO_382003 := n2_; have HO_382004 := n3_; have HO_382005 := n4_; have HO390 := n5_; have HO393 := n6_; have HO396 := n7_; have HO399 := n8_; have HO402 := n9_; have BK340 := n10_; have BK381 := n11_; have HB := n12_; clear n0_ n1_ n2_ n3_ n4_ n5_ n6_ n7_ n8_ n9_ n10_ n11_ n12_; (try clear hb); (try clear hb2); (try clear hk); (try clear hi); (try clear ho0); (try clear ho1); (try clear ho2); (try clear ho3); (try clear ho4)
              obtain ⟨Ao58, co58, eo58⟩ := Kd.R_slice HO390.out
              (first | subst eo58 | (injection eo58 with f1_ f2_ f3_; have f4_ := f1_.symm; have f5_ := f3_.symm; clear f1_ f2_ f3_; subst f4_; subst f5_))
              obtain ⟨Ao59, co59, eo59⟩ := Kd.R_slice HO393.out
              (first | subst eo59 | (injection eo59 with f1_ f2_ f3_; have f4_ := f1_.symm; have f5_ := f3_.symm; clear f1_ f2_ f3_; subst f4_; subst f5_))
              obtain ⟨Ao60, co60, eo60⟩ := Kd.R_slice HO396.out
              (first | subst eo60 | (injection eo60 with f1_ f2_ f3_; have f4_ := f1_.symm; have f5_ := f3_.symm; clear f1_ f2_ f3_; subst f4_; subst f5_))
              obtain ⟨Ao61, co61, eo61⟩ := Kd.R_slice HO399.out
              (first | subst eo61 | (injection eo61 with f1_ f2_ f3_; have f4_ := f1_.symm; have f5_ := f3_.symm; clear f1_ f2_ f3_; subst f4_; subst f5_))
              obtain ⟨Ao62, co62, eo62⟩ := Kd.S_slice HO402.out
              (first | subst eo62 | (injection eo62 with f1_ f2_ f3_; have f4_ := f1_.symm; have f5_ := f3_.symm; clear f1_ f2_ f3_; subst f4_; subst f5_))
              refine hK.out _ _ ⟨(yG BK381.out 0).trans rfl, (yG BK381.out 1).trans rfl, (yG BK381.out 2).trans rfl, (yG BK381.out 3).trans rfl, (yG BK381.out 4).trans rfl, (yG BK381.out 5).trans rfl, (yG BK340.out 0).trans rfl, (yG BK340.out 1).trans rfl, (yG BK340.out 2).trans rfl, (yG BK340.out 3).trans rfl, (yG BK340.out 4).trans rfl, (yG BK340.out 5).trans rfl⟩ (fun hHeld => ?_)
              clear hK K
              refine norm_ (by show Act.put _ (some 40) _ = _; simp only [Act.put, zH, zI, zJ, i64_w, i32_w]; rfl) ?_
              refine one_ (i := 3) (N := some 41) (bz 5 15) rfl rfl (by kernel_rfl) (by decide) (fun K hK => ?_)
              refine goes_ Try.func19 (by kernel_rfl) rfl #[.agg #[.int .i64 t365, .slice Ao34 t366.length co34, .slice Ao35 t369.length co35, .slice Ao36 t372.length co36, .slice Ao37 t375.length co37, .slice Ao38 t378.length co38], .agg #[.int .i64 t387, .slice Ao58 t388.length co58, .slice Ao59 t391.length co59, .slice Ao60 t394.length co60, .slice Ao61 t397.length co61, .slice Ao62 t400.length co62]] (by rfl) rfl rfl (by (try simp only [zK, zL, zM]); first | done | rfl | (simp only [zN, zO]; rfl)) ?_
              with_reducible refine (laws_eqSelection.calls kj47 t365 _ _ t366 _ _ t369 _ _ t372 _ _ t375 _ _ t378 t387 _ _ t388 _ _ t391 _ _ t394 _ _ t397 _ _ t400 true _ ?side1 ?side2 ?side3 ?side4 ?side5 ?side6 ?side7 ?side8 ?side9 ?side10 ?side11 ?side12 ?side13 ?side14 ?side15 ?side16 ?side17 ?side18 ?side19 ?side20 A54.out).mono ?_
              (case side1 => repeat (first | exact (zA HO_382001.out).2.2 | (with_reducible first | refine yV ?_ _ | refine yW ?_ _ | refine yX ?_)))
              (case side2 => exact (zA HO_382001.out).2.1)
              (case side3 => repeat (first | exact (zA HO_382002.out).2.2 | (with_reducible first | refine yV ?_ _ | refine yW ?_ _ | refine yX ?_)))
              (case side4 => exact (zA HO_382002.out).2.1)
              (case side5 => repeat (first | exact (zA HO_382003.out).2.2 | (with_reducible first | refine yV ?_ _ | refine yW ?_ _ | refine yX ?_)))
              (case side6 => exact (zA HO_382003.out).2.1)
              (case side7 => repeat (first | exact (zA HO_382004.out).2.2 | (with_reducible first | refine yV ?_ _ | refine yW ?_ _ | refine yX ?_)))
              (case side8 => exact (zA HO_382004.out).2.1)
              (case side9 => repeat (first | exact (Kd.S_reads' HO_382005.out).2.2 | (with_reducible first | refine yV ?_ _ | refine yW ?_ _ | refine yX ?_)))
              (case side10 => exact (Kd.S_reads' HO_382005.out).2.1)
              (case side11 => repeat (first | exact (zA HO390.out).2.2 | (with_reducible first | refine yV ?_ _ | refine yW ?_ _ | refine yX ?_)))
              (case side12 => exact (zA HO390.out).2.1)
              (case side13 => repeat (first | exact (zA HO393.out).2.2 | (with_reducible first | refine yV ?_ _ | refine yW ?_ _ | refine yX ?_)))
              (case side14 => exact (zA HO393.out).2.1)
              (case side15 => repeat (first | exact (zA HO396.out).2.2 | (with_reducible first | refine yV ?_ _ | refine yW ?_ _ | refine yX ?_)))
              (case side16 => exact (zA HO396.out).2.1)
              (case side17 => repeat (first | exact (zA HO399.out).2.2 | (with_reducible first | refine yV ?_ _ | refine yW ?_ _ | refine yX ?_)))
              (case side18 => exact (zA HO399.out).2.1)
              (case side19 => repeat (first | exact (Kd.S_reads' HO402.out).2.2 | (with_reducible first | refine yV ?_ _ | refine yW ?_ _ | refine yX ?_)))
              (case side20 => exact (Kd.S_reads' HO402.out).2.1)
              rintro e w63 ⟨rfl, hb⟩
              refine ⟨_, rfl, ?_⟩
              have n0_ := yD (zE (kA HO_382001) hb)
              have n1_ := yD (zE (kA HO_382002) hb)
              have n2_ := yD (zE (kA HO_382003) hb)
              have n3_ := yD (zE (kA HO_382004) hb)
              have n4_ := yD (Kd.S_below (by (with_reducible repeat (first | apply yS | apply yT | apply yU)); exact HO_382005.out) hb)
              have n5_ := yD (zE (kA HO390) hb)
              have n6_ := yD (zE (kA HO393) hb)
              have n7_ := yD (zE (kA HO396) hb)
              have n8_ := yD (zE (kA HO399) hb)
              have n9_ := yD (Kd.S_below (by (with_reducible repeat (first | apply yS | apply yT | apply yU)); exact HO402.out) hb)
              have n10_ := yD (zB (g := gb340) (o := .cells #[.int .i64 a1_0, .slice A1_1 l1_1.length c1_1, .slice A1_2 l1_2.length c1_2, .slice A1_3 l1_3.length c1_3, .slice A1_4 l1_4.length c1_4, .slice A1_5 l1_5.length c1_5] 35 (0, 0)) (kM BK340) hb)
              have n11_ := yD (zB (g := gb381) (o := .cells #[.int .i64 t365, .slice Ao34 t366.length co34, .slice Ao35 t369.length co35, .slice Ao36 t372.length co36, .slice Ao37 t375.length co37, .slice Ao38 t378.length co38] 41 (0, 0)) (kM BK381) hb)
              have n12_ := yD (zC (kB HB) hb)
              clear HO_382001 HO_382002 HO_382003 HO_382004 HO_382005 HO390 HO393 HO396 HO399 HO402 BK340 BK381 HB; have HO_382001 := n0_; have HO_382002 := n1_; have HO_382003 := n2_; have HO_382004 := n3_; have HO_382005 := n4_; have HO390 := n5_; have HO393 := n6_; have HO396 := n7_; have HO399 := n8_; have HO402 := n9_; have BK340 := n10_; have BK381 := n11_; have HB := n12_; clear n0_ n1_ n2_ n3_ n4_ n5_ n6_ n7_ n8_ n9_ n10_ n11_ n12_; (try clear hb); (try clear hb2); (try clear hk); (try clear hi)
              refine hK.out _ _ ⟨(yG BK381.out 0).trans rfl, (yG BK381.out 1).trans rfl, (yG BK381.out 2).trans rfl, (yG BK381.out 3).trans rfl, (yG BK381.out 4).trans rfl, (yG BK381.out 5).trans rfl, (yG BK340.out 0).trans rfl, (yG BK340.out 1).trans rfl, (yG BK340.out 2).trans rfl, (yG BK340.out 3).trans rfl, (yG BK340.out 4).trans rfl, (yG BK340.out 5).trans rfl⟩ (fun hHeld => ?_)
              clear hK K
              refine norm_ (by show Act.put _ (some 41) _ = _; simp only [Act.put, zH, zI, zJ, i64_w, i32_w]; rfl) ?_
              refine pA 4 42 (bz 5 31) rfl rfl (by kernel_rfl) (fun _ _ _ h => h) (by rfl) (fun _ => by go_simp; with_reducible rfl) (by simp only [Act.put, zH, zI, zJ, i64_w, i32_w]; rfl) ?_
              refine done_ (by kernel_rfl) ?_
              try go_wp2
              go_ret
              exact ⟨by first | rfl | (simp <;> rfl) | (simp [*] <;> rfl), by repeat (first | (with_reducible first | exact HB.out | apply yQ | apply yL | apply yP | refine yE ?_ GE340.out | refine yE ?_ GE381.out) | exact HB.out)⟩
             ·
              replace c55 := Bool.eq_false_iff.mpr c55
              subst c55
              have H1 : (some false) = some r := by rw [if_neg (show ¬ (false = true) by decide)] at H; exact H
              clear H; have H := H1; clear H1; obtain rfl := Option.some.inj H
              try go_wp2
              have n0_ := yD (yC HO_382001.out)
              have n1_ := yD (yC HO_382002.out)
              have n2_ := yD (yC HO_382003.out)
              have n3_ := yD (yC HO_382004.out)
              have n4_ := yD (yU HO_382005.out)
              have n5_ := yD (yO BK340.out)
              have n6_ := yD (yO BK381.out)
              have n7_ := yD (yP HB.out)
              clear HO_382001 HO_382002 HO_382003 HO_382004 HO_382005 BK340 BK381 HB; have HO_382001 := n0_; have HO_382002 := n1_; have HO_382003 := n2_; have HO_382004 := n3_; have HO_382005 := n4_; have BK340 := n5_; have BK381 := n6_; have HB := n7_; clear n0_ n1_ n2_ n3_ n4_ n5_ n6_ n7_
              refine start_ (n := 5) (S := fun w' => w'.cell? ⟨gb381, 0, none⟩ = some (.int .i64 t365) ∧ w'.cell? ⟨gb381, 1, none⟩ = some (.slice Ao34 t366.length co34) ∧ w'.cell? ⟨gb381, 2, none⟩ = some (.slice Ao35 t369.length co35) ∧ w'.cell? ⟨gb381, 3, none⟩ = some (.slice Ao36 t372.length co36) ∧ w'.cell? ⟨gb381, 4, none⟩ = some (.slice Ao37 t375.length co37) ∧ w'.cell? ⟨gb381, 5, none⟩ = some (.slice Ao38 t378.length co38) ∧ w'.cell? ⟨gb340, 0, none⟩ = some (.int .i64 a1_0) ∧ w'.cell? ⟨gb340, 1, none⟩ = some (.slice A1_1 l1_1.length c1_1) ∧ w'.cell? ⟨gb340, 2, none⟩ = some (.slice A1_2 l1_2.length c1_2) ∧ w'.cell? ⟨gb340, 3, none⟩ = some (.slice A1_3 l1_3.length c1_3) ∧ w'.cell? ⟨gb340, 4, none⟩ = some (.slice A1_4 l1_4.length c1_4) ∧ w'.cell? ⟨gb340, 5, none⟩ = some (.slice A1_5 l1_5.length c1_5)) (ds := []) (bz 5 0) (by kernel_rfl) rfl rfl ⟨(yG BK381.out 0).trans rfl, (yG BK381.out 1).trans rfl, (yG BK381.out 2).trans rfl, (yG BK381.out 3).trans rfl, (yG BK381.out 4).trans rfl, (yG BK381.out 5).trans rfl, (yG BK340.out 0).trans rfl, (yG BK340.out 1).trans rfl, (yG BK340.out 2).trans rfl, (yG BK340.out 3).trans rfl, (yG BK340.out 4).trans rfl, (yG BK340.out 5).trans rfl⟩ (fun hHeld => ?_)
              generalize wc.drew = w64 at HO_382001 HO_382002 HO_382003 HO_382004 HO_382005 BK340 BK381 HB hHeld ⊢
              refine pC 0 38 (bz 5 1) rfl rfl (by kernel_rfl) (fun _ _ _ h => h) (by rfl) hHeld (by rintro w' ⟨s0, s1, s2, s3, s4, s5, s6, s7, s8, s9, s10, s11⟩; go_simp; with_reducible rfl) (by simp only [Act.put, zH, zI, zJ, i64_w, i32_w]; rfl) ?_
              refine pC 1 39 (bz 5 3) rfl rfl (by kernel_rfl) (fun _ _ _ h => h) (by rfl) hHeld (by rintro w' ⟨s0, s1, s2, s3, s4, s5, s6, s7, s8, s9, s10, s11⟩; go_simp; with_reducible rfl) (by simp only [Act.put, zH, zI, zJ, i64_w, i32_w]; rfl) ?_
              refine one_ (i := 2) (N := some 40) (bz 5 7) rfl rfl (by kernel_rfl) (by decide) (fun K hK => ?_)
              refine goes_ Try.func16 (by kernel_rfl) rfl #[.agg #[.int .i64 a1_0, .slice A1_1 l1_1.length c1_1, .slice A1_2 l1_2.length c1_2, .slice A1_3 l1_3.length c1_3, .slice A1_4 l1_4.length c1_4, .slice A1_5 l1_5.length c1_5]] (by rfl) rfl rfl (by (try simp only [zK, zL, zM]); first | done | rfl | (simp only [zN, zO]; rfl)) ?_
              with_reducible refine (laws_toSelection.calls kj47 a1_0 _ _ l1_1 _ _ l1_2 _ _ l1_3 _ _ l1_4 _ _ l1_5 t387 t388 t391 t394 t397 t400 _ ?side1 ?side2 ?side3 ?side4 ?side5 ?side6 ?side7 ?side8 ?side9 ?side10 A53.out).mono ?_
              (case side1 => repeat (first | exact (yY HR1_1.out HB.out) | (with_reducible first | refine yV ?_ _ | refine yW ?_ _ | refine yX ?_)))
              (case side2 => exact HC1_1.out)
              (case side3 => repeat (first | exact (yY HR1_2.out HB.out) | (with_reducible first | refine yV ?_ _ | refine yW ?_ _ | refine yX ?_)))
              (case side4 => exact HC1_2.out)
              (case side5 => repeat (first | exact (yY HR1_3.out HB.out) | (with_reducible first | refine yV ?_ _ | refine yW ?_ _ | refine yX ?_)))
              (case side6 => exact HC1_3.out)
              (case side7 => repeat (first | exact (yY HR1_4.out HB.out) | (with_reducible first | refine yV ?_ _ | refine yW ?_ _ | refine yX ?_)))
              (case side8 => exact HC1_4.out)
              (case side9 => repeat (first | exact (yY HR1_5.out HB.out) | (with_reducible first | refine yV ?_ _ | refine yW ?_ _ | refine yX ?_)))
              (case side10 => exact HC1_5.out)
              rintro e w65 ⟨v389, v392, v395, v398, v401, rfl, ho0, ho1, ho2, ho3, ho4, hb⟩
              refine ⟨_, rfl, ?_⟩
              have n0_ := yD (zF (yI (yI (yI (yI (Kd.R_old (kA HO_382001) hb) (yH ho0)) (yH ho1)) (yH ho2)) (yH ho3)) (fun _ h_ => h_.1))
              have n1_ := yD (zF (yI (yI (yI (yI (Kd.R_old (kA HO_382002) hb) (yH ho0)) (yH ho1)) (yH ho2)) (yH ho3)) (fun _ h_ => h_.1))
              have n2_ := yD (zF (yI (yI (yI (yI (Kd.R_old (kA HO_382003) hb) (yH ho0)) (yH ho1)) (yH ho2)) (yH ho3)) (fun _ h_ => h_.1))
              have n3_ := yD (zF (yI (yI (yI (yI (Kd.R_old (kA HO_382004) hb) (yH ho0)) (yH ho1)) (yH ho2)) (yH ho3)) (fun _ h_ => h_.1))
              have n4_ := yD (Kd.S_mono (Kd.S_told (Kd.S_told (Kd.S_told (Kd.S_told (Kd.S_told (Kd.S_old (by (with_reducible repeat (first | apply yS | apply yT | apply yU)); exact HO_382005.out) hb) (yH ho0)) (yH ho1)) (yH ho2)) (yH ho3)) (Kd.S_base ho4)) (fun _ h_ => h_.1))
              have n5_ := yD (yZ (yJ (yJ (yJ (yJ ho0 (yK (kA HO_382001))) (yK (kA HO_382002))) (yK (kA HO_382003))) (yK (kA HO_382004))) (below_size (kB HB)))
              have n6_ := yD (yZ (yJ (yJ (yJ (yJ ho1 (yK (kA HO_382001))) (yK (kA HO_382002))) (yK (kA HO_382003))) (yK (kA HO_382004))) (below_size (kB HB)))
              have n7_ := yD (yZ (yJ (yJ (yJ (yJ ho2 (yK (kA HO_382001))) (yK (kA HO_382002))) (yK (kA HO_382003))) (yK (kA HO_382004))) (below_size (kB HB)))
              have n8_ := yD (yZ (yJ (yJ (yJ (yJ ho3 (yK (kA HO_382001))) (yK (kA HO_382002))) (yK (kA HO_382003))) (yK (kA HO_382004))) (below_size (kB HB)))
              have n9_ := yD (zG (zD (zD (zD (zD (zD ho4 (yK (kA HO_382001))) (yK (kA HO_382002))) (yK (kA HO_382003))) (yK (kA HO_382004))) (Kd.S_lt (by (with_reducible repeat (first | apply yS | apply yT | apply yU)); exact HO_382005.out))) (below_size (kB HB)))
              have n10_ := yD (zB (g := gb340) (o := .cells #[.int .i64 a1_0, .slice A1_1 l1_1.length c1_1, .slice A1_2 l1_2.length c1_2, .slice A1_3 l1_3.length c1_3, .slice A1_4 l1_4.length c1_4, .slice A1_5 l1_5.length c1_5] 35 (0, 0)) (kM BK340) hb)
              have n11_ := yD (zB (g := gb381) (o := .cells #[.int .i64 t365, .slice Ao34 t366.length co34, .slice Ao35 t369.length co35, .slice Ao36 t372.length co36, .slice Ao37 t375.length co37, .slice Ao38 t378.length co38] 41 (0, 0)) (kM BK381) hb)
              have n12_ := yD (zC (kB HB) hb)
              clear HO_382001 HO_382002 HO_382003 HO_382004 HO_382005 BK340 BK381 HB; have HO_382001 := n0_; have HO_382002 := n1_; have HO_382003 := n2_; have HO_382004 := n3_; have HO_382005 := n4_; have HO390 := n5_; have HO393 := n6_; have HO396 := n7_; have HO399 := n8_; have HO402 := n9_; have BK340 := n10_; have BK381 := n11_; have HB := n12_; clear n0_ n1_ n2_ n3_ n4_ n5_ n6_ n7_ n8_ n9_ n10_ n11_ n12_; (try clear hb); (try clear hb2); (try clear hk); (try clear hi); (try clear ho0); (try clear ho1); (try clear ho2); (try clear ho3); (try clear ho4)
              obtain ⟨Ao66, co66, eo66⟩ := Kd.R_slice HO390.out
              (first | subst eo66 | (injection eo66 with f1_ f2_ f3_; have f4_ := f1_.symm; have f5_ := f3_.symm; clear f1_ f2_ f3_; subst f4_; subst f5_))
              obtain ⟨Ao67, co67, eo67⟩ := Kd.R_slice HO393.out
              (first | subst eo67 | (injection eo67 with f1_ f2_ f3_; have f4_ := f1_.symm; have f5_ := f3_.symm; clear f1_ f2_ f3_; subst f4_; subst f5_))
              obtain ⟨Ao68, co68, eo68⟩ := Kd.R_slice HO396.out
              (first | subst eo68 | (injection eo68 with f1_ f2_ f3_; have f4_ := f1_.symm; have f5_ := f3_.symm; clear f1_ f2_ f3_; subst f4_; subst f5_))
              obtain ⟨Ao69, co69, eo69⟩ := Kd.R_slice HO399.out
              (first | subst eo69 | (injection eo69 with f1_ f2_ f3_; have f4_ := f1_.symm; have f5_ := f3_.symm; clear f1_ f2_ f3_; subst f4_; subst f5_))
              obtain ⟨Ao70, co70, eo70⟩ := Kd.S_slice HO402.out
              (first | subst eo70 | (injection eo70 with f1_ f2_ f3_; have f4_ := f1_.symm; have f5_ := f3_.symm; clear f1_ f2_ f3_; subst f4_; subst f5_))
              refine hK.out _ _ ⟨(yG BK381.out 0).trans rfl, (yG BK381.out 1).trans rfl, (yG BK381.out 2).trans rfl, (yG BK381.out 3).trans rfl, (yG BK381.out 4).trans rfl, (yG BK381.out 5).trans rfl, (yG BK340.out 0).trans rfl, (yG BK340.out 1).trans rfl, (yG BK340.out 2).trans rfl, (yG BK340.out 3).trans rfl, (yG BK340.out 4).trans rfl, (yG BK340.out 5).trans rfl⟩ (fun hHeld => ?_)
              clear hK K
              refine norm_ (by show Act.put _ (some 40) _ = _; simp only [Act.put, zH, zI, zJ, i64_w, i32_w]; rfl) ?_
              refine one_ (i := 3) (N := some 41) (bz 5 15) rfl rfl (by kernel_rfl) (by decide) (fun K hK => ?_)
              refine goes_ Try.func19 (by kernel_rfl) rfl #[.agg #[.int .i64 t365, .slice Ao34 t366.length co34, .slice Ao35 t369.length co35, .slice Ao36 t372.length co36, .slice Ao37 t375.length co37, .slice Ao38 t378.length co38], .agg #[.int .i64 t387, .slice Ao66 t388.length co66, .slice Ao67 t391.length co67, .slice Ao68 t394.length co68, .slice Ao69 t397.length co69, .slice Ao70 t400.length co70]] (by rfl) rfl rfl (by (try simp only [zK, zL, zM]); first | done | rfl | (simp only [zN, zO]; rfl)) ?_
              with_reducible refine (laws_eqSelection.calls kj47 t365 _ _ t366 _ _ t369 _ _ t372 _ _ t375 _ _ t378 t387 _ _ t388 _ _ t391 _ _ t394 _ _ t397 _ _ t400 false _ ?side1 ?side2 ?side3 ?side4 ?side5 ?side6 ?side7 ?side8 ?side9 ?side10 ?side11 ?side12 ?side13 ?side14 ?side15 ?side16 ?side17 ?side18 ?side19 ?side20 A54.out).mono ?_
              (case side1 => repeat (first | exact (zA HO_382001.out).2.2 | (with_reducible first | refine yV ?_ _ | refine yW ?_ _ | refine yX ?_)))
              (case side2 => exact (zA HO_382001.out).2.1)
              (case side3 => repeat (first | exact (zA HO_382002.out).2.2 | (with_reducible first | refine yV ?_ _ | refine yW ?_ _ | refine yX ?_)))
              (case side4 => exact (zA HO_382002.out).2.1)
              (case side5 => repeat (first | exact (zA HO_382003.out).2.2 | (with_reducible first | refine yV ?_ _ | refine yW ?_ _ | refine yX ?_)))
              (case side6 => exact (zA HO_382003.out).2.1)
              (case side7 => repeat (first | exact (zA HO_382004.out).2.2 | (with_reducible first | refine yV ?_ _ | refine yW ?_ _ | refine yX ?_)))
              (case side8 => exact (zA HO_382004.out).2.1)
              (case side9 => repeat (first | exact (Kd.S_reads' HO_382005.out).2.2 | (with_reducible first | refine yV ?_ _ | refine yW ?_ _ | refine yX ?_)))
              (case side10 => exact (Kd.S_reads' HO_382005.out).2.1)
              (case side11 => repeat (first | exact (zA HO390.out).2.2 | (with_reducible first | refine yV ?_ _ | refine yW ?_ _ | refine yX ?_)))
              (case side12 => exact (zA HO390.out).2.1)
              (case side13 => repeat (first | exact (zA HO393.out).2.2 | (with_reducible first | refine yV ?_ _ | refine yW ?_ _ | refine yX ?_)))
              (case side14 => exact (zA HO393.out).2.1)
              (case side15 => repeat (first | exact (zA HO396.out).2.2 | (with_reducible first | refine yV ?_ _ | refine yW ?_ _ | refine yX ?_)))
              (case side16 => exact (zA HO396.out).2.1)
              (case side17 => repeat (first | exact (zA HO399.out).2.2 | (with_reducible first | refine yV ?_ _ | refine yW ?_ _ | refine yX ?_)))
              (case side18 => exact (zA HO399.out).2.1)
              (case side19 => repeat (first | exact (Kd.S_reads' HO402.out).2.2 | (with_reducible first | refine yV ?_ _ | refine yW ?_ _ | refine yX ?_)))
              (case side20 => exact (Kd.S_reads' HO402.out).2.1)
              rintro e w71 ⟨rfl, hb⟩
              refine ⟨_, rfl, ?_⟩
              have n0_ := yD (zE (kA HO_382001) hb)
              have n1_ := yD (zE (kA HO_382002) hb)
              have n2_ := yD (zE (kA HO_382003) hb)
              have n3_ := yD (zE (kA HO_382004) hb)
              have n4_ := yD (Kd.S_below (by (with_reducible repeat (first | apply yS | apply yT | apply yU)); exact HO_382005.out) hb)
              have n5_ := yD (zE (kA HO390) hb)
              have n6_ := yD (zE (kA HO393) hb)
              have n7_ := yD (zE (kA HO396) hb)
              have n8_ := yD (zE (kA HO399) hb)
              have n9_ := yD (Kd.S_below (by (with_reducible repeat (first | apply yS | apply yT | apply yU)); exact HO402.out) hb)
              have n10_ := yD (zB (g := gb340) (o := .cells #[.int .i64 a1_0, .slice A1_1 l1_1.length c1_1, .slice A1_2 l1_2.length c1_2, .slice A1_3 l1_3.length c1_3, .slice A1_4 l1_4.length c1_4, .slice A1_5 l1_5.length c1_5] 35 (0, 0)) (kM BK340) hb)
              have n11_ := yD (zB (g := gb381) (o := .cells #[.int .i64 t365, .slice Ao34 t366.length co34, .slice Ao35 t369.length co35, .slice Ao36 t372.length co36, .slice Ao37 t375.length co37, .slice Ao38 t378.length co38] 41 (0, 0)) (kM BK381) hb)
              have n12_ := yD (zC (kB HB) hb)
              clear HO_382001 HO_382002 HO_382003 HO_382004 HO_382005 HO390 HO393 HO396 HO399 HO402 BK340 BK381 HB; have HO_382001 := n0_; have HO_382002 := n1_; have HO_382003 := n2_; have HO_382004 := n3_; have HO_382005 := n4_; have HO390 := n5_; have HO393 := n6_; have HO396 := n7_; have HO399 := n8_; have HO402 := n9_; have BK340 := n10_; have BK381 := n11_; have HB := n12_; clear n0_ n1_ n2_ n3_ n4_ n5_ n6_ n7_ n8_ n9_ n10_ n11_ n12_; (try clear hb); (try clear hb2); (try clear hk); (try clear hi)
              refine hK.out _ _ ⟨(yG BK381.out 0).trans rfl, (yG BK381.out 1).trans rfl, (yG BK381.out 2).trans rfl, (yG BK381.out 3).trans rfl, (yG BK381.out 4).trans rfl, (yG BK381.out 5).trans rfl, (yG BK340.out 0).trans rfl, (yG BK340.out 1).trans rfl, (yG BK340.out 2).trans rfl, (yG BK340.out 3).trans rfl, (yG BK340.out 4).trans rfl, (yG BK340.out 5).trans rfl⟩ (fun hHeld => ?_)
              clear hK K
              refine norm_ (by show Act.put _ (some 41) _ = _; simp only [Act.put, zH, zI, zJ, i64_w, i32_w]; rfl) ?_
              refine pA 4 42 (bz 5 31) rfl rfl (by kernel_rfl) (fun _ _ _ h => h) (by rfl) (fun _ => by go_simp; with_reducible rfl) (by simp only [Act.put, zH, zI, zJ, i64_w, i32_w]; rfl) ?_
              refine done_ (by kernel_rfl) ?_
              try go_wp2
              go_ret
              exact ⟨by first | rfl | (simp <;> rfl) | (simp [*] <;> rfl), by repeat (first | (with_reducible first | exact HB.out | apply yQ | apply yL | apply yP | refine yE ?_ GE340.out | refine yE ?_ GE381.out) | exact HB.out)⟩

-- what data that come in are: numbers of their kinds, lengths that a length can be
def okS61 (x : S61) : Prop := (x.f0.length ≤ maxLen ∧ ∀ x_ ∈ x.f0, (Lit.int .i64 x_).wf = true)
def okS35 (x : S35) : Prop := (Lit.int .i64 x.f0).wf = true ∧ (x.f1.length ≤ maxLen ∧ ∀ x_ ∈ x.f1, (Lit.int .i64 x_).wf = true) ∧ (x.f2.length ≤ maxLen ∧ ∀ x_ ∈ x.f2, (Lit.int .i64 x_).wf = true) ∧ (x.f3.length ≤ maxLen ∧ ∀ x_ ∈ x.f3, (Lit.int .i64 x_).wf = true) ∧ (x.f4.length ≤ maxLen ∧ ∀ x_ ∈ x.f4, (Lit.int .i64 x_).wf = true) ∧ (x.f5.length ≤ maxLen ∧ ∀ x_ ∈ x.f5, okS61 x_)
/-- THE ONE PURE STATEMENT of laws_FnExactSelectedCount: ours. -/
def laws_FnExactSelectedCount.Pure : Prop := ∀ (l0 : List Int) (a1_0 : Int) (l1_1 : List Int) (l1_2 : List Int) (l1_3 : List Int) (l1_4 : List Int) (l1_5 : List (S61)), (l0.length ≤ maxLen ∧ ∀ x_ ∈ l0, (Lit.int .i64 x_).wf = true) → (Lit.int .i64 a1_0).wf = true → (l1_1.length ≤ maxLen ∧ ∀ x_ ∈ l1_1, (Lit.int .i64 x_).wf = true) → (l1_2.length ≤ maxLen ∧ ∀ x_ ∈ l1_2, (Lit.int .i64 x_).wf = true) → (l1_3.length ≤ maxLen ∧ ∀ x_ ∈ l1_3, (Lit.int .i64 x_).wf = true) → (l1_4.length ≤ maxLen ∧ ∀ x_ ∈ l1_4, (Lit.int .i64 x_).wf = true) → (l1_5.length ≤ maxLen ∧ ∀ x_ ∈ l1_5, okS61 x_) → ∃ k, laws_FnExactSelectedCount.f k l0 a1_0 l1_1 l1_2 l1_3 l1_4 l1_5 = some true
theorem laws_FnExactSelectedCount.walk (P : laws_FnExactSelectedCount.Pure) (A0 : Option Addr) (c0 : Nat) (l0 : List Int) (a1_0 : Int) (A1_1 : Option Addr) (c1_1 : Nat) (l1_1 : List Int) (A1_2 : Option Addr) (c1_2 : Nat) (l1_2 : List Int) (A1_3 : Option Addr) (c1_3 : Nat) (l1_3 : List Int) (A1_4 : Option Addr) (c1_4 : Nat) (l1_4 : List Int) (A1_5 : Option Addr) (c1_5 : Nat) (l1_5 : List (S61)) (w : World) (hr0 : Kd.C (Kd.int .i64) w A0 l0.length l0) (hc0 : l0.length ≤ c0) (hr1_1 : Kd.C (Kd.int .i64) w A1_1 l1_1.length l1_1) (hc1_1 : l1_1.length ≤ c1_1) (hr1_2 : Kd.C (Kd.int .i64) w A1_2 l1_2.length l1_2) (hc1_2 : l1_2.length ≤ c1_2) (hr1_3 : Kd.C (Kd.int .i64) w A1_3 l1_3.length l1_3) (hc1_3 : l1_3.length ≤ c1_3) (hr1_4 : Kd.C (Kd.int .i64) w A1_4 l1_4.length l1_4) (hc1_4 : l1_4.length ≤ c1_4) (hr1_5 : Kd.C k61 w A1_5 l1_5.length l1_5) (hc1_5 : l1_5.length ≤ c1_5) (o0 : (l0.length ≤ maxLen ∧ ∀ x_ ∈ l0, (Lit.int .i64 x_).wf = true)) (o1_0 : (Lit.int .i64 a1_0).wf = true) (o1_1 : (l1_1.length ≤ maxLen ∧ ∀ x_ ∈ l1_1, (Lit.int .i64 x_).wf = true)) (o1_2 : (l1_2.length ≤ maxLen ∧ ∀ x_ ∈ l1_2, (Lit.int .i64 x_).wf = true)) (o1_3 : (l1_3.length ≤ maxLen ∧ ∀ x_ ∈ l1_3, (Lit.int .i64 x_).wf = true)) (o1_4 : (l1_4.length ≤ maxLen ∧ ∀ x_ ∈ l1_4, (Lit.int .i64 x_).wf = true)) (o1_5 : (l1_5.length ≤ maxLen ∧ ∀ x_ ∈ l1_5, okS61 x_)) :
  Calls Try.prog 4 #[.slice A0 l0.length c0, .agg #[.int .i64 a1_0, .slice A1_1 l1_1.length c1_1, .slice A1_2 l1_2.length c1_2, .slice A1_3 l1_3.length c1_3, .slice A1_4 l1_4.length c1_4, .slice A1_5 l1_5.length c1_5]] w fun e w' => e = .returned (.bool true) ∧ Below w.heap.size w w' := by
 obtain ⟨k, h⟩ := P l0 a1_0 l1_1 l1_2 l1_3 l1_4 l1_5 o0 o1_0 o1_1 o1_2 o1_3 o1_4 o1_5
 refine (laws_FnExactSelectedCount.calls k _ _ l0 a1_0 _ _ l1_1 _ _ l1_2 _ _ l1_3 _ _ l1_4 _ _ l1_5 true w hr0 hc0 hr1_1 hc1_1 hr1_2 hc1_2 hr1_3 hc1_3 hr1_4 hc1_4 hr1_5 hc1_5 h).mono ?_
 rintro e w' ⟨rfl, hd⟩
 exact ⟨rfl, hd⟩

end Go.Proofs.Ytlfjepcmlgfogaa.PFnExactSelectedCount
