/- Each Go function here comes to what the plain function of its name says, where that says something. Made by a program of this session, over the print. -/
import Derived.Test.YtobdoafjlbifpaaPFnExactFormedSelectionx0
import Derived.Test.YtobdoafjlbifpaaPFnExactFormedSelectionx1
import Derived.Test.YtobdoafjlbifpaaPFnExactFormedSelectionx3
import Derived.Test.YtobdoafjlbifpaaPFnExactFormedSelectionx7
import Derived.Test.YtobdoafjlbifpaaPFnExactFormedSelectionx8
namespace Go.Proofs.Ytobdoafjlbifpaa.PFnExactFormedSelection
open Go.RowKit Go.Proofs.YtobdoafjlbifpaaW.PrintWords Go.Proofs.YtobdoafjlbifpaaW.PrintLast Go.Proofs.YtobdoafjlbifpaaW.PrintMore
attribute [local go_sem] max2_int min2_int max_two min_two max_three min_three max_four min_four   -- for this text's walks alone
set_option linter.unusedVariables false
set_option linter.unusedSimpArgs false

/-! ### laws_FnExactFormedSelection: function 3 -/
mutual
def laws_FnExactFormedSelection.j0 : Nat → Int → List Int → List Int → List Int → List Int → List (S46) → Option (Bool)
 | 0, _, _, _, _, _, _ => none
 | k + 1, x260000, x260001, x260002, x260003, x260004, x260005 => (laws_toSelection.f k x260000 x260001 x260002 x260003 x260004 x260005).bind fun bt261 => ((spec_FormedSelection.f k bt261.1 bt261.2.1 bt261.2.2.1 bt261.2.2.2.1 bt261.2.2.2.2.1 bt261.2.2.2.2.2).bind fun t277 => (laws_FnExactFormedSelection.j1 k t277 x260000 x260001 x260002 x260003 x260004 x260005))
def laws_FnExactFormedSelection.j1 : Nat → Bool → Int → List Int → List Int → List Int → List Int → List (S46) → Option (Bool)
 | 0, _, _, _, _, _, _, _ => none
 | k + 1, x4, x260000, x260001, x260002, x260003, x260004, x260005 => (laws_toSelection.f k x260000 x260001 x260002 x260003 x260004 x260005).bind fun bt278 => ((impl_FormedSelection.f k bt278.1 bt278.2.1 bt278.2.2.1 bt278.2.2.2.1 bt278.2.2.2.2.1 bt278.2.2.2.2.2).bind fun t295 => (laws_FnExactFormedSelection.j2 k x4 t295 x260000 x260001 x260002 x260003 x260004 x260005 bt278.1 bt278.2.1 bt278.2.2.1 bt278.2.2.2.1 bt278.2.2.2.2.1 bt278.2.2.2.2.2))
def laws_FnExactFormedSelection.j2 : Nat → Bool → Bool → Int → List Int → List Int → List Int → List Int → List (S46) → Int → List Int → List Int → List Int → List Int → List (S48) → Option (Bool)
 | 0, _, _, _, _, _, _, _, _, _, _, _, _, _, _ => none
 | k + 1, x4, x6, x260000, x260001, x260002, x260003, x260004, x260005, x295000, x295001, x295002, x295003, x295004, x295005 => if (x6 != x4) = true then (some false) else (laws_FnExactFormedSelection.j3 k x260000 x260001 x260002 x260003 x260004 x260005 x295000 x295001 x295002 x295003 x295004 x295005)
def laws_FnExactFormedSelection.j3 : Nat → Int → List Int → List Int → List Int → List Int → List (S46) → Int → List Int → List Int → List Int → List Int → List (S48) → Option (Bool)
 | 0, _, _, _, _, _, _, _, _, _, _, _, _ => none
 | k + 1, x260000, x260001, x260002, x260003, x260004, x260005, x295000, x295001, x295002, x295003, x295004, x295005 => (laws_toSelection.f k x260000 x260001 x260002 x260003 x260004 x260005).bind fun bt296 => ((laws_eqSelection.f k x295000 x295001 x295002 x295003 x295004 x295005 bt296.1 bt296.2.1 bt296.2.2.1 bt296.2.2.2.1 bt296.2.2.2.2.1 bt296.2.2.2.2.2).bind fun t312 => (if t312 = true then (some true) else (some false)))
end
def laws_FnExactFormedSelection.f (k : Nat) (a0_0 : Int) (l0_1 : List Int) (l0_2 : List Int) (l0_3 : List Int) (l0_4 : List Int) (l0_5 : List (S46)) : Option (Bool) := (laws_szSelection.f k a0_0 l0_1 l0_2 l0_3 l0_4 l0_5 1048576).bind fun t260 => (if t260 < 0 then (some true) else (laws_FnExactFormedSelection.j0 k a0_0 l0_1 l0_2 l0_3 l0_4 l0_5))
theorem laws_FnExactFormedSelection.mono_l : ∀ k, (∀ y0 y1 y2 y3 y4 y5, LeO (laws_FnExactFormedSelection.j0 k y0 y1 y2 y3 y4 y5) (laws_FnExactFormedSelection.j0 (k + 1) y0 y1 y2 y3 y4 y5)) ∧ (∀ y0 y1 y2 y3 y4 y5 y6, LeO (laws_FnExactFormedSelection.j1 k y0 y1 y2 y3 y4 y5 y6) (laws_FnExactFormedSelection.j1 (k + 1) y0 y1 y2 y3 y4 y5 y6)) ∧ (∀ y0 y1 y2 y3 y4 y5 y6 y7 y8 y9 y10 y11 y12 y13, LeO (laws_FnExactFormedSelection.j2 k y0 y1 y2 y3 y4 y5 y6 y7 y8 y9 y10 y11 y12 y13) (laws_FnExactFormedSelection.j2 (k + 1) y0 y1 y2 y3 y4 y5 y6 y7 y8 y9 y10 y11 y12 y13)) ∧ (∀ y0 y1 y2 y3 y4 y5 y6 y7 y8 y9 y10 y11, LeO (laws_FnExactFormedSelection.j3 k y0 y1 y2 y3 y4 y5 y6 y7 y8 y9 y10 y11) (laws_FnExactFormedSelection.j3 (k + 1) y0 y1 y2 y3 y4 y5 y6 y7 y8 y9 y10 y11))
 | 0 => ⟨fun _ _ _ _ _ _ r h => by simp [laws_FnExactFormedSelection.j0] at h, fun _ _ _ _ _ _ _ r h => by simp [laws_FnExactFormedSelection.j1] at h, fun _ _ _ _ _ _ _ _ _ _ _ _ _ _ r h => by simp [laws_FnExactFormedSelection.j2] at h, fun _ _ _ _ _ _ _ _ _ _ _ _ r h => by simp [laws_FnExactFormedSelection.j3] at h⟩
 | k + 1 => by
  obtain ⟨ih0, ih1, ih2, ih3⟩ := laws_FnExactFormedSelection.mono_l k
  refine ⟨?_, ?_, ?_, ?_⟩
  ·
   intro y0 y1 y2 y3 y4 y5
   unfold laws_FnExactFormedSelection.j0
   repeat' first
   | (with_reducible exact ih0 _ _ _ _ _ _)
   | (with_reducible exact ih1 _ _ _ _ _ _ _)
   | (with_reducible exact ih2 _ _ _ _ _ _ _ _ _ _ _ _ _ _)
   | (with_reducible exact ih3 _ _ _ _ _ _ _ _ _ _ _ _)
   | (with_reducible exact impl_FormedSelection.mono _ _ _ _ _ _ _)
   | (with_reducible exact laws_eqSelection.mono _ _ _ _ _ _ _ _ _ _ _ _ _)
   | (with_reducible exact laws_szSelection.mono _ _ _ _ _ _ _ _)
   | (with_reducible exact laws_toSelection.mono _ _ _ _ _ _ _)
   | (with_reducible exact spec_FormedSelection.mono _ _ _ _ _ _ _)
   | (with_reducible exact LeO.refl _)
   | (with_reducible exact LeO.none _)
   | (with_reducible refine LeO.ite ?_ ?_)
   | (with_reducible refine LeO.bind ?_ (fun _ => ?_))
   | exact ih0 _ _ _ _ _ _
   | exact ih1 _ _ _ _ _ _ _
   | exact ih2 _ _ _ _ _ _ _ _ _ _ _ _ _ _
   | exact ih3 _ _ _ _ _ _ _ _ _ _ _ _
   | exact impl_FormedSelection.mono _ _ _ _ _ _ _
   | exact laws_eqSelection.mono _ _ _ _ _ _ _ _ _ _ _ _ _
   | exact laws_szSelection.mono _ _ _ _ _ _ _ _
   | exact laws_toSelection.mono _ _ _ _ _ _ _
   | exact spec_FormedSelection.mono _ _ _ _ _ _ _
   | exact LeO.none _
   | refine LeO.ite ?_ ?_
   | refine LeO.bind ?_ (fun _ => ?_)
  ·
   intro y0 y1 y2 y3 y4 y5 y6
   unfold laws_FnExactFormedSelection.j1
   repeat' first
   | (with_reducible exact ih0 _ _ _ _ _ _)
   | (with_reducible exact ih1 _ _ _ _ _ _ _)
   | (with_reducible exact ih2 _ _ _ _ _ _ _ _ _ _ _ _ _ _)
   | (with_reducible exact ih3 _ _ _ _ _ _ _ _ _ _ _ _)
   | (with_reducible exact impl_FormedSelection.mono _ _ _ _ _ _ _)
   | (with_reducible exact laws_eqSelection.mono _ _ _ _ _ _ _ _ _ _ _ _ _)
   | (with_reducible exact laws_szSelection.mono _ _ _ _ _ _ _ _)
   | (with_reducible exact laws_toSelection.mono _ _ _ _ _ _ _)
   | (with_reducible exact spec_FormedSelection.mono _ _ _ _ _ _ _)
   | (with_reducible exact LeO.refl _)
   | (with_reducible exact LeO.none _)
   | (with_reducible refine LeO.ite ?_ ?_)
   | (with_reducible refine LeO.bind ?_ (fun _ => ?_))
   | exact ih0 _ _ _ _ _ _
   | exact ih1 _ _ _ _ _ _ _
   | exact ih2 _ _ _ _ _ _ _ _ _ _ _ _ _ _
   | exact ih3 _ _ _ _ _ _ _ _ _ _ _ _
   | exact impl_FormedSelection.mono _ _ _ _ _ _ _
   | exact laws_eqSelection.mono _ _ _ _ _ _ _ _ _ _ _ _ _
   | exact laws_szSelection.mono _ _ _ _ _ _ _ _
   | exact laws_toSelection.mono _ _ _ _ _ _ _
   | exact spec_FormedSelection.mono _ _ _ _ _ _ _
   | exact LeO.none _
   | refine LeO.ite ?_ ?_
   | refine LeO.bind ?_ (fun _ => ?_)
  ·
   intro y0 y1 y2 y3 y4 y5 y6 y7 y8 y9 y10 y11 y12 y13
   unfold laws_FnExactFormedSelection.j2
   repeat' first
   | (with_reducible exact ih0 _ _ _ _ _ _)
   | (with_reducible exact ih1 _ _ _ _ _ _ _)
   | (with_reducible exact ih2 _ _ _ _ _ _ _ _ _ _ _ _ _ _)
   | (with_reducible exact ih3 _ _ _ _ _ _ _ _ _ _ _ _)
   | (with_reducible exact impl_FormedSelection.mono _ _ _ _ _ _ _)
   | (with_reducible exact laws_eqSelection.mono _ _ _ _ _ _ _ _ _ _ _ _ _)
   | (with_reducible exact laws_szSelection.mono _ _ _ _ _ _ _ _)
   | (with_reducible exact laws_toSelection.mono _ _ _ _ _ _ _)
   | (with_reducible exact spec_FormedSelection.mono _ _ _ _ _ _ _)
   | (with_reducible exact LeO.refl _)
   | (with_reducible exact LeO.none _)
   | (with_reducible refine LeO.ite ?_ ?_)
   | (with_reducible refine LeO.bind ?_ (fun _ => ?_))
   | exact ih0 _ _ _ _ _ _
   | exact ih1 _ _ _ _ _ _ _
   | exact ih2 _ _ _ _ _ _ _ _ _ _ _ _ _ _
   | exact ih3 _ _ _ _ _ _ _ _ _ _ _ _
   | exact impl_FormedSelection.mono _ _ _ _ _ _ _
   | exact laws_eqSelection.mono _ _ _ _ _ _ _ _ _ _ _ _ _
   | exact laws_szSelection.mono _ _ _ _ _ _ _ _
   | exact laws_toSelection.mono _ _ _ _ _ _ _
   | exact spec_FormedSelection.mono _ _ _ _ _ _ _
   | exact LeO.none _
   | refine LeO.ite ?_ ?_
   | refine LeO.bind ?_ (fun _ => ?_)
  ·
   intro y0 y1 y2 y3 y4 y5 y6 y7 y8 y9 y10 y11
   unfold laws_FnExactFormedSelection.j3
   repeat' first
   | (with_reducible exact ih0 _ _ _ _ _ _)
   | (with_reducible exact ih1 _ _ _ _ _ _ _)
   | (with_reducible exact ih2 _ _ _ _ _ _ _ _ _ _ _ _ _ _)
   | (with_reducible exact ih3 _ _ _ _ _ _ _ _ _ _ _ _)
   | (with_reducible exact impl_FormedSelection.mono _ _ _ _ _ _ _)
   | (with_reducible exact laws_eqSelection.mono _ _ _ _ _ _ _ _ _ _ _ _ _)
   | (with_reducible exact laws_szSelection.mono _ _ _ _ _ _ _ _)
   | (with_reducible exact laws_toSelection.mono _ _ _ _ _ _ _)
   | (with_reducible exact spec_FormedSelection.mono _ _ _ _ _ _ _)
   | (with_reducible exact LeO.refl _)
   | (with_reducible exact LeO.none _)
   | (with_reducible refine LeO.ite ?_ ?_)
   | (with_reducible refine LeO.bind ?_ (fun _ => ?_))
   | exact ih0 _ _ _ _ _ _
   | exact ih1 _ _ _ _ _ _ _
   | exact ih2 _ _ _ _ _ _ _ _ _ _ _ _ _ _
   | exact ih3 _ _ _ _ _ _ _ _ _ _ _ _
   | exact impl_FormedSelection.mono _ _ _ _ _ _ _
   | exact laws_eqSelection.mono _ _ _ _ _ _ _ _ _ _ _ _ _
   | exact laws_szSelection.mono _ _ _ _ _ _ _ _
   | exact laws_toSelection.mono _ _ _ _ _ _ _
   | exact spec_FormedSelection.mono _ _ _ _ _ _ _
   | exact LeO.none _
   | refine LeO.ite ?_ ?_
   | refine LeO.bind ?_ (fun _ => ?_)
theorem laws_FnExactFormedSelection.mono : ∀ a0 a1 a2 a3 a4 a5 k, LeO (laws_FnExactFormedSelection.f k a0 a1 a2 a3 a4 a5) (laws_FnExactFormedSelection.f (k + 1) a0 a1 a2 a3 a4 a5) := by
 intro a0 a1 a2 a3 a4 a5 k
 obtain ⟨ih0, ih1, ih2, ih3⟩ := laws_FnExactFormedSelection.mono_l k
 unfold laws_FnExactFormedSelection.f
 repeat' first
   | (with_reducible exact ih0 _ _ _ _ _ _)
   | (with_reducible exact ih1 _ _ _ _ _ _ _)
   | (with_reducible exact ih2 _ _ _ _ _ _ _ _ _ _ _ _ _ _)
   | (with_reducible exact ih3 _ _ _ _ _ _ _ _ _ _ _ _)
   | (with_reducible exact impl_FormedSelection.mono _ _ _ _ _ _ _)
   | (with_reducible exact laws_eqSelection.mono _ _ _ _ _ _ _ _ _ _ _ _ _)
   | (with_reducible exact laws_szSelection.mono _ _ _ _ _ _ _ _)
   | (with_reducible exact laws_toSelection.mono _ _ _ _ _ _ _)
   | (with_reducible exact spec_FormedSelection.mono _ _ _ _ _ _ _)
   | (with_reducible exact LeO.refl _)
   | (with_reducible exact LeO.none _)
   | (with_reducible refine LeO.ite ?_ ?_)
   | (with_reducible refine LeO.bind ?_ (fun _ => ?_))
   | exact ih0 _ _ _ _ _ _
   | exact ih1 _ _ _ _ _ _ _
   | exact ih2 _ _ _ _ _ _ _ _ _ _ _ _ _ _
   | exact ih3 _ _ _ _ _ _ _ _ _ _ _ _
   | exact impl_FormedSelection.mono _ _ _ _ _ _ _
   | exact laws_eqSelection.mono _ _ _ _ _ _ _ _ _ _ _ _ _
   | exact laws_szSelection.mono _ _ _ _ _ _ _ _
   | exact laws_toSelection.mono _ _ _ _ _ _ _
   | exact spec_FormedSelection.mono _ _ _ _ _ _ _
   | exact LeO.none _
   | refine LeO.ite ?_ ?_
   | refine LeO.bind ?_ (fun _ => ?_)
set_option maxHeartbeats 8000000 in
set_option maxRecDepth 100000 in
theorem laws_FnExactFormedSelection.calls (k : Nat) (a0_0 : Int) (A0_1 : Option Addr) (c0_1 : Nat) (l0_1 : List Int) (A0_2 : Option Addr) (c0_2 : Nat) (l0_2 : List Int) (A0_3 : Option Addr) (c0_3 : Nat) (l0_3 : List Int) (A0_4 : Option Addr) (c0_4 : Nat) (l0_4 : List Int) (A0_5 : Option Addr) (c0_5 : Nat) (l0_5 : List (S46)) (r : Bool) (w : World) (hr0_1 : Kd.C (Kd.int .i64) w A0_1 l0_1.length l0_1) (hc0_1 : l0_1.length ≤ c0_1) (hr0_2 : Kd.C (Kd.int .i64) w A0_2 l0_2.length l0_2) (hc0_2 : l0_2.length ≤ c0_2) (hr0_3 : Kd.C (Kd.int .i64) w A0_3 l0_3.length l0_3) (hc0_3 : l0_3.length ≤ c0_3) (hr0_4 : Kd.C (Kd.int .i64) w A0_4 l0_4.length l0_4) (hc0_4 : l0_4.length ≤ c0_4) (hr0_5 : Kd.C k46 w A0_5 l0_5.length l0_5) (hc0_5 : l0_5.length ≤ c0_5) (h : laws_FnExactFormedSelection.f k a0_0 l0_1 l0_2 l0_3 l0_4 l0_5 = some r) :
  Calls Try.prog 3 #[.agg #[.int .i64 a0_0, .slice A0_1 l0_1.length c0_1, .slice A0_2 l0_2.length c0_2, .slice A0_3 l0_3.length c0_3, .slice A0_4 l0_4.length c0_4, .slice A0_5 l0_5.length c0_5]] w fun e w' => e = .returned (.bool r) ∧ Below w.heap.size w w' := by
 have hu25 := Try.underlying25; have hu30 := Try.underlying30
 have HR0_1 := yD hr0_1
 have HC0_1 := yD hc0_1
 clear hr0_1 hc0_1
 have HR0_2 := yD hr0_2
 have HC0_2 := yD hc0_2
 clear hr0_2 hc0_2
 have HR0_3 := yD hr0_3
 have HC0_3 := yD hc0_3
 clear hr0_3 hc0_3
 have HR0_4 := yD hr0_4
 have HC0_4 := yD hc0_4
 clear hr0_4 hc0_4
 have HR0_5 := yD hr0_5
 have HC0_5 := yD hc0_5
 clear hr0_5 hc0_5
 have HB := yD (Below.refl w.heap.size w)
 have H : ((laws_szSelection.f k a0_0 l0_1 l0_2 l0_3 l0_4 l0_5 1048576).bind fun t260 => (if t260 < 0 then (some true) else (laws_FnExactFormedSelection.j0 k a0_0 l0_1 l0_2 l0_3 l0_4 l0_5))) = some r := h
 clear h
 obtain ⟨t260, A20, H⟩ := zW_ H
 replace H : (if t260 < 0 then (some true) else (laws_FnExactFormedSelection.j0 k a0_0 l0_1 l0_2 l0_3 l0_4 l0_5)) = some r := H
 have A2 := yD A20
 clear A20
 have HC3 := yD H
 clear H; go_enter Try.func3, Try.ntmps3
 go_upto_if 11 with (first | ((with_reducible refine gate_dst (N := 1) rfl ?_); refine box_event ?hg (N := 1) ?hd (cs := #[.int .i64 a0_0, .slice A0_1 l0_1.length c0_1, .slice A0_2 l0_2.length c0_2, .slice A0_3 l0_3.length c0_3, .slice A0_4 l0_4.length c0_4, .slice A0_5 l0_5.length c0_5]) (t := 25) ?hr ?_; (case hd => rfl); (case hg => rfl); (case hr => first | (go_simp; done) | (go_simp; rfl)); intro gb259 hg w4 hbox hb; have n0_ := yD (zC (by exact HB.out) hb); have n1_ := yD (hbox); have n2_ := yD ((by rw [hg]; exact (below_size (by exact HB.out)) : w.heap.size ≤ gb259)); have n3_ := yD ((by rw [hg]; exact (below_size (by exact HB.out)) : w.heap.size ≤ gb259)); clear HB; have HB := n0_; have BK259 := n1_; have GW259 := n2_; have GE259 := n3_; clear n0_ n1_ n2_ n3_; clear hb hbox hg; have hcz5_0 : w4.cell? ⟨gb259, 0, none⟩ = some (.int .i64 a0_0) := (yG BK259.out 0).trans rfl; have hcz5_1 : w4.cell? ⟨gb259, 1, none⟩ = some (.slice A0_1 l0_1.length c0_1) := (yG BK259.out 1).trans rfl; have hcz5_2 : w4.cell? ⟨gb259, 2, none⟩ = some (.slice A0_2 l0_2.length c0_2) := (yG BK259.out 2).trans rfl; have hcz5_3 : w4.cell? ⟨gb259, 3, none⟩ = some (.slice A0_3 l0_3.length c0_3) := (yG BK259.out 3).trans rfl; have hcz5_4 : w4.cell? ⟨gb259, 4, none⟩ = some (.slice A0_4 l0_4.length c0_4) := (yG BK259.out 4).trans rfl; have hcz5_5 : w4.cell? ⟨gb259, 5, none⟩ = some (.slice A0_5 l0_5.length c0_5) := (yG BK259.out 5).trans rfl; have hfz5_0 := yR BK259.out 0; have hfz5_1 := yR BK259.out 1; have hfz5_2 := yR BK259.out 2; have hfz5_3 := yR BK259.out 3; have hfz5_4 := yR BK259.out 4; have hfz5_5 := yR BK259.out 5) | ((with_reducible refine gate_callee (f := 5) rfl ?_); refine goesL_ (some 9) rfl rfl Try.func5 (by kernel_rfl) rfl #[.agg #[.int .i64 a0_0, .slice A0_1 l0_1.length c0_1, .slice A0_2 l0_2.length c0_2, .slice A0_3 l0_3.length c0_3, .slice A0_4 l0_4.length c0_4, .slice A0_5 l0_5.length c0_5], .int .i64 1048576] rfl (by (try simp only [zK, zL, zM]); first | done | rfl | (simp only [zN, zO]; rfl)) ?_; (with_reducible refine (laws_szSelection.calls k a0_0 _ _ l0_1 _ _ l0_2 _ _ l0_3 _ _ l0_4 _ _ l0_5 1048576 t260 _ ?side1 ?side2 ?side3 ?side4 ?side5 ?side6 ?side7 ?side8 ?side9 ?side10 A2.out).mono ?_); (case side1 => exact yY HR0_1.out HB.out); (case side2 => exact HC0_1.out); (case side3 => exact yY HR0_2.out HB.out); (case side4 => exact HC0_2.out); (case side5 => exact yY HR0_3.out HB.out); (case side6 => exact HC0_3.out); (case side7 => exact yY HR0_4.out HB.out); (case side8 => exact HC0_4.out); (case side9 => exact yY HR0_5.out HB.out); (case side10 => exact HC0_5.out); rintro e w6 ⟨rfl, hb⟩; refine ⟨_, rfl, ?_⟩; have n0_ := yD (zB (g := gb259) (o := .cells #[.int .i64 a0_0, .slice A0_1 l0_1.length c0_1, .slice A0_2 l0_2.length c0_2, .slice A0_3 l0_3.length c0_3, .slice A0_4 l0_4.length c0_4, .slice A0_5 l0_5.length c0_5] 25 (0, 0)) (by exact BK259.out) hb); have n1_ := yD (zC (by exact HB.out) hb); clear BK259; clear HB; have BK259 := n0_; have HB := n1_; clear n0_ n1_; (try clear hb); (try clear hb2); (try clear hk); (try clear hi)))
 (try simp only [Act.put, zH, zI, zJ])
 go_cut [] (fun wc => ∃ (kq : Nat), Aside0 (laws_FnExactFormedSelection.j0 kq a0_0 l0_1 l0_2 l0_3 l0_4 l0_5 = some r) ∧ Aside0 (kq ≤ k) ∧ Aside0 (wc.heap[gb259]? = some (.cells #[.int .i64 a0_0, (.slice A0_1 l0_1.length c0_1), (.slice A0_2 l0_2.length c0_2), (.slice A0_3 l0_3.length c0_3), (.slice A0_4 l0_4.length c0_4), (.slice A0_5 l0_5.length c0_5)] 25 (0, 0))) ∧ Aside0 (Below w.heap.size w wc))
 case first =>
  have H := HC3.out; clear HC3
  by_cases c7 : t260 < 0
  ·
   rw [if_pos c7] at H; have c7b0 : decide (t260 < 0) = true := zR c7; clear c7
   (first | rw [c7b0] | (simp only [i64_w, i32_w]; rw [c7b0]) | (simp only [bne] at c7b0; rw [c7b0]) | skip)
   obtain rfl := Option.some.inj H
   go_wp2
   go_ret
   exact ⟨by first | rfl | (simp <;> rfl) | (simp [*] <;> rfl), by repeat (first | (with_reducible first | exact HB.out | apply yQ | apply yL | apply yP | refine yE ?_ GE259.out) | exact HB.out)⟩
  ·
   rw [if_neg c7] at H; have c7b0 : decide (t260 < 0) = false := zS c7; clear c7
   (first | rw [c7b0] | (simp only [i64_w, i32_w]; rw [c7b0]) | (simp only [bne] at c7b0; rw [c7b0]) | skip)
   have H' := yD H
   clear H
   go_wp2
   go_meet
   case rel => exact ⟨_, H', ⟨by first | omega | exact Nat.le_refl _⟩, ⟨by (with_reducible repeat (first | refine yM ?_ _ | refine yO ?_ | refine yN ?_ _)); exact BK259.out⟩, ⟨by repeat (first | (with_reducible first | exact HB.out | apply yQ | apply yL | apply yP | refine yE ?_ GE259.out) | exact HB.out)⟩⟩
 case rest =>
  clear HC3; try clear p2; try clear c3; try clear c5; try clear c7; try clear c7b0; try clear hcz5_0; try clear hcz5_1; try clear hcz5_2; try clear hcz5_3; try clear hcz5_4; try clear hcz5_5; try clear hfz5_0; try clear hfz5_1; try clear hfz5_2; try clear hfz5_3; try clear hfz5_4; try clear hfz5_5
  obtain ⟨kq, HA, HJ2, BK259, HB⟩ := hcut
  cases kq with
  | zero => exact absurd HA.out (by simp [laws_FnExactFormedSelection.j0])
  | succ kj2 =>
   have H := HA.out; clear HA
   simp only [laws_FnExactFormedSelection.j0] at H
   have HC8 := yD H
   clear H
   go_upto_region 5 with (fail)
   go_cut [4] (fun v4 wc => ∃ (kq : Nat) (x4_7 : Bool), v4 = .bool x4_7 ∧ Aside0 (laws_FnExactFormedSelection.j1 kq x4_7 a0_0 l0_1 l0_2 l0_3 l0_4 l0_5 = some r) ∧ Aside0 (kq ≤ kj2) ∧ Aside0 (wc.heap[gb259]? = some (.cells #[.int .i64 a0_0, (.slice A0_1 l0_1.length c0_1), (.slice A0_2 l0_2.length c0_2), (.slice A0_3 l0_3.length c0_3), (.slice A0_4 l0_4.length c0_4), (.slice A0_5 l0_5.length c0_5)] 25 (0, 0))) ∧ Aside0 (Below w.heap.size w wc))
   case first =>
    have H := HC8.out; clear HC8
    obtain ⟨⟨t261, t262, t265, t268, t271, t274⟩, A90, H⟩ := zW_ H
    replace H : ((spec_FormedSelection.f kj2 t261 t262 t265 t268 t271 t274).bind fun t277 => (laws_FnExactFormedSelection.j1 kj2 t277 a0_0 l0_1 l0_2 l0_3 l0_4 l0_5)) = some r := H
    have A9 := yD A90
    clear A90
    obtain ⟨t277, A100, H⟩ := zW_ H
    replace H : (laws_FnExactFormedSelection.j1 kj2 t277 a0_0 l0_1 l0_2 l0_3 l0_4 l0_5) = some r := H
    have A10 := yD A100
    clear A100
    have H' := yD H
    clear H
    have hcz11_0 : wc.cell? ⟨gb259, 0, none⟩ = some (.int .i64 a0_0) := (yG BK259.out 0).trans rfl
    have hcz11_1 : wc.cell? ⟨gb259, 1, none⟩ = some (.slice A0_1 l0_1.length c0_1) := (yG BK259.out 1).trans rfl
    have hcz11_2 : wc.cell? ⟨gb259, 2, none⟩ = some (.slice A0_2 l0_2.length c0_2) := (yG BK259.out 2).trans rfl
    have hcz11_3 : wc.cell? ⟨gb259, 3, none⟩ = some (.slice A0_3 l0_3.length c0_3) := (yG BK259.out 3).trans rfl
    have hcz11_4 : wc.cell? ⟨gb259, 4, none⟩ = some (.slice A0_4 l0_4.length c0_4) := (yG BK259.out 4).trans rfl
    have hcz11_5 : wc.cell? ⟨gb259, 5, none⟩ = some (.slice A0_5 l0_5.length c0_5) := (yG BK259.out 5).trans rfl
    have hfz11_0 := yR BK259.out 0
    have hfz11_1 := yR BK259.out 1
    have hfz11_2 := yR BK259.out 2
    have hfz11_3 := yR BK259.out 3
    have hfz11_4 := yR BK259.out 4
    have hfz11_5 := yR BK259.out 5
    go_wp2_with (first | ((with_reducible refine gate_callee (f := 7) rfl ?_); refine goesL_ (some 13) rfl rfl Try.func7 (by kernel_rfl) rfl #[.agg #[.int .i64 a0_0, .slice A0_1 l0_1.length c0_1, .slice A0_2 l0_2.length c0_2, .slice A0_3 l0_3.length c0_3, .slice A0_4 l0_4.length c0_4, .slice A0_5 l0_5.length c0_5]] rfl (by (try simp only [zK, zL, zM]); first | done | rfl | (simp only [zN, zO]; rfl)) ?_; (with_reducible refine (laws_toSelection.calls kj2 a0_0 _ _ l0_1 _ _ l0_2 _ _ l0_3 _ _ l0_4 _ _ l0_5 t261 t262 t265 t268 t271 t274 _ ?side1 ?side2 ?side3 ?side4 ?side5 ?side6 ?side7 ?side8 ?side9 ?side10 A9.out).mono ?_); (case side1 => exact yY HR0_1.out HB.out); (case side2 => exact HC0_1.out); (case side3 => exact yY HR0_2.out HB.out); (case side4 => exact HC0_2.out); (case side5 => exact yY HR0_3.out HB.out); (case side6 => exact HC0_3.out); (case side7 => exact yY HR0_4.out HB.out); (case side8 => exact HC0_4.out); (case side9 => exact yY HR0_5.out HB.out); (case side10 => exact HC0_5.out); rintro e w12 ⟨v263, v266, v269, v272, v275, rfl, ho0, ho1, ho2, ho3, ho4, hb⟩; refine ⟨_, rfl, ?_⟩; have n0_ := yD (yZ ho0 (below_size (by exact HB.out))); have n1_ := yD (yZ ho1 (below_size (by exact HB.out))); have n2_ := yD (yZ ho2 (below_size (by exact HB.out))); have n3_ := yD (yZ ho3 (below_size (by exact HB.out))); have n4_ := yD (zG ho4 (below_size (by exact HB.out))); have n5_ := yD (zB (g := gb259) (o := .cells #[.int .i64 a0_0, .slice A0_1 l0_1.length c0_1, .slice A0_2 l0_2.length c0_2, .slice A0_3 l0_3.length c0_3, .slice A0_4 l0_4.length c0_4, .slice A0_5 l0_5.length c0_5] 25 (0, 0)) (by exact BK259.out) hb); have n6_ := yD (zC (by exact HB.out) hb); clear BK259; clear HB; have HO264 := n0_; have HO267 := n1_; have HO270 := n2_; have HO273 := n3_; have HO276 := n4_; have BK259 := n5_; have HB := n6_; clear n0_ n1_ n2_ n3_ n4_ n5_ n6_; (try clear hb); (try clear hb2); (try clear hk); (try clear hi); (try clear ho0); (try clear ho1); (try clear ho2); (try clear ho3); (try clear ho4); obtain ⟨Ao13, co13, eo13⟩ := Kd.R_slice HO264.out; subst eo13; obtain ⟨Ao14, co14, eo14⟩ := Kd.R_slice HO267.out; subst eo14; obtain ⟨Ao15, co15, eo15⟩ := Kd.R_slice HO270.out; subst eo15; obtain ⟨Ao16, co16, eo16⟩ := Kd.R_slice HO273.out; subst eo16; obtain ⟨Ao17, co17, eo17⟩ := Kd.S_slice HO276.out; subst eo17) | ((with_reducible refine gate_callee (f := 6) rfl ?_); refine goesL_ (some 14) rfl rfl Try.func6 (by kernel_rfl) rfl #[.agg #[.int .i64 t261, .slice Ao13 t262.length co13, .slice Ao14 t265.length co14, .slice Ao15 t268.length co15, .slice Ao16 t271.length co16, .slice Ao17 t274.length co17]] rfl (by (try simp only [zK, zL, zM]); first | done | rfl | (simp only [zN, zO]; rfl)) ?_; (with_reducible refine (spec_FormedSelection.calls kj2 t261 _ _ t262 _ _ t265 _ _ t268 _ _ t271 _ _ t274 t277 _ ?side1 ?side2 ?side3 ?side4 ?side5 ?side6 ?side7 ?side8 ?side9 ?side10 A10.out).mono ?_); (case side1 => exact (zA HO264.out).2.2); (case side2 => exact (zA HO264.out).2.1); (case side3 => exact (zA HO267.out).2.2); (case side4 => exact (zA HO267.out).2.1); (case side5 => exact (zA HO270.out).2.2); (case side6 => exact (zA HO270.out).2.1); (case side7 => exact (zA HO273.out).2.2); (case side8 => exact (zA HO273.out).2.1); (case side9 => exact (Kd.S_reads' HO276.out).2.2); (case side10 => exact (Kd.S_reads' HO276.out).2.1); rintro e w18 ⟨rfl, hb⟩; refine ⟨_, rfl, ?_⟩; have n0_ := yD (zE (by exact HO264.out) hb); have n1_ := yD (zE (by exact HO267.out) hb); have n2_ := yD (zE (by exact HO270.out) hb); have n3_ := yD (zE (by exact HO273.out) hb); have n4_ := yD (Kd.S_below (by (with_reducible repeat (first | apply yS | apply yT | apply yU)); exact HO276.out) hb); have n5_ := yD (zB (g := gb259) (o := .cells #[.int .i64 a0_0, .slice A0_1 l0_1.length c0_1, .slice A0_2 l0_2.length c0_2, .slice A0_3 l0_3.length c0_3, .slice A0_4 l0_4.length c0_4, .slice A0_5 l0_5.length c0_5] 25 (0, 0)) (by exact BK259.out) hb); have n6_ := yD (zC (by exact HB.out) hb); clear HO264; clear HO267; clear HO270; clear HO273; clear HO276; clear BK259; clear HB; have HO264 := n0_; have HO267 := n1_; have HO270 := n2_; have HO273 := n3_; have HO276 := n4_; have BK259 := n5_; have HB := n6_; clear n0_ n1_ n2_ n3_ n4_ n5_ n6_; (try clear hb); (try clear hb2); (try clear hk); (try clear hi)))
    go_meet
    case rel => exact ⟨_, (t277), (by first | rfl | (simp; done) | (simp [*]; done)), H', ⟨by have := HJ2.out; first | omega | exact Nat.le_refl _⟩, ⟨by (with_reducible repeat (first | refine yM ?_ _ | refine yO ?_ | refine yN ?_ _)); exact BK259.out⟩, ⟨by repeat (first | (with_reducible first | exact HB.out | apply yQ | apply yL | apply yP | refine yE ?_ GE259.out) | exact HB.out)⟩⟩
   case rest =>
    clear HC8; try clear p2; try clear c3; try clear c5; try clear c6; try clear c7; try clear c7b0; try clear hcz11_0; try clear hcz11_1; try clear hcz11_2; try clear hcz11_3; try clear hcz11_4; try clear hcz11_5; try clear hcz5_0; try clear hcz5_1; try clear hcz5_2; try clear hcz5_3; try clear hcz5_4; try clear hcz5_5; try clear hfz11_0; try clear hfz11_1; try clear hfz11_2; try clear hfz11_3; try clear hfz11_4; try clear hfz11_5; try clear hfz5_0; try clear hfz5_1; try clear hfz5_2; try clear hfz5_3; try clear hfz5_4; try clear hfz5_5; try clear p2
    obtain ⟨kq, x4_7, rfl, HA, HJ7, BK259, HB⟩ := hcut
    cases kq with
    | zero => exact absurd HA.out (by simp [laws_FnExactFormedSelection.j1])
    | succ kj7 =>
     have H := HA.out; clear HA
     simp only [laws_FnExactFormedSelection.j1] at H
     obtain ⟨⟨t278, t279, t282, t285, t288, t291⟩, A190, H⟩ := zW_ H
     replace H : ((impl_FormedSelection.f kj7 t278 t279 t282 t285 t288 t291).bind fun t295 => (laws_FnExactFormedSelection.j2 kj7 x4_7 t295 a0_0 l0_1 l0_2 l0_3 l0_4 l0_5 t278 t279 t282 t285 t288 t291)) = some r := H
     have A19 := yD A190
     clear A190
     have HC20 := yD H
     clear H
     have hcz21_0 : wc.cell? ⟨gb259, 0, none⟩ = some (.int .i64 a0_0) := (yG BK259.out 0).trans rfl
     have hcz21_1 : wc.cell? ⟨gb259, 1, none⟩ = some (.slice A0_1 l0_1.length c0_1) := (yG BK259.out 1).trans rfl
     have hcz21_2 : wc.cell? ⟨gb259, 2, none⟩ = some (.slice A0_2 l0_2.length c0_2) := (yG BK259.out 2).trans rfl
     have hcz21_3 : wc.cell? ⟨gb259, 3, none⟩ = some (.slice A0_3 l0_3.length c0_3) := (yG BK259.out 3).trans rfl
     have hcz21_4 : wc.cell? ⟨gb259, 4, none⟩ = some (.slice A0_4 l0_4.length c0_4) := (yG BK259.out 4).trans rfl
     have hcz21_5 : wc.cell? ⟨gb259, 5, none⟩ = some (.slice A0_5 l0_5.length c0_5) := (yG BK259.out 5).trans rfl
     have hfz21_0 := yR BK259.out 0
     have hfz21_1 := yR BK259.out 1
     have hfz21_2 := yR BK259.out 2
     have hfz21_3 := yR BK259.out 3
     have hfz21_4 := yR BK259.out 4
     have hfz21_5 := yR BK259.out 5
     go_upto_region 7 with (first | ((with_reducible refine gate_callee (f := 7) rfl ?_); refine goesL_ (some 16) rfl rfl Try.func7 (by kernel_rfl) rfl #[.agg #[.int .i64 a0_0, .slice A0_1 l0_1.length c0_1, .slice A0_2 l0_2.length c0_2, .slice A0_3 l0_3.length c0_3, .slice A0_4 l0_4.length c0_4, .slice A0_5 l0_5.length c0_5]] rfl (by (try simp only [zK, zL, zM]); first | done | rfl | (simp only [zN, zO]; rfl)) ?_; (with_reducible refine (laws_toSelection.calls kj7 a0_0 _ _ l0_1 _ _ l0_2 _ _ l0_3 _ _ l0_4 _ _ l0_5 t278 t279 t282 t285 t288 t291 _ ?side1 ?side2 ?side3 ?side4 ?side5 ?side6 ?side7 ?side8 ?side9 ?side10 A19.out).mono ?_); (case side1 => exact yY HR0_1.out HB.out); (case side2 => exact HC0_1.out); (case side3 => exact yY HR0_2.out HB.out); (case side4 => exact HC0_2.out); (case side5 => exact yY HR0_3.out HB.out); (case side6 => exact HC0_3.out); (case side7 => exact yY HR0_4.out HB.out); (case side8 => exact HC0_4.out); (case side9 => exact yY HR0_5.out HB.out); (case side10 => exact HC0_5.out); rintro e w22 ⟨v280, v283, v286, v289, v292, rfl, ho0, ho1, ho2, ho3, ho4, hb⟩; refine ⟨_, rfl, ?_⟩; have n0_ := yD (yZ ho0 (below_size (by exact HB.out))); have n1_ := yD (yZ ho1 (below_size (by exact HB.out))); have n2_ := yD (yZ ho2 (below_size (by exact HB.out))); have n3_ := yD (yZ ho3 (below_size (by exact HB.out))); have n4_ := yD (zG ho4 (below_size (by exact HB.out))); have n5_ := yD (zB (g := gb259) (o := .cells #[.int .i64 a0_0, .slice A0_1 l0_1.length c0_1, .slice A0_2 l0_2.length c0_2, .slice A0_3 l0_3.length c0_3, .slice A0_4 l0_4.length c0_4, .slice A0_5 l0_5.length c0_5] 25 (0, 0)) (by exact BK259.out) hb); have n6_ := yD (zC (by exact HB.out) hb); clear BK259; clear HB; have HO281 := n0_; have HO284 := n1_; have HO287 := n2_; have HO290 := n3_; have HO293 := n4_; have BK259 := n5_; have HB := n6_; clear n0_ n1_ n2_ n3_ n4_ n5_ n6_; (try clear hb); (try clear hb2); (try clear hk); (try clear hi); (try clear ho0); (try clear ho1); (try clear ho2); (try clear ho3); (try clear ho4)) | ((with_reducible refine gate_dst (N := 5) rfl ?_); refine box_event ?hg (N := 5) ?hd (cs := #[.int .i64 0, .slice none 0 0, .slice none 0 0, .slice none 0 0, .slice none 0 0, .slice none 0 0]) (t := 30) ?hr ?_; (case hd => rfl); (case hg => rfl); (case hr => first | (go_simp; done) | (go_simp; rfl)); intro gb294 hg w23 hbox hb; have n0_ := yD (zE (by exact HO281.out) hb); have n1_ := yD (zE (by exact HO284.out) hb); have n2_ := yD (zE (by exact HO287.out) hb); have n3_ := yD (zE (by exact HO290.out) hb); have n4_ := yD (Kd.S_below (by (with_reducible repeat (first | apply yS | apply yT | apply yU)); exact HO293.out) hb); have n5_ := yD (zB (g := gb259) (o := .cells #[.int .i64 a0_0, .slice A0_1 l0_1.length c0_1, .slice A0_2 l0_2.length c0_2, .slice A0_3 l0_3.length c0_3, .slice A0_4 l0_4.length c0_4, .slice A0_5 l0_5.length c0_5] 25 (0, 0)) (by exact BK259.out) hb); have n6_ := yD (zC (by exact HB.out) hb); have n7_ := yD (hbox); have n8_ := yD ((by rw [hg]; exact (below_size (by exact HB.out)) : w.heap.size ≤ gb294)); have n9_ := yD ((by rw [hg]; exact (below_size (by exact HB.out)) : w.heap.size ≤ gb294)); have n10_ := yD ((by rw [hg]; exact Nat.ne_of_lt (blk_lt (g := gb259) (o := .cells #[.int .i64 a0_0, .slice A0_1 l0_1.length c0_1, .slice A0_2 l0_2.length c0_2, .slice A0_3 l0_3.length c0_3, .slice A0_4 l0_4.length c0_4, .slice A0_5 l0_5.length c0_5] 25 (0, 0)) (by exact BK259.out)) : gb259 ≠ gb294)); have n11_ := yD ((by rw [hg]; exact Nat.ne_of_gt (blk_lt (g := gb259) (o := .cells #[.int .i64 a0_0, .slice A0_1 l0_1.length c0_1, .slice A0_2 l0_2.length c0_2, .slice A0_3 l0_3.length c0_3, .slice A0_4 l0_4.length c0_4, .slice A0_5 l0_5.length c0_5] 25 (0, 0)) (by exact BK259.out)) : gb294 ≠ gb259)); clear HO281; clear HO284; clear HO287; clear HO290; clear HO293; clear BK259; clear HB; have HO281 := n0_; have HO284 := n1_; have HO287 := n2_; have HO290 := n3_; have HO293 := n4_; have BK259 := n5_; have HB := n6_; have BK294 := n7_; have GW294 := n8_; have GE294 := n9_; have NB259_294 := n10_; have NB294_259 := n11_; clear n0_ n1_ n2_ n3_ n4_ n5_ n6_ n7_ n8_ n9_ n10_ n11_; clear hb hbox hg; have hnb24 := NB294_259.out; have hnc24 := NB259_294.out; have hcz25_0 : w23.cell? ⟨gb294, 0, none⟩ = some (.int .i64 0) := (yG BK294.out 0).trans rfl; have hcz25_1 : w23.cell? ⟨gb294, 1, none⟩ = some (.slice none 0 0) := (yG BK294.out 1).trans rfl; have hcz25_2 : w23.cell? ⟨gb294, 2, none⟩ = some (.slice none 0 0) := (yG BK294.out 2).trans rfl; have hcz25_3 : w23.cell? ⟨gb294, 3, none⟩ = some (.slice none 0 0) := (yG BK294.out 3).trans rfl; have hcz25_4 : w23.cell? ⟨gb294, 4, none⟩ = some (.slice none 0 0) := (yG BK294.out 4).trans rfl; have hcz25_5 : w23.cell? ⟨gb294, 5, none⟩ = some (.slice none 0 0) := (yG BK294.out 5).trans rfl; have hfz25_0 := yR BK294.out 0; have hfz25_1 := yR BK294.out 1; have hfz25_2 := yR BK294.out 2; have hfz25_3 := yR BK294.out 3; have hfz25_4 := yR BK294.out 4; have hfz25_5 := yR BK294.out 5; obtain ⟨Ao26, co26, eo26⟩ := Kd.R_slice HO281.out; subst eo26; obtain ⟨Ao27, co27, eo27⟩ := Kd.R_slice HO284.out; subst eo27; obtain ⟨Ao28, co28, eo28⟩ := Kd.R_slice HO287.out; subst eo28; obtain ⟨Ao29, co29, eo29⟩ := Kd.R_slice HO290.out; subst eo29; obtain ⟨Ao30, co30, eo30⟩ := Kd.S_slice HO293.out; subst eo30))
     (try simp only [Act.put, zH, zI, zJ])
     go_cut [6] (fun v6 wc => ∃ (kq : Nat) (x6_19 : Bool), v6 = .bool x6_19 ∧ Aside0 (laws_FnExactFormedSelection.j2 kq x4_7 x6_19 a0_0 l0_1 l0_2 l0_3 l0_4 l0_5 t278 t279 t282 t285 t288 t291 = some r) ∧ Aside0 (kq ≤ kj7) ∧ Aside0 (Kd.R (Kd.int .i64) 2 wc w.heap.size (fun k_ => some k_ ≠ ((.slice Ao27 t282.length co27) : Value).ownBlock ∧ some k_ ≠ ((.slice Ao28 t285.length co28) : Value).ownBlock ∧ some k_ ≠ ((.slice Ao29 t288.length co29) : Value).ownBlock) (.slice Ao26 t279.length co26) t279) ∧ Aside0 (Kd.R (Kd.int .i64) 2 wc w.heap.size (fun k_ => some k_ ≠ ((.slice Ao26 t279.length co26) : Value).ownBlock ∧ some k_ ≠ ((.slice Ao28 t285.length co28) : Value).ownBlock ∧ some k_ ≠ ((.slice Ao29 t288.length co29) : Value).ownBlock) (.slice Ao27 t282.length co27) t282) ∧ Aside0 (Kd.R (Kd.int .i64) 2 wc w.heap.size (fun k_ => some k_ ≠ ((.slice Ao26 t279.length co26) : Value).ownBlock ∧ some k_ ≠ ((.slice Ao27 t282.length co27) : Value).ownBlock ∧ some k_ ≠ ((.slice Ao29 t288.length co29) : Value).ownBlock) (.slice Ao28 t285.length co28) t285) ∧ Aside0 (Kd.R (Kd.int .i64) 2 wc w.heap.size (fun k_ => some k_ ≠ ((.slice Ao26 t279.length co26) : Value).ownBlock ∧ some k_ ≠ ((.slice Ao27 t282.length co27) : Value).ownBlock ∧ some k_ ≠ ((.slice Ao28 t285.length co28) : Value).ownBlock) (.slice Ao29 t288.length co29) t288) ∧ Aside0 (Kd.S k48 48 wc w.heap.size (fun k_ => some k_ ≠ ((.slice Ao26 t279.length co26) : Value).ownBlock ∧ some k_ ≠ ((.slice Ao27 t282.length co27) : Value).ownBlock ∧ some k_ ≠ ((.slice Ao28 t285.length co28) : Value).ownBlock ∧ some k_ ≠ ((.slice Ao29 t288.length co29) : Value).ownBlock) (.slice Ao30 t291.length co30) t291) ∧ Aside0 (wc.heap[gb259]? = some (.cells #[.int .i64 a0_0, (.slice A0_1 l0_1.length c0_1), (.slice A0_2 l0_2.length c0_2), (.slice A0_3 l0_3.length c0_3), (.slice A0_4 l0_4.length c0_4), (.slice A0_5 l0_5.length c0_5)] 25 (0, 0))) ∧ Aside0 (wc.heap[gb294]? = some (.cells #[.int .i64 t278, (.slice Ao26 t279.length co26), (.slice Ao27 t282.length co27), (.slice Ao28 t285.length co28), (.slice Ao29 t288.length co29), (.slice Ao30 t291.length co30)] 30 (0, 0))) ∧ Aside0 (Below w.heap.size w wc))
     case first =>
      have H := HC20.out; clear HC20
      obtain ⟨t295, A310, H⟩ := zW_ H
      replace H : (laws_FnExactFormedSelection.j2 kj7 x4_7 t295 a0_0 l0_1 l0_2 l0_3 l0_4 l0_5 t278 t279 t282 t285 t288 t291) = some r := H
      have A31 := yD A310
      clear A310
      have H' := yD H
      clear H; have hnb32 := NB294_259.out; have hnc32 := NB259_294.out
      have hcz33_0 : w23.cell? ⟨gb294, 0, none⟩ = some (.int .i64 0) := (yG BK294.out 0).trans rfl
      have hcz33_1 : w23.cell? ⟨gb294, 1, none⟩ = some (.slice none 0 0) := (yG BK294.out 1).trans rfl
      have hcz33_2 : w23.cell? ⟨gb294, 2, none⟩ = some (.slice none 0 0) := (yG BK294.out 2).trans rfl
      have hcz33_3 : w23.cell? ⟨gb294, 3, none⟩ = some (.slice none 0 0) := (yG BK294.out 3).trans rfl
      have hcz33_4 : w23.cell? ⟨gb294, 4, none⟩ = some (.slice none 0 0) := (yG BK294.out 4).trans rfl
      have hcz33_5 : w23.cell? ⟨gb294, 5, none⟩ = some (.slice none 0 0) := (yG BK294.out 5).trans rfl
      have hfz33_0 := yR BK294.out 0
      have hfz33_1 := yR BK294.out 1
      have hfz33_2 := yR BK294.out 2
      have hfz33_3 := yR BK294.out 3
      have hfz33_4 := yR BK294.out 4
      have hfz33_5 := yR BK294.out 5
      go_wp2_with (first | ((with_reducible refine gate_callee (f := 8) rfl ?_); refine goesL_ (some 18) rfl rfl Try.func8 (by kernel_rfl) rfl #[.agg #[.int .i64 t278, .slice Ao26 t279.length co26, .slice Ao27 t282.length co27, .slice Ao28 t285.length co28, .slice Ao29 t288.length co29, .slice Ao30 t291.length co30]] rfl (by (try simp only [zK, zL, zM]); first | done | rfl | (simp only [zN, zO]; rfl)) ?_; (with_reducible refine (impl_FormedSelection.calls kj7 t278 _ _ t279 _ _ t282 _ _ t285 _ _ t288 _ _ t291 t295 _ ?side1 ?side2 ?side3 ?side4 ?side5 ?side6 ?side7 ?side8 ?side9 ?side10 A31.out).mono ?_); (case side1 => refine (zA (e := 2) (base := w.heap.size) (ok := fun k_ => (some k_ ≠ (.slice Ao27 t282.length co27 : Value).ownBlock ∧ (some k_ ≠ (.slice Ao28 t285.length co28 : Value).ownBlock ∧ some k_ ≠ (.slice Ao29 t288.length co29 : Value).ownBlock))) (n := t279.length) (c := co26) ?_).2.2; exact (by exact zF (yF (p := ⟨gb294, 5, none⟩) (yF (p := ⟨gb294, 4, none⟩) (yF (p := ⟨gb294, 3, none⟩) (yF (p := ⟨gb294, 2, none⟩) (yF (p := ⟨gb294, 1, none⟩) (yF (p := ⟨gb294, 0, none⟩) (Kd.R_types HO281.out BK294.out (by decide)) (fun _ hk => hk.2) (.int .i64 t278)) (fun _ hk => hk.2) (.slice Ao26 t279.length co26)) (fun _ hk => hk.2) (.slice Ao27 t282.length co27)) (fun _ hk => hk.2) (.slice Ao28 t285.length co28)) (fun _ hk => hk.2) (.slice Ao29 t288.length co29)) (fun _ hk => hk.2) (.slice Ao30 t291.length co30)) (fun _ h_ => h_.1))); (case side2 => exact (zA HO281.out).2.1); (case side3 => refine (zA (e := 2) (base := w.heap.size) (ok := fun k_ => (some k_ ≠ (.slice Ao26 t279.length co26 : Value).ownBlock ∧ (some k_ ≠ (.slice Ao28 t285.length co28 : Value).ownBlock ∧ some k_ ≠ (.slice Ao29 t288.length co29 : Value).ownBlock))) (n := t282.length) (c := co27) ?_).2.2; exact (by exact zF (yF (p := ⟨gb294, 5, none⟩) (yF (p := ⟨gb294, 4, none⟩) (yF (p := ⟨gb294, 3, none⟩) (yF (p := ⟨gb294, 2, none⟩) (yF (p := ⟨gb294, 1, none⟩) (yF (p := ⟨gb294, 0, none⟩) (Kd.R_types HO284.out BK294.out (by decide)) (fun _ hk => hk.2) (.int .i64 t278)) (fun _ hk => hk.2) (.slice Ao26 t279.length co26)) (fun _ hk => hk.2) (.slice Ao27 t282.length co27)) (fun _ hk => hk.2) (.slice Ao28 t285.length co28)) (fun _ hk => hk.2) (.slice Ao29 t288.length co29)) (fun _ hk => hk.2) (.slice Ao30 t291.length co30)) (fun _ h_ => h_.1))); (case side4 => exact (zA HO284.out).2.1); (case side5 => refine (zA (e := 2) (base := w.heap.size) (ok := fun k_ => (some k_ ≠ (.slice Ao26 t279.length co26 : Value).ownBlock ∧ (some k_ ≠ (.slice Ao27 t282.length co27 : Value).ownBlock ∧ some k_ ≠ (.slice Ao29 t288.length co29 : Value).ownBlock))) (n := t285.length) (c := co28) ?_).2.2; exact (by exact zF (yF (p := ⟨gb294, 5, none⟩) (yF (p := ⟨gb294, 4, none⟩) (yF (p := ⟨gb294, 3, none⟩) (yF (p := ⟨gb294, 2, none⟩) (yF (p := ⟨gb294, 1, none⟩) (yF (p := ⟨gb294, 0, none⟩) (Kd.R_types HO287.out BK294.out (by decide)) (fun _ hk => hk.2) (.int .i64 t278)) (fun _ hk => hk.2) (.slice Ao26 t279.length co26)) (fun _ hk => hk.2) (.slice Ao27 t282.length co27)) (fun _ hk => hk.2) (.slice Ao28 t285.length co28)) (fun _ hk => hk.2) (.slice Ao29 t288.length co29)) (fun _ hk => hk.2) (.slice Ao30 t291.length co30)) (fun _ h_ => h_.1))); (case side6 => exact (zA HO287.out).2.1); (case side7 => refine (zA (e := 2) (base := w.heap.size) (ok := fun k_ => (some k_ ≠ (.slice Ao26 t279.length co26 : Value).ownBlock ∧ (some k_ ≠ (.slice Ao27 t282.length co27 : Value).ownBlock ∧ some k_ ≠ (.slice Ao28 t285.length co28 : Value).ownBlock))) (n := t288.length) (c := co29) ?_).2.2; exact (by exact zF (yF (p := ⟨gb294, 5, none⟩) (yF (p := ⟨gb294, 4, none⟩) (yF (p := ⟨gb294, 3, none⟩) (yF (p := ⟨gb294, 2, none⟩) (yF (p := ⟨gb294, 1, none⟩) (yF (p := ⟨gb294, 0, none⟩) (Kd.R_types HO290.out BK294.out (by decide)) (fun _ hk => hk.2) (.int .i64 t278)) (fun _ hk => hk.2) (.slice Ao26 t279.length co26)) (fun _ hk => hk.2) (.slice Ao27 t282.length co27)) (fun _ hk => hk.2) (.slice Ao28 t285.length co28)) (fun _ hk => hk.2) (.slice Ao29 t288.length co29)) (fun _ hk => hk.2) (.slice Ao30 t291.length co30)) (fun _ h_ => h_.1))); (case side8 => exact (zA HO290.out).2.1); (case side9 => refine (Kd.S_reads' (e := 48) (base := w.heap.size) (ok := fun k_ => (some k_ ≠ (.slice Ao26 t279.length co26 : Value).ownBlock ∧ (some k_ ≠ (.slice Ao27 t282.length co27 : Value).ownBlock ∧ (some k_ ≠ (.slice Ao28 t285.length co28 : Value).ownBlock ∧ some k_ ≠ (.slice Ao29 t288.length co29 : Value).ownBlock)))) (n := t291.length) (c := co30) ?_).2.2; exact (by (with_reducible repeat (first | apply yS | apply yT | apply yU)); exact (Kd.S_mono (Kd.S_far (p := ⟨gb294, 5, none⟩) (Kd.S_far (p := ⟨gb294, 4, none⟩) (Kd.S_far (p := ⟨gb294, 3, none⟩) (Kd.S_far (p := ⟨gb294, 2, none⟩) (Kd.S_far (p := ⟨gb294, 1, none⟩) (Kd.S_far (p := ⟨gb294, 0, none⟩) (Kd.S_types HO293.out BK294.out (by decide)) (fun _ hk => hk.2) (.int .i64 t278)) (fun _ hk => hk.2) (.slice Ao26 t279.length co26)) (fun _ hk => hk.2) (.slice Ao27 t282.length co27)) (fun _ hk => hk.2) (.slice Ao28 t285.length co28)) (fun _ hk => hk.2) (.slice Ao29 t288.length co29)) (fun _ hk => hk.2) (.slice Ao30 t291.length co30)) (fun _ h_ => h_.1)))); (case side10 => exact (Kd.S_reads' HO293.out).2.1); rintro e w34 ⟨rfl, hb⟩; refine ⟨_, rfl, ?_⟩; have n0_ := yD (zE (by exact zF (yF (p := ⟨gb294, 5, none⟩) (yF (p := ⟨gb294, 4, none⟩) (yF (p := ⟨gb294, 3, none⟩) (yF (p := ⟨gb294, 2, none⟩) (yF (p := ⟨gb294, 1, none⟩) (yF (p := ⟨gb294, 0, none⟩) (Kd.R_types HO281.out BK294.out (by decide)) (fun _ hk => hk.2) (.int .i64 t278)) (fun _ hk => hk.2) (.slice Ao26 t279.length co26)) (fun _ hk => hk.2) (.slice Ao27 t282.length co27)) (fun _ hk => hk.2) (.slice Ao28 t285.length co28)) (fun _ hk => hk.2) (.slice Ao29 t288.length co29)) (fun _ hk => hk.2) (.slice Ao30 t291.length co30)) (fun _ h_ => h_.1)) hb); have n1_ := yD (zE (by exact zF (yF (p := ⟨gb294, 5, none⟩) (yF (p := ⟨gb294, 4, none⟩) (yF (p := ⟨gb294, 3, none⟩) (yF (p := ⟨gb294, 2, none⟩) (yF (p := ⟨gb294, 1, none⟩) (yF (p := ⟨gb294, 0, none⟩) (Kd.R_types HO284.out BK294.out (by decide)) (fun _ hk => hk.2) (.int .i64 t278)) (fun _ hk => hk.2) (.slice Ao26 t279.length co26)) (fun _ hk => hk.2) (.slice Ao27 t282.length co27)) (fun _ hk => hk.2) (.slice Ao28 t285.length co28)) (fun _ hk => hk.2) (.slice Ao29 t288.length co29)) (fun _ hk => hk.2) (.slice Ao30 t291.length co30)) (fun _ h_ => h_.1)) hb); have n2_ := yD (zE (by exact zF (yF (p := ⟨gb294, 5, none⟩) (yF (p := ⟨gb294, 4, none⟩) (yF (p := ⟨gb294, 3, none⟩) (yF (p := ⟨gb294, 2, none⟩) (yF (p := ⟨gb294, 1, none⟩) (yF (p := ⟨gb294, 0, none⟩) (Kd.R_types HO287.out BK294.out (by decide)) (fun _ hk => hk.2) (.int .i64 t278)) (fun _ hk => hk.2) (.slice Ao26 t279.length co26)) (fun _ hk => hk.2) (.slice Ao27 t282.length co27)) (fun _ hk => hk.2) (.slice Ao28 t285.length co28)) (fun _ hk => hk.2) (.slice Ao29 t288.length co29)) (fun _ hk => hk.2) (.slice Ao30 t291.length co30)) (fun _ h_ => h_.1)) hb); have n3_ := yD (zE (by exact zF (yF (p := ⟨gb294, 5, none⟩) (yF (p := ⟨gb294, 4, none⟩) (yF (p := ⟨gb294, 3, none⟩) (yF (p := ⟨gb294, 2, none⟩) (yF (p := ⟨gb294, 1, none⟩) (yF (p := ⟨gb294, 0, none⟩) (Kd.R_types HO290.out BK294.out (by decide)) (fun _ hk => hk.2) (.int .i64 t278)) (fun _ hk => hk.2) (.slice Ao26 t279.length co26)) (fun _ hk => hk.2) (.slice Ao27 t282.length co27)) (fun _ hk => hk.2) (.slice Ao28 t285.length co28)) (fun _ hk => hk.2) (.slice Ao29 t288.length co29)) (fun _ hk => hk.2) (.slice Ao30 t291.length co30)) (fun _ h_ => h_.1)) hb); have n4_ := yD (Kd.S_below (by (with_reducible repeat (first | apply yS | apply yT | apply yU)); exact (Kd.S_mono (Kd.S_far (p := ⟨gb294, 5, none⟩) (Kd.S_far (p := ⟨gb294, 4, none⟩) (Kd.S_far (p := ⟨gb294, 3, none⟩) (Kd.S_far (p := ⟨gb294, 2, none⟩) (Kd.S_far (p := ⟨gb294, 1, none⟩) (Kd.S_far (p := ⟨gb294, 0, none⟩) (Kd.S_types HO293.out BK294.out (by decide)) (fun _ hk => hk.2) (.int .i64 t278)) (fun _ hk => hk.2) (.slice Ao26 t279.length co26)) (fun _ hk => hk.2) (.slice Ao27 t282.length co27)) (fun _ hk => hk.2) (.slice Ao28 t285.length co28)) (fun _ hk => hk.2) (.slice Ao29 t288.length co29)) (fun _ hk => hk.2) (.slice Ao30 t291.length co30)) (fun _ h_ => h_.1))) hb); have n5_ := yD (zB (g := gb259) (o := .cells #[.int .i64 a0_0, .slice A0_1 l0_1.length c0_1, .slice A0_2 l0_2.length c0_2, .slice A0_3 l0_3.length c0_3, .slice A0_4 l0_4.length c0_4, .slice A0_5 l0_5.length c0_5] 25 (0, 0)) (by (with_reducible repeat (first | refine yM ?_ _ | refine yO ?_ | refine yN ?_ _)); refine blk_far ?_ NB259_294.out _; (with_reducible repeat (first | refine yM ?_ _ | refine yO ?_ | refine yN ?_ _)); refine blk_far ?_ NB259_294.out _; (with_reducible repeat (first | refine yM ?_ _ | refine yO ?_ | refine yN ?_ _)); refine blk_far ?_ NB259_294.out _; (with_reducible repeat (first | refine yM ?_ _ | refine yO ?_ | refine yN ?_ _)); refine blk_far ?_ NB259_294.out _; (with_reducible repeat (first | refine yM ?_ _ | refine yO ?_ | refine yN ?_ _)); refine blk_far ?_ NB259_294.out _; (with_reducible repeat (first | refine yM ?_ _ | refine yO ?_ | refine yN ?_ _)); refine blk_far ?_ NB259_294.out _; (with_reducible repeat (first | refine yM ?_ _ | refine yO ?_ | refine yN ?_ _)); exact BK259.out) hb); have n6_ := yD (zB (g := gb294) (o := .cells #[.int .i64 t278, .slice Ao26 t279.length co26, .slice Ao27 t282.length co27, .slice Ao28 t285.length co28, .slice Ao29 t288.length co29, .slice Ao30 t291.length co30] 30 (0, 0)) (by (with_reducible repeat (first | refine yM ?_ _ | refine yO ?_ | refine yN ?_ _)); refine blk_put (cs := #[.int .i64 t278, .slice Ao26 t279.length co26, .slice Ao27 t282.length co27, .slice Ao28 t285.length co28, .slice Ao29 t288.length co29, .slice none 0 0]) ?_ 5 _ rfl; (with_reducible repeat (first | refine yM ?_ _ | refine yO ?_ | refine yN ?_ _)); refine blk_put (cs := #[.int .i64 t278, .slice Ao26 t279.length co26, .slice Ao27 t282.length co27, .slice Ao28 t285.length co28, .slice none 0 0, .slice none 0 0]) ?_ 4 _ rfl; (with_reducible repeat (first | refine yM ?_ _ | refine yO ?_ | refine yN ?_ _)); refine blk_put (cs := #[.int .i64 t278, .slice Ao26 t279.length co26, .slice Ao27 t282.length co27, .slice none 0 0, .slice none 0 0, .slice none 0 0]) ?_ 3 _ rfl; (with_reducible repeat (first | refine yM ?_ _ | refine yO ?_ | refine yN ?_ _)); refine blk_put (cs := #[.int .i64 t278, .slice Ao26 t279.length co26, .slice none 0 0, .slice none 0 0, .slice none 0 0, .slice none 0 0]) ?_ 2 _ rfl; (with_reducible repeat (first | refine yM ?_ _ | refine yO ?_ | refine yN ?_ _)); refine blk_put (cs := #[.int .i64 t278, .slice none 0 0, .slice none 0 0, .slice none 0 0, .slice none 0 0, .slice none 0 0]) ?_ 1 _ rfl; (with_reducible repeat (first | refine yM ?_ _ | refine yO ?_ | refine yN ?_ _)); refine blk_put (cs := #[.int .i64 0, .slice none 0 0, .slice none 0 0, .slice none 0 0, .slice none 0 0, .slice none 0 0]) ?_ 0 _ rfl; (with_reducible repeat (first | refine yM ?_ _ | refine yO ?_ | refine yN ?_ _)); exact BK294.out) hb); have n7_ := yD (zC (by refine yE ?_ GE294.out; refine yE ?_ GE294.out; refine yE ?_ GE294.out; refine yE ?_ GE294.out; refine yE ?_ GE294.out; refine yE ?_ GE294.out; exact HB.out) hb); clear HO281; clear HO284; clear HO287; clear HO290; clear HO293; clear BK259; clear BK294; clear HB; have HO281 := n0_; have HO284 := n1_; have HO287 := n2_; have HO290 := n3_; have HO293 := n4_; have BK259 := n5_; have BK294 := n6_; have HB := n7_; clear n0_ n1_ n2_ n3_ n4_ n5_ n6_ n7_; (try clear hb); (try clear hb2); (try clear hk); (try clear hi)))
      go_meet
      case rel => exact ⟨_, (t295), (by first | rfl | (simp; done) | (simp [*]; done)), H', ⟨by have := HJ2.out; have := HJ7.out; first | omega | exact Nat.le_refl _⟩, ⟨by (with_reducible repeat (first | apply yA | apply yB | apply yC)); exact HO281.out⟩, ⟨by (with_reducible repeat (first | apply yA | apply yB | apply yC)); exact HO284.out⟩, ⟨by (with_reducible repeat (first | apply yA | apply yB | apply yC)); exact HO287.out⟩, ⟨by (with_reducible repeat (first | apply yA | apply yB | apply yC)); exact HO290.out⟩, ⟨by (with_reducible repeat (first | apply yS | apply yT | apply yU)); exact HO293.out⟩, ⟨by (with_reducible repeat (first | refine yM ?_ _ | refine yO ?_ | refine yN ?_ _)); exact BK259.out⟩, ⟨by (with_reducible repeat (first | refine yM ?_ _ | refine yO ?_ | refine yN ?_ _)); exact BK294.out⟩, ⟨by repeat (first | (with_reducible first | exact HB.out | apply yQ | apply yL | apply yP | refine yE ?_ GE259.out | refine yE ?_ GE294.out) | exact HB.out)⟩⟩
     case rest =>
      clear HC20; try clear c2; try clear p2; try clear c3; try clear c5; try clear c6; try clear c7; try clear c7b0; try clear c8; try clear c24; try clear c32; try clear hcz11_0; try clear hcz11_1; try clear hcz11_2; try clear hcz11_3; try clear hcz11_4; try clear hcz11_5; try clear hcz21_0; try clear hcz21_1; try clear hcz21_2; try clear hcz21_3; try clear hcz21_4; try clear hcz21_5; try clear hcz25_0; try clear hcz25_1; try clear hcz25_2; try clear hcz25_3; try clear hcz25_4; try clear hcz25_5; try clear hcz33_0; try clear hcz33_1; try clear hcz33_2; try clear hcz33_3; try clear hcz33_4; try clear hcz33_5; try clear hcz5_0; try clear hcz5_1; try clear hcz5_2; try clear hcz5_3; try clear hcz5_4; try clear hcz5_5; try clear hfz11_0; try clear hfz11_1; try clear hfz11_2; try clear hfz11_3; try clear hfz11_4; try clear hfz11_5; try clear hfz21_0; try clear hfz21_1; try clear hfz21_2; try clear hfz21_3; try clear hfz21_4; try clear hfz21_5; try clear hfz25_0; try clear hfz25_1; try clear hfz25_2; try clear hfz25_3; try clear hfz25_4; try clear hfz25_5; try clear hfz33_0; try clear hfz33_1; try clear hfz33_2; try clear hfz33_3; try clear hfz33_4; try clear hfz33_5; try clear hfz5_0; try clear hfz5_1; try clear hfz5_2; try clear hfz5_3; try clear hfz5_4; try clear hfz5_5; try clear p2
      obtain ⟨kq, x6_19, rfl, HA, HJ19, HO_295001, HO_295002, HO_295003, HO_295004, HO_295005, BK259, BK294, HB⟩ := hcut
      cases kq with
      | zero => exact absurd HA.out (by simp [laws_FnExactFormedSelection.j2])
      | succ kj19 =>
       have H := HA.out; clear HA
       simp only [laws_FnExactFormedSelection.j2] at H
       have HC35 := yD H
       clear H
       go_upto_if 21 with (fail)
       go_cut [] (fun wc => ∃ (kq : Nat), Aside0 (laws_FnExactFormedSelection.j3 kq a0_0 l0_1 l0_2 l0_3 l0_4 l0_5 t278 t279 t282 t285 t288 t291 = some r) ∧ Aside0 (kq ≤ kj19) ∧ Aside0 (Kd.R (Kd.int .i64) 2 wc w.heap.size (fun k_ => some k_ ≠ ((.slice Ao27 t282.length co27) : Value).ownBlock ∧ some k_ ≠ ((.slice Ao28 t285.length co28) : Value).ownBlock ∧ some k_ ≠ ((.slice Ao29 t288.length co29) : Value).ownBlock) (.slice Ao26 t279.length co26) t279) ∧ Aside0 (Kd.R (Kd.int .i64) 2 wc w.heap.size (fun k_ => some k_ ≠ ((.slice Ao26 t279.length co26) : Value).ownBlock ∧ some k_ ≠ ((.slice Ao28 t285.length co28) : Value).ownBlock ∧ some k_ ≠ ((.slice Ao29 t288.length co29) : Value).ownBlock) (.slice Ao27 t282.length co27) t282) ∧ Aside0 (Kd.R (Kd.int .i64) 2 wc w.heap.size (fun k_ => some k_ ≠ ((.slice Ao26 t279.length co26) : Value).ownBlock ∧ some k_ ≠ ((.slice Ao27 t282.length co27) : Value).ownBlock ∧ some k_ ≠ ((.slice Ao29 t288.length co29) : Value).ownBlock) (.slice Ao28 t285.length co28) t285) ∧ Aside0 (Kd.R (Kd.int .i64) 2 wc w.heap.size (fun k_ => some k_ ≠ ((.slice Ao26 t279.length co26) : Value).ownBlock ∧ some k_ ≠ ((.slice Ao27 t282.length co27) : Value).ownBlock ∧ some k_ ≠ ((.slice Ao28 t285.length co28) : Value).ownBlock) (.slice Ao29 t288.length co29) t288) ∧ Aside0 (Kd.S k48 48 wc w.heap.size (fun k_ => some k_ ≠ ((.slice Ao26 t279.length co26) : Value).ownBlock ∧ some k_ ≠ ((.slice Ao27 t282.length co27) : Value).ownBlock ∧ some k_ ≠ ((.slice Ao28 t285.length co28) : Value).ownBlock ∧ some k_ ≠ ((.slice Ao29 t288.length co29) : Value).ownBlock) (.slice Ao30 t291.length co30) t291) ∧ Aside0 (wc.heap[gb259]? = some (.cells #[.int .i64 a0_0, (.slice A0_1 l0_1.length c0_1), (.slice A0_2 l0_2.length c0_2), (.slice A0_3 l0_3.length c0_3), (.slice A0_4 l0_4.length c0_4), (.slice A0_5 l0_5.length c0_5)] 25 (0, 0))) ∧ Aside0 (wc.heap[gb294]? = some (.cells #[.int .i64 t278, (.slice Ao26 t279.length co26), (.slice Ao27 t282.length co27), (.slice Ao28 t285.length co28), (.slice Ao29 t288.length co29), (.slice Ao30 t291.length co30)] 30 (0, 0))) ∧ Aside0 (Below w.heap.size w wc))
       case first =>
        have H := HC35.out; clear HC35
        by_cases c36 : (x6_19 != x4_7) = true
        ·
         rw [if_pos c36] at H
         have c36b0 : (x6_19 != x4_7) = true := c36
         (try (have c36b1 : decide (x6_19 = x4_7) = false := by simpa using c36))
         (try (have c36b2 : (x6_19 == x4_7) = false := by simpa using c36))
         (try (have c36b3 : ¬ (x6_19 = x4_7) := by simpa using c36))
         clear c36
         (first | rw [c36b0] | (simp only [i64_w, i32_w]; rw [c36b0]) | (simp only [bne] at c36b0; rw [c36b0]) | skip)
         obtain rfl := Option.some.inj H
         go_wp2
         go_ret
         exact ⟨by first | rfl | (simp <;> rfl) | (simp [*] <;> rfl), by repeat (first | (with_reducible first | exact HB.out | apply yQ | apply yL | apply yP | refine yE ?_ GE259.out | refine yE ?_ GE294.out) | exact HB.out)⟩
        ·
         rw [if_neg c36] at H
         have c36b0 : (x6_19 != x4_7) = false := by simpa using c36
         (try (have c36b1 : decide (x6_19 = x4_7) = true := by simpa using c36))
         (try (have c36b2 : (x6_19 == x4_7) = true := by simpa using c36))
         clear c36
         (first | rw [c36b0] | (simp only [i64_w, i32_w]; rw [c36b0]) | (simp only [bne] at c36b0; rw [c36b0]) | skip)
         have H' := yD H
         clear H
         go_wp2
         go_meet
         case rel => exact ⟨_, H', ⟨by have := HJ2.out; have := HJ7.out; have := HJ19.out; first | omega | exact Nat.le_refl _⟩, ⟨by (with_reducible repeat (first | apply yA | apply yB | apply yC)); exact HO_295001.out⟩, ⟨by (with_reducible repeat (first | apply yA | apply yB | apply yC)); exact HO_295002.out⟩, ⟨by (with_reducible repeat (first | apply yA | apply yB | apply yC)); exact HO_295003.out⟩, ⟨by (with_reducible repeat (first | apply yA | apply yB | apply yC)); exact HO_295004.out⟩, ⟨by (with_reducible repeat (first | apply yS | apply yT | apply yU)); exact HO_295005.out⟩, ⟨by (with_reducible repeat (first | refine yM ?_ _ | refine yO ?_ | refine yN ?_ _)); exact BK259.out⟩, ⟨by (with_reducible repeat (first | refine yM ?_ _ | refine yO ?_ | refine yN ?_ _)); exact BK294.out⟩, ⟨by repeat (first | (with_reducible first | exact HB.out | apply yQ | apply yL | apply yP | refine yE ?_ GE259.out | refine yE ?_ GE294.out) | exact HB.out)⟩⟩
       case rest =>
        clear HC35; try clear c2; try clear p2; try clear c3; try clear c5; try clear c6; try clear c7; try clear c7b0; try clear c8; try clear c24; try clear c32; try clear c36; try clear c36b0; try clear c36b1; try clear c36b2; try clear hcz11_0; try clear hcz11_1; try clear hcz11_2; try clear hcz11_3; try clear hcz11_4; try clear hcz11_5; try clear hcz21_0; try clear hcz21_1; try clear hcz21_2; try clear hcz21_3; try clear hcz21_4; try clear hcz21_5; try clear hcz25_0; try clear hcz25_1; try clear hcz25_2; try clear hcz25_3; try clear hcz25_4; try clear hcz25_5; try clear hcz33_0; try clear hcz33_1; try clear hcz33_2; try clear hcz33_3; try clear hcz33_4; try clear hcz33_5; try clear hcz5_0; try clear hcz5_1; try clear hcz5_2; try clear hcz5_3; try clear hcz5_4; try clear hcz5_5; try clear hfz11_0; try clear hfz11_1; try clear hfz11_2; try clear hfz11_3; try clear hfz11_4; try clear hfz11_5; try clear hfz21_0; try clear hfz21_1; try clear hfz21_2; try clear hfz21_3; try clear hfz21_4; try clear hfz21_5; try clear hfz25_0; try clear hfz25_1; try clear hfz25_2; try clear hfz25_3; try clear hfz25_4; try clear hfz25_5; try clear hfz33_0; try clear hfz33_1; try clear hfz33_2; try clear hfz33_3; try clear hfz33_4; try clear hfz33_5; try clear hfz5_0; try clear hfz5_1; try clear hfz5_2; try clear hfz5_3; try clear hfz5_4; try clear hfz5_5; try clear p2
        obtain ⟨kq, HA, HJ34, HO_295001, HO_295002, HO_295003, HO_295004, HO_295005, BK259, BK294, HB⟩ := hcut
        cases kq with
        | zero => exact absurd HA.out (by simp [laws_FnExactFormedSelection.j3])
        | succ kj34 =>
         have H := HA.out; clear HA
         simp only [laws_FnExactFormedSelection.j3] at H
         obtain ⟨⟨t296, t297, t300, t303, t306, t309⟩, A370, H⟩ := zW_ H
         replace H : ((laws_eqSelection.f kj34 t278 t279 t282 t285 t288 t291 t296 t297 t300 t303 t306 t309).bind fun t312 => (if t312 = true then (some true) else (some false))) = some r := H
         have A37 := yD A370
         clear A370
         obtain ⟨t312, A380, H⟩ := zW_ H
         replace H : (if t312 = true then (some true) else (some false)) = some r := H
         have A38 := yD A380
         clear A380
         by_cases c39 : t312 = true
         ·
          subst c39
          have H1 : (some true) = some r := by rw [if_pos rfl] at H; exact H
          clear H; have H := H1; clear H1; obtain rfl := Option.some.inj H
          try go_wp2
          have n0_ := yD (yC HO_295001.out)
          have n1_ := yD (yC HO_295002.out)
          have n2_ := yD (yC HO_295003.out)
          have n3_ := yD (yC HO_295004.out)
          have n4_ := yD (yU HO_295005.out)
          have n5_ := yD (yO BK259.out)
          have n6_ := yD (yO BK294.out)
          have n7_ := yD (yP HB.out)
          clear HO_295001 HO_295002 HO_295003 HO_295004 HO_295005 BK259 BK294 HB; have HO_295001 := n0_; have HO_295002 := n1_; have HO_295003 := n2_; have HO_295004 := n3_; have HO_295005 := n4_; have BK259 := n5_; have BK294 := n6_; have HB := n7_; clear n0_ n1_ n2_ n3_ n4_ n5_ n6_ n7_
          refine start_ (n := 5) (S := fun w' => w'.cell? ⟨gb294, 0, none⟩ = some (.int .i64 t278) ∧ w'.cell? ⟨gb294, 1, none⟩ = some (.slice Ao26 t279.length co26) ∧ w'.cell? ⟨gb294, 2, none⟩ = some (.slice Ao27 t282.length co27) ∧ w'.cell? ⟨gb294, 3, none⟩ = some (.slice Ao28 t285.length co28) ∧ w'.cell? ⟨gb294, 4, none⟩ = some (.slice Ao29 t288.length co29) ∧ w'.cell? ⟨gb294, 5, none⟩ = some (.slice Ao30 t291.length co30) ∧ w'.cell? ⟨gb259, 0, none⟩ = some (.int .i64 a0_0) ∧ w'.cell? ⟨gb259, 1, none⟩ = some (.slice A0_1 l0_1.length c0_1) ∧ w'.cell? ⟨gb259, 2, none⟩ = some (.slice A0_2 l0_2.length c0_2) ∧ w'.cell? ⟨gb259, 3, none⟩ = some (.slice A0_3 l0_3.length c0_3) ∧ w'.cell? ⟨gb259, 4, none⟩ = some (.slice A0_4 l0_4.length c0_4) ∧ w'.cell? ⟨gb259, 5, none⟩ = some (.slice A0_5 l0_5.length c0_5)) (ds := []) #[false, false, false, false, false] (by kernel_rfl) rfl rfl ⟨(yG BK294.out 0).trans rfl, (yG BK294.out 1).trans rfl, (yG BK294.out 2).trans rfl, (yG BK294.out 3).trans rfl, (yG BK294.out 4).trans rfl, (yG BK294.out 5).trans rfl, (yG BK259.out 0).trans rfl, (yG BK259.out 1).trans rfl, (yG BK259.out 2).trans rfl, (yG BK259.out 3).trans rfl, (yG BK259.out 4).trans rfl, (yG BK259.out 5).trans rfl⟩ (fun hHeld => ?_)
          generalize wc.drew = w40 at HO_295001 HO_295002 HO_295003 HO_295004 HO_295005 BK259 BK294 HB hHeld ⊢
          refine pC 0 22 #[true, false, false, false, false] rfl rfl (by kernel_rfl) (fun _ _ _ h => h) (by rfl) hHeld (by rintro w' ⟨s0, s1, s2, s3, s4, s5, s6, s7, s8, s9, s10, s11⟩; go_simp; with_reducible rfl) (by simp only [Act.put, zH, zI, zJ, i64_w, i32_w]; rfl) ?_
          refine pC 1 23 #[true, true, false, false, false] rfl rfl (by kernel_rfl) (fun _ _ _ h => h) (by rfl) hHeld (by rintro w' ⟨s0, s1, s2, s3, s4, s5, s6, s7, s8, s9, s10, s11⟩; go_simp; with_reducible rfl) (by simp only [Act.put, zH, zI, zJ, i64_w, i32_w]; rfl) ?_
          refine one_ (i := 2) (N := some 24) #[true, true, true, false, false] rfl rfl (by kernel_rfl) (by decide) (fun K hK => ?_)
          refine goes_ Try.func7 (by kernel_rfl) rfl #[.agg #[.int .i64 a0_0, .slice A0_1 l0_1.length c0_1, .slice A0_2 l0_2.length c0_2, .slice A0_3 l0_3.length c0_3, .slice A0_4 l0_4.length c0_4, .slice A0_5 l0_5.length c0_5]] (by rfl) rfl rfl (by (try simp only [zK, zL, zM]); first | done | rfl | (simp only [zN, zO]; rfl)) ?_
          with_reducible refine (laws_toSelection.calls kj34 a0_0 _ _ l0_1 _ _ l0_2 _ _ l0_3 _ _ l0_4 _ _ l0_5 t296 t297 t300 t303 t306 t309 _ ?side1 ?side2 ?side3 ?side4 ?side5 ?side6 ?side7 ?side8 ?side9 ?side10 A37.out).mono ?_
          (case side1 => exact yY HR0_1.out HB.out)
          (case side2 => exact HC0_1.out)
          (case side3 => exact yY HR0_2.out HB.out)
          (case side4 => exact HC0_2.out)
          (case side5 => exact yY HR0_3.out HB.out)
          (case side6 => exact HC0_3.out)
          (case side7 => exact yY HR0_4.out HB.out)
          (case side8 => exact HC0_4.out)
          (case side9 => exact yY HR0_5.out HB.out)
          (case side10 => exact HC0_5.out)
          rintro e w41 ⟨v298, v301, v304, v307, v310, rfl, ho0, ho1, ho2, ho3, ho4, hb⟩
          refine ⟨_, rfl, ?_⟩
          have n0_ := yD (zF (yI (yI (yI (yI (Kd.R_old (by exact HO_295001.out) hb) (yH ho0)) (yH ho1)) (yH ho2)) (yH ho3)) (fun _ h_ => h_.1))
          have n1_ := yD (zF (yI (yI (yI (yI (Kd.R_old (by exact HO_295002.out) hb) (yH ho0)) (yH ho1)) (yH ho2)) (yH ho3)) (fun _ h_ => h_.1))
          have n2_ := yD (zF (yI (yI (yI (yI (Kd.R_old (by exact HO_295003.out) hb) (yH ho0)) (yH ho1)) (yH ho2)) (yH ho3)) (fun _ h_ => h_.1))
          have n3_ := yD (zF (yI (yI (yI (yI (Kd.R_old (by exact HO_295004.out) hb) (yH ho0)) (yH ho1)) (yH ho2)) (yH ho3)) (fun _ h_ => h_.1))
          have n4_ := yD (Kd.S_mono (Kd.S_told (Kd.S_told (Kd.S_told (Kd.S_told (Kd.S_told (Kd.S_old (by (with_reducible repeat (first | apply yS | apply yT | apply yU)); exact HO_295005.out) hb) (yH ho0)) (yH ho1)) (yH ho2)) (yH ho3)) (Kd.S_base ho4)) (fun _ h_ => h_.1))
          have n5_ := yD (yZ (yJ (yJ (yJ (yJ ho0 (yK (by exact HO_295001.out))) (yK (by exact HO_295002.out))) (yK (by exact HO_295003.out))) (yK (by exact HO_295004.out))) (below_size (by exact HB.out)))
          have n6_ := yD (yZ (yJ (yJ (yJ (yJ ho1 (yK (by exact HO_295001.out))) (yK (by exact HO_295002.out))) (yK (by exact HO_295003.out))) (yK (by exact HO_295004.out))) (below_size (by exact HB.out)))
          have n7_ := yD (yZ (yJ (yJ (yJ (yJ ho2 (yK (by exact HO_295001.out))) (yK (by exact HO_295002.out))) (yK (by exact HO_295003.out))) (yK (by exact HO_295004.out))) (below_size (by exact HB.out)))
          have n8_ := yD (yZ (yJ (yJ (yJ (yJ ho3 (yK (by exact HO_295001.out))) (yK (by exact HO_295002.out))) (yK (by exact HO_295003.out))) (yK (by exact HO_295004.out))) (below_size (by exact HB.out)))
          have n9_ := yD (zG (zD (zD (zD (zD (zD ho4 (yK (by exact HO_295001.out))) (yK (by exact HO_295002.out))) (yK (by exact HO_295003.out))) (yK (by exact HO_295004.out))) (Kd.S_lt (by (with_reducible repeat (first | apply yS | apply yT | apply yU)); exact HO_295005.out))) (below_size (by exact HB.out)))
          have n10_ := yD (zB (g := gb259) (o := .cells #[.int .i64 a0_0, .slice A0_1 l0_1.length c0_1, .slice A0_2 l0_2.length c0_2, .slice A0_3 l0_3.length c0_3, .slice A0_4 l0_4.length c0_4, .slice A0_5 l0_5.length c0_5] 25 (0, 0)) (by exact BK259.out) hb)
          have n11_ := yD (zB (g := gb294) (o := .cells #[.int .i64 t278, .slice Ao26 t279.length co26, .slice Ao27 t282.length co27, .slice Ao28 t285.length co28, .slice Ao29 t288.length co29, .slice Ao30 t291.length co30] 30 (0, 0)) (by exact BK294.out) hb)
          have n12_ := yD (zC (by exact HB.out) hb)
          clear HO_295001 HO_295002 HO_295003 HO_295004 HO_295005 BK259 BK294 HB; have HO_295001 := n0_; have HO_295002 := n1_; have HO_295003 := n2_; have HO_295004 := n3_; have HO_295005 := n4_; have HO299 := n5_; have HO302 := n6_; have HO305 := n7_; have HO308 := n8_; have HO311 := n9_; have BK259 := n10_; have BK294 := n11_; have HB := n12_; clear n0_ n1_ n2_ n3_ n4_ n5_ n6_ n7_ n8_ n9_ n10_ n11_ n12_; (try clear hb); (try clear hb2); (try clear hk); (try clear hi); (try clear ho0); (try clear ho1); (try clear ho2); (try clear ho3); (try clear ho4)
          obtain ⟨Ao42, co42, eo42⟩ := Kd.R_slice HO299.out
          (first | subst eo42 | (injection eo42 with f1_ f2_ f3_; have f4_ := f1_.symm; have f5_ := f3_.symm; clear f1_ f2_ f3_; subst f4_; subst f5_))
          obtain ⟨Ao43, co43, eo43⟩ := Kd.R_slice HO302.out
          (first | subst eo43 | (injection eo43 with f1_ f2_ f3_; have f4_ := f1_.symm; have f5_ := f3_.symm; clear f1_ f2_ f3_; subst f4_; subst f5_))
          obtain ⟨Ao44, co44, eo44⟩ := Kd.R_slice HO305.out
          (first | subst eo44 | (injection eo44 with f1_ f2_ f3_; have f4_ := f1_.symm; have f5_ := f3_.symm; clear f1_ f2_ f3_; subst f4_; subst f5_))
          obtain ⟨Ao45, co45, eo45⟩ := Kd.R_slice HO308.out
          (first | subst eo45 | (injection eo45 with f1_ f2_ f3_; have f4_ := f1_.symm; have f5_ := f3_.symm; clear f1_ f2_ f3_; subst f4_; subst f5_))
          obtain ⟨Ao46, co46, eo46⟩ := Kd.S_slice HO311.out
          (first | subst eo46 | (injection eo46 with f1_ f2_ f3_; have f4_ := f1_.symm; have f5_ := f3_.symm; clear f1_ f2_ f3_; subst f4_; subst f5_))
          refine hK.out _ _ ⟨(yG BK294.out 0).trans rfl, (yG BK294.out 1).trans rfl, (yG BK294.out 2).trans rfl, (yG BK294.out 3).trans rfl, (yG BK294.out 4).trans rfl, (yG BK294.out 5).trans rfl, (yG BK259.out 0).trans rfl, (yG BK259.out 1).trans rfl, (yG BK259.out 2).trans rfl, (yG BK259.out 3).trans rfl, (yG BK259.out 4).trans rfl, (yG BK259.out 5).trans rfl⟩ (fun hHeld => ?_)
          clear hK K
          refine norm_ (by show Act.put _ (some 24) _ = _; simp only [Act.put, zH, zI, zJ, i64_w, i32_w]; rfl) ?_
          refine one_ (i := 3) (N := some 25) #[true, true, true, true, false] rfl rfl (by kernel_rfl) (by decide) (fun K hK => ?_)
          refine goes_ Try.func9 (by kernel_rfl) rfl #[.agg #[.int .i64 t278, .slice Ao26 t279.length co26, .slice Ao27 t282.length co27, .slice Ao28 t285.length co28, .slice Ao29 t288.length co29, .slice Ao30 t291.length co30], .agg #[.int .i64 t296, .slice Ao42 t297.length co42, .slice Ao43 t300.length co43, .slice Ao44 t303.length co44, .slice Ao45 t306.length co45, .slice Ao46 t309.length co46]] (by rfl) rfl rfl (by (try simp only [zK, zL, zM]); first | done | rfl | (simp only [zN, zO]; rfl)) ?_
          with_reducible refine (laws_eqSelection.calls kj34 t278 _ _ t279 _ _ t282 _ _ t285 _ _ t288 _ _ t291 t296 _ _ t297 _ _ t300 _ _ t303 _ _ t306 _ _ t309 true _ ?side1 ?side2 ?side3 ?side4 ?side5 ?side6 ?side7 ?side8 ?side9 ?side10 ?side11 ?side12 ?side13 ?side14 ?side15 ?side16 ?side17 ?side18 ?side19 ?side20 A38.out).mono ?_
          (case side1 => exact (zA HO_295001.out).2.2)
          (case side2 => exact (zA HO_295001.out).2.1)
          (case side3 => exact (zA HO_295002.out).2.2)
          (case side4 => exact (zA HO_295002.out).2.1)
          (case side5 => exact (zA HO_295003.out).2.2)
          (case side6 => exact (zA HO_295003.out).2.1)
          (case side7 => exact (zA HO_295004.out).2.2)
          (case side8 => exact (zA HO_295004.out).2.1)
          (case side9 => exact (Kd.S_reads' HO_295005.out).2.2)
          (case side10 => exact (Kd.S_reads' HO_295005.out).2.1)
          (case side11 => exact (zA HO299.out).2.2)
          (case side12 => exact (zA HO299.out).2.1)
          (case side13 => exact (zA HO302.out).2.2)
          (case side14 => exact (zA HO302.out).2.1)
          (case side15 => exact (zA HO305.out).2.2)
          (case side16 => exact (zA HO305.out).2.1)
          (case side17 => exact (zA HO308.out).2.2)
          (case side18 => exact (zA HO308.out).2.1)
          (case side19 => exact (Kd.S_reads' HO311.out).2.2)
          (case side20 => exact (Kd.S_reads' HO311.out).2.1)
          rintro e w47 ⟨rfl, hb⟩
          refine ⟨_, rfl, ?_⟩
          have n0_ := yD (zE (by exact HO_295001.out) hb)
          have n1_ := yD (zE (by exact HO_295002.out) hb)
          have n2_ := yD (zE (by exact HO_295003.out) hb)
          have n3_ := yD (zE (by exact HO_295004.out) hb)
          have n4_ := yD (Kd.S_below (by (with_reducible repeat (first | apply yS | apply yT | apply yU)); exact HO_295005.out) hb)
          have n5_ := yD (zE (by exact HO299.out) hb)
          have n6_ := yD (zE (by exact HO302.out) hb)
          have n7_ := yD (zE (by exact HO305.out) hb)
          have n8_ := yD (zE (by exact HO308.out) hb)
          have n9_ := yD (Kd.S_below (by (with_reducible repeat (first | apply yS | apply yT | apply yU)); exact HO311.out) hb)
          have n10_ := yD (zB (g := gb259) (o := .cells #[.int .i64 a0_0, .slice A0_1 l0_1.length c0_1, .slice A0_2 l0_2.length c0_2, .slice A0_3 l0_3.length c0_3, .slice A0_4 l0_4.length c0_4, .slice A0_5 l0_5.length c0_5] 25 (0, 0)) (by exact BK259.out) hb)
          have n11_ := yD (zB (g := gb294) (o := .cells #[.int .i64 t278, .slice Ao26 t279.length co26, .slice Ao27 t282.length co27, .slice Ao28 t285.length co28, .slice Ao29 t288.length co29, .slice Ao30 t291.length co30] 30 (0, 0)) (by exact BK294.out) hb)
          have n12_ := yD (zC (by exact HB.out) hb)
          clear HO_295001 HO_295002 HO_295003 HO_295004 HO_295005 HO299 HO302 HO305 HO308 HO311 BK259 BK294 HB; have HO_295001 := n0_; have HO_295002 := n1_; have HO_295003 := n2_; have HO_295004 := n3_; have HO_295005 := n4_; have HO299 := n5_; have HO302 := n6_; have HO305 := n7_; have HO308 := n8_; have HO311 := n9_; have BK259 := n10_; have BK294 := n11_; have HB := n12_; clear n0_ n1_ n2_ n3_ n4_ n5_ n6_ n7_ n8_ n9_ n10_ n11_ n12_; (try clear hb); (try clear hb2); (try clear hk); (try clear hi)
          refine hK.out _ _ ⟨(yG BK294.out 0).trans rfl, (yG BK294.out 1).trans rfl, (yG BK294.out 2).trans rfl, (yG BK294.out 3).trans rfl, (yG BK294.out 4).trans rfl, (yG BK294.out 5).trans rfl, (yG BK259.out 0).trans rfl, (yG BK259.out 1).trans rfl, (yG BK259.out 2).trans rfl, (yG BK259.out 3).trans rfl, (yG BK259.out 4).trans rfl, (yG BK259.out 5).trans rfl⟩ (fun hHeld => ?_)
          clear hK K
          refine norm_ (by show Act.put _ (some 25) _ = _; simp only [Act.put, zH, zI, zJ, i64_w, i32_w]; rfl) ?_
          refine pA 4 26 #[true, true, true, true, true] rfl rfl (by kernel_rfl) (fun _ _ _ h => h) (by rfl) (fun _ => by go_simp; with_reducible rfl) (by simp only [Act.put, zH, zI, zJ, i64_w, i32_w]; rfl) ?_
          refine done_ (by kernel_rfl) ?_
          try go_wp2
          go_ret
          exact ⟨by first | rfl | (simp <;> rfl) | (simp [*] <;> rfl), by repeat (first | (with_reducible first | exact HB.out | apply yQ | apply yL | apply yP | refine yE ?_ GE259.out | refine yE ?_ GE294.out) | exact HB.out)⟩
         ·
          replace c39 := Bool.eq_false_iff.mpr c39
          subst c39
          have H1 : (some false) = some r := by rw [if_neg (show ¬ (false = true) by decide)] at H; exact H
          clear H; have H := H1; clear H1; obtain rfl := Option.some.inj H
          try go_wp2
          have n0_ := yD (yC HO_295001.out)
          have n1_ := yD (yC HO_295002.out)
          have n2_ := yD (yC HO_295003.out)
          have n3_ := yD (yC HO_295004.out)
          have n4_ := yD (yU HO_295005.out)
          have n5_ := yD (yO BK259.out)
          have n6_ := yD (yO BK294.out)
          have n7_ := yD (yP HB.out)
          clear HO_295001 HO_295002 HO_295003 HO_295004 HO_295005 BK259 BK294 HB; have HO_295001 := n0_; have HO_295002 := n1_; have HO_295003 := n2_; have HO_295004 := n3_; have HO_295005 := n4_; have BK259 := n5_; have BK294 := n6_; have HB := n7_; clear n0_ n1_ n2_ n3_ n4_ n5_ n6_ n7_
          refine start_ (n := 5) (S := fun w' => w'.cell? ⟨gb294, 0, none⟩ = some (.int .i64 t278) ∧ w'.cell? ⟨gb294, 1, none⟩ = some (.slice Ao26 t279.length co26) ∧ w'.cell? ⟨gb294, 2, none⟩ = some (.slice Ao27 t282.length co27) ∧ w'.cell? ⟨gb294, 3, none⟩ = some (.slice Ao28 t285.length co28) ∧ w'.cell? ⟨gb294, 4, none⟩ = some (.slice Ao29 t288.length co29) ∧ w'.cell? ⟨gb294, 5, none⟩ = some (.slice Ao30 t291.length co30) ∧ w'.cell? ⟨gb259, 0, none⟩ = some (.int .i64 a0_0) ∧ w'.cell? ⟨gb259, 1, none⟩ = some (.slice A0_1 l0_1.length c0_1) ∧ w'.cell? ⟨gb259, 2, none⟩ = some (.slice A0_2 l0_2.length c0_2) ∧ w'.cell? ⟨gb259, 3, none⟩ = some (.slice A0_3 l0_3.length c0_3) ∧ w'.cell? ⟨gb259, 4, none⟩ = some (.slice A0_4 l0_4.length c0_4) ∧ w'.cell? ⟨gb259, 5, none⟩ = some (.slice A0_5 l0_5.length c0_5)) (ds := []) #[false, false, false, false, false] (by kernel_rfl) rfl rfl ⟨(yG BK294.out 0).trans rfl, (yG BK294.out 1).trans rfl, (yG BK294.out 2).trans rfl, (yG BK294.out 3).trans rfl, (yG BK294.out 4).trans rfl, (yG BK294.out 5).trans rfl, (yG BK259.out 0).trans rfl, (yG BK259.out 1).trans rfl, (yG BK259.out 2).trans rfl, (yG BK259.out 3).trans rfl, (yG BK259.out 4).trans rfl, (yG BK259.out 5).trans rfl⟩ (fun hHeld => ?_)
          generalize wc.drew = w48 at HO_295001 HO_295002 HO_295003 HO_295004 HO_295005 BK259 BK294 HB hHeld ⊢
          refine pC 0 22 #[true, false, false, false, false] rfl rfl (by kernel_rfl) (fun _ _ _ h => h) (by rfl) hHeld (by rintro w' ⟨s0, s1, s2, s3, s4, s5, s6, s7, s8, s9, s10, s11⟩; go_simp; with_reducible rfl) (by simp only [Act.put, zH, zI, zJ, i64_w, i32_w]; rfl) ?_
          refine pC 1 23 #[true, true, false, false, false] rfl rfl (by kernel_rfl) (fun _ _ _ h => h) (by rfl) hHeld (by rintro w' ⟨s0, s1, s2, s3, s4, s5, s6, s7, s8, s9, s10, s11⟩; go_simp; with_reducible rfl) (by simp only [Act.put, zH, zI, zJ, i64_w, i32_w]; rfl) ?_
          refine one_ (i := 2) (N := some 24) #[true, true, true, false, false] rfl rfl (by kernel_rfl) (by decide) (fun K hK => ?_)
          refine goes_ Try.func7 (by kernel_rfl) rfl #[.agg #[.int .i64 a0_0, .slice A0_1 l0_1.length c0_1, .slice A0_2 l0_2.length c0_2, .slice A0_3 l0_3.length c0_3, .slice A0_4 l0_4.length c0_4, .slice A0_5 l0_5.length c0_5]] (by rfl) rfl rfl (by (try simp only [zK, zL, zM]); first | done | rfl | (simp only [zN, zO]; rfl)) ?_
          with_reducible refine (laws_toSelection.calls kj34 a0_0 _ _ l0_1 _ _ l0_2 _ _ l0_3 _ _ l0_4 _ _ l0_5 t296 t297 t300 t303 t306 t309 _ ?side1 ?side2 ?side3 ?side4 ?side5 ?side6 ?side7 ?side8 ?side9 ?side10 A37.out).mono ?_
          (case side1 => exact yY HR0_1.out HB.out)
          (case side2 => exact HC0_1.out)
          (case side3 => exact yY HR0_2.out HB.out)
          (case side4 => exact HC0_2.out)
          (case side5 => exact yY HR0_3.out HB.out)
          (case side6 => exact HC0_3.out)
          (case side7 => exact yY HR0_4.out HB.out)
          (case side8 => exact HC0_4.out)
          (case side9 => exact yY HR0_5.out HB.out)
          (case side10 => exact HC0_5.out)
          rintro e w49 ⟨v298, v301, v304, v307, v310, rfl, ho0, ho1, ho2, ho3, ho4, hb⟩
          refine ⟨_, rfl, ?_⟩
          have n0_ := yD (zF (yI (yI (yI (yI (Kd.R_old (by exact HO_295001.out) hb) (yH ho0)) (yH ho1)) (yH ho2)) (yH ho3)) (fun _ h_ => h_.1))
          have n1_ := yD (zF (yI (yI (yI (yI (Kd.R_old (by exact HO_295002.out) hb) (yH ho0)) (yH ho1)) (yH ho2)) (yH ho3)) (fun _ h_ => h_.1))
          have n2_ := yD (zF (yI (yI (yI (yI (Kd.R_old (by exact HO_295003.out) hb) (yH ho0)) (yH ho1)) (yH ho2)) (yH ho3)) (fun _ h_ => h_.1))
          have n3_ := yD (zF (yI (yI (yI (yI (Kd.R_old (by exact HO_295004.out) hb) (yH ho0)) (yH ho1)) (yH ho2)) (yH ho3)) (fun _ h_ => h_.1))
          have n4_ := yD (Kd.S_mono (Kd.S_told (Kd.S_told (Kd.S_told (Kd.S_told (Kd.S_told (Kd.S_old (by (with_reducible repeat (first | apply yS | apply yT | apply yU)); exact HO_295005.out) hb) (yH ho0)) (yH ho1)) (yH ho2)) (yH ho3)) (Kd.S_base ho4)) (fun _ h_ => h_.1))
          have n5_ := yD (yZ (yJ (yJ (yJ (yJ ho0 (yK (by exact HO_295001.out))) (yK (by exact HO_295002.out))) (yK (by exact HO_295003.out))) (yK (by exact HO_295004.out))) (below_size (by exact HB.out)))
          have n6_ := yD (yZ (yJ (yJ (yJ (yJ ho1 (yK (by exact HO_295001.out))) (yK (by exact HO_295002.out))) (yK (by exact HO_295003.out))) (yK (by exact HO_295004.out))) (below_size (by exact HB.out)))
          have n7_ := yD (yZ (yJ (yJ (yJ (yJ ho2 (yK (by exact HO_295001.out))) (yK (by exact HO_295002.out))) (yK (by exact HO_295003.out))) (yK (by exact HO_295004.out))) (below_size (by exact HB.out)))
          have n8_ := yD (yZ (yJ (yJ (yJ (yJ ho3 (yK (by exact HO_295001.out))) (yK (by exact HO_295002.out))) (yK (by exact HO_295003.out))) (yK (by exact HO_295004.out))) (below_size (by exact HB.out)))
          have n9_ := yD (zG (zD (zD (zD (zD (zD ho4 (yK (by exact HO_295001.out))) (yK (by exact HO_295002.out))) (yK (by exact HO_295003.out))) (yK (by exact HO_295004.out))) (Kd.S_lt (by (with_reducible repeat (first | apply yS | apply yT | apply yU)); exact HO_295005.out))) (below_size (by exact HB.out)))
          have n10_ := yD (zB (g := gb259) (o := .cells #[.int .i64 a0_0, .slice A0_1 l0_1.length c0_1, .slice A0_2 l0_2.length c0_2, .slice A0_3 l0_3.length c0_3, .slice A0_4 l0_4.length c0_4, .slice A0_5 l0_5.length c0_5] 25 (0, 0)) (by exact BK259.out) hb)
          have n11_ := yD (zB (g := gb294) (o := .cells #[.int .i64 t278, .slice Ao26 t279.length co26, .slice Ao27 t282.length co27, .slice Ao28 t285.length co28, .slice Ao29 t288.length co29, .slice Ao30 t291.length co30] 30 (0, 0)) (by exact BK294.out) hb)
          have n12_ := yD (zC (by exact HB.out) hb)
          clear HO_295001 HO_295002 HO_295003 HO_295004 HO_295005 BK259 BK294 HB; have HO_295001 := n0_; have HO_295002 := n1_; have HO_295003 := n2_; have HO_295004 := n3_; have HO_295005 := n4_; have HO299 := n5_; have HO302 := n6_; have HO305 := n7_; have HO308 := n8_; have HO311 := n9_; have BK259 := n10_; have BK294 := n11_; have HB := n12_; clear n0_ n1_ n2_ n3_ n4_ n5_ n6_ n7_ n8_ n9_ n10_ n11_ n12_; (try clear hb); (try clear hb2); (try clear hk); (try clear hi); (try clear ho0); (try clear ho1); (try clear ho2); (try clear ho3); (try clear ho4)
          obtain ⟨Ao50, co50, eo50⟩ := Kd.R_slice HO299.out
          (first | subst eo50 | (injection eo50 with f1_ f2_ f3_; have f4_ := f1_.symm; have f5_ := f3_.symm; clear f1_ f2_ f3_; subst f4_; subst f5_))
          obtain ⟨Ao51, co51, eo51⟩ := Kd.R_slice HO302.out
          (first | subst eo51 | (injection eo51 with f1_ f2_ f3_; have f4_ := f1_.symm; have f5_ := f3_.symm; clear f1_ f2_ f3_; subst f4_; subst f5_))
          obtain ⟨Ao52, co52, eo52⟩ := Kd.R_slice HO305.out
          (first | subst eo52 | (injection eo52 with f1_ f2_ f3_; have f4_ := f1_.symm; have f5_ := f3_.symm; clear f1_ f2_ f3_; subst f4_; subst f5_))
          obtain ⟨Ao53, co53, eo53⟩ := Kd.R_slice HO308.out
          (first | subst eo53 | (injection eo53 with f1_ f2_ f3_; have f4_ := f1_.symm; have f5_ := f3_.symm; clear f1_ f2_ f3_; subst f4_; subst f5_))
          obtain ⟨Ao54, co54, eo54⟩ := Kd.S_slice HO311.out
          (first | subst eo54 | (injection eo54 with f1_ f2_ f3_; have f4_ := f1_.symm; have f5_ := f3_.symm; clear f1_ f2_ f3_; subst f4_; subst f5_))
          refine hK.out _ _ ⟨(yG BK294.out 0).trans rfl, (yG BK294.out 1).trans rfl, (yG BK294.out 2).trans rfl, (yG BK294.out 3).trans rfl, (yG BK294.out 4).trans rfl, (yG BK294.out 5).trans rfl, (yG BK259.out 0).trans rfl, (yG BK259.out 1).trans rfl, (yG BK259.out 2).trans rfl, (yG BK259.out 3).trans rfl, (yG BK259.out 4).trans rfl, (yG BK259.out 5).trans rfl⟩ (fun hHeld => ?_)
          clear hK K
          refine norm_ (by show Act.put _ (some 24) _ = _; simp only [Act.put, zH, zI, zJ, i64_w, i32_w]; rfl) ?_
          refine one_ (i := 3) (N := some 25) #[true, true, true, true, false] rfl rfl (by kernel_rfl) (by decide) (fun K hK => ?_)
          refine goes_ Try.func9 (by kernel_rfl) rfl #[.agg #[.int .i64 t278, .slice Ao26 t279.length co26, .slice Ao27 t282.length co27, .slice Ao28 t285.length co28, .slice Ao29 t288.length co29, .slice Ao30 t291.length co30], .agg #[.int .i64 t296, .slice Ao50 t297.length co50, .slice Ao51 t300.length co51, .slice Ao52 t303.length co52, .slice Ao53 t306.length co53, .slice Ao54 t309.length co54]] (by rfl) rfl rfl (by (try simp only [zK, zL, zM]); first | done | rfl | (simp only [zN, zO]; rfl)) ?_
          with_reducible refine (laws_eqSelection.calls kj34 t278 _ _ t279 _ _ t282 _ _ t285 _ _ t288 _ _ t291 t296 _ _ t297 _ _ t300 _ _ t303 _ _ t306 _ _ t309 false _ ?side1 ?side2 ?side3 ?side4 ?side5 ?side6 ?side7 ?side8 ?side9 ?side10 ?side11 ?side12 ?side13 ?side14 ?side15 ?side16 ?side17 ?side18 ?side19 ?side20 A38.out).mono ?_
          (case side1 => exact (zA HO_295001.out).2.2)
          (case side2 => exact (zA HO_295001.out).2.1)
          (case side3 => exact (zA HO_295002.out).2.2)
          (case side4 => exact (zA HO_295002.out).2.1)
          (case side5 => exact (zA HO_295003.out).2.2)
          (case side6 => exact (zA HO_295003.out).2.1)
          (case side7 => exact (zA HO_295004.out).2.2)
          (case side8 => exact (zA HO_295004.out).2.1)
          (case side9 => exact (Kd.S_reads' HO_295005.out).2.2)
          (case side10 => exact (Kd.S_reads' HO_295005.out).2.1)
          (case side11 => exact (zA HO299.out).2.2)
          (case side12 => exact (zA HO299.out).2.1)
          (case side13 => exact (zA HO302.out).2.2)
          (case side14 => exact (zA HO302.out).2.1)
          (case side15 => exact (zA HO305.out).2.2)
          (case side16 => exact (zA HO305.out).2.1)
          (case side17 => exact (zA HO308.out).2.2)
          (case side18 => exact (zA HO308.out).2.1)
          (case side19 => exact (Kd.S_reads' HO311.out).2.2)
          (case side20 => exact (Kd.S_reads' HO311.out).2.1)
          rintro e w55 ⟨rfl, hb⟩
          refine ⟨_, rfl, ?_⟩
          have n0_ := yD (zE (by exact HO_295001.out) hb)
          have n1_ := yD (zE (by exact HO_295002.out) hb)
          have n2_ := yD (zE (by exact HO_295003.out) hb)
          have n3_ := yD (zE (by exact HO_295004.out) hb)
          have n4_ := yD (Kd.S_below (by (with_reducible repeat (first | apply yS | apply yT | apply yU)); exact HO_295005.out) hb)
          have n5_ := yD (zE (by exact HO299.out) hb)
          have n6_ := yD (zE (by exact HO302.out) hb)
          have n7_ := yD (zE (by exact HO305.out) hb)
          have n8_ := yD (zE (by exact HO308.out) hb)
          have n9_ := yD (Kd.S_below (by (with_reducible repeat (first | apply yS | apply yT | apply yU)); exact HO311.out) hb)
          have n10_ := yD (zB (g := gb259) (o := .cells #[.int .i64 a0_0, .slice A0_1 l0_1.length c0_1, .slice A0_2 l0_2.length c0_2, .slice A0_3 l0_3.length c0_3, .slice A0_4 l0_4.length c0_4, .slice A0_5 l0_5.length c0_5] 25 (0, 0)) (by exact BK259.out) hb)
          have n11_ := yD (zB (g := gb294) (o := .cells #[.int .i64 t278, .slice Ao26 t279.length co26, .slice Ao27 t282.length co27, .slice Ao28 t285.length co28, .slice Ao29 t288.length co29, .slice Ao30 t291.length co30] 30 (0, 0)) (by exact BK294.out) hb)
          have n12_ := yD (zC (by exact HB.out) hb)
          clear HO_295001 HO_295002 HO_295003 HO_295004 HO_295005 HO299 HO302 HO305 HO308 HO311 BK259 BK294 HB; have HO_295001 := n0_; have HO_295002 := n1_; have HO_295003 := n2_; have HO_295004 := n3_; have HO_295005 := n4_; have HO299 := n5_; have HO302 := n6_; have HO305 := n7_; have HO308 := n8_; have HO311 := n9_; have BK259 := n10_; have BK294 := n11_; have HB := n12_; clear n0_ n1_ n2_ n3_ n4_ n5_ n6_ n7_ n8_ n9_ n10_ n11_ n12_; (try clear hb); (try clear hb2); (try clear hk); (try clear hi)
          refine hK.out _ _ ⟨(yG BK294.out 0).trans rfl, (yG BK294.out 1).trans rfl, (yG BK294.out 2).trans rfl, (yG BK294.out 3).trans rfl, (yG BK294.out 4).trans rfl, (yG BK294.out 5).trans rfl, (yG BK259.out 0).trans rfl, (yG BK259.out 1).trans rfl, (yG BK259.out 2).trans rfl, (yG BK259.out 3).trans rfl, (yG BK259.out 4).trans rfl, (yG BK259.out 5).trans rfl⟩ (fun hHeld => ?_)
          clear hK K
          refine norm_ (by show Act.put _ (some 25) _ = _; simp only [Act.put, zH, zI, zJ, i64_w, i32_w]; rfl) ?_
          refine pA 4 26 #[true, true, true, true, true] rfl rfl (by kernel_rfl) (fun _ _ _ h => h) (by rfl) (fun _ => by go_simp; with_reducible rfl) (by simp only [Act.put, zH, zI, zJ, i64_w, i32_w]; rfl) ?_
          refine done_ (by kernel_rfl) ?_
          try go_wp2
          go_ret
          exact ⟨by first | rfl | (simp <;> rfl) | (simp [*] <;> rfl), by repeat (first | (with_reducible first | exact HB.out | apply yQ | apply yL | apply yP | refine yE ?_ GE259.out | refine yE ?_ GE294.out) | exact HB.out)⟩

-- what data that come in are: numbers of their kinds, lengths that a length can be
def okS46 (x : S46) : Prop := (x.f0.length ≤ maxLen ∧ ∀ x_ ∈ x.f0, (Lit.int .i64 x_).wf = true)
def okS25 (x : S25) : Prop := (Lit.int .i64 x.f0).wf = true ∧ (x.f1.length ≤ maxLen ∧ ∀ x_ ∈ x.f1, (Lit.int .i64 x_).wf = true) ∧ (x.f2.length ≤ maxLen ∧ ∀ x_ ∈ x.f2, (Lit.int .i64 x_).wf = true) ∧ (x.f3.length ≤ maxLen ∧ ∀ x_ ∈ x.f3, (Lit.int .i64 x_).wf = true) ∧ (x.f4.length ≤ maxLen ∧ ∀ x_ ∈ x.f4, (Lit.int .i64 x_).wf = true) ∧ (x.f5.length ≤ maxLen ∧ ∀ x_ ∈ x.f5, okS46 x_)
/-- THE ONE PURE STATEMENT of laws_FnExactFormedSelection: ours. -/
def laws_FnExactFormedSelection.Pure : Prop := ∀ (a0_0 : Int) (l0_1 : List Int) (l0_2 : List Int) (l0_3 : List Int) (l0_4 : List Int) (l0_5 : List (S46)), (Lit.int .i64 a0_0).wf = true → (l0_1.length ≤ maxLen ∧ ∀ x_ ∈ l0_1, (Lit.int .i64 x_).wf = true) → (l0_2.length ≤ maxLen ∧ ∀ x_ ∈ l0_2, (Lit.int .i64 x_).wf = true) → (l0_3.length ≤ maxLen ∧ ∀ x_ ∈ l0_3, (Lit.int .i64 x_).wf = true) → (l0_4.length ≤ maxLen ∧ ∀ x_ ∈ l0_4, (Lit.int .i64 x_).wf = true) → (l0_5.length ≤ maxLen ∧ ∀ x_ ∈ l0_5, okS46 x_) → ∃ k, laws_FnExactFormedSelection.f k a0_0 l0_1 l0_2 l0_3 l0_4 l0_5 = some true
theorem laws_FnExactFormedSelection.walk (P : laws_FnExactFormedSelection.Pure) (a0_0 : Int) (A0_1 : Option Addr) (c0_1 : Nat) (l0_1 : List Int) (A0_2 : Option Addr) (c0_2 : Nat) (l0_2 : List Int) (A0_3 : Option Addr) (c0_3 : Nat) (l0_3 : List Int) (A0_4 : Option Addr) (c0_4 : Nat) (l0_4 : List Int) (A0_5 : Option Addr) (c0_5 : Nat) (l0_5 : List (S46)) (w : World) (hr0_1 : Kd.C (Kd.int .i64) w A0_1 l0_1.length l0_1) (hc0_1 : l0_1.length ≤ c0_1) (hr0_2 : Kd.C (Kd.int .i64) w A0_2 l0_2.length l0_2) (hc0_2 : l0_2.length ≤ c0_2) (hr0_3 : Kd.C (Kd.int .i64) w A0_3 l0_3.length l0_3) (hc0_3 : l0_3.length ≤ c0_3) (hr0_4 : Kd.C (Kd.int .i64) w A0_4 l0_4.length l0_4) (hc0_4 : l0_4.length ≤ c0_4) (hr0_5 : Kd.C k46 w A0_5 l0_5.length l0_5) (hc0_5 : l0_5.length ≤ c0_5) (o0_0 : (Lit.int .i64 a0_0).wf = true) (o0_1 : (l0_1.length ≤ maxLen ∧ ∀ x_ ∈ l0_1, (Lit.int .i64 x_).wf = true)) (o0_2 : (l0_2.length ≤ maxLen ∧ ∀ x_ ∈ l0_2, (Lit.int .i64 x_).wf = true)) (o0_3 : (l0_3.length ≤ maxLen ∧ ∀ x_ ∈ l0_3, (Lit.int .i64 x_).wf = true)) (o0_4 : (l0_4.length ≤ maxLen ∧ ∀ x_ ∈ l0_4, (Lit.int .i64 x_).wf = true)) (o0_5 : (l0_5.length ≤ maxLen ∧ ∀ x_ ∈ l0_5, okS46 x_)) :
  Calls Try.prog 3 #[.agg #[.int .i64 a0_0, .slice A0_1 l0_1.length c0_1, .slice A0_2 l0_2.length c0_2, .slice A0_3 l0_3.length c0_3, .slice A0_4 l0_4.length c0_4, .slice A0_5 l0_5.length c0_5]] w fun e w' => e = .returned (.bool true) ∧ Below w.heap.size w w' := by
 obtain ⟨k, h⟩ := P a0_0 l0_1 l0_2 l0_3 l0_4 l0_5 o0_0 o0_1 o0_2 o0_3 o0_4 o0_5
 refine (laws_FnExactFormedSelection.calls k a0_0 _ _ l0_1 _ _ l0_2 _ _ l0_3 _ _ l0_4 _ _ l0_5 true w hr0_1 hc0_1 hr0_2 hc0_2 hr0_3 hc0_3 hr0_4 hc0_4 hr0_5 hc0_5 h).mono ?_
 rintro e w' ⟨rfl, hd⟩
 exact ⟨rfl, hd⟩

end Go.Proofs.Ytobdoafjlbifpaa.PFnExactFormedSelection
