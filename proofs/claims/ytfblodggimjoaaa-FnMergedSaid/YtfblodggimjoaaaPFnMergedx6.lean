/- Each Go function here comes to what the plain function of its name says, where that says something. Made by a program of this session, over the print. -/
import Derived.Test.YtfblodggimjoaaaPFnMergedx0
import Derived.Test.YtfblodggimjoaaaPFnMergedx1
import Derived.Test.YtfblodggimjoaaaPFnMergedx2
import Derived.Test.YtfblodggimjoaaaPFnMergedx4
import Derived.Test.YtfblodggimjoaaaPFnMergedx5
namespace Go.Proofs.Ytfblodggimjoaaa.PFnMerged
open Go.RowKit Go.Proofs.YtfblodggimjoaaaW.PrintWords Go.Proofs.YtfblodggimjoaaaW.PrintLast Go.Proofs.YtfblodggimjoaaaW.PrintMore
attribute [local go_sem] max2_int min2_int max_two min_two max_three min_three max_four min_four   -- for this text's walks alone
set_option linter.unusedVariables false
set_option linter.unusedSimpArgs false

/-! ### impl_PageOf: function 23 -/
def impl_PageOf.f (k : Nat) (l0 : List (S79)) (a1 : Int) : Option (ByteArray × Bool) := (slices_IndexFunc_impl_PageOf_1.f k l0 a1).bind fun t275 => (if t275 < 0 then (some ((⟨#[]⟩ : ByteArray), false)) else (if 0 ≤ t275 then (if t275 < (l0.length : Int) then (some ((rd_T79 l0 t275).f1, true)) else (none)) else (none)))
theorem impl_PageOf.mono : ∀ a0 a1 k, LeO (impl_PageOf.f k a0 a1) (impl_PageOf.f (k + 1) a0 a1) := by
 intro a0 a1 k
 unfold impl_PageOf.f
 repeat' (with_reducible first | exact slices_IndexFunc_impl_PageOf_1.mono _ _ _ | exact LeO.refl _ | exact LeO.none _ | refine LeO.ite ?_ ?_ | refine LeO.bind ?_ (fun _ => ?_))
set_option maxHeartbeats 8000000 in
set_option maxRecDepth 100000 in
theorem impl_PageOf.calls (k : Nat) (A0 : Option Addr) (c0 : Nat) (l0 : List (S79)) (a1 : Int) (r1 : ByteArray) (r2 : Bool) (w : World) (hr0 : Kd.C k79 w A0 l0.length l0) (hc0 : l0.length ≤ c0) (h : impl_PageOf.f k l0 a1 = some (r1, r2)) :
 Calls Try.prog 23 #[.slice A0 l0.length c0, .int .i64 a1] w fun e w' => e = .returned (.tuple #[.string r1, .bool r2]) ∧ Below w.heap.size w w' := by
 have HR0 := yD hr0
 have HC0 := yD hc0
 clear hr0 hc0
 have HB := yD (Below.refl w.heap.size w)
 have H : ((slices_IndexFunc_impl_PageOf_1.f k l0 a1).bind fun t275 => (if t275 < 0 then (some ((⟨#[]⟩ : ByteArray), false)) else (if 0 ≤ t275 then (if t275 < (l0.length : Int) then (some ((rd_T79 l0 t275).f1, true)) else (none)) else (none)))) = some (r1, r2) := h
 clear h
 obtain ⟨t275, A30, H⟩ := zW_ H
 replace H : (if t275 < 0 then (some ((⟨#[]⟩ : ByteArray), false)) else (if 0 ≤ t275 then (if t275 < (l0.length : Int) then (some ((rd_T79 l0 t275).f1, true)) else (none)) else (none))) = some (r1, r2) := H
 have A3 := yD A30
 clear A30
 by_cases c4 : t275 < 0
 ·
  rw [if_pos c4] at H
  have c4b0 : decide (t275 < 0) = true := zR c4; clear c4
  simp only [Option.some.injEq, Prod.mk.injEq] at H
  obtain ⟨rfl, rfl⟩ := H
  go_enter Try.func23, Try.ntmps23
  go_wp2_with (first | ((with_reducible refine gate_dst (N := 3) rfl ?_); refine box_event ?hg (N := 3) ?hd (cs := #[.int .i64 a1]) (t := 2) ?hr ?_; (case hd => rfl); (case hg => rfl); (case hr => first | (go_simp; done) | (go_simp; rfl)); intro gb274 hg w5 hbox hb; have BK274 := yD (hbox); have GW274 := yD ((by rw [hg]; exact (below_size (kB HB)) : w.heap.size ≤ gb274)); have GE274 := yD ((by rw [hg]; exact (below_size (kB HB)) : w.heap.size ≤ gb274)); replace HB := yD (zC (kB HB) hb); clear hb hbox hg) | ((with_reducible refine gate_callee (f := 59) rfl ?_); refine gL 9 Try.func59 #[.slice A0 l0.length c0, .func (.func 60) #[] #[.pointer (some ⟨gb274, 0, none⟩)]] ?_; (with_reducible refine (slices_IndexFunc_impl_PageOf_1.calls k _ _ l0 gb274 a1 t275 _ ?side1 ?side2 ?side3 A3.out).mono ?_); (case side1 => exact kV (yY HR0.out HB.out)); (case side2 => exact HC0.out); (case side3 => (with_reducible repeat (first | refine yM ?_ _ | refine yO ?_ | refine yN ?_ _)); exact BK274.out); rintro e w6 ⟨rfl, hb⟩; refine ⟨_, rfl, ?_⟩; replace BK274 := yD (zB (kN BK274) hb); replace HB := yD (zC (kB HB) hb); clear hb))
  go_ret2
  exact ⟨by first | rfl | (simp <;> rfl) | (simp [*] <;> rfl), kR1 HB⟩
 ·
  rw [if_neg c4] at H
  have c4b0 : decide (t275 < 0) = false := zS c4; clear c4
  by_cases c7 : 0 ≤ t275
  ·
   rw [if_pos c7] at H
   have c7b0 : decide (0 ≤ t275) = true := zR c7; clear c7
   by_cases c8 : t275 < (l0.length : Int)
   ·
    rw [if_pos c8] at H
    have c8b0 : decide (t275 < (l0.length : Int)) = true := zR c8; clear c8
    simp only [Option.some.injEq, Prod.mk.injEq] at H
    obtain ⟨rfl, rfl⟩ := H
    go_enter Try.func23, Try.ntmps23
    go_wp2_with (first | ((with_reducible refine gate_dst (N := 3) rfl ?_); refine box_event ?hg (N := 3) ?hd (cs := #[.int .i64 a1]) (t := 2) ?hr ?_; (case hd => rfl); (case hg => rfl); (case hr => first | (go_simp; done) | (go_simp; rfl)); intro gb274 hg w9 hbox hb; have BK274 := yD (hbox); have GW274 := yD ((by rw [hg]; exact (below_size (kB HB)) : w.heap.size ≤ gb274)); have GE274 := yD ((by rw [hg]; exact (below_size (kB HB)) : w.heap.size ≤ gb274)); replace HB := yD (zC (kB HB) hb); clear hb hbox hg) | ((with_reducible refine gate_callee (f := 59) rfl ?_); refine gL 9 Try.func59 #[.slice A0 l0.length c0, .func (.func 60) #[] #[.pointer (some ⟨gb274, 0, none⟩)]] ?_; (with_reducible refine (slices_IndexFunc_impl_PageOf_1.calls k _ _ l0 gb274 a1 t275 _ ?side1 ?side2 ?side3 A3.out).mono ?_); (case side1 => exact kV (yY HR0.out HB.out)); (case side2 => exact HC0.out); (case side3 => (with_reducible repeat (first | refine yM ?_ _ | refine yO ?_ | refine yN ?_ _)); exact BK274.out); rintro e w10 ⟨rfl, hb⟩; refine ⟨_, rfl, ?_⟩; replace BK274 := yD (zB (kN BK274) hb); replace HB := yD (zC (kB HB) hb); clear hb; have p276 : 0 ≤ (t275 : Int) := zP (by assumption); have q276 : t275 < (l0.length : Int) := zP (by assumption); obtain ⟨ad276, e276, hx276_0, hx276_1⟩ := at_T79 HR0.out t275 p276 q276; cases e276; replace hx276_0 := (HB.out.cell (zQ w _ hx276_0)).trans hx276_0; replace hx276_1 := (HB.out.cell (zQ w _ hx276_1)).trans hx276_1; replace p276 := eq_true p276; replace q276 := eq_true q276))
    go_ret2
    exact ⟨by first | rfl | (simp <;> rfl) | (simp [*] <;> rfl), kR1 HB⟩
   · rw [if_neg c8] at H
     exact absurd H (by simp)
  · rw [if_neg c7] at H
    exact absurd H (by simp)

/-! ### laws_FnMerged: function 5 -/
mutual
def laws_FnMerged.j0 : Nat → List (S79) → List (S79) → Bool → Option (Bool)
 | 0, _, _, _ => none
 | k + 1, x3, x4, x28 => if x28 = true then (some true) else ((impl_MergePages.f k x3 x4).bind fun t286 => (laws_FnMerged.l0 k x3 x4 t286 0 0))
def laws_FnMerged.l0 : Nat → List (S79) → List (S79) → List (S79) → Int → Int → Option (Bool)
 | 0, _, _, _, _, _ => none
 | k + 1, x3, x4, x5, x6, x7 => if x7 < 256 then ((spec_PageOf.f k x3 x7).bind fun bt290 => ((spec_PageOf.f k x4 x7).bind fun bt292 => ((impl_PageOf.f k x5 x7).bind fun bt294 => (if bt292.2 = true then (laws_FnMerged.j2 k x3 x4 x5 x6 x7 bt292.1 bt290.2 bt292.2 bt294.1 bt294.2) else (laws_FnMerged.j2 k x3 x4 x5 x6 x7 bt290.1 bt290.2 bt292.2 bt294.1 bt294.2))))) else (if x6 = (x5.length : Int) then ((spec_ValidPages.f k x5).bind fun t289 => (some t289)) else (some false))
def laws_FnMerged.j2 : Nat → List (S79) → List (S79) → List (S79) → Int → Int → ByteArray → Bool → Bool → ByteArray → Bool → Option (Bool)
 | 0, _, _, _, _, _, _, _, _, _, _ => none
 | k + 1, x3, x4, x5, x6, x7, x8, x9, x11, x12, x13 => if x9 = true then (if (x13 != true) = true then (laws_FnMerged.j3 k x3 x4 x5 x6 x7 x13 true) else (if x13 = true then (laws_FnMerged.j3 k x3 x4 x5 x6 x7 x13 (x12.toList != x8.toList)) else (laws_FnMerged.j3 k x3 x4 x5 x6 x7 x13 false))) else (if (x13 != x11) = true then (laws_FnMerged.j3 k x3 x4 x5 x6 x7 x13 true) else (if x13 = true then (laws_FnMerged.j3 k x3 x4 x5 x6 x7 x13 (x12.toList != x8.toList)) else (laws_FnMerged.j3 k x3 x4 x5 x6 x7 x13 false)))
def laws_FnMerged.j3 : Nat → List (S79) → List (S79) → List (S79) → Int → Int → Bool → Bool → Option (Bool)
 | 0, _, _, _, _, _, _, _ => none
 | k + 1, x3, x4, x5, x6, x7, x13, x69 => if x69 = true then (some false) else (if x13 = true then (laws_FnMerged.l0 k x3 x4 x5 (wrap64 (x6 + 1)) (wrap64 (x7 + 1))) else (laws_FnMerged.l0 k x3 x4 x5 x6 (wrap64 (x7 + 1))))
end
def laws_FnMerged.f (k : Nat) (l0 : List Int) : Option (Bool) := (laws_b10Long.f l0).bind fun t277 => (if t277 = true then (some true) else ((spec_DrawMergePages.f k l0).bind fun bt278 => ((spec_ValidPages.f k bt278.1).bind fun t284 => (if t284 = true then ((spec_ValidPages.f k bt278.2).bind fun t285 => (laws_FnMerged.j0 k bt278.1 bt278.2 (!t285))) else (laws_FnMerged.j0 k bt278.1 bt278.2 true)))))
theorem laws_FnMerged.mono_l : ∀ k, (∀ y0 y1 y2, LeO (laws_FnMerged.j0 k y0 y1 y2) (laws_FnMerged.j0 (k + 1) y0 y1 y2)) ∧ (∀ y0 y1 y2 y3 y4, LeO (laws_FnMerged.l0 k y0 y1 y2 y3 y4) (laws_FnMerged.l0 (k + 1) y0 y1 y2 y3 y4)) ∧ (∀ y0 y1 y2 y3 y4 y5 y6 y7 y8 y9, LeO (laws_FnMerged.j2 k y0 y1 y2 y3 y4 y5 y6 y7 y8 y9) (laws_FnMerged.j2 (k + 1) y0 y1 y2 y3 y4 y5 y6 y7 y8 y9)) ∧ (∀ y0 y1 y2 y3 y4 y5 y6, LeO (laws_FnMerged.j3 k y0 y1 y2 y3 y4 y5 y6) (laws_FnMerged.j3 (k + 1) y0 y1 y2 y3 y4 y5 y6))
 | 0 => ⟨fun _ _ _ r h => by simp [laws_FnMerged.j0] at h, fun _ _ _ _ _ r h => by simp [laws_FnMerged.l0] at h, fun _ _ _ _ _ _ _ _ _ _ r h => by simp [laws_FnMerged.j2] at h, fun _ _ _ _ _ _ _ r h => by simp [laws_FnMerged.j3] at h⟩
 | k + 1 => by
  obtain ⟨ih0, ih1, ih2, ih3⟩ := laws_FnMerged.mono_l k
  refine ⟨?_, ?_, ?_, ?_⟩
  · intro y0 y1 y2
    unfold laws_FnMerged.j0
    repeat' (with_reducible first | exact ih0 _ _ _ | exact ih1 _ _ _ _ _ | exact ih2 _ _ _ _ _ _ _ _ _ _ | exact ih3 _ _ _ _ _ _ _ | exact impl_MergePages.mono _ _ _ | exact impl_PageOf.mono _ _ _ | exact spec_DrawMergePages.mono _ _ | exact spec_PageOf.mono _ _ _ | exact spec_ValidPages.mono _ _ | exact LeO.refl _ | exact LeO.none _ | refine LeO.ite ?_ ?_ | refine LeO.bind ?_ (fun _ => ?_))
  · intro y0 y1 y2 y3 y4
    unfold laws_FnMerged.l0
    repeat' (with_reducible first | exact ih0 _ _ _ | exact ih1 _ _ _ _ _ | exact ih2 _ _ _ _ _ _ _ _ _ _ | exact ih3 _ _ _ _ _ _ _ | exact impl_MergePages.mono _ _ _ | exact impl_PageOf.mono _ _ _ | exact spec_DrawMergePages.mono _ _ | exact spec_PageOf.mono _ _ _ | exact spec_ValidPages.mono _ _ | exact LeO.refl _ | exact LeO.none _ | refine LeO.ite ?_ ?_ | refine LeO.bind ?_ (fun _ => ?_))
  · intro y0 y1 y2 y3 y4 y5 y6 y7 y8 y9
    unfold laws_FnMerged.j2
    repeat' (with_reducible first | exact ih0 _ _ _ | exact ih1 _ _ _ _ _ | exact ih2 _ _ _ _ _ _ _ _ _ _ | exact ih3 _ _ _ _ _ _ _ | exact impl_MergePages.mono _ _ _ | exact impl_PageOf.mono _ _ _ | exact spec_DrawMergePages.mono _ _ | exact spec_PageOf.mono _ _ _ | exact spec_ValidPages.mono _ _ | exact LeO.refl _ | exact LeO.none _ | refine LeO.ite ?_ ?_ | refine LeO.bind ?_ (fun _ => ?_))
  · intro y0 y1 y2 y3 y4 y5 y6
    unfold laws_FnMerged.j3
    repeat' (with_reducible first | exact ih0 _ _ _ | exact ih1 _ _ _ _ _ | exact ih2 _ _ _ _ _ _ _ _ _ _ | exact ih3 _ _ _ _ _ _ _ | exact impl_MergePages.mono _ _ _ | exact impl_PageOf.mono _ _ _ | exact spec_DrawMergePages.mono _ _ | exact spec_PageOf.mono _ _ _ | exact spec_ValidPages.mono _ _ | exact LeO.refl _ | exact LeO.none _ | refine LeO.ite ?_ ?_ | refine LeO.bind ?_ (fun _ => ?_))
theorem laws_FnMerged.mono : ∀ a0 k, LeO (laws_FnMerged.f k a0) (laws_FnMerged.f (k + 1) a0) := by
 intro a0 k
 obtain ⟨ih0, ih1, ih2, ih3⟩ := laws_FnMerged.mono_l k
 unfold laws_FnMerged.f
 repeat' (with_reducible first | exact ih0 _ _ _ | exact ih1 _ _ _ _ _ | exact ih2 _ _ _ _ _ _ _ _ _ _ | exact ih3 _ _ _ _ _ _ _ | exact impl_MergePages.mono _ _ _ | exact impl_PageOf.mono _ _ _ | exact spec_DrawMergePages.mono _ _ | exact spec_PageOf.mono _ _ _ | exact spec_ValidPages.mono _ _ | exact LeO.refl _ | exact LeO.none _ | refine LeO.ite ?_ ?_ | refine LeO.bind ?_ (fun _ => ?_))
set_option maxHeartbeats 8000000 in
set_option maxRecDepth 100000 in
theorem laws_FnMerged.calls (k : Nat) (A0 : Option Addr) (c0 : Nat) (l0 : List Int) (r : Bool) (w : World) (hr0 : Kd.C (Kd.int .u8) w A0 l0.length l0) (hc0 : l0.length ≤ c0) (h : laws_FnMerged.f k l0 = some r) :
 Calls Try.prog 5 #[.slice A0 l0.length c0] w fun e w' => e = .returned (.bool r) ∧ Below w.heap.size w w' := by
 have HR0 := yD hr0
 have HC0 := yD hc0
 clear hr0 hc0
 have HB := yD (Below.refl w.heap.size w)
 have H : ((laws_b10Long.f l0).bind fun t277 => (if t277 = true then (some true) else ((spec_DrawMergePages.f k l0).bind fun bt278 => ((spec_ValidPages.f k bt278.1).bind fun t284 => (if t284 = true then ((spec_ValidPages.f k bt278.2).bind fun t285 => (laws_FnMerged.j0 k bt278.1 bt278.2 (!t285))) else (laws_FnMerged.j0 k bt278.1 bt278.2 true)))))) = some r := h
 clear h
 obtain ⟨t277, A20, H⟩ := zW_ H
 replace H : (if t277 = true then (some true) else ((spec_DrawMergePages.f k l0).bind fun bt278 => ((spec_ValidPages.f k bt278.1).bind fun t284 => (if t284 = true then ((spec_ValidPages.f k bt278.2).bind fun t285 => (laws_FnMerged.j0 k bt278.1 bt278.2 (!t285))) else (laws_FnMerged.j0 k bt278.1 bt278.2 true))))) = some r := H
 have A2 := yD A20
 clear A20
 by_cases c3 : t277 = true
 · subst c3
   replace H : (some true) = some r := (by rw [if_pos rfl] at H; exact H); obtain rfl := Option.some.inj H; go_enter Try.func5, Try.ntmps5
   go_wp2_with (first | ((with_reducible refine gate_callee (f := 19) rfl ?_); refine gL 15 Try.func19 #[.slice A0 l0.length c0] ?_; (with_reducible refine (laws_b10Long.calls _ _ l0 true _ ?side1 ?side2 A2.out).mono ?_); (case side1 => repeat (first | exact HR0.out | (with_reducible first | refine yV ?_ _ | refine yW ?_ _ | refine yX ?_))); (case side2 => exact HC0.out); rintro e w' ⟨rfl, ⟨nd, rfl⟩⟩; refine ⟨_, rfl, ?_⟩))
   go_ret
   exact ⟨by first | rfl | (simp <;> rfl) | (simp [*] <;> rfl), kR0 HB⟩
 ·
  replace c3 := Bool.eq_false_iff.mpr c3
  subst c3
  replace H : ((spec_DrawMergePages.f k l0).bind fun bt278 => ((spec_ValidPages.f k bt278.1).bind fun t284 => (if t284 = true then ((spec_ValidPages.f k bt278.2).bind fun t285 => (laws_FnMerged.j0 k bt278.1 bt278.2 (!t285))) else (laws_FnMerged.j0 k bt278.1 bt278.2 true)))) = some r := (by rw [if_neg (show ¬ (false = true) by decide)] at H; exact H)
  obtain ⟨⟨t278, t279⟩, A40, H⟩ := zW_ H
  replace H : ((spec_ValidPages.f k t278).bind fun t284 => (if t284 = true then ((spec_ValidPages.f k t279).bind fun t285 => (laws_FnMerged.j0 k t278 t279 (!t285))) else (laws_FnMerged.j0 k t278 t279 true))) = some r := H
  have A4 := yD A40
  clear A40
  have HC5 := yD H
  clear H; go_enter Try.func5, Try.ntmps5
  go_upto_region 4 with (first | ((with_reducible refine gate_callee (f := 19) rfl ?_); refine gL 15 Try.func19 #[.slice A0 l0.length c0] ?_; (with_reducible refine (laws_b10Long.calls _ _ l0 false _ ?side1 ?side2 A2.out).mono ?_); (case side1 => repeat (first | exact HR0.out | (with_reducible first | refine yV ?_ _ | refine yW ?_ _ | refine yX ?_))); (case side2 => exact HC0.out); rintro e w' ⟨rfl, ⟨nd, rfl⟩⟩; refine ⟨_, rfl, ?_⟩) | ((with_reducible refine gate_callee (f := 20) rfl ?_); refine gL 18 Try.func20 #[.slice A0 l0.length c0] ?_; (with_reducible refine (spec_DrawMergePages.calls k _ _ l0 t278 t279 _ ?side1 ?side2 A4.out).mono ?_); (case side1 => repeat (first | exact HR0.out | (with_reducible first | refine yV ?_ _ | refine yW ?_ _ | refine yX ?_))); (case side2 => exact HC0.out); rintro e w6 ⟨v280, v282, rfl, ho0, ho1, hb⟩; refine ⟨_, rfl, ?_⟩; have HO281 := yD (yZ ho0 (below_size (kB HB))); have HO283 := yD (yZ ho1 (below_size (kB HB))); replace HB := yD (zC (kB HB) hb); clear hb ho0 ho1))
  (try simp only [Act.put, zH, zI, zJ])
  go_cut [28] (fun v28 wc => ∃ (kq : Nat) (x28_4 : Bool), v28 = .bool x28_4 ∧ Aside0 (laws_FnMerged.j0 kq t278 t279 x28_4 = some r) ∧ Aside0 (kq ≤ k) ∧ Aside0 (Kd.R k79 79 wc w.heap.size (fun k_ => oB v282 k_) v280 t278) ∧ Aside0 (Kd.R k79 79 wc w.heap.size (fun k_ => oB v280 k_) v282 t279) ∧ Aside0 (Below w.heap.size w wc))
  case first =>
   have H := HC5.out; clear HC5
   obtain ⟨t284, A70, H⟩ := zW_ H
   replace H : (if t284 = true then ((spec_ValidPages.f k t279).bind fun t285 => (laws_FnMerged.j0 k t278 t279 (!t285))) else (laws_FnMerged.j0 k t278 t279 true)) = some r := H
   have A7 := yD A70
   clear A70
   by_cases c8 : t284 = true
   ·
    subst c8
    replace H : ((spec_ValidPages.f k t279).bind fun t285 => (laws_FnMerged.j0 k t278 t279 (!t285))) = some r := (by rw [if_pos rfl] at H; exact H)
    obtain ⟨t285, A90, H⟩ := zW_ H
    replace H : (laws_FnMerged.j0 k t278 t279 (!t285)) = some r := H
    have A9 := yD A90
    clear A90
    have H' := yD H
    clear H
    obtain ⟨Ao10, co10, eo10⟩ := Kd.R_slice HO281.out
    subst eo10
    go_wp2_with (first | ((with_reducible refine gate_callee (f := 21) rfl ?_); refine gL 22 Try.func21 #[.slice Ao10 t278.length co10] ?_; (with_reducible refine (spec_ValidPages.calls k _ _ t278 true _ ?side1 ?side2 A7.out).mono ?_); (case side1 => exact kV (zA HO281.out).2.2); (case side2 => exact (zA HO281.out).2.1); rintro e w11 ⟨rfl, hb⟩; refine ⟨_, rfl, ?_⟩; replace HO281 := yD (zE (kA HO281) hb); replace HO283 := yD (zE (kA HO283) hb); replace HB := yD (zC (kB HB) hb); clear hb; obtain ⟨Ao12, co12, eo12⟩ := Kd.R_slice HO283.out; subst eo12) | (go_at_call 21; (with_reducible refine (spec_ValidPages.calls k _ _ t279 t285 _ ?side1 ?side2 A9.out).mono ?_); (case side1 => exact kV (zA HO283.out).2.2); (case side2 => exact (zA HO283.out).2.1); rintro e w13 ⟨rfl, hb⟩; replace HO281 := yD (zE (kA HO281) hb); replace HO283 := yD (zE (kA HO283) hb); replace HB := yD (zC (kB HB) hb); clear hb))
    go_meet
    case rel => exact ⟨_, (!t285), (by first | rfl | (simp; done) | (simp [*]; done)), H', ⟨by first | omega | exact Nat.le_refl _⟩, ⟨kA HO281⟩, ⟨kA HO283⟩, ⟨kR0 HB⟩⟩
   ·
    replace c8 := Bool.eq_false_iff.mpr c8
    subst c8
    replace H : (laws_FnMerged.j0 k t278 t279 true) = some r := (by rw [if_neg (show ¬ (false = true) by decide)] at H; exact H)
    have H' := yD H
    clear H
    obtain ⟨Ao14, co14, eo14⟩ := Kd.R_slice HO281.out
    subst eo14
    go_wp2_with (first | ((with_reducible refine gate_callee (f := 21) rfl ?_); refine gL 22 Try.func21 #[.slice Ao14 t278.length co14] ?_; (with_reducible refine (spec_ValidPages.calls k _ _ t278 false _ ?side1 ?side2 A7.out).mono ?_); (case side1 => exact kV (zA HO281.out).2.2); (case side2 => exact (zA HO281.out).2.1); rintro e w15 ⟨rfl, hb⟩; refine ⟨_, rfl, ?_⟩; replace HO281 := yD (zE (kA HO281) hb); replace HO283 := yD (zE (kA HO283) hb); replace HB := yD (zC (kB HB) hb); clear hb))
    go_meet
    case rel => exact ⟨_, (true), (by first | rfl | (simp; done) | (simp [*]; done)), H', ⟨by first | omega | exact Nat.le_refl _⟩, ⟨kA HO281⟩, ⟨kA HO283⟩, ⟨kR0 HB⟩⟩
  case rest =>
   clear HC5; try clear c3; try clear c8
   obtain ⟨kq, x28_4, rfl, HA, HJ4, HO_3, HO_4, HB⟩ := hcut
   cases kq with
   | zero => exact absurd HA.out (by simp [laws_FnMerged.j0])
   | succ kj4 =>
    have H := HA.out; clear HA
    simp only [laws_FnMerged.j0] at H
    by_cases c16 : x28_4 = true
    · subst c16
      replace H : (some true) = some r := (by rw [if_pos rfl] at H; exact H); obtain rfl := Option.some.inj H
      go_wp2
      go_ret
      exact ⟨by first | rfl | (simp <;> rfl) | (simp [*] <;> rfl), kR0 HB⟩
    ·
     replace c16 := Bool.eq_false_iff.mpr c16
     subst c16
     replace H : ((impl_MergePages.f kj4 t278 t279).bind fun t286 => (laws_FnMerged.l0 kj4 t278 t279 t286 0 0)) = some r := (by rw [if_neg (show ¬ (false = true) by decide)] at H; exact H)
     obtain ⟨t286, A170, H⟩ := zW_ H
     replace H : (laws_FnMerged.l0 kj4 t278 t279 t286 0 0) = some r := H
     have A17 := yD A170
     clear A170
     have H' := yD H
     clear H
     obtain ⟨Ao18, co18, eo18⟩ := Kd.R_slice HO_3.out
     subst eo18
     obtain ⟨Ao19, co19, eo19⟩ := Kd.R_slice HO_4.out
     subst eo19
     go_wp2_with (first | ((with_reducible refine gate_callee (f := 15) rfl ?_); refine gL 31 Try.func15 #[.slice Ao18 t278.length co18, .slice Ao19 t279.length co19] ?_; (with_reducible refine (impl_MergePages.calls kj4 _ _ t278 _ _ t279 t286 _ ?side1 ?side2 ?side3 ?side4 A17.out).mono ?_); (case side1 => exact kV (zA HO_3.out).2.2); (case side2 => exact (zA HO_3.out).2.1); (case side3 => exact kV (zA HO_4.out).2.2); (case side4 => exact (zA HO_4.out).2.1); rintro e w20 ⟨v287, rfl, ho0, hb⟩; refine ⟨_, rfl, ?_⟩; have HO288 := yD (yZ (yJ (yJ ho0 (yK (kA HO_3))) (yK (kA HO_4))) (below_size (kB HB))); replace HO_3 := yD (Kd.R_elder' (kA HO_3) (yH ho0) hb); replace HO_4 := yD (Kd.R_elder' (kA HO_4) (yH ho0) hb); replace HB := yD (zC (kB HB) hb); clear hb ho0))
     (try simp only [Act.put, zH, zI, zJ])
     go_loopg [6, 7] kj4 (fun kq v6 v7 w' => ∃ (x6_2 : Int) (x7_2 : Int), v6 = .int .i64 x6_2 ∧ v7 = .int .i64 x7_2 ∧ Aside0 (laws_FnMerged.l0 kq t278 t279 t286 x6_2 x7_2 = some r) ∧ Aside0 (kq ≤ kj4) ∧ Aside0 (Kd.R k79 79 w' w.heap.size (fun k_ => oB (.slice Ao19 t279.length co19) k_ ∧ oB v287 k_) (.slice Ao18 t278.length co18) t278) ∧ Aside0 (Kd.R k79 79 w' w.heap.size (fun k_ => oB (.slice Ao18 t278.length co18) k_ ∧ oB v287 k_) (.slice Ao19 t279.length co19) t279) ∧ Aside0 (Kd.R k79 79 w' w.heap.size (fun k_ => oB (.slice Ao18 t278.length co18) k_ ∧ oB (.slice Ao19 t279.length co19) k_) v287 t286) ∧ Aside0 (Below w.heap.size w w'))
     case atStart => exact ⟨(0), (0), (by first | rfl | (simp; done) | (simp [*]; done)), (by first | rfl | (simp; done) | (simp [*]; done)), H', ⟨Nat.le_refl _⟩, ⟨kA HO_3⟩, ⟨kA HO_4⟩, ⟨mR HO288 (fun _ hk => ⟨hk.1.2, hk.2⟩)⟩, ⟨kR0 HB⟩⟩
     case round =>
      clear H'
      try clear c1; try clear c3; try clear c8; try clear c16
      obtain ⟨x6_2, x7_2, rfl, rfl, HA, HK2, HO_3, HO_4, HO_5, HB⟩ := hrel
      cases gk with
      | zero => exact absurd HA.out (by simp [laws_FnMerged.l0])
      | succ k2 =>
       have H := HA.out; clear HA
       simp only [laws_FnMerged.l0] at H
       by_cases c21 : x7_2 < 256
       ·
        rw [if_pos c21] at H
        have c21b0 : decide (x7_2 < 256) = true := zR c21; clear c21
        obtain ⟨⟨t290, t291⟩, A220, H⟩ := zW_ H
        replace H : ((spec_PageOf.f k2 t279 x7_2).bind fun bt292 => ((impl_PageOf.f k2 t286 x7_2).bind fun bt294 => (if bt292.2 = true then (laws_FnMerged.j2 k2 t278 t279 t286 x6_2 x7_2 bt292.1 t291 bt292.2 bt294.1 bt294.2) else (laws_FnMerged.j2 k2 t278 t279 t286 x6_2 x7_2 t290 t291 bt292.2 bt294.1 bt294.2)))) = some r := H
        have A22 := yD A220
        clear A220
        obtain ⟨⟨t292, t293⟩, A230, H⟩ := zW_ H
        replace H : ((impl_PageOf.f k2 t286 x7_2).bind fun bt294 => (if t293 = true then (laws_FnMerged.j2 k2 t278 t279 t286 x6_2 x7_2 t292 t291 t293 bt294.1 bt294.2) else (laws_FnMerged.j2 k2 t278 t279 t286 x6_2 x7_2 t290 t291 t293 bt294.1 bt294.2))) = some r := H
        have A23 := yD A230
        clear A230
        obtain ⟨⟨t294, t295⟩, A240, H⟩ := zW_ H
        replace H : (if t293 = true then (laws_FnMerged.j2 k2 t278 t279 t286 x6_2 x7_2 t292 t291 t293 t294 t295) else (laws_FnMerged.j2 k2 t278 t279 t286 x6_2 x7_2 t290 t291 t293 t294 t295)) = some r := H
        have A24 := yD A240
        clear A240
        have HC25 := yD H
        clear H
        go_upto_if 54 with (first | ((with_reducible refine gate_callee (f := 22) rfl ?_); refine gL 39 Try.func22 #[.slice Ao18 t278.length co18, .int .i64 x7_2] ?_; (with_reducible refine (spec_PageOf.calls k2 _ _ t278 x7_2 t290 t291 _ ?side1 ?side2 A22.out).mono ?_); (case side1 => exact kV (zA HO_3.out).2.2); (case side2 => exact (zA HO_3.out).2.1); rintro e w' ⟨rfl, ⟨nd, rfl⟩⟩; refine ⟨_, rfl, ?_⟩) | ((with_reducible refine gate_callee (f := 22) rfl ?_); refine gL 45 Try.func22 #[.slice Ao19 t279.length co19, .int .i64 x7_2] ?_; (with_reducible refine (spec_PageOf.calls k2 _ _ t279 x7_2 t292 t293 _ ?side1 ?side2 A23.out).mono ?_); (case side1 => exact kV (zA HO_4.out).2.2); (case side2 => exact (zA HO_4.out).2.1); rintro e w' ⟨rfl, ⟨nd, rfl⟩⟩; refine ⟨_, rfl, ?_⟩; obtain ⟨Ao26, co26, eo26⟩ := Kd.R_slice HO_5.out; subst eo26) | ((with_reducible refine gate_callee (f := 23) rfl ?_); refine gL 51 Try.func23 #[.slice Ao26 t286.length co26, .int .i64 x7_2] ?_; (with_reducible refine (impl_PageOf.calls k2 _ _ t286 x7_2 t294 t295 _ ?side1 ?side2 A24.out).mono ?_); (case side1 => exact kV (zA HO_5.out).2.2); (case side2 => exact (zA HO_5.out).2.1); rintro e w27 ⟨rfl, hb⟩; refine ⟨_, rfl, ?_⟩; replace HO_3 := yD (zE (kA HO_3) hb); replace HO_4 := yD (zE (kA HO_4) hb); replace HO_5 := yD (zE (kA HO_5) hb); replace HB := yD (zC (kB HB) hb); clear hb))
        (try simp only [Act.put, zH, zI, zJ])
        go_cut [8] (fun v8 wc => ∃ (kq : Nat) (x8_24 : ByteArray), v8 = .string x8_24 ∧ Aside0 (laws_FnMerged.j2 kq t278 t279 t286 x6_2 x7_2 x8_24 t291 t293 t294 t295 = some r) ∧ Aside0 (kq ≤ k2) ∧ Aside0 (Kd.R k79 79 wc w.heap.size (fun k_ => oB (.slice Ao19 t279.length co19) k_ ∧ oB (.slice Ao26 t286.length co26) k_) (.slice Ao18 t278.length co18) t278) ∧ Aside0 (Kd.R k79 79 wc w.heap.size (fun k_ => oB (.slice Ao18 t278.length co18) k_ ∧ oB (.slice Ao26 t286.length co26) k_) (.slice Ao19 t279.length co19) t279) ∧ Aside0 (Kd.R k79 79 wc w.heap.size (fun k_ => oB (.slice Ao18 t278.length co18) k_ ∧ oB (.slice Ao19 t279.length co19) k_) (.slice Ao26 t286.length co26) t286) ∧ Aside0 (Below w.heap.size w wc))
        case first =>
         have H := HC25.out; clear HC25
         by_cases c28 : t293 = true
         · subst c28
           replace H : (laws_FnMerged.j2 k2 t278 t279 t286 x6_2 x7_2 t292 t291 true t294 t295) = some r := (by rw [if_pos rfl] at H; exact H)
           have H' := yD H
           clear H
           go_wp2
           go_meet
           case rel => exact ⟨_, (t292), (by first | rfl | (simp; done) | (simp [*]; done)), H', ⟨by have := HJ4.out; have := HK2.out; first | omega | exact Nat.le_refl _⟩, ⟨kA HO_3⟩, ⟨kA HO_4⟩, ⟨kA HO_5⟩, ⟨kR0 HB⟩⟩
         · replace c28 := Bool.eq_false_iff.mpr c28
           subst c28
           replace H : (laws_FnMerged.j2 k2 t278 t279 t286 x6_2 x7_2 t290 t291 false t294 t295) = some r := (by rw [if_neg (show ¬ (false = true) by decide)] at H; exact H)
           have H' := yD H
           clear H
           go_wp2
           go_meet
           case rel => exact ⟨_, (t290), (by first | rfl | (simp; done) | (simp [*]; done)), H', ⟨by have := HJ4.out; have := HK2.out; first | omega | exact Nat.le_refl _⟩, ⟨kA HO_3⟩, ⟨kA HO_4⟩, ⟨kA HO_5⟩, ⟨kR0 HB⟩⟩
        case rest =>
         clear HC25; try clear c3; try clear c8; try clear c16; try clear c21; try clear c21b0; try clear c28
         obtain ⟨kq, x8_24, rfl, HA, HJ24, HO_3, HO_4, HO_5, HB⟩ := hcut
         cases kq with
         | zero => exact absurd HA.out (by simp [laws_FnMerged.j2])
         | succ kj24 =>
          have H := HA.out; clear HA
          simp only [laws_FnMerged.j2] at H
          have HC29 := yD H
          clear H
          go_upto_region 16 with (fail)
          go_cut [69] (fun v69 wc => ∃ (kq : Nat) (x69_28 : Bool), v69 = .bool x69_28 ∧ Aside0 (laws_FnMerged.j3 kq t278 t279 t286 x6_2 x7_2 t295 x69_28 = some r) ∧ Aside0 (kq ≤ kj24) ∧ Aside0 (Kd.R k79 79 wc w.heap.size (fun k_ => oB (.slice Ao19 t279.length co19) k_ ∧ oB (.slice Ao26 t286.length co26) k_) (.slice Ao18 t278.length co18) t278) ∧ Aside0 (Kd.R k79 79 wc w.heap.size (fun k_ => oB (.slice Ao18 t278.length co18) k_ ∧ oB (.slice Ao26 t286.length co26) k_) (.slice Ao19 t279.length co19) t279) ∧ Aside0 (Kd.R k79 79 wc w.heap.size (fun k_ => oB (.slice Ao18 t278.length co18) k_ ∧ oB (.slice Ao19 t279.length co19) k_) (.slice Ao26 t286.length co26) t286) ∧ Aside0 (Below w.heap.size w wc))
          case first =>
           have H := HC29.out; clear HC29
           by_cases c30 : t291 = true
           ·
            subst c30
            replace H : (if (t295 != true) = true then (laws_FnMerged.j3 kj24 t278 t279 t286 x6_2 x7_2 t295 true) else (if t295 = true then (laws_FnMerged.j3 kj24 t278 t279 t286 x6_2 x7_2 t295 (t294.toList != x8_24.toList)) else (laws_FnMerged.j3 kj24 t278 t279 t286 x6_2 x7_2 t295 false))) = some r := (by rw [if_pos rfl] at H; exact H)
            by_cases c31 : (t295 != true) = true
            · rw [if_pos c31] at H
              have c31b0 : (t295 != true) = true := c31
              (try (have c31b1 : decide (t295 = true) = false := by simpa using c31))
              (try (have c31b2 : (t295 == true) = false := by simpa using c31))
              (try (have c31b3 : ¬ (t295 = true) := by simpa using c31))
              clear c31
              (first | rw [c31b0] | (simp only [i64_w, i32_w]; rw [c31b0]) | (simp only [bne] at c31b0; rw [c31b0]) | skip)
              have H' := yD H
              clear H
              go_wp2
              go_meet
              case rel => exact ⟨_, (true), (by first | rfl | (simp; done) | (simp [*]; done)), H', ⟨by have := HJ4.out; have := HK2.out; have := HJ24.out; first | omega | exact Nat.le_refl _⟩, ⟨kA HO_3⟩, ⟨kA HO_4⟩, ⟨kA HO_5⟩, ⟨kR0 HB⟩⟩
            ·
             rw [if_neg c31] at H
             have c31b0 : (t295 != true) = false := by simpa using c31
             (try (have c31b1 : decide (t295 = true) = true := by simpa using c31))
             (try (have c31b2 : (t295 == true) = true := by simpa using c31))
             clear c31
             (first | rw [c31b0] | (simp only [i64_w, i32_w]; rw [c31b0]) | (simp only [bne] at c31b0; rw [c31b0]) | skip)
             by_cases c32 : t295 = true
             · subst c32
               replace H : (laws_FnMerged.j3 kj24 t278 t279 t286 x6_2 x7_2 true (t294.toList != x8_24.toList)) = some r := (by rw [if_pos rfl] at H; exact H)
               have H' := yD H
               clear H
               go_wp2
               go_meet
               case rel => exact ⟨_, ((t294.toList != x8_24.toList)), (by first | rfl | (simp; done) | (simp [*]; done)), H', ⟨by have := HJ4.out; have := HK2.out; have := HJ24.out; first | omega | exact Nat.le_refl _⟩, ⟨kA HO_3⟩, ⟨kA HO_4⟩, ⟨kA HO_5⟩, ⟨kR0 HB⟩⟩
             · replace c32 := Bool.eq_false_iff.mpr c32
               subst c32
               replace H : (laws_FnMerged.j3 kj24 t278 t279 t286 x6_2 x7_2 false false) = some r := (by rw [if_neg (show ¬ (false = true) by decide)] at H; exact H)
               have H' := yD H
               clear H
               go_wp2
               go_meet
               case rel => exact ⟨_, (false), (by first | rfl | (simp; done) | (simp [*]; done)), H', ⟨by have := HJ4.out; have := HK2.out; have := HJ24.out; first | omega | exact Nat.le_refl _⟩, ⟨kA HO_3⟩, ⟨kA HO_4⟩, ⟨kA HO_5⟩, ⟨kR0 HB⟩⟩
           ·
            replace c30 := Bool.eq_false_iff.mpr c30
            subst c30
            replace H : (if (t295 != t293) = true then (laws_FnMerged.j3 kj24 t278 t279 t286 x6_2 x7_2 t295 true) else (if t295 = true then (laws_FnMerged.j3 kj24 t278 t279 t286 x6_2 x7_2 t295 (t294.toList != x8_24.toList)) else (laws_FnMerged.j3 kj24 t278 t279 t286 x6_2 x7_2 t295 false))) = some r := (by rw [if_neg (show ¬ (false = true) by decide)] at H; exact H)
            by_cases c33 : (t295 != t293) = true
            · rw [if_pos c33] at H
              have c33b0 : (t295 != t293) = true := c33
              (try (have c33b1 : decide (t295 = t293) = false := by simpa using c33))
              (try (have c33b2 : (t295 == t293) = false := by simpa using c33))
              (try (have c33b3 : ¬ (t295 = t293) := by simpa using c33))
              clear c33
              have H' := yD H
              clear H
              go_wp2
              go_meet
              case rel => exact ⟨_, (true), (by first | rfl | (simp; done) | (simp [*]; done)), H', ⟨by have := HJ4.out; have := HK2.out; have := HJ24.out; first | omega | exact Nat.le_refl _⟩, ⟨kA HO_3⟩, ⟨kA HO_4⟩, ⟨kA HO_5⟩, ⟨kR0 HB⟩⟩
            ·
             rw [if_neg c33] at H
             have c33b0 : (t295 != t293) = false := by simpa using c33
             (try (have c33b1 : decide (t295 = t293) = true := by simpa using c33))
             (try (have c33b2 : (t295 == t293) = true := by simpa using c33))
             clear c33
             by_cases c34 : t295 = true
             · subst c34
               replace H : (laws_FnMerged.j3 kj24 t278 t279 t286 x6_2 x7_2 true (t294.toList != x8_24.toList)) = some r := (by rw [if_pos rfl] at H; exact H)
               have H' := yD H
               clear H
               go_wp2
               go_meet
               case rel => exact ⟨_, ((t294.toList != x8_24.toList)), (by first | rfl | (simp; done) | (simp [*]; done)), H', ⟨by have := HJ4.out; have := HK2.out; have := HJ24.out; first | omega | exact Nat.le_refl _⟩, ⟨kA HO_3⟩, ⟨kA HO_4⟩, ⟨kA HO_5⟩, ⟨kR0 HB⟩⟩
             · replace c34 := Bool.eq_false_iff.mpr c34
               subst c34
               replace H : (laws_FnMerged.j3 kj24 t278 t279 t286 x6_2 x7_2 false false) = some r := (by rw [if_neg (show ¬ (false = true) by decide)] at H; exact H)
               have H' := yD H
               clear H
               go_wp2
               go_meet
               case rel => exact ⟨_, (false), (by first | rfl | (simp; done) | (simp [*]; done)), H', ⟨by have := HJ4.out; have := HK2.out; have := HJ24.out; first | omega | exact Nat.le_refl _⟩, ⟨kA HO_3⟩, ⟨kA HO_4⟩, ⟨kA HO_5⟩, ⟨kR0 HB⟩⟩
          case rest =>
           clear HC29; try clear c3; try clear c8; try clear c16; try clear c21; try clear c21b0; try clear c28; try clear c30; try clear c31; try clear c31b0; try clear c31b1; try clear c31b2; try clear c32; try clear c33; try clear c33b0; try clear c33b1; try clear c33b2; try clear c34
           obtain ⟨kq, x69_28, rfl, HA, HJ28, HO_3, HO_4, HO_5, HB⟩ := hcut
           cases kq with
           | zero => exact absurd HA.out (by simp [laws_FnMerged.j3])
           | succ kj28 =>
            have H := HA.out; clear HA
            simp only [laws_FnMerged.j3] at H
            by_cases c35 : x69_28 = true
            · subst c35
              replace H : (some false) = some r := (by rw [if_pos rfl] at H; exact H); obtain rfl := Option.some.inj H
              go_wp2
              go_ret
              exact ⟨by first | rfl | (simp <;> rfl) | (simp [*] <;> rfl), kR0 HB⟩
            ·
             replace c35 := Bool.eq_false_iff.mpr c35
             subst c35
             replace H : (if t295 = true then (laws_FnMerged.l0 kj28 t278 t279 t286 (wrap64 (x6_2 + 1)) (wrap64 (x7_2 + 1))) else (laws_FnMerged.l0 kj28 t278 t279 t286 x6_2 (wrap64 (x7_2 + 1)))) = some r := (by rw [if_neg (show ¬ (false = true) by decide)] at H; exact H)
             by_cases c36 : t295 = true
             · subst c36
               replace H : (laws_FnMerged.l0 kj28 t278 t279 t286 (wrap64 (x6_2 + 1)) (wrap64 (x7_2 + 1))) = some r := (by rw [if_pos rfl] at H; exact H)
               have H' := yD H
               clear H
               go_wp2
               go_roundg kj28
               case measure => have := HJ4.out; have := HK2.out; have := HJ24.out; have := HJ28.out; omega
               case rel => exact ⟨(wrap64 (x6_2 + 1)), (wrap64 (x7_2 + 1)), (by first | rfl | (simp; done) | (simp [*]; done)), (by first | rfl | (simp; done) | (simp [*]; done)), H', ⟨by have := HJ4.out; have := HK2.out; have := HJ24.out; have := HJ28.out; omega⟩, ⟨kA HO_3⟩, ⟨kA HO_4⟩, ⟨kA HO_5⟩, ⟨kR0 HB⟩⟩
             · replace c36 := Bool.eq_false_iff.mpr c36
               subst c36
               replace H : (laws_FnMerged.l0 kj28 t278 t279 t286 x6_2 (wrap64 (x7_2 + 1))) = some r := (by rw [if_neg (show ¬ (false = true) by decide)] at H; exact H)
               have H' := yD H
               clear H
               go_wp2
               go_roundg kj28
               case measure => have := HJ4.out; have := HK2.out; have := HJ24.out; have := HJ28.out; omega
               case rel => exact ⟨(x6_2), (wrap64 (x7_2 + 1)), (by first | rfl | (simp; done) | (simp [*]; done)), (by first | rfl | (simp; done) | (simp [*]; done)), H', ⟨by have := HJ4.out; have := HK2.out; have := HJ24.out; have := HJ28.out; omega⟩, ⟨kA HO_3⟩, ⟨kA HO_4⟩, ⟨kA HO_5⟩, ⟨kR0 HB⟩⟩
       ·
        rw [if_neg c21] at H
        have c21b0 : decide (x7_2 < 256) = false := zS c21; clear c21
        by_cases c37 : x6_2 = (t286.length : Int)
        ·
         rw [if_pos c37] at H
         have c37b0 : (x6_2 == (t286.length : Int)) = true := beq_iff_eq.mpr c37
         have c37b1 : (x6_2 != (t286.length : Int)) = false := bne_eq_false_iff_eq.mpr c37
         clear c37
         obtain ⟨t289, A380, H⟩ := zW_ H
         replace H : (some t289) = some r := H
         have A38 := yD A380
         clear A380; obtain rfl := Option.some.inj H
         obtain ⟨Ao39, co39, eo39⟩ := Kd.R_slice HO_5.out
         subst eo39
         go_wp2_with (first | (go_at_call 21; (with_reducible refine (spec_ValidPages.calls k2 _ _ t286 t289 _ ?side1 ?side2 A38.out).mono ?_); (case side1 => exact kV (zA HO_5.out).2.2); (case side2 => exact (zA HO_5.out).2.1); rintro e w40 ⟨rfl, hb⟩; replace HO_3 := yD (zE (kA HO_3) hb); replace HO_4 := yD (zE (kA HO_4) hb); replace HO_5 := yD (zE (kA HO_5) hb); replace HB := yD (zC (kB HB) hb); clear hb))
         go_ret
         exact ⟨by first | rfl | (simp <;> rfl) | (simp [*] <;> rfl), kR0 HB⟩
        · rw [if_neg c37] at H
          have c37b0 : (x6_2 == (t286.length : Int)) = false := beq_eq_false_iff_ne.mpr c37
          have c37b1 : (x6_2 != (t286.length : Int)) = true := bne_iff_ne.mpr c37
          obtain rfl := Option.some.inj H
          obtain ⟨Ao41, co41, eo41⟩ := Kd.R_slice HO_5.out
          subst eo41
          go_wp2
          go_ret
          exact ⟨by first | rfl | (simp <;> rfl) | (simp [*] <;> rfl), kR0 HB⟩

-- what data that come in are: numbers of their kinds, lengths that a length can be
/-- THE ONE PURE STATEMENT of laws_FnMerged: ours. -/
def laws_FnMerged.Pure : Prop := ∀ (l0 : List Int), (l0.length ≤ maxLen ∧ ∀ x_ ∈ l0, (Lit.int .u8 x_).wf = true) → ∃ k, laws_FnMerged.f k l0 = some true
theorem laws_FnMerged.walk (P : laws_FnMerged.Pure) (A0 : Option Addr) (c0 : Nat) (l0 : List Int) (w : World) (hr0 : Kd.C (Kd.int .u8) w A0 l0.length l0) (hc0 : l0.length ≤ c0) (o0 : (l0.length ≤ maxLen ∧ ∀ x_ ∈ l0, (Lit.int .u8 x_).wf = true)) :
 Calls Try.prog 5 #[.slice A0 l0.length c0] w fun e w' => e = .returned (.bool true) ∧ Below w.heap.size w w' := by
 obtain ⟨k, h⟩ := P l0 o0
 refine (laws_FnMerged.calls k _ _ l0 true w hr0 hc0 h).mono ?_
 rintro e w' ⟨rfl, hd⟩
 exact ⟨rfl, hd⟩

end Go.Proofs.Ytfblodggimjoaaa.PFnMerged
