/- Each Go function here comes to what the plain function of its name says, where that says something. Made by a program of this session, over the print. -/
import Derived.Test.YtdiaebjbiddefaaPFnNormalFormx0
import Derived.Test.YtdiaebjbiddefaaPFnNormalFormx3
import Derived.Test.YtdiaebjbiddefaaPFnNormalFormx4
import Derived.Test.YtdiaebjbiddefaaPFnNormalFormx5
import Derived.Test.YtdiaebjbiddefaaPFnNormalFormx7
import Derived.Test.YtdiaebjbiddefaaPFnNormalFormx14
namespace Go.Proofs.Ytdiaebjbiddefaa.PFnNormalForm
open Go.RowKit Go.Proofs.YtdiaebjbiddefaaW.PrintWords Go.Proofs.YtdiaebjbiddefaaW.PrintLast Go.Proofs.YtdiaebjbiddefaaW.PrintMore
attribute [local go_sem] max2_int min2_int max_two min_two max_three min_three max_four min_four   -- for this text's walks alone
set_option linter.unusedVariables false
set_option linter.unusedSimpArgs false

/-! ### spec_NormalBoxes: function 14 -/
def spec_NormalBoxes.f (k : Nat) (l0 : List (S42)) : Option ((List (S42)) × Int) := (spec_l07Do.f k 1 l0 ([] : List (S42))).bind fun bt430 => (some (bt430.1, bt430.2))
theorem spec_NormalBoxes.mono : ∀ a0 k, LeO (spec_NormalBoxes.f k a0) (spec_NormalBoxes.f (k + 1) a0) := by
 intro a0 k
 unfold spec_NormalBoxes.f
 repeat' first
  | (with_reducible exact spec_l07Do.mono _ _ _ _)
  | (with_reducible exact LeO.refl _)
  | (with_reducible exact LeO.none _)
  | (with_reducible refine LeO.ite ?_ ?_)
  | (with_reducible refine LeO.bind ?_ (fun _ => ?_))
  | exact spec_l07Do.mono _ _ _ _
  | exact LeO.none _
  | refine LeO.ite ?_ ?_
  | refine LeO.bind ?_ (fun _ => ?_)
set_option maxHeartbeats 8000000 in
set_option maxRecDepth 100000 in
theorem spec_NormalBoxes.calls (k : Nat) (P0_ : Nat → Prop) (A0 : Option Addr) (c0 : Nat) (l0 : List (S42)) (r1 : List (S42)) (r2 : Int) (w : World) (hs0 : Kd.V k42 42 w w.heap.size (fun k_ => P0_ k_) (.slice A0 l0.length c0) l0) (h : spec_NormalBoxes.f k l0 = some (r1, r2)) :
 Calls Try.prog 14 #[.slice A0 l0.length c0] w fun e w' => ∃ v0_ : Value, e = .returned (.tuple #[v0_, .int .i64 r2]) ∧ Kd.N k42 42 w' w.heap.size (fun k_ => (P0_ k_ ∨ w.heap.size ≤ k_)) v0_ r1 ∧ Below w.heap.size w w' := by
 have HO0 := yD (show Kd.V k42 42 w w.heap.size (fun k_ => (P0_ k_ ∨ w.heap.size ≤ k_)) (.slice A0 l0.length c0) l0 from Kd.V_mono hs0 (fun k_ hk => .inl hk))
 have HB := yD (Below.refl w.heap.size w)
 have H : ((spec_l07Do.f k 1 l0 ([] : List (S42))).bind fun bt430 => (some (bt430.1, bt430.2))) = some (r1, r2) := h
 clear h
 obtain ⟨⟨t430, t433⟩, A20, H⟩ := zW_ H
 replace H : (some (t430, t433)) = some (r1, r2) := H
 have A2 := yD A20
 clear A20
 simp only [Option.some.injEq, Prod.mk.injEq] at H
 obtain ⟨rfl, rfl⟩ := H
 go_enter Try.func14, Try.ntmps14
 go_wp2_with (first | ((with_reducible refine gate_callee (f := 54) rfl ?_); refine goesL_ (some 5) rfl rfl Try.func54 (by kernel_rfl) rfl #[.int .i64 1, .slice A0 l0.length c0, .slice none 0 0] rfl (by (try simp only [zK, zL, zM]); first | done | rfl | (simp only [zN, zO]; rfl)) ?_; (refine (spec_l07Do.calls k 1 (fun k_ => (P0_ k_ ∨ w.heap.size ≤ k_)) _ _ l0 (fun k_ => False) _ _ ([] : List (S42)) t430 t433 _ ?side1 ?side2 A2.out).mono ?_); (case side1 => exact HO0.out); (case side2 => exact Kd.V_nil _ _ _ _ _); rintro e w3 ⟨v431, rfl, ho0, hb⟩; refine ⟨_, rfl, ?_⟩; have n0_ := yD (Kd.V_elder' (by (with_reducible repeat (first | apply Kd.V_alloc | apply Kd.V_drewN | apply Kd.V_drew)); exact HO0.out) (Kd.N_base ho0) hb); have n1_ := yD (Kd.N_lower (Kd.N_mono (ok' := fun k_ => (P0_ k_ ∨ w.heap.size ≤ k_)) ho0 (fun k_ hk_ => Or.elim hk_ (fun hs_ => Or.elim hs_ (fun hs_ => hs_) (fun hs_ => (hs_).elim)) (fun hn_ => (.inr (Nat.le_trans (below_size (kB HB)) hn_))))) (below_size (kB HB))); have n2_ := yD (zC (kB HB) hb); clear HO0; clear HB; have HO0 := n0_; have HO432 := n1_; have HB := n2_; clear n0_ n1_ n2_; (try clear hb); (try clear hb2); (try clear hk); (try clear hi); (try clear ho0)))
 go_ret2
 exact ⟨_, by first | rfl | (simp <;> rfl) | (simp [*] <;> rfl), by (with_reducible repeat (first | apply Kd.N_alloc | apply Kd.N_drewN | apply Kd.N_drew)); exact HO432.out, kR0 HB⟩

/-! ### impl_UnionBoxes: function 21 -/
def impl_UnionBoxes.f (k : Nat) (l0 : List (S42)) (l1 : List (S42)) : Option ((List (S42)) × Int) := (impl_combine_impl_either.f k l0 l1).bind fun bt434 => (some (bt434.1, bt434.2))
theorem impl_UnionBoxes.mono : ∀ a0 a1 k, LeO (impl_UnionBoxes.f k a0 a1) (impl_UnionBoxes.f (k + 1) a0 a1) := by
 intro a0 a1 k
 unfold impl_UnionBoxes.f
 repeat' first
  | (with_reducible exact impl_combine_impl_either.mono _ _ _)
  | (with_reducible exact LeO.refl _)
  | (with_reducible exact LeO.none _)
  | (with_reducible refine LeO.ite ?_ ?_)
  | (with_reducible refine LeO.bind ?_ (fun _ => ?_))
  | exact impl_combine_impl_either.mono _ _ _
  | exact LeO.none _
  | refine LeO.ite ?_ ?_
  | refine LeO.bind ?_ (fun _ => ?_)
set_option maxHeartbeats 8000000 in
set_option maxRecDepth 100000 in
theorem impl_UnionBoxes.calls (k : Nat) (P0_ : Nat → Prop) (A0 : Option Addr) (c0 : Nat) (l0 : List (S42)) (P1_ : Nat → Prop) (A1 : Option Addr) (c1 : Nat) (l1 : List (S42)) (r1 : List (S42)) (r2 : Int) (w : World) (hs0 : Kd.V k42 42 w w.heap.size (fun k_ => P0_ k_) (.slice A0 l0.length c0) l0) (hs1 : Kd.V k42 42 w w.heap.size (fun k_ => P1_ k_) (.slice A1 l1.length c1) l1) (h : impl_UnionBoxes.f k l0 l1 = some (r1, r2)) :
 Calls Try.prog 21 #[.slice A0 l0.length c0, .slice A1 l1.length c1] w fun e w' => ∃ v0_ : Value, e = .returned (.tuple #[v0_, .int .i64 r2]) ∧ Kd.V k42 42 w' w.heap.size (fun k_ => ((P0_ k_ ∨ P1_ k_) ∨ w.heap.size ≤ k_)) v0_ r1 ∧ Below w.heap.size w w' := by
 have HO0 := yD (show Kd.V k42 42 w w.heap.size (fun k_ => ((P0_ k_ ∨ P1_ k_) ∨ w.heap.size ≤ k_)) (.slice A0 l0.length c0) l0 from Kd.V_mono hs0 (fun k_ hk => .inl (.inl hk)))
 have HO1 := yD (show Kd.V k42 42 w w.heap.size (fun k_ => ((P0_ k_ ∨ P1_ k_) ∨ w.heap.size ≤ k_)) (.slice A1 l1.length c1) l1 from Kd.V_mono hs1 (fun k_ hk => .inl (.inr hk)))
 have HB := yD (Below.refl w.heap.size w)
 have H : ((impl_combine_impl_either.f k l0 l1).bind fun bt434 => (some (bt434.1, bt434.2))) = some (r1, r2) := h
 clear h
 obtain ⟨⟨t434, t437⟩, A30, H⟩ := zW_ H
 replace H : (some (t434, t437)) = some (r1, r2) := H
 have A3 := yD A30
 clear A30
 simp only [Option.some.injEq, Prod.mk.injEq] at H
 obtain ⟨rfl, rfl⟩ := H
 go_enter Try.func21, Try.ntmps21
 go_wp2_with (first | ((with_reducible refine gate_callee (f := 56) rfl ?_); refine goesL_ (some 8) rfl rfl Try.func56 (by kernel_rfl) rfl #[.slice A0 l0.length c0, .slice A1 l1.length c1, .func (.func 57) #[] #[]] rfl (by (try simp only [zK, zL, zM]); first | done | rfl | (simp only [zN, zO]; rfl)) ?_; (with_reducible refine (impl_combine_impl_either.calls k (fun k_ => ((P0_ k_ ∨ P1_ k_) ∨ w.heap.size ≤ k_)) _ _ l0 (fun k_ => ((P0_ k_ ∨ P1_ k_) ∨ w.heap.size ≤ k_)) _ _ l1  t434 t437 _ ?side1 ?side2 A3.out).mono ?_); (case side1 => exact HO0.out); (case side2 => exact HO1.out); rintro e w4 ⟨v435, rfl, ho0, hb⟩; refine ⟨_, rfl, ?_⟩; have n0_ := yD (Kd.V_below (by (with_reducible repeat (first | apply Kd.V_alloc | apply Kd.V_drewN | apply Kd.V_drew)); exact HO0.out) hb); have n1_ := yD (Kd.V_below (by (with_reducible repeat (first | apply Kd.V_alloc | apply Kd.V_drewN | apply Kd.V_drew)); exact HO1.out) hb); have n2_ := yD (Kd.V_lower (Kd.V_mono (ok' := fun k_ => ((P0_ k_ ∨ P1_ k_) ∨ w.heap.size ≤ k_)) ho0 (fun k_ hk_ => Or.elim hk_ (fun hs_ => Or.elim hs_ (fun hs_ => hs_) (fun hs_ => hs_)) (fun hn_ => (.inr (Nat.le_trans (below_size (kB HB)) hn_))))) (below_size (kB HB))); have n3_ := yD (zC (kB HB) hb); clear HO0; clear HO1; clear HB; have HO0 := n0_; have HO1 := n1_; have HO436 := n2_; have HB := n3_; clear n0_ n1_ n2_ n3_; (try clear hb); (try clear hb2); (try clear hk); (try clear hi); (try clear ho0)))
 go_ret2
 exact ⟨_, by first | rfl | (simp <;> rfl) | (simp [*] <;> rfl), by (with_reducible repeat (first | apply Kd.V_alloc | apply Kd.V_drewN | apply Kd.V_drew)); exact HO436.out, kR0 HB⟩

/-! ### impl_and: function 58 -/
def impl_and.f (a0 : Bool) (a1 : Bool) : Option (Bool) := if a0 = true then (some a1) else (some false)
set_option maxHeartbeats 8000000 in
set_option maxRecDepth 100000 in
theorem impl_and.calls (a0 : Bool) (a1 : Bool) (r : Bool) (w : World) (h : impl_and.f a0 a1 = some r) :
 Calls Try.prog 58 #[.bool a0, .bool a1] w fun e w' => e = .returned (.bool r) ∧ Drawn0 w w' := by
 have H : (if a0 = true then (some a1) else (some false)) = some r := h
 clear h
 by_cases c3 : a0 = true
 ·
  subst c3
  have H1 : (some a1) = some r := by rw [if_pos rfl] at H; exact H
  clear H; have H := H1; clear H1; obtain rfl := Option.some.inj H; go_enter Try.func58, Try.ntmps58
  go_wp2
  go_ret
  exact ⟨by first | rfl | (simp; done) | (simp [*]; done), by repeat (first | exact Drawn0.refl _ | apply Drawn0.step)⟩
 ·
  replace c3 := Bool.eq_false_iff.mpr c3
  subst c3
  have H1 : (some false) = some r := by rw [if_neg (show ¬ (false = true) by decide)] at H; exact H
  clear H; have H := H1; clear H1; obtain rfl := Option.some.inj H; go_enter Try.func58, Try.ntmps58
  go_wp2
  go_ret
  exact ⟨by first | rfl | (simp; done) | (simp [*]; done), by repeat (first | exact Drawn0.refl _ | apply Drawn0.step)⟩

/-! ### impl_combined_impl_and: function 87 -/
mutual
def impl_combined_impl_and.j0 : Nat → Int → List (S42) → List (S42) → Bool → Option ((List (S42)))
 | 0, _, _, _, _ => none
 | k + 1, x0, x1, x2, x33 => if x33 = true then (some ([] : List (S42))) else (impl_combined_impl_and.l0 k x0 x1 x2 ([] : List (S42)) ([] : List (S42)) 0 0)
def impl_combined_impl_and.l0 : Nat → Int → List (S42) → List (S42) → List (S42) → List (S42) → Int → Int → Option ((List (S42)))
 | 0, _, _, _, _, _, _, _ => none
 | k + 1, x0, x1, x2, x9, x10, x11, x34 => if x34 < 41 then (if x34 < 40 then ((impl_section.f k x1 x34).bind fun t442 => ((impl_section.f k x2 x34).bind fun t445 => ((impl_combined_impl_and.f k (wrap64 (x0 - 1)) t442 t445).bind fun t448 => (impl_combined_impl_and.j2 k x0 x1 x2 x9 x10 x11 x34 t448 x34)))) else (impl_combined_impl_and.j2 k x0 x1 x2 x9 x10 x11 x34 ([] : List (S42)) x34)) else (some x9)
def impl_combined_impl_and.j2 : Nat → Int → List (S42) → List (S42) → List (S42) → List (S42) → Int → Int → List (S42) → Int → Option ((List (S42)))
 | 0, _, _, _, _, _, _, _, _, _ => none
 | k + 1, x0, x1, x2, x9, x10, x11, x12, x13, x34 => (impl_SameBoxes.f k x13 x10).bind fun t451 => (if t451 = true then (impl_combined_impl_and.l0 k x0 x1 x2 x9 x10 x11 (wrap64 (x34 + 1))) else ((impl_prefixed.f k x10 x11 x12).bind fun t452 => (if x9.length + t452.length < 2932031007402 then (impl_combined_impl_and.l0 k x0 x1 x2 (x9 ++ t452) x13 x12 (wrap64 (x34 + 1))) else (none))))
def impl_combined_impl_and.f : Nat → Int → List (S42) → List (S42) → Option ((List (S42)))
 | 0, _, _, _ => none
 | k + 1, a0, l1, l2 => if a0 = 0 then ((impl_and.f (decide ((l1.length : Int) > 0)) (decide ((l2.length : Int) > 0))).bind fun t438 => (if t438 = true then (some (([(⟨([] : List Int), ([] : List Int)⟩ : S42)] : List (S42)))) else (some ([] : List (S42))))) else (if (l1.length : Int) = 0 then (impl_combined_impl_and.j0 k a0 l1 l2 ((l2.length : Int) == 0)) else (impl_combined_impl_and.j0 k a0 l1 l2 false))
end
theorem impl_combined_impl_and.mono_l : ∀ k, (∀ y0 y1 y2, LeO (impl_combined_impl_and.f k y0 y1 y2) (impl_combined_impl_and.f (k + 1) y0 y1 y2)) ∧ (∀ y0 y1 y2 y3, LeO (impl_combined_impl_and.j0 k y0 y1 y2 y3) (impl_combined_impl_and.j0 (k + 1) y0 y1 y2 y3)) ∧ (∀ y0 y1 y2 y3 y4 y5 y6, LeO (impl_combined_impl_and.l0 k y0 y1 y2 y3 y4 y5 y6) (impl_combined_impl_and.l0 (k + 1) y0 y1 y2 y3 y4 y5 y6)) ∧ (∀ y0 y1 y2 y3 y4 y5 y6 y7 y8, LeO (impl_combined_impl_and.j2 k y0 y1 y2 y3 y4 y5 y6 y7 y8) (impl_combined_impl_and.j2 (k + 1) y0 y1 y2 y3 y4 y5 y6 y7 y8))
 | 0 => ⟨fun _ _ _ r h => by simp [impl_combined_impl_and.f] at h, fun _ _ _ _ r h => by simp [impl_combined_impl_and.j0] at h, fun _ _ _ _ _ _ _ r h => by simp [impl_combined_impl_and.l0] at h, fun _ _ _ _ _ _ _ _ _ r h => by simp [impl_combined_impl_and.j2] at h⟩
 | k + 1 => by
  obtain ⟨ih0, ih1, ih2, ih3⟩ := impl_combined_impl_and.mono_l k
  refine ⟨?_, ?_, ?_, ?_⟩
  ·
   intro y0 y1 y2
   unfold impl_combined_impl_and.f
   repeat' first
   | (with_reducible exact ih0 _ _ _)
   | (with_reducible exact ih1 _ _ _ _)
   | (with_reducible exact ih2 _ _ _ _ _ _ _)
   | (with_reducible exact ih3 _ _ _ _ _ _ _ _ _)
   | (with_reducible exact impl_SameBoxes.mono _ _ _)
   | (with_reducible exact impl_prefixed.mono _ _ _ _)
   | (with_reducible exact impl_section.mono _ _ _)
   | (with_reducible exact LeO.refl _)
   | (with_reducible exact LeO.none _)
   | (with_reducible refine LeO.ite ?_ ?_)
   | (with_reducible refine LeO.bind ?_ (fun _ => ?_))
   | exact ih0 _ _ _
   | exact ih1 _ _ _ _
   | exact ih2 _ _ _ _ _ _ _
   | exact ih3 _ _ _ _ _ _ _ _ _
   | exact impl_SameBoxes.mono _ _ _
   | exact impl_prefixed.mono _ _ _ _
   | exact impl_section.mono _ _ _
   | exact LeO.none _
   | refine LeO.ite ?_ ?_
   | refine LeO.bind ?_ (fun _ => ?_)
  ·
   intro y0 y1 y2 y3
   unfold impl_combined_impl_and.j0
   repeat' first
   | (with_reducible exact ih0 _ _ _)
   | (with_reducible exact ih1 _ _ _ _)
   | (with_reducible exact ih2 _ _ _ _ _ _ _)
   | (with_reducible exact ih3 _ _ _ _ _ _ _ _ _)
   | (with_reducible exact impl_SameBoxes.mono _ _ _)
   | (with_reducible exact impl_prefixed.mono _ _ _ _)
   | (with_reducible exact impl_section.mono _ _ _)
   | (with_reducible exact LeO.refl _)
   | (with_reducible exact LeO.none _)
   | (with_reducible refine LeO.ite ?_ ?_)
   | (with_reducible refine LeO.bind ?_ (fun _ => ?_))
   | exact ih0 _ _ _
   | exact ih1 _ _ _ _
   | exact ih2 _ _ _ _ _ _ _
   | exact ih3 _ _ _ _ _ _ _ _ _
   | exact impl_SameBoxes.mono _ _ _
   | exact impl_prefixed.mono _ _ _ _
   | exact impl_section.mono _ _ _
   | exact LeO.none _
   | refine LeO.ite ?_ ?_
   | refine LeO.bind ?_ (fun _ => ?_)
  ·
   intro y0 y1 y2 y3 y4 y5 y6
   unfold impl_combined_impl_and.l0
   repeat' first
   | (with_reducible exact ih0 _ _ _)
   | (with_reducible exact ih1 _ _ _ _)
   | (with_reducible exact ih2 _ _ _ _ _ _ _)
   | (with_reducible exact ih3 _ _ _ _ _ _ _ _ _)
   | (with_reducible exact impl_SameBoxes.mono _ _ _)
   | (with_reducible exact impl_prefixed.mono _ _ _ _)
   | (with_reducible exact impl_section.mono _ _ _)
   | (with_reducible exact LeO.refl _)
   | (with_reducible exact LeO.none _)
   | (with_reducible refine LeO.ite ?_ ?_)
   | (with_reducible refine LeO.bind ?_ (fun _ => ?_))
   | exact ih0 _ _ _
   | exact ih1 _ _ _ _
   | exact ih2 _ _ _ _ _ _ _
   | exact ih3 _ _ _ _ _ _ _ _ _
   | exact impl_SameBoxes.mono _ _ _
   | exact impl_prefixed.mono _ _ _ _
   | exact impl_section.mono _ _ _
   | exact LeO.none _
   | refine LeO.ite ?_ ?_
   | refine LeO.bind ?_ (fun _ => ?_)
  ·
   intro y0 y1 y2 y3 y4 y5 y6 y7 y8
   unfold impl_combined_impl_and.j2
   repeat' first
   | (with_reducible exact ih0 _ _ _)
   | (with_reducible exact ih1 _ _ _ _)
   | (with_reducible exact ih2 _ _ _ _ _ _ _)
   | (with_reducible exact ih3 _ _ _ _ _ _ _ _ _)
   | (with_reducible exact impl_SameBoxes.mono _ _ _)
   | (with_reducible exact impl_prefixed.mono _ _ _ _)
   | (with_reducible exact impl_section.mono _ _ _)
   | (with_reducible exact LeO.refl _)
   | (with_reducible exact LeO.none _)
   | (with_reducible refine LeO.ite ?_ ?_)
   | (with_reducible refine LeO.bind ?_ (fun _ => ?_))
   | exact ih0 _ _ _
   | exact ih1 _ _ _ _
   | exact ih2 _ _ _ _ _ _ _
   | exact ih3 _ _ _ _ _ _ _ _ _
   | exact impl_SameBoxes.mono _ _ _
   | exact impl_prefixed.mono _ _ _ _
   | exact impl_section.mono _ _ _
   | exact LeO.none _
   | refine LeO.ite ?_ ?_
   | refine LeO.bind ?_ (fun _ => ?_)
theorem impl_combined_impl_and.mono : ∀ a0 a1 a2 k, LeO (impl_combined_impl_and.f k a0 a1 a2) (impl_combined_impl_and.f (k + 1) a0 a1 a2) := by
 intro a0 a1 a2 k
 obtain ⟨ih0, ih1, ih2, ih3⟩ := impl_combined_impl_and.mono_l k
 exact ih0 a0 a1 a2
set_option maxHeartbeats 8000000 in
set_option maxRecDepth 100000 in
theorem impl_combined_impl_and.calls (k : Nat) : ∀ (a0 : Int) (P1_ : Nat → Prop) (A1 : Option Addr) (c1 : Nat) (l1 : List (S42)) (P2_ : Nat → Prop) (A2 : Option Addr) (c2 : Nat) (l2 : List (S42))  (r : List (S42)) (w : World) (hs1 : Kd.V k42 42 w w.heap.size (fun k_ => P1_ k_) (.slice A1 l1.length c1) l1) (hs2 : Kd.V k42 42 w w.heap.size (fun k_ => P2_ k_) (.slice A2 l2.length c2) l2) (h : impl_combined_impl_and.f k a0 l1 l2 = some r),
 Calls Try.prog 87 #[.int .i64 a0, .slice A1 l1.length c1, .slice A2 l2.length c2, .func (.func 58) #[] #[]] w fun e w' => ∃ v0_ : Value, e = .returned (v0_) ∧ Kd.N k42 42 w' w.heap.size (fun k_ => ((P1_ k_ ∨ P2_ k_) ∨ w.heap.size ≤ k_)) v0_ r ∧ Below w.heap.size w w' := by
 induction k using Nat.strongRecOn with
 | _ k ih =>
 intro a0 P1_ A1 c1 l1 P2_ A2 c2 l2 r w hs1 hs2 h
 cases k with
 | zero => exact absurd h (by simp [impl_combined_impl_and.f])
 | succ k =>
 simp only [impl_combined_impl_and.f] at h
 have hu42 := Try.underlying42
 have HO1 := yD (show Kd.V k42 42 w w.heap.size (fun k_ => ((P1_ k_ ∨ P2_ k_) ∨ w.heap.size ≤ k_)) (.slice A1 l1.length c1) l1 from Kd.V_mono hs1 (fun k_ hk => .inl (.inl hk)))
 have HO2 := yD (show Kd.V k42 42 w w.heap.size (fun k_ => ((P1_ k_ ∨ P2_ k_) ∨ w.heap.size ≤ k_)) (.slice A2 l2.length c2) l2 from Kd.V_mono hs2 (fun k_ hk => .inl (.inr hk)))
 have HB := yD (Below.refl w.heap.size w)
 have H : (if a0 = 0 then ((impl_and.f (decide ((l1.length : Int) > 0)) (decide ((l2.length : Int) > 0))).bind fun t438 => (if t438 = true then (some (([(⟨([] : List Int), ([] : List Int)⟩ : S42)] : List (S42)))) else (some ([] : List (S42))))) else (if (l1.length : Int) = 0 then (impl_combined_impl_and.j0 k a0 l1 l2 ((l2.length : Int) == 0)) else (impl_combined_impl_and.j0 k a0 l1 l2 false))) = some r := h
 clear h
 by_cases c5 : a0 = 0
 ·
  rw [if_pos c5] at H
  have c5b0 : (a0 == 0) = true := beq_iff_eq.mpr c5
  have c5b1 : (a0 != 0) = false := bne_eq_false_iff_eq.mpr c5
  clear c5
  obtain ⟨t438, A60, H⟩ := zW_ H
  replace H : (if t438 = true then (some (([(⟨([] : List Int), ([] : List Int)⟩ : S42)] : List (S42)))) else (some ([] : List (S42)))) = some r := H
  have A6 := yD A60
  clear A60
  by_cases c7 : t438 = true
  ·
   subst c7
   have H1 : (some (([(⟨([] : List Int), ([] : List Int)⟩ : S42)] : List (S42)))) = some r := by rw [if_pos rfl] at H; exact H
   clear H; have H := H1; clear H1
   obtain ⟨y439, hy439⟩ : ∃ y_ : List (S42), y_ = (([(⟨([] : List Int), ([] : List Int)⟩ : S42)] : List (S42))) := ⟨_, rfl⟩
   replace H : (some y439) = some r := by first | (rw [hy439]; with_reducible exact H) | (have H2_ := (Option.bind_some _ _).symm.trans H; rw [hy439]; with_reducible exact H2_) | (have H2_ := (Option.bind_some _ _).symm.trans H; with_reducible exact H2_) | with_reducible exact H | (rw [hy439]; exact H) | exact H
   have Ny439 := yD hy439
   clear hy439; obtain rfl := Option.some.inj H; go_enter Try.func87, Try.ntmps87
   go_wp2_with (first | (go_at_call 58; (refine (impl_and.calls (decide (0 < l1.length)) (decide (0 < l2.length)) true _ (by have h_ := A6.out; rw [show decide ((l1.length : Int) > 0) = decide (0 < l1.length) from decide_eq_decide.2 (by omega), show decide ((l2.length : Int) > 0) = decide (0 < l2.length) from decide_eq_decide.2 (by omega)] at h_; exact h_)).mono ?_); rintro e w' ⟨rfl, ⟨nd, rfl⟩⟩) | ((with_reducible refine gate_dst (N := 25) rfl ?_); (try (refine gate_guard (by rfl) ?_; dsimp only)); refine Kd.N_lit k42 _ 42 ?hg (N' := 25) ?hd (xs := ([(⟨([] : List Int), ([] : List Int)⟩ : S42)] : List (S42))) (inner := [.slice none 0 0, .slice none 0 0]) (ok := (fun k_ => ((P1_ k_ ∨ P2_ k_) ∨ w.heap.size ≤ k_))) (okp := (fun k_ => ((P1_ k_ ∨ P2_ k_) ∨ w.heap.size ≤ k_))) ?hr ?hp (fun _ hk => hk) ((show ∀ k_, w.heap.size ≤ k_ → (fun k_ => ((P1_ k_ ∨ P2_ k_) ∨ w.heap.size ≤ k_)) k_ from fun k_ hk => (.inr (Nat.le_trans (below_size (kB HB)) hk))) _ (Nat.le_refl _)) (Below.refl _ _) (Nat.le_refl _) (by simp) ?_; (case hd => rfl); (case hg => rfl); (case hr => first | (go_simp; done) | (go_simp; rfl)); (case hp => exact (Reps.c2 (show Kd.FK k42 _ _ (⟨([] : List Int), ([] : List Int)⟩ : S42) [.slice none 0 0, .slice none 0 0] from (k42_mkF _ _ (⟨([] : List Int), ([] : List Int)⟩ : S42) (Nat.le_refl _) (Kd.F_nil _ _ _) (Nat.le_refl _) (Kd.F_nil _ _ _))) (Reps.none _ _))); intro v440 w8 ho9 hb hg_ hnew_; clear hg_ hnew_; (first | rw [← Ny439.out] at ho9 | (simp only [Int.reduceToNat] at ho9; rw [← Ny439.out] at ho9)); have n0_ := yD (Kd.V_elder' (by (with_reducible repeat (first | apply Kd.V_alloc | apply Kd.V_drewN | apply Kd.V_drew)); exact HO1.out) (Kd.N_base ho9) hb); have n1_ := yD (Kd.V_elder' (by (with_reducible repeat (first | apply Kd.V_alloc | apply Kd.V_drewN | apply Kd.V_drew)); exact HO2.out) (Kd.N_base ho9) hb); have n2_ := yD (Kd.N_lower ho9 (below_size (kB HB))); have n3_ := yD (zC (kB HB) hb); clear HO1; clear HO2; clear HB; have HO1 := n0_; have HO2 := n1_; have HO441 := n2_; have HB := n3_; clear n0_ n1_ n2_ n3_; clear hb ho9))
   go_ret
   exact ⟨_, by first | rfl | (simp <;> rfl) | (simp [*] <;> rfl), by (with_reducible repeat (first | apply Kd.N_alloc | apply Kd.N_drewN | apply Kd.N_drew)); exact HO441.out, kR0 HB⟩
  ·
   replace c7 := Bool.eq_false_iff.mpr c7
   subst c7
   have H1 : (some ([] : List (S42))) = some r := by rw [if_neg (show ¬ (false = true) by decide)] at H; exact H
   clear H; have H := H1; clear H1; obtain rfl := Option.some.inj H; go_enter Try.func87, Try.ntmps87
   go_wp2_with (first | (go_at_call 58; (refine (impl_and.calls (decide (0 < l1.length)) (decide (0 < l2.length)) false _ (by have h_ := A6.out; rw [show decide ((l1.length : Int) > 0) = decide (0 < l1.length) from decide_eq_decide.2 (by omega), show decide ((l2.length : Int) > 0) = decide (0 < l2.length) from decide_eq_decide.2 (by omega)] at h_; exact h_)).mono ?_); rintro e w' ⟨rfl, ⟨nd, rfl⟩⟩))
   go_ret
   exact ⟨_, by first | rfl | (simp <;> rfl) | (simp [*] <;> rfl), by first | exact Kd.S_nil _ _ _ _ _ | exact Kd.N_nil _ _ _ _ _ | exact Kd.V_nil _ _ _ _ _ | exact Kd.Q_nil _ _ _ _ _ | exact Kd.R_nil _ _ _ _ _, kR0 HB⟩
 ·
  rw [if_neg c5] at H
  have c5b0 : (a0 == 0) = false := beq_eq_false_iff_ne.mpr c5
  have c5b1 : (a0 != 0) = true := bne_iff_ne.mpr c5
  have HC10 := yD H
  clear H; go_enter Try.func87, Try.ntmps87
  go_upto_region 5 with (fail)
  go_cut [33] (fun v33 wc => ∃ (kq : Nat) (x33_9 : Bool), v33 = .bool x33_9 ∧ Aside0 (impl_combined_impl_and.j0 kq a0 l1 l2 x33_9 = some r) ∧ Aside0 (kq ≤ k) ∧ Aside0 (Kd.V k42 42 wc w.heap.size (fun k_ => ((P1_ k_ ∨ P2_ k_) ∨ w.heap.size ≤ k_)) (.slice A1 l1.length c1) l1) ∧ Aside0 (Kd.V k42 42 wc w.heap.size (fun k_ => ((P1_ k_ ∨ P2_ k_) ∨ w.heap.size ≤ k_)) (.slice A2 l2.length c2) l2) ∧ Aside0 (Below w.heap.size w wc))
  case first =>
   have H := HC10.out; clear HC10
   by_cases c11 : (l1.length : Int) = 0
   ·
    rw [if_pos c11] at H
    have c11b0 : ((l1.length : Int) == 0) = true := beq_iff_eq.mpr c11
    have c11b1 : ((l1.length : Int) != 0) = false := bne_eq_false_iff_eq.mpr c11
    clear c11
    (first | rw [c11b0] | (simp only [i64_w, i32_w]; rw [c11b0]) | (simp only [bne] at c11b0; rw [c11b0]) | skip)
    have H' := yD H
    clear H
    go_wp2
    go_meet
    case rel => exact ⟨_, (((l2.length : Int) == 0)), (by first | rfl | (simp; done) | (simp [*]; done)), H', ⟨by first | omega | exact Nat.le_refl _⟩, ⟨by (with_reducible repeat (first | apply Kd.V_alloc | apply Kd.V_drewN | apply Kd.V_drew)); exact HO1.out⟩, ⟨by (with_reducible repeat (first | apply Kd.V_alloc | apply Kd.V_drewN | apply Kd.V_drew)); exact HO2.out⟩, ⟨kR0 HB⟩⟩
   ·
    rw [if_neg c11] at H
    have c11b0 : ((l1.length : Int) == 0) = false := beq_eq_false_iff_ne.mpr c11
    have c11b1 : ((l1.length : Int) != 0) = true := bne_iff_ne.mpr c11
    have c11b2 : ¬ (l1 = []) := fun h_ => c11 (by rw [h_]; rfl)
    (first | rw [c11b0] | (simp only [i64_w, i32_w]; rw [c11b0]) | (simp only [bne] at c11b0; rw [c11b0]) | skip)
    have H' := yD H
    clear H
    go_wp2
    go_meet
    case rel => exact ⟨_, (false), (by first | rfl | (simp; done) | (simp [*]; done)), H', ⟨by first | omega | exact Nat.le_refl _⟩, ⟨by (with_reducible repeat (first | apply Kd.V_alloc | apply Kd.V_drewN | apply Kd.V_drew)); exact HO1.out⟩, ⟨by (with_reducible repeat (first | apply Kd.V_alloc | apply Kd.V_drewN | apply Kd.V_drew)); exact HO2.out⟩, ⟨kR0 HB⟩⟩
  case rest =>
   clear HC10; try clear c1; try clear c2; try clear p2; try clear c5; try clear c5b0; try clear c5b1; try clear c7; try clear c9; try clear c11; try clear c11b0; try clear c11b1; try clear c11b2
   obtain ⟨kq, x33_9, rfl, HA, HJ9, HO_1, HO_2, HB⟩ := hcut
   cases kq with
   | zero => exact absurd HA.out (by simp [impl_combined_impl_and.j0])
   | succ kj9 =>
    have H := HA.out; clear HA
    simp only [impl_combined_impl_and.j0] at H
    by_cases c12 : x33_9 = true
    · subst c12
      have H1 : (some ([] : List (S42))) = some r := by rw [if_pos rfl] at H; exact H
      clear H; have H := H1; clear H1; obtain rfl := Option.some.inj H
      go_wp2
      go_ret
      exact ⟨_, by first | rfl | (simp <;> rfl) | (simp [*] <;> rfl), by first | exact Kd.S_nil _ _ _ _ _ | exact Kd.N_nil _ _ _ _ _ | exact Kd.V_nil _ _ _ _ _ | exact Kd.Q_nil _ _ _ _ _ | exact Kd.R_nil _ _ _ _ _, kR0 HB⟩
    ·
     replace c12 := Bool.eq_false_iff.mpr c12
     subst c12
     have H1 : (impl_combined_impl_and.l0 kj9 a0 l1 l2 ([] : List (S42)) ([] : List (S42)) 0 0) = some r := by rw [if_neg (show ¬ (false = true) by decide)] at H; exact H
     clear H; have H := H1; clear H1
     have H' := yD H
     clear H
     go_wp2
     go_loopg [9, 10, 11, 34] kj9 (fun kq v9 v10 v11 v34 w' => ∃ (x9_2 : List (S42)) (x10_2 : List (S42)) (x11_2 : Int) (x34_2 : Int), v11 = .int .i64 x11_2 ∧ v34 = .int .i64 x34_2 ∧ Aside0 (impl_combined_impl_and.l0 kq a0 l1 l2 x9_2 x10_2 x11_2 x34_2 = some r) ∧ Aside0 (kq ≤ kj9) ∧ Aside0 (Kd.V k42 42 w' w.heap.size (fun k_ => ((P1_ k_ ∨ P2_ k_) ∨ w.heap.size ≤ k_) ∧ some k_ ≠ (v9 : Value).ownBlock ∧ some k_ ≠ (v10 : Value).ownBlock) (.slice A1 l1.length c1) l1) ∧ Aside0 (Kd.V k42 42 w' w.heap.size (fun k_ => ((P1_ k_ ∨ P2_ k_) ∨ w.heap.size ≤ k_) ∧ some k_ ≠ (v9 : Value).ownBlock ∧ some k_ ≠ (v10 : Value).ownBlock) (.slice A2 l2.length c2) l2) ∧ Aside0 (Kd.N k42 42 w' w.heap.size (fun k_ => ((P1_ k_ ∨ P2_ k_) ∨ w.heap.size ≤ k_) ∧ some k_ ≠ (v10 : Value).ownBlock) v9 x9_2) ∧ Aside0 (Kd.N k42 42 w' w.heap.size (fun k_ => ((P1_ k_ ∨ P2_ k_) ∨ w.heap.size ≤ k_) ∧ some k_ ≠ (v9 : Value).ownBlock) v10 x10_2) ∧ Aside0 (Below w.heap.size w w'))
     case atStart => exact ⟨(([] : List (S42))), (([] : List (S42))), (0), (0), (by first | rfl | (simp; done) | (simp [*]; done)), (by first | rfl | (simp; done) | (simp [*]; done)), H', ⟨Nat.le_refl _⟩, ⟨by (with_reducible repeat (first | apply Kd.V_alloc | apply Kd.V_drewN | apply Kd.V_drew)); exact Kd.V_mono HO_1.out (fun _ hk => ⟨hk, ⟨(by simp [Value.ownBlock]), (by simp [Value.ownBlock])⟩⟩)⟩, ⟨by (with_reducible repeat (first | apply Kd.V_alloc | apply Kd.V_drewN | apply Kd.V_drew)); exact Kd.V_mono HO_2.out (fun _ hk => ⟨hk, ⟨(by simp [Value.ownBlock]), (by simp [Value.ownBlock])⟩⟩)⟩, ⟨by first | exact Kd.S_nil _ _ _ _ _ | exact Kd.N_nil _ _ _ _ _ | exact Kd.V_nil _ _ _ _ _ | exact Kd.Q_nil _ _ _ _ _ | exact Kd.R_nil _ _ _ _ _⟩, ⟨by first | exact Kd.S_nil _ _ _ _ _ | exact Kd.N_nil _ _ _ _ _ | exact Kd.V_nil _ _ _ _ _ | exact Kd.Q_nil _ _ _ _ _ | exact Kd.R_nil _ _ _ _ _⟩, ⟨kR0 HB⟩⟩
     case round =>
      clear H'
      try clear c1; try clear c2; try clear p2; try clear c5; try clear c5b0; try clear c5b1; try clear c7; try clear c9; try clear c11; try clear c11b0; try clear c11b1; try clear c11b2; try clear c12; try clear p2
      obtain ⟨x9_2, x10_2, x11_2, x34_2, rfl, rfl, HA, HK2, HO_1, HO_2, HO_9, HO_10, HB⟩ := hrel
      cases gk with
      | zero => exact absurd HA.out (by simp [impl_combined_impl_and.l0])
      | succ k2 =>
       have H := HA.out; clear HA
       simp only [impl_combined_impl_and.l0] at H
       by_cases c13 : x34_2 < 41
       ·
        rw [if_pos c13] at H
        have c13b0 : decide (x34_2 < 41) = true := zR c13; clear c13
        have HC14 := yD H
        clear H
        go_upto_if 38 with (fail)
        go_cut [13] (fun v13 wc => ∃ (kq : Nat) (x13_13 : List (S42)), Aside0 (impl_combined_impl_and.j2 kq a0 l1 l2 x9_2 x10_2 x11_2 x34_2 x13_13 x34_2 = some r) ∧ Aside0 (kq ≤ k2) ∧ Aside0 (Kd.V k42 42 wc w.heap.size (fun k_ => ((P1_ k_ ∨ P2_ k_) ∨ w.heap.size ≤ k_) ∧ some k_ ≠ (u9 : Value).ownBlock ∧ some k_ ≠ (u10 : Value).ownBlock ∧ some k_ ≠ (v13 : Value).ownBlock) (.slice A1 l1.length c1) l1) ∧ Aside0 (Kd.V k42 42 wc w.heap.size (fun k_ => ((P1_ k_ ∨ P2_ k_) ∨ w.heap.size ≤ k_) ∧ some k_ ≠ (u9 : Value).ownBlock ∧ some k_ ≠ (u10 : Value).ownBlock ∧ some k_ ≠ (v13 : Value).ownBlock) (.slice A2 l2.length c2) l2) ∧ Aside0 (Kd.N k42 42 wc w.heap.size (fun k_ => ((P1_ k_ ∨ P2_ k_) ∨ w.heap.size ≤ k_) ∧ some k_ ≠ (u10 : Value).ownBlock ∧ some k_ ≠ (v13 : Value).ownBlock) u9 x9_2) ∧ Aside0 (Kd.N k42 42 wc w.heap.size (fun k_ => ((P1_ k_ ∨ P2_ k_) ∨ w.heap.size ≤ k_) ∧ some k_ ≠ (u9 : Value).ownBlock ∧ some k_ ≠ (v13 : Value).ownBlock) u10 x10_2) ∧ Aside0 (Kd.N k42 42 wc w.heap.size (fun k_ => ((P1_ k_ ∨ P2_ k_) ∨ w.heap.size ≤ k_) ∧ some k_ ≠ (u9 : Value).ownBlock ∧ some k_ ≠ (u10 : Value).ownBlock) v13 x13_13) ∧ Aside0 (Below w.heap.size w wc))
        case first =>
         have H := HC14.out; clear HC14
         by_cases c15 : x34_2 < 40
         ·
          rw [if_pos c15] at H
          have c15b0 : decide (x34_2 < 40) = true := zR c15; clear c15
          (first | rw [c15b0] | (simp only [i64_w, i32_w]; rw [c15b0]) | (simp only [bne] at c15b0; rw [c15b0]) | skip)
          obtain ⟨t442, A160, H⟩ := zW_ H
          replace H : ((impl_section.f k2 l2 x34_2).bind fun t445 => ((impl_combined_impl_and.f k2 (wrap64 (a0 - 1)) t442 t445).bind fun t448 => (impl_combined_impl_and.j2 k2 a0 l1 l2 x9_2 x10_2 x11_2 x34_2 t448 x34_2))) = some r := H
          have A16 := yD A160
          clear A160
          obtain ⟨t445, A170, H⟩ := zW_ H
          replace H : ((impl_combined_impl_and.f k2 (wrap64 (a0 - 1)) t442 t445).bind fun t448 => (impl_combined_impl_and.j2 k2 a0 l1 l2 x9_2 x10_2 x11_2 x34_2 t448 x34_2)) = some r := H
          have A17 := yD A170
          clear A170
          obtain ⟨t448, A180, H⟩ := zW_ H
          replace H : (impl_combined_impl_and.j2 k2 a0 l1 l2 x9_2 x10_2 x11_2 x34_2 t448 x34_2) = some r := H
          have A18 := yD A180
          clear A180
          have H' := yD H
          clear H
          go_wp2_with (first | ((with_reducible refine gate_callee (f := 123) rfl ?_); refine goesL_ (some 43) rfl rfl Try.func123 (by kernel_rfl) rfl #[.slice A1 l1.length c1, .int .i64 x34_2] rfl (by (try simp only [zK, zL, zM]); first | done | rfl | (simp only [zN, zO]; rfl)) ?_; (with_reducible refine (impl_section.calls k2 (fun k_ => (((P1_ k_ ∨ P2_ k_) ∨ w.heap.size ≤ k_) ∧ (some k_ ≠ (u9 : Value).ownBlock ∧ some k_ ≠ (u10 : Value).ownBlock))) _ _ l1 x34_2 t442 _ ?side1 A16.out).mono ?_); (case side1 => exact HO_1.out); rintro e w19 ⟨v443, rfl, ho0, hb⟩; refine ⟨_, rfl, ?_⟩; have n0_ := yD (Kd.V_elder' (by (with_reducible repeat (first | apply Kd.V_alloc | apply Kd.V_drewN | apply Kd.V_drew)); exact HO_1.out) (Kd.N_base ho0) hb); have n1_ := yD (Kd.V_elder' (by (with_reducible repeat (first | apply Kd.V_alloc | apply Kd.V_drewN | apply Kd.V_drew)); exact HO_2.out) (Kd.N_base ho0) hb); have n2_ := yD (Kd.N_elder' (by (with_reducible repeat (first | apply Kd.N_alloc | apply Kd.N_drewN | apply Kd.N_drew)); exact HO_9.out) (Kd.N_base ho0) hb); have n3_ := yD (Kd.N_elder' (by (with_reducible repeat (first | apply Kd.N_alloc | apply Kd.N_drewN | apply Kd.N_drew)); exact HO_10.out) (Kd.N_base ho0) hb); have n4_ := yD (Kd.N_lower (Kd.N_mono (ok' := fun k_ => ((P1_ k_ ∨ P2_ k_) ∨ w.heap.size ≤ k_) ∧ some k_ ≠ (u9 : Value).ownBlock ∧ some k_ ≠ (u10 : Value).ownBlock) ho0 (fun k_ hk_ => ⟨Or.elim hk_ (fun hs_ => hs_.1) (fun hn_ => (.inr (Nat.le_trans (below_size (kB HB)) hn_))), Or.elim hk_ (fun hs_ => hs_.2.1) (fun hn_ => (Kd.fresh' (Kd.N_lt (by (with_reducible repeat (first | apply Kd.N_alloc | apply Kd.N_drewN | apply Kd.N_drew)); exact HO_9.out)) k_ hn_)), Or.elim hk_ (fun hs_ => hs_.2.2) (fun hn_ => (Kd.fresh' (Kd.N_lt (by (with_reducible repeat (first | apply Kd.N_alloc | apply Kd.N_drewN | apply Kd.N_drew)); exact HO_10.out)) k_ hn_))⟩)) (below_size (kB HB))); have n5_ := yD (zC (kB HB) hb); clear HO_1; clear HO_2; clear HO_9; clear HO_10; clear HB; have HO_1 := n0_; have HO_2 := n1_; have HO_9 := n2_; have HO_10 := n3_; have HO444 := n4_; have HB := n5_; clear n0_ n1_ n2_ n3_ n4_ n5_; (try clear hb); (try clear hb2); (try clear hk); (try clear hi); (try clear ho0)) | ((with_reducible refine gate_callee (f := 123) rfl ?_); refine goesL_ (some 46) rfl rfl Try.func123 (by kernel_rfl) rfl #[.slice A2 l2.length c2, .int .i64 x34_2] rfl (by (try simp only [zK, zL, zM]); first | done | rfl | (simp only [zN, zO]; rfl)) ?_; (with_reducible refine (impl_section.calls k2 (fun k_ => ((((P1_ k_ ∨ P2_ k_) ∨ w.heap.size ≤ k_) ∧ (some k_ ≠ (u9 : Value).ownBlock ∧ some k_ ≠ (u10 : Value).ownBlock)) ∧ some k_ ≠ (v443 : Value).ownBlock)) _ _ l2 x34_2 t445 _ ?side1 A17.out).mono ?_); (case side1 => exact HO_2.out); rintro e w20 ⟨v446, rfl, ho0, hb⟩; refine ⟨_, rfl, ?_⟩; have n0_ := yD (Kd.V_elder' (by (with_reducible repeat (first | apply Kd.V_alloc | apply Kd.V_drewN | apply Kd.V_drew)); exact HO_1.out) (Kd.N_base ho0) hb); have n1_ := yD (Kd.V_elder' (by (with_reducible repeat (first | apply Kd.V_alloc | apply Kd.V_drewN | apply Kd.V_drew)); exact HO_2.out) (Kd.N_base ho0) hb); have n2_ := yD (Kd.N_elder' (by (with_reducible repeat (first | apply Kd.N_alloc | apply Kd.N_drewN | apply Kd.N_drew)); exact HO_9.out) (Kd.N_base ho0) hb); have n3_ := yD (Kd.N_elder' (by (with_reducible repeat (first | apply Kd.N_alloc | apply Kd.N_drewN | apply Kd.N_drew)); exact HO_10.out) (Kd.N_base ho0) hb); have n4_ := yD (Kd.N_elder' (by (with_reducible repeat (first | apply Kd.N_alloc | apply Kd.N_drewN | apply Kd.N_drew)); exact HO444.out) (Kd.N_base ho0) hb); have n5_ := yD (Kd.N_lower (Kd.N_mono (ok' := fun k_ => ((P1_ k_ ∨ P2_ k_) ∨ w.heap.size ≤ k_) ∧ some k_ ≠ (u9 : Value).ownBlock ∧ some k_ ≠ (u10 : Value).ownBlock ∧ some k_ ≠ (v443 : Value).ownBlock) ho0 (fun k_ hk_ => ⟨Or.elim hk_ (fun hs_ => hs_.1.1) (fun hn_ => (.inr (Nat.le_trans (below_size (kB HB)) hn_))), Or.elim hk_ (fun hs_ => hs_.1.2.1) (fun hn_ => (Kd.fresh' (Kd.N_lt (by (with_reducible repeat (first | apply Kd.N_alloc | apply Kd.N_drewN | apply Kd.N_drew)); exact HO_9.out)) k_ hn_)), Or.elim hk_ (fun hs_ => hs_.1.2.2) (fun hn_ => (Kd.fresh' (Kd.N_lt (by (with_reducible repeat (first | apply Kd.N_alloc | apply Kd.N_drewN | apply Kd.N_drew)); exact HO_10.out)) k_ hn_)), Or.elim hk_ (fun hs_ => hs_.2) (fun hn_ => (Kd.fresh' (Kd.N_lt (by (with_reducible repeat (first | apply Kd.N_alloc | apply Kd.N_drewN | apply Kd.N_drew)); exact HO444.out)) k_ hn_))⟩)) (below_size (kB HB))); have n6_ := yD (zC (kB HB) hb); clear HO_1; clear HO_2; clear HO_9; clear HO_10; clear HO444; clear HB; have HO_1 := n0_; have HO_2 := n1_; have HO_9 := n2_; have HO_10 := n3_; have HO444 := n4_; have HO447 := n5_; have HB := n6_; clear n0_ n1_ n2_ n3_ n4_ n5_ n6_; (try clear hb); (try clear hb2); (try clear hk); (try clear hi); (try clear ho0); obtain ⟨Ao21, co21, eo21⟩ := Kd.N_slice HO444.out; subst eo21; obtain ⟨Ao22, co22, eo22⟩ := Kd.N_slice HO447.out; subst eo22) | ((with_reducible refine gate_callee (f := 87) rfl ?_); refine goesL_ (some 48) rfl rfl Try.func87 (by kernel_rfl) rfl #[.int .i64 (wrap64 (a0 - 1)), .slice Ao21 t442.length co21, .slice Ao22 t445.length co22, .func (.func 58) #[] #[]] rfl (by (try simp only [zK, zL, zM]); first | done | rfl | (simp only [zN, zO]; rfl)) ?_; (with_reducible refine (ih k2 (by have := HJ9.out; have := HK2.out; omega) (wrap64 (a0 - 1)) (fun k_ => ((((P1_ k_ ∨ P2_ k_) ∨ w.heap.size ≤ k_) ∧ (some k_ ≠ (u9 : Value).ownBlock ∧ some k_ ≠ (u10 : Value).ownBlock)) ∧ some k_ ≠ (.slice Ao22 t445.length co22 : Value).ownBlock)) _ _ t442 (fun k_ => (((P1_ k_ ∨ P2_ k_) ∨ w.heap.size ≤ k_) ∧ (some k_ ≠ (u9 : Value).ownBlock ∧ (some k_ ≠ (u10 : Value).ownBlock ∧ some k_ ≠ (.slice Ao21 t442.length co21 : Value).ownBlock)))) _ _ t445  t448 _ ?side1 ?side2 A18.out).mono ?_); (case side1 => exact Kd.N_V (HO444.out)); (case side2 => exact Kd.N_V (HO447.out)); rintro e w23 ⟨v449, rfl, ho0, hb⟩; refine ⟨_, rfl, ?_⟩; have n0_ := yD (Kd.V_elder' (by (with_reducible repeat (first | apply Kd.V_alloc | apply Kd.V_drewN | apply Kd.V_drew)); exact HO_1.out) (Kd.N_base ho0) hb); have n1_ := yD (Kd.V_elder' (by (with_reducible repeat (first | apply Kd.V_alloc | apply Kd.V_drewN | apply Kd.V_drew)); exact HO_2.out) (Kd.N_base ho0) hb); have n2_ := yD (Kd.N_elder' (by (with_reducible repeat (first | apply Kd.N_alloc | apply Kd.N_drewN | apply Kd.N_drew)); exact HO_9.out) (Kd.N_base ho0) hb); have n3_ := yD (Kd.N_elder' (by (with_reducible repeat (first | apply Kd.N_alloc | apply Kd.N_drewN | apply Kd.N_drew)); exact HO_10.out) (Kd.N_base ho0) hb); have n4_ := yD (Kd.N_elder' (by (with_reducible repeat (first | apply Kd.N_alloc | apply Kd.N_drewN | apply Kd.N_drew)); exact HO444.out) (Kd.N_base ho0) hb); have n5_ := yD (Kd.N_elder' (by (with_reducible repeat (first | apply Kd.N_alloc | apply Kd.N_drewN | apply Kd.N_drew)); exact HO447.out) (Kd.N_base ho0) hb); have n6_ := yD (Kd.N_lower (Kd.N_mono (ok' := fun k_ => ((P1_ k_ ∨ P2_ k_) ∨ w.heap.size ≤ k_) ∧ some k_ ≠ (u9 : Value).ownBlock ∧ some k_ ≠ (u10 : Value).ownBlock) ho0 (fun k_ hk_ => ⟨Or.elim hk_ (fun hs_ => Or.elim hs_ (fun hs_ => hs_.1.1) (fun hs_ => hs_.1)) (fun hn_ => (.inr (Nat.le_trans (below_size (kB HB)) hn_))), Or.elim hk_ (fun hs_ => Or.elim hs_ (fun hs_ => hs_.1.2.1) (fun hs_ => hs_.2.1)) (fun hn_ => (Kd.fresh' (Kd.N_lt (by (with_reducible repeat (first | apply Kd.N_alloc | apply Kd.N_drewN | apply Kd.N_drew)); exact HO_9.out)) k_ hn_)), Or.elim hk_ (fun hs_ => Or.elim hs_ (fun hs_ => hs_.1.2.2) (fun hs_ => hs_.2.2.1)) (fun hn_ => (Kd.fresh' (Kd.N_lt (by (with_reducible repeat (first | apply Kd.N_alloc | apply Kd.N_drewN | apply Kd.N_drew)); exact HO_10.out)) k_ hn_))⟩)) (below_size (kB HB))); have n7_ := yD (zC (kB HB) hb); clear HO_1; clear HO_2; clear HO_9; clear HO_10; clear HO444; clear HO447; clear HB; have HO_1 := n0_; have HO_2 := n1_; have HO_9 := n2_; have HO_10 := n3_; have HO444 := n4_; have HO447 := n5_; have HO450 := n6_; have HB := n7_; clear n0_ n1_ n2_ n3_ n4_ n5_ n6_ n7_; (try clear hb); (try clear hb2); (try clear hk); (try clear hi); (try clear ho0)))
          go_meet
          case rel => exact ⟨_, (t448), H', ⟨by have := HJ9.out; have := HK2.out; first | omega | exact Nat.le_refl _⟩, ⟨by (with_reducible repeat (first | apply Kd.V_alloc | apply Kd.V_drewN | apply Kd.V_drew)); exact Kd.V_mono HO_1.out (fun _ hk => ⟨hk.1.1.1.1, ⟨hk.1.1.1.2.1, ⟨hk.1.1.1.2.2, hk.2⟩⟩⟩)⟩, ⟨by (with_reducible repeat (first | apply Kd.V_alloc | apply Kd.V_drewN | apply Kd.V_drew)); exact Kd.V_mono HO_2.out (fun _ hk => ⟨hk.1.1.1.1, ⟨hk.1.1.1.2.1, ⟨hk.1.1.1.2.2, hk.2⟩⟩⟩)⟩, ⟨by (with_reducible repeat (first | apply Kd.N_alloc | apply Kd.N_drewN | apply Kd.N_drew)); exact Kd.N_mono HO_9.out (fun _ hk => ⟨hk.1.1.1.1, ⟨hk.1.1.1.2, hk.2⟩⟩)⟩, ⟨by (with_reducible repeat (first | apply Kd.N_alloc | apply Kd.N_drewN | apply Kd.N_drew)); exact Kd.N_mono HO_10.out (fun _ hk => ⟨hk.1.1.1.1, ⟨hk.1.1.1.2, hk.2⟩⟩)⟩, ⟨by (with_reducible repeat (first | apply Kd.N_alloc | apply Kd.N_drewN | apply Kd.N_drew)); exact HO450.out⟩, ⟨kR0 HB⟩⟩
         · rw [if_neg c15] at H
           have c15b0 : decide (x34_2 < 40) = false := zS c15; clear c15
           (first | rw [c15b0] | (simp only [i64_w, i32_w]; rw [c15b0]) | (simp only [bne] at c15b0; rw [c15b0]) | skip)
           have H' := yD H
           clear H
           go_wp2
           go_meet
           case rel => exact ⟨_, (([] : List (S42))), H', ⟨by have := HJ9.out; have := HK2.out; first | omega | exact Nat.le_refl _⟩, ⟨by (with_reducible repeat (first | apply Kd.V_alloc | apply Kd.V_drewN | apply Kd.V_drew)); exact Kd.V_mono HO_1.out (fun _ hk => ⟨hk.1, ⟨hk.2.1, ⟨hk.2.2, (by simp [Value.ownBlock])⟩⟩⟩)⟩, ⟨by (with_reducible repeat (first | apply Kd.V_alloc | apply Kd.V_drewN | apply Kd.V_drew)); exact Kd.V_mono HO_2.out (fun _ hk => ⟨hk.1, ⟨hk.2.1, ⟨hk.2.2, (by simp [Value.ownBlock])⟩⟩⟩)⟩, ⟨by (with_reducible repeat (first | apply Kd.N_alloc | apply Kd.N_drewN | apply Kd.N_drew)); exact Kd.N_mono HO_9.out (fun _ hk => ⟨hk.1, ⟨hk.2, (by simp [Value.ownBlock])⟩⟩)⟩, ⟨by (with_reducible repeat (first | apply Kd.N_alloc | apply Kd.N_drewN | apply Kd.N_drew)); exact Kd.N_mono HO_10.out (fun _ hk => ⟨hk.1, ⟨hk.2, (by simp [Value.ownBlock])⟩⟩)⟩, ⟨by first | exact Kd.S_nil _ _ _ _ _ | exact Kd.N_nil _ _ _ _ _ | exact Kd.V_nil _ _ _ _ _ | exact Kd.Q_nil _ _ _ _ _ | exact Kd.R_nil _ _ _ _ _⟩, ⟨kR0 HB⟩⟩
        case rest =>
         clear HC14; try clear c1; try clear c2; try clear p2; try clear c5; try clear c5b0; try clear c5b1; try clear p6; try clear c7; try clear c9; try clear c11; try clear c11b0; try clear c11b1; try clear c11b2; try clear c12; try clear c13; try clear c13b0; try clear c15; try clear c15b0; try clear p2
         obtain ⟨kq, x13_13, HA, HJ13, HO_1, HO_2, HO_9, HO_10, HO_13, HB⟩ := hcut
         cases kq with
         | zero => exact absurd HA.out (by simp [impl_combined_impl_and.j2])
         | succ kj13 =>
          have H := HA.out; clear HA
          simp only [impl_combined_impl_and.j2] at H
          obtain ⟨t451, A240, H⟩ := zW_ H
          replace H : (if t451 = true then (impl_combined_impl_and.l0 kj13 a0 l1 l2 x9_2 x10_2 x11_2 (wrap64 (x34_2 + 1))) else ((impl_prefixed.f kj13 x10_2 x11_2 x34_2).bind fun t452 => (if x9_2.length + t452.length < 2932031007402 then (impl_combined_impl_and.l0 kj13 a0 l1 l2 (x9_2 ++ t452) x13_13 x34_2 (wrap64 (x34_2 + 1))) else (none)))) = some r := H
          have A24 := yD A240
          clear A240
          by_cases c25 : t451 = true
          · subst c25
            have H1 : (impl_combined_impl_and.l0 kj13 a0 l1 l2 x9_2 x10_2 x11_2 (wrap64 (x34_2 + 1))) = some r := by rw [if_pos rfl] at H; exact H
            clear H; have H := H1; clear H1
            have H' := yD H
            clear H
            obtain ⟨Ao26, co26, eo26⟩ := Kd.N_slice HO_13.out
            subst eo26
            obtain ⟨Ao27, co27, eo27⟩ := Kd.N_slice HO_10.out
            subst eo27
            go_wp2_with (first | ((with_reducible refine gate_callee (f := 31) rfl ?_); refine goesL_ (some 51) rfl rfl Try.func31 (by kernel_rfl) rfl #[.slice Ao26 x13_13.length co26, .slice Ao27 x10_2.length co27] rfl (by (try simp only [zK, zL, zM]); first | done | rfl | (simp only [zN, zO]; rfl)) ?_; (with_reducible refine (impl_SameBoxes.calls kj13 _ _ x13_13 _ _ x10_2 true _ ?side1 ?side2 ?side3 ?side4 A24.out).mono ?_); (case side1 => exact kV (Kd.N_reads' HO_13.out).2.2); (case side2 => exact (Kd.N_reads' HO_13.out).2.1); (case side3 => exact kV (Kd.N_reads' HO_10.out).2.2); (case side4 => exact (Kd.N_reads' HO_10.out).2.1); rintro e w28 ⟨rfl, hb⟩; refine ⟨_, rfl, ?_⟩; have n0_ := yD (Kd.V_below (by (with_reducible repeat (first | apply Kd.V_alloc | apply Kd.V_drewN | apply Kd.V_drew)); exact HO_1.out) hb); have n1_ := yD (Kd.V_below (by (with_reducible repeat (first | apply Kd.V_alloc | apply Kd.V_drewN | apply Kd.V_drew)); exact HO_2.out) hb); have n2_ := yD (Kd.N_below (by (with_reducible repeat (first | apply Kd.N_alloc | apply Kd.N_drewN | apply Kd.N_drew)); exact HO_9.out) hb); have n3_ := yD (Kd.N_below (by (with_reducible repeat (first | apply Kd.N_alloc | apply Kd.N_drewN | apply Kd.N_drew)); exact HO_10.out) hb); have n4_ := yD (Kd.N_below (by (with_reducible repeat (first | apply Kd.N_alloc | apply Kd.N_drewN | apply Kd.N_drew)); exact HO_13.out) hb); have n5_ := yD (zC (kB HB) hb); clear HO_1; clear HO_2; clear HO_9; clear HO_10; clear HO_13; clear HB; have HO_1 := n0_; have HO_2 := n1_; have HO_9 := n2_; have HO_10 := n3_; have HO_13 := n4_; have HB := n5_; clear n0_ n1_ n2_ n3_ n4_ n5_; (try clear hb); (try clear hb2); (try clear hk); (try clear hi)))
            go_roundg kj13
            case measure => have := HJ9.out; have := HK2.out; have := HJ13.out; omega
            case rel => exact ⟨(x9_2), (x10_2), (x11_2), (wrap64 (x34_2 + 1)), (by first | rfl | (simp; done) | (simp [*]; done)), (by first | rfl | (simp; done) | (simp [*]; done)), H', ⟨by have := HJ9.out; have := HK2.out; have := HJ13.out; omega⟩, ⟨by (with_reducible repeat (first | apply Kd.V_alloc | apply Kd.V_drewN | apply Kd.V_drew)); exact Kd.V_mono HO_1.out (fun _ hk => ⟨hk.1, ⟨hk.2.1, hk.2.2.1⟩⟩)⟩, ⟨by (with_reducible repeat (first | apply Kd.V_alloc | apply Kd.V_drewN | apply Kd.V_drew)); exact Kd.V_mono HO_2.out (fun _ hk => ⟨hk.1, ⟨hk.2.1, hk.2.2.1⟩⟩)⟩, ⟨by (with_reducible repeat (first | apply Kd.N_alloc | apply Kd.N_drewN | apply Kd.N_drew)); exact Kd.N_mono HO_9.out (fun _ hk => ⟨hk.1, hk.2.1⟩)⟩, ⟨by (with_reducible repeat (first | apply Kd.N_alloc | apply Kd.N_drewN | apply Kd.N_drew)); exact Kd.N_mono HO_10.out (fun _ hk => ⟨hk.1, hk.2.1⟩)⟩, ⟨kR0 HB⟩⟩
          ·
           replace c25 := Bool.eq_false_iff.mpr c25
           subst c25
           have H1 : ((impl_prefixed.f kj13 x10_2 x11_2 x34_2).bind fun t452 => (if x9_2.length + t452.length < 2932031007402 then (impl_combined_impl_and.l0 kj13 a0 l1 l2 (x9_2 ++ t452) x13_13 x34_2 (wrap64 (x34_2 + 1))) else (none))) = some r := by rw [if_neg (show ¬ (false = true) by decide)] at H; exact H
           clear H; have H := H1; clear H1
           obtain ⟨t452, A290, H⟩ := zW_ H
           replace H : (if x9_2.length + t452.length < 2932031007402 then (impl_combined_impl_and.l0 kj13 a0 l1 l2 (x9_2 ++ t452) x13_13 x34_2 (wrap64 (x34_2 + 1))) else (none)) = some r := H
           have A29 := yD A290
           clear A290
           by_cases c30 : x9_2.length + t452.length < 2932031007402
           ·
            rw [if_pos c30] at H
            have LMc30 := yD c30
            clear c30
            obtain ⟨y455, hy455⟩ : ∃ y_ : List (S42), y_ = (x9_2 ++ t452) := ⟨_, rfl⟩
            replace H : (impl_combined_impl_and.l0 kj13 a0 l1 l2 y455 x13_13 x34_2 (wrap64 (x34_2 + 1))) = some r := by first | (rw [hy455]; with_reducible exact H) | (have H2_ := (Option.bind_some _ _).symm.trans H; rw [hy455]; with_reducible exact H2_) | (have H2_ := (Option.bind_some _ _).symm.trans H; with_reducible exact H2_) | with_reducible exact H | (rw [hy455]; exact H) | exact H
            have Ny455 := yD hy455
            clear hy455
            have H' := yD H
            clear H
            obtain ⟨Ao31, co31, eo31⟩ := Kd.N_slice HO_13.out
            subst eo31
            obtain ⟨Ao32, co32, eo32⟩ := Kd.N_slice HO_10.out
            subst eo32
            go_wp2_with (first | ((with_reducible refine gate_callee (f := 31) rfl ?_); refine goesL_ (some 51) rfl rfl Try.func31 (by kernel_rfl) rfl #[.slice Ao31 x13_13.length co31, .slice Ao32 x10_2.length co32] rfl (by (try simp only [zK, zL, zM]); first | done | rfl | (simp only [zN, zO]; rfl)) ?_; (with_reducible refine (impl_SameBoxes.calls kj13 _ _ x13_13 _ _ x10_2 false _ ?side1 ?side2 ?side3 ?side4 A24.out).mono ?_); (case side1 => exact kV (Kd.N_reads' HO_13.out).2.2); (case side2 => exact (Kd.N_reads' HO_13.out).2.1); (case side3 => exact kV (Kd.N_reads' HO_10.out).2.2); (case side4 => exact (Kd.N_reads' HO_10.out).2.1); rintro e w33 ⟨rfl, hb⟩; refine ⟨_, rfl, ?_⟩; have n0_ := yD (Kd.V_below (by (with_reducible repeat (first | apply Kd.V_alloc | apply Kd.V_drewN | apply Kd.V_drew)); exact HO_1.out) hb); have n1_ := yD (Kd.V_below (by (with_reducible repeat (first | apply Kd.V_alloc | apply Kd.V_drewN | apply Kd.V_drew)); exact HO_2.out) hb); have n2_ := yD (Kd.N_below (by (with_reducible repeat (first | apply Kd.N_alloc | apply Kd.N_drewN | apply Kd.N_drew)); exact HO_9.out) hb); have n3_ := yD (Kd.N_below (by (with_reducible repeat (first | apply Kd.N_alloc | apply Kd.N_drewN | apply Kd.N_drew)); exact HO_10.out) hb); have n4_ := yD (Kd.N_below (by (with_reducible repeat (first | apply Kd.N_alloc | apply Kd.N_drewN | apply Kd.N_drew)); exact HO_13.out) hb); have n5_ := yD (zC (kB HB) hb); clear HO_1; clear HO_2; clear HO_9; clear HO_10; clear HO_13; clear HB; have HO_1 := n0_; have HO_2 := n1_; have HO_9 := n2_; have HO_10 := n3_; have HO_13 := n4_; have HB := n5_; clear n0_ n1_ n2_ n3_ n4_ n5_; (try clear hb); (try clear hb2); (try clear hk); (try clear hi)) | ((with_reducible refine gate_callee (f := 124) rfl ?_); refine goesL_ (some 57) rfl rfl Try.func124 (by kernel_rfl) rfl #[.slice Ao32 x10_2.length co32, .int .i64 x11_2, .int .i64 x34_2] rfl (by (try simp only [zK, zL, zM]); first | done | rfl | (simp only [zN, zO]; rfl)) ?_; (with_reducible refine (impl_prefixed.calls kj13 (fun k_ => (((P1_ k_ ∨ P2_ k_) ∨ w.heap.size ≤ k_) ∧ (some k_ ≠ (u9 : Value).ownBlock ∧ some k_ ≠ (.slice Ao31 x13_13.length co31 : Value).ownBlock))) _ _ x10_2 x11_2 x34_2 t452 _ ?side1 A29.out).mono ?_); (case side1 => exact Kd.N_V (HO_10.out)); rintro e w34 ⟨v453, rfl, ho0, hb⟩; refine ⟨_, rfl, ?_⟩; have n0_ := yD (Kd.V_elder' (by (with_reducible repeat (first | apply Kd.V_alloc | apply Kd.V_drewN | apply Kd.V_drew)); exact HO_1.out) (Kd.N_base ho0) hb); have n1_ := yD (Kd.V_elder' (by (with_reducible repeat (first | apply Kd.V_alloc | apply Kd.V_drewN | apply Kd.V_drew)); exact HO_2.out) (Kd.N_base ho0) hb); have n2_ := yD (Kd.N_elder' (by (with_reducible repeat (first | apply Kd.N_alloc | apply Kd.N_drewN | apply Kd.N_drew)); exact HO_9.out) (Kd.N_base ho0) hb); have n3_ := yD (Kd.N_elder' (by (with_reducible repeat (first | apply Kd.N_alloc | apply Kd.N_drewN | apply Kd.N_drew)); exact HO_10.out) (Kd.N_base ho0) hb); have n4_ := yD (Kd.N_elder' (by (with_reducible repeat (first | apply Kd.N_alloc | apply Kd.N_drewN | apply Kd.N_drew)); exact HO_13.out) (Kd.N_base ho0) hb); have n5_ := yD (Kd.N_lower (Kd.N_mono (ok' := fun k_ => ((P1_ k_ ∨ P2_ k_) ∨ w.heap.size ≤ k_) ∧ some k_ ≠ (u9 : Value).ownBlock ∧ some k_ ≠ (.slice Ao31 x13_13.length co31 : Value).ownBlock) ho0 (fun k_ hk_ => ⟨Or.elim hk_ (fun hs_ => hs_.1) (fun hn_ => (.inr (Nat.le_trans (below_size (kB HB)) hn_))), Or.elim hk_ (fun hs_ => hs_.2.1) (fun hn_ => (Kd.fresh' (Kd.N_lt (by (with_reducible repeat (first | apply Kd.N_alloc | apply Kd.N_drewN | apply Kd.N_drew)); exact HO_9.out)) k_ hn_)), Or.elim hk_ (fun hs_ => hs_.2.2) (fun hn_ => (Kd.fresh' (Kd.N_lt (by (with_reducible repeat (first | apply Kd.N_alloc | apply Kd.N_drewN | apply Kd.N_drew)); exact HO_13.out)) k_ hn_))⟩)) (below_size (kB HB))); have n6_ := yD (zC (kB HB) hb); clear HO_1; clear HO_2; clear HO_9; clear HO_10; clear HO_13; clear HB; have HO_1 := n0_; have HO_2 := n1_; have HO_9 := n2_; have HO_10 := n3_; have HO_13 := n4_; have HO454 := n5_; have HB := n6_; clear n0_ n1_ n2_ n3_ n4_ n5_ n6_; (try clear hb); (try clear hb2); (try clear hk); (try clear hi); (try clear ho0); obtain ⟨Ao36, co36, eo36⟩ := Kd.N_slice HO454.out; subst eo36) | ((with_reducible refine gate_builtin (b := .append) (xs := #[.tmp 53, .tmp 57]) rfl ?_); (try (refine gate_guard (by rfl) ?_; dsimp only)); at_builtin; refine Kd.N_append_rows k42 (w0 := w) w.heap.size rfl (.tmp 53) (.tmp 57) 24 42 (.agg #[(.slice none 0 0), (.slice none 0 0)]) 48 rfl Try.underlying24 info42 rfl (by decide) (by omega) u9 x9_2 t452 _ _ _ (fun k_ => ((P1_ k_ ∨ P2_ k_) ∨ w.heap.size ≤ k_) ∧ some k_ ≠ (.slice Ao31 x13_13.length co31 : Value).ownBlock) (fun k_ => ((fun k_ => ((P1_ k_ ∨ P2_ k_) ∨ w.heap.size ≤ k_) ∧ some k_ ≠ (.slice Ao31 x13_13.length co31 : Value).ownBlock)) k_ ∧ some k_ ≠ (u9 : Value).ownBlock) rfl rfl ?aO ?aR (fun _ hk => hk) ?aF ?aB ?aS ?aL ?_; (case aR => exact (by skip; exact Kd.N_F (Kd.N_mono (ok' := (fun k_ => ((fun k_ => ((P1_ k_ ∨ P2_ k_) ∨ w.heap.size ≤ k_) ∧ some k_ ≠ (.slice Ao31 x13_13.length co31 : Value).ownBlock)) k_ ∧ some k_ ≠ (u9 : Value).ownBlock)) (HO454.out) (fun k_ hk => ⟨⟨hk.1, hk.2.2⟩, hk.2.1⟩)))); (case aB => exact (kB HB)); (case aF => exact (fun k_ hk => ⟨(.inr (Nat.le_trans (below_size (kB HB)) hk)), Kd.fresh' (Kd.N_lt (by (with_reducible repeat (first | apply Kd.N_alloc | apply Kd.N_drewN | apply Kd.N_drew)); exact HO_13.out)) k_ hk⟩)); (case aO => exact (by (with_reducible repeat (first | apply Kd.N_alloc | apply Kd.N_drewN | apply Kd.N_drew)); exact Kd.N_mono HO_9.out (fun _ hk => ⟨hk.1.1, hk.1.2.2⟩))); (case aS => exact (below_size (kB HB))); (case aL => have := LMc30.out; omega); intro v456 w35 ho hb hg hat; rw [← Ny455.out] at ho; have n0_ := yD (Kd.V_afterv (ok := (fun k_ => ((P1_ k_ ∨ P2_ k_) ∨ w.heap.size ≤ k_) ∧ some k_ ≠ (.slice Ao32 x10_2.length co32 : Value).ownBlock ∧ some k_ ≠ (.slice Ao31 x13_13.length co31 : Value).ownBlock ∧ some k_ ≠ (.slice Ao36 t452.length co36 : Value).ownBlock)) (by (with_reducible repeat (first | apply Kd.V_alloc | apply Kd.V_drewN | apply Kd.V_drew)); exact Kd.V_mono HO_1.out (fun _ hk => ⟨⟨hk.1.1, ⟨hk.1.2.2.1, ⟨hk.1.2.2.2, hk.2⟩⟩⟩, hk.1.2.1⟩)) hg hat); have n1_ := yD (Kd.V_afterv (ok := (fun k_ => ((P1_ k_ ∨ P2_ k_) ∨ w.heap.size ≤ k_) ∧ some k_ ≠ (.slice Ao32 x10_2.length co32 : Value).ownBlock ∧ some k_ ≠ (.slice Ao31 x13_13.length co31 : Value).ownBlock ∧ some k_ ≠ (.slice Ao36 t452.length co36 : Value).ownBlock)) (by (with_reducible repeat (first | apply Kd.V_alloc | apply Kd.V_drewN | apply Kd.V_drew)); exact Kd.V_mono HO_2.out (fun _ hk => ⟨⟨hk.1.1, ⟨hk.1.2.2.1, ⟨hk.1.2.2.2, hk.2⟩⟩⟩, hk.1.2.1⟩)) hg hat); have n2_ := yD (Kd.N_afterv (ok := (fun k_ => ((P1_ k_ ∨ P2_ k_) ∨ w.heap.size ≤ k_) ∧ some k_ ≠ (.slice Ao31 x13_13.length co31 : Value).ownBlock ∧ some k_ ≠ (.slice Ao36 t452.length co36 : Value).ownBlock)) (by (with_reducible repeat (first | apply Kd.N_alloc | apply Kd.N_drewN | apply Kd.N_drew)); exact Kd.N_mono HO_10.out (fun _ hk => ⟨⟨hk.1.1, ⟨hk.1.2.2, hk.2⟩⟩, hk.1.2.1⟩)) hg hat); have n3_ := yD (Kd.N_afterv (ok := (fun k_ => ((P1_ k_ ∨ P2_ k_) ∨ w.heap.size ≤ k_) ∧ some k_ ≠ (.slice Ao32 x10_2.length co32 : Value).ownBlock ∧ some k_ ≠ (.slice Ao36 t452.length co36 : Value).ownBlock)) (by (with_reducible repeat (first | apply Kd.N_alloc | apply Kd.N_drewN | apply Kd.N_drew)); exact Kd.N_mono HO_13.out (fun _ hk => ⟨⟨hk.1.1, ⟨hk.1.2.2, hk.2⟩⟩, hk.1.2.1⟩)) hg hat); have n4_ := yD (Kd.N_afterv (ok := (fun k_ => ((P1_ k_ ∨ P2_ k_) ∨ w.heap.size ≤ k_) ∧ some k_ ≠ (.slice Ao31 x13_13.length co31 : Value).ownBlock)) (by (with_reducible repeat (first | apply Kd.N_alloc | apply Kd.N_drewN | apply Kd.N_drew)); exact Kd.N_mono HO454.out (fun _ hk => ⟨⟨hk.1, hk.2.2⟩, hk.2.1⟩)) hg hat); have n5_ := yD (hb); have n6_ := yD (ho); clear HO_1; clear HO_2; clear HO_10; clear HO_13; clear HO454; clear HB; clear HO_9; have HO_1 := n0_; have HO_2 := n1_; have HO_10 := n2_; have HO_13 := n3_; have HO454 := n4_; have HB := n5_; have HO457 := n6_; clear n0_ n1_ n2_ n3_ n4_ n5_ n6_; clear ho hb hg hat))
            go_roundg kj13
            case measure => have := HJ9.out; have := HK2.out; have := HJ13.out; omega
            case rel => exact ⟨(y455), (x13_13), (x34_2), (wrap64 (x34_2 + 1)), (by first | rfl | (simp; done) | (simp [*]; done)), (by first | rfl | (simp; done) | (simp [*]; done)), H', ⟨by have := HJ9.out; have := HK2.out; have := HJ13.out; omega⟩, ⟨by (with_reducible repeat (first | apply Kd.V_alloc | apply Kd.V_drewN | apply Kd.V_drew)); exact Kd.V_mono HO_1.out (fun _ hk => ⟨hk.1.1, ⟨hk.2, hk.1.2.2.1⟩⟩)⟩, ⟨by (with_reducible repeat (first | apply Kd.V_alloc | apply Kd.V_drewN | apply Kd.V_drew)); exact Kd.V_mono HO_2.out (fun _ hk => ⟨hk.1.1, ⟨hk.2, hk.1.2.2.1⟩⟩)⟩, ⟨by (with_reducible repeat (first | apply Kd.N_alloc | apply Kd.N_drewN | apply Kd.N_drew)); exact HO457.out⟩, ⟨by (with_reducible repeat (first | apply Kd.N_alloc | apply Kd.N_drewN | apply Kd.N_drew)); exact Kd.N_mono HO_13.out (fun _ hk => ⟨hk.1.1, hk.2⟩)⟩, ⟨kR0 HB⟩⟩
           · rw [if_neg c30] at H
             exact absurd H (by simp)
       · rw [if_neg c13] at H
         have c13b0 : decide (x34_2 < 41) = false := zS c13; clear c13; obtain rfl := Option.some.inj H
         go_wp2
         go_ret
         exact ⟨_, by first | rfl | (simp <;> rfl) | (simp [*] <;> rfl), by (with_reducible repeat (first | apply Kd.N_alloc | apply Kd.N_drewN | apply Kd.N_drew)); exact Kd.N_mono HO_9.out (fun _ hk => hk.1), kR0 HB⟩

end Go.Proofs.Ytdiaebjbiddefaa.PFnNormalForm
