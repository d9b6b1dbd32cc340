/- Each Go function here comes to what the plain function of its name says, where that says something. Made by a program of this session, over the print. -/
import Derived.Test.YtdiaebjbiddefaaPFnNormalFormx0
import Derived.Test.YtdiaebjbiddefaaPFnNormalFormx1
import Derived.Test.YtdiaebjbiddefaaPFnNormalFormx4
import Derived.Test.YtdiaebjbiddefaaPFnNormalFormx8
import Derived.Test.YtdiaebjbiddefaaPFnNormalFormx15
import Derived.Test.YtdiaebjbiddefaaPFnNormalFormx17
import Derived.Test.YtdiaebjbiddefaaPFnNormalFormx18
namespace Go.Proofs.Ytdiaebjbiddefaa.PFnNormalForm
open Go.RowKit Go.Proofs.YtdiaebjbiddefaaW.PrintWords Go.Proofs.YtdiaebjbiddefaaW.PrintLast Go.Proofs.YtdiaebjbiddefaaW.PrintMore
attribute [local go_sem] max2_int min2_int max_two min_two max_three min_three max_four min_four   -- for this text's walks alone
set_option linter.unusedVariables false
set_option linter.unusedSimpArgs false

/-! ### impl_SubtractBoxes: function 25 -/
def impl_SubtractBoxes.f (k : Nat) (l0 : List (S42)) (l1 : List (S42)) : Option ((List (S42)) × Int) := (impl_combine_impl_without.f k l0 l1).bind fun bt506 => (some (bt506.1, bt506.2))
theorem impl_SubtractBoxes.mono : ∀ a0 a1 k, LeO (impl_SubtractBoxes.f k a0 a1) (impl_SubtractBoxes.f (k + 1) a0 a1) := by
 intro a0 a1 k
 unfold impl_SubtractBoxes.f
 repeat' first
  | (with_reducible exact impl_combine_impl_without.mono _ _ _)
  | (with_reducible exact LeO.refl _)
  | (with_reducible exact LeO.none _)
  | (with_reducible refine LeO.ite ?_ ?_)
  | (with_reducible refine LeO.bind ?_ (fun _ => ?_))
  | exact impl_combine_impl_without.mono _ _ _
  | exact LeO.none _
  | refine LeO.ite ?_ ?_
  | refine LeO.bind ?_ (fun _ => ?_)
set_option maxHeartbeats 8000000 in
set_option maxRecDepth 100000 in
theorem impl_SubtractBoxes.calls (k : Nat) (P0_ : Nat → Prop) (A0 : Option Addr) (c0 : Nat) (l0 : List (S42)) (P1_ : Nat → Prop) (A1 : Option Addr) (c1 : Nat) (l1 : List (S42)) (r1 : List (S42)) (r2 : Int) (w : World) (hs0 : Kd.V k42 42 w w.heap.size (fun k_ => P0_ k_) (.slice A0 l0.length c0) l0) (hs1 : Kd.V k42 42 w w.heap.size (fun k_ => P1_ k_) (.slice A1 l1.length c1) l1) (h : impl_SubtractBoxes.f k l0 l1 = some (r1, r2)) :
 Calls Try.prog 25 #[.slice A0 l0.length c0, .slice A1 l1.length c1] w fun e w' => ∃ v0_ : Value, e = .returned (.tuple #[v0_, .int .i64 r2]) ∧ Kd.V k42 42 w' w.heap.size (fun k_ => ((P0_ k_ ∨ P1_ k_) ∨ w.heap.size ≤ k_)) v0_ r1 ∧ Below w.heap.size w w' := by
 have HO0 := yD (show Kd.V k42 42 w w.heap.size (fun k_ => ((P0_ k_ ∨ P1_ k_) ∨ w.heap.size ≤ k_)) (.slice A0 l0.length c0) l0 from Kd.V_mono hs0 (fun k_ hk => .inl (.inl hk)))
 have HO1 := yD (show Kd.V k42 42 w w.heap.size (fun k_ => ((P0_ k_ ∨ P1_ k_) ∨ w.heap.size ≤ k_)) (.slice A1 l1.length c1) l1 from Kd.V_mono hs1 (fun k_ hk => .inl (.inr hk)))
 have HB := yD (Below.refl w.heap.size w)
 have H : ((impl_combine_impl_without.f k l0 l1).bind fun bt506 => (some (bt506.1, bt506.2))) = some (r1, r2) := h
 clear h
 obtain ⟨⟨t506, t509⟩, A30, H⟩ := zW_ H
 replace H : (some (t506, t509)) = some (r1, r2) := H
 have A3 := yD A30
 clear A30
 simp only [Option.some.injEq, Prod.mk.injEq] at H
 obtain ⟨rfl, rfl⟩ := H
 go_enter Try.func25, Try.ntmps25
 go_wp2_with (first | ((with_reducible refine gate_callee (f := 56) rfl ?_); refine goesL_ (some 8) rfl rfl Try.func56 (by kernel_rfl) rfl #[.slice A0 l0.length c0, .slice A1 l1.length c1, .func (.func 59) #[] #[]] rfl (by (try simp only [zK, zL, zM]); first | done | rfl | (simp only [zN, zO]; rfl)) ?_; (with_reducible refine (impl_combine_impl_without.calls k (fun k_ => ((P0_ k_ ∨ P1_ k_) ∨ w.heap.size ≤ k_)) _ _ l0 (fun k_ => ((P0_ k_ ∨ P1_ k_) ∨ w.heap.size ≤ k_)) _ _ l1  t506 t509 _ ?side1 ?side2 A3.out).mono ?_); (case side1 => exact HO0.out); (case side2 => exact HO1.out); rintro e w4 ⟨v507, rfl, ho0, hb⟩; refine ⟨_, rfl, ?_⟩; have n0_ := yD (Kd.V_below (by (with_reducible repeat (first | apply Kd.V_alloc | apply Kd.V_drewN | apply Kd.V_drew)); exact HO0.out) hb); have n1_ := yD (Kd.V_below (by (with_reducible repeat (first | apply Kd.V_alloc | apply Kd.V_drewN | apply Kd.V_drew)); exact HO1.out) hb); have n2_ := yD (Kd.V_lower (Kd.V_mono (ok' := fun k_ => ((P0_ k_ ∨ P1_ k_) ∨ w.heap.size ≤ k_)) ho0 (fun k_ hk_ => Or.elim hk_ (fun hs_ => Or.elim hs_ (fun hs_ => hs_) (fun hs_ => hs_)) (fun hn_ => (.inr (Nat.le_trans (below_size (kB HB)) hn_))))) (below_size (kB HB))); have n3_ := yD (zC (kB HB) hb); clear HO0; clear HO1; clear HB; have HO0 := n0_; have HO1 := n1_; have HO508 := n2_; have HB := n3_; clear n0_ n1_ n2_ n3_; (try clear hb); (try clear hb2); (try clear hk); (try clear hi); (try clear ho0)))
 go_ret2
 exact ⟨_, by first | rfl | (simp <;> rfl) | (simp [*] <;> rfl), by (with_reducible repeat (first | apply Kd.V_alloc | apply Kd.V_drewN | apply Kd.V_drew)); exact HO508.out, kR0 HB⟩

/-! ### laws_FnNormalForm: function 8 -/
mutual
def laws_FnNormalForm.j0 : Nat → List (S42) → List (S42) → List (S42) → Bool → Option (Bool)
 | 0, _, _, _, _ => none
 | k + 1, x4, x5, x6, x81 => if x81 = true then (some false) else ((impl_IntersectBoxes.f k x4 x5).bind fun bt539 => ((impl_SubtractBoxes.f k x4 x5).bind fun bt543 => (if bt539.2 = 0 then (laws_FnNormalForm.j1 k x6 bt539.1 bt543.1 (bt543.2 != 0)) else (laws_FnNormalForm.j1 k x6 bt539.1 bt543.1 true))))
def laws_FnNormalForm.j1 : Nat → List (S42) → List (S42) → List (S42) → Bool → Option (Bool)
 | 0, _, _, _, _ => none
 | k + 1, x6, x16, x18, x99 => if x99 = true then (some true) else ((impl_UnionBoxes.f k x16 x18).bind fun bt547 => (if bt547.2 = 0 then ((impl_SameBoxes.f k bt547.1 x6).bind fun t551 => (some t551)) else (some false)))
end
def laws_FnNormalForm.f (k : Nat) (l0 : List Int) : Option (Bool) := if (l0.length : Int) > 1048576 then (some true) else ((spec_E8Boxes.f k l0).bind fun bt510 => ((impl_NormalBoxes.f k bt510.2.1).bind fun bt517 => (if bt517.2 = 0 then ((impl_NormalBoxes.f k bt517.1).bind fun bt525 => ((impl_UnionBoxes.f k bt510.2.1 bt510.2.2).bind fun bt529 => ((impl_UnionBoxes.f k bt510.2.2 bt510.2.1).bind fun bt533 => (if bt525.2 = 0 then ((impl_SameBoxes.f k bt525.1 bt517.1).bind fun t537 => (if t537 = true then (if bt529.2 = bt533.2 then ((impl_SameBoxes.f k bt529.1 bt533.1).bind fun t538 => (laws_FnNormalForm.j0 k bt510.2.1 bt510.2.2 bt517.1 (!t538))) else (laws_FnNormalForm.j0 k bt510.2.1 bt510.2.2 bt517.1 true)) else (laws_FnNormalForm.j0 k bt510.2.1 bt510.2.2 bt517.1 true))) else (laws_FnNormalForm.j0 k bt510.2.1 bt510.2.2 bt517.1 true))))) else ((spec_NormalBoxes.f k bt510.2.1).bind fun bt521 => (some (bt517.2 == bt521.2))))))
theorem laws_FnNormalForm.mono_l : ∀ k, (∀ y0 y1 y2 y3, LeO (laws_FnNormalForm.j0 k y0 y1 y2 y3) (laws_FnNormalForm.j0 (k + 1) y0 y1 y2 y3)) ∧ (∀ y0 y1 y2 y3, LeO (laws_FnNormalForm.j1 k y0 y1 y2 y3) (laws_FnNormalForm.j1 (k + 1) y0 y1 y2 y3))
 | 0 => ⟨fun _ _ _ _ r h => by simp [laws_FnNormalForm.j0] at h, fun _ _ _ _ r h => by simp [laws_FnNormalForm.j1] at h⟩
 | k + 1 => by
  obtain ⟨ih0, ih1⟩ := laws_FnNormalForm.mono_l k
  refine ⟨?_, ?_⟩
  ·
   intro y0 y1 y2 y3
   unfold laws_FnNormalForm.j0
   repeat' first
   | (with_reducible exact ih0 _ _ _ _)
   | (with_reducible exact ih1 _ _ _ _)
   | (with_reducible exact impl_IntersectBoxes.mono _ _ _)
   | (with_reducible exact impl_NormalBoxes.mono _ _)
   | (with_reducible exact impl_SameBoxes.mono _ _ _)
   | (with_reducible exact impl_SubtractBoxes.mono _ _ _)
   | (with_reducible exact impl_UnionBoxes.mono _ _ _)
   | (with_reducible exact spec_E8Boxes.mono _ _)
   | (with_reducible exact spec_NormalBoxes.mono _ _)
   | (with_reducible exact LeO.refl _)
   | (with_reducible exact LeO.none _)
   | (with_reducible refine LeO.ite ?_ ?_)
   | (with_reducible refine LeO.bind ?_ (fun _ => ?_))
   | exact ih0 _ _ _ _
   | exact ih1 _ _ _ _
   | exact impl_IntersectBoxes.mono _ _ _
   | exact impl_NormalBoxes.mono _ _
   | exact impl_SameBoxes.mono _ _ _
   | exact impl_SubtractBoxes.mono _ _ _
   | exact impl_UnionBoxes.mono _ _ _
   | exact spec_E8Boxes.mono _ _
   | exact spec_NormalBoxes.mono _ _
   | exact LeO.none _
   | refine LeO.ite ?_ ?_
   | refine LeO.bind ?_ (fun _ => ?_)
  ·
   intro y0 y1 y2 y3
   unfold laws_FnNormalForm.j1
   repeat' first
   | (with_reducible exact ih0 _ _ _ _)
   | (with_reducible exact ih1 _ _ _ _)
   | (with_reducible exact impl_IntersectBoxes.mono _ _ _)
   | (with_reducible exact impl_NormalBoxes.mono _ _)
   | (with_reducible exact impl_SameBoxes.mono _ _ _)
   | (with_reducible exact impl_SubtractBoxes.mono _ _ _)
   | (with_reducible exact impl_UnionBoxes.mono _ _ _)
   | (with_reducible exact spec_E8Boxes.mono _ _)
   | (with_reducible exact spec_NormalBoxes.mono _ _)
   | (with_reducible exact LeO.refl _)
   | (with_reducible exact LeO.none _)
   | (with_reducible refine LeO.ite ?_ ?_)
   | (with_reducible refine LeO.bind ?_ (fun _ => ?_))
   | exact ih0 _ _ _ _
   | exact ih1 _ _ _ _
   | exact impl_IntersectBoxes.mono _ _ _
   | exact impl_NormalBoxes.mono _ _
   | exact impl_SameBoxes.mono _ _ _
   | exact impl_SubtractBoxes.mono _ _ _
   | exact impl_UnionBoxes.mono _ _ _
   | exact spec_E8Boxes.mono _ _
   | exact spec_NormalBoxes.mono _ _
   | exact LeO.none _
   | refine LeO.ite ?_ ?_
   | refine LeO.bind ?_ (fun _ => ?_)
theorem laws_FnNormalForm.mono : ∀ a0 k, LeO (laws_FnNormalForm.f k a0) (laws_FnNormalForm.f (k + 1) a0) := by
 intro a0 k
 obtain ⟨ih0, ih1⟩ := laws_FnNormalForm.mono_l k
 unfold laws_FnNormalForm.f
 repeat' first
  | (with_reducible exact ih0 _ _ _ _)
  | (with_reducible exact ih1 _ _ _ _)
  | (with_reducible exact impl_IntersectBoxes.mono _ _ _)
  | (with_reducible exact impl_NormalBoxes.mono _ _)
  | (with_reducible exact impl_SameBoxes.mono _ _ _)
  | (with_reducible exact impl_SubtractBoxes.mono _ _ _)
  | (with_reducible exact impl_UnionBoxes.mono _ _ _)
  | (with_reducible exact spec_E8Boxes.mono _ _)
  | (with_reducible exact spec_NormalBoxes.mono _ _)
  | (with_reducible exact LeO.refl _)
  | (with_reducible exact LeO.none _)
  | (with_reducible refine LeO.ite ?_ ?_)
  | (with_reducible refine LeO.bind ?_ (fun _ => ?_))
  | exact ih0 _ _ _ _
  | exact ih1 _ _ _ _
  | exact impl_IntersectBoxes.mono _ _ _
  | exact impl_NormalBoxes.mono _ _
  | exact impl_SameBoxes.mono _ _ _
  | exact impl_SubtractBoxes.mono _ _ _
  | exact impl_UnionBoxes.mono _ _ _
  | exact spec_E8Boxes.mono _ _
  | exact spec_NormalBoxes.mono _ _
  | exact LeO.none _
  | refine LeO.ite ?_ ?_
  | refine LeO.bind ?_ (fun _ => ?_)
set_option maxHeartbeats 8000000 in
set_option maxRecDepth 100000 in
theorem laws_FnNormalForm.calls (k : Nat) (A0 : Option Addr) (c0 : Nat) (l0 : List Int) (r : Bool) (w : World) (hr0 : Kd.C (Kd.int .u8) w A0 l0.length l0) (hc0 : l0.length ≤ c0) (h : laws_FnNormalForm.f k l0 = some r) :
 Calls Try.prog 8 #[.slice A0 l0.length c0] w fun e w' => e = .returned (.bool r) ∧ Below w.heap.size w w' := by
 have HR0 := yD hr0
 have HC0 := yD hc0
 clear hr0 hc0
 have HB := yD (Below.refl w.heap.size w)
 have H : (if (l0.length : Int) > 1048576 then (some true) else ((spec_E8Boxes.f k l0).bind fun bt510 => ((impl_NormalBoxes.f k bt510.2.1).bind fun bt517 => (if bt517.2 = 0 then ((impl_NormalBoxes.f k bt517.1).bind fun bt525 => ((impl_UnionBoxes.f k bt510.2.1 bt510.2.2).bind fun bt529 => ((impl_UnionBoxes.f k bt510.2.2 bt510.2.1).bind fun bt533 => (if bt525.2 = 0 then ((impl_SameBoxes.f k bt525.1 bt517.1).bind fun t537 => (if t537 = true then (if bt529.2 = bt533.2 then ((impl_SameBoxes.f k bt529.1 bt533.1).bind fun t538 => (laws_FnNormalForm.j0 k bt510.2.1 bt510.2.2 bt517.1 (!t538))) else (laws_FnNormalForm.j0 k bt510.2.1 bt510.2.2 bt517.1 true)) else (laws_FnNormalForm.j0 k bt510.2.1 bt510.2.2 bt517.1 true))) else (laws_FnNormalForm.j0 k bt510.2.1 bt510.2.2 bt517.1 true))))) else ((spec_NormalBoxes.f k bt510.2.1).bind fun bt521 => (some (bt517.2 == bt521.2))))))) = some r := h
 clear h
 by_cases c2 : (l0.length : Int) > 1048576
 ·
  rw [if_pos c2] at H
  have c2b0 : decide (1048576 < (l0.length : Int)) = true := zR c2
  have c2b1 : decide (1048576 < l0.length) = true := zR (by omega)
  clear c2; obtain rfl := Option.some.inj H; go_enter Try.func8, Try.ntmps8
  go_wp2
  go_ret
  exact ⟨by first | rfl | (simp <;> rfl) | (simp [*] <;> rfl), kR0 HB⟩
 ·
  rw [if_neg c2] at H
  have c2b0 : decide (1048576 < (l0.length : Int)) = false := zS c2
  have c2b1 : decide (1048576 < l0.length) = false := zS (by omega)
  clear c2
  obtain ⟨⟨t510, t511, t512⟩, A30, H⟩ := zW_ H
  replace H : ((impl_NormalBoxes.f k t511).bind fun bt517 => (if bt517.2 = 0 then ((impl_NormalBoxes.f k bt517.1).bind fun bt525 => ((impl_UnionBoxes.f k t511 t512).bind fun bt529 => ((impl_UnionBoxes.f k t512 t511).bind fun bt533 => (if bt525.2 = 0 then ((impl_SameBoxes.f k bt525.1 bt517.1).bind fun t537 => (if t537 = true then (if bt529.2 = bt533.2 then ((impl_SameBoxes.f k bt529.1 bt533.1).bind fun t538 => (laws_FnNormalForm.j0 k t511 t512 bt517.1 (!t538))) else (laws_FnNormalForm.j0 k t511 t512 bt517.1 true)) else (laws_FnNormalForm.j0 k t511 t512 bt517.1 true))) else (laws_FnNormalForm.j0 k t511 t512 bt517.1 true))))) else ((spec_NormalBoxes.f k t511).bind fun bt521 => (some (bt517.2 == bt521.2))))) = some r := H
  have A3 := yD A30
  clear A30
  obtain ⟨⟨t517, t520⟩, A40, H⟩ := zW_ H
  replace H : (if t520 = 0 then ((impl_NormalBoxes.f k t517).bind fun bt525 => ((impl_UnionBoxes.f k t511 t512).bind fun bt529 => ((impl_UnionBoxes.f k t512 t511).bind fun bt533 => (if bt525.2 = 0 then ((impl_SameBoxes.f k bt525.1 t517).bind fun t537 => (if t537 = true then (if bt529.2 = bt533.2 then ((impl_SameBoxes.f k bt529.1 bt533.1).bind fun t538 => (laws_FnNormalForm.j0 k t511 t512 t517 (!t538))) else (laws_FnNormalForm.j0 k t511 t512 t517 true)) else (laws_FnNormalForm.j0 k t511 t512 t517 true))) else (laws_FnNormalForm.j0 k t511 t512 t517 true))))) else ((spec_NormalBoxes.f k t511).bind fun bt521 => (some (t520 == bt521.2)))) = some r := H
  have A4 := yD A40
  clear A40
  by_cases c5 : t520 = 0
  ·
   rw [if_pos c5] at H
   have c5b0 : (t520 == 0) = true := beq_iff_eq.mpr c5
   have c5b1 : (t520 != 0) = false := bne_eq_false_iff_eq.mpr c5
   clear c5
   obtain ⟨⟨t525, t528⟩, A60, H⟩ := zW_ H
   replace H : ((impl_UnionBoxes.f k t511 t512).bind fun bt529 => ((impl_UnionBoxes.f k t512 t511).bind fun bt533 => (if t528 = 0 then ((impl_SameBoxes.f k t525 t517).bind fun t537 => (if t537 = true then (if bt529.2 = bt533.2 then ((impl_SameBoxes.f k bt529.1 bt533.1).bind fun t538 => (laws_FnNormalForm.j0 k t511 t512 t517 (!t538))) else (laws_FnNormalForm.j0 k t511 t512 t517 true)) else (laws_FnNormalForm.j0 k t511 t512 t517 true))) else (laws_FnNormalForm.j0 k t511 t512 t517 true)))) = some r := H
   have A6 := yD A60
   clear A60
   obtain ⟨⟨t529, t532⟩, A70, H⟩ := zW_ H
   replace H : ((impl_UnionBoxes.f k t512 t511).bind fun bt533 => (if t528 = 0 then ((impl_SameBoxes.f k t525 t517).bind fun t537 => (if t537 = true then (if t532 = bt533.2 then ((impl_SameBoxes.f k t529 bt533.1).bind fun t538 => (laws_FnNormalForm.j0 k t511 t512 t517 (!t538))) else (laws_FnNormalForm.j0 k t511 t512 t517 true)) else (laws_FnNormalForm.j0 k t511 t512 t517 true))) else (laws_FnNormalForm.j0 k t511 t512 t517 true))) = some r := H
   have A7 := yD A70
   clear A70
   obtain ⟨⟨t533, t536⟩, A80, H⟩ := zW_ H
   replace H : (if t528 = 0 then ((impl_SameBoxes.f k t525 t517).bind fun t537 => (if t537 = true then (if t532 = t536 then ((impl_SameBoxes.f k t529 t533).bind fun t538 => (laws_FnNormalForm.j0 k t511 t512 t517 (!t538))) else (laws_FnNormalForm.j0 k t511 t512 t517 true)) else (laws_FnNormalForm.j0 k t511 t512 t517 true))) else (laws_FnNormalForm.j0 k t511 t512 t517 true)) = some r := H
   have A8 := yD A80
   clear A80
   have HC9 := yD H
   clear H; go_enter Try.func8, Try.ntmps8
   go_upto_region 11 with (first | ((with_reducible refine gate_callee (f := 26) rfl ?_); refine goesL_ (some 27) rfl rfl Try.func26 (by kernel_rfl) rfl #[.slice A0 l0.length c0] rfl (by (try simp only [zK, zL, zM]); first | done | rfl | (simp only [zN, zO]; rfl)) ?_; (with_reducible refine (spec_E8Boxes.calls k _ _ l0 t510 t511 t512 _ ?side1 ?side2 A3.out).mono ?_); (case side1 => repeat (first | exact HR0.out | (with_reducible first | refine yV ?_ _ | refine yW ?_ _ | refine yX ?_))); (case side2 => exact HC0.out); rintro e w10 ⟨v513, v515, rfl, ho0, ho1, hb⟩; refine ⟨_, rfl, ?_⟩; have n0_ := yD (Kd.N_lower (Kd.N_mono (ok' := fun k_ => some k_ ≠ (v515 : Value).ownBlock) (Kd.S_N (Kd.S_bound ho0)) (fun k_ hk_ => hk_.1)) (below_size (kB HB))); have n1_ := yD (Kd.N_lower (Kd.N_mono (ok' := fun k_ => some k_ ≠ (v513 : Value).ownBlock) (Kd.S_N (Kd.S_bound ho1)) (fun k_ hk_ => hk_.1)) (below_size (kB HB))); have n2_ := yD (zC (kB HB) hb); clear HB; have HO514 := n0_; have HO516 := n1_; have HB := n2_; clear n0_ n1_ n2_; (try clear hb); (try clear hb2); (try clear hk); (try clear hi); (try clear ho0); (try clear ho1); obtain ⟨Ao11, co11, eo11⟩ := Kd.N_slice HO514.out; subst eo11) | ((with_reducible refine gate_callee (f := 16) rfl ?_); refine goesL_ (some 33) rfl rfl Try.func16 (by kernel_rfl) rfl #[.slice Ao11 t511.length co11] rfl (by (try simp only [zK, zL, zM]); first | done | rfl | (simp only [zN, zO]; rfl)) ?_; (with_reducible refine (impl_NormalBoxes.calls k (fun k_ => some k_ ≠ (v515 : Value).ownBlock) _ _ t511 t517 t520 _ ?side1 A4.out).mono ?_); (case side1 => exact Kd.N_V (HO514.out)); rintro e w12 ⟨v518, rfl, ho0, hb⟩; refine ⟨_, rfl, ?_⟩; have n0_ := yD (Kd.N_below (by (with_reducible repeat (first | apply Kd.N_alloc | apply Kd.N_drewN | apply Kd.N_drew)); exact HO514.out) hb); have n1_ := yD (Kd.N_below (by (with_reducible repeat (first | apply Kd.N_alloc | apply Kd.N_drewN | apply Kd.N_drew)); exact HO516.out) hb); have n2_ := yD (Kd.V_lower (Kd.V_mono (ok' := fun k_ => some k_ ≠ (v515 : Value).ownBlock) ho0 (fun k_ hk_ => Or.elim hk_ (fun hs_ => hs_) (fun hn_ => (Kd.fresh' (Kd.N_lt (by (with_reducible repeat (first | apply Kd.N_alloc | apply Kd.N_drewN | apply Kd.N_drew)); exact HO516.out)) k_ hn_)))) (below_size (kB HB))); have n3_ := yD (zC (kB HB) hb); clear HO514; clear HO516; clear HB; have HO514 := n0_; have HO516 := n1_; have HO519 := n2_; have HB := n3_; clear n0_ n1_ n2_ n3_; (try clear hb); (try clear hb2); (try clear hk); (try clear hi); (try clear ho0); obtain ⟨Ao13, co13, eo13⟩ := Kd.V_slice HO519.out; subst eo13) | ((with_reducible refine gate_callee (f := 16) rfl ?_); refine goesL_ (some 48) rfl rfl Try.func16 (by kernel_rfl) rfl #[.slice Ao13 t517.length co13] rfl (by (try simp only [zK, zL, zM]); first | done | rfl | (simp only [zN, zO]; rfl)) ?_; (with_reducible refine (impl_NormalBoxes.calls k (fun k_ => some k_ ≠ (v515 : Value).ownBlock) _ _ t517 t525 t528 _ ?side1 A6.out).mono ?_); (case side1 => exact HO519.out); rintro e w14 ⟨v526, rfl, ho0, hb⟩; refine ⟨_, rfl, ?_⟩; have n0_ := yD (Kd.N_below (by (with_reducible repeat (first | apply Kd.N_alloc | apply Kd.N_drewN | apply Kd.N_drew)); exact HO514.out) hb); have n1_ := yD (Kd.N_below (by (with_reducible repeat (first | apply Kd.N_alloc | apply Kd.N_drewN | apply Kd.N_drew)); exact HO516.out) hb); have n2_ := yD (Kd.V_below (by (with_reducible repeat (first | apply Kd.V_alloc | apply Kd.V_drewN | apply Kd.V_drew)); exact HO519.out) hb); have n3_ := yD (Kd.V_lower (Kd.V_mono (ok' := fun k_ => some k_ ≠ (v515 : Value).ownBlock) ho0 (fun k_ hk_ => Or.elim hk_ (fun hs_ => hs_) (fun hn_ => (Kd.fresh' (Kd.N_lt (by (with_reducible repeat (first | apply Kd.N_alloc | apply Kd.N_drewN | apply Kd.N_drew)); exact HO516.out)) k_ hn_)))) (below_size (kB HB))); have n4_ := yD (zC (kB HB) hb); clear HO514; clear HO516; clear HO519; clear HB; have HO514 := n0_; have HO516 := n1_; have HO519 := n2_; have HO527 := n3_; have HB := n4_; clear n0_ n1_ n2_ n3_ n4_; (try clear hb); (try clear hb2); (try clear hk); (try clear hi); (try clear ho0); obtain ⟨Ao15, co15, eo15⟩ := Kd.N_slice HO516.out; subst eo15) | ((with_reducible refine gate_callee (f := 21) rfl ?_); refine goesL_ (some 54) rfl rfl Try.func21 (by kernel_rfl) rfl #[.slice Ao11 t511.length co11, .slice Ao15 t512.length co15] rfl (by (try simp only [zK, zL, zM]); first | done | rfl | (simp only [zN, zO]; rfl)) ?_; (with_reducible refine (impl_UnionBoxes.calls k (fun k_ => some k_ ≠ (.slice Ao15 t512.length co15 : Value).ownBlock) _ _ t511 (fun k_ => some k_ ≠ (.slice Ao11 t511.length co11 : Value).ownBlock) _ _ t512 t529 t532 _ ?side1 ?side2 A7.out).mono ?_); (case side1 => exact Kd.N_V (HO514.out)); (case side2 => exact Kd.N_V (HO516.out)); rintro e w16 ⟨v530, rfl, ho0, hb⟩; refine ⟨_, rfl, ?_⟩; have n0_ := yD (Kd.N_below (by (with_reducible repeat (first | apply Kd.N_alloc | apply Kd.N_drewN | apply Kd.N_drew)); exact HO514.out) hb); have n1_ := yD (Kd.N_below (by (with_reducible repeat (first | apply Kd.N_alloc | apply Kd.N_drewN | apply Kd.N_drew)); exact HO516.out) hb); have n2_ := yD (Kd.V_below (by (with_reducible repeat (first | apply Kd.V_alloc | apply Kd.V_drewN | apply Kd.V_drew)); exact HO519.out) hb); have n3_ := yD (Kd.V_below (by (with_reducible repeat (first | apply Kd.V_alloc | apply Kd.V_drewN | apply Kd.V_drew)); exact HO527.out) hb); have n4_ := yD (Kd.V_lower (Kd.V_mono (ok' := fun k_ => True) ho0 (fun k_ hk_ => trivial)) (below_size (kB HB))); have n5_ := yD (zC (kB HB) hb); clear HO514; clear HO516; clear HO519; clear HO527; clear HB; have HO514 := n0_; have HO516 := n1_; have HO519 := n2_; have HO527 := n3_; have HO531 := n4_; have HB := n5_; clear n0_ n1_ n2_ n3_ n4_ n5_; (try clear hb); (try clear hb2); (try clear hk); (try clear hi); (try clear ho0)) | ((with_reducible refine gate_callee (f := 21) rfl ?_); refine goesL_ (some 60) rfl rfl Try.func21 (by kernel_rfl) rfl #[.slice Ao15 t512.length co15, .slice Ao11 t511.length co11] rfl (by (try simp only [zK, zL, zM]); first | done | rfl | (simp only [zN, zO]; rfl)) ?_; (with_reducible refine (impl_UnionBoxes.calls k (fun k_ => some k_ ≠ (.slice Ao11 t511.length co11 : Value).ownBlock) _ _ t512 (fun k_ => some k_ ≠ (.slice Ao15 t512.length co15 : Value).ownBlock) _ _ t511 t533 t536 _ ?side1 ?side2 A8.out).mono ?_); (case side1 => exact Kd.N_V (HO516.out)); (case side2 => exact Kd.N_V (HO514.out)); rintro e w17 ⟨v534, rfl, ho0, hb⟩; refine ⟨_, rfl, ?_⟩; have n0_ := yD (Kd.N_below (by (with_reducible repeat (first | apply Kd.N_alloc | apply Kd.N_drewN | apply Kd.N_drew)); exact HO514.out) hb); have n1_ := yD (Kd.N_below (by (with_reducible repeat (first | apply Kd.N_alloc | apply Kd.N_drewN | apply Kd.N_drew)); exact HO516.out) hb); have n2_ := yD (Kd.V_below (by (with_reducible repeat (first | apply Kd.V_alloc | apply Kd.V_drewN | apply Kd.V_drew)); exact HO519.out) hb); have n3_ := yD (Kd.V_below (by (with_reducible repeat (first | apply Kd.V_alloc | apply Kd.V_drewN | apply Kd.V_drew)); exact HO527.out) hb); have n4_ := yD (Kd.V_below (by (with_reducible repeat (first | apply Kd.V_alloc | apply Kd.V_drewN | apply Kd.V_drew)); exact HO531.out) hb); have n5_ := yD (Kd.V_lower (Kd.V_mono (ok' := fun k_ => True) ho0 (fun k_ hk_ => trivial)) (below_size (kB HB))); have n6_ := yD (zC (kB HB) hb); clear HO514; clear HO516; clear HO519; clear HO527; clear HO531; clear HB; have HO514 := n0_; have HO516 := n1_; have HO519 := n2_; have HO527 := n3_; have HO531 := n4_; have HO535 := n5_; have HB := n6_; clear n0_ n1_ n2_ n3_ n4_ n5_ n6_; (try clear hb); (try clear hb2); (try clear hk); (try clear hi); (try clear ho0)))
   (try simp only [Act.put, zH, zI, zJ])
   go_cut [81] (fun v81 wc => ∃ (kq : Nat) (x81_8 : Bool), v81 = .bool x81_8 ∧ Aside0 (laws_FnNormalForm.j0 kq t511 t512 t517 x81_8 = some r) ∧ Aside0 (kq ≤ k) ∧ Aside0 (Kd.N k42 42 wc w.heap.size (fun k_ => some k_ ≠ ((.slice Ao15 t512.length co15) : Value).ownBlock) (.slice Ao11 t511.length co11) t511) ∧ Aside0 (Kd.N k42 42 wc w.heap.size (fun k_ => some k_ ≠ ((.slice Ao11 t511.length co11) : Value).ownBlock) (.slice Ao15 t512.length co15) t512) ∧ Aside0 (Kd.V k42 42 wc w.heap.size (fun k_ => some k_ ≠ ((.slice Ao15 t512.length co15) : Value).ownBlock) (.slice Ao13 t517.length co13) t517) ∧ Aside0 (Below w.heap.size w wc))
   case first =>
    have H := HC9.out; clear HC9
    by_cases c18 : t528 = 0
    ·
     rw [if_pos c18] at H
     have c18b0 : (t528 == 0) = true := beq_iff_eq.mpr c18
     have c18b1 : (t528 != 0) = false := bne_eq_false_iff_eq.mpr c18
     clear c18
     (first | rw [c18b0] | (simp only [i64_w, i32_w]; rw [c18b0]) | (simp only [bne] at c18b0; rw [c18b0]) | skip)
     obtain ⟨t537, A190, H⟩ := zW_ H
     replace H : (if t537 = true then (if t532 = t536 then ((impl_SameBoxes.f k t529 t533).bind fun t538 => (laws_FnNormalForm.j0 k t511 t512 t517 (!t538))) else (laws_FnNormalForm.j0 k t511 t512 t517 true)) else (laws_FnNormalForm.j0 k t511 t512 t517 true)) = some r := H
     have A19 := yD A190
     clear A190
     by_cases c20 : t537 = true
     ·
      subst c20
      have H1 : (if t532 = t536 then ((impl_SameBoxes.f k t529 t533).bind fun t538 => (laws_FnNormalForm.j0 k t511 t512 t517 (!t538))) else (laws_FnNormalForm.j0 k t511 t512 t517 true)) = some r := by rw [if_pos rfl] at H; exact H
      clear H; have H := H1; clear H1
      by_cases c21 : t532 = t536
      ·
       rw [if_pos c21] at H
       have c21b0 : (t532 == t536) = true := beq_iff_eq.mpr c21
       have c21b1 : (t532 != t536) = false := bne_eq_false_iff_eq.mpr c21
       clear c21
       obtain ⟨t538, A220, H⟩ := zW_ H
       replace H : (laws_FnNormalForm.j0 k t511 t512 t517 (!t538)) = some r := H
       have A22 := yD A220
       clear A220
       have H' := yD H
       clear H
       obtain ⟨Ao23, co23, eo23⟩ := Kd.V_slice HO527.out
       subst eo23
       go_wp2_with (first | (go_at_call 31; (with_reducible refine (impl_SameBoxes.calls k _ _ t525 _ _ t517 true _ ?side1 ?side2 ?side3 ?side4 A19.out).mono ?_); (case side1 => exact kV (Kd.V_reads' HO527.out).2.2); (case side2 => exact (Kd.V_reads' HO527.out).2.1); (case side3 => exact kV (Kd.V_reads' HO519.out).2.2); (case side4 => exact (Kd.V_reads' HO519.out).2.1); rintro e w24 ⟨rfl, hb⟩; have n0_ := yD (Kd.N_below (by (with_reducible repeat (first | apply Kd.N_alloc | apply Kd.N_drewN | apply Kd.N_drew)); exact HO514.out) hb); have n1_ := yD (Kd.N_below (by (with_reducible repeat (first | apply Kd.N_alloc | apply Kd.N_drewN | apply Kd.N_drew)); exact HO516.out) hb); have n2_ := yD (Kd.V_below (by (with_reducible repeat (first | apply Kd.V_alloc | apply Kd.V_drewN | apply Kd.V_drew)); exact HO519.out) hb); have n3_ := yD (Kd.V_below (by (with_reducible repeat (first | apply Kd.V_alloc | apply Kd.V_drewN | apply Kd.V_drew)); exact HO527.out) hb); have n4_ := yD (Kd.V_below (by (with_reducible repeat (first | apply Kd.V_alloc | apply Kd.V_drewN | apply Kd.V_drew)); exact HO531.out) hb); have n5_ := yD (Kd.V_below (by (with_reducible repeat (first | apply Kd.V_alloc | apply Kd.V_drewN | apply Kd.V_drew)); exact HO535.out) hb); have n6_ := yD (zC (kB HB) hb); clear HO514; clear HO516; clear HO519; clear HO527; clear HO531; clear HO535; clear HB; have HO514 := n0_; have HO516 := n1_; have HO519 := n2_; have HO527 := n3_; have HO531 := n4_; have HO535 := n5_; have HB := n6_; clear n0_ n1_ n2_ n3_ n4_ n5_ n6_; (try clear hb); (try clear hb2); (try clear hk); (try clear hi); obtain ⟨Ao25, co25, eo25⟩ := Kd.V_slice HO531.out; subst eo25; obtain ⟨Ao26, co26, eo26⟩ := Kd.V_slice HO535.out; subst eo26) | (go_at_call 31; (with_reducible refine (impl_SameBoxes.calls k _ _ t529 _ _ t533 t538 _ ?side1 ?side2 ?side3 ?side4 A22.out).mono ?_); (case side1 => exact kV (Kd.V_reads' HO531.out).2.2); (case side2 => exact (Kd.V_reads' HO531.out).2.1); (case side3 => exact kV (Kd.V_reads' HO535.out).2.2); (case side4 => exact (Kd.V_reads' HO535.out).2.1); rintro e w27 ⟨rfl, hb⟩; have n0_ := yD (Kd.N_below (by (with_reducible repeat (first | apply Kd.N_alloc | apply Kd.N_drewN | apply Kd.N_drew)); exact HO514.out) hb); have n1_ := yD (Kd.N_below (by (with_reducible repeat (first | apply Kd.N_alloc | apply Kd.N_drewN | apply Kd.N_drew)); exact HO516.out) hb); have n2_ := yD (Kd.V_below (by (with_reducible repeat (first | apply Kd.V_alloc | apply Kd.V_drewN | apply Kd.V_drew)); exact HO519.out) hb); have n3_ := yD (Kd.V_below (by (with_reducible repeat (first | apply Kd.V_alloc | apply Kd.V_drewN | apply Kd.V_drew)); exact HO527.out) hb); have n4_ := yD (Kd.V_below (by (with_reducible repeat (first | apply Kd.V_alloc | apply Kd.V_drewN | apply Kd.V_drew)); exact HO531.out) hb); have n5_ := yD (Kd.V_below (by (with_reducible repeat (first | apply Kd.V_alloc | apply Kd.V_drewN | apply Kd.V_drew)); exact HO535.out) hb); have n6_ := yD (zC (kB HB) hb); clear HO514; clear HO516; clear HO519; clear HO527; clear HO531; clear HO535; clear HB; have HO514 := n0_; have HO516 := n1_; have HO519 := n2_; have HO527 := n3_; have HO531 := n4_; have HO535 := n5_; have HB := n6_; clear n0_ n1_ n2_ n3_ n4_ n5_ n6_; (try clear hb); (try clear hb2); (try clear hk); (try clear hi)))
       go_meet
       case rel => exact ⟨_, (!t538), (by first | rfl | (simp; done) | (simp [*]; done)), H', ⟨by first | omega | exact Nat.le_refl _⟩, ⟨by (with_reducible repeat (first | apply Kd.N_alloc | apply Kd.N_drewN | apply Kd.N_drew)); exact HO514.out⟩, ⟨by (with_reducible repeat (first | apply Kd.N_alloc | apply Kd.N_drewN | apply Kd.N_drew)); exact HO516.out⟩, ⟨by (with_reducible repeat (first | apply Kd.V_alloc | apply Kd.V_drewN | apply Kd.V_drew)); exact HO519.out⟩, ⟨kR0 HB⟩⟩
      · rw [if_neg c21] at H
        have c21b0 : (t532 == t536) = false := beq_eq_false_iff_ne.mpr c21
        have c21b1 : (t532 != t536) = true := bne_iff_ne.mpr c21
        have H' := yD H
        clear H
        obtain ⟨Ao28, co28, eo28⟩ := Kd.V_slice HO527.out
        subst eo28
        go_wp2_with (first | (go_at_call 31; (with_reducible refine (impl_SameBoxes.calls k _ _ t525 _ _ t517 true _ ?side1 ?side2 ?side3 ?side4 A19.out).mono ?_); (case side1 => exact kV (Kd.V_reads' HO527.out).2.2); (case side2 => exact (Kd.V_reads' HO527.out).2.1); (case side3 => exact kV (Kd.V_reads' HO519.out).2.2); (case side4 => exact (Kd.V_reads' HO519.out).2.1); rintro e w29 ⟨rfl, hb⟩; have n0_ := yD (Kd.N_below (by (with_reducible repeat (first | apply Kd.N_alloc | apply Kd.N_drewN | apply Kd.N_drew)); exact HO514.out) hb); have n1_ := yD (Kd.N_below (by (with_reducible repeat (first | apply Kd.N_alloc | apply Kd.N_drewN | apply Kd.N_drew)); exact HO516.out) hb); have n2_ := yD (Kd.V_below (by (with_reducible repeat (first | apply Kd.V_alloc | apply Kd.V_drewN | apply Kd.V_drew)); exact HO519.out) hb); have n3_ := yD (Kd.V_below (by (with_reducible repeat (first | apply Kd.V_alloc | apply Kd.V_drewN | apply Kd.V_drew)); exact HO527.out) hb); have n4_ := yD (Kd.V_below (by (with_reducible repeat (first | apply Kd.V_alloc | apply Kd.V_drewN | apply Kd.V_drew)); exact HO531.out) hb); have n5_ := yD (Kd.V_below (by (with_reducible repeat (first | apply Kd.V_alloc | apply Kd.V_drewN | apply Kd.V_drew)); exact HO535.out) hb); have n6_ := yD (zC (kB HB) hb); clear HO514; clear HO516; clear HO519; clear HO527; clear HO531; clear HO535; clear HB; have HO514 := n0_; have HO516 := n1_; have HO519 := n2_; have HO527 := n3_; have HO531 := n4_; have HO535 := n5_; have HB := n6_; clear n0_ n1_ n2_ n3_ n4_ n5_ n6_; (try clear hb); (try clear hb2); (try clear hk); (try clear hi)))
        go_meet
        case rel => exact ⟨_, (true), (by first | rfl | (simp; done) | (simp [*]; done)), H', ⟨by first | omega | exact Nat.le_refl _⟩, ⟨by (with_reducible repeat (first | apply Kd.N_alloc | apply Kd.N_drewN | apply Kd.N_drew)); exact HO514.out⟩, ⟨by (with_reducible repeat (first | apply Kd.N_alloc | apply Kd.N_drewN | apply Kd.N_drew)); exact HO516.out⟩, ⟨by (with_reducible repeat (first | apply Kd.V_alloc | apply Kd.V_drewN | apply Kd.V_drew)); exact HO519.out⟩, ⟨kR0 HB⟩⟩
     ·
      replace c20 := Bool.eq_false_iff.mpr c20
      subst c20
      have H1 : (laws_FnNormalForm.j0 k t511 t512 t517 true) = some r := by rw [if_neg (show ¬ (false = true) by decide)] at H; exact H
      clear H; have H := H1; clear H1
      have H' := yD H
      clear H
      obtain ⟨Ao30, co30, eo30⟩ := Kd.V_slice HO527.out
      subst eo30
      go_wp2_with (first | (go_at_call 31; (with_reducible refine (impl_SameBoxes.calls k _ _ t525 _ _ t517 false _ ?side1 ?side2 ?side3 ?side4 A19.out).mono ?_); (case side1 => exact kV (Kd.V_reads' HO527.out).2.2); (case side2 => exact (Kd.V_reads' HO527.out).2.1); (case side3 => exact kV (Kd.V_reads' HO519.out).2.2); (case side4 => exact (Kd.V_reads' HO519.out).2.1); rintro e w31 ⟨rfl, hb⟩; have n0_ := yD (Kd.N_below (by (with_reducible repeat (first | apply Kd.N_alloc | apply Kd.N_drewN | apply Kd.N_drew)); exact HO514.out) hb); have n1_ := yD (Kd.N_below (by (with_reducible repeat (first | apply Kd.N_alloc | apply Kd.N_drewN | apply Kd.N_drew)); exact HO516.out) hb); have n2_ := yD (Kd.V_below (by (with_reducible repeat (first | apply Kd.V_alloc | apply Kd.V_drewN | apply Kd.V_drew)); exact HO519.out) hb); have n3_ := yD (Kd.V_below (by (with_reducible repeat (first | apply Kd.V_alloc | apply Kd.V_drewN | apply Kd.V_drew)); exact HO527.out) hb); have n4_ := yD (Kd.V_below (by (with_reducible repeat (first | apply Kd.V_alloc | apply Kd.V_drewN | apply Kd.V_drew)); exact HO531.out) hb); have n5_ := yD (Kd.V_below (by (with_reducible repeat (first | apply Kd.V_alloc | apply Kd.V_drewN | apply Kd.V_drew)); exact HO535.out) hb); have n6_ := yD (zC (kB HB) hb); clear HO514; clear HO516; clear HO519; clear HO527; clear HO531; clear HO535; clear HB; have HO514 := n0_; have HO516 := n1_; have HO519 := n2_; have HO527 := n3_; have HO531 := n4_; have HO535 := n5_; have HB := n6_; clear n0_ n1_ n2_ n3_ n4_ n5_ n6_; (try clear hb); (try clear hb2); (try clear hk); (try clear hi)))
      go_meet
      case rel => exact ⟨_, (true), (by first | rfl | (simp; done) | (simp [*]; done)), H', ⟨by first | omega | exact Nat.le_refl _⟩, ⟨by (with_reducible repeat (first | apply Kd.N_alloc | apply Kd.N_drewN | apply Kd.N_drew)); exact HO514.out⟩, ⟨by (with_reducible repeat (first | apply Kd.N_alloc | apply Kd.N_drewN | apply Kd.N_drew)); exact HO516.out⟩, ⟨by (with_reducible repeat (first | apply Kd.V_alloc | apply Kd.V_drewN | apply Kd.V_drew)); exact HO519.out⟩, ⟨kR0 HB⟩⟩
    ·
     rw [if_neg c18] at H
     have c18b0 : (t528 == 0) = false := beq_eq_false_iff_ne.mpr c18
     have c18b1 : (t528 != 0) = true := bne_iff_ne.mpr c18
     (first | rw [c18b0] | (simp only [i64_w, i32_w]; rw [c18b0]) | (simp only [bne] at c18b0; rw [c18b0]) | skip)
     have H' := yD H
     clear H
     go_wp2
     go_meet
     case rel => exact ⟨_, (true), (by first | rfl | (simp; done) | (simp [*]; done)), H', ⟨by first | omega | exact Nat.le_refl _⟩, ⟨by (with_reducible repeat (first | apply Kd.N_alloc | apply Kd.N_drewN | apply Kd.N_drew)); exact HO514.out⟩, ⟨by (with_reducible repeat (first | apply Kd.N_alloc | apply Kd.N_drewN | apply Kd.N_drew)); exact HO516.out⟩, ⟨by (with_reducible repeat (first | apply Kd.V_alloc | apply Kd.V_drewN | apply Kd.V_drew)); exact HO519.out⟩, ⟨kR0 HB⟩⟩
   case rest =>
    clear HC9; try clear c1; try clear c2; try clear c2b0; try clear c2b1; try clear p2; try clear c5; try clear c5b0; try clear c5b1; try clear c8; try clear c16; try clear c18; try clear c18b0; try clear c18b1; try clear c20; try clear c21; try clear c21b0; try clear c21b1; try clear c26
    obtain ⟨kq, x81_8, rfl, HA, HJ8, HO_4, HO_5, HO_6, HB⟩ := hcut
    cases kq with
    | zero => exact absurd HA.out (by simp [laws_FnNormalForm.j0])
    | succ kj8 =>
     have H := HA.out; clear HA
     simp only [laws_FnNormalForm.j0] at H
     by_cases c32 : x81_8 = true
     · subst c32
       have H1 : (some false) = some r := by rw [if_pos rfl] at H; exact H
       clear H; have H := H1; clear H1; obtain rfl := Option.some.inj H
       go_wp2
       go_ret
       exact ⟨by first | rfl | (simp <;> rfl) | (simp [*] <;> rfl), kR0 HB⟩
     ·
      replace c32 := Bool.eq_false_iff.mpr c32
      subst c32
      have H1 : ((impl_IntersectBoxes.f kj8 t511 t512).bind fun bt539 => ((impl_SubtractBoxes.f kj8 t511 t512).bind fun bt543 => (if bt539.2 = 0 then (laws_FnNormalForm.j1 kj8 t517 bt539.1 bt543.1 (bt543.2 != 0)) else (laws_FnNormalForm.j1 kj8 t517 bt539.1 bt543.1 true)))) = some r := by rw [if_neg (show ¬ (false = true) by decide)] at H; exact H
      clear H; have H := H1; clear H1
      obtain ⟨⟨t539, t542⟩, A330, H⟩ := zW_ H
      replace H : ((impl_SubtractBoxes.f kj8 t511 t512).bind fun bt543 => (if t542 = 0 then (laws_FnNormalForm.j1 kj8 t517 t539 bt543.1 (bt543.2 != 0)) else (laws_FnNormalForm.j1 kj8 t517 t539 bt543.1 true))) = some r := H
      have A33 := yD A330
      clear A330
      obtain ⟨⟨t543, t546⟩, A340, H⟩ := zW_ H
      replace H : (if t542 = 0 then (laws_FnNormalForm.j1 kj8 t517 t539 t543 (t546 != 0)) else (laws_FnNormalForm.j1 kj8 t517 t539 t543 true)) = some r := H
      have A34 := yD A340
      clear A340
      have HC35 := yD H
      clear H
      go_upto_region 15 with (first | ((with_reducible refine gate_callee (f := 23) rfl ?_); refine goesL_ (some 85) rfl rfl Try.func23 (by kernel_rfl) rfl #[.slice Ao11 t511.length co11, .slice Ao15 t512.length co15] rfl (by (try simp only [zK, zL, zM]); first | done | rfl | (simp only [zN, zO]; rfl)) ?_; (with_reducible refine (impl_IntersectBoxes.calls kj8 (fun k_ => some k_ ≠ (.slice Ao15 t512.length co15 : Value).ownBlock) _ _ t511 (fun k_ => some k_ ≠ (.slice Ao11 t511.length co11 : Value).ownBlock) _ _ t512 t539 t542 _ ?side1 ?side2 A33.out).mono ?_); (case side1 => exact Kd.N_V (HO_4.out)); (case side2 => exact Kd.N_V (HO_5.out)); rintro e w36 ⟨v540, rfl, ho0, hb⟩; refine ⟨_, rfl, ?_⟩; have n0_ := yD (Kd.N_below (by (with_reducible repeat (first | apply Kd.N_alloc | apply Kd.N_drewN | apply Kd.N_drew)); exact HO_4.out) hb); have n1_ := yD (Kd.N_below (by (with_reducible repeat (first | apply Kd.N_alloc | apply Kd.N_drewN | apply Kd.N_drew)); exact HO_5.out) hb); have n2_ := yD (Kd.V_below (by (with_reducible repeat (first | apply Kd.V_alloc | apply Kd.V_drewN | apply Kd.V_drew)); exact HO_6.out) hb); have n3_ := yD (Kd.V_lower (Kd.V_mono (ok' := fun k_ => True) ho0 (fun k_ hk_ => trivial)) (below_size (kB HB))); have n4_ := yD (zC (kB HB) hb); clear HO_4; clear HO_5; clear HO_6; clear HB; have HO_4 := n0_; have HO_5 := n1_; have HO_6 := n2_; have HO541 := n3_; have HB := n4_; clear n0_ n1_ n2_ n3_ n4_; (try clear hb); (try clear hb2); (try clear hk); (try clear hi); (try clear ho0)) | ((with_reducible refine gate_callee (f := 25) rfl ?_); refine goesL_ (some 91) rfl rfl Try.func25 (by kernel_rfl) rfl #[.slice Ao11 t511.length co11, .slice Ao15 t512.length co15] rfl (by (try simp only [zK, zL, zM]); first | done | rfl | (simp only [zN, zO]; rfl)) ?_; (with_reducible refine (impl_SubtractBoxes.calls kj8 (fun k_ => some k_ ≠ (.slice Ao15 t512.length co15 : Value).ownBlock) _ _ t511 (fun k_ => some k_ ≠ (.slice Ao11 t511.length co11 : Value).ownBlock) _ _ t512 t543 t546 _ ?side1 ?side2 A34.out).mono ?_); (case side1 => exact Kd.N_V (HO_4.out)); (case side2 => exact Kd.N_V (HO_5.out)); rintro e w37 ⟨v544, rfl, ho0, hb⟩; refine ⟨_, rfl, ?_⟩; have n0_ := yD (Kd.N_below (by (with_reducible repeat (first | apply Kd.N_alloc | apply Kd.N_drewN | apply Kd.N_drew)); exact HO_4.out) hb); have n1_ := yD (Kd.N_below (by (with_reducible repeat (first | apply Kd.N_alloc | apply Kd.N_drewN | apply Kd.N_drew)); exact HO_5.out) hb); have n2_ := yD (Kd.V_below (by (with_reducible repeat (first | apply Kd.V_alloc | apply Kd.V_drewN | apply Kd.V_drew)); exact HO_6.out) hb); have n3_ := yD (Kd.V_below (by (with_reducible repeat (first | apply Kd.V_alloc | apply Kd.V_drewN | apply Kd.V_drew)); exact HO541.out) hb); have n4_ := yD (Kd.V_lower (Kd.V_mono (ok' := fun k_ => True) ho0 (fun k_ hk_ => trivial)) (below_size (kB HB))); have n5_ := yD (zC (kB HB) hb); clear HO_4; clear HO_5; clear HO_6; clear HO541; clear HB; have HO_4 := n0_; have HO_5 := n1_; have HO_6 := n2_; have HO541 := n3_; have HO545 := n4_; have HB := n5_; clear n0_ n1_ n2_ n3_ n4_ n5_; (try clear hb); (try clear hb2); (try clear hk); (try clear hi); (try clear ho0)))
      (try simp only [Act.put, zH, zI, zJ])
      go_cut [99] (fun v99 wc => ∃ (kq : Nat) (x99_34 : Bool), v99 = .bool x99_34 ∧ Aside0 (laws_FnNormalForm.j1 kq t517 t539 t543 x99_34 = some r) ∧ Aside0 (kq ≤ kj8) ∧ Aside0 (Kd.V k42 42 wc w.heap.size (fun _ => True) (.slice Ao13 t517.length co13) t517) ∧ Aside0 (Kd.V k42 42 wc w.heap.size (fun _ => True) v540 t539) ∧ Aside0 (Kd.V k42 42 wc w.heap.size (fun _ => True) v544 t543) ∧ Aside0 (Below w.heap.size w wc))
      case first =>
       have H := HC35.out; clear HC35
       by_cases c38 : t542 = 0
       · rw [if_pos c38] at H
         have c38b0 : (t542 == 0) = true := beq_iff_eq.mpr c38
         have c38b1 : (t542 != 0) = false := bne_eq_false_iff_eq.mpr c38
         clear c38
         (first | rw [c38b0] | (simp only [i64_w, i32_w]; rw [c38b0]) | (simp only [bne] at c38b0; rw [c38b0]) | skip)
         have H' := yD H
         clear H
         go_wp2
         go_meet
         case rel => exact ⟨_, ((t546 != 0)), (by first | rfl | (simp; done) | (simp [*]; done)), H', ⟨by have := HJ8.out; first | omega | exact Nat.le_refl _⟩, ⟨by (with_reducible repeat (first | apply Kd.V_alloc | apply Kd.V_drewN | apply Kd.V_drew)); exact Kd.V_mono HO_6.out (fun _ hk => trivial)⟩, ⟨by (with_reducible repeat (first | apply Kd.V_alloc | apply Kd.V_drewN | apply Kd.V_drew)); exact HO541.out⟩, ⟨by (with_reducible repeat (first | apply Kd.V_alloc | apply Kd.V_drewN | apply Kd.V_drew)); exact HO545.out⟩, ⟨kR0 HB⟩⟩
       · rw [if_neg c38] at H
         have c38b0 : (t542 == 0) = false := beq_eq_false_iff_ne.mpr c38
         have c38b1 : (t542 != 0) = true := bne_iff_ne.mpr c38
         (first | rw [c38b0] | (simp only [i64_w, i32_w]; rw [c38b0]) | (simp only [bne] at c38b0; rw [c38b0]) | skip)
         have H' := yD H
         clear H
         go_wp2
         go_meet
         case rel => exact ⟨_, (true), (by first | rfl | (simp; done) | (simp [*]; done)), H', ⟨by have := HJ8.out; first | omega | exact Nat.le_refl _⟩, ⟨by (with_reducible repeat (first | apply Kd.V_alloc | apply Kd.V_drewN | apply Kd.V_drew)); exact Kd.V_mono HO_6.out (fun _ hk => trivial)⟩, ⟨by (with_reducible repeat (first | apply Kd.V_alloc | apply Kd.V_drewN | apply Kd.V_drew)); exact HO541.out⟩, ⟨by (with_reducible repeat (first | apply Kd.V_alloc | apply Kd.V_drewN | apply Kd.V_drew)); exact HO545.out⟩, ⟨kR0 HB⟩⟩
      case rest =>
       clear HC35; try clear c1; try clear c2; try clear c2b0; try clear c2b1; try clear p2; try clear c3; try clear c5; try clear c5b0; try clear c5b1; try clear c8; try clear c16; try clear c18; try clear c18b0; try clear c18b1; try clear c20; try clear c21; try clear c21b0; try clear c21b1; try clear c23; try clear c25; try clear c26; try clear c32; try clear c38; try clear c38b0; try clear c38b1; try clear p2
       obtain ⟨kq, x99_34, rfl, HA, HJ34, HO_6, HO_16, HO_18, HB⟩ := hcut
       cases kq with
       | zero => exact absurd HA.out (by simp [laws_FnNormalForm.j1])
       | succ kj34 =>
        have H := HA.out; clear HA
        simp only [laws_FnNormalForm.j1] at H
        by_cases c39 : x99_34 = true
        · subst c39
          have H1 : (some true) = some r := by rw [if_pos rfl] at H; exact H
          clear H; have H := H1; clear H1; obtain rfl := Option.some.inj H
          go_wp2
          go_ret
          exact ⟨by first | rfl | (simp <;> rfl) | (simp [*] <;> rfl), kR0 HB⟩
        ·
         replace c39 := Bool.eq_false_iff.mpr c39
         subst c39
         have H1 : ((impl_UnionBoxes.f kj34 t539 t543).bind fun bt547 => (if bt547.2 = 0 then ((impl_SameBoxes.f kj34 bt547.1 t517).bind fun t551 => (some t551)) else (some false))) = some r := by rw [if_neg (show ¬ (false = true) by decide)] at H; exact H
         clear H; have H := H1; clear H1
         obtain ⟨⟨t547, t550⟩, A400, H⟩ := zW_ H
         replace H : (if t550 = 0 then ((impl_SameBoxes.f kj34 t547 t517).bind fun t551 => (some t551)) else (some false)) = some r := H
         have A40 := yD A400
         clear A400
         by_cases c41 : t550 = 0
         ·
          rw [if_pos c41] at H
          have c41b0 : (t550 == 0) = true := beq_iff_eq.mpr c41
          have c41b1 : (t550 != 0) = false := bne_eq_false_iff_eq.mpr c41
          clear c41
          obtain ⟨t551, A420, H⟩ := zW_ H
          replace H : (some t551) = some r := H
          have A42 := yD A420
          clear A420; obtain rfl := Option.some.inj H
          obtain ⟨Ao43, co43, eo43⟩ := Kd.V_slice HO_16.out
          subst eo43
          obtain ⟨Ao44, co44, eo44⟩ := Kd.V_slice HO_18.out
          subst eo44
          go_wp2_with (first | ((with_reducible refine gate_callee (f := 21) rfl ?_); refine goesL_ (some 103) rfl rfl Try.func21 (by kernel_rfl) rfl #[.slice Ao43 t539.length co43, .slice Ao44 t543.length co44] rfl (by (try simp only [zK, zL, zM]); first | done | rfl | (simp only [zN, zO]; rfl)) ?_; (with_reducible refine (impl_UnionBoxes.calls kj34 (fun k_ => True) _ _ t539 (fun k_ => True) _ _ t543 t547 t550 _ ?side1 ?side2 A40.out).mono ?_); (case side1 => exact HO_16.out); (case side2 => exact HO_18.out); rintro e w45 ⟨v548, rfl, ho0, hb⟩; refine ⟨_, rfl, ?_⟩; have n0_ := yD (Kd.V_below (by (with_reducible repeat (first | apply Kd.V_alloc | apply Kd.V_drewN | apply Kd.V_drew)); exact HO_6.out) hb); have n1_ := yD (Kd.V_below (by (with_reducible repeat (first | apply Kd.V_alloc | apply Kd.V_drewN | apply Kd.V_drew)); exact HO_16.out) hb); have n2_ := yD (Kd.V_below (by (with_reducible repeat (first | apply Kd.V_alloc | apply Kd.V_drewN | apply Kd.V_drew)); exact HO_18.out) hb); have n3_ := yD (Kd.V_lower (Kd.V_mono (ok' := fun k_ => True) ho0 (fun k_ hk_ => trivial)) (below_size (kB HB))); have n4_ := yD (zC (kB HB) hb); clear HO_6; clear HO_16; clear HO_18; clear HB; have HO_6 := n0_; have HO_16 := n1_; have HO_18 := n2_; have HO549 := n3_; have HB := n4_; clear n0_ n1_ n2_ n3_ n4_; (try clear hb); (try clear hb2); (try clear hk); (try clear hi); (try clear ho0); obtain ⟨Ao46, co46, eo46⟩ := Kd.V_slice HO549.out; subst eo46) | (go_at_call 31; (with_reducible refine (impl_SameBoxes.calls kj34 _ _ t547 _ _ t517 t551 _ ?side1 ?side2 ?side3 ?side4 A42.out).mono ?_); (case side1 => exact kV (Kd.V_reads' HO549.out).2.2); (case side2 => exact (Kd.V_reads' HO549.out).2.1); (case side3 => exact kV (Kd.V_reads' HO_6.out).2.2); (case side4 => exact (Kd.V_reads' HO_6.out).2.1); rintro e w47 ⟨rfl, hb⟩; have n0_ := yD (Kd.V_below (by (with_reducible repeat (first | apply Kd.V_alloc | apply Kd.V_drewN | apply Kd.V_drew)); exact HO_6.out) hb); have n1_ := yD (Kd.V_below (by (with_reducible repeat (first | apply Kd.V_alloc | apply Kd.V_drewN | apply Kd.V_drew)); exact HO_16.out) hb); have n2_ := yD (Kd.V_below (by (with_reducible repeat (first | apply Kd.V_alloc | apply Kd.V_drewN | apply Kd.V_drew)); exact HO_18.out) hb); have n3_ := yD (Kd.V_below (by (with_reducible repeat (first | apply Kd.V_alloc | apply Kd.V_drewN | apply Kd.V_drew)); exact HO549.out) hb); have n4_ := yD (zC (kB HB) hb); clear HO_6; clear HO_16; clear HO_18; clear HO549; clear HB; have HO_6 := n0_; have HO_16 := n1_; have HO_18 := n2_; have HO549 := n3_; have HB := n4_; clear n0_ n1_ n2_ n3_ n4_; (try clear hb); (try clear hb2); (try clear hk); (try clear hi)))
          go_ret
          exact ⟨by first | rfl | (simp <;> rfl) | (simp [*] <;> rfl), kR0 HB⟩
         · rw [if_neg c41] at H
           have c41b0 : (t550 == 0) = false := beq_eq_false_iff_ne.mpr c41
           have c41b1 : (t550 != 0) = true := bne_iff_ne.mpr c41
           obtain rfl := Option.some.inj H
           obtain ⟨Ao48, co48, eo48⟩ := Kd.V_slice HO_16.out
           subst eo48
           obtain ⟨Ao49, co49, eo49⟩ := Kd.V_slice HO_18.out
           subst eo49
           go_wp2_with (first | ((with_reducible refine gate_callee (f := 21) rfl ?_); refine goesL_ (some 103) rfl rfl Try.func21 (by kernel_rfl) rfl #[.slice Ao48 t539.length co48, .slice Ao49 t543.length co49] rfl (by (try simp only [zK, zL, zM]); first | done | rfl | (simp only [zN, zO]; rfl)) ?_; (with_reducible refine (impl_UnionBoxes.calls kj34 (fun k_ => True) _ _ t539 (fun k_ => True) _ _ t543 t547 t550 _ ?side1 ?side2 A40.out).mono ?_); (case side1 => exact HO_16.out); (case side2 => exact HO_18.out); rintro e w50 ⟨v548, rfl, ho0, hb⟩; refine ⟨_, rfl, ?_⟩; have n0_ := yD (Kd.V_below (by (with_reducible repeat (first | apply Kd.V_alloc | apply Kd.V_drewN | apply Kd.V_drew)); exact HO_6.out) hb); have n1_ := yD (Kd.V_below (by (with_reducible repeat (first | apply Kd.V_alloc | apply Kd.V_drewN | apply Kd.V_drew)); exact HO_16.out) hb); have n2_ := yD (Kd.V_below (by (with_reducible repeat (first | apply Kd.V_alloc | apply Kd.V_drewN | apply Kd.V_drew)); exact HO_18.out) hb); have n3_ := yD (Kd.V_lower (Kd.V_mono (ok' := fun k_ => True) ho0 (fun k_ hk_ => trivial)) (below_size (kB HB))); have n4_ := yD (zC (kB HB) hb); clear HO_6; clear HO_16; clear HO_18; clear HB; have HO_6 := n0_; have HO_16 := n1_; have HO_18 := n2_; have HO549 := n3_; have HB := n4_; clear n0_ n1_ n2_ n3_ n4_; (try clear hb); (try clear hb2); (try clear hk); (try clear hi); (try clear ho0)))
           go_ret
           exact ⟨by first | rfl | (simp <;> rfl) | (simp [*] <;> rfl), kR0 HB⟩
  ·
   rw [if_neg c5] at H
   have c5b0 : (t520 == 0) = false := beq_eq_false_iff_ne.mpr c5
   have c5b1 : (t520 != 0) = true := bne_iff_ne.mpr c5
   obtain ⟨⟨t521, t524⟩, A510, H⟩ := zW_ H
   replace H : (some (t520 == t524)) = some r := H
   have A51 := yD A510
   clear A510; obtain rfl := Option.some.inj H; go_enter Try.func8, Try.ntmps8
   go_wp2_with (first | ((with_reducible refine gate_callee (f := 26) rfl ?_); refine goesL_ (some 27) rfl rfl Try.func26 (by kernel_rfl) rfl #[.slice A0 l0.length c0] rfl (by (try simp only [zK, zL, zM]); first | done | rfl | (simp only [zN, zO]; rfl)) ?_; (with_reducible refine (spec_E8Boxes.calls k _ _ l0 t510 t511 t512 _ ?side1 ?side2 A3.out).mono ?_); (case side1 => repeat (first | exact HR0.out | (with_reducible first | refine yV ?_ _ | refine yW ?_ _ | refine yX ?_))); (case side2 => exact HC0.out); rintro e w52 ⟨v513, v515, rfl, ho0, ho1, hb⟩; refine ⟨_, rfl, ?_⟩; have n0_ := yD (Kd.N_lower (Kd.N_mono (ok' := fun k_ => some k_ ≠ (v515 : Value).ownBlock) (Kd.S_N (Kd.S_bound ho0)) (fun k_ hk_ => hk_.1)) (below_size (kB HB))); have n1_ := yD (Kd.N_lower (Kd.N_mono (ok' := fun k_ => some k_ ≠ (v513 : Value).ownBlock) (Kd.S_N (Kd.S_bound ho1)) (fun k_ hk_ => hk_.1)) (below_size (kB HB))); have n2_ := yD (zC (kB HB) hb); clear HB; have HO514 := n0_; have HO516 := n1_; have HB := n2_; clear n0_ n1_ n2_; (try clear hb); (try clear hb2); (try clear hk); (try clear hi); (try clear ho0); (try clear ho1); obtain ⟨Ao53, co53, eo53⟩ := Kd.N_slice HO514.out; subst eo53) | ((with_reducible refine gate_callee (f := 16) rfl ?_); refine goesL_ (some 33) rfl rfl Try.func16 (by kernel_rfl) rfl #[.slice Ao53 t511.length co53] rfl (by (try simp only [zK, zL, zM]); first | done | rfl | (simp only [zN, zO]; rfl)) ?_; (with_reducible refine (impl_NormalBoxes.calls k (fun k_ => some k_ ≠ (v515 : Value).ownBlock) _ _ t511 t517 t520 _ ?side1 A4.out).mono ?_); (case side1 => exact Kd.N_V (HO514.out)); rintro e w54 ⟨v518, rfl, ho0, hb⟩; refine ⟨_, rfl, ?_⟩; have n0_ := yD (Kd.N_below (by (with_reducible repeat (first | apply Kd.N_alloc | apply Kd.N_drewN | apply Kd.N_drew)); exact HO514.out) hb); have n1_ := yD (Kd.N_below (by (with_reducible repeat (first | apply Kd.N_alloc | apply Kd.N_drewN | apply Kd.N_drew)); exact HO516.out) hb); have n2_ := yD (Kd.V_lower (Kd.V_mono (ok' := fun k_ => some k_ ≠ (v515 : Value).ownBlock) ho0 (fun k_ hk_ => Or.elim hk_ (fun hs_ => hs_) (fun hn_ => (Kd.fresh' (Kd.N_lt (by (with_reducible repeat (first | apply Kd.N_alloc | apply Kd.N_drewN | apply Kd.N_drew)); exact HO516.out)) k_ hn_)))) (below_size (kB HB))); have n3_ := yD (zC (kB HB) hb); clear HO514; clear HO516; clear HB; have HO514 := n0_; have HO516 := n1_; have HO519 := n2_; have HB := n3_; clear n0_ n1_ n2_ n3_; (try clear hb); (try clear hb2); (try clear hk); (try clear hi); (try clear ho0)) | ((with_reducible refine gate_callee (f := 14) rfl ?_); refine goesL_ (some 40) rfl rfl Try.func14 (by kernel_rfl) rfl #[.slice Ao53 t511.length co53] rfl (by (try simp only [zK, zL, zM]); first | done | rfl | (simp only [zN, zO]; rfl)) ?_; (with_reducible refine (spec_NormalBoxes.calls k (fun k_ => some k_ ≠ (v515 : Value).ownBlock) _ _ t511 t521 t524 _ ?side1 A51.out).mono ?_); (case side1 => exact Kd.N_V (HO514.out)); rintro e w55 ⟨v522, rfl, ho0, hb⟩; refine ⟨_, rfl, ?_⟩; have n0_ := yD (Kd.N_elder' (by (with_reducible repeat (first | apply Kd.N_alloc | apply Kd.N_drewN | apply Kd.N_drew)); exact HO514.out) (Kd.N_base ho0) hb); have n1_ := yD (Kd.N_elder' (by (with_reducible repeat (first | apply Kd.N_alloc | apply Kd.N_drewN | apply Kd.N_drew)); exact HO516.out) (Kd.N_base ho0) hb); have n2_ := yD (Kd.V_elder' (by (with_reducible repeat (first | apply Kd.V_alloc | apply Kd.V_drewN | apply Kd.V_drew)); exact HO519.out) (Kd.N_base ho0) hb); have n3_ := yD (Kd.N_lower (Kd.N_mono (ok' := fun k_ => some k_ ≠ (v515 : Value).ownBlock) ho0 (fun k_ hk_ => Or.elim hk_ (fun hs_ => hs_) (fun hn_ => (Kd.fresh' (Kd.N_lt (by (with_reducible repeat (first | apply Kd.N_alloc | apply Kd.N_drewN | apply Kd.N_drew)); exact HO516.out)) k_ hn_)))) (below_size (kB HB))); have n4_ := yD (zC (kB HB) hb); clear HO514; clear HO516; clear HO519; clear HB; have HO514 := n0_; have HO516 := n1_; have HO519 := n2_; have HO523 := n3_; have HB := n4_; clear n0_ n1_ n2_ n3_ n4_; (try clear hb); (try clear hb2); (try clear hk); (try clear hi); (try clear ho0)))
   go_ret
   exact ⟨by first | rfl | (simp <;> rfl) | (simp [*] <;> rfl), kR0 HB⟩

-- what data that come in are: numbers of their kinds, lengths that a length can be
/-- THE ONE PURE STATEMENT of laws_FnNormalForm: ours. -/
def laws_FnNormalForm.Pure : Prop := ∀ (l0 : List Int), (l0.length ≤ maxLen ∧ ∀ x_ ∈ l0, (Lit.int .u8 x_).wf = true) → ∃ k, laws_FnNormalForm.f k l0 = some true
theorem laws_FnNormalForm.walk (P : laws_FnNormalForm.Pure) (A0 : Option Addr) (c0 : Nat) (l0 : List Int) (w : World) (hr0 : Kd.C (Kd.int .u8) w A0 l0.length l0) (hc0 : l0.length ≤ c0) (o0 : (l0.length ≤ maxLen ∧ ∀ x_ ∈ l0, (Lit.int .u8 x_).wf = true)) :
 Calls Try.prog 8 #[.slice A0 l0.length c0] w fun e w' => e = .returned (.bool true) ∧ Below w.heap.size w w' := by
 obtain ⟨k, h⟩ := P l0 o0
 refine (laws_FnNormalForm.calls k _ _ l0 true w hr0 hc0 h).mono ?_
 rintro e w' ⟨rfl, hd⟩
 exact ⟨rfl, hd⟩

end Go.Proofs.Ytdiaebjbiddefaa.PFnNormalForm
