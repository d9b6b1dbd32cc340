/- Each Go function here comes to what the plain function of its name says, where that says something. Made by a program of this session, over the print. -/
import Derived.Test.YtobdoafjlbifpaaPFnExactValidSelectionx0
import Derived.Test.YtobdoafjlbifpaaPFnExactValidSelectionx5
namespace Go.Proofs.Ytobdoafjlbifpaa.PFnExactValidSelection
open Go.RowKit Go.Proofs.YtobdoafjlbifpaaW.PrintWords Go.Proofs.YtobdoafjlbifpaaW.PrintLast Go.Proofs.YtobdoafjlbifpaaW.PrintMore
attribute [local go_sem] max2_int min2_int max_two min_two max_three min_three max_four min_four   -- for this text's walks alone
set_option linter.unusedVariables false
set_option linter.unusedSimpArgs false

/-! ### slices_ContainsFunc_impl_allWithin_1: function 49 -/
def slices_ContainsFunc_impl_allWithin_1.f (k : Nat) (l0 : List Int) (a1_0 : Int) (a1_1 : Int) : Option (Bool) := (slices_IndexFunc_impl_allWithin_1.f k l0 a1_0 a1_1).bind fun t196 => (some (decide (t196 ≥ 0)))
theorem slices_ContainsFunc_impl_allWithin_1.mono : ∀ a0 a1 a2 k, LeO (slices_ContainsFunc_impl_allWithin_1.f k a0 a1 a2) (slices_ContainsFunc_impl_allWithin_1.f (k + 1) a0 a1 a2) := by
 intro a0 a1 a2 k
 unfold slices_ContainsFunc_impl_allWithin_1.f
 repeat' first
   | (with_reducible exact slices_IndexFunc_impl_allWithin_1.mono _ _ _ _)
   | (with_reducible exact LeO.refl _)
   | (with_reducible exact LeO.none _)
   | (with_reducible refine LeO.ite ?_ ?_)
   | (with_reducible refine LeO.bind ?_ (fun _ => ?_))
   | exact slices_IndexFunc_impl_allWithin_1.mono _ _ _ _
   | exact LeO.none _
   | refine LeO.ite ?_ ?_
   | refine LeO.bind ?_ (fun _ => ?_)
set_option maxHeartbeats 8000000 in
set_option maxRecDepth 100000 in
theorem slices_ContainsFunc_impl_allWithin_1.calls (k : Nat) (A0 : Option Addr) (c0 : Nat) (l0 : List Int) (g1_0 : Nat) (g1_1 : Nat) (a1_0 : Int) (a1_1 : Int) (r : Bool) (w : World) (hr0 : Kd.C (Kd.int .i64) w A0 l0.length l0) (hc0 : l0.length ≤ c0) (hb1_0 : w.heap[g1_0]? = some (.cells #[.int .i64 a1_0] 2 (0, 0))) (hb1_1 : w.heap[g1_1]? = some (.cells #[.int .i64 a1_1] 2 (0, 0))) (h : slices_ContainsFunc_impl_allWithin_1.f k l0 a1_0 a1_1 = some r) :
  Calls Try.prog 49 #[.slice A0 l0.length c0, .func (.func 50) #[] #[.pointer (some ⟨g1_0, 0, none⟩), .pointer (some ⟨g1_1, 0, none⟩)]] w fun e w' => e = .returned (.bool r) ∧ Below w.heap.size w w' := by
 have HR0 := yD hr0
 have HC0 := yD hc0
 clear hr0 hc0
 have BK48 := yD hb1_0
 clear hb1_0
 have BK49 := yD hb1_1
 clear hb1_1
 have HB := yD (Below.refl w.heap.size w)
 have H : ((slices_IndexFunc_impl_allWithin_1.f k l0 a1_0 a1_1).bind fun t196 => (some (decide (t196 ≥ 0)))) = some r := h
 clear h
 obtain ⟨t196, A30, H⟩ := zW_ H
 replace H : (some (decide (t196 ≥ 0))) = some r := H
 have A3 := yD A30
 clear A30; obtain rfl := Option.some.inj H; go_enter Try.func49, Try.ntmps49
 go_wp2_with (first | ((with_reducible refine gate_callee (f := 51) rfl ?_); refine goesL_ (some 7) rfl rfl Try.func51 (by kernel_rfl) rfl #[.slice A0 l0.length c0, .func (.func 50) #[] #[.pointer (some ⟨g1_0, 0, none⟩), .pointer (some ⟨g1_1, 0, none⟩)]] rfl (by (try simp only [zK, zL, zM]); first | done | rfl | (simp only [zN, zO]; rfl)) ?_; (with_reducible refine (slices_IndexFunc_impl_allWithin_1.calls k _ _ l0 g1_0 g1_1 a1_0 a1_1 t196 _ ?side1 ?side2 ?side3 ?side4 A3.out).mono ?_); (case side1 => repeat (first | exact HR0.out | (with_reducible first | refine yV ?_ _ | refine yW ?_ _ | refine yX ?_))); (case side2 => exact HC0.out); (case side3 => (with_reducible repeat (first | refine yM ?_ _ | refine yO ?_ | refine yN ?_ _)); exact BK48.out); (case side4 => (with_reducible repeat (first | refine yM ?_ _ | refine yO ?_ | refine yN ?_ _)); exact BK49.out); rintro e w4 ⟨rfl, hb⟩; refine ⟨_, rfl, ?_⟩; have n0_ := yD (zB (g := g1_0) (o := .cells #[.int .i64 a1_0] 2 (0, 0)) (by (with_reducible repeat (first | refine yM ?_ _ | refine yO ?_ | refine yN ?_ _)); exact BK48.out) hb); have n1_ := yD (zB (g := g1_1) (o := .cells #[.int .i64 a1_1] 2 (0, 0)) (by (with_reducible repeat (first | refine yM ?_ _ | refine yO ?_ | refine yN ?_ _)); exact BK49.out) hb); have n2_ := yD (zC (by repeat (first | (with_reducible first | exact HB.out | apply yQ | apply yL | apply yP | refine yE ?_ GE48.out | refine yE ?_ GE49.out) | exact HB.out)) hb); clear BK48; clear BK49; clear HB; have BK48 := n0_; have BK49 := n1_; have HB := n2_; clear n0_ n1_ n2_; (try clear hb); (try clear hb2); (try clear hk); (try clear hi)))
 go_ret
 exact ⟨by first | rfl | (simp <;> rfl) | (simp [*] <;> rfl), by repeat (first | (with_reducible first | exact HB.out | apply yQ | apply yL | apply yP | refine yE ?_ GE48.out | refine yE ?_ GE49.out) | exact HB.out)⟩

/-! ### impl_allWithin: function 39 -/
def impl_allWithin.f (k : Nat) (l0 : List Int) (a1 : Int) (a2 : Int) : Option (Bool) := (slices_ContainsFunc_impl_allWithin_1.f k l0 a1 a2).bind fun t199 => (some (!t199))
theorem impl_allWithin.mono : ∀ a0 a1 a2 k, LeO (impl_allWithin.f k a0 a1 a2) (impl_allWithin.f (k + 1) a0 a1 a2) := by
 intro a0 a1 a2 k
 unfold impl_allWithin.f
 repeat' first
   | (with_reducible exact slices_ContainsFunc_impl_allWithin_1.mono _ _ _ _)
   | (with_reducible exact LeO.refl _)
   | (with_reducible exact LeO.none _)
   | (with_reducible refine LeO.ite ?_ ?_)
   | (with_reducible refine LeO.bind ?_ (fun _ => ?_))
   | exact slices_ContainsFunc_impl_allWithin_1.mono _ _ _ _
   | exact LeO.none _
   | refine LeO.ite ?_ ?_
   | refine LeO.bind ?_ (fun _ => ?_)
set_option maxHeartbeats 8000000 in
set_option maxRecDepth 100000 in
theorem impl_allWithin.calls (k : Nat) (A0 : Option Addr) (c0 : Nat) (l0 : List Int) (a1 : Int) (a2 : Int) (r : Bool) (w : World) (hr0 : Kd.C (Kd.int .i64) w A0 l0.length l0) (hc0 : l0.length ≤ c0) (h : impl_allWithin.f k l0 a1 a2 = some r) :
  Calls Try.prog 39 #[.slice A0 l0.length c0, .int .i64 a1, .int .i64 a2] w fun e w' => e = .returned (.bool r) ∧ Below w.heap.size w w' := by
 have HR0 := yD hr0
 have HC0 := yD hc0
 clear hr0 hc0
 have HB := yD (Below.refl w.heap.size w)
 have H : ((slices_ContainsFunc_impl_allWithin_1.f k l0 a1 a2).bind fun t199 => (some (!t199))) = some r := h
 clear h
 obtain ⟨t199, A40, H⟩ := zW_ H
 replace H : (some (!t199)) = some r := H
 have A4 := yD A40
 clear A40; obtain rfl := Option.some.inj H; go_enter Try.func39, Try.ntmps39
 go_wp2_with (first | ((with_reducible refine gate_dst (N := 4) rfl ?_); refine box_event ?hg (N := 4) ?hd (cs := #[.int .i64 a1]) (t := 2) ?hr ?_; (case hd => rfl); (case hg => rfl); (case hr => first | (go_simp; done) | (go_simp; rfl)); intro gb197 hg w5 hbox hb; have n0_ := yD (zC (by repeat (first | (with_reducible first | exact HB.out | apply yQ | apply yL | apply yP) | exact HB.out)) hb); have n1_ := yD (hbox); have n2_ := yD ((by rw [hg]; exact (below_size (by repeat (first | (with_reducible first | exact HB.out | apply yQ | apply yL | apply yP) | exact HB.out))) : w.heap.size ≤ gb197)); have n3_ := yD ((by rw [hg]; exact (below_size (by repeat (first | (with_reducible first | exact HB.out | apply yQ | apply yL | apply yP) | exact HB.out))) : w.heap.size ≤ gb197)); clear HB; have HB := n0_; have BK197 := n1_; have GW197 := n2_; have GE197 := n3_; clear n0_ n1_ n2_ n3_; clear hb hbox hg) | ((with_reducible refine gate_dst (N := 5) rfl ?_); refine box_event ?hg (N := 5) ?hd (cs := #[.int .i64 a2]) (t := 2) ?hr ?_; (case hd => rfl); (case hg => rfl); (case hr => first | (go_simp; done) | (go_simp; rfl)); intro gb198 hg w6 hbox hb; have n0_ := yD (zB (g := gb197) (o := .cells #[.int .i64 a1] 2 (0, 0)) (by (with_reducible repeat (first | refine yM ?_ _ | refine yO ?_ | refine yN ?_ _)); exact BK197.out) hb); have n1_ := yD (zC (by repeat (first | (with_reducible first | exact HB.out | apply yQ | apply yL | apply yP | refine yE ?_ GE197.out) | exact HB.out)) hb); have n2_ := yD (hbox); have n3_ := yD ((by rw [hg]; exact (below_size (by repeat (first | (with_reducible first | exact HB.out | apply yQ | apply yL | apply yP | refine yE ?_ GE197.out) | exact HB.out))) : w.heap.size ≤ gb198)); have n4_ := yD ((by rw [hg]; exact (below_size (by repeat (first | (with_reducible first | exact HB.out | apply yQ | apply yL | apply yP | refine yE ?_ GE197.out) | exact HB.out))) : w.heap.size ≤ gb198)); have n5_ := yD ((by rw [hg]; exact Nat.ne_of_lt (blk_lt (g := gb197) (o := .cells #[.int .i64 a1] 2 (0, 0)) (by (with_reducible repeat (first | refine yM ?_ _ | refine yO ?_ | refine yN ?_ _)); exact BK197.out)) : gb197 ≠ gb198)); have n6_ := yD ((by rw [hg]; exact Nat.ne_of_gt (blk_lt (g := gb197) (o := .cells #[.int .i64 a1] 2 (0, 0)) (by (with_reducible repeat (first | refine yM ?_ _ | refine yO ?_ | refine yN ?_ _)); exact BK197.out)) : gb198 ≠ gb197)); clear BK197; clear HB; have BK197 := n0_; have HB := n1_; have BK198 := n2_; have GW198 := n3_; have GE198 := n4_; have NB197_198 := n5_; have NB198_197 := n6_; clear n0_ n1_ n2_ n3_ n4_ n5_ n6_; clear hb hbox hg) | ((with_reducible refine gate_callee (f := 49) rfl ?_); refine goesL_ (some 9) rfl rfl Try.func49 (by kernel_rfl) rfl #[.slice A0 l0.length c0, .func (.func 50) #[] #[.pointer (some ⟨gb197, 0, none⟩), .pointer (some ⟨gb198, 0, none⟩)]] rfl (by (try simp only [zK, zL, zM]); first | done | rfl | (simp only [zN, zO]; rfl)) ?_; (with_reducible refine (slices_ContainsFunc_impl_allWithin_1.calls k _ _ l0 gb197 gb198 a1 a2 t199 _ ?side1 ?side2 ?side3 ?side4 A4.out).mono ?_); (case side1 => repeat (first | exact (yY HR0.out HB.out) | (with_reducible first | refine yV ?_ _ | refine yW ?_ _ | refine yX ?_))); (case side2 => exact HC0.out); (case side3 => (with_reducible repeat (first | refine yM ?_ _ | refine yO ?_ | refine yN ?_ _)); exact BK197.out); (case side4 => (with_reducible repeat (first | refine yM ?_ _ | refine yO ?_ | refine yN ?_ _)); exact BK198.out); rintro e w7 ⟨rfl, hb⟩; refine ⟨_, rfl, ?_⟩; have n0_ := yD (zB (g := gb197) (o := .cells #[.int .i64 a1] 2 (0, 0)) (by (with_reducible repeat (first | refine yM ?_ _ | refine yO ?_ | refine yN ?_ _)); exact BK197.out) hb); have n1_ := yD (zB (g := gb198) (o := .cells #[.int .i64 a2] 2 (0, 0)) (by (with_reducible repeat (first | refine yM ?_ _ | refine yO ?_ | refine yN ?_ _)); exact BK198.out) hb); have n2_ := yD (zC (by repeat (first | (with_reducible first | exact HB.out | apply yQ | apply yL | apply yP | refine yE ?_ GE197.out | refine yE ?_ GE198.out) | exact HB.out)) hb); clear BK197; clear BK198; clear HB; have BK197 := n0_; have BK198 := n1_; have HB := n2_; clear n0_ n1_ n2_; (try clear hb); (try clear hb2); (try clear hk); (try clear hi)))
 go_ret
 exact ⟨by first | rfl | (simp <;> rfl) | (simp [*] <;> rfl), by repeat (first | (with_reducible first | exact HB.out | apply yQ | apply yL | apply yP | refine yE ?_ GE197.out | refine yE ?_ GE198.out) | exact HB.out)⟩

/-! ### impl_product: function 44 -/
def impl_product.l0 : Nat → Int → List Int → Int → Int → Option (Int)
 | 0, _, _, _, _ => none
 | k + 1, x3, x6, x7, x8 => if x8 < x7 then (if 0 ≤ x8 then (if x8 < (x6.length : Int) then (impl_product.l0 k (wrap64 (x3 * (rd x6 x8))) x6 x7 (wrap64 (x8 + 1))) else (none)) else (none)) else (some x3)
def impl_product.f (k : Nat) (l0 : List Int) : Option (Int) := impl_product.l0 k 1 l0 (l0.length : Int) 0
theorem impl_product.mono_l : ∀ k, (∀ y0 y1 y2 y3, LeO (impl_product.l0 k y0 y1 y2 y3) (impl_product.l0 (k + 1) y0 y1 y2 y3))
 | 0 => fun _ _ _ _ r h => by simp [impl_product.l0] at h
 | k + 1 => by
  have ih0 := impl_product.mono_l k
  ·
   intro y0 y1 y2 y3
   unfold impl_product.l0
   repeat' first
   | (with_reducible exact ih0 _ _ _ _)
   | (with_reducible exact LeO.refl _)
   | (with_reducible exact LeO.none _)
   | (with_reducible refine LeO.ite ?_ ?_)
   | (with_reducible refine LeO.bind ?_ (fun _ => ?_))
   | exact ih0 _ _ _ _
   | exact LeO.none _
   | refine LeO.ite ?_ ?_
   | refine LeO.bind ?_ (fun _ => ?_)
theorem impl_product.mono : ∀ a0 k, LeO (impl_product.f k a0) (impl_product.f (k + 1) a0) := by
 intro a0 k
 have ih0 := impl_product.mono_l k
 unfold impl_product.f
 repeat' first
   | (with_reducible exact ih0 _ _ _ _)
   | (with_reducible exact LeO.refl _)
   | (with_reducible exact LeO.none _)
   | (with_reducible refine LeO.ite ?_ ?_)
   | (with_reducible refine LeO.bind ?_ (fun _ => ?_))
   | exact ih0 _ _ _ _
   | exact LeO.none _
   | refine LeO.ite ?_ ?_
   | refine LeO.bind ?_ (fun _ => ?_)
set_option maxHeartbeats 8000000 in
set_option maxRecDepth 100000 in
theorem impl_product.calls (k : Nat) (A0 : Option Addr) (c0 : Nat) (l0 : List Int) (r : Int) (w : World) (hr0 : Kd.C (Kd.int .i64) w A0 l0.length l0) (hc0 : l0.length ≤ c0) (h : impl_product.f k l0 = some r) :
  Calls Try.prog 44 #[.slice A0 l0.length c0] w fun e w' => e = .returned (.int .i64 r) ∧ Drawn0 w w' := by
 have HR0 := yD hr0
 have HC0 := yD hc0
 clear hr0 hc0
 have H : (impl_product.l0 k 1 l0 (l0.length : Int) 0) = some r := h
 clear h
 have H' := yD H
 clear H; go_enter Try.func44, Try.ntmps44
 go_wp2
 go_loopg [3, 8] k (fun kq v3 v8 w' => ∃ (x3_1 : Int) (x8_1 : Int), v3 = .int .i64 x3_1 ∧ v8 = .int .i64 x8_1 ∧ Aside0 (impl_product.l0 kq x3_1 l0 (l0.length : Int) x8_1 = some r) ∧ Aside0 (kq ≤ k) ∧ Drawn0 w w')
 case atStart => exact ⟨(1), (0), (by first | rfl | (simp; done) | (simp [*]; done)), (by first | rfl | (simp; done) | (simp [*]; done)), H', ⟨Nat.le_refl _⟩, by repeat (first | exact Drawn0.refl _ | apply Drawn0.step)⟩
 case round =>
  clear H'
  obtain ⟨x3_1, x8_1, rfl, rfl, HA, HK1, ⟨m1, rfl⟩⟩ := hrel
  cases gk with
  | zero => exact absurd HA.out (by simp [impl_product.l0])
  | succ k1 =>
   have H := HA.out; clear HA
   simp only [impl_product.l0] at H
   by_cases c2 : x8_1 < (l0.length : Int)
   ·
    rw [if_pos c2] at H; have c2b0 : decide (x8_1 < (l0.length : Int)) = true := zR c2; clear c2
    by_cases c3 : 0 ≤ x8_1
    ·
     rw [if_pos c3] at H; have c3b0 : decide (0 ≤ x8_1) = true := zR c3; clear c3
     by_cases c4 : x8_1 < (l0.length : Int)
     ·
      rw [if_pos c4] at H; have c4b0 : decide (x8_1 < (l0.length : Int)) = true := zR c4; clear c4
      have H' := yD H
      clear H
      have p200 : 0 ≤ (x8_1 : Int) := zP (by assumption)
      have q200 : x8_1 < (l0.length : Int) := zP (by assumption)
      obtain ⟨ad200, e200, hx200_0⟩ := Kd.at_int HR0.out x8_1 p200 q200
      cases e200; replace p200 := eq_true p200; replace q200 := eq_true q200
      go_wp2
      go_roundg k1
      case measure => have := HK1.out; omega
      case rel => exact ⟨(wrap64 (x3_1 * (rd l0 x8_1))), (wrap64 (x8_1 + 1)), (by first | rfl | (simp; done) | (simp [*]; done)), (by first | rfl | (simp; done) | (simp [*]; done)), H', ⟨by have := HK1.out; omega⟩, by repeat (first | exact Drawn0.refl _ | apply Drawn0.step)⟩
     ·
      rw [if_neg c4] at H
      exact absurd H (by simp)
    ·
     rw [if_neg c3] at H
     exact absurd H (by simp)
   ·
    rw [if_neg c2] at H; have c2b0 : decide (x8_1 < (l0.length : Int)) = false := zS c2; clear c2; obtain rfl := Option.some.inj H
    go_wp2
    go_ret
    exact ⟨by first | rfl | (simp; done) | (simp [*]; done), by repeat (first | exact Drawn0.refl _ | apply Drawn0.step)⟩

/-! ### impl_ValidDims: function 23 -/
def impl_ValidDims.f (k : Nat) (l0 : List Int) : Option (Bool) := if (l0.length : Int) ≤ 3 then ((impl_allWithin.f k l0 0 40).bind fun t201 => (if t201 = true then ((impl_product.f k l0).bind fun t202 => (some (decide (t202 ≤ 600)))) else (some false))) else (some false)
theorem impl_ValidDims.mono : ∀ a0 k, LeO (impl_ValidDims.f k a0) (impl_ValidDims.f (k + 1) a0) := by
 intro a0 k
 unfold impl_ValidDims.f
 repeat' first
   | (with_reducible exact impl_allWithin.mono _ _ _ _)
   | (with_reducible exact impl_product.mono _ _)
   | (with_reducible exact LeO.refl _)
   | (with_reducible exact LeO.none _)
   | (with_reducible refine LeO.ite ?_ ?_)
   | (with_reducible refine LeO.bind ?_ (fun _ => ?_))
   | exact impl_allWithin.mono _ _ _ _
   | exact impl_product.mono _ _
   | exact LeO.none _
   | refine LeO.ite ?_ ?_
   | refine LeO.bind ?_ (fun _ => ?_)
set_option maxHeartbeats 8000000 in
set_option maxRecDepth 100000 in
theorem impl_ValidDims.calls (k : Nat) (A0 : Option Addr) (c0 : Nat) (l0 : List Int) (r : Bool) (w : World) (hr0 : Kd.C (Kd.int .i64) w A0 l0.length l0) (hc0 : l0.length ≤ c0) (h : impl_ValidDims.f k l0 = some r) :
  Calls Try.prog 23 #[.slice A0 l0.length c0] w fun e w' => e = .returned (.bool r) ∧ Below w.heap.size w w' := by
 have HR0 := yD hr0
 have HC0 := yD hc0
 clear hr0 hc0
 have HB := yD (Below.refl w.heap.size w)
 have H : (if (l0.length : Int) ≤ 3 then ((impl_allWithin.f k l0 0 40).bind fun t201 => (if t201 = true then ((impl_product.f k l0).bind fun t202 => (some (decide (t202 ≤ 600)))) else (some false))) else (some false)) = some r := h
 clear h
 by_cases c2 : (l0.length : Int) ≤ 3
 ·
  rw [if_pos c2] at H; have c2b0 : decide ((l0.length : Int) ≤ 3) = true := zR c2
  have c2b1 : decide (l0.length ≤ 3) = true := zR (by omega)
  clear c2
  obtain ⟨t201, A30, H⟩ := zW_ H
  replace H : (if t201 = true then ((impl_product.f k l0).bind fun t202 => (some (decide (t202 ≤ 600)))) else (some false)) = some r := H
  have A3 := yD A30
  clear A30
  by_cases c4 : t201 = true
  ·
   subst c4
   have H1 : ((impl_product.f k l0).bind fun t202 => (some (decide (t202 ≤ 600)))) = some r := by rw [if_pos rfl] at H; exact H
   clear H; have H := H1; clear H1
   obtain ⟨t202, A50, H⟩ := zW_ H
   replace H : (some (decide (t202 ≤ 600))) = some r := H
   have A5 := yD A50
   clear A50; obtain rfl := Option.some.inj H; go_enter Try.func23, Try.ntmps23
   go_wp2_with (first | (go_at_call 39; (with_reducible refine (impl_allWithin.calls k _ _ l0 0 40 true _ ?side1 ?side2 A3.out).mono ?_); (case side1 => repeat (first | exact HR0.out | (with_reducible first | refine yV ?_ _ | refine yW ?_ _ | refine yX ?_))); (case side2 => exact HC0.out); rintro e w6 ⟨rfl, hb⟩; have n0_ := yD (zC (by repeat (first | (with_reducible first | exact HB.out | apply yQ | apply yL | apply yP) | exact HB.out)) hb); clear HB; have HB := n0_; clear n0_; (try clear hb); (try clear hb2); (try clear hk); (try clear hi)) | (go_at_call 44; (with_reducible refine (impl_product.calls k _ _ l0 t202 _ ?side1 ?side2 A5.out).mono ?_); (case side1 => repeat (first | exact (yY HR0.out HB.out) | (with_reducible first | refine yV ?_ _ | refine yW ?_ _ | refine yX ?_))); (case side2 => exact HC0.out); rintro e w' ⟨rfl, ⟨nd, rfl⟩⟩))
   go_ret
   exact ⟨by first | rfl | (simp <;> rfl) | (simp [*] <;> rfl), by repeat (first | (with_reducible first | exact HB.out | apply yQ | apply yL | apply yP) | exact HB.out)⟩
  ·
   replace c4 := Bool.eq_false_iff.mpr c4
   subst c4
   have H1 : (some false) = some r := by rw [if_neg (show ¬ (false = true) by decide)] at H; exact H
   clear H; have H := H1; clear H1; obtain rfl := Option.some.inj H; go_enter Try.func23, Try.ntmps23
   go_wp2_with (first | (go_at_call 39; (with_reducible refine (impl_allWithin.calls k _ _ l0 0 40 false _ ?side1 ?side2 A3.out).mono ?_); (case side1 => repeat (first | exact HR0.out | (with_reducible first | refine yV ?_ _ | refine yW ?_ _ | refine yX ?_))); (case side2 => exact HC0.out); rintro e w7 ⟨rfl, hb⟩; have n0_ := yD (zC (by repeat (first | (with_reducible first | exact HB.out | apply yQ | apply yL | apply yP) | exact HB.out)) hb); clear HB; have HB := n0_; clear n0_; (try clear hb); (try clear hb2); (try clear hk); (try clear hi)))
   go_ret
   exact ⟨by first | rfl | (simp <;> rfl) | (simp [*] <;> rfl), by repeat (first | (with_reducible first | exact HB.out | apply yQ | apply yL | apply yP) | exact HB.out)⟩
 ·
  rw [if_neg c2] at H; have c2b0 : decide ((l0.length : Int) ≤ 3) = false := zS c2
  have c2b1 : decide (l0.length ≤ 3) = false := zS (by omega)
  clear c2; obtain rfl := Option.some.inj H; go_enter Try.func23, Try.ntmps23
  go_wp2
  go_ret
  exact ⟨by first | rfl | (simp <;> rfl) | (simp [*] <;> rfl), by repeat (first | (with_reducible first | exact HB.out | apply yQ | apply yL | apply yP) | exact HB.out)⟩

/-! ### impl_Selection_lists: function 31 -/
def impl_Selection_lists.f (a0_0 : Int) (l0_1 : List Int) (l0_2 : List Int) (l0_3 : List Int) (l0_4 : List Int) (l0_5 : List (S48)) : Option ((List (List Int))) := some (([l0_1, l0_2, l0_3, l0_4] : List (List Int)))
set_option maxHeartbeats 8000000 in
set_option maxRecDepth 100000 in
theorem impl_Selection_lists.calls (a0_0 : Int) (P0_1_ : Nat → Prop) (A0_1 : Option Addr) (c0_1 : Nat) (l0_1 : List Int) (P0_2_ : Nat → Prop) (A0_2 : Option Addr) (c0_2 : Nat) (l0_2 : List Int) (P0_3_ : Nat → Prop) (A0_3 : Option Addr) (c0_3 : Nat) (l0_3 : List Int) (P0_4_ : Nat → Prop) (A0_4 : Option Addr) (c0_4 : Nat) (l0_4 : List Int) (A0_5 : Option Addr) (c0_5 : Nat) (l0_5 : List (S48)) (r : List (List Int)) (w : World) (hs0_1 : Kd.V (Kd.int .i64) 2 w w.heap.size (fun k_ => P0_1_ k_) (.slice A0_1 l0_1.length c0_1) l0_1) (hs0_2 : Kd.V (Kd.int .i64) 2 w w.heap.size (fun k_ => P0_2_ k_) (.slice A0_2 l0_2.length c0_2) l0_2) (hs0_3 : Kd.V (Kd.int .i64) 2 w w.heap.size (fun k_ => P0_3_ k_) (.slice A0_3 l0_3.length c0_3) l0_3) (hs0_4 : Kd.V (Kd.int .i64) 2 w w.heap.size (fun k_ => P0_4_ k_) (.slice A0_4 l0_4.length c0_4) l0_4) (hr0_5 : Kd.C k48 w A0_5 l0_5.length l0_5) (hc0_5 : l0_5.length ≤ c0_5) (h : impl_Selection_lists.f a0_0 l0_1 l0_2 l0_3 l0_4 l0_5 = some r) :
  Calls Try.prog 31 #[.agg #[.int .i64 a0_0, .slice A0_1 l0_1.length c0_1, .slice A0_2 l0_2.length c0_2, .slice A0_3 l0_3.length c0_3, .slice A0_4 l0_4.length c0_4, .slice A0_5 l0_5.length c0_5]] w fun e w' => ∃ v0_ : Value, e = .returned (v0_) ∧ Kd.N (Kd.slice 2 (Kd.int .i64)) 22 w' w.heap.size (fun k_ => ((P0_1_ k_ ∨ P0_2_ k_ ∨ P0_3_ k_ ∨ P0_4_ k_) ∨ w.heap.size ≤ k_)) v0_ r ∧ Below w.heap.size w w' := by
 have hu30 := Try.underlying30
 have HO0_1 := yD (show Kd.V (Kd.int .i64) 2 w w.heap.size (fun k_ => ((P0_1_ k_ ∨ P0_2_ k_ ∨ P0_3_ k_ ∨ P0_4_ k_) ∨ w.heap.size ≤ k_)) (.slice A0_1 l0_1.length c0_1) l0_1 from Kd.V_mono hs0_1 (fun k_ hk => .inl (.inl hk)))
 have HO0_2 := yD (show Kd.V (Kd.int .i64) 2 w w.heap.size (fun k_ => ((P0_1_ k_ ∨ P0_2_ k_ ∨ P0_3_ k_ ∨ P0_4_ k_) ∨ w.heap.size ≤ k_)) (.slice A0_2 l0_2.length c0_2) l0_2 from Kd.V_mono hs0_2 (fun k_ hk => .inl (.inr (.inl hk))))
 have HO0_3 := yD (show Kd.V (Kd.int .i64) 2 w w.heap.size (fun k_ => ((P0_1_ k_ ∨ P0_2_ k_ ∨ P0_3_ k_ ∨ P0_4_ k_) ∨ w.heap.size ≤ k_)) (.slice A0_3 l0_3.length c0_3) l0_3 from Kd.V_mono hs0_3 (fun k_ hk => .inl (.inr (.inr (.inl hk)))))
 have HO0_4 := yD (show Kd.V (Kd.int .i64) 2 w w.heap.size (fun k_ => ((P0_1_ k_ ∨ P0_2_ k_ ∨ P0_3_ k_ ∨ P0_4_ k_) ∨ w.heap.size ≤ k_)) (.slice A0_4 l0_4.length c0_4) l0_4 from Kd.V_mono hs0_4 (fun k_ hk => .inl (.inr (.inr (.inr hk)))))
 have HR0_5 := yD hr0_5
 have HC0_5 := yD hc0_5
 clear hr0_5 hc0_5
 have HB := yD (Below.refl w.heap.size w)
 have H : (some (([l0_1, l0_2, l0_3, l0_4] : List (List Int)))) = some r := h
 clear h
 obtain ⟨y204, hy204⟩ : ∃ y_ : List (List Int), y_ = (([l0_1, l0_2, l0_3, l0_4] : List (List Int))) := ⟨_, rfl⟩
 replace H : (some y204) = some r := by first | (rw [hy204]; with_reducible exact H) | (have H2_ := (Option.bind_some _ _).symm.trans H; rw [hy204]; with_reducible exact H2_) | (have H2_ := (Option.bind_some _ _).symm.trans H; with_reducible exact H2_) | with_reducible exact H | (rw [hy204]; exact H) | exact H
 have Ny204 := yD hy204
 clear hy204; obtain rfl := Option.some.inj H; go_enter Try.func31, Try.ntmps31
 go_wp2_with (first | ((with_reducible refine gate_dst (N := 1) rfl ?_); refine box_event ?hg (N := 1) ?hd (cs := #[.int .i64 a0_0, .slice A0_1 l0_1.length c0_1, .slice A0_2 l0_2.length c0_2, .slice A0_3 l0_3.length c0_3, .slice A0_4 l0_4.length c0_4, .slice A0_5 l0_5.length c0_5]) (t := 30) ?hr ?_; (case hd => rfl); (case hg => rfl); (case hr => first | (go_simp; done) | (go_simp; rfl)); intro gb203 hg w2 hbox hb; have n0_ := yD (Kd.V_below (Kd.V_elderB (by (with_reducible repeat (first | apply Kd.V_alloc | apply Kd.V_drewN | apply Kd.V_drew)); exact HO0_1.out) gb203 (Nat.le_of_eq hg.symm)) hb); have n1_ := yD (Kd.V_below (Kd.V_elderB (by (with_reducible repeat (first | apply Kd.V_alloc | apply Kd.V_drewN | apply Kd.V_drew)); exact HO0_2.out) gb203 (Nat.le_of_eq hg.symm)) hb); have n2_ := yD (Kd.V_below (Kd.V_elderB (by (with_reducible repeat (first | apply Kd.V_alloc | apply Kd.V_drewN | apply Kd.V_drew)); exact HO0_3.out) gb203 (Nat.le_of_eq hg.symm)) hb); have n3_ := yD (Kd.V_below (Kd.V_elderB (by (with_reducible repeat (first | apply Kd.V_alloc | apply Kd.V_drewN | apply Kd.V_drew)); exact HO0_4.out) gb203 (Nat.le_of_eq hg.symm)) hb); have n4_ := yD (zC (by repeat (first | (with_reducible first | exact HB.out | apply yQ | apply yL | apply yP) | exact HB.out)) hb); have n5_ := yD (hbox); have n6_ := yD ((by rw [hg]; exact (below_size (by repeat (first | (with_reducible first | exact HB.out | apply yQ | apply yL | apply yP) | exact HB.out))) : w.heap.size ≤ gb203)); have n7_ := yD ((by rw [hg]; exact (below_size (by repeat (first | (with_reducible first | exact HB.out | apply yQ | apply yL | apply yP) | exact HB.out))) : w.heap.size ≤ gb203)); clear HO0_1; clear HO0_2; clear HO0_3; clear HO0_4; clear HB; have HO0_1 := n0_; have HO0_2 := n1_; have HO0_3 := n2_; have HO0_4 := n3_; have HB := n4_; have BK203 := n5_; have GW203 := n6_; have GE203 := n7_; clear n0_ n1_ n2_ n3_ n4_ n5_ n6_ n7_; clear hb hbox hg; have hcz3_0 : w2.cell? ⟨gb203, 0, none⟩ = some (.int .i64 a0_0) := (yG BK203.out 0).trans rfl; have hcz3_1 : w2.cell? ⟨gb203, 1, none⟩ = some (.slice A0_1 l0_1.length c0_1) := (yG BK203.out 1).trans rfl; have hcz3_2 : w2.cell? ⟨gb203, 2, none⟩ = some (.slice A0_2 l0_2.length c0_2) := (yG BK203.out 2).trans rfl; have hcz3_3 : w2.cell? ⟨gb203, 3, none⟩ = some (.slice A0_3 l0_3.length c0_3) := (yG BK203.out 3).trans rfl; have hcz3_4 : w2.cell? ⟨gb203, 4, none⟩ = some (.slice A0_4 l0_4.length c0_4) := (yG BK203.out 4).trans rfl; have hcz3_5 : w2.cell? ⟨gb203, 5, none⟩ = some (.slice A0_5 l0_5.length c0_5) := (yG BK203.out 5).trans rfl; have hfz3_0 := yR BK203.out 0; have hfz3_1 := yR BK203.out 1; have hfz3_2 := yR BK203.out 2; have hfz3_3 := yR BK203.out 3; have hfz3_4 := yR BK203.out 4; have hfz3_5 := yR BK203.out 5) | ((with_reducible refine gate_dst (N := 11) rfl ?_); refine Kd.N_lit (Kd.slice 2 (Kd.int .i64)) _ 22 ?hg (N' := 11) ?hd (xs := ([l0_1, l0_2, l0_3, l0_4] : List (List Int))) (inner := [.slice A0_1 l0_1.length c0_1, .slice A0_2 l0_2.length c0_2, .slice A0_3 l0_3.length c0_3, .slice A0_4 l0_4.length c0_4]) (ok := (fun k_ => ((P0_1_ k_ ∨ P0_2_ k_ ∨ P0_3_ k_ ∨ P0_4_ k_) ∨ w.heap.size ≤ k_) ∧ k_ ≠ gb203)) (okp := (fun k_ => ((P0_1_ k_ ∨ P0_2_ k_ ∨ P0_3_ k_ ∨ P0_4_ k_) ∨ w.heap.size ≤ k_) ∧ k_ ≠ gb203)) ?hr ?hp (fun _ hk => hk) ((show ∀ k_, w2.heap.size ≤ k_ → (fun k_ => ((P0_1_ k_ ∨ P0_2_ k_ ∨ P0_3_ k_ ∨ P0_4_ k_) ∨ w.heap.size ≤ k_) ∧ k_ ≠ gb203) k_ from fun k_ hk => ⟨(.inr (Nat.le_trans (below_size (by repeat (first | (with_reducible first | exact HB.out | apply yQ | apply yL | apply yP | refine yE ?_ GE203.out) | exact HB.out))) hk)), Kd.freshB (g := gb203) (o := .cells #[.int .i64 a0_0, .slice A0_1 l0_1.length c0_1, .slice A0_2 l0_2.length c0_2, .slice A0_3 l0_3.length c0_3, .slice A0_4 l0_4.length c0_4, .slice A0_5 l0_5.length c0_5] 30 (0, 0)) (by (with_reducible repeat (first | refine yM ?_ _ | refine yO ?_ | refine yN ?_ _)); exact BK203.out) k_ hk⟩) _ (Nat.le_refl _)) (Below.refl _ _) (Nat.le_refl _) (by simp) ?_; (case hd => rfl); (case hg => rfl); (case hr => first | (go_simp; done) | (go_simp; rfl)); (case hp => exact (Reps.one (show Kd.FK (Kd.slice 2 (Kd.int .i64)) _ _ l0_1 [.slice A0_1 l0_1.length c0_1] from (Kd.FK_slice_mk (Kd.V_reads' (Kd.V_mono (ok' := (fun k_ => ((P0_1_ k_ ∨ P0_2_ k_ ∨ P0_3_ k_ ∨ P0_4_ k_) ∨ w.heap.size ≤ k_) ∧ k_ ≠ gb203)) (HO0_1.out) (fun k_ hk => ⟨hk.1, hk.2⟩))).2.1 (Kd.V_F (Kd.V_mono (ok' := (fun k_ => ((P0_1_ k_ ∨ P0_2_ k_ ∨ P0_3_ k_ ∨ P0_4_ k_) ∨ w.heap.size ≤ k_) ∧ k_ ≠ gb203)) (HO0_1.out) (fun k_ hk => ⟨hk.1, hk.2⟩))))) (Reps.one (show Kd.FK (Kd.slice 2 (Kd.int .i64)) _ _ l0_2 [.slice A0_2 l0_2.length c0_2] from (Kd.FK_slice_mk (Kd.V_reads' (Kd.V_mono (ok' := (fun k_ => ((P0_1_ k_ ∨ P0_2_ k_ ∨ P0_3_ k_ ∨ P0_4_ k_) ∨ w.heap.size ≤ k_) ∧ k_ ≠ gb203)) (HO0_2.out) (fun k_ hk => ⟨hk.1, hk.2⟩))).2.1 (Kd.V_F (Kd.V_mono (ok' := (fun k_ => ((P0_1_ k_ ∨ P0_2_ k_ ∨ P0_3_ k_ ∨ P0_4_ k_) ∨ w.heap.size ≤ k_) ∧ k_ ≠ gb203)) (HO0_2.out) (fun k_ hk => ⟨hk.1, hk.2⟩))))) (Reps.one (show Kd.FK (Kd.slice 2 (Kd.int .i64)) _ _ l0_3 [.slice A0_3 l0_3.length c0_3] from (Kd.FK_slice_mk (Kd.V_reads' (Kd.V_mono (ok' := (fun k_ => ((P0_1_ k_ ∨ P0_2_ k_ ∨ P0_3_ k_ ∨ P0_4_ k_) ∨ w.heap.size ≤ k_) ∧ k_ ≠ gb203)) (HO0_3.out) (fun k_ hk => ⟨hk.1, hk.2⟩))).2.1 (Kd.V_F (Kd.V_mono (ok' := (fun k_ => ((P0_1_ k_ ∨ P0_2_ k_ ∨ P0_3_ k_ ∨ P0_4_ k_) ∨ w.heap.size ≤ k_) ∧ k_ ≠ gb203)) (HO0_3.out) (fun k_ hk => ⟨hk.1, hk.2⟩))))) (Reps.one (show Kd.FK (Kd.slice 2 (Kd.int .i64)) _ _ l0_4 [.slice A0_4 l0_4.length c0_4] from (Kd.FK_slice_mk (Kd.V_reads' (Kd.V_mono (ok' := (fun k_ => ((P0_1_ k_ ∨ P0_2_ k_ ∨ P0_3_ k_ ∨ P0_4_ k_) ∨ w.heap.size ≤ k_) ∧ k_ ≠ gb203)) (HO0_4.out) (fun k_ hk => ⟨hk.1, hk.2⟩))).2.1 (Kd.V_F (Kd.V_mono (ok' := (fun k_ => ((P0_1_ k_ ∨ P0_2_ k_ ∨ P0_3_ k_ ∨ P0_4_ k_) ∨ w.heap.size ≤ k_) ∧ k_ ≠ gb203)) (HO0_4.out) (fun k_ hk => ⟨hk.1, hk.2⟩))))) (Reps.none _ _)))))); intro v205 w4 ho5 hb hg_ hnew_; clear hg_ hnew_; (first | rw [← Ny204.out] at ho5 | (simp only [Int.reduceToNat] at ho5; rw [← Ny204.out] at ho5)); have n0_ := yD (Kd.V_elder' (by (with_reducible repeat (first | apply Kd.V_alloc | apply Kd.V_drewN | apply Kd.V_drew)); exact HO0_1.out) (Kd.N_base ho5) hb); have n1_ := yD (Kd.V_elder' (by (with_reducible repeat (first | apply Kd.V_alloc | apply Kd.V_drewN | apply Kd.V_drew)); exact HO0_2.out) (Kd.N_base ho5) hb); have n2_ := yD (Kd.V_elder' (by (with_reducible repeat (first | apply Kd.V_alloc | apply Kd.V_drewN | apply Kd.V_drew)); exact HO0_3.out) (Kd.N_base ho5) hb); have n3_ := yD (Kd.V_elder' (by (with_reducible repeat (first | apply Kd.V_alloc | apply Kd.V_drewN | apply Kd.V_drew)); exact HO0_4.out) (Kd.N_base ho5) hb); have n4_ := yD (Kd.N_lower ho5 (below_size (by repeat (first | (with_reducible first | exact HB.out | apply yQ | apply yL | apply yP | refine yE ?_ GE203.out) | exact HB.out)))); have n5_ := yD (zB (g := gb203) (o := .cells #[.int .i64 a0_0, .slice A0_1 l0_1.length c0_1, .slice A0_2 l0_2.length c0_2, .slice A0_3 l0_3.length c0_3, .slice A0_4 l0_4.length c0_4, .slice A0_5 l0_5.length c0_5] 30 (0, 0)) (by (with_reducible repeat (first | refine yM ?_ _ | refine yO ?_ | refine yN ?_ _)); exact BK203.out) hb); have n6_ := yD (zC (by repeat (first | (with_reducible first | exact HB.out | apply yQ | apply yL | apply yP | refine yE ?_ GE203.out) | exact HB.out)) hb); clear HO0_1; clear HO0_2; clear HO0_3; clear HO0_4; clear BK203; clear HB; have HO0_1 := n0_; have HO0_2 := n1_; have HO0_3 := n2_; have HO0_4 := n3_; have HO206 := n4_; have BK203 := n5_; have HB := n6_; clear n0_ n1_ n2_ n3_ n4_ n5_ n6_; clear hb ho5))
 go_ret
 exact ⟨_, by first | rfl | (simp <;> rfl) | (simp [*] <;> rfl), by (with_reducible repeat (first | apply Kd.N_alloc | apply Kd.N_drewN | apply Kd.N_drew)); exact Kd.N_mono HO206.out (fun _ hk => hk.1), by repeat (first | (with_reducible first | exact HB.out | apply yQ | apply yL | apply yP | refine yE ?_ GE203.out) | exact HB.out)⟩

/-! ### slices_Equal_int64_int64: function 32 -/
def slices_Equal_int64_int64.l0 : Nat → List Int → List Int → Int → Int → Option (Bool)
 | 0, _, _, _, _ => none
 | k + 1, x0, x1, x12, x13 => if x13 < x12 then (if 0 ≤ x13 then (if x13 < (x0.length : Int) then (if x13 < (x1.length : Int) then (if (rd x0 x13) = (rd x1 x13) then (slices_Equal_int64_int64.l0 k x0 x1 x12 (wrap64 (x13 + 1))) else (some false)) else (none)) else (none)) else (none)) else (some true)
def slices_Equal_int64_int64.f (k : Nat) (l0 : List Int) (l1 : List Int) : Option (Bool) := if (l0.length : Int) = (l1.length : Int) then (slices_Equal_int64_int64.l0 k l0 l1 (l0.length : Int) 0) else (some false)
theorem slices_Equal_int64_int64.mono_l : ∀ k, (∀ y0 y1 y2 y3, LeO (slices_Equal_int64_int64.l0 k y0 y1 y2 y3) (slices_Equal_int64_int64.l0 (k + 1) y0 y1 y2 y3))
 | 0 => fun _ _ _ _ r h => by simp [slices_Equal_int64_int64.l0] at h
 | k + 1 => by
  have ih0 := slices_Equal_int64_int64.mono_l k
  ·
   intro y0 y1 y2 y3
   unfold slices_Equal_int64_int64.l0
   repeat' first
   | (with_reducible exact ih0 _ _ _ _)
   | (with_reducible exact LeO.refl _)
   | (with_reducible exact LeO.none _)
   | (with_reducible refine LeO.ite ?_ ?_)
   | (with_reducible refine LeO.bind ?_ (fun _ => ?_))
   | exact ih0 _ _ _ _
   | exact LeO.none _
   | refine LeO.ite ?_ ?_
   | refine LeO.bind ?_ (fun _ => ?_)
theorem slices_Equal_int64_int64.mono : ∀ a0 a1 k, LeO (slices_Equal_int64_int64.f k a0 a1) (slices_Equal_int64_int64.f (k + 1) a0 a1) := by
 intro a0 a1 k
 have ih0 := slices_Equal_int64_int64.mono_l k
 unfold slices_Equal_int64_int64.f
 repeat' first
   | (with_reducible exact ih0 _ _ _ _)
   | (with_reducible exact LeO.refl _)
   | (with_reducible exact LeO.none _)
   | (with_reducible refine LeO.ite ?_ ?_)
   | (with_reducible refine LeO.bind ?_ (fun _ => ?_))
   | exact ih0 _ _ _ _
   | exact LeO.none _
   | refine LeO.ite ?_ ?_
   | refine LeO.bind ?_ (fun _ => ?_)
set_option maxHeartbeats 8000000 in
set_option maxRecDepth 100000 in
theorem slices_Equal_int64_int64.calls (k : Nat) (A0 : Option Addr) (c0 : Nat) (l0 : List Int) (A1 : Option Addr) (c1 : Nat) (l1 : List Int) (r : Bool) (w : World) (hr0 : Kd.C (Kd.int .i64) w A0 l0.length l0) (hc0 : l0.length ≤ c0) (hr1 : Kd.C (Kd.int .i64) w A1 l1.length l1) (hc1 : l1.length ≤ c1) (h : slices_Equal_int64_int64.f k l0 l1 = some r) :
  Calls Try.prog 32 #[.slice A0 l0.length c0, .slice A1 l1.length c1] w fun e w' => e = .returned (.bool r) ∧ Drawn0 w w' := by
 have HR0 := yD hr0
 have HC0 := yD hc0
 clear hr0 hc0
 have HR1 := yD hr1
 have HC1 := yD hc1
 clear hr1 hc1
 have H : (if (l0.length : Int) = (l1.length : Int) then (slices_Equal_int64_int64.l0 k l0 l1 (l0.length : Int) 0) else (some false)) = some r := h
 clear h
 by_cases c3 : (l0.length : Int) = (l1.length : Int)
 ·
  rw [if_pos c3] at H
  have c3b0 : ((l0.length : Int) == (l1.length : Int)) = true := beq_iff_eq.mpr c3
  have c3b1 : ((l0.length : Int) != (l1.length : Int)) = false := bne_eq_false_iff_eq.mpr c3
  have c3b2 : (l0.length == l1.length) = true := by first | simpa using c3 | (simp at c3 ⊢; omega)
  clear c3
  have H' := yD H
  clear H; go_enter Try.func32, Try.ntmps32
  go_wp2
  repeat (go_quiet (fail); try go_wp2)
  go_loopg [13] k (fun kq v13 w' => ∃ (x13_1 : Int), v13 = .int .i64 x13_1 ∧ Aside0 (slices_Equal_int64_int64.l0 kq l0 l1 (l0.length : Int) x13_1 = some r) ∧ Aside0 (kq ≤ k) ∧ Drawn0 w w')
  case atStart => exact ⟨(0), (by first | rfl | (simp; done) | (simp [*]; done)), H', ⟨Nat.le_refl _⟩, by repeat (first | exact Drawn0.refl _ | apply Drawn0.step)⟩
  case round =>
   clear H'
   try clear c1; try clear p2; try clear c3; try clear c3b0; try clear c3b1; try clear c3b2
   obtain ⟨x13_1, rfl, HA, HK1, ⟨m1, rfl⟩⟩ := hrel
   cases gk with
   | zero => exact absurd HA.out (by simp [slices_Equal_int64_int64.l0])
   | succ k1 =>
    have H := HA.out; clear HA
    simp only [slices_Equal_int64_int64.l0] at H
    by_cases c4 : x13_1 < (l0.length : Int)
    ·
     rw [if_pos c4] at H; have c4b0 : decide (x13_1 < (l0.length : Int)) = true := zR c4; clear c4
     by_cases c5 : 0 ≤ x13_1
     ·
      rw [if_pos c5] at H; have c5b0 : decide (0 ≤ x13_1) = true := zR c5; clear c5
      by_cases c6 : x13_1 < (l0.length : Int)
      ·
       rw [if_pos c6] at H; have c6b0 : decide (x13_1 < (l0.length : Int)) = true := zR c6; clear c6
       by_cases c7 : x13_1 < (l1.length : Int)
       ·
        rw [if_pos c7] at H; have c7b0 : decide (x13_1 < (l1.length : Int)) = true := zR c7; clear c7
        by_cases c8 : (rd l0 x13_1) = (rd l1 x13_1)
        ·
         rw [if_pos c8] at H
         have c8b0 : ((rd l0 x13_1) == (rd l1 x13_1)) = true := beq_iff_eq.mpr c8
         have c8b1 : ((rd l0 x13_1) != (rd l1 x13_1)) = false := bne_eq_false_iff_eq.mpr c8
         clear c8
         have H' := yD H
         clear H
         have p207 : 0 ≤ (x13_1 : Int) := zP (by assumption)
         have q207 : x13_1 < (l0.length : Int) := zP (by assumption)
         obtain ⟨ad207, e207, hx207_0⟩ := Kd.at_int HR0.out x13_1 p207 q207
         cases e207; replace p207 := eq_true p207; replace q207 := eq_true q207
         have p208 : 0 ≤ (x13_1 : Int) := zP (by assumption)
         have q208 : x13_1 < (l1.length : Int) := zP (by assumption)
         obtain ⟨ad208, e208, hx208_0⟩ := Kd.at_int HR1.out x13_1 p208 q208
         cases e208; replace p208 := eq_true p208; replace q208 := eq_true q208
         go_wp2
         repeat (go_quiet (fail); try go_wp2)
         go_roundg k1
         case measure => have := HK1.out; omega
         case rel => exact ⟨(wrap64 (x13_1 + 1)), (by first | rfl | (simp; done) | (simp [*]; done)), H', ⟨by have := HK1.out; omega⟩, by repeat (first | exact Drawn0.refl _ | apply Drawn0.step)⟩
        ·
         rw [if_neg c8] at H
         have c8b0 : ((rd l0 x13_1) == (rd l1 x13_1)) = false := beq_eq_false_iff_ne.mpr c8
         have c8b1 : ((rd l0 x13_1) != (rd l1 x13_1)) = true := bne_iff_ne.mpr c8
         obtain rfl := Option.some.inj H
         have p207 : 0 ≤ (x13_1 : Int) := zP (by assumption)
         have q207 : x13_1 < (l0.length : Int) := zP (by assumption)
         obtain ⟨ad207, e207, hx207_0⟩ := Kd.at_int HR0.out x13_1 p207 q207
         cases e207; replace p207 := eq_true p207; replace q207 := eq_true q207
         have p208 : 0 ≤ (x13_1 : Int) := zP (by assumption)
         have q208 : x13_1 < (l1.length : Int) := zP (by assumption)
         obtain ⟨ad208, e208, hx208_0⟩ := Kd.at_int HR1.out x13_1 p208 q208
         cases e208; replace p208 := eq_true p208; replace q208 := eq_true q208
         go_wp2
         repeat (go_quiet (fail); try go_wp2)
         go_ret
         exact ⟨by first | rfl | (simp; done) | (simp [*]; done), by repeat (first | exact Drawn0.refl _ | apply Drawn0.step)⟩
       ·
        rw [if_neg c7] at H
        exact absurd H (by simp)
      ·
       rw [if_neg c6] at H
       exact absurd H (by simp)
     ·
      rw [if_neg c5] at H
      exact absurd H (by simp)
    ·
     rw [if_neg c4] at H; have c4b0 : decide (x13_1 < (l0.length : Int)) = false := zS c4; clear c4; obtain rfl := Option.some.inj H
     go_wp2
     repeat (go_quiet (fail); try go_wp2)
     go_ret
     exact ⟨by first | rfl | (simp; done) | (simp [*]; done), by repeat (first | exact Drawn0.refl _ | apply Drawn0.step)⟩
 ·
  rw [if_neg c3] at H
  have c3b0 : ((l0.length : Int) == (l1.length : Int)) = false := beq_eq_false_iff_ne.mpr c3
  have c3b1 : ((l0.length : Int) != (l1.length : Int)) = true := bne_iff_ne.mpr c3
  have c3b2 : (l0.length == l1.length) = false := by first | simpa using c3 | (simp at c3 ⊢; omega)
  obtain rfl := Option.some.inj H; go_enter Try.func32, Try.ntmps32
  go_wp2
  repeat (go_quiet (fail); try go_wp2)
  go_ret
  exact ⟨by first | rfl | (simp; done) | (simp [*]; done), by repeat (first | exact Drawn0.refl _ | apply Drawn0.step)⟩

/-! ### slices_EqualFunc_slices_Equal_int64_int64: function 30 -/
def slices_EqualFunc_slices_Equal_int64_int64.l0 : Nat → List (List Int) → List (List Int) → Int → Int → Option (Bool)
 | 0, _, _, _, _ => none
 | k + 1, x1, x15, x16, x17 => if x17 < x16 then (if 0 ≤ x17 then (if x17 < (x15.length : Int) then (if x17 < (x1.length : Int) then ((slices_Equal_int64_int64.f k (rd_L1 x15 x17) (rd_L1 x1 x17)).bind fun t211 => (if t211 = true then (slices_EqualFunc_slices_Equal_int64_int64.l0 k x1 x15 x16 (wrap64 (x17 + 1))) else (some false))) else (none)) else (none)) else (none)) else (some true)
def slices_EqualFunc_slices_Equal_int64_int64.f (k : Nat) (l0 : List (List Int)) (l1 : List (List Int))  : Option (Bool) := if (l0.length : Int) = (l1.length : Int) then (slices_EqualFunc_slices_Equal_int64_int64.l0 k l1 l0 (l0.length : Int) 0) else (some false)
theorem slices_EqualFunc_slices_Equal_int64_int64.mono_l : ∀ k, (∀ y0 y1 y2 y3, LeO (slices_EqualFunc_slices_Equal_int64_int64.l0 k y0 y1 y2 y3) (slices_EqualFunc_slices_Equal_int64_int64.l0 (k + 1) y0 y1 y2 y3))
 | 0 => fun _ _ _ _ r h => by simp [slices_EqualFunc_slices_Equal_int64_int64.l0] at h
 | k + 1 => by
  have ih0 := slices_EqualFunc_slices_Equal_int64_int64.mono_l k
  ·
   intro y0 y1 y2 y3
   unfold slices_EqualFunc_slices_Equal_int64_int64.l0
   repeat' first
   | (with_reducible exact ih0 _ _ _ _)
   | (with_reducible exact slices_Equal_int64_int64.mono _ _ _)
   | (with_reducible exact LeO.refl _)
   | (with_reducible exact LeO.none _)
   | (with_reducible refine LeO.ite ?_ ?_)
   | (with_reducible refine LeO.bind ?_ (fun _ => ?_))
   | exact ih0 _ _ _ _
   | exact slices_Equal_int64_int64.mono _ _ _
   | exact LeO.none _
   | refine LeO.ite ?_ ?_
   | refine LeO.bind ?_ (fun _ => ?_)
theorem slices_EqualFunc_slices_Equal_int64_int64.mono : ∀ a0 a1 k, LeO (slices_EqualFunc_slices_Equal_int64_int64.f k a0 a1) (slices_EqualFunc_slices_Equal_int64_int64.f (k + 1) a0 a1) := by
 intro a0 a1 k
 have ih0 := slices_EqualFunc_slices_Equal_int64_int64.mono_l k
 unfold slices_EqualFunc_slices_Equal_int64_int64.f
 repeat' first
   | (with_reducible exact ih0 _ _ _ _)
   | (with_reducible exact slices_Equal_int64_int64.mono _ _ _)
   | (with_reducible exact LeO.refl _)
   | (with_reducible exact LeO.none _)
   | (with_reducible refine LeO.ite ?_ ?_)
   | (with_reducible refine LeO.bind ?_ (fun _ => ?_))
   | exact ih0 _ _ _ _
   | exact slices_Equal_int64_int64.mono _ _ _
   | exact LeO.none _
   | refine LeO.ite ?_ ?_
   | refine LeO.bind ?_ (fun _ => ?_)
set_option maxHeartbeats 8000000 in
set_option maxRecDepth 100000 in
theorem slices_EqualFunc_slices_Equal_int64_int64.calls (k : Nat) (A0 : Option Addr) (c0 : Nat) (l0 : List (List Int)) (A1 : Option Addr) (c1 : Nat) (l1 : List (List Int))  (r : Bool) (w : World) (hr0 : Kd.C (Kd.slice 2 (Kd.int .i64)) w A0 l0.length l0) (hc0 : l0.length ≤ c0) (hr1 : Kd.C (Kd.slice 2 (Kd.int .i64)) w A1 l1.length l1) (hc1 : l1.length ≤ c1) (h : slices_EqualFunc_slices_Equal_int64_int64.f k l0 l1 = some r) :
  Calls Try.prog 30 #[.slice A0 l0.length c0, .slice A1 l1.length c1, .func (.func 32) #[] #[]] w fun e w' => e = .returned (.bool r) ∧ Below w.heap.size w w' := by
 have HR0 := yD hr0
 have HC0 := yD hc0
 clear hr0 hc0
 have HR1 := yD hr1
 have HC1 := yD hc1
 clear hr1 hc1
 have HB := yD (Below.refl w.heap.size w)
 have H : (if (l0.length : Int) = (l1.length : Int) then (slices_EqualFunc_slices_Equal_int64_int64.l0 k l1 l0 (l0.length : Int) 0) else (some false)) = some r := h
 clear h
 by_cases c4 : (l0.length : Int) = (l1.length : Int)
 ·
  rw [if_pos c4] at H
  have c4b0 : ((l0.length : Int) == (l1.length : Int)) = true := beq_iff_eq.mpr c4
  have c4b1 : ((l0.length : Int) != (l1.length : Int)) = false := bne_eq_false_iff_eq.mpr c4
  have c4b2 : (l0.length == l1.length) = true := by first | simpa using c4 | (simp at c4 ⊢; omega)
  clear c4
  have H' := yD H
  clear H; go_enter Try.func30, Try.ntmps30
  go_wp2
  go_loopg [17] k (fun kq v17 w' => ∃ (x17_1 : Int), v17 = .int .i64 x17_1 ∧ Aside0 (slices_EqualFunc_slices_Equal_int64_int64.l0 kq l1 l0 (l0.length : Int) x17_1 = some r) ∧ Aside0 (kq ≤ k) ∧ Aside0 (Below w.heap.size w w'))
  case atStart => exact ⟨(0), (by first | rfl | (simp; done) | (simp [*]; done)), H', ⟨Nat.le_refl _⟩, ⟨by repeat (first | (with_reducible first | exact HB.out | apply yQ | apply yL | apply yP) | exact HB.out)⟩⟩
  case round =>
   clear H'
   try clear c1; try clear p2; try clear c4; try clear c4b0; try clear c4b1; try clear c4b2
   obtain ⟨x17_1, rfl, HA, HK1, HB⟩ := hrel
   cases gk with
   | zero => exact absurd HA.out (by simp [slices_EqualFunc_slices_Equal_int64_int64.l0])
   | succ k1 =>
    have H := HA.out; clear HA
    simp only [slices_EqualFunc_slices_Equal_int64_int64.l0] at H
    by_cases c5 : x17_1 < (l0.length : Int)
    ·
     rw [if_pos c5] at H; have c5b0 : decide (x17_1 < (l0.length : Int)) = true := zR c5; clear c5
     by_cases c6 : 0 ≤ x17_1
     ·
      rw [if_pos c6] at H; have c6b0 : decide (0 ≤ x17_1) = true := zR c6; clear c6
      by_cases c7 : x17_1 < (l0.length : Int)
      ·
       rw [if_pos c7] at H; have c7b0 : decide (x17_1 < (l0.length : Int)) = true := zR c7; clear c7
       by_cases c8 : x17_1 < (l1.length : Int)
       ·
        rw [if_pos c8] at H; have c8b0 : decide (x17_1 < (l1.length : Int)) = true := zR c8; clear c8
        obtain ⟨t211, A90, H⟩ := zW_ H
        replace H : (if t211 = true then (slices_EqualFunc_slices_Equal_int64_int64.l0 k1 l1 l0 (l0.length : Int) (wrap64 (x17_1 + 1))) else (some false)) = some r := H
        have A9 := yD A90
        clear A90
        by_cases c10 : t211 = true
        ·
         subst c10
         have H1 : (slices_EqualFunc_slices_Equal_int64_int64.l0 k1 l1 l0 (l0.length : Int) (wrap64 (x17_1 + 1))) = some r := by rw [if_pos rfl] at H; exact H
         clear H; have H := H1; clear H1
         have H' := yD H
         clear H
         have p209 : 0 ≤ (x17_1 : Int) := zP (by assumption)
         have q209 : x17_1 < (l0.length : Int) := zP (by assumption)
         obtain ⟨ad209, A209_0, c209_0, e209, hx209_0, hl209_0, hi209_0⟩ := at_L1 HR0.out x17_1 p209 q209
         cases e209
         replace hx209_0 := (HB.out.cell (zQ w _ hx209_0)).trans hx209_0
         have HR209_0 := yD hi209_0
         have HC209_0 := yD hl209_0
         clear hi209_0 hl209_0; replace p209 := eq_true p209; replace q209 := eq_true q209
         have p210 : 0 ≤ (x17_1 : Int) := zP (by assumption)
         have q210 : x17_1 < (l1.length : Int) := zP (by assumption)
         obtain ⟨ad210, A210_0, c210_0, e210, hx210_0, hl210_0, hi210_0⟩ := at_L1 HR1.out x17_1 p210 q210
         cases e210
         replace hx210_0 := (HB.out.cell (zQ w _ hx210_0)).trans hx210_0
         have HR210_0 := yD hi210_0
         have HC210_0 := yD hl210_0
         clear hi210_0 hl210_0; replace p210 := eq_true p210; replace q210 := eq_true q210
         go_wp2_with (first | (go_at_call 32; (with_reducible refine (slices_Equal_int64_int64.calls k1 _ _ (rd_L1 l0 x17_1) _ _ (rd_L1 l1 x17_1) true _ ?side1 ?side2 ?side3 ?side4 A9.out).mono ?_); (case side1 => repeat (first | exact (yY HR209_0.out HB.out) | (with_reducible first | refine yV ?_ _ | refine yW ?_ _ | refine yX ?_))); (case side2 => exact HC209_0.out); (case side3 => repeat (first | exact (yY HR210_0.out HB.out) | (with_reducible first | refine yV ?_ _ | refine yW ?_ _ | refine yX ?_))); (case side4 => exact HC210_0.out); rintro e w' ⟨rfl, ⟨nd, rfl⟩⟩))
         go_roundg k1
         case measure => have := HK1.out; omega
         case rel => exact ⟨(wrap64 (x17_1 + 1)), (by first | rfl | (simp; done) | (simp [*]; done)), H', ⟨by have := HK1.out; omega⟩, ⟨by repeat (first | (with_reducible first | exact HB.out | apply yQ | apply yL | apply yP) | exact HB.out)⟩⟩
        ·
         replace c10 := Bool.eq_false_iff.mpr c10
         subst c10
         have H1 : (some false) = some r := by rw [if_neg (show ¬ (false = true) by decide)] at H; exact H
         clear H; have H := H1; clear H1; obtain rfl := Option.some.inj H
         have p209 : 0 ≤ (x17_1 : Int) := zP (by assumption)
         have q209 : x17_1 < (l0.length : Int) := zP (by assumption)
         obtain ⟨ad209, A209_0, c209_0, e209, hx209_0, hl209_0, hi209_0⟩ := at_L1 HR0.out x17_1 p209 q209
         cases e209
         replace hx209_0 := (HB.out.cell (zQ w _ hx209_0)).trans hx209_0
         have HR209_0 := yD hi209_0
         have HC209_0 := yD hl209_0
         clear hi209_0 hl209_0; replace p209 := eq_true p209; replace q209 := eq_true q209
         have p210 : 0 ≤ (x17_1 : Int) := zP (by assumption)
         have q210 : x17_1 < (l1.length : Int) := zP (by assumption)
         obtain ⟨ad210, A210_0, c210_0, e210, hx210_0, hl210_0, hi210_0⟩ := at_L1 HR1.out x17_1 p210 q210
         cases e210
         replace hx210_0 := (HB.out.cell (zQ w _ hx210_0)).trans hx210_0
         have HR210_0 := yD hi210_0
         have HC210_0 := yD hl210_0
         clear hi210_0 hl210_0; replace p210 := eq_true p210; replace q210 := eq_true q210
         go_wp2_with (first | (go_at_call 32; (with_reducible refine (slices_Equal_int64_int64.calls k1 _ _ (rd_L1 l0 x17_1) _ _ (rd_L1 l1 x17_1) false _ ?side1 ?side2 ?side3 ?side4 A9.out).mono ?_); (case side1 => repeat (first | exact (yY HR209_0.out HB.out) | (with_reducible first | refine yV ?_ _ | refine yW ?_ _ | refine yX ?_))); (case side2 => exact HC209_0.out); (case side3 => repeat (first | exact (yY HR210_0.out HB.out) | (with_reducible first | refine yV ?_ _ | refine yW ?_ _ | refine yX ?_))); (case side4 => exact HC210_0.out); rintro e w' ⟨rfl, ⟨nd, rfl⟩⟩))
         go_ret
         exact ⟨by first | rfl | (simp <;> rfl) | (simp [*] <;> rfl), by repeat (first | (with_reducible first | exact HB.out | apply yQ | apply yL | apply yP) | exact HB.out)⟩
       ·
        rw [if_neg c8] at H
        exact absurd H (by simp)
      ·
       rw [if_neg c7] at H
       exact absurd H (by simp)
     ·
      rw [if_neg c6] at H
      exact absurd H (by simp)
    ·
     rw [if_neg c5] at H; have c5b0 : decide (x17_1 < (l0.length : Int)) = false := zS c5; clear c5; obtain rfl := Option.some.inj H
     go_wp2
     go_ret
     exact ⟨by first | rfl | (simp <;> rfl) | (simp [*] <;> rfl), by repeat (first | (with_reducible first | exact HB.out | apply yQ | apply yL | apply yP) | exact HB.out)⟩
 ·
  rw [if_neg c4] at H
  have c4b0 : ((l0.length : Int) == (l1.length : Int)) = false := beq_eq_false_iff_ne.mpr c4
  have c4b1 : ((l0.length : Int) != (l1.length : Int)) = true := bne_iff_ne.mpr c4
  have c4b2 : (l0.length == l1.length) = false := by first | simpa using c4 | (simp at c4 ⊢; omega)
  obtain rfl := Option.some.inj H; go_enter Try.func30, Try.ntmps30
  go_wp2
  go_ret
  exact ⟨by first | rfl | (simp <;> rfl) | (simp [*] <;> rfl), by repeat (first | (with_reducible first | exact HB.out | apply yQ | apply yL | apply yP) | exact HB.out)⟩

/-! ### impl_samePoint: function 34 -/
def impl_samePoint.f (k : Nat) (l0_0 : List Int) (l1_0 : List Int) : Option (Bool) := (slices_Equal_int64_int64.f k l0_0 l1_0).bind fun t214 => (some t214)
theorem impl_samePoint.mono : ∀ a0 a1 k, LeO (impl_samePoint.f k a0 a1) (impl_samePoint.f (k + 1) a0 a1) := by
 intro a0 a1 k
 unfold impl_samePoint.f
 repeat' first
   | (with_reducible exact slices_Equal_int64_int64.mono _ _ _)
   | (with_reducible exact LeO.refl _)
   | (with_reducible exact LeO.none _)
   | (with_reducible refine LeO.ite ?_ ?_)
   | (with_reducible refine LeO.bind ?_ (fun _ => ?_))
   | exact slices_Equal_int64_int64.mono _ _ _
   | exact LeO.none _
   | refine LeO.ite ?_ ?_
   | refine LeO.bind ?_ (fun _ => ?_)
set_option maxHeartbeats 8000000 in
set_option maxRecDepth 100000 in
theorem impl_samePoint.calls (k : Nat) (A0_0 : Option Addr) (c0_0 : Nat) (l0_0 : List Int) (A1_0 : Option Addr) (c1_0 : Nat) (l1_0 : List Int) (r : Bool) (w : World) (hr0_0 : Kd.C (Kd.int .i64) w A0_0 l0_0.length l0_0) (hc0_0 : l0_0.length ≤ c0_0) (hr1_0 : Kd.C (Kd.int .i64) w A1_0 l1_0.length l1_0) (hc1_0 : l1_0.length ≤ c1_0) (h : impl_samePoint.f k l0_0 l1_0 = some r) :
  Calls Try.prog 34 #[.agg #[.slice A0_0 l0_0.length c0_0], .agg #[.slice A1_0 l1_0.length c1_0]] w fun e w' => e = .returned (.bool r) ∧ Below w.heap.size w w' := by
 have hu48 := Try.underlying48
 have HR0_0 := yD hr0_0
 have HC0_0 := yD hc0_0
 clear hr0_0 hc0_0
 have HR1_0 := yD hr1_0
 have HC1_0 := yD hc1_0
 clear hr1_0 hc1_0
 have HB := yD (Below.refl w.heap.size w)
 have H : ((slices_Equal_int64_int64.f k l0_0 l1_0).bind fun t214 => (some t214)) = some r := h
 clear h
 obtain ⟨t214, A30, H⟩ := zW_ H
 replace H : (some t214) = some r := H
 have A3 := yD A30
 clear A30; obtain rfl := Option.some.inj H; go_enter Try.func34, Try.ntmps34
 go_wp2_with (first | ((with_reducible refine gate_dst (N := 2) rfl ?_); refine box_event ?hg (N := 2) ?hd (cs := #[.slice A0_0 l0_0.length c0_0]) (t := 48) ?hr ?_; (case hd => rfl); (case hg => rfl); (case hr => first | (go_simp; done) | (go_simp; rfl)); intro gb212 hg w4 hbox hb; have n0_ := yD (zC (by repeat (first | (with_reducible first | exact HB.out | apply yQ | apply yL | apply yP) | exact HB.out)) hb); have n1_ := yD (hbox); have n2_ := yD ((by rw [hg]; exact (below_size (by repeat (first | (with_reducible first | exact HB.out | apply yQ | apply yL | apply yP) | exact HB.out))) : w.heap.size ≤ gb212)); have n3_ := yD ((by rw [hg]; exact (below_size (by repeat (first | (with_reducible first | exact HB.out | apply yQ | apply yL | apply yP) | exact HB.out))) : w.heap.size ≤ gb212)); clear HB; have HB := n0_; have BK212 := n1_; have GW212 := n2_; have GE212 := n3_; clear n0_ n1_ n2_ n3_; clear hb hbox hg) | ((with_reducible refine gate_dst (N := 3) rfl ?_); refine box_event ?hg (N := 3) ?hd (cs := #[.slice A1_0 l1_0.length c1_0]) (t := 48) ?hr ?_; (case hd => rfl); (case hg => rfl); (case hr => first | (go_simp; done) | (go_simp; rfl)); intro gb213 hg w5 hbox hb; have n0_ := yD (zB (g := gb212) (o := .cells #[.slice A0_0 l0_0.length c0_0] 48 (0, 0)) (by (with_reducible repeat (first | refine yM ?_ _ | refine yO ?_ | refine yN ?_ _)); exact BK212.out) hb); have n1_ := yD (zC (by repeat (first | (with_reducible first | exact HB.out | apply yQ | apply yL | apply yP | refine yE ?_ GE212.out) | exact HB.out)) hb); have n2_ := yD (hbox); have n3_ := yD ((by rw [hg]; exact (below_size (by repeat (first | (with_reducible first | exact HB.out | apply yQ | apply yL | apply yP | refine yE ?_ GE212.out) | exact HB.out))) : w.heap.size ≤ gb213)); have n4_ := yD ((by rw [hg]; exact (below_size (by repeat (first | (with_reducible first | exact HB.out | apply yQ | apply yL | apply yP | refine yE ?_ GE212.out) | exact HB.out))) : w.heap.size ≤ gb213)); have n5_ := yD ((by rw [hg]; exact Nat.ne_of_lt (blk_lt (g := gb212) (o := .cells #[.slice A0_0 l0_0.length c0_0] 48 (0, 0)) (by (with_reducible repeat (first | refine yM ?_ _ | refine yO ?_ | refine yN ?_ _)); exact BK212.out)) : gb212 ≠ gb213)); have n6_ := yD ((by rw [hg]; exact Nat.ne_of_gt (blk_lt (g := gb212) (o := .cells #[.slice A0_0 l0_0.length c0_0] 48 (0, 0)) (by (with_reducible repeat (first | refine yM ?_ _ | refine yO ?_ | refine yN ?_ _)); exact BK212.out)) : gb213 ≠ gb212)); clear BK212; clear HB; have BK212 := n0_; have HB := n1_; have BK213 := n2_; have GW213 := n3_; have GE213 := n4_; have NB212_213 := n5_; have NB213_212 := n6_; clear n0_ n1_ n2_ n3_ n4_ n5_ n6_; clear hb hbox hg; have hnb6 := NB212_213.out; have hnc6 := NB213_212.out; have hcz7_0 : w5.cell? ⟨gb212, 0, none⟩ = some (.slice A0_0 l0_0.length c0_0) := (yG BK212.out 0).trans rfl; have hfz7_0 := yR BK212.out 0; have hcz8_0 : w5.cell? ⟨gb213, 0, none⟩ = some (.slice A1_0 l1_0.length c1_0) := (yG BK213.out 0).trans rfl; have hfz8_0 := yR BK213.out 0) | ((with_reducible refine gate_callee (f := 32) rfl ?_); refine goesL_ (some 9) rfl rfl Try.func32 (by kernel_rfl) rfl #[.slice A0_0 l0_0.length c0_0, .slice A1_0 l1_0.length c1_0] rfl (by (try simp only [zK, zL, zM]); first | done | rfl | (simp only [zN, zO]; rfl)) ?_; (with_reducible refine (slices_Equal_int64_int64.calls k _ _ l0_0 _ _ l1_0 t214 _ ?side1 ?side2 ?side3 ?side4 A3.out).mono ?_); (case side1 => repeat (first | exact (yY HR0_0.out HB.out) | (with_reducible first | refine yV ?_ _ | refine yW ?_ _ | refine yX ?_))); (case side2 => exact HC0_0.out); (case side3 => repeat (first | exact (yY HR1_0.out HB.out) | (with_reducible first | refine yV ?_ _ | refine yW ?_ _ | refine yX ?_))); (case side4 => exact HC1_0.out); rintro e w' ⟨rfl, ⟨nd, rfl⟩⟩; refine ⟨_, rfl, ?_⟩))
 go_ret
 exact ⟨by first | rfl | (simp <;> rfl) | (simp [*] <;> rfl), by repeat (first | (with_reducible first | exact HB.out | apply yQ | apply yL | apply yP | refine yE ?_ GE212.out | refine yE ?_ GE213.out) | exact HB.out)⟩

/-! ### slices_EqualFunc_impl_samePoint: function 33 -/
def slices_EqualFunc_impl_samePoint.l0 : Nat → List (S48) → List (S48) → Int → Int → Option (Bool)
 | 0, _, _, _, _ => none
 | k + 1, x1, x15, x16, x17 => if x17 < x16 then (if 0 ≤ x17 then (if x17 < (x15.length : Int) then (if x17 < (x1.length : Int) then ((impl_samePoint.f k ((rd_T48 x15 x17).f0) ((rd_T48 x1 x17).f0)).bind fun t219 => (if t219 = true then (slices_EqualFunc_impl_samePoint.l0 k x1 x15 x16 (wrap64 (x17 + 1))) else (some false))) else (none)) else (none)) else (none)) else (some true)
def slices_EqualFunc_impl_samePoint.f (k : Nat) (l0 : List (S48)) (l1 : List (S48))  : Option (Bool) := if (l0.length : Int) = (l1.length : Int) then (slices_EqualFunc_impl_samePoint.l0 k l1 l0 (l0.length : Int) 0) else (some false)
theorem slices_EqualFunc_impl_samePoint.mono_l : ∀ k, (∀ y0 y1 y2 y3, LeO (slices_EqualFunc_impl_samePoint.l0 k y0 y1 y2 y3) (slices_EqualFunc_impl_samePoint.l0 (k + 1) y0 y1 y2 y3))
 | 0 => fun _ _ _ _ r h => by simp [slices_EqualFunc_impl_samePoint.l0] at h
 | k + 1 => by
  have ih0 := slices_EqualFunc_impl_samePoint.mono_l k
  ·
   intro y0 y1 y2 y3
   unfold slices_EqualFunc_impl_samePoint.l0
   repeat' first
   | (with_reducible exact ih0 _ _ _ _)
   | (with_reducible exact impl_samePoint.mono _ _ _)
   | (with_reducible exact LeO.refl _)
   | (with_reducible exact LeO.none _)
   | (with_reducible refine LeO.ite ?_ ?_)
   | (with_reducible refine LeO.bind ?_ (fun _ => ?_))
   | exact ih0 _ _ _ _
   | exact impl_samePoint.mono _ _ _
   | exact LeO.none _
   | refine LeO.ite ?_ ?_
   | refine LeO.bind ?_ (fun _ => ?_)
theorem slices_EqualFunc_impl_samePoint.mono : ∀ a0 a1 k, LeO (slices_EqualFunc_impl_samePoint.f k a0 a1) (slices_EqualFunc_impl_samePoint.f (k + 1) a0 a1) := by
 intro a0 a1 k
 have ih0 := slices_EqualFunc_impl_samePoint.mono_l k
 unfold slices_EqualFunc_impl_samePoint.f
 repeat' first
   | (with_reducible exact ih0 _ _ _ _)
   | (with_reducible exact impl_samePoint.mono _ _ _)
   | (with_reducible exact LeO.refl _)
   | (with_reducible exact LeO.none _)
   | (with_reducible refine LeO.ite ?_ ?_)
   | (with_reducible refine LeO.bind ?_ (fun _ => ?_))
   | exact ih0 _ _ _ _
   | exact impl_samePoint.mono _ _ _
   | exact LeO.none _
   | refine LeO.ite ?_ ?_
   | refine LeO.bind ?_ (fun _ => ?_)
set_option maxHeartbeats 8000000 in
set_option maxRecDepth 100000 in
theorem slices_EqualFunc_impl_samePoint.calls (k : Nat) (A0 : Option Addr) (c0 : Nat) (l0 : List (S48)) (A1 : Option Addr) (c1 : Nat) (l1 : List (S48))  (r : Bool) (w : World) (hr0 : Kd.C k48 w A0 l0.length l0) (hc0 : l0.length ≤ c0) (hr1 : Kd.C k48 w A1 l1.length l1) (hc1 : l1.length ≤ c1) (h : slices_EqualFunc_impl_samePoint.f k l0 l1 = some r) :
  Calls Try.prog 33 #[.slice A0 l0.length c0, .slice A1 l1.length c1, .func (.func 34) #[] #[]] w fun e w' => e = .returned (.bool r) ∧ Below w.heap.size w w' := by
 have hu48 := Try.underlying48
 have HR0 := yD hr0
 have HC0 := yD hc0
 clear hr0 hc0
 have HR1 := yD hr1
 have HC1 := yD hc1
 clear hr1 hc1
 have HB := yD (Below.refl w.heap.size w)
 have H : (if (l0.length : Int) = (l1.length : Int) then (slices_EqualFunc_impl_samePoint.l0 k l1 l0 (l0.length : Int) 0) else (some false)) = some r := h
 clear h
 by_cases c4 : (l0.length : Int) = (l1.length : Int)
 ·
  rw [if_pos c4] at H
  have c4b0 : ((l0.length : Int) == (l1.length : Int)) = true := beq_iff_eq.mpr c4
  have c4b1 : ((l0.length : Int) != (l1.length : Int)) = false := bne_eq_false_iff_eq.mpr c4
  have c4b2 : (l0.length == l1.length) = true := by first | simpa using c4 | (simp at c4 ⊢; omega)
  clear c4
  have H' := yD H
  clear H; go_enter Try.func33, Try.ntmps33
  go_wp2
  go_loopg [17] k (fun kq v17 w' => ∃ (x17_1 : Int), v17 = .int .i64 x17_1 ∧ Aside0 (slices_EqualFunc_impl_samePoint.l0 kq l1 l0 (l0.length : Int) x17_1 = some r) ∧ Aside0 (kq ≤ k) ∧ Aside0 (Below w.heap.size w w'))
  case atStart => exact ⟨(0), (by first | rfl | (simp; done) | (simp [*]; done)), H', ⟨Nat.le_refl _⟩, ⟨by repeat (first | (with_reducible first | exact HB.out | apply yQ | apply yL | apply yP) | exact HB.out)⟩⟩
  case round =>
   clear H'
   try clear c1; try clear p2; try clear c4; try clear c4b0; try clear c4b1; try clear c4b2
   obtain ⟨x17_1, rfl, HA, HK1, HB⟩ := hrel
   cases gk with
   | zero => exact absurd HA.out (by simp [slices_EqualFunc_impl_samePoint.l0])
   | succ k1 =>
    have H := HA.out; clear HA
    simp only [slices_EqualFunc_impl_samePoint.l0] at H
    by_cases c5 : x17_1 < (l0.length : Int)
    ·
     rw [if_pos c5] at H; have c5b0 : decide (x17_1 < (l0.length : Int)) = true := zR c5; clear c5
     by_cases c6 : 0 ≤ x17_1
     ·
      rw [if_pos c6] at H; have c6b0 : decide (0 ≤ x17_1) = true := zR c6; clear c6
      by_cases c7 : x17_1 < (l0.length : Int)
      ·
       rw [if_pos c7] at H; have c7b0 : decide (x17_1 < (l0.length : Int)) = true := zR c7; clear c7
       by_cases c8 : x17_1 < (l1.length : Int)
       ·
        rw [if_pos c8] at H; have c8b0 : decide (x17_1 < (l1.length : Int)) = true := zR c8; clear c8
        obtain ⟨t219, A90, H⟩ := zW_ H
        replace H : (if t219 = true then (slices_EqualFunc_impl_samePoint.l0 k1 l1 l0 (l0.length : Int) (wrap64 (x17_1 + 1))) else (some false)) = some r := H
        have A9 := yD A90
        clear A90
        by_cases c10 : t219 = true
        ·
         subst c10
         have H1 : (slices_EqualFunc_impl_samePoint.l0 k1 l1 l0 (l0.length : Int) (wrap64 (x17_1 + 1))) = some r := by rw [if_pos rfl] at H; exact H
         clear H; have H := H1; clear H1
         have H' := yD H
         clear H
         have p215 : 0 ≤ (x17_1 : Int) := zP (by assumption)
         have q215 : x17_1 < (l0.length : Int) := zP (by assumption)
         obtain ⟨ad215, A215_0, c215_0, e215, hx215_0, hl215_0, hi215_0⟩ := at_T48 HR0.out x17_1 p215 q215
         cases e215
         replace hx215_0 := (HB.out.cell (zQ w _ hx215_0)).trans hx215_0
         have HR215_0 := yD hi215_0
         have HC215_0 := yD hl215_0
         clear hi215_0 hl215_0; replace p215 := eq_true p215; replace q215 := eq_true q215
         go_wp2_with (first | ((with_reducible refine gate_dst (N := 8) rfl ?_); refine box_event ?hg (N := 8) ?hd (cs := #[.slice none 0 0]) (t := 48) ?hr ?_; (case hd => rfl); (case hg => rfl); (case hr => first | (go_simp; done) | (go_simp; rfl)); intro gb216 hg w11 hbox hb; have n0_ := yD (zC (by repeat (first | (with_reducible first | exact HB.out | apply yQ | apply yL | apply yP) | exact HB.out)) hb); have n1_ := yD (hbox); have n2_ := yD ((by rw [hg]; exact (below_size (by repeat (first | (with_reducible first | exact HB.out | apply yQ | apply yL | apply yP) | exact HB.out))) : w.heap.size ≤ gb216)); have n3_ := yD ((by rw [hg]; exact (below_size (by repeat (first | (with_reducible first | exact HB.out | apply yQ | apply yL | apply yP) | exact HB.out))) : w.heap.size ≤ gb216)); clear HB; have HB := n0_; have BK216 := n1_; have GW216 := n2_; have GE216 := n3_; clear n0_ n1_ n2_ n3_; clear hb hbox hg; have hcz12_0 : w11.cell? ⟨gb216, 0, none⟩ = some (.slice none 0 0) := (yG BK216.out 0).trans rfl; have hfz12_0 := yR BK216.out 0; have p217 : 0 ≤ (x17_1 : Int) := zP (by assumption); have q217 : x17_1 < (l1.length : Int) := zP (by assumption); obtain ⟨ad217, A217_0, c217_0, e217, hx217_0, hl217_0, hi217_0⟩ := at_T48 HR1.out x17_1 p217 q217; cases e217; have hn217_0 : ad217.block ≠ gb216 := Nat.ne_of_lt (Nat.lt_of_lt_of_le (by have := zQ _ _ hx217_0; first | rwa [add_block] at this | exact this) GW216.out); replace hx217_0 := (HB.out.cell (zQ w _ hx217_0)).trans hx217_0; have HR217_0 := yD hi217_0; have HC217_0 := yD hl217_0; clear hi217_0 hl217_0; replace hx217_0 := (cell_far (p := ⟨gb216, 0, none⟩) (by first | (rw [add_block]; exact hn217_0) | (show (Addr.add _ _).block ≠ _; rw [add_block]; exact hn217_0) | exact hn217_0) (.slice A215_0 ((rd_T48 l0 x17_1).f0).length c215_0)).trans hx217_0; clear hn217_0; replace p217 := eq_true p217; replace q217 := eq_true q217) | ((with_reducible refine gate_dst (N := 9) rfl ?_); refine box_event ?hg (N := 9) ?hd (cs := #[.slice none 0 0]) (t := 48) ?hr ?_; (case hd => rfl); (case hg => rfl); (case hr => first | (go_simp; done) | (go_simp; rfl)); intro gb218 hg w13 hbox hb; have n0_ := yD (zB (g := gb216) (o := .cells #[.slice A215_0 ((rd_T48 l0 x17_1).f0).length c215_0] 48 (0, 0)) (by (with_reducible repeat (first | refine yM ?_ _ | refine yO ?_ | refine yN ?_ _)); refine blk_put (cs := #[.slice none 0 0]) ?_ 0 _ rfl; (with_reducible repeat (first | refine yM ?_ _ | refine yO ?_ | refine yN ?_ _)); exact BK216.out) hb); have n1_ := yD (zC (by repeat (first | (with_reducible first | exact HB.out | apply yQ | apply yL | apply yP | refine yE ?_ GE216.out) | exact HB.out)) hb); have n2_ := yD (hbox); have n3_ := yD ((by rw [hg]; exact (below_size (by repeat (first | (with_reducible first | exact HB.out | apply yQ | apply yL | apply yP | refine yE ?_ GE216.out) | exact HB.out))) : w.heap.size ≤ gb218)); have n4_ := yD ((by rw [hg]; exact (below_size (by repeat (first | (with_reducible first | exact HB.out | apply yQ | apply yL | apply yP | refine yE ?_ GE216.out) | exact HB.out))) : w.heap.size ≤ gb218)); have n5_ := yD ((by rw [hg]; exact Nat.ne_of_lt (blk_lt (g := gb216) (o := .cells #[.slice A215_0 ((rd_T48 l0 x17_1).f0).length c215_0] 48 (0, 0)) (by (with_reducible repeat (first | refine yM ?_ _ | refine yO ?_ | refine yN ?_ _)); refine blk_put (cs := #[.slice none 0 0]) ?_ 0 _ rfl; (with_reducible repeat (first | refine yM ?_ _ | refine yO ?_ | refine yN ?_ _)); exact BK216.out)) : gb216 ≠ gb218)); have n6_ := yD ((by rw [hg]; exact Nat.ne_of_gt (blk_lt (g := gb216) (o := .cells #[.slice A215_0 ((rd_T48 l0 x17_1).f0).length c215_0] 48 (0, 0)) (by (with_reducible repeat (first | refine yM ?_ _ | refine yO ?_ | refine yN ?_ _)); refine blk_put (cs := #[.slice none 0 0]) ?_ 0 _ rfl; (with_reducible repeat (first | refine yM ?_ _ | refine yO ?_ | refine yN ?_ _)); exact BK216.out)) : gb218 ≠ gb216)); clear BK216; clear HB; have BK216 := n0_; have HB := n1_; have BK218 := n2_; have GW218 := n3_; have GE218 := n4_; have NB216_218 := n5_; have NB218_216 := n6_; clear n0_ n1_ n2_ n3_ n4_ n5_ n6_; clear hb hbox hg; have hnb14 := NB218_216.out; have hnc14 := NB216_218.out; have hcz15_0 : w13.cell? ⟨gb218, 0, none⟩ = some (.slice none 0 0) := (yG BK218.out 0).trans rfl; have hfz15_0 := yR BK218.out 0; have hcz16_0 : w13.cell? ⟨gb216, 0, none⟩ = some (.slice A215_0 ((rd_T48 l0 x17_1).f0).length c215_0) := (yG BK216.out 0).trans rfl; have hfz16_0 := yR BK216.out 0) | (go_at_call 34; (with_reducible refine (impl_samePoint.calls k1 _ _ ((rd_T48 l0 x17_1).f0) _ _ ((rd_T48 l1 x17_1).f0) true _ ?side1 ?side2 ?side3 ?side4 A9.out).mono ?_); (case side1 => exact yY HR215_0.out (by repeat (first | (with_reducible first | exact HB.out | apply yQ | apply yL | apply yP | refine yE ?_ GE216.out | refine yE ?_ GE218.out) | exact HB.out))); (case side2 => exact HC215_0.out); (case side3 => exact yY HR217_0.out (by repeat (first | (with_reducible first | exact HB.out | apply yQ | apply yL | apply yP | refine yE ?_ GE216.out | refine yE ?_ GE218.out) | exact HB.out))); (case side4 => exact HC217_0.out); rintro e w17 ⟨rfl, hb⟩; have n0_ := yD (zB (g := gb216) (o := .cells #[.slice A215_0 ((rd_T48 l0 x17_1).f0).length c215_0] 48 (0, 0)) (by (with_reducible repeat (first | refine yM ?_ _ | refine yO ?_ | refine yN ?_ _)); refine blk_far ?_ NB216_218.out _; (with_reducible repeat (first | refine yM ?_ _ | refine yO ?_ | refine yN ?_ _)); exact BK216.out) hb); have n1_ := yD (zB (g := gb218) (o := .cells #[.slice A217_0 ((rd_T48 l1 x17_1).f0).length c217_0] 48 (0, 0)) (by (with_reducible repeat (first | refine yM ?_ _ | refine yO ?_ | refine yN ?_ _)); refine blk_put (cs := #[.slice none 0 0]) ?_ 0 _ rfl; (with_reducible repeat (first | refine yM ?_ _ | refine yO ?_ | refine yN ?_ _)); exact BK218.out) hb); have n2_ := yD (zC (by repeat (first | (with_reducible first | exact HB.out | apply yQ | apply yL | apply yP | refine yE ?_ GE216.out | refine yE ?_ GE218.out) | exact HB.out)) hb); clear BK216; clear BK218; clear HB; have BK216 := n0_; have BK218 := n1_; have HB := n2_; clear n0_ n1_ n2_; (try clear hb); (try clear hb2); (try clear hk); (try clear hi)))
         go_roundg k1
         case measure => have := HK1.out; omega
         case rel => exact ⟨(wrap64 (x17_1 + 1)), (by first | rfl | (simp; done) | (simp [*]; done)), H', ⟨by have := HK1.out; omega⟩, ⟨by repeat (first | (with_reducible first | exact HB.out | apply yQ | apply yL | apply yP | refine yE ?_ GE216.out | refine yE ?_ GE218.out) | exact HB.out)⟩⟩
        ·
         replace c10 := Bool.eq_false_iff.mpr c10
         subst c10
         have H1 : (some false) = some r := by rw [if_neg (show ¬ (false = true) by decide)] at H; exact H
         clear H; have H := H1; clear H1; obtain rfl := Option.some.inj H
         have p215 : 0 ≤ (x17_1 : Int) := zP (by assumption)
         have q215 : x17_1 < (l0.length : Int) := zP (by assumption)
         obtain ⟨ad215, A215_0, c215_0, e215, hx215_0, hl215_0, hi215_0⟩ := at_T48 HR0.out x17_1 p215 q215
         cases e215
         replace hx215_0 := (HB.out.cell (zQ w _ hx215_0)).trans hx215_0
         have HR215_0 := yD hi215_0
         have HC215_0 := yD hl215_0
         clear hi215_0 hl215_0; replace p215 := eq_true p215; replace q215 := eq_true q215
         go_wp2_with (first | ((with_reducible refine gate_dst (N := 8) rfl ?_); refine box_event ?hg (N := 8) ?hd (cs := #[.slice none 0 0]) (t := 48) ?hr ?_; (case hd => rfl); (case hg => rfl); (case hr => first | (go_simp; done) | (go_simp; rfl)); intro gb216 hg w18 hbox hb; have n0_ := yD (zC (by repeat (first | (with_reducible first | exact HB.out | apply yQ | apply yL | apply yP) | exact HB.out)) hb); have n1_ := yD (hbox); have n2_ := yD ((by rw [hg]; exact (below_size (by repeat (first | (with_reducible first | exact HB.out | apply yQ | apply yL | apply yP) | exact HB.out))) : w.heap.size ≤ gb216)); have n3_ := yD ((by rw [hg]; exact (below_size (by repeat (first | (with_reducible first | exact HB.out | apply yQ | apply yL | apply yP) | exact HB.out))) : w.heap.size ≤ gb216)); clear HB; have HB := n0_; have BK216 := n1_; have GW216 := n2_; have GE216 := n3_; clear n0_ n1_ n2_ n3_; clear hb hbox hg; have hcz19_0 : w18.cell? ⟨gb216, 0, none⟩ = some (.slice none 0 0) := (yG BK216.out 0).trans rfl; have hfz19_0 := yR BK216.out 0; have p217 : 0 ≤ (x17_1 : Int) := zP (by assumption); have q217 : x17_1 < (l1.length : Int) := zP (by assumption); obtain ⟨ad217, A217_0, c217_0, e217, hx217_0, hl217_0, hi217_0⟩ := at_T48 HR1.out x17_1 p217 q217; cases e217; have hn217_0 : ad217.block ≠ gb216 := Nat.ne_of_lt (Nat.lt_of_lt_of_le (by have := zQ _ _ hx217_0; first | rwa [add_block] at this | exact this) GW216.out); replace hx217_0 := (HB.out.cell (zQ w _ hx217_0)).trans hx217_0; have HR217_0 := yD hi217_0; have HC217_0 := yD hl217_0; clear hi217_0 hl217_0; replace hx217_0 := (cell_far (p := ⟨gb216, 0, none⟩) (by first | (rw [add_block]; exact hn217_0) | (show (Addr.add _ _).block ≠ _; rw [add_block]; exact hn217_0) | exact hn217_0) (.slice A215_0 ((rd_T48 l0 x17_1).f0).length c215_0)).trans hx217_0; clear hn217_0; replace p217 := eq_true p217; replace q217 := eq_true q217) | ((with_reducible refine gate_dst (N := 9) rfl ?_); refine box_event ?hg (N := 9) ?hd (cs := #[.slice none 0 0]) (t := 48) ?hr ?_; (case hd => rfl); (case hg => rfl); (case hr => first | (go_simp; done) | (go_simp; rfl)); intro gb218 hg w20 hbox hb; have n0_ := yD (zB (g := gb216) (o := .cells #[.slice A215_0 ((rd_T48 l0 x17_1).f0).length c215_0] 48 (0, 0)) (by (with_reducible repeat (first | refine yM ?_ _ | refine yO ?_ | refine yN ?_ _)); refine blk_put (cs := #[.slice none 0 0]) ?_ 0 _ rfl; (with_reducible repeat (first | refine yM ?_ _ | refine yO ?_ | refine yN ?_ _)); exact BK216.out) hb); have n1_ := yD (zC (by repeat (first | (with_reducible first | exact HB.out | apply yQ | apply yL | apply yP | refine yE ?_ GE216.out) | exact HB.out)) hb); have n2_ := yD (hbox); have n3_ := yD ((by rw [hg]; exact (below_size (by repeat (first | (with_reducible first | exact HB.out | apply yQ | apply yL | apply yP | refine yE ?_ GE216.out) | exact HB.out))) : w.heap.size ≤ gb218)); have n4_ := yD ((by rw [hg]; exact (below_size (by repeat (first | (with_reducible first | exact HB.out | apply yQ | apply yL | apply yP | refine yE ?_ GE216.out) | exact HB.out))) : w.heap.size ≤ gb218)); have n5_ := yD ((by rw [hg]; exact Nat.ne_of_lt (blk_lt (g := gb216) (o := .cells #[.slice A215_0 ((rd_T48 l0 x17_1).f0).length c215_0] 48 (0, 0)) (by (with_reducible repeat (first | refine yM ?_ _ | refine yO ?_ | refine yN ?_ _)); refine blk_put (cs := #[.slice none 0 0]) ?_ 0 _ rfl; (with_reducible repeat (first | refine yM ?_ _ | refine yO ?_ | refine yN ?_ _)); exact BK216.out)) : gb216 ≠ gb218)); have n6_ := yD ((by rw [hg]; exact Nat.ne_of_gt (blk_lt (g := gb216) (o := .cells #[.slice A215_0 ((rd_T48 l0 x17_1).f0).length c215_0] 48 (0, 0)) (by (with_reducible repeat (first | refine yM ?_ _ | refine yO ?_ | refine yN ?_ _)); refine blk_put (cs := #[.slice none 0 0]) ?_ 0 _ rfl; (with_reducible repeat (first | refine yM ?_ _ | refine yO ?_ | refine yN ?_ _)); exact BK216.out)) : gb218 ≠ gb216)); clear BK216; clear HB; have BK216 := n0_; have HB := n1_; have BK218 := n2_; have GW218 := n3_; have GE218 := n4_; have NB216_218 := n5_; have NB218_216 := n6_; clear n0_ n1_ n2_ n3_ n4_ n5_ n6_; clear hb hbox hg; have hnb21 := NB218_216.out; have hnc21 := NB216_218.out; have hcz22_0 : w20.cell? ⟨gb218, 0, none⟩ = some (.slice none 0 0) := (yG BK218.out 0).trans rfl; have hfz22_0 := yR BK218.out 0; have hcz23_0 : w20.cell? ⟨gb216, 0, none⟩ = some (.slice A215_0 ((rd_T48 l0 x17_1).f0).length c215_0) := (yG BK216.out 0).trans rfl; have hfz23_0 := yR BK216.out 0) | (go_at_call 34; (with_reducible refine (impl_samePoint.calls k1 _ _ ((rd_T48 l0 x17_1).f0) _ _ ((rd_T48 l1 x17_1).f0) false _ ?side1 ?side2 ?side3 ?side4 A9.out).mono ?_); (case side1 => exact yY HR215_0.out (by repeat (first | (with_reducible first | exact HB.out | apply yQ | apply yL | apply yP | refine yE ?_ GE216.out | refine yE ?_ GE218.out) | exact HB.out))); (case side2 => exact HC215_0.out); (case side3 => exact yY HR217_0.out (by repeat (first | (with_reducible first | exact HB.out | apply yQ | apply yL | apply yP | refine yE ?_ GE216.out | refine yE ?_ GE218.out) | exact HB.out))); (case side4 => exact HC217_0.out); rintro e w24 ⟨rfl, hb⟩; have n0_ := yD (zB (g := gb216) (o := .cells #[.slice A215_0 ((rd_T48 l0 x17_1).f0).length c215_0] 48 (0, 0)) (by (with_reducible repeat (first | refine yM ?_ _ | refine yO ?_ | refine yN ?_ _)); refine blk_far ?_ NB216_218.out _; (with_reducible repeat (first | refine yM ?_ _ | refine yO ?_ | refine yN ?_ _)); exact BK216.out) hb); have n1_ := yD (zB (g := gb218) (o := .cells #[.slice A217_0 ((rd_T48 l1 x17_1).f0).length c217_0] 48 (0, 0)) (by (with_reducible repeat (first | refine yM ?_ _ | refine yO ?_ | refine yN ?_ _)); refine blk_put (cs := #[.slice none 0 0]) ?_ 0 _ rfl; (with_reducible repeat (first | refine yM ?_ _ | refine yO ?_ | refine yN ?_ _)); exact BK218.out) hb); have n2_ := yD (zC (by repeat (first | (with_reducible first | exact HB.out | apply yQ | apply yL | apply yP | refine yE ?_ GE216.out | refine yE ?_ GE218.out) | exact HB.out)) hb); clear BK216; clear BK218; clear HB; have BK216 := n0_; have BK218 := n1_; have HB := n2_; clear n0_ n1_ n2_; (try clear hb); (try clear hb2); (try clear hk); (try clear hi)))
         go_ret
         exact ⟨by first | rfl | (simp <;> rfl) | (simp [*] <;> rfl), by repeat (first | (with_reducible first | exact HB.out | apply yQ | apply yL | apply yP | refine yE ?_ GE216.out | refine yE ?_ GE218.out) | exact HB.out)⟩
       ·
        rw [if_neg c8] at H
        exact absurd H (by simp)
      ·
       rw [if_neg c7] at H
       exact absurd H (by simp)
     ·
      rw [if_neg c6] at H
      exact absurd H (by simp)
    ·
     rw [if_neg c5] at H; have c5b0 : decide (x17_1 < (l0.length : Int)) = false := zS c5; clear c5; obtain rfl := Option.some.inj H
     go_wp2
     go_ret
     exact ⟨by first | rfl | (simp <;> rfl) | (simp [*] <;> rfl), by repeat (first | (with_reducible first | exact HB.out | apply yQ | apply yL | apply yP) | exact HB.out)⟩
 ·
  rw [if_neg c4] at H
  have c4b0 : ((l0.length : Int) == (l1.length : Int)) = false := beq_eq_false_iff_ne.mpr c4
  have c4b1 : ((l0.length : Int) != (l1.length : Int)) = true := bne_iff_ne.mpr c4
  have c4b2 : (l0.length == l1.length) = false := by first | simpa using c4 | (simp at c4 ⊢; omega)
  obtain rfl := Option.some.inj H; go_enter Try.func33, Try.ntmps33
  go_wp2
  go_ret
  exact ⟨by first | rfl | (simp <;> rfl) | (simp [*] <;> rfl), by repeat (first | (with_reducible first | exact HB.out | apply yQ | apply yL | apply yP) | exact HB.out)⟩

end Go.Proofs.Ytobdoafjlbifpaa.PFnExactValidSelection
