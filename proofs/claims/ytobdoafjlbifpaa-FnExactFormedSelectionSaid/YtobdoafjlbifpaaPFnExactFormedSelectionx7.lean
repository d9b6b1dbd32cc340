/- Each Go function here comes to what the plain function of its name says, where that says something. Made by a program of this session, over the print. -/
import Derived.Test.YtobdoafjlbifpaaPFnExactFormedSelectionx0
import Derived.Test.YtobdoafjlbifpaaPFnExactFormedSelectionx5
import Derived.Test.YtobdoafjlbifpaaPFnExactFormedSelectionx6
namespace Go.Proofs.Ytobdoafjlbifpaa.PFnExactFormedSelection
open Go.RowKit Go.Proofs.YtobdoafjlbifpaaW.PrintWords Go.Proofs.YtobdoafjlbifpaaW.PrintLast Go.Proofs.YtobdoafjlbifpaaW.PrintMore
attribute [local go_sem] max2_int min2_int max_two min_two max_three min_three max_four min_four   -- for this text's walks alone
set_option linter.unusedVariables false
set_option linter.unusedSimpArgs false

/-! ### impl_allWithin_1: function 50 -/
def impl_allWithin_1.f (a0 : Int) (a1_0 : Int) (a2_0 : Int) : Option (Bool) := (impl_within.f a0 a1_0 a2_0).bind fun t223 => (some (!t223))
set_option maxHeartbeats 8000000 in
set_option maxRecDepth 100000 in
theorem impl_allWithin_1.calls (a0 : Int) (g1_0 : Nat) (a1_0 : Int) (g2_0 : Nat) (a2_0 : Int) (r : Bool) (w : World) (hb1_0 : w.heap[g1_0]? = some (.cells #[.int .i64 a1_0] 2 (0, 0))) (hb2_0 : w.heap[g2_0]? = some (.cells #[.int .i64 a2_0] 2 (0, 0))) (h : impl_allWithin_1.f a0 a1_0 a2_0 = some r) :
  Calls Try.prog 50 #[.int .i64 a0, .pointer (some ⟨g1_0, 0, none⟩), .pointer (some ⟨g2_0, 0, none⟩)] w fun e w' => e = .returned (.bool r) ∧ Below w.heap.size w w' := by
 have BK48 := yD hb1_0
 clear hb1_0
 have BK56 := yD hb2_0
 clear hb2_0
 have HB := yD (Below.refl w.heap.size w)
 have H : ((impl_within.f a0 a1_0 a2_0).bind fun t223 => (some (!t223))) = some r := h
 clear h
 obtain ⟨t223, A40, H⟩ := zW_ H
 replace H : (some (!t223)) = some r := H
 have A4 := yD A40
 clear A40; obtain rfl := Option.some.inj H
 have hcz5_0 : w.cell? ⟨g1_0, 0, none⟩ = some (.int .i64 a1_0) := (yG BK48.out 0).trans rfl
 have hfz5_0 := yR BK48.out 0
 have hcz6_0 : w.cell? ⟨g2_0, 0, none⟩ = some (.int .i64 a2_0) := (yG BK56.out 0).trans rfl
 have hfz6_0 := yR BK56.out 0
 go_enter Try.func50, Try.ntmps50
 go_wp2_with (first | ((with_reducible refine gate_callee (f := 35) rfl ?_); refine goesL_ (some 8) rfl rfl Try.func35 (by kernel_rfl) rfl #[.int .i64 a0, .int .i64 a1_0, .int .i64 a2_0] rfl (by (try simp only [zK, zL, zM]); first | done | rfl | (simp only [zN, zO]; rfl)) ?_; (with_reducible refine (impl_within.calls a0 a1_0 a2_0 t223 _ A4.out).mono ?_); rintro e w' ⟨rfl, ⟨nd, rfl⟩⟩; refine ⟨_, rfl, ?_⟩))
 go_ret
 exact ⟨by first | rfl | (simp <;> rfl) | (simp [*] <;> rfl), by repeat (first | (with_reducible first | exact HB.out | apply yQ | apply yL | apply yP | refine yE ?_ GE48.out | refine yE ?_ GE56.out) | exact HB.out)⟩

/-! ### slices_IndexFunc_impl_allWithin_1: function 51 -/
def slices_IndexFunc_impl_allWithin_1.l0 : Nat → List Int → Int → Int → Int → Int → Option (Int)
 | 0, _, _, _, _, _ => none
 | k + 1, x0, x7, x8, x49000, x50000 => if x8 < x7 then (if 0 ≤ x8 then (if x8 < (x0.length : Int) then ((impl_allWithin_1.f (rd x0 x8) x49000 x50000).bind fun t225 => (if t225 = true then (some x8) else (slices_IndexFunc_impl_allWithin_1.l0 k x0 x7 (wrap64 (x8 + 1)) x49000 x50000))) else (none)) else (none)) else (some (-1))
def slices_IndexFunc_impl_allWithin_1.f (k : Nat) (l0 : List Int) (a1_0 : Int) (a1_1 : Int) : Option (Int) := slices_IndexFunc_impl_allWithin_1.l0 k l0 (l0.length : Int) 0 a1_0 a1_1
theorem slices_IndexFunc_impl_allWithin_1.mono_l : ∀ k, (∀ y0 y1 y2 y3 y4, LeO (slices_IndexFunc_impl_allWithin_1.l0 k y0 y1 y2 y3 y4) (slices_IndexFunc_impl_allWithin_1.l0 (k + 1) y0 y1 y2 y3 y4))
 | 0 => fun _ _ _ _ _ r h => by simp [slices_IndexFunc_impl_allWithin_1.l0] at h
 | k + 1 => by
  have ih0 := slices_IndexFunc_impl_allWithin_1.mono_l k
  ·
   intro y0 y1 y2 y3 y4
   unfold slices_IndexFunc_impl_allWithin_1.l0
   repeat' first
   | (with_reducible exact ih0 _ _ _ _ _)
   | (with_reducible exact LeO.refl _)
   | (with_reducible exact LeO.none _)
   | (with_reducible refine LeO.ite ?_ ?_)
   | (with_reducible refine LeO.bind ?_ (fun _ => ?_))
   | exact ih0 _ _ _ _ _
   | exact LeO.none _
   | refine LeO.ite ?_ ?_
   | refine LeO.bind ?_ (fun _ => ?_)
theorem slices_IndexFunc_impl_allWithin_1.mono : ∀ a0 a1 a2 k, LeO (slices_IndexFunc_impl_allWithin_1.f k a0 a1 a2) (slices_IndexFunc_impl_allWithin_1.f (k + 1) a0 a1 a2) := by
 intro a0 a1 a2 k
 have ih0 := slices_IndexFunc_impl_allWithin_1.mono_l k
 unfold slices_IndexFunc_impl_allWithin_1.f
 repeat' first
   | (with_reducible exact ih0 _ _ _ _ _)
   | (with_reducible exact LeO.refl _)
   | (with_reducible exact LeO.none _)
   | (with_reducible refine LeO.ite ?_ ?_)
   | (with_reducible refine LeO.bind ?_ (fun _ => ?_))
   | exact ih0 _ _ _ _ _
   | exact LeO.none _
   | refine LeO.ite ?_ ?_
   | refine LeO.bind ?_ (fun _ => ?_)
set_option maxHeartbeats 8000000 in
set_option maxRecDepth 100000 in
theorem slices_IndexFunc_impl_allWithin_1.calls (k : Nat) (A0 : Option Addr) (c0 : Nat) (l0 : List Int) (g1_0 : Nat) (g1_1 : Nat) (a1_0 : Int) (a1_1 : Int) (r : Int) (w : World) (hr0 : Kd.C (Kd.int .i64) w A0 l0.length l0) (hc0 : l0.length ≤ c0) (hb1_0 : w.heap[g1_0]? = some (.cells #[.int .i64 a1_0] 2 (0, 0))) (hb1_1 : w.heap[g1_1]? = some (.cells #[.int .i64 a1_1] 2 (0, 0))) (h : slices_IndexFunc_impl_allWithin_1.f k l0 a1_0 a1_1 = some r) :
  Calls Try.prog 51 #[.slice A0 l0.length c0, .func (.func 50) #[] #[.pointer (some ⟨g1_0, 0, none⟩), .pointer (some ⟨g1_1, 0, none⟩)]] w fun e w' => e = .returned (.int .i64 r) ∧ Below w.heap.size w w' := by
 have HR0 := yD hr0
 have HC0 := yD hc0
 clear hr0 hc0
 have BK48 := yD hb1_0
 clear hb1_0
 have BK49 := yD hb1_1
 clear hb1_1
 have HB := yD (Below.refl w.heap.size w)
 have H : (slices_IndexFunc_impl_allWithin_1.l0 k l0 (l0.length : Int) 0 a1_0 a1_1) = some r := h
 clear h
 have H' := yD H
 clear H; go_enter Try.func51, Try.ntmps51
 go_wp2
 go_loopg [8] k (fun kq v8 w' => ∃ (x8_1 : Int), v8 = .int .i64 x8_1 ∧ Aside0 (slices_IndexFunc_impl_allWithin_1.l0 kq l0 (l0.length : Int) x8_1 a1_0 a1_1 = some r) ∧ Aside0 (kq ≤ k) ∧ Aside0 (w'.heap[g1_0]? = some (.cells #[.int .i64 a1_0] 2 (0, 0))) ∧ Aside0 (w'.heap[g1_1]? = some (.cells #[.int .i64 a1_1] 2 (0, 0))) ∧ Aside0 (Below w.heap.size w w'))
 case atStart => exact ⟨(0), (by first | rfl | (simp; done) | (simp [*]; done)), H', ⟨Nat.le_refl _⟩, ⟨by (with_reducible repeat (first | refine yM ?_ _ | refine yO ?_ | refine yN ?_ _)); exact BK48.out⟩, ⟨by (with_reducible repeat (first | refine yM ?_ _ | refine yO ?_ | refine yN ?_ _)); exact BK49.out⟩, ⟨by repeat (first | (with_reducible first | exact HB.out | apply yQ | apply yL | apply yP | refine yE ?_ GE48.out | refine yE ?_ GE49.out) | exact HB.out)⟩⟩
 case round =>
  clear H'
  try clear p2
  obtain ⟨x8_1, rfl, HA, HK1, BK48, BK49, HB⟩ := hrel
  cases gk with
  | zero => exact absurd HA.out (by simp [slices_IndexFunc_impl_allWithin_1.l0])
  | succ k1 =>
   have H := HA.out; clear HA
   simp only [slices_IndexFunc_impl_allWithin_1.l0] at H
   by_cases c3 : x8_1 < (l0.length : Int)
   ·
    rw [if_pos c3] at H; have c3b0 : decide (x8_1 < (l0.length : Int)) = true := zR c3; clear c3
    by_cases c4 : 0 ≤ x8_1
    ·
     rw [if_pos c4] at H; have c4b0 : decide (0 ≤ x8_1) = true := zR c4; clear c4
     by_cases c5 : x8_1 < (l0.length : Int)
     ·
      rw [if_pos c5] at H; have c5b0 : decide (x8_1 < (l0.length : Int)) = true := zR c5; clear c5
      obtain ⟨t225, A60, H⟩ := zW_ H
      replace H : (if t225 = true then (some x8_1) else (slices_IndexFunc_impl_allWithin_1.l0 k1 l0 (l0.length : Int) (wrap64 (x8_1 + 1)) a1_0 a1_1)) = some r := H
      have A6 := yD A60
      clear A60
      by_cases c7 : t225 = true
      ·
       subst c7
       have H1 : (some x8_1) = some r := by rw [if_pos rfl] at H; exact H
       clear H; have H := H1; clear H1; obtain rfl := Option.some.inj H
       have p224 : 0 ≤ (x8_1 : Int) := zP (by assumption)
       have q224 : x8_1 < (l0.length : Int) := zP (by assumption)
       obtain ⟨ad224, e224, hx224_0⟩ := Kd.at_int HR0.out x8_1 p224 q224
       cases e224
       replace hx224_0 := (HB.out.cell (zQ w _ hx224_0)).trans hx224_0
       replace p224 := eq_true p224; replace q224 := eq_true q224
       go_wp2_with (first | (go_at_call 50; (with_reducible refine (impl_allWithin_1.calls (rd l0 x8_1) g1_0 a1_0 g1_1 a1_1 true _ ?side1 ?side2 A6.out).mono ?_); (case side1 => (with_reducible repeat (first | refine yM ?_ _ | refine yO ?_ | refine yN ?_ _)); exact BK48.out); (case side2 => (with_reducible repeat (first | refine yM ?_ _ | refine yO ?_ | refine yN ?_ _)); exact BK49.out); rintro e w8 ⟨rfl, hb⟩; have n0_ := yD (zB (g := g1_0) (o := .cells #[.int .i64 a1_0] 2 (0, 0)) (by exact BK48.out) hb); have n1_ := yD (zB (g := g1_1) (o := .cells #[.int .i64 a1_1] 2 (0, 0)) (by exact BK49.out) hb); have n2_ := yD (zC (by exact HB.out) hb); clear BK48; clear BK49; clear HB; have BK48 := n0_; have BK49 := n1_; have HB := n2_; clear n0_ n1_ n2_; (try clear hb); (try clear hb2); (try clear hk); (try clear hi)))
       go_ret
       exact ⟨by first | rfl | (simp <;> rfl) | (simp [*] <;> rfl), by repeat (first | (with_reducible first | exact HB.out | apply yQ | apply yL | apply yP | refine yE ?_ GE48.out | refine yE ?_ GE49.out) | exact HB.out)⟩
      ·
       replace c7 := Bool.eq_false_iff.mpr c7
       subst c7
       have H1 : (slices_IndexFunc_impl_allWithin_1.l0 k1 l0 (l0.length : Int) (wrap64 (x8_1 + 1)) a1_0 a1_1) = some r := by rw [if_neg (show ¬ (false = true) by decide)] at H; exact H
       clear H; have H := H1; clear H1
       have H' := yD H
       clear H
       have p224 : 0 ≤ (x8_1 : Int) := zP (by assumption)
       have q224 : x8_1 < (l0.length : Int) := zP (by assumption)
       obtain ⟨ad224, e224, hx224_0⟩ := Kd.at_int HR0.out x8_1 p224 q224
       cases e224
       replace hx224_0 := (HB.out.cell (zQ w _ hx224_0)).trans hx224_0
       replace p224 := eq_true p224; replace q224 := eq_true q224
       go_wp2_with (first | (go_at_call 50; (with_reducible refine (impl_allWithin_1.calls (rd l0 x8_1) g1_0 a1_0 g1_1 a1_1 false _ ?side1 ?side2 A6.out).mono ?_); (case side1 => (with_reducible repeat (first | refine yM ?_ _ | refine yO ?_ | refine yN ?_ _)); exact BK48.out); (case side2 => (with_reducible repeat (first | refine yM ?_ _ | refine yO ?_ | refine yN ?_ _)); exact BK49.out); rintro e w9 ⟨rfl, hb⟩; have n0_ := yD (zB (g := g1_0) (o := .cells #[.int .i64 a1_0] 2 (0, 0)) (by exact BK48.out) hb); have n1_ := yD (zB (g := g1_1) (o := .cells #[.int .i64 a1_1] 2 (0, 0)) (by exact BK49.out) hb); have n2_ := yD (zC (by exact HB.out) hb); clear BK48; clear BK49; clear HB; have BK48 := n0_; have BK49 := n1_; have HB := n2_; clear n0_ n1_ n2_; (try clear hb); (try clear hb2); (try clear hk); (try clear hi)))
       go_roundg k1
       case measure => have := HK1.out; omega
       case rel => exact ⟨(wrap64 (x8_1 + 1)), (by first | rfl | (simp; done) | (simp [*]; done)), H', ⟨by have := HK1.out; omega⟩, ⟨by (with_reducible repeat (first | refine yM ?_ _ | refine yO ?_ | refine yN ?_ _)); exact BK48.out⟩, ⟨by (with_reducible repeat (first | refine yM ?_ _ | refine yO ?_ | refine yN ?_ _)); exact BK49.out⟩, ⟨by repeat (first | (with_reducible first | exact HB.out | apply yQ | apply yL | apply yP | refine yE ?_ GE48.out | refine yE ?_ GE49.out) | exact HB.out)⟩⟩
     ·
      rw [if_neg c5] at H
      exact absurd H (by simp)
    ·
     rw [if_neg c4] at H
     exact absurd H (by simp)
   ·
    rw [if_neg c3] at H; have c3b0 : decide (x8_1 < (l0.length : Int)) = false := zS c3; clear c3; obtain rfl := Option.some.inj H
    go_wp2
    go_ret
    exact ⟨by first | rfl | (simp <;> rfl) | (simp [*] <;> rfl), by repeat (first | (with_reducible first | exact HB.out | apply yQ | apply yL | apply yP | refine yE ?_ GE48.out | refine yE ?_ GE49.out) | exact HB.out)⟩

/-! ### slices_ContainsFunc_impl_allWithin_1: function 49 -/
def slices_ContainsFunc_impl_allWithin_1.f (k : Nat) (l0 : List Int) (a1_0 : Int) (a1_1 : Int) : Option (Bool) := (slices_IndexFunc_impl_allWithin_1.f k l0 a1_0 a1_1).bind fun t226 => (some (decide (t226 ≥ 0)))
theorem slices_ContainsFunc_impl_allWithin_1.mono : ∀ a0 a1 a2 k, LeO (slices_ContainsFunc_impl_allWithin_1.f k a0 a1 a2) (slices_ContainsFunc_impl_allWithin_1.f (k + 1) a0 a1 a2) := by
 intro a0 a1 a2 k
 unfold slices_ContainsFunc_impl_allWithin_1.f
 repeat' first
   | (with_reducible exact slices_IndexFunc_impl_allWithin_1.mono _ _ _ _)
   | (with_reducible exact LeO.refl _)
   | (with_reducible exact LeO.none _)
   | (with_reducible refine LeO.ite ?_ ?_)
   | (with_reducible refine LeO.bind ?_ (fun _ => ?_))
   | exact slices_IndexFunc_impl_allWithin_1.mono _ _ _ _
   | exact LeO.none _
   | refine LeO.ite ?_ ?_
   | refine LeO.bind ?_ (fun _ => ?_)
set_option maxHeartbeats 8000000 in
set_option maxRecDepth 100000 in
theorem slices_ContainsFunc_impl_allWithin_1.calls (k : Nat) (A0 : Option Addr) (c0 : Nat) (l0 : List Int) (g1_0 : Nat) (g1_1 : Nat) (a1_0 : Int) (a1_1 : Int) (r : Bool) (w : World) (hr0 : Kd.C (Kd.int .i64) w A0 l0.length l0) (hc0 : l0.length ≤ c0) (hb1_0 : w.heap[g1_0]? = some (.cells #[.int .i64 a1_0] 2 (0, 0))) (hb1_1 : w.heap[g1_1]? = some (.cells #[.int .i64 a1_1] 2 (0, 0))) (h : slices_ContainsFunc_impl_allWithin_1.f k l0 a1_0 a1_1 = some r) :
  Calls Try.prog 49 #[.slice A0 l0.length c0, .func (.func 50) #[] #[.pointer (some ⟨g1_0, 0, none⟩), .pointer (some ⟨g1_1, 0, none⟩)]] w fun e w' => e = .returned (.bool r) ∧ Below w.heap.size w w' := by
 have HR0 := yD hr0
 have HC0 := yD hc0
 clear hr0 hc0
 have BK48 := yD hb1_0
 clear hb1_0
 have BK49 := yD hb1_1
 clear hb1_1
 have HB := yD (Below.refl w.heap.size w)
 have H : ((slices_IndexFunc_impl_allWithin_1.f k l0 a1_0 a1_1).bind fun t226 => (some (decide (t226 ≥ 0)))) = some r := h
 clear h
 obtain ⟨t226, A30, H⟩ := zW_ H
 replace H : (some (decide (t226 ≥ 0))) = some r := H
 have A3 := yD A30
 clear A30; obtain rfl := Option.some.inj H; go_enter Try.func49, Try.ntmps49
 go_wp2_with (first | ((with_reducible refine gate_callee (f := 51) rfl ?_); refine goesL_ (some 7) rfl rfl Try.func51 (by kernel_rfl) rfl #[.slice A0 l0.length c0, .func (.func 50) #[] #[.pointer (some ⟨g1_0, 0, none⟩), .pointer (some ⟨g1_1, 0, none⟩)]] rfl (by (try simp only [zK, zL, zM]); first | done | rfl | (simp only [zN, zO]; rfl)) ?_; (with_reducible refine (slices_IndexFunc_impl_allWithin_1.calls k _ _ l0 g1_0 g1_1 a1_0 a1_1 t226 _ ?side1 ?side2 ?side3 ?side4 A3.out).mono ?_); (case side1 => exact HR0.out); (case side2 => exact HC0.out); (case side3 => (with_reducible repeat (first | refine yM ?_ _ | refine yO ?_ | refine yN ?_ _)); exact BK48.out); (case side4 => (with_reducible repeat (first | refine yM ?_ _ | refine yO ?_ | refine yN ?_ _)); exact BK49.out); rintro e w4 ⟨rfl, hb⟩; refine ⟨_, rfl, ?_⟩; have n0_ := yD (zB (g := g1_0) (o := .cells #[.int .i64 a1_0] 2 (0, 0)) (by exact BK48.out) hb); have n1_ := yD (zB (g := g1_1) (o := .cells #[.int .i64 a1_1] 2 (0, 0)) (by exact BK49.out) hb); have n2_ := yD (zC (by exact HB.out) hb); clear BK48; clear BK49; clear HB; have BK48 := n0_; have BK49 := n1_; have HB := n2_; clear n0_ n1_ n2_; (try clear hb); (try clear hb2); (try clear hk); (try clear hi)))
 go_ret
 exact ⟨by first | rfl | (simp <;> rfl) | (simp [*] <;> rfl), by repeat (first | (with_reducible first | exact HB.out | apply yQ | apply yL | apply yP | refine yE ?_ GE48.out | refine yE ?_ GE49.out) | exact HB.out)⟩

/-! ### impl_allWithin: function 39 -/
def impl_allWithin.f (k : Nat) (l0 : List Int) (a1 : Int) (a2 : Int) : Option (Bool) := (slices_ContainsFunc_impl_allWithin_1.f k l0 a1 a2).bind fun t229 => (some (!t229))
theorem impl_allWithin.mono : ∀ a0 a1 a2 k, LeO (impl_allWithin.f k a0 a1 a2) (impl_allWithin.f (k + 1) a0 a1 a2) := by
 intro a0 a1 a2 k
 unfold impl_allWithin.f
 repeat' first
   | (with_reducible exact slices_ContainsFunc_impl_allWithin_1.mono _ _ _ _)
   | (with_reducible exact LeO.refl _)
   | (with_reducible exact LeO.none _)
   | (with_reducible refine LeO.ite ?_ ?_)
   | (with_reducible refine LeO.bind ?_ (fun _ => ?_))
   | exact slices_ContainsFunc_impl_allWithin_1.mono _ _ _ _
   | exact LeO.none _
   | refine LeO.ite ?_ ?_
   | refine LeO.bind ?_ (fun _ => ?_)
set_option maxHeartbeats 8000000 in
set_option maxRecDepth 100000 in
theorem impl_allWithin.calls (k : Nat) (A0 : Option Addr) (c0 : Nat) (l0 : List Int) (a1 : Int) (a2 : Int) (r : Bool) (w : World) (hr0 : Kd.C (Kd.int .i64) w A0 l0.length l0) (hc0 : l0.length ≤ c0) (h : impl_allWithin.f k l0 a1 a2 = some r) :
  Calls Try.prog 39 #[.slice A0 l0.length c0, .int .i64 a1, .int .i64 a2] w fun e w' => e = .returned (.bool r) ∧ Below w.heap.size w w' := by
 have HR0 := yD hr0
 have HC0 := yD hc0
 clear hr0 hc0
 have HB := yD (Below.refl w.heap.size w)
 have H : ((slices_ContainsFunc_impl_allWithin_1.f k l0 a1 a2).bind fun t229 => (some (!t229))) = some r := h
 clear h
 obtain ⟨t229, A40, H⟩ := zW_ H
 replace H : (some (!t229)) = some r := H
 have A4 := yD A40
 clear A40; obtain rfl := Option.some.inj H; go_enter Try.func39, Try.ntmps39
 go_wp2_with (first | ((with_reducible refine gate_dst (N := 4) rfl ?_); refine box_event ?hg (N := 4) ?hd (cs := #[.int .i64 a1]) (t := 2) ?hr ?_; (case hd => rfl); (case hg => rfl); (case hr => first | (go_simp; done) | (go_simp; rfl)); intro gb227 hg w5 hbox hb; have n0_ := yD (zC (by exact HB.out) hb); have n1_ := yD (hbox); have n2_ := yD ((by rw [hg]; exact (below_size (by exact HB.out)) : w.heap.size ≤ gb227)); have n3_ := yD ((by rw [hg]; exact (below_size (by exact HB.out)) : w.heap.size ≤ gb227)); clear HB; have HB := n0_; have BK227 := n1_; have GW227 := n2_; have GE227 := n3_; clear n0_ n1_ n2_ n3_; clear hb hbox hg) | ((with_reducible refine gate_dst (N := 5) rfl ?_); refine box_event ?hg (N := 5) ?hd (cs := #[.int .i64 a2]) (t := 2) ?hr ?_; (case hd => rfl); (case hg => rfl); (case hr => first | (go_simp; done) | (go_simp; rfl)); intro gb228 hg w6 hbox hb; have n0_ := yD (zB (g := gb227) (o := .cells #[.int .i64 a1] 2 (0, 0)) (by exact BK227.out) hb); have n1_ := yD (zC (by exact HB.out) hb); have n2_ := yD (hbox); have n3_ := yD ((by rw [hg]; exact (below_size (by exact HB.out)) : w.heap.size ≤ gb228)); have n4_ := yD ((by rw [hg]; exact (below_size (by exact HB.out)) : w.heap.size ≤ gb228)); have n5_ := yD ((by rw [hg]; exact Nat.ne_of_lt (blk_lt (g := gb227) (o := .cells #[.int .i64 a1] 2 (0, 0)) (by exact BK227.out)) : gb227 ≠ gb228)); have n6_ := yD ((by rw [hg]; exact Nat.ne_of_gt (blk_lt (g := gb227) (o := .cells #[.int .i64 a1] 2 (0, 0)) (by exact BK227.out)) : gb228 ≠ gb227)); clear BK227; clear HB; have BK227 := n0_; have HB := n1_; have BK228 := n2_; have GW228 := n3_; have GE228 := n4_; have NB227_228 := n5_; have NB228_227 := n6_; clear n0_ n1_ n2_ n3_ n4_ n5_ n6_; clear hb hbox hg) | ((with_reducible refine gate_callee (f := 49) rfl ?_); refine goesL_ (some 9) rfl rfl Try.func49 (by kernel_rfl) rfl #[.slice A0 l0.length c0, .func (.func 50) #[] #[.pointer (some ⟨gb227, 0, none⟩), .pointer (some ⟨gb228, 0, none⟩)]] rfl (by (try simp only [zK, zL, zM]); first | done | rfl | (simp only [zN, zO]; rfl)) ?_; (with_reducible refine (slices_ContainsFunc_impl_allWithin_1.calls k _ _ l0 gb227 gb228 a1 a2 t229 _ ?side1 ?side2 ?side3 ?side4 A4.out).mono ?_); (case side1 => exact yY HR0.out HB.out); (case side2 => exact HC0.out); (case side3 => (with_reducible repeat (first | refine yM ?_ _ | refine yO ?_ | refine yN ?_ _)); exact BK227.out); (case side4 => (with_reducible repeat (first | refine yM ?_ _ | refine yO ?_ | refine yN ?_ _)); exact BK228.out); rintro e w7 ⟨rfl, hb⟩; refine ⟨_, rfl, ?_⟩; have n0_ := yD (zB (g := gb227) (o := .cells #[.int .i64 a1] 2 (0, 0)) (by exact BK227.out) hb); have n1_ := yD (zB (g := gb228) (o := .cells #[.int .i64 a2] 2 (0, 0)) (by exact BK228.out) hb); have n2_ := yD (zC (by exact HB.out) hb); clear BK227; clear BK228; clear HB; have BK227 := n0_; have BK228 := n1_; have HB := n2_; clear n0_ n1_ n2_; (try clear hb); (try clear hb2); (try clear hk); (try clear hi)))
 go_ret
 exact ⟨by first | rfl | (simp <;> rfl) | (simp [*] <;> rfl), by repeat (first | (with_reducible first | exact HB.out | apply yQ | apply yL | apply yP | refine yE ?_ GE227.out | refine yE ?_ GE228.out) | exact HB.out)⟩

/-! ### impl_Selection_pointsFormed_1: function 38 -/
def impl_Selection_pointsFormed_1.f (k : Nat) (l0_0 : List Int) (a1_0 : Int) : Option (Bool) := if (l0_0.length : Int) = a1_0 then ((impl_allWithin.f k l0_0 0 39).bind fun t231 => (some (!t231))) else (some true)
theorem impl_Selection_pointsFormed_1.mono : ∀ a0 a1 k, LeO (impl_Selection_pointsFormed_1.f k a0 a1) (impl_Selection_pointsFormed_1.f (k + 1) a0 a1) := by
 intro a0 a1 k
 unfold impl_Selection_pointsFormed_1.f
 repeat' first
   | (with_reducible exact impl_allWithin.mono _ _ _ _)
   | (with_reducible exact LeO.refl _)
   | (with_reducible exact LeO.none _)
   | (with_reducible refine LeO.ite ?_ ?_)
   | (with_reducible refine LeO.bind ?_ (fun _ => ?_))
   | exact impl_allWithin.mono _ _ _ _
   | exact LeO.none _
   | refine LeO.ite ?_ ?_
   | refine LeO.bind ?_ (fun _ => ?_)
set_option maxHeartbeats 8000000 in
set_option maxRecDepth 100000 in
theorem impl_Selection_pointsFormed_1.calls (k : Nat) (A0_0 : Option Addr) (c0_0 : Nat) (l0_0 : List Int) (g1_0 : Nat) (a1_0 : Int) (r : Bool) (w : World) (hr0_0 : Kd.C (Kd.int .i64) w A0_0 l0_0.length l0_0) (hc0_0 : l0_0.length ≤ c0_0) (hb1_0 : w.heap[g1_0]? = some (.cells #[.int .i64 a1_0] 3 (0, 0))) (h : impl_Selection_pointsFormed_1.f k l0_0 a1_0 = some r) :
  Calls Try.prog 38 #[.agg #[.slice A0_0 l0_0.length c0_0], .pointer (some ⟨g1_0, 0, none⟩)] w fun e w' => e = .returned (.bool r) ∧ Below w.heap.size w w' := by
 have hu48 := Try.underlying48
 have HR0_0 := yD hr0_0
 have HC0_0 := yD hc0_0
 clear hr0_0 hc0_0
 have BK48 := yD hb1_0
 clear hb1_0
 have HB := yD (Below.refl w.heap.size w)
 have H : (if (l0_0.length : Int) = a1_0 then ((impl_allWithin.f k l0_0 0 39).bind fun t231 => (some (!t231))) else (some true)) = some r := h
 clear h
 by_cases c3 : (l0_0.length : Int) = a1_0
 ·
  rw [if_pos c3] at H
  have c3b0 : ((l0_0.length : Int) == a1_0) = true := beq_iff_eq.mpr c3
  have c3b1 : ((l0_0.length : Int) != a1_0) = false := bne_eq_false_iff_eq.mpr c3
  clear c3
  obtain ⟨t231, A40, H⟩ := zW_ H
  replace H : (some (!t231)) = some r := H
  have A4 := yD A40
  clear A40; obtain rfl := Option.some.inj H; go_enter Try.func38, Try.ntmps38
  go_wp2_with (first | ((with_reducible refine gate_dst (N := 2) rfl ?_); refine box_event ?hg (N := 2) ?hd (cs := #[.slice A0_0 l0_0.length c0_0]) (t := 48) ?hr ?_; (case hd => rfl); (case hg => rfl); (case hr => first | (go_simp; done) | (go_simp; rfl)); intro gb230 hg w5 hbox hb; have n0_ := yD (zB (g := g1_0) (o := .cells #[.int .i64 a1_0] 3 (0, 0)) (by exact BK48.out) hb); have n1_ := yD (zC (by exact HB.out) hb); have n2_ := yD (hbox); have n3_ := yD ((by rw [hg]; exact (below_size (by exact HB.out)) : w.heap.size ≤ gb230)); have n4_ := yD ((by rw [hg]; exact (below_size (by exact HB.out)) : w.heap.size ≤ gb230)); have n5_ := yD ((by rw [hg]; exact Nat.ne_of_lt (blk_lt (g := g1_0) (o := .cells #[.int .i64 a1_0] 3 (0, 0)) (by exact BK48.out)) : g1_0 ≠ gb230)); have n6_ := yD ((by rw [hg]; exact Nat.ne_of_gt (blk_lt (g := g1_0) (o := .cells #[.int .i64 a1_0] 3 (0, 0)) (by exact BK48.out)) : gb230 ≠ g1_0)); clear BK48; clear HB; have BK48 := n0_; have HB := n1_; have BK230 := n2_; have GW230 := n3_; have GE230 := n4_; have NB48_230 := n5_; have NB230_48 := n6_; clear n0_ n1_ n2_ n3_ n4_ n5_ n6_; clear hb hbox hg; have hnb6 := NB230_48.out; have hnc6 := NB48_230.out; have hcz7_0 : w5.cell? ⟨gb230, 0, none⟩ = some (.slice A0_0 l0_0.length c0_0) := (yG BK230.out 0).trans rfl; have hfz7_0 := yR BK230.out 0; have hcz8_0 : w5.cell? ⟨g1_0, 0, none⟩ = some (.int .i64 a1_0) := (yG BK48.out 0).trans rfl; have hfz8_0 := yR BK48.out 0) | (go_at_call 39; (with_reducible refine (impl_allWithin.calls k _ _ l0_0 0 39 t231 _ ?side1 ?side2 A4.out).mono ?_); (case side1 => exact yY HR0_0.out HB.out); (case side2 => exact HC0_0.out); rintro e w9 ⟨rfl, hb⟩; have n0_ := yD (zB (g := g1_0) (o := .cells #[.int .i64 a1_0] 3 (0, 0)) (by exact BK48.out) hb); have n1_ := yD (zB (g := gb230) (o := .cells #[.slice A0_0 l0_0.length c0_0] 48 (0, 0)) (by exact BK230.out) hb); have n2_ := yD (zC (by exact HB.out) hb); clear BK48; clear BK230; clear HB; have BK48 := n0_; have BK230 := n1_; have HB := n2_; clear n0_ n1_ n2_; (try clear hb); (try clear hb2); (try clear hk); (try clear hi)))
  go_ret
  exact ⟨by first | rfl | (simp <;> rfl) | (simp [*] <;> rfl), by repeat (first | (with_reducible first | exact HB.out | apply yQ | apply yL | apply yP | refine yE ?_ GE48.out | refine yE ?_ GE230.out) | exact HB.out)⟩
 ·
  rw [if_neg c3] at H
  have c3b0 : ((l0_0.length : Int) == a1_0) = false := beq_eq_false_iff_ne.mpr c3
  have c3b1 : ((l0_0.length : Int) != a1_0) = true := bne_iff_ne.mpr c3
  obtain rfl := Option.some.inj H; go_enter Try.func38, Try.ntmps38
  go_wp2_with (first | ((with_reducible refine gate_dst (N := 2) rfl ?_); refine box_event ?hg (N := 2) ?hd (cs := #[.slice A0_0 l0_0.length c0_0]) (t := 48) ?hr ?_; (case hd => rfl); (case hg => rfl); (case hr => first | (go_simp; done) | (go_simp; rfl)); intro gb230 hg w10 hbox hb; have n0_ := yD (zB (g := g1_0) (o := .cells #[.int .i64 a1_0] 3 (0, 0)) (by exact BK48.out) hb); have n1_ := yD (zC (by exact HB.out) hb); have n2_ := yD (hbox); have n3_ := yD ((by rw [hg]; exact (below_size (by exact HB.out)) : w.heap.size ≤ gb230)); have n4_ := yD ((by rw [hg]; exact (below_size (by exact HB.out)) : w.heap.size ≤ gb230)); have n5_ := yD ((by rw [hg]; exact Nat.ne_of_lt (blk_lt (g := g1_0) (o := .cells #[.int .i64 a1_0] 3 (0, 0)) (by exact BK48.out)) : g1_0 ≠ gb230)); have n6_ := yD ((by rw [hg]; exact Nat.ne_of_gt (blk_lt (g := g1_0) (o := .cells #[.int .i64 a1_0] 3 (0, 0)) (by exact BK48.out)) : gb230 ≠ g1_0)); clear BK48; clear HB; have BK48 := n0_; have HB := n1_; have BK230 := n2_; have GW230 := n3_; have GE230 := n4_; have NB48_230 := n5_; have NB230_48 := n6_; clear n0_ n1_ n2_ n3_ n4_ n5_ n6_; clear hb hbox hg; have hnb11 := NB230_48.out; have hnc11 := NB48_230.out; have hcz12_0 : w10.cell? ⟨gb230, 0, none⟩ = some (.slice A0_0 l0_0.length c0_0) := (yG BK230.out 0).trans rfl; have hfz12_0 := yR BK230.out 0; have hcz13_0 : w10.cell? ⟨g1_0, 0, none⟩ = some (.int .i64 a1_0) := (yG BK48.out 0).trans rfl; have hfz13_0 := yR BK48.out 0))
  go_ret
  exact ⟨by first | rfl | (simp <;> rfl) | (simp [*] <;> rfl), by repeat (first | (with_reducible first | exact HB.out | apply yQ | apply yL | apply yP | refine yE ?_ GE48.out | refine yE ?_ GE230.out) | exact HB.out)⟩

/-! ### slices_IndexFunc_impl_Selection_pointsFormed_1: function 48 -/
def slices_IndexFunc_impl_Selection_pointsFormed_1.l0 : Nat → List (S48) → Int → Int → Int → Option (Int)
 | 0, _, _, _, _ => none
 | k + 1, x0, x7, x8, x49000 => if x8 < x7 then (if 0 ≤ x8 then (if x8 < (x0.length : Int) then ((impl_Selection_pointsFormed_1.f k ((rd_T48 x0 x8).f0) x49000).bind fun t233 => (if t233 = true then (some x8) else (slices_IndexFunc_impl_Selection_pointsFormed_1.l0 k x0 x7 (wrap64 (x8 + 1)) x49000))) else (none)) else (none)) else (some (-1))
def slices_IndexFunc_impl_Selection_pointsFormed_1.f (k : Nat) (l0 : List (S48)) (a1_0 : Int) : Option (Int) := slices_IndexFunc_impl_Selection_pointsFormed_1.l0 k l0 (l0.length : Int) 0 a1_0
theorem slices_IndexFunc_impl_Selection_pointsFormed_1.mono_l : ∀ k, (∀ y0 y1 y2 y3, LeO (slices_IndexFunc_impl_Selection_pointsFormed_1.l0 k y0 y1 y2 y3) (slices_IndexFunc_impl_Selection_pointsFormed_1.l0 (k + 1) y0 y1 y2 y3))
 | 0 => fun _ _ _ _ r h => by simp [slices_IndexFunc_impl_Selection_pointsFormed_1.l0] at h
 | k + 1 => by
  have ih0 := slices_IndexFunc_impl_Selection_pointsFormed_1.mono_l k
  ·
   intro y0 y1 y2 y3
   unfold slices_IndexFunc_impl_Selection_pointsFormed_1.l0
   repeat' first
   | (with_reducible exact ih0 _ _ _ _)
   | (with_reducible exact impl_Selection_pointsFormed_1.mono _ _ _)
   | (with_reducible exact LeO.refl _)
   | (with_reducible exact LeO.none _)
   | (with_reducible refine LeO.ite ?_ ?_)
   | (with_reducible refine LeO.bind ?_ (fun _ => ?_))
   | exact ih0 _ _ _ _
   | exact impl_Selection_pointsFormed_1.mono _ _ _
   | exact LeO.none _
   | refine LeO.ite ?_ ?_
   | refine LeO.bind ?_ (fun _ => ?_)
theorem slices_IndexFunc_impl_Selection_pointsFormed_1.mono : ∀ a0 a1 k, LeO (slices_IndexFunc_impl_Selection_pointsFormed_1.f k a0 a1) (slices_IndexFunc_impl_Selection_pointsFormed_1.f (k + 1) a0 a1) := by
 intro a0 a1 k
 have ih0 := slices_IndexFunc_impl_Selection_pointsFormed_1.mono_l k
 unfold slices_IndexFunc_impl_Selection_pointsFormed_1.f
 repeat' first
   | (with_reducible exact ih0 _ _ _ _)
   | (with_reducible exact impl_Selection_pointsFormed_1.mono _ _ _)
   | (with_reducible exact LeO.refl _)
   | (with_reducible exact LeO.none _)
   | (with_reducible refine LeO.ite ?_ ?_)
   | (with_reducible refine LeO.bind ?_ (fun _ => ?_))
   | exact ih0 _ _ _ _
   | exact impl_Selection_pointsFormed_1.mono _ _ _
   | exact LeO.none _
   | refine LeO.ite ?_ ?_
   | refine LeO.bind ?_ (fun _ => ?_)
set_option maxHeartbeats 8000000 in
set_option maxRecDepth 100000 in
theorem slices_IndexFunc_impl_Selection_pointsFormed_1.calls (k : Nat) (A0 : Option Addr) (c0 : Nat) (l0 : List (S48)) (g1_0 : Nat) (a1_0 : Int) (r : Int) (w : World) (hr0 : Kd.C k48 w A0 l0.length l0) (hc0 : l0.length ≤ c0) (hb1_0 : w.heap[g1_0]? = some (.cells #[.int .i64 a1_0] 3 (0, 0))) (h : slices_IndexFunc_impl_Selection_pointsFormed_1.f k l0 a1_0 = some r) :
  Calls Try.prog 48 #[.slice A0 l0.length c0, .func (.func 38) #[] #[.pointer (some ⟨g1_0, 0, none⟩)]] w fun e w' => e = .returned (.int .i64 r) ∧ Below w.heap.size w w' := by
 have hu48 := Try.underlying48
 have HR0 := yD hr0
 have HC0 := yD hc0
 clear hr0 hc0
 have BK48 := yD hb1_0
 clear hb1_0
 have HB := yD (Below.refl w.heap.size w)
 have H : (slices_IndexFunc_impl_Selection_pointsFormed_1.l0 k l0 (l0.length : Int) 0 a1_0) = some r := h
 clear h
 have H' := yD H
 clear H; go_enter Try.func48, Try.ntmps48
 go_wp2
 go_loopg [8] k (fun kq v8 w' => ∃ (x8_1 : Int), v8 = .int .i64 x8_1 ∧ Aside0 (slices_IndexFunc_impl_Selection_pointsFormed_1.l0 kq l0 (l0.length : Int) x8_1 a1_0 = some r) ∧ Aside0 (kq ≤ k) ∧ Aside0 (w'.heap[g1_0]? = some (.cells #[.int .i64 a1_0] 3 (0, 0))) ∧ Aside0 (Below w.heap.size w w'))
 case atStart => exact ⟨(0), (by first | rfl | (simp; done) | (simp [*]; done)), H', ⟨Nat.le_refl _⟩, ⟨by (with_reducible repeat (first | refine yM ?_ _ | refine yO ?_ | refine yN ?_ _)); exact BK48.out⟩, ⟨by repeat (first | (with_reducible first | exact HB.out | apply yQ | apply yL | apply yP | refine yE ?_ GE48.out) | exact HB.out)⟩⟩
 case round =>
  clear H'
  try clear p2
  obtain ⟨x8_1, rfl, HA, HK1, BK48, HB⟩ := hrel
  cases gk with
  | zero => exact absurd HA.out (by simp [slices_IndexFunc_impl_Selection_pointsFormed_1.l0])
  | succ k1 =>
   have H := HA.out; clear HA
   simp only [slices_IndexFunc_impl_Selection_pointsFormed_1.l0] at H
   by_cases c3 : x8_1 < (l0.length : Int)
   ·
    rw [if_pos c3] at H; have c3b0 : decide (x8_1 < (l0.length : Int)) = true := zR c3; clear c3
    by_cases c4 : 0 ≤ x8_1
    ·
     rw [if_pos c4] at H; have c4b0 : decide (0 ≤ x8_1) = true := zR c4; clear c4
     by_cases c5 : x8_1 < (l0.length : Int)
     ·
      rw [if_pos c5] at H; have c5b0 : decide (x8_1 < (l0.length : Int)) = true := zR c5; clear c5
      obtain ⟨t233, A60, H⟩ := zW_ H
      replace H : (if t233 = true then (some x8_1) else (slices_IndexFunc_impl_Selection_pointsFormed_1.l0 k1 l0 (l0.length : Int) (wrap64 (x8_1 + 1)) a1_0)) = some r := H
      have A6 := yD A60
      clear A60
      by_cases c7 : t233 = true
      ·
       subst c7
       have H1 : (some x8_1) = some r := by rw [if_pos rfl] at H; exact H
       clear H; have H := H1; clear H1; obtain rfl := Option.some.inj H
       have p232 : 0 ≤ (x8_1 : Int) := zP (by assumption)
       have q232 : x8_1 < (l0.length : Int) := zP (by assumption)
       obtain ⟨ad232, A232_0, c232_0, e232, hx232_0, hl232_0, hi232_0⟩ := at_T48 HR0.out x8_1 p232 q232
       cases e232
       replace hx232_0 := (HB.out.cell (zQ w _ hx232_0)).trans hx232_0
       have HR232_0 := yD hi232_0
       have HC232_0 := yD hl232_0
       clear hi232_0 hl232_0; replace p232 := eq_true p232; replace q232 := eq_true q232
       go_wp2_with (first | (go_at_call 38; (with_reducible refine (impl_Selection_pointsFormed_1.calls k1 _ _ ((rd_T48 l0 x8_1).f0) g1_0 a1_0 true _ ?side1 ?side2 ?side3 A6.out).mono ?_); (case side1 => exact yY HR232_0.out HB.out); (case side2 => exact HC232_0.out); (case side3 => (with_reducible repeat (first | refine yM ?_ _ | refine yO ?_ | refine yN ?_ _)); exact BK48.out); rintro e w8 ⟨rfl, hb⟩; have n0_ := yD (zB (g := g1_0) (o := .cells #[.int .i64 a1_0] 3 (0, 0)) (by exact BK48.out) hb); have n1_ := yD (zC (by exact HB.out) hb); clear BK48; clear HB; have BK48 := n0_; have HB := n1_; clear n0_ n1_; (try clear hb); (try clear hb2); (try clear hk); (try clear hi)))
       go_ret
       exact ⟨by first | rfl | (simp <;> rfl) | (simp [*] <;> rfl), by repeat (first | (with_reducible first | exact HB.out | apply yQ | apply yL | apply yP | refine yE ?_ GE48.out) | exact HB.out)⟩
      ·
       replace c7 := Bool.eq_false_iff.mpr c7
       subst c7
       have H1 : (slices_IndexFunc_impl_Selection_pointsFormed_1.l0 k1 l0 (l0.length : Int) (wrap64 (x8_1 + 1)) a1_0) = some r := by rw [if_neg (show ¬ (false = true) by decide)] at H; exact H
       clear H; have H := H1; clear H1
       have H' := yD H
       clear H
       have p232 : 0 ≤ (x8_1 : Int) := zP (by assumption)
       have q232 : x8_1 < (l0.length : Int) := zP (by assumption)
       obtain ⟨ad232, A232_0, c232_0, e232, hx232_0, hl232_0, hi232_0⟩ := at_T48 HR0.out x8_1 p232 q232
       cases e232
       replace hx232_0 := (HB.out.cell (zQ w _ hx232_0)).trans hx232_0
       have HR232_0 := yD hi232_0
       have HC232_0 := yD hl232_0
       clear hi232_0 hl232_0; replace p232 := eq_true p232; replace q232 := eq_true q232
       go_wp2_with (first | (go_at_call 38; (with_reducible refine (impl_Selection_pointsFormed_1.calls k1 _ _ ((rd_T48 l0 x8_1).f0) g1_0 a1_0 false _ ?side1 ?side2 ?side3 A6.out).mono ?_); (case side1 => exact yY HR232_0.out HB.out); (case side2 => exact HC232_0.out); (case side3 => (with_reducible repeat (first | refine yM ?_ _ | refine yO ?_ | refine yN ?_ _)); exact BK48.out); rintro e w9 ⟨rfl, hb⟩; have n0_ := yD (zB (g := g1_0) (o := .cells #[.int .i64 a1_0] 3 (0, 0)) (by exact BK48.out) hb); have n1_ := yD (zC (by exact HB.out) hb); clear BK48; clear HB; have BK48 := n0_; have HB := n1_; clear n0_ n1_; (try clear hb); (try clear hb2); (try clear hk); (try clear hi)))
       go_roundg k1
       case measure => have := HK1.out; omega
       case rel => exact ⟨(wrap64 (x8_1 + 1)), (by first | rfl | (simp; done) | (simp [*]; done)), H', ⟨by have := HK1.out; omega⟩, ⟨by (with_reducible repeat (first | refine yM ?_ _ | refine yO ?_ | refine yN ?_ _)); exact BK48.out⟩, ⟨by repeat (first | (with_reducible first | exact HB.out | apply yQ | apply yL | apply yP | refine yE ?_ GE48.out) | exact HB.out)⟩⟩
     ·
      rw [if_neg c5] at H
      exact absurd H (by simp)
    ·
     rw [if_neg c4] at H
     exact absurd H (by simp)
   ·
    rw [if_neg c3] at H; have c3b0 : decide (x8_1 < (l0.length : Int)) = false := zS c3; clear c3; obtain rfl := Option.some.inj H
    go_wp2
    go_ret
    exact ⟨by first | rfl | (simp <;> rfl) | (simp [*] <;> rfl), by repeat (first | (with_reducible first | exact HB.out | apply yQ | apply yL | apply yP | refine yE ?_ GE48.out) | exact HB.out)⟩

/-! ### slices_ContainsFunc_impl_Selection_pointsFormed_1: function 37 -/
def slices_ContainsFunc_impl_Selection_pointsFormed_1.f (k : Nat) (l0 : List (S48)) (a1_0 : Int) : Option (Bool) := (slices_IndexFunc_impl_Selection_pointsFormed_1.f k l0 a1_0).bind fun t234 => (some (decide (t234 ≥ 0)))
theorem slices_ContainsFunc_impl_Selection_pointsFormed_1.mono : ∀ a0 a1 k, LeO (slices_ContainsFunc_impl_Selection_pointsFormed_1.f k a0 a1) (slices_ContainsFunc_impl_Selection_pointsFormed_1.f (k + 1) a0 a1) := by
 intro a0 a1 k
 unfold slices_ContainsFunc_impl_Selection_pointsFormed_1.f
 repeat' first
   | (with_reducible exact slices_IndexFunc_impl_Selection_pointsFormed_1.mono _ _ _)
   | (with_reducible exact LeO.refl _)
   | (with_reducible exact LeO.none _)
   | (with_reducible refine LeO.ite ?_ ?_)
   | (with_reducible refine LeO.bind ?_ (fun _ => ?_))
   | exact slices_IndexFunc_impl_Selection_pointsFormed_1.mono _ _ _
   | exact LeO.none _
   | refine LeO.ite ?_ ?_
   | refine LeO.bind ?_ (fun _ => ?_)
set_option maxHeartbeats 8000000 in
set_option maxRecDepth 100000 in
theorem slices_ContainsFunc_impl_Selection_pointsFormed_1.calls (k : Nat) (A0 : Option Addr) (c0 : Nat) (l0 : List (S48)) (g1_0 : Nat) (a1_0 : Int) (r : Bool) (w : World) (hr0 : Kd.C k48 w A0 l0.length l0) (hc0 : l0.length ≤ c0) (hb1_0 : w.heap[g1_0]? = some (.cells #[.int .i64 a1_0] 3 (0, 0))) (h : slices_ContainsFunc_impl_Selection_pointsFormed_1.f k l0 a1_0 = some r) :
  Calls Try.prog 37 #[.slice A0 l0.length c0, .func (.func 38) #[] #[.pointer (some ⟨g1_0, 0, none⟩)]] w fun e w' => e = .returned (.bool r) ∧ Below w.heap.size w w' := by
 have HR0 := yD hr0
 have HC0 := yD hc0
 clear hr0 hc0
 have BK48 := yD hb1_0
 clear hb1_0
 have HB := yD (Below.refl w.heap.size w)
 have H : ((slices_IndexFunc_impl_Selection_pointsFormed_1.f k l0 a1_0).bind fun t234 => (some (decide (t234 ≥ 0)))) = some r := h
 clear h
 obtain ⟨t234, A30, H⟩ := zW_ H
 replace H : (some (decide (t234 ≥ 0))) = some r := H
 have A3 := yD A30
 clear A30; obtain rfl := Option.some.inj H; go_enter Try.func37, Try.ntmps37
 go_wp2_with (first | ((with_reducible refine gate_callee (f := 48) rfl ?_); refine goesL_ (some 7) rfl rfl Try.func48 (by kernel_rfl) rfl #[.slice A0 l0.length c0, .func (.func 38) #[] #[.pointer (some ⟨g1_0, 0, none⟩)]] rfl (by (try simp only [zK, zL, zM]); first | done | rfl | (simp only [zN, zO]; rfl)) ?_; (with_reducible refine (slices_IndexFunc_impl_Selection_pointsFormed_1.calls k _ _ l0 g1_0 a1_0 t234 _ ?side1 ?side2 ?side3 A3.out).mono ?_); (case side1 => exact HR0.out); (case side2 => exact HC0.out); (case side3 => (with_reducible repeat (first | refine yM ?_ _ | refine yO ?_ | refine yN ?_ _)); exact BK48.out); rintro e w4 ⟨rfl, hb⟩; refine ⟨_, rfl, ?_⟩; have n0_ := yD (zB (g := g1_0) (o := .cells #[.int .i64 a1_0] 3 (0, 0)) (by exact BK48.out) hb); have n1_ := yD (zC (by exact HB.out) hb); clear BK48; clear HB; have BK48 := n0_; have HB := n1_; clear n0_ n1_; (try clear hb); (try clear hb2); (try clear hk); (try clear hi)))
 go_ret
 exact ⟨by first | rfl | (simp <;> rfl) | (simp [*] <;> rfl), by repeat (first | (with_reducible first | exact HB.out | apply yQ | apply yL | apply yP | refine yE ?_ GE48.out) | exact HB.out)⟩

/-! ### impl_Selection_pointsFormed: function 20 -/
def impl_Selection_pointsFormed.f (k : Nat) (a0_0 : Int) (l0_1 : List Int) (l0_2 : List Int) (l0_3 : List Int) (l0_4 : List Int) (l0_5 : List (S48)) : Option (Bool) := (impl_within.f (l0_5.length : Int) 1 24).bind fun t236 => (if t236 = true then (if 0 < (l0_5.length : Int) then (if (((rd_T48 l0_5 0).f0).length : Int) ≤ 3 then ((slices_ContainsFunc_impl_Selection_pointsFormed_1.f k l0_5 (((rd_T48 l0_5 0).f0).length : Int)).bind fun t239 => (some (!t239))) else (some false)) else (none)) else (some false))
theorem impl_Selection_pointsFormed.mono : ∀ a0 a1 a2 a3 a4 a5 k, LeO (impl_Selection_pointsFormed.f k a0 a1 a2 a3 a4 a5) (impl_Selection_pointsFormed.f (k + 1) a0 a1 a2 a3 a4 a5) := by
 intro a0 a1 a2 a3 a4 a5 k
 unfold impl_Selection_pointsFormed.f
 repeat' first
   | (with_reducible exact slices_ContainsFunc_impl_Selection_pointsFormed_1.mono _ _ _)
   | (with_reducible exact LeO.refl _)
   | (with_reducible exact LeO.none _)
   | (with_reducible refine LeO.ite ?_ ?_)
   | (with_reducible refine LeO.bind ?_ (fun _ => ?_))
   | exact slices_ContainsFunc_impl_Selection_pointsFormed_1.mono _ _ _
   | exact LeO.none _
   | refine LeO.ite ?_ ?_
   | refine LeO.bind ?_ (fun _ => ?_)
set_option maxHeartbeats 8000000 in
set_option maxRecDepth 100000 in
theorem impl_Selection_pointsFormed.calls (k : Nat) (a0_0 : Int) (A0_1 : Option Addr) (c0_1 : Nat) (l0_1 : List Int) (A0_2 : Option Addr) (c0_2 : Nat) (l0_2 : List Int) (A0_3 : Option Addr) (c0_3 : Nat) (l0_3 : List Int) (A0_4 : Option Addr) (c0_4 : Nat) (l0_4 : List Int) (A0_5 : Option Addr) (c0_5 : Nat) (l0_5 : List (S48)) (r : Bool) (w : World) (hr0_1 : Kd.C (Kd.int .i64) w A0_1 l0_1.length l0_1) (hc0_1 : l0_1.length ≤ c0_1) (hr0_2 : Kd.C (Kd.int .i64) w A0_2 l0_2.length l0_2) (hc0_2 : l0_2.length ≤ c0_2) (hr0_3 : Kd.C (Kd.int .i64) w A0_3 l0_3.length l0_3) (hc0_3 : l0_3.length ≤ c0_3) (hr0_4 : Kd.C (Kd.int .i64) w A0_4 l0_4.length l0_4) (hc0_4 : l0_4.length ≤ c0_4) (hr0_5 : Kd.C k48 w A0_5 l0_5.length l0_5) (hc0_5 : l0_5.length ≤ c0_5) (h : impl_Selection_pointsFormed.f k a0_0 l0_1 l0_2 l0_3 l0_4 l0_5 = some r) :
  Calls Try.prog 20 #[.agg #[.int .i64 a0_0, .slice A0_1 l0_1.length c0_1, .slice A0_2 l0_2.length c0_2, .slice A0_3 l0_3.length c0_3, .slice A0_4 l0_4.length c0_4, .slice A0_5 l0_5.length c0_5]] w fun e w' => e = .returned (.bool r) ∧ Below w.heap.size w w' := by
 have hu30 := Try.underlying30
 have HR0_1 := yD hr0_1
 have HC0_1 := yD hc0_1
 clear hr0_1 hc0_1
 have HR0_2 := yD hr0_2
 have HC0_2 := yD hc0_2
 clear hr0_2 hc0_2
 have HR0_3 := yD hr0_3
 have HC0_3 := yD hc0_3
 clear hr0_3 hc0_3
 have HR0_4 := yD hr0_4
 have HC0_4 := yD hc0_4
 clear hr0_4 hc0_4
 have HR0_5 := yD hr0_5
 have HC0_5 := yD hc0_5
 clear hr0_5 hc0_5
 have HB := yD (Below.refl w.heap.size w)
 have H : ((impl_within.f (l0_5.length : Int) 1 24).bind fun t236 => (if t236 = true then (if 0 < (l0_5.length : Int) then (if (((rd_T48 l0_5 0).f0).length : Int) ≤ 3 then ((slices_ContainsFunc_impl_Selection_pointsFormed_1.f k l0_5 (((rd_T48 l0_5 0).f0).length : Int)).bind fun t239 => (some (!t239))) else (some false)) else (none)) else (some false))) = some r := h
 clear h
 obtain ⟨t236, A20, H⟩ := zW_ H
 replace H : (if t236 = true then (if 0 < (l0_5.length : Int) then (if (((rd_T48 l0_5 0).f0).length : Int) ≤ 3 then ((slices_ContainsFunc_impl_Selection_pointsFormed_1.f k l0_5 (((rd_T48 l0_5 0).f0).length : Int)).bind fun t239 => (some (!t239))) else (some false)) else (none)) else (some false)) = some r := H
 have A2 := yD A20
 clear A20
 by_cases c3 : t236 = true
 ·
  subst c3
  have H1 : (if 0 < (l0_5.length : Int) then (if (((rd_T48 l0_5 0).f0).length : Int) ≤ 3 then ((slices_ContainsFunc_impl_Selection_pointsFormed_1.f k l0_5 (((rd_T48 l0_5 0).f0).length : Int)).bind fun t239 => (some (!t239))) else (some false)) else (none)) = some r := by rw [if_pos rfl] at H; exact H
  clear H; have H := H1; clear H1
  by_cases c4 : 0 < (l0_5.length : Int)
  ·
   rw [if_pos c4] at H; have c4b0 : decide (0 < (l0_5.length : Int)) = true := zR c4
   have c4b1 : decide (0 < l0_5.length) = true := zR (by omega)
   clear c4
   by_cases c5 : (((rd_T48 l0_5 0).f0).length : Int) ≤ 3
   ·
    rw [if_pos c5] at H; have c5b0 : decide ((((rd_T48 l0_5 0).f0).length : Int) ≤ 3) = true := zR c5
    have c5b1 : decide (((rd_T48 l0_5 0).f0).length ≤ 3) = true := zR (by omega)
    clear c5
    obtain ⟨t239, A60, H⟩ := zW_ H
    replace H : (some (!t239)) = some r := H
    have A6 := yD A60
    clear A60; obtain rfl := Option.some.inj H; go_enter Try.func20, Try.ntmps20
    go_wp2_with (first | ((with_reducible refine gate_dst (N := 1) rfl ?_); refine box_event ?hg (N := 1) ?hd (cs := #[.int .i64 a0_0, .slice A0_1 l0_1.length c0_1, .slice A0_2 l0_2.length c0_2, .slice A0_3 l0_3.length c0_3, .slice A0_4 l0_4.length c0_4, .slice A0_5 l0_5.length c0_5]) (t := 30) ?hr ?_; (case hd => rfl); (case hg => rfl); (case hr => first | (go_simp; done) | (go_simp; rfl)); intro gb235 hg w7 hbox hb; have n0_ := yD (zC (by exact HB.out) hb); have n1_ := yD (hbox); have n2_ := yD ((by rw [hg]; exact (below_size (by exact HB.out)) : w.heap.size ≤ gb235)); have n3_ := yD ((by rw [hg]; exact (below_size (by exact HB.out)) : w.heap.size ≤ gb235)); clear HB; have HB := n0_; have BK235 := n1_; have GW235 := n2_; have GE235 := n3_; clear n0_ n1_ n2_ n3_; clear hb hbox hg; have hcz8_0 : w7.cell? ⟨gb235, 0, none⟩ = some (.int .i64 a0_0) := (yG BK235.out 0).trans rfl; have hcz8_1 : w7.cell? ⟨gb235, 1, none⟩ = some (.slice A0_1 l0_1.length c0_1) := (yG BK235.out 1).trans rfl; have hcz8_2 : w7.cell? ⟨gb235, 2, none⟩ = some (.slice A0_2 l0_2.length c0_2) := (yG BK235.out 2).trans rfl; have hcz8_3 : w7.cell? ⟨gb235, 3, none⟩ = some (.slice A0_3 l0_3.length c0_3) := (yG BK235.out 3).trans rfl; have hcz8_4 : w7.cell? ⟨gb235, 4, none⟩ = some (.slice A0_4 l0_4.length c0_4) := (yG BK235.out 4).trans rfl; have hcz8_5 : w7.cell? ⟨gb235, 5, none⟩ = some (.slice A0_5 l0_5.length c0_5) := (yG BK235.out 5).trans rfl; have hfz8_0 := yR BK235.out 0; have hfz8_1 := yR BK235.out 1; have hfz8_2 := yR BK235.out 2; have hfz8_3 := yR BK235.out 3; have hfz8_4 := yR BK235.out 4; have hfz8_5 := yR BK235.out 5) | ((with_reducible refine gate_callee (f := 35) rfl ?_); refine goesL_ (some 7) rfl rfl Try.func35 (by kernel_rfl) rfl #[.int .i64 (l0_5.length : Int), .int .i64 1, .int .i64 24] rfl (by (try simp only [zK, zL, zM]); first | done | rfl | (simp only [zN, zO]; rfl)) ?_; (with_reducible refine (impl_within.calls (l0_5.length : Int) 1 24 true _ A2.out).mono ?_); rintro e w' ⟨rfl, ⟨nd, rfl⟩⟩; refine ⟨_, rfl, ?_⟩; (try (rw [drewN_self w7]; generalize hq_ : World.drewN w7 _ = w7; have n0_ : Aside0 (w7.heap[gb235]? = some (.cells #[.int .i64 a0_0, .slice A0_1 l0_1.length c0_1, .slice A0_2 l0_2.length c0_2, .slice A0_3 l0_3.length c0_3, .slice A0_4 l0_4.length c0_4, .slice A0_5 l0_5.length c0_5] 30 (0, 0))) := ⟨by rw [← hq_]; exact (by refine yM ?_ _; exact BK235.out)⟩; have n1_ : Aside0 (Below w.heap.size w w7) := ⟨by rw [← hq_]; exact (by apply yL; exact HB.out)⟩; clear BK235 HB hq_; have BK235 := n0_; have HB := n1_; clear n0_ n1_)); have hcz9_0 : w7.cell? ⟨gb235, 0, none⟩ = some (.int .i64 a0_0) := (yG BK235.out 0).trans rfl; have hcz9_1 : w7.cell? ⟨gb235, 1, none⟩ = some (.slice A0_1 l0_1.length c0_1) := (yG BK235.out 1).trans rfl; have hcz9_2 : w7.cell? ⟨gb235, 2, none⟩ = some (.slice A0_2 l0_2.length c0_2) := (yG BK235.out 2).trans rfl; have hcz9_3 : w7.cell? ⟨gb235, 3, none⟩ = some (.slice A0_3 l0_3.length c0_3) := (yG BK235.out 3).trans rfl; have hcz9_4 : w7.cell? ⟨gb235, 4, none⟩ = some (.slice A0_4 l0_4.length c0_4) := (yG BK235.out 4).trans rfl; have hcz9_5 : w7.cell? ⟨gb235, 5, none⟩ = some (.slice A0_5 l0_5.length c0_5) := (yG BK235.out 5).trans rfl; have hfz9_0 := yR BK235.out 0; have hfz9_1 := yR BK235.out 1; have hfz9_2 := yR BK235.out 2; have hfz9_3 := yR BK235.out 3; have hfz9_4 := yR BK235.out 4; have hfz9_5 := yR BK235.out 5; have p237 : 0 ≤ (0 : Int) := (by omega); have q237 : 0 < (l0_5.length : Int) := zP (by assumption); obtain ⟨ad237, A237_0, c237_0, e237, hx237_0, hl237_0, hi237_0⟩ := at_T48 HR0_5.out 0 p237 q237; cases e237; have qi237 : (0 < l0_5.length) = True := eq_true (by omega); (try rw [show ((0 : Int)).toNat = 0 from rfl] at hx237_0); (try rw [Addr.add_zero'] at hx237_0); replace hx237_0 := (HB.out.cell (zQ w _ hx237_0)).trans hx237_0; have HR237_0 := yD hi237_0; have HC237_0 := yD hl237_0; clear hi237_0 hl237_0; replace p237 := eq_true p237; replace q237 := eq_true q237) | ((with_reducible refine gate_dst (N := 3) rfl ?_); refine box_event ?hg (N := 3) ?hd (cs := #[.int .i64 0]) (t := 3) ?hr ?_; (case hd => rfl); (case hg => rfl); (case hr => first | (go_simp; done) | (go_simp; rfl)); intro gb238 hg w10 hbox hb; have n0_ := yD (zB (g := gb235) (o := .cells #[.int .i64 a0_0, .slice A0_1 l0_1.length c0_1, .slice A0_2 l0_2.length c0_2, .slice A0_3 l0_3.length c0_3, .slice A0_4 l0_4.length c0_4, .slice (some ad237) l0_5.length c0_5] 30 (0, 0)) (by exact BK235.out) hb); have n1_ := yD (zC (by exact HB.out) hb); have n2_ := yD (hbox); have n3_ := yD ((by rw [hg]; exact (below_size (by exact HB.out)) : w.heap.size ≤ gb238)); have n4_ := yD ((by rw [hg]; exact (below_size (by exact HB.out)) : w.heap.size ≤ gb238)); have n5_ := yD ((by rw [hg]; exact Nat.ne_of_lt (blk_lt (g := gb235) (o := .cells #[.int .i64 a0_0, .slice A0_1 l0_1.length c0_1, .slice A0_2 l0_2.length c0_2, .slice A0_3 l0_3.length c0_3, .slice A0_4 l0_4.length c0_4, .slice (some ad237) l0_5.length c0_5] 30 (0, 0)) (by exact BK235.out)) : gb235 ≠ gb238)); have n6_ := yD ((by rw [hg]; exact Nat.ne_of_gt (blk_lt (g := gb235) (o := .cells #[.int .i64 a0_0, .slice A0_1 l0_1.length c0_1, .slice A0_2 l0_2.length c0_2, .slice A0_3 l0_3.length c0_3, .slice A0_4 l0_4.length c0_4, .slice (some ad237) l0_5.length c0_5] 30 (0, 0)) (by exact BK235.out)) : gb238 ≠ gb235)); clear BK235; clear HB; have BK235 := n0_; have HB := n1_; have BK238 := n2_; have GW238 := n3_; have GE238 := n4_; have NB235_238 := n5_; have NB238_235 := n6_; clear n0_ n1_ n2_ n3_ n4_ n5_ n6_; clear hb hbox hg; have hnb11 := NB238_235.out; have hnc11 := NB235_238.out; have hcz12_0 : w10.cell? ⟨gb238, 0, none⟩ = some (.int .i64 0) := (yG BK238.out 0).trans rfl; have hfz12_0 := yR BK238.out 0; have hcz13_0 : w10.cell? ⟨gb235, 0, none⟩ = some (.int .i64 a0_0) := (yG BK235.out 0).trans rfl; have hcz13_1 : w10.cell? ⟨gb235, 1, none⟩ = some (.slice A0_1 l0_1.length c0_1) := (yG BK235.out 1).trans rfl; have hcz13_2 : w10.cell? ⟨gb235, 2, none⟩ = some (.slice A0_2 l0_2.length c0_2) := (yG BK235.out 2).trans rfl; have hcz13_3 : w10.cell? ⟨gb235, 3, none⟩ = some (.slice A0_3 l0_3.length c0_3) := (yG BK235.out 3).trans rfl; have hcz13_4 : w10.cell? ⟨gb235, 4, none⟩ = some (.slice A0_4 l0_4.length c0_4) := (yG BK235.out 4).trans rfl; have hcz13_5 : w10.cell? ⟨gb235, 5, none⟩ = some (.slice (some ad237) l0_5.length c0_5) := (yG BK235.out 5).trans rfl; have hfz13_0 := yR BK235.out 0; have hfz13_1 := yR BK235.out 1; have hfz13_2 := yR BK235.out 2; have hfz13_3 := yR BK235.out 3; have hfz13_4 := yR BK235.out 4; have hfz13_5 := yR BK235.out 5) | (go_at_call 37; (with_reducible refine (slices_ContainsFunc_impl_Selection_pointsFormed_1.calls k _ _ l0_5 gb238 (((rd_T48 l0_5 0).f0).length : Int) t239 _ ?side1 ?side2 ?side3 A6.out).mono ?_); (case side1 => exact yY HR0_5.out (by refine yE ?_ GE238.out; exact HB.out)); (case side2 => exact HC0_5.out); (case side3 => (with_reducible repeat (first | refine yM ?_ _ | refine yO ?_ | refine yN ?_ _)); refine blk_put (cs := #[.int .i64 0]) ?_ 0 _ rfl; (with_reducible repeat (first | refine yM ?_ _ | refine yO ?_ | refine yN ?_ _)); exact BK238.out); rintro e w14 ⟨rfl, hb⟩; have n0_ := yD (zB (g := gb235) (o := .cells #[.int .i64 a0_0, .slice A0_1 l0_1.length c0_1, .slice A0_2 l0_2.length c0_2, .slice A0_3 l0_3.length c0_3, .slice A0_4 l0_4.length c0_4, .slice (some ad237) l0_5.length c0_5] 30 (0, 0)) (by (with_reducible repeat (first | refine yM ?_ _ | refine yO ?_ | refine yN ?_ _)); refine blk_far ?_ NB235_238.out _; (with_reducible repeat (first | refine yM ?_ _ | refine yO ?_ | refine yN ?_ _)); exact BK235.out) hb); have n1_ := yD (zB (g := gb238) (o := .cells #[.int .i64 (((rd_T48 l0_5 0).f0).length : Int)] 3 (0, 0)) (by (with_reducible repeat (first | refine yM ?_ _ | refine yO ?_ | refine yN ?_ _)); refine blk_put (cs := #[.int .i64 0]) ?_ 0 _ rfl; (with_reducible repeat (first | refine yM ?_ _ | refine yO ?_ | refine yN ?_ _)); exact BK238.out) hb); have n2_ := yD (zC (by refine yE ?_ GE238.out; exact HB.out) hb); clear BK235; clear BK238; clear HB; have BK235 := n0_; have BK238 := n1_; have HB := n2_; clear n0_ n1_ n2_; (try clear hb); (try clear hb2); (try clear hk); (try clear hi)))
    go_ret
    exact ⟨by first | rfl | (simp <;> rfl) | (simp [*] <;> rfl), by repeat (first | (with_reducible first | exact HB.out | apply yQ | apply yL | apply yP | refine yE ?_ GE235.out | refine yE ?_ GE238.out) | exact HB.out)⟩
   ·
    rw [if_neg c5] at H; have c5b0 : decide ((((rd_T48 l0_5 0).f0).length : Int) ≤ 3) = false := zS c5
    have c5b1 : decide (((rd_T48 l0_5 0).f0).length ≤ 3) = false := zS (by omega)
    clear c5; obtain rfl := Option.some.inj H; go_enter Try.func20, Try.ntmps20
    go_wp2_with (first | ((with_reducible refine gate_dst (N := 1) rfl ?_); refine box_event ?hg (N := 1) ?hd (cs := #[.int .i64 a0_0, .slice A0_1 l0_1.length c0_1, .slice A0_2 l0_2.length c0_2, .slice A0_3 l0_3.length c0_3, .slice A0_4 l0_4.length c0_4, .slice A0_5 l0_5.length c0_5]) (t := 30) ?hr ?_; (case hd => rfl); (case hg => rfl); (case hr => first | (go_simp; done) | (go_simp; rfl)); intro gb235 hg w15 hbox hb; have n0_ := yD (zC (by exact HB.out) hb); have n1_ := yD (hbox); have n2_ := yD ((by rw [hg]; exact (below_size (by exact HB.out)) : w.heap.size ≤ gb235)); have n3_ := yD ((by rw [hg]; exact (below_size (by exact HB.out)) : w.heap.size ≤ gb235)); clear HB; have HB := n0_; have BK235 := n1_; have GW235 := n2_; have GE235 := n3_; clear n0_ n1_ n2_ n3_; clear hb hbox hg; have hcz16_0 : w15.cell? ⟨gb235, 0, none⟩ = some (.int .i64 a0_0) := (yG BK235.out 0).trans rfl; have hcz16_1 : w15.cell? ⟨gb235, 1, none⟩ = some (.slice A0_1 l0_1.length c0_1) := (yG BK235.out 1).trans rfl; have hcz16_2 : w15.cell? ⟨gb235, 2, none⟩ = some (.slice A0_2 l0_2.length c0_2) := (yG BK235.out 2).trans rfl; have hcz16_3 : w15.cell? ⟨gb235, 3, none⟩ = some (.slice A0_3 l0_3.length c0_3) := (yG BK235.out 3).trans rfl; have hcz16_4 : w15.cell? ⟨gb235, 4, none⟩ = some (.slice A0_4 l0_4.length c0_4) := (yG BK235.out 4).trans rfl; have hcz16_5 : w15.cell? ⟨gb235, 5, none⟩ = some (.slice A0_5 l0_5.length c0_5) := (yG BK235.out 5).trans rfl; have hfz16_0 := yR BK235.out 0; have hfz16_1 := yR BK235.out 1; have hfz16_2 := yR BK235.out 2; have hfz16_3 := yR BK235.out 3; have hfz16_4 := yR BK235.out 4; have hfz16_5 := yR BK235.out 5) | ((with_reducible refine gate_callee (f := 35) rfl ?_); refine goesL_ (some 7) rfl rfl Try.func35 (by kernel_rfl) rfl #[.int .i64 (l0_5.length : Int), .int .i64 1, .int .i64 24] rfl (by (try simp only [zK, zL, zM]); first | done | rfl | (simp only [zN, zO]; rfl)) ?_; (with_reducible refine (impl_within.calls (l0_5.length : Int) 1 24 true _ A2.out).mono ?_); rintro e w' ⟨rfl, ⟨nd, rfl⟩⟩; refine ⟨_, rfl, ?_⟩; (try (rw [drewN_self w15]; generalize hq_ : World.drewN w15 _ = w15; have n0_ : Aside0 (w15.heap[gb235]? = some (.cells #[.int .i64 a0_0, .slice A0_1 l0_1.length c0_1, .slice A0_2 l0_2.length c0_2, .slice A0_3 l0_3.length c0_3, .slice A0_4 l0_4.length c0_4, .slice A0_5 l0_5.length c0_5] 30 (0, 0))) := ⟨by rw [← hq_]; exact (by refine yM ?_ _; exact BK235.out)⟩; have n1_ : Aside0 (Below w.heap.size w w15) := ⟨by rw [← hq_]; exact (by apply yL; exact HB.out)⟩; clear BK235 HB hq_; have BK235 := n0_; have HB := n1_; clear n0_ n1_)); have hcz17_0 : w15.cell? ⟨gb235, 0, none⟩ = some (.int .i64 a0_0) := (yG BK235.out 0).trans rfl; have hcz17_1 : w15.cell? ⟨gb235, 1, none⟩ = some (.slice A0_1 l0_1.length c0_1) := (yG BK235.out 1).trans rfl; have hcz17_2 : w15.cell? ⟨gb235, 2, none⟩ = some (.slice A0_2 l0_2.length c0_2) := (yG BK235.out 2).trans rfl; have hcz17_3 : w15.cell? ⟨gb235, 3, none⟩ = some (.slice A0_3 l0_3.length c0_3) := (yG BK235.out 3).trans rfl; have hcz17_4 : w15.cell? ⟨gb235, 4, none⟩ = some (.slice A0_4 l0_4.length c0_4) := (yG BK235.out 4).trans rfl; have hcz17_5 : w15.cell? ⟨gb235, 5, none⟩ = some (.slice A0_5 l0_5.length c0_5) := (yG BK235.out 5).trans rfl; have hfz17_0 := yR BK235.out 0; have hfz17_1 := yR BK235.out 1; have hfz17_2 := yR BK235.out 2; have hfz17_3 := yR BK235.out 3; have hfz17_4 := yR BK235.out 4; have hfz17_5 := yR BK235.out 5; have p237 : 0 ≤ (0 : Int) := (by omega); have q237 : 0 < (l0_5.length : Int) := zP (by assumption); obtain ⟨ad237, A237_0, c237_0, e237, hx237_0, hl237_0, hi237_0⟩ := at_T48 HR0_5.out 0 p237 q237; cases e237; have qi237 : (0 < l0_5.length) = True := eq_true (by omega); (try rw [show ((0 : Int)).toNat = 0 from rfl] at hx237_0); (try rw [Addr.add_zero'] at hx237_0); replace hx237_0 := (HB.out.cell (zQ w _ hx237_0)).trans hx237_0; have HR237_0 := yD hi237_0; have HC237_0 := yD hl237_0; clear hi237_0 hl237_0; replace p237 := eq_true p237; replace q237 := eq_true q237) | ((with_reducible refine gate_dst (N := 3) rfl ?_); refine box_event ?hg (N := 3) ?hd (cs := #[.int .i64 0]) (t := 3) ?hr ?_; (case hd => rfl); (case hg => rfl); (case hr => first | (go_simp; done) | (go_simp; rfl)); intro gb238 hg w18 hbox hb; have n0_ := yD (zB (g := gb235) (o := .cells #[.int .i64 a0_0, .slice A0_1 l0_1.length c0_1, .slice A0_2 l0_2.length c0_2, .slice A0_3 l0_3.length c0_3, .slice A0_4 l0_4.length c0_4, .slice (some ad237) l0_5.length c0_5] 30 (0, 0)) (by exact BK235.out) hb); have n1_ := yD (zC (by exact HB.out) hb); have n2_ := yD (hbox); have n3_ := yD ((by rw [hg]; exact (below_size (by exact HB.out)) : w.heap.size ≤ gb238)); have n4_ := yD ((by rw [hg]; exact (below_size (by exact HB.out)) : w.heap.size ≤ gb238)); have n5_ := yD ((by rw [hg]; exact Nat.ne_of_lt (blk_lt (g := gb235) (o := .cells #[.int .i64 a0_0, .slice A0_1 l0_1.length c0_1, .slice A0_2 l0_2.length c0_2, .slice A0_3 l0_3.length c0_3, .slice A0_4 l0_4.length c0_4, .slice (some ad237) l0_5.length c0_5] 30 (0, 0)) (by exact BK235.out)) : gb235 ≠ gb238)); have n6_ := yD ((by rw [hg]; exact Nat.ne_of_gt (blk_lt (g := gb235) (o := .cells #[.int .i64 a0_0, .slice A0_1 l0_1.length c0_1, .slice A0_2 l0_2.length c0_2, .slice A0_3 l0_3.length c0_3, .slice A0_4 l0_4.length c0_4, .slice (some ad237) l0_5.length c0_5] 30 (0, 0)) (by exact BK235.out)) : gb238 ≠ gb235)); clear BK235; clear HB; have BK235 := n0_; have HB := n1_; have BK238 := n2_; have GW238 := n3_; have GE238 := n4_; have NB235_238 := n5_; have NB238_235 := n6_; clear n0_ n1_ n2_ n3_ n4_ n5_ n6_; clear hb hbox hg; have hnb19 := NB238_235.out; have hnc19 := NB235_238.out; have hcz20_0 : w18.cell? ⟨gb238, 0, none⟩ = some (.int .i64 0) := (yG BK238.out 0).trans rfl; have hfz20_0 := yR BK238.out 0))
    go_ret
    exact ⟨by first | rfl | (simp <;> rfl) | (simp [*] <;> rfl), by repeat (first | (with_reducible first | exact HB.out | apply yQ | apply yL | apply yP | refine yE ?_ GE235.out | refine yE ?_ GE238.out) | exact HB.out)⟩
  ·
   rw [if_neg c4] at H
   exact absurd H (by simp)
 ·
  replace c3 := Bool.eq_false_iff.mpr c3
  subst c3
  have H1 : (some false) = some r := by rw [if_neg (show ¬ (false = true) by decide)] at H; exact H
  clear H; have H := H1; clear H1; obtain rfl := Option.some.inj H; go_enter Try.func20, Try.ntmps20
  go_wp2_with (first | ((with_reducible refine gate_dst (N := 1) rfl ?_); refine box_event ?hg (N := 1) ?hd (cs := #[.int .i64 a0_0, .slice A0_1 l0_1.length c0_1, .slice A0_2 l0_2.length c0_2, .slice A0_3 l0_3.length c0_3, .slice A0_4 l0_4.length c0_4, .slice A0_5 l0_5.length c0_5]) (t := 30) ?hr ?_; (case hd => rfl); (case hg => rfl); (case hr => first | (go_simp; done) | (go_simp; rfl)); intro gb235 hg w21 hbox hb; have n0_ := yD (zC (by exact HB.out) hb); have n1_ := yD (hbox); have n2_ := yD ((by rw [hg]; exact (below_size (by exact HB.out)) : w.heap.size ≤ gb235)); have n3_ := yD ((by rw [hg]; exact (below_size (by exact HB.out)) : w.heap.size ≤ gb235)); clear HB; have HB := n0_; have BK235 := n1_; have GW235 := n2_; have GE235 := n3_; clear n0_ n1_ n2_ n3_; clear hb hbox hg; have hcz22_0 : w21.cell? ⟨gb235, 0, none⟩ = some (.int .i64 a0_0) := (yG BK235.out 0).trans rfl; have hcz22_1 : w21.cell? ⟨gb235, 1, none⟩ = some (.slice A0_1 l0_1.length c0_1) := (yG BK235.out 1).trans rfl; have hcz22_2 : w21.cell? ⟨gb235, 2, none⟩ = some (.slice A0_2 l0_2.length c0_2) := (yG BK235.out 2).trans rfl; have hcz22_3 : w21.cell? ⟨gb235, 3, none⟩ = some (.slice A0_3 l0_3.length c0_3) := (yG BK235.out 3).trans rfl; have hcz22_4 : w21.cell? ⟨gb235, 4, none⟩ = some (.slice A0_4 l0_4.length c0_4) := (yG BK235.out 4).trans rfl; have hcz22_5 : w21.cell? ⟨gb235, 5, none⟩ = some (.slice A0_5 l0_5.length c0_5) := (yG BK235.out 5).trans rfl; have hfz22_0 := yR BK235.out 0; have hfz22_1 := yR BK235.out 1; have hfz22_2 := yR BK235.out 2; have hfz22_3 := yR BK235.out 3; have hfz22_4 := yR BK235.out 4; have hfz22_5 := yR BK235.out 5) | ((with_reducible refine gate_callee (f := 35) rfl ?_); refine goesL_ (some 7) rfl rfl Try.func35 (by kernel_rfl) rfl #[.int .i64 (l0_5.length : Int), .int .i64 1, .int .i64 24] rfl (by (try simp only [zK, zL, zM]); first | done | rfl | (simp only [zN, zO]; rfl)) ?_; (with_reducible refine (impl_within.calls (l0_5.length : Int) 1 24 false _ A2.out).mono ?_); rintro e w' ⟨rfl, ⟨nd, rfl⟩⟩; refine ⟨_, rfl, ?_⟩))
  go_ret
  exact ⟨by first | rfl | (simp <;> rfl) | (simp [*] <;> rfl), by repeat (first | (with_reducible first | exact HB.out | apply yQ | apply yL | apply yP | refine yE ?_ GE235.out) | exact HB.out)⟩

/-! ### impl_FormedSelection: function 8 -/
def impl_FormedSelection.j0 : Nat → Bool → Int → Bool → Int → List Int → List Int → List Int → List Int → List (S48) → Option (Bool)
 | 0, _, _, _, _, _, _, _, _, _ => none
 | k + 1, x3, x12, x13, x241000, x241001, x241002, x241003, x241004, x241005 => if x13 = true then (if x3 = true then (some ((x241005.length : Int) == 0)) else (some false)) else (if x12 = 3 then (if (x241005.length : Int) = 0 then ((impl_Selection_slabFormed.f k x241000 x241001 x241002 x241003 x241004 x241005).bind fun t242 => (some t242)) else (some false)) else (if x12 = 4 then (if x3 = true then ((impl_Selection_pointsFormed.f k x241000 x241001 x241002 x241003 x241004 x241005).bind fun t243 => (some t243)) else (some false)) else (some false)))
def impl_FormedSelection.f (k : Nat) (a0_0 : Int) (l0_1 : List Int) (l0_2 : List Int) (l0_3 : List Int) (l0_4 : List Int) (l0_5 : List (S48)) : Option (Bool) := (impl_SameSelection.f k a0_0 ([] : List Int) ([] : List Int) ([] : List Int) ([] : List Int) l0_5 a0_0 l0_1 l0_2 l0_3 l0_4 l0_5).bind fun t241 => (if a0_0 = 1 then (impl_FormedSelection.j0 k t241 a0_0 (a0_0 == 1) a0_0 l0_1 l0_2 l0_3 l0_4 l0_5) else (impl_FormedSelection.j0 k t241 a0_0 (a0_0 == 2) a0_0 l0_1 l0_2 l0_3 l0_4 l0_5))
theorem impl_FormedSelection.mono_l : ∀ k, (∀ y0 y1 y2 y3 y4 y5 y6 y7 y8, LeO (impl_FormedSelection.j0 k y0 y1 y2 y3 y4 y5 y6 y7 y8) (impl_FormedSelection.j0 (k + 1) y0 y1 y2 y3 y4 y5 y6 y7 y8))
 | 0 => fun _ _ _ _ _ _ _ _ _ r h => by simp [impl_FormedSelection.j0] at h
 | k + 1 => by
  have ih0 := impl_FormedSelection.mono_l k
  ·
   intro y0 y1 y2 y3 y4 y5 y6 y7 y8
   unfold impl_FormedSelection.j0
   repeat' first
   | (with_reducible exact ih0 _ _ _ _ _ _ _ _ _)
   | (with_reducible exact impl_SameSelection.mono _ _ _ _ _ _ _ _ _ _ _ _ _)
   | (with_reducible exact impl_Selection_pointsFormed.mono _ _ _ _ _ _ _)
   | (with_reducible exact impl_Selection_slabFormed.mono _ _ _ _ _ _ _)
   | (with_reducible exact LeO.refl _)
   | (with_reducible exact LeO.none _)
   | (with_reducible refine LeO.ite ?_ ?_)
   | (with_reducible refine LeO.bind ?_ (fun _ => ?_))
   | exact ih0 _ _ _ _ _ _ _ _ _
   | exact impl_SameSelection.mono _ _ _ _ _ _ _ _ _ _ _ _ _
   | exact impl_Selection_pointsFormed.mono _ _ _ _ _ _ _
   | exact impl_Selection_slabFormed.mono _ _ _ _ _ _ _
   | exact LeO.none _
   | refine LeO.ite ?_ ?_
   | refine LeO.bind ?_ (fun _ => ?_)
theorem impl_FormedSelection.mono : ∀ a0 a1 a2 a3 a4 a5 k, LeO (impl_FormedSelection.f k a0 a1 a2 a3 a4 a5) (impl_FormedSelection.f (k + 1) a0 a1 a2 a3 a4 a5) := by
 intro a0 a1 a2 a3 a4 a5 k
 have ih0 := impl_FormedSelection.mono_l k
 unfold impl_FormedSelection.f
 repeat' first
   | (with_reducible exact ih0 _ _ _ _ _ _ _ _ _)
   | (with_reducible exact impl_SameSelection.mono _ _ _ _ _ _ _ _ _ _ _ _ _)
   | (with_reducible exact impl_Selection_pointsFormed.mono _ _ _ _ _ _ _)
   | (with_reducible exact impl_Selection_slabFormed.mono _ _ _ _ _ _ _)
   | (with_reducible exact LeO.refl _)
   | (with_reducible exact LeO.none _)
   | (with_reducible refine LeO.ite ?_ ?_)
   | (with_reducible refine LeO.bind ?_ (fun _ => ?_))
   | exact ih0 _ _ _ _ _ _ _ _ _
   | exact impl_SameSelection.mono _ _ _ _ _ _ _ _ _ _ _ _ _
   | exact impl_Selection_pointsFormed.mono _ _ _ _ _ _ _
   | exact impl_Selection_slabFormed.mono _ _ _ _ _ _ _
   | exact LeO.none _
   | refine LeO.ite ?_ ?_
   | refine LeO.bind ?_ (fun _ => ?_)
set_option maxHeartbeats 8000000 in
set_option maxRecDepth 100000 in
theorem impl_FormedSelection.calls (k : Nat) (a0_0 : Int) (A0_1 : Option Addr) (c0_1 : Nat) (l0_1 : List Int) (A0_2 : Option Addr) (c0_2 : Nat) (l0_2 : List Int) (A0_3 : Option Addr) (c0_3 : Nat) (l0_3 : List Int) (A0_4 : Option Addr) (c0_4 : Nat) (l0_4 : List Int) (A0_5 : Option Addr) (c0_5 : Nat) (l0_5 : List (S48)) (r : Bool) (w : World) (hr0_1 : Kd.C (Kd.int .i64) w A0_1 l0_1.length l0_1) (hc0_1 : l0_1.length ≤ c0_1) (hr0_2 : Kd.C (Kd.int .i64) w A0_2 l0_2.length l0_2) (hc0_2 : l0_2.length ≤ c0_2) (hr0_3 : Kd.C (Kd.int .i64) w A0_3 l0_3.length l0_3) (hc0_3 : l0_3.length ≤ c0_3) (hr0_4 : Kd.C (Kd.int .i64) w A0_4 l0_4.length l0_4) (hc0_4 : l0_4.length ≤ c0_4) (hr0_5 : Kd.C k48 w A0_5 l0_5.length l0_5) (hc0_5 : l0_5.length ≤ c0_5) (h : impl_FormedSelection.f k a0_0 l0_1 l0_2 l0_3 l0_4 l0_5 = some r) :
  Calls Try.prog 8 #[.agg #[.int .i64 a0_0, .slice A0_1 l0_1.length c0_1, .slice A0_2 l0_2.length c0_2, .slice A0_3 l0_3.length c0_3, .slice A0_4 l0_4.length c0_4, .slice A0_5 l0_5.length c0_5]] w fun e w' => e = .returned (.bool r) ∧ Below w.heap.size w w' := by
 have hu30 := Try.underlying30
 have HR0_1 := yD hr0_1
 have HC0_1 := yD hc0_1
 clear hr0_1 hc0_1
 have HR0_2 := yD hr0_2
 have HC0_2 := yD hc0_2
 clear hr0_2 hc0_2
 have HR0_3 := yD hr0_3
 have HC0_3 := yD hc0_3
 clear hr0_3 hc0_3
 have HR0_4 := yD hr0_4
 have HC0_4 := yD hc0_4
 clear hr0_4 hc0_4
 have HR0_5 := yD hr0_5
 have HC0_5 := yD hc0_5
 clear hr0_5 hc0_5
 have HB := yD (Below.refl w.heap.size w)
 have H : ((impl_SameSelection.f k a0_0 ([] : List Int) ([] : List Int) ([] : List Int) ([] : List Int) l0_5 a0_0 l0_1 l0_2 l0_3 l0_4 l0_5).bind fun t241 => (if a0_0 = 1 then (impl_FormedSelection.j0 k t241 a0_0 (a0_0 == 1) a0_0 l0_1 l0_2 l0_3 l0_4 l0_5) else (impl_FormedSelection.j0 k t241 a0_0 (a0_0 == 2) a0_0 l0_1 l0_2 l0_3 l0_4 l0_5))) = some r := h
 clear h
 obtain ⟨t241, A20, H⟩ := zW_ H
 replace H : (if a0_0 = 1 then (impl_FormedSelection.j0 k t241 a0_0 (a0_0 == 1) a0_0 l0_1 l0_2 l0_3 l0_4 l0_5) else (impl_FormedSelection.j0 k t241 a0_0 (a0_0 == 2) a0_0 l0_1 l0_2 l0_3 l0_4 l0_5)) = some r := H
 have A2 := yD A20
 clear A20
 have HC3 := yD H
 clear H; go_enter Try.func8, Try.ntmps8
 go_upto_if 13 with (first | ((with_reducible refine gate_dst (N := 1) rfl ?_); (try (refine gate_guard (by rfl) ?_; dsimp only)); refine box_event ?hg (N := 1) ?hd (cs := #[.int .i64 a0_0, .slice A0_1 l0_1.length c0_1, .slice A0_2 l0_2.length c0_2, .slice A0_3 l0_3.length c0_3, .slice A0_4 l0_4.length c0_4, .slice A0_5 l0_5.length c0_5]) (t := 30) ?hr ?_; (case hd => rfl); (case hg => rfl); (case hr => first | (go_simp; done) | (go_simp; rfl)); intro gb240 hg w4 hbox hb; have n0_ := yD (zC (by exact HB.out) hb); have n1_ := yD (hbox); have n2_ := yD ((by rw [hg]; exact (below_size (by exact HB.out)) : w.heap.size ≤ gb240)); have n3_ := yD ((by rw [hg]; exact (below_size (by exact HB.out)) : w.heap.size ≤ gb240)); clear HB; have HB := n0_; have BK240 := n1_; have GW240 := n2_; have GE240 := n3_; clear n0_ n1_ n2_ n3_; clear hb hbox hg; have hcz5_0 : w4.cell? ⟨gb240, 0, none⟩ = some (.int .i64 a0_0) := (yG BK240.out 0).trans rfl; have hcz5_1 : w4.cell? ⟨gb240, 1, none⟩ = some (.slice A0_1 l0_1.length c0_1) := (yG BK240.out 1).trans rfl; have hcz5_2 : w4.cell? ⟨gb240, 2, none⟩ = some (.slice A0_2 l0_2.length c0_2) := (yG BK240.out 2).trans rfl; have hcz5_3 : w4.cell? ⟨gb240, 3, none⟩ = some (.slice A0_3 l0_3.length c0_3) := (yG BK240.out 3).trans rfl; have hcz5_4 : w4.cell? ⟨gb240, 4, none⟩ = some (.slice A0_4 l0_4.length c0_4) := (yG BK240.out 4).trans rfl; have hcz5_5 : w4.cell? ⟨gb240, 5, none⟩ = some (.slice A0_5 l0_5.length c0_5) := (yG BK240.out 5).trans rfl; have hfz5_0 := yR BK240.out 0; have hfz5_1 := yR BK240.out 1; have hfz5_2 := yR BK240.out 2; have hfz5_3 := yR BK240.out 3; have hfz5_4 := yR BK240.out 4; have hfz5_5 := yR BK240.out 5) | ((with_reducible refine gate_callee (f := 18) rfl ?_); refine goesL_ (some 10) rfl rfl Try.func18 (by kernel_rfl) rfl #[.agg #[.int .i64 a0_0, .slice none 0 0, .slice none 0 0, .slice none 0 0, .slice none 0 0, .slice A0_5 l0_5.length c0_5], .agg #[.int .i64 a0_0, .slice A0_1 l0_1.length c0_1, .slice A0_2 l0_2.length c0_2, .slice A0_3 l0_3.length c0_3, .slice A0_4 l0_4.length c0_4, .slice A0_5 l0_5.length c0_5]] rfl (by (try simp only [zK, zL, zM]); first | done | rfl | (simp only [zN, zO]; rfl)) ?_; (refine (impl_SameSelection.calls k a0_0 _ _ ([] : List Int) _ _ ([] : List Int) _ _ ([] : List Int) _ _ ([] : List Int) _ _ l0_5 a0_0 _ _ l0_1 _ _ l0_2 _ _ l0_3 _ _ l0_4 _ _ l0_5 t241 _ ?side1 ?side2 ?side3 ?side4 ?side5 ?side6 ?side7 ?side8 ?side9 ?side10 ?side11 ?side12 ?side13 ?side14 ?side15 ?side16 ?side17 ?side18 ?side19 ?side20 A2.out).mono ?_); (case side1 => exact Kd.C_nil _ _); (case side2 => exact Nat.le_refl _); (case side3 => exact Kd.C_nil _ _); (case side4 => exact Nat.le_refl _); (case side5 => exact Kd.C_nil _ _); (case side6 => exact Nat.le_refl _); (case side7 => exact Kd.C_nil _ _); (case side8 => exact Nat.le_refl _); (case side9 => exact yY HR0_5.out HB.out); (case side10 => exact HC0_5.out); (case side11 => exact yY HR0_1.out HB.out); (case side12 => exact HC0_1.out); (case side13 => exact yY HR0_2.out HB.out); (case side14 => exact HC0_2.out); (case side15 => exact yY HR0_3.out HB.out); (case side16 => exact HC0_3.out); (case side17 => exact yY HR0_4.out HB.out); (case side18 => exact HC0_4.out); (case side19 => exact yY HR0_5.out HB.out); (case side20 => exact HC0_5.out); rintro e w6 ⟨rfl, hb⟩; refine ⟨_, rfl, ?_⟩; have n0_ := yD (zB (g := gb240) (o := .cells #[.int .i64 a0_0, .slice A0_1 l0_1.length c0_1, .slice A0_2 l0_2.length c0_2, .slice A0_3 l0_3.length c0_3, .slice A0_4 l0_4.length c0_4, .slice A0_5 l0_5.length c0_5] 30 (0, 0)) (by exact BK240.out) hb); have n1_ := yD (zC (by exact HB.out) hb); clear BK240; clear HB; have BK240 := n0_; have HB := n1_; clear n0_ n1_; (try clear hb); (try clear hb2); (try clear hk); (try clear hi); have hcz7_0 : w6.cell? ⟨gb240, 0, none⟩ = some (.int .i64 a0_0) := (yG BK240.out 0).trans rfl; have hcz7_1 : w6.cell? ⟨gb240, 1, none⟩ = some (.slice A0_1 l0_1.length c0_1) := (yG BK240.out 1).trans rfl; have hcz7_2 : w6.cell? ⟨gb240, 2, none⟩ = some (.slice A0_2 l0_2.length c0_2) := (yG BK240.out 2).trans rfl; have hcz7_3 : w6.cell? ⟨gb240, 3, none⟩ = some (.slice A0_3 l0_3.length c0_3) := (yG BK240.out 3).trans rfl; have hcz7_4 : w6.cell? ⟨gb240, 4, none⟩ = some (.slice A0_4 l0_4.length c0_4) := (yG BK240.out 4).trans rfl; have hcz7_5 : w6.cell? ⟨gb240, 5, none⟩ = some (.slice A0_5 l0_5.length c0_5) := (yG BK240.out 5).trans rfl; have hfz7_0 := yR BK240.out 0; have hfz7_1 := yR BK240.out 1; have hfz7_2 := yR BK240.out 2; have hfz7_3 := yR BK240.out 3; have hfz7_4 := yR BK240.out 4; have hfz7_5 := yR BK240.out 5))
 (try simp only [Act.put, zH, zI, zJ])
 go_cut [13] (fun v13 wc => ∃ (kq : Nat) (x13_2 : Bool), v13 = .bool x13_2 ∧ Aside0 (impl_FormedSelection.j0 kq t241 a0_0 x13_2 a0_0 l0_1 l0_2 l0_3 l0_4 l0_5 = some r) ∧ Aside0 (kq ≤ k) ∧ Aside0 (wc.heap[gb240]? = some (.cells #[.int .i64 a0_0, (.slice A0_1 l0_1.length c0_1), (.slice A0_2 l0_2.length c0_2), (.slice A0_3 l0_3.length c0_3), (.slice A0_4 l0_4.length c0_4), (.slice A0_5 l0_5.length c0_5)] 30 (0, 0))) ∧ Aside0 (Below w.heap.size w wc))
 case first =>
  have H := HC3.out; clear HC3
  by_cases c8 : a0_0 = 1
  ·
   rw [if_pos c8] at H
   have c8b0 : (a0_0 == 1) = true := beq_iff_eq.mpr c8
   have c8b1 : (a0_0 != 1) = false := bne_eq_false_iff_eq.mpr c8
   clear c8
   (first | rw [c8b0] | (simp only [i64_w, i32_w]; rw [c8b0]) | (simp only [bne] at c8b0; rw [c8b0]) | skip)
   have H' := yD H
   clear H
   go_wp2
   go_meet
   case rel => exact ⟨_, ((a0_0 == 1)), (by first | rfl | (simp; done) | (simp [*]; done)), H', ⟨by first | omega | exact Nat.le_refl _⟩, ⟨by (with_reducible repeat (first | refine yM ?_ _ | refine yO ?_ | refine yN ?_ _)); exact BK240.out⟩, ⟨by repeat (first | (with_reducible first | exact HB.out | apply yQ | apply yL | apply yP | refine yE ?_ GE240.out) | exact HB.out)⟩⟩
  ·
   rw [if_neg c8] at H
   have c8b0 : (a0_0 == 1) = false := beq_eq_false_iff_ne.mpr c8
   have c8b1 : (a0_0 != 1) = true := bne_iff_ne.mpr c8
   (first | rw [c8b0] | (simp only [i64_w, i32_w]; rw [c8b0]) | (simp only [bne] at c8b0; rw [c8b0]) | skip)
   have H' := yD H
   clear H
   go_wp2
   go_meet
   case rel => exact ⟨_, ((a0_0 == 2)), (by first | rfl | (simp; done) | (simp [*]; done)), H', ⟨by first | omega | exact Nat.le_refl _⟩, ⟨by (with_reducible repeat (first | refine yM ?_ _ | refine yO ?_ | refine yN ?_ _)); exact BK240.out⟩, ⟨by repeat (first | (with_reducible first | exact HB.out | apply yQ | apply yL | apply yP | refine yE ?_ GE240.out) | exact HB.out)⟩⟩
 case rest =>
  clear HC3; try clear c1; try clear p2; try clear c8; try clear c8b0; try clear c8b1; try clear hcz5_0; try clear hcz5_1; try clear hcz5_2; try clear hcz5_3; try clear hcz5_4; try clear hcz5_5; try clear hcz7_0; try clear hcz7_1; try clear hcz7_2; try clear hcz7_3; try clear hcz7_4; try clear hcz7_5; try clear hfz5_0; try clear hfz5_1; try clear hfz5_2; try clear hfz5_3; try clear hfz5_4; try clear hfz5_5; try clear hfz7_0; try clear hfz7_1; try clear hfz7_2; try clear hfz7_3; try clear hfz7_4; try clear hfz7_5
  obtain ⟨kq, x13_2, rfl, HA, HJ2, BK240, HB⟩ := hcut
  cases kq with
  | zero => exact absurd HA.out (by simp [impl_FormedSelection.j0])
  | succ kj2 =>
   have H := HA.out; clear HA
   simp only [impl_FormedSelection.j0] at H
   by_cases c9 : x13_2 = true
   ·
    subst c9
    have H1 : (if t241 = true then (some ((l0_5.length : Int) == 0)) else (some false)) = some r := by rw [if_pos rfl] at H; exact H
    clear H; have H := H1; clear H1
    by_cases c10 : t241 = true
    ·
     subst c10
     have H1 : (some ((l0_5.length : Int) == 0)) = some r := by rw [if_pos rfl] at H; exact H
     clear H; have H := H1; clear H1; obtain rfl := Option.some.inj H
     have hcz11_0 : wc.cell? ⟨gb240, 0, none⟩ = some (.int .i64 a0_0) := (yG BK240.out 0).trans rfl
     have hcz11_1 : wc.cell? ⟨gb240, 1, none⟩ = some (.slice A0_1 l0_1.length c0_1) := (yG BK240.out 1).trans rfl
     have hcz11_2 : wc.cell? ⟨gb240, 2, none⟩ = some (.slice A0_2 l0_2.length c0_2) := (yG BK240.out 2).trans rfl
     have hcz11_3 : wc.cell? ⟨gb240, 3, none⟩ = some (.slice A0_3 l0_3.length c0_3) := (yG BK240.out 3).trans rfl
     have hcz11_4 : wc.cell? ⟨gb240, 4, none⟩ = some (.slice A0_4 l0_4.length c0_4) := (yG BK240.out 4).trans rfl
     have hcz11_5 : wc.cell? ⟨gb240, 5, none⟩ = some (.slice A0_5 l0_5.length c0_5) := (yG BK240.out 5).trans rfl
     have hfz11_0 := yR BK240.out 0
     have hfz11_1 := yR BK240.out 1
     have hfz11_2 := yR BK240.out 2
     have hfz11_3 := yR BK240.out 3
     have hfz11_4 := yR BK240.out 4
     have hfz11_5 := yR BK240.out 5
     go_wp2
     go_ret
     exact ⟨by first | rfl | (simp <;> rfl) | (simp [*] <;> rfl), by repeat (first | (with_reducible first | exact HB.out | apply yQ | apply yL | apply yP | refine yE ?_ GE240.out) | exact HB.out)⟩
    ·
     replace c10 := Bool.eq_false_iff.mpr c10
     subst c10
     have H1 : (some false) = some r := by rw [if_neg (show ¬ (false = true) by decide)] at H; exact H
     clear H; have H := H1; clear H1; obtain rfl := Option.some.inj H
     go_wp2
     go_ret
     exact ⟨by first | rfl | (simp <;> rfl) | (simp [*] <;> rfl), by repeat (first | (with_reducible first | exact HB.out | apply yQ | apply yL | apply yP | refine yE ?_ GE240.out) | exact HB.out)⟩
   ·
    replace c9 := Bool.eq_false_iff.mpr c9
    subst c9
    have H1 : (if a0_0 = 3 then (if (l0_5.length : Int) = 0 then ((impl_Selection_slabFormed.f kj2 a0_0 l0_1 l0_2 l0_3 l0_4 l0_5).bind fun t242 => (some t242)) else (some false)) else (if a0_0 = 4 then (if t241 = true then ((impl_Selection_pointsFormed.f kj2 a0_0 l0_1 l0_2 l0_3 l0_4 l0_5).bind fun t243 => (some t243)) else (some false)) else (some false))) = some r := by rw [if_neg (show ¬ (false = true) by decide)] at H; exact H
    clear H; have H := H1; clear H1
    by_cases c12 : a0_0 = 3
    ·
     rw [if_pos c12] at H
     have c12b0 : (a0_0 == 3) = true := beq_iff_eq.mpr c12
     have c12b1 : (a0_0 != 3) = false := bne_eq_false_iff_eq.mpr c12
     clear c12
     by_cases c13 : (l0_5.length : Int) = 0
     ·
      rw [if_pos c13] at H
      have c13b0 : ((l0_5.length : Int) == 0) = true := beq_iff_eq.mpr c13
      have c13b1 : ((l0_5.length : Int) != 0) = false := bne_eq_false_iff_eq.mpr c13
      clear c13
      obtain ⟨t242, A140, H⟩ := zW_ H
      replace H : (some t242) = some r := H
      have A14 := yD A140
      clear A140; obtain rfl := Option.some.inj H
      have hcz15_0 : wc.cell? ⟨gb240, 0, none⟩ = some (.int .i64 a0_0) := (yG BK240.out 0).trans rfl
      have hcz15_1 : wc.cell? ⟨gb240, 1, none⟩ = some (.slice A0_1 l0_1.length c0_1) := (yG BK240.out 1).trans rfl
      have hcz15_2 : wc.cell? ⟨gb240, 2, none⟩ = some (.slice A0_2 l0_2.length c0_2) := (yG BK240.out 2).trans rfl
      have hcz15_3 : wc.cell? ⟨gb240, 3, none⟩ = some (.slice A0_3 l0_3.length c0_3) := (yG BK240.out 3).trans rfl
      have hcz15_4 : wc.cell? ⟨gb240, 4, none⟩ = some (.slice A0_4 l0_4.length c0_4) := (yG BK240.out 4).trans rfl
      have hcz15_5 : wc.cell? ⟨gb240, 5, none⟩ = some (.slice A0_5 l0_5.length c0_5) := (yG BK240.out 5).trans rfl
      have hfz15_0 := yR BK240.out 0
      have hfz15_1 := yR BK240.out 1
      have hfz15_2 := yR BK240.out 2
      have hfz15_3 := yR BK240.out 3
      have hfz15_4 := yR BK240.out 4
      have hfz15_5 := yR BK240.out 5
      go_wp2_with (first | (go_at_call 19; (with_reducible refine (impl_Selection_slabFormed.calls kj2 a0_0 _ _ l0_1 _ _ l0_2 _ _ l0_3 _ _ l0_4 _ _ l0_5 t242 _ ?side1 ?side2 ?side3 ?side4 ?side5 ?side6 ?side7 ?side8 ?side9 ?side10 A14.out).mono ?_); (case side1 => exact yY HR0_1.out HB.out); (case side2 => exact HC0_1.out); (case side3 => exact yY HR0_2.out HB.out); (case side4 => exact HC0_2.out); (case side5 => exact yY HR0_3.out HB.out); (case side6 => exact HC0_3.out); (case side7 => exact yY HR0_4.out HB.out); (case side8 => exact HC0_4.out); (case side9 => exact yY HR0_5.out HB.out); (case side10 => exact HC0_5.out); rintro e w16 ⟨rfl, hb⟩; have n0_ := yD (zB (g := gb240) (o := .cells #[.int .i64 a0_0, .slice A0_1 l0_1.length c0_1, .slice A0_2 l0_2.length c0_2, .slice A0_3 l0_3.length c0_3, .slice A0_4 l0_4.length c0_4, .slice A0_5 l0_5.length c0_5] 30 (0, 0)) (by exact BK240.out) hb); have n1_ := yD (zC (by exact HB.out) hb); clear BK240; clear HB; have BK240 := n0_; have HB := n1_; clear n0_ n1_; (try clear hb); (try clear hb2); (try clear hk); (try clear hi)))
      go_ret
      exact ⟨by first | rfl | (simp <;> rfl) | (simp [*] <;> rfl), by repeat (first | (with_reducible first | exact HB.out | apply yQ | apply yL | apply yP | refine yE ?_ GE240.out) | exact HB.out)⟩
     ·
      rw [if_neg c13] at H
      have c13b0 : ((l0_5.length : Int) == 0) = false := beq_eq_false_iff_ne.mpr c13
      have c13b1 : ((l0_5.length : Int) != 0) = true := bne_iff_ne.mpr c13
      have c13b2 : ¬ (l0_5 = []) := fun h_ => c13 (by rw [h_]; rfl)
      obtain rfl := Option.some.inj H
      have hcz17_0 : wc.cell? ⟨gb240, 0, none⟩ = some (.int .i64 a0_0) := (yG BK240.out 0).trans rfl
      have hcz17_1 : wc.cell? ⟨gb240, 1, none⟩ = some (.slice A0_1 l0_1.length c0_1) := (yG BK240.out 1).trans rfl
      have hcz17_2 : wc.cell? ⟨gb240, 2, none⟩ = some (.slice A0_2 l0_2.length c0_2) := (yG BK240.out 2).trans rfl
      have hcz17_3 : wc.cell? ⟨gb240, 3, none⟩ = some (.slice A0_3 l0_3.length c0_3) := (yG BK240.out 3).trans rfl
      have hcz17_4 : wc.cell? ⟨gb240, 4, none⟩ = some (.slice A0_4 l0_4.length c0_4) := (yG BK240.out 4).trans rfl
      have hcz17_5 : wc.cell? ⟨gb240, 5, none⟩ = some (.slice A0_5 l0_5.length c0_5) := (yG BK240.out 5).trans rfl
      have hfz17_0 := yR BK240.out 0
      have hfz17_1 := yR BK240.out 1
      have hfz17_2 := yR BK240.out 2
      have hfz17_3 := yR BK240.out 3
      have hfz17_4 := yR BK240.out 4
      have hfz17_5 := yR BK240.out 5
      go_wp2
      go_ret
      exact ⟨by first | rfl | (simp <;> rfl) | (simp [*] <;> rfl), by repeat (first | (with_reducible first | exact HB.out | apply yQ | apply yL | apply yP | refine yE ?_ GE240.out) | exact HB.out)⟩
    ·
     rw [if_neg c12] at H
     have c12b0 : (a0_0 == 3) = false := beq_eq_false_iff_ne.mpr c12
     have c12b1 : (a0_0 != 3) = true := bne_iff_ne.mpr c12
     by_cases c18 : a0_0 = 4
     ·
      rw [if_pos c18] at H
      have c18b0 : (a0_0 == 4) = true := beq_iff_eq.mpr c18
      have c18b1 : (a0_0 != 4) = false := bne_eq_false_iff_eq.mpr c18
      clear c18
      by_cases c19 : t241 = true
      ·
       subst c19
       have H1 : ((impl_Selection_pointsFormed.f kj2 a0_0 l0_1 l0_2 l0_3 l0_4 l0_5).bind fun t243 => (some t243)) = some r := by rw [if_pos rfl] at H; exact H
       clear H; have H := H1; clear H1
       obtain ⟨t243, A200, H⟩ := zW_ H
       replace H : (some t243) = some r := H
       have A20 := yD A200
       clear A200; obtain rfl := Option.some.inj H
       have hcz21_0 : wc.cell? ⟨gb240, 0, none⟩ = some (.int .i64 a0_0) := (yG BK240.out 0).trans rfl
       have hcz21_1 : wc.cell? ⟨gb240, 1, none⟩ = some (.slice A0_1 l0_1.length c0_1) := (yG BK240.out 1).trans rfl
       have hcz21_2 : wc.cell? ⟨gb240, 2, none⟩ = some (.slice A0_2 l0_2.length c0_2) := (yG BK240.out 2).trans rfl
       have hcz21_3 : wc.cell? ⟨gb240, 3, none⟩ = some (.slice A0_3 l0_3.length c0_3) := (yG BK240.out 3).trans rfl
       have hcz21_4 : wc.cell? ⟨gb240, 4, none⟩ = some (.slice A0_4 l0_4.length c0_4) := (yG BK240.out 4).trans rfl
       have hcz21_5 : wc.cell? ⟨gb240, 5, none⟩ = some (.slice A0_5 l0_5.length c0_5) := (yG BK240.out 5).trans rfl
       have hfz21_0 := yR BK240.out 0
       have hfz21_1 := yR BK240.out 1
       have hfz21_2 := yR BK240.out 2
       have hfz21_3 := yR BK240.out 3
       have hfz21_4 := yR BK240.out 4
       have hfz21_5 := yR BK240.out 5
       go_wp2_with (first | (go_at_call 20; (with_reducible refine (impl_Selection_pointsFormed.calls kj2 a0_0 _ _ l0_1 _ _ l0_2 _ _ l0_3 _ _ l0_4 _ _ l0_5 t243 _ ?side1 ?side2 ?side3 ?side4 ?side5 ?side6 ?side7 ?side8 ?side9 ?side10 A20.out).mono ?_); (case side1 => exact yY HR0_1.out HB.out); (case side2 => exact HC0_1.out); (case side3 => exact yY HR0_2.out HB.out); (case side4 => exact HC0_2.out); (case side5 => exact yY HR0_3.out HB.out); (case side6 => exact HC0_3.out); (case side7 => exact yY HR0_4.out HB.out); (case side8 => exact HC0_4.out); (case side9 => exact yY HR0_5.out HB.out); (case side10 => exact HC0_5.out); rintro e w22 ⟨rfl, hb⟩; have n0_ := yD (zB (g := gb240) (o := .cells #[.int .i64 a0_0, .slice A0_1 l0_1.length c0_1, .slice A0_2 l0_2.length c0_2, .slice A0_3 l0_3.length c0_3, .slice A0_4 l0_4.length c0_4, .slice A0_5 l0_5.length c0_5] 30 (0, 0)) (by exact BK240.out) hb); have n1_ := yD (zC (by exact HB.out) hb); clear BK240; clear HB; have BK240 := n0_; have HB := n1_; clear n0_ n1_; (try clear hb); (try clear hb2); (try clear hk); (try clear hi)))
       go_ret
       exact ⟨by first | rfl | (simp <;> rfl) | (simp [*] <;> rfl), by repeat (first | (with_reducible first | exact HB.out | apply yQ | apply yL | apply yP | refine yE ?_ GE240.out) | exact HB.out)⟩
      ·
       replace c19 := Bool.eq_false_iff.mpr c19
       subst c19
       have H1 : (some false) = some r := by rw [if_neg (show ¬ (false = true) by decide)] at H; exact H
       clear H; have H := H1; clear H1; obtain rfl := Option.some.inj H
       go_wp2
       go_ret
       exact ⟨by first | rfl | (simp <;> rfl) | (simp [*] <;> rfl), by repeat (first | (with_reducible first | exact HB.out | apply yQ | apply yL | apply yP | refine yE ?_ GE240.out) | exact HB.out)⟩
     ·
      rw [if_neg c18] at H
      have c18b0 : (a0_0 == 4) = false := beq_eq_false_iff_ne.mpr c18
      have c18b1 : (a0_0 != 4) = true := bne_iff_ne.mpr c18
      obtain rfl := Option.some.inj H
      go_wp2
      go_ret
      exact ⟨by first | rfl | (simp <;> rfl) | (simp [*] <;> rfl), by repeat (first | (with_reducible first | exact HB.out | apply yQ | apply yL | apply yP | refine yE ?_ GE240.out) | exact HB.out)⟩

end Go.Proofs.Ytobdoafjlbifpaa.PFnExactFormedSelection
