/- Each Go function here comes to what the plain function of its name says, where that says something. Made by a program of this session, over the print. -/
import Derived.Test.YtehldidejgpifaaPFnExactResizeSpacex0
import Derived.Test.YtehldidejgpifaaPFnExactResizeSpacex2
namespace Go.Proofs.Ytehldidejgpifaa.PFnExactResizeSpace
open Go.RowKit Go.Proofs.YtehldidejgpifaaW.PrintWords Go.Proofs.YtehldidejgpifaaW.PrintLast Go.Proofs.YtehldidejgpifaaW.PrintMore
attribute [local go_sem] max2_int min2_int max_two min_two max_three min_three max_four min_four   -- for this text's walks alone
set_option linter.unusedVariables false
set_option linter.unusedSimpArgs false

/-! ### slices_ContainsFunc_impl_allWithin_1: function 129 -/
def slices_ContainsFunc_impl_allWithin_1.f (k : Nat) (l0 : List Int) (a1_0 : Int) (a1_1 : Int) : Option (Bool) := (slices_IndexFunc_impl_allWithin_1.f k l0 a1_0 a1_1).bind fun t148 => (some (decide (t148 ≥ 0)))
theorem slices_ContainsFunc_impl_allWithin_1.mono : ∀ a0 a1 a2 k, LeO (slices_ContainsFunc_impl_allWithin_1.f k a0 a1 a2) (slices_ContainsFunc_impl_allWithin_1.f (k + 1) a0 a1 a2) := by
  intro a0 a1 a2 k
  unfold slices_ContainsFunc_impl_allWithin_1.f
  repeat' first
      | (with_reducible exact slices_IndexFunc_impl_allWithin_1.mono _ _ _ _)
      | (with_reducible exact LeO.refl _)
      | (with_reducible exact LeO.none _)
      | (with_reducible refine LeO.ite ?_ ?_)
      | (with_reducible refine LeO.bind ?_ (fun _ => ?_))
      | exact slices_IndexFunc_impl_allWithin_1.mono _ _ _ _
      | exact LeO.none _
      | refine LeO.ite ?_ ?_
      | refine LeO.bind ?_ (fun _ => ?_)
set_option maxHeartbeats 8000000 in
set_option maxRecDepth 100000 in
theorem slices_ContainsFunc_impl_allWithin_1.calls (k : Nat) (A0 : Option Addr) (c0 : Nat) (l0 : List Int) (g1_0 : Nat) (g1_1 : Nat) (a1_0 : Int) (a1_1 : Int) (r : Bool) (w : World) (hr0 : Kd.C (Kd.int .i64) w A0 l0.length l0) (hc0 : l0.length ≤ c0) (hb1_0 : w.heap[g1_0]? = some (.cells #[.int .i64 a1_0] 2 (0, 0))) (hb1_1 : w.heap[g1_1]? = some (.cells #[.int .i64 a1_1] 2 (0, 0))) (h : slices_ContainsFunc_impl_allWithin_1.f k l0 a1_0 a1_1 = some r) :
    Calls Try.prog 129 #[.slice A0 l0.length c0, .func (.func 130) #[] #[.pointer (some ⟨g1_0, 0, none⟩), .pointer (some ⟨g1_1, 0, none⟩)]] w fun e w' => e = .returned (.bool r) ∧ Below w.heap.size w w' := by
  have HR0 := yD hr0
  have HC0 := yD hc0
  clear hr0 hc0
  have BK48 := yD hb1_0
  clear hb1_0
  have BK49 := yD hb1_1
  clear hb1_1
  have HB := yD (Below.refl w.heap.size w)
  have H : ((slices_IndexFunc_impl_allWithin_1.f k l0 a1_0 a1_1).bind fun t148 => (some (decide (t148 ≥ 0)))) = some r := h
  clear h
  obtain ⟨t148, A30, H⟩ := zW_ H
  replace H : (some (decide (t148 ≥ 0))) = some r := H
  have A3 := yD A30
  clear A30; obtain rfl := Option.some.inj H; go_enter Try.func129, Try.ntmps129
  go_wp2_with (first | ((with_reducible refine gate_callee (f := 141) rfl ?_); refine goesL_ (some 7) rfl rfl Try.func141 (by kernel_rfl) rfl #[.slice A0 l0.length c0, .func (.func 130) #[] #[.pointer (some ⟨g1_0, 0, none⟩), .pointer (some ⟨g1_1, 0, none⟩)]] rfl (by (try simp only [zK, zL, zM]); first | done | rfl | (simp only [zN, zO]; rfl)) ?_; (with_reducible refine (slices_IndexFunc_impl_allWithin_1.calls k _ _ l0 g1_0 g1_1 a1_0 a1_1 t148 _ ?side1 ?side2 ?side3 ?side4 A3.out).mono ?_); (case side1 => exact HR0.out); (case side2 => exact HC0.out); (case side3 => (with_reducible repeat (first | refine yM ?_ _ | refine yO ?_ | refine yN ?_ _)); exact BK48.out); (case side4 => (with_reducible repeat (first | refine yM ?_ _ | refine yO ?_ | refine yN ?_ _)); exact BK49.out); rintro e w4 ⟨rfl, hb⟩; refine ⟨_, rfl, ?_⟩; have n0_ := yD (zB (g := g1_0) (o := .cells #[.int .i64 a1_0] 2 (0, 0)) (by exact BK48.out) hb); have n1_ := yD (zB (g := g1_1) (o := .cells #[.int .i64 a1_1] 2 (0, 0)) (by exact BK49.out) hb); have n2_ := yD (zC (by exact HB.out) hb); clear BK48; clear BK49; clear HB; have BK48 := n0_; have BK49 := n1_; have HB := n2_; clear n0_ n1_ n2_; (try clear hb); (try clear hb2); (try clear hk); (try clear hi)))
  go_ret
  exact ⟨by first | rfl | (simp <;> rfl) | (simp [*] <;> rfl), by repeat (first | (with_reducible first | exact HB.out | apply yQ | apply yL | apply yP | refine yE ?_ GE48.out | refine yE ?_ GE49.out) | exact HB.out)⟩

/-! ### impl_allWithin: function 102 -/
def impl_allWithin.f (k : Nat) (l0 : List Int) (a1 : Int) (a2 : Int) : Option (Bool) := (slices_ContainsFunc_impl_allWithin_1.f k l0 a1 a2).bind fun t151 => (some (!t151))
theorem impl_allWithin.mono : ∀ a0 a1 a2 k, LeO (impl_allWithin.f k a0 a1 a2) (impl_allWithin.f (k + 1) a0 a1 a2) := by
  intro a0 a1 a2 k
  unfold impl_allWithin.f
  repeat' first
      | (with_reducible exact slices_ContainsFunc_impl_allWithin_1.mono _ _ _ _)
      | (with_reducible exact LeO.refl _)
      | (with_reducible exact LeO.none _)
      | (with_reducible refine LeO.ite ?_ ?_)
      | (with_reducible refine LeO.bind ?_ (fun _ => ?_))
      | exact slices_ContainsFunc_impl_allWithin_1.mono _ _ _ _
      | exact LeO.none _
      | refine LeO.ite ?_ ?_
      | refine LeO.bind ?_ (fun _ => ?_)
set_option maxHeartbeats 8000000 in
set_option maxRecDepth 100000 in
theorem impl_allWithin.calls (k : Nat) (A0 : Option Addr) (c0 : Nat) (l0 : List Int) (a1 : Int) (a2 : Int) (r : Bool) (w : World) (hr0 : Kd.C (Kd.int .i64) w A0 l0.length l0) (hc0 : l0.length ≤ c0) (h : impl_allWithin.f k l0 a1 a2 = some r) :
    Calls Try.prog 102 #[.slice A0 l0.length c0, .int .i64 a1, .int .i64 a2] w fun e w' => e = .returned (.bool r) ∧ Below w.heap.size w w' := by
  have HR0 := yD hr0
  have HC0 := yD hc0
  clear hr0 hc0
  have HB := yD (Below.refl w.heap.size w)
  have H : ((slices_ContainsFunc_impl_allWithin_1.f k l0 a1 a2).bind fun t151 => (some (!t151))) = some r := h
  clear h
  obtain ⟨t151, A40, H⟩ := zW_ H
  replace H : (some (!t151)) = some r := H
  have A4 := yD A40
  clear A40; obtain rfl := Option.some.inj H; go_enter Try.func102, Try.ntmps102
  go_wp2_with (first | ((with_reducible refine gate_dst (N := 4) rfl ?_); refine box_event ?hg (N := 4) ?hd (cs := #[.int .i64 a1]) (t := 2) ?hr ?_; (case hd => rfl); (case hg => rfl); (case hr => first | (go_simp; done) | (go_simp; rfl)); intro gb149 hg w5 hbox hb; have n0_ := yD (zC (by exact HB.out) hb); have n1_ := yD (hbox); have n2_ := yD ((by rw [hg]; exact (below_size (by exact HB.out)) : w.heap.size ≤ gb149)); have n3_ := yD ((by rw [hg]; exact (below_size (by exact HB.out)) : w.heap.size ≤ gb149)); clear HB; have HB := n0_; have BK149 := n1_; have GW149 := n2_; have GE149 := n3_; clear n0_ n1_ n2_ n3_; clear hb hbox hg) | ((with_reducible refine gate_dst (N := 5) rfl ?_); refine box_event ?hg (N := 5) ?hd (cs := #[.int .i64 a2]) (t := 2) ?hr ?_; (case hd => rfl); (case hg => rfl); (case hr => first | (go_simp; done) | (go_simp; rfl)); intro gb150 hg w6 hbox hb; have n0_ := yD (zB (g := gb149) (o := .cells #[.int .i64 a1] 2 (0, 0)) (by exact BK149.out) hb); have n1_ := yD (zC (by exact HB.out) hb); have n2_ := yD (hbox); have n3_ := yD ((by rw [hg]; exact (below_size (by exact HB.out)) : w.heap.size ≤ gb150)); have n4_ := yD ((by rw [hg]; exact (below_size (by exact HB.out)) : w.heap.size ≤ gb150)); have n5_ := yD ((by rw [hg]; exact Nat.ne_of_lt (blk_lt (g := gb149) (o := .cells #[.int .i64 a1] 2 (0, 0)) (by exact BK149.out)) : gb149 ≠ gb150)); have n6_ := yD ((by rw [hg]; exact Nat.ne_of_gt (blk_lt (g := gb149) (o := .cells #[.int .i64 a1] 2 (0, 0)) (by exact BK149.out)) : gb150 ≠ gb149)); clear BK149; clear HB; have BK149 := n0_; have HB := n1_; have BK150 := n2_; have GW150 := n3_; have GE150 := n4_; have NB149_150 := n5_; have NB150_149 := n6_; clear n0_ n1_ n2_ n3_ n4_ n5_ n6_; clear hb hbox hg) | ((with_reducible refine gate_callee (f := 129) rfl ?_); refine goesL_ (some 9) rfl rfl Try.func129 (by kernel_rfl) rfl #[.slice A0 l0.length c0, .func (.func 130) #[] #[.pointer (some ⟨gb149, 0, none⟩), .pointer (some ⟨gb150, 0, none⟩)]] rfl (by (try simp only [zK, zL, zM]); first | done | rfl | (simp only [zN, zO]; rfl)) ?_; (with_reducible refine (slices_ContainsFunc_impl_allWithin_1.calls k _ _ l0 gb149 gb150 a1 a2 t151 _ ?side1 ?side2 ?side3 ?side4 A4.out).mono ?_); (case side1 => exact yY HR0.out HB.out); (case side2 => exact HC0.out); (case side3 => (with_reducible repeat (first | refine yM ?_ _ | refine yO ?_ | refine yN ?_ _)); exact BK149.out); (case side4 => (with_reducible repeat (first | refine yM ?_ _ | refine yO ?_ | refine yN ?_ _)); exact BK150.out); rintro e w7 ⟨rfl, hb⟩; refine ⟨_, rfl, ?_⟩; have n0_ := yD (zB (g := gb149) (o := .cells #[.int .i64 a1] 2 (0, 0)) (by exact BK149.out) hb); have n1_ := yD (zB (g := gb150) (o := .cells #[.int .i64 a2] 2 (0, 0)) (by exact BK150.out) hb); have n2_ := yD (zC (by exact HB.out) hb); clear BK149; clear BK150; clear HB; have BK149 := n0_; have BK150 := n1_; have HB := n2_; clear n0_ n1_ n2_; (try clear hb); (try clear hb2); (try clear hk); (try clear hi)))
  go_ret
  exact ⟨by first | rfl | (simp <;> rfl) | (simp [*] <;> rfl), by repeat (first | (with_reducible first | exact HB.out | apply yQ | apply yL | apply yP | refine yE ?_ GE149.out | refine yE ?_ GE150.out) | exact HB.out)⟩

/-! ### impl_product: function 61 -/
def impl_product.l0 : Nat → Int → List Int → Int → Int → Option (Int)
  | 0, _, _, _, _ => none
  | k + 1, x3, x6, x7, x8 => if x8 < x7 then (if 0 ≤ x8 then (if x8 < (x6.length : Int) then (impl_product.l0 k (wrap64 (x3 * (rd x6 x8))) x6 x7 (wrap64 (x8 + 1))) else (none)) else (none)) else (some x3)
def impl_product.f (k : Nat) (l0 : List Int) : Option (Int) := impl_product.l0 k 1 l0 (l0.length : Int) 0
theorem impl_product.mono_l : ∀ k, (∀ y0 y1 y2 y3, LeO (impl_product.l0 k y0 y1 y2 y3) (impl_product.l0 (k + 1) y0 y1 y2 y3))
  | 0 => fun _ _ _ _ r h => by simp [impl_product.l0] at h
  | k + 1 => by
    have ih0 := impl_product.mono_l k
    · intro y0 y1 y2 y3
      unfold impl_product.l0
      repeat' first
      | (with_reducible exact ih0 _ _ _ _)
      | (with_reducible exact LeO.refl _)
      | (with_reducible exact LeO.none _)
      | (with_reducible refine LeO.ite ?_ ?_)
      | (with_reducible refine LeO.bind ?_ (fun _ => ?_))
      | exact ih0 _ _ _ _
      | exact LeO.none _
      | refine LeO.ite ?_ ?_
      | refine LeO.bind ?_ (fun _ => ?_)
theorem impl_product.mono : ∀ a0 k, LeO (impl_product.f k a0) (impl_product.f (k + 1) a0) := by
  intro a0 k
  have ih0 := impl_product.mono_l k
  unfold impl_product.f
  repeat' first
      | (with_reducible exact ih0 _ _ _ _)
      | (with_reducible exact LeO.refl _)
      | (with_reducible exact LeO.none _)
      | (with_reducible refine LeO.ite ?_ ?_)
      | (with_reducible refine LeO.bind ?_ (fun _ => ?_))
      | exact ih0 _ _ _ _
      | exact LeO.none _
      | refine LeO.ite ?_ ?_
      | refine LeO.bind ?_ (fun _ => ?_)
set_option maxHeartbeats 8000000 in
set_option maxRecDepth 100000 in
theorem impl_product.calls (k : Nat) (A0 : Option Addr) (c0 : Nat) (l0 : List Int) (r : Int) (w : World) (hr0 : Kd.C (Kd.int .i64) w A0 l0.length l0) (hc0 : l0.length ≤ c0) (h : impl_product.f k l0 = some r) :
    Calls Try.prog 61 #[.slice A0 l0.length c0] w fun e w' => e = .returned (.int .i64 r) ∧ Drawn0 w w' := by
  have HR0 := yD hr0
  have HC0 := yD hc0
  clear hr0 hc0
  have H : (impl_product.l0 k 1 l0 (l0.length : Int) 0) = some r := h
  clear h
  have H' := yD H
  clear H; go_enter Try.func61, Try.ntmps61
  go_wp2
  go_loopg [3, 8] k (fun kq v3 v8 w' => ∃ (x3_1 : Int) (x8_1 : Int), v3 = .int .i64 x3_1 ∧ v8 = .int .i64 x8_1 ∧ Aside0 (impl_product.l0 kq x3_1 l0 (l0.length : Int) x8_1 = some r) ∧ Aside0 (kq ≤ k) ∧ Drawn0 w w')
  case atStart => exact ⟨(1), (0), (by first | rfl | (simp; done) | (simp [*]; done)), (by first | rfl | (simp; done) | (simp [*]; done)), H', ⟨Nat.le_refl _⟩, by repeat (first | exact Drawn0.refl _ | apply Drawn0.step)⟩
  case round =>
    clear H'
    obtain ⟨x3_1, x8_1, rfl, rfl, HA, HK1, ⟨m1, rfl⟩⟩ := hrel
    cases gk with
    | zero => exact absurd HA.out (by simp [impl_product.l0])
    | succ k1 =>
      have H := HA.out; clear HA
      simp only [impl_product.l0] at H
      by_cases c2 : x8_1 < (l0.length : Int)
      · rw [if_pos c2] at H
        have c2b0 : decide (x8_1 < (l0.length : Int)) = true := zR c2; clear c2
        by_cases c3 : 0 ≤ x8_1
        · rw [if_pos c3] at H
          have c3b0 : decide (0 ≤ x8_1) = true := zR c3; clear c3
          by_cases c4 : x8_1 < (l0.length : Int)
          · rw [if_pos c4] at H
            have c4b0 : decide (x8_1 < (l0.length : Int)) = true := zR c4; clear c4
            have H' := yD H
            clear H
            have p152 : 0 ≤ (x8_1 : Int) := zP (by assumption)
            have q152 : x8_1 < (l0.length : Int) := zP (by assumption)
            obtain ⟨ad152, e152, hx152_0⟩ := Kd.at_int HR0.out x8_1 p152 q152
            cases e152; replace p152 := eq_true p152; replace q152 := eq_true q152
            go_wp2
            go_roundg k1
            case measure => have := HK1.out; omega
            case rel => exact ⟨(wrap64 (x3_1 * (rd l0 x8_1))), (wrap64 (x8_1 + 1)), (by first | rfl | (simp; done) | (simp [*]; done)), (by first | rfl | (simp; done) | (simp [*]; done)), H', ⟨by have := HK1.out; omega⟩, by repeat (first | exact Drawn0.refl _ | apply Drawn0.step)⟩
          · rw [if_neg c4] at H
            exact absurd H (by simp)
        · rw [if_neg c3] at H
          exact absurd H (by simp)
      · rw [if_neg c2] at H
        have c2b0 : decide (x8_1 < (l0.length : Int)) = false := zS c2; clear c2; obtain rfl := Option.some.inj H
        go_wp2
        go_ret
        exact ⟨by first | rfl | (simp; done) | (simp [*]; done), by repeat (first | exact Drawn0.refl _ | apply Drawn0.step)⟩

/-! ### impl_ValidDims: function 59 -/
def impl_ValidDims.f (k : Nat) (l0 : List Int) : Option (Bool) := if (l0.length : Int) ≤ 3 then ((impl_allWithin.f k l0 0 40).bind fun t153 => (if t153 = true then ((impl_product.f k l0).bind fun t154 => (some (decide (t154 ≤ 600)))) else (some false))) else (some false)
theorem impl_ValidDims.mono : ∀ a0 k, LeO (impl_ValidDims.f k a0) (impl_ValidDims.f (k + 1) a0) := by
  intro a0 k
  unfold impl_ValidDims.f
  repeat' first
      | (with_reducible exact impl_allWithin.mono _ _ _ _)
      | (with_reducible exact impl_product.mono _ _)
      | (with_reducible exact LeO.refl _)
      | (with_reducible exact LeO.none _)
      | (with_reducible refine LeO.ite ?_ ?_)
      | (with_reducible refine LeO.bind ?_ (fun _ => ?_))
      | exact impl_allWithin.mono _ _ _ _
      | exact impl_product.mono _ _
      | exact LeO.none _
      | refine LeO.ite ?_ ?_
      | refine LeO.bind ?_ (fun _ => ?_)
set_option maxHeartbeats 8000000 in
set_option maxRecDepth 100000 in
theorem impl_ValidDims.calls (k : Nat) (A0 : Option Addr) (c0 : Nat) (l0 : List Int) (r : Bool) (w : World) (hr0 : Kd.C (Kd.int .i64) w A0 l0.length l0) (hc0 : l0.length ≤ c0) (h : impl_ValidDims.f k l0 = some r) :
    Calls Try.prog 59 #[.slice A0 l0.length c0] w fun e w' => e = .returned (.bool r) ∧ Below w.heap.size w w' := by
  have HR0 := yD hr0
  have HC0 := yD hc0
  clear hr0 hc0
  have HB := yD (Below.refl w.heap.size w)
  have H : (if (l0.length : Int) ≤ 3 then ((impl_allWithin.f k l0 0 40).bind fun t153 => (if t153 = true then ((impl_product.f k l0).bind fun t154 => (some (decide (t154 ≤ 600)))) else (some false))) else (some false)) = some r := h
  clear h
  by_cases c2 : (l0.length : Int) ≤ 3
  · rw [if_pos c2] at H
    have c2b0 : decide ((l0.length : Int) ≤ 3) = true := zR c2
    have c2b1 : decide (l0.length ≤ 3) = true := zR (by omega)
    clear c2
    obtain ⟨t153, A30, H⟩ := zW_ H
    replace H : (if t153 = true then ((impl_product.f k l0).bind fun t154 => (some (decide (t154 ≤ 600)))) else (some false)) = some r := H
    have A3 := yD A30
    clear A30
    by_cases c4 : t153 = true
    · subst c4
      have H1 : ((impl_product.f k l0).bind fun t154 => (some (decide (t154 ≤ 600)))) = some r := by rw [if_pos rfl] at H; exact H
      clear H; have H := H1; clear H1
      obtain ⟨t154, A50, H⟩ := zW_ H
      replace H : (some (decide (t154 ≤ 600))) = some r := H
      have A5 := yD A50
      clear A50; obtain rfl := Option.some.inj H; go_enter Try.func59, Try.ntmps59
      go_wp2_with (first | (go_at_call 102; (with_reducible refine (impl_allWithin.calls k _ _ l0 0 40 true _ ?side1 ?side2 A3.out).mono ?_); (case side1 => exact HR0.out); (case side2 => exact HC0.out); rintro e w6 ⟨rfl, hb⟩; have n0_ := yD (zC (by exact HB.out) hb); clear HB; have HB := n0_; clear n0_; (try clear hb); (try clear hb2); (try clear hk); (try clear hi)) | (go_at_call 61; (with_reducible refine (impl_product.calls k _ _ l0 t154 _ ?side1 ?side2 A5.out).mono ?_); (case side1 => exact yY HR0.out HB.out); (case side2 => exact HC0.out); rintro e w' ⟨rfl, ⟨nd, rfl⟩⟩))
      go_ret
      exact ⟨by first | rfl | (simp <;> rfl) | (simp [*] <;> rfl), by repeat (first | (with_reducible first | exact HB.out | apply yQ | apply yL | apply yP) | exact HB.out)⟩
    · replace c4 := Bool.eq_false_iff.mpr c4
      subst c4
      have H1 : (some false) = some r := by rw [if_neg (show ¬ (false = true) by decide)] at H; exact H
      clear H; have H := H1; clear H1; obtain rfl := Option.some.inj H; go_enter Try.func59, Try.ntmps59
      go_wp2_with (first | (go_at_call 102; (with_reducible refine (impl_allWithin.calls k _ _ l0 0 40 false _ ?side1 ?side2 A3.out).mono ?_); (case side1 => exact HR0.out); (case side2 => exact HC0.out); rintro e w7 ⟨rfl, hb⟩; have n0_ := yD (zC (by exact HB.out) hb); clear HB; have HB := n0_; clear n0_; (try clear hb); (try clear hb2); (try clear hk); (try clear hi)))
      go_ret
      exact ⟨by first | rfl | (simp <;> rfl) | (simp [*] <;> rfl), by repeat (first | (with_reducible first | exact HB.out | apply yQ | apply yL | apply yP) | exact HB.out)⟩
  · rw [if_neg c2] at H
    have c2b0 : decide ((l0.length : Int) ≤ 3) = false := zS c2
    have c2b1 : decide (l0.length ≤ 3) = false := zS (by omega)
    clear c2; obtain rfl := Option.some.inj H; go_enter Try.func59, Try.ntmps59
    go_wp2
    go_ret
    exact ⟨by first | rfl | (simp <;> rfl) | (simp [*] <;> rfl), by repeat (first | (with_reducible first | exact HB.out | apply yQ | apply yL | apply yP) | exact HB.out)⟩

/-! ### impl_ValidSpace: function 88 -/
mutual
def impl_ValidSpace.j0 : Nat → Bool → List Int → List Int → Option (Bool)
  | 0, _, _, _ => none
  | k + 1, x17, x156000, x156001 => if x17 = true then (some false) else (impl_ValidSpace.l0 k x156001 (x156001.length : Int) 0 x156000 x156001)
def impl_ValidSpace.l0 : Nat → List Int → Int → Int → List Int → List Int → Option (Bool)
  | 0, _, _, _, _, _ => none
  | k + 1, x19, x20, x21, x156000, x156001 => if x21 < x20 then (if 0 ≤ x21 then (if x21 < (x19.length : Int) then (if (rd x19 x21) = (-1) then (impl_ValidSpace.l0 k x19 x20 (wrap64 (x21 + 1)) x156000 x156001) else (if x21 < (x156000.length : Int) then ((impl_within.f (rd x19 x21) (rd x156000 x21) 40).bind fun t159 => (if t159 = true then (impl_ValidSpace.l0 k x19 x20 (wrap64 (x21 + 1)) x156000 x156001) else (some false))) else (none))) else (none)) else (none)) else (some true)
end
def impl_ValidSpace.f (k : Nat) (l0_0 : List Int) (l0_1 : List Int) : Option (Bool) := (impl_ValidDims.f k l0_0).bind fun t156 => (if t156 = true then (impl_ValidSpace.j0 k ((l0_1.length : Int) != (l0_0.length : Int)) l0_0 l0_1) else (impl_ValidSpace.j0 k true l0_0 l0_1))
theorem impl_ValidSpace.mono_l : ∀ k, (∀ y0 y1 y2, LeO (impl_ValidSpace.j0 k y0 y1 y2) (impl_ValidSpace.j0 (k + 1) y0 y1 y2)) ∧ (∀ y0 y1 y2 y3 y4, LeO (impl_ValidSpace.l0 k y0 y1 y2 y3 y4) (impl_ValidSpace.l0 (k + 1) y0 y1 y2 y3 y4))
  | 0 => ⟨fun _ _ _ r h => by simp [impl_ValidSpace.j0] at h, fun _ _ _ _ _ r h => by simp [impl_ValidSpace.l0] at h⟩
  | k + 1 => by
    obtain ⟨ih0, ih1⟩ := impl_ValidSpace.mono_l k
    refine ⟨?_, ?_⟩
    · intro y0 y1 y2
      unfold impl_ValidSpace.j0
      repeat' first
      | (with_reducible exact ih0 _ _ _)
      | (with_reducible exact ih1 _ _ _ _ _)
      | (with_reducible exact impl_ValidDims.mono _ _)
      | (with_reducible exact LeO.refl _)
      | (with_reducible exact LeO.none _)
      | (with_reducible refine LeO.ite ?_ ?_)
      | (with_reducible refine LeO.bind ?_ (fun _ => ?_))
      | exact ih0 _ _ _
      | exact ih1 _ _ _ _ _
      | exact impl_ValidDims.mono _ _
      | exact LeO.none _
      | refine LeO.ite ?_ ?_
      | refine LeO.bind ?_ (fun _ => ?_)
    · intro y0 y1 y2 y3 y4
      unfold impl_ValidSpace.l0
      repeat' first
      | (with_reducible exact ih0 _ _ _)
      | (with_reducible exact ih1 _ _ _ _ _)
      | (with_reducible exact impl_ValidDims.mono _ _)
      | (with_reducible exact LeO.refl _)
      | (with_reducible exact LeO.none _)
      | (with_reducible refine LeO.ite ?_ ?_)
      | (with_reducible refine LeO.bind ?_ (fun _ => ?_))
      | exact ih0 _ _ _
      | exact ih1 _ _ _ _ _
      | exact impl_ValidDims.mono _ _
      | exact LeO.none _
      | refine LeO.ite ?_ ?_
      | refine LeO.bind ?_ (fun _ => ?_)
theorem impl_ValidSpace.mono : ∀ a0 a1 k, LeO (impl_ValidSpace.f k a0 a1) (impl_ValidSpace.f (k + 1) a0 a1) := by
  intro a0 a1 k
  obtain ⟨ih0, ih1⟩ := impl_ValidSpace.mono_l k
  unfold impl_ValidSpace.f
  repeat' first
      | (with_reducible exact ih0 _ _ _)
      | (with_reducible exact ih1 _ _ _ _ _)
      | (with_reducible exact impl_ValidDims.mono _ _)
      | (with_reducible exact LeO.refl _)
      | (with_reducible exact LeO.none _)
      | (with_reducible refine LeO.ite ?_ ?_)
      | (with_reducible refine LeO.bind ?_ (fun _ => ?_))
      | exact ih0 _ _ _
      | exact ih1 _ _ _ _ _
      | exact impl_ValidDims.mono _ _
      | exact LeO.none _
      | refine LeO.ite ?_ ?_
      | refine LeO.bind ?_ (fun _ => ?_)
set_option maxHeartbeats 8000000 in
set_option maxRecDepth 100000 in
theorem impl_ValidSpace.calls (k : Nat) (A0_0 : Option Addr) (c0_0 : Nat) (l0_0 : List Int) (A0_1 : Option Addr) (c0_1 : Nat) (l0_1 : List Int) (r : Bool) (w : World) (hr0_0 : Kd.C (Kd.int .i64) w A0_0 l0_0.length l0_0) (hc0_0 : l0_0.length ≤ c0_0) (hr0_1 : Kd.C (Kd.int .i64) w A0_1 l0_1.length l0_1) (hc0_1 : l0_1.length ≤ c0_1) (h : impl_ValidSpace.f k l0_0 l0_1 = some r) :
    Calls Try.prog 88 #[.agg #[.slice A0_0 l0_0.length c0_0, .slice A0_1 l0_1.length c0_1]] w fun e w' => e = .returned (.bool r) ∧ Below w.heap.size w w' := by
  have hu65 := Try.underlying65
  have HR0_0 := yD hr0_0
  have HC0_0 := yD hc0_0
  clear hr0_0 hc0_0
  have HR0_1 := yD hr0_1
  have HC0_1 := yD hc0_1
  clear hr0_1 hc0_1
  have HB := yD (Below.refl w.heap.size w)
  have H : ((impl_ValidDims.f k l0_0).bind fun t156 => (if t156 = true then (impl_ValidSpace.j0 k ((l0_1.length : Int) != (l0_0.length : Int)) l0_0 l0_1) else (impl_ValidSpace.j0 k true l0_0 l0_1))) = some r := h
  clear h
  have HC2 := yD H
  clear H; go_enter Try.func88, Try.ntmps88
  go_upto_region 1 with (first | ((with_reducible refine gate_dst (N := 1) rfl ?_); (try (refine gate_guard (by rfl) ?_; dsimp only)); refine box_event ?hg (N := 1) ?hd (cs := #[.slice A0_0 l0_0.length c0_0, .slice A0_1 l0_1.length c0_1]) (t := 65) ?hr ?_; (case hd => rfl); (case hg => rfl); (case hr => first | (go_simp; done) | (go_simp; rfl)); intro gb155 hg w3 hbox hb; have n0_ := yD (zC (by exact HB.out) hb); have n1_ := yD (hbox); have n2_ := yD ((by rw [hg]; exact (below_size (by exact HB.out)) : w.heap.size ≤ gb155)); have n3_ := yD ((by rw [hg]; exact (below_size (by exact HB.out)) : w.heap.size ≤ gb155)); clear HB; have HB := n0_; have BK155 := n1_; have GW155 := n2_; have GE155 := n3_; clear n0_ n1_ n2_ n3_; clear hb hbox hg))
  (try simp only [Act.put, zH, zI, zJ])
  go_cut [17] (fun v17 wc => ∃ (kq : Nat) (x17_1 : Bool), v17 = .bool x17_1 ∧ Aside0 (impl_ValidSpace.j0 kq x17_1 l0_0 l0_1 = some r) ∧ Aside0 (kq ≤ k) ∧ Aside0 (wc.heap[gb155]? = some (.cells #[(.slice A0_0 l0_0.length c0_0), (.slice A0_1 l0_1.length c0_1)] 65 (0, 0))) ∧ Aside0 (Below w.heap.size w wc))
  case first =>
    have H := HC2.out; clear HC2
    obtain ⟨t156, A40, H⟩ := zW_ H
    replace H : (if t156 = true then (impl_ValidSpace.j0 k ((l0_1.length : Int) != (l0_0.length : Int)) l0_0 l0_1) else (impl_ValidSpace.j0 k true l0_0 l0_1)) = some r := H
    have A4 := yD A40
    clear A40
    by_cases c5 : t156 = true
    · subst c5
      have H1 : (impl_ValidSpace.j0 k ((l0_1.length : Int) != (l0_0.length : Int)) l0_0 l0_1) = some r := by rw [if_pos rfl] at H; exact H
      clear H; have H := H1; clear H1
      have H' := yD H
      clear H
      obtain ⟨hcz6_0, hcz6_1⟩ := cz2 BK155.out
      obtain ⟨hfz6_0, hfz6_1⟩ := fz2 BK155.out
      go_wp2_with (first | ((with_reducible refine gate_callee (f := 59) rfl ?_); refine goesL_ (some 7) rfl rfl Try.func59 (by kernel_rfl) rfl #[.slice A0_0 l0_0.length c0_0] rfl (by (try simp only [zK, zL, zM]); first | done | rfl | (simp only [zN, zO]; rfl)) ?_; (with_reducible refine (impl_ValidDims.calls k _ _ l0_0 true _ ?side1 ?side2 A4.out).mono ?_); (case side1 => exact yY HR0_0.out HB.out); (case side2 => exact HC0_0.out); rintro e w7 ⟨rfl, hb⟩; refine ⟨_, rfl, ?_⟩; have n0_ := yD (zB (g := gb155) (o := .cells #[.slice A0_0 l0_0.length c0_0, .slice A0_1 l0_1.length c0_1] 65 (0, 0)) (by exact BK155.out) hb); have n1_ := yD (zC (by exact HB.out) hb); clear BK155; clear HB; have BK155 := n0_; have HB := n1_; clear n0_ n1_; (try clear hb); (try clear hb2); (try clear hk); (try clear hi); obtain ⟨hcz8_0, hcz8_1⟩ := cz2 BK155.out; obtain ⟨hfz8_0, hfz8_1⟩ := fz2 BK155.out))
      go_meet
      case rel => exact ⟨_, (((l0_1.length : Int) != (l0_0.length : Int))), (by first | rfl | (simp; done) | (simp [*]; done)), H', ⟨by first | omega | exact Nat.le_refl _⟩, ⟨by (with_reducible repeat (first | refine yM ?_ _ | refine yO ?_ | refine yN ?_ _)); exact BK155.out⟩, ⟨by repeat (first | (with_reducible first | exact HB.out | apply yQ | apply yL | apply yP | refine yE ?_ GE155.out) | exact HB.out)⟩⟩
    · replace c5 := Bool.eq_false_iff.mpr c5
      subst c5
      have H1 : (impl_ValidSpace.j0 k true l0_0 l0_1) = some r := by rw [if_neg (show ¬ (false = true) by decide)] at H; exact H
      clear H; have H := H1; clear H1
      have H' := yD H
      clear H
      obtain ⟨hcz9_0, hcz9_1⟩ := cz2 BK155.out
      obtain ⟨hfz9_0, hfz9_1⟩ := fz2 BK155.out
      go_wp2_with (first | ((with_reducible refine gate_callee (f := 59) rfl ?_); refine goesL_ (some 7) rfl rfl Try.func59 (by kernel_rfl) rfl #[.slice A0_0 l0_0.length c0_0] rfl (by (try simp only [zK, zL, zM]); first | done | rfl | (simp only [zN, zO]; rfl)) ?_; (with_reducible refine (impl_ValidDims.calls k _ _ l0_0 false _ ?side1 ?side2 A4.out).mono ?_); (case side1 => exact yY HR0_0.out HB.out); (case side2 => exact HC0_0.out); rintro e w10 ⟨rfl, hb⟩; refine ⟨_, rfl, ?_⟩; have n0_ := yD (zB (g := gb155) (o := .cells #[.slice A0_0 l0_0.length c0_0, .slice A0_1 l0_1.length c0_1] 65 (0, 0)) (by exact BK155.out) hb); have n1_ := yD (zC (by exact HB.out) hb); clear BK155; clear HB; have BK155 := n0_; have HB := n1_; clear n0_ n1_; (try clear hb); (try clear hb2); (try clear hk); (try clear hi)))
      go_meet
      case rel => exact ⟨_, (true), (by first | rfl | (simp; done) | (simp [*]; done)), H', ⟨by first | omega | exact Nat.le_refl _⟩, ⟨by (with_reducible repeat (first | refine yM ?_ _ | refine yO ?_ | refine yN ?_ _)); exact BK155.out⟩, ⟨by repeat (first | (with_reducible first | exact HB.out | apply yQ | apply yL | apply yP | refine yE ?_ GE155.out) | exact HB.out)⟩⟩
  case rest =>
    clear HC2; try clear p2; try clear c5; try clear c8; try clear hcz6_0; try clear hcz6_1; try clear hcz8_0; try clear hcz8_1; try clear hcz9_0; try clear hcz9_1; try clear hfz6_0; try clear hfz6_1; try clear hfz8_0; try clear hfz8_1; try clear hfz9_0; try clear hfz9_1
    obtain ⟨kq, x17_1, rfl, HA, HJ1, BK155, HB⟩ := hcut
    cases kq with
    | zero => exact absurd HA.out (by simp [impl_ValidSpace.j0])
    | succ kj1 =>
      have H := HA.out; clear HA
      simp only [impl_ValidSpace.j0] at H
      by_cases c11 : x17_1 = true
      · subst c11
        have H1 : (some false) = some r := by rw [if_pos rfl] at H; exact H
        clear H; have H := H1; clear H1; obtain rfl := Option.some.inj H
        go_wp2
        go_ret
        exact ⟨by first | rfl | (simp <;> rfl) | (simp [*] <;> rfl), by repeat (first | (with_reducible first | exact HB.out | apply yQ | apply yL | apply yP | refine yE ?_ GE155.out) | exact HB.out)⟩
      · replace c11 := Bool.eq_false_iff.mpr c11
        subst c11
        have H1 : (impl_ValidSpace.l0 kj1 l0_1 (l0_1.length : Int) 0 l0_0 l0_1) = some r := by rw [if_neg (show ¬ (false = true) by decide)] at H; exact H
        clear H; have H := H1; clear H1
        have H' := yD H
        clear H
        obtain ⟨hcz12_0, hcz12_1⟩ := cz2 BK155.out
        obtain ⟨hfz12_0, hfz12_1⟩ := fz2 BK155.out
        go_wp2
        go_loopg [21] kj1 (fun kq v21 w' => ∃ (x21_2 : Int), v21 = .int .i64 x21_2 ∧ Aside0 (impl_ValidSpace.l0 kq l0_1 (l0_1.length : Int) x21_2 l0_0 l0_1 = some r) ∧ Aside0 (kq ≤ kj1) ∧ Aside0 (w'.heap[gb155]? = some (.cells #[(.slice A0_0 l0_0.length c0_0), (.slice A0_1 l0_1.length c0_1)] 65 (0, 0))) ∧ Aside0 (Below w.heap.size w w'))
        case atStart => exact ⟨(0), (by first | rfl | (simp; done) | (simp [*]; done)), H', ⟨Nat.le_refl _⟩, ⟨by (with_reducible repeat (first | refine yM ?_ _ | refine yO ?_ | refine yN ?_ _)); exact BK155.out⟩, ⟨by repeat (first | (with_reducible first | exact HB.out | apply yQ | apply yL | apply yP | refine yE ?_ GE155.out) | exact HB.out)⟩⟩
        case round =>
          clear H'
          try clear c1; try clear p2; try clear c5; try clear c8; try clear c11; try clear hcz12_0; try clear hcz12_1; try clear hcz6_0; try clear hcz6_1; try clear hcz8_0; try clear hcz8_1; try clear hcz9_0; try clear hcz9_1; try clear hfz12_0; try clear hfz12_1; try clear hfz6_0; try clear hfz6_1; try clear hfz8_0; try clear hfz8_1; try clear hfz9_0; try clear hfz9_1; try clear p2
          obtain ⟨x21_2, rfl, HA, HK2, BK155, HB⟩ := hrel
          cases gk with
          | zero => exact absurd HA.out (by simp [impl_ValidSpace.l0])
          | succ k2 =>
            have H := HA.out; clear HA
            simp only [impl_ValidSpace.l0] at H
            by_cases c13 : x21_2 < (l0_1.length : Int)
            · rw [if_pos c13] at H
              have c13b0 : decide (x21_2 < (l0_1.length : Int)) = true := zR c13; clear c13
              by_cases c14 : 0 ≤ x21_2
              · rw [if_pos c14] at H
                have c14b0 : decide (0 ≤ x21_2) = true := zR c14; clear c14
                by_cases c15 : x21_2 < (l0_1.length : Int)
                · rw [if_pos c15] at H
                  have c15b0 : decide (x21_2 < (l0_1.length : Int)) = true := zR c15; clear c15
                  by_cases c16 : (rd l0_1 x21_2) = (-1)
                  · rw [if_pos c16] at H
                    have c16b0 : ((rd l0_1 x21_2) == (-1)) = true := beq_iff_eq.mpr c16
                    have c16b1 : ((rd l0_1 x21_2) != (-1)) = false := bne_eq_false_iff_eq.mpr c16
                    clear c16
                    have H' := yD H
                    clear H
                    have p157 : 0 ≤ (x21_2 : Int) := zP (by assumption)
                    have q157 : x21_2 < (l0_1.length : Int) := zP (by assumption)
                    obtain ⟨ad157, e157, hx157_0⟩ := Kd.at_int HR0_1.out x21_2 p157 q157
                    cases e157
                    replace hx157_0 := (HB.out.cell (zQ w _ hx157_0)).trans hx157_0
                    replace p157 := eq_true p157; replace q157 := eq_true q157
                    go_wp2
                    go_roundg k2
                    case measure => have := HJ1.out; have := HK2.out; omega
                    case rel => exact ⟨(wrap64 (x21_2 + 1)), (by first | rfl | (simp; done) | (simp [*]; done)), H', ⟨by have := HJ1.out; have := HK2.out; omega⟩, ⟨by (with_reducible repeat (first | refine yM ?_ _ | refine yO ?_ | refine yN ?_ _)); exact BK155.out⟩, ⟨by repeat (first | (with_reducible first | exact HB.out | apply yQ | apply yL | apply yP | refine yE ?_ GE155.out) | exact HB.out)⟩⟩
                  · rw [if_neg c16] at H
                    have c16b0 : ((rd l0_1 x21_2) == (-1)) = false := beq_eq_false_iff_ne.mpr c16
                    have c16b1 : ((rd l0_1 x21_2) != (-1)) = true := bne_iff_ne.mpr c16
                    by_cases c17 : x21_2 < (l0_0.length : Int)
                    · rw [if_pos c17] at H
                      have c17b0 : decide (x21_2 < (l0_0.length : Int)) = true := zR c17; clear c17
                      obtain ⟨t159, A180, H⟩ := zW_ H
                      replace H : (if t159 = true then (impl_ValidSpace.l0 k2 l0_1 (l0_1.length : Int) (wrap64 (x21_2 + 1)) l0_0 l0_1) else (some false)) = some r := H
                      have A18 := yD A180
                      clear A180
                      by_cases c19 : t159 = true
                      · subst c19
                        have H1 : (impl_ValidSpace.l0 k2 l0_1 (l0_1.length : Int) (wrap64 (x21_2 + 1)) l0_0 l0_1) = some r := by rw [if_pos rfl] at H; exact H
                        clear H; have H := H1; clear H1
                        have H' := yD H
                        clear H
                        have p157 : 0 ≤ (x21_2 : Int) := zP (by assumption)
                        have q157 : x21_2 < (l0_1.length : Int) := zP (by assumption)
                        obtain ⟨ad157, e157, hx157_0⟩ := Kd.at_int HR0_1.out x21_2 p157 q157
                        cases e157
                        replace hx157_0 := (HB.out.cell (zQ w _ hx157_0)).trans hx157_0
                        replace p157 := eq_true p157; replace q157 := eq_true q157
                        obtain ⟨hcz20_0, hcz20_1⟩ := cz2 BK155.out
                        obtain ⟨hfz20_0, hfz20_1⟩ := fz2 BK155.out
                        have p158 : 0 ≤ (x21_2 : Int) := zP (by assumption)
                        have q158 : x21_2 < (l0_0.length : Int) := zP (by assumption)
                        obtain ⟨ad158, e158, hx158_0⟩ := Kd.at_int HR0_0.out x21_2 p158 q158
                        cases e158
                        replace hx158_0 := (HB.out.cell (zQ w _ hx158_0)).trans hx158_0
                        replace p158 := eq_true p158; replace q158 := eq_true q158
                        go_wp2_with (first | (go_at_call 60; (with_reducible refine (impl_within.calls (rd l0_1 x21_2) (rd l0_0 x21_2) 40 true _ A18.out).mono ?_); rintro e w' ⟨rfl, ⟨nd, rfl⟩⟩))
                        go_roundg k2
                        case measure => have := HJ1.out; have := HK2.out; omega
                        case rel => exact ⟨(wrap64 (x21_2 + 1)), (by first | rfl | (simp; done) | (simp [*]; done)), H', ⟨by have := HJ1.out; have := HK2.out; omega⟩, ⟨by (with_reducible repeat (first | refine yM ?_ _ | refine yO ?_ | refine yN ?_ _)); exact BK155.out⟩, ⟨by repeat (first | (with_reducible first | exact HB.out | apply yQ | apply yL | apply yP | refine yE ?_ GE155.out) | exact HB.out)⟩⟩
                      · replace c19 := Bool.eq_false_iff.mpr c19
                        subst c19
                        have H1 : (some false) = some r := by rw [if_neg (show ¬ (false = true) by decide)] at H; exact H
                        clear H; have H := H1; clear H1; obtain rfl := Option.some.inj H
                        have p157 : 0 ≤ (x21_2 : Int) := zP (by assumption)
                        have q157 : x21_2 < (l0_1.length : Int) := zP (by assumption)
                        obtain ⟨ad157, e157, hx157_0⟩ := Kd.at_int HR0_1.out x21_2 p157 q157
                        cases e157
                        replace hx157_0 := (HB.out.cell (zQ w _ hx157_0)).trans hx157_0
                        replace p157 := eq_true p157; replace q157 := eq_true q157
                        obtain ⟨hcz21_0, hcz21_1⟩ := cz2 BK155.out
                        obtain ⟨hfz21_0, hfz21_1⟩ := fz2 BK155.out
                        have p158 : 0 ≤ (x21_2 : Int) := zP (by assumption)
                        have q158 : x21_2 < (l0_0.length : Int) := zP (by assumption)
                        obtain ⟨ad158, e158, hx158_0⟩ := Kd.at_int HR0_0.out x21_2 p158 q158
                        cases e158
                        replace hx158_0 := (HB.out.cell (zQ w _ hx158_0)).trans hx158_0
                        replace p158 := eq_true p158; replace q158 := eq_true q158
                        go_wp2_with (first | (go_at_call 60; (with_reducible refine (impl_within.calls (rd l0_1 x21_2) (rd l0_0 x21_2) 40 false _ A18.out).mono ?_); rintro e w' ⟨rfl, ⟨nd, rfl⟩⟩))
                        go_ret
                        exact ⟨by first | rfl | (simp <;> rfl) | (simp [*] <;> rfl), by repeat (first | (with_reducible first | exact HB.out | apply yQ | apply yL | apply yP | refine yE ?_ GE155.out) | exact HB.out)⟩
                    · rw [if_neg c17] at H
                      exact absurd H (by simp)
                · rw [if_neg c15] at H
                  exact absurd H (by simp)
              · rw [if_neg c14] at H
                exact absurd H (by simp)
            · rw [if_neg c13] at H
              have c13b0 : decide (x21_2 < (l0_1.length : Int)) = false := zS c13; clear c13; obtain rfl := Option.some.inj H
              go_wp2
              go_ret
              exact ⟨by first | rfl | (simp <;> rfl) | (simp [*] <;> rfl), by repeat (first | (with_reducible first | exact HB.out | apply yQ | apply yL | apply yP | refine yE ?_ GE155.out) | exact HB.out)⟩

/-! ### impl_Space_resizable: function 89 -/
def impl_Space_resizable.l0 : Nat → List Int → Int → Int → List Int → List Int → Option (Bool)
  | 0, _, _, _, _, _ => none
  | k + 1, x13, x14, x15, x161000, x161001 => if x15 < x14 then (if 0 ≤ x15 then (if x15 < (x13.length : Int) then (if x15 < (x161001.length : Int) then (if (rd x161001 x15) = (-1) then (impl_Space_resizable.l0 k x13 x14 (wrap64 (x15 + 1)) x161000 x161001) else (if (rd x13 x15) > (rd x161001 x15) then (some false) else (impl_Space_resizable.l0 k x13 x14 (wrap64 (x15 + 1)) x161000 x161001))) else (none)) else (none)) else (none)) else (some true)
def impl_Space_resizable.f (k : Nat) (l0_0 : List Int) (l0_1 : List Int) (l1 : List Int) : Option (Bool) := if (l1.length : Int) = (l0_0.length : Int) then (impl_Space_resizable.l0 k l1 (l1.length : Int) 0 l0_0 l0_1) else (some false)
theorem impl_Space_resizable.mono_l : ∀ k, (∀ y0 y1 y2 y3 y4, LeO (impl_Space_resizable.l0 k y0 y1 y2 y3 y4) (impl_Space_resizable.l0 (k + 1) y0 y1 y2 y3 y4))
  | 0 => fun _ _ _ _ _ r h => by simp [impl_Space_resizable.l0] at h
  | k + 1 => by
    have ih0 := impl_Space_resizable.mono_l k
    · intro y0 y1 y2 y3 y4
      unfold impl_Space_resizable.l0
      repeat' first
      | (with_reducible exact ih0 _ _ _ _ _)
      | (with_reducible exact LeO.refl _)
      | (with_reducible exact LeO.none _)
      | (with_reducible refine LeO.ite ?_ ?_)
      | (with_reducible refine LeO.bind ?_ (fun _ => ?_))
      | exact ih0 _ _ _ _ _
      | exact LeO.none _
      | refine LeO.ite ?_ ?_
      | refine LeO.bind ?_ (fun _ => ?_)
theorem impl_Space_resizable.mono : ∀ a0 a1 a2 k, LeO (impl_Space_resizable.f k a0 a1 a2) (impl_Space_resizable.f (k + 1) a0 a1 a2) := by
  intro a0 a1 a2 k
  have ih0 := impl_Space_resizable.mono_l k
  unfold impl_Space_resizable.f
  repeat' first
      | (with_reducible exact ih0 _ _ _ _ _)
      | (with_reducible exact LeO.refl _)
      | (with_reducible exact LeO.none _)
      | (with_reducible refine LeO.ite ?_ ?_)
      | (with_reducible refine LeO.bind ?_ (fun _ => ?_))
      | exact ih0 _ _ _ _ _
      | exact LeO.none _
      | refine LeO.ite ?_ ?_
      | refine LeO.bind ?_ (fun _ => ?_)
set_option maxHeartbeats 8000000 in
set_option maxRecDepth 100000 in
theorem impl_Space_resizable.calls (k : Nat) (A0_0 : Option Addr) (c0_0 : Nat) (l0_0 : List Int) (A0_1 : Option Addr) (c0_1 : Nat) (l0_1 : List Int) (A1 : Option Addr) (c1 : Nat) (l1 : List Int) (r : Bool) (w : World) (hr0_0 : Kd.C (Kd.int .i64) w A0_0 l0_0.length l0_0) (hc0_0 : l0_0.length ≤ c0_0) (hr0_1 : Kd.C (Kd.int .i64) w A0_1 l0_1.length l0_1) (hc0_1 : l0_1.length ≤ c0_1) (hr1 : Kd.C (Kd.int .i64) w A1 l1.length l1) (hc1 : l1.length ≤ c1) (h : impl_Space_resizable.f k l0_0 l0_1 l1 = some r) :
    Calls Try.prog 89 #[.agg #[.slice A0_0 l0_0.length c0_0, .slice A0_1 l0_1.length c0_1], .slice A1 l1.length c1] w fun e w' => e = .returned (.bool r) ∧ Below w.heap.size w w' := by
  have hu65 := Try.underlying65
  have HR0_0 := yD hr0_0
  have HC0_0 := yD hc0_0
  clear hr0_0 hc0_0
  have HR0_1 := yD hr0_1
  have HC0_1 := yD hc0_1
  clear hr0_1 hc0_1
  have HR1 := yD hr1
  have HC1 := yD hc1
  clear hr1 hc1
  have HB := yD (Below.refl w.heap.size w)
  have H : (if (l1.length : Int) = (l0_0.length : Int) then (impl_Space_resizable.l0 k l1 (l1.length : Int) 0 l0_0 l0_1) else (some false)) = some r := h
  clear h
  by_cases c3 : (l1.length : Int) = (l0_0.length : Int)
  · rw [if_pos c3] at H
    have c3b0 : ((l1.length : Int) == (l0_0.length : Int)) = true := beq_iff_eq.mpr c3
    have c3b1 : ((l1.length : Int) != (l0_0.length : Int)) = false := bne_eq_false_iff_eq.mpr c3
    have c3b2 : (l1.length == l0_0.length) = true := by first | simpa using c3 | (simp at c3 ⊢; omega)
    clear c3
    have H' := yD H
    clear H; go_enter Try.func89, Try.ntmps89
    go_wp2_with (first | ((with_reducible refine gate_dst (N := 2) rfl ?_); refine box_event ?hg (N := 2) ?hd (cs := #[.slice A0_0 l0_0.length c0_0, .slice A0_1 l0_1.length c0_1]) (t := 65) ?hr ?_; (case hd => rfl); (case hg => rfl); (case hr => first | (go_simp; done) | (go_simp; rfl)); intro gb160 hg w4 hbox hb; have n0_ := yD (zC (by exact HB.out) hb); have n1_ := yD (hbox); have n2_ := yD ((by rw [hg]; exact (below_size (by exact HB.out)) : w.heap.size ≤ gb160)); have n3_ := yD ((by rw [hg]; exact (below_size (by exact HB.out)) : w.heap.size ≤ gb160)); clear HB; have HB := n0_; have BK160 := n1_; have GW160 := n2_; have GE160 := n3_; clear n0_ n1_ n2_ n3_; clear hb hbox hg; obtain ⟨hcz5_0, hcz5_1⟩ := cz2 BK160.out; obtain ⟨hfz5_0, hfz5_1⟩ := fz2 BK160.out))
    go_loopg [15] k (fun kq v15 w' => ∃ (x15_1 : Int), v15 = .int .i64 x15_1 ∧ Aside0 (impl_Space_resizable.l0 kq l1 (l1.length : Int) x15_1 l0_0 l0_1 = some r) ∧ Aside0 (kq ≤ k) ∧ Aside0 (w'.heap[gb160]? = some (.cells #[(.slice A0_0 l0_0.length c0_0), (.slice A0_1 l0_1.length c0_1)] 65 (0, 0))) ∧ Aside0 (Below w.heap.size w w'))
    case atStart => exact ⟨(0), (by first | rfl | (simp; done) | (simp [*]; done)), H', ⟨Nat.le_refl _⟩, ⟨by (with_reducible repeat (first | refine yM ?_ _ | refine yO ?_ | refine yN ?_ _)); exact BK160.out⟩, ⟨by repeat (first | (with_reducible first | exact HB.out | apply yQ | apply yL | apply yP | refine yE ?_ GE160.out) | exact HB.out)⟩⟩
    case round =>
      clear H'
      try clear c1; try clear p2; try clear c3; try clear c3b0; try clear c3b1; try clear c3b2; try clear hcz5_0; try clear hcz5_1; try clear hfz5_0; try clear hfz5_1
      obtain ⟨x15_1, rfl, HA, HK1, BK160, HB⟩ := hrel
      cases gk with
      | zero => exact absurd HA.out (by simp [impl_Space_resizable.l0])
      | succ k1 =>
        have H := HA.out; clear HA
        simp only [impl_Space_resizable.l0] at H
        by_cases c6 : x15_1 < (l1.length : Int)
        · rw [if_pos c6] at H
          have c6b0 : decide (x15_1 < (l1.length : Int)) = true := zR c6; clear c6
          by_cases c7 : 0 ≤ x15_1
          · rw [if_pos c7] at H
            have c7b0 : decide (0 ≤ x15_1) = true := zR c7; clear c7
            by_cases c8 : x15_1 < (l1.length : Int)
            · rw [if_pos c8] at H
              have c8b0 : decide (x15_1 < (l1.length : Int)) = true := zR c8; clear c8
              by_cases c9 : x15_1 < (l0_1.length : Int)
              · rw [if_pos c9] at H
                have c9b0 : decide (x15_1 < (l0_1.length : Int)) = true := zR c9; clear c9
                by_cases c10 : (rd l0_1 x15_1) = (-1)
                · rw [if_pos c10] at H
                  have c10b0 : ((rd l0_1 x15_1) == (-1)) = true := beq_iff_eq.mpr c10
                  have c10b1 : ((rd l0_1 x15_1) != (-1)) = false := bne_eq_false_iff_eq.mpr c10
                  clear c10
                  have H' := yD H
                  clear H
                  have p161 : 0 ≤ (x15_1 : Int) := zP (by assumption)
                  have q161 : x15_1 < (l1.length : Int) := zP (by assumption)
                  obtain ⟨ad161, e161, hx161_0⟩ := Kd.at_int HR1.out x15_1 p161 q161
                  cases e161
                  replace hx161_0 := (HB.out.cell (zQ w _ hx161_0)).trans hx161_0
                  replace p161 := eq_true p161; replace q161 := eq_true q161
                  obtain ⟨hcz11_0, hcz11_1⟩ := cz2 BK160.out
                  obtain ⟨hfz11_0, hfz11_1⟩ := fz2 BK160.out
                  have p162 : 0 ≤ (x15_1 : Int) := zP (by assumption)
                  have q162 : x15_1 < (l0_1.length : Int) := zP (by assumption)
                  obtain ⟨ad162, e162, hx162_0⟩ := Kd.at_int HR0_1.out x15_1 p162 q162
                  cases e162
                  replace hx162_0 := (HB.out.cell (zQ w _ hx162_0)).trans hx162_0
                  replace p162 := eq_true p162; replace q162 := eq_true q162
                  go_wp2
                  go_roundg k1
                  case measure => have := HK1.out; omega
                  case rel => exact ⟨(wrap64 (x15_1 + 1)), (by first | rfl | (simp; done) | (simp [*]; done)), H', ⟨by have := HK1.out; omega⟩, ⟨by (with_reducible repeat (first | refine yM ?_ _ | refine yO ?_ | refine yN ?_ _)); exact BK160.out⟩, ⟨by repeat (first | (with_reducible first | exact HB.out | apply yQ | apply yL | apply yP | refine yE ?_ GE160.out) | exact HB.out)⟩⟩
                · rw [if_neg c10] at H
                  have c10b0 : ((rd l0_1 x15_1) == (-1)) = false := beq_eq_false_iff_ne.mpr c10
                  have c10b1 : ((rd l0_1 x15_1) != (-1)) = true := bne_iff_ne.mpr c10
                  by_cases c12 : (rd l1 x15_1) > (rd l0_1 x15_1)
                  · rw [if_pos c12] at H
                    have c12b0 : decide ((rd l0_1 x15_1) < (rd l1 x15_1)) = true := zR c12; clear c12; obtain rfl := Option.some.inj H
                    have p161 : 0 ≤ (x15_1 : Int) := zP (by assumption)
                    have q161 : x15_1 < (l1.length : Int) := zP (by assumption)
                    obtain ⟨ad161, e161, hx161_0⟩ := Kd.at_int HR1.out x15_1 p161 q161
                    cases e161
                    replace hx161_0 := (HB.out.cell (zQ w _ hx161_0)).trans hx161_0
                    replace p161 := eq_true p161; replace q161 := eq_true q161
                    obtain ⟨hcz13_0, hcz13_1⟩ := cz2 BK160.out
                    obtain ⟨hfz13_0, hfz13_1⟩ := fz2 BK160.out
                    have p162 : 0 ≤ (x15_1 : Int) := zP (by assumption)
                    have q162 : x15_1 < (l0_1.length : Int) := zP (by assumption)
                    obtain ⟨ad162, e162, hx162_0⟩ := Kd.at_int HR0_1.out x15_1 p162 q162
                    cases e162
                    replace hx162_0 := (HB.out.cell (zQ w _ hx162_0)).trans hx162_0
                    replace p162 := eq_true p162; replace q162 := eq_true q162
                    have p163 : 0 ≤ (x15_1 : Int) := zP (by assumption)
                    have q163 : x15_1 < (l0_1.length : Int) := zP (by assumption)
                    obtain ⟨ad163, e163, hx163_0⟩ := Kd.at_int HR0_1.out x15_1 p163 q163
                    obtain rfl : ad162 = ad163 := (by injection e163)
                    replace hx163_0 := (HB.out.cell (zQ w _ hx163_0)).trans hx163_0
                    replace p163 := eq_true p163; replace q163 := eq_true q163
                    go_wp2
                    go_ret
                    exact ⟨by first | rfl | (simp <;> rfl) | (simp [*] <;> rfl), by repeat (first | (with_reducible first | exact HB.out | apply yQ | apply yL | apply yP | refine yE ?_ GE160.out) | exact HB.out)⟩
                  · rw [if_neg c12] at H
                    have c12b0 : decide ((rd l0_1 x15_1) < (rd l1 x15_1)) = false := zS c12; clear c12
                    have H' := yD H
                    clear H
                    have p161 : 0 ≤ (x15_1 : Int) := zP (by assumption)
                    have q161 : x15_1 < (l1.length : Int) := zP (by assumption)
                    obtain ⟨ad161, e161, hx161_0⟩ := Kd.at_int HR1.out x15_1 p161 q161
                    cases e161
                    replace hx161_0 := (HB.out.cell (zQ w _ hx161_0)).trans hx161_0
                    replace p161 := eq_true p161; replace q161 := eq_true q161
                    obtain ⟨hcz14_0, hcz14_1⟩ := cz2 BK160.out
                    obtain ⟨hfz14_0, hfz14_1⟩ := fz2 BK160.out
                    have p162 : 0 ≤ (x15_1 : Int) := zP (by assumption)
                    have q162 : x15_1 < (l0_1.length : Int) := zP (by assumption)
                    obtain ⟨ad162, e162, hx162_0⟩ := Kd.at_int HR0_1.out x15_1 p162 q162
                    cases e162
                    replace hx162_0 := (HB.out.cell (zQ w _ hx162_0)).trans hx162_0
                    replace p162 := eq_true p162; replace q162 := eq_true q162
                    have p163 : 0 ≤ (x15_1 : Int) := zP (by assumption)
                    have q163 : x15_1 < (l0_1.length : Int) := zP (by assumption)
                    obtain ⟨ad163, e163, hx163_0⟩ := Kd.at_int HR0_1.out x15_1 p163 q163
                    obtain rfl : ad162 = ad163 := (by injection e163)
                    replace hx163_0 := (HB.out.cell (zQ w _ hx163_0)).trans hx163_0
                    replace p163 := eq_true p163; replace q163 := eq_true q163
                    go_wp2
                    go_roundg k1
                    case measure => have := HK1.out; omega
                    case rel => exact ⟨(wrap64 (x15_1 + 1)), (by first | rfl | (simp; done) | (simp [*]; done)), H', ⟨by have := HK1.out; omega⟩, ⟨by (with_reducible repeat (first | refine yM ?_ _ | refine yO ?_ | refine yN ?_ _)); exact BK160.out⟩, ⟨by repeat (first | (with_reducible first | exact HB.out | apply yQ | apply yL | apply yP | refine yE ?_ GE160.out) | exact HB.out)⟩⟩
              · rw [if_neg c9] at H
                exact absurd H (by simp)
            · rw [if_neg c8] at H
              exact absurd H (by simp)
          · rw [if_neg c7] at H
            exact absurd H (by simp)
        · rw [if_neg c6] at H
          have c6b0 : decide (x15_1 < (l1.length : Int)) = false := zS c6; clear c6; obtain rfl := Option.some.inj H
          go_wp2
          go_ret
          exact ⟨by first | rfl | (simp <;> rfl) | (simp [*] <;> rfl), by repeat (first | (with_reducible first | exact HB.out | apply yQ | apply yL | apply yP | refine yE ?_ GE160.out) | exact HB.out)⟩
  · rw [if_neg c3] at H
    have c3b0 : ((l1.length : Int) == (l0_0.length : Int)) = false := beq_eq_false_iff_ne.mpr c3
    have c3b1 : ((l1.length : Int) != (l0_0.length : Int)) = true := bne_iff_ne.mpr c3
    have c3b2 : (l1.length == l0_0.length) = false := by first | simpa using c3 | (simp at c3 ⊢; omega)
    obtain rfl := Option.some.inj H; go_enter Try.func89, Try.ntmps89
    go_wp2_with (first | ((with_reducible refine gate_dst (N := 2) rfl ?_); refine box_event ?hg (N := 2) ?hd (cs := #[.slice A0_0 l0_0.length c0_0, .slice A0_1 l0_1.length c0_1]) (t := 65) ?hr ?_; (case hd => rfl); (case hg => rfl); (case hr => first | (go_simp; done) | (go_simp; rfl)); intro gb160 hg w15 hbox hb; have n0_ := yD (zC (by exact HB.out) hb); have n1_ := yD (hbox); have n2_ := yD ((by rw [hg]; exact (below_size (by exact HB.out)) : w.heap.size ≤ gb160)); have n3_ := yD ((by rw [hg]; exact (below_size (by exact HB.out)) : w.heap.size ≤ gb160)); clear HB; have HB := n0_; have BK160 := n1_; have GW160 := n2_; have GE160 := n3_; clear n0_ n1_ n2_ n3_; clear hb hbox hg; obtain ⟨hcz16_0, hcz16_1⟩ := cz2 BK160.out; obtain ⟨hfz16_0, hfz16_1⟩ := fz2 BK160.out))
    go_ret
    exact ⟨by first | rfl | (simp <;> rfl) | (simp [*] <;> rfl), by repeat (first | (with_reducible first | exact HB.out | apply yQ | apply yL | apply yP | refine yE ?_ GE160.out) | exact HB.out)⟩

/-! ### slices_Clone_int64_int64_isnil: function 78 -/
def slices_Clone_int64_int64_isnil.f (l0 : List Int) : Option (List Int) := some ([] : List Int)
set_option maxHeartbeats 8000000 in
set_option maxRecDepth 100000 in
theorem slices_Clone_int64_int64_isnil.calls (c0 : Nat) (l0 : List Int) (r : List Int) (w : World) (hr0 : Kd.C (Kd.int .i64) w none l0.length l0) (hc0 : l0.length ≤ c0) (h : slices_Clone_int64_int64_isnil.f l0 = some r) :
    Calls Try.prog 78 #[.slice none l0.length c0] w fun e w' => ∃ v0_ : Value, e = .returned (v0_) ∧ Kd.R (Kd.int .i64) 2 w' w.heap.size (fun _ => True) v0_ r ∧ Below w.heap.size w w' := by
  have HR0 := yD hr0
  have HC0 := yD hc0
  clear hr0 hc0
  have HB := yD (Below.refl w.heap.size w)
  have H : (some ([] : List Int)) = some r := h
  clear h; obtain rfl := Option.some.inj H; have q_ : ∀ (w : World) (a : Option Addr) (n c n' c' : Nat), (binOp .eql 27 (.slice a n c) (.slice none n' c')).run Try.prog w = .ok (.bool a.isNone) w := fun w a n c n' c' => Lib.run_eql_slice_nil w _ _ a n c n' c' Try.underlying27; go_enter Try.func78, Try.ntmps78
  go_wp2
  go_ret
  exact ⟨_, by first | rfl | (simp <;> rfl) | (simp [*] <;> rfl), by first | exact Kd.R_nil _ _ _ _ _ | exact Kd.N_nil _ _ _ _ _ | exact Kd.V_nil _ _ _ _ _ | exact Kd.Q_nil _ _ _ _ _ | exact Kd.S_nil _ _ _ _ _, by repeat (first | (with_reducible first | exact HB.out | apply yQ | apply yL | apply yP) | exact HB.out)⟩

/-! ### slices_Clone_int64_int64_nn: function 78 -/
def slices_Clone_int64_int64_nn.f (l0 : List Int) : Option (List Int) := (some (([] : List Int) : List Int)).bind fun y164 => (if y164.length + l0.length < 17592186044416 then (some (y164 ++ l0)) else (none))
set_option maxHeartbeats 8000000 in
set_option maxRecDepth 100000 in
theorem slices_Clone_int64_int64_nn.calls (A0 : Addr) (c0 : Nat) (l0 : List Int) (r : List Int) (w : World) (hr0 : Kd.C (Kd.int .i64) w (some A0) l0.length l0) (hc0 : l0.length ≤ c0) (h : slices_Clone_int64_int64_nn.f l0 = some r) :
    Calls Try.prog 78 #[.slice (some A0) l0.length c0] w fun e w' => ∃ v0_ : Value, e = .returned (v0_) ∧ Kd.R (Kd.int .i64) 2 w' w.heap.size (fun _ => True) v0_ r ∧ Below w.heap.size w w' := by
  have HR0 := yD hr0
  have HC0 := yD hc0
  clear hr0 hc0
  have HB := yD (Below.refl w.heap.size w)
  have H : ((some (([] : List Int) : List Int)).bind fun y164 => (if y164.length + l0.length < 17592186044416 then (some (y164 ++ l0)) else (none))) = some r := h
  clear h
  obtain ⟨y164, hy164⟩ : ∃ y_ : List Int, y_ = (([] : List Int)) := ⟨_, rfl⟩
  replace H : (if y164.length + l0.length < 17592186044416 then (some (y164 ++ l0)) else (none)) = some r := by first | (rw [hy164]; with_reducible exact H) | (have H2_ := (Option.bind_some _ _).symm.trans H; rw [hy164]; with_reducible exact H2_) | (have H2_ := (Option.bind_some _ _).symm.trans H; with_reducible exact H2_) | with_reducible exact H | (rw [hy164]; exact H) | exact H
  have Ny164 := yD hy164
  clear hy164
  by_cases c2 : y164.length + l0.length < 17592186044416
  · rw [if_pos c2] at H
    have LMc2 := yD c2
    clear c2
    obtain ⟨y167, hy167⟩ : ∃ y_ : List Int, y_ = (y164 ++ l0) := ⟨_, rfl⟩
    replace H : (some y167) = some r := by first | (rw [hy167]; with_reducible exact H) | (have H2_ := (Option.bind_some _ _).symm.trans H; rw [hy167]; with_reducible exact H2_) | (have H2_ := (Option.bind_some _ _).symm.trans H; with_reducible exact H2_) | with_reducible exact H | (rw [hy167]; exact H) | exact H
    have Ny167 := yD hy167
    clear hy167; obtain rfl := Option.some.inj H; have q_ : ∀ (w : World) (a : Option Addr) (n c n' c' : Nat), (binOp .eql 27 (.slice a n c) (.slice none n' c')).run Try.prog w = .ok (.bool a.isNone) w := fun w a n c n' c' => Lib.run_eql_slice_nil w _ _ a n c n' c' Try.underlying27; go_enter Try.func78, Try.ntmps78
    go_wp2_with (first | ((with_reducible refine gate_dst (N := 5) rfl ?_); refine Kd.R_lit (Kd.int .i64) _ 2 ?hg (N := 5) ?hd (xs := ([] : List Int)) (inner := []) (ok := fun _ => True) (okp := fun _ => True) ?hr ?hp (fun _ hk => hk) trivial (Below.refl _ _) (Nat.le_refl _) (by simp) ?_; (case hd => rfl); (case hg => rfl); (case hr => first | (go_simp; done) | (go_simp; rfl)); (case hp => exact (Reps.none _ _)); intro v165 w3 ho4 hb hg_ hnew_; clear hg_ hnew_; (first | rw [← Ny164.out] at ho4 | (simp only [Int.reduceToNat] at ho4; rw [← Ny164.out] at ho4)); have n0_ := yD (yZ ho4 (below_size (by exact HB.out))); have n1_ := yD (zC (by exact HB.out) hb); clear HB; have HO166 := n0_; have HB := n1_; clear n0_ n1_; clear hb ho4) | ((with_reducible refine gate_builtin (b := .append) (xs := #[.tmp 5, .tmp 6]) rfl ?_); at_builtin; refine Kd.R_append_rows (Kd.int .i64) (w0 := w) w.heap.size rfl (.tmp 5) (.tmp 6) 27 2 (.int .i64 0) 8 rfl Try.underlying27 info2 rfl (by decide) (by omega) v165 y164 l0 _ _ _ (fun _ => True) (fun _ => False) rfl rfl ?aO ?aR (fun _ _ h => h) (fun _ h => h.elim) ?aF ?aB ?aS ?aL ?_; (case aR => repeat (first | exact (yY HR0.out HB.out) | (with_reducible first | refine yV ?_ _ | refine yW ?_ _ | refine yX ?_))); (case aB => exact (by exact HB.out)); (case aF => exact (fun _ _ => trivial)); (case aO => exact (by exact HO166.out)); (case aS => exact (below_size (by exact HB.out))); (case aL => have := LMc2.out; omega); intro v168 w5 ho hb hg hat; rw [← Ny167.out] at ho; have n0_ := yD (hb); have n1_ := yD (ho); clear HB; clear HO166; have HB := n0_; have HO169 := n1_; clear n0_ n1_; clear ho hb hg hat))
    go_ret
    exact ⟨_, by first | rfl | (simp <;> rfl) | (simp [*] <;> rfl), by (with_reducible repeat (first | apply yA | apply yB | apply yC)); exact HO169.out, by repeat (first | (with_reducible first | exact HB.out | apply yQ | apply yL | apply yP) | exact HB.out)⟩
  · rw [if_neg c2] at H
    exact absurd H (by simp)

/-! ### slices_Clone_int64_int64: function 78 -/
def slices_Clone_int64_int64.f (l0 : List Int) : Option (List Int) := slices_Clone_int64_int64_nn.f l0
theorem slices_Clone_int64_int64.calls (A0 : Option Addr) (c0 : Nat) (l0 : List Int) (r : List Int) (w : World) (hr0 : Kd.C (Kd.int .i64) w A0 l0.length l0) (hc0 : l0.length ≤ c0) (h : slices_Clone_int64_int64.f l0 = some r) :
    Calls Try.prog 78 #[.slice A0 l0.length c0] w fun e w' => ∃ v0_ : Value, e = .returned (v0_) ∧ Kd.R (Kd.int .i64) 2 w' w.heap.size (fun _ => True) v0_ r ∧ Below w.heap.size w w' := by
  cases A0 with
  | some A0 => exact slices_Clone_int64_int64_nn.calls A0 c0 l0 r w hr0 hc0 h
  | none =>
    have hz : l0 = [] := by
      cases l0 with
      | nil => rfl
      | cons x xs => obtain ⟨ad, e, _⟩ := hr0.2.2 (by simp); cases e
    subst hz
    have hr : r = [] := by
      have h' := h
      unfold slices_Clone_int64_int64.f slices_Clone_int64_int64_nn.f at h'
      simp at h'
      exact h'
    subst hr
    exact slices_Clone_int64_int64_isnil.calls c0 [] [] w hr0 hc0 rfl

end Go.Proofs.Ytehldidejgpifaa.PFnExactResizeSpace
