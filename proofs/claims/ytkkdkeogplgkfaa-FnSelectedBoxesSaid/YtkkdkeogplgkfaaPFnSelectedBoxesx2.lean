/- Each function here comes to its plain form. It holds without a condition. -/
import Derived.Test.YtkkdkeogplgkfaaPFnSelectedBoxesx0
import Derived.Test.YtkkdkeogplgkfaaPFnSelectedBoxesx1
namespace Go.Proofs.Ytkkdkeogplgkfaa.PFnSelectedBoxes
open Go.RowKit Go.Proofs.YtkkdkeogplgkfaaW.PrintWords Go.Proofs.YtkkdkeogplgkfaaW.PrintLast Go.Proofs.YtkkdkeogplgkfaaW.PrintMore
attribute [local go_sem] max2_int min2_int max_two min_two max_three min_three max_four min_four
set_option linter.unusedVariables false
set_option linter.unusedSimpArgs false
set_option maxHeartbeats 8000000
set_option maxRecDepth 100000
def aN.l0 : Nat → List Int → Int → Int → Int → Int → Option (Int)
 | 0, _, _, _, _, _ => none
 | k + 1, x0, x7, x8, x49000, x50000 => if x8 < x7 then (if 0 ≤ x8 then (if x8 < (x0.length : Int) then ((impl_allWithin_1.f (rd x0 x8) x49000 x50000).bind fun t258 => (if t258 = true then (some x8) else (aN.l0 k x0 x7 (wrap64 (x8 + 1)) x49000 x50000))) else (none)) else (none)) else (some (-1))
def aN.f (k : Nat) (l0 : List Int) (a1_0 a1_1 : Int) : Option (Int) := aN.l0 k l0 (l0.length : Int) 0 a1_0 a1_1
theorem aN.calls (k : Nat) (A0 : Option Addr) (c0 : Nat) (l0 : List Int) (g1_0 : Nat) (g1_1 : Nat) (a1_0 : Int) (a1_1 : Int) (r : Int) (w : World) (C0 : Cm (Kd.int .i64) w A0 c0 l0) (hb1_0 : w.heap[g1_0]? = some (.cells #[.int .i64 a1_0] 2 (0, 0))) (hb1_1 : w.heap[g1_1]? = some (.cells #[.int .i64 a1_1] 2 (0, 0))) (h : aN.f k l0 a1_0 a1_1 = some r) :
 Calls Try.prog 98 #[.slice A0 l0.length c0, .func (.func 87) #[] #[.pointer (some ⟨g1_0, 0, none⟩), .pointer (some ⟨g1_1, 0, none⟩)]] w fun e w' => e = .returned (.int .i64 r) ∧ Below w.heap.size w w' := by
 have BK48 := yD hb1_0
 clear hb1_0
 have BK49 := yD hb1_1
 clear hb1_1
 have HB := yD (Below.refl w.heap.size w)
 unfold aN.f at h
 have H := h
 clear h
 have H' := yD H
 clear H; go_enter Try.func98, Try.ntmps98
 go_wp2
 go_loopg [8] k (fun kq v8 w' => ∃ (x8_1 : Int), v8 = .int .i64 x8_1 ∧ aC (aN.l0 kq l0 (l0.length : Int) x8_1 a1_0 a1_1 = some r) ∧ aC (kq ≤ k) ∧ aC (w'.heap[g1_0]? = some (.cells #[.int .i64 a1_0] 2 (0, 0))) ∧ aC (w'.heap[g1_1]? = some (.cells #[.int .i64 a1_1] 2 (0, 0))) ∧ aC (Below w.heap.size w w'))
 case atStart => exact ⟨(0), kF, H', ⟨Nat.le_refl _⟩, ⟨kM BK48⟩, ⟨kM BK49⟩, ⟨kR1 HB⟩⟩
 case round =>
  clear H'
  obtain ⟨x8_1, rfl, HA, HK1, BK48, BK49, HB⟩ := hrel
  cases gk with
  | zero => exact absurd HA.out (by simp [aN.l0])
  | succ k1 =>
   have H := HA.out; clear HA
   simp only [aN.l0] at H
   replace H := sG H; rcases H with ⟨c3b0, H⟩ | ⟨c3b0, H⟩
   · obtain rfl := sJ H
     go_wp2
     go_ret
     exact ⟨kE, kR1 HB⟩
   replace ⟨c4b0, H⟩ := sE H
   replace ⟨c5b0, H⟩ := sE H
   replace ⟨t258, A6, H⟩ := sV H
   replace H := sT H; rcases H with ⟨rfl, H⟩ | ⟨rfl, H⟩
   ·
    obtain rfl := sJ H
    obtain ⟨p257, q257, ad257, e257, hx257_0⟩ := sI (Kd.aX C0.r x8_1)
    cases e257
    replace hx257_0 := kD HB hx257_0
    go_wp2_with (first | (go_at_call 87; (with_reducible refine (impl_allWithin_1.calls (rd l0 x8_1) g1_0 a1_0 g1_1 a1_1 true _ ?z1 ?z2 A6.out).mono ?_); (case z1 => exact kM BK48); (case z2 => exact kM BK49); rintro e w8 ⟨rfl, hb⟩; replace BK48 := zY BK48 hb; replace BK49 := zY BK49 hb; replace HB := zX HB hb; clear hb))
    go_ret
    exact ⟨kE, kR1 HB⟩
   have H' := yD H
   clear H
   obtain ⟨p257, q257, ad257, e257, hx257_0⟩ := sI (Kd.aX C0.r x8_1)
   cases e257
   replace hx257_0 := kD HB hx257_0
   go_wp2_with (first | (go_at_call 87; (with_reducible refine (impl_allWithin_1.calls (rd l0 x8_1) g1_0 a1_0 g1_1 a1_1 false _ ?z1 ?z2 A6.out).mono ?_); (case z1 => exact kM BK48); (case z2 => exact kM BK49); rintro e w9 ⟨rfl, hb⟩; replace BK48 := zY BK48 hb; replace BK49 := zY BK49 hb; replace HB := zX HB hb; clear hb))
   go_roundg k1
   case measure => have := HK1.out; omega
   case rel => exact ⟨(wrap64 (x8_1 + 1)), kF, H', ⟨by have := HK1.out; omega⟩, ⟨kM BK48⟩, ⟨kM BK49⟩, ⟨kR1 HB⟩⟩
def slices_ContainsFunc_impl_allWithin_1.f (k : Nat) (l0 : List Int) (a1_0 a1_1 : Int) : Option (Bool) := (aN.f k l0 a1_0 a1_1).bind fun t259 => (some (decide (t259 ≥ 0)))
theorem slices_ContainsFunc_impl_allWithin_1.calls (k : Nat) (A0 : Option Addr) (c0 : Nat) (l0 : List Int) (g1_0 : Nat) (g1_1 : Nat) (a1_0 : Int) (a1_1 : Int) (r : Bool) (w : World) (C0 : Cm (Kd.int .i64) w A0 c0 l0) (hb1_0 : w.heap[g1_0]? = some (.cells #[.int .i64 a1_0] 2 (0, 0))) (hb1_1 : w.heap[g1_1]? = some (.cells #[.int .i64 a1_1] 2 (0, 0))) (h : slices_ContainsFunc_impl_allWithin_1.f k l0 a1_0 a1_1 = some r) :
 Calls Try.prog 86 #[.slice A0 l0.length c0, .func (.func 87) #[] #[.pointer (some ⟨g1_0, 0, none⟩), .pointer (some ⟨g1_1, 0, none⟩)]] w fun e w' => e = .returned (.bool r) ∧ Below w.heap.size w w' := by
 have BK48 := yD hb1_0
 clear hb1_0
 have BK49 := yD hb1_1
 clear hb1_1
 have HB := yD (Below.refl w.heap.size w)
 unfold slices_ContainsFunc_impl_allWithin_1.f at h
 have H := h
 clear h
 replace ⟨t259, A3, H⟩ := sV H
 obtain rfl := sJ H; go_enter Try.func86, Try.ntmps86
 go_wp2_with (first | (refine gC 98 ?_; refine gL 7 Try.func98 _ (dn (aN.calls k _ _ l0 g1_0 g1_1 a1_0 a1_1 t259 _ ?z1 ?z3 ?z4 A3.out) fun w4 hb => ?_); (case z1 => exact ⟨(by repeat (first | exact C0.r | (with_reducible first | refine yV ?_ _ | refine yW ?_ _ | refine yX ?_))), C0.h⟩); (case z3 => exact kM BK48); (case z4 => exact kM BK49); replace BK48 := zY BK48 hb; replace BK49 := zY BK49 hb; replace HB := zX HB hb; clear hb))
 go_ret
 exact ⟨kE, kR1 HB⟩
def impl_allWithin.f (k : Nat) (l0 : List Int) (a1 a2 : Int) : Option (Bool) := (slices_ContainsFunc_impl_allWithin_1.f k l0 a1 a2).bind fun t262 => (some (!t262))
theorem impl_allWithin.calls (k : Nat) (A0 : Option Addr) (c0 : Nat) (l0 : List Int) (a1 : Int) (a2 : Int) (r : Bool) (w : World) (C0 : Cm (Kd.int .i64) w A0 c0 l0) (h : impl_allWithin.f k l0 a1 a2 = some r) :
 Calls Try.prog 66 #[.slice A0 l0.length c0, .int .i64 a1, .int .i64 a2] w fun e w' => e = .returned (.bool r) ∧ Below w.heap.size w w' := by
 have HB := yD (Below.refl w.heap.size w)
 unfold impl_allWithin.f at h
 have H := h
 clear h
 replace ⟨t262, A4, H⟩ := sV H
 obtain rfl := sJ H; go_enter Try.func66, Try.ntmps66
 go_wp2_with (first | (refine gD 4 ?_; refine bF (N := 4) (cs := #[.int .i64 a1]) (t := 2) HB ?_; intro gb260 w5 BK260 GW260 HB) | (refine gD 5 ?_; refine bE (N := 5) (cs := #[.int .i64 a2]) (t := 2) ?_; intro gb261 hg w6 hbox hb; have BK261 := yD (hbox); have GW261 := sW hg HB; replace HB := zX HB hb; have NB260_261 := yD ((by rw [hg]; exact Nat.ne_of_lt (cT (kN BK260)) : gb260 ≠ gb261)); have NB261_260 := yD ((by rw [hg]; exact Nat.ne_of_gt (cT (kN BK260)) : gb261 ≠ gb260)); replace BK260 := zY BK260 hb; clear hb hbox hg) | (refine gC 86 ?_; refine gL 9 Try.func86 _ (dn (slices_ContainsFunc_impl_allWithin_1.calls k _ _ l0 gb260 gb261 a1 a2 t262 _ (C0.b HB) ?z3 ?z4 A4.out) fun w7 hb => ?_); (case z3 => exact kM BK260); (case z4 => exact kM BK261); replace BK260 := zY BK260 hb; replace BK261 := zY BK261 hb; replace HB := zX HB hb; clear hb))
 go_ret
 exact ⟨kE, kR1 HB⟩
def impl_product.l0 : Nat → Int → List Int → Int → Int → Option (Int)
 | 0, _, _, _, _ => none
 | k + 1, x3, x6, x7, x8 => if x8 < x7 then (if 0 ≤ x8 then (if x8 < (x6.length : Int) then (impl_product.l0 k (wrap64 (x3 * (rd x6 x8))) x6 x7 (wrap64 (x8 + 1))) else (none)) else (none)) else (some x3)
def impl_product.f (k : Nat) (l0 : List Int) : Option (Int) := impl_product.l0 k 1 l0 (l0.length : Int) 0
theorem impl_product.calls (k : Nat) (A0 : Option Addr) (c0 : Nat) (l0 : List Int) (r : Int) (w : World) (C0 : Cm (Kd.int .i64) w A0 c0 l0) (h : impl_product.f k l0 = some r) :
 Calls Try.prog 46 #[.slice A0 l0.length c0] w fun e w' => e = .returned (.int .i64 r) ∧ aT w w' := by
 unfold impl_product.f at h
 have H := h
 clear h
 have H' := yD H
 clear H; go_enter Try.func46, Try.ntmps46
 go_wp2
 go_loopg [3, 8] k (fun kq v3 v8 w' => ∃ (x3_1 : Int) (x8_1 : Int), v3 = .int .i64 x3_1 ∧ v8 = .int .i64 x8_1 ∧ aC (impl_product.l0 kq x3_1 l0 (l0.length : Int) x8_1 = some r) ∧ aC (kq ≤ k) ∧ aT w w')
 case atStart => exact ⟨(1), (0), kF, kF, H', ⟨Nat.le_refl _⟩, by repeat (first | exact aT.refl _ | apply aT.step)⟩
 case round =>
  clear H'
  obtain ⟨x3_1, x8_1, rfl, rfl, HA, HK1, ⟨m1, rfl⟩⟩ := hrel
  cases gk with
  | zero => exact absurd HA.out (by simp [impl_product.l0])
  | succ k1 =>
   have H := HA.out; clear HA
   simp only [impl_product.l0] at H
   replace H := sG H; rcases H with ⟨c2b0, H⟩ | ⟨c2b0, H⟩
   · obtain rfl := sJ H
     go_wp2
     go_ret
     exact ⟨by first | rfl | (simp; done) | (simp [*]; done), by repeat (first | exact aT.refl _ | apply aT.step)⟩
   replace ⟨c3b0, H⟩ := sE H
   replace ⟨c4b0, H⟩ := sE H
   have H' := yD H
   clear H
   obtain ⟨p263, q263, ad263, e263, hx263_0⟩ := sI (Kd.aX C0.r x8_1)
   cases e263
   go_wp2
   go_roundg k1
   case measure => have := HK1.out; omega
   case rel => exact ⟨(wrap64 (x3_1 * (rd l0 x8_1))), (wrap64 (x8_1 + 1)), kF, kF, H', ⟨by have := HK1.out; omega⟩, by repeat (first | exact aT.refl _ | apply aT.step)⟩
def impl_ValidDims.f (k : Nat) (l0 : List Int) : Option (Bool) := if (l0.length : Int) ≤ 3 then ((impl_allWithin.f k l0 0 40).bind fun t264 => (if t264 = true then ((impl_product.f k l0).bind fun t265 => (some (decide (t265 ≤ 600)))) else (some false))) else (some false)
theorem impl_ValidDims.calls (k : Nat) (A0 : Option Addr) (c0 : Nat) (l0 : List Int) (r : Bool) (w : World) (C0 : Cm (Kd.int .i64) w A0 c0 l0) (h : impl_ValidDims.f k l0 = some r) :
 Calls Try.prog 43 #[.slice A0 l0.length c0] w fun e w' => e = .returned (.bool r) ∧ Below w.heap.size w w' := by
 have HB := yD (Below.refl w.heap.size w)
 unfold impl_ValidDims.f at h
 have H := h
 clear h
 replace H := sC H; rcases H with ⟨c2, H⟩ | ⟨c2, H⟩
 ·
  have c2b0 : decide ((l0.length : Int) ≤ 3) = false := zS c2
  have c2b1 : decide (l0.length ≤ 3) = false := zS (by omega)
  clear c2; obtain rfl := sJ H; go_enter Try.func43, Try.ntmps43
  go_wp2
  go_ret
  exact ⟨kE, kR0 HB⟩
 have c2b0 : decide ((l0.length : Int) ≤ 3) = true := zR c2
 have c2b1 : decide (l0.length ≤ 3) = true := zR (by omega)
 clear c2
 replace ⟨t264, A3, H⟩ := sV H
 replace H := sS H; rcases H with ⟨rfl, H⟩ | ⟨rfl, H⟩
 ·
  obtain rfl := sJ H; go_enter Try.func43, Try.ntmps43
  go_wp2_with (first | (go_at_call 66; (with_reducible refine (impl_allWithin.calls k _ _ l0 0 40 false _ ?z1 A3.out).mono ?_); (case z1 => exact ⟨(by repeat (first | exact C0.r | (with_reducible first | refine yV ?_ _ | refine yW ?_ _ | refine yX ?_))), C0.h⟩); rintro e w7 ⟨rfl, hb⟩; replace HB := zX HB hb; clear hb))
  go_ret
  exact ⟨kE, kR0 HB⟩
 replace ⟨t265, A5, H⟩ := sV H
 obtain rfl := sJ H; go_enter Try.func43, Try.ntmps43
 go_wp2_with (first | (go_at_call 66; (with_reducible refine (impl_allWithin.calls k _ _ l0 0 40 true _ ?z1 A3.out).mono ?_); (case z1 => exact ⟨(by repeat (first | exact C0.r | (with_reducible first | refine yV ?_ _ | refine yW ?_ _ | refine yX ?_))), C0.h⟩); rintro e w6 ⟨rfl, hb⟩; replace HB := zX HB hb; clear hb) | (go_at_call 46; (with_reducible refine (impl_product.calls k _ _ l0 t265 _ (C0.b HB) A5.out).mono ?_); rintro e w' ⟨rfl, ⟨nd, rfl⟩⟩))
 go_ret
 exact ⟨kE, kR0 HB⟩
def impl_Selection_lists.f (a0_0 : Int) (l0_1 l0_2 : List Int) (l0_3 l0_4 : List Int) (l0_5 : List (S68)) : Option ((List (List Int))) := some (([l0_1, l0_2, l0_3, l0_4] : List (List Int)))
theorem impl_Selection_lists.calls (a0_0 : Int) (P0_1_ : Nat → Prop) (A0_1 : Option Addr) (c0_1 : Nat) (l0_1 : List Int) (P0_2_ : Nat → Prop) (A0_2 : Option Addr) (c0_2 : Nat) (l0_2 : List Int) (P0_3_ : Nat → Prop) (A0_3 : Option Addr) (c0_3 : Nat) (l0_3 : List Int) (P0_4_ : Nat → Prop) (A0_4 : Option Addr) (c0_4 : Nat) (l0_4 : List Int) (A0_5 : Option Addr) (c0_5 : Nat) (l0_5 : List (S68)) (r : List (List Int)) (w : World) (hs0_1 : Kd.V (Kd.int .i64) 2 w w.heap.size (fun k_ => P0_1_ k_) (.slice A0_1 l0_1.length c0_1) l0_1) (hs0_2 : Kd.V (Kd.int .i64) 2 w w.heap.size (fun k_ => P0_2_ k_) (.slice A0_2 l0_2.length c0_2) l0_2) (hs0_3 : Kd.V (Kd.int .i64) 2 w w.heap.size (fun k_ => P0_3_ k_) (.slice A0_3 l0_3.length c0_3) l0_3) (hs0_4 : Kd.V (Kd.int .i64) 2 w w.heap.size (fun k_ => P0_4_ k_) (.slice A0_4 l0_4.length c0_4) l0_4) (C0_5 : Cm k68 w A0_5 c0_5 l0_5) (h : impl_Selection_lists.f a0_0 l0_1 l0_2 l0_3 l0_4 l0_5 = some r) :
 Calls Try.prog 89 #[.agg #[.int .i64 a0_0, .slice A0_1 l0_1.length c0_1, .slice A0_2 l0_2.length c0_2, .slice A0_3 l0_3.length c0_3, .slice A0_4 l0_4.length c0_4, .slice A0_5 l0_5.length c0_5]] w fun e w' => ∃ v0_ : Value, e = .returned (v0_) ∧ Kd.N (Kd.slice 2 (Kd.int .i64)) 23 w' w.heap.size (fun k_ => ((P0_1_ k_ ∨ P0_2_ k_ ∨ P0_3_ k_ ∨ P0_4_ k_) ∨ w.heap.size ≤ k_)) v0_ r ∧ Below w.heap.size w w' := by
 have hu26 := Try.underlying26
 have HO0_1 := yD (show Kd.V (Kd.int .i64) 2 w w.heap.size (fun k_ => ((P0_1_ k_ ∨ P0_2_ k_ ∨ P0_3_ k_ ∨ P0_4_ k_) ∨ w.heap.size ≤ k_)) (.slice A0_1 l0_1.length c0_1) l0_1 from Kd.V_mono hs0_1 (fun k_ hk => .inl (.inl hk)))
 have HO0_2 := yD (show Kd.V (Kd.int .i64) 2 w w.heap.size (fun k_ => ((P0_1_ k_ ∨ P0_2_ k_ ∨ P0_3_ k_ ∨ P0_4_ k_) ∨ w.heap.size ≤ k_)) (.slice A0_2 l0_2.length c0_2) l0_2 from Kd.V_mono hs0_2 (fun k_ hk => .inl (.inr (.inl hk))))
 have HO0_3 := yD (show Kd.V (Kd.int .i64) 2 w w.heap.size (fun k_ => ((P0_1_ k_ ∨ P0_2_ k_ ∨ P0_3_ k_ ∨ P0_4_ k_) ∨ w.heap.size ≤ k_)) (.slice A0_3 l0_3.length c0_3) l0_3 from Kd.V_mono hs0_3 (fun k_ hk => .inl (.inr (.inr (.inl hk)))))
 have HO0_4 := yD (show Kd.V (Kd.int .i64) 2 w w.heap.size (fun k_ => ((P0_1_ k_ ∨ P0_2_ k_ ∨ P0_3_ k_ ∨ P0_4_ k_) ∨ w.heap.size ≤ k_)) (.slice A0_4 l0_4.length c0_4) l0_4 from Kd.V_mono hs0_4 (fun k_ hk => .inl (.inr (.inr (.inr hk)))))
 have HB := yD (Below.refl w.heap.size w)
 unfold impl_Selection_lists.f at h
 have H := h
 clear h
 obtain ⟨y267, hy267⟩ : ∃ y_ : List (List Int), y_ = (([l0_1, l0_2, l0_3, l0_4] : List (List Int))) := ⟨_, rfl⟩
 replace H : (some y267) = some r := by first | (rw [hy267]; with_reducible exact H) | (have H2_ := (Option.bind_some _ _).symm.trans H; rw [hy267]; with_reducible exact H2_) | (have H2_ := (Option.bind_some _ _).symm.trans H; with_reducible exact H2_) | with_reducible exact H | (rw [hy267]; exact H) | exact H
 have Ny267 := yD hy267
 clear hy267; obtain rfl := sJ H; go_enter Try.func89, Try.ntmps89
 go_wp2_with (first | (refine gD 1 ?_; refine bE (N := 1) (cs := #[.int .i64 a0_0, .slice A0_1 l0_1.length c0_1, .slice A0_2 l0_2.length c0_2, .slice A0_3 l0_3.length c0_3, .slice A0_4 l0_4.length c0_4, .slice A0_5 l0_5.length c0_5]) (t := 26) ?_; intro gb266 hg w2 hbox hb; replace HO0_1 := yD (Kd.V_below (Kd.V_elderB (kU HO0_1) gb266 (Nat.le_of_eq hg.symm)) hb); replace HO0_2 := yD (Kd.V_below (Kd.V_elderB (kU HO0_2) gb266 (Nat.le_of_eq hg.symm)) hb); replace HO0_3 := yD (Kd.V_below (Kd.V_elderB (kU HO0_3) gb266 (Nat.le_of_eq hg.symm)) hb); replace HO0_4 := yD (Kd.V_below (Kd.V_elderB (kU HO0_4) gb266 (Nat.le_of_eq hg.symm)) hb); have BK266 := yD (hbox); have GW266 := sW hg HB; replace HB := zX HB hb; clear hb hbox hg; have := cf6_ BK266.out) | (refine gD 11 ?_; refine Kd.N_lit (Kd.slice 2 (Kd.int .i64)) _ 23 ?hg (N' := 11) ?hd (xs := ([l0_1, l0_2, l0_3, l0_4] : List (List Int))) (inner := [.slice A0_1 l0_1.length c0_1, .slice A0_2 l0_2.length c0_2, .slice A0_3 l0_3.length c0_3, .slice A0_4 l0_4.length c0_4]) (ok := (fun k_ => ((P0_1_ k_ ∨ P0_2_ k_ ∨ P0_3_ k_ ∨ P0_4_ k_) ∨ w.heap.size ≤ k_) ∧ k_ ≠ gb266)) (okp := (fun k_ => ((P0_1_ k_ ∨ P0_2_ k_ ∨ P0_3_ k_ ∨ P0_4_ k_) ∨ w.heap.size ≤ k_) ∧ k_ ≠ gb266)) ?hr ?hp (fun _ hk => hk) ((show ∀ k_, w2.heap.size ≤ k_ → (fun k_ => ((P0_1_ k_ ∨ P0_2_ k_ ∨ P0_3_ k_ ∨ P0_4_ k_) ∨ w.heap.size ≤ k_) ∧ k_ ≠ gb266) k_ from fun k_ hk => ⟨(.inr (Nat.le_trans (aD (kB HB)) hk)), Kd.freshB (g := gb266) (o := .cells #[.int .i64 a0_0, .slice A0_1 l0_1.length c0_1, .slice A0_2 l0_2.length c0_2, .slice A0_3 l0_3.length c0_3, .slice A0_4 l0_4.length c0_4, .slice A0_5 l0_5.length c0_5] 26 (0, 0)) (kM BK266) k_ hk⟩) _ (Nat.le_refl _)) (Below.refl _ _) (Nat.le_refl _) (by simp) ?_; (case hd => rfl); (case hg => rfl); (case hr => first | (go_simp; done) | (go_simp; rfl)); (case hp => exact (cW.one (show Kd.FK (Kd.slice 2 (Kd.int .i64)) _ _ l0_1 [.slice A0_1 l0_1.length c0_1] from (Kd.FK_slice_mk (Kd.cV (Kd.V_mono (ok' := (fun k_ => ((P0_1_ k_ ∨ P0_2_ k_ ∨ P0_3_ k_ ∨ P0_4_ k_) ∨ w.heap.size ≤ k_) ∧ k_ ≠ gb266)) (HO0_1.out) (fun k_ hk => ⟨hk.1, hk.2⟩))).2.1 (Kd.V_F (Kd.V_mono (ok' := (fun k_ => ((P0_1_ k_ ∨ P0_2_ k_ ∨ P0_3_ k_ ∨ P0_4_ k_) ∨ w.heap.size ≤ k_) ∧ k_ ≠ gb266)) (HO0_1.out) (fun k_ hk => ⟨hk.1, hk.2⟩))))) (cW.one (show Kd.FK (Kd.slice 2 (Kd.int .i64)) _ _ l0_2 [.slice A0_2 l0_2.length c0_2] from (Kd.FK_slice_mk (Kd.cV (Kd.V_mono (ok' := (fun k_ => ((P0_1_ k_ ∨ P0_2_ k_ ∨ P0_3_ k_ ∨ P0_4_ k_) ∨ w.heap.size ≤ k_) ∧ k_ ≠ gb266)) (HO0_2.out) (fun k_ hk => ⟨hk.1, hk.2⟩))).2.1 (Kd.V_F (Kd.V_mono (ok' := (fun k_ => ((P0_1_ k_ ∨ P0_2_ k_ ∨ P0_3_ k_ ∨ P0_4_ k_) ∨ w.heap.size ≤ k_) ∧ k_ ≠ gb266)) (HO0_2.out) (fun k_ hk => ⟨hk.1, hk.2⟩))))) (cW.one (show Kd.FK (Kd.slice 2 (Kd.int .i64)) _ _ l0_3 [.slice A0_3 l0_3.length c0_3] from (Kd.FK_slice_mk (Kd.cV (Kd.V_mono (ok' := (fun k_ => ((P0_1_ k_ ∨ P0_2_ k_ ∨ P0_3_ k_ ∨ P0_4_ k_) ∨ w.heap.size ≤ k_) ∧ k_ ≠ gb266)) (HO0_3.out) (fun k_ hk => ⟨hk.1, hk.2⟩))).2.1 (Kd.V_F (Kd.V_mono (ok' := (fun k_ => ((P0_1_ k_ ∨ P0_2_ k_ ∨ P0_3_ k_ ∨ P0_4_ k_) ∨ w.heap.size ≤ k_) ∧ k_ ≠ gb266)) (HO0_3.out) (fun k_ hk => ⟨hk.1, hk.2⟩))))) (cW.one (show Kd.FK (Kd.slice 2 (Kd.int .i64)) _ _ l0_4 [.slice A0_4 l0_4.length c0_4] from (Kd.FK_slice_mk (Kd.cV (Kd.V_mono (ok' := (fun k_ => ((P0_1_ k_ ∨ P0_2_ k_ ∨ P0_3_ k_ ∨ P0_4_ k_) ∨ w.heap.size ≤ k_) ∧ k_ ≠ gb266)) (HO0_4.out) (fun k_ hk => ⟨hk.1, hk.2⟩))).2.1 (Kd.V_F (Kd.V_mono (ok' := (fun k_ => ((P0_1_ k_ ∨ P0_2_ k_ ∨ P0_3_ k_ ∨ P0_4_ k_) ∨ w.heap.size ≤ k_) ∧ k_ ≠ gb266)) (HO0_4.out) (fun k_ hk => ⟨hk.1, hk.2⟩))))) (cW.none _ _)))))); intro v268 w4 ho5 hb hg_ hnew_; clear hg_ hnew_; (first | rw [← Ny267.out] at ho5 | (simp only [Int.reduceToNat] at ho5; rw [← Ny267.out] at ho5)); replace HO0_1 := yD (Kd.bR (kU HO0_1) (Kd.N_base ho5) hb); replace HO0_2 := yD (Kd.bR (kU HO0_2) (Kd.N_base ho5) hb); replace HO0_3 := yD (Kd.bR (kU HO0_3) (Kd.N_base ho5) hb); replace HO0_4 := yD (Kd.bR (kU HO0_4) (Kd.N_base ho5) hb); have HO269 := yD (Kd.N_lower ho5 (aD (kB HB))); replace BK266 := zY BK266 hb; replace HB := zX HB hb; clear hb ho5))
 go_ret
 exact ⟨_, kE, mN HO269 (fun _ hk => hk.1), kR1 HB⟩
def bG.l0 : Nat → List Int → List Int → Int → Int → Option (Bool)
 | 0, _, _, _, _ => none
 | k + 1, x0, x1, x12, x13 => if x13 < x12 then (if 0 ≤ x13 then (if x13 < (x0.length : Int) then (if x13 < (x1.length : Int) then (if (rd x0 x13) = (rd x1 x13) then (bG.l0 k x0 x1 x12 (wrap64 (x13 + 1))) else (some false)) else (none)) else (none)) else (none)) else (some true)
def bG.f (k : Nat) (l0 l1 : List Int) : Option (Bool) := if (l0.length : Int) = (l1.length : Int) then (bG.l0 k l0 l1 (l0.length : Int) 0) else (some false)
theorem bG.calls (k : Nat) (A0 : Option Addr) (c0 : Nat) (l0 : List Int) (A1 : Option Addr) (c1 : Nat) (l1 : List Int) (r : Bool) (w : World) (C0 : Cm (Kd.int .i64) w A0 c0 l0) (C1 : Cm (Kd.int .i64) w A1 c1 l1) (h : bG.f k l0 l1 = some r) :
 Calls Try.prog 90 #[.slice A0 l0.length c0, .slice A1 l1.length c1] w fun e w' => e = .returned (.bool r) ∧ aT w w' := by
 unfold bG.f at h
 have H := h
 clear h
 replace H := sP H; rcases H with ⟨c3, c3b0, c3b1, H⟩ | ⟨c3, c3b0, c3b1, H⟩
 ·
  have c3b2 : (l0.length == l1.length) = false := by first | simpa using c3 | (simp at c3 ⊢; omega)
  obtain rfl := sJ H; go_enter Try.func90, Try.ntmps90
  go_wp2
  repeat (go_quiet (fail); try go_wp2)
  go_ret
  exact ⟨by first | rfl | (simp; done) | (simp [*]; done), by repeat (first | exact aT.refl _ | apply aT.step)⟩
 have c3b2 : (l0.length == l1.length) = true := by first | simpa using c3 | (simp at c3 ⊢; omega)
 clear c3
 have H' := yD H
 clear H; go_enter Try.func90, Try.ntmps90
 go_wp2
 repeat (go_quiet (fail); try go_wp2)
 go_loopg [13] k (fun kq v13 w' => ∃ (x13_1 : Int), v13 = .int .i64 x13_1 ∧ aC (bG.l0 kq l0 l1 (l0.length : Int) x13_1 = some r) ∧ aC (kq ≤ k) ∧ aT w w')
 case atStart => exact ⟨(0), kF, H', ⟨Nat.le_refl _⟩, by repeat (first | exact aT.refl _ | apply aT.step)⟩
 case round =>
  clear H'
  obtain ⟨x13_1, rfl, HA, HK1, ⟨m1, rfl⟩⟩ := hrel
  cases gk with
  | zero => exact absurd HA.out (by simp [bG.l0])
  | succ k1 =>
   have H := HA.out; clear HA
   simp only [bG.l0] at H
   replace H := sG H; rcases H with ⟨c4b0, H⟩ | ⟨c4b0, H⟩
   ·
    obtain rfl := sJ H
    go_wp2
    repeat (go_quiet (fail); try go_wp2)
    go_ret
    exact ⟨by first | rfl | (simp; done) | (simp [*]; done), by repeat (first | exact aT.refl _ | apply aT.step)⟩
   replace ⟨c5b0, H⟩ := sE H
   replace ⟨c6b0, H⟩ := sE H
   replace ⟨c7b0, H⟩ := sE H
   replace H := sP H; rcases H with ⟨c8, c8b0, c8b1, H⟩ | ⟨-, c8b0, c8b1, H⟩
   ·
    obtain rfl := sJ H
    obtain ⟨p270, q270, ad270, e270, hx270_0⟩ := sI (Kd.aX C0.r x13_1)
    cases e270
    obtain ⟨p271, q271, ad271, e271, hx271_0⟩ := sI (Kd.aX C1.r x13_1)
    cases e271
    go_wp2
    repeat (go_quiet (fail); try go_wp2)
    go_ret
    exact ⟨by first | rfl | (simp; done) | (simp [*]; done), by repeat (first | exact aT.refl _ | apply aT.step)⟩
   have H' := yD H
   clear H
   obtain ⟨p270, q270, ad270, e270, hx270_0⟩ := sI (Kd.aX C0.r x13_1)
   cases e270
   obtain ⟨p271, q271, ad271, e271, hx271_0⟩ := sI (Kd.aX C1.r x13_1)
   cases e271
   go_wp2
   repeat (go_quiet (fail); try go_wp2)
   go_roundg k1
   case measure => have := HK1.out; omega
   case rel => exact ⟨(wrap64 (x13_1 + 1)), kF, H', ⟨by have := HK1.out; omega⟩, by repeat (first | exact aT.refl _ | apply aT.step)⟩
def aV.l0 : Nat → List (List Int) → List (List Int) → Int → Int → Option (Bool)
 | 0, _, _, _, _ => none
 | k + 1, x1, x15, x16, x17 => if x17 < x16 then (if 0 ≤ x17 then (if x17 < (x15.length : Int) then (if x17 < (x1.length : Int) then ((bG.f k (rd_L2 x15 x17) (rd_L2 x1 x17)).bind fun t274 => (if t274 = true then (aV.l0 k x1 x15 x16 (wrap64 (x17 + 1))) else (some false))) else (none)) else (none)) else (none)) else (some true)
def aV.f (k : Nat) (l0 l1 : List (List Int))  : Option (Bool) := if (l0.length : Int) = (l1.length : Int) then (aV.l0 k l1 l0 (l0.length : Int) 0) else (some false)
theorem aV.calls (k : Nat) (A0 : Option Addr) (c0 : Nat) (l0 : List (List Int)) (A1 : Option Addr) (c1 : Nat) (l1 : List (List Int))  (r : Bool) (w : World) (C0 : Cm (Kd.slice 2 (Kd.int .i64)) w A0 c0 l0) (C1 : Cm (Kd.slice 2 (Kd.int .i64)) w A1 c1 l1) (h : aV.f k l0 l1 = some r) :
 Calls Try.prog 88 #[.slice A0 l0.length c0, .slice A1 l1.length c1, .func (.func 90) #[] #[]] w fun e w' => e = .returned (.bool r) ∧ Below w.heap.size w w' := by
 have HB := yD (Below.refl w.heap.size w)
 unfold aV.f at h
 have H := h
 clear h
 replace H := sP H; rcases H with ⟨c4, c4b0, c4b1, H⟩ | ⟨c4, c4b0, c4b1, H⟩
 ·
  have c4b2 : (l0.length == l1.length) = false := by first | simpa using c4 | (simp at c4 ⊢; omega)
  obtain rfl := sJ H; go_enter Try.func88, Try.ntmps88
  go_wp2
  go_ret
  exact ⟨kE, kR0 HB⟩
 have c4b2 : (l0.length == l1.length) = true := by first | simpa using c4 | (simp at c4 ⊢; omega)
 clear c4
 have H' := yD H
 clear H; go_enter Try.func88, Try.ntmps88
 go_wp2
 go_loopg [17] k (fun kq v17 w' => ∃ (x17_1 : Int), v17 = .int .i64 x17_1 ∧ aC (aV.l0 kq l1 l0 (l0.length : Int) x17_1 = some r) ∧ aC (kq ≤ k) ∧ aC (Below w.heap.size w w'))
 case atStart => exact ⟨(0), kF, H', ⟨Nat.le_refl _⟩, ⟨kR0 HB⟩⟩
 case round =>
  clear H'
  obtain ⟨x17_1, rfl, HA, HK1, HB⟩ := hrel
  cases gk with
  | zero => exact absurd HA.out (by simp [aV.l0])
  | succ k1 =>
   have H := HA.out; clear HA
   simp only [aV.l0] at H
   replace H := sG H; rcases H with ⟨c5b0, H⟩ | ⟨c5b0, H⟩
   · obtain rfl := sJ H
     go_wp2
     go_ret
     exact ⟨kE, kR0 HB⟩
   replace ⟨c6b0, H⟩ := sE H
   replace ⟨c7b0, H⟩ := sE H
   replace ⟨c8b0, H⟩ := sE H
   replace ⟨t274, A9, H⟩ := sV H
   replace H := sS H; rcases H with ⟨rfl, H⟩ | ⟨rfl, H⟩
   ·
    obtain rfl := sJ H
    obtain ⟨p272, q272, ad272, A272_0, c272_0, e272, hx272_0, HC272_0, HR272_0⟩ := sI (at_L2 C0.r x17_1)
    cases e272
    replace hx272_0 := kD HB hx272_0
    obtain ⟨p273, q273, ad273, A273_0, c273_0, e273, hx273_0, HC273_0, HR273_0⟩ := sI (at_L2 C1.r x17_1)
    cases e273
    replace hx273_0 := kD HB hx273_0
    go_wp2_with (first | (go_at_call 90; (with_reducible refine (bG.calls k1 _ _ (rd_L2 l0 x17_1) _ _ (rd_L2 l1 x17_1) false _ (cB HR272_0 HC272_0 HB) (cB HR273_0 HC273_0 HB) A9.out).mono ?_); rintro e w' ⟨rfl, ⟨nd, rfl⟩⟩))
    go_ret
    exact ⟨kE, kR0 HB⟩
   have H' := yD H
   clear H
   obtain ⟨p272, q272, ad272, A272_0, c272_0, e272, hx272_0, HC272_0, HR272_0⟩ := sI (at_L2 C0.r x17_1)
   cases e272
   replace hx272_0 := kD HB hx272_0
   obtain ⟨p273, q273, ad273, A273_0, c273_0, e273, hx273_0, HC273_0, HR273_0⟩ := sI (at_L2 C1.r x17_1)
   cases e273
   replace hx273_0 := kD HB hx273_0
   go_wp2_with (first | (go_at_call 90; (with_reducible refine (bG.calls k1 _ _ (rd_L2 l0 x17_1) _ _ (rd_L2 l1 x17_1) true _ (cB HR272_0 HC272_0 HB) (cB HR273_0 HC273_0 HB) A9.out).mono ?_); rintro e w' ⟨rfl, ⟨nd, rfl⟩⟩))
   go_roundg k1
   case measure => have := HK1.out; omega
   case rel => exact ⟨(wrap64 (x17_1 + 1)), kF, H', ⟨by have := HK1.out; omega⟩, ⟨kR0 HB⟩⟩
def impl_samePoint.f (k : Nat) (l0_0 l1_0 : List Int) : Option (Bool) := (bG.f k l0_0 l1_0).bind fun t277 => (some t277)
theorem impl_samePoint.calls (k : Nat) (A0_0 : Option Addr) (c0_0 : Nat) (l0_0 : List Int) (A1_0 : Option Addr) (c1_0 : Nat) (l1_0 : List Int) (r : Bool) (w : World) (C0_0 : Cm (Kd.int .i64) w A0_0 c0_0 l0_0) (C1_0 : Cm (Kd.int .i64) w A1_0 c1_0 l1_0) (h : impl_samePoint.f k l0_0 l1_0 = some r) :
 Calls Try.prog 92 #[.agg #[.slice A0_0 l0_0.length c0_0], .agg #[.slice A1_0 l1_0.length c1_0]] w fun e w' => e = .returned (.bool r) ∧ Below w.heap.size w w' := by
 have hu68 := Try.underlying68
 have HB := yD (Below.refl w.heap.size w)
 unfold impl_samePoint.f at h
 have H := h
 clear h
 replace ⟨t277, A3, H⟩ := sV H
 obtain rfl := sJ H; go_enter Try.func92, Try.ntmps92
 go_wp2_with (first | (refine gD 2 ?_; refine bF (N := 2) (cs := #[.slice A0_0 l0_0.length c0_0]) (t := 68) HB ?_; intro gb275 w4 BK275 GW275 HB) | (refine gD 3 ?_; refine bE (N := 3) (cs := #[.slice A1_0 l1_0.length c1_0]) (t := 68) ?_; intro gb276 hg w5 hbox hb; have BK276 := yD (hbox); have GW276 := sW hg HB; replace HB := zX HB hb; have NB275_276 := yD ((by rw [hg]; exact Nat.ne_of_lt (cT (kN BK275)) : gb275 ≠ gb276)); have NB276_275 := yD ((by rw [hg]; exact Nat.ne_of_gt (cT (kN BK275)) : gb276 ≠ gb275)); replace BK275 := zY BK275 hb; clear hb hbox hg; have hnb6 := NB275_276.out; have hnc6 := NB276_275.out; have hcz7_0 : w5.cell? ⟨gb275, 0, none⟩ = some (.slice A0_0 l0_0.length c0_0) := (yG BK275.out 0).trans rfl; have hfz7_0 := yR BK275.out 0; have hcz8_0 : w5.cell? ⟨gb276, 0, none⟩ = some (.slice A1_0 l1_0.length c1_0) := (yG BK276.out 0).trans rfl; have hfz8_0 := yR BK276.out 0) | (refine gC 90 ?_; refine gL 9 Try.func90 _ (dm (bG.calls k _ _ l0_0 _ _ l1_0 t277 _ (C0_0.b HB) (C1_0.b HB) A3.out) fun nd => ?_)))
 go_ret
 exact ⟨kE, kR1 HB⟩
def bH.l0 : Nat → List (S68) → List (S68) → Int → Int → Option (Bool)
 | 0, _, _, _, _ => none
 | k + 1, x1, x15, x16, x17 => if x17 < x16 then (if 0 ≤ x17 then (if x17 < (x15.length : Int) then (if x17 < (x1.length : Int) then ((impl_samePoint.f k ((bU x15 x17).f0) ((bU x1 x17).f0)).bind fun t282 => (if t282 = true then (bH.l0 k x1 x15 x16 (wrap64 (x17 + 1))) else (some false))) else (none)) else (none)) else (none)) else (some true)
def bH.f (k : Nat) (l0 l1 : List (S68))  : Option (Bool) := if (l0.length : Int) = (l1.length : Int) then (bH.l0 k l1 l0 (l0.length : Int) 0) else (some false)
theorem bH.calls (k : Nat) (A0 : Option Addr) (c0 : Nat) (l0 : List (S68)) (A1 : Option Addr) (c1 : Nat) (l1 : List (S68))  (r : Bool) (w : World) (C0 : Cm k68 w A0 c0 l0) (C1 : Cm k68 w A1 c1 l1) (h : bH.f k l0 l1 = some r) :
 Calls Try.prog 91 #[.slice A0 l0.length c0, .slice A1 l1.length c1, .func (.func 92) #[] #[]] w fun e w' => e = .returned (.bool r) ∧ Below w.heap.size w w' := by
 have hu68 := Try.underlying68
 have HB := yD (Below.refl w.heap.size w)
 unfold bH.f at h
 have H := h
 clear h
 replace H := sP H; rcases H with ⟨c4, c4b0, c4b1, H⟩ | ⟨c4, c4b0, c4b1, H⟩
 ·
  have c4b2 : (l0.length == l1.length) = false := by first | simpa using c4 | (simp at c4 ⊢; omega)
  obtain rfl := sJ H; go_enter Try.func91, Try.ntmps91
  go_wp2
  go_ret
  exact ⟨kE, kR0 HB⟩
 have c4b2 : (l0.length == l1.length) = true := by first | simpa using c4 | (simp at c4 ⊢; omega)
 clear c4
 have H' := yD H
 clear H; go_enter Try.func91, Try.ntmps91
 go_wp2
 go_loopg [17] k (fun kq v17 w' => ∃ (x17_1 : Int), v17 = .int .i64 x17_1 ∧ aC (bH.l0 kq l1 l0 (l0.length : Int) x17_1 = some r) ∧ aC (kq ≤ k) ∧ aC (Below w.heap.size w w'))
 case atStart => exact ⟨(0), kF, H', ⟨Nat.le_refl _⟩, ⟨kR0 HB⟩⟩
 case round =>
  clear H'
  obtain ⟨x17_1, rfl, HA, HK1, HB⟩ := hrel
  cases gk with
  | zero => exact absurd HA.out (by simp [bH.l0])
  | succ k1 =>
   have H := HA.out; clear HA
   simp only [bH.l0] at H
   replace H := sG H; rcases H with ⟨c5b0, H⟩ | ⟨c5b0, H⟩
   · obtain rfl := sJ H
     go_wp2
     go_ret
     exact ⟨kE, kR0 HB⟩
   replace ⟨c6b0, H⟩ := sE H
   replace ⟨c7b0, H⟩ := sE H
   replace ⟨c8b0, H⟩ := sE H
   replace ⟨t282, A9, H⟩ := sV H
   replace H := sS H; rcases H with ⟨rfl, H⟩ | ⟨rfl, H⟩
   ·
    obtain rfl := sJ H
    obtain ⟨p278, q278, ad278, A278_0, c278_0, e278, hx278_0, HC278_0, HR278_0⟩ := sI (at_T68 C0.r x17_1)
    cases e278
    replace hx278_0 := kD HB hx278_0
    go_wp2_with (first | (refine gD 8 ?_; refine bF (N := 8) (cs := #[.slice none 0 0]) (t := 68) HB ?_; intro gb279 w18 BK279 GW279 HB; have hcz19_0 : w18.cell? ⟨gb279, 0, none⟩ = some (.slice none 0 0) := (yG BK279.out 0).trans rfl; have hfz19_0 := yR BK279.out 0; have p280 : 0 ≤ (x17_1 : Int) := zP (by assumption); have q280 : x17_1 < (l1.length : Int) := zP (by assumption); obtain ⟨ad280, A280_0, c280_0, e280, hx280_0, HC280_0, HR280_0⟩ := at_T68 C1.r x17_1 p280 q280; cases e280; have hn280_0 : ad280.block ≠ gb279 := Nat.ne_of_lt (Nat.lt_of_lt_of_le (by have := zQ _ _ hx280_0; first | rwa [add_block] at this | exact this) GW279.out); replace hx280_0 := kD HB hx280_0; replace hx280_0 := (cell_far (p := ⟨gb279, 0, none⟩) (by first | (rw [add_block]; exact hn280_0) | (show (Addr.add _ _).block ≠ _; rw [add_block]; exact hn280_0) | exact hn280_0) (.slice A278_0 ((bU l0 x17_1).f0).length c278_0)).trans hx280_0; clear hn280_0; replace p280 := eq_true p280; replace q280 := eq_true q280) | (refine gD 9 ?_; refine bE (N := 9) (cs := #[.slice none 0 0]) (t := 68) ?_; intro gb281 hg w20 hbox hb; have BK281 := yD (hbox); have GW281 := sW hg HB; replace HB := zX HB hb; have NB279_281 := yD ((by rw [hg]; exact Nat.ne_of_lt (cT (g := gb279) (o := .cells #[.slice A278_0 ((bU l0 x17_1).f0).length c278_0] 68 (0, 0)) (by (with_reducible repeat (first | refine yM ?_ _ | refine yO ?_ | refine yN ?_ _)); refine blk_put (cs := #[.slice none 0 0]) ?_ 0 _ rfl; (with_reducible repeat (first | refine yM ?_ _ | refine yO ?_ | refine yN ?_ _)); exact BK279.out)) : gb279 ≠ gb281)); have NB281_279 := yD ((by rw [hg]; exact Nat.ne_of_gt (cT (g := gb279) (o := .cells #[.slice A278_0 ((bU l0 x17_1).f0).length c278_0] 68 (0, 0)) (by (with_reducible repeat (first | refine yM ?_ _ | refine yO ?_ | refine yN ?_ _)); refine blk_put (cs := #[.slice none 0 0]) ?_ 0 _ rfl; (with_reducible repeat (first | refine yM ?_ _ | refine yO ?_ | refine yN ?_ _)); exact BK279.out)) : gb281 ≠ gb279)); replace BK279 := yD (zB (g := gb279) (o := .cells #[.slice A278_0 ((bU l0 x17_1).f0).length c278_0] 68 (0, 0)) (by (with_reducible repeat (first | refine yM ?_ _ | refine yO ?_ | refine yN ?_ _)); refine blk_put (cs := #[.slice none 0 0]) ?_ 0 _ rfl; (with_reducible repeat (first | refine yM ?_ _ | refine yO ?_ | refine yN ?_ _)); exact BK279.out) hb); clear hb hbox hg; have hnb21 := NB281_279.out; have hnc21 := NB279_281.out; have hcz22_0 : w20.cell? ⟨gb281, 0, none⟩ = some (.slice none 0 0) := (yG BK281.out 0).trans rfl; have hfz22_0 := yR BK281.out 0; have hcz23_0 : w20.cell? ⟨gb279, 0, none⟩ = some (.slice A278_0 ((bU l0 x17_1).f0).length c278_0) := (yG BK279.out 0).trans rfl; have hfz23_0 := yR BK279.out 0) | (go_at_call 92; (with_reducible refine (impl_samePoint.calls k1 _ _ ((bU l0 x17_1).f0) _ _ ((bU l1 x17_1).f0) false _ (cB HR278_0 HC278_0 HB) (cB HR280_0 HC280_0 HB) A9.out).mono ?_); rintro e w24 ⟨rfl, hb⟩; replace BK279 := yD (zB (g := gb279) (o := .cells #[.slice A278_0 ((bU l0 x17_1).f0).length c278_0] 68 (0, 0)) (by (with_reducible repeat (first | refine yM ?_ _ | refine yO ?_ | refine yN ?_ _)); refine blk_far ?_ NB279_281.out _; (with_reducible repeat (first | refine yM ?_ _ | refine yO ?_ | refine yN ?_ _)); exact BK279.out) hb); replace BK281 := yD (zB (g := gb281) (o := .cells #[.slice A280_0 ((bU l1 x17_1).f0).length c280_0] 68 (0, 0)) (by (with_reducible repeat (first | refine yM ?_ _ | refine yO ?_ | refine yN ?_ _)); refine blk_put (cs := #[.slice none 0 0]) ?_ 0 _ rfl; (with_reducible repeat (first | refine yM ?_ _ | refine yO ?_ | refine yN ?_ _)); exact BK281.out) hb); replace HB := zX HB hb; clear hb))
    go_ret
    exact ⟨kE, kR1 HB⟩
   have H' := yD H
   clear H
   obtain ⟨p278, q278, ad278, A278_0, c278_0, e278, hx278_0, HC278_0, HR278_0⟩ := sI (at_T68 C0.r x17_1)
   cases e278
   replace hx278_0 := kD HB hx278_0
   go_wp2_with (first | (refine gD 8 ?_; refine bF (N := 8) (cs := #[.slice none 0 0]) (t := 68) HB ?_; intro gb279 w11 BK279 GW279 HB; have hcz12_0 : w11.cell? ⟨gb279, 0, none⟩ = some (.slice none 0 0) := (yG BK279.out 0).trans rfl; have hfz12_0 := yR BK279.out 0; have p280 : 0 ≤ (x17_1 : Int) := zP (by assumption); have q280 : x17_1 < (l1.length : Int) := zP (by assumption); obtain ⟨ad280, A280_0, c280_0, e280, hx280_0, HC280_0, HR280_0⟩ := at_T68 C1.r x17_1 p280 q280; cases e280; have hn280_0 : ad280.block ≠ gb279 := Nat.ne_of_lt (Nat.lt_of_lt_of_le (by have := zQ _ _ hx280_0; first | rwa [add_block] at this | exact this) GW279.out); replace hx280_0 := kD HB hx280_0; replace hx280_0 := (cell_far (p := ⟨gb279, 0, none⟩) (by first | (rw [add_block]; exact hn280_0) | (show (Addr.add _ _).block ≠ _; rw [add_block]; exact hn280_0) | exact hn280_0) (.slice A278_0 ((bU l0 x17_1).f0).length c278_0)).trans hx280_0; clear hn280_0; replace p280 := eq_true p280; replace q280 := eq_true q280) | (refine gD 9 ?_; refine bE (N := 9) (cs := #[.slice none 0 0]) (t := 68) ?_; intro gb281 hg w13 hbox hb; have BK281 := yD (hbox); have GW281 := sW hg HB; replace HB := zX HB hb; have NB279_281 := yD ((by rw [hg]; exact Nat.ne_of_lt (cT (g := gb279) (o := .cells #[.slice A278_0 ((bU l0 x17_1).f0).length c278_0] 68 (0, 0)) (by (with_reducible repeat (first | refine yM ?_ _ | refine yO ?_ | refine yN ?_ _)); refine blk_put (cs := #[.slice none 0 0]) ?_ 0 _ rfl; (with_reducible repeat (first | refine yM ?_ _ | refine yO ?_ | refine yN ?_ _)); exact BK279.out)) : gb279 ≠ gb281)); have NB281_279 := yD ((by rw [hg]; exact Nat.ne_of_gt (cT (g := gb279) (o := .cells #[.slice A278_0 ((bU l0 x17_1).f0).length c278_0] 68 (0, 0)) (by (with_reducible repeat (first | refine yM ?_ _ | refine yO ?_ | refine yN ?_ _)); refine blk_put (cs := #[.slice none 0 0]) ?_ 0 _ rfl; (with_reducible repeat (first | refine yM ?_ _ | refine yO ?_ | refine yN ?_ _)); exact BK279.out)) : gb281 ≠ gb279)); replace BK279 := yD (zB (g := gb279) (o := .cells #[.slice A278_0 ((bU l0 x17_1).f0).length c278_0] 68 (0, 0)) (by (with_reducible repeat (first | refine yM ?_ _ | refine yO ?_ | refine yN ?_ _)); refine blk_put (cs := #[.slice none 0 0]) ?_ 0 _ rfl; (with_reducible repeat (first | refine yM ?_ _ | refine yO ?_ | refine yN ?_ _)); exact BK279.out) hb); clear hb hbox hg; have hnb14 := NB281_279.out; have hnc14 := NB279_281.out; have hcz15_0 : w13.cell? ⟨gb281, 0, none⟩ = some (.slice none 0 0) := (yG BK281.out 0).trans rfl; have hfz15_0 := yR BK281.out 0; have hcz16_0 : w13.cell? ⟨gb279, 0, none⟩ = some (.slice A278_0 ((bU l0 x17_1).f0).length c278_0) := (yG BK279.out 0).trans rfl; have hfz16_0 := yR BK279.out 0) | (go_at_call 92; (with_reducible refine (impl_samePoint.calls k1 _ _ ((bU l0 x17_1).f0) _ _ ((bU l1 x17_1).f0) true _ (cB HR278_0 HC278_0 HB) (cB HR280_0 HC280_0 HB) A9.out).mono ?_); rintro e w17 ⟨rfl, hb⟩; replace BK279 := yD (zB (g := gb279) (o := .cells #[.slice A278_0 ((bU l0 x17_1).f0).length c278_0] 68 (0, 0)) (by (with_reducible repeat (first | refine yM ?_ _ | refine yO ?_ | refine yN ?_ _)); refine blk_far ?_ NB279_281.out _; (with_reducible repeat (first | refine yM ?_ _ | refine yO ?_ | refine yN ?_ _)); exact BK279.out) hb); replace BK281 := yD (zB (g := gb281) (o := .cells #[.slice A280_0 ((bU l1 x17_1).f0).length c280_0] 68 (0, 0)) (by (with_reducible repeat (first | refine yM ?_ _ | refine yO ?_ | refine yN ?_ _)); refine blk_put (cs := #[.slice none 0 0]) ?_ 0 _ rfl; (with_reducible repeat (first | refine yM ?_ _ | refine yO ?_ | refine yN ?_ _)); exact BK281.out) hb); replace HB := zX HB hb; clear hb))
   go_roundg k1
   case measure => have := HK1.out; omega
   case rel => exact ⟨(wrap64 (x17_1 + 1)), kF, H', ⟨by have := HK1.out; omega⟩, ⟨kR1 HB⟩⟩
def cJ.f (k : Nat) (a0_0 : Int) (l0_1 l0_2 : List Int) (l0_3 l0_4 : List Int) (l0_5 : List (S68)) (a1_0 : Int) (l1_1 l1_2 : List Int) (l1_3 l1_4 : List Int) (l1_5 : List (S68)) : Option (Bool) := if a0_0 = a1_0 then ((impl_Selection_lists.f a0_0 l0_1 l0_2 l0_3 l0_4 l0_5).bind fun t285 => ((impl_Selection_lists.f a1_0 l1_1 l1_2 l1_3 l1_4 l1_5).bind fun t288 => ((aV.f k t285 t288).bind fun t291 => (if t291 = true then ((bH.f k l0_5 l1_5).bind fun t292 => (some t292)) else (some false))))) else (some false)
def cJ.T1 : Bool × List (List Nat × List Nat) := (true, [([], []), ([0], [0]), ([], []), ([2], [2]), ([1, 3], [1, 3]), ([4], [4]), ([5], [5]), ([6, 5, 5], [5, 6]), ([5], [5]), ([8, 7, 5], [5, 8]), ([7, 9, 9, 5], [5, 7, 9]), ([5, 10], [5, 10]), ([11, 10], [11]), ([12], [12]), ([13, 12], [12, 13]), ([12], [12]), ([15, 12], [12, 15]), ([14, 16, 12, 12], [12, 14, 16]), ([12, 17], [12, 17]), ([18, 17, 0, 1, 2, 3, 4, 5, 6, 7, 8, 9, 10, 11, 12, 13, 14, 15, 16, 17, 18], [18])])
def cJ.B1 : List Nat := [0, 1, 0, 4, 15, 31, 63, 127, 63, 511, 1023, 2047, 4095, 8191, 16383, 8191, 40959, 131071, 262143, 524287]
theorem cJ.tab1 : rtab .any (opsOf Try.f67 1) = cJ.T1 := by kernel_rfl
theorem cJ.bits1 : waitsOk cJ.T1.2 cJ.B1 = true := by kernel_rfl
theorem cJ.calls (k : Nat) (a0_0 : Int) (A0_1 : Option Addr) (c0_1 : Nat) (l0_1 : List Int) (A0_2 : Option Addr) (c0_2 : Nat) (l0_2 : List Int) (A0_3 : Option Addr) (c0_3 : Nat) (l0_3 : List Int) (A0_4 : Option Addr) (c0_4 : Nat) (l0_4 : List Int) (A0_5 : Option Addr) (c0_5 : Nat) (l0_5 : List (S68)) (a1_0 : Int) (A1_1 : Option Addr) (c1_1 : Nat) (l1_1 : List Int) (A1_2 : Option Addr) (c1_2 : Nat) (l1_2 : List Int) (A1_3 : Option Addr) (c1_3 : Nat) (l1_3 : List Int) (A1_4 : Option Addr) (c1_4 : Nat) (l1_4 : List Int) (A1_5 : Option Addr) (c1_5 : Nat) (l1_5 : List (S68)) (r : Bool) (w : World) (C0_1 : Cm (Kd.int .i64) w A0_1 c0_1 l0_1) (C0_2 : Cm (Kd.int .i64) w A0_2 c0_2 l0_2) (C0_3 : Cm (Kd.int .i64) w A0_3 c0_3 l0_3) (C0_4 : Cm (Kd.int .i64) w A0_4 c0_4 l0_4) (C0_5 : Cm k68 w A0_5 c0_5 l0_5) (C1_1 : Cm (Kd.int .i64) w A1_1 c1_1 l1_1) (C1_2 : Cm (Kd.int .i64) w A1_2 c1_2 l1_2) (C1_3 : Cm (Kd.int .i64) w A1_3 c1_3 l1_3) (C1_4 : Cm (Kd.int .i64) w A1_4 c1_4 l1_4) (C1_5 : Cm k68 w A1_5 c1_5 l1_5) (h : cJ.f k a0_0 l0_1 l0_2 l0_3 l0_4 l0_5 a1_0 l1_1 l1_2 l1_3 l1_4 l1_5 = some r) :
 Calls Try.prog 67 #[.agg #[.int .i64 a0_0, .slice A0_1 l0_1.length c0_1, .slice A0_2 l0_2.length c0_2, .slice A0_3 l0_3.length c0_3, .slice A0_4 l0_4.length c0_4, .slice A0_5 l0_5.length c0_5], .agg #[.int .i64 a1_0, .slice A1_1 l1_1.length c1_1, .slice A1_2 l1_2.length c1_2, .slice A1_3 l1_3.length c1_3, .slice A1_4 l1_4.length c1_4, .slice A1_5 l1_5.length c1_5]] w fun e w' => e = .returned (.bool r) ∧ Below w.heap.size w w' := by
 have hu26 := Try.underlying26
 have HB := yD (Below.refl w.heap.size w)
 unfold cJ.f at h
 have H := h
 clear h
 replace H := sP H; rcases H with ⟨c3, c3b0, c3b1, H⟩ | ⟨-, c3b0, c3b1, H⟩
 ·
  obtain rfl := sJ H; go_enter Try.func67, Try.ntmps67
  try go_wp2_with (first | (refine gD 2 ?_; refine bF (N := 2) (cs := #[.int .i64 a0_0, .slice A0_1 l0_1.length c0_1, .slice A0_2 l0_2.length c0_2, .slice A0_3 l0_3.length c0_3, .slice A0_4 l0_4.length c0_4, .slice A0_5 l0_5.length c0_5]) (t := 26) HB ?_; intro gb283 w26 BK283 GW283 HB) | (refine gD 3 ?_; refine bE (N := 3) (cs := #[.int .i64 a1_0, .slice A1_1 l1_1.length c1_1, .slice A1_2 l1_2.length c1_2, .slice A1_3 l1_3.length c1_3, .slice A1_4 l1_4.length c1_4, .slice A1_5 l1_5.length c1_5]) (t := 26) ?_; intro gb284 hg w27 hbox hb; have BK284 := yD (hbox); have GW284 := sW hg HB; replace HB := zX HB hb; have NB283_284 := yD ((by rw [hg]; exact Nat.ne_of_lt (cT (kN BK283)) : gb283 ≠ gb284)); have NB284_283 := yD ((by rw [hg]; exact Nat.ne_of_gt (cT (kN BK283)) : gb284 ≠ gb283)); replace BK283 := zY BK283 hb; clear hb hbox hg))
  replace BK283 := yD (yO BK283.out); replace BK284 := yD (yO BK284.out); replace HB := yD (yP HB.out)
  refine s0 (m := 20) (S := fun w' => cl w' gb283 0 (.int .i64 a0_0) ∧ cl w' gb283 1 (.slice A0_1 l0_1.length c0_1) ∧ cl w' gb283 2 (.slice A0_2 l0_2.length c0_2) ∧ cl w' gb283 3 (.slice A0_3 l0_3.length c0_3) ∧ cl w' gb283 4 (.slice A0_4 l0_4.length c0_4) ∧ cl w' gb283 5 (.slice A0_5 l0_5.length c0_5) ∧ cl w' gb284 0 (.int .i64 a1_0) ∧ cl w' gb284 1 (.slice A1_1 l1_1.length c1_1) ∧ cl w' gb284 2 (.slice A1_2 l1_2.length c1_2) ∧ cl w' gb284 3 (.slice A1_3 l1_3.length c1_3) ∧ cl w' gb284 4 (.slice A1_4 l1_4.length c1_4) ∧ cl w' gb284 5 (.slice A1_5 l1_5.length c1_5)) cJ.tab1 cJ.bits1 (ca6_ BK283.out (cz6 BK284.out)) fun hHeld HT_ HW_ => ?_
  generalize w27.drew = w28 at BK283 BK284 HB hHeld ⊢
  refine qa 20 0 1 ?_; refine qa 20 2 5 ?_; refine qc 20 1 7 hHeld ?_; refine qc 20 3 15 hHeld ?_; refine qa 20 4 31 ?_; refine qa 20 5 63 ?_; refine qb 20 6 127 ?_; refine qb 20 7 255 ?_; refine qb 20 8 511 ?_; refine qb 20 9 1023 ?_; refine qb 20 10 2047 ?_; refine qa 20 11 4095 ?_; refine qa 20 12 8191 ?_; refine qb 20 13 16383 ?_; refine qb 20 14 32767 ?_; refine qb 20 15 65535 ?_; refine qb 20 16 131071 ?_; refine qb 20 17 262143 ?_; refine qa 20 18 524287 ?_; refine qa 20 19 1048575 ?_
  refine qd ?_
  try go_wp2
  go_ret
  exact ⟨kE, kR1 HB⟩
 replace ⟨t285, A4, H⟩ := sV H
 replace ⟨t288, A5, H⟩ := sV H
 replace ⟨t291, A6, H⟩ := sV H
 replace H := sS H; rcases H with ⟨rfl, H⟩ | ⟨rfl, H⟩
 ·
  obtain rfl := sJ H; go_enter Try.func67, Try.ntmps67
  try go_wp2_with (first | (refine gD 2 ?_; refine bF (N := 2) (cs := #[.int .i64 a0_0, .slice A0_1 l0_1.length c0_1, .slice A0_2 l0_2.length c0_2, .slice A0_3 l0_3.length c0_3, .slice A0_4 l0_4.length c0_4, .slice A0_5 l0_5.length c0_5]) (t := 26) HB ?_; intro gb283 w18 BK283 GW283 HB) | (refine gD 3 ?_; refine bE (N := 3) (cs := #[.int .i64 a1_0, .slice A1_1 l1_1.length c1_1, .slice A1_2 l1_2.length c1_2, .slice A1_3 l1_3.length c1_3, .slice A1_4 l1_4.length c1_4, .slice A1_5 l1_5.length c1_5]) (t := 26) ?_; intro gb284 hg w19 hbox hb; have BK284 := yD (hbox); have GW284 := sW hg HB; replace HB := zX HB hb; have NB283_284 := yD ((by rw [hg]; exact Nat.ne_of_lt (cT (kN BK283)) : gb283 ≠ gb284)); have NB284_283 := yD ((by rw [hg]; exact Nat.ne_of_gt (cT (kN BK283)) : gb284 ≠ gb283)); replace BK283 := zY BK283 hb; clear hb hbox hg))
  replace BK283 := yD (yO BK283.out); replace BK284 := yD (yO BK284.out); replace HB := yD (yP HB.out)
  refine s0 (m := 20) (S := fun w' => cl w' gb283 0 (.int .i64 a0_0) ∧ cl w' gb283 1 (.slice A0_1 l0_1.length c0_1) ∧ cl w' gb283 2 (.slice A0_2 l0_2.length c0_2) ∧ cl w' gb283 3 (.slice A0_3 l0_3.length c0_3) ∧ cl w' gb283 4 (.slice A0_4 l0_4.length c0_4) ∧ cl w' gb283 5 (.slice A0_5 l0_5.length c0_5) ∧ cl w' gb284 0 (.int .i64 a1_0) ∧ cl w' gb284 1 (.slice A1_1 l1_1.length c1_1) ∧ cl w' gb284 2 (.slice A1_2 l1_2.length c1_2) ∧ cl w' gb284 3 (.slice A1_3 l1_3.length c1_3) ∧ cl w' gb284 4 (.slice A1_4 l1_4.length c1_4) ∧ cl w' gb284 5 (.slice A1_5 l1_5.length c1_5)) cJ.tab1 cJ.bits1 (ca6_ BK283.out (cz6 BK284.out)) fun hHeld HT_ HW_ => ?_
  generalize w19.drew = w20 at BK283 BK284 HB hHeld ⊢
  refine qa 20 0 1 ?_; refine qa 20 2 5 ?_; refine qc 20 1 7 hHeld ?_; refine qc 20 3 15 hHeld ?_; refine qa 20 4 31 ?_; refine qa 20 5 63 ?_; refine qc 20 6 127 hHeld ?_; refine qc 20 8 383 hHeld ?_
  refine qo 20 7 511 (some 12) fun K hK => ?_
  refine qg Try.func89 _ (dv (impl_Selection_lists.calls a0_0 (fun k_ => k_ < w.heap.size) _ _ l0_1 (fun k_ => k_ < w.heap.size) _ _ l0_2 (fun k_ => k_ < w.heap.size) _ _ l0_3 (fun k_ => k_ < w.heap.size) _ _ l0_4 _ _ l0_5 t285 _ ?z1 ?z2 ?z3 ?z4 (C0_5.b HB) A4.out) fun v286 w21 ho0 hb => ?_)
  (case z1 => exact Kd.V_mk C0_1.h (Kd.F_below (Kd.C_F (Kd.heap_int .i64) C0_1.r) (kB HB)))
  (case z2 => exact Kd.V_mk C0_2.h (Kd.F_below (Kd.C_F (Kd.heap_int .i64) C0_2.r) (kB HB)))
  (case z3 => exact Kd.V_mk C0_3.h (Kd.F_below (Kd.C_F (Kd.heap_int .i64) C0_3.r) (kB HB)))
  (case z4 => exact Kd.V_mk C0_4.h (Kd.F_below (Kd.C_F (Kd.heap_int .i64) C0_4.r) (kB HB)))
  have HO287 := yD (Kd.N_lower (Kd.N_mono (ok' := fun k_ => k_ ≠ gb283 ∧ k_ ≠ gb284) ho0 (fun k_ hk_ => ⟨Or.elim hk_ (fun hs_ => Or.elim hs_ (fun hs_ => fun e_ => Nat.not_le.2 hs_ (by rw [e_]; exact GW283.out)) (fun hs_ => Or.elim hs_ (fun hs_ => fun e_ => Nat.not_le.2 hs_ (by rw [e_]; exact GW283.out)) (fun hs_ => Or.elim hs_ (fun hs_ => fun e_ => Nat.not_le.2 hs_ (by rw [e_]; exact GW283.out)) (fun hs_ => fun e_ => Nat.not_le.2 hs_ (by rw [e_]; exact GW283.out))))) (fun hn_ => (Kd.freshB (g := gb283) (o := .cells #[.int .i64 a0_0, .slice A0_1 l0_1.length c0_1, .slice A0_2 l0_2.length c0_2, .slice A0_3 l0_3.length c0_3, .slice A0_4 l0_4.length c0_4, .slice A0_5 l0_5.length c0_5] 26 (0, 0)) (kM BK283) k_ hn_)), Or.elim hk_ (fun hs_ => Or.elim hs_ (fun hs_ => fun e_ => Nat.not_le.2 hs_ (by rw [e_]; exact GW284.out)) (fun hs_ => Or.elim hs_ (fun hs_ => fun e_ => Nat.not_le.2 hs_ (by rw [e_]; exact GW284.out)) (fun hs_ => Or.elim hs_ (fun hs_ => fun e_ => Nat.not_le.2 hs_ (by rw [e_]; exact GW284.out)) (fun hs_ => fun e_ => Nat.not_le.2 hs_ (by rw [e_]; exact GW284.out))))) (fun hn_ => (Kd.freshB (g := gb284) (o := .cells #[.int .i64 a1_0, .slice A1_1 l1_1.length c1_1, .slice A1_2 l1_2.length c1_2, .slice A1_3 l1_3.length c1_3, .slice A1_4 l1_4.length c1_4, .slice A1_5 l1_5.length c1_5] 26 (0, 0)) (kM BK284) k_ hn_))⟩)) (aD (kB HB))); replace BK283 := zY BK283 hb; replace BK284 := zY BK284 hb; replace HB := zX HB hb
  refine hK.out _ _ (ca6_ BK283.out (cz6 BK284.out)) (fun hHeld => ?_)
  clear hK K
  refine nZ 12 ?_
  refine qo 20 9 1023 (some 14) fun K hK => ?_
  refine qg Try.func89 _ (dv (impl_Selection_lists.calls a1_0 (fun k_ => k_ < w.heap.size) _ _ l1_1 (fun k_ => k_ < w.heap.size) _ _ l1_2 (fun k_ => k_ < w.heap.size) _ _ l1_3 (fun k_ => k_ < w.heap.size) _ _ l1_4 _ _ l1_5 t288 _ ?z1 ?z2 ?z3 ?z4 (C1_5.b HB) A5.out) fun v289 w22 ho0 hb => ?_)
  (case z1 => exact Kd.V_mk C1_1.h (Kd.F_below (Kd.C_F (Kd.heap_int .i64) C1_1.r) (kB HB)))
  (case z2 => exact Kd.V_mk C1_2.h (Kd.F_below (Kd.C_F (Kd.heap_int .i64) C1_2.r) (kB HB)))
  (case z3 => exact Kd.V_mk C1_3.h (Kd.F_below (Kd.C_F (Kd.heap_int .i64) C1_3.r) (kB HB)))
  (case z4 => exact Kd.V_mk C1_4.h (Kd.F_below (Kd.C_F (Kd.heap_int .i64) C1_4.r) (kB HB)))
  have HO290 := yD (Kd.N_lower (Kd.N_mono (ok' := fun k_ => oB v286 k_ ∧ k_ ≠ gb283 ∧ k_ ≠ gb284) ho0 (fun k_ hk_ => ⟨Or.elim hk_ (fun hs_ => Or.elim hs_ (fun hs_ => fun e_ => Nat.not_le.2 hs_ (Kd.N_base HO287.out k_ e_.symm)) (fun hs_ => Or.elim hs_ (fun hs_ => fun e_ => Nat.not_le.2 hs_ (Kd.N_base HO287.out k_ e_.symm)) (fun hs_ => Or.elim hs_ (fun hs_ => fun e_ => Nat.not_le.2 hs_ (Kd.N_base HO287.out k_ e_.symm)) (fun hs_ => fun e_ => Nat.not_le.2 hs_ (Kd.N_base HO287.out k_ e_.symm))))) (fun hn_ => (Kd.cQ (Kd.N_lt (kQ HO287)) k_ hn_)), Or.elim hk_ (fun hs_ => Or.elim hs_ (fun hs_ => fun e_ => Nat.not_le.2 hs_ (by rw [e_]; exact GW283.out)) (fun hs_ => Or.elim hs_ (fun hs_ => fun e_ => Nat.not_le.2 hs_ (by rw [e_]; exact GW283.out)) (fun hs_ => Or.elim hs_ (fun hs_ => fun e_ => Nat.not_le.2 hs_ (by rw [e_]; exact GW283.out)) (fun hs_ => fun e_ => Nat.not_le.2 hs_ (by rw [e_]; exact GW283.out))))) (fun hn_ => (Kd.freshB (g := gb283) (o := .cells #[.int .i64 a0_0, .slice A0_1 l0_1.length c0_1, .slice A0_2 l0_2.length c0_2, .slice A0_3 l0_3.length c0_3, .slice A0_4 l0_4.length c0_4, .slice A0_5 l0_5.length c0_5] 26 (0, 0)) (kM BK283) k_ hn_)), Or.elim hk_ (fun hs_ => Or.elim hs_ (fun hs_ => fun e_ => Nat.not_le.2 hs_ (by rw [e_]; exact GW284.out)) (fun hs_ => Or.elim hs_ (fun hs_ => fun e_ => Nat.not_le.2 hs_ (by rw [e_]; exact GW284.out)) (fun hs_ => Or.elim hs_ (fun hs_ => fun e_ => Nat.not_le.2 hs_ (by rw [e_]; exact GW284.out)) (fun hs_ => fun e_ => Nat.not_le.2 hs_ (by rw [e_]; exact GW284.out))))) (fun hn_ => (Kd.freshB (g := gb284) (o := .cells #[.int .i64 a1_0, .slice A1_1 l1_1.length c1_1, .slice A1_2 l1_2.length c1_2, .slice A1_3 l1_3.length c1_3, .slice A1_4 l1_4.length c1_4, .slice A1_5 l1_5.length c1_5] 26 (0, 0)) (kM BK284) k_ hn_))⟩)) (aD (kB HB))); replace HO287 := yD (Kd.N_elder' (kQ HO287) (Kd.N_base ho0) hb); replace BK283 := zY BK283 hb; replace BK284 := zY BK284 hb; replace HB := zX HB hb
  obtain ⟨Ao23, co23, eo23⟩ := Kd.N_slice HO287.out
  (first | subst eo23 | (injection eo23 with f1_ f2_ f3_; have f4_ := f1_.symm; have f5_ := f3_.symm; clear f1_ f2_ f3_; subst f4_; subst f5_))
  obtain ⟨Ao24, co24, eo24⟩ := Kd.N_slice HO290.out
  (first | subst eo24 | (injection eo24 with f1_ f2_ f3_; have f4_ := f1_.symm; have f5_ := f3_.symm; clear f1_ f2_ f3_; subst f4_; subst f5_))
  refine hK.out _ _ (ca6_ BK283.out (cz6 BK284.out)) (fun hHeld => ?_)
  clear hK K
  refine nZ 14 ?_
  refine qo 20 10 2047 (some 15) fun K hK => ?_
  refine qg Try.func88 _ (dn (aV.calls k _ _ t285 _ _ t288 false _ ?z1 ?z3 A6.out) fun w25 hb => ?_)
  (case z1 => exact ⟨kV (Kd.N_reads' HO287.out).2.2, (Kd.N_reads' HO287.out).2.1⟩)
  (case z3 => exact ⟨kV (Kd.N_reads' HO290.out).2.2, (Kd.N_reads' HO290.out).2.1⟩)
  replace HO287 := yD (Kd.N_below (kQ HO287) hb); replace HO290 := yD (Kd.N_below (kQ HO290) hb); replace BK283 := zY BK283 hb; replace BK284 := zY BK284 hb; replace HB := zX HB hb
  refine hK.out _ _ (ca6_ BK283.out (cz6 BK284.out)) (fun hHeld => ?_)
  clear hK K
  refine nZ 15 ?_
  refine qa 20 11 4095 ?_; refine qa 20 12 8191 ?_; refine qb 20 13 16383 ?_; refine qb 20 14 32767 ?_; refine qb 20 15 65535 ?_; refine qb 20 16 131071 ?_; refine qb 20 17 262143 ?_; refine qa 20 18 524287 ?_; refine qa 20 19 1048575 ?_
  refine qd ?_
  try go_wp2
  go_ret
  exact ⟨kE, kR1 HB⟩
 replace ⟨t292, A8, H⟩ := sV H
 obtain rfl := sJ H; go_enter Try.func67, Try.ntmps67
 try go_wp2_with (first | (refine gD 2 ?_; refine bF (N := 2) (cs := #[.int .i64 a0_0, .slice A0_1 l0_1.length c0_1, .slice A0_2 l0_2.length c0_2, .slice A0_3 l0_3.length c0_3, .slice A0_4 l0_4.length c0_4, .slice A0_5 l0_5.length c0_5]) (t := 26) HB ?_; intro gb283 w9 BK283 GW283 HB) | (refine gD 3 ?_; refine bE (N := 3) (cs := #[.int .i64 a1_0, .slice A1_1 l1_1.length c1_1, .slice A1_2 l1_2.length c1_2, .slice A1_3 l1_3.length c1_3, .slice A1_4 l1_4.length c1_4, .slice A1_5 l1_5.length c1_5]) (t := 26) ?_; intro gb284 hg w10 hbox hb; have BK284 := yD (hbox); have GW284 := sW hg HB; replace HB := zX HB hb; have NB283_284 := yD ((by rw [hg]; exact Nat.ne_of_lt (cT (kN BK283)) : gb283 ≠ gb284)); have NB284_283 := yD ((by rw [hg]; exact Nat.ne_of_gt (cT (kN BK283)) : gb284 ≠ gb283)); replace BK283 := zY BK283 hb; clear hb hbox hg))
 replace BK283 := yD (yO BK283.out); replace BK284 := yD (yO BK284.out); replace HB := yD (yP HB.out)
 refine s0 (m := 20) (S := fun w' => cl w' gb283 0 (.int .i64 a0_0) ∧ cl w' gb283 1 (.slice A0_1 l0_1.length c0_1) ∧ cl w' gb283 2 (.slice A0_2 l0_2.length c0_2) ∧ cl w' gb283 3 (.slice A0_3 l0_3.length c0_3) ∧ cl w' gb283 4 (.slice A0_4 l0_4.length c0_4) ∧ cl w' gb283 5 (.slice A0_5 l0_5.length c0_5) ∧ cl w' gb284 0 (.int .i64 a1_0) ∧ cl w' gb284 1 (.slice A1_1 l1_1.length c1_1) ∧ cl w' gb284 2 (.slice A1_2 l1_2.length c1_2) ∧ cl w' gb284 3 (.slice A1_3 l1_3.length c1_3) ∧ cl w' gb284 4 (.slice A1_4 l1_4.length c1_4) ∧ cl w' gb284 5 (.slice A1_5 l1_5.length c1_5)) cJ.tab1 cJ.bits1 (ca6_ BK283.out (cz6 BK284.out)) fun hHeld HT_ HW_ => ?_
 generalize w10.drew = w11 at BK283 BK284 HB hHeld ⊢
 refine qa 20 0 1 ?_; refine qa 20 2 5 ?_; refine qc 20 1 7 hHeld ?_; refine qc 20 3 15 hHeld ?_; refine qa 20 4 31 ?_; refine qa 20 5 63 ?_; refine qc 20 6 127 hHeld ?_; refine qc 20 8 383 hHeld ?_
 refine qo 20 7 511 (some 12) fun K hK => ?_
 refine qg Try.func89 _ (dv (impl_Selection_lists.calls a0_0 (fun k_ => k_ < w.heap.size) _ _ l0_1 (fun k_ => k_ < w.heap.size) _ _ l0_2 (fun k_ => k_ < w.heap.size) _ _ l0_3 (fun k_ => k_ < w.heap.size) _ _ l0_4 _ _ l0_5 t285 _ ?z1 ?z2 ?z3 ?z4 (C0_5.b HB) A4.out) fun v286 w12 ho0 hb => ?_)
 (case z1 => exact Kd.V_mk C0_1.h (Kd.F_below (Kd.C_F (Kd.heap_int .i64) C0_1.r) (kB HB)))
 (case z2 => exact Kd.V_mk C0_2.h (Kd.F_below (Kd.C_F (Kd.heap_int .i64) C0_2.r) (kB HB)))
 (case z3 => exact Kd.V_mk C0_3.h (Kd.F_below (Kd.C_F (Kd.heap_int .i64) C0_3.r) (kB HB)))
 (case z4 => exact Kd.V_mk C0_4.h (Kd.F_below (Kd.C_F (Kd.heap_int .i64) C0_4.r) (kB HB)))
 have HO287 := yD (Kd.N_lower (Kd.N_mono (ok' := fun k_ => k_ ≠ gb283 ∧ k_ ≠ gb284) ho0 (fun k_ hk_ => ⟨Or.elim hk_ (fun hs_ => Or.elim hs_ (fun hs_ => fun e_ => Nat.not_le.2 hs_ (by rw [e_]; exact GW283.out)) (fun hs_ => Or.elim hs_ (fun hs_ => fun e_ => Nat.not_le.2 hs_ (by rw [e_]; exact GW283.out)) (fun hs_ => Or.elim hs_ (fun hs_ => fun e_ => Nat.not_le.2 hs_ (by rw [e_]; exact GW283.out)) (fun hs_ => fun e_ => Nat.not_le.2 hs_ (by rw [e_]; exact GW283.out))))) (fun hn_ => (Kd.freshB (g := gb283) (o := .cells #[.int .i64 a0_0, .slice A0_1 l0_1.length c0_1, .slice A0_2 l0_2.length c0_2, .slice A0_3 l0_3.length c0_3, .slice A0_4 l0_4.length c0_4, .slice A0_5 l0_5.length c0_5] 26 (0, 0)) (kM BK283) k_ hn_)), Or.elim hk_ (fun hs_ => Or.elim hs_ (fun hs_ => fun e_ => Nat.not_le.2 hs_ (by rw [e_]; exact GW284.out)) (fun hs_ => Or.elim hs_ (fun hs_ => fun e_ => Nat.not_le.2 hs_ (by rw [e_]; exact GW284.out)) (fun hs_ => Or.elim hs_ (fun hs_ => fun e_ => Nat.not_le.2 hs_ (by rw [e_]; exact GW284.out)) (fun hs_ => fun e_ => Nat.not_le.2 hs_ (by rw [e_]; exact GW284.out))))) (fun hn_ => (Kd.freshB (g := gb284) (o := .cells #[.int .i64 a1_0, .slice A1_1 l1_1.length c1_1, .slice A1_2 l1_2.length c1_2, .slice A1_3 l1_3.length c1_3, .slice A1_4 l1_4.length c1_4, .slice A1_5 l1_5.length c1_5] 26 (0, 0)) (kM BK284) k_ hn_))⟩)) (aD (kB HB))); replace BK283 := zY BK283 hb; replace BK284 := zY BK284 hb; replace HB := zX HB hb
 refine hK.out _ _ (ca6_ BK283.out (cz6 BK284.out)) (fun hHeld => ?_)
 clear hK K
 refine nZ 12 ?_
 refine qo 20 9 1023 (some 14) fun K hK => ?_
 refine qg Try.func89 _ (dv (impl_Selection_lists.calls a1_0 (fun k_ => k_ < w.heap.size) _ _ l1_1 (fun k_ => k_ < w.heap.size) _ _ l1_2 (fun k_ => k_ < w.heap.size) _ _ l1_3 (fun k_ => k_ < w.heap.size) _ _ l1_4 _ _ l1_5 t288 _ ?z1 ?z2 ?z3 ?z4 (C1_5.b HB) A5.out) fun v289 w13 ho0 hb => ?_)
 (case z1 => exact Kd.V_mk C1_1.h (Kd.F_below (Kd.C_F (Kd.heap_int .i64) C1_1.r) (kB HB)))
 (case z2 => exact Kd.V_mk C1_2.h (Kd.F_below (Kd.C_F (Kd.heap_int .i64) C1_2.r) (kB HB)))
 (case z3 => exact Kd.V_mk C1_3.h (Kd.F_below (Kd.C_F (Kd.heap_int .i64) C1_3.r) (kB HB)))
 (case z4 => exact Kd.V_mk C1_4.h (Kd.F_below (Kd.C_F (Kd.heap_int .i64) C1_4.r) (kB HB)))
 have HO290 := yD (Kd.N_lower (Kd.N_mono (ok' := fun k_ => oB v286 k_ ∧ k_ ≠ gb283 ∧ k_ ≠ gb284) ho0 (fun k_ hk_ => ⟨Or.elim hk_ (fun hs_ => Or.elim hs_ (fun hs_ => fun e_ => Nat.not_le.2 hs_ (Kd.N_base HO287.out k_ e_.symm)) (fun hs_ => Or.elim hs_ (fun hs_ => fun e_ => Nat.not_le.2 hs_ (Kd.N_base HO287.out k_ e_.symm)) (fun hs_ => Or.elim hs_ (fun hs_ => fun e_ => Nat.not_le.2 hs_ (Kd.N_base HO287.out k_ e_.symm)) (fun hs_ => fun e_ => Nat.not_le.2 hs_ (Kd.N_base HO287.out k_ e_.symm))))) (fun hn_ => (Kd.cQ (Kd.N_lt (kQ HO287)) k_ hn_)), Or.elim hk_ (fun hs_ => Or.elim hs_ (fun hs_ => fun e_ => Nat.not_le.2 hs_ (by rw [e_]; exact GW283.out)) (fun hs_ => Or.elim hs_ (fun hs_ => fun e_ => Nat.not_le.2 hs_ (by rw [e_]; exact GW283.out)) (fun hs_ => Or.elim hs_ (fun hs_ => fun e_ => Nat.not_le.2 hs_ (by rw [e_]; exact GW283.out)) (fun hs_ => fun e_ => Nat.not_le.2 hs_ (by rw [e_]; exact GW283.out))))) (fun hn_ => (Kd.freshB (g := gb283) (o := .cells #[.int .i64 a0_0, .slice A0_1 l0_1.length c0_1, .slice A0_2 l0_2.length c0_2, .slice A0_3 l0_3.length c0_3, .slice A0_4 l0_4.length c0_4, .slice A0_5 l0_5.length c0_5] 26 (0, 0)) (kM BK283) k_ hn_)), Or.elim hk_ (fun hs_ => Or.elim hs_ (fun hs_ => fun e_ => Nat.not_le.2 hs_ (by rw [e_]; exact GW284.out)) (fun hs_ => Or.elim hs_ (fun hs_ => fun e_ => Nat.not_le.2 hs_ (by rw [e_]; exact GW284.out)) (fun hs_ => Or.elim hs_ (fun hs_ => fun e_ => Nat.not_le.2 hs_ (by rw [e_]; exact GW284.out)) (fun hs_ => fun e_ => Nat.not_le.2 hs_ (by rw [e_]; exact GW284.out))))) (fun hn_ => (Kd.freshB (g := gb284) (o := .cells #[.int .i64 a1_0, .slice A1_1 l1_1.length c1_1, .slice A1_2 l1_2.length c1_2, .slice A1_3 l1_3.length c1_3, .slice A1_4 l1_4.length c1_4, .slice A1_5 l1_5.length c1_5] 26 (0, 0)) (kM BK284) k_ hn_))⟩)) (aD (kB HB))); replace HO287 := yD (Kd.N_elder' (kQ HO287) (Kd.N_base ho0) hb); replace BK283 := zY BK283 hb; replace BK284 := zY BK284 hb; replace HB := zX HB hb
 obtain ⟨Ao14, co14, eo14⟩ := Kd.N_slice HO287.out
 (first | subst eo14 | (injection eo14 with f1_ f2_ f3_; have f4_ := f1_.symm; have f5_ := f3_.symm; clear f1_ f2_ f3_; subst f4_; subst f5_))
 obtain ⟨Ao15, co15, eo15⟩ := Kd.N_slice HO290.out
 (first | subst eo15 | (injection eo15 with f1_ f2_ f3_; have f4_ := f1_.symm; have f5_ := f3_.symm; clear f1_ f2_ f3_; subst f4_; subst f5_))
 refine hK.out _ _ (ca6_ BK283.out (cz6 BK284.out)) (fun hHeld => ?_)
 clear hK K
 refine nZ 14 ?_
 refine qo 20 10 2047 (some 15) fun K hK => ?_
 refine qg Try.func88 _ (dn (aV.calls k _ _ t285 _ _ t288 true _ ?z1 ?z3 A6.out) fun w16 hb => ?_)
 (case z1 => exact ⟨kV (Kd.N_reads' HO287.out).2.2, (Kd.N_reads' HO287.out).2.1⟩)
 (case z3 => exact ⟨kV (Kd.N_reads' HO290.out).2.2, (Kd.N_reads' HO290.out).2.1⟩)
 replace HO287 := yD (Kd.N_below (kQ HO287) hb); replace HO290 := yD (Kd.N_below (kQ HO290) hb); replace BK283 := zY BK283 hb; replace BK284 := zY BK284 hb; replace HB := zX HB hb
 refine hK.out _ _ (ca6_ BK283.out (cz6 BK284.out)) (fun hHeld => ?_)
 clear hK K
 refine nZ 15 ?_
 refine qa 20 11 4095 ?_; refine qa 20 12 8191 ?_; refine qa 20 13 16383 ?_; refine qa 20 15 49151 ?_; refine qc 20 14 65535 hHeld ?_; refine qc 20 16 131071 hHeld ?_
 refine qo 20 17 262143 (some 22) fun K hK => ?_
 refine qg Try.func91 _ (dn (bH.calls k _ _ l0_5 _ _ l1_5 t292 _ (C0_5.b HB) (C1_5.b HB) A8.out) fun w17 hb => ?_)
 replace HO287 := yD (Kd.N_below (kQ HO287) hb); replace HO290 := yD (Kd.N_below (kQ HO290) hb); replace BK283 := zY BK283 hb; replace BK284 := zY BK284 hb; replace HB := zX HB hb
 refine hK.out _ _ (ca6_ BK283.out (cz6 BK284.out)) (fun hHeld => ?_)
 clear hK K
 refine nZ 22 ?_
 refine qa 20 18 524287 ?_; refine qa 20 19 1048575 ?_
 refine qd ?_
 try go_wp2
 go_ret
 exact ⟨kE, kR1 HB⟩
def impl_Selection_end.f (a0_0 : Int) (l0_1 l0_2 : List Int) (l0_3 l0_4 : List Int) (l0_5 : List (S68)) (a1 : Int) : Option (Int) := if 0 ≤ a1 then (if a1 < (l0_1.length : Int) then (if a1 < (l0_3.length : Int) then (if a1 < (l0_2.length : Int) then (if a1 < (l0_4.length : Int) then (some (wrap64 ((wrap64 ((rd l0_1 a1) + (wrap64 ((wrap64 ((rd l0_3 a1) - 1)) * (rd l0_2 a1))))) + (rd l0_4 a1)))) else (none)) else (none)) else (none)) else (none)) else (none)
theorem impl_Selection_end.calls (a0_0 : Int) (A0_1 : Option Addr) (c0_1 : Nat) (l0_1 : List Int) (A0_2 : Option Addr) (c0_2 : Nat) (l0_2 : List Int) (A0_3 : Option Addr) (c0_3 : Nat) (l0_3 : List Int) (A0_4 : Option Addr) (c0_4 : Nat) (l0_4 : List Int) (A0_5 : Option Addr) (c0_5 : Nat) (l0_5 : List (S68)) (a1 : Int) (r : Int) (w : World) (C0_1 : Cm (Kd.int .i64) w A0_1 c0_1 l0_1) (C0_2 : Cm (Kd.int .i64) w A0_2 c0_2 l0_2) (C0_3 : Cm (Kd.int .i64) w A0_3 c0_3 l0_3) (C0_4 : Cm (Kd.int .i64) w A0_4 c0_4 l0_4) (C0_5 : Cm k68 w A0_5 c0_5 l0_5) (h : impl_Selection_end.f a0_0 l0_1 l0_2 l0_3 l0_4 l0_5 a1 = some r) :
 Calls Try.prog 70 #[.agg #[.int .i64 a0_0, .slice A0_1 l0_1.length c0_1, .slice A0_2 l0_2.length c0_2, .slice A0_3 l0_3.length c0_3, .slice A0_4 l0_4.length c0_4, .slice A0_5 l0_5.length c0_5], .int .i64 a1] w fun e w' => e = .returned (.int .i64 r) ∧ Below w.heap.size w w' := by
 have hu26 := Try.underlying26
 have HB := yD (Below.refl w.heap.size w)
 unfold impl_Selection_end.f at h
 have H := h
 clear h
 replace ⟨c3b0, H⟩ := sE H
 replace ⟨c4b0, H⟩ := sE H
 replace ⟨c5b0, H⟩ := sE H
 replace ⟨c6b0, H⟩ := sE H
 replace ⟨c7b0, H⟩ := sE H
 obtain rfl := sJ H; go_enter Try.func70, Try.ntmps70
 go_wp2_with (first | (refine gD 2 ?_; refine bF (N := 2) (cs := #[.int .i64 a0_0, .slice A0_1 l0_1.length c0_1, .slice A0_2 l0_2.length c0_2, .slice A0_3 l0_3.length c0_3, .slice A0_4 l0_4.length c0_4, .slice A0_5 l0_5.length c0_5]) (t := 26) HB ?_; intro gb293 w8 BK293 GW293 HB; have := cf6_ BK293.out; have p294 : 0 ≤ (a1 : Int) := zP (by assumption); have q294 : a1 < (l0_1.length : Int) := zP (by assumption); obtain ⟨ad294, e294, hx294_0⟩ := Kd.aX C0_1.r a1 p294 q294; cases e294; replace hx294_0 := kD HB hx294_0; replace p294 := eq_true p294; replace q294 := eq_true q294; have p295 : 0 ≤ (a1 : Int) := zP (by assumption); have q295 : a1 < (l0_3.length : Int) := zP (by assumption); obtain ⟨ad295, e295, hx295_0⟩ := Kd.aX C0_3.r a1 p295 q295; cases e295; replace hx295_0 := kD HB hx295_0; replace p295 := eq_true p295; replace q295 := eq_true q295; have p296 : 0 ≤ (a1 : Int) := zP (by assumption); have q296 : a1 < (l0_2.length : Int) := zP (by assumption); obtain ⟨ad296, e296, hx296_0⟩ := Kd.aX C0_2.r a1 p296 q296; cases e296; replace hx296_0 := kD HB hx296_0; replace p296 := eq_true p296; replace q296 := eq_true q296; have p297 : 0 ≤ (a1 : Int) := zP (by assumption); have q297 : a1 < (l0_4.length : Int) := zP (by assumption); obtain ⟨ad297, e297, hx297_0⟩ := Kd.aX C0_4.r a1 p297 q297; cases e297; replace hx297_0 := kD HB hx297_0; replace p297 := eq_true p297; replace q297 := eq_true q297))
 repeat (go_quiet (first | (refine gD 2 ?_; refine bF (N := 2) (cs := #[.int .i64 a0_0, .slice A0_1 l0_1.length c0_1, .slice A0_2 l0_2.length c0_2, .slice A0_3 l0_3.length c0_3, .slice A0_4 l0_4.length c0_4, .slice A0_5 l0_5.length c0_5]) (t := 26) HB ?_; intro gb293 w8 BK293 GW293 HB; have := cf6_ BK293.out; have p294 : 0 ≤ (a1 : Int) := zP (by assumption); have q294 : a1 < (l0_1.length : Int) := zP (by assumption); obtain ⟨ad294, e294, hx294_0⟩ := Kd.aX C0_1.r a1 p294 q294; cases e294; replace hx294_0 := kD HB hx294_0; replace p294 := eq_true p294; replace q294 := eq_true q294; have p295 : 0 ≤ (a1 : Int) := zP (by assumption); have q295 : a1 < (l0_3.length : Int) := zP (by assumption); obtain ⟨ad295, e295, hx295_0⟩ := Kd.aX C0_3.r a1 p295 q295; cases e295; replace hx295_0 := kD HB hx295_0; replace p295 := eq_true p295; replace q295 := eq_true q295; have p296 : 0 ≤ (a1 : Int) := zP (by assumption); have q296 : a1 < (l0_2.length : Int) := zP (by assumption); obtain ⟨ad296, e296, hx296_0⟩ := Kd.aX C0_2.r a1 p296 q296; cases e296; replace hx296_0 := kD HB hx296_0; replace p296 := eq_true p296; replace q296 := eq_true q296; have p297 : 0 ≤ (a1 : Int) := zP (by assumption); have q297 : a1 < (l0_4.length : Int) := zP (by assumption); obtain ⟨ad297, e297, hx297_0⟩ := Kd.aX C0_4.r a1 p297 q297; cases e297; replace hx297_0 := kD HB hx297_0; replace p297 := eq_true p297; replace q297 := eq_true q297)); try go_wp2_with (first | (refine gD 2 ?_; refine bF (N := 2) (cs := #[.int .i64 a0_0, .slice A0_1 l0_1.length c0_1, .slice A0_2 l0_2.length c0_2, .slice A0_3 l0_3.length c0_3, .slice A0_4 l0_4.length c0_4, .slice A0_5 l0_5.length c0_5]) (t := 26) HB ?_; intro gb293 w8 BK293 GW293 HB; have := cf6_ BK293.out; have p294 : 0 ≤ (a1 : Int) := zP (by assumption); have q294 : a1 < (l0_1.length : Int) := zP (by assumption); obtain ⟨ad294, e294, hx294_0⟩ := Kd.aX C0_1.r a1 p294 q294; cases e294; replace hx294_0 := kD HB hx294_0; replace p294 := eq_true p294; replace q294 := eq_true q294; have p295 : 0 ≤ (a1 : Int) := zP (by assumption); have q295 : a1 < (l0_3.length : Int) := zP (by assumption); obtain ⟨ad295, e295, hx295_0⟩ := Kd.aX C0_3.r a1 p295 q295; cases e295; replace hx295_0 := kD HB hx295_0; replace p295 := eq_true p295; replace q295 := eq_true q295; have p296 : 0 ≤ (a1 : Int) := zP (by assumption); have q296 : a1 < (l0_2.length : Int) := zP (by assumption); obtain ⟨ad296, e296, hx296_0⟩ := Kd.aX C0_2.r a1 p296 q296; cases e296; replace hx296_0 := kD HB hx296_0; replace p296 := eq_true p296; replace q296 := eq_true q296; have p297 : 0 ≤ (a1 : Int) := zP (by assumption); have q297 : a1 < (l0_4.length : Int) := zP (by assumption); obtain ⟨ad297, e297, hx297_0⟩ := Kd.aX C0_4.r a1 p297 q297; cases e297; replace hx297_0 := kD HB hx297_0; replace p297 := eq_true p297; replace q297 := eq_true q297)))
 go_ret
 exact ⟨kE, kR1 HB⟩
mutual
def aG.j0 : Nat → Int → Bool → Int → List Int → List Int → List Int → List Int → List (S68) → Option (Bool)
 | 0, _, _, _, _, _, _, _, _ => none
 | k + 1, x3, x30, x299000, x299001, x299002, x299003, x299004, x299005 => if x30 = true then (some false) else (aG.l0 k x3 0 x299000 x299001 x299002 x299003 x299004 x299005)
def aG.l0 : Nat → Int → Int → Int → List Int → List Int → List Int → List Int → List (S68) → Option (Bool)
 | 0, _, _, _, _, _, _, _, _ => none
 | k + 1, x31, x32, x299000, x299001, x299002, x299003, x299004, x299005 => if x32 < x31 then (if 0 ≤ x32 then (if x32 < (x299001.length : Int) then ((bT.f (rd x299001 x32) 0 40).bind fun t300 => (if t300 = true then (if x32 < (x299003.length : Int) then ((bT.f (rd x299003 x32) 1 40).bind fun t302 => (if t302 = true then (if x32 < (x299004.length : Int) then ((bT.f (rd x299004 x32) 1 40).bind fun t304 => (if t304 = true then (if x32 < (x299002.length : Int) then ((bT.f (rd x299002 x32) (rd x299004 x32) 40).bind fun t307 => (if t307 = true then ((impl_Selection_end.f x299000 x299001 x299002 x299003 x299004 x299005 x32).bind fun t308 => (if t308 > 40 then (some false) else (aG.l0 k x31 (wrap64 (x32 + 1)) x299000 x299001 x299002 x299003 x299004 x299005))) else (some false))) else (none)) else (some false))) else (none)) else (some false))) else (none)) else (some false))) else (none)) else (none)) else (some true)
end
def aG.f (k : Nat) (a0_0 : Int) (l0_1 l0_2 : List Int) (l0_3 l0_4 : List Int) (l0_5 : List (S68)) : Option (Bool) := if (l0_1.length : Int) > 3 then (aG.j0 k (l0_1.length : Int) true a0_0 l0_1 l0_2 l0_3 l0_4 l0_5) else (if (l0_2.length : Int) = (l0_1.length : Int) then (if (l0_3.length : Int) = (l0_1.length : Int) then (aG.j0 k (l0_1.length : Int) ((l0_4.length : Int) != (l0_1.length : Int)) a0_0 l0_1 l0_2 l0_3 l0_4 l0_5) else (aG.j0 k (l0_1.length : Int) true a0_0 l0_1 l0_2 l0_3 l0_4 l0_5)) else (aG.j0 k (l0_1.length : Int) true a0_0 l0_1 l0_2 l0_3 l0_4 l0_5))
def aG.T7 : Bool × List (List Nat × List Nat) := (true, [([], []), ([0], [0]), ([], []), ([1, 2], [1, 2]), ([3], [3]), ([4], [4]), ([5], [5]), ([6, 5], [6]), ([7], [7]), ([8, 7], [7, 8]), ([7], [7]), ([9, 10, 7], [7, 9, 10]), ([11, 7], [7, 11]), ([12, 7, 7], [7, 12]), ([13, 7], [7, 13]), ([7, 14], [7, 14]), ([15, 13], [15]), ([16], [16]), ([17, 16], [16, 17]), ([16], [16]), ([18, 19, 16], [16, 18, 19]), ([20, 16], [16, 20]), ([21, 16, 16], [16, 21]), ([22, 16], [16, 22]), ([16, 23], [16, 23]), ([24, 22], [24]), ([25], [25]), ([26, 25], [25, 26]), ([25], [25]), ([27, 28, 25], [25, 27, 28]), ([29, 25], [25, 29]), ([25], [25]), ([31, 25], [25, 31]), ([25], [25]), ([32, 33, 25], [25, 32, 33]), ([34, 25], [25, 34]), ([30, 35, 25, 25], [25, 30, 35]), ([36, 25], [25, 36]), ([25, 37], [25, 37]), ([38, 36], [38]), ([39], [39]), ([39], [39]), ([40, 41, 39, 39], [39, 40, 41]), ([42, 39], [39, 42]), ([39, 43], [39, 43])])
def aG.B7 : List Nat := [0, 1, 0, 7, 15, 31, 63, 127, 255, 511, 255, 2047, 4095, 8191, 16383, 32767, 65535, 131071, 262143, 131071, 1048575, 2097151, 4194303, 8388607, 16777215, 33554431, 67108863, 134217727, 67108863, 536870911, 1073741823, 67108863, 2214592511, 67108863, 15099494399, 32279363583, 68719476735, 137438953471, 274877906943, 549755813887, 1099511627775, 1099511627775, 4398046511103, 8796093022207, 17592186044415]
theorem aG.tab7 : rtab .any (opsOf Try.f68 7) = aG.T7 := by kernel_rfl
theorem aG.bits7 : waitsOk aG.T7.2 aG.B7 = true := by kernel_rfl
theorem aG.calls (k : Nat) (a0_0 : Int) (A0_1 : Option Addr) (c0_1 : Nat) (l0_1 : List Int) (A0_2 : Option Addr) (c0_2 : Nat) (l0_2 : List Int) (A0_3 : Option Addr) (c0_3 : Nat) (l0_3 : List Int) (A0_4 : Option Addr) (c0_4 : Nat) (l0_4 : List Int) (A0_5 : Option Addr) (c0_5 : Nat) (l0_5 : List (S68)) (r : Bool) (w : World) (C0_1 : Cm (Kd.int .i64) w A0_1 c0_1 l0_1) (C0_2 : Cm (Kd.int .i64) w A0_2 c0_2 l0_2) (C0_3 : Cm (Kd.int .i64) w A0_3 c0_3 l0_3) (C0_4 : Cm (Kd.int .i64) w A0_4 c0_4 l0_4) (C0_5 : Cm k68 w A0_5 c0_5 l0_5) (h : aG.f k a0_0 l0_1 l0_2 l0_3 l0_4 l0_5 = some r) :
 Calls Try.prog 68 #[.agg #[.int .i64 a0_0, .slice A0_1 l0_1.length c0_1, .slice A0_2 l0_2.length c0_2, .slice A0_3 l0_3.length c0_3, .slice A0_4 l0_4.length c0_4, .slice A0_5 l0_5.length c0_5]] w fun e w' => e = .returned (.bool r) ∧ Below w.heap.size w w' := by
 have hu26 := Try.underlying26
 have HB := yD (Below.refl w.heap.size w)
 unfold aG.f at h
 have H := h
 clear h
 have HC2 := yD H
 clear H; go_enter Try.func68, Try.ntmps68
 go_upto_region 2 with (first | (refine gD 1 ?_; (try (refine gate_guard (by rfl) ?_; dsimp only)); refine bF (N := 1) (cs := #[.int .i64 a0_0, .slice A0_1 l0_1.length c0_1, .slice A0_2 l0_2.length c0_2, .slice A0_3 l0_3.length c0_3, .slice A0_4 l0_4.length c0_4, .slice A0_5 l0_5.length c0_5]) (t := 26) HB ?_; intro gb298 w3 BK298 GW298 HB; have := cf6_ BK298.out))
 (try simp only [Act.put, zH, zI, zJ])
 go_cut [30] (fun v30 wc => ∃ (kq : Nat) (x30_1 : Bool), v30 = .bool x30_1 ∧ aC (aG.j0 kq (l0_1.length : Int) x30_1 a0_0 l0_1 l0_2 l0_3 l0_4 l0_5 = some r) ∧ aC (kq ≤ k) ∧ aC (wc.heap[gb298]? = some (.cells #[.int .i64 a0_0, (.slice A0_1 l0_1.length c0_1), (.slice A0_2 l0_2.length c0_2), (.slice A0_3 l0_3.length c0_3), (.slice A0_4 l0_4.length c0_4), (.slice A0_5 l0_5.length c0_5)] 26 (0, 0))) ∧ aC (Below w.heap.size w wc))
 case first =>
  have H := HC2.out; clear HC2
  replace H := sB H; rcases H with ⟨c5, H⟩ | ⟨c5, H⟩
  ·
   have c5b0 : decide (3 < (l0_1.length : Int)) = true := zR c5
   have c5b1 : decide (3 < l0_1.length) = true := zR (by omega)
   clear c5
   (first | rw [c5b0] | (simp only [i64_w, i32_w]; rw [c5b0]) | (simp only [bne] at c5b0; rw [c5b0]) | skip)
   have H' := yD H
   clear H
   go_wp2
   go_meet
   case rel => exact ⟨_, (true), kF, H', ⟨by first | omega | exact Nat.le_refl _⟩, ⟨kM BK298⟩, ⟨kR1 HB⟩⟩
  have c5b0 : decide (3 < (l0_1.length : Int)) = false := zS c5
  have c5b1 : decide (3 < l0_1.length) = false := zS (by omega)
  clear c5
  (first | rw [c5b0] | (simp only [i64_w, i32_w]; rw [c5b0]) | (simp only [bne] at c5b0; rw [c5b0]) | skip)
  replace H := sP H; rcases H with ⟨c6, c6b0, c6b1, H⟩ | ⟨c6, c6b0, c6b1, H⟩
  ·
   have c6b2 : (l0_2.length == l0_1.length) = false := by first | simpa using c6 | (simp at c6 ⊢; omega)
   have H' := yD H
   clear H
   have := cf6_ BK298.out
   go_wp2
   go_meet
   case rel => exact ⟨_, (true), kF, H', ⟨by first | omega | exact Nat.le_refl _⟩, ⟨kM BK298⟩, ⟨kR1 HB⟩⟩
  have c6b2 : (l0_2.length == l0_1.length) = true := by first | simpa using c6 | (simp at c6 ⊢; omega)
  clear c6
  replace H := sP H; rcases H with ⟨c7, c7b0, c7b1, H⟩ | ⟨c7, c7b0, c7b1, H⟩
  ·
   have c7b2 : (l0_3.length == l0_1.length) = false := by first | simpa using c7 | (simp at c7 ⊢; omega)
   have H' := yD H
   clear H
   have := cf6_ BK298.out
   go_wp2
   go_meet
   case rel => exact ⟨_, (true), kF, H', ⟨by first | omega | exact Nat.le_refl _⟩, ⟨kM BK298⟩, ⟨kR1 HB⟩⟩
  have c7b2 : (l0_3.length == l0_1.length) = true := by first | simpa using c7 | (simp at c7 ⊢; omega)
  clear c7
  have H' := yD H
  clear H
  have := cf6_ BK298.out
  go_wp2
  go_meet
  case rel => exact ⟨_, (((l0_4.length : Int) != (l0_1.length : Int))), kF, H', ⟨by first | omega | exact Nat.le_refl _⟩, ⟨kM BK298⟩, ⟨kR1 HB⟩⟩
 case rest =>
  clear HC2
  obtain ⟨kq, x30_1, rfl, HA, HJ1, BK298, HB⟩ := hcut
  cases kq with
  | zero => exact absurd HA.out (by simp [aG.j0])
  | succ kj1 =>
   have H := HA.out; clear HA
   simp only [aG.j0] at H
   replace H := sT H; rcases H with ⟨rfl, H⟩ | ⟨rfl, H⟩
   · obtain rfl := sJ H
     go_wp2
     go_ret
     exact ⟨kE, kR1 HB⟩
   have H' := yD H
   clear H
   go_wp2
   go_loopg [32] kj1 (fun kq v32 w' => ∃ (x32_2 : Int), v32 = .int .i64 x32_2 ∧ aC (aG.l0 kq (l0_1.length : Int) x32_2 a0_0 l0_1 l0_2 l0_3 l0_4 l0_5 = some r) ∧ aC (kq ≤ kj1) ∧ aC (w'.heap[gb298]? = some (.cells #[.int .i64 a0_0, (.slice A0_1 l0_1.length c0_1), (.slice A0_2 l0_2.length c0_2), (.slice A0_3 l0_3.length c0_3), (.slice A0_4 l0_4.length c0_4), (.slice A0_5 l0_5.length c0_5)] 26 (0, 0))) ∧ aC (Below w.heap.size w w'))
   case atStart => exact ⟨(0), kF, H', ⟨Nat.le_refl _⟩, ⟨kM BK298⟩, ⟨kR1 HB⟩⟩
   case round =>
    clear H'
    obtain ⟨x32_2, rfl, HA, HK2, BK298, HB⟩ := hrel
    cases gk with
    | zero => exact absurd HA.out (by simp [aG.l0])
    | succ k2 =>
     have H := HA.out; clear HA
     simp only [aG.l0] at H
     replace H := sG H; rcases H with ⟨c12b0, H⟩ | ⟨c12b0, H⟩
     · obtain rfl := sJ H
       go_wp2
       go_ret
       exact ⟨kE, kR1 HB⟩
     replace ⟨c13b0, H⟩ := sE H
     replace ⟨c14b0, H⟩ := sE H
     replace ⟨t300, A15, H⟩ := sV H
     replace H := sS H; rcases H with ⟨rfl, H⟩ | ⟨rfl, H⟩
     ·
      obtain rfl := sJ H
      try go_wp2
      replace BK298 := yD (yO BK298.out); replace HB := yD (yP HB.out)
      obtain ⟨p299, q299, ad299, e299, hx299_0⟩ := sI (Kd.aX C0_1.r x32_2)
      have hw299_0 := hx299_0; cases e299
      replace hx299_0 := kD HB hx299_0
      refine s0 (m := 45) (S := fun w' => cl w' gb298 0 (.int .i64 a0_0) ∧ cl w' gb298 1 (.slice (some ad299) l0_1.length c0_1) ∧ cl w' gb298 2 (.slice A0_2 l0_2.length c0_2) ∧ cl w' gb298 3 (.slice A0_3 l0_3.length c0_3) ∧ cl w' gb298 4 (.slice A0_4 l0_4.length c0_4) ∧ cl w' gb298 5 (.slice A0_5 l0_5.length c0_5) ∧ w'.cell? (ad299.add (x32_2).toNat) = some (.int .i64 (rd l0_1 x32_2))) aG.tab7 aG.bits7 (ca6_ BK298.out ((kC HB hw299_0))) fun hHeld HT_ HW_ => ?_
      generalize wr.drew = w35 at BK298 HB hx299_0 hHeld ⊢
      refine qa 45 0 1 ?_; refine qa 45 2 5 ?_; refine qc 45 1 7 hHeld ?_; refine qa 45 3 15 ?_; refine qc 45 4 31 hHeld ?_
      refine qo 45 5 63 (some 40) fun K hK => ?_
      refine qg Try.func62 _ (dm (bT.calls (rd l0_1 x32_2) 0 40 false _ A15.out) fun nd => ?_)
      refine hK.out _ _ (ca6_ BK298.out ((kC HB hw299_0))) (fun hHeld => ?_)
      clear hK K
      refine nZ 40 ?_
      refine qa 45 6 127 ?_; refine qa 45 7 255 ?_; refine qb 45 8 511 ?_; refine qb 45 9 1023 ?_; refine qb 45 10 2047 ?_; refine qb 45 11 4095 ?_; refine qb 45 12 8191 ?_; refine qb 45 13 16383 ?_; refine qb 45 14 32767 ?_; refine qa 45 15 65535 ?_; refine qa 45 16 131071 ?_; refine qb 45 17 262143 ?_; refine qb 45 18 524287 ?_; refine qb 45 19 1048575 ?_; refine qb 45 20 2097151 ?_; refine qb 45 21 4194303 ?_; refine qb 45 22 8388607 ?_; refine qb 45 23 16777215 ?_; refine qa 45 24 33554431 ?_; refine qa 45 25 67108863 ?_; refine qb 45 26 134217727 ?_; refine qb 45 27 268435455 ?_; refine qb 45 28 536870911 ?_; refine qb 45 29 1073741823 ?_; refine qb 45 30 2147483647 ?_; refine qb 45 31 4294967295 ?_; refine qb 45 32 8589934591 ?_; refine qb 45 33 17179869183 ?_; refine qb 45 34 34359738367 ?_; refine qb 45 35 68719476735 ?_; refine qb 45 36 137438953471 ?_; refine qb 45 37 274877906943 ?_; refine qa 45 38 549755813887 ?_; refine qa 45 39 1099511627775 ?_; refine qb 45 40 2199023255551 ?_; refine qb 45 41 4398046511103 ?_; refine qb 45 42 8796093022207 ?_; refine qb 45 43 17592186044415 ?_; refine qa 45 44 35184372088831 ?_
      refine qd ?_
      try go_wp2
      go_ret
      exact ⟨kE, kR1 HB⟩
     replace ⟨c17b0, H⟩ := sE H
     replace ⟨t302, A18, H⟩ := sV H
     replace H := sS H; rcases H with ⟨rfl, H⟩ | ⟨rfl, H⟩
     ·
      obtain rfl := sJ H
      try go_wp2
      replace BK298 := yD (yO BK298.out); replace HB := yD (yP HB.out)
      obtain ⟨p299, q299, ad299, e299, hx299_0⟩ := sI (Kd.aX C0_1.r x32_2)
      have hw299_0 := hx299_0; cases e299
      replace hx299_0 := kD HB hx299_0
      obtain ⟨p301, q301, ad301, e301, hx301_0⟩ := sI (Kd.aX C0_3.r x32_2)
      have hw301_0 := hx301_0; cases e301
      replace hx301_0 := kD HB hx301_0
      refine s0 (m := 45) (S := fun w' => cl w' gb298 0 (.int .i64 a0_0) ∧ cl w' gb298 1 (.slice (some ad299) l0_1.length c0_1) ∧ cl w' gb298 2 (.slice A0_2 l0_2.length c0_2) ∧ cl w' gb298 3 (.slice (some ad301) l0_3.length c0_3) ∧ cl w' gb298 4 (.slice A0_4 l0_4.length c0_4) ∧ cl w' gb298 5 (.slice A0_5 l0_5.length c0_5) ∧ w'.cell? (ad299.add (x32_2).toNat) = some (.int .i64 (rd l0_1 x32_2)) ∧ w'.cell? (ad301.add (x32_2).toNat) = some (.int .i64 (rd l0_3 x32_2))) aG.tab7 aG.bits7 (ca6_ BK298.out ⟨(kC HB hw299_0), (kC HB hw301_0)⟩) fun hHeld HT_ HW_ => ?_
      generalize wr.drew = w34 at BK298 HB hx299_0 hx301_0 hHeld ⊢
      refine qa 45 0 1 ?_; refine qa 45 2 5 ?_; refine qc 45 1 7 hHeld ?_; refine qa 45 3 15 ?_; refine qc 45 4 31 hHeld ?_
      refine qo 45 5 63 (some 40) fun K hK => ?_
      refine qg Try.func62 _ (dm (bT.calls (rd l0_1 x32_2) 0 40 true _ A15.out) fun nd => ?_)
      refine hK.out _ _ (ca6_ BK298.out ⟨(kC HB hw299_0), (kC HB hw301_0)⟩) (fun hHeld => ?_)
      clear hK K
      refine nZ 40 ?_
      refine qa 45 6 127 ?_; refine qa 45 7 255 ?_; refine qa 45 8 511 ?_; refine qa 45 10 1535 ?_; refine qc 45 9 2047 hHeld ?_; refine qa 45 11 4095 ?_; refine qc 45 12 8191 hHeld ?_
      refine qo 45 13 16383 (some 48) fun K hK => ?_
      refine qg Try.func62 _ (dm (bT.calls (rd l0_3 x32_2) 1 40 false _ A18.out) fun nd => ?_)
      refine hK.out _ _ (ca6_ BK298.out ⟨(kC HB hw299_0), (kC HB hw301_0)⟩) (fun hHeld => ?_)
      clear hK K
      refine nZ 48 ?_
      refine qa 45 14 32767 ?_; refine qa 45 15 65535 ?_; refine qa 45 16 131071 ?_; refine qb 45 17 262143 ?_; refine qb 45 18 524287 ?_; refine qb 45 19 1048575 ?_; refine qb 45 20 2097151 ?_; refine qb 45 21 4194303 ?_; refine qb 45 22 8388607 ?_; refine qb 45 23 16777215 ?_; refine qa 45 24 33554431 ?_; refine qa 45 25 67108863 ?_; refine qb 45 26 134217727 ?_; refine qb 45 27 268435455 ?_; refine qb 45 28 536870911 ?_; refine qb 45 29 1073741823 ?_; refine qb 45 30 2147483647 ?_; refine qb 45 31 4294967295 ?_; refine qb 45 32 8589934591 ?_; refine qb 45 33 17179869183 ?_; refine qb 45 34 34359738367 ?_; refine qb 45 35 68719476735 ?_; refine qb 45 36 137438953471 ?_; refine qb 45 37 274877906943 ?_; refine qa 45 38 549755813887 ?_; refine qa 45 39 1099511627775 ?_; refine qb 45 40 2199023255551 ?_; refine qb 45 41 4398046511103 ?_; refine qb 45 42 8796093022207 ?_; refine qb 45 43 17592186044415 ?_; refine qa 45 44 35184372088831 ?_
      refine qd ?_
      try go_wp2
      go_ret
      exact ⟨kE, kR1 HB⟩
     replace ⟨c20b0, H⟩ := sE H
     replace ⟨t304, A21, H⟩ := sV H
     replace H := sS H; rcases H with ⟨rfl, H⟩ | ⟨rfl, H⟩
     ·
      obtain rfl := sJ H
      try go_wp2
      replace BK298 := yD (yO BK298.out); replace HB := yD (yP HB.out)
      obtain ⟨p299, q299, ad299, e299, hx299_0⟩ := sI (Kd.aX C0_1.r x32_2)
      have hw299_0 := hx299_0; cases e299
      replace hx299_0 := kD HB hx299_0
      obtain ⟨p301, q301, ad301, e301, hx301_0⟩ := sI (Kd.aX C0_3.r x32_2)
      have hw301_0 := hx301_0; cases e301
      replace hx301_0 := kD HB hx301_0
      obtain ⟨p303, q303, ad303, e303, hx303_0⟩ := sI (Kd.aX C0_4.r x32_2)
      have hw303_0 := hx303_0; cases e303
      replace hx303_0 := kD HB hx303_0
      refine s0 (m := 45) (S := fun w' => cl w' gb298 0 (.int .i64 a0_0) ∧ cl w' gb298 1 (.slice (some ad299) l0_1.length c0_1) ∧ cl w' gb298 2 (.slice A0_2 l0_2.length c0_2) ∧ cl w' gb298 3 (.slice (some ad301) l0_3.length c0_3) ∧ cl w' gb298 4 (.slice (some ad303) l0_4.length c0_4) ∧ cl w' gb298 5 (.slice A0_5 l0_5.length c0_5) ∧ w'.cell? (ad299.add (x32_2).toNat) = some (.int .i64 (rd l0_1 x32_2)) ∧ w'.cell? (ad301.add (x32_2).toNat) = some (.int .i64 (rd l0_3 x32_2)) ∧ w'.cell? (ad303.add (x32_2).toNat) = some (.int .i64 (rd l0_4 x32_2))) aG.tab7 aG.bits7 (ca6_ BK298.out ⟨(kC HB hw299_0), (kC HB hw301_0), (kC HB hw303_0)⟩) fun hHeld HT_ HW_ => ?_
      generalize wr.drew = w33 at BK298 HB hx299_0 hx301_0 hx303_0 hHeld ⊢
      refine qa 45 0 1 ?_; refine qa 45 2 5 ?_; refine qc 45 1 7 hHeld ?_; refine qa 45 3 15 ?_; refine qc 45 4 31 hHeld ?_
      refine qo 45 5 63 (some 40) fun K hK => ?_
      refine qg Try.func62 _ (dm (bT.calls (rd l0_1 x32_2) 0 40 true _ A15.out) fun nd => ?_)
      refine hK.out _ _ (ca6_ BK298.out ⟨(kC HB hw299_0), (kC HB hw301_0), (kC HB hw303_0)⟩) (fun hHeld => ?_)
      clear hK K
      refine nZ 40 ?_
      refine qa 45 6 127 ?_; refine qa 45 7 255 ?_; refine qa 45 8 511 ?_; refine qa 45 10 1535 ?_; refine qc 45 9 2047 hHeld ?_; refine qa 45 11 4095 ?_; refine qc 45 12 8191 hHeld ?_
      refine qo 45 13 16383 (some 48) fun K hK => ?_
      refine qg Try.func62 _ (dm (bT.calls (rd l0_3 x32_2) 1 40 true _ A18.out) fun nd => ?_)
      refine hK.out _ _ (ca6_ BK298.out ⟨(kC HB hw299_0), (kC HB hw301_0), (kC HB hw303_0)⟩) (fun hHeld => ?_)
      clear hK K
      refine nZ 48 ?_
      refine qa 45 14 32767 ?_; refine qa 45 15 65535 ?_; refine qa 45 16 131071 ?_; refine qa 45 17 262143 ?_; refine qa 45 19 786431 ?_; refine qc 45 18 1048575 hHeld ?_; refine qa 45 20 2097151 ?_; refine qc 45 21 4194303 hHeld ?_
      refine qo 45 22 8388607 (some 57) fun K hK => ?_
      refine qg Try.func62 _ (dm (bT.calls (rd l0_4 x32_2) 1 40 false _ A21.out) fun nd => ?_)
      refine hK.out _ _ (ca6_ BK298.out ⟨(kC HB hw299_0), (kC HB hw301_0), (kC HB hw303_0)⟩) (fun hHeld => ?_)
      clear hK K
      refine nZ 57 ?_
      refine qa 45 23 16777215 ?_; refine qa 45 24 33554431 ?_; refine qa 45 25 67108863 ?_; refine qb 45 26 134217727 ?_; refine qb 45 27 268435455 ?_; refine qb 45 28 536870911 ?_; refine qb 45 29 1073741823 ?_; refine qb 45 30 2147483647 ?_; refine qb 45 31 4294967295 ?_; refine qb 45 32 8589934591 ?_; refine qb 45 33 17179869183 ?_; refine qb 45 34 34359738367 ?_; refine qb 45 35 68719476735 ?_; refine qb 45 36 137438953471 ?_; refine qb 45 37 274877906943 ?_; refine qa 45 38 549755813887 ?_; refine qa 45 39 1099511627775 ?_; refine qb 45 40 2199023255551 ?_; refine qb 45 41 4398046511103 ?_; refine qb 45 42 8796093022207 ?_; refine qb 45 43 17592186044415 ?_; refine qa 45 44 35184372088831 ?_
      refine qd ?_
      try go_wp2
      go_ret
      exact ⟨kE, kR1 HB⟩
     replace ⟨c23b0, H⟩ := sE H
     replace ⟨t307, A24, H⟩ := sV H
     replace H := sS H; rcases H with ⟨rfl, H⟩ | ⟨rfl, H⟩
     ·
      obtain rfl := sJ H
      try go_wp2
      replace BK298 := yD (yO BK298.out); replace HB := yD (yP HB.out)
      obtain ⟨p299, q299, ad299, e299, hx299_0⟩ := sI (Kd.aX C0_1.r x32_2)
      have hw299_0 := hx299_0; cases e299
      replace hx299_0 := kD HB hx299_0
      obtain ⟨p301, q301, ad301, e301, hx301_0⟩ := sI (Kd.aX C0_3.r x32_2)
      have hw301_0 := hx301_0; cases e301
      replace hx301_0 := kD HB hx301_0
      obtain ⟨p303, q303, ad303, e303, hx303_0⟩ := sI (Kd.aX C0_4.r x32_2)
      have hw303_0 := hx303_0; cases e303
      replace hx303_0 := kD HB hx303_0
      obtain ⟨p305, q305, ad305, e305, hx305_0⟩ := sI (Kd.aX C0_2.r x32_2)
      have hw305_0 := hx305_0; cases e305
      replace hx305_0 := kD HB hx305_0
      obtain ⟨p306, q306, ad306, e306, hx306_0⟩ := sI (Kd.aX C0_4.r x32_2)
      have hw306_0 := hx306_0
      obtain rfl : ad303 = ad306 := (by injection e306)
      replace hx306_0 := kD HB hx306_0
      refine s0 (m := 45) (S := fun w' => cl w' gb298 0 (.int .i64 a0_0) ∧ cl w' gb298 1 (.slice (some ad299) l0_1.length c0_1) ∧ cl w' gb298 2 (.slice (some ad305) l0_2.length c0_2) ∧ cl w' gb298 3 (.slice (some ad301) l0_3.length c0_3) ∧ cl w' gb298 4 (.slice (some ad303) l0_4.length c0_4) ∧ cl w' gb298 5 (.slice A0_5 l0_5.length c0_5) ∧ w'.cell? (ad299.add (x32_2).toNat) = some (.int .i64 (rd l0_1 x32_2)) ∧ w'.cell? (ad301.add (x32_2).toNat) = some (.int .i64 (rd l0_3 x32_2)) ∧ w'.cell? (ad303.add (x32_2).toNat) = some (.int .i64 (rd l0_4 x32_2)) ∧ w'.cell? (ad305.add (x32_2).toNat) = some (.int .i64 (rd l0_2 x32_2)) ∧ w'.cell? (ad303.add (x32_2).toNat) = some (.int .i64 (rd l0_4 x32_2))) aG.tab7 aG.bits7 (ca6_ BK298.out ⟨(kC HB hw299_0), (kC HB hw301_0), (kC HB hw303_0), (kC HB hw305_0), (kC HB hw306_0)⟩) fun hHeld HT_ HW_ => ?_
      generalize wr.drew = w32 at BK298 HB hx299_0 hx301_0 hx303_0 hx305_0 hx306_0 hHeld ⊢
      refine qa 45 0 1 ?_; refine qa 45 2 5 ?_; refine qc 45 1 7 hHeld ?_; refine qa 45 3 15 ?_; refine qc 45 4 31 hHeld ?_
      refine qo 45 5 63 (some 40) fun K hK => ?_
      refine qg Try.func62 _ (dm (bT.calls (rd l0_1 x32_2) 0 40 true _ A15.out) fun nd => ?_)
      refine hK.out _ _ (ca6_ BK298.out ⟨(kC HB hw299_0), (kC HB hw301_0), (kC HB hw303_0), (kC HB hw305_0), (kC HB hw306_0)⟩) (fun hHeld => ?_)
      clear hK K
      refine nZ 40 ?_
      refine qa 45 6 127 ?_; refine qa 45 7 255 ?_; refine qa 45 8 511 ?_; refine qa 45 10 1535 ?_; refine qc 45 9 2047 hHeld ?_; refine qa 45 11 4095 ?_; refine qc 45 12 8191 hHeld ?_
      refine qo 45 13 16383 (some 48) fun K hK => ?_
      refine qg Try.func62 _ (dm (bT.calls (rd l0_3 x32_2) 1 40 true _ A18.out) fun nd => ?_)
      refine hK.out _ _ (ca6_ BK298.out ⟨(kC HB hw299_0), (kC HB hw301_0), (kC HB hw303_0), (kC HB hw305_0), (kC HB hw306_0)⟩) (fun hHeld => ?_)
      clear hK K
      refine nZ 48 ?_
      refine qa 45 14 32767 ?_; refine qa 45 15 65535 ?_; refine qa 45 16 131071 ?_; refine qa 45 17 262143 ?_; refine qa 45 19 786431 ?_; refine qc 45 18 1048575 hHeld ?_; refine qa 45 20 2097151 ?_; refine qc 45 21 4194303 hHeld ?_
      refine qo 45 22 8388607 (some 57) fun K hK => ?_
      refine qg Try.func62 _ (dm (bT.calls (rd l0_4 x32_2) 1 40 true _ A21.out) fun nd => ?_)
      refine hK.out _ _ (ca6_ BK298.out ⟨(kC HB hw299_0), (kC HB hw301_0), (kC HB hw303_0), (kC HB hw305_0), (kC HB hw306_0)⟩) (fun hHeld => ?_)
      clear hK K
      refine nZ 57 ?_
      refine qa 45 23 16777215 ?_; refine qa 45 24 33554431 ?_; refine qa 45 25 67108863 ?_; refine qa 45 26 134217727 ?_; refine qa 45 28 402653183 ?_; refine qa 45 31 2550136831 ?_; refine qa 45 33 11140071423 ?_; refine qc 45 27 11274289151 hHeld ?_; refine qa 45 29 11811160063 ?_; refine qc 45 30 12884901887 hHeld ?_; refine qc 45 32 17179869183 hHeld ?_; refine qa 45 34 34359738367 ?_; refine qc 45 35 68719476735 hHeld ?_
      refine qo 45 36 137438953471 (some 71) fun K hK => ?_
      refine qg Try.func62 _ (dm (bT.calls (rd l0_2 x32_2) (rd l0_4 x32_2) 40 false _ A24.out) fun nd => ?_)
      refine hK.out _ _ (ca6_ BK298.out ⟨(kC HB hw299_0), (kC HB hw301_0), (kC HB hw303_0), (kC HB hw305_0), (kC HB hw306_0)⟩) (fun hHeld => ?_)
      clear hK K
      refine nZ 71 ?_
      refine qa 45 37 274877906943 ?_; refine qa 45 38 549755813887 ?_; refine qa 45 39 1099511627775 ?_; refine qb 45 40 2199023255551 ?_; refine qb 45 41 4398046511103 ?_; refine qb 45 42 8796093022207 ?_; refine qb 45 43 17592186044415 ?_; refine qa 45 44 35184372088831 ?_
      refine qd ?_
      try go_wp2
      go_ret
      exact ⟨kE, kR1 HB⟩
     replace ⟨t308, A26, H⟩ := sV H
     replace H := sB H; rcases H with ⟨c27, H⟩ | ⟨c27, H⟩
     ·
      have c27b0 : decide (40 < t308) = true := zR c27; clear c27; obtain rfl := sJ H
      try go_wp2
      replace BK298 := yD (yO BK298.out); replace HB := yD (yP HB.out)
      obtain ⟨p299, q299, ad299, e299, hx299_0⟩ := sI (Kd.aX C0_1.r x32_2)
      have hw299_0 := hx299_0; cases e299
      replace hx299_0 := kD HB hx299_0
      obtain ⟨p301, q301, ad301, e301, hx301_0⟩ := sI (Kd.aX C0_3.r x32_2)
      have hw301_0 := hx301_0; cases e301
      replace hx301_0 := kD HB hx301_0
      obtain ⟨p303, q303, ad303, e303, hx303_0⟩ := sI (Kd.aX C0_4.r x32_2)
      have hw303_0 := hx303_0; cases e303
      replace hx303_0 := kD HB hx303_0
      obtain ⟨p305, q305, ad305, e305, hx305_0⟩ := sI (Kd.aX C0_2.r x32_2)
      have hw305_0 := hx305_0; cases e305
      replace hx305_0 := kD HB hx305_0
      obtain ⟨p306, q306, ad306, e306, hx306_0⟩ := sI (Kd.aX C0_4.r x32_2)
      have hw306_0 := hx306_0
      obtain rfl : ad303 = ad306 := (by injection e306)
      replace hx306_0 := kD HB hx306_0
      refine s0 (m := 45) (S := fun w' => cl w' gb298 0 (.int .i64 a0_0) ∧ cl w' gb298 1 (.slice (some ad299) l0_1.length c0_1) ∧ cl w' gb298 2 (.slice (some ad305) l0_2.length c0_2) ∧ cl w' gb298 3 (.slice (some ad301) l0_3.length c0_3) ∧ cl w' gb298 4 (.slice (some ad303) l0_4.length c0_4) ∧ cl w' gb298 5 (.slice A0_5 l0_5.length c0_5) ∧ w'.cell? (ad299.add (x32_2).toNat) = some (.int .i64 (rd l0_1 x32_2)) ∧ w'.cell? (ad301.add (x32_2).toNat) = some (.int .i64 (rd l0_3 x32_2)) ∧ w'.cell? (ad303.add (x32_2).toNat) = some (.int .i64 (rd l0_4 x32_2)) ∧ w'.cell? (ad305.add (x32_2).toNat) = some (.int .i64 (rd l0_2 x32_2)) ∧ w'.cell? (ad303.add (x32_2).toNat) = some (.int .i64 (rd l0_4 x32_2))) aG.tab7 aG.bits7 (ca6_ BK298.out ⟨(kC HB hw299_0), (kC HB hw301_0), (kC HB hw303_0), (kC HB hw305_0), (kC HB hw306_0)⟩) fun hHeld HT_ HW_ => ?_
      generalize wr.drew = w28 at BK298 HB hx299_0 hx301_0 hx303_0 hx305_0 hx306_0 hHeld ⊢
      refine qa 45 0 1 ?_; refine qa 45 2 5 ?_; refine qc 45 1 7 hHeld ?_; refine qa 45 3 15 ?_; refine qc 45 4 31 hHeld ?_
      refine qo 45 5 63 (some 40) fun K hK => ?_
      refine qg Try.func62 _ (dm (bT.calls (rd l0_1 x32_2) 0 40 true _ A15.out) fun nd => ?_)
      refine hK.out _ _ (ca6_ BK298.out ⟨(kC HB hw299_0), (kC HB hw301_0), (kC HB hw303_0), (kC HB hw305_0), (kC HB hw306_0)⟩) (fun hHeld => ?_)
      clear hK K
      refine nZ 40 ?_
      refine qa 45 6 127 ?_; refine qa 45 7 255 ?_; refine qa 45 8 511 ?_; refine qa 45 10 1535 ?_; refine qc 45 9 2047 hHeld ?_; refine qa 45 11 4095 ?_; refine qc 45 12 8191 hHeld ?_
      refine qo 45 13 16383 (some 48) fun K hK => ?_
      refine qg Try.func62 _ (dm (bT.calls (rd l0_3 x32_2) 1 40 true _ A18.out) fun nd => ?_)
      refine hK.out _ _ (ca6_ BK298.out ⟨(kC HB hw299_0), (kC HB hw301_0), (kC HB hw303_0), (kC HB hw305_0), (kC HB hw306_0)⟩) (fun hHeld => ?_)
      clear hK K
      refine nZ 48 ?_
      refine qa 45 14 32767 ?_; refine qa 45 15 65535 ?_; refine qa 45 16 131071 ?_; refine qa 45 17 262143 ?_; refine qa 45 19 786431 ?_; refine qc 45 18 1048575 hHeld ?_; refine qa 45 20 2097151 ?_; refine qc 45 21 4194303 hHeld ?_
      refine qo 45 22 8388607 (some 57) fun K hK => ?_
      refine qg Try.func62 _ (dm (bT.calls (rd l0_4 x32_2) 1 40 true _ A21.out) fun nd => ?_)
      refine hK.out _ _ (ca6_ BK298.out ⟨(kC HB hw299_0), (kC HB hw301_0), (kC HB hw303_0), (kC HB hw305_0), (kC HB hw306_0)⟩) (fun hHeld => ?_)
      clear hK K
      refine nZ 57 ?_
      refine qa 45 23 16777215 ?_; refine qa 45 24 33554431 ?_; refine qa 45 25 67108863 ?_; refine qa 45 26 134217727 ?_; refine qa 45 28 402653183 ?_; refine qa 45 31 2550136831 ?_; refine qa 45 33 11140071423 ?_; refine qc 45 27 11274289151 hHeld ?_; refine qa 45 29 11811160063 ?_; refine qc 45 30 12884901887 hHeld ?_; refine qc 45 32 17179869183 hHeld ?_; refine qa 45 34 34359738367 ?_; refine qc 45 35 68719476735 hHeld ?_
      refine qo 45 36 137438953471 (some 71) fun K hK => ?_
      refine qg Try.func62 _ (dm (bT.calls (rd l0_2 x32_2) (rd l0_4 x32_2) 40 true _ A24.out) fun nd => ?_)
      refine hK.out _ _ (ca6_ BK298.out ⟨(kC HB hw299_0), (kC HB hw301_0), (kC HB hw303_0), (kC HB hw305_0), (kC HB hw306_0)⟩) (fun hHeld => ?_)
      clear hK K
      refine nZ 71 ?_
      refine qa 45 37 274877906943 ?_; refine qa 45 38 549755813887 ?_; refine qa 45 39 1099511627775 ?_; refine qa 45 41 3298534883327 ?_; refine qc 45 40 4398046511103 hHeld ?_
      refine qo 45 42 8796093022207 (some 77) fun K hK => ?_
      refine qg Try.func70 _ (dn (impl_Selection_end.calls a0_0 _ _ l0_1 _ _ l0_2 _ _ l0_3 _ _ l0_4 _ _ l0_5 x32_2 t308 _ (C0_1.b HB) (C0_2.b HB) (C0_3.b HB) (C0_4.b HB) (C0_5.b HB) A26.out) fun w29 hb => ?_)
      replace BK298 := zY BK298 hb; replace HB := zX HB hb
      refine hK.out _ _ (ca6_ BK298.out ⟨(kC HB hw299_0), (kC HB hw301_0), (kC HB hw303_0), (kC HB hw305_0), (kC HB hw306_0)⟩) (fun hHeld => ?_)
      clear hK K
      refine nZ 77 ?_
      refine qa 45 43 17592186044415 ?_; refine qa 45 44 35184372088831 ?_
      refine qd ?_
      try go_wp2
      go_ret
      exact ⟨kE, kR1 HB⟩
     have c27b0 : decide (40 < t308) = false := zS c27; clear c27
     have H' := yD H
     clear H
     try go_wp2
     replace BK298 := yD (yO BK298.out); replace HB := yD (yP HB.out)
     obtain ⟨p299, q299, ad299, e299, hx299_0⟩ := sI (Kd.aX C0_1.r x32_2)
     have hw299_0 := hx299_0; cases e299
     replace hx299_0 := kD HB hx299_0
     obtain ⟨p301, q301, ad301, e301, hx301_0⟩ := sI (Kd.aX C0_3.r x32_2)
     have hw301_0 := hx301_0; cases e301
     replace hx301_0 := kD HB hx301_0
     obtain ⟨p303, q303, ad303, e303, hx303_0⟩ := sI (Kd.aX C0_4.r x32_2)
     have hw303_0 := hx303_0; cases e303
     replace hx303_0 := kD HB hx303_0
     obtain ⟨p305, q305, ad305, e305, hx305_0⟩ := sI (Kd.aX C0_2.r x32_2)
     have hw305_0 := hx305_0; cases e305
     replace hx305_0 := kD HB hx305_0
     obtain ⟨p306, q306, ad306, e306, hx306_0⟩ := sI (Kd.aX C0_4.r x32_2)
     have hw306_0 := hx306_0
     obtain rfl : ad303 = ad306 := (by injection e306)
     replace hx306_0 := kD HB hx306_0
     refine s0 (m := 45) (S := fun w' => cl w' gb298 0 (.int .i64 a0_0) ∧ cl w' gb298 1 (.slice (some ad299) l0_1.length c0_1) ∧ cl w' gb298 2 (.slice (some ad305) l0_2.length c0_2) ∧ cl w' gb298 3 (.slice (some ad301) l0_3.length c0_3) ∧ cl w' gb298 4 (.slice (some ad303) l0_4.length c0_4) ∧ cl w' gb298 5 (.slice A0_5 l0_5.length c0_5) ∧ w'.cell? (ad299.add (x32_2).toNat) = some (.int .i64 (rd l0_1 x32_2)) ∧ w'.cell? (ad301.add (x32_2).toNat) = some (.int .i64 (rd l0_3 x32_2)) ∧ w'.cell? (ad303.add (x32_2).toNat) = some (.int .i64 (rd l0_4 x32_2)) ∧ w'.cell? (ad305.add (x32_2).toNat) = some (.int .i64 (rd l0_2 x32_2)) ∧ w'.cell? (ad303.add (x32_2).toNat) = some (.int .i64 (rd l0_4 x32_2))) aG.tab7 aG.bits7 (ca6_ BK298.out ⟨(kC HB hw299_0), (kC HB hw301_0), (kC HB hw303_0), (kC HB hw305_0), (kC HB hw306_0)⟩) fun hHeld HT_ HW_ => ?_
     generalize wr.drew = w30 at BK298 HB hx299_0 hx301_0 hx303_0 hx305_0 hx306_0 hHeld ⊢
     refine qa 45 0 1 ?_; refine qa 45 2 5 ?_; refine qc 45 1 7 hHeld ?_; refine qa 45 3 15 ?_; refine qc 45 4 31 hHeld ?_
     refine qo 45 5 63 (some 40) fun K hK => ?_
     refine qg Try.func62 _ (dm (bT.calls (rd l0_1 x32_2) 0 40 true _ A15.out) fun nd => ?_)
     refine hK.out _ _ (ca6_ BK298.out ⟨(kC HB hw299_0), (kC HB hw301_0), (kC HB hw303_0), (kC HB hw305_0), (kC HB hw306_0)⟩) (fun hHeld => ?_)
     clear hK K
     refine nZ 40 ?_
     refine qa 45 6 127 ?_; refine qa 45 7 255 ?_; refine qa 45 8 511 ?_; refine qa 45 10 1535 ?_; refine qc 45 9 2047 hHeld ?_; refine qa 45 11 4095 ?_; refine qc 45 12 8191 hHeld ?_
     refine qo 45 13 16383 (some 48) fun K hK => ?_
     refine qg Try.func62 _ (dm (bT.calls (rd l0_3 x32_2) 1 40 true _ A18.out) fun nd => ?_)
     refine hK.out _ _ (ca6_ BK298.out ⟨(kC HB hw299_0), (kC HB hw301_0), (kC HB hw303_0), (kC HB hw305_0), (kC HB hw306_0)⟩) (fun hHeld => ?_)
     clear hK K
     refine nZ 48 ?_
     refine qa 45 14 32767 ?_; refine qa 45 15 65535 ?_; refine qa 45 16 131071 ?_; refine qa 45 17 262143 ?_; refine qa 45 19 786431 ?_; refine qc 45 18 1048575 hHeld ?_; refine qa 45 20 2097151 ?_; refine qc 45 21 4194303 hHeld ?_
     refine qo 45 22 8388607 (some 57) fun K hK => ?_
     refine qg Try.func62 _ (dm (bT.calls (rd l0_4 x32_2) 1 40 true _ A21.out) fun nd => ?_)
     refine hK.out _ _ (ca6_ BK298.out ⟨(kC HB hw299_0), (kC HB hw301_0), (kC HB hw303_0), (kC HB hw305_0), (kC HB hw306_0)⟩) (fun hHeld => ?_)
     clear hK K
     refine nZ 57 ?_
     refine qa 45 23 16777215 ?_; refine qa 45 24 33554431 ?_; refine qa 45 25 67108863 ?_; refine qa 45 26 134217727 ?_; refine qa 45 28 402653183 ?_; refine qa 45 31 2550136831 ?_; refine qa 45 33 11140071423 ?_; refine qc 45 27 11274289151 hHeld ?_; refine qa 45 29 11811160063 ?_; refine qc 45 30 12884901887 hHeld ?_; refine qc 45 32 17179869183 hHeld ?_; refine qa 45 34 34359738367 ?_; refine qc 45 35 68719476735 hHeld ?_
     refine qo 45 36 137438953471 (some 71) fun K hK => ?_
     refine qg Try.func62 _ (dm (bT.calls (rd l0_2 x32_2) (rd l0_4 x32_2) 40 true _ A24.out) fun nd => ?_)
     refine hK.out _ _ (ca6_ BK298.out ⟨(kC HB hw299_0), (kC HB hw301_0), (kC HB hw303_0), (kC HB hw305_0), (kC HB hw306_0)⟩) (fun hHeld => ?_)
     clear hK K
     refine nZ 71 ?_
     refine qa 45 37 274877906943 ?_; refine qa 45 38 549755813887 ?_; refine qa 45 39 1099511627775 ?_; refine qa 45 41 3298534883327 ?_; refine qc 45 40 4398046511103 hHeld ?_
     refine qo 45 42 8796093022207 (some 77) fun K hK => ?_
     refine qg Try.func70 _ (dn (impl_Selection_end.calls a0_0 _ _ l0_1 _ _ l0_2 _ _ l0_3 _ _ l0_4 _ _ l0_5 x32_2 t308 _ (C0_1.b HB) (C0_2.b HB) (C0_3.b HB) (C0_4.b HB) (C0_5.b HB) A26.out) fun w31 hb => ?_)
     replace BK298 := zY BK298 hb; replace HB := zX HB hb
     refine hK.out _ _ (ca6_ BK298.out ⟨(kC HB hw299_0), (kC HB hw301_0), (kC HB hw303_0), (kC HB hw305_0), (kC HB hw306_0)⟩) (fun hHeld => ?_)
     clear hK K
     refine nZ 77 ?_
     refine qa 45 43 17592186044415 ?_; refine qa 45 44 35184372088831 ?_
     refine qd ?_
     try go_wp2
     go_roundg k2
     case measure => have := HJ1.out; have := HK2.out; omega
     case rel => exact ⟨(wrap64 (x32_2 + 1)), kF, H', ⟨by have := HJ1.out; have := HK2.out; omega⟩, ⟨kM BK298⟩, ⟨kR1 HB⟩⟩
def impl_Selection_pointsFormed_1.f (k : Nat) (l0_0 : List Int) (a1_0 : Int) : Option (Bool) := if (l0_0.length : Int) = a1_0 then ((impl_allWithin.f k l0_0 0 39).bind fun t310 => (some (!t310))) else (some true)
theorem impl_Selection_pointsFormed_1.calls (k : Nat) (A0_0 : Option Addr) (c0_0 : Nat) (l0_0 : List Int) (g1_0 : Nat) (a1_0 : Int) (r : Bool) (w : World) (C0_0 : Cm (Kd.int .i64) w A0_0 c0_0 l0_0) (hb1_0 : w.heap[g1_0]? = some (.cells #[.int .i64 a1_0] 3 (0, 0))) (h : impl_Selection_pointsFormed_1.f k l0_0 a1_0 = some r) :
 Calls Try.prog 93 #[.agg #[.slice A0_0 l0_0.length c0_0], .pointer (some ⟨g1_0, 0, none⟩)] w fun e w' => e = .returned (.bool r) ∧ Below w.heap.size w w' := by
 have hu68 := Try.underlying68
 have BK48 := yD hb1_0
 clear hb1_0
 have HB := yD (Below.refl w.heap.size w)
 unfold impl_Selection_pointsFormed_1.f at h
 have H := h
 clear h
 replace H := sP H; rcases H with ⟨c3, c3b0, c3b1, H⟩ | ⟨-, c3b0, c3b1, H⟩
 ·
  obtain rfl := sJ H; go_enter Try.func93, Try.ntmps93
  go_wp2_with (first | (refine gD 2 ?_; refine bE (N := 2) (cs := #[.slice A0_0 l0_0.length c0_0]) (t := 68) ?_; intro gb309 hg w10 hbox hb; have BK309 := yD (hbox); have GW309 := sW hg HB; replace HB := zX HB hb; have NB48_309 := yD ((by rw [hg]; exact Nat.ne_of_lt (cT (kN BK48)) : g1_0 ≠ gb309)); have NB309_48 := yD ((by rw [hg]; exact Nat.ne_of_gt (cT (kN BK48)) : gb309 ≠ g1_0)); replace BK48 := zY BK48 hb; clear hb hbox hg; have hnb11 := NB309_48.out; have hnc11 := NB48_309.out; have hcz12_0 : w10.cell? ⟨gb309, 0, none⟩ = some (.slice A0_0 l0_0.length c0_0) := (yG BK309.out 0).trans rfl; have hfz12_0 := yR BK309.out 0; have hcz13_0 : w10.cell? ⟨g1_0, 0, none⟩ = some (.int .i64 a1_0) := (yG BK48.out 0).trans rfl; have hfz13_0 := yR BK48.out 0))
  go_ret
  exact ⟨kE, kR1 HB⟩
 replace ⟨t310, A4, H⟩ := sV H
 obtain rfl := sJ H; go_enter Try.func93, Try.ntmps93
 go_wp2_with (first | (refine gD 2 ?_; refine bE (N := 2) (cs := #[.slice A0_0 l0_0.length c0_0]) (t := 68) ?_; intro gb309 hg w5 hbox hb; have BK309 := yD (hbox); have GW309 := sW hg HB; replace HB := zX HB hb; have NB48_309 := yD ((by rw [hg]; exact Nat.ne_of_lt (cT (kN BK48)) : g1_0 ≠ gb309)); have NB309_48 := yD ((by rw [hg]; exact Nat.ne_of_gt (cT (kN BK48)) : gb309 ≠ g1_0)); replace BK48 := zY BK48 hb; clear hb hbox hg; have hnb6 := NB309_48.out; have hnc6 := NB48_309.out; have hcz7_0 : w5.cell? ⟨gb309, 0, none⟩ = some (.slice A0_0 l0_0.length c0_0) := (yG BK309.out 0).trans rfl; have hfz7_0 := yR BK309.out 0; have hcz8_0 : w5.cell? ⟨g1_0, 0, none⟩ = some (.int .i64 a1_0) := (yG BK48.out 0).trans rfl; have hfz8_0 := yR BK48.out 0) | (go_at_call 66; (with_reducible refine (impl_allWithin.calls k _ _ l0_0 0 39 t310 _ (C0_0.b HB) A4.out).mono ?_); rintro e w9 ⟨rfl, hb⟩; replace BK48 := zY BK48 hb; replace BK309 := zY BK309 hb; replace HB := zX HB hb; clear hb))
 go_ret
 exact ⟨kE, kR1 HB⟩
def aQ.l0 : Nat → List (S68) → Int → Int → Int → Option (Int)
 | 0, _, _, _, _ => none
 | k + 1, x0, x7, x8, x49000 => if x8 < x7 then (if 0 ≤ x8 then (if x8 < (x0.length : Int) then ((impl_Selection_pointsFormed_1.f k ((bU x0 x8).f0) x49000).bind fun t312 => (if t312 = true then (some x8) else (aQ.l0 k x0 x7 (wrap64 (x8 + 1)) x49000))) else (none)) else (none)) else (some (-1))
def aQ.f (k : Nat) (l0 : List (S68)) (a1_0 : Int) : Option (Int) := aQ.l0 k l0 (l0.length : Int) 0 a1_0
theorem aQ.calls (k : Nat) (A0 : Option Addr) (c0 : Nat) (l0 : List (S68)) (g1_0 : Nat) (a1_0 : Int) (r : Int) (w : World) (C0 : Cm k68 w A0 c0 l0) (hb1_0 : w.heap[g1_0]? = some (.cells #[.int .i64 a1_0] 3 (0, 0))) (h : aQ.f k l0 a1_0 = some r) :
 Calls Try.prog 94 #[.slice A0 l0.length c0, .func (.func 93) #[] #[.pointer (some ⟨g1_0, 0, none⟩)]] w fun e w' => e = .returned (.int .i64 r) ∧ Below w.heap.size w w' := by
 have hu68 := Try.underlying68
 have BK48 := yD hb1_0
 clear hb1_0
 have HB := yD (Below.refl w.heap.size w)
 unfold aQ.f at h
 have H := h
 clear h
 have H' := yD H
 clear H; go_enter Try.func94, Try.ntmps94
 go_wp2
 go_loopg [8] k (fun kq v8 w' => ∃ (x8_1 : Int), v8 = .int .i64 x8_1 ∧ aC (aQ.l0 kq l0 (l0.length : Int) x8_1 a1_0 = some r) ∧ aC (kq ≤ k) ∧ aC (w'.heap[g1_0]? = some (.cells #[.int .i64 a1_0] 3 (0, 0))) ∧ aC (Below w.heap.size w w'))
 case atStart => exact ⟨(0), kF, H', ⟨Nat.le_refl _⟩, ⟨kM BK48⟩, ⟨kR1 HB⟩⟩
 case round =>
  clear H'
  obtain ⟨x8_1, rfl, HA, HK1, BK48, HB⟩ := hrel
  cases gk with
  | zero => exact absurd HA.out (by simp [aQ.l0])
  | succ k1 =>
   have H := HA.out; clear HA
   simp only [aQ.l0] at H
   replace H := sG H; rcases H with ⟨c3b0, H⟩ | ⟨c3b0, H⟩
   · obtain rfl := sJ H
     go_wp2
     go_ret
     exact ⟨kE, kR1 HB⟩
   replace ⟨c4b0, H⟩ := sE H
   replace ⟨c5b0, H⟩ := sE H
   replace ⟨t312, A6, H⟩ := sV H
   replace H := sT H; rcases H with ⟨rfl, H⟩ | ⟨rfl, H⟩
   ·
    obtain rfl := sJ H
    obtain ⟨p311, q311, ad311, A311_0, c311_0, e311, hx311_0, HC311_0, HR311_0⟩ := sI (at_T68 C0.r x8_1)
    cases e311
    replace hx311_0 := kD HB hx311_0
    go_wp2_with (first | (go_at_call 93; (with_reducible refine (impl_Selection_pointsFormed_1.calls k1 _ _ ((bU l0 x8_1).f0) g1_0 a1_0 true _ (cB HR311_0 HC311_0 HB) ?z3 A6.out).mono ?_); (case z3 => exact kM BK48); rintro e w8 ⟨rfl, hb⟩; replace BK48 := zY BK48 hb; replace HB := zX HB hb; clear hb))
    go_ret
    exact ⟨kE, kR1 HB⟩
   have H' := yD H
   clear H
   obtain ⟨p311, q311, ad311, A311_0, c311_0, e311, hx311_0, HC311_0, HR311_0⟩ := sI (at_T68 C0.r x8_1)
   cases e311
   replace hx311_0 := kD HB hx311_0
   go_wp2_with (first | (go_at_call 93; (with_reducible refine (impl_Selection_pointsFormed_1.calls k1 _ _ ((bU l0 x8_1).f0) g1_0 a1_0 false _ (cB HR311_0 HC311_0 HB) ?z3 A6.out).mono ?_); (case z3 => exact kM BK48); rintro e w9 ⟨rfl, hb⟩; replace BK48 := zY BK48 hb; replace HB := zX HB hb; clear hb))
   go_roundg k1
   case measure => have := HK1.out; omega
   case rel => exact ⟨(wrap64 (x8_1 + 1)), kF, H', ⟨by have := HK1.out; omega⟩, ⟨kM BK48⟩, ⟨kR1 HB⟩⟩
def cM.f (k : Nat) (l0 : List (S68)) (a1_0 : Int) : Option (Bool) := (aQ.f k l0 a1_0).bind fun t313 => (some (decide (t313 ≥ 0)))
theorem cM.calls (k : Nat) (A0 : Option Addr) (c0 : Nat) (l0 : List (S68)) (g1_0 : Nat) (a1_0 : Int) (r : Bool) (w : World) (C0 : Cm k68 w A0 c0 l0) (hb1_0 : w.heap[g1_0]? = some (.cells #[.int .i64 a1_0] 3 (0, 0))) (h : cM.f k l0 a1_0 = some r) :
 Calls Try.prog 71 #[.slice A0 l0.length c0, .func (.func 93) #[] #[.pointer (some ⟨g1_0, 0, none⟩)]] w fun e w' => e = .returned (.bool r) ∧ Below w.heap.size w w' := by
 have BK48 := yD hb1_0
 clear hb1_0
 have HB := yD (Below.refl w.heap.size w)
 unfold cM.f at h
 have H := h
 clear h
 replace ⟨t313, A3, H⟩ := sV H
 obtain rfl := sJ H; go_enter Try.func71, Try.ntmps71
 go_wp2_with (first | (refine gC 94 ?_; refine gL 7 Try.func94 _ (dn (aQ.calls k _ _ l0 g1_0 a1_0 t313 _ ?z1 ?z3 A3.out) fun w4 hb => ?_); (case z1 => exact ⟨(by repeat (first | exact C0.r | (with_reducible first | refine yV ?_ _ | refine yW ?_ _ | refine yX ?_))), C0.h⟩); (case z3 => exact kM BK48); replace BK48 := zY BK48 hb; replace HB := zX HB hb; clear hb))
 go_ret
 exact ⟨kE, kR1 HB⟩
def impl_Selection_pointsFormed.f (k : Nat) (a0_0 : Int) (l0_1 l0_2 : List Int) (l0_3 l0_4 : List Int) (l0_5 : List (S68)) : Option (Bool) := (bT.f (l0_5.length : Int) 1 24).bind fun t315 => (if t315 = true then (if 0 < (l0_5.length : Int) then (if (((bU l0_5 0).f0).length : Int) ≤ 3 then ((cM.f k l0_5 (((bU l0_5 0).f0).length : Int)).bind fun t318 => (some (!t318))) else (some false)) else (none)) else (some false))
theorem impl_Selection_pointsFormed.calls (k : Nat) (a0_0 : Int) (A0_1 : Option Addr) (c0_1 : Nat) (l0_1 : List Int) (A0_2 : Option Addr) (c0_2 : Nat) (l0_2 : List Int) (A0_3 : Option Addr) (c0_3 : Nat) (l0_3 : List Int) (A0_4 : Option Addr) (c0_4 : Nat) (l0_4 : List Int) (A0_5 : Option Addr) (c0_5 : Nat) (l0_5 : List (S68)) (r : Bool) (w : World) (C0_1 : Cm (Kd.int .i64) w A0_1 c0_1 l0_1) (C0_2 : Cm (Kd.int .i64) w A0_2 c0_2 l0_2) (C0_3 : Cm (Kd.int .i64) w A0_3 c0_3 l0_3) (C0_4 : Cm (Kd.int .i64) w A0_4 c0_4 l0_4) (C0_5 : Cm k68 w A0_5 c0_5 l0_5) (h : impl_Selection_pointsFormed.f k a0_0 l0_1 l0_2 l0_3 l0_4 l0_5 = some r) :
 Calls Try.prog 69 #[.agg #[.int .i64 a0_0, .slice A0_1 l0_1.length c0_1, .slice A0_2 l0_2.length c0_2, .slice A0_3 l0_3.length c0_3, .slice A0_4 l0_4.length c0_4, .slice A0_5 l0_5.length c0_5]] w fun e w' => e = .returned (.bool r) ∧ Below w.heap.size w w' := by
 have hu26 := Try.underlying26
 have HB := yD (Below.refl w.heap.size w)
 unfold impl_Selection_pointsFormed.f at h
 have H := h
 clear h
 replace ⟨t315, A2, H⟩ := sV H
 replace H := sS H; rcases H with ⟨rfl, H⟩ | ⟨rfl, H⟩
 ·
  obtain rfl := sJ H; go_enter Try.func69, Try.ntmps69
  go_wp2_with (first | (refine gD 1 ?_; refine bF (N := 1) (cs := #[.int .i64 a0_0, .slice A0_1 l0_1.length c0_1, .slice A0_2 l0_2.length c0_2, .slice A0_3 l0_3.length c0_3, .slice A0_4 l0_4.length c0_4, .slice A0_5 l0_5.length c0_5]) (t := 26) HB ?_; intro gb314 w21 BK314 GW314 HB; have := cf6_ BK314.out) | (refine gC 62 ?_; refine gL 7 Try.func62 _ (dm (bT.calls (l0_5.length : Int) 1 24 false _ A2.out) fun nd => ?_)))
  go_ret
  exact ⟨kE, kR1 HB⟩
 replace ⟨c4, H⟩ := sD H
 have c4b0 : decide (0 < (l0_5.length : Int)) = true := zR c4
 have c4b1 : decide (0 < l0_5.length) = true := zR (by omega)
 clear c4
 replace H := sC H; rcases H with ⟨c5, H⟩ | ⟨c5, H⟩
 ·
  have c5b0 : decide ((((bU l0_5 0).f0).length : Int) ≤ 3) = false := zS c5
  have c5b1 : decide (((bU l0_5 0).f0).length ≤ 3) = false := zS (by omega)
  clear c5; obtain rfl := sJ H; go_enter Try.func69, Try.ntmps69
  go_wp2_with (first | (refine gD 1 ?_; refine bF (N := 1) (cs := #[.int .i64 a0_0, .slice A0_1 l0_1.length c0_1, .slice A0_2 l0_2.length c0_2, .slice A0_3 l0_3.length c0_3, .slice A0_4 l0_4.length c0_4, .slice A0_5 l0_5.length c0_5]) (t := 26) HB ?_; intro gb314 w15 BK314 GW314 HB; have := cf6_ BK314.out) | (refine gC 62 ?_; refine gL 7 Try.func62 _ (dm (bT.calls (l0_5.length : Int) 1 24 true _ A2.out) fun nd => ?_); (try (rw [drewN_self w15]; generalize hq_ : World.drewN w15 _ = w15; replace BK314 := yD (blk_at hq_ BK314.out); replace HB := yD (below_at hq_ HB.out); clear hq_)); have := cf6_ BK314.out; have p316 : 0 ≤ (0 : Int) := (by omega); have q316 : 0 < (l0_5.length : Int) := zP (by assumption); obtain ⟨ad316, A316_0, c316_0, e316, hx316_0, HC316_0, HR316_0⟩ := at_T68 C0_5.r 0 p316 q316; cases e316; have qi316 : (0 < l0_5.length) = True := eq_true (by omega); (try rw [show ((0 : Int)).toNat = 0 from rfl] at hx316_0); (try rw [Addr.add_zero'] at hx316_0); replace hx316_0 := kD HB hx316_0; replace p316 := eq_true p316; replace q316 := eq_true q316) | (refine gD 3 ?_; refine bE (N := 3) (cs := #[.int .i64 0]) (t := 3) ?_; intro gb317 hg w18 hbox hb; have BK317 := yD (hbox); have GW317 := sW hg HB; replace HB := zX HB hb; have NB314_317 := yD ((by rw [hg]; exact Nat.ne_of_lt (cT (kN BK314)) : gb314 ≠ gb317)); have NB317_314 := yD ((by rw [hg]; exact Nat.ne_of_gt (cT (kN BK314)) : gb317 ≠ gb314)); replace BK314 := zY BK314 hb; clear hb hbox hg; have hnb19 := NB317_314.out; have hnc19 := NB314_317.out; have hcz20_0 : w18.cell? ⟨gb317, 0, none⟩ = some (.int .i64 0) := (yG BK317.out 0).trans rfl; have hfz20_0 := yR BK317.out 0))
  go_ret
  exact ⟨kE, kR1 HB⟩
 have c5b0 : decide ((((bU l0_5 0).f0).length : Int) ≤ 3) = true := zR c5
 have c5b1 : decide (((bU l0_5 0).f0).length ≤ 3) = true := zR (by omega)
 clear c5
 replace ⟨t318, A6, H⟩ := sV H
 obtain rfl := sJ H; go_enter Try.func69, Try.ntmps69
 go_wp2_with (first | (refine gD 1 ?_; refine bF (N := 1) (cs := #[.int .i64 a0_0, .slice A0_1 l0_1.length c0_1, .slice A0_2 l0_2.length c0_2, .slice A0_3 l0_3.length c0_3, .slice A0_4 l0_4.length c0_4, .slice A0_5 l0_5.length c0_5]) (t := 26) HB ?_; intro gb314 w7 BK314 GW314 HB; have := cf6_ BK314.out) | (refine gC 62 ?_; refine gL 7 Try.func62 _ (dm (bT.calls (l0_5.length : Int) 1 24 true _ A2.out) fun nd => ?_); (try (rw [drewN_self w7]; generalize hq_ : World.drewN w7 _ = w7; replace BK314 := yD (blk_at hq_ BK314.out); replace HB := yD (below_at hq_ HB.out); clear hq_)); have := cf6_ BK314.out; have p316 : 0 ≤ (0 : Int) := (by omega); have q316 : 0 < (l0_5.length : Int) := zP (by assumption); obtain ⟨ad316, A316_0, c316_0, e316, hx316_0, HC316_0, HR316_0⟩ := at_T68 C0_5.r 0 p316 q316; cases e316; have qi316 : (0 < l0_5.length) = True := eq_true (by omega); (try rw [show ((0 : Int)).toNat = 0 from rfl] at hx316_0); (try rw [Addr.add_zero'] at hx316_0); replace hx316_0 := kD HB hx316_0; replace p316 := eq_true p316; replace q316 := eq_true q316) | (refine gD 3 ?_; refine bE (N := 3) (cs := #[.int .i64 0]) (t := 3) ?_; intro gb317 hg w10 hbox hb; have BK317 := yD (hbox); have GW317 := sW hg HB; replace HB := zX HB hb; have NB314_317 := yD ((by rw [hg]; exact Nat.ne_of_lt (cT (kN BK314)) : gb314 ≠ gb317)); have NB317_314 := yD ((by rw [hg]; exact Nat.ne_of_gt (cT (kN BK314)) : gb317 ≠ gb314)); replace BK314 := zY BK314 hb; clear hb hbox hg; have hnb11 := NB317_314.out; have hnc11 := NB314_317.out; have hcz12_0 : w10.cell? ⟨gb317, 0, none⟩ = some (.int .i64 0) := (yG BK317.out 0).trans rfl; have hfz12_0 := yR BK317.out 0; have := cf6_ BK314.out) | (go_at_call 71; (with_reducible refine (cM.calls k _ _ l0_5 gb317 (((bU l0_5 0).f0).length : Int) t318 _ (C0_5.b HB) ?z3 A6.out).mono ?_); (case z3 => (with_reducible repeat (first | refine yM ?_ _ | refine yO ?_ | refine yN ?_ _)); refine blk_put (cs := #[.int .i64 0]) ?_ 0 _ rfl; (with_reducible repeat (first | refine yM ?_ _ | refine yO ?_ | refine yN ?_ _)); exact BK317.out); rintro e w14 ⟨rfl, hb⟩; replace BK314 := yD (zB (g := gb314) (o := .cells #[.int .i64 a0_0, .slice A0_1 l0_1.length c0_1, .slice A0_2 l0_2.length c0_2, .slice A0_3 l0_3.length c0_3, .slice A0_4 l0_4.length c0_4, .slice (some ad316) l0_5.length c0_5] 26 (0, 0)) (by (with_reducible repeat (first | refine yM ?_ _ | refine yO ?_ | refine yN ?_ _)); refine blk_far ?_ NB314_317.out _; (with_reducible repeat (first | refine yM ?_ _ | refine yO ?_ | refine yN ?_ _)); exact BK314.out) hb); replace BK317 := yD (zB (g := gb317) (o := .cells #[.int .i64 (((bU l0_5 0).f0).length : Int)] 3 (0, 0)) (by (with_reducible repeat (first | refine yM ?_ _ | refine yO ?_ | refine yN ?_ _)); refine blk_put (cs := #[.int .i64 0]) ?_ 0 _ rfl; (with_reducible repeat (first | refine yM ?_ _ | refine yO ?_ | refine yN ?_ _)); exact BK317.out) hb); replace HB := zX HB hb; clear hb))
 go_ret
 exact ⟨kE, kR1 HB⟩
def cG.j0 : Nat → Bool → Int → Bool → Int → List Int → List Int → List Int → List Int → List (S68) → Option (Bool)
 | 0, _, _, _, _, _, _, _, _, _ => none
 | k + 1, x3, x12, x13, x320000, x320001, x320002, x320003, x320004, x320005 => if x13 = true then (if x3 = true then (some ((x320005.length : Int) == 0)) else (some false)) else (if x12 = 3 then (if (x320005.length : Int) = 0 then ((aG.f k x320000 x320001 x320002 x320003 x320004 x320005).bind fun t321 => (some t321)) else (some false)) else (if x12 = 4 then (if x3 = true then ((impl_Selection_pointsFormed.f k x320000 x320001 x320002 x320003 x320004 x320005).bind fun t322 => (some t322)) else (some false)) else (some false)))
def cG.f (k : Nat) (a0_0 : Int) (l0_1 l0_2 : List Int) (l0_3 l0_4 : List Int) (l0_5 : List (S68)) : Option (Bool) := (cJ.f k a0_0 ([] : List Int) ([] : List Int) ([] : List Int) ([] : List Int) l0_5 a0_0 l0_1 l0_2 l0_3 l0_4 l0_5).bind fun t320 => (if a0_0 = 1 then (cG.j0 k t320 a0_0 (a0_0 == 1) a0_0 l0_1 l0_2 l0_3 l0_4 l0_5) else (cG.j0 k t320 a0_0 (a0_0 == 2) a0_0 l0_1 l0_2 l0_3 l0_4 l0_5))
theorem cG.calls (k : Nat) (a0_0 : Int) (A0_1 : Option Addr) (c0_1 : Nat) (l0_1 : List Int) (A0_2 : Option Addr) (c0_2 : Nat) (l0_2 : List Int) (A0_3 : Option Addr) (c0_3 : Nat) (l0_3 : List Int) (A0_4 : Option Addr) (c0_4 : Nat) (l0_4 : List Int) (A0_5 : Option Addr) (c0_5 : Nat) (l0_5 : List (S68)) (r : Bool) (w : World) (C0_1 : Cm (Kd.int .i64) w A0_1 c0_1 l0_1) (C0_2 : Cm (Kd.int .i64) w A0_2 c0_2 l0_2) (C0_3 : Cm (Kd.int .i64) w A0_3 c0_3 l0_3) (C0_4 : Cm (Kd.int .i64) w A0_4 c0_4 l0_4) (C0_5 : Cm k68 w A0_5 c0_5 l0_5) (h : cG.f k a0_0 l0_1 l0_2 l0_3 l0_4 l0_5 = some r) :
 Calls Try.prog 44 #[.agg #[.int .i64 a0_0, .slice A0_1 l0_1.length c0_1, .slice A0_2 l0_2.length c0_2, .slice A0_3 l0_3.length c0_3, .slice A0_4 l0_4.length c0_4, .slice A0_5 l0_5.length c0_5]] w fun e w' => e = .returned (.bool r) ∧ Below w.heap.size w w' := by
 have hu26 := Try.underlying26
 have HB := yD (Below.refl w.heap.size w)
 unfold cG.f at h
 have H := h
 clear h
 replace ⟨t320, A2, H⟩ := sV H
 have HC3 := yD H
 clear H; go_enter Try.func44, Try.ntmps44
 go_upto_if 13 with (first | (refine gD 1 ?_; (try (refine gate_guard (by rfl) ?_; dsimp only)); refine bF (N := 1) (cs := #[.int .i64 a0_0, .slice A0_1 l0_1.length c0_1, .slice A0_2 l0_2.length c0_2, .slice A0_3 l0_3.length c0_3, .slice A0_4 l0_4.length c0_4, .slice A0_5 l0_5.length c0_5]) (t := 26) HB ?_; intro gb319 w4 BK319 GW319 HB; have := cf6_ BK319.out) | (refine gC 67 ?_; refine gL 10 Try.func67 #[.agg #[.int .i64 a0_0, .slice none 0 0, .slice none 0 0, .slice none 0 0, .slice none 0 0, .slice A0_5 l0_5.length c0_5], .agg #[.int .i64 a0_0, .slice A0_1 l0_1.length c0_1, .slice A0_2 l0_2.length c0_2, .slice A0_3 l0_3.length c0_3, .slice A0_4 l0_4.length c0_4, .slice A0_5 l0_5.length c0_5]] ?_; (refine (cJ.calls k a0_0 _ _ ([] : List Int) _ _ ([] : List Int) _ _ ([] : List Int) _ _ ([] : List Int) _ _ l0_5 a0_0 _ _ l0_1 _ _ l0_2 _ _ l0_3 _ _ l0_4 _ _ l0_5 t320 _ ?z1 ?z3 ?z5 ?z7 (C0_5.b HB) (C0_1.b HB) (C0_2.b HB) (C0_3.b HB) (C0_4.b HB) (C0_5.b HB) A2.out).mono ?_); (case z1 => exact ⟨Kd.C_nil _ _, Nat.le_refl _⟩); (case z3 => exact ⟨Kd.C_nil _ _, Nat.le_refl _⟩); (case z5 => exact ⟨Kd.C_nil _ _, Nat.le_refl _⟩); (case z7 => exact ⟨Kd.C_nil _ _, Nat.le_refl _⟩); rintro e w6 ⟨rfl, hb⟩; refine ⟨_, rfl, ?_⟩; replace BK319 := zY BK319 hb; replace HB := zX HB hb; clear hb; have := cf6_ BK319.out))
 (try simp only [Act.put, zH, zI, zJ])
 go_cut [13] (fun v13 wc => ∃ (kq : Nat) (x13_2 : Bool), v13 = .bool x13_2 ∧ aC (cG.j0 kq t320 a0_0 x13_2 a0_0 l0_1 l0_2 l0_3 l0_4 l0_5 = some r) ∧ aC (kq ≤ k) ∧ aC (wc.heap[gb319]? = some (.cells #[.int .i64 a0_0, (.slice A0_1 l0_1.length c0_1), (.slice A0_2 l0_2.length c0_2), (.slice A0_3 l0_3.length c0_3), (.slice A0_4 l0_4.length c0_4), (.slice A0_5 l0_5.length c0_5)] 26 (0, 0))) ∧ aC (Below w.heap.size w wc))
 case first =>
  have H := HC3.out; clear HC3
  replace H := sP H; rcases H with ⟨c8, c8b0, c8b1, H⟩ | ⟨-, c8b0, c8b1, H⟩
  ·
   (first | rw [c8b0] | (simp only [i64_w, i32_w]; rw [c8b0]) | (simp only [bne] at c8b0; rw [c8b0]) | skip)
   have H' := yD H
   clear H
   go_wp2
   go_meet
   case rel => exact ⟨_, ((a0_0 == 2)), kF, H', ⟨by first | omega | exact Nat.le_refl _⟩, ⟨kM BK319⟩, ⟨kR1 HB⟩⟩
  (first | rw [c8b0] | (simp only [i64_w, i32_w]; rw [c8b0]) | (simp only [bne] at c8b0; rw [c8b0]) | skip)
  have H' := yD H
  clear H
  go_wp2
  go_meet
  case rel => exact ⟨_, ((a0_0 == 1)), kF, H', ⟨by first | omega | exact Nat.le_refl _⟩, ⟨kM BK319⟩, ⟨kR1 HB⟩⟩
 case rest =>
  clear HC3
  obtain ⟨kq, x13_2, rfl, HA, HJ2, BK319, HB⟩ := hcut
  cases kq with
  | zero => exact absurd HA.out (by simp [cG.j0])
  | succ kj2 =>
   have H := HA.out; clear HA
   simp only [cG.j0] at H
   replace H := sT H; rcases H with ⟨rfl, H⟩ | ⟨rfl, H⟩
   ·
    replace H := sS H; rcases H with ⟨rfl, H⟩ | ⟨rfl, H⟩
    ·
     obtain rfl := sJ H
     go_wp2
     go_ret
     exact ⟨kE, kR1 HB⟩
    obtain rfl := sJ H
    have := cf6_ BK319.out
    go_wp2
    go_ret
    exact ⟨kE, kR1 HB⟩
   replace H := sQ H; rcases H with ⟨-, c12b0, c12b1, H⟩ | ⟨c12, c12b0, c12b1, H⟩
   ·
    replace H := sP H; rcases H with ⟨c13, c13b0, c13b1, H⟩ | ⟨-, c13b0, c13b1, H⟩
    ·
     have c13b2 : ¬ (l0_5 = []) := fun h_ => c13 (by rw [h_]; rfl)
     obtain rfl := sJ H
     have := cf6_ BK319.out
     go_wp2
     go_ret
     exact ⟨kE, kR1 HB⟩
    replace ⟨t321, A14, H⟩ := sV H
    obtain rfl := sJ H
    have := cf6_ BK319.out
    go_wp2_with (first | (go_at_call 68; (with_reducible refine (aG.calls kj2 a0_0 _ _ l0_1 _ _ l0_2 _ _ l0_3 _ _ l0_4 _ _ l0_5 t321 _ (C0_1.b HB) (C0_2.b HB) (C0_3.b HB) (C0_4.b HB) (C0_5.b HB) A14.out).mono ?_); rintro e w16 ⟨rfl, hb⟩; replace BK319 := zY BK319 hb; replace HB := zX HB hb; clear hb))
    go_ret
    exact ⟨kE, kR1 HB⟩
   replace H := sP H; rcases H with ⟨c18, c18b0, c18b1, H⟩ | ⟨-, c18b0, c18b1, H⟩
   ·
    obtain rfl := sJ H
    go_wp2
    go_ret
    exact ⟨kE, kR1 HB⟩
   replace H := sS H; rcases H with ⟨rfl, H⟩ | ⟨rfl, H⟩
   ·
    obtain rfl := sJ H
    go_wp2
    go_ret
    exact ⟨kE, kR1 HB⟩
   replace ⟨t322, A20, H⟩ := sV H
   obtain rfl := sJ H
   have := cf6_ BK319.out
   go_wp2_with (first | (go_at_call 69; (with_reducible refine (impl_Selection_pointsFormed.calls kj2 a0_0 _ _ l0_1 _ _ l0_2 _ _ l0_3 _ _ l0_4 _ _ l0_5 t322 _ (C0_1.b HB) (C0_2.b HB) (C0_3.b HB) (C0_4.b HB) (C0_5.b HB) A20.out).mono ?_); rintro e w22 ⟨rfl, hb⟩; replace BK319 := zY BK319 hb; replace HB := zX HB hb; clear hb))
   go_ret
   exact ⟨kE, kR1 HB⟩
def impl_inDims.l0 : Nat → List Int → List Int → Int → Int → Option (Bool)
 | 0, _, _, _, _ => none
 | k + 1, x0, x12, x13, x14 => if x14 < x13 then (if 0 ≤ x14 then (if x14 < (x12.length : Int) then (if x14 < (x0.length : Int) then ((bT.f (rd x12 x14) 0 (wrap64 ((rd x0 x14) - 1))).bind fun t325 => (if t325 = true then (impl_inDims.l0 k x0 x12 x13 (wrap64 (x14 + 1))) else (some false))) else (none)) else (none)) else (none)) else (some true)
def impl_inDims.f (k : Nat) (l0 l1 : List Int) : Option (Bool) := if (l1.length : Int) = (l0.length : Int) then (impl_inDims.l0 k l0 l1 (l1.length : Int) 0) else (some false)
theorem impl_inDims.calls (k : Nat) (A0 : Option Addr) (c0 : Nat) (l0 : List Int) (A1 : Option Addr) (c1 : Nat) (l1 : List Int) (r : Bool) (w : World) (C0 : Cm (Kd.int .i64) w A0 c0 l0) (C1 : Cm (Kd.int .i64) w A1 c1 l1) (h : impl_inDims.f k l0 l1 = some r) :
 Calls Try.prog 73 #[.slice A0 l0.length c0, .slice A1 l1.length c1] w fun e w' => e = .returned (.bool r) ∧ aT w w' := by
 unfold impl_inDims.f at h
 have H := h
 clear h
 replace H := sP H; rcases H with ⟨c3, c3b0, c3b1, H⟩ | ⟨c3, c3b0, c3b1, H⟩
 ·
  have c3b2 : (l1.length == l0.length) = false := by first | simpa using c3 | (simp at c3 ⊢; omega)
  obtain rfl := sJ H; go_enter Try.func73, Try.ntmps73
  go_wp2
  go_ret
  exact ⟨by first | rfl | (simp; done) | (simp [*]; done), by repeat (first | exact aT.refl _ | apply aT.step)⟩
 have c3b2 : (l1.length == l0.length) = true := by first | simpa using c3 | (simp at c3 ⊢; omega)
 clear c3
 have H' := yD H
 clear H; go_enter Try.func73, Try.ntmps73
 go_wp2
 go_loopg [14] k (fun kq v14 w' => ∃ (x14_1 : Int), v14 = .int .i64 x14_1 ∧ aC (impl_inDims.l0 kq l0 l1 (l1.length : Int) x14_1 = some r) ∧ aC (kq ≤ k) ∧ aT w w')
 case atStart => exact ⟨(0), kF, H', ⟨Nat.le_refl _⟩, by repeat (first | exact aT.refl _ | apply aT.step)⟩
 case round =>
  clear H'
  obtain ⟨x14_1, rfl, HA, HK1, ⟨m1, rfl⟩⟩ := hrel
  cases gk with
  | zero => exact absurd HA.out (by simp [impl_inDims.l0])
  | succ k1 =>
   have H := HA.out; clear HA
   simp only [impl_inDims.l0] at H
   replace H := sG H; rcases H with ⟨c4b0, H⟩ | ⟨c4b0, H⟩
   · obtain rfl := sJ H
     go_wp2
     go_ret
     exact ⟨by first | rfl | (simp; done) | (simp [*]; done), by repeat (first | exact aT.refl _ | apply aT.step)⟩
   replace ⟨c5b0, H⟩ := sE H
   replace ⟨c6b0, H⟩ := sE H
   replace ⟨c7b0, H⟩ := sE H
   replace ⟨t325, A8, H⟩ := sV H
   replace H := sS H; rcases H with ⟨rfl, H⟩ | ⟨rfl, H⟩
   ·
    obtain rfl := sJ H
    obtain ⟨p323, q323, ad323, e323, hx323_0⟩ := sI (Kd.aX C1.r x14_1)
    cases e323
    obtain ⟨p324, q324, ad324, e324, hx324_0⟩ := sI (Kd.aX C0.r x14_1)
    cases e324
    go_wp2_with (first | (refine gC 62 ?_; refine gL 25 Try.func62 _ (dm (bT.calls (rd l1 x14_1) 0 (wrap64 ((rd l0 x14_1) - 1)) false _ A8.out) fun nd => ?_)))
    go_ret
    exact ⟨by first | rfl | (simp; done) | (simp [*]; done), by repeat (first | exact aT.refl _ | apply aT.step)⟩
   have H' := yD H
   clear H
   obtain ⟨p323, q323, ad323, e323, hx323_0⟩ := sI (Kd.aX C1.r x14_1)
   cases e323
   obtain ⟨p324, q324, ad324, e324, hx324_0⟩ := sI (Kd.aX C0.r x14_1)
   cases e324
   go_wp2_with (first | (refine gC 62 ?_; refine gL 25 Try.func62 _ (dm (bT.calls (rd l1 x14_1) 0 (wrap64 ((rd l0 x14_1) - 1)) true _ A8.out) fun nd => ?_)))
   go_roundg k1
   case measure => have := HK1.out; omega
   case rel => exact ⟨(wrap64 (x14_1 + 1)), kF, H', ⟨by have := HK1.out; omega⟩, by repeat (first | exact aT.refl _ | apply aT.step)⟩
def impl_Selection_fits_1.f (k : Nat) (l0_0 l1_0 : List Int) : Option (Bool) := (impl_inDims.f k l1_0 l0_0).bind fun t327 => (some (!t327))
theorem impl_Selection_fits_1.calls (k : Nat) (A0_0 : Option Addr) (c0_0 : Nat) (l0_0 : List Int) (g1_0 : Nat) (A1_0 : Option Addr) (c1_0 : Nat) (l1_0 : List Int) (r : Bool) (w : World) (C0_0 : Cm (Kd.int .i64) w A0_0 c0_0 l0_0) (C1_0 : Cm (Kd.int .i64) w A1_0 c1_0 l1_0) (hb1_0 : w.heap[g1_0]? = some (.cells #[.slice A1_0 l1_0.length c1_0] 23 (0, 0))) (h : impl_Selection_fits_1.f k l0_0 l1_0 = some r) :
 Calls Try.prog 72 #[.agg #[.slice A0_0 l0_0.length c0_0], .pointer (some ⟨g1_0, 0, none⟩)] w fun e w' => e = .returned (.bool r) ∧ Below w.heap.size w w' := by
 have hu68 := Try.underlying68
 have BK48 := yD hb1_0
 clear hb1_0
 have HB := yD (Below.refl w.heap.size w)
 unfold impl_Selection_fits_1.f at h
 have H := h
 clear h
 replace ⟨t327, A3, H⟩ := sV H
 obtain rfl := sJ H; go_enter Try.func72, Try.ntmps72
 go_wp2_with (first | (refine gD 2 ?_; refine bE (N := 2) (cs := #[.slice A0_0 l0_0.length c0_0]) (t := 68) ?_; intro gb326 hg w4 hbox hb; have BK326 := yD (hbox); have GW326 := sW hg HB; replace HB := zX HB hb; have NB48_326 := yD ((by rw [hg]; exact Nat.ne_of_lt (cT (kN BK48)) : g1_0 ≠ gb326)); have NB326_48 := yD ((by rw [hg]; exact Nat.ne_of_gt (cT (kN BK48)) : gb326 ≠ g1_0)); replace BK48 := zY BK48 hb; clear hb hbox hg; have hnb5 := NB48_326.out; have hnc5 := NB326_48.out; have hcz6_0 : w4.cell? ⟨g1_0, 0, none⟩ = some (.slice A1_0 l1_0.length c1_0) := (yG BK48.out 0).trans rfl; have hfz6_0 := yR BK48.out 0; have hcz7_0 : w4.cell? ⟨gb326, 0, none⟩ = some (.slice A0_0 l0_0.length c0_0) := (yG BK326.out 0).trans rfl; have hfz7_0 := yR BK326.out 0) | (refine gC 73 ?_; refine gL 7 Try.func73 _ (dm (impl_inDims.calls k _ _ l1_0 _ _ l0_0 t327 _ (C1_0.b HB) (C0_0.b HB) A3.out) fun nd => ?_)))
 go_ret
 exact ⟨kE, kR1 HB⟩
def aZ.l0 : Nat → List (S68) → Int → Int → List Int → Option (Int)
 | 0, _, _, _, _ => none
 | k + 1, x0, x7, x8, x49000 => if x8 < x7 then (if 0 ≤ x8 then (if x8 < (x0.length : Int) then ((impl_Selection_fits_1.f k ((bU x0 x8).f0) x49000).bind fun t329 => (if t329 = true then (some x8) else (aZ.l0 k x0 x7 (wrap64 (x8 + 1)) x49000))) else (none)) else (none)) else (some (-1))
def aZ.f (k : Nat) (l0 : List (S68)) (l1_0 : List Int) : Option (Int) := aZ.l0 k l0 (l0.length : Int) 0 l1_0
theorem aZ.calls (k : Nat) (A0 : Option Addr) (c0 : Nat) (l0 : List (S68)) (g1_0 : Nat) (A1_0 : Option Addr) (c1_0 : Nat) (l1_0 : List Int) (r : Int) (w : World) (C0 : Cm k68 w A0 c0 l0) (C1_0 : Cm (Kd.int .i64) w A1_0 c1_0 l1_0) (hb1_0 : w.heap[g1_0]? = some (.cells #[.slice A1_0 l1_0.length c1_0] 23 (0, 0))) (h : aZ.f k l0 l1_0 = some r) :
 Calls Try.prog 94 #[.slice A0 l0.length c0, .func (.func 72) #[] #[.pointer (some ⟨g1_0, 0, none⟩)]] w fun e w' => e = .returned (.int .i64 r) ∧ Below w.heap.size w w' := by
 have hu68 := Try.underlying68
 have BK48 := yD hb1_0
 clear hb1_0
 have HB := yD (Below.refl w.heap.size w)
 unfold aZ.f at h
 have H := h
 clear h
 have H' := yD H
 clear H; go_enter Try.func94, Try.ntmps94
 go_wp2
 go_loopg [8] k (fun kq v8 w' => ∃ (x8_1 : Int), v8 = .int .i64 x8_1 ∧ aC (aZ.l0 kq l0 (l0.length : Int) x8_1 l1_0 = some r) ∧ aC (kq ≤ k) ∧ aC (w'.heap[g1_0]? = some (.cells #[(.slice A1_0 l1_0.length c1_0)] 23 (0, 0))) ∧ aC (Below w.heap.size w w'))
 case atStart => exact ⟨(0), kF, H', ⟨Nat.le_refl _⟩, ⟨kM BK48⟩, ⟨kR1 HB⟩⟩
 case round =>
  clear H'
  obtain ⟨x8_1, rfl, HA, HK1, BK48, HB⟩ := hrel
  cases gk with
  | zero => exact absurd HA.out (by simp [aZ.l0])
  | succ k1 =>
   have H := HA.out; clear HA
   simp only [aZ.l0] at H
   replace H := sG H; rcases H with ⟨c3b0, H⟩ | ⟨c3b0, H⟩
   · obtain rfl := sJ H
     go_wp2
     go_ret
     exact ⟨kE, kR1 HB⟩
   replace ⟨c4b0, H⟩ := sE H
   replace ⟨c5b0, H⟩ := sE H
   replace ⟨t329, A6, H⟩ := sV H
   replace H := sT H; rcases H with ⟨rfl, H⟩ | ⟨rfl, H⟩
   ·
    obtain rfl := sJ H
    obtain ⟨p328, q328, ad328, A328_0, c328_0, e328, hx328_0, HC328_0, HR328_0⟩ := sI (at_T68 C0.r x8_1)
    cases e328
    replace hx328_0 := kD HB hx328_0
    go_wp2_with (first | (go_at_call 72; (with_reducible refine (impl_Selection_fits_1.calls k1 _ _ ((bU l0 x8_1).f0) g1_0 A1_0 c1_0 l1_0 true _ (cB HR328_0 HC328_0 HB) (C1_0.b HB) ?z5 A6.out).mono ?_); (case z5 => exact kM BK48); rintro e w8 ⟨rfl, hb⟩; replace BK48 := zY BK48 hb; replace HB := zX HB hb; clear hb))
    go_ret
    exact ⟨kE, kR1 HB⟩
   have H' := yD H
   clear H
   obtain ⟨p328, q328, ad328, A328_0, c328_0, e328, hx328_0, HC328_0, HR328_0⟩ := sI (at_T68 C0.r x8_1)
   cases e328
   replace hx328_0 := kD HB hx328_0
   go_wp2_with (first | (go_at_call 72; (with_reducible refine (impl_Selection_fits_1.calls k1 _ _ ((bU l0 x8_1).f0) g1_0 A1_0 c1_0 l1_0 false _ (cB HR328_0 HC328_0 HB) (C1_0.b HB) ?z5 A6.out).mono ?_); (case z5 => exact kM BK48); rintro e w9 ⟨rfl, hb⟩; replace BK48 := zY BK48 hb; replace HB := zX HB hb; clear hb))
   go_roundg k1
   case measure => have := HK1.out; omega
   case rel => exact ⟨(wrap64 (x8_1 + 1)), kF, H', ⟨by have := HK1.out; omega⟩, ⟨kM BK48⟩, ⟨kR1 HB⟩⟩
def cS.f (k : Nat) (l0 : List (S68)) (l1_0 : List Int) : Option (Bool) := (aZ.f k l0 l1_0).bind fun t330 => (some (decide (t330 ≥ 0)))
theorem cS.calls (k : Nat) (A0 : Option Addr) (c0 : Nat) (l0 : List (S68)) (g1_0 : Nat) (A1_0 : Option Addr) (c1_0 : Nat) (l1_0 : List Int) (r : Bool) (w : World) (C0 : Cm k68 w A0 c0 l0) (C1_0 : Cm (Kd.int .i64) w A1_0 c1_0 l1_0) (hb1_0 : w.heap[g1_0]? = some (.cells #[.slice A1_0 l1_0.length c1_0] 23 (0, 0))) (h : cS.f k l0 l1_0 = some r) :
 Calls Try.prog 71 #[.slice A0 l0.length c0, .func (.func 72) #[] #[.pointer (some ⟨g1_0, 0, none⟩)]] w fun e w' => e = .returned (.bool r) ∧ Below w.heap.size w w' := by
 have BK48 := yD hb1_0
 clear hb1_0
 have HB := yD (Below.refl w.heap.size w)
 unfold cS.f at h
 have H := h
 clear h
 replace ⟨t330, A3, H⟩ := sV H
 obtain rfl := sJ H; go_enter Try.func71, Try.ntmps71
 go_wp2_with (first | (refine gC 94 ?_; refine gL 7 Try.func94 _ (dn (aZ.calls k _ _ l0 g1_0 A1_0 c1_0 l1_0 t330 _ ?z1 ?z3 ?z5 A3.out) fun w4 hb => ?_); (case z1 => exact ⟨(by repeat (first | exact C0.r | (with_reducible first | refine yV ?_ _ | refine yW ?_ _ | refine yX ?_))), C0.h⟩); (case z3 => exact ⟨(by repeat (first | exact C1_0.r | (with_reducible first | refine yV ?_ _ | refine yW ?_ _ | refine yX ?_))), C1_0.h⟩); (case z5 => exact kM BK48); replace BK48 := zY BK48 hb; replace HB := zX HB hb; clear hb))
 go_ret
 exact ⟨kE, kR1 HB⟩
end Go.Proofs.Ytkkdkeogplgkfaa.PFnSelectedBoxes
