/- Each function here comes to its plain form. It holds without a condition. -/
import Derived.Test.YtkkdkeogplgkfaaPFnSelectedBoxesx0
import Derived.Test.YtkkdkeogplgkfaaPFnSelectedBoxesx1
import Derived.Test.YtkkdkeogplgkfaaPFnSelectedBoxesx5
import Derived.Test.YtkkdkeogplgkfaaPFnSelectedBoxesx6
import Derived.Test.YtkkdkeogplgkfaaPFnSelectedBoxesx7
namespace Go.Proofs.Ytkkdkeogplgkfaa.PFnSelectedBoxes
open Go.RowKit Go.Proofs.YtkkdkeogplgkfaaW.PrintWords Go.Proofs.YtkkdkeogplgkfaaW.PrintLast Go.Proofs.YtkkdkeogplgkfaaW.PrintMore
attribute [local go_sem] max2_int min2_int max_two min_two max_three min_three max_four min_four
set_option linter.unusedVariables false
set_option linter.unusedSimpArgs false
set_option maxHeartbeats 8000000
set_option maxRecDepth 100000
def spec_ElementsOf.f (k : Nat) (l0 : List Int) : Option (Int) := (cP.f k l0).bind fun t771 => (if t771 = true then ((cE.f k l0).bind fun t772 => (some t772)) else (some (-1)))
theorem spec_ElementsOf.calls (k : Nat) (A0 : Option Addr) (c0 : Nat) (l0 : List Int) (r : Int) (w : World) (C0 : Cm (Kd.int .i64) w A0 c0 l0) (h : spec_ElementsOf.f k l0 = some r) :
 Calls Try.prog 8 #[.slice A0 l0.length c0] w fun e w' => e = .returned (.int .i64 r) ∧ aT w w' := by
 unfold spec_ElementsOf.f at h
 have H := h
 clear h
 replace ⟨t771, A2, H⟩ := sV H
 replace H := sS H; rcases H with ⟨rfl, H⟩ | ⟨rfl, H⟩
 ·
  obtain rfl := sJ H; go_enter Try.func8, Try.ntmps8
  go_wp2_with (first | (refine gC 27 ?_; refine gL 4 Try.func27 _ ((cP.calls k _ _ l0 false _ ?z1 A2.out).mono ?_); (case z1 => exact ⟨(by repeat (first | exact C0.r | (with_reducible first | refine yV ?_ _ | refine yW ?_ _ | refine yX ?_))), C0.h⟩); rintro e w' ⟨rfl, ⟨nd, rfl⟩⟩; refine ⟨_, rfl, ?_⟩))
  go_ret
  exact ⟨by first | rfl | (simp; done) | (simp [*]; done), by repeat (first | exact aT.refl _ | apply aT.step)⟩
 replace ⟨t772, A4, H⟩ := sV H
 obtain rfl := sJ H; go_enter Try.func8, Try.ntmps8
 go_wp2_with (first | (refine gC 27 ?_; refine gL 4 Try.func27 _ ((cP.calls k _ _ l0 true _ ?z1 A2.out).mono ?_); (case z1 => exact ⟨(by repeat (first | exact C0.r | (with_reducible first | refine yV ?_ _ | refine yW ?_ _ | refine yX ?_))), C0.h⟩); rintro e w' ⟨rfl, ⟨nd, rfl⟩⟩; refine ⟨_, rfl, ?_⟩) | (refine gC 28 ?_; refine gL 7 Try.func28 _ ((cE.calls k _ _ l0 t772 _ ?z1 A4.out).mono ?_); (case z1 => exact ⟨(by repeat (first | exact C0.r | (with_reducible first | refine yV ?_ _ | refine yW ?_ _ | refine yX ?_))), C0.h⟩); rintro e w' ⟨rfl, ⟨nd, rfl⟩⟩; refine ⟨_, rfl, ?_⟩))
 go_ret
 exact ⟨by first | rfl | (simp; done) | (simp [*]; done), by repeat (first | exact aT.refl _ | apply aT.step)⟩
def spec_CoordsOf.f (k : Nat) (l0 : List Int) (a1 : Int) : Option (List Int) := (cP.f k l0).bind fun t773 => (if t773 = true then ((cE.f k l0).bind fun t774 => ((bO.f a1 0 (wrap64 (t774 - 1))).bind fun t775 => (if t775 = true then ((spec_l05Coords.f k l0 a1).bind fun t776 => (some t776)) else (some ([] : List Int))))) else (some ([] : List Int)))
theorem spec_CoordsOf.calls (k : Nat) (A0 : Option Addr) (c0 : Nat) (l0 : List Int) (a1 : Int) (r : List Int) (w : World) (C0 : Cm (Kd.int .i64) w A0 c0 l0) (h : spec_CoordsOf.f k l0 a1 = some r) :
 Calls Try.prog 9 #[.slice A0 l0.length c0, .int .i64 a1] w fun e w' => ∃ v0_ : Value, e = .returned (v0_) ∧ Kd.R (Kd.int .i64) 2 w' w.heap.size (fun _ => True) v0_ r ∧ Below w.heap.size w w' := by
 have HB := yD (Below.refl w.heap.size w)
 unfold spec_CoordsOf.f at h
 have H := h
 clear h
 replace ⟨t773, A3, H⟩ := sV H
 replace H := sS H; rcases H with ⟨rfl, H⟩ | ⟨rfl, H⟩
 ·
  obtain rfl := sJ H; go_enter Try.func9, Try.ntmps9
  go_wp2_with (first | (refine gC 27 ?_; refine gL 6 Try.func27 _ ((cP.calls k _ _ l0 false _ ?z1 A3.out).mono ?_); (case z1 => exact ⟨(by repeat (first | exact C0.r | (with_reducible first | refine yV ?_ _ | refine yW ?_ _ | refine yX ?_))), C0.h⟩); rintro e w' ⟨rfl, ⟨nd, rfl⟩⟩; refine ⟨_, rfl, ?_⟩))
  go_ret
  exact ⟨_, kE, by first | exact Kd.R_nil _ _ _ _ _ | exact Kd.N_nil _ _ _ _ _ | exact Kd.V_nil _ _ _ _ _ | exact Kd.Q_nil _ _ _ _ _ | exact Kd.S_nil _ _ _ _ _, kR0 HB⟩
 replace ⟨t774, A5, H⟩ := sV H
 replace ⟨t775, A6, H⟩ := sV H
 replace H := sS H; rcases H with ⟨rfl, H⟩ | ⟨rfl, H⟩
 ·
  obtain rfl := sJ H; go_enter Try.func9, Try.ntmps9
  go_wp2_with (first | (refine gC 27 ?_; refine gL 6 Try.func27 _ ((cP.calls k _ _ l0 true _ ?z1 A3.out).mono ?_); (case z1 => exact ⟨(by repeat (first | exact C0.r | (with_reducible first | refine yV ?_ _ | refine yW ?_ _ | refine yX ?_))), C0.h⟩); rintro e w' ⟨rfl, ⟨nd, rfl⟩⟩; refine ⟨_, rfl, ?_⟩) | (go_at_call 28; (with_reducible refine (cE.calls k _ _ l0 t774 _ ?z1 A5.out).mono ?_); (case z1 => exact ⟨(by repeat (first | exact C0.r | (with_reducible first | refine yV ?_ _ | refine yW ?_ _ | refine yX ?_))), C0.h⟩); rintro e w' ⟨rfl, ⟨nd, rfl⟩⟩) | (go_at_call 29; (with_reducible refine (bO.calls a1 0 (wrap64 (t774 - 1)) false _ A6.out).mono ?_); rintro e w' ⟨rfl, ⟨nd, rfl⟩⟩))
  go_ret
  exact ⟨_, kE, by first | exact Kd.R_nil _ _ _ _ _ | exact Kd.N_nil _ _ _ _ _ | exact Kd.V_nil _ _ _ _ _ | exact Kd.Q_nil _ _ _ _ _ | exact Kd.S_nil _ _ _ _ _, kR0 HB⟩
 replace ⟨t776, A8, H⟩ := sV H
 obtain rfl := sJ H; go_enter Try.func9, Try.ntmps9
 go_wp2_with (first | (refine gC 27 ?_; refine gL 6 Try.func27 _ ((cP.calls k _ _ l0 true _ ?z1 A3.out).mono ?_); (case z1 => exact ⟨(by repeat (first | exact C0.r | (with_reducible first | refine yV ?_ _ | refine yW ?_ _ | refine yX ?_))), C0.h⟩); rintro e w' ⟨rfl, ⟨nd, rfl⟩⟩; refine ⟨_, rfl, ?_⟩) | (go_at_call 28; (with_reducible refine (cE.calls k _ _ l0 t774 _ ?z1 A5.out).mono ?_); (case z1 => exact ⟨(by repeat (first | exact C0.r | (with_reducible first | refine yV ?_ _ | refine yW ?_ _ | refine yX ?_))), C0.h⟩); rintro e w' ⟨rfl, ⟨nd, rfl⟩⟩) | (go_at_call 29; (with_reducible refine (bO.calls a1 0 (wrap64 (t774 - 1)) true _ A6.out).mono ?_); rintro e w' ⟨rfl, ⟨nd, rfl⟩⟩) | (refine gC 30 ?_; refine gL 18 Try.func30 _ (dv (spec_l05Coords.calls k _ _ l0 a1 t776 _ ?z1 A8.out) fun v777 w9 ho0 hb => ?_); (case z1 => exact ⟨(by repeat (first | exact C0.r | (with_reducible first | refine yV ?_ _ | refine yW ?_ _ | refine yX ?_))), C0.h⟩); have HO778 := yD (yZ ho0 (aD (kB HB))); replace HB := zX HB hb; clear hb ho0))
 go_ret
 exact ⟨_, kE, kA HO778, kR0 HB⟩
def spec_l00Has.l0 : Nat → List Int → Int → Int → Option (Bool)
 | 0, _, _, _ => none
 | k + 1, x0, x1, x5 => if x5 < (x0.length : Int) then (if 0 ≤ x5 then (if (rd x0 x5) = x1 then (some true) else (spec_l00Has.l0 k x0 x1 (wrap64 (x5 + 1)))) else (none)) else (some false)
def spec_l00Has.f (k : Nat) (l0 : List Int) (a1 : Int) : Option (Bool) := spec_l00Has.l0 k l0 a1 0
theorem spec_l00Has.calls (k : Nat) (A0 : Option Addr) (c0 : Nat) (l0 : List Int) (a1 : Int) (r : Bool) (w : World) (C0 : Cm (Kd.int .i64) w A0 c0 l0) (h : spec_l00Has.f k l0 a1 = some r) :
 Calls Try.prog 32 #[.slice A0 l0.length c0, .int .i64 a1] w fun e w' => e = .returned (.bool r) ∧ aT w w' := by
 unfold spec_l00Has.f at h
 have H := h
 clear h
 have H' := yD H
 clear H; go_enter Try.func32, Try.ntmps32
 go_wp2
 go_loopg [5] k (fun kq v5 w' => ∃ (x5_1 : Int), v5 = .int .i64 x5_1 ∧ aC (spec_l00Has.l0 kq l0 a1 x5_1 = some r) ∧ aC (kq ≤ k) ∧ aT w w')
 case atStart => exact ⟨(0), kF, H', ⟨Nat.le_refl _⟩, by repeat (first | exact aT.refl _ | apply aT.step)⟩
 case round =>
  clear H'
  obtain ⟨x5_1, rfl, HA, HK1, ⟨m1, rfl⟩⟩ := hrel
  cases gk with
  | zero => exact absurd HA.out (by simp [spec_l00Has.l0])
  | succ k1 =>
   have H := HA.out; clear HA
   simp only [spec_l00Has.l0] at H
   replace H := sG H; rcases H with ⟨c3b0, H⟩ | ⟨c3b0, H⟩
   · obtain rfl := sJ H
     go_wp2
     go_ret
     exact ⟨by first | rfl | (simp; done) | (simp [*]; done), by repeat (first | exact aT.refl _ | apply aT.step)⟩
   replace ⟨c4b0, H⟩ := sE H
   replace H := sQ H; rcases H with ⟨-, c5b0, c5b1, H⟩ | ⟨c5, c5b0, c5b1, H⟩
   ·
    obtain rfl := sJ H
    obtain ⟨p779, q779, ad779, e779, hx779_0⟩ := sI (Kd.aX C0.r x5_1)
    cases e779
    go_wp2
    go_ret
    exact ⟨by first | rfl | (simp; done) | (simp [*]; done), by repeat (first | exact aT.refl _ | apply aT.step)⟩
   have H' := yD H
   clear H
   obtain ⟨p779, q779, ad779, e779, hx779_0⟩ := sI (Kd.aX C0.r x5_1)
   cases e779
   go_wp2
   go_roundg k1
   case measure => have := HK1.out; omega
   case rel => exact ⟨(wrap64 (x5_1 + 1)), kF, H', ⟨by have := HK1.out; omega⟩, by repeat (first | exact aT.refl _ | apply aT.step)⟩
def spec_IsSelected.f (k : Nat) (l0 : List Int) (a1_0 : Int) (l1_1 l1_2 : List Int) (l1_3 l1_4 : List Int) (l1_5 : List (S68)) (l2 : List Int) : Option (Bool) := (bA.f k l0 a1_0 l1_1 l1_2 l1_3 l1_4 l1_5).bind fun t781 => (if t781 = true then ((spec_l05Inside.f k l0 l2).bind fun t782 => (if t782 = true then ((aH.f k l0 a1_0 l1_1 l1_2 l1_3 l1_4 l1_5).bind fun t783 => ((spec_l05Index.f k l0 l2).bind fun t786 => ((spec_l00Has.f k t783 t786).bind fun t787 => (some t787)))) else (some false))) else (some false))
theorem spec_IsSelected.calls (k : Nat) (A0 : Option Addr) (c0 : Nat) (l0 : List Int) (a1_0 : Int) (A1_1 : Option Addr) (c1_1 : Nat) (l1_1 : List Int) (A1_2 : Option Addr) (c1_2 : Nat) (l1_2 : List Int) (A1_3 : Option Addr) (c1_3 : Nat) (l1_3 : List Int) (A1_4 : Option Addr) (c1_4 : Nat) (l1_4 : List Int) (A1_5 : Option Addr) (c1_5 : Nat) (l1_5 : List (S68)) (A2 : Option Addr) (c2 : Nat) (l2 : List Int) (r : Bool) (w : World) (C0 : Cm (Kd.int .i64) w A0 c0 l0) (C1_1 : Cm (Kd.int .i64) w A1_1 c1_1 l1_1) (C1_2 : Cm (Kd.int .i64) w A1_2 c1_2 l1_2) (C1_3 : Cm (Kd.int .i64) w A1_3 c1_3 l1_3) (C1_4 : Cm (Kd.int .i64) w A1_4 c1_4 l1_4) (C1_5 : Cm k68 w A1_5 c1_5 l1_5) (C2 : Cm (Kd.int .i64) w A2 c2 l2) (h : spec_IsSelected.f k l0 a1_0 l1_1 l1_2 l1_3 l1_4 l1_5 l2 = some r) :
 Calls Try.prog 10 #[.slice A0 l0.length c0, .agg #[.int .i64 a1_0, .slice A1_1 l1_1.length c1_1, .slice A1_2 l1_2.length c1_2, .slice A1_3 l1_3.length c1_3, .slice A1_4 l1_4.length c1_4, .slice A1_5 l1_5.length c1_5], .slice A2 l2.length c2] w fun e w' => e = .returned (.bool r) ∧ Below w.heap.size w w' := by
 have hu26 := Try.underlying26
 have HB := yD (Below.refl w.heap.size w)
 unfold spec_IsSelected.f at h
 have H := h
 clear h
 replace ⟨t781, A4, H⟩ := sV H
 replace H := sS H; rcases H with ⟨rfl, H⟩ | ⟨rfl, H⟩
 ·
  obtain rfl := sJ H; go_enter Try.func10, Try.ntmps10
  go_wp2_with (first | (refine gD 4 ?_; refine bF (N := 4) (cs := #[.int .i64 a1_0, .slice A1_1 l1_1.length c1_1, .slice A1_2 l1_2.length c1_2, .slice A1_3 l1_3.length c1_3, .slice A1_4 l1_4.length c1_4, .slice A1_5 l1_5.length c1_5]) (t := 26) HB ?_; intro gb780 w20 BK780 GW780 HB; have := cf6_ BK780.out) | (refine gC 24 ?_; refine gL 9 Try.func24 _ (dn (bA.calls k _ _ l0 a1_0 _ _ l1_1 _ _ l1_2 _ _ l1_3 _ _ l1_4 _ _ l1_5 false _ (C0.b HB) (C1_1.b HB) (C1_2.b HB) (C1_3.b HB) (C1_4.b HB) (C1_5.b HB) A4.out) fun w22 hb => ?_); replace BK780 := zY BK780 hb; replace HB := zX HB hb; clear hb))
  go_ret
  exact ⟨kE, kR1 HB⟩
 replace ⟨t782, A6, H⟩ := sV H
 replace H := sS H; rcases H with ⟨rfl, H⟩ | ⟨rfl, H⟩
 ·
  obtain rfl := sJ H; go_enter Try.func10, Try.ntmps10
  go_wp2_with (first | (refine gD 4 ?_; refine bF (N := 4) (cs := #[.int .i64 a1_0, .slice A1_1 l1_1.length c1_1, .slice A1_2 l1_2.length c1_2, .slice A1_3 l1_3.length c1_3, .slice A1_4 l1_4.length c1_4, .slice A1_5 l1_5.length c1_5]) (t := 26) HB ?_; intro gb780 w17 BK780 GW780 HB; have := cf6_ BK780.out) | (refine gC 24 ?_; refine gL 9 Try.func24 _ (dn (bA.calls k _ _ l0 a1_0 _ _ l1_1 _ _ l1_2 _ _ l1_3 _ _ l1_4 _ _ l1_5 true _ (C0.b HB) (C1_1.b HB) (C1_2.b HB) (C1_3.b HB) (C1_4.b HB) (C1_5.b HB) A4.out) fun w19 hb => ?_); replace BK780 := zY BK780 hb; replace HB := zX HB hb; clear hb) | (go_at_call 31; (with_reducible refine (spec_l05Inside.calls k _ _ l0 _ _ l2 false _ (C0.b HB) (C2.b HB) A6.out).mono ?_); rintro e w' ⟨rfl, ⟨nd, rfl⟩⟩))
  go_ret
  exact ⟨kE, kR1 HB⟩
 replace ⟨t783, A8, H⟩ := sV H
 replace ⟨t786, A9, H⟩ := sV H
 replace ⟨t787, A10, H⟩ := sV H
 obtain rfl := sJ H; go_enter Try.func10, Try.ntmps10
 go_wp2_with (first | (refine gD 4 ?_; refine bF (N := 4) (cs := #[.int .i64 a1_0, .slice A1_1 l1_1.length c1_1, .slice A1_2 l1_2.length c1_2, .slice A1_3 l1_3.length c1_3, .slice A1_4 l1_4.length c1_4, .slice A1_5 l1_5.length c1_5]) (t := 26) HB ?_; intro gb780 w11 BK780 GW780 HB; have := cf6_ BK780.out) | (refine gC 24 ?_; refine gL 9 Try.func24 _ (dn (bA.calls k _ _ l0 a1_0 _ _ l1_1 _ _ l1_2 _ _ l1_3 _ _ l1_4 _ _ l1_5 true _ (C0.b HB) (C1_1.b HB) (C1_2.b HB) (C1_3.b HB) (C1_4.b HB) (C1_5.b HB) A4.out) fun w13 hb => ?_); replace BK780 := zY BK780 hb; replace HB := zX HB hb; clear hb) | (go_at_call 31; (with_reducible refine (spec_l05Inside.calls k _ _ l0 _ _ l2 true _ (C0.b HB) (C2.b HB) A6.out).mono ?_); rintro e w' ⟨rfl, ⟨nd, rfl⟩⟩; have := cf6_ BK780.out) | (go_at_call 33; (with_reducible refine (aH.calls k _ _ l0 a1_0 _ _ l1_1 _ _ l1_2 _ _ l1_3 _ _ l1_4 _ _ l1_5 t783 _ (C0.b HB) (C1_1.b HB) (C1_2.b HB) (C1_3.b HB) (C1_4.b HB) (C1_5.b HB) A8.out).mono ?_); rintro e w15 ⟨v784, rfl, ho0, hb⟩; have HO785 := yD (yZ ho0 (aD (kB HB))); replace BK780 := zY BK780 hb; replace HB := zX HB hb; clear hb ho0) | (go_at_call 34; (with_reducible refine (spec_l05Index.calls k _ _ l0 _ _ l2 t786 _ (C0.b HB) (C2.b HB) A9.out).mono ?_); rintro e w' ⟨rfl, ⟨nd, rfl⟩⟩; obtain ⟨Ao16, co16, eo16⟩ := Kd.bS HO785.out; subst eo16) | (go_at_call 32; (with_reducible refine (spec_l00Has.calls k _ _ t783 t786 t787 _ ?z1 A10.out).mono ?_); (case z1 => exact ⟨kV (zA HO785.out).2.2, (zA HO785.out).2.1⟩); rintro e w' ⟨rfl, ⟨nd, rfl⟩⟩))
 go_ret
 exact ⟨kE, kR1 HB⟩
def impl_Box_has.l0 : Nat → List Int → Int → Int → List Int → List Int → Option (Bool)
 | 0, _, _, _, _, _ => none
 | k + 1, x7, x8, x9, x789000, x789001 => if x9 < x8 then (if 0 ≤ x9 then (if x9 < (x7.length : Int) then (if x9 < (x789000.length : Int) then (if x9 < (x789001.length : Int) then ((bT.f (rd x7 x9) (rd x789000 x9) (wrap64 ((rd x789001 x9) - 1))).bind fun t792 => (if t792 = true then (impl_Box_has.l0 k x7 x8 (wrap64 (x9 + 1)) x789000 x789001) else (some false))) else (none)) else (none)) else (none)) else (none)) else (some true)
def impl_Box_has.f (k : Nat) (l0_0 l0_1 l1 : List Int) : Option (Bool) := impl_Box_has.l0 k l1 (l1.length : Int) 0 l0_0 l0_1
theorem impl_Box_has.calls (k : Nat) (A0_0 : Option Addr) (c0_0 : Nat) (l0_0 : List Int) (A0_1 : Option Addr) (c0_1 : Nat) (l0_1 : List Int) (A1 : Option Addr) (c1 : Nat) (l1 : List Int) (r : Bool) (w : World) (C0_0 : Cm (Kd.int .i64) w A0_0 c0_0 l0_0) (C0_1 : Cm (Kd.int .i64) w A0_1 c0_1 l0_1) (C1 : Cm (Kd.int .i64) w A1 c1 l1) (h : impl_Box_has.f k l0_0 l0_1 l1 = some r) :
 Calls Try.prog 37 #[.agg #[.slice A0_0 l0_0.length c0_0, .slice A0_1 l0_1.length c0_1], .slice A1 l1.length c1] w fun e w' => e = .returned (.bool r) ∧ Below w.heap.size w w' := by
 have hu33 := Try.underlying33
 have HB := yD (Below.refl w.heap.size w)
 unfold impl_Box_has.f at h
 have H := h
 clear h
 have H' := yD H
 clear H; go_enter Try.func37, Try.ntmps37
 go_wp2_with (first | (refine gD 2 ?_; refine bF (N := 2) (cs := #[.slice A0_0 l0_0.length c0_0, .slice A0_1 l0_1.length c0_1]) (t := 33) HB ?_; intro gb788 w3 BK788 GW788 HB))
 repeat (go_quiet (first | (refine gD 2 ?_; refine bF (N := 2) (cs := #[.slice A0_0 l0_0.length c0_0, .slice A0_1 l0_1.length c0_1]) (t := 33) HB ?_; intro gb788 w3 BK788 GW788 HB)); try go_wp2_with (first | (refine gD 2 ?_; refine bF (N := 2) (cs := #[.slice A0_0 l0_0.length c0_0, .slice A0_1 l0_1.length c0_1]) (t := 33) HB ?_; intro gb788 w3 BK788 GW788 HB)))
 go_loopg [9] k (fun kq v9 w' => ∃ (x9_1 : Int), v9 = .int .i64 x9_1 ∧ aC (impl_Box_has.l0 kq l1 (l1.length : Int) x9_1 l0_0 l0_1 = some r) ∧ aC (kq ≤ k) ∧ aC (w'.heap[gb788]? = some (.cells #[(.slice A0_0 l0_0.length c0_0), (.slice A0_1 l0_1.length c0_1)] 33 (0, 0))) ∧ aC (Below w.heap.size w w'))
 case atStart => exact ⟨(0), kF, H', ⟨Nat.le_refl _⟩, ⟨kM BK788⟩, ⟨kR1 HB⟩⟩
 case round =>
  clear H'
  obtain ⟨x9_1, rfl, HA, HK1, BK788, HB⟩ := hrel
  cases gk with
  | zero => exact absurd HA.out (by simp [impl_Box_has.l0])
  | succ k1 =>
   have H := HA.out; clear HA
   simp only [impl_Box_has.l0] at H
   replace H := sG H; rcases H with ⟨c4b0, H⟩ | ⟨c4b0, H⟩
   · obtain rfl := sJ H
     go_wp2
     repeat (go_quiet (fail); try go_wp2)
     go_ret
     exact ⟨kE, kR1 HB⟩
   replace ⟨c5b0, H⟩ := sE H
   replace ⟨c6b0, H⟩ := sE H
   replace ⟨c7b0, H⟩ := sE H
   replace ⟨c8b0, H⟩ := sE H
   replace ⟨t792, A9, H⟩ := sV H
   replace H := sS H; rcases H with ⟨rfl, H⟩ | ⟨rfl, H⟩
   ·
    obtain rfl := sJ H
    obtain ⟨p789, q789, ad789, e789, hx789_0⟩ := sI (Kd.aX C1.r x9_1)
    cases e789
    replace hx789_0 := kD HB hx789_0
    have := cf2_ BK788.out
    obtain ⟨p790, q790, ad790, e790, hx790_0⟩ := sI (Kd.aX C0_0.r x9_1)
    cases e790
    replace hx790_0 := kD HB hx790_0
    obtain ⟨p791, q791, ad791, e791, hx791_0⟩ := sI (Kd.aX C0_1.r x9_1)
    cases e791
    replace hx791_0 := kD HB hx791_0
    go_wp2_with (first | (go_at_call 62; (with_reducible refine (bT.calls (rd l1 x9_1) (rd l0_0 x9_1) (wrap64 ((rd l0_1 x9_1) - 1)) false _ A9.out).mono ?_); rintro e w' ⟨rfl, ⟨nd, rfl⟩⟩; (try first | exact ⟨rfl, _, World.drewN_drewN _ _ _⟩ | exact ⟨rfl, _, Eq.trans (World.drewN_drewN _ _ _) (congrArg (World.drewN _) (Nat.add_assoc _ _ _))⟩)))
    repeat (go_quiet (first | (go_at_call 62; (with_reducible refine (bT.calls (rd l1 x9_1) (rd l0_0 x9_1) (wrap64 ((rd l0_1 x9_1) - 1)) false _ A9.out).mono ?_); rintro e w' ⟨rfl, ⟨nd, rfl⟩⟩; (try first | exact ⟨rfl, _, World.drewN_drewN _ _ _⟩ | exact ⟨rfl, _, Eq.trans (World.drewN_drewN _ _ _) (congrArg (World.drewN _) (Nat.add_assoc _ _ _))⟩))); try go_wp2_with (first | (go_at_call 62; (with_reducible refine (bT.calls (rd l1 x9_1) (rd l0_0 x9_1) (wrap64 ((rd l0_1 x9_1) - 1)) false _ A9.out).mono ?_); rintro e w' ⟨rfl, ⟨nd, rfl⟩⟩; (try first | exact ⟨rfl, _, World.drewN_drewN _ _ _⟩ | exact ⟨rfl, _, Eq.trans (World.drewN_drewN _ _ _) (congrArg (World.drewN _) (Nat.add_assoc _ _ _))⟩))))
    go_ret
    exact ⟨kE, kR1 HB⟩
   have H' := yD H
   clear H
   obtain ⟨p789, q789, ad789, e789, hx789_0⟩ := sI (Kd.aX C1.r x9_1)
   cases e789
   replace hx789_0 := kD HB hx789_0
   have := cf2_ BK788.out
   obtain ⟨p790, q790, ad790, e790, hx790_0⟩ := sI (Kd.aX C0_0.r x9_1)
   cases e790
   replace hx790_0 := kD HB hx790_0
   obtain ⟨p791, q791, ad791, e791, hx791_0⟩ := sI (Kd.aX C0_1.r x9_1)
   cases e791
   replace hx791_0 := kD HB hx791_0
   go_wp2_with (first | (go_at_call 62; (with_reducible refine (bT.calls (rd l1 x9_1) (rd l0_0 x9_1) (wrap64 ((rd l0_1 x9_1) - 1)) true _ A9.out).mono ?_); rintro e w' ⟨rfl, ⟨nd, rfl⟩⟩; (try first | exact ⟨rfl, _, World.drewN_drewN _ _ _⟩ | exact ⟨rfl, _, Eq.trans (World.drewN_drewN _ _ _) (congrArg (World.drewN _) (Nat.add_assoc _ _ _))⟩)))
   repeat (go_quiet (first | (go_at_call 62; (with_reducible refine (bT.calls (rd l1 x9_1) (rd l0_0 x9_1) (wrap64 ((rd l0_1 x9_1) - 1)) true _ A9.out).mono ?_); rintro e w' ⟨rfl, ⟨nd, rfl⟩⟩; (try first | exact ⟨rfl, _, World.drewN_drewN _ _ _⟩ | exact ⟨rfl, _, Eq.trans (World.drewN_drewN _ _ _) (congrArg (World.drewN _) (Nat.add_assoc _ _ _))⟩))); try go_wp2_with (first | (go_at_call 62; (with_reducible refine (bT.calls (rd l1 x9_1) (rd l0_0 x9_1) (wrap64 ((rd l0_1 x9_1) - 1)) true _ A9.out).mono ?_); rintro e w' ⟨rfl, ⟨nd, rfl⟩⟩; (try first | exact ⟨rfl, _, World.drewN_drewN _ _ _⟩ | exact ⟨rfl, _, Eq.trans (World.drewN_drewN _ _ _) (congrArg (World.drewN _) (Nat.add_assoc _ _ _))⟩))))
   go_roundg k1
   case measure => have := HK1.out; omega
   case rel => exact ⟨(wrap64 (x9_1 + 1)), kF, H', ⟨by have := HK1.out; omega⟩, ⟨kM BK788⟩, ⟨kR1 HB⟩⟩
def impl_InBoxes_1.f (k : Nat) (l0_0 l0_1 l1_0 : List Int) : Option (Bool) := if (l0_0.length : Int) = (l1_0.length : Int) then ((impl_Box_has.f k l0_0 l0_1 l1_0).bind fun t794 => (some t794)) else (some false)
theorem impl_InBoxes_1.calls (k : Nat) (A0_0 : Option Addr) (c0_0 : Nat) (l0_0 : List Int) (A0_1 : Option Addr) (c0_1 : Nat) (l0_1 : List Int) (g1_0 : Nat) (A1_0 : Option Addr) (c1_0 : Nat) (l1_0 : List Int) (r : Bool) (w : World) (C0_0 : Cm (Kd.int .i64) w A0_0 c0_0 l0_0) (C0_1 : Cm (Kd.int .i64) w A0_1 c0_1 l0_1) (C1_0 : Cm (Kd.int .i64) w A1_0 c1_0 l1_0) (hb1_0 : w.heap[g1_0]? = some (.cells #[.slice A1_0 l1_0.length c1_0] 23 (0, 0))) (h : impl_InBoxes_1.f k l0_0 l0_1 l1_0 = some r) :
 Calls Try.prog 36 #[.agg #[.slice A0_0 l0_0.length c0_0, .slice A0_1 l0_1.length c0_1], .pointer (some ⟨g1_0, 0, none⟩)] w fun e w' => e = .returned (.bool r) ∧ Below w.heap.size w w' := by
 have hu33 := Try.underlying33
 have BK48 := yD hb1_0
 clear hb1_0
 have HB := yD (Below.refl w.heap.size w)
 unfold impl_InBoxes_1.f at h
 have H := h
 clear h
 replace H := sP H; rcases H with ⟨c3, c3b0, c3b1, H⟩ | ⟨c3, c3b0, c3b1, H⟩
 ·
  have c3b2 : (l0_0.length == l1_0.length) = false := by first | simpa using c3 | (simp at c3 ⊢; omega)
  obtain rfl := sJ H; go_enter Try.func36, Try.ntmps36
  go_wp2_with (first | (refine gD 2 ?_; refine bE (N := 2) (cs := #[.slice A0_0 l0_0.length c0_0, .slice A0_1 l0_1.length c0_1]) (t := 33) ?_; intro gb793 hg w10 hbox hb; have BK793 := yD (hbox); have GW793 := sW hg HB; replace HB := zX HB hb; have NB48_793 := yD ((by rw [hg]; exact Nat.ne_of_lt (cT (kN BK48)) : g1_0 ≠ gb793)); have NB793_48 := yD ((by rw [hg]; exact Nat.ne_of_gt (cT (kN BK48)) : gb793 ≠ g1_0)); replace BK48 := zY BK48 hb; clear hb hbox hg; have hnb11 := NB793_48.out; have hnc11 := NB48_793.out; have := cf2_ BK793.out; have hcz13_0 : w10.cell? ⟨g1_0, 0, none⟩ = some (.slice A1_0 l1_0.length c1_0) := (yG BK48.out 0).trans rfl; have hfz13_0 := yR BK48.out 0))
  go_ret
  exact ⟨kE, kR1 HB⟩
 have c3b2 : (l0_0.length == l1_0.length) = true := by first | simpa using c3 | (simp at c3 ⊢; omega)
 clear c3
 replace ⟨t794, A4, H⟩ := sV H
 obtain rfl := sJ H; go_enter Try.func36, Try.ntmps36
 go_wp2_with (first | (refine gD 2 ?_; refine bE (N := 2) (cs := #[.slice A0_0 l0_0.length c0_0, .slice A0_1 l0_1.length c0_1]) (t := 33) ?_; intro gb793 hg w5 hbox hb; have BK793 := yD (hbox); have GW793 := sW hg HB; replace HB := zX HB hb; have NB48_793 := yD ((by rw [hg]; exact Nat.ne_of_lt (cT (kN BK48)) : g1_0 ≠ gb793)); have NB793_48 := yD ((by rw [hg]; exact Nat.ne_of_gt (cT (kN BK48)) : gb793 ≠ g1_0)); replace BK48 := zY BK48 hb; clear hb hbox hg; have hnb6 := NB793_48.out; have hnc6 := NB48_793.out; have := cf2_ BK793.out; have hcz8_0 : w5.cell? ⟨g1_0, 0, none⟩ = some (.slice A1_0 l1_0.length c1_0) := (yG BK48.out 0).trans rfl; have hfz8_0 := yR BK48.out 0) | (go_at_call 37; (with_reducible refine (impl_Box_has.calls k _ _ l0_0 _ _ l0_1 _ _ l1_0 t794 _ (C0_0.b HB) (C0_1.b HB) (C1_0.b HB) A4.out).mono ?_); rintro e w9 ⟨rfl, hb⟩; replace BK48 := zY BK48 hb; replace BK793 := zY BK793 hb; replace HB := zX HB hb; clear hb))
 go_ret
 exact ⟨kE, kR1 HB⟩
def bK.l0 : Nat → List (S33) → Int → Int → List Int → Option (Int)
 | 0, _, _, _, _ => none
 | k + 1, x0, x7, x8, x49000 => if x8 < x7 then (if 0 ≤ x8 then (if x8 < (x0.length : Int) then ((impl_InBoxes_1.f k ((aA x0 x8).f0) ((aA x0 x8).f1) x49000).bind fun t796 => (if t796 = true then (some x8) else (bK.l0 k x0 x7 (wrap64 (x8 + 1)) x49000))) else (none)) else (none)) else (some (-1))
def bK.f (k : Nat) (l0 : List (S33)) (l1_0 : List Int) : Option (Int) := bK.l0 k l0 (l0.length : Int) 0 l1_0
theorem bK.calls (k : Nat) (A0 : Option Addr) (c0 : Nat) (l0 : List (S33)) (g1_0 : Nat) (A1_0 : Option Addr) (c1_0 : Nat) (l1_0 : List Int) (r : Int) (w : World) (C0 : Cm k33 w A0 c0 l0) (C1_0 : Cm (Kd.int .i64) w A1_0 c1_0 l1_0) (hb1_0 : w.heap[g1_0]? = some (.cells #[.slice A1_0 l1_0.length c1_0] 23 (0, 0))) (h : bK.f k l0 l1_0 = some r) :
 Calls Try.prog 61 #[.slice A0 l0.length c0, .func (.func 36) #[] #[.pointer (some ⟨g1_0, 0, none⟩)]] w fun e w' => e = .returned (.int .i64 r) ∧ Below w.heap.size w w' := by
 have hu33 := Try.underlying33
 have BK48 := yD hb1_0
 clear hb1_0
 have HB := yD (Below.refl w.heap.size w)
 unfold bK.f at h
 have H := h
 clear h
 have H' := yD H
 clear H; go_enter Try.func61, Try.ntmps61
 go_wp2
 go_loopg [8] k (fun kq v8 w' => ∃ (x8_1 : Int), v8 = .int .i64 x8_1 ∧ aC (bK.l0 kq l0 (l0.length : Int) x8_1 l1_0 = some r) ∧ aC (kq ≤ k) ∧ aC (w'.heap[g1_0]? = some (.cells #[(.slice A1_0 l1_0.length c1_0)] 23 (0, 0))) ∧ aC (Below w.heap.size w w'))
 case atStart => exact ⟨(0), kF, H', ⟨Nat.le_refl _⟩, ⟨kM BK48⟩, ⟨kR1 HB⟩⟩
 case round =>
  clear H'
  obtain ⟨x8_1, rfl, HA, HK1, BK48, HB⟩ := hrel
  cases gk with
  | zero => exact absurd HA.out (by simp [bK.l0])
  | succ k1 =>
   have H := HA.out; clear HA
   simp only [bK.l0] at H
   replace H := sG H; rcases H with ⟨c3b0, H⟩ | ⟨c3b0, H⟩
   · obtain rfl := sJ H
     go_wp2
     go_ret
     exact ⟨kE, kR1 HB⟩
   replace ⟨c4b0, H⟩ := sE H
   replace ⟨c5b0, H⟩ := sE H
   replace ⟨t796, A6, H⟩ := sV H
   replace H := sT H; rcases H with ⟨rfl, H⟩ | ⟨rfl, H⟩
   ·
    obtain rfl := sJ H
    obtain ⟨p795, q795, ad795, A795_0, c795_0, A795_1, c795_1, e795, hx795_0, hx795_1, HC795_0, HR795_0, HC795_1, HR795_1⟩ := sI (at_T33 C0.r x8_1)
    cases e795
    replace hx795_0 := kD HB hx795_0
    replace hx795_1 := kD HB hx795_1
    go_wp2_with (first | (go_at_call 36; (with_reducible refine (impl_InBoxes_1.calls k1 _ _ ((aA l0 x8_1).f0) _ _ ((aA l0 x8_1).f1) g1_0 A1_0 c1_0 l1_0 true _ (cB HR795_0 HC795_0 HB) (cB HR795_1 HC795_1 HB) (C1_0.b HB) ?z7 A6.out).mono ?_); (case z7 => exact kM BK48); rintro e w8 ⟨rfl, hb⟩; replace BK48 := zY BK48 hb; replace HB := zX HB hb; clear hb))
    go_ret
    exact ⟨kE, kR1 HB⟩
   have H' := yD H
   clear H
   obtain ⟨p795, q795, ad795, A795_0, c795_0, A795_1, c795_1, e795, hx795_0, hx795_1, HC795_0, HR795_0, HC795_1, HR795_1⟩ := sI (at_T33 C0.r x8_1)
   cases e795
   replace hx795_0 := kD HB hx795_0
   replace hx795_1 := kD HB hx795_1
   go_wp2_with (first | (go_at_call 36; (with_reducible refine (impl_InBoxes_1.calls k1 _ _ ((aA l0 x8_1).f0) _ _ ((aA l0 x8_1).f1) g1_0 A1_0 c1_0 l1_0 false _ (cB HR795_0 HC795_0 HB) (cB HR795_1 HC795_1 HB) (C1_0.b HB) ?z7 A6.out).mono ?_); (case z7 => exact kM BK48); rintro e w9 ⟨rfl, hb⟩; replace BK48 := zY BK48 hb; replace HB := zX HB hb; clear hb))
   go_roundg k1
   case measure => have := HK1.out; omega
   case rel => exact ⟨(wrap64 (x8_1 + 1)), kF, H', ⟨by have := HK1.out; omega⟩, ⟨kM BK48⟩, ⟨kR1 HB⟩⟩
def slices_ContainsFunc_impl_InBoxes_1.f (k : Nat) (l0 : List (S33)) (l1_0 : List Int) : Option (Bool) := (bK.f k l0 l1_0).bind fun t797 => (some (decide (t797 ≥ 0)))
theorem slices_ContainsFunc_impl_InBoxes_1.calls (k : Nat) (A0 : Option Addr) (c0 : Nat) (l0 : List (S33)) (g1_0 : Nat) (A1_0 : Option Addr) (c1_0 : Nat) (l1_0 : List Int) (r : Bool) (w : World) (C0 : Cm k33 w A0 c0 l0) (C1_0 : Cm (Kd.int .i64) w A1_0 c1_0 l1_0) (hb1_0 : w.heap[g1_0]? = some (.cells #[.slice A1_0 l1_0.length c1_0] 23 (0, 0))) (h : slices_ContainsFunc_impl_InBoxes_1.f k l0 l1_0 = some r) :
 Calls Try.prog 35 #[.slice A0 l0.length c0, .func (.func 36) #[] #[.pointer (some ⟨g1_0, 0, none⟩)]] w fun e w' => e = .returned (.bool r) ∧ Below w.heap.size w w' := by
 have BK48 := yD hb1_0
 clear hb1_0
 have HB := yD (Below.refl w.heap.size w)
 unfold slices_ContainsFunc_impl_InBoxes_1.f at h
 have H := h
 clear h
 replace ⟨t797, A3, H⟩ := sV H
 obtain rfl := sJ H; go_enter Try.func35, Try.ntmps35
 go_wp2_with (first | (refine gC 61 ?_; refine gL 7 Try.func61 _ (dn (bK.calls k _ _ l0 g1_0 A1_0 c1_0 l1_0 t797 _ ?z1 ?z3 ?z5 A3.out) fun w4 hb => ?_); (case z1 => exact ⟨(by repeat (first | exact C0.r | (with_reducible first | refine yV ?_ _ | refine yW ?_ _ | refine yX ?_))), C0.h⟩); (case z3 => exact ⟨(by repeat (first | exact C1_0.r | (with_reducible first | refine yV ?_ _ | refine yW ?_ _ | refine yX ?_))), C1_0.h⟩); (case z5 => exact kM BK48); replace BK48 := zY BK48 hb; replace HB := zX HB hb; clear hb))
 go_ret
 exact ⟨kE, kR1 HB⟩
def impl_InBoxes.f (k : Nat) (l0 : List (S33)) (l1 : List Int) : Option (Bool) := (impl_boxesOk.f k l0).bind fun t799 => (if t799 = true then ((slices_ContainsFunc_impl_InBoxes_1.f k l0 l1).bind fun t800 => (some t800)) else (some false))
theorem impl_InBoxes.calls (k : Nat) (A0 : Option Addr) (c0 : Nat) (l0 : List (S33)) (A1 : Option Addr) (c1 : Nat) (l1 : List Int) (r : Bool) (w : World) (C0 : Cm k33 w A0 c0 l0) (C1 : Cm (Kd.int .i64) w A1 c1 l1) (h : impl_InBoxes.f k l0 l1 = some r) :
 Calls Try.prog 11 #[.slice A0 l0.length c0, .slice A1 l1.length c1] w fun e w' => e = .returned (.bool r) ∧ Below w.heap.size w w' := by
 have HB := yD (Below.refl w.heap.size w)
 unfold impl_InBoxes.f at h
 have H := h
 clear h
 replace ⟨t799, A3, H⟩ := sV H
 replace H := sS H; rcases H with ⟨rfl, H⟩ | ⟨rfl, H⟩
 ·
  obtain rfl := sJ H; go_enter Try.func11, Try.ntmps11
  go_wp2_with (first | (refine gD 3 ?_; refine bF (N := 3) (cs := #[.slice A1 l1.length c1]) (t := 23) HB ?_; intro gb798 w9 BK798 GW798 HB) | (refine gC 26 ?_; refine gL 6 Try.func26 _ (dn (impl_boxesOk.calls k _ _ l0 false _ (C0.b HB) A3.out) fun w10 hb => ?_); replace BK798 := zY BK798 hb; replace HB := zX HB hb; clear hb))
  go_ret
  exact ⟨kE, kR1 HB⟩
 replace ⟨t800, A5, H⟩ := sV H
 obtain rfl := sJ H; go_enter Try.func11, Try.ntmps11
 go_wp2_with (first | (refine gD 3 ?_; refine bF (N := 3) (cs := #[.slice A1 l1.length c1]) (t := 23) HB ?_; intro gb798 w6 BK798 GW798 HB) | (refine gC 26 ?_; refine gL 6 Try.func26 _ (dn (impl_boxesOk.calls k _ _ l0 true _ (C0.b HB) A3.out) fun w7 hb => ?_); replace BK798 := zY BK798 hb; replace HB := zX HB hb; clear hb) | (go_at_call 35; (with_reducible refine (slices_ContainsFunc_impl_InBoxes_1.calls k _ _ l0 gb798 A1 c1 l1 t800 _ (C0.b HB) (C1.b HB) ?z5 A5.out).mono ?_); (case z5 => exact kM BK798); rintro e w8 ⟨rfl, hb⟩; replace BK798 := zY BK798 hb; replace HB := zX HB hb; clear hb))
 go_ret
 exact ⟨kE, kR1 HB⟩
mutual
def laws_d8In.l0 : Nat → List (S33) → List Int → Int → Option (Bool)
 | 0, _, _, _ => none
 | k + 1, x0, x1, x5 => if x5 < (x0.length : Int) then (if 0 ≤ x5 then (if (((aA x0 x5).f0).length : Int) = (x1.length : Int) then (laws_d8In.j1 k x0 x1 x5 ((((aA x0 x5).f1).length : Int) == (x1.length : Int))) else (laws_d8In.j1 k x0 x1 x5 false)) else (none)) else (some false)
def laws_d8In.j1 : Nat → List (S33) → List Int → Int → Bool → Option (Bool)
 | 0, _, _, _, _ => none
 | k + 1, x0, x1, x5, x6 => laws_d8In.l1 k x0 x1 x5 x6 0
def laws_d8In.l1 : Nat → List (S33) → List Int → Int → Bool → Int → Option (Bool)
 | 0, _, _, _, _, _ => none
 | k + 1, x0, x1, x5, x6, x7 => if x7 < (x1.length : Int) then (if x6 = true then (if 0 ≤ x7 then (if 0 ≤ x5 then (if x5 < (x0.length : Int) then (if x7 < (((aA x0 x5).f0).length : Int) then (if (rd x1 x7) ≥ (rd ((aA x0 x5).f0) x7) then (if x7 < (((aA x0 x5).f1).length : Int) then (laws_d8In.l1 k x0 x1 x5 (decide ((rd x1 x7) < (rd ((aA x0 x5).f1) x7))) (wrap64 (x7 + 1))) else (none)) else (laws_d8In.l1 k x0 x1 x5 false (wrap64 (x7 + 1)))) else (none)) else (none)) else (none)) else (none)) else (laws_d8In.l0 k x0 x1 (wrap64 (x5 + 1)))) else (if x6 = true then (some true) else (laws_d8In.l0 k x0 x1 (wrap64 (x5 + 1))))
end
def laws_d8In.f (k : Nat) (l0 : List (S33)) (l1 : List Int) : Option (Bool) := laws_d8In.l0 k l0 l1 0
theorem laws_d8In.calls (k : Nat) (A0 : Option Addr) (c0 : Nat) (l0 : List (S33)) (A1 : Option Addr) (c1 : Nat) (l1 : List Int) (r : Bool) (w : World) (C0 : Cm k33 w A0 c0 l0) (C1 : Cm (Kd.int .i64) w A1 c1 l1) (h : laws_d8In.f k l0 l1 = some r) :
 Calls Try.prog 12 #[.slice A0 l0.length c0, .slice A1 l1.length c1] w fun e w' => e = .returned (.bool r) ∧ aT w w' := by
 unfold laws_d8In.f at h
 have H := h
 clear h
 have H' := yD H
 clear H; go_enter Try.func12, Try.ntmps12
 go_wp2
 repeat (go_quiet (fail); try go_wp2)
 go_loopg [5] k (fun kq v5 w' => ∃ (x5_1 : Int), v5 = .int .i64 x5_1 ∧ aC (laws_d8In.l0 kq l0 l1 x5_1 = some r) ∧ aC (kq ≤ k) ∧ aT w w')
 case atStart => exact ⟨(0), kF, H', ⟨Nat.le_refl _⟩, by repeat (first | exact aT.refl _ | apply aT.step)⟩
 case round =>
  clear H'
  obtain ⟨x5_1, rfl, HA, HK1, ⟨m1, rfl⟩⟩ := hrel
  cases gk with
  | zero => exact absurd HA.out (by simp [laws_d8In.l0])
  | succ k1 =>
   have H := HA.out; clear HA
   simp only [laws_d8In.l0] at H
   replace H := sG H; rcases H with ⟨c3b0, H⟩ | ⟨c3b0, H⟩
   · obtain rfl := sJ H
     go_wp2
     repeat (go_quiet (fail); try go_wp2)
     go_ret
     exact ⟨by first | rfl | (simp; done) | (simp [*]; done), by repeat (first | exact aT.refl _ | apply aT.step)⟩
   have HC4 := yD H
   clear H
   go_upto_region 4 with (fail)
   repeat (go_quiet (fail); go_upto_region 4 with (fail))
   go_cut [6] (fun v6 wc => ∃ (kq : Nat) (x6_3 : Bool), v6 = .bool x6_3 ∧ aC (laws_d8In.j1 kq l0 l1 x5_1 x6_3 = some r) ∧ aC (kq ≤ k1) ∧ aT w wc)
   case first =>
    have H := HC4.out; clear HC4
    replace ⟨c5b0, H⟩ := sE H
    (first | rw [c5b0] | (simp only [i64_w, i32_w]; rw [c5b0]) | (simp only [bne] at c5b0; rw [c5b0]) | skip)
    replace H := sP H; rcases H with ⟨c6, c6b0, c6b1, H⟩ | ⟨c6, c6b0, c6b1, H⟩
    ·
     have c6b2 : (((aA l0 x5_1).f0).length == l1.length) = false := by first | simpa using c6 | (simp at c6 ⊢; omega)
     have H' := yD H
     clear H
     obtain ⟨p801, q801, ad801, A801_0, c801_0, A801_1, c801_1, e801, hx801_0, hx801_1, HC801_0, HR801_0, HC801_1, HR801_1⟩ := sI (at_T33 C0.r x5_1)
     cases e801
     go_wp2
     repeat (go_quiet (fail); try go_wp2)
     go_meet
     case rel => exact ⟨_, (false), kF, H', ⟨by have := HK1.out; first | omega | exact Nat.le_refl _⟩, by repeat (first | exact aT.refl _ | apply aT.step)⟩
    have c6b2 : (((aA l0 x5_1).f0).length == l1.length) = true := by first | simpa using c6 | (simp at c6 ⊢; omega)
    clear c6
    have H' := yD H
    clear H
    obtain ⟨p801, q801, ad801, A801_0, c801_0, A801_1, c801_1, e801, hx801_0, hx801_1, HC801_0, HR801_0, HC801_1, HR801_1⟩ := sI (at_T33 C0.r x5_1)
    cases e801
    obtain ⟨p802, q802, ad802, A802_0, c802_0, A802_1, c802_1, e802, hx802_0, hx802_1, HC802_0, HR802_0, HC802_1, HR802_1⟩ := sI (at_T33 C0.r x5_1)
    obtain rfl : ad801 = ad802 := (by injection e802)
    have ea_ := Option.some.inj (hx801_0.symm.trans hx802_0)
    injection ea_ with ea_ en_ ec_
    subst ea_; subst ec_; clear en_
    have ea_ := Option.some.inj (hx801_1.symm.trans hx802_1)
    injection ea_ with ea_ en_ ec_
    subst ea_; subst ec_; clear en_
    go_wp2
    repeat (go_quiet (fail); try go_wp2)
    go_meet
    case rel => exact ⟨_, (((((aA l0 x5_1).f1).length : Int) == (l1.length : Int))), kF, H', ⟨by have := HK1.out; first | omega | exact Nat.le_refl _⟩, by repeat (first | exact aT.refl _ | apply aT.step)⟩
   case rest =>
    clear HC4
    obtain ⟨kq, x6_3, rfl, HA, HJ3, ⟨mc3, rfl⟩⟩ := hcut
    cases kq with
    | zero => exact absurd HA.out (by simp [laws_d8In.j1])
    | succ kj3 =>
     have H := HA.out; clear HA
     simp only [laws_d8In.j1] at H
     have H' := yD H
     clear H
     go_wp2
     repeat (go_quiet (fail); try go_wp2)
     go_loopg [6, 7] kj3 (fun kq v6 v7 w' => ∃ (x6_3 : Bool) (x7_3 : Int), v6 = .bool x6_3 ∧ v7 = .int .i64 x7_3 ∧ aC (laws_d8In.l1 kq l0 l1 x5_1 x6_3 x7_3 = some r) ∧ aC (kq ≤ kj3) ∧ aT w w')
     case atStart => exact ⟨(x6_3), (0), kF, kF, H', ⟨Nat.le_refl _⟩, by repeat (first | exact aT.refl _ | apply aT.step)⟩
     case round =>
      clear H'
      obtain ⟨x6_3, x7_3, rfl, rfl, HA, HK3, ⟨m3, rfl⟩⟩ := hrel
      cases gk with
      | zero => exact absurd HA.out (by simp [laws_d8In.l1])
      | succ k3 =>
       have H := HA.out; clear HA
       simp only [laws_d8In.l1] at H
       replace H := sG H; rcases H with ⟨c7b0, H⟩ | ⟨c7b0, H⟩
       ·
        replace H := sT H; rcases H with ⟨rfl, H⟩ | ⟨rfl, H⟩
        ·
         obtain rfl := sJ H
         go_wp2
         repeat (go_quiet (fail); try go_wp2)
         go_ret
         exact ⟨by first | rfl | (simp; done) | (simp [*]; done), by repeat (first | exact aT.refl _ | apply aT.step)⟩
        have H' := yD H
        clear H
        go_wp2
        repeat (go_quiet (fail); try go_wp2)
        go_roundg k3
        case measure => have := HK1.out; have := HJ3.out; have := HK3.out; omega
        case rel => exact ⟨(wrap64 (x5_1 + 1)), kF, H', ⟨by have := HK1.out; have := HJ3.out; have := HK3.out; omega⟩, by repeat (first | exact aT.refl _ | apply aT.step)⟩
       replace H := sS H; rcases H with ⟨rfl, H⟩ | ⟨rfl, H⟩
       ·
        have H' := yD H
        clear H
        go_wp2
        repeat (go_quiet (fail); try go_wp2)
        go_roundg k3
        case measure => have := HK1.out; have := HJ3.out; have := HK3.out; omega
        case rel => exact ⟨(wrap64 (x5_1 + 1)), kF, H', ⟨by have := HK1.out; have := HJ3.out; have := HK3.out; omega⟩, by repeat (first | exact aT.refl _ | apply aT.step)⟩
       replace ⟨c9b0, H⟩ := sE H
       replace ⟨c10b0, H⟩ := sE H
       replace ⟨c11b0, H⟩ := sE H
       replace ⟨c12b0, H⟩ := sE H
       replace H := sC H; rcases H with ⟨c13, H⟩ | ⟨c13, H⟩
       ·
        have c13b0 : decide ((rd ((aA l0 x5_1).f0) x7_3) ≤ (rd l1 x7_3)) = false := zS c13; clear c13
        have H' := yD H
        clear H
        obtain ⟨p803, q803, ad803, e803, hx803_0⟩ := sI (Kd.aX C1.r x7_3)
        cases e803
        obtain ⟨p804, q804, ad804, A804_0, c804_0, A804_1, c804_1, e804, hx804_0, hx804_1, HC804_0, HR804_0, HC804_1, HR804_1⟩ := sI (at_T33 C0.r x5_1)
        cases e804
        obtain ⟨p805, q805, ad805, e805, hx805_0⟩ := sI (Kd.aX HR804_0.out x7_3)
        cases e805
        go_wp2
        repeat (go_quiet (fail); try go_wp2)
        go_roundg k3
        case measure => have := HK1.out; have := HJ3.out; have := HK3.out; omega
        case rel => exact ⟨(false), (wrap64 (x7_3 + 1)), kF, kF, H', ⟨by have := HK1.out; have := HJ3.out; have := HK3.out; omega⟩, by repeat (first | exact aT.refl _ | apply aT.step)⟩
       have c13b0 : decide ((rd ((aA l0 x5_1).f0) x7_3) ≤ (rd l1 x7_3)) = true := zR c13; clear c13
       replace ⟨c14b0, H⟩ := sE H
       have H' := yD H
       clear H
       obtain ⟨p803, q803, ad803, e803, hx803_0⟩ := sI (Kd.aX C1.r x7_3)
       cases e803
       obtain ⟨p804, q804, ad804, A804_0, c804_0, A804_1, c804_1, e804, hx804_0, hx804_1, HC804_0, HR804_0, HC804_1, HR804_1⟩ := sI (at_T33 C0.r x5_1)
       cases e804
       obtain ⟨p805, q805, ad805, e805, hx805_0⟩ := sI (Kd.aX HR804_0.out x7_3)
       cases e805
       obtain ⟨p806, q806, ad806, e806, hx806_0⟩ := sI (Kd.aX C1.r x7_3)
       obtain rfl : ad803 = ad806 := (by injection e806)
       obtain ⟨p807, q807, ad807, A807_0, c807_0, A807_1, c807_1, e807, hx807_0, hx807_1, HC807_0, HR807_0, HC807_1, HR807_1⟩ := sI (at_T33 C0.r x5_1)
       obtain rfl : ad804 = ad807 := (by injection e807)
       have ea_ := Option.some.inj (hx804_0.symm.trans hx807_0)
       injection ea_ with ea_ en_ ec_
       subst ea_; subst ec_; clear en_
       have ea_ := Option.some.inj (hx804_1.symm.trans hx807_1)
       injection ea_ with ea_ en_ ec_
       subst ea_; subst ec_; clear en_
       obtain ⟨p808, q808, ad808, e808, hx808_0⟩ := sI (Kd.aX HR807_1.out x7_3)
       cases e808
       go_wp2
       repeat (go_quiet (fail); try go_wp2)
       go_roundg k3
       case measure => have := HK1.out; have := HJ3.out; have := HK3.out; omega
       case rel => exact ⟨(decide ((rd l1 x7_3) < (rd ((aA l0 x5_1).f1) x7_3))), (wrap64 (x7_3 + 1)), kF, kF, H', ⟨by have := HK1.out; have := HJ3.out; have := HK3.out; omega⟩, by repeat (first | exact aT.refl _ | apply aT.step)⟩
def impl_BoxSize.l0 : Nat → Int → List Int → Int → Int → List Int → List Int → Option (Int)
 | 0, _, _, _, _, _, _ => none
 | k + 1, x3, x10, x11, x12, x810000, x810001 => if x12 < x11 then (if 0 ≤ x12 then (if x12 < (x10.length : Int) then (if x12 < (x810001.length : Int) then (impl_BoxSize.l0 k (wrap64 (x3 * (wrap64 ((rd x810001 x12) - (rd x10 x12))))) x10 x11 (wrap64 (x12 + 1)) x810000 x810001) else (none)) else (none)) else (none)) else (some x3)
def impl_BoxSize.f (k : Nat) (l0_0 l0_1 : List Int) : Option (Int) := (bZ.f k l0_0 l0_1).bind fun t810 => (if t810 = true then (impl_BoxSize.l0 k 1 l0_0 (l0_0.length : Int) 0 l0_0 l0_1) else (some 0))
theorem impl_BoxSize.calls (k : Nat) (A0_0 : Option Addr) (c0_0 : Nat) (l0_0 : List Int) (A0_1 : Option Addr) (c0_1 : Nat) (l0_1 : List Int) (r : Int) (w : World) (C0_0 : Cm (Kd.int .i64) w A0_0 c0_0 l0_0) (C0_1 : Cm (Kd.int .i64) w A0_1 c0_1 l0_1) (h : impl_BoxSize.f k l0_0 l0_1 = some r) :
 Calls Try.prog 38 #[.agg #[.slice A0_0 l0_0.length c0_0, .slice A0_1 l0_1.length c0_1]] w fun e w' => e = .returned (.int .i64 r) ∧ Below w.heap.size w w' := by
 have hu33 := Try.underlying33
 have HB := yD (Below.refl w.heap.size w)
 unfold impl_BoxSize.f at h
 have H := h
 clear h
 replace ⟨t810, A2, H⟩ := sV H
 replace H := sS H; rcases H with ⟨rfl, H⟩ | ⟨rfl, H⟩
 ·
  obtain rfl := sJ H; go_enter Try.func38, Try.ntmps38
  go_wp2_with (first | (refine gD 1 ?_; refine bF (N := 1) (cs := #[.slice A0_0 l0_0.length c0_0, .slice A0_1 l0_1.length c0_1]) (t := 33) HB ?_; intro gb809 w13 BK809 GW809 HB; have := cf2_ BK809.out) | (refine gC 59 ?_; refine gL 7 Try.func59 _ (dn (bZ.calls k _ _ l0_0 _ _ l0_1 false _ (C0_0.b HB) (C0_1.b HB) A2.out) fun w15 hb => ?_); replace BK809 := zY BK809 hb; replace HB := zX HB hb; clear hb))
  go_ret
  exact ⟨kE, kR1 HB⟩
 have H' := yD H
 clear H; go_enter Try.func38, Try.ntmps38
 go_wp2_with (first | (refine gD 1 ?_; refine bF (N := 1) (cs := #[.slice A0_0 l0_0.length c0_0, .slice A0_1 l0_1.length c0_1]) (t := 33) HB ?_; intro gb809 w4 BK809 GW809 HB; have := cf2_ BK809.out) | (refine gC 59 ?_; refine gL 7 Try.func59 _ (dn (bZ.calls k _ _ l0_0 _ _ l0_1 true _ (C0_0.b HB) (C0_1.b HB) A2.out) fun w6 hb => ?_); replace BK809 := zY BK809 hb; replace HB := zX HB hb; clear hb; have := cf2_ BK809.out))
 (try simp only [Act.put, zH, zI, zJ])
 go_loopg [3, 12] k (fun kq v3 v12 w' => ∃ (x3_1 : Int) (x12_1 : Int), v3 = .int .i64 x3_1 ∧ v12 = .int .i64 x12_1 ∧ aC (impl_BoxSize.l0 kq x3_1 l0_0 (l0_0.length : Int) x12_1 l0_0 l0_1 = some r) ∧ aC (kq ≤ k) ∧ aC (w'.heap[gb809]? = some (.cells #[(.slice A0_0 l0_0.length c0_0), (.slice A0_1 l0_1.length c0_1)] 33 (0, 0))) ∧ aC (Below w.heap.size w w'))
 case atStart => exact ⟨(1), (0), kF, kF, H', ⟨Nat.le_refl _⟩, ⟨kM BK809⟩, ⟨kR1 HB⟩⟩
 case round =>
  clear H'
  obtain ⟨x3_1, x12_1, rfl, rfl, HA, HK1, BK809, HB⟩ := hrel
  cases gk with
  | zero => exact absurd HA.out (by simp [impl_BoxSize.l0])
  | succ k1 =>
   have H := HA.out; clear HA
   simp only [impl_BoxSize.l0] at H
   replace H := sG H; rcases H with ⟨c8b0, H⟩ | ⟨c8b0, H⟩
   · obtain rfl := sJ H
     go_wp2
     go_ret
     exact ⟨kE, kR1 HB⟩
   replace ⟨c9b0, H⟩ := sE H
   replace ⟨c10b0, H⟩ := sE H
   replace ⟨c11b0, H⟩ := sE H
   have H' := yD H
   clear H
   obtain ⟨p811, q811, ad811, e811, hx811_0⟩ := sI (Kd.aX C0_0.r x12_1)
   cases e811
   replace hx811_0 := kD HB hx811_0
   have := cf2_ BK809.out
   obtain ⟨p812, q812, ad812, e812, hx812_0⟩ := sI (Kd.aX C0_1.r x12_1)
   cases e812
   replace hx812_0 := kD HB hx812_0
   go_wp2
   go_roundg k1
   case measure => have := HK1.out; omega
   case rel => exact ⟨(wrap64 (x3_1 * (wrap64 ((rd l0_1 x12_1) - (rd l0_0 x12_1))))), (wrap64 (x12_1 + 1)), kF, kF, H', ⟨by have := HK1.out; omega⟩, ⟨kM BK809⟩, ⟨kR1 HB⟩⟩
def laws_d8Size.l0 : Nat → List (S33) → Int → Int → Option (Int)
 | 0, _, _, _ => none
 | k + 1, x0, x3, x4 => if x4 < (x0.length : Int) then (if 0 ≤ x4 then ((impl_BoxSize.f k ((aA x0 x4).f0) ((aA x0 x4).f1)).bind fun t814 => (laws_d8Size.l0 k x0 (wrap64 (x3 + t814)) (wrap64 (x4 + 1)))) else (none)) else (some x3)
def laws_d8Size.f (k : Nat) (l0 : List (S33)) : Option (Int) := laws_d8Size.l0 k l0 0 0
theorem laws_d8Size.calls (k : Nat) (A0 : Option Addr) (c0 : Nat) (l0 : List (S33)) (r : Int) (w : World) (C0 : Cm k33 w A0 c0 l0) (h : laws_d8Size.f k l0 = some r) :
 Calls Try.prog 13 #[.slice A0 l0.length c0] w fun e w' => e = .returned (.int .i64 r) ∧ Below w.heap.size w w' := by
 have hu33 := Try.underlying33
 have HB := yD (Below.refl w.heap.size w)
 unfold laws_d8Size.f at h
 have H := h
 clear h
 have H' := yD H
 clear H; go_enter Try.func13, Try.ntmps13
 go_wp2
 go_loopg [3, 4] k (fun kq v3 v4 w' => ∃ (x3_1 : Int) (x4_1 : Int), v3 = .int .i64 x3_1 ∧ v4 = .int .i64 x4_1 ∧ aC (laws_d8Size.l0 kq l0 x3_1 x4_1 = some r) ∧ aC (kq ≤ k) ∧ aC (Below w.heap.size w w'))
 case atStart => exact ⟨(0), (0), kF, kF, H', ⟨Nat.le_refl _⟩, ⟨kR0 HB⟩⟩
 case round =>
  clear H'
  obtain ⟨x3_1, x4_1, rfl, rfl, HA, HK1, HB⟩ := hrel
  cases gk with
  | zero => exact absurd HA.out (by simp [laws_d8Size.l0])
  | succ k1 =>
   have H := HA.out; clear HA
   simp only [laws_d8Size.l0] at H
   replace H := sG H; rcases H with ⟨c2b0, H⟩ | ⟨c2b0, H⟩
   · obtain rfl := sJ H
     go_wp2
     go_ret
     exact ⟨kE, kR0 HB⟩
   replace ⟨c3b0, H⟩ := sE H
   replace ⟨t814, A4, H⟩ := sV H
   have H' := yD H
   clear H
   obtain ⟨p813, q813, ad813, A813_0, c813_0, A813_1, c813_1, e813, hx813_0, hx813_1, HC813_0, HR813_0, HC813_1, HR813_1⟩ := sI (at_T33 C0.r x4_1)
   cases e813
   replace hx813_0 := kD HB hx813_0
   replace hx813_1 := kD HB hx813_1
   go_wp2_with (first | (refine gC 38 ?_; refine gL 16 Try.func38 _ (dn (impl_BoxSize.calls k1 _ _ ((aA l0 x4_1).f0) _ _ ((aA l0 x4_1).f1) t814 _ (cB HR813_0 HC813_0 HB) (cB HR813_1 HC813_1 HB) A4.out) fun w5 hb => ?_); replace HB := zX HB hb; clear hb))
   go_roundg k1
   case measure => have := HK1.out; omega
   case rel => exact ⟨(wrap64 (x3_1 + t814)), (wrap64 (x4_1 + 1)), kF, kF, H', ⟨by have := HK1.out; omega⟩, ⟨kR0 HB⟩⟩
mutual
def bD.l0 : Nat → List Int → List (S33) → Int → Bool → Int → Int → List Int → List Int → List Int → List Int → List (S68) → List Int → List Int → Option (Bool)
 | 0, _, _, _, _, _, _, _, _, _, _, _, _, _ => none
 | k + 1, x3, x5, x9, x11, x12, x835000, x835001, x835002, x835003, x835004, x835005, x851000, x851001 => (spec_ElementsOf.f k x3).bind fun t851 => (if x12 < t851 then ((spec_CoordsOf.f k x3 x12).bind fun t853 => ((spec_IsSelected.f k x3 x835000 x835001 x835002 x835003 x835004 x835005 t853).bind fun t856 => ((impl_InBoxes.f k x5 t853).bind fun t857 => (if (t857 != t856) = true then (bD.j1 k x3 x5 x9 x11 x12 t856 true x835000 x835001 x835002 x835003 x835004 x835005 x851000 x851001) else (if t856 = true then ((laws_d8In.f k (([(⟨x851000, x851001⟩ : S33)] : List (S33))) t853).bind fun t861 => (bD.j1 k x3 x5 x9 x11 x12 t856 (!t861) x835000 x835001 x835002 x835003 x835004 x835005 x851000 x851001)) else (bD.j1 k x3 x5 x9 x11 x12 t856 false x835000 x835001 x835002 x835003 x835004 x835005 x851000 x851001)))))) else ((laws_d8Size.f k x5).bind fun t852 => (if t852 = x9 then (some (x11 == (decide (x9 > 0)))) else (some false))))
def bD.j1 : Nat → List Int → List (S33) → Int → Bool → Int → Bool → Bool → Int → List Int → List Int → List Int → List Int → List (S68) → List Int → List Int → Option (Bool)
 | 0, _, _, _, _, _, _, _, _, _, _, _, _, _, _, _ => none
 | k + 1, x3, x5, x9, x11, x12, x14, x72, x835000, x835001, x835002, x835003, x835004, x835005, x851000, x851001 => if x72 = true then (some false) else (if x14 = true then (bD.l0 k x3 x5 (wrap64 (x9 + 1)) x11 (wrap64 (x12 + 1)) x835000 x835001 x835002 x835003 x835004 x835005 x851000 x851001) else (bD.l0 k x3 x5 x9 x11 (wrap64 (x12 + 1)) x835000 x835001 x835002 x835003 x835004 x835005 x851000 x851001))
end
def bD.f (k : Nat) (l0 : List Int) : Option (Bool) := if (l0.length : Int) > 1048576 then (some true) else ((spec_E8Selection.f k l0).bind fun bt815 => ((cL.f k bt815.1 bt815.2.1 bt815.2.2.1 bt815.2.2.2.1 bt815.2.2.2.2.1 bt815.2.2.2.2.2.1 bt815.2.2.2.2.2.2).bind fun bt835 => (if bt835.2 = 0 then ((aW.f k bt835.1).bind fun bt843 => (bD.l0 k bt815.1 bt835.1 0 bt843.2.2 0 bt815.2.1 bt815.2.2.1 bt815.2.2.2.1 bt815.2.2.2.2.1 bt815.2.2.2.2.2.1 bt815.2.2.2.2.2.2 bt843.1 bt843.2.1)) else ((spec_BoxesOf.f k bt815.1 bt815.2.1 bt815.2.2.1 bt815.2.2.2.1 bt815.2.2.2.2.1 bt815.2.2.2.2.2.1 bt815.2.2.2.2.2.2).bind fun bt839 => (some (bt835.2 == bt839.2))))))
theorem bD.calls (k : Nat) (A0 : Option Addr) (c0 : Nat) (l0 : List Int) (r : Bool) (w : World) (hr0 : Kd.C (Kd.int .u8) w A0 l0.length l0) (hc0 : l0.length ≤ c0) (h : bD.f k l0 = some r) :
 Calls Try.prog 3 #[.slice A0 l0.length c0] w fun e w' => e = .returned (.bool r) ∧ Below w.heap.size w w' := by
 have hu26 := Try.underlying26; have hu33 := Try.underlying33
 have HR0 := yD hr0
 have HC0 := yD hc0
 clear hr0 hc0
 have HB := yD (Below.refl w.heap.size w)
 unfold bD.f at h
 have H := h
 clear h
 replace H := sB H; rcases H with ⟨c2, H⟩ | ⟨c2, H⟩
 ·
  have c2b0 : decide (1048576 < (l0.length : Int)) = true := zR c2
  have c2b1 : decide (1048576 < l0.length) = true := zR (by omega)
  clear c2; obtain rfl := sJ H; go_enter Try.func3, Try.ntmps3
  go_wp2
  go_ret
  exact ⟨kE, kR0 HB⟩
 have c2b0 : decide (1048576 < (l0.length : Int)) = false := zS c2
 have c2b1 : decide (1048576 < l0.length) = false := zS (by omega)
 clear c2
 replace ⟨⟨t815, t818, t819, t822, t825, t828, t831⟩, A3, H⟩ := sV H
 replace ⟨⟨t835, t838⟩, A4, H⟩ := sV H
 replace H := sP H; rcases H with ⟨c5, c5b0, c5b1, H⟩ | ⟨-, c5b0, c5b1, H⟩
 ·
  replace ⟨⟨t839, t842⟩, A54, H⟩ := sV H
  obtain rfl := sJ H; go_enter Try.func3, Try.ntmps3
  go_wp2_with (first | (refine gC 4 ?_; refine gL 20 Try.func4 _ ((spec_E8Selection.calls k _ _ l0 t815 t818 t819 t822 t825 t828 t831 _ ?z1 A3.out).mono ?_); (case z1 => exact ⟨(by repeat (first | exact HR0.out | (with_reducible first | refine yV ?_ _ | refine yW ?_ _ | refine yX ?_))), HC0.out⟩); rintro e w55 ⟨v816, v820, v823, v826, v829, v832, rfl, ho0, ho1, ho2, ho3, ho4, ho5, hb⟩; refine ⟨_, rfl, ?_⟩; have HO817 := yD (yZ ho0 (aD (kB HB))); have HO821 := yD (yZ ho1 (aD (kB HB))); have HO824 := yD (yZ ho2 (aD (kB HB))); have HO827 := yD (yZ ho3 (aD (kB HB))); have HO830 := yD (yZ ho4 (aD (kB HB))); have HO833 := yD (Kd.N_lower (Kd.N_mono (ok' := fun k_ => oB v816 k_ ∧ oB v820 k_ ∧ oB v823 k_ ∧ oB v826 k_ ∧ oB v829 k_) (Kd.S_N (Kd.S_bound ho5)) (fun k_ hk_ => ⟨hk_.1.1, hk_.1.2.1, hk_.1.2.2.1, hk_.1.2.2.2.1, hk_.1.2.2.2.2⟩)) (aD (kB HB))); replace HB := zX HB hb; clear hb ho0 ho1 ho2 ho3 ho4 ho5) | (refine gD 4 ?_; (try (refine gate_guard (by rfl) ?_; dsimp only)); refine bE (N := 4) (cs := #[.int .i64 0, .slice none 0 0, .slice none 0 0, .slice none 0 0, .slice none 0 0, .slice none 0 0]) (t := 26) ?_; intro gb834 hg w56 hbox hb; replace HO817 := yD (zE (kA HO817) hb); replace HO821 := yD (zE (kA HO821) hb); replace HO824 := yD (zE (kA HO824) hb); replace HO827 := yD (zE (kA HO827) hb); replace HO830 := yD (zE (kA HO830) hb); replace HO833 := yD (Kd.N_below (Kd.N_elderB (kQ HO833) gb834 (Nat.le_of_eq hg.symm)) hb); have BK834 := yD (hbox); have GW834 := sW hg HB; replace HB := zX HB hb; clear hb hbox hg; have := cf6_ BK834.out; obtain ⟨Ao58, co58, eo58⟩ := Kd.bS HO821.out; subst eo58; obtain ⟨Ao59, co59, eo59⟩ := Kd.bS HO824.out; subst eo59; obtain ⟨Ao60, co60, eo60⟩ := Kd.bS HO827.out; subst eo60; obtain ⟨Ao61, co61, eo61⟩ := Kd.bS HO830.out; subst eo61; obtain ⟨Ao62, co62, eo62⟩ := Kd.N_slice HO833.out; subst eo62) | ((with_reducible refine gate_store (t := 26) (p := 4) rfl ?_); refine store_event (t := 26) (p := 4) (v := ?vo_w63) (w1 := ((((((w56.setCell ⟨gb834, 0, none⟩ (.int .i64 t818)).setCell ⟨gb834, 1, none⟩ (.slice Ao58 t819.length co58)).setCell ⟨gb834, 2, none⟩ (.slice Ao59 t822.length co59)).setCell ⟨gb834, 3, none⟩ (.slice Ao60 t825.length co60)).setCell ⟨gb834, 4, none⟩ (.slice Ao61 t828.length co61)).setCell ⟨gb834, 5, none⟩ (.slice Ao62 t831.length co62))) ?hg ?ho ?hn ?hr ?_; (case ho => rfl); (case hg => rfl); (case hn => rfl); (case hr => first | (go_simp; done) | (go_simp; rfl)); intro w63 hw; have n0_ : aC (Kd.R (Kd.int .i64) 2 w63 w.heap.size (fun k_ => oB (.slice Ao58 t819.length co58) k_ ∧ oB (.slice Ao59 t822.length co59) k_ ∧ oB (.slice Ao60 t825.length co60) k_ ∧ oB (.slice Ao61 t828.length co61) k_) v816 t815) := ⟨(by rw [hw]; exact (by (with_reducible repeat (first | apply yA | apply yB | apply yC)); exact zF (yS_ (yS_ (yS_ (yS_ (yS_ (yS_ (Kd.bQ HO817.out BK834.out (by decide)))))))) (fun _ hk => ⟨hk.1.1, ⟨hk.1.2.1, ⟨hk.1.2.2.1, hk.1.2.2.2⟩⟩⟩)))⟩; have n1_ : aC (Kd.R (Kd.int .i64) 2 w63 w.heap.size (fun k_ => oB v816 k_ ∧ oB (.slice Ao59 t822.length co59) k_ ∧ oB (.slice Ao60 t825.length co60) k_ ∧ oB (.slice Ao61 t828.length co61) k_) (.slice Ao58 t819.length co58) t819) := ⟨(by rw [hw]; exact (by (with_reducible repeat (first | apply yA | apply yB | apply yC)); exact zF (yS_ (yS_ (yS_ (yS_ (yS_ (yS_ (Kd.bQ HO821.out BK834.out (by decide)))))))) (fun _ hk => ⟨hk.1.1, ⟨hk.1.2.1, ⟨hk.1.2.2.1, hk.1.2.2.2⟩⟩⟩)))⟩; have n2_ : aC (Kd.R (Kd.int .i64) 2 w63 w.heap.size (fun k_ => oB v816 k_ ∧ oB (.slice Ao58 t819.length co58) k_ ∧ oB (.slice Ao60 t825.length co60) k_ ∧ oB (.slice Ao61 t828.length co61) k_) (.slice Ao59 t822.length co59) t822) := ⟨(by rw [hw]; exact (by (with_reducible repeat (first | apply yA | apply yB | apply yC)); exact zF (yS_ (yS_ (yS_ (yS_ (yS_ (yS_ (Kd.bQ HO824.out BK834.out (by decide)))))))) (fun _ hk => ⟨hk.1.1, ⟨hk.1.2.1, ⟨hk.1.2.2.1, hk.1.2.2.2⟩⟩⟩)))⟩; have n3_ : aC (Kd.R (Kd.int .i64) 2 w63 w.heap.size (fun k_ => oB v816 k_ ∧ oB (.slice Ao58 t819.length co58) k_ ∧ oB (.slice Ao59 t822.length co59) k_ ∧ oB (.slice Ao61 t828.length co61) k_) (.slice Ao60 t825.length co60) t825) := ⟨(by rw [hw]; exact (by (with_reducible repeat (first | apply yA | apply yB | apply yC)); exact zF (yS_ (yS_ (yS_ (yS_ (yS_ (yS_ (Kd.bQ HO827.out BK834.out (by decide)))))))) (fun _ hk => ⟨hk.1.1, ⟨hk.1.2.1, ⟨hk.1.2.2.1, hk.1.2.2.2⟩⟩⟩)))⟩; have n4_ : aC (Kd.R (Kd.int .i64) 2 w63 w.heap.size (fun k_ => oB v816 k_ ∧ oB (.slice Ao58 t819.length co58) k_ ∧ oB (.slice Ao59 t822.length co59) k_ ∧ oB (.slice Ao60 t825.length co60) k_) (.slice Ao61 t828.length co61) t828) := ⟨(by rw [hw]; exact (by (with_reducible repeat (first | apply yA | apply yB | apply yC)); exact zF (yS_ (yS_ (yS_ (yS_ (yS_ (yS_ (Kd.bQ HO830.out BK834.out (by decide)))))))) (fun _ hk => ⟨hk.1.1, ⟨hk.1.2.1, ⟨hk.1.2.2.1, hk.1.2.2.2⟩⟩⟩)))⟩; have n5_ : aC (Kd.N k68 68 w63 w.heap.size (fun k_ => oB v816 k_ ∧ oB (.slice Ao58 t819.length co58) k_ ∧ oB (.slice Ao59 t822.length co59) k_ ∧ oB (.slice Ao60 t825.length co60) k_ ∧ oB (.slice Ao61 t828.length co61) k_ ∧ k_ ≠ gb834) (.slice Ao62 t831.length co62) t831) := ⟨(by rw [hw]; exact (by (with_reducible repeat (first | apply Kd.N_alloc | apply Kd.N_drewN | apply Kd.N_drew)); exact Kd.N_mono (Kd.N_far (p := ⟨gb834, 5, none⟩) (Kd.N_far (p := ⟨gb834, 4, none⟩) (Kd.N_far (p := ⟨gb834, 3, none⟩) (Kd.N_far (p := ⟨gb834, 2, none⟩) (Kd.N_far (p := ⟨gb834, 1, none⟩) (Kd.N_far (p := ⟨gb834, 0, none⟩) (Kd.N_mono HO833.out (fun k_ hk => (⟨hk, hk.2⟩ : _ ∧ k_ ≠ gb834))) (fun _ hk => hk.2) (.int .i64 t818)) (fun _ hk => hk.2) (.slice Ao58 t819.length co58)) (fun _ hk => hk.2) (.slice Ao59 t822.length co59)) (fun _ hk => hk.2) (.slice Ao60 t825.length co60)) (fun _ hk => hk.2) (.slice Ao61 t828.length co61)) (fun _ hk => hk.2) (.slice Ao62 t831.length co62)) (fun _ hk => ⟨hk.1.1.1, ⟨hk.1.1.2.1, ⟨hk.1.1.2.2.1, ⟨hk.1.1.2.2.2.1, ⟨hk.1.1.2.2.2.2, hk.1.2⟩⟩⟩⟩⟩)))⟩; have n6_ : aC (w63.heap[gb834]? = some (.cells #[.int .i64 t818, .slice Ao58 t819.length co58, .slice Ao59 t822.length co59, .slice Ao60 t825.length co60, .slice Ao61 t828.length co61, .slice Ao62 t831.length co62] 26 (0, 0))) := ⟨(by rw [hw]; exact (by (with_reducible repeat (first | refine yM ?_ _ | refine yO ?_ | refine yN ?_ _)); exact bA6_ BK834.out))⟩; have n7_ : aC (Below w.heap.size w w63) := ⟨(by rw [hw]; exact (kB HB))⟩; clear hw; clear HO817; clear HO821; clear HO824; clear HO827; clear HO830; clear HO833; clear BK834; clear HB; have HO817 := n0_; have HO821 := n1_; have HO824 := n2_; have HO827 := n3_; have HO830 := n4_; have HO833 := n5_; have BK834 := n6_; have HB := n7_; clear n0_ n1_ n2_ n3_ n4_ n5_ n6_ n7_; have := cf6_ BK834.out; obtain ⟨Ao65, co65, eo65⟩ := Kd.bS HO817.out; subst eo65) | (refine gC 5 ?_; refine gL 26 Try.func5 _ (dv (cL.calls k _ _ t815 t818 _ _ t819 _ _ t822 _ _ t825 _ _ t828 _ _ t831 t835 t838 _ ?z1 ?z3 ?z5 ?z7 ?z9 ?z11 A4.out) fun v836 w66 ho0 hb => ?_); (case z1 => exact ⟨kV (zA HO817.out).2.2, (zA HO817.out).2.1⟩); (case z3 => exact ⟨kV (zA HO821.out).2.2, (zA HO821.out).2.1⟩); (case z5 => exact ⟨kV (zA HO824.out).2.2, (zA HO824.out).2.1⟩); (case z7 => exact ⟨kV (zA HO827.out).2.2, (zA HO827.out).2.1⟩); (case z9 => exact ⟨kV (zA HO830.out).2.2, (zA HO830.out).2.1⟩); (case z11 => exact ⟨kV (Kd.N_reads' HO833.out).2.2, (Kd.N_reads' HO833.out).2.1⟩); have HO837 := yD (Kd.N_lower (Kd.N_mono (ok' := fun k_ => oB (.slice Ao65 t815.length co65) k_ ∧ oB (.slice Ao58 t819.length co58) k_ ∧ oB (.slice Ao59 t822.length co59) k_ ∧ oB (.slice Ao60 t825.length co60) k_ ∧ oB (.slice Ao61 t828.length co61) k_ ∧ oB (.slice Ao62 t831.length co62) k_ ∧ k_ ≠ gb834) (Kd.S_N (Kd.S_bound ho0)) (fun k_ hk_ => ⟨(Kd.cQ (yK (kA HO817)) k_ hk_.2.1), (Kd.cQ (yK (kA HO821)) k_ hk_.2.1), (Kd.cQ (yK (kA HO824)) k_ hk_.2.1), (Kd.cQ (yK (kA HO827)) k_ hk_.2.1), (Kd.cQ (yK (kA HO830)) k_ hk_.2.1), (Kd.cQ (Kd.N_lt (kQ HO833)) k_ hk_.2.1), (Kd.freshB (g := gb834) (o := .cells #[.int .i64 t818, .slice Ao58 t819.length co58, .slice Ao59 t822.length co59, .slice Ao60 t825.length co60, .slice Ao61 t828.length co61, .slice Ao62 t831.length co62] 26 (0, 0)) (kM BK834) k_ hk_.2.1)⟩)) (aD (kB HB))); replace HO817 := yD (zE (kA HO817) hb); replace HO821 := yD (zE (kA HO821) hb); replace HO824 := yD (zE (kA HO824) hb); replace HO827 := yD (zE (kA HO827) hb); replace HO830 := yD (zE (kA HO830) hb); replace HO833 := yD (Kd.N_elder' (kQ HO833) (Kd.S_base ho0) hb); replace BK834 := zY BK834 hb; replace HB := zX HB hb; clear hb ho0; have := cf6_ BK834.out) | (refine gC 6 ?_; refine gL 34 Try.func6 _ (dv (spec_BoxesOf.calls k _ _ t815 t818 _ _ t819 _ _ t822 _ _ t825 _ _ t828 _ _ t831 t839 t842 _ ?z1 ?z3 ?z5 ?z7 ?z9 ?z11 A54.out) fun v840 w68 ho0 hb => ?_); (case z1 => exact ⟨kV (zA HO817.out).2.2, (zA HO817.out).2.1⟩); (case z3 => exact ⟨kV (zA HO821.out).2.2, (zA HO821.out).2.1⟩); (case z5 => exact ⟨kV (zA HO824.out).2.2, (zA HO824.out).2.1⟩); (case z7 => exact ⟨kV (zA HO827.out).2.2, (zA HO827.out).2.1⟩); (case z9 => exact ⟨kV (zA HO830.out).2.2, (zA HO830.out).2.1⟩); (case z11 => exact ⟨kV (Kd.N_reads' HO833.out).2.2, (Kd.N_reads' HO833.out).2.1⟩); have HO841 := yD (Kd.N_lower (Kd.N_mono (ok' := fun k_ => oB (.slice Ao65 t815.length co65) k_ ∧ oB (.slice Ao58 t819.length co58) k_ ∧ oB (.slice Ao59 t822.length co59) k_ ∧ oB (.slice Ao60 t825.length co60) k_ ∧ oB (.slice Ao61 t828.length co61) k_ ∧ oB (.slice Ao62 t831.length co62) k_ ∧ k_ ≠ gb834) (Kd.S_N (Kd.S_bound ho0)) (fun k_ hk_ => ⟨(Kd.cQ (yK (kA HO817)) k_ hk_.2.1), (Kd.cQ (yK (kA HO821)) k_ hk_.2.1), (Kd.cQ (yK (kA HO824)) k_ hk_.2.1), (Kd.cQ (yK (kA HO827)) k_ hk_.2.1), (Kd.cQ (yK (kA HO830)) k_ hk_.2.1), (Kd.cQ (Kd.N_lt (kQ HO833)) k_ hk_.2.1), (Kd.freshB (g := gb834) (o := .cells #[.int .i64 t818, .slice Ao58 t819.length co58, .slice Ao59 t822.length co59, .slice Ao60 t825.length co60, .slice Ao61 t828.length co61, .slice Ao62 t831.length co62] 26 (0, 0)) (kM BK834) k_ hk_.2.1)⟩)) (aD (kB HB))); replace HO817 := yD (zE (kA HO817) hb); replace HO821 := yD (zE (kA HO821) hb); replace HO824 := yD (zE (kA HO824) hb); replace HO827 := yD (zE (kA HO827) hb); replace HO830 := yD (zE (kA HO830) hb); replace HO833 := yD (Kd.N_elder' (kQ HO833) (Kd.S_base ho0) hb); replace BK834 := zY BK834 hb; replace HB := zX HB hb; clear hb ho0))
  go_ret
  exact ⟨kE, kR1 HB⟩
 replace ⟨⟨t843, t846, t849⟩, A6, H⟩ := sV H
 have H' := yD H
 clear H; go_enter Try.func3, Try.ntmps3
 go_wp2_with (first | (refine gC 4 ?_; refine gL 20 Try.func4 _ ((spec_E8Selection.calls k _ _ l0 t815 t818 t819 t822 t825 t828 t831 _ ?z1 A3.out).mono ?_); (case z1 => exact ⟨(by repeat (first | exact HR0.out | (with_reducible first | refine yV ?_ _ | refine yW ?_ _ | refine yX ?_))), HC0.out⟩); rintro e w7 ⟨v816, v820, v823, v826, v829, v832, rfl, ho0, ho1, ho2, ho3, ho4, ho5, hb⟩; refine ⟨_, rfl, ?_⟩; have HO817 := yD (yZ ho0 (aD (kB HB))); have HO821 := yD (yZ ho1 (aD (kB HB))); have HO824 := yD (yZ ho2 (aD (kB HB))); have HO827 := yD (yZ ho3 (aD (kB HB))); have HO830 := yD (yZ ho4 (aD (kB HB))); have HO833 := yD (Kd.N_lower (Kd.N_mono (ok' := fun k_ => oB v816 k_ ∧ oB v820 k_ ∧ oB v823 k_ ∧ oB v826 k_ ∧ oB v829 k_) (Kd.S_N (Kd.S_bound ho5)) (fun k_ hk_ => ⟨hk_.1.1, hk_.1.2.1, hk_.1.2.2.1, hk_.1.2.2.2.1, hk_.1.2.2.2.2⟩)) (aD (kB HB))); replace HB := zX HB hb; clear hb ho0 ho1 ho2 ho3 ho4 ho5) | (refine gD 4 ?_; (try (refine gate_guard (by rfl) ?_; dsimp only)); refine bE (N := 4) (cs := #[.int .i64 0, .slice none 0 0, .slice none 0 0, .slice none 0 0, .slice none 0 0, .slice none 0 0]) (t := 26) ?_; intro gb834 hg w8 hbox hb; replace HO817 := yD (zE (kA HO817) hb); replace HO821 := yD (zE (kA HO821) hb); replace HO824 := yD (zE (kA HO824) hb); replace HO827 := yD (zE (kA HO827) hb); replace HO830 := yD (zE (kA HO830) hb); replace HO833 := yD (Kd.N_below (Kd.N_elderB (kQ HO833) gb834 (Nat.le_of_eq hg.symm)) hb); have BK834 := yD (hbox); have GW834 := sW hg HB; replace HB := zX HB hb; clear hb hbox hg; have := cf6_ BK834.out; obtain ⟨Ao10, co10, eo10⟩ := Kd.bS HO821.out; subst eo10; obtain ⟨Ao11, co11, eo11⟩ := Kd.bS HO824.out; subst eo11; obtain ⟨Ao12, co12, eo12⟩ := Kd.bS HO827.out; subst eo12; obtain ⟨Ao13, co13, eo13⟩ := Kd.bS HO830.out; subst eo13; obtain ⟨Ao14, co14, eo14⟩ := Kd.N_slice HO833.out; subst eo14) | ((with_reducible refine gate_store (t := 26) (p := 4) rfl ?_); refine store_event (t := 26) (p := 4) (v := ?vo_w15) (w1 := ((((((w8.setCell ⟨gb834, 0, none⟩ (.int .i64 t818)).setCell ⟨gb834, 1, none⟩ (.slice Ao10 t819.length co10)).setCell ⟨gb834, 2, none⟩ (.slice Ao11 t822.length co11)).setCell ⟨gb834, 3, none⟩ (.slice Ao12 t825.length co12)).setCell ⟨gb834, 4, none⟩ (.slice Ao13 t828.length co13)).setCell ⟨gb834, 5, none⟩ (.slice Ao14 t831.length co14))) ?hg ?ho ?hn ?hr ?_; (case ho => rfl); (case hg => rfl); (case hn => rfl); (case hr => first | (go_simp; done) | (go_simp; rfl)); intro w15 hw; have n0_ : aC (Kd.R (Kd.int .i64) 2 w15 w.heap.size (fun k_ => oB (.slice Ao10 t819.length co10) k_ ∧ oB (.slice Ao11 t822.length co11) k_ ∧ oB (.slice Ao12 t825.length co12) k_ ∧ oB (.slice Ao13 t828.length co13) k_) v816 t815) := ⟨(by rw [hw]; exact (by (with_reducible repeat (first | apply yA | apply yB | apply yC)); exact zF (yS_ (yS_ (yS_ (yS_ (yS_ (yS_ (Kd.bQ HO817.out BK834.out (by decide)))))))) (fun _ hk => ⟨hk.1.1, ⟨hk.1.2.1, ⟨hk.1.2.2.1, hk.1.2.2.2⟩⟩⟩)))⟩; have n1_ : aC (Kd.R (Kd.int .i64) 2 w15 w.heap.size (fun k_ => oB v816 k_ ∧ oB (.slice Ao11 t822.length co11) k_ ∧ oB (.slice Ao12 t825.length co12) k_ ∧ oB (.slice Ao13 t828.length co13) k_) (.slice Ao10 t819.length co10) t819) := ⟨(by rw [hw]; exact (by (with_reducible repeat (first | apply yA | apply yB | apply yC)); exact zF (yS_ (yS_ (yS_ (yS_ (yS_ (yS_ (Kd.bQ HO821.out BK834.out (by decide)))))))) (fun _ hk => ⟨hk.1.1, ⟨hk.1.2.1, ⟨hk.1.2.2.1, hk.1.2.2.2⟩⟩⟩)))⟩; have n2_ : aC (Kd.R (Kd.int .i64) 2 w15 w.heap.size (fun k_ => oB v816 k_ ∧ oB (.slice Ao10 t819.length co10) k_ ∧ oB (.slice Ao12 t825.length co12) k_ ∧ oB (.slice Ao13 t828.length co13) k_) (.slice Ao11 t822.length co11) t822) := ⟨(by rw [hw]; exact (by (with_reducible repeat (first | apply yA | apply yB | apply yC)); exact zF (yS_ (yS_ (yS_ (yS_ (yS_ (yS_ (Kd.bQ HO824.out BK834.out (by decide)))))))) (fun _ hk => ⟨hk.1.1, ⟨hk.1.2.1, ⟨hk.1.2.2.1, hk.1.2.2.2⟩⟩⟩)))⟩; have n3_ : aC (Kd.R (Kd.int .i64) 2 w15 w.heap.size (fun k_ => oB v816 k_ ∧ oB (.slice Ao10 t819.length co10) k_ ∧ oB (.slice Ao11 t822.length co11) k_ ∧ oB (.slice Ao13 t828.length co13) k_) (.slice Ao12 t825.length co12) t825) := ⟨(by rw [hw]; exact (by (with_reducible repeat (first | apply yA | apply yB | apply yC)); exact zF (yS_ (yS_ (yS_ (yS_ (yS_ (yS_ (Kd.bQ HO827.out BK834.out (by decide)))))))) (fun _ hk => ⟨hk.1.1, ⟨hk.1.2.1, ⟨hk.1.2.2.1, hk.1.2.2.2⟩⟩⟩)))⟩; have n4_ : aC (Kd.R (Kd.int .i64) 2 w15 w.heap.size (fun k_ => oB v816 k_ ∧ oB (.slice Ao10 t819.length co10) k_ ∧ oB (.slice Ao11 t822.length co11) k_ ∧ oB (.slice Ao12 t825.length co12) k_) (.slice Ao13 t828.length co13) t828) := ⟨(by rw [hw]; exact (by (with_reducible repeat (first | apply yA | apply yB | apply yC)); exact zF (yS_ (yS_ (yS_ (yS_ (yS_ (yS_ (Kd.bQ HO830.out BK834.out (by decide)))))))) (fun _ hk => ⟨hk.1.1, ⟨hk.1.2.1, ⟨hk.1.2.2.1, hk.1.2.2.2⟩⟩⟩)))⟩; have n5_ : aC (Kd.N k68 68 w15 w.heap.size (fun k_ => oB v816 k_ ∧ oB (.slice Ao10 t819.length co10) k_ ∧ oB (.slice Ao11 t822.length co11) k_ ∧ oB (.slice Ao12 t825.length co12) k_ ∧ oB (.slice Ao13 t828.length co13) k_ ∧ k_ ≠ gb834) (.slice Ao14 t831.length co14) t831) := ⟨(by rw [hw]; exact (by (with_reducible repeat (first | apply Kd.N_alloc | apply Kd.N_drewN | apply Kd.N_drew)); exact Kd.N_mono (Kd.N_far (p := ⟨gb834, 5, none⟩) (Kd.N_far (p := ⟨gb834, 4, none⟩) (Kd.N_far (p := ⟨gb834, 3, none⟩) (Kd.N_far (p := ⟨gb834, 2, none⟩) (Kd.N_far (p := ⟨gb834, 1, none⟩) (Kd.N_far (p := ⟨gb834, 0, none⟩) (Kd.N_mono HO833.out (fun k_ hk => (⟨hk, hk.2⟩ : _ ∧ k_ ≠ gb834))) (fun _ hk => hk.2) (.int .i64 t818)) (fun _ hk => hk.2) (.slice Ao10 t819.length co10)) (fun _ hk => hk.2) (.slice Ao11 t822.length co11)) (fun _ hk => hk.2) (.slice Ao12 t825.length co12)) (fun _ hk => hk.2) (.slice Ao13 t828.length co13)) (fun _ hk => hk.2) (.slice Ao14 t831.length co14)) (fun _ hk => ⟨hk.1.1.1, ⟨hk.1.1.2.1, ⟨hk.1.1.2.2.1, ⟨hk.1.1.2.2.2.1, ⟨hk.1.1.2.2.2.2, hk.1.2⟩⟩⟩⟩⟩)))⟩; have n6_ : aC (w15.heap[gb834]? = some (.cells #[.int .i64 t818, .slice Ao10 t819.length co10, .slice Ao11 t822.length co11, .slice Ao12 t825.length co12, .slice Ao13 t828.length co13, .slice Ao14 t831.length co14] 26 (0, 0))) := ⟨(by rw [hw]; exact (by (with_reducible repeat (first | refine yM ?_ _ | refine yO ?_ | refine yN ?_ _)); exact bA6_ BK834.out))⟩; have n7_ : aC (Below w.heap.size w w15) := ⟨(by rw [hw]; exact (kB HB))⟩; clear hw; clear HO817; clear HO821; clear HO824; clear HO827; clear HO830; clear HO833; clear BK834; clear HB; have HO817 := n0_; have HO821 := n1_; have HO824 := n2_; have HO827 := n3_; have HO830 := n4_; have HO833 := n5_; have BK834 := n6_; have HB := n7_; clear n0_ n1_ n2_ n3_ n4_ n5_ n6_ n7_; have := cf6_ BK834.out; obtain ⟨Ao17, co17, eo17⟩ := Kd.bS HO817.out; subst eo17) | (refine gC 5 ?_; refine gL 26 Try.func5 _ (dv (cL.calls k _ _ t815 t818 _ _ t819 _ _ t822 _ _ t825 _ _ t828 _ _ t831 t835 t838 _ ?z1 ?z3 ?z5 ?z7 ?z9 ?z11 A4.out) fun v836 w18 ho0 hb => ?_); (case z1 => exact ⟨kV (zA HO817.out).2.2, (zA HO817.out).2.1⟩); (case z3 => exact ⟨kV (zA HO821.out).2.2, (zA HO821.out).2.1⟩); (case z5 => exact ⟨kV (zA HO824.out).2.2, (zA HO824.out).2.1⟩); (case z7 => exact ⟨kV (zA HO827.out).2.2, (zA HO827.out).2.1⟩); (case z9 => exact ⟨kV (zA HO830.out).2.2, (zA HO830.out).2.1⟩); (case z11 => exact ⟨kV (Kd.N_reads' HO833.out).2.2, (Kd.N_reads' HO833.out).2.1⟩); have HO837 := yD (Kd.N_lower (Kd.N_mono (ok' := fun k_ => oB (.slice Ao17 t815.length co17) k_ ∧ oB (.slice Ao10 t819.length co10) k_ ∧ oB (.slice Ao11 t822.length co11) k_ ∧ oB (.slice Ao12 t825.length co12) k_ ∧ oB (.slice Ao13 t828.length co13) k_ ∧ oB (.slice Ao14 t831.length co14) k_ ∧ k_ ≠ gb834) (Kd.S_N (Kd.S_bound ho0)) (fun k_ hk_ => ⟨(Kd.cQ (yK (kA HO817)) k_ hk_.2.1), (Kd.cQ (yK (kA HO821)) k_ hk_.2.1), (Kd.cQ (yK (kA HO824)) k_ hk_.2.1), (Kd.cQ (yK (kA HO827)) k_ hk_.2.1), (Kd.cQ (yK (kA HO830)) k_ hk_.2.1), (Kd.cQ (Kd.N_lt (kQ HO833)) k_ hk_.2.1), (Kd.freshB (g := gb834) (o := .cells #[.int .i64 t818, .slice Ao10 t819.length co10, .slice Ao11 t822.length co11, .slice Ao12 t825.length co12, .slice Ao13 t828.length co13, .slice Ao14 t831.length co14] 26 (0, 0)) (kM BK834) k_ hk_.2.1)⟩)) (aD (kB HB))); replace HO817 := yD (zE (kA HO817) hb); replace HO821 := yD (zE (kA HO821) hb); replace HO824 := yD (zE (kA HO824) hb); replace HO827 := yD (zE (kA HO827) hb); replace HO830 := yD (zE (kA HO830) hb); replace HO833 := yD (Kd.N_elder' (kQ HO833) (Kd.S_base ho0) hb); replace BK834 := zY BK834 hb; replace HB := zX HB hb; clear hb ho0; obtain ⟨Ao19, co19, eo19⟩ := Kd.N_slice HO837.out; subst eo19) | (refine gC 7 ?_; refine gL 42 Try.func7 _ ((aW.calls k _ _ t835 t843 t846 t849 _ ?z1 A6.out).mono ?_); (case z1 => exact ⟨kV (Kd.N_reads' HO837.out).2.2, (Kd.N_reads' HO837.out).2.1⟩); rintro e w20 ⟨v844, v847, rfl, ho0, ho1, hb⟩; refine ⟨_, rfl, ?_⟩; replace HO833 := yD (Kd.N_mono (Kd.N_told (Kd.N_told (Kd.N_old (kQ HO833) hb) (yH ho0)) (yH ho1)) (fun _ h_ => h_.1)); replace HO837 := yD (Kd.N_mono (Kd.N_told (Kd.N_told (Kd.N_old (kQ HO837) hb) (yH ho0)) (yH ho1)) (fun _ h_ => h_.1)); have HO845 := yD (yZ (yJ (yJ (yJ (yJ (yJ ho0 (yK (kA HO817))) (yK (kA HO821))) (yK (kA HO824))) (yK (kA HO827))) (yK (kA HO830))) (aD (kB HB))); have HO848 := yD (yZ (yJ (yJ (yJ (yJ (yJ ho1 (yK (kA HO817))) (yK (kA HO821))) (yK (kA HO824))) (yK (kA HO827))) (yK (kA HO830))) (aD (kB HB))); replace HO817 := yD (zF (yI (yI (Kd.R_old (kA HO817) hb) (yH ho0)) (yH ho1)) (fun _ h_ => h_.1)); replace HO821 := yD (zF (yI (yI (Kd.R_old (kA HO821) hb) (yH ho0)) (yH ho1)) (fun _ h_ => h_.1)); replace HO824 := yD (zF (yI (yI (Kd.R_old (kA HO824) hb) (yH ho0)) (yH ho1)) (fun _ h_ => h_.1)); replace HO827 := yD (zF (yI (yI (Kd.R_old (kA HO827) hb) (yH ho0)) (yH ho1)) (fun _ h_ => h_.1)); replace HO830 := yD (zF (yI (yI (Kd.R_old (kA HO830) hb) (yH ho0)) (yH ho1)) (fun _ h_ => h_.1)); replace BK834 := zY BK834 hb; replace HB := zX HB hb; clear hb ho0 ho1) | (refine gD 10 ?_; (try (refine gate_guard (by rfl) ?_; dsimp only)); refine bE (N := 10) (cs := #[.slice none 0 0, .slice none 0 0]) (t := 33) ?_; intro gb850 hg w21 hbox hb; replace HO817 := yD (zE (kA HO817) hb); replace HO821 := yD (zE (kA HO821) hb); replace HO824 := yD (zE (kA HO824) hb); replace HO827 := yD (zE (kA HO827) hb); replace HO830 := yD (zE (kA HO830) hb); replace HO833 := yD (Kd.N_below (Kd.N_elderB (kQ HO833) gb850 (Nat.le_of_eq hg.symm)) hb); replace HO837 := yD (Kd.N_below (Kd.N_elderB (kQ HO837) gb850 (Nat.le_of_eq hg.symm)) hb); replace HO845 := yD (zE (kA HO845) hb); replace HO848 := yD (zE (kA HO848) hb); have BK850 := yD (hbox); have GW850 := sW hg HB; replace HB := zX HB hb; have NB834_850 := yD ((by rw [hg]; exact Nat.ne_of_lt (cT (kN BK834)) : gb834 ≠ gb850)); have NB850_834 := yD ((by rw [hg]; exact Nat.ne_of_gt (cT (kN BK834)) : gb850 ≠ gb834)); replace BK834 := zY BK834 hb; clear hb hbox hg; obtain ⟨Ao22, co22, eo22⟩ := Kd.bS HO845.out; subst eo22; have hnb23 := NB850_834.out; have hnc23 := NB834_850.out; have := cf2_ BK850.out; obtain ⟨Ao25, co25, eo25⟩ := Kd.bS HO848.out; subst eo25))
 (try simp only [Act.put, zH, zI, zJ])
 go_loopg [9, 12] k (fun kq v9 v12 w' => ∃ (x9_1 : Int) (x12_1 : Int), v9 = .int .i64 x9_1 ∧ v12 = .int .i64 x12_1 ∧ aC (bD.l0 kq t815 t835 x9_1 t849 x12_1 t818 t819 t822 t825 t828 t831 t843 t846 = some r) ∧ aC (kq ≤ k) ∧ aC (Kd.R (Kd.int .i64) 2 w' w.heap.size (fun k_ => oB (.slice Ao10 t819.length co10) k_ ∧ oB (.slice Ao11 t822.length co11) k_ ∧ oB (.slice Ao12 t825.length co12) k_ ∧ oB (.slice Ao13 t828.length co13) k_ ∧ oB (.slice Ao22 t843.length co22) k_ ∧ oB (.slice Ao25 t846.length co25) k_) (.slice Ao17 t815.length co17) t815) ∧ aC (Kd.N k33 33 w' w.heap.size (fun k_ => oB (.slice Ao17 t815.length co17) k_ ∧ oB (.slice Ao10 t819.length co10) k_ ∧ oB (.slice Ao11 t822.length co11) k_ ∧ oB (.slice Ao12 t825.length co12) k_ ∧ oB (.slice Ao13 t828.length co13) k_ ∧ oB (.slice Ao14 t831.length co14) k_ ∧ oB (.slice Ao22 t843.length co22) k_ ∧ oB (.slice Ao25 t846.length co25) k_ ∧ k_ ≠ gb834 ∧ k_ ≠ gb850) (.slice Ao19 t835.length co19) t835) ∧ aC (Kd.R (Kd.int .i64) 2 w' w.heap.size (fun k_ => oB (.slice Ao17 t815.length co17) k_ ∧ oB (.slice Ao11 t822.length co11) k_ ∧ oB (.slice Ao12 t825.length co12) k_ ∧ oB (.slice Ao13 t828.length co13) k_ ∧ oB (.slice Ao22 t843.length co22) k_ ∧ oB (.slice Ao25 t846.length co25) k_) (.slice Ao10 t819.length co10) t819) ∧ aC (Kd.R (Kd.int .i64) 2 w' w.heap.size (fun k_ => oB (.slice Ao17 t815.length co17) k_ ∧ oB (.slice Ao10 t819.length co10) k_ ∧ oB (.slice Ao12 t825.length co12) k_ ∧ oB (.slice Ao13 t828.length co13) k_ ∧ oB (.slice Ao22 t843.length co22) k_ ∧ oB (.slice Ao25 t846.length co25) k_) (.slice Ao11 t822.length co11) t822) ∧ aC (Kd.R (Kd.int .i64) 2 w' w.heap.size (fun k_ => oB (.slice Ao17 t815.length co17) k_ ∧ oB (.slice Ao10 t819.length co10) k_ ∧ oB (.slice Ao11 t822.length co11) k_ ∧ oB (.slice Ao13 t828.length co13) k_ ∧ oB (.slice Ao22 t843.length co22) k_ ∧ oB (.slice Ao25 t846.length co25) k_) (.slice Ao12 t825.length co12) t825) ∧ aC (Kd.R (Kd.int .i64) 2 w' w.heap.size (fun k_ => oB (.slice Ao17 t815.length co17) k_ ∧ oB (.slice Ao10 t819.length co10) k_ ∧ oB (.slice Ao11 t822.length co11) k_ ∧ oB (.slice Ao12 t825.length co12) k_ ∧ oB (.slice Ao22 t843.length co22) k_ ∧ oB (.slice Ao25 t846.length co25) k_) (.slice Ao13 t828.length co13) t828) ∧ aC (Kd.N k68 68 w' w.heap.size (fun k_ => oB (.slice Ao17 t815.length co17) k_ ∧ oB (.slice Ao19 t835.length co19) k_ ∧ oB (.slice Ao10 t819.length co10) k_ ∧ oB (.slice Ao11 t822.length co11) k_ ∧ oB (.slice Ao12 t825.length co12) k_ ∧ oB (.slice Ao13 t828.length co13) k_ ∧ oB (.slice Ao22 t843.length co22) k_ ∧ oB (.slice Ao25 t846.length co25) k_ ∧ k_ ≠ gb834 ∧ k_ ≠ gb850) (.slice Ao14 t831.length co14) t831) ∧ aC (Kd.R (Kd.int .i64) 2 w' w.heap.size (fun k_ => oB (.slice Ao17 t815.length co17) k_ ∧ oB (.slice Ao10 t819.length co10) k_ ∧ oB (.slice Ao11 t822.length co11) k_ ∧ oB (.slice Ao12 t825.length co12) k_ ∧ oB (.slice Ao13 t828.length co13) k_ ∧ oB (.slice Ao25 t846.length co25) k_) (.slice Ao22 t843.length co22) t843) ∧ aC (Kd.R (Kd.int .i64) 2 w' w.heap.size (fun k_ => oB (.slice Ao17 t815.length co17) k_ ∧ oB (.slice Ao10 t819.length co10) k_ ∧ oB (.slice Ao11 t822.length co11) k_ ∧ oB (.slice Ao12 t825.length co12) k_ ∧ oB (.slice Ao13 t828.length co13) k_ ∧ oB (.slice Ao22 t843.length co22) k_) (.slice Ao25 t846.length co25) t846) ∧ aC (w'.heap[gb834]? = some (.cells #[.int .i64 t818, (.slice Ao10 t819.length co10), (.slice Ao11 t822.length co11), (.slice Ao12 t825.length co12), (.slice Ao13 t828.length co13), (.slice Ao14 t831.length co14)] 26 (0, 0))) ∧ aC (w'.heap[gb850]? = some (.cells #[(.slice Ao22 t843.length co22), (.slice Ao25 t846.length co25)] 33 (0, 0))) ∧ aC (Below w.heap.size w w'))
 case atStart => exact ⟨(0), (0), kF, kF, H', ⟨Nat.le_refl _⟩, ⟨by (with_reducible repeat (first | apply yA | apply yB | apply yC)); exact zF (yS_ (yS_ (Kd.bQ HO817.out BK850.out (by decide)))) (fun _ hk => ⟨hk.1.1.1.1, ⟨hk.1.1.1.2.1, ⟨hk.1.1.1.2.2.1, ⟨hk.1.1.1.2.2.2, ⟨hk.1.1.2, hk.1.2⟩⟩⟩⟩⟩)⟩, ⟨by (with_reducible repeat (first | apply Kd.N_alloc | apply Kd.N_drewN | apply Kd.N_drew)); exact Kd.N_mono (Kd.N_far (p := ⟨gb850, 1, none⟩) (Kd.N_far (p := ⟨gb850, 0, none⟩) (Kd.N_mono HO837.out (fun k_ hk => (⟨hk, hk.2⟩ : _ ∧ k_ ≠ gb850))) (fun _ hk => hk.2) (.slice Ao22 t843.length co22)) (fun _ hk => hk.2) (.slice Ao25 t846.length co25)) (fun _ hk => ⟨hk.1.1.1.1.1, ⟨hk.1.1.1.1.2.1, ⟨hk.1.1.1.1.2.2.1, ⟨hk.1.1.1.1.2.2.2.1, ⟨hk.1.1.1.1.2.2.2.2.1, ⟨hk.1.1.1.1.2.2.2.2.2.1, ⟨hk.1.1.1.2, ⟨hk.1.1.2, ⟨hk.1.1.1.1.2.2.2.2.2.2, hk.1.2⟩⟩⟩⟩⟩⟩⟩⟩⟩)⟩, ⟨by (with_reducible repeat (first | apply yA | apply yB | apply yC)); exact zF (yS_ (yS_ (Kd.bQ HO821.out BK850.out (by decide)))) (fun _ hk => ⟨hk.1.1.1.1, ⟨hk.1.1.1.2.1, ⟨hk.1.1.1.2.2.1, ⟨hk.1.1.1.2.2.2, ⟨hk.1.1.2, hk.1.2⟩⟩⟩⟩⟩)⟩, ⟨by (with_reducible repeat (first | apply yA | apply yB | apply yC)); exact zF (yS_ (yS_ (Kd.bQ HO824.out BK850.out (by decide)))) (fun _ hk => ⟨hk.1.1.1.1, ⟨hk.1.1.1.2.1, ⟨hk.1.1.1.2.2.1, ⟨hk.1.1.1.2.2.2, ⟨hk.1.1.2, hk.1.2⟩⟩⟩⟩⟩)⟩, ⟨by (with_reducible repeat (first | apply yA | apply yB | apply yC)); exact zF (yS_ (yS_ (Kd.bQ HO827.out BK850.out (by decide)))) (fun _ hk => ⟨hk.1.1.1.1, ⟨hk.1.1.1.2.1, ⟨hk.1.1.1.2.2.1, ⟨hk.1.1.1.2.2.2, ⟨hk.1.1.2, hk.1.2⟩⟩⟩⟩⟩)⟩, ⟨by (with_reducible repeat (first | apply yA | apply yB | apply yC)); exact zF (yS_ (yS_ (Kd.bQ HO830.out BK850.out (by decide)))) (fun _ hk => ⟨hk.1.1.1.1, ⟨hk.1.1.1.2.1, ⟨hk.1.1.1.2.2.1, ⟨hk.1.1.1.2.2.2, ⟨hk.1.1.2, hk.1.2⟩⟩⟩⟩⟩)⟩, ⟨by (with_reducible repeat (first | apply Kd.N_alloc | apply Kd.N_drewN | apply Kd.N_drew)); exact Kd.N_mono (Kd.N_far (p := ⟨gb850, 1, none⟩) (Kd.N_far (p := ⟨gb850, 0, none⟩) (Kd.N_mono HO833.out (fun k_ hk => (⟨hk, hk.2⟩ : _ ∧ k_ ≠ gb850))) (fun _ hk => hk.2) (.slice Ao22 t843.length co22)) (fun _ hk => hk.2) (.slice Ao25 t846.length co25)) (fun _ hk => ⟨hk.1.1.1.1.1.1, ⟨hk.1.1.1.1.2, ⟨hk.1.1.1.1.1.2.1, ⟨hk.1.1.1.1.1.2.2.1, ⟨hk.1.1.1.1.1.2.2.2.1, ⟨hk.1.1.1.1.1.2.2.2.2.1, ⟨hk.1.1.1.2, ⟨hk.1.1.2, ⟨hk.1.1.1.1.1.2.2.2.2.2, hk.1.2⟩⟩⟩⟩⟩⟩⟩⟩⟩)⟩, ⟨by (with_reducible repeat (first | apply yA | apply yB | apply yC)); exact zF (yS_ (yS_ (Kd.bQ HO845.out BK850.out (by decide)))) (fun _ hk => ⟨hk.1.1.1.1.1.2, ⟨hk.1.1.1.1.2, ⟨hk.1.1.1.2, ⟨hk.1.1.2, ⟨hk.1.2, hk.1.1.1.1.1.1⟩⟩⟩⟩⟩)⟩, ⟨by (with_reducible repeat (first | apply yA | apply yB | apply yC)); exact zF (yS_ (yS_ (Kd.bQ HO848.out BK850.out (by decide)))) (fun _ hk => ⟨hk.1.1.1.1.1.2, ⟨hk.1.1.1.1.2, ⟨hk.1.1.1.2, ⟨hk.1.1.2, ⟨hk.1.2, hk.1.1.1.1.1.1⟩⟩⟩⟩⟩)⟩, ⟨by (with_reducible repeat (first | refine yM ?_ _ | refine yO ?_ | refine yN ?_ _)); refine blk_far ?_ NB834_850.out _; (with_reducible repeat (first | refine yM ?_ _ | refine yO ?_ | refine yN ?_ _)); refine blk_far ?_ NB834_850.out _; (with_reducible repeat (first | refine yM ?_ _ | refine yO ?_ | refine yN ?_ _)); exact BK834.out⟩, ⟨by (with_reducible repeat (first | refine yM ?_ _ | refine yO ?_ | refine yN ?_ _)); exact bA2_ BK850.out⟩, ⟨kR1 HB⟩⟩
 case round =>
  clear H'
  obtain ⟨x9_1, x12_1, rfl, rfl, HA, HK1, HO_3, HO_5, HO_835001, HO_835002, HO_835003, HO_835004, HO_835005, HO_851000, HO_851001, BK834, BK850, HB⟩ := hrel
  cases gk with
  | zero => exact absurd HA.out (by simp [bD.l0])
  | succ k1 =>
   have H := HA.out; clear HA
   simp only [bD.l0] at H
   replace ⟨t851, A26, H⟩ := sV H
   replace H := sG H; rcases H with ⟨c27b0, H⟩ | ⟨c27b0, H⟩
   ·
    replace ⟨t852, A50, H⟩ := sV H
    replace H := sP H; rcases H with ⟨c51, c51b0, c51b1, H⟩ | ⟨-, c51b0, c51b1, H⟩
    ·
     obtain rfl := sJ H
     go_wp2_with (first | (refine gC 8 ?_; refine gL 47 Try.func8 _ ((spec_ElementsOf.calls k1 _ _ t815 t851 _ ?z1 A26.out).mono ?_); (case z1 => exact ⟨kV (zA HO_3.out).2.2, (zA HO_3.out).2.1⟩); rintro e w' ⟨rfl, ⟨nd, rfl⟩⟩; refine ⟨_, rfl, ?_⟩) | (refine gC 13 ?_; refine gL 77 Try.func13 _ (dn (laws_d8Size.calls k1 _ _ t835 t852 _ ?z1 A50.out) fun w53 hb => ?_); (case z1 => exact ⟨kV (Kd.N_reads' HO_5.out).2.2, (Kd.N_reads' HO_5.out).2.1⟩); replace HO_5 := yD (Kd.N_below (kQ HO_5) hb); replace BK834 := zY BK834 hb; replace BK850 := zY BK850 hb; replace HB := zX HB hb; clear hb))
     go_ret
     exact ⟨kE, kR1 HB⟩
    obtain rfl := sJ H
    go_wp2_with (first | (refine gC 8 ?_; refine gL 47 Try.func8 _ ((spec_ElementsOf.calls k1 _ _ t815 t851 _ ?z1 A26.out).mono ?_); (case z1 => exact ⟨kV (zA HO_3.out).2.2, (zA HO_3.out).2.1⟩); rintro e w' ⟨rfl, ⟨nd, rfl⟩⟩; refine ⟨_, rfl, ?_⟩) | (refine gC 13 ?_; refine gL 77 Try.func13 _ (dn (laws_d8Size.calls k1 _ _ t835 t852 _ ?z1 A50.out) fun w52 hb => ?_); (case z1 => exact ⟨kV (Kd.N_reads' HO_5.out).2.2, (Kd.N_reads' HO_5.out).2.1⟩); replace HO_5 := yD (Kd.N_below (kQ HO_5) hb); replace BK834 := zY BK834 hb; replace BK850 := zY BK850 hb; replace HB := zX HB hb; clear hb))
    go_ret
    exact ⟨kE, kR1 HB⟩
   replace ⟨t853, A28, H⟩ := sV H
   replace ⟨t856, A29, H⟩ := sV H
   have HC30 := yD H
   clear H
   go_upto_region 15 with (first | (refine gC 8 ?_; refine gL 47 Try.func8 _ ((spec_ElementsOf.calls k1 _ _ t815 t851 _ ?z1 A26.out).mono ?_); (case z1 => exact ⟨kV (zA HO_3.out).2.2, (zA HO_3.out).2.1⟩); rintro e w' ⟨rfl, ⟨nd, rfl⟩⟩; refine ⟨_, rfl, ?_⟩) | (refine gC 9 ?_; refine gL 53 Try.func9 _ (dv (spec_CoordsOf.calls k1 _ _ t815 x12_1 t853 _ ?z1 A28.out) fun v854 w31 ho0 hb => ?_); (case z1 => exact ⟨kV (zA HO_3.out).2.2, (zA HO_3.out).2.1⟩); replace HO_5 := yD (Kd.N_elder' (kQ HO_5) (yH ho0) hb); replace HO_835005 := yD (Kd.N_elder' (kQ HO_835005) (yH ho0) hb); have HO855 := yD (yZ (yJ (yJ (yJ (yJ (yJ (yJ (yJ ho0 (yK (kA HO_3))) (yK (kA HO_835001))) (yK (kA HO_835002))) (yK (kA HO_835003))) (yK (kA HO_835004))) (yK (kA HO_851000))) (yK (kA HO_851001))) (aD (kB HB))); replace HO_3 := yD (Kd.R_elder' (kA HO_3) (yH ho0) hb); replace HO_835001 := yD (Kd.R_elder' (kA HO_835001) (yH ho0) hb); replace HO_835002 := yD (Kd.R_elder' (kA HO_835002) (yH ho0) hb); replace HO_835003 := yD (Kd.R_elder' (kA HO_835003) (yH ho0) hb); replace HO_835004 := yD (Kd.R_elder' (kA HO_835004) (yH ho0) hb); replace HO_851000 := yD (Kd.R_elder' (kA HO_851000) (yH ho0) hb); replace HO_851001 := yD (Kd.R_elder' (kA HO_851001) (yH ho0) hb); replace BK834 := zY BK834 hb; replace BK850 := zY BK850 hb; replace HB := zX HB hb; clear hb ho0; have hnb32 := NB834_850.out; have hnc32 := NB850_834.out; have := cf6_ BK834.out; obtain ⟨Ao34, co34, eo34⟩ := Kd.bS HO855.out; subst eo34) | (refine gC 10 ?_; refine gL 57 Try.func10 _ (dn (spec_IsSelected.calls k1 _ _ t815 t818 _ _ t819 _ _ t822 _ _ t825 _ _ t828 _ _ t831 _ _ t853 t856 _ ?z1 ?z3 ?z5 ?z7 ?z9 ?z11 ?z13 A29.out) fun w35 hb => ?_); (case z1 => exact ⟨kV (zA HO_3.out).2.2, (zA HO_3.out).2.1⟩); (case z3 => exact ⟨kV (zA HO_835001.out).2.2, (zA HO_835001.out).2.1⟩); (case z5 => exact ⟨kV (zA HO_835002.out).2.2, (zA HO_835002.out).2.1⟩); (case z7 => exact ⟨kV (zA HO_835003.out).2.2, (zA HO_835003.out).2.1⟩); (case z9 => exact ⟨kV (zA HO_835004.out).2.2, (zA HO_835004.out).2.1⟩); (case z11 => exact ⟨kV (Kd.N_reads' HO_835005.out).2.2, (Kd.N_reads' HO_835005.out).2.1⟩); (case z13 => exact ⟨kV (zA HO855.out).2.2, (zA HO855.out).2.1⟩); replace HO_3 := yD (zE (kA HO_3) hb); replace HO_5 := yD (Kd.N_below (kQ HO_5) hb); replace HO_835001 := yD (zE (kA HO_835001) hb); replace HO_835002 := yD (zE (kA HO_835002) hb); replace HO_835003 := yD (zE (kA HO_835003) hb); replace HO_835004 := yD (zE (kA HO_835004) hb); replace HO_835005 := yD (Kd.N_below (kQ HO_835005) hb); replace HO_851000 := yD (zE (kA HO_851000) hb); replace HO_851001 := yD (zE (kA HO_851001) hb); replace HO855 := yD (zE (kA HO855) hb); replace BK834 := zY BK834 hb; replace BK850 := zY BK850 hb; replace HB := zX HB hb; clear hb))
   (try simp only [Act.put, zH, zI, zJ])
   go_cut [72] (fun v72 wc => ∃ (kq : Nat) (x72_29 : Bool), v72 = .bool x72_29 ∧ aC (bD.j1 kq t815 t835 x9_1 t849 x12_1 t856 x72_29 t818 t819 t822 t825 t828 t831 t843 t846 = some r) ∧ aC (kq ≤ k1) ∧ aC (Kd.R (Kd.int .i64) 2 wc w.heap.size (fun k_ => oB (.slice Ao10 t819.length co10) k_ ∧ oB (.slice Ao11 t822.length co11) k_ ∧ oB (.slice Ao12 t825.length co12) k_ ∧ oB (.slice Ao13 t828.length co13) k_ ∧ oB (.slice Ao22 t843.length co22) k_ ∧ oB (.slice Ao25 t846.length co25) k_) (.slice Ao17 t815.length co17) t815) ∧ aC (Kd.N k33 33 wc w.heap.size (fun k_ => oB (.slice Ao17 t815.length co17) k_ ∧ oB (.slice Ao10 t819.length co10) k_ ∧ oB (.slice Ao11 t822.length co11) k_ ∧ oB (.slice Ao12 t825.length co12) k_ ∧ oB (.slice Ao13 t828.length co13) k_ ∧ oB (.slice Ao14 t831.length co14) k_ ∧ oB (.slice Ao22 t843.length co22) k_ ∧ oB (.slice Ao25 t846.length co25) k_ ∧ k_ ≠ gb834 ∧ k_ ≠ gb850) (.slice Ao19 t835.length co19) t835) ∧ aC (Kd.R (Kd.int .i64) 2 wc w.heap.size (fun k_ => oB (.slice Ao17 t815.length co17) k_ ∧ oB (.slice Ao11 t822.length co11) k_ ∧ oB (.slice Ao12 t825.length co12) k_ ∧ oB (.slice Ao13 t828.length co13) k_ ∧ oB (.slice Ao22 t843.length co22) k_ ∧ oB (.slice Ao25 t846.length co25) k_) (.slice Ao10 t819.length co10) t819) ∧ aC (Kd.R (Kd.int .i64) 2 wc w.heap.size (fun k_ => oB (.slice Ao17 t815.length co17) k_ ∧ oB (.slice Ao10 t819.length co10) k_ ∧ oB (.slice Ao12 t825.length co12) k_ ∧ oB (.slice Ao13 t828.length co13) k_ ∧ oB (.slice Ao22 t843.length co22) k_ ∧ oB (.slice Ao25 t846.length co25) k_) (.slice Ao11 t822.length co11) t822) ∧ aC (Kd.R (Kd.int .i64) 2 wc w.heap.size (fun k_ => oB (.slice Ao17 t815.length co17) k_ ∧ oB (.slice Ao10 t819.length co10) k_ ∧ oB (.slice Ao11 t822.length co11) k_ ∧ oB (.slice Ao13 t828.length co13) k_ ∧ oB (.slice Ao22 t843.length co22) k_ ∧ oB (.slice Ao25 t846.length co25) k_) (.slice Ao12 t825.length co12) t825) ∧ aC (Kd.R (Kd.int .i64) 2 wc w.heap.size (fun k_ => oB (.slice Ao17 t815.length co17) k_ ∧ oB (.slice Ao10 t819.length co10) k_ ∧ oB (.slice Ao11 t822.length co11) k_ ∧ oB (.slice Ao12 t825.length co12) k_ ∧ oB (.slice Ao22 t843.length co22) k_ ∧ oB (.slice Ao25 t846.length co25) k_) (.slice Ao13 t828.length co13) t828) ∧ aC (Kd.N k68 68 wc w.heap.size (fun k_ => oB (.slice Ao17 t815.length co17) k_ ∧ oB (.slice Ao19 t835.length co19) k_ ∧ oB (.slice Ao10 t819.length co10) k_ ∧ oB (.slice Ao11 t822.length co11) k_ ∧ oB (.slice Ao12 t825.length co12) k_ ∧ oB (.slice Ao13 t828.length co13) k_ ∧ oB (.slice Ao22 t843.length co22) k_ ∧ oB (.slice Ao25 t846.length co25) k_ ∧ k_ ≠ gb834 ∧ k_ ≠ gb850) (.slice Ao14 t831.length co14) t831) ∧ aC (Kd.R (Kd.int .i64) 2 wc w.heap.size (fun k_ => oB (.slice Ao17 t815.length co17) k_ ∧ oB (.slice Ao10 t819.length co10) k_ ∧ oB (.slice Ao11 t822.length co11) k_ ∧ oB (.slice Ao12 t825.length co12) k_ ∧ oB (.slice Ao13 t828.length co13) k_ ∧ oB (.slice Ao25 t846.length co25) k_) (.slice Ao22 t843.length co22) t843) ∧ aC (Kd.R (Kd.int .i64) 2 wc w.heap.size (fun k_ => oB (.slice Ao17 t815.length co17) k_ ∧ oB (.slice Ao10 t819.length co10) k_ ∧ oB (.slice Ao11 t822.length co11) k_ ∧ oB (.slice Ao12 t825.length co12) k_ ∧ oB (.slice Ao13 t828.length co13) k_ ∧ oB (.slice Ao22 t843.length co22) k_) (.slice Ao25 t846.length co25) t846) ∧ aC (wc.heap[gb834]? = some (.cells #[.int .i64 t818, (.slice Ao10 t819.length co10), (.slice Ao11 t822.length co11), (.slice Ao12 t825.length co12), (.slice Ao13 t828.length co13), (.slice Ao14 t831.length co14)] 26 (0, 0))) ∧ aC (wc.heap[gb850]? = some (.cells #[(.slice Ao22 t843.length co22), (.slice Ao25 t846.length co25)] 33 (0, 0))) ∧ aC (Below w.heap.size w wc))
   case first =>
    have H := HC30.out; clear HC30
    replace ⟨t857, A36, H⟩ := sV H
    replace H := sB H; rcases H with ⟨c37, H⟩ | ⟨c37, H⟩
    ·
     have c37b0 : (t857 != t856) = true := c37
     (try (have c37b1 : decide (t857 = t856) = false := by simpa using c37))
     (try (have c37b2 : (t857 == t856) = false := by simpa using c37))
     (try (have c37b3 : ¬ (t857 = t856) := by simpa using c37))
     clear c37
     (first | rw [c37b0] | (simp only [i64_w, i32_w]; rw [c37b0]) | (simp only [bne] at c37b0; rw [c37b0]) | skip)
     have H' := yD H
     clear H
     go_wp2_with (first | (refine gC 11 ?_; refine gL 60 Try.func11 _ (dn (impl_InBoxes.calls k1 _ _ t835 _ _ t853 t857 _ ?z1 ?z3 A36.out) fun w38 hb => ?_); (case z1 => exact ⟨kV (Kd.N_reads' HO_5.out).2.2, (Kd.N_reads' HO_5.out).2.1⟩); (case z3 => exact ⟨kV (zA HO855.out).2.2, (zA HO855.out).2.1⟩); replace HO_3 := yD (zE (kA HO_3) hb); replace HO_5 := yD (Kd.N_below (kQ HO_5) hb); replace HO_835001 := yD (zE (kA HO_835001) hb); replace HO_835002 := yD (zE (kA HO_835002) hb); replace HO_835003 := yD (zE (kA HO_835003) hb); replace HO_835004 := yD (zE (kA HO_835004) hb); replace HO_835005 := yD (Kd.N_below (kQ HO_835005) hb); replace HO_851000 := yD (zE (kA HO_851000) hb); replace HO_851001 := yD (zE (kA HO_851001) hb); replace HO855 := yD (zE (kA HO855) hb); replace BK834 := zY BK834 hb; replace BK850 := zY BK850 hb; replace HB := zX HB hb; clear hb))
     go_meet
     case rel => exact ⟨_, (true), kF, H', ⟨by have := HK1.out; first | omega | exact Nat.le_refl _⟩, ⟨mR HO_3 (fun _ hk => ⟨hk.1.1, ⟨hk.1.2.1, ⟨hk.1.2.2.1, ⟨hk.1.2.2.2.1, ⟨hk.1.2.2.2.2.1, hk.1.2.2.2.2.2⟩⟩⟩⟩⟩)⟩, ⟨mN HO_5 (fun _ hk => ⟨hk.1.1, ⟨hk.1.2.1, ⟨hk.1.2.2.1, ⟨hk.1.2.2.2.1, ⟨hk.1.2.2.2.2.1, ⟨hk.1.2.2.2.2.2.1, ⟨hk.1.2.2.2.2.2.2.1, ⟨hk.1.2.2.2.2.2.2.2.1, ⟨hk.1.2.2.2.2.2.2.2.2.1, hk.1.2.2.2.2.2.2.2.2.2⟩⟩⟩⟩⟩⟩⟩⟩⟩)⟩, ⟨mR HO_835001 (fun _ hk => ⟨hk.1.1, ⟨hk.1.2.1, ⟨hk.1.2.2.1, ⟨hk.1.2.2.2.1, ⟨hk.1.2.2.2.2.1, hk.1.2.2.2.2.2⟩⟩⟩⟩⟩)⟩, ⟨mR HO_835002 (fun _ hk => ⟨hk.1.1, ⟨hk.1.2.1, ⟨hk.1.2.2.1, ⟨hk.1.2.2.2.1, ⟨hk.1.2.2.2.2.1, hk.1.2.2.2.2.2⟩⟩⟩⟩⟩)⟩, ⟨mR HO_835003 (fun _ hk => ⟨hk.1.1, ⟨hk.1.2.1, ⟨hk.1.2.2.1, ⟨hk.1.2.2.2.1, ⟨hk.1.2.2.2.2.1, hk.1.2.2.2.2.2⟩⟩⟩⟩⟩)⟩, ⟨mR HO_835004 (fun _ hk => ⟨hk.1.1, ⟨hk.1.2.1, ⟨hk.1.2.2.1, ⟨hk.1.2.2.2.1, ⟨hk.1.2.2.2.2.1, hk.1.2.2.2.2.2⟩⟩⟩⟩⟩)⟩, ⟨mN HO_835005 (fun _ hk => ⟨hk.1.1, ⟨hk.1.2.1, ⟨hk.1.2.2.1, ⟨hk.1.2.2.2.1, ⟨hk.1.2.2.2.2.1, ⟨hk.1.2.2.2.2.2.1, ⟨hk.1.2.2.2.2.2.2.1, ⟨hk.1.2.2.2.2.2.2.2.1, ⟨hk.1.2.2.2.2.2.2.2.2.1, hk.1.2.2.2.2.2.2.2.2.2⟩⟩⟩⟩⟩⟩⟩⟩⟩)⟩, ⟨mR HO_851000 (fun _ hk => ⟨hk.1.1, ⟨hk.1.2.1, ⟨hk.1.2.2.1, ⟨hk.1.2.2.2.1, ⟨hk.1.2.2.2.2.1, hk.1.2.2.2.2.2⟩⟩⟩⟩⟩)⟩, ⟨mR HO_851001 (fun _ hk => ⟨hk.1.1, ⟨hk.1.2.1, ⟨hk.1.2.2.1, ⟨hk.1.2.2.2.1, ⟨hk.1.2.2.2.2.1, hk.1.2.2.2.2.2⟩⟩⟩⟩⟩)⟩, ⟨kM BK834⟩, ⟨kM BK850⟩, ⟨kR1 HB⟩⟩
    have c37b0 : (t857 != t856) = false := by simpa using c37
    (try (have c37b1 : decide (t857 = t856) = true := by simpa using c37))
    (try (have c37b2 : (t857 == t856) = true := by simpa using c37))
    clear c37
    (first | rw [c37b0] | (simp only [i64_w, i32_w]; rw [c37b0]) | (simp only [bne] at c37b0; rw [c37b0]) | skip)
    replace H := sS H; rcases H with ⟨rfl, H⟩ | ⟨rfl, H⟩
    ·
     have H' := yD H
     clear H
     go_wp2_with (first | (refine gC 11 ?_; refine gL 60 Try.func11 _ (dn (impl_InBoxes.calls k1 _ _ t835 _ _ t853 t857 _ ?z1 ?z3 A36.out) fun w47 hb => ?_); (case z1 => exact ⟨kV (Kd.N_reads' HO_5.out).2.2, (Kd.N_reads' HO_5.out).2.1⟩); (case z3 => exact ⟨kV (zA HO855.out).2.2, (zA HO855.out).2.1⟩); replace HO_3 := yD (zE (kA HO_3) hb); replace HO_5 := yD (Kd.N_below (kQ HO_5) hb); replace HO_835001 := yD (zE (kA HO_835001) hb); replace HO_835002 := yD (zE (kA HO_835002) hb); replace HO_835003 := yD (zE (kA HO_835003) hb); replace HO_835004 := yD (zE (kA HO_835004) hb); replace HO_835005 := yD (Kd.N_below (kQ HO_835005) hb); replace HO_851000 := yD (zE (kA HO_851000) hb); replace HO_851001 := yD (zE (kA HO_851001) hb); replace HO855 := yD (zE (kA HO855) hb); replace BK834 := zY BK834 hb; replace BK850 := zY BK850 hb; replace HB := zX HB hb; clear hb))
     go_meet
     case rel => exact ⟨_, (false), kF, H', ⟨by have := HK1.out; first | omega | exact Nat.le_refl _⟩, ⟨mR HO_3 (fun _ hk => ⟨hk.1.1, ⟨hk.1.2.1, ⟨hk.1.2.2.1, ⟨hk.1.2.2.2.1, ⟨hk.1.2.2.2.2.1, hk.1.2.2.2.2.2⟩⟩⟩⟩⟩)⟩, ⟨mN HO_5 (fun _ hk => ⟨hk.1.1, ⟨hk.1.2.1, ⟨hk.1.2.2.1, ⟨hk.1.2.2.2.1, ⟨hk.1.2.2.2.2.1, ⟨hk.1.2.2.2.2.2.1, ⟨hk.1.2.2.2.2.2.2.1, ⟨hk.1.2.2.2.2.2.2.2.1, ⟨hk.1.2.2.2.2.2.2.2.2.1, hk.1.2.2.2.2.2.2.2.2.2⟩⟩⟩⟩⟩⟩⟩⟩⟩)⟩, ⟨mR HO_835001 (fun _ hk => ⟨hk.1.1, ⟨hk.1.2.1, ⟨hk.1.2.2.1, ⟨hk.1.2.2.2.1, ⟨hk.1.2.2.2.2.1, hk.1.2.2.2.2.2⟩⟩⟩⟩⟩)⟩, ⟨mR HO_835002 (fun _ hk => ⟨hk.1.1, ⟨hk.1.2.1, ⟨hk.1.2.2.1, ⟨hk.1.2.2.2.1, ⟨hk.1.2.2.2.2.1, hk.1.2.2.2.2.2⟩⟩⟩⟩⟩)⟩, ⟨mR HO_835003 (fun _ hk => ⟨hk.1.1, ⟨hk.1.2.1, ⟨hk.1.2.2.1, ⟨hk.1.2.2.2.1, ⟨hk.1.2.2.2.2.1, hk.1.2.2.2.2.2⟩⟩⟩⟩⟩)⟩, ⟨mR HO_835004 (fun _ hk => ⟨hk.1.1, ⟨hk.1.2.1, ⟨hk.1.2.2.1, ⟨hk.1.2.2.2.1, ⟨hk.1.2.2.2.2.1, hk.1.2.2.2.2.2⟩⟩⟩⟩⟩)⟩, ⟨mN HO_835005 (fun _ hk => ⟨hk.1.1, ⟨hk.1.2.1, ⟨hk.1.2.2.1, ⟨hk.1.2.2.2.1, ⟨hk.1.2.2.2.2.1, ⟨hk.1.2.2.2.2.2.1, ⟨hk.1.2.2.2.2.2.2.1, ⟨hk.1.2.2.2.2.2.2.2.1, ⟨hk.1.2.2.2.2.2.2.2.2.1, hk.1.2.2.2.2.2.2.2.2.2⟩⟩⟩⟩⟩⟩⟩⟩⟩)⟩, ⟨mR HO_851000 (fun _ hk => ⟨hk.1.1, ⟨hk.1.2.1, ⟨hk.1.2.2.1, ⟨hk.1.2.2.2.1, ⟨hk.1.2.2.2.2.1, hk.1.2.2.2.2.2⟩⟩⟩⟩⟩)⟩, ⟨mR HO_851001 (fun _ hk => ⟨hk.1.1, ⟨hk.1.2.1, ⟨hk.1.2.2.1, ⟨hk.1.2.2.2.1, ⟨hk.1.2.2.2.2.1, hk.1.2.2.2.2.2⟩⟩⟩⟩⟩)⟩, ⟨kM BK834⟩, ⟨kM BK850⟩, ⟨kR1 HB⟩⟩
    generalize hy858 : ((([(⟨t843, t846⟩ : S33)] : List (S33))) : List (S33)) = y858 at H
    have Ny858 := yD hy858.symm
    clear hy858
    replace ⟨t861, A40, H⟩ := sV H
    have H' := yD H
    clear H
    go_wp2_with (first | (refine gC 11 ?_; refine gL 60 Try.func11 _ (dn (impl_InBoxes.calls k1 _ _ t835 _ _ t853 t857 _ ?z1 ?z3 A36.out) fun w41 hb => ?_); (case z1 => exact ⟨kV (Kd.N_reads' HO_5.out).2.2, (Kd.N_reads' HO_5.out).2.1⟩); (case z3 => exact ⟨kV (zA HO855.out).2.2, (zA HO855.out).2.1⟩); replace HO_3 := yD (zE (kA HO_3) hb); replace HO_5 := yD (Kd.N_below (kQ HO_5) hb); replace HO_835001 := yD (zE (kA HO_835001) hb); replace HO_835002 := yD (zE (kA HO_835002) hb); replace HO_835003 := yD (zE (kA HO_835003) hb); replace HO_835004 := yD (zE (kA HO_835004) hb); replace HO_835005 := yD (Kd.N_below (kQ HO_835005) hb); replace HO_851000 := yD (zE (kA HO_851000) hb); replace HO_851001 := yD (zE (kA HO_851001) hb); replace HO855 := yD (zE (kA HO855) hb); replace BK834 := zY BK834 hb; replace BK850 := zY BK850 hb; replace HB := zX HB hb; clear hb; have hnb42 := NB850_834.out; have hnc42 := NB834_850.out; have := cf2_ BK850.out) | (refine gD 67 ?_; (try (refine gate_guard (by rfl) ?_; dsimp only)); refine Kd.N_lit k33 _ 33 ?hg (N' := 67) ?hd (xs := ([(⟨t843, t846⟩ : S33)] : List (S33))) (inner := [.slice Ao22 t843.length co22, .slice Ao25 t846.length co25]) (ok := (fun k_ => oB (.slice Ao17 t815.length co17) k_ ∧ oB (.slice Ao19 t835.length co19) k_ ∧ oB (.slice Ao10 t819.length co10) k_ ∧ oB (.slice Ao11 t822.length co11) k_ ∧ oB (.slice Ao12 t825.length co12) k_ ∧ oB (.slice Ao13 t828.length co13) k_ ∧ oB (.slice Ao14 t831.length co14) k_ ∧ oB (.slice Ao34 t853.length co34) k_ ∧ k_ ≠ gb834 ∧ k_ ≠ gb850)) (okp := (fun k_ => oB (.slice Ao17 t815.length co17) k_ ∧ oB (.slice Ao19 t835.length co19) k_ ∧ oB (.slice Ao10 t819.length co10) k_ ∧ oB (.slice Ao11 t822.length co11) k_ ∧ oB (.slice Ao12 t825.length co12) k_ ∧ oB (.slice Ao13 t828.length co13) k_ ∧ oB (.slice Ao14 t831.length co14) k_ ∧ oB (.slice Ao34 t853.length co34) k_ ∧ k_ ≠ gb834 ∧ k_ ≠ gb850)) ?hr ?hp (fun _ hk => hk) ((show ∀ k_, w41.heap.size ≤ k_ → (fun k_ => oB (.slice Ao17 t815.length co17) k_ ∧ oB (.slice Ao19 t835.length co19) k_ ∧ oB (.slice Ao10 t819.length co10) k_ ∧ oB (.slice Ao11 t822.length co11) k_ ∧ oB (.slice Ao12 t825.length co12) k_ ∧ oB (.slice Ao13 t828.length co13) k_ ∧ oB (.slice Ao14 t831.length co14) k_ ∧ oB (.slice Ao34 t853.length co34) k_ ∧ k_ ≠ gb834 ∧ k_ ≠ gb850) k_ from fun k_ hk => ⟨Kd.cQ (yK (kA HO_3)) k_ hk, Kd.cQ (Kd.N_lt (kQ HO_5)) k_ hk, Kd.cQ (yK (kA HO_835001)) k_ hk, Kd.cQ (yK (kA HO_835002)) k_ hk, Kd.cQ (yK (kA HO_835003)) k_ hk, Kd.cQ (yK (kA HO_835004)) k_ hk, Kd.cQ (Kd.N_lt (kQ HO_835005)) k_ hk, Kd.cQ (yK (kA HO855)) k_ hk, Kd.freshB (g := gb834) (o := .cells #[.int .i64 t818, .slice Ao10 t819.length co10, .slice Ao11 t822.length co11, .slice Ao12 t825.length co12, .slice Ao13 t828.length co13, .slice Ao14 t831.length co14] 26 (0, 0)) (kM BK834) k_ hk, Kd.freshB (g := gb850) (o := .cells #[.slice Ao22 t843.length co22, .slice Ao25 t846.length co25] 33 (0, 0)) (kM BK850) k_ hk⟩) _ (Nat.le_refl _)) (Below.refl _ _) (Nat.le_refl _) (by simp) ?_; (case hd => rfl); (case hg => rfl); (case hr => first | (go_simp; done) | (go_simp; rfl)); (case hp => exact (cW.c2 (show Kd.FK k33 _ _ (⟨t843, t846⟩ : S33) [.slice Ao22 t843.length co22, .slice Ao25 t846.length co25] from (k33_mkF _ _ (⟨t843, t846⟩ : S33) (zA (zF (ok' := (fun k_ => oB (.slice Ao17 t815.length co17) k_ ∧ oB (.slice Ao19 t835.length co19) k_ ∧ oB (.slice Ao10 t819.length co10) k_ ∧ oB (.slice Ao11 t822.length co11) k_ ∧ oB (.slice Ao12 t825.length co12) k_ ∧ oB (.slice Ao13 t828.length co13) k_ ∧ oB (.slice Ao14 t831.length co14) k_ ∧ oB (.slice Ao34 t853.length co34) k_ ∧ k_ ≠ gb834 ∧ k_ ≠ gb850)) (Kd.bQ (Kd.bQ (Kd.cH (Kd.cH (HO_851000.out) (Kd.N_typed HO_5.out) (by decide)) (Kd.N_typed HO_835005.out) (by decide)) BK834.out (by decide)) BK850.out (by decide)) (fun k_ hk => ⟨hk.1.1.1.1.1.1, ⟨hk.1.1.1.2, ⟨hk.1.1.1.1.1.2.1, ⟨hk.1.1.1.1.1.2.2.1, ⟨hk.1.1.1.1.1.2.2.2.1, ⟨hk.1.1.1.1.1.2.2.2.2.1, ⟨hk.1.1.2, ⟨hk.1.1.1.1.2, ⟨hk.1.2, hk.2⟩⟩⟩⟩⟩⟩⟩⟩⟩))).2.1 (Kd.R_F (zF (ok' := (fun k_ => oB (.slice Ao17 t815.length co17) k_ ∧ oB (.slice Ao19 t835.length co19) k_ ∧ oB (.slice Ao10 t819.length co10) k_ ∧ oB (.slice Ao11 t822.length co11) k_ ∧ oB (.slice Ao12 t825.length co12) k_ ∧ oB (.slice Ao13 t828.length co13) k_ ∧ oB (.slice Ao14 t831.length co14) k_ ∧ oB (.slice Ao34 t853.length co34) k_ ∧ k_ ≠ gb834 ∧ k_ ≠ gb850)) (Kd.bQ (Kd.bQ (Kd.cH (Kd.cH (HO_851000.out) (Kd.N_typed HO_5.out) (by decide)) (Kd.N_typed HO_835005.out) (by decide)) BK834.out (by decide)) BK850.out (by decide)) (fun k_ hk => ⟨hk.1.1.1.1.1.1, ⟨hk.1.1.1.2, ⟨hk.1.1.1.1.1.2.1, ⟨hk.1.1.1.1.1.2.2.1, ⟨hk.1.1.1.1.1.2.2.2.1, ⟨hk.1.1.1.1.1.2.2.2.2.1, ⟨hk.1.1.2, ⟨hk.1.1.1.1.2, ⟨hk.1.2, hk.2⟩⟩⟩⟩⟩⟩⟩⟩⟩))) (zA (zF (ok' := (fun k_ => oB (.slice Ao17 t815.length co17) k_ ∧ oB (.slice Ao19 t835.length co19) k_ ∧ oB (.slice Ao10 t819.length co10) k_ ∧ oB (.slice Ao11 t822.length co11) k_ ∧ oB (.slice Ao12 t825.length co12) k_ ∧ oB (.slice Ao13 t828.length co13) k_ ∧ oB (.slice Ao14 t831.length co14) k_ ∧ oB (.slice Ao34 t853.length co34) k_ ∧ k_ ≠ gb834 ∧ k_ ≠ gb850)) (Kd.bQ (Kd.bQ (Kd.cH (Kd.cH (HO_851001.out) (Kd.N_typed HO_5.out) (by decide)) (Kd.N_typed HO_835005.out) (by decide)) BK834.out (by decide)) BK850.out (by decide)) (fun k_ hk => ⟨hk.1.1.1.1.1.1, ⟨hk.1.1.1.2, ⟨hk.1.1.1.1.1.2.1, ⟨hk.1.1.1.1.1.2.2.1, ⟨hk.1.1.1.1.1.2.2.2.1, ⟨hk.1.1.1.1.1.2.2.2.2.1, ⟨hk.1.1.2, ⟨hk.1.1.1.1.2, ⟨hk.1.2, hk.2⟩⟩⟩⟩⟩⟩⟩⟩⟩))).2.1 (Kd.R_F (zF (ok' := (fun k_ => oB (.slice Ao17 t815.length co17) k_ ∧ oB (.slice Ao19 t835.length co19) k_ ∧ oB (.slice Ao10 t819.length co10) k_ ∧ oB (.slice Ao11 t822.length co11) k_ ∧ oB (.slice Ao12 t825.length co12) k_ ∧ oB (.slice Ao13 t828.length co13) k_ ∧ oB (.slice Ao14 t831.length co14) k_ ∧ oB (.slice Ao34 t853.length co34) k_ ∧ k_ ≠ gb834 ∧ k_ ≠ gb850)) (Kd.bQ (Kd.bQ (Kd.cH (Kd.cH (HO_851001.out) (Kd.N_typed HO_5.out) (by decide)) (Kd.N_typed HO_835005.out) (by decide)) BK834.out (by decide)) BK850.out (by decide)) (fun k_ hk => ⟨hk.1.1.1.1.1.1, ⟨hk.1.1.1.2, ⟨hk.1.1.1.1.1.2.1, ⟨hk.1.1.1.1.1.2.2.1, ⟨hk.1.1.1.1.1.2.2.2.1, ⟨hk.1.1.1.1.1.2.2.2.2.1, ⟨hk.1.1.2, ⟨hk.1.1.1.1.2, ⟨hk.1.2, hk.2⟩⟩⟩⟩⟩⟩⟩⟩⟩))))) (cW.none _ _))); intro v859 w44 ho45 hb hg_ hnew_; clear hg_ hnew_; (first | rw [← Ny858.out] at ho45 | (simp only [Int.reduceToNat] at ho45; rw [← Ny858.out] at ho45)); replace HO_3 := yD (zE (kA HO_3) hb); replace HO_5 := yD (Kd.N_elder' (kQ HO_5) (Kd.N_base ho45) hb); replace HO_835001 := yD (zE (kA HO_835001) hb); replace HO_835002 := yD (zE (kA HO_835002) hb); replace HO_835003 := yD (zE (kA HO_835003) hb); replace HO_835004 := yD (zE (kA HO_835004) hb); replace HO_835005 := yD (Kd.N_elder' (kQ HO_835005) (Kd.N_base ho45) hb); replace HO_851000 := yD (zE (kA HO_851000) hb); replace HO_851001 := yD (zE (kA HO_851001) hb); replace HO855 := yD (zE (kA HO855) hb); have HO860 := yD (Kd.N_lower ho45 (aD (kB HB))); replace BK834 := zY BK834 hb; replace BK850 := zY BK850 hb; replace HB := zX HB hb; clear hb ho45; obtain ⟨Ao46, co46, eo46⟩ := Kd.N_slice HO860.out; subst eo46) | (go_at_call 12; (with_reducible refine (laws_d8In.calls k1 _ _ y858 _ _ t853 t861 _ ?z1 ?z3 A40.out).mono ?_); (case z1 => exact ⟨kV (Kd.N_reads' HO860.out).2.2, (Kd.N_reads' HO860.out).2.1⟩); (case z3 => exact ⟨kV (zA HO855.out).2.2, (zA HO855.out).2.1⟩); rintro e w' ⟨rfl, ⟨nd, rfl⟩⟩))
    go_meet
    case rel => exact ⟨_, (!t861), kF, H', ⟨by have := HK1.out; first | omega | exact Nat.le_refl _⟩, ⟨mR HO_3 (fun _ hk => ⟨hk.1.1, ⟨hk.1.2.1, ⟨hk.1.2.2.1, ⟨hk.1.2.2.2.1, ⟨hk.1.2.2.2.2.1, hk.1.2.2.2.2.2⟩⟩⟩⟩⟩)⟩, ⟨mN HO_5 (fun _ hk => ⟨hk.1.1.1, ⟨hk.1.1.2.1, ⟨hk.1.1.2.2.1, ⟨hk.1.1.2.2.2.1, ⟨hk.1.1.2.2.2.2.1, ⟨hk.1.1.2.2.2.2.2.1, ⟨hk.1.1.2.2.2.2.2.2.1, ⟨hk.1.1.2.2.2.2.2.2.2.1, ⟨hk.1.1.2.2.2.2.2.2.2.2.1, hk.1.1.2.2.2.2.2.2.2.2.2⟩⟩⟩⟩⟩⟩⟩⟩⟩)⟩, ⟨mR HO_835001 (fun _ hk => ⟨hk.1.1, ⟨hk.1.2.1, ⟨hk.1.2.2.1, ⟨hk.1.2.2.2.1, ⟨hk.1.2.2.2.2.1, hk.1.2.2.2.2.2⟩⟩⟩⟩⟩)⟩, ⟨mR HO_835002 (fun _ hk => ⟨hk.1.1, ⟨hk.1.2.1, ⟨hk.1.2.2.1, ⟨hk.1.2.2.2.1, ⟨hk.1.2.2.2.2.1, hk.1.2.2.2.2.2⟩⟩⟩⟩⟩)⟩, ⟨mR HO_835003 (fun _ hk => ⟨hk.1.1, ⟨hk.1.2.1, ⟨hk.1.2.2.1, ⟨hk.1.2.2.2.1, ⟨hk.1.2.2.2.2.1, hk.1.2.2.2.2.2⟩⟩⟩⟩⟩)⟩, ⟨mR HO_835004 (fun _ hk => ⟨hk.1.1, ⟨hk.1.2.1, ⟨hk.1.2.2.1, ⟨hk.1.2.2.2.1, ⟨hk.1.2.2.2.2.1, hk.1.2.2.2.2.2⟩⟩⟩⟩⟩)⟩, ⟨mN HO_835005 (fun _ hk => ⟨hk.1.1.1, ⟨hk.1.1.2.1, ⟨hk.1.1.2.2.1, ⟨hk.1.1.2.2.2.1, ⟨hk.1.1.2.2.2.2.1, ⟨hk.1.1.2.2.2.2.2.1, ⟨hk.1.1.2.2.2.2.2.2.1, ⟨hk.1.1.2.2.2.2.2.2.2.1, ⟨hk.1.1.2.2.2.2.2.2.2.2.1, hk.1.1.2.2.2.2.2.2.2.2.2⟩⟩⟩⟩⟩⟩⟩⟩⟩)⟩, ⟨mR HO_851000 (fun _ hk => ⟨hk.1.1, ⟨hk.1.2.1, ⟨hk.1.2.2.1, ⟨hk.1.2.2.2.1, ⟨hk.1.2.2.2.2.1, hk.1.2.2.2.2.2⟩⟩⟩⟩⟩)⟩, ⟨mR HO_851001 (fun _ hk => ⟨hk.1.1, ⟨hk.1.2.1, ⟨hk.1.2.2.1, ⟨hk.1.2.2.2.1, ⟨hk.1.2.2.2.2.1, hk.1.2.2.2.2.2⟩⟩⟩⟩⟩)⟩, ⟨kM BK834⟩, ⟨kM BK850⟩, ⟨kR1 HB⟩⟩
   case rest =>
    clear HC30
    obtain ⟨kq, x72_29, rfl, HA, HJ29, HO_3, HO_5, HO_835001, HO_835002, HO_835003, HO_835004, HO_835005, HO_851000, HO_851001, BK834, BK850, HB⟩ := hcut
    cases kq with
    | zero => exact absurd HA.out (by simp [bD.j1])
    | succ kj29 =>
     have H := HA.out; clear HA
     simp only [bD.j1] at H
     replace H := sT H; rcases H with ⟨rfl, H⟩ | ⟨rfl, H⟩
     · obtain rfl := sJ H
       go_wp2
       go_ret
       exact ⟨kE, kR1 HB⟩
     replace H := sS H; rcases H with ⟨rfl, H⟩ | ⟨rfl, H⟩
     ·
      have H' := yD H
      clear H
      go_wp2
      go_roundg kj29
      case measure => have := HK1.out; have := HJ29.out; omega
      case rel => exact ⟨(x9_1), (wrap64 (x12_1 + 1)), kF, kF, H', ⟨by have := HK1.out; have := HJ29.out; omega⟩, ⟨kA HO_3⟩, ⟨kQ HO_5⟩, ⟨kA HO_835001⟩, ⟨kA HO_835002⟩, ⟨kA HO_835003⟩, ⟨kA HO_835004⟩, ⟨kQ HO_835005⟩, ⟨kA HO_851000⟩, ⟨kA HO_851001⟩, ⟨kM BK834⟩, ⟨kM BK850⟩, ⟨kR1 HB⟩⟩
     have H' := yD H
     clear H
     go_wp2
     go_roundg kj29
     case measure => have := HK1.out; have := HJ29.out; omega
     case rel => exact ⟨(wrap64 (x9_1 + 1)), (wrap64 (x12_1 + 1)), kF, kF, H', ⟨by have := HK1.out; have := HJ29.out; omega⟩, ⟨kA HO_3⟩, ⟨kQ HO_5⟩, ⟨kA HO_835001⟩, ⟨kA HO_835002⟩, ⟨kA HO_835003⟩, ⟨kA HO_835004⟩, ⟨kQ HO_835005⟩, ⟨kA HO_851000⟩, ⟨kA HO_851001⟩, ⟨kM BK834⟩, ⟨kM BK850⟩, ⟨kR1 HB⟩⟩
/-- THE ONE PURE STATEMENT of bD: ours. -/
def bD.Pure : Prop := ∀ (l0 : List Int), (l0.length ≤ maxLen ∧ ∀ x_ ∈ l0, (Lit.int .u8 x_).wf = true) → ∃ k, bD.f k l0 = some true
theorem bD.walk (P : bD.Pure) (A0 : Option Addr) (c0 : Nat) (l0 : List Int) (w : World) (hr0 : Kd.C (Kd.int .u8) w A0 l0.length l0) (hc0 : l0.length ≤ c0) (o0 : (l0.length ≤ maxLen ∧ ∀ x_ ∈ l0, (Lit.int .u8 x_).wf = true)) :
 Calls Try.prog 3 #[.slice A0 l0.length c0] w fun e w' => e = .returned (.bool true) ∧ Below w.heap.size w w' := by
 obtain ⟨k, h⟩ := P l0 o0
 refine (bD.calls k _ _ l0 true w hr0 hc0 h).mono ?_
 rintro e w' ⟨rfl, hd⟩
 exact ⟨rfl, hd⟩
end Go.Proofs.Ytkkdkeogplgkfaa.PFnSelectedBoxes
