/- Each function here comes to its plain form. It holds without a condition. -/
import Derived.Test.YtkkdkeogplgkfaaPFnSelectedBoxesx0
import Derived.Test.YtkkdkeogplgkfaaPFnSelectedBoxesx2
import Derived.Test.YtkkdkeogplgkfaaPFnSelectedBoxesx1
namespace Go.Proofs.Ytkkdkeogplgkfaa.PFnSelectedBoxes
open Go.RowKit Go.Proofs.YtkkdkeogplgkfaaW.PrintWords Go.Proofs.YtkkdkeogplgkfaaW.PrintLast Go.Proofs.YtkkdkeogplgkfaaW.PrintMore
attribute [local go_sem] max2_int min2_int max_two min_two max_three min_three max_four min_four
set_option linter.unusedVariables false
set_option linter.unusedSimpArgs false
set_option maxHeartbeats 8000000
set_option maxRecDepth 100000
def cN.l0 : Nat → List Int → Int → Int → Int → List Int → List Int → List Int → List Int → List (S68) → Option (Bool)
 | 0, _, _, _, _, _, _, _, _, _ => none
 | k + 1, x17, x18, x19, x332000, x332001, x332002, x332003, x332004, x332005 => if x19 < x18 then (if 0 ≤ x19 then (if x19 < (x17.length : Int) then ((impl_Selection_end.f x332000 x332001 x332002 x332003 x332004 x332005 x19).bind fun t334 => (if t334 > (rd x17 x19) then (some false) else (cN.l0 k x17 x18 (wrap64 (x19 + 1)) x332000 x332001 x332002 x332003 x332004 x332005))) else (none)) else (none)) else (some true)
def cN.f (k : Nat) (a0_0 : Int) (l0_1 l0_2 : List Int) (l0_3 l0_4 : List Int) (l0_5 : List (S68)) (l1 : List Int) : Option (Bool) := if a0_0 = 3 then (if (l0_1.length : Int) = (l1.length : Int) then (cN.l0 k l1 (l1.length : Int) 0 a0_0 l0_1 l0_2 l0_3 l0_4 l0_5) else (some false)) else (if a0_0 = 4 then ((cS.f k l0_5 l1).bind fun t335 => (some (!t335))) else (some true))
theorem cN.calls (k : Nat) (a0_0 : Int) (A0_1 : Option Addr) (c0_1 : Nat) (l0_1 : List Int) (A0_2 : Option Addr) (c0_2 : Nat) (l0_2 : List Int) (A0_3 : Option Addr) (c0_3 : Nat) (l0_3 : List Int) (A0_4 : Option Addr) (c0_4 : Nat) (l0_4 : List Int) (A0_5 : Option Addr) (c0_5 : Nat) (l0_5 : List (S68)) (A1 : Option Addr) (c1 : Nat) (l1 : List Int) (r : Bool) (w : World) (C0_1 : Cm (Kd.int .i64) w A0_1 c0_1 l0_1) (C0_2 : Cm (Kd.int .i64) w A0_2 c0_2 l0_2) (C0_3 : Cm (Kd.int .i64) w A0_3 c0_3 l0_3) (C0_4 : Cm (Kd.int .i64) w A0_4 c0_4 l0_4) (C0_5 : Cm k68 w A0_5 c0_5 l0_5) (C1 : Cm (Kd.int .i64) w A1 c1 l1) (h : cN.f k a0_0 l0_1 l0_2 l0_3 l0_4 l0_5 l1 = some r) :
 Calls Try.prog 45 #[.agg #[.int .i64 a0_0, .slice A0_1 l0_1.length c0_1, .slice A0_2 l0_2.length c0_2, .slice A0_3 l0_3.length c0_3, .slice A0_4 l0_4.length c0_4, .slice A0_5 l0_5.length c0_5], .slice A1 l1.length c1] w fun e w' => e = .returned (.bool r) ∧ Below w.heap.size w w' := by
 have hu26 := Try.underlying26
 have HB := yD (Below.refl w.heap.size w)
 unfold cN.f at h
 have H := h
 clear h
 replace H := sP H; rcases H with ⟨c3, c3b0, c3b1, H⟩ | ⟨-, c3b0, c3b1, H⟩
 ·
  replace H := sP H; rcases H with ⟨c26, c26b0, c26b1, H⟩ | ⟨-, c26b0, c26b1, H⟩
  ·
   obtain rfl := sJ H; go_enter Try.func45, Try.ntmps45
   go_wp2_with (first | (refine gD 2 ?_; refine bF (N := 2) (cs := #[.int .i64 a0_0, .slice A0_1 l0_1.length c0_1, .slice A0_2 l0_2.length c0_2, .slice A0_3 l0_3.length c0_3, .slice A0_4 l0_4.length c0_4, .slice A0_5 l0_5.length c0_5]) (t := 26) HB ?_; intro gb331 w33 BK331 GW331 HB) | (refine gD 3 ?_; refine bE (N := 3) (cs := #[.slice A1 l1.length c1]) (t := 23) ?_; intro gb332 hg w34 hbox hb; have BK332 := yD (hbox); have GW332 := sW hg HB; replace HB := zX HB hb; have NB331_332 := yD ((by rw [hg]; exact Nat.ne_of_lt (cT (kN BK331)) : gb331 ≠ gb332)); have NB332_331 := yD ((by rw [hg]; exact Nat.ne_of_gt (cT (kN BK331)) : gb332 ≠ gb331)); replace BK331 := zY BK331 hb; clear hb hbox hg; have hnb35 := NB331_332.out; have hnc35 := NB332_331.out; have := cf6_ BK331.out))
   go_ret
   exact ⟨kE, kR1 HB⟩
  replace ⟨t335, A27, H⟩ := sV H
  obtain rfl := sJ H; go_enter Try.func45, Try.ntmps45
  go_wp2_with (first | (refine gD 2 ?_; refine bF (N := 2) (cs := #[.int .i64 a0_0, .slice A0_1 l0_1.length c0_1, .slice A0_2 l0_2.length c0_2, .slice A0_3 l0_3.length c0_3, .slice A0_4 l0_4.length c0_4, .slice A0_5 l0_5.length c0_5]) (t := 26) HB ?_; intro gb331 w28 BK331 GW331 HB) | (refine gD 3 ?_; refine bE (N := 3) (cs := #[.slice A1 l1.length c1]) (t := 23) ?_; intro gb332 hg w29 hbox hb; have BK332 := yD (hbox); have GW332 := sW hg HB; replace HB := zX HB hb; have NB331_332 := yD ((by rw [hg]; exact Nat.ne_of_lt (cT (kN BK331)) : gb331 ≠ gb332)); have NB332_331 := yD ((by rw [hg]; exact Nat.ne_of_gt (cT (kN BK331)) : gb332 ≠ gb331)); replace BK331 := zY BK331 hb; clear hb hbox hg; have hnb30 := NB331_332.out; have hnc30 := NB332_331.out; have := cf6_ BK331.out) | (refine gC 71 ?_; refine gL 35 Try.func71 _ (dn (cS.calls k _ _ l0_5 gb332 A1 c1 l1 t335 _ (C0_5.b HB) (C1.b HB) ?z5 A27.out) fun w32 hb => ?_); (case z5 => exact kM BK332); replace BK331 := zY BK331 hb; replace BK332 := zY BK332 hb; replace HB := zX HB hb; clear hb))
  go_ret
  exact ⟨kE, kR1 HB⟩
 replace H := sP H; rcases H with ⟨c4, c4b0, c4b1, H⟩ | ⟨c4, c4b0, c4b1, H⟩
 ·
  have c4b2 : (l0_1.length == l1.length) = false := by first | simpa using c4 | (simp at c4 ⊢; omega)
  obtain rfl := sJ H; go_enter Try.func45, Try.ntmps45
  go_wp2_with (first | (refine gD 2 ?_; refine bF (N := 2) (cs := #[.int .i64 a0_0, .slice A0_1 l0_1.length c0_1, .slice A0_2 l0_2.length c0_2, .slice A0_3 l0_3.length c0_3, .slice A0_4 l0_4.length c0_4, .slice A0_5 l0_5.length c0_5]) (t := 26) HB ?_; intro gb331 w21 BK331 GW331 HB) | (refine gD 3 ?_; refine bE (N := 3) (cs := #[.slice A1 l1.length c1]) (t := 23) ?_; intro gb332 hg w22 hbox hb; have BK332 := yD (hbox); have GW332 := sW hg HB; replace HB := zX HB hb; have NB331_332 := yD ((by rw [hg]; exact Nat.ne_of_lt (cT (kN BK331)) : gb331 ≠ gb332)); have NB332_331 := yD ((by rw [hg]; exact Nat.ne_of_gt (cT (kN BK331)) : gb332 ≠ gb331)); replace BK331 := zY BK331 hb; clear hb hbox hg; have hnb23 := NB331_332.out; have hnc23 := NB332_331.out; have := cf6_ BK331.out; have hcz25_0 : w22.cell? ⟨gb332, 0, none⟩ = some (.slice A1 l1.length c1) := (yG BK332.out 0).trans rfl; have hfz25_0 := yR BK332.out 0))
  go_ret
  exact ⟨kE, kR1 HB⟩
 have c4b2 : (l0_1.length == l1.length) = true := by first | simpa using c4 | (simp at c4 ⊢; omega)
 clear c4
 have H' := yD H
 clear H; go_enter Try.func45, Try.ntmps45
 go_wp2_with (first | (refine gD 2 ?_; refine bF (N := 2) (cs := #[.int .i64 a0_0, .slice A0_1 l0_1.length c0_1, .slice A0_2 l0_2.length c0_2, .slice A0_3 l0_3.length c0_3, .slice A0_4 l0_4.length c0_4, .slice A0_5 l0_5.length c0_5]) (t := 26) HB ?_; intro gb331 w5 BK331 GW331 HB) | (refine gD 3 ?_; refine bE (N := 3) (cs := #[.slice A1 l1.length c1]) (t := 23) ?_; intro gb332 hg w6 hbox hb; have BK332 := yD (hbox); have GW332 := sW hg HB; replace HB := zX HB hb; have NB331_332 := yD ((by rw [hg]; exact Nat.ne_of_lt (cT (kN BK331)) : gb331 ≠ gb332)); have NB332_331 := yD ((by rw [hg]; exact Nat.ne_of_gt (cT (kN BK331)) : gb332 ≠ gb331)); replace BK331 := zY BK331 hb; clear hb hbox hg; have hnb7 := NB331_332.out; have hnc7 := NB332_331.out; have := cf6_ BK331.out; have hcz9_0 : w6.cell? ⟨gb332, 0, none⟩ = some (.slice A1 l1.length c1) := (yG BK332.out 0).trans rfl; have hfz9_0 := yR BK332.out 0))
 (try simp only [Act.put, zH, zI, zJ])
 go_loopg [19] k (fun kq v19 w' => ∃ (x19_1 : Int), v19 = .int .i64 x19_1 ∧ aC (cN.l0 kq l1 (l1.length : Int) x19_1 a0_0 l0_1 l0_2 l0_3 l0_4 l0_5 = some r) ∧ aC (kq ≤ k) ∧ aC (w'.heap[gb331]? = some (.cells #[.int .i64 a0_0, (.slice A0_1 l0_1.length c0_1), (.slice A0_2 l0_2.length c0_2), (.slice A0_3 l0_3.length c0_3), (.slice A0_4 l0_4.length c0_4), (.slice A0_5 l0_5.length c0_5)] 26 (0, 0))) ∧ aC (w'.heap[gb332]? = some (.cells #[(.slice A1 l1.length c1)] 23 (0, 0))) ∧ aC (Below w.heap.size w w'))
 case atStart => exact ⟨(0), kF, H', ⟨Nat.le_refl _⟩, ⟨kM BK331⟩, ⟨kM BK332⟩, ⟨kR1 HB⟩⟩
 case round =>
  clear H'
  obtain ⟨x19_1, rfl, HA, HK1, BK331, BK332, HB⟩ := hrel
  cases gk with
  | zero => exact absurd HA.out (by simp [cN.l0])
  | succ k1 =>
   have H := HA.out; clear HA
   simp only [cN.l0] at H
   replace H := sG H; rcases H with ⟨c10b0, H⟩ | ⟨c10b0, H⟩
   · obtain rfl := sJ H
     go_wp2
     go_ret
     exact ⟨kE, kR1 HB⟩
   replace ⟨c11b0, H⟩ := sE H
   replace ⟨c12b0, H⟩ := sE H
   replace ⟨t334, A13, H⟩ := sV H
   replace H := sB H; rcases H with ⟨c14, H⟩ | ⟨c14, H⟩
   ·
    have c14b0 : decide ((rd l1 x19_1) < t334) = true := zR c14; clear c14; obtain rfl := sJ H
    obtain ⟨p333, q333, ad333, e333, hx333_0⟩ := sI (Kd.aX C1.r x19_1)
    cases e333
    replace hx333_0 := kD HB hx333_0
    have hnb15 := NB331_332.out; have hnc15 := NB332_331.out
    have := cf6_ BK331.out
    go_wp2_with (first | (refine gC 70 ?_; refine gL 26 Try.func70 _ (dn (impl_Selection_end.calls a0_0 _ _ l0_1 _ _ l0_2 _ _ l0_3 _ _ l0_4 _ _ l0_5 x19_1 t334 _ (C0_1.b HB) (C0_2.b HB) (C0_3.b HB) (C0_4.b HB) (C0_5.b HB) A13.out) fun w17 hb => ?_); replace BK331 := zY BK331 hb; replace BK332 := zY BK332 hb; replace HB := zX HB hb; clear hb))
    go_ret
    exact ⟨kE, kR1 HB⟩
   have c14b0 : decide ((rd l1 x19_1) < t334) = false := zS c14; clear c14
   have H' := yD H
   clear H
   obtain ⟨p333, q333, ad333, e333, hx333_0⟩ := sI (Kd.aX C1.r x19_1)
   cases e333
   replace hx333_0 := kD HB hx333_0
   have hnb18 := NB331_332.out; have hnc18 := NB332_331.out
   have := cf6_ BK331.out
   go_wp2_with (first | (refine gC 70 ?_; refine gL 26 Try.func70 _ (dn (impl_Selection_end.calls a0_0 _ _ l0_1 _ _ l0_2 _ _ l0_3 _ _ l0_4 _ _ l0_5 x19_1 t334 _ (C0_1.b HB) (C0_2.b HB) (C0_3.b HB) (C0_4.b HB) (C0_5.b HB) A13.out) fun w20 hb => ?_); replace BK331 := zY BK331 hb; replace BK332 := zY BK332 hb; replace HB := zX HB hb; clear hb))
   go_roundg k1
   case measure => have := HK1.out; omega
   case rel => exact ⟨(wrap64 (x19_1 + 1)), kF, H', ⟨by have := HK1.out; omega⟩, ⟨kM BK331⟩, ⟨kM BK332⟩, ⟨kR1 HB⟩⟩
def impl_ValidSelection.f (k : Nat) (l0 : List Int) (a1_0 : Int) (l1_1 l1_2 : List Int) (l1_3 l1_4 : List Int) (l1_5 : List (S68)) : Option (Bool) := (impl_ValidDims.f k l0).bind fun t337 => (if t337 = true then ((cG.f k a1_0 l1_1 l1_2 l1_3 l1_4 l1_5).bind fun t338 => (if t338 = true then ((cN.f k a1_0 l1_1 l1_2 l1_3 l1_4 l1_5 l0).bind fun t339 => (some t339)) else (some false))) else (some false))
theorem impl_ValidSelection.calls (k : Nat) (A0 : Option Addr) (c0 : Nat) (l0 : List Int) (a1_0 : Int) (A1_1 : Option Addr) (c1_1 : Nat) (l1_1 : List Int) (A1_2 : Option Addr) (c1_2 : Nat) (l1_2 : List Int) (A1_3 : Option Addr) (c1_3 : Nat) (l1_3 : List Int) (A1_4 : Option Addr) (c1_4 : Nat) (l1_4 : List Int) (A1_5 : Option Addr) (c1_5 : Nat) (l1_5 : List (S68)) (r : Bool) (w : World) (C0 : Cm (Kd.int .i64) w A0 c0 l0) (C1_1 : Cm (Kd.int .i64) w A1_1 c1_1 l1_1) (C1_2 : Cm (Kd.int .i64) w A1_2 c1_2 l1_2) (C1_3 : Cm (Kd.int .i64) w A1_3 c1_3 l1_3) (C1_4 : Cm (Kd.int .i64) w A1_4 c1_4 l1_4) (C1_5 : Cm k68 w A1_5 c1_5 l1_5) (h : impl_ValidSelection.f k l0 a1_0 l1_1 l1_2 l1_3 l1_4 l1_5 = some r) :
 Calls Try.prog 17 #[.slice A0 l0.length c0, .agg #[.int .i64 a1_0, .slice A1_1 l1_1.length c1_1, .slice A1_2 l1_2.length c1_2, .slice A1_3 l1_3.length c1_3, .slice A1_4 l1_4.length c1_4, .slice A1_5 l1_5.length c1_5]] w fun e w' => e = .returned (.bool r) ∧ Below w.heap.size w w' := by
 have hu26 := Try.underlying26
 have HB := yD (Below.refl w.heap.size w)
 unfold impl_ValidSelection.f at h
 have H := h
 clear h
 replace ⟨t337, A3, H⟩ := sV H
 replace H := sS H; rcases H with ⟨rfl, H⟩ | ⟨rfl, H⟩
 ·
  obtain rfl := sJ H; go_enter Try.func17, Try.ntmps17
  go_wp2_with (first | (refine gD 3 ?_; refine bF (N := 3) (cs := #[.int .i64 a1_0, .slice A1_1 l1_1.length c1_1, .slice A1_2 l1_2.length c1_2, .slice A1_3 l1_3.length c1_3, .slice A1_4 l1_4.length c1_4, .slice A1_5 l1_5.length c1_5]) (t := 26) HB ?_; intro gb336 w18 BK336 GW336 HB) | (refine gC 43 ?_; refine gL 6 Try.func43 _ (dn (impl_ValidDims.calls k _ _ l0 false _ (C0.b HB) A3.out) fun w19 hb => ?_); replace BK336 := zY BK336 hb; replace HB := zX HB hb; clear hb))
  go_ret
  exact ⟨kE, kR1 HB⟩
 replace ⟨t338, A5, H⟩ := sV H
 replace H := sS H; rcases H with ⟨rfl, H⟩ | ⟨rfl, H⟩
 ·
  obtain rfl := sJ H; go_enter Try.func17, Try.ntmps17
  go_wp2_with (first | (refine gD 3 ?_; refine bF (N := 3) (cs := #[.int .i64 a1_0, .slice A1_1 l1_1.length c1_1, .slice A1_2 l1_2.length c1_2, .slice A1_3 l1_3.length c1_3, .slice A1_4 l1_4.length c1_4, .slice A1_5 l1_5.length c1_5]) (t := 26) HB ?_; intro gb336 w14 BK336 GW336 HB) | (refine gC 43 ?_; refine gL 6 Try.func43 _ (dn (impl_ValidDims.calls k _ _ l0 true _ (C0.b HB) A3.out) fun w15 hb => ?_); replace BK336 := zY BK336 hb; replace HB := zX HB hb; clear hb; have := cf6_ BK336.out) | (go_at_call 44; (with_reducible refine (cG.calls k a1_0 _ _ l1_1 _ _ l1_2 _ _ l1_3 _ _ l1_4 _ _ l1_5 false _ (C1_1.b HB) (C1_2.b HB) (C1_3.b HB) (C1_4.b HB) (C1_5.b HB) A5.out).mono ?_); rintro e w17 ⟨rfl, hb⟩; replace BK336 := zY BK336 hb; replace HB := zX HB hb; clear hb))
  go_ret
  exact ⟨kE, kR1 HB⟩
 replace ⟨t339, A7, H⟩ := sV H
 obtain rfl := sJ H; go_enter Try.func17, Try.ntmps17
 go_wp2_with (first | (refine gD 3 ?_; refine bF (N := 3) (cs := #[.int .i64 a1_0, .slice A1_1 l1_1.length c1_1, .slice A1_2 l1_2.length c1_2, .slice A1_3 l1_3.length c1_3, .slice A1_4 l1_4.length c1_4, .slice A1_5 l1_5.length c1_5]) (t := 26) HB ?_; intro gb336 w8 BK336 GW336 HB) | (refine gC 43 ?_; refine gL 6 Try.func43 _ (dn (impl_ValidDims.calls k _ _ l0 true _ (C0.b HB) A3.out) fun w9 hb => ?_); replace BK336 := zY BK336 hb; replace HB := zX HB hb; clear hb; have := cf6_ BK336.out) | (go_at_call 44; (with_reducible refine (cG.calls k a1_0 _ _ l1_1 _ _ l1_2 _ _ l1_3 _ _ l1_4 _ _ l1_5 true _ (C1_1.b HB) (C1_2.b HB) (C1_3.b HB) (C1_4.b HB) (C1_5.b HB) A5.out).mono ?_); rintro e w11 ⟨rfl, hb⟩; replace BK336 := zY BK336 hb; replace HB := zX HB hb; clear hb; have := cf6_ BK336.out) | (go_at_call 45; (with_reducible refine (cN.calls k a1_0 _ _ l1_1 _ _ l1_2 _ _ l1_3 _ _ l1_4 _ _ l1_5 _ _ l0 t339 _ (C1_1.b HB) (C1_2.b HB) (C1_3.b HB) (C1_4.b HB) (C1_5.b HB) (C0.b HB) A7.out).mono ?_); rintro e w13 ⟨rfl, hb⟩; replace BK336 := zY BK336 hb; replace HB := zX HB hb; clear hb))
 go_ret
 exact ⟨kE, kR1 HB⟩
mutual
def aK.l0 : Nat → Int → List Int → Int → Int → Int → List Int → List Int → List Int → List Int → List (S68) → Option (List Int)
 | 0, _, _, _, _, _, _, _, _, _, _ => none
 | k + 1, x1, x5, x12, x13, x341000, x341001, x341002, x341003, x341004, x341005 => if x13 < x12 then (if 0 ≤ x1 then (if x1 < (x341004.length : Int) then (aK.l1 k x1 x5 x13 x12 x13 (rd x341004 x1) 0 x341000 x341001 x341002 x341003 x341004 x341005) else (none)) else (none)) else (some x5)
def aK.l1 : Nat → Int → List Int → Int → Int → Int → Int → Int → Int → List Int → List Int → List Int → List Int → List (S68) → Option (List Int)
 | 0, _, _, _, _, _, _, _, _, _, _, _, _, _ => none
 | k + 1, x1, x5, x6, x12, x13, x20, x21, x341000, x341001, x341002, x341003, x341004, x341005 => if x21 < x20 then (if 0 ≤ x1 then (if x1 < (x341001.length : Int) then (if x1 < (x341002.length : Int) then (if x5.length < 17592186044416 then (aK.l1 k x1 (x5 ++ [wrap64 ((wrap64 ((rd x341001 x1) + (wrap64 (x6 * (rd x341002 x1))))) + x21)]) x6 x12 x13 x20 (wrap64 (x21 + 1)) x341000 x341001 x341002 x341003 x341004 x341005) else (none)) else (none)) else (none)) else (none)) else (aK.l0 k x1 x5 x12 (wrap64 (x13 + 1)) x341000 x341001 x341002 x341003 x341004 x341005)
end
def aK.f (k : Nat) (a0_0 : Int) (l0_1 l0_2 : List Int) (l0_3 l0_4 : List Int) (l0_5 : List (S68)) (a1 : Int) : Option (List Int) := if 0 ≤ a1 then (if a1 < (l0_3.length : Int) then (aK.l0 k a1 ([] : List Int) (rd l0_3 a1) 0 a0_0 l0_1 l0_2 l0_3 l0_4 l0_5) else (none)) else (none)
def aK.T8 : Bool × List (List Nat × List Nat) := (true, [([], []), ([], []), ([1], [1]), ([], []), ([2, 3], [2, 3]), ([4], [4]), ([], []), ([], []), ([7], [7]), ([], []), ([8, 9], [8, 9]), ([10], [10]), ([6, 11], [6, 11]), ([5, 12], [5, 12]), ([], []), ([13, 14], [13, 14]), ([15], [15]), ([0, 16], [0, 16]), ([17, 17, 0, 1, 2, 3, 4, 5, 6, 7, 8, 9, 10, 11, 12, 13, 14, 15, 16, 17], [0, 17])])
def aK.B8 : List Nat := [0, 0, 2, 0, 14, 30, 0, 0, 128, 0, 896, 1920, 4032, 8190, 0, 32766, 65534, 131071, 262143]
theorem aK.tab8 : rtab .any (opsOf Try.f74 8) = aK.T8 := by kernel_rfl
theorem aK.bits8 : waitsOk aK.T8.2 aK.B8 = true := by kernel_rfl
theorem aK.calls (k : Nat) (a0_0 : Int) (A0_1 : Option Addr) (c0_1 : Nat) (l0_1 : List Int) (A0_2 : Option Addr) (c0_2 : Nat) (l0_2 : List Int) (A0_3 : Option Addr) (c0_3 : Nat) (l0_3 : List Int) (A0_4 : Option Addr) (c0_4 : Nat) (l0_4 : List Int) (A0_5 : Option Addr) (c0_5 : Nat) (l0_5 : List (S68)) (a1 : Int) (r : List Int) (w : World) (C0_1 : Cm (Kd.int .i64) w A0_1 c0_1 l0_1) (C0_2 : Cm (Kd.int .i64) w A0_2 c0_2 l0_2) (C0_3 : Cm (Kd.int .i64) w A0_3 c0_3 l0_3) (C0_4 : Cm (Kd.int .i64) w A0_4 c0_4 l0_4) (C0_5 : Cm k68 w A0_5 c0_5 l0_5) (h : aK.f k a0_0 l0_1 l0_2 l0_3 l0_4 l0_5 a1 = some r) :
 Calls Try.prog 74 #[.agg #[.int .i64 a0_0, .slice A0_1 l0_1.length c0_1, .slice A0_2 l0_2.length c0_2, .slice A0_3 l0_3.length c0_3, .slice A0_4 l0_4.length c0_4, .slice A0_5 l0_5.length c0_5], .int .i64 a1] w fun e w' => ∃ v0_ : Value, e = .returned (v0_) ∧ Kd.R (Kd.int .i64) 2 w' w.heap.size (fun _ => True) v0_ r ∧ Below w.heap.size w w' := by
 have hu26 := Try.underlying26
 have HB := yD (Below.refl w.heap.size w)
 unfold aK.f at h
 have H := h
 clear h
 replace ⟨c3b0, H⟩ := sE H
 replace ⟨c4b0, H⟩ := sE H
 have H' := yD H
 clear H; go_enter Try.func74, Try.ntmps74
 go_wp2_with (first | (refine gD 2 ?_; refine bF (N := 2) (cs := #[.int .i64 a0_0, .slice A0_1 l0_1.length c0_1, .slice A0_2 l0_2.length c0_2, .slice A0_3 l0_3.length c0_3, .slice A0_4 l0_4.length c0_4, .slice A0_5 l0_5.length c0_5]) (t := 26) HB ?_; intro gb340 w5 BK340 GW340 HB; have := cf6_ BK340.out; have p341 : 0 ≤ (a1 : Int) := zP (by assumption); have q341 : a1 < (l0_3.length : Int) := zP (by assumption); obtain ⟨ad341, e341, hx341_0⟩ := Kd.aX C0_3.r a1 p341 q341; cases e341; replace hx341_0 := kD HB hx341_0; replace p341 := eq_true p341; replace q341 := eq_true q341))
 (try simp only [Act.put, zH, zI, zJ])
 go_loopg [5, 13] k (fun kq v5 v13 w' => ∃ (x5_1 : List Int) (x13_1 : Int), v13 = .int .i64 x13_1 ∧ aC (aK.l0 kq a1 x5_1 (rd l0_3 a1) x13_1 a0_0 l0_1 l0_2 l0_3 l0_4 l0_5 = some r) ∧ aC (kq ≤ k) ∧ aC (Kd.R (Kd.int .i64) 2 w' w.heap.size (fun _ => True) v5 x5_1) ∧ aC (w'.heap[gb340]? = some (.cells #[.int .i64 a0_0, (.slice A0_1 l0_1.length c0_1), (.slice A0_2 l0_2.length c0_2), (.slice (some ad341) l0_3.length c0_3), (.slice A0_4 l0_4.length c0_4), (.slice A0_5 l0_5.length c0_5)] 26 (0, 0))) ∧ aC (Below w.heap.size w w'))
 case atStart => exact ⟨(([] : List Int)), (0), kF, H', ⟨Nat.le_refl _⟩, ⟨by first | exact Kd.R_nil _ _ _ _ _ | exact Kd.N_nil _ _ _ _ _ | exact Kd.V_nil _ _ _ _ _ | exact Kd.Q_nil _ _ _ _ _ | exact Kd.S_nil _ _ _ _ _⟩, ⟨kM BK340⟩, ⟨kR1 HB⟩⟩
 case round =>
  clear H'
  obtain ⟨x5_1, x13_1, rfl, HA, HK1, HO_5, BK340, HB⟩ := hrel
  cases gk with
  | zero => exact absurd HA.out (by simp [aK.l0])
  | succ k1 =>
   have H := HA.out; clear HA
   simp only [aK.l0] at H
   replace H := sG H; rcases H with ⟨c7b0, H⟩ | ⟨c7b0, H⟩
   · obtain rfl := sJ H
     go_wp2
     go_ret
     exact ⟨_, kE, kA HO_5, kR1 HB⟩
   replace ⟨c8b0, H⟩ := sE H
   replace ⟨c9b0, H⟩ := sE H
   have H' := yD H
   clear H
   have := cf6_ BK340.out
   obtain ⟨p342, q342, ad342, e342, hx342_0⟩ := sI (Kd.aX C0_4.r a1)
   cases e342
   replace hx342_0 := kD HB hx342_0
   go_wp2
   go_loopg [5, 21] k1 (fun kq v5 v21 w' => ∃ (x5_2 : List Int) (x21_2 : Int), v21 = .int .i64 x21_2 ∧ aC (aK.l1 kq a1 x5_2 x13_1 (rd l0_3 a1) x13_1 (rd l0_4 a1) x21_2 a0_0 l0_1 l0_2 l0_3 l0_4 l0_5 = some r) ∧ aC (kq ≤ k1) ∧ aC (Kd.R (Kd.int .i64) 2 w' w.heap.size (fun _ => True) v5 x5_2) ∧ aC (w'.heap[gb340]? = some (.cells #[.int .i64 a0_0, (.slice A0_1 l0_1.length c0_1), (.slice A0_2 l0_2.length c0_2), (.slice (some ad341) l0_3.length c0_3), (.slice (some ad342) l0_4.length c0_4), (.slice A0_5 l0_5.length c0_5)] 26 (0, 0))) ∧ aC (Below w.heap.size w w'))
   case atStart => exact ⟨(x5_1), (0), kF, H', ⟨Nat.le_refl _⟩, ⟨kA HO_5⟩, ⟨kM BK340⟩, ⟨kR1 HB⟩⟩
   case round =>
    clear H'
    obtain ⟨x5_2, x21_2, rfl, HA, HK2, HO_5, BK340, HB⟩ := hrel
    cases gk with
    | zero => exact absurd HA.out (by simp [aK.l1])
    | succ k2 =>
     have H := HA.out; clear HA
     simp only [aK.l1] at H
     replace H := sG H; rcases H with ⟨c11b0, H⟩ | ⟨c11b0, H⟩
     ·
      have H' := yD H
      clear H
      go_wp2
      go_roundg k2
      case measure => have := HK1.out; have := HK2.out; omega
      case rel => exact ⟨(x5_2), (wrap64 (x13_1 + 1)), kF, H', ⟨by have := HK1.out; have := HK2.out; omega⟩, ⟨kA HO_5⟩, ⟨kM BK340⟩, ⟨kR1 HB⟩⟩
     replace ⟨c12b0, H⟩ := sE H
     replace ⟨c13b0, H⟩ := sE H
     replace ⟨c14b0, H⟩ := sE H
     replace ⟨LMc15, H⟩ := sM H
     generalize hy345 : ((x5_2 ++ [wrap64 ((wrap64 ((rd l0_1 a1) + (wrap64 (x13_1 * (rd l0_2 a1))))) + x21_2)]) : List Int) = y345 at H
     have Ny345 := yD hy345.symm
     clear hy345
     have H' := yD H
     clear H
     try go_wp2
     replace HO_5 := yD (yC HO_5.out); replace BK340 := yD (yO BK340.out); replace HB := yD (yP HB.out)
     obtain ⟨p343, q343, ad343, e343, hx343_0⟩ := sI (Kd.aX C0_1.r a1)
     have hw343_0 := hx343_0; cases e343
     replace hx343_0 := kD HB hx343_0
     obtain ⟨p344, q344, ad344, e344, hx344_0⟩ := sI (Kd.aX C0_2.r a1)
     have hw344_0 := hx344_0; cases e344
     replace hx344_0 := kD HB hx344_0
     refine s0 (m := 19) (S := fun w' => cl w' gb340 0 (.int .i64 a0_0) ∧ cl w' gb340 1 (.slice (some ad343) l0_1.length c0_1) ∧ cl w' gb340 2 (.slice (some ad344) l0_2.length c0_2) ∧ cl w' gb340 3 (.slice (some ad341) l0_3.length c0_3) ∧ cl w' gb340 4 (.slice (some ad342) l0_4.length c0_4) ∧ cl w' gb340 5 (.slice A0_5 l0_5.length c0_5) ∧ w'.cell? (ad343.add (a1).toNat) = some (.int .i64 (rd l0_1 a1)) ∧ w'.cell? (ad344.add (a1).toNat) = some (.int .i64 (rd l0_2 a1))) aK.tab8 aK.bits8 (ca6_ BK340.out ⟨(kC HB hw343_0), (kC HB hw344_0)⟩) fun hHeld HT_ HW_ => ?_
     generalize wr.drew = w16 at HO_5 BK340 HB hx343_0 hx344_0 hHeld ⊢
     refine qa 19 0 1 ?_; refine qa 19 1 3 ?_; refine qa 19 3 11 ?_; refine qa 19 6 75 ?_; refine qa 19 7 203 ?_; refine qa 19 9 715 ?_; refine qa 19 14 17099 ?_; refine qc 19 2 17103 hHeld ?_; refine qa 19 4 17119 ?_; refine qc 19 5 17151 hHeld ?_; refine qc 19 8 17407 hHeld ?_; refine qa 19 10 18431 ?_; refine qc 19 11 20479 hHeld ?_; refine qa 19 12 24575 ?_; refine qa 19 13 32767 ?_; refine qa 19 15 65535 ?_
     refine qo 19 16 131071 (some 40) fun K hK => ?_
     refine value_ (w1 := ?_) (v := ?_) (by rfl) rfl ?_ ?_
     rotate_left 2
     · go_simp
       constructor
       · rfl
       · rfl
     refine hK.out _ _ (ca6_ (yN BK340.out _) ⟨(World.cell?_alloc_lt _ _ _ (zQ _ _ (kC HB hw343_0))).trans (kC HB hw343_0), (World.cell?_alloc_lt _ _ _ (zQ _ _ (kC HB hw344_0))).trans (kC HB hw344_0)⟩) (fun hHeld => ?_)
     clear hK K
     refine nZ 40 ?_
     refine qo 19 17 262143 (some 41) fun K hK => ?_
     refine Kd.R_append_step (Kd.int .i64) (w0 := w) w.heap.size (by rfl) (.tmp 24) (.tmp 40) 23 2 (.int .i64 0) 8 rfl Try.underlying23 info2 rfl (by decide) (by omega) u5 x5_2 (wrap64 ((wrap64 ((rd l0_1 a1) + (wrap64 (x13_1 * (rd l0_2 a1))))) + x21_2)) [.int .i64 (wrap64 ((wrap64 ((rd l0_1 a1) + (wrap64 (x13_1 * (rd l0_2 a1))))) + x21_2))] (fun _ => True) (fun _ => False) rfl rfl ?aP (fun _ hk => hk.elim) ?aF ?aO ?aB ?aS ?aL ?_
     (case aP => exact rfl)
     (case aB => exact (kB HB))
     (case aF => exact (fun _ _ => trivial))
     (case aO => exact (kA HO_5))
     (case aS => exact (aD (kB HB)))
     (case aL => have := LMc15.out; omega)
     intro v346 w17 ho hb hg hat
     rw [← Ny345.out] at ho
     have n0_ := yD (blk_grown (g := gb340) (o := .cells #[.int .i64 a0_0, .slice (some ad343) l0_1.length c0_1, .slice (some ad344) l0_2.length c0_2, .slice (some ad341) l0_3.length c0_3, .slice (some ad342) l0_4.length c0_4, .slice A0_5 l0_5.length c0_5] 26 (0, 0)) (kM BK340) hg (Kd.R_ne HO_5.out BK340.out (by decide)))
     have n1_ := yD (hb)
     have n2_ := yD (ho)
     clear BK340 HB HO_5; have BK340 := n0_; have HB := n1_; have HO347 := n2_; clear n0_ n1_ n2_ ho hb hg hat
     refine hK.out _ _ (ca6_ BK340.out ⟨(kC HB hw343_0), (kC HB hw344_0)⟩) (fun hHeld => ?_)
     clear hK K
     refine nZ 41 ?_
     refine qa 19 18 524287 ?_
     refine qd ?_
     try go_wp2
     go_roundg k2
     case measure => have := HK1.out; have := HK2.out; omega
     case rel => exact ⟨(y345), (wrap64 (x21_2 + 1)), kF, H', ⟨by have := HK1.out; have := HK2.out; omega⟩, ⟨kA HO347⟩, ⟨kM BK340⟩, ⟨kR1 HB⟩⟩
mutual
def aI.l0 : Nat → List Int → List Int → Int → Int → Int → List Int → List Int → List Int → List Int → List (S68) → Option (List Int)
 | 0, _, _, _, _, _, _, _, _, _, _ => none
 | k + 1, x5, x14, x15, x16, x349000, x349001, x349002, x349003, x349004, x349005 => if x16 < x15 then (if 0 ≤ x16 then (if x16 < (x14.length : Int) then (aI.l1 k x16 (rd x14 x16) ([] : List Int) x14 x15 x16 x5 (x5.length : Int) 0 x349000 x349001 x349002 x349003 x349004 x349005) else (none)) else (none)) else (some x5)
def aI.l1 : Nat → Int → Int → List Int → List Int → Int → Int → List Int → Int → Int → Int → List Int → List Int → List Int → List Int → List (S68) → Option (List Int)
 | 0, _, _, _, _, _, _, _, _, _, _, _, _, _, _, _ => none
 | k + 1, x6, x7, x8, x14, x15, x16, x21, x22, x23, x349000, x349001, x349002, x349003, x349004, x349005 => if x23 < x22 then (if 0 ≤ x23 then (if x23 < (x21.length : Int) then ((aK.f k x349000 x349001 x349002 x349003 x349004 x349005 x6).bind fun t354 => (aI.l2 k x6 x7 x8 (rd x21 x23) x14 x15 x16 x21 x22 x23 t354 (t354.length : Int) 0 x349000 x349001 x349002 x349003 x349004 x349005)) else (none)) else (none)) else (aI.l0 k x8 x14 x15 (wrap64 (x16 + 1)) x349000 x349001 x349002 x349003 x349004 x349005)
def aI.l2 : Nat → Int → Int → List Int → Int → List Int → Int → Int → List Int → Int → Int → List Int → Int → Int → Int → List Int → List Int → List Int → List Int → List (S68) → Option (List Int)
 | 0, _, _, _, _, _, _, _, _, _, _, _, _, _, _, _, _, _, _, _ => none
 | k + 1, x6, x7, x8, x10, x14, x15, x16, x21, x22, x23, x29, x30, x31, x349000, x349001, x349002, x349003, x349004, x349005 => if x31 < x30 then (if 0 ≤ x31 then (if x31 < (x29.length : Int) then (if x8.length < 17592186044416 then (aI.l2 k x6 x7 (x8 ++ [wrap64 ((wrap64 (x10 * x7)) + (rd x29 x31))]) x10 x14 x15 x16 x21 x22 x23 x29 x30 (wrap64 (x31 + 1)) x349000 x349001 x349002 x349003 x349004 x349005) else (none)) else (none)) else (none)) else (aI.l1 k x6 x7 x8 x14 x15 x16 x21 x22 (wrap64 (x23 + 1)) x349000 x349001 x349002 x349003 x349004 x349005)
end
def aI.f (k : Nat) (a0_0 : Int) (l0_1 l0_2 : List Int) (l0_3 l0_4 : List Int) (l0_5 : List (S68)) (l1 : List Int) : Option (List Int) := aI.l0 k (([0] : List Int)) l1 (l1.length : Int) 0 a0_0 l0_1 l0_2 l0_3 l0_4 l0_5
theorem aI.calls (k : Nat) (a0_0 : Int) (A0_1 : Option Addr) (c0_1 : Nat) (l0_1 : List Int) (A0_2 : Option Addr) (c0_2 : Nat) (l0_2 : List Int) (A0_3 : Option Addr) (c0_3 : Nat) (l0_3 : List Int) (A0_4 : Option Addr) (c0_4 : Nat) (l0_4 : List Int) (A0_5 : Option Addr) (c0_5 : Nat) (l0_5 : List (S68)) (A1 : Option Addr) (c1 : Nat) (l1 : List Int) (r : List Int) (w : World) (C0_1 : Cm (Kd.int .i64) w A0_1 c0_1 l0_1) (C0_2 : Cm (Kd.int .i64) w A0_2 c0_2 l0_2) (C0_3 : Cm (Kd.int .i64) w A0_3 c0_3 l0_3) (C0_4 : Cm (Kd.int .i64) w A0_4 c0_4 l0_4) (C0_5 : Cm k68 w A0_5 c0_5 l0_5) (C1 : Cm (Kd.int .i64) w A1 c1 l1) (h : aI.f k a0_0 l0_1 l0_2 l0_3 l0_4 l0_5 l1 = some r) :
 Calls Try.prog 47 #[.agg #[.int .i64 a0_0, .slice A0_1 l0_1.length c0_1, .slice A0_2 l0_2.length c0_2, .slice A0_3 l0_3.length c0_3, .slice A0_4 l0_4.length c0_4, .slice A0_5 l0_5.length c0_5], .slice A1 l1.length c1] w fun e w' => ∃ v0_ : Value, e = .returned (v0_) ∧ Kd.R (Kd.int .i64) 2 w' w.heap.size (fun _ => True) v0_ r ∧ Below w.heap.size w w' := by
 have hu26 := Try.underlying26
 have HB := yD (Below.refl w.heap.size w)
 unfold aI.f at h
 have H := h
 clear h
 generalize hy349 : ((([0] : List Int)) : List Int) = y349 at H
 have Ny349 := yD hy349.symm
 clear hy349
 have H' := yD H
 clear H; go_enter Try.func47, Try.ntmps47
 go_wp2_with (first | (refine gD 2 ?_; refine bF (N := 2) (cs := #[.int .i64 a0_0, .slice A0_1 l0_1.length c0_1, .slice A0_2 l0_2.length c0_2, .slice A0_3 l0_3.length c0_3, .slice A0_4 l0_4.length c0_4, .slice A0_5 l0_5.length c0_5]) (t := 26) HB ?_; intro gb348 w3 BK348 GW348 HB) | (refine gD 13 ?_; refine Kd.R_lit (Kd.int .i64) _ 2 ?hg (N := 13) ?hd (xs := ([0] : List Int)) (inner := [.int .i64 0]) (ok := fun _ => True) (okp := fun _ => True) ?hr ?hp (fun _ hk => hk) trivial (Below.refl _ _) (Nat.le_refl _) (by simp) ?_; (case hd => rfl); (case hg => rfl); (case hr => first | (go_simp; done) | (go_simp; rfl)); (case hp => exact (cW.one (show Kd.M (Kd.int .i64) _ _ _ 0 [.int .i64 0] from rfl) (cW.none _ _))); intro v350 w4 ho5 hb hg_ hnew_; clear hg_ hnew_; (first | rw [← Ny349.out] at ho5 | (simp only [Int.reduceToNat] at ho5; rw [← Ny349.out] at ho5)); have HO351 := yD (yZ ho5 (aD (kB HB))); replace BK348 := zY BK348 hb; replace HB := zX HB hb; clear hb ho5))
 (try simp only [Act.put, zH, zI, zJ])
 go_loopg [5, 16] k (fun kq v5 v16 w' => ∃ (x5_1 : List Int) (x16_1 : Int), v16 = .int .i64 x16_1 ∧ aC (aI.l0 kq x5_1 l1 (l1.length : Int) x16_1 a0_0 l0_1 l0_2 l0_3 l0_4 l0_5 = some r) ∧ aC (kq ≤ k) ∧ aC (Kd.R (Kd.int .i64) 2 w' w.heap.size (fun _ => True) v5 x5_1) ∧ aC (w'.heap[gb348]? = some (.cells #[.int .i64 a0_0, (.slice A0_1 l0_1.length c0_1), (.slice A0_2 l0_2.length c0_2), (.slice A0_3 l0_3.length c0_3), (.slice A0_4 l0_4.length c0_4), (.slice A0_5 l0_5.length c0_5)] 26 (0, 0))) ∧ aC (Below w.heap.size w w'))
 case atStart => exact ⟨(y349), (0), kF, H', ⟨Nat.le_refl _⟩, ⟨kA HO351⟩, ⟨kM BK348⟩, ⟨kR1 HB⟩⟩
 case round =>
  clear H'
  obtain ⟨x5_1, x16_1, rfl, HA, HK1, HO_5, BK348, HB⟩ := hrel
  cases gk with
  | zero => exact absurd HA.out (by simp [aI.l0])
  | succ k1 =>
   have H := HA.out; clear HA
   simp only [aI.l0] at H
   replace H := sG H; rcases H with ⟨c6b0, H⟩ | ⟨c6b0, H⟩
   · obtain rfl := sJ H
     go_wp2
     go_ret
     exact ⟨_, kE, kA HO_5, kR1 HB⟩
   replace ⟨c7b0, H⟩ := sE H
   replace ⟨c8b0, H⟩ := sE H
   have H' := yD H
   clear H
   obtain ⟨p352, q352, ad352, e352, hx352_0⟩ := sI (Kd.aX C1.r x16_1)
   cases e352
   replace hx352_0 := kD HB hx352_0
   obtain ⟨Ao9, co9, eo9⟩ := Kd.bS HO_5.out
   subst eo9
   go_wp2
   go_loopg [8, 23] k1 (fun kq v8 v23 w' => ∃ (x8_2 : List Int) (x23_2 : Int), v23 = .int .i64 x23_2 ∧ aC (aI.l1 kq x16_1 (rd l1 x16_1) x8_2 l1 (l1.length : Int) x16_1 x5_1 (x5_1.length : Int) x23_2 a0_0 l0_1 l0_2 l0_3 l0_4 l0_5 = some r) ∧ aC (kq ≤ k1) ∧ aC (Kd.R (Kd.int .i64) 2 w' w.heap.size (fun k_ => oB (.slice Ao9 x5_1.length co9) k_) v8 x8_2) ∧ aC (Kd.R (Kd.int .i64) 2 w' w.heap.size (fun k_ => oB v8 k_) (.slice Ao9 x5_1.length co9) x5_1) ∧ aC (w'.heap[gb348]? = some (.cells #[.int .i64 a0_0, (.slice A0_1 l0_1.length c0_1), (.slice A0_2 l0_2.length c0_2), (.slice A0_3 l0_3.length c0_3), (.slice A0_4 l0_4.length c0_4), (.slice A0_5 l0_5.length c0_5)] 26 (0, 0))) ∧ aC (Below w.heap.size w w'))
   case atStart => exact ⟨(([] : List Int)), (0), kF, H', ⟨Nat.le_refl _⟩, ⟨by first | exact Kd.R_nil _ _ _ _ _ | exact Kd.N_nil _ _ _ _ _ | exact Kd.V_nil _ _ _ _ _ | exact Kd.Q_nil _ _ _ _ _ | exact Kd.S_nil _ _ _ _ _⟩, ⟨mR HO_5 (fun _ hk => (by simp [oB, Value.ownBlock]))⟩, ⟨kM BK348⟩, ⟨kR1 HB⟩⟩
   case round =>
    clear H'
    obtain ⟨x8_2, x23_2, rfl, HA, HK2, HO_8, HO_21, BK348, HB⟩ := hrel
    cases gk with
    | zero => exact absurd HA.out (by simp [aI.l1])
    | succ k2 =>
     have H := HA.out; clear HA
     simp only [aI.l1] at H
     replace H := sG H; rcases H with ⟨c10b0, H⟩ | ⟨c10b0, H⟩
     ·
      have H' := yD H
      clear H
      go_wp2
      go_roundg k2
      case measure => have := HK1.out; have := HK2.out; omega
      case rel => exact ⟨(x8_2), (wrap64 (x16_1 + 1)), kF, H', ⟨by have := HK1.out; have := HK2.out; omega⟩, ⟨mR HO_8 (fun _ hk => trivial)⟩, ⟨kM BK348⟩, ⟨kR1 HB⟩⟩
     replace ⟨c11b0, H⟩ := sE H
     replace ⟨c12b0, H⟩ := sE H
     replace ⟨t354, A13, H⟩ := sV H
     have H' := yD H
     clear H
     obtain ⟨p353, q353, ad353, e353, hx353_0⟩ := sI (Kd.aX (zA HO_21.out).2.2 x23_2)
     cases e353
     have := cf6_ BK348.out
     go_wp2_with (first | (refine gC 74 ?_; refine gL 29 Try.func74 _ (dv (aK.calls k2 a0_0 _ _ l0_1 _ _ l0_2 _ _ l0_3 _ _ l0_4 _ _ l0_5 x16_1 t354 _ (C0_1.b HB) (C0_2.b HB) (C0_3.b HB) (C0_4.b HB) (C0_5.b HB) A13.out) fun v355 w15 ho0 hb => ?_); have HO356 := yD (yZ (yJ (yJ ho0 (yK (kA HO_8))) (yK (kA HO_21))) (aD (kB HB))); replace HO_8 := yD (Kd.R_elder' (kA HO_8) (yH ho0) hb); replace HO_21 := yD (Kd.R_elder' (kA HO_21) (yH ho0) hb); replace BK348 := zY BK348 hb; replace HB := zX HB hb; clear hb ho0; obtain ⟨Ao16, co16, eo16⟩ := Kd.bS HO356.out; subst eo16))
     (try simp only [Act.put, zH, zI, zJ])
     go_loopg [8, 31] k2 (fun kq v8 v31 w' => ∃ (x8_3 : List Int) (x31_3 : Int), v31 = .int .i64 x31_3 ∧ aC (aI.l2 kq x16_1 (rd l1 x16_1) x8_3 (rd x5_1 x23_2) l1 (l1.length : Int) x16_1 x5_1 (x5_1.length : Int) x23_2 t354 (t354.length : Int) x31_3 a0_0 l0_1 l0_2 l0_3 l0_4 l0_5 = some r) ∧ aC (kq ≤ k2) ∧ aC (Kd.R (Kd.int .i64) 2 w' w.heap.size (fun k_ => some k_ ≠ ((.slice (some ad353) x5_1.length co9) : Value).ownBlock ∧ oB (.slice Ao16 t354.length co16) k_) v8 x8_3) ∧ aC (Kd.R (Kd.int .i64) 2 w' w.heap.size (fun k_ => oB v8 k_ ∧ oB (.slice Ao16 t354.length co16) k_) (.slice (some ad353) x5_1.length co9) x5_1) ∧ aC (Kd.R (Kd.int .i64) 2 w' w.heap.size (fun k_ => oB v8 k_ ∧ some k_ ≠ ((.slice (some ad353) x5_1.length co9) : Value).ownBlock) (.slice Ao16 t354.length co16) t354) ∧ aC (w'.heap[gb348]? = some (.cells #[.int .i64 a0_0, (.slice A0_1 l0_1.length c0_1), (.slice A0_2 l0_2.length c0_2), (.slice A0_3 l0_3.length c0_3), (.slice A0_4 l0_4.length c0_4), (.slice A0_5 l0_5.length c0_5)] 26 (0, 0))) ∧ aC (Below w.heap.size w w'))
     case atStart => exact ⟨(x8_2), (0), kF, H', ⟨Nat.le_refl _⟩, ⟨kA HO_8⟩, ⟨kA HO_21⟩, ⟨mR HO356 (fun _ hk => ⟨hk.1.2, hk.2⟩)⟩, ⟨kM BK348⟩, ⟨kR1 HB⟩⟩
     case round =>
      clear H'
      obtain ⟨x8_3, x31_3, rfl, HA, HK3, HO_8, HO_21, HO_29, BK348, HB⟩ := hrel
      cases gk with
      | zero => exact absurd HA.out (by simp [aI.l2])
      | succ k3 =>
       have H := HA.out; clear HA
       simp only [aI.l2] at H
       replace H := sG H; rcases H with ⟨c17b0, H⟩ | ⟨c17b0, H⟩
       ·
        have H' := yD H
        clear H
        go_wp2
        go_roundg k3
        case measure => have := HK1.out; have := HK2.out; have := HK3.out; omega
        case rel => exact ⟨(x8_3), (wrap64 (x23_2 + 1)), kF, H', ⟨by have := HK1.out; have := HK2.out; have := HK3.out; omega⟩, ⟨mR HO_8 (fun _ hk => hk.1)⟩, ⟨mR HO_21 (fun _ hk => hk.1)⟩, ⟨kM BK348⟩, ⟨kR1 HB⟩⟩
       replace ⟨c18b0, H⟩ := sE H
       replace ⟨c19b0, H⟩ := sE H
       replace ⟨LMc20, H⟩ := sM H
       generalize hy358 : ((x8_3 ++ [wrap64 ((wrap64 ((rd x5_1 x23_2) * (rd l1 x16_1))) + (rd t354 x31_3))]) : List Int) = y358 at H
       have Ny358 := yD hy358.symm
       clear hy358
       have H' := yD H
       clear H
       obtain ⟨p357, q357, ad357, e357, hx357_0⟩ := sI (Kd.aX (zA HO_29.out).2.2 x31_3)
       cases e357
       go_wp2_with (first | ((with_reducible refine gate_builtin (b := .append) (xs := #[.tmp 35, .tmp 41]) rfl ?_); at_builtin; refine Kd.R_append (Kd.int .i64) (w0 := w) w.heap.size rfl (.tmp 35) (.tmp 41) 23 2 (.int .i64 0) 8 rfl Try.underlying23 info2 rfl (by decide) (by omega) u8 x8_3 (wrap64 ((wrap64 ((rd x5_1 x23_2) * (rd l1 x16_1))) + (rd t354 x31_3))) [.int .i64 (wrap64 ((wrap64 ((rd x5_1 x23_2) * (rd l1 x16_1))) + (rd t354 x31_3)))] (fun k_ => oB (.slice (some ad353) x5_1.length co9) k_ ∧ oB (.slice (some ad357) t354.length co16) k_) (fun _ => False) rfl rfl ?aP (fun _ hk => hk.elim) ?aF ?aO ?aB ?aS ?aL ?_; (case aP => exact rfl); (case aB => exact (kB HB)); (case aF => exact (fun k_ hk => ⟨Kd.cQ (yK (kA HO_21)) k_ hk, Kd.cQ (yK (kA HO_29)) k_ hk⟩)); (case aO => exact (kA HO_8)); (case aS => exact (aD (kB HB))); (case aL => have := LMc20.out; omega); intro v359 w21 ho hb hg hat; rw [← Ny358.out] at ho; replace HO_21 := yD (Kd.R_after (ok := (fun k_ => oB (.slice (some ad357) t354.length co16) k_)) (mR HO_21 (fun _ hk => ⟨hk.2, hk.1⟩)) hg hat); replace HO_29 := yD (Kd.R_after (ok := (fun k_ => oB (.slice (some ad353) x5_1.length co9) k_)) (mR HO_29 (fun _ hk => ⟨hk.2, hk.1⟩)) hg hat); replace BK348 := yD (blk_grown (g := gb348) (o := .cells #[.int .i64 a0_0, .slice A0_1 l0_1.length c0_1, .slice A0_2 l0_2.length c0_2, .slice A0_3 l0_3.length c0_3, .slice A0_4 l0_4.length c0_4, .slice A0_5 l0_5.length c0_5] 26 (0, 0)) (kM BK348) hg (Kd.R_ne HO_8.out BK348.out (by decide))); replace HB := yD (hb); have HO360 := yD (ho); clear HO_8; clear ho hb hg hat))
       go_roundg k3
       case measure => have := HK1.out; have := HK2.out; have := HK3.out; omega
       case rel => exact ⟨(y358), (wrap64 (x31_3 + 1)), kF, H', ⟨by have := HK1.out; have := HK2.out; have := HK3.out; omega⟩, ⟨kA HO360⟩, ⟨mR HO_21 (fun _ hk => ⟨hk.2, hk.1⟩)⟩, ⟨mR HO_29 (fun _ hk => ⟨hk.2, hk.1⟩)⟩, ⟨kM BK348⟩, ⟨kR1 HB⟩⟩
def impl_indexOf.l0 : Nat → List Int → Int → List Int → Int → Int → Option (Int)
 | 0, _, _, _, _, _ => none
 | k + 1, x0, x5, x8, x9, x10 => if x10 < x9 then (if 0 ≤ x10 then (if x10 < (x8.length : Int) then (if x10 < (x0.length : Int) then (impl_indexOf.l0 k x0 (wrap64 ((wrap64 (x5 * (rd x0 x10))) + (rd x8 x10))) x8 x9 (wrap64 (x10 + 1))) else (none)) else (none)) else (none)) else (some x5)
def impl_indexOf.f (k : Nat) (l0 l1 : List Int) : Option (Int) := impl_indexOf.l0 k l0 0 l1 (l1.length : Int) 0
theorem impl_indexOf.calls (k : Nat) (A0 : Option Addr) (c0 : Nat) (l0 : List Int) (A1 : Option Addr) (c1 : Nat) (l1 : List Int) (r : Int) (w : World) (C0 : Cm (Kd.int .i64) w A0 c0 l0) (C1 : Cm (Kd.int .i64) w A1 c1 l1) (h : impl_indexOf.f k l0 l1 = some r) :
 Calls Try.prog 48 #[.slice A0 l0.length c0, .slice A1 l1.length c1] w fun e w' => e = .returned (.int .i64 r) ∧ aT w w' := by
 unfold impl_indexOf.f at h
 have H := h
 clear h
 have H' := yD H
 clear H; go_enter Try.func48, Try.ntmps48
 go_wp2
 go_loopg [5, 10] k (fun kq v5 v10 w' => ∃ (x5_1 : Int) (x10_1 : Int), v5 = .int .i64 x5_1 ∧ v10 = .int .i64 x10_1 ∧ aC (impl_indexOf.l0 kq l0 x5_1 l1 (l1.length : Int) x10_1 = some r) ∧ aC (kq ≤ k) ∧ aT w w')
 case atStart => exact ⟨(0), (0), kF, kF, H', ⟨Nat.le_refl _⟩, by repeat (first | exact aT.refl _ | apply aT.step)⟩
 case round =>
  clear H'
  obtain ⟨x5_1, x10_1, rfl, rfl, HA, HK1, ⟨m1, rfl⟩⟩ := hrel
  cases gk with
  | zero => exact absurd HA.out (by simp [impl_indexOf.l0])
  | succ k1 =>
   have H := HA.out; clear HA
   simp only [impl_indexOf.l0] at H
   replace H := sG H; rcases H with ⟨c3b0, H⟩ | ⟨c3b0, H⟩
   · obtain rfl := sJ H
     go_wp2
     go_ret
     exact ⟨by first | rfl | (simp; done) | (simp [*]; done), by repeat (first | exact aT.refl _ | apply aT.step)⟩
   replace ⟨c4b0, H⟩ := sE H
   replace ⟨c5b0, H⟩ := sE H
   replace ⟨c6b0, H⟩ := sE H
   have H' := yD H
   clear H
   obtain ⟨p361, q361, ad361, e361, hx361_0⟩ := sI (Kd.aX C1.r x10_1)
   cases e361
   obtain ⟨p362, q362, ad362, e362, hx362_0⟩ := sI (Kd.aX C0.r x10_1)
   cases e362
   go_wp2
   go_roundg k1
   case measure => have := HK1.out; omega
   case rel => exact ⟨(wrap64 ((wrap64 (x5_1 * (rd l0 x10_1))) + (rd l1 x10_1))), (wrap64 (x10_1 + 1)), kF, kF, H', ⟨by have := HK1.out; omega⟩, by repeat (first | exact aT.refl _ | apply aT.step)⟩
mutual
def bC.l0 : Nat → List Int → Int → Int → Option (List Int)
 | 0, _, _, _ => none
 | k + 1, x5, x14, x15 => if x15 < x14 then (if x5.length < 17592186044416 then (bC.l0 k (x5 ++ [x15]) x14 (wrap64 (x15 + 1))) else (none)) else (some x5)
def bC.l1 : Nat → List Int → List Int → List (S68) → Int → Int → Option (List Int)
 | 0, _, _, _, _, _ => none
 | k + 1, x1, x5, x31, x32, x33 => if x33 < x32 then (if 0 ≤ x33 then (if x33 < (x31.length : Int) then ((impl_indexOf.f k x1 ((bU x31 x33).f0)).bind fun t373 => (if x5.length < 17592186044416 then (bC.l1 k x1 (x5 ++ [t373]) x31 x32 (wrap64 (x33 + 1))) else (none))) else (none)) else (none)) else (some x5)
end
def bC.f (k : Nat) (a0_0 : Int) (l0_1 l0_2 : List Int) (l0_3 l0_4 : List Int) (l0_5 : List (S68)) (l1 : List Int) : Option (List Int) := if a0_0 = 1 then ((impl_product.f k l1).bind fun t364 => (bC.l0 k ([] : List Int) t364 0)) else (if a0_0 = 3 then ((aI.f k a0_0 l0_1 l0_2 l0_3 l0_4 l0_5 l1).bind fun t368 => (some t368)) else (if a0_0 = 4 then (bC.l1 k l1 ([] : List Int) l0_5 (l0_5.length : Int) 0) else (some ([] : List Int))))
theorem bC.calls (k : Nat) (a0_0 : Int) (A0_1 : Option Addr) (c0_1 : Nat) (l0_1 : List Int) (A0_2 : Option Addr) (c0_2 : Nat) (l0_2 : List Int) (A0_3 : Option Addr) (c0_3 : Nat) (l0_3 : List Int) (A0_4 : Option Addr) (c0_4 : Nat) (l0_4 : List Int) (A0_5 : Option Addr) (c0_5 : Nat) (l0_5 : List (S68)) (A1 : Option Addr) (c1 : Nat) (l1 : List Int) (r : List Int) (w : World) (C0_1 : Cm (Kd.int .i64) w A0_1 c0_1 l0_1) (C0_2 : Cm (Kd.int .i64) w A0_2 c0_2 l0_2) (C0_3 : Cm (Kd.int .i64) w A0_3 c0_3 l0_3) (C0_4 : Cm (Kd.int .i64) w A0_4 c0_4 l0_4) (C0_5 : Cm k68 w A0_5 c0_5 l0_5) (C1 : Cm (Kd.int .i64) w A1 c1 l1) (h : bC.f k a0_0 l0_1 l0_2 l0_3 l0_4 l0_5 l1 = some r) :
 Calls Try.prog 18 #[.agg #[.int .i64 a0_0, .slice A0_1 l0_1.length c0_1, .slice A0_2 l0_2.length c0_2, .slice A0_3 l0_3.length c0_3, .slice A0_4 l0_4.length c0_4, .slice A0_5 l0_5.length c0_5], .slice A1 l1.length c1] w fun e w' => ∃ v0_ : Value, e = .returned (v0_) ∧ Kd.R (Kd.int .i64) 2 w' w.heap.size (fun _ => True) v0_ r ∧ Below w.heap.size w w' := by
 have hu26 := Try.underlying26; have hu68 := Try.underlying68
 have HB := yD (Below.refl w.heap.size w)
 unfold bC.f at h
 have H := h
 clear h
 replace H := sQ H; rcases H with ⟨-, c3b0, c3b1, H⟩ | ⟨c3, c3b0, c3b1, H⟩
 ·
  replace ⟨t364, A4, H⟩ := sV H
  have H' := yD H
  clear H; go_enter Try.func18, Try.ntmps18
  go_wp2_with (first | (refine gD 2 ?_; refine bF (N := 2) (cs := #[.int .i64 a0_0, .slice A0_1 l0_1.length c0_1, .slice A0_2 l0_2.length c0_2, .slice A0_3 l0_3.length c0_3, .slice A0_4 l0_4.length c0_4, .slice A0_5 l0_5.length c0_5]) (t := 26) HB ?_; intro gb363 w5 BK363 GW363 HB; have := cf6_ BK363.out) | (refine gC 46 ?_; refine gL 14 Try.func46 _ (dm (impl_product.calls k _ _ l1 t364 _ (C1.b HB) A4.out) fun nd => ?_)))
  (try simp only [Act.put, zH, zI, zJ])
  go_loopg [5, 15] k (fun kq v5 v15 w' => ∃ (x5_1 : List Int) (x15_1 : Int), v15 = .int .i64 x15_1 ∧ aC (bC.l0 kq x5_1 t364 x15_1 = some r) ∧ aC (kq ≤ k) ∧ aC (Kd.R (Kd.int .i64) 2 w' w.heap.size (fun _ => True) v5 x5_1) ∧ aC (w'.heap[gb363]? = some (.cells #[.int .i64 a0_0, (.slice A0_1 l0_1.length c0_1), (.slice A0_2 l0_2.length c0_2), (.slice A0_3 l0_3.length c0_3), (.slice A0_4 l0_4.length c0_4), (.slice A0_5 l0_5.length c0_5)] 26 (0, 0))) ∧ aC (Below w.heap.size w w'))
  case atStart => exact ⟨(([] : List Int)), (0), kF, H', ⟨Nat.le_refl _⟩, ⟨by first | exact Kd.R_nil _ _ _ _ _ | exact Kd.N_nil _ _ _ _ _ | exact Kd.V_nil _ _ _ _ _ | exact Kd.Q_nil _ _ _ _ _ | exact Kd.S_nil _ _ _ _ _⟩, ⟨kM BK363⟩, ⟨kR1 HB⟩⟩
  case round =>
   clear H'
   obtain ⟨x5_1, x15_1, rfl, HA, HK1, HO_5, BK363, HB⟩ := hrel
   cases gk with
   | zero => exact absurd HA.out (by simp [bC.l0])
   | succ k1 =>
    have H := HA.out; clear HA
    simp only [bC.l0] at H
    replace H := sG H; rcases H with ⟨c7b0, H⟩ | ⟨c7b0, H⟩
    · obtain rfl := sJ H
      go_wp2
      go_ret
      exact ⟨_, kE, kA HO_5, kR1 HB⟩
    replace ⟨LMc8, H⟩ := sM H
    generalize hy365 : ((x5_1 ++ [x15_1]) : List Int) = y365 at H
    have Ny365 := yD hy365.symm
    clear hy365
    have H' := yD H
    clear H
    go_wp2_with (first | ((with_reducible refine gate_builtin (b := .append) (xs := #[.tmp 18, .tmp 20]) rfl ?_); at_builtin; refine Kd.R_append (Kd.int .i64) (w0 := w) w.heap.size rfl (.tmp 18) (.tmp 20) 23 2 (.int .i64 0) 8 rfl Try.underlying23 info2 rfl (by decide) (by omega) u5 x5_1 x15_1 [.int .i64 x15_1] (fun _ => True) (fun _ => False) rfl rfl ?aP (fun _ hk => hk.elim) ?aF ?aO ?aB ?aS ?aL ?_; (case aP => exact rfl); (case aB => exact (kB HB)); (case aF => exact (fun _ _ => trivial)); (case aO => exact (kA HO_5)); (case aS => exact (aD (kB HB))); (case aL => have := LMc8.out; omega); intro v366 w9 ho hb hg hat; rw [← Ny365.out] at ho; replace BK363 := yD (blk_grown (g := gb363) (o := .cells #[.int .i64 a0_0, .slice A0_1 l0_1.length c0_1, .slice A0_2 l0_2.length c0_2, .slice A0_3 l0_3.length c0_3, .slice A0_4 l0_4.length c0_4, .slice A0_5 l0_5.length c0_5] 26 (0, 0)) (kM BK363) hg (Kd.R_ne HO_5.out BK363.out (by decide))); replace HB := yD (hb); have HO367 := yD (ho); clear HO_5; clear ho hb hg hat))
    go_roundg k1
    case measure => have := HK1.out; omega
    case rel => exact ⟨(y365), (wrap64 (x15_1 + 1)), kF, H', ⟨by have := HK1.out; omega⟩, ⟨kA HO367⟩, ⟨kM BK363⟩, ⟨kR1 HB⟩⟩
 replace H := sQ H; rcases H with ⟨-, c10b0, c10b1, H⟩ | ⟨c10, c10b0, c10b1, H⟩
 ·
  replace ⟨t368, A11, H⟩ := sV H
  obtain rfl := sJ H; go_enter Try.func18, Try.ntmps18
  go_wp2_with (first | (refine gD 2 ?_; refine bF (N := 2) (cs := #[.int .i64 a0_0, .slice A0_1 l0_1.length c0_1, .slice A0_2 l0_2.length c0_2, .slice A0_3 l0_3.length c0_3, .slice A0_4 l0_4.length c0_4, .slice A0_5 l0_5.length c0_5]) (t := 26) HB ?_; intro gb363 w12 BK363 GW363 HB; have := cf6_ BK363.out) | (refine gC 47 ?_; refine gL 27 Try.func47 _ (dv (aI.calls k a0_0 _ _ l0_1 _ _ l0_2 _ _ l0_3 _ _ l0_4 _ _ l0_5 _ _ l1 t368 _ (C0_1.b HB) (C0_2.b HB) (C0_3.b HB) (C0_4.b HB) (C0_5.b HB) (C1.b HB) A11.out) fun v369 w14 ho0 hb => ?_); have HO370 := yD (yZ ho0 (aD (kB HB))); replace BK363 := zY BK363 hb; replace HB := zX HB hb; clear hb ho0))
  go_ret
  exact ⟨_, kE, kA HO370, kR1 HB⟩
 replace H := sP H; rcases H with ⟨c15, c15b0, c15b1, H⟩ | ⟨-, c15b0, c15b1, H⟩
 ·
  obtain rfl := sJ H; go_enter Try.func18, Try.ntmps18
  go_wp2_with (first | (refine gD 2 ?_; refine bF (N := 2) (cs := #[.int .i64 a0_0, .slice A0_1 l0_1.length c0_1, .slice A0_2 l0_2.length c0_2, .slice A0_3 l0_3.length c0_3, .slice A0_4 l0_4.length c0_4, .slice A0_5 l0_5.length c0_5]) (t := 26) HB ?_; intro gb363 w27 BK363 GW363 HB; have := cf6_ BK363.out))
  go_ret
  exact ⟨_, kE, by first | exact Kd.R_nil _ _ _ _ _ | exact Kd.N_nil _ _ _ _ _ | exact Kd.V_nil _ _ _ _ _ | exact Kd.Q_nil _ _ _ _ _ | exact Kd.S_nil _ _ _ _ _, kR1 HB⟩
 have H' := yD H
 clear H; go_enter Try.func18, Try.ntmps18
 go_wp2_with (first | (refine gD 2 ?_; refine bF (N := 2) (cs := #[.int .i64 a0_0, .slice A0_1 l0_1.length c0_1, .slice A0_2 l0_2.length c0_2, .slice A0_3 l0_3.length c0_3, .slice A0_4 l0_4.length c0_4, .slice A0_5 l0_5.length c0_5]) (t := 26) HB ?_; intro gb363 w16 BK363 GW363 HB; have := cf6_ BK363.out))
 (try simp only [Act.put, zH, zI, zJ])
 go_loopg [5, 33] k (fun kq v5 v33 w' => ∃ (x5_1 : List Int) (x33_1 : Int), v33 = .int .i64 x33_1 ∧ aC (bC.l1 kq l1 x5_1 l0_5 (l0_5.length : Int) x33_1 = some r) ∧ aC (kq ≤ k) ∧ aC (Kd.R (Kd.int .i64) 2 w' w.heap.size (fun _ => True) v5 x5_1) ∧ aC (w'.heap[gb363]? = some (.cells #[.int .i64 a0_0, (.slice A0_1 l0_1.length c0_1), (.slice A0_2 l0_2.length c0_2), (.slice A0_3 l0_3.length c0_3), (.slice A0_4 l0_4.length c0_4), (.slice A0_5 l0_5.length c0_5)] 26 (0, 0))) ∧ aC (Below w.heap.size w w'))
 case atStart => exact ⟨(([] : List Int)), (0), kF, H', ⟨Nat.le_refl _⟩, ⟨by first | exact Kd.R_nil _ _ _ _ _ | exact Kd.N_nil _ _ _ _ _ | exact Kd.V_nil _ _ _ _ _ | exact Kd.Q_nil _ _ _ _ _ | exact Kd.S_nil _ _ _ _ _⟩, ⟨kM BK363⟩, ⟨kR1 HB⟩⟩
 case round =>
  clear H'
  obtain ⟨x5_1, x33_1, rfl, HA, HK1, HO_5, BK363, HB⟩ := hrel
  cases gk with
  | zero => exact absurd HA.out (by simp [bC.l1])
  | succ k1 =>
   have H := HA.out; clear HA
   simp only [bC.l1] at H
   replace H := sG H; rcases H with ⟨c18b0, H⟩ | ⟨c18b0, H⟩
   · obtain rfl := sJ H
     go_wp2
     go_ret
     exact ⟨_, kE, kA HO_5, kR1 HB⟩
   replace ⟨c19b0, H⟩ := sE H
   replace ⟨c20b0, H⟩ := sE H
   replace ⟨t373, A21, H⟩ := sV H
   replace ⟨LMc22, H⟩ := sM H
   generalize hy374 : ((x5_1 ++ [t373]) : List Int) = y374 at H
   have Ny374 := yD hy374.symm
   clear hy374
   have H' := yD H
   clear H
   obtain ⟨p371, q371, ad371, A371_0, c371_0, e371, hx371_0, HC371_0, HR371_0⟩ := sI (at_T68 C0_5.r x33_1)
   cases e371
   replace hx371_0 := kD HB hx371_0
   go_wp2_with (first | (refine gD 8 ?_; refine bE (N := 8) (cs := #[.slice none 0 0]) (t := 68) ?_; intro gb372 hg w23 hbox hb; replace HO_5 := yD (zE (kA HO_5) hb); have BK372 := yD (hbox); have GW372 := sW hg HB; replace HB := zX HB hb; have NB363_372 := yD ((by rw [hg]; exact Nat.ne_of_lt (cT (kN BK363)) : gb363 ≠ gb372)); have NB372_363 := yD ((by rw [hg]; exact Nat.ne_of_gt (cT (kN BK363)) : gb372 ≠ gb363)); replace BK363 := zY BK363 hb; clear hb hbox hg; have hnb24 := NB372_363.out; have hnc24 := NB363_372.out; have hcz25_0 : w23.cell? ⟨gb372, 0, none⟩ = some (.slice none 0 0) := (yG BK372.out 0).trans rfl; have hfz25_0 := yR BK372.out 0) | (refine gC 48 ?_; refine gL 41 Try.func48 _ (dm (impl_indexOf.calls k1 _ _ l1 _ _ ((bU l0_5 x33_1).f0) t373 _ (C1.b HB) (cB HR371_0 HC371_0 HB) A21.out) fun nd => ?_)) | ((with_reducible refine gate_builtin (b := .append) (xs := #[.tmp 37, .tmp 42]) rfl ?_); at_builtin; refine Kd.R_append (Kd.int .i64) (w0 := w) w.heap.size rfl (.tmp 37) (.tmp 42) 23 2 (.int .i64 0) 8 rfl Try.underlying23 info2 rfl (by decide) (by omega) u5 x5_1 t373 [.int .i64 t373] (fun _ => True) (fun _ => False) rfl (by first | (go_simp; done) | (go_simp; rfl)) ?aP (fun _ hk => hk.elim) ?aF ?aO ?aB ?aS ?aL ?_; (case aP => exact rfl); (case aB => exact (kB HB)); (case aF => exact (fun _ _ => trivial)); (case aO => exact (by (with_reducible repeat (first | apply yA | apply yB | apply yC)); exact zF (yS_ (Kd.bQ HO_5.out BK372.out (by decide))) (fun _ hk => trivial))); (case aS => exact (aD (kB HB))); (case aL => have := LMc22.out; omega); intro v375 w26 ho hb hg hat; rw [← Ny374.out] at ho; replace BK363 := yD (blk_grown (g := gb363) (o := .cells #[.int .i64 a0_0, .slice A0_1 l0_1.length c0_1, .slice A0_2 l0_2.length c0_2, .slice A0_3 l0_3.length c0_3, .slice A0_4 l0_4.length c0_4, .slice (some ad371) l0_5.length c0_5] 26 (0, 0)) (by (with_reducible repeat (first | refine yM ?_ _ | refine yO ?_ | refine yN ?_ _)); refine blk_far ?_ NB363_372.out _; (with_reducible repeat (first | refine yM ?_ _ | refine yO ?_ | refine yN ?_ _)); exact BK363.out) hg (Kd.R_ne HO_5.out BK363.out (by decide))); replace BK372 := yD (blk_grown (g := gb372) (o := .cells #[.slice A371_0 ((bU l0_5 x33_1).f0).length c371_0] 68 (0, 0)) (by (with_reducible repeat (first | refine yM ?_ _ | refine yO ?_ | refine yN ?_ _)); refine blk_put (cs := #[.slice none 0 0]) ?_ 0 _ rfl; (with_reducible repeat (first | refine yM ?_ _ | refine yO ?_ | refine yN ?_ _)); exact BK372.out) hg (Kd.R_ne HO_5.out BK372.out (by decide))); replace HB := yD (hb); have HO376 := yD (ho); clear HO_5; clear ho hb hg hat))
   go_roundg k1
   case measure => have := HK1.out; omega
   case rel => exact ⟨(y374), (wrap64 (x33_1 + 1)), kF, H', ⟨by have := HK1.out; omega⟩, ⟨kA HO376⟩, ⟨kM BK363⟩, ⟨kR1 HB⟩⟩
section
attribute [local go_sem] Oper.semAt_some
abbrev aE.ez (zs : List Int) (j : Fin zs.length) : Array Value := #[.int .i64 ((zs.length : Int) - 1 - (j.val : Int)), .int .i64 (zs[zs.length - 1 - j.val]?.getD 0)]
def aE.upto (zs : List Int) (k : Nat) : List (Fin zs.length) := (List.finRange zs.length).take k
theorem aE.upto_succ (zs : List Int) (k : Nat) (h : k < zs.length) : aE.upto zs (k + 1) = aE.upto zs k ++ [⟨k, h⟩] := by
 unfold aE.upto
 rw [List.take_succ_eq_append_getElem (by simpa using h)]
 simp
theorem aE.upto_length (zs : List Int) (k : Nat) (h : k ≤ zs.length) : (aE.upto zs k).length = k := by simp [aE.upto, h]
/-- What a round keeps: what lay below n₀, and the block Bs, where it is cells. -/
def aE.Kp (n₀ Bs : Nat) (W W' : World) : Prop := Below n₀ W W' ∧ ∀ cs t fr, W.heap[Bs]? = some (.cells cs t fr) → W'.heap[Bs]? = some (.cells cs t fr)
set_option maxRecDepth 100000 in
set_option maxHeartbeats 2000000 in
theorem aE.back1 (F : Fence) (n : Nat) (h8 : F.fn 75) (hro : F.round = none) (hn : 1 ≤ n) (l Bs n₀ cap : Nat) (A : Option Addr) (zs : List Int) (hreach : zs.length ≤ 1048576) (J Jx : List (Fin zs.length) → World → Prop)
 (hY : ∀ pre x W, J pre W → pre.length < zs.length → YieldAt F (n - 1) Try.prog l (aE.ez zs x) W fun e W' =>
  (e = .returned (.bool true) ∧ J (pre ++ [x]) W' ∧ aE.Kp n₀ Bs W W') ∨ (e = .returned (.bool false) ∧ Jx (pre ++ [x]) W'))
 (W : World) (hBs : W.heap[Bs]? = some (.cells #[.slice A zs.length cap] 23 (0, 0))) (hc : ∀ j, j < zs.length → ∃ ad : Addr, A = some ad ∧ W.cell? (ad.add j) = some (.int .i64 (zs[j]?.getD 0)) ∧ ad.block < n₀) (h0 : J [] W) :
 CallsIn F n Try.prog 75 #[.func (.yield l) #[] #[], .pointer (some ⟨Bs, 0, none⟩)] W fun e W' => (∃ v, e = .returned v) ∧
  ((∃ ys, ys = aE.upto zs zs.length ∧ J ys W') ∨ (∃ pre, (∃ k, k ≤ zs.length ∧ pre = aE.upto zs k) ∧ Jx pre W')) := by
 have hbx : ∀ W' : World, W'.heap[Bs]? = some (.cells #[.slice A zs.length cap] 23 (0, 0)) → W'.cell? ⟨Bs, 0, none⟩ = some (.slice A zs.length cap) := fun W' h => by simp [World.cell?, h]
 have hb0 := hbx W hBs
 refine callsIn_of_wp Try.func75 rfl h8 ?_ hro
 simp only [Try.ntmps75, List.size_toArray, List.length_cons, List.length_nil, Nat.reduceAdd, Nat.reduceSub, Array.replicate_succ, Array.replicate_zero, List.push_toArray, List.append_toArray, List.nil_append, List.cons_append]
 gi_wp2
 gi_loopw [3] (fun i wr => ∃ k : Nat, k ≤ zs.length ∧ i = .int .i64 ((zs.length : Int) - 1 - k) ∧ J (aE.upto zs k) wr ∧ aE.Kp n₀ Bs W wr)
  (fun i _ => (intOf i + 1).toNat)
 case atStart => exact ⟨0, Nat.zero_le _, by simp, by simpa [aE.upto] using h0, Below.refl _ _, fun _ _ _ h => h⟩
 case round =>
  obtain ⟨k, hk, rfl, hJs, hnx⟩ := hrel
  have hb1 := hbx wr (hnx.2 _ _ _ hBs)
  by_cases hlt : k < zs.length
  ·
   obtain ⟨ad, rfl, had, hadb⟩ := hc (zs.length - 1 - k) (by omega)
   have hcx := (hnx.1.cell (p := ad.add (zs.length - 1 - k)) (by unfold Addr.add; split <;> exact hadb)).trans had
   obtain ⟨fn, tmps, assign, body, hy, hR⟩ := hY _ ⟨k, hlt⟩ wr hJs (by rw [aE.upto_length _ _ hk]; exact hlt)
   dsimp only [aE.ez] at hy
   have hge : (0 : Int) ≤ (zs.length : Int) - 1 - k := by omega
   have hlt2 : (zs.length : Int) - 1 - k < zs.length := by omega
   have htn : ((zs.length : Int) - 1 - k).toNat = zs.length - 1 - k := by omega
   gi_wp2
   refine hR.mono ?_
   rintro e W3 (⟨rfl, hJ3, hk3⟩ | ⟨rfl, hJx3⟩)
   · gi_wp2
     go_roundw
     case rel => exact ⟨k + 1, by omega, by first | rfl | (congr 1; omega) | (simp; omega), by rw [aE.upto_succ _ _ hlt]; exact hJ3, hnx.1.trans hk3.1, fun cs t fr h => hk3.2 _ _ _ (hnx.2 _ _ _ h)⟩
     case measure => simp [intOf]; omega
   · gi_wp2
     refine bodyPost_ret (results_none rfl _ _ _) rfl ?_
     exact ⟨⟨_, rfl⟩, .inr ⟨_, ⟨k + 1, by omega, (aE.upto_succ _ _ hlt).symm⟩, hJx3⟩⟩
  · obtain rfl : k = zs.length := by omega
    gi_wp2
    go_end0
    exact ⟨⟨_, rfl⟩, .inl ⟨_, rfl, hJs⟩⟩
set_option maxRecDepth 100000 in
set_option maxHeartbeats 1000000 in
theorem aE.back (F : Fence) (n : Nat) (h6 : F.fn 49) (hro : F.round = none) (a : Option Addr) (len cap : Nat) (w : World) :
 CallsIn F n Try.prog 49 #[.slice a len cap] w fun e w' => e = .returned (.func (.func 75) #[] #[.pointer (some ⟨w.heap.size, 0, none⟩)]) ∧ w' = w.alloc (.cells #[.slice a len cap] 23) := by
 refine callsIn_of_wp Try.func49 rfl h6 ?_ hro
 simp only [Try.ntmps49, List.size_toArray, List.length_cons, List.length_nil, Nat.reduceAdd, Nat.reduceSub, Array.replicate_succ, Array.replicate_zero, List.push_toArray, List.append_toArray, List.nil_append, List.cons_append]
 gi_wp2
 go_ret
 exact ⟨rfl, rfl⟩
theorem aE.stops (F : Fence) (n : Nat) (h8 : F.fn 75) (hro : F.round = none) (hn : 1 ≤ n) (Bs n₀ cap : Nat) (A : Option Addr) (zs : List Int) (hreach : zs.length ≤ 1048576) (w : World) (hBs : w.heap[Bs]? = some (.cells #[.slice A zs.length cap] 23 (0, 0))) (hn₀ : n₀ ≤ w.heap.size)
 (hc : ∀ j, j < zs.length → ∃ ad : Addr, A = some ad ∧ w.cell? (ad.add j) = some (.int .i64 (zs[j]?.getD 0)) ∧ ad.block < n₀) :
 SeqStopsK F n Try.prog 75 #[.pointer (some ⟨Bs, 0, none⟩)] (aE.ez zs) (aE.Kp n₀ Bs) (fun ys => ys = aE.upto zs zs.length) (fun pre => ∃ k, k ≤ zs.length ∧ pre = aE.upto zs k) zs.length w := fun l J Jx W hW _ _ hY h0 =>
 aE.back1 F n h8 hro hn l Bs n₀ cap A zs hreach J Jx hY W ((hW.block Bs (Array.getElem?_eq_some_iff.1 hBs).1).trans hBs) (fun j hj => by
  obtain ⟨ad, h1, h2, h3⟩ := hc j hj
  exact ⟨ad, h1, (hW.cell (p := ad.add j) (by unfold Addr.add; split <;> exact Nat.lt_of_lt_of_le h3 hn₀)).trans h2, h3⟩) h0
theorem aE.Kp_t {n₀ Bs : Nat} {A B C : World} (h : aE.Kp n₀ Bs A B) (h' : aE.Kp n₀ Bs B C) : aE.Kp n₀ Bs A C := ⟨h.1.trans h'.1, fun cs t fr e => h'.2 _ _ _ (h.2 _ _ _ e)⟩
theorem aE.Kp_b {n₀ Bs : Nat} {w : World} (hn : n₀ ≤ w.heap.size) (W : World) (l : Nat) (o o' : Obj) (hl : w.heap.size ≤ l) (ho : W.heap[l]? = some o) (hc : o.isCells = false) (hw : o.isWalk = false) : aE.Kp n₀ Bs W (W.putObj l o') :=
 ⟨belowK_b hn W l o o' hl ho hc hw, fun cs t fr e => by
  have hne : Bs ≠ l := by
   rintro rfl
   rw [e] at ho
   injection ho with ho
   subst ho
   cases hc
  exact (World.putObj_heap_other hne).trans e⟩
def aE.step (zs : List Int) (st : Int × List Int) (j : Nat) : Int × List Int := (wrap64 (Int.tdiv st.1 (zs[zs.length - 1 - j]?.getD 0)), st.2.set (zs.length - 1 - j) (Int.tmod st.1 (zs[zs.length - 1 - j]?.getD 0)))
def aE.run (zs : List Int) (a : Int) (pre : List Nat) : Int × List Int := pre.foldl (aE.step zs) (a, List.replicate zs.length 0)
theorem aE.run_length (zs : List Int) (a : Int) (pre : List Nat) : (aE.run zs a pre).2.length = zs.length := by
 unfold aE.run
 suffices h : ∀ (st : Int × List Int), st.2.length = zs.length → (pre.foldl (aE.step zs) st).2.length = zs.length from h _ (by simp)
 induction pre with
 | nil => intro st h; exact h
 | cons x pre ih => intro st h; exact ih _ (by simp [aE.step, h])
theorem aE.run_snoc (zs : List Int) (a : Int) (pre : List Nat) (j : Nat) : aE.run zs a (pre ++ [j]) = aE.step zs (aE.run zs a pre) j := by simp [aE.run]
def aE.f (l0 : List Int) (a1 : Int) : Option (List Int) := if l0.length ≤ 1048576 ∧ ∀ x ∈ l0, x ≠ 0 then some (aE.run l0 a1 (List.range l0.length)).2 else none
theorem aE.info : (Try.prog.info? 2).map (fun i => (i.zero, i.size, i.bytes)) = some (some (.int .i64 0), 1, 8) := by kernel_rfl
theorem aE.made (n : Nat) : madeCells #[Value.int .i64 0] n = ((List.replicate n 0).map (Value.int .i64)).toArray := by
 apply Array.ext
 · simp [madeCells]
 · intro i h1 h2
   simp [madeCells, Nat.mod_one]
/-- The row g holds xs. -/
def aE.Row (g : Nat) (xs : List Int) (W : World) : Prop := W.heap[g]? = some (.cells (xs.map (Value.int .i64)).toArray 2 (0, 0))
theorem aE.Row.set {g : Nat} {xs : List Int} {W : World} (h : aE.Row g xs W) (i : Nat) (x : Int) : aE.Row g (xs.set i x) (W.setCell ⟨g, i, none⟩ (.int .i64 x)) := by
 unfold aE.Row at h ⊢
 rw [setCell_eq_setRow W g i _ 2 (0, 0) _ h, setRow_heap W g _ _ 2 (0, 0) h]
 simp [List.map_set]
theorem aE.Row.kept {g : Nat} {xs : List Int} {W W' : World} {row : Option Nat} (h : aE.Row g xs W) (hg : W.grownBy W' row) (hne : some g ≠ row) : aE.Row g xs W' :=
 (hg.block g (Array.getElem?_eq_some_iff.1 h).1 hne).trans h
theorem aE.ko_drew (W : World) : KeepsOthers W W.drew := ⟨Nat.le_refl _, fun _ _ h _ => h⟩
theorem aE.cells_ne {W : World} {row : Option Nat} {B k : Nat} {cs : Array Value} {t : TypeId} {fr : Nat × Nat} (h : W.heap[k]? = some (.cells cs t fr)) (hr : ∀ r, row = some r → B ≤ r ∧ ∃ o : Obj, W.heap[r]? = some o ∧ o.isCells = false) : some k ≠ row := by
 rintro rfl
 obtain ⟨_, o, ho, hc⟩ := hr k rfl
 rw [h] at ho
 injection ho with ho
 subst ho
 cases hc
set_option maxRecDepth 100000 in
set_option maxHeartbeats 4000000 in
theorem aE.main (F : Fence) (n : Nat) (h3 : F.fn 19) (h5 : F.fn 49) (h7 : F.fn 75) (hro : F.round = none) (hn : 3 ≤ n) (A0 : Option Addr) (c0 : Nat) (l0 : List Int) (a1 : Int) (w : World) (hr0 : Kd.C (Kd.int .i64) w A0 l0.length l0) (hlen : l0.length ≤ 1048576) (hnz : ∀ x ∈ l0, x ≠ 0) :
 CallsIn F n Try.prog 19 #[.slice A0 l0.length c0, .int .i64 a1] w fun e w' => ∃ v0_ : Value, e = .returned (v0_) ∧ Kd.R (Kd.int .i64) 2 w' w.heap.size (fun _ => True) v0_ (aE.run l0 a1 (List.range l0.length)).2 ∧ Below w.heap.size w w' := by
 have hc : ∀ j, j < l0.length → ∃ ad : Addr, A0 = some ad ∧ w.cell? (ad.add j) = some (.int .i64 (l0[j]?.getD 0)) ∧ ad.block < w.heap.size := fun j hj => by
  obtain ⟨ad, h1, h2⟩ := Kd.aX hr0 (j : Int) (by omega) (by omega)
  rw [Int.toNat_natCast] at h2
  refine ⟨ad, h1, by rw [h2]; simp [rd], ?_⟩
  have h3 := World.block_lt_of_cell? w _ h2
  unfold Addr.add at h3
  split at h3 <;> exact h3
 clear hr0
 obtain ⟨i0, hi, hz⟩ := Option.map_eq_some_iff.1 aE.info
 simp only [Prod.mk.injEq] at hz
 obtain ⟨hz0, hz1, hz2⟩ := hz
 have hmk := run_make (P := Try.prog) (w.alloc (.cells #[.int .i64 a1] 2)) 23 2 i0 (.int .i64 0) Try.underlying23 hi hz0 .i64 .i64 (l0.length : Int) (l0.length : Int) (by omega) (by omega) (by rw [hz2]; omega) (by omega)
 rw [hz1, Int.toNat_natCast, Nat.mul_one, show (Value.int .i64 0).cells = #[Value.int .i64 0] from rfl, aE.made, World.size_alloc] at hmk
 have h1 : 1 ≤ n := by omega
 have hrep : ((List.replicate l0.length 0).map (Value.int .i64)).toArray = Array.replicate l0.length (Value.int .i64 0) := by simp
 rw [hrep] at hmk
 refine callsIn_of_wp_marks Try.func19 rfl h3 ?_ hro
 simp only [Try.ntmps19, List.size_toArray, List.length_cons, List.length_nil, Nat.reduceAdd, Nat.reduceSub, Array.replicate_succ, Array.replicate_zero, List.push_toArray, List.append_toArray, List.nil_append, List.cons_append]
 gi_wp2_with (gi_at_call 49; refine (aE.back F (n - 1) h5 hro _ _ _ _).mono ?_; rintro e w' ⟨rfl, rfl⟩)
 obtain ⟨W4, hW4⟩ : ∃ W4, ((((w.alloc (Obj.cells #[Value.int IntKind.i64 a1] 2)).alloc (Obj.cells (Array.replicate l0.length (Value.int IntKind.i64 0)) 2)).alloc (Obj.cells #[Value.slice (some { block := w.heap.size + 1, off := 0 }) l0.length l0.length] 23)).alloc (Obj.cells #[Value.slice A0 l0.length c0] 23)) = W4 := ⟨_, rfl⟩
 have hsz : W4.heap.size = w.heap.size + 4 := by rw [← hW4]; simp
 have e0 : Boxed W4 w.heap.size 2 (.int .i64 a1) := by rw [← hW4]; exact (((Boxed.new w 2 _).alloc _).alloc _).alloc _
 have e1 : aE.Row (w.heap.size + 1) (List.replicate l0.length 0) W4 := by
  unfold aE.Row
  rw [← hW4, hrep]
  have h := World.alloc_heap_new (w.alloc (Obj.cells #[Value.int IntKind.i64 a1] 2)) (Obj.cells (Array.replicate l0.length (Value.int IntKind.i64 0)) 2)
  rw [World.size_alloc] at h
  exact (Below.heap_alloc _ _ _ (by simp)).trans ((Below.heap_alloc _ _ _ (by simp)).trans h)
 have e2 : Boxed W4 (w.heap.size + 1 + 1) 23 (.slice (some ⟨w.heap.size + 1, 0, none⟩) l0.length l0.length) := by
  rw [← hW4]
  have h := Boxed.new ((w.alloc (Obj.cells #[Value.int IntKind.i64 a1] 2)).alloc (Obj.cells (Array.replicate l0.length (Value.int IntKind.i64 0)) 2)) 23 (.slice (some ⟨w.heap.size + 1, 0, none⟩) l0.length l0.length)
  rw [World.size_alloc, World.size_alloc] at h
  exact h.alloc _
 have e3 : W4.heap[w.heap.size + 1 + 1 + 1]? = some (.cells #[.slice A0 l0.length c0] 23 (0, 0)) := by
  rw [← hW4]
  have h := World.alloc_heap_new (((w.alloc (Obj.cells #[Value.int IntKind.i64 a1] 2)).alloc (Obj.cells (Array.replicate l0.length (Value.int IntKind.i64 0)) 2)).alloc (Obj.cells #[Value.slice (some { block := w.heap.size + 1, off := 0 }) l0.length l0.length] 23)) (Obj.cells #[Value.slice A0 l0.length c0] 23)
  rw [World.size_alloc, World.size_alloc, World.size_alloc] at h
  exact h
 have eB : Below w.heap.size w W4 := by rw [← hW4]; exact ((((Below.refl _ w).alloc (Nat.le_refl _) _).alloc (by simp) _).alloc (by simp; omega) _).alloc (by simp; omega) _
 rw [hW4]
 clear hmk hW4
 refine wpIn_rangeFunc_ownG hro h1 (gf := 75) (lb := #[.pointer (some ⟨w.heap.size + 1 + 1 + 1, 0, none⟩)]) rfl h7 (enters_of Try.func75 (by kernel_rfl) rfl)
  (aE.stops F (n - 1) h7 hro (by omega) (w.heap.size + 1 + 1 + 1) w.heap.size c0 A0 l0 hlen W4 e3 (by omega) (fun j hj => by
   obtain ⟨ad, q1, q2, q3⟩ := hc j hj
   exact ⟨ad, q1, (eB.cell (p := ad.add j) (by unfold Addr.add; split <;> exact q3)).trans q2, q3⟩)) aE.Kp_t (aE.Kp_b (by omega)) (Below.refl _ _) (fun _ => rfl)
  (fun pre W => Boxed W w.heap.size 2 (.int .i64 (aE.run l0 a1 (pre.map (·.val))).1) ∧ aE.Row (w.heap.size + 1) (aE.run l0 a1 (pre.map (·.val))).2 W ∧ Boxed W (w.heap.size + 1 + 1) 23 (.slice (some ⟨w.heap.size + 1, 0, none⟩) l0.length l0.length) ∧ Below w.heap.size w W)
  (fun _ _ _ => False)
  (fun s A B row hs hg hr => ⟨hs.1.kept hg (aE.cells_ne hs.1 hr), hs.2.1.kept hg (aE.cells_ne hs.2.1 hr), hs.2.2.1.kept hg (aE.cells_ne hs.2.2.1 hr), hs.2.2.2.grown hg hs.2.2.2.size (fun k e => by have := (hr k e).1; omega)⟩)
  (fun _ _ _ _ _ hs _ _ => hs)
  ⟨e0, e1, e2, eB⟩
  (fun x => { tmps := #[.slice A0 l0.length c0, .int .i64 a1, undef, .pointer (some ⟨w.heap.size, 0, none⟩), .slice none 0 0, .pointer (some ⟨w.heap.size + 1 + 1, 0, none⟩), .int .i64 ((l0.length : Int) - 1 - (x.val : Int)), .int .i64 (l0[l0.length - 1 - x.val]?.getD 0), .slice A0 l0.length c0, .int .i64 l0.length, .slice (some ⟨w.heap.size + 1, 0, none⟩) l0.length l0.length, .slice A0 l0.length c0, .func (.func 75) #[] #[.pointer (some ⟨w.heap.size + 1 + 1 + 1, 0, none⟩)], .int .i64 ((l0.length : Int) - 1 - (x.val : Int)), .int .i64 (l0[l0.length - 1 - x.val]?.getD 0), undef, undef, undef, undef, undef, undef, undef, undef, undef, undef], defers := [] }) ?assign ?body ?done ?stop
 case assign =>
  intro l x W K hK
  gi_wp2
  exact hK
 case body =>
  rintro l pre x W ⟨hb0, hrow, hb2, hB⟩ _
  have hx := x.isLt
  have hlen2 := aE.run_length l0 a1 (pre.map (·.val))
  have hst : aE.run l0 a1 ((pre ++ [x]).map (·.val)) = aE.step l0 (aE.run l0 a1 (pre.map (·.val))) x.val := by rw [List.map_append]; exact aE.run_snoc _ _ _ _
  obtain ⟨st, hst0⟩ : ∃ st, aE.run l0 a1 (pre.map (·.val)) = st := ⟨_, rfl⟩
  rw [hst0] at hb0 hrow hlen2 hst
  have hd : l0[l0.length - 1 - x.val]?.getD 0 ≠ 0 := by
   rw [List.getElem?_eq_getElem (by omega)]
   exact hnz _ (List.getElem_mem _)
  have hge : (0 : Int) ≤ (l0.length : Int) - 1 - (x.val : Int) := by omega
  have hlt : (l0.length : Int) - 1 - (x.val : Int) < l0.length := by omega
  have htn : ((l0.length : Int) - 1 - (x.val : Int)).toNat = l0.length - 1 - x.val := by omega
  unfold aE.step at hst
  generalize l0[l0.length - 1 - x.val]?.getD 0 = dv at hd hst ⊢
  have c0_ := hb0.cell
  have f0_ := hb0.frozen
  have c2_ := hb2.cell
  have cg_ : W.cell? ⟨w.heap.size + 1, l0.length - 1 - x.val, none⟩ = some (.int .i64 (st.2.getD (l0.length - 1 - x.val) 0)) := by
   have h := hrow
   unfold aE.Row at h
   simp [World.cell?, h, List.getElem?_eq_getElem (show l0.length - 1 - x.val < st.2.length by omega)]
  have fg_ : W.frozen? ⟨w.heap.size + 1, l0.length - 1 - x.val, none⟩ = false := by
   have h := hrow
   unfold aE.Row at h
   simp [World.frozen?, h]
  have HF : aC (ownPostG W4.heap.size (aE.Kp w.heap.size (w.heap.size + 1 + 1 + 1)) (fun pre W => Boxed W w.heap.size 2 (.int .i64 (aE.run l0 a1 (pre.map (·.val))).1) ∧ aE.Row (w.heap.size + 1) (aE.run l0 a1 (pre.map (·.val))).2 W ∧ Boxed W (w.heap.size + 1 + 1) 23 (.slice (some ⟨w.heap.size + 1, 0, none⟩) l0.length l0.length) ∧ Below w.heap.size w W)
   (fun _ _ _ => False) (pre ++ [x]) W .normal { tmps := #[], defers := [] } ((W.setCell ⟨w.heap.size + 1, l0.length - 1 - x.val, none⟩ (.int .i64 (Int.tmod st.1 dv))).setCell ⟨w.heap.size, 0, none⟩ (.int .i64 (wrap64 (Int.tdiv st.1 dv)))).drew) := by
   constructor
   refine ⟨(((KeepsOthers.setCell W _ _).trans (KeepsOthers.setCell _ _ _)).trans (aE.ko_drew _)).from _, ⟨(((Below.refl w.heap.size W).setCell (p := ⟨w.heap.size + 1, l0.length - 1 - x.val, none⟩) (Nat.le_succ _) _).setCell (p := ⟨w.heap.size, 0, none⟩) (Nat.le_refl _) _).drew, fun cs t fr h => ?_⟩, ?_, ?_, ?_, ((hB.setCell (p := ⟨w.heap.size + 1, l0.length - 1 - x.val, none⟩) (Nat.le_succ _) _).setCell (p := ⟨w.heap.size, 0, none⟩) (Nat.le_refl _) _).drew⟩
   · exact (Below.heap_setCell _ ⟨w.heap.size, 0, none⟩ _ _ (by show w.heap.size + 1 + 1 + 1 ≠ w.heap.size; omega)).trans ((Below.heap_setCell W ⟨w.heap.size + 1, l0.length - 1 - x.val, none⟩ _ _ (by show w.heap.size + 1 + 1 + 1 ≠ w.heap.size + 1; omega)).trans h)
   · rw [hst]
     have h : Boxed (W.setCell ⟨w.heap.size + 1, l0.length - 1 - x.val, none⟩ (.int .i64 (Int.tmod st.1 dv))) w.heap.size 2 (.int .i64 st.1) := (Below.heap_setCell W ⟨w.heap.size + 1, l0.length - 1 - x.val, none⟩ _ _ (by show w.heap.size ≠ w.heap.size + 1; omega)).trans hb0
     exact h.set _
   · rw [hst]
     exact (Below.heap_setCell _ ⟨w.heap.size, 0, none⟩ _ _ (by show w.heap.size + 1 ≠ w.heap.size; omega)).trans (hrow.set _ _)
   · exact (Below.heap_setCell _ ⟨w.heap.size, 0, none⟩ _ _ (by show w.heap.size + 1 + 1 ≠ w.heap.size; omega)).trans ((Below.heap_setCell W ⟨w.heap.size + 1, l0.length - 1 - x.val, none⟩ _ _ (by show w.heap.size + 1 + 1 ≠ w.heap.size + 1; omega)).trans hb2)
  clear hb0 hrow hb2 hB hst
  gi_wp2
  gi_region
  gi_wp2
  all_goals exact HF.out
 case done =>
  rintro D ys W hD rfl ⟨hb0, hrow, hb2, hB⟩ hK
  have hc2 := hb2.cell
  have hall : (aE.upto l0 l0.length).map (·.val) = List.range l0.length := by
   unfold aE.upto
   rw [List.take_of_length_le (by simp)]
   apply List.ext_getElem <;> simp
  rw [hall] at hrow
  have hlen2 := aE.run_length l0 a1 (List.range l0.length)
  gi_wp2
  refine ⟨by simp, .inl ⟨_, _, rfl, run_takeDeferred hK, ?_⟩⟩
  have hrow' := hrow.kept (grownBy_putObj' W D (.deferred none)) (aE.cells_ne (B := 0) hrow (fun r e => by cases e; exact ⟨Nat.zero_le _, _, hK, rfl⟩))
  refine ⟨_, results_tmp rfl _ _ _, _, rfl, Kd.R_of_own (enc := Value.int .i64) (h1 := fun _ => rfl) ?_ (fun _ _ => trivial), hB.trans (belowK_b (w := w) (Nat.le_refl _) W D _ _ (by omega) hK rfl rfl)⟩
  refine ⟨by simp [encs], .inr ⟨w.heap.size + 1, l0.length, _, by rw [hlen2]; rfl, Nat.le_succ _, hrow', by omega, by unfold maxLen; omega, by simp; omega, ?_⟩⟩
  rw [Nat.mul_one, List.take_of_length_le (by simp)]
  simp [encs]
 case stop =>
  rintro D c pre W _ _ h _
  exact h.elim
theorem aE.calls (A0 : Option Addr) (c0 : Nat) (l0 : List Int) (a1 : Int) (r : List Int) (w : World) (C0 : Cm (Kd.int .i64) w A0 c0 l0) (h : aE.f l0 a1 = some r) :
 Calls Try.prog 19 #[.slice A0 l0.length c0, .int .i64 a1] w fun e w' => ∃ v0_ : Value, e = .returned (v0_) ∧ Kd.R (Kd.int .i64) 2 w' w.heap.size (fun _ => True) v0_ r ∧ Below w.heap.size w w' := by
 have HR0 := yD C0.r; have HC0 := yD C0.h
 unfold aE.f at h
 split at h
 · rename_i hc
   obtain rfl := Option.some.inj h
   exact callsIn_wide.1 (aE.main Fence.wide 3 trivial trivial trivial rfl (by omega) A0 c0 l0 a1 w C0.r hc.1 hc.2)
 · cases h
end
def slices_Clone_int64_int64_isnil.f (l0 : List Int) : Option (List Int) := some ([] : List Int)
theorem slices_Clone_int64_int64_isnil.calls (c0 : Nat) (l0 : List Int) (r : List Int) (w : World) (hr0 : Kd.C (Kd.int .i64) w none l0.length l0) (hc0 : l0.length ≤ c0) (h : slices_Clone_int64_int64_isnil.f l0 = some r) :
 Calls Try.prog 20 #[.slice none l0.length c0] w fun e w' => ∃ v0_ : Value, e = .returned (v0_) ∧ Kd.R (Kd.int .i64) 2 w' w.heap.size (fun _ => True) v0_ r ∧ Below w.heap.size w w' := by
 have HR0 := yD hr0
 have HC0 := yD hc0
 clear hr0 hc0
 have HB := yD (Below.refl w.heap.size w)
 have H : (some ([] : List Int)) = some r := h
 clear h; obtain rfl := sJ H; have q_ : ∀ (w : World) (a : Option Addr) (n c n' c' : Nat), (binOp .eql 23 (.slice a n c) (.slice none n' c')).run Try.prog w = .ok (.bool a.isNone) w := fun w a n c n' c' => Lib.run_eql_slice_nil w _ _ a n c n' c' Try.underlying23; go_enter Try.func20, Try.ntmps20
 go_wp2
 go_ret
 exact ⟨_, kE, by first | exact Kd.R_nil _ _ _ _ _ | exact Kd.N_nil _ _ _ _ _ | exact Kd.V_nil _ _ _ _ _ | exact Kd.Q_nil _ _ _ _ _ | exact Kd.S_nil _ _ _ _ _, kR0 HB⟩
def slices_Clone_int64_int64_nn.f (l0 : List Int) : Option (List Int) := (some (([] : List Int) : List Int)).bind fun y377 => (if y377.length + l0.length < 17592186044416 then (some (y377 ++ l0)) else (none))
theorem slices_Clone_int64_int64_nn.calls (A0 : Addr) (c0 : Nat) (l0 : List Int) (r : List Int) (w : World) (hr0 : Kd.C (Kd.int .i64) w (some A0) l0.length l0) (hc0 : l0.length ≤ c0) (h : slices_Clone_int64_int64_nn.f l0 = some r) :
 Calls Try.prog 20 #[.slice (some A0) l0.length c0] w fun e w' => ∃ v0_ : Value, e = .returned (v0_) ∧ Kd.R (Kd.int .i64) 2 w' w.heap.size (fun _ => True) v0_ r ∧ Below w.heap.size w w' := by
 have HR0 := yD hr0
 have HC0 := yD hc0
 clear hr0 hc0
 have HB := yD (Below.refl w.heap.size w)
 unfold slices_Clone_int64_int64_nn.f at h
 have H := h
 clear h
 obtain ⟨y377, hy377⟩ : ∃ y_ : List Int, y_ = (([] : List Int)) := ⟨_, rfl⟩
 replace H : (if y377.length + l0.length < 17592186044416 then (some (y377 ++ l0)) else (none)) = some r := by first | (rw [hy377]; with_reducible exact H) | (have H2_ := (Option.bind_some _ _).symm.trans H; rw [hy377]; with_reducible exact H2_) | (have H2_ := (Option.bind_some _ _).symm.trans H; with_reducible exact H2_) | with_reducible exact H | (rw [hy377]; exact H) | exact H
 have Ny377 := yD hy377
 clear hy377
 replace ⟨LMc2, H⟩ := sM H
 obtain ⟨y380, hy380⟩ : ∃ y_ : List Int, y_ = (y377 ++ l0) := ⟨_, rfl⟩
 replace H : (some y380) = some r := by first | (rw [hy380]; with_reducible exact H) | (have H2_ := (Option.bind_some _ _).symm.trans H; rw [hy380]; with_reducible exact H2_) | (have H2_ := (Option.bind_some _ _).symm.trans H; with_reducible exact H2_) | with_reducible exact H | (rw [hy380]; exact H) | exact H
 have Ny380 := yD hy380
 clear hy380; obtain rfl := sJ H; have q_ : ∀ (w : World) (a : Option Addr) (n c n' c' : Nat), (binOp .eql 23 (.slice a n c) (.slice none n' c')).run Try.prog w = .ok (.bool a.isNone) w := fun w a n c n' c' => Lib.run_eql_slice_nil w _ _ a n c n' c' Try.underlying23; go_enter Try.func20, Try.ntmps20
 go_wp2_with (first | (refine gD 5 ?_; refine Kd.R_lit (Kd.int .i64) _ 2 ?hg (N := 5) ?hd (xs := ([] : List Int)) (inner := []) (ok := fun _ => True) (okp := fun _ => True) ?hr ?hp (fun _ hk => hk) trivial (Below.refl _ _) (Nat.le_refl _) (by simp) ?_; (case hd => rfl); (case hg => rfl); (case hr => first | (go_simp; done) | (go_simp; rfl)); (case hp => exact (cW.none _ _)); intro v378 w3 ho4 hb hg_ hnew_; clear hg_ hnew_; (first | rw [← Ny377.out] at ho4 | (simp only [Int.reduceToNat] at ho4; rw [← Ny377.out] at ho4)); have HO379 := yD (yZ ho4 (aD (kB HB))); replace HB := zX HB hb; clear hb ho4) | ((with_reducible refine gate_builtin (b := .append) (xs := #[.tmp 5, .tmp 6]) rfl ?_); at_builtin; refine Kd.R_append_rows (Kd.int .i64) (w0 := w) w.heap.size rfl (.tmp 5) (.tmp 6) 23 2 (.int .i64 0) 8 rfl Try.underlying23 info2 rfl (by decide) (by omega) v378 y377 l0 _ _ _ (fun _ => True) (fun _ => False) rfl rfl ?aO ?aR (fun _ _ h => h) (fun _ h => h.elim) ?aF ?aB ?aS ?aL ?_; (case aR => exact kV (yY HR0.out HB.out)); (case aB => exact (kB HB)); (case aF => exact (fun _ _ => trivial)); (case aO => exact (kA HO379)); (case aS => exact (aD (kB HB))); (case aL => have := LMc2.out; omega); intro v381 w5 ho hb hg hat; rw [← Ny380.out] at ho; replace HB := yD (hb); have HO382 := yD (ho); clear HO379; clear ho hb hg hat))
 go_ret
 exact ⟨_, kE, kA HO382, kR0 HB⟩
def cK.f (l0 : List Int) : Option (List Int) := slices_Clone_int64_int64_nn.f l0
theorem cK.calls (A0 : Option Addr) (c0 : Nat) (l0 : List Int) (r : List Int) (w : World) (C0 : Cm (Kd.int .i64) w A0 c0 l0) (h : cK.f l0 = some r) :
 Calls Try.prog 20 #[.slice A0 l0.length c0] w fun e w' => ∃ v0_ : Value, e = .returned (v0_) ∧ Kd.R (Kd.int .i64) 2 w' w.heap.size (fun _ => True) v0_ r ∧ Below w.heap.size w w' := by
 have HR0 := yD C0.r; have HC0 := yD C0.h
 cases A0 with
 | some A0 => exact slices_Clone_int64_int64_nn.calls A0 c0 l0 r w C0.r C0.h h
 | none =>
  have hz : l0 = [] := by
   cases l0 with
   | nil => rfl
   | cons x xs => obtain ⟨ad, e, _⟩ := C0.r.2.2 (by simp); cases e
  subst hz
  have hr : r = [] := by
   have h' := h
   unfold cK.f slices_Clone_int64_int64_nn.f at h'
   simp at h'
   exact h'
  subst hr
  exact slices_Clone_int64_int64_isnil.calls c0 [] [] w C0.r C0.h rfl
def impl_either.f (a0 a1 : Bool) : Option (Bool) := if a0 = true then (some true) else (some a1)
theorem impl_either.calls (a0 : Bool) (a1 : Bool) (r : Bool) (w : World) (h : impl_either.f a0 a1 = some r) :
 Calls Try.prog 23 #[.bool a0, .bool a1] w fun e w' => e = .returned (.bool r) ∧ aT w w' := by
 unfold impl_either.f at h
 have H := h
 clear h
 replace H := sS H; rcases H with ⟨rfl, H⟩ | ⟨rfl, H⟩
 ·
  obtain rfl := sJ H; go_enter Try.func23, Try.ntmps23
  go_wp2
  go_ret
  exact ⟨by first | rfl | (simp; done) | (simp [*]; done), by repeat (first | exact aT.refl _ | apply aT.step)⟩
 obtain rfl := sJ H; go_enter Try.func23, Try.ntmps23
 go_wp2
 go_ret
 exact ⟨by first | rfl | (simp; done) | (simp [*]; done), by repeat (first | exact aT.refl _ | apply aT.step)⟩
def bW.l0 : Nat → Int → List (S33) → List (S33) → Int → Int → Option ((List (S33)))
 | 0, _, _, _, _, _ => none
 | k + 1, x1, x5, x8, x9, x10 => if x10 < x9 then (if 0 ≤ x10 then (if x10 < (x8.length : Int) then (if 0 < (((aA x8 x10).f0).length : Int) then (if 0 < (((aA x8 x10).f1).length : Int) then ((bT.f x1 (rd ((aA x8 x10).f0) 0) (wrap64 ((rd ((aA x8 x10).f1) 0) - 1))).bind fun t387 => (if t387 = true then (if 1 ≤ (((aA x8 x10).f0).length : Int) then (if 1 ≤ (((aA x8 x10).f1).length : Int) then (if x5.length < 2932031007402 then (bW.l0 k x1 (x5 ++ [(⟨(((aA x8 x10).f0).drop 1), (((aA x8 x10).f1).drop 1)⟩ : S33)]) x8 x9 (wrap64 (x10 + 1))) else (none)) else (none)) else (none)) else (bW.l0 k x1 x5 x8 x9 (wrap64 (x10 + 1))))) else (none)) else (none)) else (none)) else (none)) else (some x5)
def bW.f (k : Nat) (l0 : List (S33)) (a1 : Int) : Option ((List (S33))) := bW.l0 k a1 ([] : List (S33)) l0 (l0.length : Int) 0
def bW.T5 : Bool × List (List Nat × List Nat) := (true, [([], []), ([], []), ([1], [1]), ([2], [2]), ([3], [3]), ([], []), ([5], [5]), ([6], [6]), ([7], [7]), ([8], [8]), ([0, 4, 9], [0, 4, 9])])
def bW.B5 : List Nat := [0, 0, 2, 6, 14, 0, 32, 96, 224, 480, 1023]
theorem bW.tab5 : rtab .any (opsOf Try.f50 5) = bW.T5 := by kernel_rfl
theorem bW.bits5 : waitsOk bW.T5.2 bW.B5 = true := by kernel_rfl
def bW.T6 : Bool × List (List Nat × List Nat) := (true, [([], []), ([], []), ([1], [1]), ([2], [2]), ([], []), ([4], [4]), ([5], [5]), ([3, 6], [3, 6]), ([7], [7]), ([0, 8], [0, 8]), ([9, 9, 0, 1, 2, 3, 4, 5, 6, 7, 8, 9], [0, 9])])
def bW.B6 : List Nat := [0, 0, 2, 6, 0, 16, 48, 126, 254, 511, 1023]
theorem bW.tab6 : rtab .any (opsOf Try.f50 6) = bW.T6 := by kernel_rfl
theorem bW.bits6 : waitsOk bW.T6.2 bW.B6 = true := by kernel_rfl
theorem bW.calls (k : Nat) (P0_ : Nat → Prop) (A0 : Option Addr) (c0 : Nat) (l0 : List (S33)) (a1 : Int) (r : List (S33)) (w : World) (hs0 : Kd.V k33 33 w w.heap.size (fun k_ => P0_ k_) (.slice A0 l0.length c0) l0) (h : bW.f k l0 a1 = some r) :
 Calls Try.prog 50 #[.slice A0 l0.length c0, .int .i64 a1] w fun e w' => ∃ v0_ : Value, e = .returned (v0_) ∧ Kd.V k33 33 w' w.heap.size (fun k_ => (P0_ k_ ∨ w.heap.size ≤ k_)) v0_ r ∧ Below w.heap.size w w' := by
 have hu33 := Try.underlying33
 have HO0 := yD (show Kd.V k33 33 w w.heap.size (fun k_ => (P0_ k_ ∨ w.heap.size ≤ k_)) (.slice A0 l0.length c0) l0 from Kd.V_mono hs0 (fun k_ hk => .inl hk))
 have HB := yD (Below.refl w.heap.size w)
 unfold bW.f at h
 have H := h
 clear h
 have H' := yD H
 clear H; go_enter Try.func50, Try.ntmps50
 go_wp2
 go_loopg [5, 10] k (fun kq v5 v10 w' => ∃ (x5_1 : List (S33)) (x10_1 : Int), v10 = .int .i64 x10_1 ∧ aC (bW.l0 kq a1 x5_1 l0 (l0.length : Int) x10_1 = some r) ∧ aC (kq ≤ k) ∧ aC (Kd.N k33 33 w' w.heap.size (fun k_ => (P0_ k_ ∨ w.heap.size ≤ k_)) v5 x5_1) ∧ aC (Kd.V k33 33 w' w.heap.size (fun k_ => (P0_ k_ ∨ w.heap.size ≤ k_) ∧ oB v5 k_) (.slice A0 l0.length c0) l0) ∧ aC (Below w.heap.size w w'))
 case atStart => exact ⟨(([] : List (S33))), (0), kF, H', ⟨Nat.le_refl _⟩, ⟨by first | exact Kd.S_nil _ _ _ _ _ | exact Kd.N_nil _ _ _ _ _ | exact Kd.V_nil _ _ _ _ _ | exact Kd.Q_nil _ _ _ _ _ | exact Kd.R_nil _ _ _ _ _⟩, ⟨mV HO0 (fun _ hk => ⟨hk, (by simp [oB, Value.ownBlock])⟩)⟩, ⟨kR0 HB⟩⟩
 case round =>
  clear H'
  obtain ⟨x5_1, x10_1, rfl, HA, HK1, HO_5, HO_8, HB⟩ := hrel
  cases gk with
  | zero => exact absurd HA.out (by simp [bW.l0])
  | succ k1 =>
   have H := HA.out; clear HA
   simp only [bW.l0] at H
   replace H := sG H; rcases H with ⟨c3b0, H⟩ | ⟨c3b0, H⟩
   · obtain rfl := sJ H
     go_wp2
     go_ret
     exact ⟨_, kE, Kd.N_V (kQ HO_5), kR0 HB⟩
   replace ⟨c4b0, H⟩ := sE H
   replace ⟨c5b0, H⟩ := sE H
   replace ⟨c6, H⟩ := sD H
   have c6b0 : decide (0 < (((aA l0 x10_1).f0).length : Int)) = true := zR c6
   have c6b1 : decide (0 < ((aA l0 x10_1).f0).length) = true := zR (by omega)
   clear c6
   replace ⟨c7, H⟩ := sD H
   have c7b0 : decide (0 < (((aA l0 x10_1).f1).length : Int)) = true := zR c7
   have c7b1 : decide (0 < ((aA l0 x10_1).f1).length) = true := zR (by omega)
   clear c7
   replace ⟨t387, A8, H⟩ := sV H
   replace H := sS H; rcases H with ⟨rfl, H⟩ | ⟨rfl, H⟩
   ·
    have H' := yD H
    clear H
    have p383 : 0 ≤ (x10_1 : Int) := zP (by assumption)
    have q383 : x10_1 < (l0.length : Int) := zP (by assumption)
    obtain ⟨ad383, A383_0, c383_0, A383_1, c383_1, e383, hx383_0, hx383_1, HC383_0, HR383_0, HC383_1, HR383_1⟩ := at_T33 (Kd.cV HO_8.out).2.2 x10_1 p383 q383
    cases e383
    obtain ⟨ce383, hce383, hMe383, hcc383⟩ := Kd.V_get HO_8.out z33 x10_1 p383 (by first | exact q383 | exact zP (by assumption) | (have e_ := (Kd.cV HO_8.out).1; omega))
    obtain ⟨ua383_0, uc383_0, ua383_1, uc383_1, rfl, ul383_0, ge383_0, ul383_1, ge383_1⟩ := k33_openF hMe383
    have hv383_0 := hcc383 0 _ rfl
    rw [Nat.add_zero] at hv383_0
    replace hv383_0 := Option.some.inj (hv383_0.symm.trans hx383_0)
    injection hv383_0 with hva_ hvn_ hvc_
    rw [hva_] at ge383_0
    rw [hvc_] at ul383_0
    have HL383_0 := yD (show Kd.V (Kd.int .i64) 2 _ w.heap.size _ _ ((aA l0 x10_1).f0) from Kd.V_mk ul383_0 ge383_0)
    clear hva_ hvn_ hvc_ ge383_0 ul383_0
    have hv383_1 := hcc383 1 _ rfl
    rw [add_field _ _ 1 (by omega)] at hv383_1
    replace hv383_1 := Option.some.inj (hv383_1.symm.trans hx383_1)
    injection hv383_1 with hva_ hvn_ hvc_
    rw [hva_] at ge383_1
    rw [hvc_] at ul383_1
    have HL383_1 := yD (show Kd.V (Kd.int .i64) 2 _ w.heap.size _ _ ((aA l0 x10_1).f1) from Kd.V_mk ul383_1 ge383_1)
    clear hva_ hvn_ hvc_ ge383_1 ul383_1 hcc383 hce383
    replace p383 := eq_true p383; replace q383 := eq_true q383
    try go_wp2_with (first | (refine gD 7 ?_; refine bE (N := 7) (cs := #[.slice none 0 0, .slice none 0 0]) (t := 33) ?_; intro gb384 hg w21 hbox hb; replace HO_5 := yD (Kd.N_below (Kd.N_elderB (kQ HO_5) gb384 (Nat.le_of_eq hg.symm)) hb); replace HO_8 := yD (Kd.V_below (Kd.V_elderB (kU HO_8) gb384 (Nat.le_of_eq hg.symm)) hb); replace HL383_0 := yD (Kd.V_below (Kd.V_elderB (kU HL383_0) gb384 (Nat.le_of_eq hg.symm)) hb); replace HL383_1 := yD (Kd.V_below (Kd.V_elderB (kU HL383_1) gb384 (Nat.le_of_eq hg.symm)) hb); replace HR383_0 := yD (yY (by repeat (first | (with_reducible exact HR383_0.out) | (with_reducible first | refine yV ?_ _ | refine yW ?_ _ | refine yX ?_) | exact HR383_0.out)) hb); replace HR383_1 := yD (yY (by repeat (first | (with_reducible exact HR383_1.out) | (with_reducible first | refine yV ?_ _ | refine yW ?_ _ | refine yX ?_) | exact HR383_1.out)) hb); have BK384 := yD (hbox); have GW384 := sW hg HB; replace HB := zX HB hb; clear hb hbox hg; have := cf2_ BK384.out))
    have n0_ : aC (Kd.N k33 33 ((w21.setCell ⟨gb384, 0, none⟩ (.slice A383_0 ((aA l0 x10_1).f0).length c383_0)).setCell ⟨gb384, 1, none⟩ (.slice A383_1 ((aA l0 x10_1).f1).length c383_1)) w.heap.size (fun k_ => (P0_ k_ ∨ w.heap.size ≤ k_) ∧ k_ ≠ gb384) u5 x5_1) := ⟨by (with_reducible repeat (first | apply Kd.N_alloc | apply Kd.N_drewN | apply Kd.N_drew)); exact Kd.N_mono (Kd.N_far (p := ⟨gb384, 1, none⟩) (Kd.N_far (p := ⟨gb384, 0, none⟩) (Kd.N_mono HO_5.out (fun k_ hk => (⟨hk, hk.2⟩ : _ ∧ k_ ≠ gb384))) (fun _ hk => hk.2) (.slice A383_0 ((aA l0 x10_1).f0).length c383_0)) (fun _ hk => hk.2) (.slice A383_1 ((aA l0 x10_1).f1).length c383_1)) (fun _ hk => ⟨hk.1.1, hk.1.2⟩)⟩
    have n1_ : aC (Kd.V k33 33 ((w21.setCell ⟨gb384, 0, none⟩ (.slice A383_0 ((aA l0 x10_1).f0).length c383_0)).setCell ⟨gb384, 1, none⟩ (.slice A383_1 ((aA l0 x10_1).f1).length c383_1)) w.heap.size (fun k_ => (P0_ k_ ∨ w.heap.size ≤ k_) ∧ oB u5 k_ ∧ k_ ≠ gb384) (.slice (some ad383) l0.length c0) l0) := ⟨by (with_reducible repeat (first | apply Kd.V_alloc | apply Kd.V_drewN | apply Kd.V_drew)); exact Kd.V_mono (Kd.V_far (p := ⟨gb384, 1, none⟩) (Kd.V_far (p := ⟨gb384, 0, none⟩) (Kd.V_mono HO_8.out (fun k_ hk => (⟨hk, hk.2⟩ : _ ∧ k_ ≠ gb384))) (fun _ hk => hk.2) (.slice A383_0 ((aA l0 x10_1).f0).length c383_0)) (fun _ hk => hk.2) (.slice A383_1 ((aA l0 x10_1).f1).length c383_1)) (fun _ hk => ⟨hk.1.1.1, ⟨hk.1.1.2, hk.1.2⟩⟩)⟩
    have n2_ : aC (Kd.V (Kd.int .i64) 2 ((w21.setCell ⟨gb384, 0, none⟩ (.slice A383_0 ((aA l0 x10_1).f0).length c383_0)).setCell ⟨gb384, 1, none⟩ (.slice A383_1 ((aA l0 x10_1).f1).length c383_1)) w.heap.size (fun k_ => (P0_ k_ ∨ w.heap.size ≤ k_) ∧ oB u5 k_ ∧ k_ ≠ gb384) (.slice A383_0 ((aA l0 x10_1).f0).length c383_0) ((aA l0 x10_1).f0)) := ⟨by (with_reducible repeat (first | apply Kd.V_alloc | apply Kd.V_drewN | apply Kd.V_drew)); exact Kd.V_mono (Kd.V_far (p := ⟨gb384, 1, none⟩) (Kd.V_far (p := ⟨gb384, 0, none⟩) (Kd.V_mono HL383_0.out (fun k_ hk => (⟨hk, hk.2⟩ : _ ∧ k_ ≠ gb384))) (fun _ hk => hk.2) (.slice A383_0 ((aA l0 x10_1).f0).length c383_0)) (fun _ hk => hk.2) (.slice A383_1 ((aA l0 x10_1).f1).length c383_1)) (fun _ hk => ⟨hk.1.1.1, ⟨hk.1.1.2, hk.1.2⟩⟩)⟩
    have n3_ : aC (Kd.V (Kd.int .i64) 2 ((w21.setCell ⟨gb384, 0, none⟩ (.slice A383_0 ((aA l0 x10_1).f0).length c383_0)).setCell ⟨gb384, 1, none⟩ (.slice A383_1 ((aA l0 x10_1).f1).length c383_1)) w.heap.size (fun k_ => (P0_ k_ ∨ w.heap.size ≤ k_) ∧ oB u5 k_ ∧ k_ ≠ gb384) (.slice A383_1 ((aA l0 x10_1).f1).length c383_1) ((aA l0 x10_1).f1)) := ⟨by (with_reducible repeat (first | apply Kd.V_alloc | apply Kd.V_drewN | apply Kd.V_drew)); exact Kd.V_mono (Kd.V_far (p := ⟨gb384, 1, none⟩) (Kd.V_far (p := ⟨gb384, 0, none⟩) (Kd.V_mono HL383_1.out (fun k_ hk => (⟨hk, hk.2⟩ : _ ∧ k_ ≠ gb384))) (fun _ hk => hk.2) (.slice A383_0 ((aA l0 x10_1).f0).length c383_0)) (fun _ hk => hk.2) (.slice A383_1 ((aA l0 x10_1).f1).length c383_1)) (fun _ hk => ⟨hk.1.1.1, ⟨hk.1.1.2, hk.1.2⟩⟩)⟩
    have n4_ : aC (((w21.setCell ⟨gb384, 0, none⟩ (.slice A383_0 ((aA l0 x10_1).f0).length c383_0)).setCell ⟨gb384, 1, none⟩ (.slice A383_1 ((aA l0 x10_1).f1).length c383_1)).heap[gb384]? = some (.cells #[.slice A383_0 ((aA l0 x10_1).f0).length c383_0, .slice A383_1 ((aA l0 x10_1).f1).length c383_1] 33 (0, 0))) := ⟨by (with_reducible repeat (first | refine yM ?_ _ | refine yO ?_ | refine yN ?_ _)); exact bA2_ BK384.out⟩
    have n5_ : aC (Below w.heap.size w ((w21.setCell ⟨gb384, 0, none⟩ (.slice A383_0 ((aA l0 x10_1).f0).length c383_0)).setCell ⟨gb384, 1, none⟩ (.slice A383_1 ((aA l0 x10_1).f1).length c383_1))) := ⟨kR1 HB⟩
    generalize ((w21.setCell ⟨gb384, 0, none⟩ (.slice A383_0 ((aA l0 x10_1).f0).length c383_0)).setCell ⟨gb384, 1, none⟩ (.slice A383_1 ((aA l0 x10_1).f1).length c383_1)) = w23 at n0_ n1_ n2_ n3_ n4_ n5_ ⊢
    have HO_5 := n0_; have HO_8 := n1_; have HL383_0 := n2_; have HL383_1 := n3_; have BK384 := n4_; have HB := n5_; clear n0_ n1_ n2_ n3_ n4_ n5_
    replace HO_5 := yD (Kd.N_drew HO_5.out); replace HO_8 := yD (Kd.V_drew HO_8.out); replace HL383_0 := yD (Kd.V_drew HL383_0.out); replace HL383_1 := yD (Kd.V_drew HL383_1.out); replace BK384 := yD (yO BK384.out); replace HB := yD (yP HB.out)
    have p385 : 0 ≤ (0 : Int) := (by omega)
    have q385 : 0 < (((aA l0 x10_1).f0).length : Int) := zP (by assumption)
    obtain ⟨ad385, e385, hx385_0⟩ := Kd.aX ((Kd.cV HL383_0.out).2.2) 0 p385 q385
    cases e385
    have qi385 : (0 < ((aA l0 x10_1).f0).length) = True := eq_true (by omega)
    (try rw [show ((0 : Int)).toNat = 0 from rfl] at hx385_0)
    (try rw [Addr.add_zero'] at hx385_0)
    replace p385 := eq_true p385; replace q385 := eq_true q385
    have p386 : 0 ≤ (0 : Int) := (by omega)
    have q386 : 0 < (((aA l0 x10_1).f1).length : Int) := zP (by assumption)
    obtain ⟨ad386, e386, hx386_0⟩ := Kd.aX ((Kd.cV HL383_1.out).2.2) 0 p386 q386
    cases e386
    have qi386 : (0 < ((aA l0 x10_1).f1).length) = True := eq_true (by omega)
    (try rw [show ((0 : Int)).toNat = 0 from rfl] at hx386_0)
    (try rw [Addr.add_zero'] at hx386_0)
    replace p386 := eq_true p386; replace q386 := eq_true q386
    refine s0 (m := 11) (S := fun w' => cl w' gb384 0 (.slice (some ad385) ((aA l0 x10_1).f0).length c383_0) ∧ cl w' gb384 1 (.slice (some ad386) ((aA l0 x10_1).f1).length c383_1) ∧ w'.cell? ad385 = some (.int .i64 (rd ((aA l0 x10_1).f0) 0)) ∧ w'.cell? ad386 = some (.int .i64 (rd ((aA l0 x10_1).f1) 0))) bW.tab5 bW.bits5 (ca2_ BK384.out ⟨hx385_0, hx386_0⟩) fun hHeld HT_ HW_ => ?_
    generalize w23.drew = w24 at HO_5 HO_8 HL383_0 HL383_1 BK384 HB hx385_0 hx386_0 hHeld ⊢
    refine qa 11 0 1 ?_; refine qa 11 1 3 ?_; refine qa 11 5 35 ?_; refine qc 11 2 39 hHeld ?_; refine qa 11 3 47 ?_; refine qc 11 4 63 hHeld ?_; refine qc 11 6 127 hHeld ?_; refine qa 11 7 255 ?_; refine qc 11 8 511 hHeld ?_; refine qa 11 9 1023 ?_
    refine qo 11 10 2047 (some 24) fun K hK => ?_
    refine qg Try.func62 _ (dm (bT.calls a1 (rd ((aA l0 x10_1).f0) 0) (wrap64 ((rd ((aA l0 x10_1).f1) 0) - 1)) false _ A8.out) fun nd => ?_)
    refine hK.out _ _ (ca2_ BK384.out ⟨hHeld.2.2.1, hHeld.2.2.2⟩) (fun hHeld => ?_)
    clear hK K
    refine nZ 24 ?_
    refine qd ?_
    try go_wp2
    go_roundg k1
    case measure => have := HK1.out; omega
    case rel => exact ⟨(x5_1), (wrap64 (x10_1 + 1)), kF, H', ⟨by have := HK1.out; omega⟩, ⟨mN HO_5 (fun _ hk => hk.1)⟩, ⟨mV HO_8 (fun _ hk => ⟨hk.1, hk.2.1⟩)⟩, ⟨kR1 HB⟩⟩
   replace ⟨c10, H⟩ := sD H
   have c10b0 := eq_true c10
   have c10b1 : decide (1 ≤ (((aA l0 x10_1).f0).length : Int)) = true := zR c10; clear c10
   generalize hy388 : ((((aA l0 x10_1).f0).drop 1) : List Int) = y388 at H
   have Ny388 := yD hy388.symm
   clear hy388
   replace ⟨c11, H⟩ := sD H
   have c11b0 := eq_true c11
   have c11b1 : decide (1 ≤ (((aA l0 x10_1).f1).length : Int)) = true := zR c11; clear c11
   generalize hy393 : ((((aA l0 x10_1).f1).drop 1) : List Int) = y393 at H
   have Ny393 := yD hy393.symm
   clear hy393
   replace ⟨LMc12, H⟩ := sM H
   generalize hy398 : ((x5_1 ++ [(⟨y388, y393⟩ : S33)]) : List (S33)) = y398 at H
   have Ny398 := yD hy398.symm
   clear hy398
   have H' := yD H
   clear H
   have p383 : 0 ≤ (x10_1 : Int) := zP (by assumption)
   have q383 : x10_1 < (l0.length : Int) := zP (by assumption)
   obtain ⟨ad383, A383_0, c383_0, A383_1, c383_1, e383, hx383_0, hx383_1, HC383_0, HR383_0, HC383_1, HR383_1⟩ := at_T33 (Kd.cV HO_8.out).2.2 x10_1 p383 q383
   cases e383
   obtain ⟨ce383, hce383, hMe383, hcc383⟩ := Kd.V_get HO_8.out z33 x10_1 p383 (by first | exact q383 | exact zP (by assumption) | (have e_ := (Kd.cV HO_8.out).1; omega))
   obtain ⟨ua383_0, uc383_0, ua383_1, uc383_1, rfl, ul383_0, ge383_0, ul383_1, ge383_1⟩ := k33_openF hMe383
   have hv383_0 := hcc383 0 _ rfl
   rw [Nat.add_zero] at hv383_0
   replace hv383_0 := Option.some.inj (hv383_0.symm.trans hx383_0)
   injection hv383_0 with hva_ hvn_ hvc_
   rw [hva_] at ge383_0
   rw [hvc_] at ul383_0
   have HL383_0 := yD (show Kd.V (Kd.int .i64) 2 _ w.heap.size _ _ ((aA l0 x10_1).f0) from Kd.V_mk ul383_0 ge383_0)
   clear hva_ hvn_ hvc_ ge383_0 ul383_0
   have hv383_1 := hcc383 1 _ rfl
   rw [add_field _ _ 1 (by omega)] at hv383_1
   replace hv383_1 := Option.some.inj (hv383_1.symm.trans hx383_1)
   injection hv383_1 with hva_ hvn_ hvc_
   rw [hva_] at ge383_1
   rw [hvc_] at ul383_1
   have HL383_1 := yD (show Kd.V (Kd.int .i64) 2 _ w.heap.size _ _ ((aA l0 x10_1).f1) from Kd.V_mk ul383_1 ge383_1)
   clear hva_ hvn_ hvc_ ge383_1 ul383_1 hcc383 hce383
   replace p383 := eq_true p383; replace q383 := eq_true q383
   try go_wp2_with (first | (refine gD 7 ?_; refine bE (N := 7) (cs := #[.slice none 0 0, .slice none 0 0]) (t := 33) ?_; intro gb384 hg w13 hbox hb; replace HO_5 := yD (Kd.N_below (Kd.N_elderB (kQ HO_5) gb384 (Nat.le_of_eq hg.symm)) hb); replace HO_8 := yD (Kd.V_below (Kd.V_elderB (kU HO_8) gb384 (Nat.le_of_eq hg.symm)) hb); replace HL383_0 := yD (Kd.V_below (Kd.V_elderB (kU HL383_0) gb384 (Nat.le_of_eq hg.symm)) hb); replace HL383_1 := yD (Kd.V_below (Kd.V_elderB (kU HL383_1) gb384 (Nat.le_of_eq hg.symm)) hb); replace HR383_0 := yD (yY (by repeat (first | (with_reducible exact HR383_0.out) | (with_reducible first | refine yV ?_ _ | refine yW ?_ _ | refine yX ?_) | exact HR383_0.out)) hb); replace HR383_1 := yD (yY (by repeat (first | (with_reducible exact HR383_1.out) | (with_reducible first | refine yV ?_ _ | refine yW ?_ _ | refine yX ?_) | exact HR383_1.out)) hb); have BK384 := yD (hbox); have GW384 := sW hg HB; replace HB := zX HB hb; clear hb hbox hg; have := cf2_ BK384.out))
   have n0_ : aC (Kd.N k33 33 ((w13.setCell ⟨gb384, 0, none⟩ (.slice A383_0 ((aA l0 x10_1).f0).length c383_0)).setCell ⟨gb384, 1, none⟩ (.slice A383_1 ((aA l0 x10_1).f1).length c383_1)) w.heap.size (fun k_ => (P0_ k_ ∨ w.heap.size ≤ k_) ∧ k_ ≠ gb384) u5 x5_1) := ⟨by (with_reducible repeat (first | apply Kd.N_alloc | apply Kd.N_drewN | apply Kd.N_drew)); exact Kd.N_mono (Kd.N_far (p := ⟨gb384, 1, none⟩) (Kd.N_far (p := ⟨gb384, 0, none⟩) (Kd.N_mono HO_5.out (fun k_ hk => (⟨hk, hk.2⟩ : _ ∧ k_ ≠ gb384))) (fun _ hk => hk.2) (.slice A383_0 ((aA l0 x10_1).f0).length c383_0)) (fun _ hk => hk.2) (.slice A383_1 ((aA l0 x10_1).f1).length c383_1)) (fun _ hk => ⟨hk.1.1, hk.1.2⟩)⟩
   have n1_ : aC (Kd.V k33 33 ((w13.setCell ⟨gb384, 0, none⟩ (.slice A383_0 ((aA l0 x10_1).f0).length c383_0)).setCell ⟨gb384, 1, none⟩ (.slice A383_1 ((aA l0 x10_1).f1).length c383_1)) w.heap.size (fun k_ => (P0_ k_ ∨ w.heap.size ≤ k_) ∧ oB u5 k_ ∧ k_ ≠ gb384) (.slice (some ad383) l0.length c0) l0) := ⟨by (with_reducible repeat (first | apply Kd.V_alloc | apply Kd.V_drewN | apply Kd.V_drew)); exact Kd.V_mono (Kd.V_far (p := ⟨gb384, 1, none⟩) (Kd.V_far (p := ⟨gb384, 0, none⟩) (Kd.V_mono HO_8.out (fun k_ hk => (⟨hk, hk.2⟩ : _ ∧ k_ ≠ gb384))) (fun _ hk => hk.2) (.slice A383_0 ((aA l0 x10_1).f0).length c383_0)) (fun _ hk => hk.2) (.slice A383_1 ((aA l0 x10_1).f1).length c383_1)) (fun _ hk => ⟨hk.1.1.1, ⟨hk.1.1.2, hk.1.2⟩⟩)⟩
   have n2_ : aC (Kd.V (Kd.int .i64) 2 ((w13.setCell ⟨gb384, 0, none⟩ (.slice A383_0 ((aA l0 x10_1).f0).length c383_0)).setCell ⟨gb384, 1, none⟩ (.slice A383_1 ((aA l0 x10_1).f1).length c383_1)) w.heap.size (fun k_ => (P0_ k_ ∨ w.heap.size ≤ k_) ∧ oB u5 k_ ∧ k_ ≠ gb384) (.slice A383_0 ((aA l0 x10_1).f0).length c383_0) ((aA l0 x10_1).f0)) := ⟨by (with_reducible repeat (first | apply Kd.V_alloc | apply Kd.V_drewN | apply Kd.V_drew)); exact Kd.V_mono (Kd.V_far (p := ⟨gb384, 1, none⟩) (Kd.V_far (p := ⟨gb384, 0, none⟩) (Kd.V_mono HL383_0.out (fun k_ hk => (⟨hk, hk.2⟩ : _ ∧ k_ ≠ gb384))) (fun _ hk => hk.2) (.slice A383_0 ((aA l0 x10_1).f0).length c383_0)) (fun _ hk => hk.2) (.slice A383_1 ((aA l0 x10_1).f1).length c383_1)) (fun _ hk => ⟨hk.1.1.1, ⟨hk.1.1.2, hk.1.2⟩⟩)⟩
   have n3_ : aC (Kd.V (Kd.int .i64) 2 ((w13.setCell ⟨gb384, 0, none⟩ (.slice A383_0 ((aA l0 x10_1).f0).length c383_0)).setCell ⟨gb384, 1, none⟩ (.slice A383_1 ((aA l0 x10_1).f1).length c383_1)) w.heap.size (fun k_ => (P0_ k_ ∨ w.heap.size ≤ k_) ∧ oB u5 k_ ∧ k_ ≠ gb384) (.slice A383_1 ((aA l0 x10_1).f1).length c383_1) ((aA l0 x10_1).f1)) := ⟨by (with_reducible repeat (first | apply Kd.V_alloc | apply Kd.V_drewN | apply Kd.V_drew)); exact Kd.V_mono (Kd.V_far (p := ⟨gb384, 1, none⟩) (Kd.V_far (p := ⟨gb384, 0, none⟩) (Kd.V_mono HL383_1.out (fun k_ hk => (⟨hk, hk.2⟩ : _ ∧ k_ ≠ gb384))) (fun _ hk => hk.2) (.slice A383_0 ((aA l0 x10_1).f0).length c383_0)) (fun _ hk => hk.2) (.slice A383_1 ((aA l0 x10_1).f1).length c383_1)) (fun _ hk => ⟨hk.1.1.1, ⟨hk.1.1.2, hk.1.2⟩⟩)⟩
   have n4_ : aC (((w13.setCell ⟨gb384, 0, none⟩ (.slice A383_0 ((aA l0 x10_1).f0).length c383_0)).setCell ⟨gb384, 1, none⟩ (.slice A383_1 ((aA l0 x10_1).f1).length c383_1)).heap[gb384]? = some (.cells #[.slice A383_0 ((aA l0 x10_1).f0).length c383_0, .slice A383_1 ((aA l0 x10_1).f1).length c383_1] 33 (0, 0))) := ⟨by (with_reducible repeat (first | refine yM ?_ _ | refine yO ?_ | refine yN ?_ _)); exact bA2_ BK384.out⟩
   have n5_ : aC (Below w.heap.size w ((w13.setCell ⟨gb384, 0, none⟩ (.slice A383_0 ((aA l0 x10_1).f0).length c383_0)).setCell ⟨gb384, 1, none⟩ (.slice A383_1 ((aA l0 x10_1).f1).length c383_1))) := ⟨kR1 HB⟩
   generalize ((w13.setCell ⟨gb384, 0, none⟩ (.slice A383_0 ((aA l0 x10_1).f0).length c383_0)).setCell ⟨gb384, 1, none⟩ (.slice A383_1 ((aA l0 x10_1).f1).length c383_1)) = w15 at n0_ n1_ n2_ n3_ n4_ n5_ ⊢
   have HO_5 := n0_; have HO_8 := n1_; have HL383_0 := n2_; have HL383_1 := n3_; have BK384 := n4_; have HB := n5_; clear n0_ n1_ n2_ n3_ n4_ n5_
   replace HO_5 := yD (Kd.N_drew HO_5.out); replace HO_8 := yD (Kd.V_drew HO_8.out); replace HL383_0 := yD (Kd.V_drew HL383_0.out); replace HL383_1 := yD (Kd.V_drew HL383_1.out); replace BK384 := yD (yO BK384.out); replace HB := yD (yP HB.out)
   have p385 : 0 ≤ (0 : Int) := (by omega)
   have q385 : 0 < (((aA l0 x10_1).f0).length : Int) := zP (by assumption)
   obtain ⟨ad385, e385, hx385_0⟩ := Kd.aX ((Kd.cV HL383_0.out).2.2) 0 p385 q385
   cases e385
   have qi385 : (0 < ((aA l0 x10_1).f0).length) = True := eq_true (by omega)
   (try rw [show ((0 : Int)).toNat = 0 from rfl] at hx385_0)
   (try rw [Addr.add_zero'] at hx385_0)
   replace p385 := eq_true p385; replace q385 := eq_true q385
   have p386 : 0 ≤ (0 : Int) := (by omega)
   have q386 : 0 < (((aA l0 x10_1).f1).length : Int) := zP (by assumption)
   obtain ⟨ad386, e386, hx386_0⟩ := Kd.aX ((Kd.cV HL383_1.out).2.2) 0 p386 q386
   cases e386
   have qi386 : (0 < ((aA l0 x10_1).f1).length) = True := eq_true (by omega)
   (try rw [show ((0 : Int)).toNat = 0 from rfl] at hx386_0)
   (try rw [Addr.add_zero'] at hx386_0)
   replace p386 := eq_true p386; replace q386 := eq_true q386
   refine s0 (m := 11) (S := fun w' => cl w' gb384 0 (.slice (some ad385) ((aA l0 x10_1).f0).length c383_0) ∧ cl w' gb384 1 (.slice (some ad386) ((aA l0 x10_1).f1).length c383_1) ∧ w'.cell? ad385 = some (.int .i64 (rd ((aA l0 x10_1).f0) 0)) ∧ w'.cell? ad386 = some (.int .i64 (rd ((aA l0 x10_1).f1) 0))) bW.tab5 bW.bits5 (ca2_ BK384.out ⟨hx385_0, hx386_0⟩) fun hHeld HT_ HW_ => ?_
   generalize w15.drew = w16 at HO_5 HO_8 HL383_0 HL383_1 BK384 HB hx385_0 hx386_0 hHeld ⊢
   refine qa 11 0 1 ?_; refine qa 11 1 3 ?_; refine qa 11 5 35 ?_; refine qc 11 2 39 hHeld ?_; refine qa 11 3 47 ?_; refine qc 11 4 63 hHeld ?_; refine qc 11 6 127 hHeld ?_; refine qa 11 7 255 ?_; refine qc 11 8 511 hHeld ?_; refine qa 11 9 1023 ?_
   refine qo 11 10 2047 (some 24) fun K hK => ?_
   refine qg Try.func62 _ (dm (bT.calls a1 (rd ((aA l0 x10_1).f0) 0) (wrap64 ((rd ((aA l0 x10_1).f1) 0) - 1)) true _ A8.out) fun nd => ?_)
   refine hK.out _ _ (ca2_ BK384.out ⟨hHeld.2.2.1, hHeld.2.2.2⟩) (fun hHeld => ?_)
   clear hK K
   refine nZ 24 ?_
   refine qd ?_
   try go_wp2
   (try (rw [drewN_self w16]; generalize hq_ : World.drewN w16 _ = w16; have n0_ : aC (Kd.V (Kd.int .i64) 2 w16 w.heap.size (fun k_ => (P0_ k_ ∨ w.heap.size ≤ k_) ∧ oB u5 k_ ∧ k_ ≠ gb384) (.slice (some ad385) ((aA l0 x10_1).f0).length c383_0) ((aA l0 x10_1).f0)) := ⟨by rw [← hq_]; exact (kU HL383_0)⟩; have n1_ : aC (Kd.V (Kd.int .i64) 2 w16 w.heap.size (fun k_ => (P0_ k_ ∨ w.heap.size ≤ k_) ∧ oB u5 k_ ∧ k_ ≠ gb384) (.slice (some ad386) ((aA l0 x10_1).f1).length c383_1) ((aA l0 x10_1).f1)) := ⟨by rw [← hq_]; exact (kU HL383_1)⟩; have n2_ : aC (Kd.N k33 33 w16 w.heap.size (fun k_ => (P0_ k_ ∨ w.heap.size ≤ k_) ∧ k_ ≠ gb384) u5 x5_1) := ⟨by rw [← hq_]; exact (kQ HO_5)⟩; have n3_ : aC (Kd.V k33 33 w16 w.heap.size (fun k_ => (P0_ k_ ∨ w.heap.size ≤ k_) ∧ oB u5 k_ ∧ k_ ≠ gb384) (.slice (some ad383) l0.length c0) l0) := ⟨by rw [← hq_]; exact (kU HO_8)⟩; have n4_ : aC (w16.heap[gb384]? = some (.cells #[.slice (some ad385) ((aA l0 x10_1).f0).length c383_0, .slice (some ad386) ((aA l0 x10_1).f1).length c383_1] 33 (0, 0))) := ⟨by rw [← hq_]; exact (kM BK384)⟩; have n5_ : aC (Below w.heap.size w w16) := ⟨by rw [← hq_]; exact (kB HB)⟩; clear HL383_0 HL383_1 HO_5 HO_8 BK384 HB hq_; have HL383_0 := n0_; have HL383_1 := n1_; have HO_5 := n2_; have HO_8 := n3_; have BK384 := n4_; have HB := n5_; clear n0_ n1_ n2_ n3_ n4_ n5_))
   replace HO_5 := yD (Kd.N_drew HO_5.out); replace HO_8 := yD (Kd.V_drew HO_8.out); replace HL383_0 := yD (Kd.V_drew HL383_0.out); replace HL383_1 := yD (Kd.V_drew HL383_1.out); replace BK384 := yD (yO BK384.out); replace HB := yD (yP HB.out)
   have q18 : (1 : Int) ≤ ((((aA l0 x10_1).f0).length : Int) : Int) := zP (by assumption)
   obtain ⟨i018, hi018, _, hsz18, _⟩ := info_parts info2
   have hroom18 : ((aA l0 x10_1).f0).length ≤ c383_0 := HC383_0.out
   have hC18 : Kd.F (Kd.int .i64) _ _ (some ad385) ((aA l0 x10_1).f0).length ((aA l0 x10_1).f0) := (Kd.V_at (base := w.heap.size) HL383_0.out).2.2
   have hcut18 := cut_from (P := Try.prog) 23 2 .i64 Try.underlying23 hi018 1 hsz18 (some ad385) ((aA l0 x10_1).f0).length c383_0 1 (by omega) q18
   have hr18 := Kd.F_cut (m := (1 : Int).toNat) (c := c383_0) hC18 (by omega) hroom18
   obtain ⟨A18, hA18⟩ : ∃ A1, A1 = (if c383_0 = (1 : Int).toNat then (some ad385) else ((some ad385) : Option Addr).map (·.add ((1 : Int).toNat * 1))) := ⟨_, rfl⟩
   obtain ⟨c18, hc18⟩ : ∃ c1, c1 = c383_0 - (1 : Int).toNat := ⟨_, rfl⟩
   have hy18 : y388.length = ((aA l0 x10_1).f0).length - (1 : Int).toNat := (by rw [Ny388.out, zN] <;> omega)
   rw [show ((aA l0 x10_1).f0).drop (1 : Int).toNat = y388 from Ny388.out.symm] at hr18
   replace hr18 : Kd.F (Kd.int .i64) _ _ A18 y388.length y388 := (by rw [hA18]; exact hr18)
   rw [← hy18, ← hA18, ← hc18] at hcut18
   have HO392 := yD (show Kd.V (Kd.int .i64) 2 _ w.heap.size _ (.slice A18 y388.length c18) y388 from Kd.V_mk (by rw [hy18, hc18]; exact Nat.sub_le_sub_right hroom18 _) hr18)
   have HC392 := yD (show y388.length ≤ c18 from by rw [hy18, hc18]; exact Nat.sub_le_sub_right hroom18 _)
   clear hr18 hC18 hroom18 hi018 hsz18 hc18
   have KY18 := yD hy18
   have KA18 := yD hA18
   clear hy18 hA18; replace q18 := eq_true q18
   have q19 : (1 : Int) ≤ ((((aA l0 x10_1).f1).length : Int) : Int) := zP (by assumption)
   obtain ⟨i019, hi019, _, hsz19, _⟩ := info_parts info2
   have hroom19 : ((aA l0 x10_1).f1).length ≤ c383_1 := HC383_1.out
   have hC19 : Kd.F (Kd.int .i64) _ _ (some ad386) ((aA l0 x10_1).f1).length ((aA l0 x10_1).f1) := (Kd.V_at (base := w.heap.size) HL383_1.out).2.2
   have hcut19 := cut_from (P := Try.prog) 23 2 .i64 Try.underlying23 hi019 1 hsz19 (some ad386) ((aA l0 x10_1).f1).length c383_1 1 (by omega) q19
   have hr19 := Kd.F_cut (m := (1 : Int).toNat) (c := c383_1) hC19 (by omega) hroom19
   obtain ⟨A19, hA19⟩ : ∃ A1, A1 = (if c383_1 = (1 : Int).toNat then (some ad386) else ((some ad386) : Option Addr).map (·.add ((1 : Int).toNat * 1))) := ⟨_, rfl⟩
   obtain ⟨c19, hc19⟩ : ∃ c1, c1 = c383_1 - (1 : Int).toNat := ⟨_, rfl⟩
   have hy19 : y393.length = ((aA l0 x10_1).f1).length - (1 : Int).toNat := (by rw [Ny393.out, zN] <;> omega)
   rw [show ((aA l0 x10_1).f1).drop (1 : Int).toNat = y393 from Ny393.out.symm] at hr19
   replace hr19 : Kd.F (Kd.int .i64) _ _ A19 y393.length y393 := (by rw [hA19]; exact hr19)
   rw [← hy19, ← hA19, ← hc19] at hcut19
   have HO397 := yD (show Kd.V (Kd.int .i64) 2 _ w.heap.size _ (.slice A19 y393.length c19) y393 from Kd.V_mk (by rw [hy19, hc19]; exact Nat.sub_le_sub_right hroom19 _) hr19)
   have HC397 := yD (show y393.length ≤ c19 from by rw [hy19, hc19]; exact Nat.sub_le_sub_right hroom19 _)
   clear hr19 hC19 hroom19 hi019 hsz19 hc19
   have KY19 := yD hy19
   have KA19 := yD hA19
   clear hy19 hA19; replace q19 := eq_true q19
   refine s0 (m := 11) (S := fun w' => cl w' gb384 0 (.slice (some ad385) ((aA l0 x10_1).f0).length c383_0) ∧ cl w' gb384 1 (.slice (some ad386) ((aA l0 x10_1).f1).length c383_1)) bW.tab6 bW.bits6 (cz2 BK384.out) fun hHeld HT_ HW_ => ?_
   generalize w16.drew = w17 at HO_5 HO_8 HL383_0 HL383_1 BK384 HB HO392 HO397 hHeld ⊢
   refine qa 11 0 1 ?_; refine qa 11 1 3 ?_; refine qa 11 4 19 ?_; refine qc 11 2 23 hHeld ?_; refine qa 11 3 31 ?_; refine qc 11 5 63 hHeld ?_; refine qa 11 6 127 ?_; refine qa 11 7 255 ?_
   refine qo 11 8 511 (some 33) fun K hK => ?_
   refine value_ (w1 := ?_) (v := ?_) (by rfl) rfl ?_ ?_
   rotate_left 2
   · go_simp
     constructor
     · rfl
     · rfl
   refine hK.out _ _ (cz2 (yN BK384.out _)) (fun hHeld => ?_)
   clear hK K
   refine nZ 33 ?_
   refine qo 11 9 1023 (some 34) fun K hK => ?_
   refine Kd.N_append_step k33 (w0 := w) w.heap.size (by rfl) (.tmp 25) (.tmp 33) 29 33 (.agg #[(.slice none 0 0), (.slice none 0 0)]) 48 rfl Try.underlying29 info33 rfl (by decide) (by omega) u5 x5_1 (⟨y388, y393⟩ : S33) [.slice A18 y388.length c18, .slice A19 y393.length c19] (fun k_ => (P0_ k_ ∨ w.heap.size ≤ k_) ∧ k_ ≠ gb384) (fun k_ => ((fun k_ => (P0_ k_ ∨ w.heap.size ≤ k_) ∧ k_ ≠ gb384)) k_ ∧ oB u5 k_) rfl rfl ?aP (fun _ hk => hk) ?aF ?aO ?aB ?aS ?aL ?_
   (case aP => exact (k33_mkF _ _ (⟨y388, y393⟩ : S33) (Kd.cV (Kd.V_mono (ok' := (fun k_ => ((fun k_ => (P0_ k_ ∨ w.heap.size ≤ k_) ∧ k_ ≠ gb384)) k_ ∧ oB u5 k_)) (HO392.out) (fun k_ hk => ⟨⟨hk.1, hk.2.2⟩, hk.2.1⟩))).2.1 (Kd.V_F (Kd.V_mono (ok' := (fun k_ => ((fun k_ => (P0_ k_ ∨ w.heap.size ≤ k_) ∧ k_ ≠ gb384)) k_ ∧ oB u5 k_)) (HO392.out) (fun k_ hk => ⟨⟨hk.1, hk.2.2⟩, hk.2.1⟩))) (Kd.cV (Kd.V_mono (ok' := (fun k_ => ((fun k_ => (P0_ k_ ∨ w.heap.size ≤ k_) ∧ k_ ≠ gb384)) k_ ∧ oB u5 k_)) (HO397.out) (fun k_ hk => ⟨⟨hk.1, hk.2.2⟩, hk.2.1⟩))).2.1 (Kd.V_F (Kd.V_mono (ok' := (fun k_ => ((fun k_ => (P0_ k_ ∨ w.heap.size ≤ k_) ∧ k_ ≠ gb384)) k_ ∧ oB u5 k_)) (HO397.out) (fun k_ hk => ⟨⟨hk.1, hk.2.2⟩, hk.2.1⟩)))))
   (case aB => exact (kB HB))
   (case aF => exact (fun k_ hk => ⟨(.inr (Nat.le_trans (aD (kB HB)) hk)), Kd.freshB (g := gb384) (o := .cells #[.slice (some ad385) ((aA l0 x10_1).f0).length c383_0, .slice (some ad386) ((aA l0 x10_1).f1).length c383_1] 33 (0, 0)) (kM BK384) k_ hk⟩))
   (case aO => exact (kQ HO_5))
   (case aS => exact (aD (kB HB)))
   (case aL => have := LMc12.out; omega)
   intro v399 w20 ho hb hg hat
   rw [← Ny398.out] at ho
   have n0_ := yD (Kd.V_afterv (ok := (fun k_ => (P0_ k_ ∨ w.heap.size ≤ k_) ∧ k_ ≠ gb384)) (mV HO_8 (fun _ hk => ⟨⟨hk.1, hk.2.2⟩, hk.2.1⟩)) hg hat)
   have n1_ := yD (Kd.V_afterv (ok := (fun k_ => (P0_ k_ ∨ w.heap.size ≤ k_) ∧ k_ ≠ gb384)) (mV HL383_0 (fun _ hk => ⟨⟨hk.1, hk.2.2⟩, hk.2.1⟩)) hg hat)
   have n2_ := yD (Kd.V_afterv (ok := (fun k_ => (P0_ k_ ∨ w.heap.size ≤ k_) ∧ k_ ≠ gb384)) (mV HL383_1 (fun _ hk => ⟨⟨hk.1, hk.2.2⟩, hk.2.1⟩)) hg hat)
   have n3_ := yD (blk_grown (g := gb384) (o := .cells #[.slice (some ad385) ((aA l0 x10_1).f0).length c383_0, .slice (some ad386) ((aA l0 x10_1).f1).length c383_1] 33 (0, 0)) (kM BK384) hg (Kd.N_away HO_5.out (fun _ hk => hk.2)))
   have n4_ := yD (Kd.V_afterv (ok := (fun k_ => (P0_ k_ ∨ w.heap.size ≤ k_) ∧ k_ ≠ gb384)) (mV HO392 (fun _ hk => ⟨⟨hk.1, hk.2.2⟩, hk.2.1⟩)) hg hat)
   have n5_ := yD (Kd.V_afterv (ok := (fun k_ => (P0_ k_ ∨ w.heap.size ≤ k_) ∧ k_ ≠ gb384)) (mV HO397 (fun _ hk => ⟨⟨hk.1, hk.2.2⟩, hk.2.1⟩)) hg hat)
   have n6_ := yD (hb)
   have n7_ := yD (ho)
   clear HO_8 HL383_0 HL383_1 BK384 HO392 HO397 HB HO_5; have HO_8 := n0_; have HL383_0 := n1_; have HL383_1 := n2_; have BK384 := n3_; have HO392 := n4_; have HO397 := n5_; have HB := n6_; have HO400 := n7_; clear n0_ n1_ n2_ n3_ n4_ n5_ n6_ n7_ ho hb hg hat
   refine hK.out _ _ (cz2 BK384.out) (fun hHeld => ?_)
   clear hK K
   refine nZ 34 ?_
   refine qa 11 10 2047 ?_
   refine qd ?_
   try go_wp2
   go_roundg k1
   case measure => have := HK1.out; omega
   case rel => exact ⟨(y398), (wrap64 (x10_1 + 1)), kF, H', ⟨by have := HK1.out; omega⟩, ⟨mN HO400 (fun _ hk => hk.1)⟩, ⟨mV HO_8 (fun _ hk => ⟨hk.1.1, hk.2⟩)⟩, ⟨kR1 HB⟩⟩
def impl_sameBox.f (k : Nat) (l0_0 l0_1 : List Int) (l1_0 l1_1 : List Int) : Option (Bool) := (bG.f k l0_0 l1_0).bind fun t403 => (if t403 = true then ((bG.f k l0_1 l1_1).bind fun t404 => (some t404)) else (some false))
theorem impl_sameBox.calls (k : Nat) (A0_0 : Option Addr) (c0_0 : Nat) (l0_0 : List Int) (A0_1 : Option Addr) (c0_1 : Nat) (l0_1 : List Int) (A1_0 : Option Addr) (c1_0 : Nat) (l1_0 : List Int) (A1_1 : Option Addr) (c1_1 : Nat) (l1_1 : List Int) (r : Bool) (w : World) (C0_0 : Cm (Kd.int .i64) w A0_0 c0_0 l0_0) (C0_1 : Cm (Kd.int .i64) w A0_1 c0_1 l0_1) (C1_0 : Cm (Kd.int .i64) w A1_0 c1_0 l1_0) (C1_1 : Cm (Kd.int .i64) w A1_1 c1_1 l1_1) (h : impl_sameBox.f k l0_0 l0_1 l1_0 l1_1 = some r) :
 Calls Try.prog 77 #[.agg #[.slice A0_0 l0_0.length c0_0, .slice A0_1 l0_1.length c0_1], .agg #[.slice A1_0 l1_0.length c1_0, .slice A1_1 l1_1.length c1_1]] w fun e w' => e = .returned (.bool r) ∧ Below w.heap.size w w' := by
 have hu33 := Try.underlying33
 have HB := yD (Below.refl w.heap.size w)
 unfold impl_sameBox.f at h
 have H := h
 clear h
 replace ⟨t403, A3, H⟩ := sV H
 replace H := sS H; rcases H with ⟨rfl, H⟩ | ⟨rfl, H⟩
 ·
  obtain rfl := sJ H; go_enter Try.func77, Try.ntmps77
  go_wp2_with (first | (refine gD 2 ?_; refine bF (N := 2) (cs := #[.slice A0_0 l0_0.length c0_0, .slice A0_1 l0_1.length c0_1]) (t := 33) HB ?_; intro gb401 w11 BK401 GW401 HB) | (refine gD 3 ?_; refine bE (N := 3) (cs := #[.slice A1_0 l1_0.length c1_0, .slice A1_1 l1_1.length c1_1]) (t := 33) ?_; intro gb402 hg w12 hbox hb; have BK402 := yD (hbox); have GW402 := sW hg HB; replace HB := zX HB hb; have NB401_402 := yD ((by rw [hg]; exact Nat.ne_of_lt (cT (kN BK401)) : gb401 ≠ gb402)); have NB402_401 := yD ((by rw [hg]; exact Nat.ne_of_gt (cT (kN BK401)) : gb402 ≠ gb401)); replace BK401 := zY BK401 hb; clear hb hbox hg; have hnb13 := NB401_402.out; have hnc13 := NB402_401.out; have := cf2_ BK401.out; have := cf2_ BK402.out) | (refine gC 90 ?_; refine gL 9 Try.func90 _ (dm (bG.calls k _ _ l0_0 _ _ l1_0 false _ (C0_0.b HB) (C1_0.b HB) A3.out) fun nd => ?_)))
  go_ret
  exact ⟨kE, kR1 HB⟩
 replace ⟨t404, A5, H⟩ := sV H
 obtain rfl := sJ H; go_enter Try.func77, Try.ntmps77
 go_wp2_with (first | (refine gD 2 ?_; refine bF (N := 2) (cs := #[.slice A0_0 l0_0.length c0_0, .slice A0_1 l0_1.length c0_1]) (t := 33) HB ?_; intro gb401 w6 BK401 GW401 HB) | (refine gD 3 ?_; refine bE (N := 3) (cs := #[.slice A1_0 l1_0.length c1_0, .slice A1_1 l1_1.length c1_1]) (t := 33) ?_; intro gb402 hg w7 hbox hb; have BK402 := yD (hbox); have GW402 := sW hg HB; replace HB := zX HB hb; have NB401_402 := yD ((by rw [hg]; exact Nat.ne_of_lt (cT (kN BK401)) : gb401 ≠ gb402)); have NB402_401 := yD ((by rw [hg]; exact Nat.ne_of_gt (cT (kN BK401)) : gb402 ≠ gb401)); replace BK401 := zY BK401 hb; clear hb hbox hg; have hnb8 := NB401_402.out; have hnc8 := NB402_401.out; have := cf2_ BK401.out; have := cf2_ BK402.out) | (refine gC 90 ?_; refine gL 9 Try.func90 _ (dm (bG.calls k _ _ l0_0 _ _ l1_0 true _ (C0_0.b HB) (C1_0.b HB) A3.out) fun nd => ?_)) | (go_at_call 90; (with_reducible refine (bG.calls k _ _ l0_1 _ _ l1_1 t404 _ (C0_1.b HB) (C1_1.b HB) A5.out).mono ?_); rintro e w' ⟨rfl, ⟨nd, rfl⟩⟩))
 go_ret
 exact ⟨kE, kR1 HB⟩
def bM.l0 : Nat → List (S33) → List (S33) → Int → Int → Option (Bool)
 | 0, _, _, _, _ => none
 | k + 1, x1, x15, x16, x17 => if x17 < x16 then (if 0 ≤ x17 then (if x17 < (x15.length : Int) then (if x17 < (x1.length : Int) then ((impl_sameBox.f k ((aA x15 x17).f0) ((aA x15 x17).f1) ((aA x1 x17).f0) ((aA x1 x17).f1)).bind fun t409 => (if t409 = true then (bM.l0 k x1 x15 x16 (wrap64 (x17 + 1))) else (some false))) else (none)) else (none)) else (none)) else (some true)
def bM.f (k : Nat) (l0 l1 : List (S33))  : Option (Bool) := if (l0.length : Int) = (l1.length : Int) then (bM.l0 k l1 l0 (l0.length : Int) 0) else (some false)
theorem bM.calls (k : Nat) (A0 : Option Addr) (c0 : Nat) (l0 : List (S33)) (A1 : Option Addr) (c1 : Nat) (l1 : List (S33))  (r : Bool) (w : World) (C0 : Cm k33 w A0 c0 l0) (C1 : Cm k33 w A1 c1 l1) (h : bM.f k l0 l1 = some r) :
 Calls Try.prog 76 #[.slice A0 l0.length c0, .slice A1 l1.length c1, .func (.func 77) #[] #[]] w fun e w' => e = .returned (.bool r) ∧ Below w.heap.size w w' := by
 have hu33 := Try.underlying33
 have HB := yD (Below.refl w.heap.size w)
 unfold bM.f at h
 have H := h
 clear h
 replace H := sP H; rcases H with ⟨c4, c4b0, c4b1, H⟩ | ⟨c4, c4b0, c4b1, H⟩
 ·
  have c4b2 : (l0.length == l1.length) = false := by first | simpa using c4 | (simp at c4 ⊢; omega)
  obtain rfl := sJ H; go_enter Try.func76, Try.ntmps76
  go_wp2
  go_ret
  exact ⟨kE, kR0 HB⟩
 have c4b2 : (l0.length == l1.length) = true := by first | simpa using c4 | (simp at c4 ⊢; omega)
 clear c4
 have H' := yD H
 clear H; go_enter Try.func76, Try.ntmps76
 go_wp2
 go_loopg [17] k (fun kq v17 w' => ∃ (x17_1 : Int), v17 = .int .i64 x17_1 ∧ aC (bM.l0 kq l1 l0 (l0.length : Int) x17_1 = some r) ∧ aC (kq ≤ k) ∧ aC (Below w.heap.size w w'))
 case atStart => exact ⟨(0), kF, H', ⟨Nat.le_refl _⟩, ⟨kR0 HB⟩⟩
 case round =>
  clear H'
  obtain ⟨x17_1, rfl, HA, HK1, HB⟩ := hrel
  cases gk with
  | zero => exact absurd HA.out (by simp [bM.l0])
  | succ k1 =>
   have H := HA.out; clear HA
   simp only [bM.l0] at H
   replace H := sG H; rcases H with ⟨c5b0, H⟩ | ⟨c5b0, H⟩
   · obtain rfl := sJ H
     go_wp2
     go_ret
     exact ⟨kE, kR0 HB⟩
   replace ⟨c6b0, H⟩ := sE H
   replace ⟨c7b0, H⟩ := sE H
   replace ⟨c8b0, H⟩ := sE H
   replace ⟨t409, A9, H⟩ := sV H
   replace H := sS H; rcases H with ⟨rfl, H⟩ | ⟨rfl, H⟩
   ·
    obtain rfl := sJ H
    obtain ⟨p405, q405, ad405, A405_0, c405_0, A405_1, c405_1, e405, hx405_0, hx405_1, HC405_0, HR405_0, HC405_1, HR405_1⟩ := sI (at_T33 C0.r x17_1)
    cases e405
    replace hx405_0 := kD HB hx405_0
    replace hx405_1 := kD HB hx405_1
    go_wp2_with (first | (refine gD 8 ?_; refine bF (N := 8) (cs := #[.slice none 0 0, .slice none 0 0]) (t := 33) HB ?_; intro gb406 w18 BK406 GW406 HB; have := cf2_ BK406.out; have p407 : 0 ≤ (x17_1 : Int) := zP (by assumption); have q407 : x17_1 < (l1.length : Int) := zP (by assumption); obtain ⟨ad407, A407_0, c407_0, A407_1, c407_1, e407, hx407_0, hx407_1, HC407_0, HR407_0, HC407_1, HR407_1⟩ := at_T33 C1.r x17_1 p407 q407; cases e407; have hn407_0 : ad407.block ≠ gb406 := Nat.ne_of_lt (Nat.lt_of_lt_of_le (by have := zQ _ _ hx407_0; first | rwa [add_block] at this | exact this) GW406.out); have hn407_1 : ad407.block ≠ gb406 := Nat.ne_of_lt (Nat.lt_of_lt_of_le (by have := zQ _ _ hx407_0; first | rwa [add_block] at this | exact this) GW406.out); replace hx407_0 := kD HB hx407_0; replace hx407_1 := kD HB hx407_1; replace hx407_0 := (cell_far (p := ⟨gb406, 0, none⟩) (by first | (rw [add_block]; exact hn407_0) | (show (Addr.add _ _).block ≠ _; rw [add_block]; exact hn407_0) | exact hn407_0) (.slice A405_0 ((aA l0 x17_1).f0).length c405_0)).trans hx407_0; replace hx407_1 := (cell_far (p := ⟨gb406, 0, none⟩) (by first | (rw [add_block]; exact hn407_0) | (show (Addr.add _ _).block ≠ _; rw [add_block]; exact hn407_0) | exact hn407_0) (.slice A405_0 ((aA l0 x17_1).f0).length c405_0)).trans hx407_1; replace hx407_0 := (cell_far (p := ⟨gb406, 1, none⟩) (by first | (rw [add_block]; exact hn407_1) | (show (Addr.add _ _).block ≠ _; rw [add_block]; exact hn407_1) | exact hn407_1) (.slice A405_1 ((aA l0 x17_1).f1).length c405_1)).trans hx407_0; replace hx407_1 := (cell_far (p := ⟨gb406, 1, none⟩) (by first | (rw [add_block]; exact hn407_1) | (show (Addr.add _ _).block ≠ _; rw [add_block]; exact hn407_1) | exact hn407_1) (.slice A405_1 ((aA l0 x17_1).f1).length c405_1)).trans hx407_1; clear hn407_0; clear hn407_1; replace p407 := eq_true p407; replace q407 := eq_true q407) | (refine gD 9 ?_; refine bE (N := 9) (cs := #[.slice none 0 0, .slice none 0 0]) (t := 33) ?_; intro gb408 hg w20 hbox hb; have BK408 := yD (hbox); have GW408 := sW hg HB; replace HB := zX HB hb; have NB406_408 := yD ((by rw [hg]; exact Nat.ne_of_lt (cT (g := gb406) (o := .cells #[.slice A405_0 ((aA l0 x17_1).f0).length c405_0, .slice A405_1 ((aA l0 x17_1).f1).length c405_1] 33 (0, 0)) (by (with_reducible repeat (first | refine yM ?_ _ | refine yO ?_ | refine yN ?_ _)); exact bA2_ BK406.out)) : gb406 ≠ gb408)); have NB408_406 := yD ((by rw [hg]; exact Nat.ne_of_gt (cT (g := gb406) (o := .cells #[.slice A405_0 ((aA l0 x17_1).f0).length c405_0, .slice A405_1 ((aA l0 x17_1).f1).length c405_1] 33 (0, 0)) (by (with_reducible repeat (first | refine yM ?_ _ | refine yO ?_ | refine yN ?_ _)); exact bA2_ BK406.out)) : gb408 ≠ gb406)); replace BK406 := yD (zB (g := gb406) (o := .cells #[.slice A405_0 ((aA l0 x17_1).f0).length c405_0, .slice A405_1 ((aA l0 x17_1).f1).length c405_1] 33 (0, 0)) (by (with_reducible repeat (first | refine yM ?_ _ | refine yO ?_ | refine yN ?_ _)); exact bA2_ BK406.out) hb); clear hb hbox hg; have hnb21 := NB408_406.out; have hnc21 := NB406_408.out; have := cf2_ BK408.out; have := cf2_ BK406.out) | (go_at_call 77; (with_reducible refine (impl_sameBox.calls k1 _ _ ((aA l0 x17_1).f0) _ _ ((aA l0 x17_1).f1) _ _ ((aA l1 x17_1).f0) _ _ ((aA l1 x17_1).f1) false _ (cB HR405_0 HC405_0 HB) (cB HR405_1 HC405_1 HB) (cB HR407_0 HC407_0 HB) (cB HR407_1 HC407_1 HB) A9.out).mono ?_); rintro e w24 ⟨rfl, hb⟩; replace BK406 := yD (zB (g := gb406) (o := .cells #[.slice A405_0 ((aA l0 x17_1).f0).length c405_0, .slice A405_1 ((aA l0 x17_1).f1).length c405_1] 33 (0, 0)) (by (with_reducible repeat (first | refine yM ?_ _ | refine yO ?_ | refine yN ?_ _)); refine blk_far ?_ NB406_408.out _; (with_reducible repeat (first | refine yM ?_ _ | refine yO ?_ | refine yN ?_ _)); refine blk_far ?_ NB406_408.out _; (with_reducible repeat (first | refine yM ?_ _ | refine yO ?_ | refine yN ?_ _)); exact BK406.out) hb); replace BK408 := yD (zB (g := gb408) (o := .cells #[.slice A407_0 ((aA l1 x17_1).f0).length c407_0, .slice A407_1 ((aA l1 x17_1).f1).length c407_1] 33 (0, 0)) (by (with_reducible repeat (first | refine yM ?_ _ | refine yO ?_ | refine yN ?_ _)); exact bA2_ BK408.out) hb); replace HB := zX HB hb; clear hb))
    go_ret
    exact ⟨kE, kR1 HB⟩
   have H' := yD H
   clear H
   obtain ⟨p405, q405, ad405, A405_0, c405_0, A405_1, c405_1, e405, hx405_0, hx405_1, HC405_0, HR405_0, HC405_1, HR405_1⟩ := sI (at_T33 C0.r x17_1)
   cases e405
   replace hx405_0 := kD HB hx405_0
   replace hx405_1 := kD HB hx405_1
   go_wp2_with (first | (refine gD 8 ?_; refine bF (N := 8) (cs := #[.slice none 0 0, .slice none 0 0]) (t := 33) HB ?_; intro gb406 w11 BK406 GW406 HB; have := cf2_ BK406.out; have p407 : 0 ≤ (x17_1 : Int) := zP (by assumption); have q407 : x17_1 < (l1.length : Int) := zP (by assumption); obtain ⟨ad407, A407_0, c407_0, A407_1, c407_1, e407, hx407_0, hx407_1, HC407_0, HR407_0, HC407_1, HR407_1⟩ := at_T33 C1.r x17_1 p407 q407; cases e407; have hn407_0 : ad407.block ≠ gb406 := Nat.ne_of_lt (Nat.lt_of_lt_of_le (by have := zQ _ _ hx407_0; first | rwa [add_block] at this | exact this) GW406.out); have hn407_1 : ad407.block ≠ gb406 := Nat.ne_of_lt (Nat.lt_of_lt_of_le (by have := zQ _ _ hx407_0; first | rwa [add_block] at this | exact this) GW406.out); replace hx407_0 := kD HB hx407_0; replace hx407_1 := kD HB hx407_1; replace hx407_0 := (cell_far (p := ⟨gb406, 0, none⟩) (by first | (rw [add_block]; exact hn407_0) | (show (Addr.add _ _).block ≠ _; rw [add_block]; exact hn407_0) | exact hn407_0) (.slice A405_0 ((aA l0 x17_1).f0).length c405_0)).trans hx407_0; replace hx407_1 := (cell_far (p := ⟨gb406, 0, none⟩) (by first | (rw [add_block]; exact hn407_0) | (show (Addr.add _ _).block ≠ _; rw [add_block]; exact hn407_0) | exact hn407_0) (.slice A405_0 ((aA l0 x17_1).f0).length c405_0)).trans hx407_1; replace hx407_0 := (cell_far (p := ⟨gb406, 1, none⟩) (by first | (rw [add_block]; exact hn407_1) | (show (Addr.add _ _).block ≠ _; rw [add_block]; exact hn407_1) | exact hn407_1) (.slice A405_1 ((aA l0 x17_1).f1).length c405_1)).trans hx407_0; replace hx407_1 := (cell_far (p := ⟨gb406, 1, none⟩) (by first | (rw [add_block]; exact hn407_1) | (show (Addr.add _ _).block ≠ _; rw [add_block]; exact hn407_1) | exact hn407_1) (.slice A405_1 ((aA l0 x17_1).f1).length c405_1)).trans hx407_1; clear hn407_0; clear hn407_1; replace p407 := eq_true p407; replace q407 := eq_true q407) | (refine gD 9 ?_; refine bE (N := 9) (cs := #[.slice none 0 0, .slice none 0 0]) (t := 33) ?_; intro gb408 hg w13 hbox hb; have BK408 := yD (hbox); have GW408 := sW hg HB; replace HB := zX HB hb; have NB406_408 := yD ((by rw [hg]; exact Nat.ne_of_lt (cT (g := gb406) (o := .cells #[.slice A405_0 ((aA l0 x17_1).f0).length c405_0, .slice A405_1 ((aA l0 x17_1).f1).length c405_1] 33 (0, 0)) (by (with_reducible repeat (first | refine yM ?_ _ | refine yO ?_ | refine yN ?_ _)); exact bA2_ BK406.out)) : gb406 ≠ gb408)); have NB408_406 := yD ((by rw [hg]; exact Nat.ne_of_gt (cT (g := gb406) (o := .cells #[.slice A405_0 ((aA l0 x17_1).f0).length c405_0, .slice A405_1 ((aA l0 x17_1).f1).length c405_1] 33 (0, 0)) (by (with_reducible repeat (first | refine yM ?_ _ | refine yO ?_ | refine yN ?_ _)); exact bA2_ BK406.out)) : gb408 ≠ gb406)); replace BK406 := yD (zB (g := gb406) (o := .cells #[.slice A405_0 ((aA l0 x17_1).f0).length c405_0, .slice A405_1 ((aA l0 x17_1).f1).length c405_1] 33 (0, 0)) (by (with_reducible repeat (first | refine yM ?_ _ | refine yO ?_ | refine yN ?_ _)); exact bA2_ BK406.out) hb); clear hb hbox hg; have hnb14 := NB408_406.out; have hnc14 := NB406_408.out; have := cf2_ BK408.out; have := cf2_ BK406.out) | (go_at_call 77; (with_reducible refine (impl_sameBox.calls k1 _ _ ((aA l0 x17_1).f0) _ _ ((aA l0 x17_1).f1) _ _ ((aA l1 x17_1).f0) _ _ ((aA l1 x17_1).f1) true _ (cB HR405_0 HC405_0 HB) (cB HR405_1 HC405_1 HB) (cB HR407_0 HC407_0 HB) (cB HR407_1 HC407_1 HB) A9.out).mono ?_); rintro e w17 ⟨rfl, hb⟩; replace BK406 := yD (zB (g := gb406) (o := .cells #[.slice A405_0 ((aA l0 x17_1).f0).length c405_0, .slice A405_1 ((aA l0 x17_1).f1).length c405_1] 33 (0, 0)) (by (with_reducible repeat (first | refine yM ?_ _ | refine yO ?_ | refine yN ?_ _)); refine blk_far ?_ NB406_408.out _; (with_reducible repeat (first | refine yM ?_ _ | refine yO ?_ | refine yN ?_ _)); refine blk_far ?_ NB406_408.out _; (with_reducible repeat (first | refine yM ?_ _ | refine yO ?_ | refine yN ?_ _)); exact BK406.out) hb); replace BK408 := yD (zB (g := gb408) (o := .cells #[.slice A407_0 ((aA l1 x17_1).f0).length c407_0, .slice A407_1 ((aA l1 x17_1).f1).length c407_1] 33 (0, 0)) (by (with_reducible repeat (first | refine yM ?_ _ | refine yO ?_ | refine yN ?_ _)); exact bA2_ BK408.out) hb); replace HB := zX HB hb; clear hb))
   go_roundg k1
   case measure => have := HK1.out; omega
   case rel => exact ⟨(wrap64 (x17_1 + 1)), kF, H', ⟨by have := HK1.out; omega⟩, ⟨kR1 HB⟩⟩
def impl_SameBoxes.f (k : Nat) (l0 l1 : List (S33)) : Option (Bool) := (bM.f k l0 l1).bind fun t410 => (some t410)
theorem impl_SameBoxes.calls (k : Nat) (A0 : Option Addr) (c0 : Nat) (l0 : List (S33)) (A1 : Option Addr) (c1 : Nat) (l1 : List (S33)) (r : Bool) (w : World) (C0 : Cm k33 w A0 c0 l0) (C1 : Cm k33 w A1 c1 l1) (h : impl_SameBoxes.f k l0 l1 = some r) :
 Calls Try.prog 51 #[.slice A0 l0.length c0, .slice A1 l1.length c1] w fun e w' => e = .returned (.bool r) ∧ Below w.heap.size w w' := by
 have HB := yD (Below.refl w.heap.size w)
 unfold impl_SameBoxes.f at h
 have H := h
 clear h
 replace ⟨t410, A3, H⟩ := sV H
 obtain rfl := sJ H; go_enter Try.func51, Try.ntmps51
 go_wp2_with (first | (refine gC 76 ?_; refine gL 7 Try.func76 _ (dn (bM.calls k _ _ l0 _ _ l1 t410 _ ?z1 ?z3 A3.out) fun w4 hb => ?_); (case z1 => exact ⟨(by repeat (first | exact C0.r | (with_reducible first | refine yV ?_ _ | refine yW ?_ _ | refine yX ?_))), C0.h⟩); (case z3 => exact ⟨(by repeat (first | exact C1.r | (with_reducible first | refine yV ?_ _ | refine yW ?_ _ | refine yX ?_))), C1.h⟩); replace HB := zX HB hb; clear hb))
 go_ret
 exact ⟨kE, kR0 HB⟩
section
open Go.Shelf
def slices_Grow_nil.ren : Go.Shelf.Ren := ⟨fun | 4 => 95 | n => n, fun | 22 => 23 | 25 => 2 | 3 => 3 | 4 => 4 | 9 => 9 | 20 => 20 | 0 => 0 | n => n, fun n => n⟩
theorem slices_Grow_nil.lays : Go.Proofs.Lays8.n4 Try.prog slices_Grow_nil.ren :=
 { mixed := by kernel_rfl, f4 := ⟨Try.f95.name, by decide, Try.func95.trans (congrArg some (by kernel_rfl))⟩, t0 := Try.underlying0, a0 := Try.isAgg0, z0 := Try.sizeOf0, v0 := Try.zeroValue0, t3 := Try.underlying3, a3 := Try.isAgg3, z3 := Try.sizeOf3, v3 := Try.zeroValue3, t4 := Try.underlying4, a4 := Try.isAgg4, z4 := Try.sizeOf4, v4 := Try.zeroValue4, t9 := Try.underlying9, a9 := Try.isAgg9, z9 := Try.sizeOf9, v9 := Try.zeroValue9, t20 := Try.underlying20, a20 := Try.isAgg20, z20 := Try.sizeOf20, v20 := Try.zeroValue20, t22 := Try.underlying23, a22 := Try.isAgg23, z22 := Try.sizeOf23, v22 := Try.zeroValue23 }
def slices_Grow_nil.f (a1 : Int) : Option (List Int) := if 0 ≤ a1 ∧ a1 ≤ 1073741824 then some [] else none
theorem slices_Grow_nil.info : (Try.prog.info? 2).map (fun i => (i.zero, i.size, i.bytes)) = some (some (.int .i64 0), 1, 8) := by kernel_rfl
theorem slices_Grow_nil.calls (a1 : Int) (r : List Int) (w : World) (h : slices_Grow_nil.f a1 = some r) :
 Calls Try.prog 95 #[.slice none 0 0, .int .i64 a1] w fun e w' => ∃ v0_ : Value, e = .returned (v0_) ∧ Kd.R (Kd.int .i64) 2 w' w.heap.size (fun _ => True) v0_ r ∧ Below w.heap.size w w' := by
 unfold slices_Grow_nil.f at h
 split at h
 ·
  rename_i hc
  obtain ⟨h0, h1⟩ := hc
  obtain ⟨c, rfl⟩ : ∃ c : Nat, a1 = (c : Int) := ⟨a1.toNat, by omega⟩
  obtain rfl := Option.some.inj h
  by_cases hc0 : c = 0
  · subst hc0
    refine (Any8.slices_Grow_room slices_Grow_nil.lays none 0 0 0 w (Nat.le_refl _) (by omega) (by omega) (by omega)).mono ?_
    rintro e w' ⟨rfl, rfl⟩
    exact ⟨_, rfl, Kd.R_nil _ _ _ _ _, Below.refl _ _⟩
  ·
   obtain ⟨i0, hi0, hz⟩ := Option.map_eq_some_iff.1 slices_Grow_nil.info
   simp only [Prod.mk.injEq] at hz
   obtain ⟨hz0, hs0, hb0⟩ := hz
   refine (Any8.slices_Grow_grow slices_Grow_nil.lays i0 _ hi0 hz0 (by omega) none 0 0 c [] w (Nat.le_refl _) (by omega) (by rw [hb0]; omega) (by omega) (by simp) (fun _ => rfl) (fun a ha => by cases ha)).mono ?_
   have hG := grownCap_le_maxLen w (0 + c) 0 2 (by unfold maxLen; omega)
   have hg := grownCap_ge w (0 + c) 0 2
   change grownCap w (0 + c) 0 (slices_Grow_nil.ren.t 25) ≤ maxLen at hG
   change 0 + c ≤ grownCap w (0 + c) 0 (slices_Grow_nil.ren.t 25) at hg
   generalize grownCap w (0 + c) 0 (slices_Grow_nil.ren.t 25) = G at hG hg ⊢
   rintro e w' ⟨rfl, rfl⟩
   refine ⟨_, rfl, ⟨fun _ _ => trivial, [], ⟨by simp, .inr ⟨w.heap.size, G, ([] : List Value).toArray ++ Builtin.zeroCells (.int .i64 0 : Value).cells (0 + c - 0) ++ Builtin.zeroCells (.int .i64 0 : Value).cells (G - (0 + c)), rfl, Nat.le_refl _, ?_, Nat.zero_le _, hG, ?_, by simp⟩⟩, cW.none _ _⟩, below_alloc (below_drew (Below.refl _ _)) _⟩
   · show (w.heap.push _)[w.heap.size]? = _
     rw [Array.getElem?_push_size]
     rfl
   · simp only [Array.size_append, size_zeroCells, List.size_toArray, List.length_nil, Nat.zero_add, Nat.sub_zero, ← Nat.add_mul]
     show _ = G * 1
     have : c + (G - c) = G := by omega
     rw [this]
     rfl
 · cases h
end
mutual
def aY.l0 : Nat → List (List Int) → Int → List (List Int) → Int → Int → Option (List Int)
 | 0, _, _, _, _, _ => none
 | k + 1, x0, x3, x9, x10, x11 => if x11 < x10 then (if 0 ≤ x11 then (if x11 < (x9.length : Int) then (if (wrap64 (x3 + ((rd_L2 x9 x11).length : Int))) < 0 then (none) else (aY.l0 k x0 (wrap64 (x3 + ((rd_L2 x9 x11).length : Int))) x9 x10 (wrap64 (x11 + 1)))) else (none)) else (none)) else ((slices_Grow_nil.f x3).bind fun t412 => (aY.l1 k t412 x0 (x0.length : Int) 0))
def aY.l1 : Nat → List Int → List (List Int) → Int → Int → Option (List Int)
 | 0, _, _, _, _ => none
 | k + 1, x6, x25, x26, x27 => if x27 < x26 then (if 0 ≤ x27 then (if x27 < (x25.length : Int) then (if x6.length + (rd_L2 x25 x27).length < 17592186044416 then (aY.l1 k (x6 ++ (rd_L2 x25 x27)) x25 x26 (wrap64 (x27 + 1))) else (none)) else (none)) else (none)) else (some x6)
end
def aY.f (k : Nat) (l0 : List (List Int)) : Option (List Int) := aY.l0 k l0 0 l0 (l0.length : Int) 0
theorem aY.calls (k : Nat) (A0 : Option Addr) (c0 : Nat) (l0 : List (List Int)) (r : List Int) (w : World) (C0 : Cm (Kd.slice 2 (Kd.int .i64)) w A0 c0 l0) (h : aY.f k l0 = some r) :
 Calls Try.prog 78 #[.slice A0 l0.length c0] w fun e w' => ∃ v0_ : Value, e = .returned (v0_) ∧ Kd.R (Kd.int .i64) 2 w' w.heap.size (fun _ => True) v0_ r ∧ Below w.heap.size w w' := by
 have HB := yD (Below.refl w.heap.size w)
 unfold aY.f at h
 have H := h
 clear h
 have H' := yD H
 clear H; go_enter Try.func78, Try.ntmps78
 go_wp2
 go_loopg [3, 11] k (fun kq v3 v11 w' => ∃ (x3_1 : Int) (x11_1 : Int), v3 = .int .i64 x3_1 ∧ v11 = .int .i64 x11_1 ∧ aC (aY.l0 kq l0 x3_1 l0 (l0.length : Int) x11_1 = some r) ∧ aC (kq ≤ k) ∧ aC (Below w.heap.size w w'))
 case atStart => exact ⟨(0), (0), kF, kF, H', ⟨Nat.le_refl _⟩, ⟨kR0 HB⟩⟩
 case round =>
  clear H'
  obtain ⟨x3_1, x11_1, rfl, rfl, HA, HK1, HB⟩ := hrel
  cases gk with
  | zero => exact absurd HA.out (by simp [aY.l0])
  | succ k1 =>
   have H := HA.out; clear HA
   simp only [aY.l0] at H
   replace H := sF H; rcases H with ⟨c2b0, H⟩ | ⟨c2b0, H⟩
   ·
    replace ⟨c3b0, H⟩ := sE H
    replace ⟨c4b0, H⟩ := sE H
    by_cases c5 : (wrap64 (x3_1 + ((rd_L2 l0 x11_1).length : Int))) < 0
    · rw [if_pos c5] at H
      exact absurd H (by simp)
    ·
     rw [if_neg c5] at H
     have c5b0 : decide ((wrap64 (x3_1 + ((rd_L2 l0 x11_1).length : Int))) < 0) = false := zS c5; clear c5
     have H' := yD H
     clear H
     obtain ⟨p411, q411, ad411, A411_0, c411_0, e411, hx411_0, HC411_0, HR411_0⟩ := sI (at_L2 C0.r x11_1)
     cases e411
     replace hx411_0 := kD HB hx411_0
     go_wp2
     go_roundg k1
     case measure => have := HK1.out; omega
     case rel => exact ⟨(wrap64 (x3_1 + ((rd_L2 l0 x11_1).length : Int))), (wrap64 (x11_1 + 1)), kF, kF, H', ⟨by have := HK1.out; omega⟩, ⟨kR0 HB⟩⟩
   replace ⟨t412, A6, H⟩ := sV H
   have H' := yD H
   clear H
   go_wp2_with (first | (refine gC 95 ?_; refine gL 24 Try.func95 _ (dv (slices_Grow_nil.calls  x3_1 t412 _ A6.out) fun v413 w7 ho0 hb => ?_); have HO414 := yD (yZ ho0 (aD (kB HB))); replace HB := zX HB hb; clear hb ho0))
   (try simp only [Act.put, zH, zI, zJ])
   go_loopg [6, 27] k1 (fun kq v6 v27 w' => ∃ (x6_2 : List Int) (x27_2 : Int), v27 = .int .i64 x27_2 ∧ aC (aY.l1 kq x6_2 l0 (l0.length : Int) x27_2 = some r) ∧ aC (kq ≤ k1) ∧ aC (Kd.R (Kd.int .i64) 2 w' w.heap.size (fun _ => True) v6 x6_2) ∧ aC (Below w.heap.size w w'))
   case atStart => exact ⟨(t412), (0), kF, H', ⟨Nat.le_refl _⟩, ⟨kA HO414⟩, ⟨kR0 HB⟩⟩
   case round =>
    clear H'
    obtain ⟨x6_2, x27_2, rfl, HA, HK2, HO_6, HB⟩ := hrel
    cases gk with
    | zero => exact absurd HA.out (by simp [aY.l1])
    | succ k2 =>
     have H := HA.out; clear HA
     simp only [aY.l1] at H
     replace H := sG H; rcases H with ⟨c8b0, H⟩ | ⟨c8b0, H⟩
     · obtain rfl := sJ H
       go_wp2
       go_ret
       exact ⟨_, kE, kA HO_6, kR0 HB⟩
     replace ⟨c9b0, H⟩ := sE H
     replace ⟨c10b0, H⟩ := sE H
     replace ⟨LMc11, H⟩ := sM H
     generalize hy416 : ((x6_2 ++ (rd_L2 l0 x27_2)) : List Int) = y416 at H
     have Ny416 := yD hy416.symm
     clear hy416
     have H' := yD H
     clear H
     obtain ⟨p415, q415, ad415, A415_0, c415_0, e415, hx415_0, HC415_0, HR415_0⟩ := sI (at_L2 C0.r x27_2)
     cases e415
     replace hx415_0 := kD HB hx415_0
     go_wp2_with (first | ((with_reducible refine gate_builtin (b := .append) (xs := #[.tmp 31, .tmp 32]) rfl ?_); at_builtin; refine Kd.R_append_rows (Kd.int .i64) (w0 := w) w.heap.size rfl (.tmp 31) (.tmp 32) 23 2 (.int .i64 0) 8 rfl Try.underlying23 info2 rfl (by decide) (by omega) u6 x6_2 (rd_L2 l0 x27_2) _ _ _ (fun _ => True) (fun _ => False) rfl rfl ?aO ?aR (fun _ _ h => h) (fun _ h => h.elim) ?aF ?aB ?aS ?aL ?_; (case aR => exact kV (yY HR415_0.out HB.out)); (case aB => exact (kB HB)); (case aF => exact (fun _ _ => trivial)); (case aO => exact (kA HO_6)); (case aS => exact (aD (kB HB))); (case aL => have := LMc11.out; omega); intro v417 w12 ho hb hg hat; rw [← Ny416.out] at ho; replace HB := yD (hb); have HO418 := yD (ho); clear HO_6; clear ho hb hg hat))
     go_roundg k2
     case measure => have := HK1.out; have := HK2.out; omega
     case rel => exact ⟨(y416), (wrap64 (x27_2 + 1)), kF, H', ⟨by have := HK1.out; have := HK2.out; omega⟩, ⟨kA HO418⟩, ⟨kR0 HB⟩⟩
end Go.Proofs.Ytkkdkeogplgkfaa.PFnSelectedBoxes
