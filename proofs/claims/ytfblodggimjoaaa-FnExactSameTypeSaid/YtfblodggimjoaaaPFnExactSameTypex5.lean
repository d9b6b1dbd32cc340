/- Each Go function here comes to what the plain function of its name says, where that says something. Made by a program of this session, over the print. -/
import Derived.Test.YtfblodggimjoaaaPFnExactSameTypex0
namespace Go.Proofs.Ytfblodggimjoaaa.PFnExactSameType
open Go.RowKit Go.Proofs.YtfblodggimjoaaaW.PrintWords Go.Proofs.YtfblodggimjoaaaW.PrintLast Go.Proofs.YtfblodggimjoaaaW.PrintMore
attribute [local go_sem] max2_int min2_int max_two min_two max_three min_three max_four min_four   -- for this text's walks alone
set_option linter.unusedVariables false
set_option linter.unusedSimpArgs false

/-! ### laws_eqInt64S: function 45 -/
def laws_eqInt64S.l0 : Nat → List Int → List Int → Int → Option (Bool)
 | 0, _, _, _ => none
 | k + 1, x0, x1, x5 => if x5 < (x0.length : Int) then (if 0 ≤ x5 then (if x5 < (x1.length : Int) then (if (rd x0 x5) = (rd x1 x5) then (laws_eqInt64S.l0 k x0 x1 (wrap64 (x5 + 1))) else (some false)) else (none)) else (none)) else (some true)
def laws_eqInt64S.f (k : Nat) (l0 : List Int) (l1 : List Int) : Option (Bool) := if (l0.length : Int) = (l1.length : Int) then (laws_eqInt64S.l0 k l0 l1 0) else (some false)
set_option maxHeartbeats 8000000 in
set_option maxRecDepth 100000 in
theorem laws_eqInt64S.calls (k : Nat) (A0 : Option Addr) (c0 : Nat) (l0 : List Int) (A1 : Option Addr) (c1 : Nat) (l1 : List Int) (r : Bool) (w : World) (hr0 : Kd.C (Kd.int .i64) w A0 l0.length l0) (hc0 : l0.length ≤ c0) (hr1 : Kd.C (Kd.int .i64) w A1 l1.length l1) (hc1 : l1.length ≤ c1) (h : laws_eqInt64S.f k l0 l1 = some r) :
 Calls Try.prog 45 #[.slice A0 l0.length c0, .slice A1 l1.length c1] w fun e w' => e = .returned (.bool r) ∧ Drawn0 w w' := by
 have HR0 := yD hr0
 have HC0 := yD hc0
 clear hr0 hc0
 have HR1 := yD hr1
 have HC1 := yD hc1
 clear hr1 hc1
 have H : (if (l0.length : Int) = (l1.length : Int) then (laws_eqInt64S.l0 k l0 l1 0) else (some false)) = some r := h
 clear h
 by_cases c3 : (l0.length : Int) = (l1.length : Int)
 ·
  rw [if_pos c3] at H
  have c3b0 : ((l0.length : Int) == (l1.length : Int)) = true := beq_iff_eq.mpr c3
  have c3b1 : ((l0.length : Int) != (l1.length : Int)) = false := bne_eq_false_iff_eq.mpr c3
  have c3b2 : (l0.length == l1.length) = true := by first | simpa using c3 | (simp at c3 ⊢; omega)
  clear c3
  have H' := yD H
  clear H; go_enter Try.func45, Try.ntmps45
  go_wp2
  repeat (go_quiet (fail); try go_wp2)
  go_loopg [5] k (fun kq v5 w' => ∃ (x5_1 : Int), v5 = .int .i64 x5_1 ∧ Aside0 (laws_eqInt64S.l0 kq l0 l1 x5_1 = some r) ∧ Aside0 (kq ≤ k) ∧ Drawn0 w w')
  case atStart => exact ⟨(0), (by first | rfl | (simp; done) | (simp [*]; done)), H', ⟨Nat.le_refl _⟩, by repeat (first | exact Drawn0.refl _ | apply Drawn0.step)⟩
  case round =>
   clear H'
   try clear c1; try clear c3; try clear c3b0; try clear c3b1; try clear c3b2
   obtain ⟨x5_1, rfl, HA, HK1, ⟨m1, rfl⟩⟩ := hrel
   cases gk with
   | zero => exact absurd HA.out (by simp [laws_eqInt64S.l0])
   | succ k1 =>
    have H := HA.out; clear HA
    simp only [laws_eqInt64S.l0] at H
    by_cases c4 : x5_1 < (l0.length : Int)
    ·
     rw [if_pos c4] at H
     have c4b0 : decide (x5_1 < (l0.length : Int)) = true := zR c4; clear c4
     by_cases c5 : 0 ≤ x5_1
     ·
      rw [if_pos c5] at H
      have c5b0 : decide (0 ≤ x5_1) = true := zR c5; clear c5
      by_cases c6 : x5_1 < (l1.length : Int)
      ·
       rw [if_pos c6] at H
       have c6b0 : decide (x5_1 < (l1.length : Int)) = true := zR c6; clear c6
       by_cases c7 : (rd l0 x5_1) = (rd l1 x5_1)
       ·
        rw [if_pos c7] at H
        have c7b0 : ((rd l0 x5_1) == (rd l1 x5_1)) = true := beq_iff_eq.mpr c7
        have c7b1 : ((rd l0 x5_1) != (rd l1 x5_1)) = false := bne_eq_false_iff_eq.mpr c7
        clear c7
        have H' := yD H
        clear H
        have p369 : 0 ≤ (x5_1 : Int) := zP (by assumption)
        have q369 : x5_1 < (l0.length : Int) := zP (by assumption)
        obtain ⟨ad369, e369, hx369_0⟩ := Kd.at_int HR0.out x5_1 p369 q369
        cases e369; replace p369 := eq_true p369; replace q369 := eq_true q369
        have p370 : 0 ≤ (x5_1 : Int) := zP (by assumption)
        have q370 : x5_1 < (l1.length : Int) := zP (by assumption)
        obtain ⟨ad370, e370, hx370_0⟩ := Kd.at_int HR1.out x5_1 p370 q370
        cases e370; replace p370 := eq_true p370; replace q370 := eq_true q370
        go_wp2
        repeat (go_quiet (fail); try go_wp2)
        go_roundg k1
        case measure => have := HK1.out; omega
        case rel => exact ⟨(wrap64 (x5_1 + 1)), (by first | rfl | (simp; done) | (simp [*]; done)), H', ⟨by have := HK1.out; omega⟩, by repeat (first | exact Drawn0.refl _ | apply Drawn0.step)⟩
       ·
        rw [if_neg c7] at H
        have c7b0 : ((rd l0 x5_1) == (rd l1 x5_1)) = false := beq_eq_false_iff_ne.mpr c7
        have c7b1 : ((rd l0 x5_1) != (rd l1 x5_1)) = true := bne_iff_ne.mpr c7
        obtain rfl := Option.some.inj H
        have p369 : 0 ≤ (x5_1 : Int) := zP (by assumption)
        have q369 : x5_1 < (l0.length : Int) := zP (by assumption)
        obtain ⟨ad369, e369, hx369_0⟩ := Kd.at_int HR0.out x5_1 p369 q369
        cases e369; replace p369 := eq_true p369; replace q369 := eq_true q369
        have p370 : 0 ≤ (x5_1 : Int) := zP (by assumption)
        have q370 : x5_1 < (l1.length : Int) := zP (by assumption)
        obtain ⟨ad370, e370, hx370_0⟩ := Kd.at_int HR1.out x5_1 p370 q370
        cases e370; replace p370 := eq_true p370; replace q370 := eq_true q370
        go_wp2
        repeat (go_quiet (fail); try go_wp2)
        go_ret
        exact ⟨by first | rfl | (simp; done) | (simp [*]; done), by repeat (first | exact Drawn0.refl _ | apply Drawn0.step)⟩
      · rw [if_neg c6] at H
        exact absurd H (by simp)
     · rw [if_neg c5] at H
       exact absurd H (by simp)
    · rw [if_neg c4] at H
      have c4b0 : decide (x5_1 < (l0.length : Int)) = false := zS c4; clear c4; obtain rfl := Option.some.inj H
      go_wp2
      repeat (go_quiet (fail); try go_wp2)
      go_ret
      exact ⟨by first | rfl | (simp; done) | (simp [*]; done), by repeat (first | exact Drawn0.refl _ | apply Drawn0.step)⟩
 ·
  rw [if_neg c3] at H
  have c3b0 : ((l0.length : Int) == (l1.length : Int)) = false := beq_eq_false_iff_ne.mpr c3
  have c3b1 : ((l0.length : Int) != (l1.length : Int)) = true := bne_iff_ne.mpr c3
  have c3b2 : (l0.length == l1.length) = false := by first | simpa using c3 | (simp at c3 ⊢; omega)
  obtain rfl := Option.some.inj H; go_enter Try.func45, Try.ntmps45
  go_wp2
  repeat (go_quiet (fail); try go_wp2)
  go_ret
  exact ⟨by first | rfl | (simp; done) | (simp [*]; done), by repeat (first | exact Drawn0.refl _ | apply Drawn0.step)⟩

/-! ### laws_eqMember: function 64 -/
def laws_eqMember.f (Y_ : Int → Int → Bool → Bool → List ByteArray → List Int → List (S64) → List (S33) → Int → Int → Int → Bool → Bool → List ByteArray → List Int → List (S64) → List (S33) → Int → Option (Bool)) (k : Nat) (a0_0 : ByteArray) (a0_1 : Int) (a0_2 : Int) (a0_3 : Int) (a0_4 : Bool) (a0_5 : Bool) (l0_6 : List ByteArray) (l0_7 : List Int) (l0_8 : List (S64)) (l0_9 : List (S33)) (a0_10 : Int) (a1_0 : ByteArray) (a1_1 : Int) (a1_2 : Int) (a1_3 : Int) (a1_4 : Bool) (a1_5 : Bool) (l1_6 : List ByteArray) (l1_7 : List Int) (l1_8 : List (S64)) (l1_9 : List (S33)) (a1_10 : Int) : Option (Bool) := if a0_0.toList = a1_0.toList then (if a0_1 = a1_1 then ((Y_ a0_2 a0_3 a0_4 a0_5 l0_6 l0_7 l0_8 l0_9 a0_10 a1_2 a1_3 a1_4 a1_5 l1_6 l1_7 l1_8 l1_9 a1_10).bind fun t403 => (if t403 = true then (some true) else (some false))) else (some false)) else (some false)
set_option maxHeartbeats 8000000 in
set_option maxRecDepth 100000 in
theorem laws_eqMember.calls (Y_ : Int → Int → Bool → Bool → List ByteArray → List Int → List (S64) → List (S33) → Int → Int → Int → Bool → Bool → List ByteArray → List Int → List (S64) → List (S33) → Int → Option (Bool)) (HY_ : ∀ (a0_0 : Int) (a0_1 : Int) (a0_2 : Bool) (a0_3 : Bool) (A0_4 : Option Addr) (c0_4 : Nat) (l0_4 : List ByteArray) (A0_5 : Option Addr) (c0_5 : Nat) (l0_5 : List Int) (A0_6 : Option Addr) (c0_6 : Nat) (l0_6 : List (S64)) (A0_7 : Option Addr) (c0_7 : Nat) (l0_7 : List (S33)) (a0_8 : Int) (a1_0 : Int) (a1_1 : Int) (a1_2 : Bool) (a1_3 : Bool) (A1_4 : Option Addr) (c1_4 : Nat) (l1_4 : List ByteArray) (A1_5 : Option Addr) (c1_5 : Nat) (l1_5 : List Int) (A1_6 : Option Addr) (c1_6 : Nat) (l1_6 : List (S64)) (A1_7 : Option Addr) (c1_7 : Nat) (l1_7 : List (S33)) (a1_8 : Int) (r : Bool) (w : World) (hr0_4 : Kd.C Kd.string w A0_4 l0_4.length l0_4) (hc0_4 : l0_4.length ≤ c0_4) (hr0_5 : Kd.C (Kd.int .i64) w A0_5 l0_5.length l0_5) (hc0_5 : l0_5.length ≤ c0_5) (hr0_6 : Kd.C k64 w A0_6 l0_6.length l0_6) (hc0_6 : l0_6.length ≤ c0_6) (hr0_7 : Kd.C k33 w A0_7 l0_7.length l0_7) (hc0_7 : l0_7.length ≤ c0_7) (hr1_4 : Kd.C Kd.string w A1_4 l1_4.length l1_4) (hc1_4 : l1_4.length ≤ c1_4) (hr1_5 : Kd.C (Kd.int .i64) w A1_5 l1_5.length l1_5) (hc1_5 : l1_5.length ≤ c1_5) (hr1_6 : Kd.C k64 w A1_6 l1_6.length l1_6) (hc1_6 : l1_6.length ≤ c1_6) (hr1_7 : Kd.C k33 w A1_7 l1_7.length l1_7) (hc1_7 : l1_7.length ≤ c1_7) (h : Y_ a0_0 a0_1 a0_2 a0_3 l0_4 l0_5 l0_6 l0_7 a0_8 a1_0 a1_1 a1_2 a1_3 l1_4 l1_5 l1_6 l1_7 a1_8 = some r), Calls Try.prog 11 #[.agg #[.int .i64 a0_0, .int .i64 a0_1, .bool a0_2, .bool a0_3, .slice A0_4 l0_4.length c0_4, .slice A0_5 l0_5.length c0_5, .slice A0_6 l0_6.length c0_6, .slice A0_7 l0_7.length c0_7, .int .i64 a0_8], .agg #[.int .i64 a1_0, .int .i64 a1_1, .bool a1_2, .bool a1_3, .slice A1_4 l1_4.length c1_4, .slice A1_5 l1_5.length c1_5, .slice A1_6 l1_6.length c1_6, .slice A1_7 l1_7.length c1_7, .int .i64 a1_8]] w fun e w' => e = .returned (.bool r) ∧ Below w.heap.size w w') (k : Nat) (a0_0 : ByteArray) (a0_1 : Int) (a0_2 : Int) (a0_3 : Int) (a0_4 : Bool) (a0_5 : Bool) (A0_6 : Option Addr) (c0_6 : Nat) (l0_6 : List ByteArray) (A0_7 : Option Addr) (c0_7 : Nat) (l0_7 : List Int) (A0_8 : Option Addr) (c0_8 : Nat) (l0_8 : List (S64)) (A0_9 : Option Addr) (c0_9 : Nat) (l0_9 : List (S33)) (a0_10 : Int) (a1_0 : ByteArray) (a1_1 : Int) (a1_2 : Int) (a1_3 : Int) (a1_4 : Bool) (a1_5 : Bool) (A1_6 : Option Addr) (c1_6 : Nat) (l1_6 : List ByteArray) (A1_7 : Option Addr) (c1_7 : Nat) (l1_7 : List Int) (A1_8 : Option Addr) (c1_8 : Nat) (l1_8 : List (S64)) (A1_9 : Option Addr) (c1_9 : Nat) (l1_9 : List (S33)) (a1_10 : Int) (r : Bool) (w : World) (hr0_6 : Kd.C Kd.string w A0_6 l0_6.length l0_6) (hc0_6 : l0_6.length ≤ c0_6) (hr0_7 : Kd.C (Kd.int .i64) w A0_7 l0_7.length l0_7) (hc0_7 : l0_7.length ≤ c0_7) (hr0_8 : Kd.C k64 w A0_8 l0_8.length l0_8) (hc0_8 : l0_8.length ≤ c0_8) (hr0_9 : Kd.C k33 w A0_9 l0_9.length l0_9) (hc0_9 : l0_9.length ≤ c0_9) (hr1_6 : Kd.C Kd.string w A1_6 l1_6.length l1_6) (hc1_6 : l1_6.length ≤ c1_6) (hr1_7 : Kd.C (Kd.int .i64) w A1_7 l1_7.length l1_7) (hc1_7 : l1_7.length ≤ c1_7) (hr1_8 : Kd.C k64 w A1_8 l1_8.length l1_8) (hc1_8 : l1_8.length ≤ c1_8) (hr1_9 : Kd.C k33 w A1_9 l1_9.length l1_9) (hc1_9 : l1_9.length ≤ c1_9) (h : laws_eqMember.f Y_ k a0_0 a0_1 a0_2 a0_3 a0_4 a0_5 l0_6 l0_7 l0_8 l0_9 a0_10 a1_0 a1_1 a1_2 a1_3 a1_4 a1_5 l1_6 l1_7 l1_8 l1_9 a1_10 = some r) :
 Calls Try.prog 64 #[.agg #[.string a0_0, .int .i64 a0_1, .int .i64 a0_2, .int .i64 a0_3, .bool a0_4, .bool a0_5, .slice A0_6 l0_6.length c0_6, .slice A0_7 l0_7.length c0_7, .slice A0_8 l0_8.length c0_8, .slice A0_9 l0_9.length c0_9, .int .i64 a0_10], .agg #[.string a1_0, .int .i64 a1_1, .int .i64 a1_2, .int .i64 a1_3, .bool a1_4, .bool a1_5, .slice A1_6 l1_6.length c1_6, .slice A1_7 l1_7.length c1_7, .slice A1_8 l1_8.length c1_8, .slice A1_9 l1_9.length c1_9, .int .i64 a1_10]] w fun e w' => e = .returned (.bool r) ∧ Below w.heap.size w w' := by
 have hu64 := Try.underlying64; have hu33 := Try.underlying33
 have HR0_6 := yD hr0_6
 have HC0_6 := yD hc0_6
 clear hr0_6 hc0_6
 have HR0_7 := yD hr0_7
 have HC0_7 := yD hc0_7
 clear hr0_7 hc0_7
 have HR0_8 := yD hr0_8
 have HC0_8 := yD hc0_8
 clear hr0_8 hc0_8
 have HR0_9 := yD hr0_9
 have HC0_9 := yD hc0_9
 clear hr0_9 hc0_9
 have HR1_6 := yD hr1_6
 have HC1_6 := yD hc1_6
 clear hr1_6 hc1_6
 have HR1_7 := yD hr1_7
 have HC1_7 := yD hc1_7
 clear hr1_7 hc1_7
 have HR1_8 := yD hr1_8
 have HC1_8 := yD hc1_8
 clear hr1_8 hc1_8
 have HR1_9 := yD hr1_9
 have HC1_9 := yD hc1_9
 clear hr1_9 hc1_9
 have HB := yD (Below.refl w.heap.size w)
 have H : (if a0_0.toList = a1_0.toList then (if a0_1 = a1_1 then ((Y_ a0_2 a0_3 a0_4 a0_5 l0_6 l0_7 l0_8 l0_9 a0_10 a1_2 a1_3 a1_4 a1_5 l1_6 l1_7 l1_8 l1_9 a1_10).bind fun t403 => (if t403 = true then (some true) else (some false))) else (some false)) else (some false)) = some r := h
 clear h
 by_cases c3 : a0_0.toList = a1_0.toList
 ·
  rw [if_pos c3] at H
  have c3b0 : (a0_0.toList == a1_0.toList) = true := beq_iff_eq.mpr c3
  have c3b1 : (a0_0.toList != a1_0.toList) = false := bne_eq_false_iff_eq.mpr c3
  clear c3
  by_cases c4 : a0_1 = a1_1
  ·
   rw [if_pos c4] at H
   have c4b0 : (a0_1 == a1_1) = true := beq_iff_eq.mpr c4
   have c4b1 : (a0_1 != a1_1) = false := bne_eq_false_iff_eq.mpr c4
   clear c4
   obtain ⟨t403, A50, H⟩ := zW_ H
   replace H : (if t403 = true then (some true) else (some false)) = some r := H
   have A5 := yD A50
   clear A50
   by_cases c6 : t403 = true
   · subst c6
     replace H : (some true) = some r := (by rw [if_pos rfl] at H; exact H); obtain rfl := Option.some.inj H; go_enter Try.func64, Try.ntmps64
     go_wp2_with (first | ((with_reducible refine gate_dst (N := 2) rfl ?_); refine box_event ?hg (N := 2) ?hd (cs := #[.string a0_0, .int .i64 a0_1, .int .i64 a0_2, .int .i64 a0_3, .bool a0_4, .bool a0_5, .slice A0_6 l0_6.length c0_6, .slice A0_7 l0_7.length c0_7, .slice A0_8 l0_8.length c0_8, .slice A0_9 l0_9.length c0_9, .int .i64 a0_10]) (t := 64) ?hr ?_; (case hd => rfl); (case hg => rfl); (case hr => first | (go_simp; done) | (go_simp; rfl)); intro gb401 hg w7 hbox hb; have BK401 := yD (hbox); have GW401 := yD ((by rw [hg]; exact (below_size (kB HB)) : w.heap.size ≤ gb401)); have GE401 := yD ((by rw [hg]; exact (below_size (kB HB)) : w.heap.size ≤ gb401)); replace HB := yD (zC (kB HB) hb); clear hb hbox hg) | ((with_reducible refine gate_dst (N := 3) rfl ?_); refine box_event ?hg (N := 3) ?hd (cs := #[.string a1_0, .int .i64 a1_1, .int .i64 a1_2, .int .i64 a1_3, .bool a1_4, .bool a1_5, .slice A1_6 l1_6.length c1_6, .slice A1_7 l1_7.length c1_7, .slice A1_8 l1_8.length c1_8, .slice A1_9 l1_9.length c1_9, .int .i64 a1_10]) (t := 64) ?hr ?_; (case hd => rfl); (case hg => rfl); (case hr => first | (go_simp; done) | (go_simp; rfl)); intro gb402 hg w8 hbox hb; have BK402 := yD (hbox); have GW402 := yD ((by rw [hg]; exact (below_size (kB HB)) : w.heap.size ≤ gb402)); have GE402 := yD ((by rw [hg]; exact (below_size (kB HB)) : w.heap.size ≤ gb402)); replace HB := yD (zC (kB HB) hb); have NB401_402 := yD ((by rw [hg]; exact Nat.ne_of_lt (blk_lt (kN BK401)) : gb401 ≠ gb402)); have NB402_401 := yD ((by rw [hg]; exact Nat.ne_of_gt (blk_lt (kN BK401)) : gb402 ≠ gb401)); replace BK401 := yD (zB (kN BK401) hb); clear hb hbox hg; have hnb9 := NB401_402.out; have hnc9 := NB402_401.out; obtain ⟨hcz10_0, hcz10_1, hcz10_2, hcz10_3, hcz10_4, hcz10_5, hcz10_6, hcz10_7, hcz10_8, hcz10_9, hcz10_10⟩ := cz11 BK401.out; obtain ⟨hfz10_0, hfz10_1, hfz10_2, hfz10_3, hfz10_4, hfz10_5, hfz10_6, hfz10_7, hfz10_8, hfz10_9, hfz10_10⟩ := fz11 BK401.out; obtain ⟨hcz11_0, hcz11_1, hcz11_2, hcz11_3, hcz11_4, hcz11_5, hcz11_6, hcz11_7, hcz11_8, hcz11_9, hcz11_10⟩ := cz11 BK402.out; obtain ⟨hfz11_0, hfz11_1, hfz11_2, hfz11_3, hfz11_4, hfz11_5, hfz11_6, hfz11_7, hfz11_8, hfz11_9, hfz11_10⟩ := fz11 BK402.out) | ((with_reducible refine gate_callee (f := 11) rfl ?_); refine gL 19 Try.func11 #[.agg #[.int .i64 a0_2, .int .i64 a0_3, .bool a0_4, .bool a0_5, .slice A0_6 l0_6.length c0_6, .slice A0_7 l0_7.length c0_7, .slice A0_8 l0_8.length c0_8, .slice A0_9 l0_9.length c0_9, .int .i64 a0_10], .agg #[.int .i64 a1_2, .int .i64 a1_3, .bool a1_4, .bool a1_5, .slice A1_6 l1_6.length c1_6, .slice A1_7 l1_7.length c1_7, .slice A1_8 l1_8.length c1_8, .slice A1_9 l1_9.length c1_9, .int .i64 a1_10]] ?_; (with_reducible refine (HY_ a0_2 a0_3 a0_4 a0_5 _ _ l0_6 _ _ l0_7 _ _ l0_8 _ _ l0_9 a0_10 a1_2 a1_3 a1_4 a1_5 _ _ l1_6 _ _ l1_7 _ _ l1_8 _ _ l1_9 a1_10 true _ ?side1 ?side2 ?side3 ?side4 ?side5 ?side6 ?side7 ?side8 ?side9 ?side10 ?side11 ?side12 ?side13 ?side14 ?side15 ?side16 A5.out).mono ?_); (case side1 => exact kV (yY HR0_6.out HB.out)); (case side2 => exact HC0_6.out); (case side3 => exact kV (yY HR0_7.out HB.out)); (case side4 => exact HC0_7.out); (case side5 => exact kV (yY HR0_8.out HB.out)); (case side6 => exact HC0_8.out); (case side7 => exact kV (yY HR0_9.out HB.out)); (case side8 => exact HC0_9.out); (case side9 => exact kV (yY HR1_6.out HB.out)); (case side10 => exact HC1_6.out); (case side11 => exact kV (yY HR1_7.out HB.out)); (case side12 => exact HC1_7.out); (case side13 => exact kV (yY HR1_8.out HB.out)); (case side14 => exact HC1_8.out); (case side15 => exact kV (yY HR1_9.out HB.out)); (case side16 => exact HC1_9.out); rintro e w12 ⟨rfl, hb⟩; refine ⟨_, rfl, ?_⟩; replace BK401 := yD (zB (kN BK401) hb); replace BK402 := yD (zB (kN BK402) hb); replace HB := yD (zC (kB HB) hb); clear hb))
     go_ret
     exact ⟨by first | rfl | (simp <;> rfl) | (simp [*] <;> rfl), kR0 HB⟩
   · replace c6 := Bool.eq_false_iff.mpr c6
     subst c6
     replace H : (some false) = some r := (by rw [if_neg (show ¬ (false = true) by decide)] at H; exact H); obtain rfl := Option.some.inj H; go_enter Try.func64, Try.ntmps64
     go_wp2_with (first | ((with_reducible refine gate_dst (N := 2) rfl ?_); refine box_event ?hg (N := 2) ?hd (cs := #[.string a0_0, .int .i64 a0_1, .int .i64 a0_2, .int .i64 a0_3, .bool a0_4, .bool a0_5, .slice A0_6 l0_6.length c0_6, .slice A0_7 l0_7.length c0_7, .slice A0_8 l0_8.length c0_8, .slice A0_9 l0_9.length c0_9, .int .i64 a0_10]) (t := 64) ?hr ?_; (case hd => rfl); (case hg => rfl); (case hr => first | (go_simp; done) | (go_simp; rfl)); intro gb401 hg w13 hbox hb; have BK401 := yD (hbox); have GW401 := yD ((by rw [hg]; exact (below_size (kB HB)) : w.heap.size ≤ gb401)); have GE401 := yD ((by rw [hg]; exact (below_size (kB HB)) : w.heap.size ≤ gb401)); replace HB := yD (zC (kB HB) hb); clear hb hbox hg) | ((with_reducible refine gate_dst (N := 3) rfl ?_); refine box_event ?hg (N := 3) ?hd (cs := #[.string a1_0, .int .i64 a1_1, .int .i64 a1_2, .int .i64 a1_3, .bool a1_4, .bool a1_5, .slice A1_6 l1_6.length c1_6, .slice A1_7 l1_7.length c1_7, .slice A1_8 l1_8.length c1_8, .slice A1_9 l1_9.length c1_9, .int .i64 a1_10]) (t := 64) ?hr ?_; (case hd => rfl); (case hg => rfl); (case hr => first | (go_simp; done) | (go_simp; rfl)); intro gb402 hg w14 hbox hb; have BK402 := yD (hbox); have GW402 := yD ((by rw [hg]; exact (below_size (kB HB)) : w.heap.size ≤ gb402)); have GE402 := yD ((by rw [hg]; exact (below_size (kB HB)) : w.heap.size ≤ gb402)); replace HB := yD (zC (kB HB) hb); have NB401_402 := yD ((by rw [hg]; exact Nat.ne_of_lt (blk_lt (kN BK401)) : gb401 ≠ gb402)); have NB402_401 := yD ((by rw [hg]; exact Nat.ne_of_gt (blk_lt (kN BK401)) : gb402 ≠ gb401)); replace BK401 := yD (zB (kN BK401) hb); clear hb hbox hg; have hnb15 := NB401_402.out; have hnc15 := NB402_401.out; obtain ⟨hcz16_0, hcz16_1, hcz16_2, hcz16_3, hcz16_4, hcz16_5, hcz16_6, hcz16_7, hcz16_8, hcz16_9, hcz16_10⟩ := cz11 BK401.out; obtain ⟨hfz16_0, hfz16_1, hfz16_2, hfz16_3, hfz16_4, hfz16_5, hfz16_6, hfz16_7, hfz16_8, hfz16_9, hfz16_10⟩ := fz11 BK401.out; obtain ⟨hcz17_0, hcz17_1, hcz17_2, hcz17_3, hcz17_4, hcz17_5, hcz17_6, hcz17_7, hcz17_8, hcz17_9, hcz17_10⟩ := cz11 BK402.out; obtain ⟨hfz17_0, hfz17_1, hfz17_2, hfz17_3, hfz17_4, hfz17_5, hfz17_6, hfz17_7, hfz17_8, hfz17_9, hfz17_10⟩ := fz11 BK402.out) | ((with_reducible refine gate_callee (f := 11) rfl ?_); refine gL 19 Try.func11 #[.agg #[.int .i64 a0_2, .int .i64 a0_3, .bool a0_4, .bool a0_5, .slice A0_6 l0_6.length c0_6, .slice A0_7 l0_7.length c0_7, .slice A0_8 l0_8.length c0_8, .slice A0_9 l0_9.length c0_9, .int .i64 a0_10], .agg #[.int .i64 a1_2, .int .i64 a1_3, .bool a1_4, .bool a1_5, .slice A1_6 l1_6.length c1_6, .slice A1_7 l1_7.length c1_7, .slice A1_8 l1_8.length c1_8, .slice A1_9 l1_9.length c1_9, .int .i64 a1_10]] ?_; (with_reducible refine (HY_ a0_2 a0_3 a0_4 a0_5 _ _ l0_6 _ _ l0_7 _ _ l0_8 _ _ l0_9 a0_10 a1_2 a1_3 a1_4 a1_5 _ _ l1_6 _ _ l1_7 _ _ l1_8 _ _ l1_9 a1_10 false _ ?side1 ?side2 ?side3 ?side4 ?side5 ?side6 ?side7 ?side8 ?side9 ?side10 ?side11 ?side12 ?side13 ?side14 ?side15 ?side16 A5.out).mono ?_); (case side1 => exact kV (yY HR0_6.out HB.out)); (case side2 => exact HC0_6.out); (case side3 => exact kV (yY HR0_7.out HB.out)); (case side4 => exact HC0_7.out); (case side5 => exact kV (yY HR0_8.out HB.out)); (case side6 => exact HC0_8.out); (case side7 => exact kV (yY HR0_9.out HB.out)); (case side8 => exact HC0_9.out); (case side9 => exact kV (yY HR1_6.out HB.out)); (case side10 => exact HC1_6.out); (case side11 => exact kV (yY HR1_7.out HB.out)); (case side12 => exact HC1_7.out); (case side13 => exact kV (yY HR1_8.out HB.out)); (case side14 => exact HC1_8.out); (case side15 => exact kV (yY HR1_9.out HB.out)); (case side16 => exact HC1_9.out); rintro e w18 ⟨rfl, hb⟩; refine ⟨_, rfl, ?_⟩; replace BK401 := yD (zB (kN BK401) hb); replace BK402 := yD (zB (kN BK402) hb); replace HB := yD (zC (kB HB) hb); clear hb))
     go_ret
     exact ⟨by first | rfl | (simp <;> rfl) | (simp [*] <;> rfl), kR0 HB⟩
  ·
   rw [if_neg c4] at H
   have c4b0 : (a0_1 == a1_1) = false := beq_eq_false_iff_ne.mpr c4
   have c4b1 : (a0_1 != a1_1) = true := bne_iff_ne.mpr c4
   obtain rfl := Option.some.inj H; go_enter Try.func64, Try.ntmps64
   go_wp2_with (first | ((with_reducible refine gate_dst (N := 2) rfl ?_); refine box_event ?hg (N := 2) ?hd (cs := #[.string a0_0, .int .i64 a0_1, .int .i64 a0_2, .int .i64 a0_3, .bool a0_4, .bool a0_5, .slice A0_6 l0_6.length c0_6, .slice A0_7 l0_7.length c0_7, .slice A0_8 l0_8.length c0_8, .slice A0_9 l0_9.length c0_9, .int .i64 a0_10]) (t := 64) ?hr ?_; (case hd => rfl); (case hg => rfl); (case hr => first | (go_simp; done) | (go_simp; rfl)); intro gb401 hg w19 hbox hb; have BK401 := yD (hbox); have GW401 := yD ((by rw [hg]; exact (below_size (kB HB)) : w.heap.size ≤ gb401)); have GE401 := yD ((by rw [hg]; exact (below_size (kB HB)) : w.heap.size ≤ gb401)); replace HB := yD (zC (kB HB) hb); clear hb hbox hg) | ((with_reducible refine gate_dst (N := 3) rfl ?_); refine box_event ?hg (N := 3) ?hd (cs := #[.string a1_0, .int .i64 a1_1, .int .i64 a1_2, .int .i64 a1_3, .bool a1_4, .bool a1_5, .slice A1_6 l1_6.length c1_6, .slice A1_7 l1_7.length c1_7, .slice A1_8 l1_8.length c1_8, .slice A1_9 l1_9.length c1_9, .int .i64 a1_10]) (t := 64) ?hr ?_; (case hd => rfl); (case hg => rfl); (case hr => first | (go_simp; done) | (go_simp; rfl)); intro gb402 hg w20 hbox hb; have BK402 := yD (hbox); have GW402 := yD ((by rw [hg]; exact (below_size (kB HB)) : w.heap.size ≤ gb402)); have GE402 := yD ((by rw [hg]; exact (below_size (kB HB)) : w.heap.size ≤ gb402)); replace HB := yD (zC (kB HB) hb); have NB401_402 := yD ((by rw [hg]; exact Nat.ne_of_lt (blk_lt (kN BK401)) : gb401 ≠ gb402)); have NB402_401 := yD ((by rw [hg]; exact Nat.ne_of_gt (blk_lt (kN BK401)) : gb402 ≠ gb401)); replace BK401 := yD (zB (kN BK401) hb); clear hb hbox hg; have hnb21 := NB401_402.out; have hnc21 := NB402_401.out; obtain ⟨hcz22_0, hcz22_1, hcz22_2, hcz22_3, hcz22_4, hcz22_5, hcz22_6, hcz22_7, hcz22_8, hcz22_9, hcz22_10⟩ := cz11 BK401.out; obtain ⟨hfz22_0, hfz22_1, hfz22_2, hfz22_3, hfz22_4, hfz22_5, hfz22_6, hfz22_7, hfz22_8, hfz22_9, hfz22_10⟩ := fz11 BK401.out; obtain ⟨hcz23_0, hcz23_1, hcz23_2, hcz23_3, hcz23_4, hcz23_5, hcz23_6, hcz23_7, hcz23_8, hcz23_9, hcz23_10⟩ := cz11 BK402.out; obtain ⟨hfz23_0, hfz23_1, hfz23_2, hfz23_3, hfz23_4, hfz23_5, hfz23_6, hfz23_7, hfz23_8, hfz23_9, hfz23_10⟩ := fz11 BK402.out))
   go_ret
   exact ⟨by first | rfl | (simp <;> rfl) | (simp [*] <;> rfl), kR0 HB⟩
 ·
  rw [if_neg c3] at H
  have c3b0 : (a0_0.toList == a1_0.toList) = false := beq_eq_false_iff_ne.mpr c3
  have c3b1 : (a0_0.toList != a1_0.toList) = true := bne_iff_ne.mpr c3
  obtain rfl := Option.some.inj H; go_enter Try.func64, Try.ntmps64
  go_wp2_with (first | ((with_reducible refine gate_dst (N := 2) rfl ?_); refine box_event ?hg (N := 2) ?hd (cs := #[.string a0_0, .int .i64 a0_1, .int .i64 a0_2, .int .i64 a0_3, .bool a0_4, .bool a0_5, .slice A0_6 l0_6.length c0_6, .slice A0_7 l0_7.length c0_7, .slice A0_8 l0_8.length c0_8, .slice A0_9 l0_9.length c0_9, .int .i64 a0_10]) (t := 64) ?hr ?_; (case hd => rfl); (case hg => rfl); (case hr => first | (go_simp; done) | (go_simp; rfl)); intro gb401 hg w24 hbox hb; have BK401 := yD (hbox); have GW401 := yD ((by rw [hg]; exact (below_size (kB HB)) : w.heap.size ≤ gb401)); have GE401 := yD ((by rw [hg]; exact (below_size (kB HB)) : w.heap.size ≤ gb401)); replace HB := yD (zC (kB HB) hb); clear hb hbox hg) | ((with_reducible refine gate_dst (N := 3) rfl ?_); refine box_event ?hg (N := 3) ?hd (cs := #[.string a1_0, .int .i64 a1_1, .int .i64 a1_2, .int .i64 a1_3, .bool a1_4, .bool a1_5, .slice A1_6 l1_6.length c1_6, .slice A1_7 l1_7.length c1_7, .slice A1_8 l1_8.length c1_8, .slice A1_9 l1_9.length c1_9, .int .i64 a1_10]) (t := 64) ?hr ?_; (case hd => rfl); (case hg => rfl); (case hr => first | (go_simp; done) | (go_simp; rfl)); intro gb402 hg w25 hbox hb; have BK402 := yD (hbox); have GW402 := yD ((by rw [hg]; exact (below_size (kB HB)) : w.heap.size ≤ gb402)); have GE402 := yD ((by rw [hg]; exact (below_size (kB HB)) : w.heap.size ≤ gb402)); replace HB := yD (zC (kB HB) hb); have NB401_402 := yD ((by rw [hg]; exact Nat.ne_of_lt (blk_lt (kN BK401)) : gb401 ≠ gb402)); have NB402_401 := yD ((by rw [hg]; exact Nat.ne_of_gt (blk_lt (kN BK401)) : gb402 ≠ gb401)); replace BK401 := yD (zB (kN BK401) hb); clear hb hbox hg; have hnb26 := NB401_402.out; have hnc26 := NB402_401.out; obtain ⟨hcz27_0, hcz27_1, hcz27_2, hcz27_3, hcz27_4, hcz27_5, hcz27_6, hcz27_7, hcz27_8, hcz27_9, hcz27_10⟩ := cz11 BK401.out; obtain ⟨hfz27_0, hfz27_1, hfz27_2, hfz27_3, hfz27_4, hfz27_5, hfz27_6, hfz27_7, hfz27_8, hfz27_9, hfz27_10⟩ := fz11 BK401.out; obtain ⟨hcz28_0, hcz28_1, hcz28_2, hcz28_3, hcz28_4, hcz28_5, hcz28_6, hcz28_7, hcz28_8, hcz28_9, hcz28_10⟩ := cz11 BK402.out; obtain ⟨hfz28_0, hfz28_1, hfz28_2, hfz28_3, hfz28_4, hfz28_5, hfz28_6, hfz28_7, hfz28_8, hfz28_9, hfz28_10⟩ := fz11 BK402.out))
  go_ret
  exact ⟨by first | rfl | (simp <;> rfl) | (simp [*] <;> rfl), kR0 HB⟩

/-! ### laws_eqMemberS: function 46 -/
def laws_eqMemberS.l0 (Y_ : Int → Int → Bool → Bool → List ByteArray → List Int → List (S64) → List (S33) → Int → Int → Int → Bool → Bool → List ByteArray → List Int → List (S64) → List (S33) → Int → Option (Bool)) : Nat → List (S64) → List (S64) → Int → Option (Bool)
 | 0, _, _, _ => none
 | k + 1, x0, x1, x5 => if x5 < (x0.length : Int) then (if 0 ≤ x5 then (if x5 < (x1.length : Int) then ((laws_eqMember.f Y_ k ((rd_T64 x0 x5).f0) ((rd_T64 x0 x5).f1) ((rd_T64 x0 x5).f2.f0) ((rd_T64 x0 x5).f2.f1) ((rd_T64 x0 x5).f2.f2) ((rd_T64 x0 x5).f2.f3) ((rd_T64 x0 x5).f2.f4) ((rd_T64 x0 x5).f2.f5) ((rd_T64 x0 x5).f2.f6) ((rd_T64 x0 x5).f2.f7) ((rd_T64 x0 x5).f2.f8) ((rd_T64 x1 x5).f0) ((rd_T64 x1 x5).f1) ((rd_T64 x1 x5).f2.f0) ((rd_T64 x1 x5).f2.f1) ((rd_T64 x1 x5).f2.f2) ((rd_T64 x1 x5).f2.f3) ((rd_T64 x1 x5).f2.f4) ((rd_T64 x1 x5).f2.f5) ((rd_T64 x1 x5).f2.f6) ((rd_T64 x1 x5).f2.f7) ((rd_T64 x1 x5).f2.f8)).bind fun t406 => (if t406 = true then (laws_eqMemberS.l0 Y_ k x0 x1 (wrap64 (x5 + 1))) else (some false))) else (none)) else (none)) else (some true)
def laws_eqMemberS.f (Y_ : Int → Int → Bool → Bool → List ByteArray → List Int → List (S64) → List (S33) → Int → Int → Int → Bool → Bool → List ByteArray → List Int → List (S64) → List (S33) → Int → Option (Bool)) (k : Nat) (l0 : List (S64)) (l1 : List (S64)) : Option (Bool) := if (l0.length : Int) = (l1.length : Int) then (laws_eqMemberS.l0 Y_ k l0 l1 0) else (some false)
def laws_eqMemberS.T6 : Bool × List (List Nat × List Nat) := (true, [([], []), ([], []), ([0, 1], [0, 1]), ([2], [2]), ([], []), ([], []), ([4, 5], [4, 5]), ([6], [6]), ([3, 7], [3, 7]), ([8], [8])])
def laws_eqMemberS.B6 : List Nat := [0, 0, 3, 7, 0, 0, 48, 112, 255, 511]
theorem laws_eqMemberS.tab6 : rtab .any (opsOf Try.f46 6) = laws_eqMemberS.T6 := by kernel_rfl
theorem laws_eqMemberS.bits6 : waitsOk laws_eqMemberS.T6.2 laws_eqMemberS.B6 = true := by kernel_rfl
set_option maxHeartbeats 8000000 in
set_option maxRecDepth 100000 in
theorem laws_eqMemberS.calls (Y_ : Int → Int → Bool → Bool → List ByteArray → List Int → List (S64) → List (S33) → Int → Int → Int → Bool → Bool → List ByteArray → List Int → List (S64) → List (S33) → Int → Option (Bool)) (HY_ : ∀ (a0_0 : Int) (a0_1 : Int) (a0_2 : Bool) (a0_3 : Bool) (A0_4 : Option Addr) (c0_4 : Nat) (l0_4 : List ByteArray) (A0_5 : Option Addr) (c0_5 : Nat) (l0_5 : List Int) (A0_6 : Option Addr) (c0_6 : Nat) (l0_6 : List (S64)) (A0_7 : Option Addr) (c0_7 : Nat) (l0_7 : List (S33)) (a0_8 : Int) (a1_0 : Int) (a1_1 : Int) (a1_2 : Bool) (a1_3 : Bool) (A1_4 : Option Addr) (c1_4 : Nat) (l1_4 : List ByteArray) (A1_5 : Option Addr) (c1_5 : Nat) (l1_5 : List Int) (A1_6 : Option Addr) (c1_6 : Nat) (l1_6 : List (S64)) (A1_7 : Option Addr) (c1_7 : Nat) (l1_7 : List (S33)) (a1_8 : Int) (r : Bool) (w : World) (hr0_4 : Kd.C Kd.string w A0_4 l0_4.length l0_4) (hc0_4 : l0_4.length ≤ c0_4) (hr0_5 : Kd.C (Kd.int .i64) w A0_5 l0_5.length l0_5) (hc0_5 : l0_5.length ≤ c0_5) (hr0_6 : Kd.C k64 w A0_6 l0_6.length l0_6) (hc0_6 : l0_6.length ≤ c0_6) (hr0_7 : Kd.C k33 w A0_7 l0_7.length l0_7) (hc0_7 : l0_7.length ≤ c0_7) (hr1_4 : Kd.C Kd.string w A1_4 l1_4.length l1_4) (hc1_4 : l1_4.length ≤ c1_4) (hr1_5 : Kd.C (Kd.int .i64) w A1_5 l1_5.length l1_5) (hc1_5 : l1_5.length ≤ c1_5) (hr1_6 : Kd.C k64 w A1_6 l1_6.length l1_6) (hc1_6 : l1_6.length ≤ c1_6) (hr1_7 : Kd.C k33 w A1_7 l1_7.length l1_7) (hc1_7 : l1_7.length ≤ c1_7) (h : Y_ a0_0 a0_1 a0_2 a0_3 l0_4 l0_5 l0_6 l0_7 a0_8 a1_0 a1_1 a1_2 a1_3 l1_4 l1_5 l1_6 l1_7 a1_8 = some r), Calls Try.prog 11 #[.agg #[.int .i64 a0_0, .int .i64 a0_1, .bool a0_2, .bool a0_3, .slice A0_4 l0_4.length c0_4, .slice A0_5 l0_5.length c0_5, .slice A0_6 l0_6.length c0_6, .slice A0_7 l0_7.length c0_7, .int .i64 a0_8], .agg #[.int .i64 a1_0, .int .i64 a1_1, .bool a1_2, .bool a1_3, .slice A1_4 l1_4.length c1_4, .slice A1_5 l1_5.length c1_5, .slice A1_6 l1_6.length c1_6, .slice A1_7 l1_7.length c1_7, .int .i64 a1_8]] w fun e w' => e = .returned (.bool r) ∧ Below w.heap.size w w') (k : Nat) (A0 : Option Addr) (c0 : Nat) (l0 : List (S64)) (A1 : Option Addr) (c1 : Nat) (l1 : List (S64)) (r : Bool) (w : World) (hr0 : Kd.C k64 w A0 l0.length l0) (hc0 : l0.length ≤ c0) (hr1 : Kd.C k64 w A1 l1.length l1) (hc1 : l1.length ≤ c1) (h : laws_eqMemberS.f Y_ k l0 l1 = some r) :
 Calls Try.prog 46 #[.slice A0 l0.length c0, .slice A1 l1.length c1] w fun e w' => e = .returned (.bool r) ∧ Below w.heap.size w w' := by
 have hu64 := Try.underlying64
 have HR0 := yD hr0
 have HC0 := yD hc0
 clear hr0 hc0
 have HR1 := yD hr1
 have HC1 := yD hc1
 clear hr1 hc1
 have HB := yD (Below.refl w.heap.size w)
 have H : (if (l0.length : Int) = (l1.length : Int) then (laws_eqMemberS.l0 Y_ k l0 l1 0) else (some false)) = some r := h
 clear h
 by_cases c3 : (l0.length : Int) = (l1.length : Int)
 ·
  rw [if_pos c3] at H
  have c3b0 : ((l0.length : Int) == (l1.length : Int)) = true := beq_iff_eq.mpr c3
  have c3b1 : ((l0.length : Int) != (l1.length : Int)) = false := bne_eq_false_iff_eq.mpr c3
  have c3b2 : (l0.length == l1.length) = true := by first | simpa using c3 | (simp at c3 ⊢; omega)
  clear c3
  have H' := yD H
  clear H; go_enter Try.func46, Try.ntmps46
  go_wp2
  go_loopg [5] k (fun kq v5 w' => ∃ (x5_1 : Int), v5 = .int .i64 x5_1 ∧ Aside0 (laws_eqMemberS.l0 Y_ kq l0 l1 x5_1 = some r) ∧ Aside0 (kq ≤ k) ∧ Aside0 (Below w.heap.size w w'))
  case atStart => exact ⟨(0), (by first | rfl | (simp; done) | (simp [*]; done)), H', ⟨Nat.le_refl _⟩, ⟨kR1 HB⟩⟩
  case round =>
   clear H'
   try clear c1; try clear c3; try clear c3b0; try clear c3b1; try clear c3b2
   obtain ⟨x5_1, rfl, HA, HK1, HB⟩ := hrel
   cases gk with
   | zero => exact absurd HA.out (by simp [laws_eqMemberS.l0])
   | succ k1 =>
    have H := HA.out; clear HA
    simp only [laws_eqMemberS.l0] at H
    by_cases c4 : x5_1 < (l0.length : Int)
    ·
     rw [if_pos c4] at H
     have c4b0 : decide (x5_1 < (l0.length : Int)) = true := zR c4; clear c4
     by_cases c5 : 0 ≤ x5_1
     ·
      rw [if_pos c5] at H
      have c5b0 : decide (0 ≤ x5_1) = true := zR c5; clear c5
      by_cases c6 : x5_1 < (l1.length : Int)
      ·
       rw [if_pos c6] at H
       have c6b0 : decide (x5_1 < (l1.length : Int)) = true := zR c6; clear c6
       obtain ⟨t406, A70, H⟩ := zW_ H
       replace H : (if t406 = true then (laws_eqMemberS.l0 Y_ k1 l0 l1 (wrap64 (x5_1 + 1))) else (some false)) = some r := H
       have A7 := yD A70
       clear A70
       by_cases c8 : t406 = true
       ·
        subst c8
        replace H : (laws_eqMemberS.l0 Y_ k1 l0 l1 (wrap64 (x5_1 + 1))) = some r := (by rw [if_pos rfl] at H; exact H)
        have H' := yD H
        clear H
        try go_wp2
        have n0_ := yD (yP HB.out)
        clear HB; have HB := n0_; clear n0_
        have p404 : 0 ≤ (x5_1 : Int) := zP (by assumption)
        have q404 : x5_1 < (l0.length : Int) := zP (by assumption)
        obtain ⟨ad404, A404_6, c404_6, A404_7, c404_7, A404_8, c404_8, A404_9, c404_9, e404, hx404_0, hx404_1, hx404_2, hx404_3, hx404_4, hx404_5, hx404_6, hx404_7, hx404_8, hx404_9, hx404_10, hl404_6, hi404_6, hl404_7, hi404_7, hl404_8, hi404_8, hl404_9, hi404_9⟩ := at_T64 HR0.out x5_1 p404 q404
        have hw404_10 := hx404_10; have hw404_9 := hx404_9; have hw404_8 := hx404_8; have hw404_7 := hx404_7; have hw404_6 := hx404_6; have hw404_5 := hx404_5; have hw404_4 := hx404_4; have hw404_3 := hx404_3; have hw404_2 := hx404_2; have hw404_1 := hx404_1; have hw404_0 := hx404_0; cases e404
        replace hx404_0 := (HB.out.cell (zQ w _ hx404_0)).trans hx404_0
        replace hx404_1 := (HB.out.cell (zQ w _ hx404_1)).trans hx404_1
        replace hx404_2 := (HB.out.cell (zQ w _ hx404_2)).trans hx404_2
        replace hx404_3 := (HB.out.cell (zQ w _ hx404_3)).trans hx404_3
        replace hx404_4 := (HB.out.cell (zQ w _ hx404_4)).trans hx404_4
        replace hx404_5 := (HB.out.cell (zQ w _ hx404_5)).trans hx404_5
        replace hx404_6 := (HB.out.cell (zQ w _ hx404_6)).trans hx404_6
        replace hx404_7 := (HB.out.cell (zQ w _ hx404_7)).trans hx404_7
        replace hx404_8 := (HB.out.cell (zQ w _ hx404_8)).trans hx404_8
        replace hx404_9 := (HB.out.cell (zQ w _ hx404_9)).trans hx404_9
        replace hx404_10 := (HB.out.cell (zQ w _ hx404_10)).trans hx404_10
        have HR404_6 := yD hi404_6
        have HC404_6 := yD hl404_6
        clear hi404_6 hl404_6
        have HR404_7 := yD hi404_7
        have HC404_7 := yD hl404_7
        clear hi404_7 hl404_7
        have HR404_8 := yD hi404_8
        have HC404_8 := yD hl404_8
        clear hi404_8 hl404_8
        have HR404_9 := yD hi404_9
        have HC404_9 := yD hl404_9
        clear hi404_9 hl404_9; replace p404 := eq_true p404; replace q404 := eq_true q404
        have p405 : 0 ≤ (x5_1 : Int) := zP (by assumption)
        have q405 : x5_1 < (l1.length : Int) := zP (by assumption)
        obtain ⟨ad405, A405_6, c405_6, A405_7, c405_7, A405_8, c405_8, A405_9, c405_9, e405, hx405_0, hx405_1, hx405_2, hx405_3, hx405_4, hx405_5, hx405_6, hx405_7, hx405_8, hx405_9, hx405_10, hl405_6, hi405_6, hl405_7, hi405_7, hl405_8, hi405_8, hl405_9, hi405_9⟩ := at_T64 HR1.out x5_1 p405 q405
        have hw405_10 := hx405_10; have hw405_9 := hx405_9; have hw405_8 := hx405_8; have hw405_7 := hx405_7; have hw405_6 := hx405_6; have hw405_5 := hx405_5; have hw405_4 := hx405_4; have hw405_3 := hx405_3; have hw405_2 := hx405_2; have hw405_1 := hx405_1; have hw405_0 := hx405_0; cases e405
        replace hx405_0 := (HB.out.cell (zQ w _ hx405_0)).trans hx405_0
        replace hx405_1 := (HB.out.cell (zQ w _ hx405_1)).trans hx405_1
        replace hx405_2 := (HB.out.cell (zQ w _ hx405_2)).trans hx405_2
        replace hx405_3 := (HB.out.cell (zQ w _ hx405_3)).trans hx405_3
        replace hx405_4 := (HB.out.cell (zQ w _ hx405_4)).trans hx405_4
        replace hx405_5 := (HB.out.cell (zQ w _ hx405_5)).trans hx405_5
        replace hx405_6 := (HB.out.cell (zQ w _ hx405_6)).trans hx405_6
        replace hx405_7 := (HB.out.cell (zQ w _ hx405_7)).trans hx405_7
        replace hx405_8 := (HB.out.cell (zQ w _ hx405_8)).trans hx405_8
        replace hx405_9 := (HB.out.cell (zQ w _ hx405_9)).trans hx405_9
        replace hx405_10 := (HB.out.cell (zQ w _ hx405_10)).trans hx405_10
        have HR405_6 := yD hi405_6
        have HC405_6 := yD hl405_6
        clear hi405_6 hl405_6
        have HR405_7 := yD hi405_7
        have HC405_7 := yD hl405_7
        clear hi405_7 hl405_7
        have HR405_8 := yD hi405_8
        have HC405_8 := yD hl405_8
        clear hi405_8 hl405_8
        have HR405_9 := yD hi405_9
        have HC405_9 := yD hl405_9
        clear hi405_9 hl405_9; replace p405 := eq_true p405; replace q405 := eq_true q405
        refine start_ (n := 10) (S := fun w' => w'.cell? (ad404.add ((x5_1).toNat * 11)) = some (.string ((rd_T64 l0 x5_1).f0)) ∧ w'.cell? ⟨(ad404.add ((x5_1).toNat * 11)).block, (ad404.add ((x5_1).toNat * 11)).off + 1, none⟩ = some (.int .i64 ((rd_T64 l0 x5_1).f1)) ∧ w'.cell? ⟨(ad404.add ((x5_1).toNat * 11)).block, (ad404.add ((x5_1).toNat * 11)).off + 2, none⟩ = some (.int .i64 ((rd_T64 l0 x5_1).f2.f0)) ∧ w'.cell? ⟨(ad404.add ((x5_1).toNat * 11)).block, (ad404.add ((x5_1).toNat * 11)).off + 3, none⟩ = some (.int .i64 ((rd_T64 l0 x5_1).f2.f1)) ∧ w'.cell? ⟨(ad404.add ((x5_1).toNat * 11)).block, (ad404.add ((x5_1).toNat * 11)).off + 4, none⟩ = some (.bool ((rd_T64 l0 x5_1).f2.f2)) ∧ w'.cell? ⟨(ad404.add ((x5_1).toNat * 11)).block, (ad404.add ((x5_1).toNat * 11)).off + 5, none⟩ = some (.bool ((rd_T64 l0 x5_1).f2.f3)) ∧ w'.cell? ⟨(ad404.add ((x5_1).toNat * 11)).block, (ad404.add ((x5_1).toNat * 11)).off + 6, none⟩ = some (.slice A404_6 ((rd_T64 l0 x5_1).f2.f4).length c404_6) ∧ w'.cell? ⟨(ad404.add ((x5_1).toNat * 11)).block, (ad404.add ((x5_1).toNat * 11)).off + 7, none⟩ = some (.slice A404_7 ((rd_T64 l0 x5_1).f2.f5).length c404_7) ∧ w'.cell? ⟨(ad404.add ((x5_1).toNat * 11)).block, (ad404.add ((x5_1).toNat * 11)).off + 8, none⟩ = some (.slice A404_8 ((rd_T64 l0 x5_1).f2.f6).length c404_8) ∧ w'.cell? ⟨(ad404.add ((x5_1).toNat * 11)).block, (ad404.add ((x5_1).toNat * 11)).off + 9, none⟩ = some (.slice A404_9 ((rd_T64 l0 x5_1).f2.f7).length c404_9) ∧ w'.cell? ⟨(ad404.add ((x5_1).toNat * 11)).block, (ad404.add ((x5_1).toNat * 11)).off + 10, none⟩ = some (.int .i64 ((rd_T64 l0 x5_1).f2.f8)) ∧ w'.cell? (ad405.add ((x5_1).toNat * 11)) = some (.string ((rd_T64 l1 x5_1).f0)) ∧ w'.cell? ⟨(ad405.add ((x5_1).toNat * 11)).block, (ad405.add ((x5_1).toNat * 11)).off + 1, none⟩ = some (.int .i64 ((rd_T64 l1 x5_1).f1)) ∧ w'.cell? ⟨(ad405.add ((x5_1).toNat * 11)).block, (ad405.add ((x5_1).toNat * 11)).off + 2, none⟩ = some (.int .i64 ((rd_T64 l1 x5_1).f2.f0)) ∧ w'.cell? ⟨(ad405.add ((x5_1).toNat * 11)).block, (ad405.add ((x5_1).toNat * 11)).off + 3, none⟩ = some (.int .i64 ((rd_T64 l1 x5_1).f2.f1)) ∧ w'.cell? ⟨(ad405.add ((x5_1).toNat * 11)).block, (ad405.add ((x5_1).toNat * 11)).off + 4, none⟩ = some (.bool ((rd_T64 l1 x5_1).f2.f2)) ∧ w'.cell? ⟨(ad405.add ((x5_1).toNat * 11)).block, (ad405.add ((x5_1).toNat * 11)).off + 5, none⟩ = some (.bool ((rd_T64 l1 x5_1).f2.f3)) ∧ w'.cell? ⟨(ad405.add ((x5_1).toNat * 11)).block, (ad405.add ((x5_1).toNat * 11)).off + 6, none⟩ = some (.slice A405_6 ((rd_T64 l1 x5_1).f2.f4).length c405_6) ∧ w'.cell? ⟨(ad405.add ((x5_1).toNat * 11)).block, (ad405.add ((x5_1).toNat * 11)).off + 7, none⟩ = some (.slice A405_7 ((rd_T64 l1 x5_1).f2.f5).length c405_7) ∧ w'.cell? ⟨(ad405.add ((x5_1).toNat * 11)).block, (ad405.add ((x5_1).toNat * 11)).off + 8, none⟩ = some (.slice A405_8 ((rd_T64 l1 x5_1).f2.f6).length c405_8) ∧ w'.cell? ⟨(ad405.add ((x5_1).toNat * 11)).block, (ad405.add ((x5_1).toNat * 11)).off + 9, none⟩ = some (.slice A405_9 ((rd_T64 l1 x5_1).f2.f7).length c405_9) ∧ w'.cell? ⟨(ad405.add ((x5_1).toNat * 11)).block, (ad405.add ((x5_1).toNat * 11)).off + 10, none⟩ = some (.int .i64 ((rd_T64 l1 x5_1).f2.f8))) (ds := []) (bz 10 0) (by kernel_rfl) rfl rfl ⟨((HB.out.cell (zQ w _ hw404_0)).trans hw404_0), ((HB.out.cell (zQ w _ hw404_1)).trans hw404_1), ((HB.out.cell (zQ w _ hw404_2)).trans hw404_2), ((HB.out.cell (zQ w _ hw404_3)).trans hw404_3), ((HB.out.cell (zQ w _ hw404_4)).trans hw404_4), ((HB.out.cell (zQ w _ hw404_5)).trans hw404_5), ((HB.out.cell (zQ w _ hw404_6)).trans hw404_6), ((HB.out.cell (zQ w _ hw404_7)).trans hw404_7), ((HB.out.cell (zQ w _ hw404_8)).trans hw404_8), ((HB.out.cell (zQ w _ hw404_9)).trans hw404_9), ((HB.out.cell (zQ w _ hw404_10)).trans hw404_10), ((HB.out.cell (zQ w _ hw405_0)).trans hw405_0), ((HB.out.cell (zQ w _ hw405_1)).trans hw405_1), ((HB.out.cell (zQ w _ hw405_2)).trans hw405_2), ((HB.out.cell (zQ w _ hw405_3)).trans hw405_3), ((HB.out.cell (zQ w _ hw405_4)).trans hw405_4), ((HB.out.cell (zQ w _ hw405_5)).trans hw405_5), ((HB.out.cell (zQ w _ hw405_6)).trans hw405_6), ((HB.out.cell (zQ w _ hw405_7)).trans hw405_7), ((HB.out.cell (zQ w _ hw405_8)).trans hw405_8), ((HB.out.cell (zQ w _ hw405_9)).trans hw405_9), ((HB.out.cell (zQ w _ hw405_10)).trans hw405_10)⟩ (fun hHeld => ?_); refine with_tabW laws_eqMemberS.tab6 laws_eqMemberS.bits6 (fun HT_ HW_ => ?_)
        generalize wr.drew = w9 at HB HR404_6 HR404_7 HR404_8 HR404_9 HR405_6 HR405_7 HR405_8 HR405_9 hx404_0 hx404_1 hx404_10 hx404_2 hx404_3 hx404_4 hx404_5 hx404_6 hx404_7 hx404_8 hx404_9 hx405_0 hx405_1 hx405_10 hx405_2 hx405_3 hx405_4 hx405_5 hx405_6 hx405_7 hx405_8 hx405_9 hHeld ⊢
        refine qA 0 17 (bz 10 1) HT_ ?_
        refine qA 1 18 (bz 10 3) HT_ ?_
        refine qA 2 19 (bz 10 7) HT_ ?_
        refine qA 4 21 (bz 10 23) HT_ ?_
        refine qA 5 22 (bz 10 55) HT_ ?_
        refine qA 6 23 (bz 10 119) HT_ ?_
        refine qC 3 20 (bz 10 127) HT_ HW_ hHeld ?_ (hy := by rintro w' ⟨s0, s1, s2, s3, s4, s5, s6, s7, s8, s9, s10, s11, s12, s13, s14, s15, s16, s17, s18, s19, s20, s21⟩; go_simp; with_reducible rfl)
        refine qC 7 24 (bz 10 255) HT_ HW_ hHeld ?_ (hy := by rintro w' ⟨s0, s1, s2, s3, s4, s5, s6, s7, s8, s9, s10, s11, s12, s13, s14, s15, s16, s17, s18, s19, s20, s21⟩; go_simp; with_reducible rfl)
        refine one_ (i := 8) (N := some 25) (bz 10 511) rfl rfl (one_of HT_.out (by kernel_rfl)) (by decide) (fun K hK => ?_)
        refine goes_ Try.func64 (by kernel_rfl) rfl #[.agg #[.string ((rd_T64 l0 x5_1).f0), .int .i64 ((rd_T64 l0 x5_1).f1), .int .i64 ((rd_T64 l0 x5_1).f2.f0), .int .i64 ((rd_T64 l0 x5_1).f2.f1), .bool ((rd_T64 l0 x5_1).f2.f2), .bool ((rd_T64 l0 x5_1).f2.f3), .slice A404_6 ((rd_T64 l0 x5_1).f2.f4).length c404_6, .slice A404_7 ((rd_T64 l0 x5_1).f2.f5).length c404_7, .slice A404_8 ((rd_T64 l0 x5_1).f2.f6).length c404_8, .slice A404_9 ((rd_T64 l0 x5_1).f2.f7).length c404_9, .int .i64 ((rd_T64 l0 x5_1).f2.f8)], .agg #[.string ((rd_T64 l1 x5_1).f0), .int .i64 ((rd_T64 l1 x5_1).f1), .int .i64 ((rd_T64 l1 x5_1).f2.f0), .int .i64 ((rd_T64 l1 x5_1).f2.f1), .bool ((rd_T64 l1 x5_1).f2.f2), .bool ((rd_T64 l1 x5_1).f2.f3), .slice A405_6 ((rd_T64 l1 x5_1).f2.f4).length c405_6, .slice A405_7 ((rd_T64 l1 x5_1).f2.f5).length c405_7, .slice A405_8 ((rd_T64 l1 x5_1).f2.f6).length c405_8, .slice A405_9 ((rd_T64 l1 x5_1).f2.f7).length c405_9, .int .i64 ((rd_T64 l1 x5_1).f2.f8)]] (by rfl) rfl rfl (by (try simp only [zK, zL, zM]); first | done | rfl | (simp only [zN, zO]; rfl)) ?_
        with_reducible refine (laws_eqMember.calls Y_ HY_ k1 ((rd_T64 l0 x5_1).f0) ((rd_T64 l0 x5_1).f1) ((rd_T64 l0 x5_1).f2.f0) ((rd_T64 l0 x5_1).f2.f1) ((rd_T64 l0 x5_1).f2.f2) ((rd_T64 l0 x5_1).f2.f3) _ _ ((rd_T64 l0 x5_1).f2.f4) _ _ ((rd_T64 l0 x5_1).f2.f5) _ _ ((rd_T64 l0 x5_1).f2.f6) _ _ ((rd_T64 l0 x5_1).f2.f7) ((rd_T64 l0 x5_1).f2.f8) ((rd_T64 l1 x5_1).f0) ((rd_T64 l1 x5_1).f1) ((rd_T64 l1 x5_1).f2.f0) ((rd_T64 l1 x5_1).f2.f1) ((rd_T64 l1 x5_1).f2.f2) ((rd_T64 l1 x5_1).f2.f3) _ _ ((rd_T64 l1 x5_1).f2.f4) _ _ ((rd_T64 l1 x5_1).f2.f5) _ _ ((rd_T64 l1 x5_1).f2.f6) _ _ ((rd_T64 l1 x5_1).f2.f7) ((rd_T64 l1 x5_1).f2.f8) true _ ?side1 ?side2 ?side3 ?side4 ?side5 ?side6 ?side7 ?side8 ?side9 ?side10 ?side11 ?side12 ?side13 ?side14 ?side15 ?side16 A7.out).mono ?_
        (case side1 => exact kV (yY HR404_6.out HB.out))
        (case side2 => exact HC404_6.out)
        (case side3 => exact kV (yY HR404_7.out HB.out))
        (case side4 => exact HC404_7.out)
        (case side5 => exact kV (yY HR404_8.out HB.out))
        (case side6 => exact HC404_8.out)
        (case side7 => exact kV (yY HR404_9.out HB.out))
        (case side8 => exact HC404_9.out)
        (case side9 => exact kV (yY HR405_6.out HB.out))
        (case side10 => exact HC405_6.out)
        (case side11 => exact kV (yY HR405_7.out HB.out))
        (case side12 => exact HC405_7.out)
        (case side13 => exact kV (yY HR405_8.out HB.out))
        (case side14 => exact HC405_8.out)
        (case side15 => exact kV (yY HR405_9.out HB.out))
        (case side16 => exact HC405_9.out)
        rintro e w10 ⟨rfl, hb⟩
        refine ⟨_, rfl, ?_⟩
        have n0_ := yD (zC (kB HB) hb)
        clear HB; have HB := n0_; clear n0_; (try clear hb); (try clear hb2); (try clear hk); (try clear hi)
        refine hK.out _ _ ⟨((HB.out.cell (zQ w _ hw404_0)).trans hw404_0), ((HB.out.cell (zQ w _ hw404_1)).trans hw404_1), ((HB.out.cell (zQ w _ hw404_2)).trans hw404_2), ((HB.out.cell (zQ w _ hw404_3)).trans hw404_3), ((HB.out.cell (zQ w _ hw404_4)).trans hw404_4), ((HB.out.cell (zQ w _ hw404_5)).trans hw404_5), ((HB.out.cell (zQ w _ hw404_6)).trans hw404_6), ((HB.out.cell (zQ w _ hw404_7)).trans hw404_7), ((HB.out.cell (zQ w _ hw404_8)).trans hw404_8), ((HB.out.cell (zQ w _ hw404_9)).trans hw404_9), ((HB.out.cell (zQ w _ hw404_10)).trans hw404_10), ((HB.out.cell (zQ w _ hw405_0)).trans hw405_0), ((HB.out.cell (zQ w _ hw405_1)).trans hw405_1), ((HB.out.cell (zQ w _ hw405_2)).trans hw405_2), ((HB.out.cell (zQ w _ hw405_3)).trans hw405_3), ((HB.out.cell (zQ w _ hw405_4)).trans hw405_4), ((HB.out.cell (zQ w _ hw405_5)).trans hw405_5), ((HB.out.cell (zQ w _ hw405_6)).trans hw405_6), ((HB.out.cell (zQ w _ hw405_7)).trans hw405_7), ((HB.out.cell (zQ w _ hw405_8)).trans hw405_8), ((HB.out.cell (zQ w _ hw405_9)).trans hw405_9), ((HB.out.cell (zQ w _ hw405_10)).trans hw405_10)⟩ (fun hHeld => ?_)
        clear hK K
        refine norm_ (a' := ?_) ?_ ?_
        rotate_left
        · show Act.put _ (some 25) _ = _
          simp only [Act.put, zH, zI, zJ, i64_w, i32_w]
          rfl
        refine qA 9 26 (bz 10 1023) HT_ ?_
        refine done_ (done_of HT_.out (by kernel_rfl)) ?_
        try go_wp2
        go_roundg k1
        case measure => have := HK1.out; omega
        case rel => exact ⟨(wrap64 (x5_1 + 1)), (by first | rfl | (simp; done) | (simp [*]; done)), H', ⟨by have := HK1.out; omega⟩, ⟨kR1 HB⟩⟩
       ·
        replace c8 := Bool.eq_false_iff.mpr c8
        subst c8
        replace H : (some false) = some r := (by rw [if_neg (show ¬ (false = true) by decide)] at H; exact H); obtain rfl := Option.some.inj H
        try go_wp2
        have n0_ := yD (yP HB.out)
        clear HB; have HB := n0_; clear n0_
        have p404 : 0 ≤ (x5_1 : Int) := zP (by assumption)
        have q404 : x5_1 < (l0.length : Int) := zP (by assumption)
        obtain ⟨ad404, A404_6, c404_6, A404_7, c404_7, A404_8, c404_8, A404_9, c404_9, e404, hx404_0, hx404_1, hx404_2, hx404_3, hx404_4, hx404_5, hx404_6, hx404_7, hx404_8, hx404_9, hx404_10, hl404_6, hi404_6, hl404_7, hi404_7, hl404_8, hi404_8, hl404_9, hi404_9⟩ := at_T64 HR0.out x5_1 p404 q404
        have hw404_10 := hx404_10; have hw404_9 := hx404_9; have hw404_8 := hx404_8; have hw404_7 := hx404_7; have hw404_6 := hx404_6; have hw404_5 := hx404_5; have hw404_4 := hx404_4; have hw404_3 := hx404_3; have hw404_2 := hx404_2; have hw404_1 := hx404_1; have hw404_0 := hx404_0; cases e404
        replace hx404_0 := (HB.out.cell (zQ w _ hx404_0)).trans hx404_0
        replace hx404_1 := (HB.out.cell (zQ w _ hx404_1)).trans hx404_1
        replace hx404_2 := (HB.out.cell (zQ w _ hx404_2)).trans hx404_2
        replace hx404_3 := (HB.out.cell (zQ w _ hx404_3)).trans hx404_3
        replace hx404_4 := (HB.out.cell (zQ w _ hx404_4)).trans hx404_4
        replace hx404_5 := (HB.out.cell (zQ w _ hx404_5)).trans hx404_5
        replace hx404_6 := (HB.out.cell (zQ w _ hx404_6)).trans hx404_6
        replace hx404_7 := (HB.out.cell (zQ w _ hx404_7)).trans hx404_7
        replace hx404_8 := (HB.out.cell (zQ w _ hx404_8)).trans hx404_8
        replace hx404_9 := (HB.out.cell (zQ w _ hx404_9)).trans hx404_9
        replace hx404_10 := (HB.out.cell (zQ w _ hx404_10)).trans hx404_10
        have HR404_6 := yD hi404_6
        have HC404_6 := yD hl404_6
        clear hi404_6 hl404_6
        have HR404_7 := yD hi404_7
        have HC404_7 := yD hl404_7
        clear hi404_7 hl404_7
        have HR404_8 := yD hi404_8
        have HC404_8 := yD hl404_8
        clear hi404_8 hl404_8
        have HR404_9 := yD hi404_9
        have HC404_9 := yD hl404_9
        clear hi404_9 hl404_9; replace p404 := eq_true p404; replace q404 := eq_true q404
        have p405 : 0 ≤ (x5_1 : Int) := zP (by assumption)
        have q405 : x5_1 < (l1.length : Int) := zP (by assumption)
        obtain ⟨ad405, A405_6, c405_6, A405_7, c405_7, A405_8, c405_8, A405_9, c405_9, e405, hx405_0, hx405_1, hx405_2, hx405_3, hx405_4, hx405_5, hx405_6, hx405_7, hx405_8, hx405_9, hx405_10, hl405_6, hi405_6, hl405_7, hi405_7, hl405_8, hi405_8, hl405_9, hi405_9⟩ := at_T64 HR1.out x5_1 p405 q405
        have hw405_10 := hx405_10; have hw405_9 := hx405_9; have hw405_8 := hx405_8; have hw405_7 := hx405_7; have hw405_6 := hx405_6; have hw405_5 := hx405_5; have hw405_4 := hx405_4; have hw405_3 := hx405_3; have hw405_2 := hx405_2; have hw405_1 := hx405_1; have hw405_0 := hx405_0; cases e405
        replace hx405_0 := (HB.out.cell (zQ w _ hx405_0)).trans hx405_0
        replace hx405_1 := (HB.out.cell (zQ w _ hx405_1)).trans hx405_1
        replace hx405_2 := (HB.out.cell (zQ w _ hx405_2)).trans hx405_2
        replace hx405_3 := (HB.out.cell (zQ w _ hx405_3)).trans hx405_3
        replace hx405_4 := (HB.out.cell (zQ w _ hx405_4)).trans hx405_4
        replace hx405_5 := (HB.out.cell (zQ w _ hx405_5)).trans hx405_5
        replace hx405_6 := (HB.out.cell (zQ w _ hx405_6)).trans hx405_6
        replace hx405_7 := (HB.out.cell (zQ w _ hx405_7)).trans hx405_7
        replace hx405_8 := (HB.out.cell (zQ w _ hx405_8)).trans hx405_8
        replace hx405_9 := (HB.out.cell (zQ w _ hx405_9)).trans hx405_9
        replace hx405_10 := (HB.out.cell (zQ w _ hx405_10)).trans hx405_10
        have HR405_6 := yD hi405_6
        have HC405_6 := yD hl405_6
        clear hi405_6 hl405_6
        have HR405_7 := yD hi405_7
        have HC405_7 := yD hl405_7
        clear hi405_7 hl405_7
        have HR405_8 := yD hi405_8
        have HC405_8 := yD hl405_8
        clear hi405_8 hl405_8
        have HR405_9 := yD hi405_9
        have HC405_9 := yD hl405_9
        clear hi405_9 hl405_9; replace p405 := eq_true p405; replace q405 := eq_true q405
        refine start_ (n := 10) (S := fun w' => w'.cell? (ad404.add ((x5_1).toNat * 11)) = some (.string ((rd_T64 l0 x5_1).f0)) ∧ w'.cell? ⟨(ad404.add ((x5_1).toNat * 11)).block, (ad404.add ((x5_1).toNat * 11)).off + 1, none⟩ = some (.int .i64 ((rd_T64 l0 x5_1).f1)) ∧ w'.cell? ⟨(ad404.add ((x5_1).toNat * 11)).block, (ad404.add ((x5_1).toNat * 11)).off + 2, none⟩ = some (.int .i64 ((rd_T64 l0 x5_1).f2.f0)) ∧ w'.cell? ⟨(ad404.add ((x5_1).toNat * 11)).block, (ad404.add ((x5_1).toNat * 11)).off + 3, none⟩ = some (.int .i64 ((rd_T64 l0 x5_1).f2.f1)) ∧ w'.cell? ⟨(ad404.add ((x5_1).toNat * 11)).block, (ad404.add ((x5_1).toNat * 11)).off + 4, none⟩ = some (.bool ((rd_T64 l0 x5_1).f2.f2)) ∧ w'.cell? ⟨(ad404.add ((x5_1).toNat * 11)).block, (ad404.add ((x5_1).toNat * 11)).off + 5, none⟩ = some (.bool ((rd_T64 l0 x5_1).f2.f3)) ∧ w'.cell? ⟨(ad404.add ((x5_1).toNat * 11)).block, (ad404.add ((x5_1).toNat * 11)).off + 6, none⟩ = some (.slice A404_6 ((rd_T64 l0 x5_1).f2.f4).length c404_6) ∧ w'.cell? ⟨(ad404.add ((x5_1).toNat * 11)).block, (ad404.add ((x5_1).toNat * 11)).off + 7, none⟩ = some (.slice A404_7 ((rd_T64 l0 x5_1).f2.f5).length c404_7) ∧ w'.cell? ⟨(ad404.add ((x5_1).toNat * 11)).block, (ad404.add ((x5_1).toNat * 11)).off + 8, none⟩ = some (.slice A404_8 ((rd_T64 l0 x5_1).f2.f6).length c404_8) ∧ w'.cell? ⟨(ad404.add ((x5_1).toNat * 11)).block, (ad404.add ((x5_1).toNat * 11)).off + 9, none⟩ = some (.slice A404_9 ((rd_T64 l0 x5_1).f2.f7).length c404_9) ∧ w'.cell? ⟨(ad404.add ((x5_1).toNat * 11)).block, (ad404.add ((x5_1).toNat * 11)).off + 10, none⟩ = some (.int .i64 ((rd_T64 l0 x5_1).f2.f8)) ∧ w'.cell? (ad405.add ((x5_1).toNat * 11)) = some (.string ((rd_T64 l1 x5_1).f0)) ∧ w'.cell? ⟨(ad405.add ((x5_1).toNat * 11)).block, (ad405.add ((x5_1).toNat * 11)).off + 1, none⟩ = some (.int .i64 ((rd_T64 l1 x5_1).f1)) ∧ w'.cell? ⟨(ad405.add ((x5_1).toNat * 11)).block, (ad405.add ((x5_1).toNat * 11)).off + 2, none⟩ = some (.int .i64 ((rd_T64 l1 x5_1).f2.f0)) ∧ w'.cell? ⟨(ad405.add ((x5_1).toNat * 11)).block, (ad405.add ((x5_1).toNat * 11)).off + 3, none⟩ = some (.int .i64 ((rd_T64 l1 x5_1).f2.f1)) ∧ w'.cell? ⟨(ad405.add ((x5_1).toNat * 11)).block, (ad405.add ((x5_1).toNat * 11)).off + 4, none⟩ = some (.bool ((rd_T64 l1 x5_1).f2.f2)) ∧ w'.cell? ⟨(ad405.add ((x5_1).toNat * 11)).block, (ad405.add ((x5_1).toNat * 11)).off + 5, none⟩ = some (.bool ((rd_T64 l1 x5_1).f2.f3)) ∧ w'.cell? ⟨(ad405.add ((x5_1).toNat * 11)).block, (ad405.add ((x5_1).toNat * 11)).off + 6, none⟩ = some (.slice A405_6 ((rd_T64 l1 x5_1).f2.f4).length c405_6) ∧ w'.cell? ⟨(ad405.add ((x5_1).toNat * 11)).block, (ad405.add ((x5_1).toNat * 11)).off + 7, none⟩ = some (.slice A405_7 ((rd_T64 l1 x5_1).f2.f5).length c405_7) ∧ w'.cell? ⟨(ad405.add ((x5_1).toNat * 11)).block, (ad405.add ((x5_1).toNat * 11)).off + 8, none⟩ = some (.slice A405_8 ((rd_T64 l1 x5_1).f2.f6).length c405_8) ∧ w'.cell? ⟨(ad405.add ((x5_1).toNat * 11)).block, (ad405.add ((x5_1).toNat * 11)).off + 9, none⟩ = some (.slice A405_9 ((rd_T64 l1 x5_1).f2.f7).length c405_9) ∧ w'.cell? ⟨(ad405.add ((x5_1).toNat * 11)).block, (ad405.add ((x5_1).toNat * 11)).off + 10, none⟩ = some (.int .i64 ((rd_T64 l1 x5_1).f2.f8))) (ds := []) (bz 10 0) (by kernel_rfl) rfl rfl ⟨((HB.out.cell (zQ w _ hw404_0)).trans hw404_0), ((HB.out.cell (zQ w _ hw404_1)).trans hw404_1), ((HB.out.cell (zQ w _ hw404_2)).trans hw404_2), ((HB.out.cell (zQ w _ hw404_3)).trans hw404_3), ((HB.out.cell (zQ w _ hw404_4)).trans hw404_4), ((HB.out.cell (zQ w _ hw404_5)).trans hw404_5), ((HB.out.cell (zQ w _ hw404_6)).trans hw404_6), ((HB.out.cell (zQ w _ hw404_7)).trans hw404_7), ((HB.out.cell (zQ w _ hw404_8)).trans hw404_8), ((HB.out.cell (zQ w _ hw404_9)).trans hw404_9), ((HB.out.cell (zQ w _ hw404_10)).trans hw404_10), ((HB.out.cell (zQ w _ hw405_0)).trans hw405_0), ((HB.out.cell (zQ w _ hw405_1)).trans hw405_1), ((HB.out.cell (zQ w _ hw405_2)).trans hw405_2), ((HB.out.cell (zQ w _ hw405_3)).trans hw405_3), ((HB.out.cell (zQ w _ hw405_4)).trans hw405_4), ((HB.out.cell (zQ w _ hw405_5)).trans hw405_5), ((HB.out.cell (zQ w _ hw405_6)).trans hw405_6), ((HB.out.cell (zQ w _ hw405_7)).trans hw405_7), ((HB.out.cell (zQ w _ hw405_8)).trans hw405_8), ((HB.out.cell (zQ w _ hw405_9)).trans hw405_9), ((HB.out.cell (zQ w _ hw405_10)).trans hw405_10)⟩ (fun hHeld => ?_); refine with_tabW laws_eqMemberS.tab6 laws_eqMemberS.bits6 (fun HT_ HW_ => ?_)
        generalize wr.drew = w11 at HB HR404_6 HR404_7 HR404_8 HR404_9 HR405_6 HR405_7 HR405_8 HR405_9 hx404_0 hx404_1 hx404_10 hx404_2 hx404_3 hx404_4 hx404_5 hx404_6 hx404_7 hx404_8 hx404_9 hx405_0 hx405_1 hx405_10 hx405_2 hx405_3 hx405_4 hx405_5 hx405_6 hx405_7 hx405_8 hx405_9 hHeld ⊢
        refine qA 0 17 (bz 10 1) HT_ ?_
        refine qA 1 18 (bz 10 3) HT_ ?_
        refine qA 2 19 (bz 10 7) HT_ ?_
        refine qA 4 21 (bz 10 23) HT_ ?_
        refine qA 5 22 (bz 10 55) HT_ ?_
        refine qA 6 23 (bz 10 119) HT_ ?_
        refine qC 3 20 (bz 10 127) HT_ HW_ hHeld ?_ (hy := by rintro w' ⟨s0, s1, s2, s3, s4, s5, s6, s7, s8, s9, s10, s11, s12, s13, s14, s15, s16, s17, s18, s19, s20, s21⟩; go_simp; with_reducible rfl)
        refine qC 7 24 (bz 10 255) HT_ HW_ hHeld ?_ (hy := by rintro w' ⟨s0, s1, s2, s3, s4, s5, s6, s7, s8, s9, s10, s11, s12, s13, s14, s15, s16, s17, s18, s19, s20, s21⟩; go_simp; with_reducible rfl)
        refine one_ (i := 8) (N := some 25) (bz 10 511) rfl rfl (one_of HT_.out (by kernel_rfl)) (by decide) (fun K hK => ?_)
        refine goes_ Try.func64 (by kernel_rfl) rfl #[.agg #[.string ((rd_T64 l0 x5_1).f0), .int .i64 ((rd_T64 l0 x5_1).f1), .int .i64 ((rd_T64 l0 x5_1).f2.f0), .int .i64 ((rd_T64 l0 x5_1).f2.f1), .bool ((rd_T64 l0 x5_1).f2.f2), .bool ((rd_T64 l0 x5_1).f2.f3), .slice A404_6 ((rd_T64 l0 x5_1).f2.f4).length c404_6, .slice A404_7 ((rd_T64 l0 x5_1).f2.f5).length c404_7, .slice A404_8 ((rd_T64 l0 x5_1).f2.f6).length c404_8, .slice A404_9 ((rd_T64 l0 x5_1).f2.f7).length c404_9, .int .i64 ((rd_T64 l0 x5_1).f2.f8)], .agg #[.string ((rd_T64 l1 x5_1).f0), .int .i64 ((rd_T64 l1 x5_1).f1), .int .i64 ((rd_T64 l1 x5_1).f2.f0), .int .i64 ((rd_T64 l1 x5_1).f2.f1), .bool ((rd_T64 l1 x5_1).f2.f2), .bool ((rd_T64 l1 x5_1).f2.f3), .slice A405_6 ((rd_T64 l1 x5_1).f2.f4).length c405_6, .slice A405_7 ((rd_T64 l1 x5_1).f2.f5).length c405_7, .slice A405_8 ((rd_T64 l1 x5_1).f2.f6).length c405_8, .slice A405_9 ((rd_T64 l1 x5_1).f2.f7).length c405_9, .int .i64 ((rd_T64 l1 x5_1).f2.f8)]] (by rfl) rfl rfl (by (try simp only [zK, zL, zM]); first | done | rfl | (simp only [zN, zO]; rfl)) ?_
        with_reducible refine (laws_eqMember.calls Y_ HY_ k1 ((rd_T64 l0 x5_1).f0) ((rd_T64 l0 x5_1).f1) ((rd_T64 l0 x5_1).f2.f0) ((rd_T64 l0 x5_1).f2.f1) ((rd_T64 l0 x5_1).f2.f2) ((rd_T64 l0 x5_1).f2.f3) _ _ ((rd_T64 l0 x5_1).f2.f4) _ _ ((rd_T64 l0 x5_1).f2.f5) _ _ ((rd_T64 l0 x5_1).f2.f6) _ _ ((rd_T64 l0 x5_1).f2.f7) ((rd_T64 l0 x5_1).f2.f8) ((rd_T64 l1 x5_1).f0) ((rd_T64 l1 x5_1).f1) ((rd_T64 l1 x5_1).f2.f0) ((rd_T64 l1 x5_1).f2.f1) ((rd_T64 l1 x5_1).f2.f2) ((rd_T64 l1 x5_1).f2.f3) _ _ ((rd_T64 l1 x5_1).f2.f4) _ _ ((rd_T64 l1 x5_1).f2.f5) _ _ ((rd_T64 l1 x5_1).f2.f6) _ _ ((rd_T64 l1 x5_1).f2.f7) ((rd_T64 l1 x5_1).f2.f8) false _ ?side1 ?side2 ?side3 ?side4 ?side5 ?side6 ?side7 ?side8 ?side9 ?side10 ?side11 ?side12 ?side13 ?side14 ?side15 ?side16 A7.out).mono ?_
        (case side1 => exact kV (yY HR404_6.out HB.out))
        (case side2 => exact HC404_6.out)
        (case side3 => exact kV (yY HR404_7.out HB.out))
        (case side4 => exact HC404_7.out)
        (case side5 => exact kV (yY HR404_8.out HB.out))
        (case side6 => exact HC404_8.out)
        (case side7 => exact kV (yY HR404_9.out HB.out))
        (case side8 => exact HC404_9.out)
        (case side9 => exact kV (yY HR405_6.out HB.out))
        (case side10 => exact HC405_6.out)
        (case side11 => exact kV (yY HR405_7.out HB.out))
        (case side12 => exact HC405_7.out)
        (case side13 => exact kV (yY HR405_8.out HB.out))
        (case side14 => exact HC405_8.out)
        (case side15 => exact kV (yY HR405_9.out HB.out))
        (case side16 => exact HC405_9.out)
        rintro e w12 ⟨rfl, hb⟩
        refine ⟨_, rfl, ?_⟩
        have n0_ := yD (zC (kB HB) hb)
        clear HB; have HB := n0_; clear n0_; (try clear hb); (try clear hb2); (try clear hk); (try clear hi)
        refine hK.out _ _ ⟨((HB.out.cell (zQ w _ hw404_0)).trans hw404_0), ((HB.out.cell (zQ w _ hw404_1)).trans hw404_1), ((HB.out.cell (zQ w _ hw404_2)).trans hw404_2), ((HB.out.cell (zQ w _ hw404_3)).trans hw404_3), ((HB.out.cell (zQ w _ hw404_4)).trans hw404_4), ((HB.out.cell (zQ w _ hw404_5)).trans hw404_5), ((HB.out.cell (zQ w _ hw404_6)).trans hw404_6), ((HB.out.cell (zQ w _ hw404_7)).trans hw404_7), ((HB.out.cell (zQ w _ hw404_8)).trans hw404_8), ((HB.out.cell (zQ w _ hw404_9)).trans hw404_9), ((HB.out.cell (zQ w _ hw404_10)).trans hw404_10), ((HB.out.cell (zQ w _ hw405_0)).trans hw405_0), ((HB.out.cell (zQ w _ hw405_1)).trans hw405_1), ((HB.out.cell (zQ w _ hw405_2)).trans hw405_2), ((HB.out.cell (zQ w _ hw405_3)).trans hw405_3), ((HB.out.cell (zQ w _ hw405_4)).trans hw405_4), ((HB.out.cell (zQ w _ hw405_5)).trans hw405_5), ((HB.out.cell (zQ w _ hw405_6)).trans hw405_6), ((HB.out.cell (zQ w _ hw405_7)).trans hw405_7), ((HB.out.cell (zQ w _ hw405_8)).trans hw405_8), ((HB.out.cell (zQ w _ hw405_9)).trans hw405_9), ((HB.out.cell (zQ w _ hw405_10)).trans hw405_10)⟩ (fun hHeld => ?_)
        clear hK K
        refine norm_ (a' := ?_) ?_ ?_
        rotate_left
        · show Act.put _ (some 25) _ = _
          simp only [Act.put, zH, zI, zJ, i64_w, i32_w]
          rfl
        refine qA 9 26 (bz 10 1023) HT_ ?_
        refine done_ (done_of HT_.out (by kernel_rfl)) ?_
        try go_wp2
        go_ret
        exact ⟨by first | rfl | (simp <;> rfl) | (simp [*] <;> rfl), kR1 HB⟩
      · rw [if_neg c6] at H
        exact absurd H (by simp)
     · rw [if_neg c5] at H
       exact absurd H (by simp)
    · rw [if_neg c4] at H
      have c4b0 : decide (x5_1 < (l0.length : Int)) = false := zS c4; clear c4; obtain rfl := Option.some.inj H
      go_wp2
      go_ret
      exact ⟨by first | rfl | (simp <;> rfl) | (simp [*] <;> rfl), kR1 HB⟩
 ·
  rw [if_neg c3] at H
  have c3b0 : ((l0.length : Int) == (l1.length : Int)) = false := beq_eq_false_iff_ne.mpr c3
  have c3b1 : ((l0.length : Int) != (l1.length : Int)) = true := bne_iff_ne.mpr c3
  have c3b2 : (l0.length == l1.length) = false := by first | simpa using c3 | (simp at c3 ⊢; omega)
  obtain rfl := Option.some.inj H; go_enter Try.func46, Try.ntmps46
  go_wp2
  go_ret
  exact ⟨by first | rfl | (simp <;> rfl) | (simp [*] <;> rfl), kR1 HB⟩

end Go.Proofs.Ytfblodggimjoaaa.PFnExactSameType
