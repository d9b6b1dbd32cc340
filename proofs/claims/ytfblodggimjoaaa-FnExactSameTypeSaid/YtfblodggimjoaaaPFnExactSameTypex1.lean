/- Each Go function here comes to what the plain function of its name says, where that says something. Made by a program of this session, over the print. -/
import Derived.Test.YtfblodggimjoaaaPFnExactSameTypex0
namespace Go.Proofs.Ytfblodggimjoaaa.PFnExactSameType
open Go.RowKit Go.Proofs.YtfblodggimjoaaaW.PrintWords Go.Proofs.YtfblodggimjoaaaW.PrintLast Go.Proofs.YtfblodggimjoaaaW.PrintMore
attribute [local go_sem] max2_int min2_int max_two min_two max_three min_three max_four min_four   -- for this text's walks alone
set_option linter.unusedVariables false
set_option linter.unusedSimpArgs false

/-! ### laws_szStringS: function 29 -/
def laws_szStringS.l0 : Nat → List ByteArray → Int → Int → Option (Int)
 | 0, _, _, _ => none
 | k + 1, x0, x1, x5 => if x5 < (x0.length : Int) then (if 0 ≤ x5 then (if (wrap64 (x1 - ((rdOf ByteArray.empty x0 x5).size : Int))) < 0 then (some (-1)) else (laws_szStringS.l0 k x0 (wrap64 (x1 - ((rdOf ByteArray.empty x0 x5).size : Int))) (wrap64 (x5 + 1)))) else (none)) else (some x1)
def laws_szStringS.f (k : Nat) (l0 : List ByteArray) (a1 : Int) : Option (Int) := if (wrap64 (a1 - (l0.length : Int))) < 0 then (some (-1)) else (laws_szStringS.l0 k l0 (wrap64 (a1 - (l0.length : Int))) 0)
set_option maxHeartbeats 8000000 in
set_option maxRecDepth 100000 in
theorem laws_szStringS.calls (k : Nat) (A0 : Option Addr) (c0 : Nat) (l0 : List ByteArray) (a1 : Int) (r : Int) (w : World) (hr0 : Kd.C Kd.string w A0 l0.length l0) (hc0 : l0.length ≤ c0) (h : laws_szStringS.f k l0 a1 = some r) :
 Calls Try.prog 29 #[.slice A0 l0.length c0, .int .i64 a1] w fun e w' => e = .returned (.int .i64 r) ∧ Drawn0 w w' := by
 have HR0 := yD hr0
 have HC0 := yD hc0
 clear hr0 hc0
 have H : (if (wrap64 (a1 - (l0.length : Int))) < 0 then (some (-1)) else (laws_szStringS.l0 k l0 (wrap64 (a1 - (l0.length : Int))) 0)) = some r := h
 clear h
 by_cases c3 : (wrap64 (a1 - (l0.length : Int))) < 0
 · rw [if_pos c3] at H
   have c3b0 : decide ((wrap64 (a1 - (l0.length : Int))) < 0) = true := zR c3; clear c3; obtain rfl := Option.some.inj H; go_enter Try.func29, Try.ntmps29
   go_wp2
   go_ret
   exact ⟨by first | rfl | (simp; done) | (simp [*]; done), by repeat (first | exact Drawn0.refl _ | apply Drawn0.step)⟩
 ·
  rw [if_neg c3] at H
  have c3b0 : decide ((wrap64 (a1 - (l0.length : Int))) < 0) = false := zS c3; clear c3
  have H' := yD H
  clear H; go_enter Try.func29, Try.ntmps29
  go_wp2
  go_loopg [1, 5] k (fun kq v1 v5 w' => ∃ (x1_1 : Int) (x5_1 : Int), v1 = .int .i64 x1_1 ∧ v5 = .int .i64 x5_1 ∧ Aside0 (laws_szStringS.l0 kq l0 x1_1 x5_1 = some r) ∧ Aside0 (kq ≤ k) ∧ Drawn0 w w')
  case atStart => exact ⟨(wrap64 (a1 - (l0.length : Int))), (0), (by first | rfl | (simp; done) | (simp [*]; done)), (by first | rfl | (simp; done) | (simp [*]; done)), H', ⟨Nat.le_refl _⟩, by repeat (first | exact Drawn0.refl _ | apply Drawn0.step)⟩
  case round =>
   clear H'
   try clear c2; try clear c3; try clear c3b0
   obtain ⟨x1_1, x5_1, rfl, rfl, HA, HK1, ⟨m1, rfl⟩⟩ := hrel
   cases gk with
   | zero => exact absurd HA.out (by simp [laws_szStringS.l0])
   | succ k1 =>
    have H := HA.out; clear HA
    simp only [laws_szStringS.l0] at H
    by_cases c4 : x5_1 < (l0.length : Int)
    ·
     rw [if_pos c4] at H
     have c4b0 : decide (x5_1 < (l0.length : Int)) = true := zR c4; clear c4
     by_cases c5 : 0 ≤ x5_1
     ·
      rw [if_pos c5] at H
      have c5b0 : decide (0 ≤ x5_1) = true := zR c5; clear c5
      by_cases c6 : (wrap64 (x1_1 - ((rdOf ByteArray.empty l0 x5_1).size : Int))) < 0
      · rw [if_pos c6] at H
        have c6b0 : decide ((wrap64 (x1_1 - ((rdOf ByteArray.empty l0 x5_1).size : Int))) < 0) = true := zR c6; clear c6; obtain rfl := Option.some.inj H
        have p101 : 0 ≤ (x5_1 : Int) := zP (by assumption)
        have q101 : x5_1 < (l0.length : Int) := zP (by assumption)
        obtain ⟨ad101, e101, hx101_0⟩ := Kd.at_string HR0.out x5_1 p101 q101
        cases e101; replace p101 := eq_true p101; replace q101 := eq_true q101
        go_wp2
        go_ret
        exact ⟨by first | rfl | (simp; done) | (simp [*]; done), by repeat (first | exact Drawn0.refl _ | apply Drawn0.step)⟩
      ·
       rw [if_neg c6] at H
       have c6b0 : decide ((wrap64 (x1_1 - ((rdOf ByteArray.empty l0 x5_1).size : Int))) < 0) = false := zS c6; clear c6
       have H' := yD H
       clear H
       have p101 : 0 ≤ (x5_1 : Int) := zP (by assumption)
       have q101 : x5_1 < (l0.length : Int) := zP (by assumption)
       obtain ⟨ad101, e101, hx101_0⟩ := Kd.at_string HR0.out x5_1 p101 q101
       cases e101; replace p101 := eq_true p101; replace q101 := eq_true q101
       go_wp2
       go_roundg k1
       case measure => have := HK1.out; omega
       case rel => exact ⟨(wrap64 (x1_1 - ((rdOf ByteArray.empty l0 x5_1).size : Int))), (wrap64 (x5_1 + 1)), (by first | rfl | (simp; done) | (simp [*]; done)), (by first | rfl | (simp; done) | (simp [*]; done)), H', ⟨by have := HK1.out; omega⟩, by repeat (first | exact Drawn0.refl _ | apply Drawn0.step)⟩
     · rw [if_neg c5] at H
       exact absurd H (by simp)
    · rw [if_neg c4] at H
      have c4b0 : decide (x5_1 < (l0.length : Int)) = false := zS c4; clear c4; obtain rfl := Option.some.inj H
      go_wp2
      go_ret
      exact ⟨by first | rfl | (simp; done) | (simp [*]; done), by repeat (first | exact Drawn0.refl _ | apply Drawn0.step)⟩

/-! ### laws_szInt64S: function 30 -/
def laws_szInt64S.f (l0 : List Int) (a1 : Int) : Option (Int) := if (wrap64 (a1 - (l0.length : Int))) < 0 then (some (-1)) else (some (wrap64 (a1 - (l0.length : Int))))
set_option maxHeartbeats 8000000 in
set_option maxRecDepth 100000 in
theorem laws_szInt64S.calls (A0 : Option Addr) (c0 : Nat) (l0 : List Int) (a1 : Int) (r : Int) (w : World) (hr0 : Kd.C (Kd.int .i64) w A0 l0.length l0) (hc0 : l0.length ≤ c0) (h : laws_szInt64S.f l0 a1 = some r) :
 Calls Try.prog 30 #[.slice A0 l0.length c0, .int .i64 a1] w fun e w' => e = .returned (.int .i64 r) ∧ Drawn0 w w' := by
 have HR0 := yD hr0
 have HC0 := yD hc0
 clear hr0 hc0
 have H : (if (wrap64 (a1 - (l0.length : Int))) < 0 then (some (-1)) else (some (wrap64 (a1 - (l0.length : Int))))) = some r := h
 clear h
 by_cases c3 : (wrap64 (a1 - (l0.length : Int))) < 0
 · rw [if_pos c3] at H
   have c3b0 : decide ((wrap64 (a1 - (l0.length : Int))) < 0) = true := zR c3; clear c3; obtain rfl := Option.some.inj H; go_enter Try.func30, Try.ntmps30
   go_wp2
   go_ret
   exact ⟨by first | rfl | (simp; done) | (simp [*]; done), by repeat (first | exact Drawn0.refl _ | apply Drawn0.step)⟩
 ·
  rw [if_neg c3] at H
  have c3b0 : decide ((wrap64 (a1 - (l0.length : Int))) < 0) = false := zS c3; clear c3; obtain rfl := Option.some.inj H; go_enter Try.func30, Try.ntmps30
  go_wp2
  go_ret
  exact ⟨by first | rfl | (simp; done) | (simp [*]; done), by repeat (first | exact Drawn0.refl _ | apply Drawn0.step)⟩

/-! ### laws_szMember: function 62 -/
def laws_szMember.f (Y_ : Int → Int → Bool → Bool → List ByteArray → List Int → List (S91) → List (S27) → Int → Int → Option (Int)) (k : Nat) (a0_0 : ByteArray) (a0_1 : Int) (a0_2 : Int) (a0_3 : Int) (a0_4 : Bool) (a0_5 : Bool) (l0_6 : List ByteArray) (l0_7 : List Int) (l0_8 : List (S91)) (l0_9 : List (S27)) (a0_10 : Int) (a1 : Int) : Option (Int) := if (wrap64 (a1 - (a0_0.size : Int))) < 0 then (some (-1)) else ((Y_ a0_2 a0_3 a0_4 a0_5 l0_6 l0_7 l0_8 l0_9 a0_10 (wrap64 (a1 - (a0_0.size : Int)))).bind fun t125 => (if t125 < 0 then (some (-1)) else (some t125)))
set_option maxHeartbeats 8000000 in
set_option maxRecDepth 100000 in
theorem laws_szMember.calls (Y_ : Int → Int → Bool → Bool → List ByteArray → List Int → List (S91) → List (S27) → Int → Int → Option (Int)) (HY_ : ∀ (a0_0 : Int) (a0_1 : Int) (a0_2 : Bool) (a0_3 : Bool) (A0_4 : Option Addr) (c0_4 : Nat) (l0_4 : List ByteArray) (A0_5 : Option Addr) (c0_5 : Nat) (l0_5 : List Int) (A0_6 : Option Addr) (c0_6 : Nat) (l0_6 : List (S91)) (A0_7 : Option Addr) (c0_7 : Nat) (l0_7 : List (S27)) (a0_8 : Int) (a1 : Int) (r : Int) (w : World) (hr0_4 : Kd.C Kd.string w A0_4 l0_4.length l0_4) (hc0_4 : l0_4.length ≤ c0_4) (hr0_5 : Kd.C (Kd.int .i64) w A0_5 l0_5.length l0_5) (hc0_5 : l0_5.length ≤ c0_5) (hr0_6 : Kd.C k91 w A0_6 l0_6.length l0_6) (hc0_6 : l0_6.length ≤ c0_6) (hr0_7 : Kd.C k27 w A0_7 l0_7.length l0_7) (hc0_7 : l0_7.length ≤ c0_7) (h : Y_ a0_0 a0_1 a0_2 a0_3 l0_4 l0_5 l0_6 l0_7 a0_8 a1 = some r), Calls Try.prog 7 #[.agg #[.int .i64 a0_0, .int .i64 a0_1, .bool a0_2, .bool a0_3, .slice A0_4 l0_4.length c0_4, .slice A0_5 l0_5.length c0_5, .slice A0_6 l0_6.length c0_6, .slice A0_7 l0_7.length c0_7, .int .i64 a0_8], .int .i64 a1] w fun e w' => e = .returned (.int .i64 r) ∧ Below w.heap.size w w') (k : Nat) (a0_0 : ByteArray) (a0_1 : Int) (a0_2 : Int) (a0_3 : Int) (a0_4 : Bool) (a0_5 : Bool) (A0_6 : Option Addr) (c0_6 : Nat) (l0_6 : List ByteArray) (A0_7 : Option Addr) (c0_7 : Nat) (l0_7 : List Int) (A0_8 : Option Addr) (c0_8 : Nat) (l0_8 : List (S91)) (A0_9 : Option Addr) (c0_9 : Nat) (l0_9 : List (S27)) (a0_10 : Int) (a1 : Int) (r : Int) (w : World) (hr0_6 : Kd.C Kd.string w A0_6 l0_6.length l0_6) (hc0_6 : l0_6.length ≤ c0_6) (hr0_7 : Kd.C (Kd.int .i64) w A0_7 l0_7.length l0_7) (hc0_7 : l0_7.length ≤ c0_7) (hr0_8 : Kd.C k91 w A0_8 l0_8.length l0_8) (hc0_8 : l0_8.length ≤ c0_8) (hr0_9 : Kd.C k27 w A0_9 l0_9.length l0_9) (hc0_9 : l0_9.length ≤ c0_9) (h : laws_szMember.f Y_ k a0_0 a0_1 a0_2 a0_3 a0_4 a0_5 l0_6 l0_7 l0_8 l0_9 a0_10 a1 = some r) :
 Calls Try.prog 62 #[.agg #[.string a0_0, .int .i64 a0_1, .int .i64 a0_2, .int .i64 a0_3, .bool a0_4, .bool a0_5, .slice A0_6 l0_6.length c0_6, .slice A0_7 l0_7.length c0_7, .slice A0_8 l0_8.length c0_8, .slice A0_9 l0_9.length c0_9, .int .i64 a0_10], .int .i64 a1] w fun e w' => e = .returned (.int .i64 r) ∧ Below w.heap.size w w' := by
 have hu91 := Try.underlying91; have hu27 := Try.underlying27
 have HR0_6 := yD hr0_6
 have HC0_6 := yD hc0_6
 clear hr0_6 hc0_6
 have HR0_7 := yD hr0_7
 have HC0_7 := yD hc0_7
 clear hr0_7 hc0_7
 have HR0_8 := yD hr0_8
 have HC0_8 := yD hc0_8
 clear hr0_8 hc0_8
 have HR0_9 := yD hr0_9
 have HC0_9 := yD hc0_9
 clear hr0_9 hc0_9
 have HB := yD (Below.refl w.heap.size w)
 have H : (if (wrap64 (a1 - (a0_0.size : Int))) < 0 then (some (-1)) else ((Y_ a0_2 a0_3 a0_4 a0_5 l0_6 l0_7 l0_8 l0_9 a0_10 (wrap64 (a1 - (a0_0.size : Int)))).bind fun t125 => (if t125 < 0 then (some (-1)) else (some t125)))) = some r := h
 clear h
 by_cases c3 : (wrap64 (a1 - (a0_0.size : Int))) < 0
 · rw [if_pos c3] at H
   have c3b0 : decide ((wrap64 (a1 - (a0_0.size : Int))) < 0) = true := zR c3; clear c3; obtain rfl := Option.some.inj H; go_enter Try.func62, Try.ntmps62
   go_wp2_with (first | ((with_reducible refine gate_dst (N := 2) rfl ?_); refine box_event ?hg (N := 2) ?hd (cs := #[.string a0_0, .int .i64 a0_1, .int .i64 a0_2, .int .i64 a0_3, .bool a0_4, .bool a0_5, .slice A0_6 l0_6.length c0_6, .slice A0_7 l0_7.length c0_7, .slice A0_8 l0_8.length c0_8, .slice A0_9 l0_9.length c0_9, .int .i64 a0_10]) (t := 91) ?hr ?_; (case hd => rfl); (case hg => rfl); (case hr => first | (go_simp; done) | (go_simp; rfl)); intro gb124 hg w4 hbox hb; have BK124 := yD (hbox); have GW124 := yD ((by rw [hg]; exact (below_size (kB HB)) : w.heap.size ≤ gb124)); have GE124 := yD ((by rw [hg]; exact (below_size (kB HB)) : w.heap.size ≤ gb124)); replace HB := yD (zC (kB HB) hb); clear hb hbox hg; obtain ⟨hcz5_0, hcz5_1, hcz5_2, hcz5_3, hcz5_4, hcz5_5, hcz5_6, hcz5_7, hcz5_8, hcz5_9, hcz5_10⟩ := cz11 BK124.out; obtain ⟨hfz5_0, hfz5_1, hfz5_2, hfz5_3, hfz5_4, hfz5_5, hfz5_6, hfz5_7, hfz5_8, hfz5_9, hfz5_10⟩ := fz11 BK124.out))
   go_ret
   exact ⟨by first | rfl | (simp <;> rfl) | (simp [*] <;> rfl), kR0 HB⟩
 ·
  rw [if_neg c3] at H
  have c3b0 : decide ((wrap64 (a1 - (a0_0.size : Int))) < 0) = false := zS c3; clear c3
  obtain ⟨t125, A60, H⟩ := zW_ H
  replace H : (if t125 < 0 then (some (-1)) else (some t125)) = some r := H
  have A6 := yD A60
  clear A60
  by_cases c7 : t125 < 0
  · rw [if_pos c7] at H
    have c7b0 : decide (t125 < 0) = true := zR c7; clear c7; obtain rfl := Option.some.inj H; go_enter Try.func62, Try.ntmps62
    go_wp2_with (first | ((with_reducible refine gate_dst (N := 2) rfl ?_); refine box_event ?hg (N := 2) ?hd (cs := #[.string a0_0, .int .i64 a0_1, .int .i64 a0_2, .int .i64 a0_3, .bool a0_4, .bool a0_5, .slice A0_6 l0_6.length c0_6, .slice A0_7 l0_7.length c0_7, .slice A0_8 l0_8.length c0_8, .slice A0_9 l0_9.length c0_9, .int .i64 a0_10]) (t := 91) ?hr ?_; (case hd => rfl); (case hg => rfl); (case hr => first | (go_simp; done) | (go_simp; rfl)); intro gb124 hg w8 hbox hb; have BK124 := yD (hbox); have GW124 := yD ((by rw [hg]; exact (below_size (kB HB)) : w.heap.size ≤ gb124)); have GE124 := yD ((by rw [hg]; exact (below_size (kB HB)) : w.heap.size ≤ gb124)); replace HB := yD (zC (kB HB) hb); clear hb hbox hg; obtain ⟨hcz9_0, hcz9_1, hcz9_2, hcz9_3, hcz9_4, hcz9_5, hcz9_6, hcz9_7, hcz9_8, hcz9_9, hcz9_10⟩ := cz11 BK124.out; obtain ⟨hfz9_0, hfz9_1, hfz9_2, hfz9_3, hfz9_4, hfz9_5, hfz9_6, hfz9_7, hfz9_8, hfz9_9, hfz9_10⟩ := fz11 BK124.out) | ((with_reducible refine gate_callee (f := 7) rfl ?_); refine gL 15 Try.func7 #[.agg #[.int .i64 a0_2, .int .i64 a0_3, .bool a0_4, .bool a0_5, .slice A0_6 l0_6.length c0_6, .slice A0_7 l0_7.length c0_7, .slice A0_8 l0_8.length c0_8, .slice A0_9 l0_9.length c0_9, .int .i64 a0_10], .int .i64 (wrap64 (a1 - (a0_0.size : Int)))] ?_; (with_reducible refine (HY_ a0_2 a0_3 a0_4 a0_5 _ _ l0_6 _ _ l0_7 _ _ l0_8 _ _ l0_9 a0_10 (wrap64 (a1 - (a0_0.size : Int))) t125 _ ?side1 ?side2 ?side3 ?side4 ?side5 ?side6 ?side7 ?side8 A6.out).mono ?_); (case side1 => exact kV (yY HR0_6.out HB.out)); (case side2 => exact HC0_6.out); (case side3 => exact kV (yY HR0_7.out HB.out)); (case side4 => exact HC0_7.out); (case side5 => exact kV (yY HR0_8.out HB.out)); (case side6 => exact HC0_8.out); (case side7 => exact kV (yY HR0_9.out HB.out)); (case side8 => exact HC0_9.out); rintro e w10 ⟨rfl, hb⟩; refine ⟨_, rfl, ?_⟩; replace BK124 := yD (zB (kN BK124) hb); replace HB := yD (zC (kB HB) hb); clear hb))
    go_ret
    exact ⟨by first | rfl | (simp <;> rfl) | (simp [*] <;> rfl), kR0 HB⟩
  · rw [if_neg c7] at H
    have c7b0 : decide (t125 < 0) = false := zS c7; clear c7; obtain rfl := Option.some.inj H; go_enter Try.func62, Try.ntmps62
    go_wp2_with (first | ((with_reducible refine gate_dst (N := 2) rfl ?_); refine box_event ?hg (N := 2) ?hd (cs := #[.string a0_0, .int .i64 a0_1, .int .i64 a0_2, .int .i64 a0_3, .bool a0_4, .bool a0_5, .slice A0_6 l0_6.length c0_6, .slice A0_7 l0_7.length c0_7, .slice A0_8 l0_8.length c0_8, .slice A0_9 l0_9.length c0_9, .int .i64 a0_10]) (t := 91) ?hr ?_; (case hd => rfl); (case hg => rfl); (case hr => first | (go_simp; done) | (go_simp; rfl)); intro gb124 hg w11 hbox hb; have BK124 := yD (hbox); have GW124 := yD ((by rw [hg]; exact (below_size (kB HB)) : w.heap.size ≤ gb124)); have GE124 := yD ((by rw [hg]; exact (below_size (kB HB)) : w.heap.size ≤ gb124)); replace HB := yD (zC (kB HB) hb); clear hb hbox hg; obtain ⟨hcz12_0, hcz12_1, hcz12_2, hcz12_3, hcz12_4, hcz12_5, hcz12_6, hcz12_7, hcz12_8, hcz12_9, hcz12_10⟩ := cz11 BK124.out; obtain ⟨hfz12_0, hfz12_1, hfz12_2, hfz12_3, hfz12_4, hfz12_5, hfz12_6, hfz12_7, hfz12_8, hfz12_9, hfz12_10⟩ := fz11 BK124.out) | ((with_reducible refine gate_callee (f := 7) rfl ?_); refine gL 15 Try.func7 #[.agg #[.int .i64 a0_2, .int .i64 a0_3, .bool a0_4, .bool a0_5, .slice A0_6 l0_6.length c0_6, .slice A0_7 l0_7.length c0_7, .slice A0_8 l0_8.length c0_8, .slice A0_9 l0_9.length c0_9, .int .i64 a0_10], .int .i64 (wrap64 (a1 - (a0_0.size : Int)))] ?_; (with_reducible refine (HY_ a0_2 a0_3 a0_4 a0_5 _ _ l0_6 _ _ l0_7 _ _ l0_8 _ _ l0_9 a0_10 (wrap64 (a1 - (a0_0.size : Int))) t125 _ ?side1 ?side2 ?side3 ?side4 ?side5 ?side6 ?side7 ?side8 A6.out).mono ?_); (case side1 => exact kV (yY HR0_6.out HB.out)); (case side2 => exact HC0_6.out); (case side3 => exact kV (yY HR0_7.out HB.out)); (case side4 => exact HC0_7.out); (case side5 => exact kV (yY HR0_8.out HB.out)); (case side6 => exact HC0_8.out); (case side7 => exact kV (yY HR0_9.out HB.out)); (case side8 => exact HC0_9.out); rintro e w13 ⟨rfl, hb⟩; refine ⟨_, rfl, ?_⟩; replace BK124 := yD (zB (kN BK124) hb); replace HB := yD (zC (kB HB) hb); clear hb))
    go_ret
    exact ⟨by first | rfl | (simp <;> rfl) | (simp [*] <;> rfl), kR0 HB⟩

/-! ### laws_szMemberS: function 31 -/
def laws_szMemberS.l0 (Y_ : Int → Int → Bool → Bool → List ByteArray → List Int → List (S91) → List (S27) → Int → Int → Option (Int)) : Nat → List (S91) → Int → Int → Option (Int)
 | 0, _, _, _ => none
 | k + 1, x0, x1, x5 => if x5 < (x0.length : Int) then (if 0 ≤ x5 then ((laws_szMember.f Y_ k ((rd_T91 x0 x5).f0) ((rd_T91 x0 x5).f1) ((rd_T91 x0 x5).f2.f0) ((rd_T91 x0 x5).f2.f1) ((rd_T91 x0 x5).f2.f2) ((rd_T91 x0 x5).f2.f3) ((rd_T91 x0 x5).f2.f4) ((rd_T91 x0 x5).f2.f5) ((rd_T91 x0 x5).f2.f6) ((rd_T91 x0 x5).f2.f7) ((rd_T91 x0 x5).f2.f8) x1).bind fun t127 => (if t127 < 0 then (some (-1)) else (laws_szMemberS.l0 Y_ k x0 t127 (wrap64 (x5 + 1))))) else (none)) else (some x1)
def laws_szMemberS.f (Y_ : Int → Int → Bool → Bool → List ByteArray → List Int → List (S91) → List (S27) → Int → Int → Option (Int)) (k : Nat) (l0 : List (S91)) (a1 : Int) : Option (Int) := if (wrap64 (a1 - (l0.length : Int))) < 0 then (some (-1)) else (laws_szMemberS.l0 Y_ k l0 (wrap64 (a1 - (l0.length : Int))) 0)
set_option maxHeartbeats 8000000 in
set_option maxRecDepth 100000 in
theorem laws_szMemberS.calls (Y_ : Int → Int → Bool → Bool → List ByteArray → List Int → List (S91) → List (S27) → Int → Int → Option (Int)) (HY_ : ∀ (a0_0 : Int) (a0_1 : Int) (a0_2 : Bool) (a0_3 : Bool) (A0_4 : Option Addr) (c0_4 : Nat) (l0_4 : List ByteArray) (A0_5 : Option Addr) (c0_5 : Nat) (l0_5 : List Int) (A0_6 : Option Addr) (c0_6 : Nat) (l0_6 : List (S91)) (A0_7 : Option Addr) (c0_7 : Nat) (l0_7 : List (S27)) (a0_8 : Int) (a1 : Int) (r : Int) (w : World) (hr0_4 : Kd.C Kd.string w A0_4 l0_4.length l0_4) (hc0_4 : l0_4.length ≤ c0_4) (hr0_5 : Kd.C (Kd.int .i64) w A0_5 l0_5.length l0_5) (hc0_5 : l0_5.length ≤ c0_5) (hr0_6 : Kd.C k91 w A0_6 l0_6.length l0_6) (hc0_6 : l0_6.length ≤ c0_6) (hr0_7 : Kd.C k27 w A0_7 l0_7.length l0_7) (hc0_7 : l0_7.length ≤ c0_7) (h : Y_ a0_0 a0_1 a0_2 a0_3 l0_4 l0_5 l0_6 l0_7 a0_8 a1 = some r), Calls Try.prog 7 #[.agg #[.int .i64 a0_0, .int .i64 a0_1, .bool a0_2, .bool a0_3, .slice A0_4 l0_4.length c0_4, .slice A0_5 l0_5.length c0_5, .slice A0_6 l0_6.length c0_6, .slice A0_7 l0_7.length c0_7, .int .i64 a0_8], .int .i64 a1] w fun e w' => e = .returned (.int .i64 r) ∧ Below w.heap.size w w') (k : Nat) (A0 : Option Addr) (c0 : Nat) (l0 : List (S91)) (a1 : Int) (r : Int) (w : World) (hr0 : Kd.C k91 w A0 l0.length l0) (hc0 : l0.length ≤ c0) (h : laws_szMemberS.f Y_ k l0 a1 = some r) :
 Calls Try.prog 31 #[.slice A0 l0.length c0, .int .i64 a1] w fun e w' => e = .returned (.int .i64 r) ∧ Below w.heap.size w w' := by
 have hu91 := Try.underlying91
 have HR0 := yD hr0
 have HC0 := yD hc0
 clear hr0 hc0
 have HB := yD (Below.refl w.heap.size w)
 have H : (if (wrap64 (a1 - (l0.length : Int))) < 0 then (some (-1)) else (laws_szMemberS.l0 Y_ k l0 (wrap64 (a1 - (l0.length : Int))) 0)) = some r := h
 clear h
 by_cases c3 : (wrap64 (a1 - (l0.length : Int))) < 0
 · rw [if_pos c3] at H
   have c3b0 : decide ((wrap64 (a1 - (l0.length : Int))) < 0) = true := zR c3; clear c3; obtain rfl := Option.some.inj H; go_enter Try.func31, Try.ntmps31
   go_wp2
   go_ret
   exact ⟨by first | rfl | (simp <;> rfl) | (simp [*] <;> rfl), kR1 HB⟩
 ·
  rw [if_neg c3] at H
  have c3b0 : decide ((wrap64 (a1 - (l0.length : Int))) < 0) = false := zS c3; clear c3
  have H' := yD H
  clear H; go_enter Try.func31, Try.ntmps31
  go_wp2
  go_loopg [1, 5] k (fun kq v1 v5 w' => ∃ (x1_1 : Int) (x5_1 : Int), v1 = .int .i64 x1_1 ∧ v5 = .int .i64 x5_1 ∧ Aside0 (laws_szMemberS.l0 Y_ kq l0 x1_1 x5_1 = some r) ∧ Aside0 (kq ≤ k) ∧ Aside0 (Below w.heap.size w w'))
  case atStart => exact ⟨(wrap64 (a1 - (l0.length : Int))), (0), (by first | rfl | (simp; done) | (simp [*]; done)), (by first | rfl | (simp; done) | (simp [*]; done)), H', ⟨Nat.le_refl _⟩, ⟨kR1 HB⟩⟩
  case round =>
   clear H'
   try clear p2; try clear c3; try clear c3b0
   obtain ⟨x1_1, x5_1, rfl, rfl, HA, HK1, HB⟩ := hrel
   cases gk with
   | zero => exact absurd HA.out (by simp [laws_szMemberS.l0])
   | succ k1 =>
    have H := HA.out; clear HA
    simp only [laws_szMemberS.l0] at H
    by_cases c4 : x5_1 < (l0.length : Int)
    ·
     rw [if_pos c4] at H
     have c4b0 : decide (x5_1 < (l0.length : Int)) = true := zR c4; clear c4
     by_cases c5 : 0 ≤ x5_1
     ·
      rw [if_pos c5] at H
      have c5b0 : decide (0 ≤ x5_1) = true := zR c5; clear c5
      obtain ⟨t127, A60, H⟩ := zW_ H
      replace H : (if t127 < 0 then (some (-1)) else (laws_szMemberS.l0 Y_ k1 l0 t127 (wrap64 (x5_1 + 1)))) = some r := H
      have A6 := yD A60
      clear A60
      by_cases c7 : t127 < 0
      ·
       rw [if_pos c7] at H
       have c7b0 : decide (t127 < 0) = true := zR c7; clear c7; obtain rfl := Option.some.inj H
       have p126 : 0 ≤ (x5_1 : Int) := zP (by assumption)
       have q126 : x5_1 < (l0.length : Int) := zP (by assumption)
       obtain ⟨ad126, A126_6, c126_6, A126_7, c126_7, A126_8, c126_8, A126_9, c126_9, e126, hx126_0, hx126_1, hx126_2, hx126_3, hx126_4, hx126_5, hx126_6, hx126_7, hx126_8, hx126_9, hx126_10, hl126_6, hi126_6, hl126_7, hi126_7, hl126_8, hi126_8, hl126_9, hi126_9⟩ := at_T91 HR0.out x5_1 p126 q126
       cases e126
       replace hx126_0 := (HB.out.cell (zQ w _ hx126_0)).trans hx126_0
       replace hx126_1 := (HB.out.cell (zQ w _ hx126_1)).trans hx126_1
       replace hx126_2 := (HB.out.cell (zQ w _ hx126_2)).trans hx126_2
       replace hx126_3 := (HB.out.cell (zQ w _ hx126_3)).trans hx126_3
       replace hx126_4 := (HB.out.cell (zQ w _ hx126_4)).trans hx126_4
       replace hx126_5 := (HB.out.cell (zQ w _ hx126_5)).trans hx126_5
       replace hx126_6 := (HB.out.cell (zQ w _ hx126_6)).trans hx126_6
       replace hx126_7 := (HB.out.cell (zQ w _ hx126_7)).trans hx126_7
       replace hx126_8 := (HB.out.cell (zQ w _ hx126_8)).trans hx126_8
       replace hx126_9 := (HB.out.cell (zQ w _ hx126_9)).trans hx126_9
       replace hx126_10 := (HB.out.cell (zQ w _ hx126_10)).trans hx126_10
       have HR126_6 := yD hi126_6
       have HC126_6 := yD hl126_6
       clear hi126_6 hl126_6
       have HR126_7 := yD hi126_7
       have HC126_7 := yD hl126_7
       clear hi126_7 hl126_7
       have HR126_8 := yD hi126_8
       have HC126_8 := yD hl126_8
       clear hi126_8 hl126_8
       have HR126_9 := yD hi126_9
       have HC126_9 := yD hl126_9
       clear hi126_9 hl126_9; replace p126 := eq_true p126; replace q126 := eq_true q126
       go_wp2_with (first | ((with_reducible refine gate_callee (f := 62) rfl ?_); refine gL 23 Try.func62 #[.agg #[.string ((rd_T91 l0 x5_1).f0), .int .i64 ((rd_T91 l0 x5_1).f1), .int .i64 ((rd_T91 l0 x5_1).f2.f0), .int .i64 ((rd_T91 l0 x5_1).f2.f1), .bool ((rd_T91 l0 x5_1).f2.f2), .bool ((rd_T91 l0 x5_1).f2.f3), .slice A126_6 ((rd_T91 l0 x5_1).f2.f4).length c126_6, .slice A126_7 ((rd_T91 l0 x5_1).f2.f5).length c126_7, .slice A126_8 ((rd_T91 l0 x5_1).f2.f6).length c126_8, .slice A126_9 ((rd_T91 l0 x5_1).f2.f7).length c126_9, .int .i64 ((rd_T91 l0 x5_1).f2.f8)], .int .i64 x1_1] ?_; (with_reducible refine (laws_szMember.calls Y_ HY_ k1 ((rd_T91 l0 x5_1).f0) ((rd_T91 l0 x5_1).f1) ((rd_T91 l0 x5_1).f2.f0) ((rd_T91 l0 x5_1).f2.f1) ((rd_T91 l0 x5_1).f2.f2) ((rd_T91 l0 x5_1).f2.f3) _ _ ((rd_T91 l0 x5_1).f2.f4) _ _ ((rd_T91 l0 x5_1).f2.f5) _ _ ((rd_T91 l0 x5_1).f2.f6) _ _ ((rd_T91 l0 x5_1).f2.f7) ((rd_T91 l0 x5_1).f2.f8) x1_1 t127 _ ?side1 ?side2 ?side3 ?side4 ?side5 ?side6 ?side7 ?side8 A6.out).mono ?_); (case side1 => exact kV (yY HR126_6.out HB.out)); (case side2 => exact HC126_6.out); (case side3 => exact kV (yY HR126_7.out HB.out)); (case side4 => exact HC126_7.out); (case side5 => exact kV (yY HR126_8.out HB.out)); (case side6 => exact HC126_8.out); (case side7 => exact kV (yY HR126_9.out HB.out)); (case side8 => exact HC126_9.out); rintro e w8 ⟨rfl, hb⟩; refine ⟨_, rfl, ?_⟩; replace HB := yD (zC (kB HB) hb); clear hb))
       go_ret
       exact ⟨by first | rfl | (simp <;> rfl) | (simp [*] <;> rfl), kR1 HB⟩
      ·
       rw [if_neg c7] at H
       have c7b0 : decide (t127 < 0) = false := zS c7; clear c7
       have H' := yD H
       clear H
       have p126 : 0 ≤ (x5_1 : Int) := zP (by assumption)
       have q126 : x5_1 < (l0.length : Int) := zP (by assumption)
       obtain ⟨ad126, A126_6, c126_6, A126_7, c126_7, A126_8, c126_8, A126_9, c126_9, e126, hx126_0, hx126_1, hx126_2, hx126_3, hx126_4, hx126_5, hx126_6, hx126_7, hx126_8, hx126_9, hx126_10, hl126_6, hi126_6, hl126_7, hi126_7, hl126_8, hi126_8, hl126_9, hi126_9⟩ := at_T91 HR0.out x5_1 p126 q126
       cases e126
       replace hx126_0 := (HB.out.cell (zQ w _ hx126_0)).trans hx126_0
       replace hx126_1 := (HB.out.cell (zQ w _ hx126_1)).trans hx126_1
       replace hx126_2 := (HB.out.cell (zQ w _ hx126_2)).trans hx126_2
       replace hx126_3 := (HB.out.cell (zQ w _ hx126_3)).trans hx126_3
       replace hx126_4 := (HB.out.cell (zQ w _ hx126_4)).trans hx126_4
       replace hx126_5 := (HB.out.cell (zQ w _ hx126_5)).trans hx126_5
       replace hx126_6 := (HB.out.cell (zQ w _ hx126_6)).trans hx126_6
       replace hx126_7 := (HB.out.cell (zQ w _ hx126_7)).trans hx126_7
       replace hx126_8 := (HB.out.cell (zQ w _ hx126_8)).trans hx126_8
       replace hx126_9 := (HB.out.cell (zQ w _ hx126_9)).trans hx126_9
       replace hx126_10 := (HB.out.cell (zQ w _ hx126_10)).trans hx126_10
       have HR126_6 := yD hi126_6
       have HC126_6 := yD hl126_6
       clear hi126_6 hl126_6
       have HR126_7 := yD hi126_7
       have HC126_7 := yD hl126_7
       clear hi126_7 hl126_7
       have HR126_8 := yD hi126_8
       have HC126_8 := yD hl126_8
       clear hi126_8 hl126_8
       have HR126_9 := yD hi126_9
       have HC126_9 := yD hl126_9
       clear hi126_9 hl126_9; replace p126 := eq_true p126; replace q126 := eq_true q126
       go_wp2_with (first | ((with_reducible refine gate_callee (f := 62) rfl ?_); refine gL 23 Try.func62 #[.agg #[.string ((rd_T91 l0 x5_1).f0), .int .i64 ((rd_T91 l0 x5_1).f1), .int .i64 ((rd_T91 l0 x5_1).f2.f0), .int .i64 ((rd_T91 l0 x5_1).f2.f1), .bool ((rd_T91 l0 x5_1).f2.f2), .bool ((rd_T91 l0 x5_1).f2.f3), .slice A126_6 ((rd_T91 l0 x5_1).f2.f4).length c126_6, .slice A126_7 ((rd_T91 l0 x5_1).f2.f5).length c126_7, .slice A126_8 ((rd_T91 l0 x5_1).f2.f6).length c126_8, .slice A126_9 ((rd_T91 l0 x5_1).f2.f7).length c126_9, .int .i64 ((rd_T91 l0 x5_1).f2.f8)], .int .i64 x1_1] ?_; (with_reducible refine (laws_szMember.calls Y_ HY_ k1 ((rd_T91 l0 x5_1).f0) ((rd_T91 l0 x5_1).f1) ((rd_T91 l0 x5_1).f2.f0) ((rd_T91 l0 x5_1).f2.f1) ((rd_T91 l0 x5_1).f2.f2) ((rd_T91 l0 x5_1).f2.f3) _ _ ((rd_T91 l0 x5_1).f2.f4) _ _ ((rd_T91 l0 x5_1).f2.f5) _ _ ((rd_T91 l0 x5_1).f2.f6) _ _ ((rd_T91 l0 x5_1).f2.f7) ((rd_T91 l0 x5_1).f2.f8) x1_1 t127 _ ?side1 ?side2 ?side3 ?side4 ?side5 ?side6 ?side7 ?side8 A6.out).mono ?_); (case side1 => exact kV (yY HR126_6.out HB.out)); (case side2 => exact HC126_6.out); (case side3 => exact kV (yY HR126_7.out HB.out)); (case side4 => exact HC126_7.out); (case side5 => exact kV (yY HR126_8.out HB.out)); (case side6 => exact HC126_8.out); (case side7 => exact kV (yY HR126_9.out HB.out)); (case side8 => exact HC126_9.out); rintro e w9 ⟨rfl, hb⟩; refine ⟨_, rfl, ?_⟩; replace HB := yD (zC (kB HB) hb); clear hb))
       go_roundg k1
       case measure => have := HK1.out; omega
       case rel => exact ⟨(t127), (wrap64 (x5_1 + 1)), (by first | rfl | (simp; done) | (simp [*]; done)), (by first | rfl | (simp; done) | (simp [*]; done)), H', ⟨by have := HK1.out; omega⟩, ⟨kR1 HB⟩⟩
     · rw [if_neg c5] at H
       exact absurd H (by simp)
    · rw [if_neg c4] at H
      have c4b0 : decide (x5_1 < (l0.length : Int)) = false := zS c4; clear c4; obtain rfl := Option.some.inj H
      go_wp2
      go_ret
      exact ⟨by first | rfl | (simp <;> rfl) | (simp [*] <;> rfl), kR1 HB⟩

/-! ### laws_szTypeS: function 32 -/
def laws_szTypeS.l0 (Y_ : Int → Int → Bool → Bool → List ByteArray → List Int → List (S91) → List (S27) → Int → Int → Option (Int)) : Nat → List (S27) → Int → Int → Option (Int)
 | 0, _, _, _ => none
 | k + 1, x0, x1, x5 => if x5 < (x0.length : Int) then (if 0 ≤ x5 then ((Y_ ((rd_T27 x0 x5).f0) ((rd_T27 x0 x5).f1) ((rd_T27 x0 x5).f2) ((rd_T27 x0 x5).f3) ((rd_T27 x0 x5).f4) ((rd_T27 x0 x5).f5) ((rd_T27 x0 x5).f6) ((rd_T27 x0 x5).f7) ((rd_T27 x0 x5).f8) x1).bind fun t129 => (if t129 < 0 then (some (-1)) else (laws_szTypeS.l0 Y_ k x0 t129 (wrap64 (x5 + 1))))) else (none)) else (some x1)
def laws_szTypeS.f (Y_ : Int → Int → Bool → Bool → List ByteArray → List Int → List (S91) → List (S27) → Int → Int → Option (Int)) (k : Nat) (l0 : List (S27)) (a1 : Int) : Option (Int) := if (wrap64 (a1 - (l0.length : Int))) < 0 then (some (-1)) else (laws_szTypeS.l0 Y_ k l0 (wrap64 (a1 - (l0.length : Int))) 0)
set_option maxHeartbeats 8000000 in
set_option maxRecDepth 100000 in
theorem laws_szTypeS.calls (Y_ : Int → Int → Bool → Bool → List ByteArray → List Int → List (S91) → List (S27) → Int → Int → Option (Int)) (HY_ : ∀ (a0_0 : Int) (a0_1 : Int) (a0_2 : Bool) (a0_3 : Bool) (A0_4 : Option Addr) (c0_4 : Nat) (l0_4 : List ByteArray) (A0_5 : Option Addr) (c0_5 : Nat) (l0_5 : List Int) (A0_6 : Option Addr) (c0_6 : Nat) (l0_6 : List (S91)) (A0_7 : Option Addr) (c0_7 : Nat) (l0_7 : List (S27)) (a0_8 : Int) (a1 : Int) (r : Int) (w : World) (hr0_4 : Kd.C Kd.string w A0_4 l0_4.length l0_4) (hc0_4 : l0_4.length ≤ c0_4) (hr0_5 : Kd.C (Kd.int .i64) w A0_5 l0_5.length l0_5) (hc0_5 : l0_5.length ≤ c0_5) (hr0_6 : Kd.C k91 w A0_6 l0_6.length l0_6) (hc0_6 : l0_6.length ≤ c0_6) (hr0_7 : Kd.C k27 w A0_7 l0_7.length l0_7) (hc0_7 : l0_7.length ≤ c0_7) (h : Y_ a0_0 a0_1 a0_2 a0_3 l0_4 l0_5 l0_6 l0_7 a0_8 a1 = some r), Calls Try.prog 7 #[.agg #[.int .i64 a0_0, .int .i64 a0_1, .bool a0_2, .bool a0_3, .slice A0_4 l0_4.length c0_4, .slice A0_5 l0_5.length c0_5, .slice A0_6 l0_6.length c0_6, .slice A0_7 l0_7.length c0_7, .int .i64 a0_8], .int .i64 a1] w fun e w' => e = .returned (.int .i64 r) ∧ Below w.heap.size w w') (k : Nat) (A0 : Option Addr) (c0 : Nat) (l0 : List (S27)) (a1 : Int) (r : Int) (w : World) (hr0 : Kd.C k27 w A0 l0.length l0) (hc0 : l0.length ≤ c0) (h : laws_szTypeS.f Y_ k l0 a1 = some r) :
 Calls Try.prog 32 #[.slice A0 l0.length c0, .int .i64 a1] w fun e w' => e = .returned (.int .i64 r) ∧ Below w.heap.size w w' := by
 have hu27 := Try.underlying27
 have HR0 := yD hr0
 have HC0 := yD hc0
 clear hr0 hc0
 have HB := yD (Below.refl w.heap.size w)
 have H : (if (wrap64 (a1 - (l0.length : Int))) < 0 then (some (-1)) else (laws_szTypeS.l0 Y_ k l0 (wrap64 (a1 - (l0.length : Int))) 0)) = some r := h
 clear h
 by_cases c3 : (wrap64 (a1 - (l0.length : Int))) < 0
 · rw [if_pos c3] at H
   have c3b0 : decide ((wrap64 (a1 - (l0.length : Int))) < 0) = true := zR c3; clear c3; obtain rfl := Option.some.inj H; go_enter Try.func32, Try.ntmps32
   go_wp2
   go_ret
   exact ⟨by first | rfl | (simp <;> rfl) | (simp [*] <;> rfl), kR1 HB⟩
 ·
  rw [if_neg c3] at H
  have c3b0 : decide ((wrap64 (a1 - (l0.length : Int))) < 0) = false := zS c3; clear c3
  have H' := yD H
  clear H; go_enter Try.func32, Try.ntmps32
  go_wp2
  go_loopg [1, 5] k (fun kq v1 v5 w' => ∃ (x1_1 : Int) (x5_1 : Int), v1 = .int .i64 x1_1 ∧ v5 = .int .i64 x5_1 ∧ Aside0 (laws_szTypeS.l0 Y_ kq l0 x1_1 x5_1 = some r) ∧ Aside0 (kq ≤ k) ∧ Aside0 (Below w.heap.size w w'))
  case atStart => exact ⟨(wrap64 (a1 - (l0.length : Int))), (0), (by first | rfl | (simp; done) | (simp [*]; done)), (by first | rfl | (simp; done) | (simp [*]; done)), H', ⟨Nat.le_refl _⟩, ⟨kR1 HB⟩⟩
  case round =>
   clear H'
   try clear p2; try clear c3; try clear c3b0
   obtain ⟨x1_1, x5_1, rfl, rfl, HA, HK1, HB⟩ := hrel
   cases gk with
   | zero => exact absurd HA.out (by simp [laws_szTypeS.l0])
   | succ k1 =>
    have H := HA.out; clear HA
    simp only [laws_szTypeS.l0] at H
    by_cases c4 : x5_1 < (l0.length : Int)
    ·
     rw [if_pos c4] at H
     have c4b0 : decide (x5_1 < (l0.length : Int)) = true := zR c4; clear c4
     by_cases c5 : 0 ≤ x5_1
     ·
      rw [if_pos c5] at H
      have c5b0 : decide (0 ≤ x5_1) = true := zR c5; clear c5
      obtain ⟨t129, A60, H⟩ := zW_ H
      replace H : (if t129 < 0 then (some (-1)) else (laws_szTypeS.l0 Y_ k1 l0 t129 (wrap64 (x5_1 + 1)))) = some r := H
      have A6 := yD A60
      clear A60
      by_cases c7 : t129 < 0
      ·
       rw [if_pos c7] at H
       have c7b0 : decide (t129 < 0) = true := zR c7; clear c7; obtain rfl := Option.some.inj H
       have p128 : 0 ≤ (x5_1 : Int) := zP (by assumption)
       have q128 : x5_1 < (l0.length : Int) := zP (by assumption)
       obtain ⟨ad128, A128_4, c128_4, A128_5, c128_5, A128_6, c128_6, A128_7, c128_7, e128, hx128_0, hx128_1, hx128_2, hx128_3, hx128_4, hx128_5, hx128_6, hx128_7, hx128_8, hl128_4, hi128_4, hl128_5, hi128_5, hl128_6, hi128_6, hl128_7, hi128_7⟩ := at_T27 HR0.out x5_1 p128 q128
       cases e128
       replace hx128_0 := (HB.out.cell (zQ w _ hx128_0)).trans hx128_0
       replace hx128_1 := (HB.out.cell (zQ w _ hx128_1)).trans hx128_1
       replace hx128_2 := (HB.out.cell (zQ w _ hx128_2)).trans hx128_2
       replace hx128_3 := (HB.out.cell (zQ w _ hx128_3)).trans hx128_3
       replace hx128_4 := (HB.out.cell (zQ w _ hx128_4)).trans hx128_4
       replace hx128_5 := (HB.out.cell (zQ w _ hx128_5)).trans hx128_5
       replace hx128_6 := (HB.out.cell (zQ w _ hx128_6)).trans hx128_6
       replace hx128_7 := (HB.out.cell (zQ w _ hx128_7)).trans hx128_7
       replace hx128_8 := (HB.out.cell (zQ w _ hx128_8)).trans hx128_8
       have HR128_4 := yD hi128_4
       have HC128_4 := yD hl128_4
       clear hi128_4 hl128_4
       have HR128_5 := yD hi128_5
       have HC128_5 := yD hl128_5
       clear hi128_5 hl128_5
       have HR128_6 := yD hi128_6
       have HC128_6 := yD hl128_6
       clear hi128_6 hl128_6
       have HR128_7 := yD hi128_7
       have HC128_7 := yD hl128_7
       clear hi128_7 hl128_7; replace p128 := eq_true p128; replace q128 := eq_true q128
       go_wp2_with (first | ((with_reducible refine gate_callee (f := 7) rfl ?_); refine gL 23 Try.func7 #[.agg #[.int .i64 ((rd_T27 l0 x5_1).f0), .int .i64 ((rd_T27 l0 x5_1).f1), .bool ((rd_T27 l0 x5_1).f2), .bool ((rd_T27 l0 x5_1).f3), .slice A128_4 ((rd_T27 l0 x5_1).f4).length c128_4, .slice A128_5 ((rd_T27 l0 x5_1).f5).length c128_5, .slice A128_6 ((rd_T27 l0 x5_1).f6).length c128_6, .slice A128_7 ((rd_T27 l0 x5_1).f7).length c128_7, .int .i64 ((rd_T27 l0 x5_1).f8)], .int .i64 x1_1] ?_; (with_reducible refine (HY_ ((rd_T27 l0 x5_1).f0) ((rd_T27 l0 x5_1).f1) ((rd_T27 l0 x5_1).f2) ((rd_T27 l0 x5_1).f3) _ _ ((rd_T27 l0 x5_1).f4) _ _ ((rd_T27 l0 x5_1).f5) _ _ ((rd_T27 l0 x5_1).f6) _ _ ((rd_T27 l0 x5_1).f7) ((rd_T27 l0 x5_1).f8) x1_1 t129 _ ?side1 ?side2 ?side3 ?side4 ?side5 ?side6 ?side7 ?side8 A6.out).mono ?_); (case side1 => exact kV (yY HR128_4.out HB.out)); (case side2 => exact HC128_4.out); (case side3 => exact kV (yY HR128_5.out HB.out)); (case side4 => exact HC128_5.out); (case side5 => exact kV (yY HR128_6.out HB.out)); (case side6 => exact HC128_6.out); (case side7 => exact kV (yY HR128_7.out HB.out)); (case side8 => exact HC128_7.out); rintro e w8 ⟨rfl, hb⟩; refine ⟨_, rfl, ?_⟩; replace HB := yD (zC (kB HB) hb); clear hb))
       go_ret
       exact ⟨by first | rfl | (simp <;> rfl) | (simp [*] <;> rfl), kR1 HB⟩
      ·
       rw [if_neg c7] at H
       have c7b0 : decide (t129 < 0) = false := zS c7; clear c7
       have H' := yD H
       clear H
       have p128 : 0 ≤ (x5_1 : Int) := zP (by assumption)
       have q128 : x5_1 < (l0.length : Int) := zP (by assumption)
       obtain ⟨ad128, A128_4, c128_4, A128_5, c128_5, A128_6, c128_6, A128_7, c128_7, e128, hx128_0, hx128_1, hx128_2, hx128_3, hx128_4, hx128_5, hx128_6, hx128_7, hx128_8, hl128_4, hi128_4, hl128_5, hi128_5, hl128_6, hi128_6, hl128_7, hi128_7⟩ := at_T27 HR0.out x5_1 p128 q128
       cases e128
       replace hx128_0 := (HB.out.cell (zQ w _ hx128_0)).trans hx128_0
       replace hx128_1 := (HB.out.cell (zQ w _ hx128_1)).trans hx128_1
       replace hx128_2 := (HB.out.cell (zQ w _ hx128_2)).trans hx128_2
       replace hx128_3 := (HB.out.cell (zQ w _ hx128_3)).trans hx128_3
       replace hx128_4 := (HB.out.cell (zQ w _ hx128_4)).trans hx128_4
       replace hx128_5 := (HB.out.cell (zQ w _ hx128_5)).trans hx128_5
       replace hx128_6 := (HB.out.cell (zQ w _ hx128_6)).trans hx128_6
       replace hx128_7 := (HB.out.cell (zQ w _ hx128_7)).trans hx128_7
       replace hx128_8 := (HB.out.cell (zQ w _ hx128_8)).trans hx128_8
       have HR128_4 := yD hi128_4
       have HC128_4 := yD hl128_4
       clear hi128_4 hl128_4
       have HR128_5 := yD hi128_5
       have HC128_5 := yD hl128_5
       clear hi128_5 hl128_5
       have HR128_6 := yD hi128_6
       have HC128_6 := yD hl128_6
       clear hi128_6 hl128_6
       have HR128_7 := yD hi128_7
       have HC128_7 := yD hl128_7
       clear hi128_7 hl128_7; replace p128 := eq_true p128; replace q128 := eq_true q128
       go_wp2_with (first | ((with_reducible refine gate_callee (f := 7) rfl ?_); refine gL 23 Try.func7 #[.agg #[.int .i64 ((rd_T27 l0 x5_1).f0), .int .i64 ((rd_T27 l0 x5_1).f1), .bool ((rd_T27 l0 x5_1).f2), .bool ((rd_T27 l0 x5_1).f3), .slice A128_4 ((rd_T27 l0 x5_1).f4).length c128_4, .slice A128_5 ((rd_T27 l0 x5_1).f5).length c128_5, .slice A128_6 ((rd_T27 l0 x5_1).f6).length c128_6, .slice A128_7 ((rd_T27 l0 x5_1).f7).length c128_7, .int .i64 ((rd_T27 l0 x5_1).f8)], .int .i64 x1_1] ?_; (with_reducible refine (HY_ ((rd_T27 l0 x5_1).f0) ((rd_T27 l0 x5_1).f1) ((rd_T27 l0 x5_1).f2) ((rd_T27 l0 x5_1).f3) _ _ ((rd_T27 l0 x5_1).f4) _ _ ((rd_T27 l0 x5_1).f5) _ _ ((rd_T27 l0 x5_1).f6) _ _ ((rd_T27 l0 x5_1).f7) ((rd_T27 l0 x5_1).f8) x1_1 t129 _ ?side1 ?side2 ?side3 ?side4 ?side5 ?side6 ?side7 ?side8 A6.out).mono ?_); (case side1 => exact kV (yY HR128_4.out HB.out)); (case side2 => exact HC128_4.out); (case side3 => exact kV (yY HR128_5.out HB.out)); (case side4 => exact HC128_5.out); (case side5 => exact kV (yY HR128_6.out HB.out)); (case side6 => exact HC128_6.out); (case side7 => exact kV (yY HR128_7.out HB.out)); (case side8 => exact HC128_7.out); rintro e w9 ⟨rfl, hb⟩; refine ⟨_, rfl, ?_⟩; replace HB := yD (zC (kB HB) hb); clear hb))
       go_roundg k1
       case measure => have := HK1.out; omega
       case rel => exact ⟨(t129), (wrap64 (x5_1 + 1)), (by first | rfl | (simp; done) | (simp [*]; done)), (by first | rfl | (simp; done) | (simp [*]; done)), H', ⟨by have := HK1.out; omega⟩, ⟨kR1 HB⟩⟩
     · rw [if_neg c5] at H
       exact absurd H (by simp)
    · rw [if_neg c4] at H
      have c4b0 : decide (x5_1 < (l0.length : Int)) = false := zS c4; clear c4; obtain rfl := Option.some.inj H
      go_wp2
      go_ret
      exact ⟨by first | rfl | (simp <;> rfl) | (simp [*] <;> rfl), kR1 HB⟩

/-! ### laws_szType: function 7 -/
def laws_szType.f : Nat → Int → Int → Bool → Bool → List ByteArray → List Int → List (S91) → List (S27) → Int → Int → Option (Int)
 | 0, _, _, _, _, _, _, _, _, _, _ => none
 | k + 1, a0_0, a0_1, a0_2, a0_3, l0_4, l0_5, l0_6, l0_7, a0_8, a1 => (laws_szStringS.f k l0_4 a1).bind fun t131 => (if t131 < 0 then (some (-1)) else ((laws_szInt64S.f l0_5 t131).bind fun t132 => (if t132 < 0 then (some (-1)) else ((laws_szMemberS.f (laws_szType.f k) k l0_6 t132).bind fun t133 => (if t133 < 0 then (some (-1)) else ((laws_szTypeS.f (laws_szType.f k) k l0_7 t133).bind fun t134 => (if t134 < 0 then (some (-1)) else (some t134))))))))
set_option maxHeartbeats 8000000 in
set_option maxRecDepth 100000 in
theorem laws_szType.calls (k : Nat) : ∀ (a0_0 : Int) (a0_1 : Int) (a0_2 : Bool) (a0_3 : Bool) (A0_4 : Option Addr) (c0_4 : Nat) (l0_4 : List ByteArray) (A0_5 : Option Addr) (c0_5 : Nat) (l0_5 : List Int) (A0_6 : Option Addr) (c0_6 : Nat) (l0_6 : List (S91)) (A0_7 : Option Addr) (c0_7 : Nat) (l0_7 : List (S27)) (a0_8 : Int) (a1 : Int) (r : Int) (w : World) (hr0_4 : Kd.C Kd.string w A0_4 l0_4.length l0_4) (hc0_4 : l0_4.length ≤ c0_4) (hr0_5 : Kd.C (Kd.int .i64) w A0_5 l0_5.length l0_5) (hc0_5 : l0_5.length ≤ c0_5) (hr0_6 : Kd.C k91 w A0_6 l0_6.length l0_6) (hc0_6 : l0_6.length ≤ c0_6) (hr0_7 : Kd.C k27 w A0_7 l0_7.length l0_7) (hc0_7 : l0_7.length ≤ c0_7) (h : laws_szType.f k a0_0 a0_1 a0_2 a0_3 l0_4 l0_5 l0_6 l0_7 a0_8 a1 = some r),
 Calls Try.prog 7 #[.agg #[.int .i64 a0_0, .int .i64 a0_1, .bool a0_2, .bool a0_3, .slice A0_4 l0_4.length c0_4, .slice A0_5 l0_5.length c0_5, .slice A0_6 l0_6.length c0_6, .slice A0_7 l0_7.length c0_7, .int .i64 a0_8], .int .i64 a1] w fun e w' => e = .returned (.int .i64 r) ∧ Below w.heap.size w w' := by
 induction k using Nat.strongRecOn with
 | _ k ih =>
 intro a0_0 a0_1 a0_2 a0_3 A0_4 c0_4 l0_4 A0_5 c0_5 l0_5 A0_6 c0_6 l0_6 A0_7 c0_7 l0_7 a0_8 a1 r w hr0_4 hc0_4 hr0_5 hc0_5 hr0_6 hc0_6 hr0_7 hc0_7 h
 cases k with
 | zero => exact absurd h (by simp [laws_szType.f])
 | succ k =>
 simp only [laws_szType.f] at h
 have hu27 := Try.underlying27
 have HR0_4 := yD hr0_4
 have HC0_4 := yD hc0_4
 clear hr0_4 hc0_4
 have HR0_5 := yD hr0_5
 have HC0_5 := yD hc0_5
 clear hr0_5 hc0_5
 have HR0_6 := yD hr0_6
 have HC0_6 := yD hc0_6
 clear hr0_6 hc0_6
 have HR0_7 := yD hr0_7
 have HC0_7 := yD hc0_7
 clear hr0_7 hc0_7
 have HB := yD (Below.refl w.heap.size w)
 have H : ((laws_szStringS.f k l0_4 a1).bind fun t131 => (if t131 < 0 then (some (-1)) else ((laws_szInt64S.f l0_5 t131).bind fun t132 => (if t132 < 0 then (some (-1)) else ((laws_szMemberS.f (laws_szType.f k) k l0_6 t132).bind fun t133 => (if t133 < 0 then (some (-1)) else ((laws_szTypeS.f (laws_szType.f k) k l0_7 t133).bind fun t134 => (if t134 < 0 then (some (-1)) else (some t134))))))))) = some r := h
 clear h
 obtain ⟨t131, A30, H⟩ := zW_ H
 replace H : (if t131 < 0 then (some (-1)) else ((laws_szInt64S.f l0_5 t131).bind fun t132 => (if t132 < 0 then (some (-1)) else ((laws_szMemberS.f (laws_szType.f k) k l0_6 t132).bind fun t133 => (if t133 < 0 then (some (-1)) else ((laws_szTypeS.f (laws_szType.f k) k l0_7 t133).bind fun t134 => (if t134 < 0 then (some (-1)) else (some t134)))))))) = some r := H
 have A3 := yD A30
 clear A30
 by_cases c4 : t131 < 0
 · rw [if_pos c4] at H
   have c4b0 : decide (t131 < 0) = true := zR c4; clear c4; obtain rfl := Option.some.inj H; go_enter Try.func7, Try.ntmps7
   go_wp2_with (first | ((with_reducible refine gate_dst (N := 2) rfl ?_); refine box_event ?hg (N := 2) ?hd (cs := #[.int .i64 a0_0, .int .i64 a0_1, .bool a0_2, .bool a0_3, .slice A0_4 l0_4.length c0_4, .slice A0_5 l0_5.length c0_5, .slice A0_6 l0_6.length c0_6, .slice A0_7 l0_7.length c0_7, .int .i64 a0_8]) (t := 27) ?hr ?_; (case hd => rfl); (case hg => rfl); (case hr => first | (go_simp; done) | (go_simp; rfl)); intro gb130 hg w5 hbox hb; have BK130 := yD (hbox); have GW130 := yD ((by rw [hg]; exact (below_size (kB HB)) : w.heap.size ≤ gb130)); have GE130 := yD ((by rw [hg]; exact (below_size (kB HB)) : w.heap.size ≤ gb130)); replace HB := yD (zC (kB HB) hb); clear hb hbox hg; obtain ⟨hcz6_0, hcz6_1, hcz6_2, hcz6_3, hcz6_4, hcz6_5, hcz6_6, hcz6_7, hcz6_8⟩ := cz9 BK130.out; obtain ⟨hfz6_0, hfz6_1, hfz6_2, hfz6_3, hfz6_4, hfz6_5, hfz6_6, hfz6_7, hfz6_8⟩ := fz9 BK130.out) | ((with_reducible refine gate_callee (f := 29) rfl ?_); refine gL 8 Try.func29 #[.slice A0_4 l0_4.length c0_4, .int .i64 a1] ?_; (with_reducible refine (laws_szStringS.calls k _ _ l0_4 a1 t131 _ ?side1 ?side2 A3.out).mono ?_); (case side1 => exact kV (yY HR0_4.out HB.out)); (case side2 => exact HC0_4.out); rintro e w' ⟨rfl, ⟨nd, rfl⟩⟩; refine ⟨_, rfl, ?_⟩))
   go_ret
   exact ⟨by first | rfl | (simp <;> rfl) | (simp [*] <;> rfl), kR0 HB⟩
 ·
  rw [if_neg c4] at H
  have c4b0 : decide (t131 < 0) = false := zS c4; clear c4
  obtain ⟨t132, A70, H⟩ := zW_ H
  replace H : (if t132 < 0 then (some (-1)) else ((laws_szMemberS.f (laws_szType.f k) k l0_6 t132).bind fun t133 => (if t133 < 0 then (some (-1)) else ((laws_szTypeS.f (laws_szType.f k) k l0_7 t133).bind fun t134 => (if t134 < 0 then (some (-1)) else (some t134)))))) = some r := H
  have A7 := yD A70
  clear A70
  by_cases c8 : t132 < 0
  · rw [if_pos c8] at H
    have c8b0 : decide (t132 < 0) = true := zR c8; clear c8; obtain rfl := Option.some.inj H; go_enter Try.func7, Try.ntmps7
    go_wp2_with (first | ((with_reducible refine gate_dst (N := 2) rfl ?_); refine box_event ?hg (N := 2) ?hd (cs := #[.int .i64 a0_0, .int .i64 a0_1, .bool a0_2, .bool a0_3, .slice A0_4 l0_4.length c0_4, .slice A0_5 l0_5.length c0_5, .slice A0_6 l0_6.length c0_6, .slice A0_7 l0_7.length c0_7, .int .i64 a0_8]) (t := 27) ?hr ?_; (case hd => rfl); (case hg => rfl); (case hr => first | (go_simp; done) | (go_simp; rfl)); intro gb130 hg w9 hbox hb; have BK130 := yD (hbox); have GW130 := yD ((by rw [hg]; exact (below_size (kB HB)) : w.heap.size ≤ gb130)); have GE130 := yD ((by rw [hg]; exact (below_size (kB HB)) : w.heap.size ≤ gb130)); replace HB := yD (zC (kB HB) hb); clear hb hbox hg; obtain ⟨hcz10_0, hcz10_1, hcz10_2, hcz10_3, hcz10_4, hcz10_5, hcz10_6, hcz10_7, hcz10_8⟩ := cz9 BK130.out; obtain ⟨hfz10_0, hfz10_1, hfz10_2, hfz10_3, hfz10_4, hfz10_5, hfz10_6, hfz10_7, hfz10_8⟩ := fz9 BK130.out) | ((with_reducible refine gate_callee (f := 29) rfl ?_); refine gL 8 Try.func29 #[.slice A0_4 l0_4.length c0_4, .int .i64 a1] ?_; (with_reducible refine (laws_szStringS.calls k _ _ l0_4 a1 t131 _ ?side1 ?side2 A3.out).mono ?_); (case side1 => exact kV (yY HR0_4.out HB.out)); (case side2 => exact HC0_4.out); rintro e w' ⟨rfl, ⟨nd, rfl⟩⟩; refine ⟨_, rfl, ?_⟩) | ((with_reducible refine gate_callee (f := 30) rfl ?_); refine gL 14 Try.func30 #[.slice A0_5 l0_5.length c0_5, .int .i64 t131] ?_; (with_reducible refine (laws_szInt64S.calls _ _ l0_5 t131 t132 _ ?side1 ?side2 A7.out).mono ?_); (case side1 => repeat (first | exact (yY HR0_5.out (kB HB)) | (with_reducible first | refine yV ?_ _ | refine yW ?_ _ | refine yX ?_))); (case side2 => exact HC0_5.out); rintro e w' ⟨rfl, ⟨nd, rfl⟩⟩; refine ⟨_, rfl, ?_⟩))
    go_ret
    exact ⟨by first | rfl | (simp <;> rfl) | (simp [*] <;> rfl), kR0 HB⟩
  ·
   rw [if_neg c8] at H
   have c8b0 : decide (t132 < 0) = false := zS c8; clear c8
   obtain ⟨t133, A110, H⟩ := zW_ H
   replace H : (if t133 < 0 then (some (-1)) else ((laws_szTypeS.f (laws_szType.f k) k l0_7 t133).bind fun t134 => (if t134 < 0 then (some (-1)) else (some t134)))) = some r := H
   have A11 := yD A110
   clear A110
   by_cases c12 : t133 < 0
   · rw [if_pos c12] at H
     have c12b0 : decide (t133 < 0) = true := zR c12; clear c12; obtain rfl := Option.some.inj H; go_enter Try.func7, Try.ntmps7
     go_wp2_with (first | ((with_reducible refine gate_dst (N := 2) rfl ?_); refine box_event ?hg (N := 2) ?hd (cs := #[.int .i64 a0_0, .int .i64 a0_1, .bool a0_2, .bool a0_3, .slice A0_4 l0_4.length c0_4, .slice A0_5 l0_5.length c0_5, .slice A0_6 l0_6.length c0_6, .slice A0_7 l0_7.length c0_7, .int .i64 a0_8]) (t := 27) ?hr ?_; (case hd => rfl); (case hg => rfl); (case hr => first | (go_simp; done) | (go_simp; rfl)); intro gb130 hg w13 hbox hb; have BK130 := yD (hbox); have GW130 := yD ((by rw [hg]; exact (below_size (kB HB)) : w.heap.size ≤ gb130)); have GE130 := yD ((by rw [hg]; exact (below_size (kB HB)) : w.heap.size ≤ gb130)); replace HB := yD (zC (kB HB) hb); clear hb hbox hg; obtain ⟨hcz14_0, hcz14_1, hcz14_2, hcz14_3, hcz14_4, hcz14_5, hcz14_6, hcz14_7, hcz14_8⟩ := cz9 BK130.out; obtain ⟨hfz14_0, hfz14_1, hfz14_2, hfz14_3, hfz14_4, hfz14_5, hfz14_6, hfz14_7, hfz14_8⟩ := fz9 BK130.out) | ((with_reducible refine gate_callee (f := 29) rfl ?_); refine gL 8 Try.func29 #[.slice A0_4 l0_4.length c0_4, .int .i64 a1] ?_; (with_reducible refine (laws_szStringS.calls k _ _ l0_4 a1 t131 _ ?side1 ?side2 A3.out).mono ?_); (case side1 => exact kV (yY HR0_4.out HB.out)); (case side2 => exact HC0_4.out); rintro e w' ⟨rfl, ⟨nd, rfl⟩⟩; refine ⟨_, rfl, ?_⟩) | ((with_reducible refine gate_callee (f := 30) rfl ?_); refine gL 14 Try.func30 #[.slice A0_5 l0_5.length c0_5, .int .i64 t131] ?_; (with_reducible refine (laws_szInt64S.calls _ _ l0_5 t131 t132 _ ?side1 ?side2 A7.out).mono ?_); (case side1 => repeat (first | exact (yY HR0_5.out (kB HB)) | (with_reducible first | refine yV ?_ _ | refine yW ?_ _ | refine yX ?_))); (case side2 => exact HC0_5.out); rintro e w' ⟨rfl, ⟨nd, rfl⟩⟩; refine ⟨_, rfl, ?_⟩) | ((with_reducible refine gate_callee (f := 31) rfl ?_); refine gL 20 Try.func31 #[.slice A0_6 l0_6.length c0_6, .int .i64 t132] ?_; (with_reducible refine (laws_szMemberS.calls (laws_szType.f k) (ih k (by omega)) k _ _ l0_6 t132 t133 _ ?side1 ?side2 A11.out).mono ?_); (case side1 => repeat (first | exact (yY HR0_6.out (kB HB)) | (with_reducible first | refine yV ?_ _ | refine yW ?_ _ | refine yX ?_))); (case side2 => exact HC0_6.out); rintro e w15 ⟨rfl, hb⟩; refine ⟨_, rfl, ?_⟩; replace BK130 := yD (zB (kN BK130) hb); replace HB := yD (zC (kB HB) hb); clear hb))
     go_ret
     exact ⟨by first | rfl | (simp <;> rfl) | (simp [*] <;> rfl), kR0 HB⟩
   ·
    rw [if_neg c12] at H
    have c12b0 : decide (t133 < 0) = false := zS c12; clear c12
    obtain ⟨t134, A160, H⟩ := zW_ H
    replace H : (if t134 < 0 then (some (-1)) else (some t134)) = some r := H
    have A16 := yD A160
    clear A160
    by_cases c17 : t134 < 0
    · rw [if_pos c17] at H
      have c17b0 : decide (t134 < 0) = true := zR c17; clear c17; obtain rfl := Option.some.inj H; go_enter Try.func7, Try.ntmps7
      go_wp2_with (first | ((with_reducible refine gate_dst (N := 2) rfl ?_); refine box_event ?hg (N := 2) ?hd (cs := #[.int .i64 a0_0, .int .i64 a0_1, .bool a0_2, .bool a0_3, .slice A0_4 l0_4.length c0_4, .slice A0_5 l0_5.length c0_5, .slice A0_6 l0_6.length c0_6, .slice A0_7 l0_7.length c0_7, .int .i64 a0_8]) (t := 27) ?hr ?_; (case hd => rfl); (case hg => rfl); (case hr => first | (go_simp; done) | (go_simp; rfl)); intro gb130 hg w18 hbox hb; have BK130 := yD (hbox); have GW130 := yD ((by rw [hg]; exact (below_size (kB HB)) : w.heap.size ≤ gb130)); have GE130 := yD ((by rw [hg]; exact (below_size (kB HB)) : w.heap.size ≤ gb130)); replace HB := yD (zC (kB HB) hb); clear hb hbox hg; obtain ⟨hcz19_0, hcz19_1, hcz19_2, hcz19_3, hcz19_4, hcz19_5, hcz19_6, hcz19_7, hcz19_8⟩ := cz9 BK130.out; obtain ⟨hfz19_0, hfz19_1, hfz19_2, hfz19_3, hfz19_4, hfz19_5, hfz19_6, hfz19_7, hfz19_8⟩ := fz9 BK130.out) | ((with_reducible refine gate_callee (f := 29) rfl ?_); refine gL 8 Try.func29 #[.slice A0_4 l0_4.length c0_4, .int .i64 a1] ?_; (with_reducible refine (laws_szStringS.calls k _ _ l0_4 a1 t131 _ ?side1 ?side2 A3.out).mono ?_); (case side1 => exact kV (yY HR0_4.out HB.out)); (case side2 => exact HC0_4.out); rintro e w' ⟨rfl, ⟨nd, rfl⟩⟩; refine ⟨_, rfl, ?_⟩) | ((with_reducible refine gate_callee (f := 30) rfl ?_); refine gL 14 Try.func30 #[.slice A0_5 l0_5.length c0_5, .int .i64 t131] ?_; (with_reducible refine (laws_szInt64S.calls _ _ l0_5 t131 t132 _ ?side1 ?side2 A7.out).mono ?_); (case side1 => repeat (first | exact (yY HR0_5.out (kB HB)) | (with_reducible first | refine yV ?_ _ | refine yW ?_ _ | refine yX ?_))); (case side2 => exact HC0_5.out); rintro e w' ⟨rfl, ⟨nd, rfl⟩⟩; refine ⟨_, rfl, ?_⟩) | ((with_reducible refine gate_callee (f := 31) rfl ?_); refine gL 20 Try.func31 #[.slice A0_6 l0_6.length c0_6, .int .i64 t132] ?_; (with_reducible refine (laws_szMemberS.calls (laws_szType.f k) (ih k (by omega)) k _ _ l0_6 t132 t133 _ ?side1 ?side2 A11.out).mono ?_); (case side1 => repeat (first | exact (yY HR0_6.out (kB HB)) | (with_reducible first | refine yV ?_ _ | refine yW ?_ _ | refine yX ?_))); (case side2 => exact HC0_6.out); rintro e w20 ⟨rfl, hb⟩; refine ⟨_, rfl, ?_⟩; replace BK130 := yD (zB (kN BK130) hb); replace HB := yD (zC (kB HB) hb); clear hb; obtain ⟨hcz21_0, hcz21_1, hcz21_2, hcz21_3, hcz21_4, hcz21_5, hcz21_6, hcz21_7, hcz21_8⟩ := cz9 BK130.out; obtain ⟨hfz21_0, hfz21_1, hfz21_2, hfz21_3, hfz21_4, hfz21_5, hfz21_6, hfz21_7, hfz21_8⟩ := fz9 BK130.out) | ((with_reducible refine gate_callee (f := 32) rfl ?_); refine gL 26 Try.func32 #[.slice A0_7 l0_7.length c0_7, .int .i64 t133] ?_; (with_reducible refine (laws_szTypeS.calls (laws_szType.f k) (ih k (by omega)) k _ _ l0_7 t133 t134 _ ?side1 ?side2 A16.out).mono ?_); (case side1 => exact kV (yY HR0_7.out HB.out)); (case side2 => exact HC0_7.out); rintro e w22 ⟨rfl, hb⟩; refine ⟨_, rfl, ?_⟩; replace BK130 := yD (zB (kN BK130) hb); replace HB := yD (zC (kB HB) hb); clear hb))
      go_ret
      exact ⟨by first | rfl | (simp <;> rfl) | (simp [*] <;> rfl), kR0 HB⟩
    · rw [if_neg c17] at H
      have c17b0 : decide (t134 < 0) = false := zS c17; clear c17; obtain rfl := Option.some.inj H; go_enter Try.func7, Try.ntmps7
      go_wp2_with (first | ((with_reducible refine gate_dst (N := 2) rfl ?_); refine box_event ?hg (N := 2) ?hd (cs := #[.int .i64 a0_0, .int .i64 a0_1, .bool a0_2, .bool a0_3, .slice A0_4 l0_4.length c0_4, .slice A0_5 l0_5.length c0_5, .slice A0_6 l0_6.length c0_6, .slice A0_7 l0_7.length c0_7, .int .i64 a0_8]) (t := 27) ?hr ?_; (case hd => rfl); (case hg => rfl); (case hr => first | (go_simp; done) | (go_simp; rfl)); intro gb130 hg w23 hbox hb; have BK130 := yD (hbox); have GW130 := yD ((by rw [hg]; exact (below_size (kB HB)) : w.heap.size ≤ gb130)); have GE130 := yD ((by rw [hg]; exact (below_size (kB HB)) : w.heap.size ≤ gb130)); replace HB := yD (zC (kB HB) hb); clear hb hbox hg; obtain ⟨hcz24_0, hcz24_1, hcz24_2, hcz24_3, hcz24_4, hcz24_5, hcz24_6, hcz24_7, hcz24_8⟩ := cz9 BK130.out; obtain ⟨hfz24_0, hfz24_1, hfz24_2, hfz24_3, hfz24_4, hfz24_5, hfz24_6, hfz24_7, hfz24_8⟩ := fz9 BK130.out) | ((with_reducible refine gate_callee (f := 29) rfl ?_); refine gL 8 Try.func29 #[.slice A0_4 l0_4.length c0_4, .int .i64 a1] ?_; (with_reducible refine (laws_szStringS.calls k _ _ l0_4 a1 t131 _ ?side1 ?side2 A3.out).mono ?_); (case side1 => exact kV (yY HR0_4.out HB.out)); (case side2 => exact HC0_4.out); rintro e w' ⟨rfl, ⟨nd, rfl⟩⟩; refine ⟨_, rfl, ?_⟩) | ((with_reducible refine gate_callee (f := 30) rfl ?_); refine gL 14 Try.func30 #[.slice A0_5 l0_5.length c0_5, .int .i64 t131] ?_; (with_reducible refine (laws_szInt64S.calls _ _ l0_5 t131 t132 _ ?side1 ?side2 A7.out).mono ?_); (case side1 => repeat (first | exact (yY HR0_5.out (kB HB)) | (with_reducible first | refine yV ?_ _ | refine yW ?_ _ | refine yX ?_))); (case side2 => exact HC0_5.out); rintro e w' ⟨rfl, ⟨nd, rfl⟩⟩; refine ⟨_, rfl, ?_⟩) | ((with_reducible refine gate_callee (f := 31) rfl ?_); refine gL 20 Try.func31 #[.slice A0_6 l0_6.length c0_6, .int .i64 t132] ?_; (with_reducible refine (laws_szMemberS.calls (laws_szType.f k) (ih k (by omega)) k _ _ l0_6 t132 t133 _ ?side1 ?side2 A11.out).mono ?_); (case side1 => repeat (first | exact (yY HR0_6.out (kB HB)) | (with_reducible first | refine yV ?_ _ | refine yW ?_ _ | refine yX ?_))); (case side2 => exact HC0_6.out); rintro e w25 ⟨rfl, hb⟩; refine ⟨_, rfl, ?_⟩; replace BK130 := yD (zB (kN BK130) hb); replace HB := yD (zC (kB HB) hb); clear hb; obtain ⟨hcz26_0, hcz26_1, hcz26_2, hcz26_3, hcz26_4, hcz26_5, hcz26_6, hcz26_7, hcz26_8⟩ := cz9 BK130.out; obtain ⟨hfz26_0, hfz26_1, hfz26_2, hfz26_3, hfz26_4, hfz26_5, hfz26_6, hfz26_7, hfz26_8⟩ := fz9 BK130.out) | ((with_reducible refine gate_callee (f := 32) rfl ?_); refine gL 26 Try.func32 #[.slice A0_7 l0_7.length c0_7, .int .i64 t133] ?_; (with_reducible refine (laws_szTypeS.calls (laws_szType.f k) (ih k (by omega)) k _ _ l0_7 t133 t134 _ ?side1 ?side2 A16.out).mono ?_); (case side1 => exact kV (yY HR0_7.out HB.out)); (case side2 => exact HC0_7.out); rintro e w27 ⟨rfl, hb⟩; refine ⟨_, rfl, ?_⟩; replace BK130 := yD (zB (kN BK130) hb); replace HB := yD (zC (kB HB) hb); clear hb))
      go_ret
      exact ⟨by first | rfl | (simp <;> rfl) | (simp [*] <;> rfl), kR0 HB⟩

/-! ### laws_toStringS: function 35 -/
def laws_toStringS.l0 : Nat → List ByteArray → List ByteArray → Int → Option (List ByteArray)
 | 0, _, _, _ => none
 | k + 1, x0, x3, x4 => if x4 < (x0.length : Int) then (if 0 ≤ x4 then (if x4 < (x3.length : Int) then (laws_toStringS.l0 k x0 (x3.set (x4 : Int).toNat (rdOf ByteArray.empty x0 x4)) (wrap64 (x4 + 1))) else (none)) else (none)) else (some x3)
def laws_toStringS.f (k : Nat) (l0 : List ByteArray) : Option (List ByteArray) := if 0 ≤ (l0.length : Int) then (if ((l0.length : Int) : Int).toNat ≤ 17592186044416 then (laws_toStringS.l0 k l0 (List.replicate ((l0.length : Int) : Int).toNat (⟨#[]⟩ : ByteArray)) 0) else (none)) else (none)
set_option maxHeartbeats 8000000 in
set_option maxRecDepth 100000 in
theorem laws_toStringS.calls (k : Nat) (A0 : Option Addr) (c0 : Nat) (l0 : List ByteArray) (r : List ByteArray) (w : World) (hr0 : Kd.C Kd.string w A0 l0.length l0) (hc0 : l0.length ≤ c0) (h : laws_toStringS.f k l0 = some r) :
 Calls Try.prog 35 #[.slice A0 l0.length c0] w fun e w' => ∃ v0_ : Value, e = .returned (v0_) ∧ Kd.R Kd.string 9 w' w.heap.size (fun _ => True) v0_ r ∧ Below w.heap.size w w' := by
 have HR0 := yD hr0
 have HC0 := yD hc0
 clear hr0 hc0
 have HB := yD (Below.refl w.heap.size w)
 have H : (if 0 ≤ (l0.length : Int) then (if ((l0.length : Int) : Int).toNat ≤ 17592186044416 then (laws_toStringS.l0 k l0 (List.replicate ((l0.length : Int) : Int).toNat (⟨#[]⟩ : ByteArray)) 0) else (none)) else (none)) = some r := h
 clear h
 by_cases c2 : 0 ≤ (l0.length : Int)
 ·
  rw [if_pos c2] at H
  have c2b0 := eq_true c2
  have c2b1 : decide (0 ≤ (l0.length : Int)) = true := zR c2; clear c2
  by_cases c3 : ((l0.length : Int) : Int).toNat ≤ 17592186044416
  ·
   rw [if_pos c3] at H
   have c3b0 := eq_true c3
   have c3b1 : decide (((l0.length : Int) : Int).toNat ≤ 17592186044416) = true := zR c3
   clear c3
   obtain ⟨y135, hy135⟩ : ∃ y_ : List ByteArray, y_ = (List.replicate ((l0.length : Int) : Int).toNat (⟨#[]⟩ : ByteArray)) := ⟨_, rfl⟩
   replace H : (laws_toStringS.l0 k l0 y135 0) = some r := by first | (rw [hy135]; with_reducible exact H) | (have H2_ := (Option.bind_some _ _).symm.trans H; rw [hy135]; with_reducible exact H2_) | (have H2_ := (Option.bind_some _ _).symm.trans H; with_reducible exact H2_) | with_reducible exact H | (rw [hy135]; exact H) | exact H
   have Ny135 := yD hy135
   clear hy135
   have H' := yD H
   clear H; go_enter Try.func35, Try.ntmps35
   go_wp2_with (first | ((with_reducible refine gate_dst (N := 7) rfl ?_); refine Kd.R_make Kd.string _ 9 rfl (N := 7) rfl 22 _ _ rfl (l0.length : Int) rfl rfl Try.underlying22 (.string ⟨#[]⟩) 16 info9 rfl (by decide) (by omega) (⟨#[]⟩ : ByteArray) (ok := fun _ => True) (okp := fun _ => True) rfl (fun _ hk => hk) trivial (zP (by assumption)) (Nat.le_trans (Nat.mul_le_mul_right _ (zP (by assumption) : (l0.length : Int).toNat ≤ 17592186044416)) (by omega)) (Below.refl _ _) (Nat.le_refl _) ?_; intro v136 w4 ho5 hb hg_ hnew_; clear hg_ hnew_; (first | rw [← Ny135.out] at ho5 | (simp only [Int.reduceToNat] at ho5; rw [← Ny135.out] at ho5)); have HO137 := yD (yZ ho5 (below_size (kB HB))); replace HB := yD (zC (kB HB) hb); clear hb ho5))
   (try simp only [Act.put, zH, zI, zJ])
   go_loopg [4] k (fun kq v4 w' => ∃ (x3_1 : List ByteArray) (x4_1 : Int), v4 = .int .i64 x4_1 ∧ Aside0 (laws_toStringS.l0 kq l0 x3_1 x4_1 = some r) ∧ Aside0 (kq ≤ k) ∧ Aside0 (Kd.R Kd.string 9 w' w.heap.size (fun _ => True) v136 x3_1) ∧ Aside0 (Below w.heap.size w w'))
   case atStart => exact ⟨(y135), (0), (by first | rfl | (simp; done) | (simp [*]; done)), H', ⟨Nat.le_refl _⟩, ⟨kA HO137⟩, ⟨kR1 HB⟩⟩
   case round =>
    clear H'
    try clear c2; try clear c2b0; try clear c2b1; try clear c3; try clear c3b0; try clear c3b1
    obtain ⟨x3_1, x4_1, rfl, HA, HK1, HO_3, HB⟩ := hrel
    cases gk with
    | zero => exact absurd HA.out (by simp [laws_toStringS.l0])
    | succ k1 =>
     have H := HA.out; clear HA
     simp only [laws_toStringS.l0] at H
     by_cases c6 : x4_1 < (l0.length : Int)
     ·
      rw [if_pos c6] at H
      have c6b0 : decide (x4_1 < (l0.length : Int)) = true := zR c6; clear c6
      by_cases c7 : 0 ≤ x4_1
      ·
       rw [if_pos c7] at H
       have c7b0 : decide (0 ≤ x4_1) = true := zR c7; clear c7
       by_cases c8 : x4_1 < (x3_1.length : Int)
       ·
        rw [if_pos c8] at H
        have c8b0 : decide (x4_1 < (x3_1.length : Int)) = true := zR c8; clear c8
        obtain ⟨y139, hy139⟩ : ∃ y_ : List ByteArray, y_ = (x3_1.set (x4_1 : Int).toNat (rdOf ByteArray.empty l0 x4_1)) := ⟨_, rfl⟩
        replace H : (laws_toStringS.l0 k1 l0 y139 (wrap64 (x4_1 + 1))) = some r := by first | (rw [hy139]; with_reducible exact H) | (have H2_ := (Option.bind_some _ _).symm.trans H; rw [hy139]; with_reducible exact H2_) | (have H2_ := (Option.bind_some _ _).symm.trans H; with_reducible exact H2_) | with_reducible exact H | (rw [hy139]; exact H) | exact H
        have Ny139 := yD hy139
        clear hy139
        have H' := yD H
        clear H
        have p138 : 0 ≤ (x4_1 : Int) := zP (by assumption)
        have q138 : x4_1 < (l0.length : Int) := zP (by assumption)
        obtain ⟨ad138, e138, hx138_0⟩ := Kd.at_string HR0.out x4_1 p138 q138
        cases e138
        replace hx138_0 := (HB.out.cell (zQ w _ hx138_0)).trans hx138_0
        replace p138 := eq_true p138; replace q138 := eq_true q138
        have p9 : 0 ≤ (x4_1 : Int) := zP (by assumption)
        have q9 : (x4_1 : Int) < ((x3_1.length : Int) : Int) := zP (by assumption)
        obtain ⟨go9, co9, eo9, gb9, gl9, cl9, HG9⟩ := Kd.R_form HO_3.out (by omega)
        (first | cases eo9 | (injection eo9 with ea_ en_ ec_; (first | subst ea_ | (injection ea_ with ea_; subst ea_)); subst ec_; clear en_))
        have GB9 := yD gb9
        have GG9 := yD HG9
        clear gb9 gl9 HG9
        obtain ⟨hx9_0, hf9_0⟩ := Kd.R_celln (⟨#[]⟩ : ByteArray) HO_3.out (x4_1 : Int) p9 q9
        replace p9 := eq_true p9; replace q9 := eq_true q9
        have HP10 := Kd.R_putg HO_3.out (x4_1 : Int) (rdOf ByteArray.empty l0 x4_1)
        go_wp2_with (first | ((with_reducible refine gate_store (t := 9) (p := 20) rfl ?_); refine store_event (t := 9) (p := 20) (v := ?vo_w11) (w1 := (wr.setCell ⟨go9, (x4_1 : Int).toNat, none⟩ (.string (rdOf ByteArray.empty l0 x4_1)))) ?hg ?ho ?hn ?hr ?_; (case ho => rfl); (case hg => rfl); (case hn => rfl); (case hr => first | (go_simp; done) | (go_simp; rfl)); intro w11 hw; have hg : wr.grownBy w11 (some go9) := (by rw [hw]; exact HP10.2); have hp_ : Kd.R Kd.string 9 w11 w.heap.size (fun _ => True) (.slice (some ⟨go9, 0, none⟩) x3_1.length co9) y139 := (by rw [hw, Ny139.out]; exact HP10.1); clear HP10; replace HO_3 := yD (hp_); replace HB := yD ((by rw [hw]; exact yE (HB.out) GB9.out : Below w.heap.size w w11)); clear hg hw hp_))
        go_roundg k1
        case measure => have := HK1.out; omega
        case rel => exact ⟨(y139), (wrap64 (x4_1 + 1)), (by first | rfl | (simp; done) | (simp [*]; done)), H', ⟨by have := HK1.out; omega⟩, ⟨kA HO_3⟩, ⟨kR1 HB⟩⟩
       · rw [if_neg c8] at H
         exact absurd H (by simp)
      · rw [if_neg c7] at H
        exact absurd H (by simp)
     · rw [if_neg c6] at H
       have c6b0 : decide (x4_1 < (l0.length : Int)) = false := zS c6; clear c6; obtain rfl := Option.some.inj H
       go_wp2
       go_ret
       exact ⟨_, by first | rfl | (simp <;> rfl) | (simp [*] <;> rfl), kA HO_3, kR1 HB⟩
  · rw [if_neg c3] at H
    exact absurd H (by simp)
 · rw [if_neg c2] at H
   exact absurd H (by simp)

/-! ### laws_toInt64S: function 36 -/
def laws_toInt64S.l0 : Nat → List Int → List Int → Int → Option (List Int)
 | 0, _, _, _ => none
 | k + 1, x0, x3, x4 => if x4 < (x0.length : Int) then (if 0 ≤ x4 then (if x4 < (x3.length : Int) then (laws_toInt64S.l0 k x0 (x3.set (x4 : Int).toNat (rd x0 x4)) (wrap64 (x4 + 1))) else (none)) else (none)) else (some x3)
def laws_toInt64S.f (k : Nat) (l0 : List Int) : Option (List Int) := if 0 ≤ (l0.length : Int) then (if ((l0.length : Int) : Int).toNat ≤ 35184372088832 then (laws_toInt64S.l0 k l0 (List.replicate ((l0.length : Int) : Int).toNat 0) 0) else (none)) else (none)
set_option maxHeartbeats 8000000 in
set_option maxRecDepth 100000 in
theorem laws_toInt64S.calls (k : Nat) (A0 : Option Addr) (c0 : Nat) (l0 : List Int) (r : List Int) (w : World) (hr0 : Kd.C (Kd.int .i64) w A0 l0.length l0) (hc0 : l0.length ≤ c0) (h : laws_toInt64S.f k l0 = some r) :
 Calls Try.prog 36 #[.slice A0 l0.length c0] w fun e w' => ∃ v0_ : Value, e = .returned (v0_) ∧ Kd.R (Kd.int .i64) 2 w' w.heap.size (fun _ => True) v0_ r ∧ Below w.heap.size w w' := by
 have HR0 := yD hr0
 have HC0 := yD hc0
 clear hr0 hc0
 have HB := yD (Below.refl w.heap.size w)
 have H : (if 0 ≤ (l0.length : Int) then (if ((l0.length : Int) : Int).toNat ≤ 35184372088832 then (laws_toInt64S.l0 k l0 (List.replicate ((l0.length : Int) : Int).toNat 0) 0) else (none)) else (none)) = some r := h
 clear h
 by_cases c2 : 0 ≤ (l0.length : Int)
 ·
  rw [if_pos c2] at H
  have c2b0 := eq_true c2
  have c2b1 : decide (0 ≤ (l0.length : Int)) = true := zR c2; clear c2
  by_cases c3 : ((l0.length : Int) : Int).toNat ≤ 35184372088832
  ·
   rw [if_pos c3] at H
   have c3b0 := eq_true c3
   have c3b1 : decide (((l0.length : Int) : Int).toNat ≤ 35184372088832) = true := zR c3
   clear c3
   obtain ⟨y140, hy140⟩ : ∃ y_ : List Int, y_ = (List.replicate ((l0.length : Int) : Int).toNat 0) := ⟨_, rfl⟩
   replace H : (laws_toInt64S.l0 k l0 y140 0) = some r := by first | (rw [hy140]; with_reducible exact H) | (have H2_ := (Option.bind_some _ _).symm.trans H; rw [hy140]; with_reducible exact H2_) | (have H2_ := (Option.bind_some _ _).symm.trans H; with_reducible exact H2_) | with_reducible exact H | (rw [hy140]; exact H) | exact H
   have Ny140 := yD hy140
   clear hy140
   have H' := yD H
   clear H; go_enter Try.func36, Try.ntmps36
   go_wp2_with (first | ((with_reducible refine gate_dst (N := 7) rfl ?_); refine Kd.R_make (Kd.int .i64) _ 2 rfl (N := 7) rfl 23 _ _ rfl (l0.length : Int) rfl rfl Try.underlying23 (.int .i64 0) 8 info2 rfl (by decide) (by omega) 0 (ok := fun _ => True) (okp := fun _ => True) rfl (fun _ hk => hk) trivial (zP (by assumption)) (Nat.le_trans (Nat.mul_le_mul_right _ (zP (by assumption) : (l0.length : Int).toNat ≤ 35184372088832)) (by omega)) (Below.refl _ _) (Nat.le_refl _) ?_; intro v141 w4 ho5 hb hg_ hnew_; clear hg_ hnew_; (first | rw [← Ny140.out] at ho5 | (simp only [Int.reduceToNat] at ho5; rw [← Ny140.out] at ho5)); have HO142 := yD (yZ ho5 (below_size (kB HB))); replace HB := yD (zC (kB HB) hb); clear hb ho5))
   (try simp only [Act.put, zH, zI, zJ])
   go_loopg [4] k (fun kq v4 w' => ∃ (x3_1 : List Int) (x4_1 : Int), v4 = .int .i64 x4_1 ∧ Aside0 (laws_toInt64S.l0 kq l0 x3_1 x4_1 = some r) ∧ Aside0 (kq ≤ k) ∧ Aside0 (Kd.R (Kd.int .i64) 2 w' w.heap.size (fun _ => True) v141 x3_1) ∧ Aside0 (Below w.heap.size w w'))
   case atStart => exact ⟨(y140), (0), (by first | rfl | (simp; done) | (simp [*]; done)), H', ⟨Nat.le_refl _⟩, ⟨kA HO142⟩, ⟨kR1 HB⟩⟩
   case round =>
    clear H'
    try clear c2; try clear c2b0; try clear c2b1; try clear c3; try clear c3b0; try clear c3b1
    obtain ⟨x3_1, x4_1, rfl, HA, HK1, HO_3, HB⟩ := hrel
    cases gk with
    | zero => exact absurd HA.out (by simp [laws_toInt64S.l0])
    | succ k1 =>
     have H := HA.out; clear HA
     simp only [laws_toInt64S.l0] at H
     by_cases c6 : x4_1 < (l0.length : Int)
     ·
      rw [if_pos c6] at H
      have c6b0 : decide (x4_1 < (l0.length : Int)) = true := zR c6; clear c6
      by_cases c7 : 0 ≤ x4_1
      ·
       rw [if_pos c7] at H
       have c7b0 : decide (0 ≤ x4_1) = true := zR c7; clear c7
       by_cases c8 : x4_1 < (x3_1.length : Int)
       ·
        rw [if_pos c8] at H
        have c8b0 : decide (x4_1 < (x3_1.length : Int)) = true := zR c8; clear c8
        obtain ⟨y144, hy144⟩ : ∃ y_ : List Int, y_ = (x3_1.set (x4_1 : Int).toNat (rd l0 x4_1)) := ⟨_, rfl⟩
        replace H : (laws_toInt64S.l0 k1 l0 y144 (wrap64 (x4_1 + 1))) = some r := by first | (rw [hy144]; with_reducible exact H) | (have H2_ := (Option.bind_some _ _).symm.trans H; rw [hy144]; with_reducible exact H2_) | (have H2_ := (Option.bind_some _ _).symm.trans H; with_reducible exact H2_) | with_reducible exact H | (rw [hy144]; exact H) | exact H
        have Ny144 := yD hy144
        clear hy144
        have H' := yD H
        clear H
        have p143 : 0 ≤ (x4_1 : Int) := zP (by assumption)
        have q143 : x4_1 < (l0.length : Int) := zP (by assumption)
        obtain ⟨ad143, e143, hx143_0⟩ := Kd.at_int HR0.out x4_1 p143 q143
        cases e143
        replace hx143_0 := (HB.out.cell (zQ w _ hx143_0)).trans hx143_0
        replace p143 := eq_true p143; replace q143 := eq_true q143
        have p9 : 0 ≤ (x4_1 : Int) := zP (by assumption)
        have q9 : (x4_1 : Int) < ((x3_1.length : Int) : Int) := zP (by assumption)
        obtain ⟨go9, co9, eo9, gb9, gl9, cl9, HG9⟩ := Kd.R_form HO_3.out (by omega)
        (first | cases eo9 | (injection eo9 with ea_ en_ ec_; (first | subst ea_ | (injection ea_ with ea_; subst ea_)); subst ec_; clear en_))
        have GB9 := yD gb9
        have GG9 := yD HG9
        clear gb9 gl9 HG9
        obtain ⟨hx9_0, hf9_0⟩ := Kd.R_celln 0 HO_3.out (x4_1 : Int) p9 q9
        replace p9 := eq_true p9; replace q9 := eq_true q9
        have HP10 := Kd.R_putg HO_3.out (x4_1 : Int) (rd l0 x4_1)
        go_wp2_with (first | ((with_reducible refine gate_store (t := 2) (p := 20) rfl ?_); refine store_event (t := 2) (p := 20) (v := ?vo_w11) (w1 := (wr.setCell ⟨go9, (x4_1 : Int).toNat, none⟩ (.int .i64 (rd l0 x4_1)))) ?hg ?ho ?hn ?hr ?_; (case ho => rfl); (case hg => rfl); (case hn => rfl); (case hr => first | (go_simp; done) | (go_simp; rfl)); intro w11 hw; have hg : wr.grownBy w11 (some go9) := (by rw [hw]; exact HP10.2); have hp_ : Kd.R (Kd.int .i64) 2 w11 w.heap.size (fun _ => True) (.slice (some ⟨go9, 0, none⟩) x3_1.length co9) y144 := (by rw [hw, Ny144.out]; exact HP10.1); clear HP10; replace HO_3 := yD (hp_); replace HB := yD ((by rw [hw]; exact yE (HB.out) GB9.out : Below w.heap.size w w11)); clear hg hw hp_))
        go_roundg k1
        case measure => have := HK1.out; omega
        case rel => exact ⟨(y144), (wrap64 (x4_1 + 1)), (by first | rfl | (simp; done) | (simp [*]; done)), H', ⟨by have := HK1.out; omega⟩, ⟨kA HO_3⟩, ⟨kR1 HB⟩⟩
       · rw [if_neg c8] at H
         exact absurd H (by simp)
      · rw [if_neg c7] at H
        exact absurd H (by simp)
     · rw [if_neg c6] at H
       have c6b0 : decide (x4_1 < (l0.length : Int)) = false := zS c6; clear c6; obtain rfl := Option.some.inj H
       go_wp2
       go_ret
       exact ⟨_, by first | rfl | (simp <;> rfl) | (simp [*] <;> rfl), kA HO_3, kR1 HB⟩
  · rw [if_neg c3] at H
    exact absurd H (by simp)
 · rw [if_neg c2] at H
   exact absurd H (by simp)

/-! ### laws_toMember: function 63 -/
def laws_toMember.f (Y_ : Int → Int → Bool → Bool → List ByteArray → List Int → List (S91) → List (S27) → Int → Option (Int × Int × Bool × Bool × List ByteArray × List Int × (List (S64)) × (List (S33)) × Int)) (k : Nat) (a0_0 : ByteArray) (a0_1 : Int) (a0_2 : Int) (a0_3 : Int) (a0_4 : Bool) (a0_5 : Bool) (l0_6 : List ByteArray) (l0_7 : List Int) (l0_8 : List (S91)) (l0_9 : List (S27)) (a0_10 : Int) : Option (ByteArray × Int × Int × Int × Bool × Bool × List ByteArray × List Int × (List (S64)) × (List (S33)) × Int) := (Y_ a0_2 a0_3 a0_4 a0_5 l0_6 l0_7 l0_8 l0_9 a0_10).bind fun bt229 => (some (a0_0, a0_1, bt229.1, bt229.2.1, bt229.2.2.1, bt229.2.2.2.1, bt229.2.2.2.2.1, bt229.2.2.2.2.2.1, bt229.2.2.2.2.2.2.1, bt229.2.2.2.2.2.2.2.1, bt229.2.2.2.2.2.2.2.2))
set_option maxHeartbeats 8000000 in
set_option maxRecDepth 100000 in
theorem laws_toMember.calls (Y_ : Int → Int → Bool → Bool → List ByteArray → List Int → List (S91) → List (S27) → Int → Option (Int × Int × Bool × Bool × List ByteArray × List Int × (List (S64)) × (List (S33)) × Int)) (HY_ : ∀ (a0_0 : Int) (a0_1 : Int) (a0_2 : Bool) (a0_3 : Bool) (A0_4 : Option Addr) (c0_4 : Nat) (l0_4 : List ByteArray) (A0_5 : Option Addr) (c0_5 : Nat) (l0_5 : List Int) (A0_6 : Option Addr) (c0_6 : Nat) (l0_6 : List (S91)) (A0_7 : Option Addr) (c0_7 : Nat) (l0_7 : List (S27)) (a0_8 : Int) (r1 : Int) (r2 : Int) (r3 : Bool) (r4 : Bool) (r5 : List ByteArray) (r6 : List Int) (r7 : List (S64)) (r8 : List (S33)) (r9 : Int) (w : World) (hr0_4 : Kd.C Kd.string w A0_4 l0_4.length l0_4) (hc0_4 : l0_4.length ≤ c0_4) (hr0_5 : Kd.C (Kd.int .i64) w A0_5 l0_5.length l0_5) (hc0_5 : l0_5.length ≤ c0_5) (hr0_6 : Kd.C k91 w A0_6 l0_6.length l0_6) (hc0_6 : l0_6.length ≤ c0_6) (hr0_7 : Kd.C k27 w A0_7 l0_7.length l0_7) (hc0_7 : l0_7.length ≤ c0_7) (h : Y_ a0_0 a0_1 a0_2 a0_3 l0_4 l0_5 l0_6 l0_7 a0_8 = some (r1, r2, r3, r4, r5, r6, r7, r8, r9)), Calls Try.prog 9 #[.agg #[.int .i64 a0_0, .int .i64 a0_1, .bool a0_2, .bool a0_3, .slice A0_4 l0_4.length c0_4, .slice A0_5 l0_5.length c0_5, .slice A0_6 l0_6.length c0_6, .slice A0_7 l0_7.length c0_7, .int .i64 a0_8]] w fun e w' => ∃ v4_ v5_ v6_ v7_ : Value, e = .returned (.agg #[.int .i64 r1, .int .i64 r2, .bool r3, .bool r4, v4_, v5_, v6_, v7_, .int .i64 r9]) ∧ Kd.R Kd.string 9 w' w.heap.size (fun _ => True) v4_ r5 ∧ Kd.R (Kd.int .i64) 2 w' w.heap.size (fun _ => True) v5_ r6 ∧ Kd.R k64 64 w' w.heap.size (fun k_ => some k_ ≠ (v4_ : Value).ownBlock ∧ some k_ ≠ (v5_ : Value).ownBlock ∧ some k_ ≠ (v7_ : Value).ownBlock) v6_ r7 ∧ Kd.R k33 33 w' w.heap.size (fun k_ => some k_ ≠ (v4_ : Value).ownBlock ∧ some k_ ≠ (v5_ : Value).ownBlock ∧ some k_ ≠ (v6_ : Value).ownBlock) v7_ r8 ∧ Below w.heap.size w w') (k : Nat) (a0_0 : ByteArray) (a0_1 : Int) (a0_2 : Int) (a0_3 : Int) (a0_4 : Bool) (a0_5 : Bool) (A0_6 : Option Addr) (c0_6 : Nat) (l0_6 : List ByteArray) (A0_7 : Option Addr) (c0_7 : Nat) (l0_7 : List Int) (A0_8 : Option Addr) (c0_8 : Nat) (l0_8 : List (S91)) (A0_9 : Option Addr) (c0_9 : Nat) (l0_9 : List (S27)) (a0_10 : Int) (r1 : ByteArray) (r2 : Int) (r3 : Int) (r4 : Int) (r5 : Bool) (r6 : Bool) (r7 : List ByteArray) (r8 : List Int) (r9 : List (S64)) (r10 : List (S33)) (r11 : Int) (w : World) (hr0_6 : Kd.C Kd.string w A0_6 l0_6.length l0_6) (hc0_6 : l0_6.length ≤ c0_6) (hr0_7 : Kd.C (Kd.int .i64) w A0_7 l0_7.length l0_7) (hc0_7 : l0_7.length ≤ c0_7) (hr0_8 : Kd.C k91 w A0_8 l0_8.length l0_8) (hc0_8 : l0_8.length ≤ c0_8) (hr0_9 : Kd.C k27 w A0_9 l0_9.length l0_9) (hc0_9 : l0_9.length ≤ c0_9) (h : laws_toMember.f Y_ k a0_0 a0_1 a0_2 a0_3 a0_4 a0_5 l0_6 l0_7 l0_8 l0_9 a0_10 = some (r1, r2, r3, r4, r5, r6, r7, r8, r9, r10, r11)) :
 Calls Try.prog 63 #[.agg #[.string a0_0, .int .i64 a0_1, .int .i64 a0_2, .int .i64 a0_3, .bool a0_4, .bool a0_5, .slice A0_6 l0_6.length c0_6, .slice A0_7 l0_7.length c0_7, .slice A0_8 l0_8.length c0_8, .slice A0_9 l0_9.length c0_9, .int .i64 a0_10]] w fun e w' => ∃ v6_ v7_ v8_ v9_ : Value, e = .returned (.agg #[.string r1, .int .i64 r2, .int .i64 r3, .int .i64 r4, .bool r5, .bool r6, v6_, v7_, v8_, v9_, .int .i64 r11]) ∧ Kd.R Kd.string 9 w' w.heap.size (fun _ => True) v6_ r7 ∧ Kd.R (Kd.int .i64) 2 w' w.heap.size (fun _ => True) v7_ r8 ∧ Kd.R k64 64 w' w.heap.size (fun k_ => some k_ ≠ (v6_ : Value).ownBlock ∧ some k_ ≠ (v7_ : Value).ownBlock ∧ some k_ ≠ (v9_ : Value).ownBlock) v8_ r9 ∧ Kd.R k33 33 w' w.heap.size (fun k_ => some k_ ≠ (v6_ : Value).ownBlock ∧ some k_ ≠ (v7_ : Value).ownBlock ∧ some k_ ≠ (v8_ : Value).ownBlock) v9_ r10 ∧ Below w.heap.size w w' := by
 have hu91 := Try.underlying91; have hu64 := Try.underlying64; have hu27 := Try.underlying27; have hu33 := Try.underlying33
 have HR0_6 := yD hr0_6
 have HC0_6 := yD hc0_6
 clear hr0_6 hc0_6
 have HR0_7 := yD hr0_7
 have HC0_7 := yD hc0_7
 clear hr0_7 hc0_7
 have HR0_8 := yD hr0_8
 have HC0_8 := yD hc0_8
 clear hr0_8 hc0_8
 have HR0_9 := yD hr0_9
 have HC0_9 := yD hc0_9
 clear hr0_9 hc0_9
 have HB := yD (Below.refl w.heap.size w)
 have H : ((Y_ a0_2 a0_3 a0_4 a0_5 l0_6 l0_7 l0_8 l0_9 a0_10).bind fun bt229 => (some (a0_0, a0_1, bt229.1, bt229.2.1, bt229.2.2.1, bt229.2.2.2.1, bt229.2.2.2.2.1, bt229.2.2.2.2.2.1, bt229.2.2.2.2.2.2.1, bt229.2.2.2.2.2.2.2.1, bt229.2.2.2.2.2.2.2.2))) = some (r1, r2, r3, r4, r5, r6, r7, r8, r9, r10, r11) := h
 clear h
 obtain ⟨⟨t229, t230, t231, t232, t233, t236, t239, t242, t245⟩, A20, H⟩ := zW_ H
 replace H : (some (a0_0, a0_1, t229, t230, t231, t232, t233, t236, t239, t242, t245)) = some (r1, r2, r3, r4, r5, r6, r7, r8, r9, r10, r11) := H
 have A2 := yD A20
 clear A20
 simp only [Option.some.injEq, Prod.mk.injEq] at H
 obtain ⟨rfl, rfl, rfl, rfl, rfl, rfl, rfl, rfl, rfl, rfl, rfl⟩ := H
 go_enter Try.func63, Try.ntmps63
 go_wp2_with (first | ((with_reducible refine gate_dst (N := 1) rfl ?_); refine box_event ?hg (N := 1) ?hd (cs := #[.string a0_0, .int .i64 a0_1, .int .i64 a0_2, .int .i64 a0_3, .bool a0_4, .bool a0_5, .slice A0_6 l0_6.length c0_6, .slice A0_7 l0_7.length c0_7, .slice A0_8 l0_8.length c0_8, .slice A0_9 l0_9.length c0_9, .int .i64 a0_10]) (t := 91) ?hr ?_; (case hd => rfl); (case hg => rfl); (case hr => first | (go_simp; done) | (go_simp; rfl)); intro gb226 hg w3 hbox hb; have BK226 := yD (hbox); have GW226 := yD ((by rw [hg]; exact (below_size (kB HB)) : w.heap.size ≤ gb226)); have GE226 := yD ((by rw [hg]; exact (below_size (kB HB)) : w.heap.size ≤ gb226)); replace HB := yD (zC (kB HB) hb); clear hb hbox hg) | ((with_reducible refine gate_dst (N := 2) rfl ?_); refine box_event ?hg (N := 2) ?hd (cs := #[.string (⟨#[]⟩ : ByteArray), .int .i64 0, .int .i64 0, .int .i64 0, .bool false, .bool false, .slice none 0 0, .slice none 0 0, .slice none 0 0, .slice none 0 0, .int .i64 0]) (t := 64) ?hr ?_; (case hd => rfl); (case hg => rfl); (case hr => first | (go_simp; done) | (go_simp; rfl)); intro gb227 hg w4 hbox hb; have BK227 := yD (hbox); have GW227 := yD ((by rw [hg]; exact (below_size (kB HB)) : w.heap.size ≤ gb227)); have GE227 := yD ((by rw [hg]; exact (below_size (kB HB)) : w.heap.size ≤ gb227)); replace HB := yD (zC (kB HB) hb); have NB226_227 := yD ((by rw [hg]; exact Nat.ne_of_lt (blk_lt (kN BK226)) : gb226 ≠ gb227)); have NB227_226 := yD ((by rw [hg]; exact Nat.ne_of_gt (blk_lt (kN BK226)) : gb227 ≠ gb226)); replace BK226 := yD (zB (kN BK226) hb); clear hb hbox hg) | ((with_reducible refine gate_dst (N := 3) rfl ?_); refine box_event ?hg (N := 3) ?hd (cs := #[.string (⟨#[]⟩ : ByteArray), .int .i64 0, .int .i64 0, .int .i64 0, .bool false, .bool false, .slice none 0 0, .slice none 0 0, .slice none 0 0, .slice none 0 0, .int .i64 0]) (t := 64) ?hr ?_; (case hd => rfl); (case hg => rfl); (case hr => first | (go_simp; done) | (go_simp; rfl)); intro gb228 hg w5 hbox hb; have BK228 := yD (hbox); have GW228 := yD ((by rw [hg]; exact (below_size (kB HB)) : w.heap.size ≤ gb228)); have GE228 := yD ((by rw [hg]; exact (below_size (kB HB)) : w.heap.size ≤ gb228)); replace HB := yD (zC (kB HB) hb); have NB226_228 := yD ((by rw [hg]; exact Nat.ne_of_lt (blk_lt (kN BK226)) : gb226 ≠ gb228)); have NB228_226 := yD ((by rw [hg]; exact Nat.ne_of_gt (blk_lt (kN BK226)) : gb228 ≠ gb226)); replace BK226 := yD (zB (kN BK226) hb); have NB227_228 := yD ((by rw [hg]; exact Nat.ne_of_lt (blk_lt (kN BK227)) : gb227 ≠ gb228)); have NB228_227 := yD ((by rw [hg]; exact Nat.ne_of_gt (blk_lt (kN BK227)) : gb228 ≠ gb227)); replace BK227 := yD (zB (kN BK227) hb); clear hb hbox hg; have hnb6 := NB226_227.out; have hnc6 := NB227_226.out; have hnb7 := NB226_228.out; have hnc7 := NB228_226.out; obtain ⟨hcz8_0, hcz8_1, hcz8_2, hcz8_3, hcz8_4, hcz8_5, hcz8_6, hcz8_7, hcz8_8, hcz8_9, hcz8_10⟩ := cz11 BK226.out; obtain ⟨hfz8_0, hfz8_1, hfz8_2, hfz8_3, hfz8_4, hfz8_5, hfz8_6, hfz8_7, hfz8_8, hfz8_9, hfz8_10⟩ := fz11 BK226.out; have hnb9 := NB228_227.out; have hnc9 := NB227_228.out; obtain ⟨hcz10_0, hcz10_1, hcz10_2, hcz10_3, hcz10_4, hcz10_5, hcz10_6, hcz10_7, hcz10_8, hcz10_9, hcz10_10⟩ := cz11 BK228.out; obtain ⟨hfz10_0, hfz10_1, hfz10_2, hfz10_3, hfz10_4, hfz10_5, hfz10_6, hfz10_7, hfz10_8, hfz10_9, hfz10_10⟩ := fz11 BK228.out) | ((with_reducible refine gate_callee (f := 9) rfl ?_); refine gL 12 Try.func9 #[.agg #[.int .i64 a0_2, .int .i64 a0_3, .bool a0_4, .bool a0_5, .slice A0_6 l0_6.length c0_6, .slice A0_7 l0_7.length c0_7, .slice A0_8 l0_8.length c0_8, .slice A0_9 l0_9.length c0_9, .int .i64 a0_10]] ?_; (with_reducible refine (HY_ a0_2 a0_3 a0_4 a0_5 _ _ l0_6 _ _ l0_7 _ _ l0_8 _ _ l0_9 a0_10 t229 t230 t231 t232 t233 t236 t239 t242 t245 _ ?side1 ?side2 ?side3 ?side4 ?side5 ?side6 ?side7 ?side8 A2.out).mono ?_); (case side1 => exact yY HR0_6.out (kB HB)); (case side2 => exact HC0_6.out); (case side3 => exact yY HR0_7.out (kB HB)); (case side4 => exact HC0_7.out); (case side5 => exact yY HR0_8.out (kB HB)); (case side6 => exact HC0_8.out); (case side7 => exact yY HR0_9.out (kB HB)); (case side8 => exact HC0_9.out); rintro e w11 ⟨v234, v237, v240, v243, rfl, ho0, ho1, ho2, ho3, hb⟩; refine ⟨_, rfl, ?_⟩; have HO235 := yD (yZ ho0 (below_size (kB HB))); have HO238 := yD (yZ ho1 (below_size (kB HB))); have HO241 := yD (yZ (Kd.R_newB (Kd.R_newB ho2 (g := gb227) (o := .cells #[.string (⟨#[]⟩ : ByteArray), .int .i64 0, .int .i64 0, .int .i64 0, .bool false, .bool false, .slice none 0 0, .slice none 0 0, .slice none 0 0, .slice none 0 0, .int .i64 0] 64 (0, 0)) (by (with_reducible repeat (first | refine yM ?_ _ | refine yO ?_ | refine yN ?_ _)); refine blk_far ?_ NB227_228.out _; (with_reducible repeat (first | refine yM ?_ _ | refine yO ?_ | refine yN ?_ _)); refine blk_far ?_ NB227_228.out _; (with_reducible repeat (first | refine yM ?_ _ | refine yO ?_ | refine yN ?_ _)); exact BK227.out)) (g := gb228) (o := .cells #[.string a0_0, .int .i64 a0_1, .int .i64 0, .int .i64 0, .bool false, .bool false, .slice none 0 0, .slice none 0 0, .slice none 0 0, .slice none 0 0, .int .i64 0] 64 (0, 0)) (by (with_reducible repeat (first | refine yM ?_ _ | refine yO ?_ | refine yN ?_ _)); refine blk_put (cs := #[.string a0_0, .int .i64 0, .int .i64 0, .int .i64 0, .bool false, .bool false, .slice none 0 0, .slice none 0 0, .slice none 0 0, .slice none 0 0, .int .i64 0]) ?_ 1 _ rfl; (with_reducible repeat (first | refine yM ?_ _ | refine yO ?_ | refine yN ?_ _)); refine blk_put (cs := #[.string (⟨#[]⟩ : ByteArray), .int .i64 0, .int .i64 0, .int .i64 0, .bool false, .bool false, .slice none 0 0, .slice none 0 0, .slice none 0 0, .slice none 0 0, .int .i64 0]) ?_ 0 _ rfl; (with_reducible repeat (first | refine yM ?_ _ | refine yO ?_ | refine yN ?_ _)); exact BK228.out)) (below_size (kB HB))); have HO244 := yD (yZ (Kd.R_newB (Kd.R_newB ho3 (g := gb227) (o := .cells #[.string (⟨#[]⟩ : ByteArray), .int .i64 0, .int .i64 0, .int .i64 0, .bool false, .bool false, .slice none 0 0, .slice none 0 0, .slice none 0 0, .slice none 0 0, .int .i64 0] 64 (0, 0)) (by (with_reducible repeat (first | refine yM ?_ _ | refine yO ?_ | refine yN ?_ _)); refine blk_far ?_ NB227_228.out _; (with_reducible repeat (first | refine yM ?_ _ | refine yO ?_ | refine yN ?_ _)); refine blk_far ?_ NB227_228.out _; (with_reducible repeat (first | refine yM ?_ _ | refine yO ?_ | refine yN ?_ _)); exact BK227.out)) (g := gb228) (o := .cells #[.string a0_0, .int .i64 a0_1, .int .i64 0, .int .i64 0, .bool false, .bool false, .slice none 0 0, .slice none 0 0, .slice none 0 0, .slice none 0 0, .int .i64 0] 64 (0, 0)) (by (with_reducible repeat (first | refine yM ?_ _ | refine yO ?_ | refine yN ?_ _)); refine blk_put (cs := #[.string a0_0, .int .i64 0, .int .i64 0, .int .i64 0, .bool false, .bool false, .slice none 0 0, .slice none 0 0, .slice none 0 0, .slice none 0 0, .int .i64 0]) ?_ 1 _ rfl; (with_reducible repeat (first | refine yM ?_ _ | refine yO ?_ | refine yN ?_ _)); refine blk_put (cs := #[.string (⟨#[]⟩ : ByteArray), .int .i64 0, .int .i64 0, .int .i64 0, .bool false, .bool false, .slice none 0 0, .slice none 0 0, .slice none 0 0, .slice none 0 0, .int .i64 0]) ?_ 0 _ rfl; (with_reducible repeat (first | refine yM ?_ _ | refine yO ?_ | refine yN ?_ _)); exact BK228.out)) (below_size (kB HB))); replace BK226 := yD (zB (g := gb226) (o := .cells #[.string a0_0, .int .i64 a0_1, .int .i64 a0_2, .int .i64 a0_3, .bool a0_4, .bool a0_5, .slice A0_6 l0_6.length c0_6, .slice A0_7 l0_7.length c0_7, .slice A0_8 l0_8.length c0_8, .slice A0_9 l0_9.length c0_9, .int .i64 a0_10] 91 (0, 0)) (by (with_reducible repeat (first | refine yM ?_ _ | refine yO ?_ | refine yN ?_ _)); refine blk_far ?_ NB226_228.out _; (with_reducible repeat (first | refine yM ?_ _ | refine yO ?_ | refine yN ?_ _)); refine blk_far ?_ NB226_228.out _; (with_reducible repeat (first | refine yM ?_ _ | refine yO ?_ | refine yN ?_ _)); exact BK226.out) hb); replace BK227 := yD (zB (g := gb227) (o := .cells #[.string (⟨#[]⟩ : ByteArray), .int .i64 0, .int .i64 0, .int .i64 0, .bool false, .bool false, .slice none 0 0, .slice none 0 0, .slice none 0 0, .slice none 0 0, .int .i64 0] 64 (0, 0)) (by (with_reducible repeat (first | refine yM ?_ _ | refine yO ?_ | refine yN ?_ _)); refine blk_far ?_ NB227_228.out _; (with_reducible repeat (first | refine yM ?_ _ | refine yO ?_ | refine yN ?_ _)); refine blk_far ?_ NB227_228.out _; (with_reducible repeat (first | refine yM ?_ _ | refine yO ?_ | refine yN ?_ _)); exact BK227.out) hb); replace BK228 := yD (zB (g := gb228) (o := .cells #[.string a0_0, .int .i64 a0_1, .int .i64 0, .int .i64 0, .bool false, .bool false, .slice none 0 0, .slice none 0 0, .slice none 0 0, .slice none 0 0, .int .i64 0] 64 (0, 0)) (by (with_reducible repeat (first | refine yM ?_ _ | refine yO ?_ | refine yN ?_ _)); refine blk_put (cs := #[.string a0_0, .int .i64 0, .int .i64 0, .int .i64 0, .bool false, .bool false, .slice none 0 0, .slice none 0 0, .slice none 0 0, .slice none 0 0, .int .i64 0]) ?_ 1 _ rfl; (with_reducible repeat (first | refine yM ?_ _ | refine yO ?_ | refine yN ?_ _)); refine blk_put (cs := #[.string (⟨#[]⟩ : ByteArray), .int .i64 0, .int .i64 0, .int .i64 0, .bool false, .bool false, .slice none 0 0, .slice none 0 0, .slice none 0 0, .slice none 0 0, .int .i64 0]) ?_ 0 _ rfl; (with_reducible repeat (first | refine yM ?_ _ | refine yO ?_ | refine yN ?_ _)); exact BK228.out) hb); replace HB := yD (zC (kB HB) hb); clear hb ho0 ho1 ho2 ho3; obtain ⟨hcz12_0, hcz12_1, hcz12_2, hcz12_3, hcz12_4, hcz12_5, hcz12_6, hcz12_7, hcz12_8, hcz12_9, hcz12_10⟩ := cz11 BK228.out; obtain ⟨hfz12_0, hfz12_1, hfz12_2, hfz12_3, hfz12_4, hfz12_5, hfz12_6, hfz12_7, hfz12_8, hfz12_9, hfz12_10⟩ := fz11 BK228.out; obtain ⟨Ao13, co13, eo13⟩ := Kd.R_slice HO235.out; subst eo13; obtain ⟨Ao14, co14, eo14⟩ := Kd.R_slice HO238.out; subst eo14; obtain ⟨Ao15, co15, eo15⟩ := Kd.R_slice HO241.out; subst eo15; obtain ⟨Ao16, co16, eo16⟩ := Kd.R_slice HO244.out; subst eo16; obtain ⟨hcz17_0, hcz17_1, hcz17_2, hcz17_3, hcz17_4, hcz17_5, hcz17_6, hcz17_7, hcz17_8, hcz17_9, hcz17_10⟩ := cz11 BK227.out; obtain ⟨hfz17_0, hfz17_1, hfz17_2, hfz17_3, hfz17_4, hfz17_5, hfz17_6, hfz17_7, hfz17_8, hfz17_9, hfz17_10⟩ := fz11 BK227.out))
 refine bodyPost_ret (results_cell_row rfl _ _ gb227 64 #[.string a0_0, .int .i64 a0_1, .int .i64 t229, .int .i64 t230, .bool t231, .bool t232, .slice Ao13 t233.length co13, .slice Ao14 t236.length co14, .slice Ao15 t239.length co15, .slice Ao16 t242.length co16, .int .i64 t245] (0, 0) _ rfl (by (with_reducible repeat (first | refine yM ?_ _ | refine yO ?_ | refine yN ?_ _)); refine blk_put (cs := #[.string a0_0, .int .i64 a0_1, .int .i64 t229, .int .i64 t230, .bool t231, .bool t232, .slice Ao13 t233.length co13, .slice Ao14 t236.length co14, .slice Ao15 t239.length co15, .slice Ao16 t242.length co16, .int .i64 0]) ?_ 10 _ rfl; (with_reducible repeat (first | refine yM ?_ _ | refine yO ?_ | refine yN ?_ _)); refine blk_put (cs := #[.string a0_0, .int .i64 a0_1, .int .i64 t229, .int .i64 t230, .bool t231, .bool t232, .slice Ao13 t233.length co13, .slice Ao14 t236.length co14, .slice Ao15 t239.length co15, .slice none 0 0, .int .i64 0]) ?_ 9 _ rfl; (with_reducible repeat (first | refine yM ?_ _ | refine yO ?_ | refine yN ?_ _)); refine blk_put (cs := #[.string a0_0, .int .i64 a0_1, .int .i64 t229, .int .i64 t230, .bool t231, .bool t232, .slice Ao13 t233.length co13, .slice Ao14 t236.length co14, .slice none 0 0, .slice none 0 0, .int .i64 0]) ?_ 8 _ rfl; (with_reducible repeat (first | refine yM ?_ _ | refine yO ?_ | refine yN ?_ _)); refine blk_put (cs := #[.string a0_0, .int .i64 a0_1, .int .i64 t229, .int .i64 t230, .bool t231, .bool t232, .slice Ao13 t233.length co13, .slice none 0 0, .slice none 0 0, .slice none 0 0, .int .i64 0]) ?_ 7 _ rfl; (with_reducible repeat (first | refine yM ?_ _ | refine yO ?_ | refine yN ?_ _)); refine blk_put (cs := #[.string a0_0, .int .i64 a0_1, .int .i64 t229, .int .i64 t230, .bool t231, .bool t232, .slice none 0 0, .slice none 0 0, .slice none 0 0, .slice none 0 0, .int .i64 0]) ?_ 6 _ rfl; (with_reducible repeat (first | refine yM ?_ _ | refine yO ?_ | refine yN ?_ _)); refine blk_put (cs := #[.string a0_0, .int .i64 a0_1, .int .i64 t229, .int .i64 t230, .bool t231, .bool false, .slice none 0 0, .slice none 0 0, .slice none 0 0, .slice none 0 0, .int .i64 0]) ?_ 5 _ rfl; (with_reducible repeat (first | refine yM ?_ _ | refine yO ?_ | refine yN ?_ _)); refine blk_put (cs := #[.string a0_0, .int .i64 a0_1, .int .i64 t229, .int .i64 t230, .bool false, .bool false, .slice none 0 0, .slice none 0 0, .slice none 0 0, .slice none 0 0, .int .i64 0]) ?_ 4 _ rfl; (with_reducible repeat (first | refine yM ?_ _ | refine yO ?_ | refine yN ?_ _)); refine blk_put (cs := #[.string a0_0, .int .i64 a0_1, .int .i64 t229, .int .i64 0, .bool false, .bool false, .slice none 0 0, .slice none 0 0, .slice none 0 0, .slice none 0 0, .int .i64 0]) ?_ 3 _ rfl; (with_reducible repeat (first | refine yM ?_ _ | refine yO ?_ | refine yN ?_ _)); refine blk_put (cs := #[.string a0_0, .int .i64 a0_1, .int .i64 0, .int .i64 0, .bool false, .bool false, .slice none 0 0, .slice none 0 0, .slice none 0 0, .slice none 0 0, .int .i64 0]) ?_ 2 _ rfl; (with_reducible repeat (first | refine yM ?_ _ | refine yO ?_ | refine yN ?_ _)); refine blk_put (cs := #[.string a0_0, .int .i64 0, .int .i64 0, .int .i64 0, .bool false, .bool false, .slice none 0 0, .slice none 0 0, .slice none 0 0, .slice none 0 0, .int .i64 0]) ?_ 1 _ rfl; (with_reducible repeat (first | refine yM ?_ _ | refine yO ?_ | refine yN ?_ _)); refine blk_put (cs := #[.string (⟨#[]⟩ : ByteArray), .int .i64 0, .int .i64 0, .int .i64 0, .bool false, .bool false, .slice none 0 0, .slice none 0 0, .slice none 0 0, .slice none 0 0, .int .i64 0]) ?_ 0 _ rfl; (with_reducible repeat (first | refine yM ?_ _ | refine yO ?_ | refine yN ?_ _)); refine blk_far ?_ NB227_228.out _; (with_reducible repeat (first | refine yM ?_ _ | refine yO ?_ | refine yN ?_ _)); refine blk_far ?_ NB227_228.out _; (with_reducible repeat (first | refine yM ?_ _ | refine yO ?_ | refine yN ?_ _)); refine blk_far ?_ NB227_228.out _; (with_reducible repeat (first | refine yM ?_ _ | refine yO ?_ | refine yN ?_ _)); refine blk_far ?_ NB227_228.out _; (with_reducible repeat (first | refine yM ?_ _ | refine yO ?_ | refine yN ?_ _)); refine blk_far ?_ NB227_228.out _; (with_reducible repeat (first | refine yM ?_ _ | refine yO ?_ | refine yN ?_ _)); refine blk_far ?_ NB227_228.out _; (with_reducible repeat (first | refine yM ?_ _ | refine yO ?_ | refine yN ?_ _)); refine blk_far ?_ NB227_228.out _; (with_reducible repeat (first | refine yM ?_ _ | refine yO ?_ | refine yN ?_ _)); refine blk_far ?_ NB227_228.out _; (with_reducible repeat (first | refine yM ?_ _ | refine yO ?_ | refine yN ?_ _)); refine blk_far ?_ NB227_228.out _; (with_reducible repeat (first | refine yM ?_ _ | refine yO ?_ | refine yN ?_ _)); exact BK227.out) Try.underlying64 rfl (by kernel_rfl)) rfl ?_
 exact ⟨_, _, _, _, by first | rfl | (simp <;> rfl) | (simp [*] <;> rfl), by (with_reducible repeat (first | apply yA | apply yB | apply yC)); exact zF (yF (p := ⟨gb227, 10, none⟩) (yF (p := ⟨gb227, 9, none⟩) (yF (p := ⟨gb227, 8, none⟩) (yF (p := ⟨gb227, 7, none⟩) (yF (p := ⟨gb227, 6, none⟩) (yF (p := ⟨gb227, 5, none⟩) (yF (p := ⟨gb227, 4, none⟩) (yF (p := ⟨gb227, 3, none⟩) (yF (p := ⟨gb227, 2, none⟩) (yF (p := ⟨gb227, 1, none⟩) (yF (p := ⟨gb227, 0, none⟩) (yF (p := ⟨gb228, 10, none⟩) (yF (p := ⟨gb228, 9, none⟩) (yF (p := ⟨gb228, 8, none⟩) (yF (p := ⟨gb228, 7, none⟩) (yF (p := ⟨gb228, 6, none⟩) (yF (p := ⟨gb228, 5, none⟩) (yF (p := ⟨gb228, 4, none⟩) (yF (p := ⟨gb228, 3, none⟩) (yF (p := ⟨gb228, 2, none⟩) (Kd.R_types (Kd.R_types HO235.out BK228.out (by decide)) BK227.out (by decide)) (fun _ hk => hk.1.2) (.int .i64 t229)) (fun _ hk => hk.1.2) (.int .i64 t230)) (fun _ hk => hk.1.2) (.bool t231)) (fun _ hk => hk.1.2) (.bool t232)) (fun _ hk => hk.1.2) (.slice Ao13 t233.length co13)) (fun _ hk => hk.1.2) (.slice Ao14 t236.length co14)) (fun _ hk => hk.1.2) (.slice Ao15 t239.length co15)) (fun _ hk => hk.1.2) (.slice Ao16 t242.length co16)) (fun _ hk => hk.1.2) (.int .i64 t245)) (fun _ hk => hk.2) (.string a0_0)) (fun _ hk => hk.2) (.int .i64 a0_1)) (fun _ hk => hk.2) (.int .i64 t229)) (fun _ hk => hk.2) (.int .i64 t230)) (fun _ hk => hk.2) (.bool t231)) (fun _ hk => hk.2) (.bool t232)) (fun _ hk => hk.2) (.slice Ao13 t233.length co13)) (fun _ hk => hk.2) (.slice Ao14 t236.length co14)) (fun _ hk => hk.2) (.slice Ao15 t239.length co15)) (fun _ hk => hk.2) (.slice Ao16 t242.length co16)) (fun _ hk => hk.2) (.int .i64 t245)) (fun _ hk => trivial), by (with_reducible repeat (first | apply yA | apply yB | apply yC)); exact zF (yF (p := ⟨gb227, 10, none⟩) (yF (p := ⟨gb227, 9, none⟩) (yF (p := ⟨gb227, 8, none⟩) (yF (p := ⟨gb227, 7, none⟩) (yF (p := ⟨gb227, 6, none⟩) (yF (p := ⟨gb227, 5, none⟩) (yF (p := ⟨gb227, 4, none⟩) (yF (p := ⟨gb227, 3, none⟩) (yF (p := ⟨gb227, 2, none⟩) (yF (p := ⟨gb227, 1, none⟩) (yF (p := ⟨gb227, 0, none⟩) (yF (p := ⟨gb228, 10, none⟩) (yF (p := ⟨gb228, 9, none⟩) (yF (p := ⟨gb228, 8, none⟩) (yF (p := ⟨gb228, 7, none⟩) (yF (p := ⟨gb228, 6, none⟩) (yF (p := ⟨gb228, 5, none⟩) (yF (p := ⟨gb228, 4, none⟩) (yF (p := ⟨gb228, 3, none⟩) (yF (p := ⟨gb228, 2, none⟩) (Kd.R_types (Kd.R_types HO238.out BK228.out (by decide)) BK227.out (by decide)) (fun _ hk => hk.1.2) (.int .i64 t229)) (fun _ hk => hk.1.2) (.int .i64 t230)) (fun _ hk => hk.1.2) (.bool t231)) (fun _ hk => hk.1.2) (.bool t232)) (fun _ hk => hk.1.2) (.slice Ao13 t233.length co13)) (fun _ hk => hk.1.2) (.slice Ao14 t236.length co14)) (fun _ hk => hk.1.2) (.slice Ao15 t239.length co15)) (fun _ hk => hk.1.2) (.slice Ao16 t242.length co16)) (fun _ hk => hk.1.2) (.int .i64 t245)) (fun _ hk => hk.2) (.string a0_0)) (fun _ hk => hk.2) (.int .i64 a0_1)) (fun _ hk => hk.2) (.int .i64 t229)) (fun _ hk => hk.2) (.int .i64 t230)) (fun _ hk => hk.2) (.bool t231)) (fun _ hk => hk.2) (.bool t232)) (fun _ hk => hk.2) (.slice Ao13 t233.length co13)) (fun _ hk => hk.2) (.slice Ao14 t236.length co14)) (fun _ hk => hk.2) (.slice Ao15 t239.length co15)) (fun _ hk => hk.2) (.slice Ao16 t242.length co16)) (fun _ hk => hk.2) (.int .i64 t245)) (fun _ hk => trivial), by (with_reducible repeat (first | apply yA | apply yB | apply yC)); exact zF (yF (p := ⟨gb227, 10, none⟩) (yF (p := ⟨gb227, 9, none⟩) (yF (p := ⟨gb227, 8, none⟩) (yF (p := ⟨gb227, 7, none⟩) (yF (p := ⟨gb227, 6, none⟩) (yF (p := ⟨gb227, 5, none⟩) (yF (p := ⟨gb227, 4, none⟩) (yF (p := ⟨gb227, 3, none⟩) (yF (p := ⟨gb227, 2, none⟩) (yF (p := ⟨gb227, 1, none⟩) (yF (p := ⟨gb227, 0, none⟩) (yF (p := ⟨gb228, 10, none⟩) (yF (p := ⟨gb228, 9, none⟩) (yF (p := ⟨gb228, 8, none⟩) (yF (p := ⟨gb228, 7, none⟩) (yF (p := ⟨gb228, 6, none⟩) (yF (p := ⟨gb228, 5, none⟩) (yF (p := ⟨gb228, 4, none⟩) (yF (p := ⟨gb228, 3, none⟩) (yF (p := ⟨gb228, 2, none⟩) (zF (zF HO241.out (fun k_ hk => (⟨hk, hk.2⟩ : _ ∧ k_ ≠ gb228))) (fun k_ hk => (⟨hk, hk.1.1.2⟩ : _ ∧ k_ ≠ gb227))) (fun _ hk => hk.1.2) (.int .i64 t229)) (fun _ hk => hk.1.2) (.int .i64 t230)) (fun _ hk => hk.1.2) (.bool t231)) (fun _ hk => hk.1.2) (.bool t232)) (fun _ hk => hk.1.2) (.slice Ao13 t233.length co13)) (fun _ hk => hk.1.2) (.slice Ao14 t236.length co14)) (fun _ hk => hk.1.2) (.slice Ao15 t239.length co15)) (fun _ hk => hk.1.2) (.slice Ao16 t242.length co16)) (fun _ hk => hk.1.2) (.int .i64 t245)) (fun _ hk => hk.2) (.string a0_0)) (fun _ hk => hk.2) (.int .i64 a0_1)) (fun _ hk => hk.2) (.int .i64 t229)) (fun _ hk => hk.2) (.int .i64 t230)) (fun _ hk => hk.2) (.bool t231)) (fun _ hk => hk.2) (.bool t232)) (fun _ hk => hk.2) (.slice Ao13 t233.length co13)) (fun _ hk => hk.2) (.slice Ao14 t236.length co14)) (fun _ hk => hk.2) (.slice Ao15 t239.length co15)) (fun _ hk => hk.2) (.slice Ao16 t242.length co16)) (fun _ hk => hk.2) (.int .i64 t245)) (fun _ hk => ⟨hk.1.1.1.1.1, ⟨hk.1.1.1.1.2.1, hk.1.1.1.1.2.2⟩⟩), by (with_reducible repeat (first | apply yA | apply yB | apply yC)); exact zF (yF (p := ⟨gb227, 10, none⟩) (yF (p := ⟨gb227, 9, none⟩) (yF (p := ⟨gb227, 8, none⟩) (yF (p := ⟨gb227, 7, none⟩) (yF (p := ⟨gb227, 6, none⟩) (yF (p := ⟨gb227, 5, none⟩) (yF (p := ⟨gb227, 4, none⟩) (yF (p := ⟨gb227, 3, none⟩) (yF (p := ⟨gb227, 2, none⟩) (yF (p := ⟨gb227, 1, none⟩) (yF (p := ⟨gb227, 0, none⟩) (yF (p := ⟨gb228, 10, none⟩) (yF (p := ⟨gb228, 9, none⟩) (yF (p := ⟨gb228, 8, none⟩) (yF (p := ⟨gb228, 7, none⟩) (yF (p := ⟨gb228, 6, none⟩) (yF (p := ⟨gb228, 5, none⟩) (yF (p := ⟨gb228, 4, none⟩) (yF (p := ⟨gb228, 3, none⟩) (yF (p := ⟨gb228, 2, none⟩) (zF (zF HO244.out (fun k_ hk => (⟨hk, hk.2⟩ : _ ∧ k_ ≠ gb228))) (fun k_ hk => (⟨hk, hk.1.1.2⟩ : _ ∧ k_ ≠ gb227))) (fun _ hk => hk.1.2) (.int .i64 t229)) (fun _ hk => hk.1.2) (.int .i64 t230)) (fun _ hk => hk.1.2) (.bool t231)) (fun _ hk => hk.1.2) (.bool t232)) (fun _ hk => hk.1.2) (.slice Ao13 t233.length co13)) (fun _ hk => hk.1.2) (.slice Ao14 t236.length co14)) (fun _ hk => hk.1.2) (.slice Ao15 t239.length co15)) (fun _ hk => hk.1.2) (.slice Ao16 t242.length co16)) (fun _ hk => hk.1.2) (.int .i64 t245)) (fun _ hk => hk.2) (.string a0_0)) (fun _ hk => hk.2) (.int .i64 a0_1)) (fun _ hk => hk.2) (.int .i64 t229)) (fun _ hk => hk.2) (.int .i64 t230)) (fun _ hk => hk.2) (.bool t231)) (fun _ hk => hk.2) (.bool t232)) (fun _ hk => hk.2) (.slice Ao13 t233.length co13)) (fun _ hk => hk.2) (.slice Ao14 t236.length co14)) (fun _ hk => hk.2) (.slice Ao15 t239.length co15)) (fun _ hk => hk.2) (.slice Ao16 t242.length co16)) (fun _ hk => hk.2) (.int .i64 t245)) (fun _ hk => ⟨hk.1.1.1.1.1, ⟨hk.1.1.1.1.2.1, hk.1.1.1.1.2.2⟩⟩), kR0 HB⟩

/-! ### laws_toMemberS: function 37 -/
def laws_toMemberS.l0 (Y_ : Int → Int → Bool → Bool → List ByteArray → List Int → List (S91) → List (S27) → Int → Option (Int × Int × Bool × Bool × List ByteArray × List Int × (List (S64)) × (List (S33)) × Int)) : Nat → List (S91) → List (S64) → Int → Option ((List (S64)))
 | 0, _, _, _ => none
 | k + 1, x0, x3, x4 => if x4 < (x0.length : Int) then (if 0 ≤ x4 then ((laws_toMember.f Y_ k ((rd_T91 x0 x4).f0) ((rd_T91 x0 x4).f1) ((rd_T91 x0 x4).f2.f0) ((rd_T91 x0 x4).f2.f1) ((rd_T91 x0 x4).f2.f2) ((rd_T91 x0 x4).f2.f3) ((rd_T91 x0 x4).f2.f4) ((rd_T91 x0 x4).f2.f5) ((rd_T91 x0 x4).f2.f6) ((rd_T91 x0 x4).f2.f7) ((rd_T91 x0 x4).f2.f8)).bind fun bt250 => (if x4 < (x3.length : Int) then (laws_toMemberS.l0 Y_ k x0 (x3.set (x4 : Int).toNat (⟨bt250.1, bt250.2.1, (⟨bt250.2.2.1, bt250.2.2.2.1, bt250.2.2.2.2.1, bt250.2.2.2.2.2.1, bt250.2.2.2.2.2.2.1, bt250.2.2.2.2.2.2.2.1, bt250.2.2.2.2.2.2.2.2.1, bt250.2.2.2.2.2.2.2.2.2.1, bt250.2.2.2.2.2.2.2.2.2.2⟩ : S33)⟩ : S64)) (wrap64 (x4 + 1))) else (none))) else (none)) else (some x3)
def laws_toMemberS.f (Y_ : Int → Int → Bool → Bool → List ByteArray → List Int → List (S91) → List (S27) → Int → Option (Int × Int × Bool × Bool × List ByteArray × List Int × (List (S64)) × (List (S33)) × Int)) (k : Nat) (l0 : List (S91)) : Option ((List (S64))) := if 0 ≤ (l0.length : Int) then (if ((l0.length : Int) : Int).toNat ≤ 1851809057306 then (laws_toMemberS.l0 Y_ k l0 (List.replicate ((l0.length : Int) : Int).toNat z64) 0) else (none)) else (none)
set_option maxHeartbeats 8000000 in
set_option maxRecDepth 100000 in
theorem laws_toMemberS.calls (Y_ : Int → Int → Bool → Bool → List ByteArray → List Int → List (S91) → List (S27) → Int → Option (Int × Int × Bool × Bool × List ByteArray × List Int × (List (S64)) × (List (S33)) × Int)) (HY_ : ∀ (a0_0 : Int) (a0_1 : Int) (a0_2 : Bool) (a0_3 : Bool) (A0_4 : Option Addr) (c0_4 : Nat) (l0_4 : List ByteArray) (A0_5 : Option Addr) (c0_5 : Nat) (l0_5 : List Int) (A0_6 : Option Addr) (c0_6 : Nat) (l0_6 : List (S91)) (A0_7 : Option Addr) (c0_7 : Nat) (l0_7 : List (S27)) (a0_8 : Int) (r1 : Int) (r2 : Int) (r3 : Bool) (r4 : Bool) (r5 : List ByteArray) (r6 : List Int) (r7 : List (S64)) (r8 : List (S33)) (r9 : Int) (w : World) (hr0_4 : Kd.C Kd.string w A0_4 l0_4.length l0_4) (hc0_4 : l0_4.length ≤ c0_4) (hr0_5 : Kd.C (Kd.int .i64) w A0_5 l0_5.length l0_5) (hc0_5 : l0_5.length ≤ c0_5) (hr0_6 : Kd.C k91 w A0_6 l0_6.length l0_6) (hc0_6 : l0_6.length ≤ c0_6) (hr0_7 : Kd.C k27 w A0_7 l0_7.length l0_7) (hc0_7 : l0_7.length ≤ c0_7) (h : Y_ a0_0 a0_1 a0_2 a0_3 l0_4 l0_5 l0_6 l0_7 a0_8 = some (r1, r2, r3, r4, r5, r6, r7, r8, r9)), Calls Try.prog 9 #[.agg #[.int .i64 a0_0, .int .i64 a0_1, .bool a0_2, .bool a0_3, .slice A0_4 l0_4.length c0_4, .slice A0_5 l0_5.length c0_5, .slice A0_6 l0_6.length c0_6, .slice A0_7 l0_7.length c0_7, .int .i64 a0_8]] w fun e w' => ∃ v4_ v5_ v6_ v7_ : Value, e = .returned (.agg #[.int .i64 r1, .int .i64 r2, .bool r3, .bool r4, v4_, v5_, v6_, v7_, .int .i64 r9]) ∧ Kd.R Kd.string 9 w' w.heap.size (fun _ => True) v4_ r5 ∧ Kd.R (Kd.int .i64) 2 w' w.heap.size (fun _ => True) v5_ r6 ∧ Kd.R k64 64 w' w.heap.size (fun k_ => some k_ ≠ (v4_ : Value).ownBlock ∧ some k_ ≠ (v5_ : Value).ownBlock ∧ some k_ ≠ (v7_ : Value).ownBlock) v6_ r7 ∧ Kd.R k33 33 w' w.heap.size (fun k_ => some k_ ≠ (v4_ : Value).ownBlock ∧ some k_ ≠ (v5_ : Value).ownBlock ∧ some k_ ≠ (v6_ : Value).ownBlock) v7_ r8 ∧ Below w.heap.size w w') (k : Nat) (A0 : Option Addr) (c0 : Nat) (l0 : List (S91)) (r : List (S64)) (w : World) (hr0 : Kd.C k91 w A0 l0.length l0) (hc0 : l0.length ≤ c0) (h : laws_toMemberS.f Y_ k l0 = some r) :
 Calls Try.prog 37 #[.slice A0 l0.length c0] w fun e w' => ∃ v0_ : Value, e = .returned (v0_) ∧ Kd.R k64 64 w' w.heap.size (fun _ => True) v0_ r ∧ Below w.heap.size w w' := by
 have hu91 := Try.underlying91; have hu64 := Try.underlying64
 have HR0 := yD hr0
 have HC0 := yD hc0
 clear hr0 hc0
 have HB := yD (Below.refl w.heap.size w)
 have H : (if 0 ≤ (l0.length : Int) then (if ((l0.length : Int) : Int).toNat ≤ 1851809057306 then (laws_toMemberS.l0 Y_ k l0 (List.replicate ((l0.length : Int) : Int).toNat z64) 0) else (none)) else (none)) = some r := h
 clear h
 by_cases c2 : 0 ≤ (l0.length : Int)
 ·
  rw [if_pos c2] at H
  have c2b0 := eq_true c2
  have c2b1 : decide (0 ≤ (l0.length : Int)) = true := zR c2; clear c2
  by_cases c3 : ((l0.length : Int) : Int).toNat ≤ 1851809057306
  ·
   rw [if_pos c3] at H
   have c3b0 := eq_true c3
   have c3b1 : decide (((l0.length : Int) : Int).toNat ≤ 1851809057306) = true := zR c3
   clear c3
   obtain ⟨y246, hy246⟩ : ∃ y_ : List (S64), y_ = (List.replicate ((l0.length : Int) : Int).toNat z64) := ⟨_, rfl⟩
   replace H : (laws_toMemberS.l0 Y_ k l0 y246 0) = some r := by first | (rw [hy246]; with_reducible exact H) | (have H2_ := (Option.bind_some _ _).symm.trans H; rw [hy246]; with_reducible exact H2_) | (have H2_ := (Option.bind_some _ _).symm.trans H; with_reducible exact H2_) | with_reducible exact H | (rw [hy246]; exact H) | exact H
   have Ny246 := yD hy246
   clear hy246
   have H' := yD H
   clear H; go_enter Try.func37, Try.ntmps37
   go_wp2_with (first | ((with_reducible refine gate_dst (N := 7) rfl ?_); refine Kd.R_make k64 _ 64 rfl (N := 7) rfl 30 _ _ rfl (l0.length : Int) rfl rfl Try.underlying30 (.agg #[(.string ⟨#[]⟩), (.int .i64 0), (.int .i64 0), (.int .i64 0), (.bool false), (.bool false), (.slice none 0 0), (.slice none 0 0), (.slice none 0 0), (.slice none 0 0), (.int .i64 0)]) 152 info64 rfl (by decide) (by omega) z64 (ok := fun _ => True) (okp := fun _ => True) (k64_mkM _ _ _ z64 (Kd.R_nil _ _ _ _ _) (Kd.R_nil _ _ _ _ _) (Kd.R_nil _ _ _ _ _) (Kd.R_nil _ _ _ _ _)) (fun _ hk => hk) trivial (zP (by assumption)) (Nat.le_trans (Nat.mul_le_mul_right _ (zP (by assumption) : (l0.length : Int).toNat ≤ 1851809057306)) (by omega)) (Below.refl _ _) (Nat.le_refl _) ?_; intro v247 w4 ho5 hb hg_ hnew_; clear hg_ hnew_; (first | rw [← Ny246.out] at ho5 | (simp only [Int.reduceToNat] at ho5; rw [← Ny246.out] at ho5)); have HO248 := yD (yZ ho5 (below_size (kB HB))); replace HB := yD (zC (kB HB) hb); clear hb ho5))
   (try simp only [Act.put, zH, zI, zJ])
   go_loopg [4] k (fun kq v4 w' => ∃ (x3_1 : List (S64)) (x4_1 : Int), v4 = .int .i64 x4_1 ∧ Aside0 (laws_toMemberS.l0 Y_ kq l0 x3_1 x4_1 = some r) ∧ Aside0 (kq ≤ k) ∧ Aside0 (Kd.R k64 64 w' w.heap.size (fun _ => True) v247 x3_1) ∧ Aside0 (Below w.heap.size w w'))
   case atStart => exact ⟨(y246), (0), (by first | rfl | (simp; done) | (simp [*]; done)), H', ⟨Nat.le_refl _⟩, ⟨kA HO248⟩, ⟨kR1 HB⟩⟩
   case round =>
    clear H'
    try clear c2; try clear c2b0; try clear c2b1; try clear c3; try clear c3b0; try clear c3b1
    obtain ⟨x3_1, x4_1, rfl, HA, HK1, HO_3, HB⟩ := hrel
    cases gk with
    | zero => exact absurd HA.out (by simp [laws_toMemberS.l0])
    | succ k1 =>
     have H := HA.out; clear HA
     simp only [laws_toMemberS.l0] at H
     by_cases c6 : x4_1 < (l0.length : Int)
     ·
      rw [if_pos c6] at H
      have c6b0 : decide (x4_1 < (l0.length : Int)) = true := zR c6; clear c6
      by_cases c7 : 0 ≤ x4_1
      ·
       rw [if_pos c7] at H
       have c7b0 : decide (0 ≤ x4_1) = true := zR c7; clear c7
       obtain ⟨⟨t250, t251, t252, t253, t254, t255, t256, t259, t262, t265, t268⟩, A80, H⟩ := zW_ H
       replace H : (if x4_1 < (x3_1.length : Int) then (laws_toMemberS.l0 Y_ k1 l0 (x3_1.set (x4_1 : Int).toNat (⟨t250, t251, (⟨t252, t253, t254, t255, t256, t259, t262, t265, t268⟩ : S33)⟩ : S64)) (wrap64 (x4_1 + 1))) else (none)) = some r := H
       have A8 := yD A80
       clear A80
       by_cases c9 : x4_1 < (x3_1.length : Int)
       ·
        rw [if_pos c9] at H
        have c9b0 : decide (x4_1 < (x3_1.length : Int)) = true := zR c9; clear c9
        obtain ⟨y269, hy269⟩ : ∃ y_ : List (S64), y_ = (x3_1.set (x4_1 : Int).toNat (⟨t250, t251, (⟨t252, t253, t254, t255, t256, t259, t262, t265, t268⟩ : S33)⟩ : S64)) := ⟨_, rfl⟩
        replace H : (laws_toMemberS.l0 Y_ k1 l0 y269 (wrap64 (x4_1 + 1))) = some r := by first | (rw [hy269]; with_reducible exact H) | (have H2_ := (Option.bind_some _ _).symm.trans H; rw [hy269]; with_reducible exact H2_) | (have H2_ := (Option.bind_some _ _).symm.trans H; with_reducible exact H2_) | with_reducible exact H | (rw [hy269]; exact H) | exact H
        have Ny269 := yD hy269
        clear hy269
        have H' := yD H
        clear H
        have p249 : 0 ≤ (x4_1 : Int) := zP (by assumption)
        have q249 : x4_1 < (l0.length : Int) := zP (by assumption)
        obtain ⟨ad249, A249_6, c249_6, A249_7, c249_7, A249_8, c249_8, A249_9, c249_9, e249, hx249_0, hx249_1, hx249_2, hx249_3, hx249_4, hx249_5, hx249_6, hx249_7, hx249_8, hx249_9, hx249_10, hl249_6, hi249_6, hl249_7, hi249_7, hl249_8, hi249_8, hl249_9, hi249_9⟩ := at_T91 HR0.out x4_1 p249 q249
        cases e249
        replace hx249_0 := (HB.out.cell (zQ w _ hx249_0)).trans hx249_0
        replace hx249_1 := (HB.out.cell (zQ w _ hx249_1)).trans hx249_1
        replace hx249_2 := (HB.out.cell (zQ w _ hx249_2)).trans hx249_2
        replace hx249_3 := (HB.out.cell (zQ w _ hx249_3)).trans hx249_3
        replace hx249_4 := (HB.out.cell (zQ w _ hx249_4)).trans hx249_4
        replace hx249_5 := (HB.out.cell (zQ w _ hx249_5)).trans hx249_5
        replace hx249_6 := (HB.out.cell (zQ w _ hx249_6)).trans hx249_6
        replace hx249_7 := (HB.out.cell (zQ w _ hx249_7)).trans hx249_7
        replace hx249_8 := (HB.out.cell (zQ w _ hx249_8)).trans hx249_8
        replace hx249_9 := (HB.out.cell (zQ w _ hx249_9)).trans hx249_9
        replace hx249_10 := (HB.out.cell (zQ w _ hx249_10)).trans hx249_10
        have HR249_6 := yD hi249_6
        have HC249_6 := yD hl249_6
        clear hi249_6 hl249_6
        have HR249_7 := yD hi249_7
        have HC249_7 := yD hl249_7
        clear hi249_7 hl249_7
        have HR249_8 := yD hi249_8
        have HC249_8 := yD hl249_8
        clear hi249_8 hl249_8
        have HR249_9 := yD hi249_9
        have HC249_9 := yD hl249_9
        clear hi249_9 hl249_9; replace p249 := eq_true p249; replace q249 := eq_true q249
        go_wp2_with (first | ((with_reducible refine gate_callee (f := 63) rfl ?_); refine gL 20 Try.func63 #[.agg #[.string ((rd_T91 l0 x4_1).f0), .int .i64 ((rd_T91 l0 x4_1).f1), .int .i64 ((rd_T91 l0 x4_1).f2.f0), .int .i64 ((rd_T91 l0 x4_1).f2.f1), .bool ((rd_T91 l0 x4_1).f2.f2), .bool ((rd_T91 l0 x4_1).f2.f3), .slice A249_6 ((rd_T91 l0 x4_1).f2.f4).length c249_6, .slice A249_7 ((rd_T91 l0 x4_1).f2.f5).length c249_7, .slice A249_8 ((rd_T91 l0 x4_1).f2.f6).length c249_8, .slice A249_9 ((rd_T91 l0 x4_1).f2.f7).length c249_9, .int .i64 ((rd_T91 l0 x4_1).f2.f8)]] ?_; (with_reducible refine (laws_toMember.calls Y_ HY_ k1 ((rd_T91 l0 x4_1).f0) ((rd_T91 l0 x4_1).f1) ((rd_T91 l0 x4_1).f2.f0) ((rd_T91 l0 x4_1).f2.f1) ((rd_T91 l0 x4_1).f2.f2) ((rd_T91 l0 x4_1).f2.f3) _ _ ((rd_T91 l0 x4_1).f2.f4) _ _ ((rd_T91 l0 x4_1).f2.f5) _ _ ((rd_T91 l0 x4_1).f2.f6) _ _ ((rd_T91 l0 x4_1).f2.f7) ((rd_T91 l0 x4_1).f2.f8) t250 t251 t252 t253 t254 t255 t256 t259 t262 t265 t268 _ ?side1 ?side2 ?side3 ?side4 ?side5 ?side6 ?side7 ?side8 A8.out).mono ?_); (case side1 => exact kV (yY HR249_6.out HB.out)); (case side2 => exact HC249_6.out); (case side3 => exact kV (yY HR249_7.out HB.out)); (case side4 => exact HC249_7.out); (case side5 => exact kV (yY HR249_8.out HB.out)); (case side6 => exact HC249_8.out); (case side7 => exact kV (yY HR249_9.out HB.out)); (case side8 => exact HC249_9.out); rintro e w11 ⟨v257, v260, v263, v266, rfl, ho0, ho1, ho2, ho3, hb⟩; refine ⟨_, rfl, ?_⟩; have HO258 := yD (yZ ho0 (below_size (kB HB))); have HO261 := yD (yZ ho1 (below_size (kB HB))); have HO264 := yD (yZ (yJ ho2 (yK (kA HO_3))) (below_size (kB HB))); have HO267 := yD (yZ (yJ ho3 (yK (kA HO_3))) (below_size (kB HB))); replace HO_3 := yD (zF (yI (yI (yI (yI (Kd.R_old (kA HO_3) hb) (yH ho0)) (yH ho1)) (yH ho2)) (yH ho3)) (fun _ h_ => h_.1)); replace HB := yD (zC (kB HB) hb); clear hb ho0 ho1 ho2 ho3; have p10 : 0 ≤ (x4_1 : Int) := zP (by assumption); have q10 : (x4_1 : Int) < ((x3_1.length : Int) : Int) := zP (by assumption); obtain ⟨go10, co10, eo10, gb10, gl10, cl10, HG10⟩ := Kd.R_form HO_3.out (by omega); (first | cases eo10 | (injection eo10 with ea_ en_ ec_; (first | subst ea_ | (injection ea_ with ea_; subst ea_)); subst ec_; clear en_)); have GB10 := yD gb10; have GG10 := yD HG10; clear gb10 gl10 HG10; obtain ⟨ce10, hcl10, hM10, hcc10, hfr10⟩ := Kd.R_elem HO_3.out z64 (x4_1 : Int) p10 q10; obtain ⟨ve10_6, ve10_7, ve10_8, ve10_9, rfl, ge10_6, ge10_7, ge10_8, ge10_9⟩ := k64_openM hM10; have hx10_0 : w11.cell? ⟨go10, (x4_1 : Int).toNat * 11, none⟩ = some (.string ((rd_T64 x3_1 x4_1).f0)) := hcc10 0 _ rfl; have hx10_1 : w11.cell? ⟨go10, (x4_1 : Int).toNat * 11 + 1, none⟩ = some (.int .i64 ((rd_T64 x3_1 x4_1).f1)) := hcc10 1 _ rfl; have hx10_2 : w11.cell? ⟨go10, (x4_1 : Int).toNat * 11 + 2, none⟩ = some (.int .i64 ((rd_T64 x3_1 x4_1).f2.f0)) := hcc10 2 _ rfl; have hx10_3 : w11.cell? ⟨go10, (x4_1 : Int).toNat * 11 + 3, none⟩ = some (.int .i64 ((rd_T64 x3_1 x4_1).f2.f1)) := hcc10 3 _ rfl; have hx10_4 : w11.cell? ⟨go10, (x4_1 : Int).toNat * 11 + 4, none⟩ = some (.bool ((rd_T64 x3_1 x4_1).f2.f2)) := hcc10 4 _ rfl; have hx10_5 : w11.cell? ⟨go10, (x4_1 : Int).toNat * 11 + 5, none⟩ = some (.bool ((rd_T64 x3_1 x4_1).f2.f3)) := hcc10 5 _ rfl; have hx10_6 : w11.cell? ⟨go10, (x4_1 : Int).toNat * 11 + 6, none⟩ = some (ve10_6) := hcc10 6 _ rfl; have hx10_7 : w11.cell? ⟨go10, (x4_1 : Int).toNat * 11 + 7, none⟩ = some (ve10_7) := hcc10 7 _ rfl; have hx10_8 : w11.cell? ⟨go10, (x4_1 : Int).toNat * 11 + 8, none⟩ = some (ve10_8) := hcc10 8 _ rfl; have hx10_9 : w11.cell? ⟨go10, (x4_1 : Int).toNat * 11 + 9, none⟩ = some (ve10_9) := hcc10 9 _ rfl; have hx10_10 : w11.cell? ⟨go10, (x4_1 : Int).toNat * 11 + 10, none⟩ = some (.int .i64 ((rd_T64 x3_1 x4_1).f2.f8)) := hcc10 10 _ rfl; have hf10_0 : w11.frozen? ⟨go10, (x4_1 : Int).toNat * 11, none⟩ = false := hfr10 0; have hf10_1 : w11.frozen? ⟨go10, (x4_1 : Int).toNat * 11 + 1, none⟩ = false := hfr10 1; have hf10_2 : w11.frozen? ⟨go10, (x4_1 : Int).toNat * 11 + 2, none⟩ = false := hfr10 2; have hf10_3 : w11.frozen? ⟨go10, (x4_1 : Int).toNat * 11 + 3, none⟩ = false := hfr10 3; have hf10_4 : w11.frozen? ⟨go10, (x4_1 : Int).toNat * 11 + 4, none⟩ = false := hfr10 4; have hf10_5 : w11.frozen? ⟨go10, (x4_1 : Int).toNat * 11 + 5, none⟩ = false := hfr10 5; have hf10_6 : w11.frozen? ⟨go10, (x4_1 : Int).toNat * 11 + 6, none⟩ = false := hfr10 6; have hf10_7 : w11.frozen? ⟨go10, (x4_1 : Int).toNat * 11 + 7, none⟩ = false := hfr10 7; have hf10_8 : w11.frozen? ⟨go10, (x4_1 : Int).toNat * 11 + 8, none⟩ = false := hfr10 8; have hf10_9 : w11.frozen? ⟨go10, (x4_1 : Int).toNat * 11 + 9, none⟩ = false := hfr10 9; have hf10_10 : w11.frozen? ⟨go10, (x4_1 : Int).toNat * 11 + 10, none⟩ = false := hfr10 10; clear hcl10 hcc10 hfr10 hM10; replace p10 := eq_true p10; replace q10 := eq_true q10; obtain ⟨Ao14, co14, eo14⟩ := Kd.R_slice HO258.out; subst eo14; obtain ⟨Ao15, co15, eo15⟩ := Kd.R_slice HO261.out; subst eo15; obtain ⟨Ao16, co16, eo16⟩ := Kd.R_slice HO264.out; subst eo16; obtain ⟨Ao17, co17, eo17⟩ := Kd.R_slice HO267.out; subst eo17; have n_ := yD (zF (ok' := (fun k_ => oB (.slice Ao14 t256.length co14) k_ ∧ oB (.slice Ao15 t259.length co15) k_ ∧ oB (.slice Ao16 t262.length co16) k_ ∧ oB (.slice Ao17 t265.length co17) k_)) HO_3.out (fun k_ hk => ⟨hk.1.1.1.2, ⟨hk.1.1.2, ⟨hk.1.2, hk.2⟩⟩⟩)); clear HO_3; have HO_3 := n_; clear n_; have HX12 := yD (show Kd.R k64 64 w11 w.heap.size (fun _ => True) (.slice (some ⟨go10, 0, none⟩) x3_1.length co10) x3_1 from (mR HO_3 (fun _ hk => trivial))); obtain ⟨ce12, hcl12, hM12, hcc12, hfr12⟩ := Kd.R_elem HX12.out z64 (x4_1 : Int) (zP (by assumption)) (by have h_ : (x4_1 : Int) < ((x3_1.length : Int) : Int) := zP (by assumption); first | exact h_ | (have e_ := (zA HO_3.out).1; omega) | simpa using h_); obtain ⟨ve12_6, ve12_7, ve12_8, ve12_9, rfl, ge12_6, ge12_7, ge12_8, ge12_9⟩ := k64_openM hM12; have HP12 := Kd.R_seg HX12.out (x4_1 : Int) (zP (by assumption)) (by have h_ : (x4_1 : Int) < ((x3_1.length : Int) : Int) := zP (by assumption); first | exact h_ | (have e_ := (zA HO_3.out).1; omega) | simpa using h_) (seg := [.string t250, .int .i64 t251, .int .i64 t252, .int .i64 t253, .bool t254, .bool t255, .slice Ao14 t256.length co14, .slice Ao15 t259.length co15, .slice Ao16 t262.length co16, .slice Ao17 t265.length co17, .int .i64 t268]) (j := 0) hcl12 hcc12 (show 11 ≤ 11 from by decide) (x' := (⟨t250, t251, (⟨t252, t253, t254, t255, t256, t259, t262, t265, t268⟩ : S33)⟩ : S64)) (k64_mkM _ _ _ (⟨t250, t251, (⟨t252, t253, t254, t255, t256, t259, t262, t265, t268⟩ : S33)⟩ : S64) (zF (Kd.R_apart' (HO258.out) (Kd.R_typed HO_3.out) (by decide)) (fun k_ hk => ⟨trivial, fun e_ => (hk.2) (by rw [e_]; rfl)⟩)) (zF (Kd.R_apart' (HO261.out) (Kd.R_typed HO_3.out) (by decide)) (fun k_ hk => ⟨trivial, fun e_ => (hk.2) (by rw [e_]; rfl)⟩)) (zF (HO264.out) (fun k_ hk => ⟨trivial, fun e_ => (hk.2) (by rw [e_]; rfl)⟩)) (zF (HO267.out) (fun k_ hk => ⟨trivial, fun e_ => (hk.2) (by rw [e_]; rfl)⟩))) (fun _ hk => hk); have hx12_0 := hcc12 0 _ rfl; (try simp only [show (k64).sz = 11 from rfl, Nat.mul_one, Nat.add_zero] at hx12_0); have hf12_0 := hfr12 0; (try simp only [show (k64).sz = 11 from rfl, Nat.mul_one, Nat.add_zero] at hf12_0); have hx12_1 := hcc12 1 _ rfl; (try simp only [show (k64).sz = 11 from rfl, Nat.mul_one, Nat.add_zero] at hx12_1); have hf12_1 := hfr12 1; (try simp only [show (k64).sz = 11 from rfl, Nat.mul_one, Nat.add_zero] at hf12_1); have hx12_2 := hcc12 2 _ rfl; (try simp only [show (k64).sz = 11 from rfl, Nat.mul_one, Nat.add_zero] at hx12_2); have hf12_2 := hfr12 2; (try simp only [show (k64).sz = 11 from rfl, Nat.mul_one, Nat.add_zero] at hf12_2); have hx12_3 := hcc12 3 _ rfl; (try simp only [show (k64).sz = 11 from rfl, Nat.mul_one, Nat.add_zero] at hx12_3); have hf12_3 := hfr12 3; (try simp only [show (k64).sz = 11 from rfl, Nat.mul_one, Nat.add_zero] at hf12_3); have hx12_4 := hcc12 4 _ rfl; (try simp only [show (k64).sz = 11 from rfl, Nat.mul_one, Nat.add_zero] at hx12_4); have hf12_4 := hfr12 4; (try simp only [show (k64).sz = 11 from rfl, Nat.mul_one, Nat.add_zero] at hf12_4); have hx12_5 := hcc12 5 _ rfl; (try simp only [show (k64).sz = 11 from rfl, Nat.mul_one, Nat.add_zero] at hx12_5); have hf12_5 := hfr12 5; (try simp only [show (k64).sz = 11 from rfl, Nat.mul_one, Nat.add_zero] at hf12_5); have hx12_6 := hcc12 6 _ rfl; (try simp only [show (k64).sz = 11 from rfl, Nat.mul_one, Nat.add_zero] at hx12_6); have hf12_6 := hfr12 6; (try simp only [show (k64).sz = 11 from rfl, Nat.mul_one, Nat.add_zero] at hf12_6); have hx12_7 := hcc12 7 _ rfl; (try simp only [show (k64).sz = 11 from rfl, Nat.mul_one, Nat.add_zero] at hx12_7); have hf12_7 := hfr12 7; (try simp only [show (k64).sz = 11 from rfl, Nat.mul_one, Nat.add_zero] at hf12_7); have hx12_8 := hcc12 8 _ rfl; (try simp only [show (k64).sz = 11 from rfl, Nat.mul_one, Nat.add_zero] at hx12_8); have hf12_8 := hfr12 8; (try simp only [show (k64).sz = 11 from rfl, Nat.mul_one, Nat.add_zero] at hf12_8); have hx12_9 := hcc12 9 _ rfl; (try simp only [show (k64).sz = 11 from rfl, Nat.mul_one, Nat.add_zero] at hx12_9); have hf12_9 := hfr12 9; (try simp only [show (k64).sz = 11 from rfl, Nat.mul_one, Nat.add_zero] at hf12_9); have hx12_10 := hcc12 10 _ rfl; (try simp only [show (k64).sz = 11 from rfl, Nat.mul_one, Nat.add_zero] at hx12_10); have hf12_10 := hfr12 10; (try simp only [show (k64).sz = 11 from rfl, Nat.mul_one, Nat.add_zero] at hf12_10); clear hcl12 hcc12 hfr12 hM12) | ((with_reducible refine gate_store (t := 64) (p := 21) rfl ?_); refine store_event (t := 64) (p := 21) (v := ?vo_w13) (w1 := (((((((((((w11.setCell ⟨go10, (x4_1 : Int).toNat * 11, none⟩ (.string t250)).setCell ⟨go10, (x4_1 : Int).toNat * 11 + 1, none⟩ (.int .i64 t251)).setCell ⟨go10, (x4_1 : Int).toNat * 11 + 2, none⟩ (.int .i64 t252)).setCell ⟨go10, (x4_1 : Int).toNat * 11 + 3, none⟩ (.int .i64 t253)).setCell ⟨go10, (x4_1 : Int).toNat * 11 + 4, none⟩ (.bool t254)).setCell ⟨go10, (x4_1 : Int).toNat * 11 + 5, none⟩ (.bool t255)).setCell ⟨go10, (x4_1 : Int).toNat * 11 + 6, none⟩ (.slice Ao14 t256.length co14)).setCell ⟨go10, (x4_1 : Int).toNat * 11 + 7, none⟩ (.slice Ao15 t259.length co15)).setCell ⟨go10, (x4_1 : Int).toNat * 11 + 8, none⟩ (.slice Ao16 t262.length co16)).setCell ⟨go10, (x4_1 : Int).toNat * 11 + 9, none⟩ (.slice Ao17 t265.length co17)).setCell ⟨go10, (x4_1 : Int).toNat * 11 + 10, none⟩ (.int .i64 t268))) ?hg ?ho ?hn ?hr ?_; (case ho => rfl); (case hg => rfl); (case hn => rfl); (case hr => first | (go_simp; done) | (go_simp; rfl)); intro w13 hw; have hg : w11.grownBy w13 (some go10) := (by rw [hw]; exact HP12.2); have hp_ : Kd.R k64 64 w13 w.heap.size (fun _ => True) (.slice (some ⟨go10, 0, none⟩) x3_1.length co10) y269 := (by rw [hw, Ny269.out]; exact HP12.1); clear HP12; replace HO_3 := yD (hp_); replace HB := yD ((by rw [hw]; exact yE (yE (yE (yE (yE (yE (yE (yE (yE (yE (yE (HB.out) GB10.out) GB10.out) GB10.out) GB10.out) GB10.out) GB10.out) GB10.out) GB10.out) GB10.out) GB10.out) GB10.out : Below w.heap.size w w13)); clear HO258 HO261 HO264 HO267; clear hg hw hp_))
        go_roundg k1
        case measure => have := HK1.out; omega
        case rel => exact ⟨(y269), (wrap64 (x4_1 + 1)), (by first | rfl | (simp; done) | (simp [*]; done)), H', ⟨by have := HK1.out; omega⟩, ⟨kA HO_3⟩, ⟨kR1 HB⟩⟩
       · rw [if_neg c9] at H
         exact absurd H (by simp)
      · rw [if_neg c7] at H
        exact absurd H (by simp)
     · rw [if_neg c6] at H
       have c6b0 : decide (x4_1 < (l0.length : Int)) = false := zS c6; clear c6; obtain rfl := Option.some.inj H
       go_wp2
       go_ret
       exact ⟨_, by first | rfl | (simp <;> rfl) | (simp [*] <;> rfl), kA HO_3, kR1 HB⟩
  · rw [if_neg c3] at H
    exact absurd H (by simp)
 · rw [if_neg c2] at H
   exact absurd H (by simp)

/-! ### laws_toTypeS: function 38 -/
def laws_toTypeS.l0 (Y_ : Int → Int → Bool → Bool → List ByteArray → List Int → List (S91) → List (S27) → Int → Option (Int × Int × Bool × Bool × List ByteArray × List Int × (List (S64)) × (List (S33)) × Int)) : Nat → List (S27) → List (S33) → Int → Option ((List (S33)))
 | 0, _, _, _ => none
 | k + 1, x0, x3, x4 => if x4 < (x0.length : Int) then (if 0 ≤ x4 then ((Y_ ((rd_T27 x0 x4).f0) ((rd_T27 x0 x4).f1) ((rd_T27 x0 x4).f2) ((rd_T27 x0 x4).f3) ((rd_T27 x0 x4).f4) ((rd_T27 x0 x4).f5) ((rd_T27 x0 x4).f6) ((rd_T27 x0 x4).f7) ((rd_T27 x0 x4).f8)).bind fun bt274 => (if x4 < (x3.length : Int) then (laws_toTypeS.l0 Y_ k x0 (x3.set (x4 : Int).toNat (⟨bt274.1, bt274.2.1, bt274.2.2.1, bt274.2.2.2.1, bt274.2.2.2.2.1, bt274.2.2.2.2.2.1, bt274.2.2.2.2.2.2.1, bt274.2.2.2.2.2.2.2.1, bt274.2.2.2.2.2.2.2.2⟩ : S33)) (wrap64 (x4 + 1))) else (none))) else (none)) else (some x3)
def laws_toTypeS.f (Y_ : Int → Int → Bool → Bool → List ByteArray → List Int → List (S91) → List (S27) → Int → Option (Int × Int × Bool × Bool × List ByteArray × List Int × (List (S64)) × (List (S33)) × Int)) (k : Nat) (l0 : List (S27)) : Option ((List (S33))) := if 0 ≤ (l0.length : Int) then (if ((l0.length : Int) : Int).toNat ≤ 2199023255552 then (laws_toTypeS.l0 Y_ k l0 (List.replicate ((l0.length : Int) : Int).toNat z33) 0) else (none)) else (none)
set_option maxHeartbeats 8000000 in
set_option maxRecDepth 100000 in
theorem laws_toTypeS.calls (Y_ : Int → Int → Bool → Bool → List ByteArray → List Int → List (S91) → List (S27) → Int → Option (Int × Int × Bool × Bool × List ByteArray × List Int × (List (S64)) × (List (S33)) × Int)) (HY_ : ∀ (a0_0 : Int) (a0_1 : Int) (a0_2 : Bool) (a0_3 : Bool) (A0_4 : Option Addr) (c0_4 : Nat) (l0_4 : List ByteArray) (A0_5 : Option Addr) (c0_5 : Nat) (l0_5 : List Int) (A0_6 : Option Addr) (c0_6 : Nat) (l0_6 : List (S91)) (A0_7 : Option Addr) (c0_7 : Nat) (l0_7 : List (S27)) (a0_8 : Int) (r1 : Int) (r2 : Int) (r3 : Bool) (r4 : Bool) (r5 : List ByteArray) (r6 : List Int) (r7 : List (S64)) (r8 : List (S33)) (r9 : Int) (w : World) (hr0_4 : Kd.C Kd.string w A0_4 l0_4.length l0_4) (hc0_4 : l0_4.length ≤ c0_4) (hr0_5 : Kd.C (Kd.int .i64) w A0_5 l0_5.length l0_5) (hc0_5 : l0_5.length ≤ c0_5) (hr0_6 : Kd.C k91 w A0_6 l0_6.length l0_6) (hc0_6 : l0_6.length ≤ c0_6) (hr0_7 : Kd.C k27 w A0_7 l0_7.length l0_7) (hc0_7 : l0_7.length ≤ c0_7) (h : Y_ a0_0 a0_1 a0_2 a0_3 l0_4 l0_5 l0_6 l0_7 a0_8 = some (r1, r2, r3, r4, r5, r6, r7, r8, r9)), Calls Try.prog 9 #[.agg #[.int .i64 a0_0, .int .i64 a0_1, .bool a0_2, .bool a0_3, .slice A0_4 l0_4.length c0_4, .slice A0_5 l0_5.length c0_5, .slice A0_6 l0_6.length c0_6, .slice A0_7 l0_7.length c0_7, .int .i64 a0_8]] w fun e w' => ∃ v4_ v5_ v6_ v7_ : Value, e = .returned (.agg #[.int .i64 r1, .int .i64 r2, .bool r3, .bool r4, v4_, v5_, v6_, v7_, .int .i64 r9]) ∧ Kd.R Kd.string 9 w' w.heap.size (fun _ => True) v4_ r5 ∧ Kd.R (Kd.int .i64) 2 w' w.heap.size (fun _ => True) v5_ r6 ∧ Kd.R k64 64 w' w.heap.size (fun k_ => some k_ ≠ (v4_ : Value).ownBlock ∧ some k_ ≠ (v5_ : Value).ownBlock ∧ some k_ ≠ (v7_ : Value).ownBlock) v6_ r7 ∧ Kd.R k33 33 w' w.heap.size (fun k_ => some k_ ≠ (v4_ : Value).ownBlock ∧ some k_ ≠ (v5_ : Value).ownBlock ∧ some k_ ≠ (v6_ : Value).ownBlock) v7_ r8 ∧ Below w.heap.size w w') (k : Nat) (A0 : Option Addr) (c0 : Nat) (l0 : List (S27)) (r : List (S33)) (w : World) (hr0 : Kd.C k27 w A0 l0.length l0) (hc0 : l0.length ≤ c0) (h : laws_toTypeS.f Y_ k l0 = some r) :
 Calls Try.prog 38 #[.slice A0 l0.length c0] w fun e w' => ∃ v0_ : Value, e = .returned (v0_) ∧ Kd.R k33 33 w' w.heap.size (fun _ => True) v0_ r ∧ Below w.heap.size w w' := by
 have hu27 := Try.underlying27; have hu33 := Try.underlying33
 have HR0 := yD hr0
 have HC0 := yD hc0
 clear hr0 hc0
 have HB := yD (Below.refl w.heap.size w)
 have H : (if 0 ≤ (l0.length : Int) then (if ((l0.length : Int) : Int).toNat ≤ 2199023255552 then (laws_toTypeS.l0 Y_ k l0 (List.replicate ((l0.length : Int) : Int).toNat z33) 0) else (none)) else (none)) = some r := h
 clear h
 by_cases c2 : 0 ≤ (l0.length : Int)
 ·
  rw [if_pos c2] at H
  have c2b0 := eq_true c2
  have c2b1 : decide (0 ≤ (l0.length : Int)) = true := zR c2; clear c2
  by_cases c3 : ((l0.length : Int) : Int).toNat ≤ 2199023255552
  ·
   rw [if_pos c3] at H
   have c3b0 := eq_true c3
   have c3b1 : decide (((l0.length : Int) : Int).toNat ≤ 2199023255552) = true := zR c3
   clear c3
   obtain ⟨y270, hy270⟩ : ∃ y_ : List (S33), y_ = (List.replicate ((l0.length : Int) : Int).toNat z33) := ⟨_, rfl⟩
   replace H : (laws_toTypeS.l0 Y_ k l0 y270 0) = some r := by first | (rw [hy270]; with_reducible exact H) | (have H2_ := (Option.bind_some _ _).symm.trans H; rw [hy270]; with_reducible exact H2_) | (have H2_ := (Option.bind_some _ _).symm.trans H; with_reducible exact H2_) | with_reducible exact H | (rw [hy270]; exact H) | exact H
   have Ny270 := yD hy270
   clear hy270
   have H' := yD H
   clear H; go_enter Try.func38, Try.ntmps38
   go_wp2_with (first | ((with_reducible refine gate_dst (N := 7) rfl ?_); refine Kd.R_make k33 _ 33 rfl (N := 7) rfl 31 _ _ rfl (l0.length : Int) rfl rfl Try.underlying31 (.agg #[(.int .i64 0), (.int .i64 0), (.bool false), (.bool false), (.slice none 0 0), (.slice none 0 0), (.slice none 0 0), (.slice none 0 0), (.int .i64 0)]) 128 info33 rfl (by decide) (by omega) z33 (ok := fun _ => True) (okp := fun _ => True) (k33_mkM _ _ _ z33 (Kd.R_nil _ _ _ _ _) (Kd.R_nil _ _ _ _ _) (Kd.R_nil _ _ _ _ _) (Kd.R_nil _ _ _ _ _)) (fun _ hk => hk) trivial (zP (by assumption)) (Nat.le_trans (Nat.mul_le_mul_right _ (zP (by assumption) : (l0.length : Int).toNat ≤ 2199023255552)) (by omega)) (Below.refl _ _) (Nat.le_refl _) ?_; intro v271 w4 ho5 hb hg_ hnew_; clear hg_ hnew_; (first | rw [← Ny270.out] at ho5 | (simp only [Int.reduceToNat] at ho5; rw [← Ny270.out] at ho5)); have HO272 := yD (yZ ho5 (below_size (kB HB))); replace HB := yD (zC (kB HB) hb); clear hb ho5))
   (try simp only [Act.put, zH, zI, zJ])
   go_loopg [4] k (fun kq v4 w' => ∃ (x3_1 : List (S33)) (x4_1 : Int), v4 = .int .i64 x4_1 ∧ Aside0 (laws_toTypeS.l0 Y_ kq l0 x3_1 x4_1 = some r) ∧ Aside0 (kq ≤ k) ∧ Aside0 (Kd.R k33 33 w' w.heap.size (fun _ => True) v271 x3_1) ∧ Aside0 (Below w.heap.size w w'))
   case atStart => exact ⟨(y270), (0), (by first | rfl | (simp; done) | (simp [*]; done)), H', ⟨Nat.le_refl _⟩, ⟨kA HO272⟩, ⟨kR1 HB⟩⟩
   case round =>
    clear H'
    try clear c2; try clear c2b0; try clear c2b1; try clear c3; try clear c3b0; try clear c3b1
    obtain ⟨x3_1, x4_1, rfl, HA, HK1, HO_3, HB⟩ := hrel
    cases gk with
    | zero => exact absurd HA.out (by simp [laws_toTypeS.l0])
    | succ k1 =>
     have H := HA.out; clear HA
     simp only [laws_toTypeS.l0] at H
     by_cases c6 : x4_1 < (l0.length : Int)
     ·
      rw [if_pos c6] at H
      have c6b0 : decide (x4_1 < (l0.length : Int)) = true := zR c6; clear c6
      by_cases c7 : 0 ≤ x4_1
      ·
       rw [if_pos c7] at H
       have c7b0 : decide (0 ≤ x4_1) = true := zR c7; clear c7
       obtain ⟨⟨t274, t275, t276, t277, t278, t281, t284, t287, t290⟩, A80, H⟩ := zW_ H
       replace H : (if x4_1 < (x3_1.length : Int) then (laws_toTypeS.l0 Y_ k1 l0 (x3_1.set (x4_1 : Int).toNat (⟨t274, t275, t276, t277, t278, t281, t284, t287, t290⟩ : S33)) (wrap64 (x4_1 + 1))) else (none)) = some r := H
       have A8 := yD A80
       clear A80
       by_cases c9 : x4_1 < (x3_1.length : Int)
       ·
        rw [if_pos c9] at H
        have c9b0 : decide (x4_1 < (x3_1.length : Int)) = true := zR c9; clear c9
        obtain ⟨y291, hy291⟩ : ∃ y_ : List (S33), y_ = (x3_1.set (x4_1 : Int).toNat (⟨t274, t275, t276, t277, t278, t281, t284, t287, t290⟩ : S33)) := ⟨_, rfl⟩
        replace H : (laws_toTypeS.l0 Y_ k1 l0 y291 (wrap64 (x4_1 + 1))) = some r := by first | (rw [hy291]; with_reducible exact H) | (have H2_ := (Option.bind_some _ _).symm.trans H; rw [hy291]; with_reducible exact H2_) | (have H2_ := (Option.bind_some _ _).symm.trans H; with_reducible exact H2_) | with_reducible exact H | (rw [hy291]; exact H) | exact H
        have Ny291 := yD hy291
        clear hy291
        have H' := yD H
        clear H
        have p273 : 0 ≤ (x4_1 : Int) := zP (by assumption)
        have q273 : x4_1 < (l0.length : Int) := zP (by assumption)
        obtain ⟨ad273, A273_4, c273_4, A273_5, c273_5, A273_6, c273_6, A273_7, c273_7, e273, hx273_0, hx273_1, hx273_2, hx273_3, hx273_4, hx273_5, hx273_6, hx273_7, hx273_8, hl273_4, hi273_4, hl273_5, hi273_5, hl273_6, hi273_6, hl273_7, hi273_7⟩ := at_T27 HR0.out x4_1 p273 q273
        cases e273
        replace hx273_0 := (HB.out.cell (zQ w _ hx273_0)).trans hx273_0
        replace hx273_1 := (HB.out.cell (zQ w _ hx273_1)).trans hx273_1
        replace hx273_2 := (HB.out.cell (zQ w _ hx273_2)).trans hx273_2
        replace hx273_3 := (HB.out.cell (zQ w _ hx273_3)).trans hx273_3
        replace hx273_4 := (HB.out.cell (zQ w _ hx273_4)).trans hx273_4
        replace hx273_5 := (HB.out.cell (zQ w _ hx273_5)).trans hx273_5
        replace hx273_6 := (HB.out.cell (zQ w _ hx273_6)).trans hx273_6
        replace hx273_7 := (HB.out.cell (zQ w _ hx273_7)).trans hx273_7
        replace hx273_8 := (HB.out.cell (zQ w _ hx273_8)).trans hx273_8
        have HR273_4 := yD hi273_4
        have HC273_4 := yD hl273_4
        clear hi273_4 hl273_4
        have HR273_5 := yD hi273_5
        have HC273_5 := yD hl273_5
        clear hi273_5 hl273_5
        have HR273_6 := yD hi273_6
        have HC273_6 := yD hl273_6
        clear hi273_6 hl273_6
        have HR273_7 := yD hi273_7
        have HC273_7 := yD hl273_7
        clear hi273_7 hl273_7; replace p273 := eq_true p273; replace q273 := eq_true q273
        go_wp2_with (first | ((with_reducible refine gate_callee (f := 9) rfl ?_); refine gL 20 Try.func9 #[.agg #[.int .i64 ((rd_T27 l0 x4_1).f0), .int .i64 ((rd_T27 l0 x4_1).f1), .bool ((rd_T27 l0 x4_1).f2), .bool ((rd_T27 l0 x4_1).f3), .slice A273_4 ((rd_T27 l0 x4_1).f4).length c273_4, .slice A273_5 ((rd_T27 l0 x4_1).f5).length c273_5, .slice A273_6 ((rd_T27 l0 x4_1).f6).length c273_6, .slice A273_7 ((rd_T27 l0 x4_1).f7).length c273_7, .int .i64 ((rd_T27 l0 x4_1).f8)]] ?_; (with_reducible refine (HY_ ((rd_T27 l0 x4_1).f0) ((rd_T27 l0 x4_1).f1) ((rd_T27 l0 x4_1).f2) ((rd_T27 l0 x4_1).f3) _ _ ((rd_T27 l0 x4_1).f4) _ _ ((rd_T27 l0 x4_1).f5) _ _ ((rd_T27 l0 x4_1).f6) _ _ ((rd_T27 l0 x4_1).f7) ((rd_T27 l0 x4_1).f8) t274 t275 t276 t277 t278 t281 t284 t287 t290 _ ?side1 ?side2 ?side3 ?side4 ?side5 ?side6 ?side7 ?side8 A8.out).mono ?_); (case side1 => exact kV (yY HR273_4.out HB.out)); (case side2 => exact HC273_4.out); (case side3 => exact kV (yY HR273_5.out HB.out)); (case side4 => exact HC273_5.out); (case side5 => exact kV (yY HR273_6.out HB.out)); (case side6 => exact HC273_6.out); (case side7 => exact kV (yY HR273_7.out HB.out)); (case side8 => exact HC273_7.out); rintro e w11 ⟨v279, v282, v285, v288, rfl, ho0, ho1, ho2, ho3, hb⟩; refine ⟨_, rfl, ?_⟩; have HO280 := yD (yZ ho0 (below_size (kB HB))); have HO283 := yD (yZ ho1 (below_size (kB HB))); have HO286 := yD (yZ (yJ ho2 (yK (kA HO_3))) (below_size (kB HB))); have HO289 := yD (yZ (yJ ho3 (yK (kA HO_3))) (below_size (kB HB))); replace HO_3 := yD (zF (yI (yI (yI (yI (Kd.R_old (kA HO_3) hb) (yH ho0)) (yH ho1)) (yH ho2)) (yH ho3)) (fun _ h_ => h_.1)); replace HB := yD (zC (kB HB) hb); clear hb ho0 ho1 ho2 ho3; have p10 : 0 ≤ (x4_1 : Int) := zP (by assumption); have q10 : (x4_1 : Int) < ((x3_1.length : Int) : Int) := zP (by assumption); obtain ⟨go10, co10, eo10, gb10, gl10, cl10, HG10⟩ := Kd.R_form HO_3.out (by omega); (first | cases eo10 | (injection eo10 with ea_ en_ ec_; (first | subst ea_ | (injection ea_ with ea_; subst ea_)); subst ec_; clear en_)); have GB10 := yD gb10; have GG10 := yD HG10; clear gb10 gl10 HG10; obtain ⟨ce10, hcl10, hM10, hcc10, hfr10⟩ := Kd.R_elem HO_3.out z33 (x4_1 : Int) p10 q10; obtain ⟨ve10_4, ve10_5, ve10_6, ve10_7, rfl, ge10_4, ge10_5, ge10_6, ge10_7⟩ := k33_openM hM10; have hx10_0 : w11.cell? ⟨go10, (x4_1 : Int).toNat * 9, none⟩ = some (.int .i64 ((rd_T33 x3_1 x4_1).f0)) := hcc10 0 _ rfl; have hx10_1 : w11.cell? ⟨go10, (x4_1 : Int).toNat * 9 + 1, none⟩ = some (.int .i64 ((rd_T33 x3_1 x4_1).f1)) := hcc10 1 _ rfl; have hx10_2 : w11.cell? ⟨go10, (x4_1 : Int).toNat * 9 + 2, none⟩ = some (.bool ((rd_T33 x3_1 x4_1).f2)) := hcc10 2 _ rfl; have hx10_3 : w11.cell? ⟨go10, (x4_1 : Int).toNat * 9 + 3, none⟩ = some (.bool ((rd_T33 x3_1 x4_1).f3)) := hcc10 3 _ rfl; have hx10_4 : w11.cell? ⟨go10, (x4_1 : Int).toNat * 9 + 4, none⟩ = some (ve10_4) := hcc10 4 _ rfl; have hx10_5 : w11.cell? ⟨go10, (x4_1 : Int).toNat * 9 + 5, none⟩ = some (ve10_5) := hcc10 5 _ rfl; have hx10_6 : w11.cell? ⟨go10, (x4_1 : Int).toNat * 9 + 6, none⟩ = some (ve10_6) := hcc10 6 _ rfl; have hx10_7 : w11.cell? ⟨go10, (x4_1 : Int).toNat * 9 + 7, none⟩ = some (ve10_7) := hcc10 7 _ rfl; have hx10_8 : w11.cell? ⟨go10, (x4_1 : Int).toNat * 9 + 8, none⟩ = some (.int .i64 ((rd_T33 x3_1 x4_1).f8)) := hcc10 8 _ rfl; have hf10_0 : w11.frozen? ⟨go10, (x4_1 : Int).toNat * 9, none⟩ = false := hfr10 0; have hf10_1 : w11.frozen? ⟨go10, (x4_1 : Int).toNat * 9 + 1, none⟩ = false := hfr10 1; have hf10_2 : w11.frozen? ⟨go10, (x4_1 : Int).toNat * 9 + 2, none⟩ = false := hfr10 2; have hf10_3 : w11.frozen? ⟨go10, (x4_1 : Int).toNat * 9 + 3, none⟩ = false := hfr10 3; have hf10_4 : w11.frozen? ⟨go10, (x4_1 : Int).toNat * 9 + 4, none⟩ = false := hfr10 4; have hf10_5 : w11.frozen? ⟨go10, (x4_1 : Int).toNat * 9 + 5, none⟩ = false := hfr10 5; have hf10_6 : w11.frozen? ⟨go10, (x4_1 : Int).toNat * 9 + 6, none⟩ = false := hfr10 6; have hf10_7 : w11.frozen? ⟨go10, (x4_1 : Int).toNat * 9 + 7, none⟩ = false := hfr10 7; have hf10_8 : w11.frozen? ⟨go10, (x4_1 : Int).toNat * 9 + 8, none⟩ = false := hfr10 8; clear hcl10 hcc10 hfr10 hM10; replace p10 := eq_true p10; replace q10 := eq_true q10; obtain ⟨Ao14, co14, eo14⟩ := Kd.R_slice HO280.out; subst eo14; obtain ⟨Ao15, co15, eo15⟩ := Kd.R_slice HO283.out; subst eo15; obtain ⟨Ao16, co16, eo16⟩ := Kd.R_slice HO286.out; subst eo16; obtain ⟨Ao17, co17, eo17⟩ := Kd.R_slice HO289.out; subst eo17; have n_ := yD (zF (ok' := (fun k_ => oB (.slice Ao14 t278.length co14) k_ ∧ oB (.slice Ao15 t281.length co15) k_ ∧ oB (.slice Ao16 t284.length co16) k_ ∧ oB (.slice Ao17 t287.length co17) k_)) HO_3.out (fun k_ hk => ⟨hk.1.1.1.2, ⟨hk.1.1.2, ⟨hk.1.2, hk.2⟩⟩⟩)); clear HO_3; have HO_3 := n_; clear n_; have HX12 := yD (show Kd.R k33 33 w11 w.heap.size (fun _ => True) (.slice (some ⟨go10, 0, none⟩) x3_1.length co10) x3_1 from (mR HO_3 (fun _ hk => trivial))); obtain ⟨ce12, hcl12, hM12, hcc12, hfr12⟩ := Kd.R_elem HX12.out z33 (x4_1 : Int) (zP (by assumption)) (by have h_ : (x4_1 : Int) < ((x3_1.length : Int) : Int) := zP (by assumption); first | exact h_ | (have e_ := (zA HO_3.out).1; omega) | simpa using h_); obtain ⟨ve12_4, ve12_5, ve12_6, ve12_7, rfl, ge12_4, ge12_5, ge12_6, ge12_7⟩ := k33_openM hM12; have HP12 := Kd.R_seg HX12.out (x4_1 : Int) (zP (by assumption)) (by have h_ : (x4_1 : Int) < ((x3_1.length : Int) : Int) := zP (by assumption); first | exact h_ | (have e_ := (zA HO_3.out).1; omega) | simpa using h_) (seg := [.int .i64 t274, .int .i64 t275, .bool t276, .bool t277, .slice Ao14 t278.length co14, .slice Ao15 t281.length co15, .slice Ao16 t284.length co16, .slice Ao17 t287.length co17, .int .i64 t290]) (j := 0) hcl12 hcc12 (show 9 ≤ 9 from by decide) (x' := (⟨t274, t275, t276, t277, t278, t281, t284, t287, t290⟩ : S33)) (k33_mkM _ _ _ (⟨t274, t275, t276, t277, t278, t281, t284, t287, t290⟩ : S33) (zF (Kd.R_apart' (HO280.out) (Kd.R_typed HO_3.out) (by decide)) (fun k_ hk => ⟨trivial, fun e_ => (hk.2) (by rw [e_]; rfl)⟩)) (zF (Kd.R_apart' (HO283.out) (Kd.R_typed HO_3.out) (by decide)) (fun k_ hk => ⟨trivial, fun e_ => (hk.2) (by rw [e_]; rfl)⟩)) (zF (HO286.out) (fun k_ hk => ⟨trivial, fun e_ => (hk.2) (by rw [e_]; rfl)⟩)) (zF (HO289.out) (fun k_ hk => ⟨trivial, fun e_ => (hk.2) (by rw [e_]; rfl)⟩))) (fun _ hk => hk); have hx12_0 := hcc12 0 _ rfl; (try simp only [show (k33).sz = 9 from rfl, Nat.mul_one, Nat.add_zero] at hx12_0); have hf12_0 := hfr12 0; (try simp only [show (k33).sz = 9 from rfl, Nat.mul_one, Nat.add_zero] at hf12_0); have hx12_1 := hcc12 1 _ rfl; (try simp only [show (k33).sz = 9 from rfl, Nat.mul_one, Nat.add_zero] at hx12_1); have hf12_1 := hfr12 1; (try simp only [show (k33).sz = 9 from rfl, Nat.mul_one, Nat.add_zero] at hf12_1); have hx12_2 := hcc12 2 _ rfl; (try simp only [show (k33).sz = 9 from rfl, Nat.mul_one, Nat.add_zero] at hx12_2); have hf12_2 := hfr12 2; (try simp only [show (k33).sz = 9 from rfl, Nat.mul_one, Nat.add_zero] at hf12_2); have hx12_3 := hcc12 3 _ rfl; (try simp only [show (k33).sz = 9 from rfl, Nat.mul_one, Nat.add_zero] at hx12_3); have hf12_3 := hfr12 3; (try simp only [show (k33).sz = 9 from rfl, Nat.mul_one, Nat.add_zero] at hf12_3); have hx12_4 := hcc12 4 _ rfl; (try simp only [show (k33).sz = 9 from rfl, Nat.mul_one, Nat.add_zero] at hx12_4); have hf12_4 := hfr12 4; (try simp only [show (k33).sz = 9 from rfl, Nat.mul_one, Nat.add_zero] at hf12_4); have hx12_5 := hcc12 5 _ rfl; (try simp only [show (k33).sz = 9 from rfl, Nat.mul_one, Nat.add_zero] at hx12_5); have hf12_5 := hfr12 5; (try simp only [show (k33).sz = 9 from rfl, Nat.mul_one, Nat.add_zero] at hf12_5); have hx12_6 := hcc12 6 _ rfl; (try simp only [show (k33).sz = 9 from rfl, Nat.mul_one, Nat.add_zero] at hx12_6); have hf12_6 := hfr12 6; (try simp only [show (k33).sz = 9 from rfl, Nat.mul_one, Nat.add_zero] at hf12_6); have hx12_7 := hcc12 7 _ rfl; (try simp only [show (k33).sz = 9 from rfl, Nat.mul_one, Nat.add_zero] at hx12_7); have hf12_7 := hfr12 7; (try simp only [show (k33).sz = 9 from rfl, Nat.mul_one, Nat.add_zero] at hf12_7); have hx12_8 := hcc12 8 _ rfl; (try simp only [show (k33).sz = 9 from rfl, Nat.mul_one, Nat.add_zero] at hx12_8); have hf12_8 := hfr12 8; (try simp only [show (k33).sz = 9 from rfl, Nat.mul_one, Nat.add_zero] at hf12_8); clear hcl12 hcc12 hfr12 hM12) | ((with_reducible refine gate_store (t := 33) (p := 21) rfl ?_); refine store_event (t := 33) (p := 21) (v := ?vo_w13) (w1 := (((((((((w11.setCell ⟨go10, (x4_1 : Int).toNat * 9, none⟩ (.int .i64 t274)).setCell ⟨go10, (x4_1 : Int).toNat * 9 + 1, none⟩ (.int .i64 t275)).setCell ⟨go10, (x4_1 : Int).toNat * 9 + 2, none⟩ (.bool t276)).setCell ⟨go10, (x4_1 : Int).toNat * 9 + 3, none⟩ (.bool t277)).setCell ⟨go10, (x4_1 : Int).toNat * 9 + 4, none⟩ (.slice Ao14 t278.length co14)).setCell ⟨go10, (x4_1 : Int).toNat * 9 + 5, none⟩ (.slice Ao15 t281.length co15)).setCell ⟨go10, (x4_1 : Int).toNat * 9 + 6, none⟩ (.slice Ao16 t284.length co16)).setCell ⟨go10, (x4_1 : Int).toNat * 9 + 7, none⟩ (.slice Ao17 t287.length co17)).setCell ⟨go10, (x4_1 : Int).toNat * 9 + 8, none⟩ (.int .i64 t290))) ?hg ?ho ?hn ?hr ?_; (case ho => rfl); (case hg => rfl); (case hn => rfl); (case hr => first | (go_simp; done) | (go_simp; rfl)); intro w13 hw; have hg : w11.grownBy w13 (some go10) := (by rw [hw]; exact HP12.2); have hp_ : Kd.R k33 33 w13 w.heap.size (fun _ => True) (.slice (some ⟨go10, 0, none⟩) x3_1.length co10) y291 := (by rw [hw, Ny291.out]; exact HP12.1); clear HP12; replace HO_3 := yD (hp_); replace HB := yD ((by rw [hw]; exact yE (yE (yE (yE (yE (yE (yE (yE (yE (HB.out) GB10.out) GB10.out) GB10.out) GB10.out) GB10.out) GB10.out) GB10.out) GB10.out) GB10.out : Below w.heap.size w w13)); clear HO280 HO283 HO286 HO289; clear hg hw hp_))
        go_roundg k1
        case measure => have := HK1.out; omega
        case rel => exact ⟨(y291), (wrap64 (x4_1 + 1)), (by first | rfl | (simp; done) | (simp [*]; done)), H', ⟨by have := HK1.out; omega⟩, ⟨kA HO_3⟩, ⟨kR1 HB⟩⟩
       · rw [if_neg c9] at H
         exact absurd H (by simp)
      · rw [if_neg c7] at H
        exact absurd H (by simp)
     · rw [if_neg c6] at H
       have c6b0 : decide (x4_1 < (l0.length : Int)) = false := zS c6; clear c6; obtain rfl := Option.some.inj H
       go_wp2
       go_ret
       exact ⟨_, by first | rfl | (simp <;> rfl) | (simp [*] <;> rfl), kA HO_3, kR1 HB⟩
  · rw [if_neg c3] at H
    exact absurd H (by simp)
 · rw [if_neg c2] at H
   exact absurd H (by simp)

end Go.Proofs.Ytfblodggimjoaaa.PFnExactSameType
