/- Each Go function here comes to what the plain function of its name says, where that says something. Made by a program of this session, over the print. -/
import Derived.Test.YtfblodggimjoaaaPFnExactSameArrayx0
namespace Go.Proofs.Ytfblodggimjoaaa.PFnExactSameArray
open Go.RowKit Go.Proofs.YtfblodggimjoaaaW.PrintWords Go.Proofs.YtfblodggimjoaaaW.PrintLast Go.Proofs.YtfblodggimjoaaaW.PrintMore
attribute [local go_sem] max2_int min2_int max_two min_two max_three min_three max_four min_four   -- for this text's walks alone
set_option linter.unusedVariables false
set_option linter.unusedSimpArgs false

theorem kCx1_ {w w1 : World} {q : Addr} {u : Value} (hb : Aside0 (Below w.heap.size w w1)) (h : w.cell? q = some u) : w1.cell? q = some u := (hb.out.cell (World.block_lt_of_cell? w _ h)).trans h

/-! ### laws_szStringS: function 29 -/
def laws_szStringS.l0 : Nat → List ByteArray → Int → Int → Option (Int)
 | 0, _, _, _ => none
 | k + 1, x0, x1, x5 => if x5 < (x0.length : Int) then (if 0 ≤ x5 then (if (wrap64 (x1 - ((rdOf ByteArray.empty x0 x5).size : Int))) < 0 then (some (-1)) else (laws_szStringS.l0 k x0 (wrap64 (x1 - ((rdOf ByteArray.empty x0 x5).size : Int))) (wrap64 (x5 + 1)))) else (none)) else (some x1)
def laws_szStringS.f (k : Nat) (l0 : List ByteArray) (a1 : Int) : Option (Int) := if (wrap64 (a1 - (l0.length : Int))) < 0 then (some (-1)) else (laws_szStringS.l0 k l0 (wrap64 (a1 - (l0.length : Int))) 0)
set_option maxHeartbeats 8000000 in
set_option maxRecDepth 100000 in
theorem laws_szStringS.calls (k : Nat) (A0 : Option Addr) (c0 : Nat) (l0 : List ByteArray) (a1 : Int) (r : Int) (w : World) (hr0 : Kd.C Kd.string w A0 l0.length l0) (hc0 : l0.length ≤ c0) (h : laws_szStringS.f k l0 a1 = some r) :
 Calls Try.prog 29 #[.slice A0 l0.length c0, .int .i64 a1] w fun e w' => e = .returned (.int .i64 r) ∧ Drawn0 w w' := by
 have HR0 := yD hr0
 have HC0 := yD hc0
 clear hr0 hc0
 have H : (if (wrap64 (a1 - (l0.length : Int))) < 0 then (some (-1)) else (laws_szStringS.l0 k l0 (wrap64 (a1 - (l0.length : Int))) 0)) = some r := h
 clear h
 by_cases c3 : (wrap64 (a1 - (l0.length : Int))) < 0
 · rw [if_pos c3] at H
   have c3b0 : decide ((wrap64 (a1 - (l0.length : Int))) < 0) = true := zR c3; clear c3; obtain rfl := Option.some.inj H; go_enter Try.func29, Try.ntmps29
   go_wp2
   go_ret
   exact ⟨by first | rfl | (simp; done) | (simp [*]; done), by repeat (first | exact Drawn0.refl _ | apply Drawn0.step)⟩
 ·
  rw [if_neg c3] at H
  have c3b0 : decide ((wrap64 (a1 - (l0.length : Int))) < 0) = false := zS c3; clear c3
  have H' := yD H
  clear H; go_enter Try.func29, Try.ntmps29
  go_wp2
  go_loopg [1, 5] k (fun kq v1 v5 w' => ∃ (x1_1 : Int) (x5_1 : Int), v1 = .int .i64 x1_1 ∧ v5 = .int .i64 x5_1 ∧ Aside0 (laws_szStringS.l0 kq l0 x1_1 x5_1 = some r) ∧ Aside0 (kq ≤ k) ∧ Drawn0 w w')
  case atStart => exact ⟨(wrap64 (a1 - (l0.length : Int))), (0), (by first | rfl | (simp; done) | (simp [*]; done)), (by first | rfl | (simp; done) | (simp [*]; done)), H', ⟨Nat.le_refl _⟩, by repeat (first | exact Drawn0.refl _ | apply Drawn0.step)⟩
  case round =>
   clear H'
   try clear c2; try clear c3; try clear c3b0
   obtain ⟨x1_1, x5_1, rfl, rfl, HA, HK1, ⟨m1, rfl⟩⟩ := hrel
   cases gk with
   | zero => exact absurd HA.out (by simp [laws_szStringS.l0])
   | succ k1 =>
    have H := HA.out; clear HA
    simp only [laws_szStringS.l0] at H
    by_cases c4 : x5_1 < (l0.length : Int)
    ·
     rw [if_pos c4] at H
     have c4b0 : decide (x5_1 < (l0.length : Int)) = true := zR c4; clear c4
     by_cases c5 : 0 ≤ x5_1
     ·
      rw [if_pos c5] at H
      have c5b0 : decide (0 ≤ x5_1) = true := zR c5; clear c5
      by_cases c6 : (wrap64 (x1_1 - ((rdOf ByteArray.empty l0 x5_1).size : Int))) < 0
      · rw [if_pos c6] at H
        have c6b0 : decide ((wrap64 (x1_1 - ((rdOf ByteArray.empty l0 x5_1).size : Int))) < 0) = true := zR c6; clear c6; obtain rfl := Option.some.inj H
        have p101 : 0 ≤ (x5_1 : Int) := zP (by assumption)
        have q101 : x5_1 < (l0.length : Int) := zP (by assumption)
        obtain ⟨ad101, e101, hx101_0⟩ := Kd.at_string HR0.out x5_1 p101 q101
        cases e101; replace p101 := eq_true p101; replace q101 := eq_true q101
        go_wp2
        go_ret
        exact ⟨by first | rfl | (simp; done) | (simp [*]; done), by repeat (first | exact Drawn0.refl _ | apply Drawn0.step)⟩
      ·
       rw [if_neg c6] at H
       have c6b0 : decide ((wrap64 (x1_1 - ((rdOf ByteArray.empty l0 x5_1).size : Int))) < 0) = false := zS c6; clear c6
       have H' := yD H
       clear H
       have p101 : 0 ≤ (x5_1 : Int) := zP (by assumption)
       have q101 : x5_1 < (l0.length : Int) := zP (by assumption)
       obtain ⟨ad101, e101, hx101_0⟩ := Kd.at_string HR0.out x5_1 p101 q101
       cases e101; replace p101 := eq_true p101; replace q101 := eq_true q101
       go_wp2
       go_roundg k1
       case measure => have := HK1.out; omega
       case rel => exact ⟨(wrap64 (x1_1 - ((rdOf ByteArray.empty l0 x5_1).size : Int))), (wrap64 (x5_1 + 1)), (by first | rfl | (simp; done) | (simp [*]; done)), (by first | rfl | (simp; done) | (simp [*]; done)), H', ⟨by have := HK1.out; omega⟩, by repeat (first | exact Drawn0.refl _ | apply Drawn0.step)⟩
     · rw [if_neg c5] at H
       exact absurd H (by simp)
    · rw [if_neg c4] at H
      have c4b0 : decide (x5_1 < (l0.length : Int)) = false := zS c4; clear c4; obtain rfl := Option.some.inj H
      go_wp2
      go_ret
      exact ⟨by first | rfl | (simp; done) | (simp [*]; done), by repeat (first | exact Drawn0.refl _ | apply Drawn0.step)⟩

/-! ### laws_szInt64S: function 30 -/
def laws_szInt64S.f (l0 : List Int) (a1 : Int) : Option (Int) := if (wrap64 (a1 - (l0.length : Int))) < 0 then (some (-1)) else (some (wrap64 (a1 - (l0.length : Int))))
set_option maxHeartbeats 8000000 in
set_option maxRecDepth 100000 in
theorem laws_szInt64S.calls (A0 : Option Addr) (c0 : Nat) (l0 : List Int) (a1 : Int) (r : Int) (w : World) (hr0 : Kd.C (Kd.int .i64) w A0 l0.length l0) (hc0 : l0.length ≤ c0) (h : laws_szInt64S.f l0 a1 = some r) :
 Calls Try.prog 30 #[.slice A0 l0.length c0, .int .i64 a1] w fun e w' => e = .returned (.int .i64 r) ∧ Drawn0 w w' := by
 have HR0 := yD hr0
 have HC0 := yD hc0
 clear hr0 hc0
 have H : (if (wrap64 (a1 - (l0.length : Int))) < 0 then (some (-1)) else (some (wrap64 (a1 - (l0.length : Int))))) = some r := h
 clear h
 by_cases c3 : (wrap64 (a1 - (l0.length : Int))) < 0
 · rw [if_pos c3] at H
   have c3b0 : decide ((wrap64 (a1 - (l0.length : Int))) < 0) = true := zR c3; clear c3; obtain rfl := Option.some.inj H; go_enter Try.func30, Try.ntmps30
   go_wp2
   go_ret
   exact ⟨by first | rfl | (simp; done) | (simp [*]; done), by repeat (first | exact Drawn0.refl _ | apply Drawn0.step)⟩
 ·
  rw [if_neg c3] at H
  have c3b0 : decide ((wrap64 (a1 - (l0.length : Int))) < 0) = false := zS c3; clear c3; obtain rfl := Option.some.inj H; go_enter Try.func30, Try.ntmps30
  go_wp2
  go_ret
  exact ⟨by first | rfl | (simp; done) | (simp [*]; done), by repeat (first | exact Drawn0.refl _ | apply Drawn0.step)⟩

/-! ### laws_szMember: function 62 -/
def laws_szMember.f (Y_ : Int → Int → Bool → Bool → List ByteArray → List Int → List (S91) → List (S27) → Int → Int → Option (Int)) (k : Nat) (a0_0 : ByteArray) (a0_1 : Int) (a0_2 : Int) (a0_3 : Int) (a0_4 : Bool) (a0_5 : Bool) (l0_6 : List ByteArray) (l0_7 : List Int) (l0_8 : List (S91)) (l0_9 : List (S27)) (a0_10 : Int) (a1 : Int) : Option (Int) := if (wrap64 (a1 - (a0_0.size : Int))) < 0 then (some (-1)) else ((Y_ a0_2 a0_3 a0_4 a0_5 l0_6 l0_7 l0_8 l0_9 a0_10 (wrap64 (a1 - (a0_0.size : Int)))).bind fun t125 => (if t125 < 0 then (some (-1)) else (some t125)))
set_option maxHeartbeats 8000000 in
set_option maxRecDepth 100000 in
theorem laws_szMember.calls (Y_ : Int → Int → Bool → Bool → List ByteArray → List Int → List (S91) → List (S27) → Int → Int → Option (Int)) (HY_ : ∀ (a0_0 : Int) (a0_1 : Int) (a0_2 : Bool) (a0_3 : Bool) (A0_4 : Option Addr) (c0_4 : Nat) (l0_4 : List ByteArray) (A0_5 : Option Addr) (c0_5 : Nat) (l0_5 : List Int) (A0_6 : Option Addr) (c0_6 : Nat) (l0_6 : List (S91)) (A0_7 : Option Addr) (c0_7 : Nat) (l0_7 : List (S27)) (a0_8 : Int) (a1 : Int) (r : Int) (w : World) (hr0_4 : Kd.C Kd.string w A0_4 l0_4.length l0_4) (hc0_4 : l0_4.length ≤ c0_4) (hr0_5 : Kd.C (Kd.int .i64) w A0_5 l0_5.length l0_5) (hc0_5 : l0_5.length ≤ c0_5) (hr0_6 : Kd.C k91 w A0_6 l0_6.length l0_6) (hc0_6 : l0_6.length ≤ c0_6) (hr0_7 : Kd.C k27 w A0_7 l0_7.length l0_7) (hc0_7 : l0_7.length ≤ c0_7) (h : Y_ a0_0 a0_1 a0_2 a0_3 l0_4 l0_5 l0_6 l0_7 a0_8 a1 = some r), Calls Try.prog 7 #[.agg #[.int .i64 a0_0, .int .i64 a0_1, .bool a0_2, .bool a0_3, .slice A0_4 l0_4.length c0_4, .slice A0_5 l0_5.length c0_5, .slice A0_6 l0_6.length c0_6, .slice A0_7 l0_7.length c0_7, .int .i64 a0_8], .int .i64 a1] w fun e w' => e = .returned (.int .i64 r) ∧ Below w.heap.size w w') (k : Nat) (a0_0 : ByteArray) (a0_1 : Int) (a0_2 : Int) (a0_3 : Int) (a0_4 : Bool) (a0_5 : Bool) (A0_6 : Option Addr) (c0_6 : Nat) (l0_6 : List ByteArray) (A0_7 : Option Addr) (c0_7 : Nat) (l0_7 : List Int) (A0_8 : Option Addr) (c0_8 : Nat) (l0_8 : List (S91)) (A0_9 : Option Addr) (c0_9 : Nat) (l0_9 : List (S27)) (a0_10 : Int) (a1 : Int) (r : Int) (w : World) (hr0_6 : Kd.C Kd.string w A0_6 l0_6.length l0_6) (hc0_6 : l0_6.length ≤ c0_6) (hr0_7 : Kd.C (Kd.int .i64) w A0_7 l0_7.length l0_7) (hc0_7 : l0_7.length ≤ c0_7) (hr0_8 : Kd.C k91 w A0_8 l0_8.length l0_8) (hc0_8 : l0_8.length ≤ c0_8) (hr0_9 : Kd.C k27 w A0_9 l0_9.length l0_9) (hc0_9 : l0_9.length ≤ c0_9) (h : laws_szMember.f Y_ k a0_0 a0_1 a0_2 a0_3 a0_4 a0_5 l0_6 l0_7 l0_8 l0_9 a0_10 a1 = some r) :
 Calls Try.prog 62 #[.agg #[.string a0_0, .int .i64 a0_1, .int .i64 a0_2, .int .i64 a0_3, .bool a0_4, .bool a0_5, .slice A0_6 l0_6.length c0_6, .slice A0_7 l0_7.length c0_7, .slice A0_8 l0_8.length c0_8, .slice A0_9 l0_9.length c0_9, .int .i64 a0_10], .int .i64 a1] w fun e w' => e = .returned (.int .i64 r) ∧ Below w.heap.size w w' := by
 have hu91 := Try.underlying91; have hu27 := Try.underlying27
 have HR0_6 := yD hr0_6
 have HC0_6 := yD hc0_6
 clear hr0_6 hc0_6
 have HR0_7 := yD hr0_7
 have HC0_7 := yD hc0_7
 clear hr0_7 hc0_7
 have HR0_8 := yD hr0_8
 have HC0_8 := yD hc0_8
 clear hr0_8 hc0_8
 have HR0_9 := yD hr0_9
 have HC0_9 := yD hc0_9
 clear hr0_9 hc0_9
 have HB := yD (Below.refl w.heap.size w)
 have H : (if (wrap64 (a1 - (a0_0.size : Int))) < 0 then (some (-1)) else ((Y_ a0_2 a0_3 a0_4 a0_5 l0_6 l0_7 l0_8 l0_9 a0_10 (wrap64 (a1 - (a0_0.size : Int)))).bind fun t125 => (if t125 < 0 then (some (-1)) else (some t125)))) = some r := h
 clear h
 by_cases c3 : (wrap64 (a1 - (a0_0.size : Int))) < 0
 · rw [if_pos c3] at H
   have c3b0 : decide ((wrap64 (a1 - (a0_0.size : Int))) < 0) = true := zR c3; clear c3; obtain rfl := Option.some.inj H; go_enter Try.func62, Try.ntmps62
   go_wp2_with (first | ((with_reducible refine gate_dst (N := 2) rfl ?_); refine box_event ?hg (N := 2) ?hd (cs := #[.string a0_0, .int .i64 a0_1, .int .i64 a0_2, .int .i64 a0_3, .bool a0_4, .bool a0_5, .slice A0_6 l0_6.length c0_6, .slice A0_7 l0_7.length c0_7, .slice A0_8 l0_8.length c0_8, .slice A0_9 l0_9.length c0_9, .int .i64 a0_10]) (t := 91) ?hr ?_; (case hd => rfl); (case hg => rfl); (case hr => first | (go_simp; done) | (go_simp; rfl)); intro gb124 hg w4 hbox hb; have BK124 := yD (hbox); have GW124 := yD ((by rw [hg]; exact (below_size (kB HB)) : w.heap.size ≤ gb124)); have GE124 := yD ((by rw [hg]; exact (below_size (kB HB)) : w.heap.size ≤ gb124)); replace HB := yD (zC (kB HB) hb); clear hb hbox hg; obtain ⟨hcz5_0, hcz5_1, hcz5_2, hcz5_3, hcz5_4, hcz5_5, hcz5_6, hcz5_7, hcz5_8, hcz5_9, hcz5_10⟩ := cz11 BK124.out; obtain ⟨hfz5_0, hfz5_1, hfz5_2, hfz5_3, hfz5_4, hfz5_5, hfz5_6, hfz5_7, hfz5_8, hfz5_9, hfz5_10⟩ := fz11 BK124.out))
   go_ret
   exact ⟨by first | rfl | (simp <;> rfl) | (simp [*] <;> rfl), kR0 HB⟩
 ·
  rw [if_neg c3] at H
  have c3b0 : decide ((wrap64 (a1 - (a0_0.size : Int))) < 0) = false := zS c3; clear c3
  obtain ⟨t125, A60, H⟩ := zW_ H
  replace H : (if t125 < 0 then (some (-1)) else (some t125)) = some r := H
  have A6 := yD A60
  clear A60
  by_cases c7 : t125 < 0
  · rw [if_pos c7] at H
    have c7b0 : decide (t125 < 0) = true := zR c7; clear c7; obtain rfl := Option.some.inj H; go_enter Try.func62, Try.ntmps62
    go_wp2_with (first | ((with_reducible refine gate_dst (N := 2) rfl ?_); refine box_event ?hg (N := 2) ?hd (cs := #[.string a0_0, .int .i64 a0_1, .int .i64 a0_2, .int .i64 a0_3, .bool a0_4, .bool a0_5, .slice A0_6 l0_6.length c0_6, .slice A0_7 l0_7.length c0_7, .slice A0_8 l0_8.length c0_8, .slice A0_9 l0_9.length c0_9, .int .i64 a0_10]) (t := 91) ?hr ?_; (case hd => rfl); (case hg => rfl); (case hr => first | (go_simp; done) | (go_simp; rfl)); intro gb124 hg w8 hbox hb; have BK124 := yD (hbox); have GW124 := yD ((by rw [hg]; exact (below_size (kB HB)) : w.heap.size ≤ gb124)); have GE124 := yD ((by rw [hg]; exact (below_size (kB HB)) : w.heap.size ≤ gb124)); replace HB := yD (zC (kB HB) hb); clear hb hbox hg; obtain ⟨hcz9_0, hcz9_1, hcz9_2, hcz9_3, hcz9_4, hcz9_5, hcz9_6, hcz9_7, hcz9_8, hcz9_9, hcz9_10⟩ := cz11 BK124.out; obtain ⟨hfz9_0, hfz9_1, hfz9_2, hfz9_3, hfz9_4, hfz9_5, hfz9_6, hfz9_7, hfz9_8, hfz9_9, hfz9_10⟩ := fz11 BK124.out) | ((with_reducible refine gate_callee (f := 7) rfl ?_); refine gL 15 Try.func7 #[.agg #[.int .i64 a0_2, .int .i64 a0_3, .bool a0_4, .bool a0_5, .slice A0_6 l0_6.length c0_6, .slice A0_7 l0_7.length c0_7, .slice A0_8 l0_8.length c0_8, .slice A0_9 l0_9.length c0_9, .int .i64 a0_10], .int .i64 (wrap64 (a1 - (a0_0.size : Int)))] ?_; (with_reducible refine (HY_ a0_2 a0_3 a0_4 a0_5 _ _ l0_6 _ _ l0_7 _ _ l0_8 _ _ l0_9 a0_10 (wrap64 (a1 - (a0_0.size : Int))) t125 _ ?side1 ?side2 ?side3 ?side4 ?side5 ?side6 ?side7 ?side8 A6.out).mono ?_); (case side1 => exact kV (yY HR0_6.out HB.out)); (case side2 => exact HC0_6.out); (case side3 => exact kV (yY HR0_7.out HB.out)); (case side4 => exact HC0_7.out); (case side5 => exact kV (yY HR0_8.out HB.out)); (case side6 => exact HC0_8.out); (case side7 => exact kV (yY HR0_9.out HB.out)); (case side8 => exact HC0_9.out); rintro e w10 ⟨rfl, hb⟩; refine ⟨_, rfl, ?_⟩; replace BK124 := yD (zB (kN BK124) hb); replace HB := yD (zC (kB HB) hb); clear hb))
    go_ret
    exact ⟨by first | rfl | (simp <;> rfl) | (simp [*] <;> rfl), kR0 HB⟩
  · rw [if_neg c7] at H
    have c7b0 : decide (t125 < 0) = false := zS c7; clear c7; obtain rfl := Option.some.inj H; go_enter Try.func62, Try.ntmps62
    go_wp2_with (first | ((with_reducible refine gate_dst (N := 2) rfl ?_); refine box_event ?hg (N := 2) ?hd (cs := #[.string a0_0, .int .i64 a0_1, .int .i64 a0_2, .int .i64 a0_3, .bool a0_4, .bool a0_5, .slice A0_6 l0_6.length c0_6, .slice A0_7 l0_7.length c0_7, .slice A0_8 l0_8.length c0_8, .slice A0_9 l0_9.length c0_9, .int .i64 a0_10]) (t := 91) ?hr ?_; (case hd => rfl); (case hg => rfl); (case hr => first | (go_simp; done) | (go_simp; rfl)); intro gb124 hg w11 hbox hb; have BK124 := yD (hbox); have GW124 := yD ((by rw [hg]; exact (below_size (kB HB)) : w.heap.size ≤ gb124)); have GE124 := yD ((by rw [hg]; exact (below_size (kB HB)) : w.heap.size ≤ gb124)); replace HB := yD (zC (kB HB) hb); clear hb hbox hg; obtain ⟨hcz12_0, hcz12_1, hcz12_2, hcz12_3, hcz12_4, hcz12_5, hcz12_6, hcz12_7, hcz12_8, hcz12_9, hcz12_10⟩ := cz11 BK124.out; obtain ⟨hfz12_0, hfz12_1, hfz12_2, hfz12_3, hfz12_4, hfz12_5, hfz12_6, hfz12_7, hfz12_8, hfz12_9, hfz12_10⟩ := fz11 BK124.out) | ((with_reducible refine gate_callee (f := 7) rfl ?_); refine gL 15 Try.func7 #[.agg #[.int .i64 a0_2, .int .i64 a0_3, .bool a0_4, .bool a0_5, .slice A0_6 l0_6.length c0_6, .slice A0_7 l0_7.length c0_7, .slice A0_8 l0_8.length c0_8, .slice A0_9 l0_9.length c0_9, .int .i64 a0_10], .int .i64 (wrap64 (a1 - (a0_0.size : Int)))] ?_; (with_reducible refine (HY_ a0_2 a0_3 a0_4 a0_5 _ _ l0_6 _ _ l0_7 _ _ l0_8 _ _ l0_9 a0_10 (wrap64 (a1 - (a0_0.size : Int))) t125 _ ?side1 ?side2 ?side3 ?side4 ?side5 ?side6 ?side7 ?side8 A6.out).mono ?_); (case side1 => exact kV (yY HR0_6.out HB.out)); (case side2 => exact HC0_6.out); (case side3 => exact kV (yY HR0_7.out HB.out)); (case side4 => exact HC0_7.out); (case side5 => exact kV (yY HR0_8.out HB.out)); (case side6 => exact HC0_8.out); (case side7 => exact kV (yY HR0_9.out HB.out)); (case side8 => exact HC0_9.out); rintro e w13 ⟨rfl, hb⟩; refine ⟨_, rfl, ?_⟩; replace BK124 := yD (zB (kN BK124) hb); replace HB := yD (zC (kB HB) hb); clear hb))
    go_ret
    exact ⟨by first | rfl | (simp <;> rfl) | (simp [*] <;> rfl), kR0 HB⟩

/-! ### laws_szMemberS: function 31 -/
def laws_szMemberS.l0 (Y_ : Int → Int → Bool → Bool → List ByteArray → List Int → List (S91) → List (S27) → Int → Int → Option (Int)) : Nat → List (S91) → Int → Int → Option (Int)
 | 0, _, _, _ => none
 | k + 1, x0, x1, x5 => if x5 < (x0.length : Int) then (if 0 ≤ x5 then ((laws_szMember.f Y_ k ((rd_T91 x0 x5).f0) ((rd_T91 x0 x5).f1) ((rd_T91 x0 x5).f2.f0) ((rd_T91 x0 x5).f2.f1) ((rd_T91 x0 x5).f2.f2) ((rd_T91 x0 x5).f2.f3) ((rd_T91 x0 x5).f2.f4) ((rd_T91 x0 x5).f2.f5) ((rd_T91 x0 x5).f2.f6) ((rd_T91 x0 x5).f2.f7) ((rd_T91 x0 x5).f2.f8) x1).bind fun t127 => (if t127 < 0 then (some (-1)) else (laws_szMemberS.l0 Y_ k x0 t127 (wrap64 (x5 + 1))))) else (none)) else (some x1)
def laws_szMemberS.f (Y_ : Int → Int → Bool → Bool → List ByteArray → List Int → List (S91) → List (S27) → Int → Int → Option (Int)) (k : Nat) (l0 : List (S91)) (a1 : Int) : Option (Int) := if (wrap64 (a1 - (l0.length : Int))) < 0 then (some (-1)) else (laws_szMemberS.l0 Y_ k l0 (wrap64 (a1 - (l0.length : Int))) 0)
set_option maxHeartbeats 8000000 in
set_option maxRecDepth 100000 in
theorem laws_szMemberS.calls (Y_ : Int → Int → Bool → Bool → List ByteArray → List Int → List (S91) → List (S27) → Int → Int → Option (Int)) (HY_ : ∀ (a0_0 : Int) (a0_1 : Int) (a0_2 : Bool) (a0_3 : Bool) (A0_4 : Option Addr) (c0_4 : Nat) (l0_4 : List ByteArray) (A0_5 : Option Addr) (c0_5 : Nat) (l0_5 : List Int) (A0_6 : Option Addr) (c0_6 : Nat) (l0_6 : List (S91)) (A0_7 : Option Addr) (c0_7 : Nat) (l0_7 : List (S27)) (a0_8 : Int) (a1 : Int) (r : Int) (w : World) (hr0_4 : Kd.C Kd.string w A0_4 l0_4.length l0_4) (hc0_4 : l0_4.length ≤ c0_4) (hr0_5 : Kd.C (Kd.int .i64) w A0_5 l0_5.length l0_5) (hc0_5 : l0_5.length ≤ c0_5) (hr0_6 : Kd.C k91 w A0_6 l0_6.length l0_6) (hc0_6 : l0_6.length ≤ c0_6) (hr0_7 : Kd.C k27 w A0_7 l0_7.length l0_7) (hc0_7 : l0_7.length ≤ c0_7) (h : Y_ a0_0 a0_1 a0_2 a0_3 l0_4 l0_5 l0_6 l0_7 a0_8 a1 = some r), Calls Try.prog 7 #[.agg #[.int .i64 a0_0, .int .i64 a0_1, .bool a0_2, .bool a0_3, .slice A0_4 l0_4.length c0_4, .slice A0_5 l0_5.length c0_5, .slice A0_6 l0_6.length c0_6, .slice A0_7 l0_7.length c0_7, .int .i64 a0_8], .int .i64 a1] w fun e w' => e = .returned (.int .i64 r) ∧ Below w.heap.size w w') (k : Nat) (A0 : Option Addr) (c0 : Nat) (l0 : List (S91)) (a1 : Int) (r : Int) (w : World) (hr0 : Kd.C k91 w A0 l0.length l0) (hc0 : l0.length ≤ c0) (h : laws_szMemberS.f Y_ k l0 a1 = some r) :
 Calls Try.prog 31 #[.slice A0 l0.length c0, .int .i64 a1] w fun e w' => e = .returned (.int .i64 r) ∧ Below w.heap.size w w' := by
 have hu91 := Try.underlying91
 have HR0 := yD hr0
 have HC0 := yD hc0
 clear hr0 hc0
 have HB := yD (Below.refl w.heap.size w)
 have H : (if (wrap64 (a1 - (l0.length : Int))) < 0 then (some (-1)) else (laws_szMemberS.l0 Y_ k l0 (wrap64 (a1 - (l0.length : Int))) 0)) = some r := h
 clear h
 by_cases c3 : (wrap64 (a1 - (l0.length : Int))) < 0
 · rw [if_pos c3] at H
   have c3b0 : decide ((wrap64 (a1 - (l0.length : Int))) < 0) = true := zR c3; clear c3; obtain rfl := Option.some.inj H; go_enter Try.func31, Try.ntmps31
   go_wp2
   go_ret
   exact ⟨by first | rfl | (simp <;> rfl) | (simp [*] <;> rfl), kR1 HB⟩
 ·
  rw [if_neg c3] at H
  have c3b0 : decide ((wrap64 (a1 - (l0.length : Int))) < 0) = false := zS c3; clear c3
  have H' := yD H
  clear H; go_enter Try.func31, Try.ntmps31
  go_wp2
  go_loopg [1, 5] k (fun kq v1 v5 w' => ∃ (x1_1 : Int) (x5_1 : Int), v1 = .int .i64 x1_1 ∧ v5 = .int .i64 x5_1 ∧ Aside0 (laws_szMemberS.l0 Y_ kq l0 x1_1 x5_1 = some r) ∧ Aside0 (kq ≤ k) ∧ Aside0 (Below w.heap.size w w'))
  case atStart => exact ⟨(wrap64 (a1 - (l0.length : Int))), (0), (by first | rfl | (simp; done) | (simp [*]; done)), (by first | rfl | (simp; done) | (simp [*]; done)), H', ⟨Nat.le_refl _⟩, ⟨kR1 HB⟩⟩
  case round =>
   clear H'
   try clear p2; try clear c3; try clear c3b0
   obtain ⟨x1_1, x5_1, rfl, rfl, HA, HK1, HB⟩ := hrel
   cases gk with
   | zero => exact absurd HA.out (by simp [laws_szMemberS.l0])
   | succ k1 =>
    have H := HA.out; clear HA
    simp only [laws_szMemberS.l0] at H
    by_cases c4 : x5_1 < (l0.length : Int)
    ·
     rw [if_pos c4] at H
     have c4b0 : decide (x5_1 < (l0.length : Int)) = true := zR c4; clear c4
     by_cases c5 : 0 ≤ x5_1
     ·
      rw [if_pos c5] at H
      have c5b0 : decide (0 ≤ x5_1) = true := zR c5; clear c5
      obtain ⟨t127, A60, H⟩ := zW_ H
      replace H : (if t127 < 0 then (some (-1)) else (laws_szMemberS.l0 Y_ k1 l0 t127 (wrap64 (x5_1 + 1)))) = some r := H
      have A6 := yD A60
      clear A60
      by_cases c7 : t127 < 0
      ·
       rw [if_pos c7] at H
       have c7b0 : decide (t127 < 0) = true := zR c7; clear c7; obtain rfl := Option.some.inj H
       have p126 : 0 ≤ (x5_1 : Int) := zP (by assumption)
       have q126 : x5_1 < (l0.length : Int) := zP (by assumption)
       obtain ⟨ad126, A126_6, c126_6, A126_7, c126_7, A126_8, c126_8, A126_9, c126_9, e126, hx126_0, hx126_1, hx126_2, hx126_3, hx126_4, hx126_5, hx126_6, hx126_7, hx126_8, hx126_9, hx126_10, hl126_6, hi126_6, hl126_7, hi126_7, hl126_8, hi126_8, hl126_9, hi126_9⟩ := at_T91 HR0.out x5_1 p126 q126
       cases e126
       replace hx126_0 := kCx1_ HB hx126_0
       replace hx126_1 := kCx1_ HB hx126_1
       replace hx126_2 := kCx1_ HB hx126_2
       replace hx126_3 := kCx1_ HB hx126_3
       replace hx126_4 := kCx1_ HB hx126_4
       replace hx126_5 := kCx1_ HB hx126_5
       replace hx126_6 := kCx1_ HB hx126_6
       replace hx126_7 := kCx1_ HB hx126_7
       replace hx126_8 := kCx1_ HB hx126_8
       replace hx126_9 := kCx1_ HB hx126_9
       replace hx126_10 := kCx1_ HB hx126_10
       have HR126_6 := yD hi126_6
       have HC126_6 := yD hl126_6
       clear hi126_6 hl126_6
       have HR126_7 := yD hi126_7
       have HC126_7 := yD hl126_7
       clear hi126_7 hl126_7
       have HR126_8 := yD hi126_8
       have HC126_8 := yD hl126_8
       clear hi126_8 hl126_8
       have HR126_9 := yD hi126_9
       have HC126_9 := yD hl126_9
       clear hi126_9 hl126_9; replace p126 := eq_true p126; replace q126 := eq_true q126
       go_wp2_with (first | ((with_reducible refine gate_callee (f := 62) rfl ?_); refine gL 23 Try.func62 #[.agg #[.string ((rd_T91 l0 x5_1).f0), .int .i64 ((rd_T91 l0 x5_1).f1), .int .i64 ((rd_T91 l0 x5_1).f2.f0), .int .i64 ((rd_T91 l0 x5_1).f2.f1), .bool ((rd_T91 l0 x5_1).f2.f2), .bool ((rd_T91 l0 x5_1).f2.f3), .slice A126_6 ((rd_T91 l0 x5_1).f2.f4).length c126_6, .slice A126_7 ((rd_T91 l0 x5_1).f2.f5).length c126_7, .slice A126_8 ((rd_T91 l0 x5_1).f2.f6).length c126_8, .slice A126_9 ((rd_T91 l0 x5_1).f2.f7).length c126_9, .int .i64 ((rd_T91 l0 x5_1).f2.f8)], .int .i64 x1_1] ?_; (with_reducible refine (laws_szMember.calls Y_ HY_ k1 ((rd_T91 l0 x5_1).f0) ((rd_T91 l0 x5_1).f1) ((rd_T91 l0 x5_1).f2.f0) ((rd_T91 l0 x5_1).f2.f1) ((rd_T91 l0 x5_1).f2.f2) ((rd_T91 l0 x5_1).f2.f3) _ _ ((rd_T91 l0 x5_1).f2.f4) _ _ ((rd_T91 l0 x5_1).f2.f5) _ _ ((rd_T91 l0 x5_1).f2.f6) _ _ ((rd_T91 l0 x5_1).f2.f7) ((rd_T91 l0 x5_1).f2.f8) x1_1 t127 _ ?side1 ?side2 ?side3 ?side4 ?side5 ?side6 ?side7 ?side8 A6.out).mono ?_); (case side1 => exact kV (yY HR126_6.out HB.out)); (case side2 => exact HC126_6.out); (case side3 => exact kV (yY HR126_7.out HB.out)); (case side4 => exact HC126_7.out); (case side5 => exact kV (yY HR126_8.out HB.out)); (case side6 => exact HC126_8.out); (case side7 => exact kV (yY HR126_9.out HB.out)); (case side8 => exact HC126_9.out); rintro e w8 ⟨rfl, hb⟩; refine ⟨_, rfl, ?_⟩; replace HB := yD (zC (kB HB) hb); clear hb))
       go_ret
       exact ⟨by first | rfl | (simp <;> rfl) | (simp [*] <;> rfl), kR1 HB⟩
      ·
       rw [if_neg c7] at H
       have c7b0 : decide (t127 < 0) = false := zS c7; clear c7
       have H' := yD H
       clear H
       have p126 : 0 ≤ (x5_1 : Int) := zP (by assumption)
       have q126 : x5_1 < (l0.length : Int) := zP (by assumption)
       obtain ⟨ad126, A126_6, c126_6, A126_7, c126_7, A126_8, c126_8, A126_9, c126_9, e126, hx126_0, hx126_1, hx126_2, hx126_3, hx126_4, hx126_5, hx126_6, hx126_7, hx126_8, hx126_9, hx126_10, hl126_6, hi126_6, hl126_7, hi126_7, hl126_8, hi126_8, hl126_9, hi126_9⟩ := at_T91 HR0.out x5_1 p126 q126
       cases e126
       replace hx126_0 := kCx1_ HB hx126_0
       replace hx126_1 := kCx1_ HB hx126_1
       replace hx126_2 := kCx1_ HB hx126_2
       replace hx126_3 := kCx1_ HB hx126_3
       replace hx126_4 := kCx1_ HB hx126_4
       replace hx126_5 := kCx1_ HB hx126_5
       replace hx126_6 := kCx1_ HB hx126_6
       replace hx126_7 := kCx1_ HB hx126_7
       replace hx126_8 := kCx1_ HB hx126_8
       replace hx126_9 := kCx1_ HB hx126_9
       replace hx126_10 := kCx1_ HB hx126_10
       have HR126_6 := yD hi126_6
       have HC126_6 := yD hl126_6
       clear hi126_6 hl126_6
       have HR126_7 := yD hi126_7
       have HC126_7 := yD hl126_7
       clear hi126_7 hl126_7
       have HR126_8 := yD hi126_8
       have HC126_8 := yD hl126_8
       clear hi126_8 hl126_8
       have HR126_9 := yD hi126_9
       have HC126_9 := yD hl126_9
       clear hi126_9 hl126_9; replace p126 := eq_true p126; replace q126 := eq_true q126
       go_wp2_with (first | ((with_reducible refine gate_callee (f := 62) rfl ?_); refine gL 23 Try.func62 #[.agg #[.string ((rd_T91 l0 x5_1).f0), .int .i64 ((rd_T91 l0 x5_1).f1), .int .i64 ((rd_T91 l0 x5_1).f2.f0), .int .i64 ((rd_T91 l0 x5_1).f2.f1), .bool ((rd_T91 l0 x5_1).f2.f2), .bool ((rd_T91 l0 x5_1).f2.f3), .slice A126_6 ((rd_T91 l0 x5_1).f2.f4).length c126_6, .slice A126_7 ((rd_T91 l0 x5_1).f2.f5).length c126_7, .slice A126_8 ((rd_T91 l0 x5_1).f2.f6).length c126_8, .slice A126_9 ((rd_T91 l0 x5_1).f2.f7).length c126_9, .int .i64 ((rd_T91 l0 x5_1).f2.f8)], .int .i64 x1_1] ?_; (with_reducible refine (laws_szMember.calls Y_ HY_ k1 ((rd_T91 l0 x5_1).f0) ((rd_T91 l0 x5_1).f1) ((rd_T91 l0 x5_1).f2.f0) ((rd_T91 l0 x5_1).f2.f1) ((rd_T91 l0 x5_1).f2.f2) ((rd_T91 l0 x5_1).f2.f3) _ _ ((rd_T91 l0 x5_1).f2.f4) _ _ ((rd_T91 l0 x5_1).f2.f5) _ _ ((rd_T91 l0 x5_1).f2.f6) _ _ ((rd_T91 l0 x5_1).f2.f7) ((rd_T91 l0 x5_1).f2.f8) x1_1 t127 _ ?side1 ?side2 ?side3 ?side4 ?side5 ?side6 ?side7 ?side8 A6.out).mono ?_); (case side1 => exact kV (yY HR126_6.out HB.out)); (case side2 => exact HC126_6.out); (case side3 => exact kV (yY HR126_7.out HB.out)); (case side4 => exact HC126_7.out); (case side5 => exact kV (yY HR126_8.out HB.out)); (case side6 => exact HC126_8.out); (case side7 => exact kV (yY HR126_9.out HB.out)); (case side8 => exact HC126_9.out); rintro e w9 ⟨rfl, hb⟩; refine ⟨_, rfl, ?_⟩; replace HB := yD (zC (kB HB) hb); clear hb))
       go_roundg k1
       case measure => have := HK1.out; omega
       case rel => exact ⟨(t127), (wrap64 (x5_1 + 1)), (by first | rfl | (simp; done) | (simp [*]; done)), (by first | rfl | (simp; done) | (simp [*]; done)), H', ⟨by have := HK1.out; omega⟩, ⟨kR1 HB⟩⟩
     · rw [if_neg c5] at H
       exact absurd H (by simp)
    · rw [if_neg c4] at H
      have c4b0 : decide (x5_1 < (l0.length : Int)) = false := zS c4; clear c4; obtain rfl := Option.some.inj H
      go_wp2
      go_ret
      exact ⟨by first | rfl | (simp <;> rfl) | (simp [*] <;> rfl), kR1 HB⟩

/-! ### laws_szTypeS: function 32 -/
def laws_szTypeS.l0 (Y_ : Int → Int → Bool → Bool → List ByteArray → List Int → List (S91) → List (S27) → Int → Int → Option (Int)) : Nat → List (S27) → Int → Int → Option (Int)
 | 0, _, _, _ => none
 | k + 1, x0, x1, x5 => if x5 < (x0.length : Int) then (if 0 ≤ x5 then ((Y_ ((rd_T27 x0 x5).f0) ((rd_T27 x0 x5).f1) ((rd_T27 x0 x5).f2) ((rd_T27 x0 x5).f3) ((rd_T27 x0 x5).f4) ((rd_T27 x0 x5).f5) ((rd_T27 x0 x5).f6) ((rd_T27 x0 x5).f7) ((rd_T27 x0 x5).f8) x1).bind fun t129 => (if t129 < 0 then (some (-1)) else (laws_szTypeS.l0 Y_ k x0 t129 (wrap64 (x5 + 1))))) else (none)) else (some x1)
def laws_szTypeS.f (Y_ : Int → Int → Bool → Bool → List ByteArray → List Int → List (S91) → List (S27) → Int → Int → Option (Int)) (k : Nat) (l0 : List (S27)) (a1 : Int) : Option (Int) := if (wrap64 (a1 - (l0.length : Int))) < 0 then (some (-1)) else (laws_szTypeS.l0 Y_ k l0 (wrap64 (a1 - (l0.length : Int))) 0)
set_option maxHeartbeats 8000000 in
set_option maxRecDepth 100000 in
theorem laws_szTypeS.calls (Y_ : Int → Int → Bool → Bool → List ByteArray → List Int → List (S91) → List (S27) → Int → Int → Option (Int)) (HY_ : ∀ (a0_0 : Int) (a0_1 : Int) (a0_2 : Bool) (a0_3 : Bool) (A0_4 : Option Addr) (c0_4 : Nat) (l0_4 : List ByteArray) (A0_5 : Option Addr) (c0_5 : Nat) (l0_5 : List Int) (A0_6 : Option Addr) (c0_6 : Nat) (l0_6 : List (S91)) (A0_7 : Option Addr) (c0_7 : Nat) (l0_7 : List (S27)) (a0_8 : Int) (a1 : Int) (r : Int) (w : World) (hr0_4 : Kd.C Kd.string w A0_4 l0_4.length l0_4) (hc0_4 : l0_4.length ≤ c0_4) (hr0_5 : Kd.C (Kd.int .i64) w A0_5 l0_5.length l0_5) (hc0_5 : l0_5.length ≤ c0_5) (hr0_6 : Kd.C k91 w A0_6 l0_6.length l0_6) (hc0_6 : l0_6.length ≤ c0_6) (hr0_7 : Kd.C k27 w A0_7 l0_7.length l0_7) (hc0_7 : l0_7.length ≤ c0_7) (h : Y_ a0_0 a0_1 a0_2 a0_3 l0_4 l0_5 l0_6 l0_7 a0_8 a1 = some r), Calls Try.prog 7 #[.agg #[.int .i64 a0_0, .int .i64 a0_1, .bool a0_2, .bool a0_3, .slice A0_4 l0_4.length c0_4, .slice A0_5 l0_5.length c0_5, .slice A0_6 l0_6.length c0_6, .slice A0_7 l0_7.length c0_7, .int .i64 a0_8], .int .i64 a1] w fun e w' => e = .returned (.int .i64 r) ∧ Below w.heap.size w w') (k : Nat) (A0 : Option Addr) (c0 : Nat) (l0 : List (S27)) (a1 : Int) (r : Int) (w : World) (hr0 : Kd.C k27 w A0 l0.length l0) (hc0 : l0.length ≤ c0) (h : laws_szTypeS.f Y_ k l0 a1 = some r) :
 Calls Try.prog 32 #[.slice A0 l0.length c0, .int .i64 a1] w fun e w' => e = .returned (.int .i64 r) ∧ Below w.heap.size w w' := by
 have hu27 := Try.underlying27
 have HR0 := yD hr0
 have HC0 := yD hc0
 clear hr0 hc0
 have HB := yD (Below.refl w.heap.size w)
 have H : (if (wrap64 (a1 - (l0.length : Int))) < 0 then (some (-1)) else (laws_szTypeS.l0 Y_ k l0 (wrap64 (a1 - (l0.length : Int))) 0)) = some r := h
 clear h
 by_cases c3 : (wrap64 (a1 - (l0.length : Int))) < 0
 · rw [if_pos c3] at H
   have c3b0 : decide ((wrap64 (a1 - (l0.length : Int))) < 0) = true := zR c3; clear c3; obtain rfl := Option.some.inj H; go_enter Try.func32, Try.ntmps32
   go_wp2
   go_ret
   exact ⟨by first | rfl | (simp <;> rfl) | (simp [*] <;> rfl), kR1 HB⟩
 ·
  rw [if_neg c3] at H
  have c3b0 : decide ((wrap64 (a1 - (l0.length : Int))) < 0) = false := zS c3; clear c3
  have H' := yD H
  clear H; go_enter Try.func32, Try.ntmps32
  go_wp2
  go_loopg [1, 5] k (fun kq v1 v5 w' => ∃ (x1_1 : Int) (x5_1 : Int), v1 = .int .i64 x1_1 ∧ v5 = .int .i64 x5_1 ∧ Aside0 (laws_szTypeS.l0 Y_ kq l0 x1_1 x5_1 = some r) ∧ Aside0 (kq ≤ k) ∧ Aside0 (Below w.heap.size w w'))
  case atStart => exact ⟨(wrap64 (a1 - (l0.length : Int))), (0), (by first | rfl | (simp; done) | (simp [*]; done)), (by first | rfl | (simp; done) | (simp [*]; done)), H', ⟨Nat.le_refl _⟩, ⟨kR1 HB⟩⟩
  case round =>
   clear H'
   try clear p2; try clear c3; try clear c3b0
   obtain ⟨x1_1, x5_1, rfl, rfl, HA, HK1, HB⟩ := hrel
   cases gk with
   | zero => exact absurd HA.out (by simp [laws_szTypeS.l0])
   | succ k1 =>
    have H := HA.out; clear HA
    simp only [laws_szTypeS.l0] at H
    by_cases c4 : x5_1 < (l0.length : Int)
    ·
     rw [if_pos c4] at H
     have c4b0 : decide (x5_1 < (l0.length : Int)) = true := zR c4; clear c4
     by_cases c5 : 0 ≤ x5_1
     ·
      rw [if_pos c5] at H
      have c5b0 : decide (0 ≤ x5_1) = true := zR c5; clear c5
      obtain ⟨t129, A60, H⟩ := zW_ H
      replace H : (if t129 < 0 then (some (-1)) else (laws_szTypeS.l0 Y_ k1 l0 t129 (wrap64 (x5_1 + 1)))) = some r := H
      have A6 := yD A60
      clear A60
      by_cases c7 : t129 < 0
      ·
       rw [if_pos c7] at H
       have c7b0 : decide (t129 < 0) = true := zR c7; clear c7; obtain rfl := Option.some.inj H
       have p128 : 0 ≤ (x5_1 : Int) := zP (by assumption)
       have q128 : x5_1 < (l0.length : Int) := zP (by assumption)
       obtain ⟨ad128, A128_4, c128_4, A128_5, c128_5, A128_6, c128_6, A128_7, c128_7, e128, hx128_0, hx128_1, hx128_2, hx128_3, hx128_4, hx128_5, hx128_6, hx128_7, hx128_8, hl128_4, hi128_4, hl128_5, hi128_5, hl128_6, hi128_6, hl128_7, hi128_7⟩ := at_T27 HR0.out x5_1 p128 q128
       cases e128
       replace hx128_0 := kCx1_ HB hx128_0
       replace hx128_1 := kCx1_ HB hx128_1
       replace hx128_2 := kCx1_ HB hx128_2
       replace hx128_3 := kCx1_ HB hx128_3
       replace hx128_4 := kCx1_ HB hx128_4
       replace hx128_5 := kCx1_ HB hx128_5
       replace hx128_6 := kCx1_ HB hx128_6
       replace hx128_7 := kCx1_ HB hx128_7
       replace hx128_8 := kCx1_ HB hx128_8
       have HR128_4 := yD hi128_4
       have HC128_4 := yD hl128_4
       clear hi128_4 hl128_4
       have HR128_5 := yD hi128_5
       have HC128_5 := yD hl128_5
       clear hi128_5 hl128_5
       have HR128_6 := yD hi128_6
       have HC128_6 := yD hl128_6
       clear hi128_6 hl128_6
       have HR128_7 := yD hi128_7
       have HC128_7 := yD hl128_7
       clear hi128_7 hl128_7; replace p128 := eq_true p128; replace q128 := eq_true q128
       go_wp2_with (first | ((with_reducible refine gate_callee (f := 7) rfl ?_); refine gL 23 Try.func7 #[.agg #[.int .i64 ((rd_T27 l0 x5_1).f0), .int .i64 ((rd_T27 l0 x5_1).f1), .bool ((rd_T27 l0 x5_1).f2), .bool ((rd_T27 l0 x5_1).f3), .slice A128_4 ((rd_T27 l0 x5_1).f4).length c128_4, .slice A128_5 ((rd_T27 l0 x5_1).f5).length c128_5, .slice A128_6 ((rd_T27 l0 x5_1).f6).length c128_6, .slice A128_7 ((rd_T27 l0 x5_1).f7).length c128_7, .int .i64 ((rd_T27 l0 x5_1).f8)], .int .i64 x1_1] ?_; (with_reducible refine (HY_ ((rd_T27 l0 x5_1).f0) ((rd_T27 l0 x5_1).f1) ((rd_T27 l0 x5_1).f2) ((rd_T27 l0 x5_1).f3) _ _ ((rd_T27 l0 x5_1).f4) _ _ ((rd_T27 l0 x5_1).f5) _ _ ((rd_T27 l0 x5_1).f6) _ _ ((rd_T27 l0 x5_1).f7) ((rd_T27 l0 x5_1).f8) x1_1 t129 _ ?side1 ?side2 ?side3 ?side4 ?side5 ?side6 ?side7 ?side8 A6.out).mono ?_); (case side1 => exact kV (yY HR128_4.out HB.out)); (case side2 => exact HC128_4.out); (case side3 => exact kV (yY HR128_5.out HB.out)); (case side4 => exact HC128_5.out); (case side5 => exact kV (yY HR128_6.out HB.out)); (case side6 => exact HC128_6.out); (case side7 => exact kV (yY HR128_7.out HB.out)); (case side8 => exact HC128_7.out); rintro e w8 ⟨rfl, hb⟩; refine ⟨_, rfl, ?_⟩; replace HB := yD (zC (kB HB) hb); clear hb))
       go_ret
       exact ⟨by first | rfl | (simp <;> rfl) | (simp [*] <;> rfl), kR1 HB⟩
      ·
       rw [if_neg c7] at H
       have c7b0 : decide (t129 < 0) = false := zS c7; clear c7
       have H' := yD H
       clear H
       have p128 : 0 ≤ (x5_1 : Int) := zP (by assumption)
       have q128 : x5_1 < (l0.length : Int) := zP (by assumption)
       obtain ⟨ad128, A128_4, c128_4, A128_5, c128_5, A128_6, c128_6, A128_7, c128_7, e128, hx128_0, hx128_1, hx128_2, hx128_3, hx128_4, hx128_5, hx128_6, hx128_7, hx128_8, hl128_4, hi128_4, hl128_5, hi128_5, hl128_6, hi128_6, hl128_7, hi128_7⟩ := at_T27 HR0.out x5_1 p128 q128
       cases e128
       replace hx128_0 := kCx1_ HB hx128_0
       replace hx128_1 := kCx1_ HB hx128_1
       replace hx128_2 := kCx1_ HB hx128_2
       replace hx128_3 := kCx1_ HB hx128_3
       replace hx128_4 := kCx1_ HB hx128_4
       replace hx128_5 := kCx1_ HB hx128_5
       replace hx128_6 := kCx1_ HB hx128_6
       replace hx128_7 := kCx1_ HB hx128_7
       replace hx128_8 := kCx1_ HB hx128_8
       have HR128_4 := yD hi128_4
       have HC128_4 := yD hl128_4
       clear hi128_4 hl128_4
       have HR128_5 := yD hi128_5
       have HC128_5 := yD hl128_5
       clear hi128_5 hl128_5
       have HR128_6 := yD hi128_6
       have HC128_6 := yD hl128_6
       clear hi128_6 hl128_6
       have HR128_7 := yD hi128_7
       have HC128_7 := yD hl128_7
       clear hi128_7 hl128_7; replace p128 := eq_true p128; replace q128 := eq_true q128
       go_wp2_with (first | ((with_reducible refine gate_callee (f := 7) rfl ?_); refine gL 23 Try.func7 #[.agg #[.int .i64 ((rd_T27 l0 x5_1).f0), .int .i64 ((rd_T27 l0 x5_1).f1), .bool ((rd_T27 l0 x5_1).f2), .bool ((rd_T27 l0 x5_1).f3), .slice A128_4 ((rd_T27 l0 x5_1).f4).length c128_4, .slice A128_5 ((rd_T27 l0 x5_1).f5).length c128_5, .slice A128_6 ((rd_T27 l0 x5_1).f6).length c128_6, .slice A128_7 ((rd_T27 l0 x5_1).f7).length c128_7, .int .i64 ((rd_T27 l0 x5_1).f8)], .int .i64 x1_1] ?_; (with_reducible refine (HY_ ((rd_T27 l0 x5_1).f0) ((rd_T27 l0 x5_1).f1) ((rd_T27 l0 x5_1).f2) ((rd_T27 l0 x5_1).f3) _ _ ((rd_T27 l0 x5_1).f4) _ _ ((rd_T27 l0 x5_1).f5) _ _ ((rd_T27 l0 x5_1).f6) _ _ ((rd_T27 l0 x5_1).f7) ((rd_T27 l0 x5_1).f8) x1_1 t129 _ ?side1 ?side2 ?side3 ?side4 ?side5 ?side6 ?side7 ?side8 A6.out).mono ?_); (case side1 => exact kV (yY HR128_4.out HB.out)); (case side2 => exact HC128_4.out); (case side3 => exact kV (yY HR128_5.out HB.out)); (case side4 => exact HC128_5.out); (case side5 => exact kV (yY HR128_6.out HB.out)); (case side6 => exact HC128_6.out); (case side7 => exact kV (yY HR128_7.out HB.out)); (case side8 => exact HC128_7.out); rintro e w9 ⟨rfl, hb⟩; refine ⟨_, rfl, ?_⟩; replace HB := yD (zC (kB HB) hb); clear hb))
       go_roundg k1
       case measure => have := HK1.out; omega
       case rel => exact ⟨(t129), (wrap64 (x5_1 + 1)), (by first | rfl | (simp; done) | (simp [*]; done)), (by first | rfl | (simp; done) | (simp [*]; done)), H', ⟨by have := HK1.out; omega⟩, ⟨kR1 HB⟩⟩
     · rw [if_neg c5] at H
       exact absurd H (by simp)
    · rw [if_neg c4] at H
      have c4b0 : decide (x5_1 < (l0.length : Int)) = false := zS c4; clear c4; obtain rfl := Option.some.inj H
      go_wp2
      go_ret
      exact ⟨by first | rfl | (simp <;> rfl) | (simp [*] <;> rfl), kR1 HB⟩

/-! ### laws_szType: function 7 -/
def laws_szType.f : Nat → Int → Int → Bool → Bool → List ByteArray → List Int → List (S91) → List (S27) → Int → Int → Option (Int)
 | 0, _, _, _, _, _, _, _, _, _, _ => none
 | k + 1, a0_0, a0_1, a0_2, a0_3, l0_4, l0_5, l0_6, l0_7, a0_8, a1 => (laws_szStringS.f k l0_4 a1).bind fun t131 => (if t131 < 0 then (some (-1)) else ((laws_szInt64S.f l0_5 t131).bind fun t132 => (if t132 < 0 then (some (-1)) else ((laws_szMemberS.f (laws_szType.f k) k l0_6 t132).bind fun t133 => (if t133 < 0 then (some (-1)) else ((laws_szTypeS.f (laws_szType.f k) k l0_7 t133).bind fun t134 => (if t134 < 0 then (some (-1)) else (some t134))))))))
set_option maxHeartbeats 8000000 in
set_option maxRecDepth 100000 in
theorem laws_szType.calls (k : Nat) : ∀ (a0_0 : Int) (a0_1 : Int) (a0_2 : Bool) (a0_3 : Bool) (A0_4 : Option Addr) (c0_4 : Nat) (l0_4 : List ByteArray) (A0_5 : Option Addr) (c0_5 : Nat) (l0_5 : List Int) (A0_6 : Option Addr) (c0_6 : Nat) (l0_6 : List (S91)) (A0_7 : Option Addr) (c0_7 : Nat) (l0_7 : List (S27)) (a0_8 : Int) (a1 : Int) (r : Int) (w : World) (hr0_4 : Kd.C Kd.string w A0_4 l0_4.length l0_4) (hc0_4 : l0_4.length ≤ c0_4) (hr0_5 : Kd.C (Kd.int .i64) w A0_5 l0_5.length l0_5) (hc0_5 : l0_5.length ≤ c0_5) (hr0_6 : Kd.C k91 w A0_6 l0_6.length l0_6) (hc0_6 : l0_6.length ≤ c0_6) (hr0_7 : Kd.C k27 w A0_7 l0_7.length l0_7) (hc0_7 : l0_7.length ≤ c0_7) (h : laws_szType.f k a0_0 a0_1 a0_2 a0_3 l0_4 l0_5 l0_6 l0_7 a0_8 a1 = some r),
 Calls Try.prog 7 #[.agg #[.int .i64 a0_0, .int .i64 a0_1, .bool a0_2, .bool a0_3, .slice A0_4 l0_4.length c0_4, .slice A0_5 l0_5.length c0_5, .slice A0_6 l0_6.length c0_6, .slice A0_7 l0_7.length c0_7, .int .i64 a0_8], .int .i64 a1] w fun e w' => e = .returned (.int .i64 r) ∧ Below w.heap.size w w' := by
 induction k using Nat.strongRecOn with
 | _ k ih =>
 intro a0_0 a0_1 a0_2 a0_3 A0_4 c0_4 l0_4 A0_5 c0_5 l0_5 A0_6 c0_6 l0_6 A0_7 c0_7 l0_7 a0_8 a1 r w hr0_4 hc0_4 hr0_5 hc0_5 hr0_6 hc0_6 hr0_7 hc0_7 h
 cases k with
 | zero => exact absurd h (by simp [laws_szType.f])
 | succ k =>
 simp only [laws_szType.f] at h
 have hu27 := Try.underlying27
 have HR0_4 := yD hr0_4
 have HC0_4 := yD hc0_4
 clear hr0_4 hc0_4
 have HR0_5 := yD hr0_5
 have HC0_5 := yD hc0_5
 clear hr0_5 hc0_5
 have HR0_6 := yD hr0_6
 have HC0_6 := yD hc0_6
 clear hr0_6 hc0_6
 have HR0_7 := yD hr0_7
 have HC0_7 := yD hc0_7
 clear hr0_7 hc0_7
 have HB := yD (Below.refl w.heap.size w)
 have H : ((laws_szStringS.f k l0_4 a1).bind fun t131 => (if t131 < 0 then (some (-1)) else ((laws_szInt64S.f l0_5 t131).bind fun t132 => (if t132 < 0 then (some (-1)) else ((laws_szMemberS.f (laws_szType.f k) k l0_6 t132).bind fun t133 => (if t133 < 0 then (some (-1)) else ((laws_szTypeS.f (laws_szType.f k) k l0_7 t133).bind fun t134 => (if t134 < 0 then (some (-1)) else (some t134))))))))) = some r := h
 clear h
 obtain ⟨t131, A30, H⟩ := zW_ H
 replace H : (if t131 < 0 then (some (-1)) else ((laws_szInt64S.f l0_5 t131).bind fun t132 => (if t132 < 0 then (some (-1)) else ((laws_szMemberS.f (laws_szType.f k) k l0_6 t132).bind fun t133 => (if t133 < 0 then (some (-1)) else ((laws_szTypeS.f (laws_szType.f k) k l0_7 t133).bind fun t134 => (if t134 < 0 then (some (-1)) else (some t134)))))))) = some r := H
 have A3 := yD A30
 clear A30
 by_cases c4 : t131 < 0
 · rw [if_pos c4] at H
   have c4b0 : decide (t131 < 0) = true := zR c4; clear c4; obtain rfl := Option.some.inj H; go_enter Try.func7, Try.ntmps7
   go_wp2_with (first | ((with_reducible refine gate_dst (N := 2) rfl ?_); refine box_event ?hg (N := 2) ?hd (cs := #[.int .i64 a0_0, .int .i64 a0_1, .bool a0_2, .bool a0_3, .slice A0_4 l0_4.length c0_4, .slice A0_5 l0_5.length c0_5, .slice A0_6 l0_6.length c0_6, .slice A0_7 l0_7.length c0_7, .int .i64 a0_8]) (t := 27) ?hr ?_; (case hd => rfl); (case hg => rfl); (case hr => first | (go_simp; done) | (go_simp; rfl)); intro gb130 hg w5 hbox hb; have BK130 := yD (hbox); have GW130 := yD ((by rw [hg]; exact (below_size (kB HB)) : w.heap.size ≤ gb130)); have GE130 := yD ((by rw [hg]; exact (below_size (kB HB)) : w.heap.size ≤ gb130)); replace HB := yD (zC (kB HB) hb); clear hb hbox hg; obtain ⟨hcz6_0, hcz6_1, hcz6_2, hcz6_3, hcz6_4, hcz6_5, hcz6_6, hcz6_7, hcz6_8⟩ := cz9 BK130.out; obtain ⟨hfz6_0, hfz6_1, hfz6_2, hfz6_3, hfz6_4, hfz6_5, hfz6_6, hfz6_7, hfz6_8⟩ := fz9 BK130.out) | ((with_reducible refine gate_callee (f := 29) rfl ?_); refine gL 8 Try.func29 #[.slice A0_4 l0_4.length c0_4, .int .i64 a1] ?_; (with_reducible refine (laws_szStringS.calls k _ _ l0_4 a1 t131 _ ?side1 ?side2 A3.out).mono ?_); (case side1 => exact kV (yY HR0_4.out HB.out)); (case side2 => exact HC0_4.out); rintro e w' ⟨rfl, ⟨nd, rfl⟩⟩; refine ⟨_, rfl, ?_⟩))
   go_ret
   exact ⟨by first | rfl | (simp <;> rfl) | (simp [*] <;> rfl), kR0 HB⟩
 ·
  rw [if_neg c4] at H
  have c4b0 : decide (t131 < 0) = false := zS c4; clear c4
  obtain ⟨t132, A70, H⟩ := zW_ H
  replace H : (if t132 < 0 then (some (-1)) else ((laws_szMemberS.f (laws_szType.f k) k l0_6 t132).bind fun t133 => (if t133 < 0 then (some (-1)) else ((laws_szTypeS.f (laws_szType.f k) k l0_7 t133).bind fun t134 => (if t134 < 0 then (some (-1)) else (some t134)))))) = some r := H
  have A7 := yD A70
  clear A70
  by_cases c8 : t132 < 0
  · rw [if_pos c8] at H
    have c8b0 : decide (t132 < 0) = true := zR c8; clear c8; obtain rfl := Option.some.inj H; go_enter Try.func7, Try.ntmps7
    go_wp2_with (first | ((with_reducible refine gate_dst (N := 2) rfl ?_); refine box_event ?hg (N := 2) ?hd (cs := #[.int .i64 a0_0, .int .i64 a0_1, .bool a0_2, .bool a0_3, .slice A0_4 l0_4.length c0_4, .slice A0_5 l0_5.length c0_5, .slice A0_6 l0_6.length c0_6, .slice A0_7 l0_7.length c0_7, .int .i64 a0_8]) (t := 27) ?hr ?_; (case hd => rfl); (case hg => rfl); (case hr => first | (go_simp; done) | (go_simp; rfl)); intro gb130 hg w9 hbox hb; have BK130 := yD (hbox); have GW130 := yD ((by rw [hg]; exact (below_size (kB HB)) : w.heap.size ≤ gb130)); have GE130 := yD ((by rw [hg]; exact (below_size (kB HB)) : w.heap.size ≤ gb130)); replace HB := yD (zC (kB HB) hb); clear hb hbox hg; obtain ⟨hcz10_0, hcz10_1, hcz10_2, hcz10_3, hcz10_4, hcz10_5, hcz10_6, hcz10_7, hcz10_8⟩ := cz9 BK130.out; obtain ⟨hfz10_0, hfz10_1, hfz10_2, hfz10_3, hfz10_4, hfz10_5, hfz10_6, hfz10_7, hfz10_8⟩ := fz9 BK130.out) | ((with_reducible refine gate_callee (f := 29) rfl ?_); refine gL 8 Try.func29 #[.slice A0_4 l0_4.length c0_4, .int .i64 a1] ?_; (with_reducible refine (laws_szStringS.calls k _ _ l0_4 a1 t131 _ ?side1 ?side2 A3.out).mono ?_); (case side1 => exact kV (yY HR0_4.out HB.out)); (case side2 => exact HC0_4.out); rintro e w' ⟨rfl, ⟨nd, rfl⟩⟩; refine ⟨_, rfl, ?_⟩) | ((with_reducible refine gate_callee (f := 30) rfl ?_); refine gL 14 Try.func30 #[.slice A0_5 l0_5.length c0_5, .int .i64 t131] ?_; (with_reducible refine (laws_szInt64S.calls _ _ l0_5 t131 t132 _ ?side1 ?side2 A7.out).mono ?_); (case side1 => repeat (first | exact (yY HR0_5.out (kB HB)) | (with_reducible first | refine yV ?_ _ | refine yW ?_ _ | refine yX ?_))); (case side2 => exact HC0_5.out); rintro e w' ⟨rfl, ⟨nd, rfl⟩⟩; refine ⟨_, rfl, ?_⟩))
    go_ret
    exact ⟨by first | rfl | (simp <;> rfl) | (simp [*] <;> rfl), kR0 HB⟩
  ·
   rw [if_neg c8] at H
   have c8b0 : decide (t132 < 0) = false := zS c8; clear c8
   obtain ⟨t133, A110, H⟩ := zW_ H
   replace H : (if t133 < 0 then (some (-1)) else ((laws_szTypeS.f (laws_szType.f k) k l0_7 t133).bind fun t134 => (if t134 < 0 then (some (-1)) else (some t134)))) = some r := H
   have A11 := yD A110
   clear A110
   by_cases c12 : t133 < 0
   · rw [if_pos c12] at H
     have c12b0 : decide (t133 < 0) = true := zR c12; clear c12; obtain rfl := Option.some.inj H; go_enter Try.func7, Try.ntmps7
     go_wp2_with (first | ((with_reducible refine gate_dst (N := 2) rfl ?_); refine box_event ?hg (N := 2) ?hd (cs := #[.int .i64 a0_0, .int .i64 a0_1, .bool a0_2, .bool a0_3, .slice A0_4 l0_4.length c0_4, .slice A0_5 l0_5.length c0_5, .slice A0_6 l0_6.length c0_6, .slice A0_7 l0_7.length c0_7, .int .i64 a0_8]) (t := 27) ?hr ?_; (case hd => rfl); (case hg => rfl); (case hr => first | (go_simp; done) | (go_simp; rfl)); intro gb130 hg w13 hbox hb; have BK130 := yD (hbox); have GW130 := yD ((by rw [hg]; exact (below_size (kB HB)) : w.heap.size ≤ gb130)); have GE130 := yD ((by rw [hg]; exact (below_size (kB HB)) : w.heap.size ≤ gb130)); replace HB := yD (zC (kB HB) hb); clear hb hbox hg; obtain ⟨hcz14_0, hcz14_1, hcz14_2, hcz14_3, hcz14_4, hcz14_5, hcz14_6, hcz14_7, hcz14_8⟩ := cz9 BK130.out; obtain ⟨hfz14_0, hfz14_1, hfz14_2, hfz14_3, hfz14_4, hfz14_5, hfz14_6, hfz14_7, hfz14_8⟩ := fz9 BK130.out) | ((with_reducible refine gate_callee (f := 29) rfl ?_); refine gL 8 Try.func29 #[.slice A0_4 l0_4.length c0_4, .int .i64 a1] ?_; (with_reducible refine (laws_szStringS.calls k _ _ l0_4 a1 t131 _ ?side1 ?side2 A3.out).mono ?_); (case side1 => exact kV (yY HR0_4.out HB.out)); (case side2 => exact HC0_4.out); rintro e w' ⟨rfl, ⟨nd, rfl⟩⟩; refine ⟨_, rfl, ?_⟩) | ((with_reducible refine gate_callee (f := 30) rfl ?_); refine gL 14 Try.func30 #[.slice A0_5 l0_5.length c0_5, .int .i64 t131] ?_; (with_reducible refine (laws_szInt64S.calls _ _ l0_5 t131 t132 _ ?side1 ?side2 A7.out).mono ?_); (case side1 => repeat (first | exact (yY HR0_5.out (kB HB)) | (with_reducible first | refine yV ?_ _ | refine yW ?_ _ | refine yX ?_))); (case side2 => exact HC0_5.out); rintro e w' ⟨rfl, ⟨nd, rfl⟩⟩; refine ⟨_, rfl, ?_⟩) | ((with_reducible refine gate_callee (f := 31) rfl ?_); refine gL 20 Try.func31 #[.slice A0_6 l0_6.length c0_6, .int .i64 t132] ?_; (with_reducible refine (laws_szMemberS.calls (laws_szType.f k) (ih k (by omega)) k _ _ l0_6 t132 t133 _ ?side1 ?side2 A11.out).mono ?_); (case side1 => repeat (first | exact (yY HR0_6.out (kB HB)) | (with_reducible first | refine yV ?_ _ | refine yW ?_ _ | refine yX ?_))); (case side2 => exact HC0_6.out); rintro e w15 ⟨rfl, hb⟩; refine ⟨_, rfl, ?_⟩; replace BK130 := yD (zB (kN BK130) hb); replace HB := yD (zC (kB HB) hb); clear hb))
     go_ret
     exact ⟨by first | rfl | (simp <;> rfl) | (simp [*] <;> rfl), kR0 HB⟩
   ·
    rw [if_neg c12] at H
    have c12b0 : decide (t133 < 0) = false := zS c12; clear c12
    obtain ⟨t134, A160, H⟩ := zW_ H
    replace H : (if t134 < 0 then (some (-1)) else (some t134)) = some r := H
    have A16 := yD A160
    clear A160
    by_cases c17 : t134 < 0
    · rw [if_pos c17] at H
      have c17b0 : decide (t134 < 0) = true := zR c17; clear c17; obtain rfl := Option.some.inj H; go_enter Try.func7, Try.ntmps7
      go_wp2_with (first | ((with_reducible refine gate_dst (N := 2) rfl ?_); refine box_event ?hg (N := 2) ?hd (cs := #[.int .i64 a0_0, .int .i64 a0_1, .bool a0_2, .bool a0_3, .slice A0_4 l0_4.length c0_4, .slice A0_5 l0_5.length c0_5, .slice A0_6 l0_6.length c0_6, .slice A0_7 l0_7.length c0_7, .int .i64 a0_8]) (t := 27) ?hr ?_; (case hd => rfl); (case hg => rfl); (case hr => first | (go_simp; done) | (go_simp; rfl)); intro gb130 hg w18 hbox hb; have BK130 := yD (hbox); have GW130 := yD ((by rw [hg]; exact (below_size (kB HB)) : w.heap.size ≤ gb130)); have GE130 := yD ((by rw [hg]; exact (below_size (kB HB)) : w.heap.size ≤ gb130)); replace HB := yD (zC (kB HB) hb); clear hb hbox hg; obtain ⟨hcz19_0, hcz19_1, hcz19_2, hcz19_3, hcz19_4, hcz19_5, hcz19_6, hcz19_7, hcz19_8⟩ := cz9 BK130.out; obtain ⟨hfz19_0, hfz19_1, hfz19_2, hfz19_3, hfz19_4, hfz19_5, hfz19_6, hfz19_7, hfz19_8⟩ := fz9 BK130.out) | ((with_reducible refine gate_callee (f := 29) rfl ?_); refine gL 8 Try.func29 #[.slice A0_4 l0_4.length c0_4, .int .i64 a1] ?_; (with_reducible refine (laws_szStringS.calls k _ _ l0_4 a1 t131 _ ?side1 ?side2 A3.out).mono ?_); (case side1 => exact kV (yY HR0_4.out HB.out)); (case side2 => exact HC0_4.out); rintro e w' ⟨rfl, ⟨nd, rfl⟩⟩; refine ⟨_, rfl, ?_⟩) | ((with_reducible refine gate_callee (f := 30) rfl ?_); refine gL 14 Try.func30 #[.slice A0_5 l0_5.length c0_5, .int .i64 t131] ?_; (with_reducible refine (laws_szInt64S.calls _ _ l0_5 t131 t132 _ ?side1 ?side2 A7.out).mono ?_); (case side1 => repeat (first | exact (yY HR0_5.out (kB HB)) | (with_reducible first | refine yV ?_ _ | refine yW ?_ _ | refine yX ?_))); (case side2 => exact HC0_5.out); rintro e w' ⟨rfl, ⟨nd, rfl⟩⟩; refine ⟨_, rfl, ?_⟩) | ((with_reducible refine gate_callee (f := 31) rfl ?_); refine gL 20 Try.func31 #[.slice A0_6 l0_6.length c0_6, .int .i64 t132] ?_; (with_reducible refine (laws_szMemberS.calls (laws_szType.f k) (ih k (by omega)) k _ _ l0_6 t132 t133 _ ?side1 ?side2 A11.out).mono ?_); (case side1 => repeat (first | exact (yY HR0_6.out (kB HB)) | (with_reducible first | refine yV ?_ _ | refine yW ?_ _ | refine yX ?_))); (case side2 => exact HC0_6.out); rintro e w20 ⟨rfl, hb⟩; refine ⟨_, rfl, ?_⟩; replace BK130 := yD (zB (kN BK130) hb); replace HB := yD (zC (kB HB) hb); clear hb; obtain ⟨hcz21_0, hcz21_1, hcz21_2, hcz21_3, hcz21_4, hcz21_5, hcz21_6, hcz21_7, hcz21_8⟩ := cz9 BK130.out; obtain ⟨hfz21_0, hfz21_1, hfz21_2, hfz21_3, hfz21_4, hfz21_5, hfz21_6, hfz21_7, hfz21_8⟩ := fz9 BK130.out) | ((with_reducible refine gate_callee (f := 32) rfl ?_); refine gL 26 Try.func32 #[.slice A0_7 l0_7.length c0_7, .int .i64 t133] ?_; (with_reducible refine (laws_szTypeS.calls (laws_szType.f k) (ih k (by omega)) k _ _ l0_7 t133 t134 _ ?side1 ?side2 A16.out).mono ?_); (case side1 => exact kV (yY HR0_7.out HB.out)); (case side2 => exact HC0_7.out); rintro e w22 ⟨rfl, hb⟩; refine ⟨_, rfl, ?_⟩; replace BK130 := yD (zB (kN BK130) hb); replace HB := yD (zC (kB HB) hb); clear hb))
      go_ret
      exact ⟨by first | rfl | (simp <;> rfl) | (simp [*] <;> rfl), kR0 HB⟩
    · rw [if_neg c17] at H
      have c17b0 : decide (t134 < 0) = false := zS c17; clear c17; obtain rfl := Option.some.inj H; go_enter Try.func7, Try.ntmps7
      go_wp2_with (first | ((with_reducible refine gate_dst (N := 2) rfl ?_); refine box_event ?hg (N := 2) ?hd (cs := #[.int .i64 a0_0, .int .i64 a0_1, .bool a0_2, .bool a0_3, .slice A0_4 l0_4.length c0_4, .slice A0_5 l0_5.length c0_5, .slice A0_6 l0_6.length c0_6, .slice A0_7 l0_7.length c0_7, .int .i64 a0_8]) (t := 27) ?hr ?_; (case hd => rfl); (case hg => rfl); (case hr => first | (go_simp; done) | (go_simp; rfl)); intro gb130 hg w23 hbox hb; have BK130 := yD (hbox); have GW130 := yD ((by rw [hg]; exact (below_size (kB HB)) : w.heap.size ≤ gb130)); have GE130 := yD ((by rw [hg]; exact (below_size (kB HB)) : w.heap.size ≤ gb130)); replace HB := yD (zC (kB HB) hb); clear hb hbox hg; obtain ⟨hcz24_0, hcz24_1, hcz24_2, hcz24_3, hcz24_4, hcz24_5, hcz24_6, hcz24_7, hcz24_8⟩ := cz9 BK130.out; obtain ⟨hfz24_0, hfz24_1, hfz24_2, hfz24_3, hfz24_4, hfz24_5, hfz24_6, hfz24_7, hfz24_8⟩ := fz9 BK130.out) | ((with_reducible refine gate_callee (f := 29) rfl ?_); refine gL 8 Try.func29 #[.slice A0_4 l0_4.length c0_4, .int .i64 a1] ?_; (with_reducible refine (laws_szStringS.calls k _ _ l0_4 a1 t131 _ ?side1 ?side2 A3.out).mono ?_); (case side1 => exact kV (yY HR0_4.out HB.out)); (case side2 => exact HC0_4.out); rintro e w' ⟨rfl, ⟨nd, rfl⟩⟩; refine ⟨_, rfl, ?_⟩) | ((with_reducible refine gate_callee (f := 30) rfl ?_); refine gL 14 Try.func30 #[.slice A0_5 l0_5.length c0_5, .int .i64 t131] ?_; (with_reducible refine (laws_szInt64S.calls _ _ l0_5 t131 t132 _ ?side1 ?side2 A7.out).mono ?_); (case side1 => repeat (first | exact (yY HR0_5.out (kB HB)) | (with_reducible first | refine yV ?_ _ | refine yW ?_ _ | refine yX ?_))); (case side2 => exact HC0_5.out); rintro e w' ⟨rfl, ⟨nd, rfl⟩⟩; refine ⟨_, rfl, ?_⟩) | ((with_reducible refine gate_callee (f := 31) rfl ?_); refine gL 20 Try.func31 #[.slice A0_6 l0_6.length c0_6, .int .i64 t132] ?_; (with_reducible refine (laws_szMemberS.calls (laws_szType.f k) (ih k (by omega)) k _ _ l0_6 t132 t133 _ ?side1 ?side2 A11.out).mono ?_); (case side1 => repeat (first | exact (yY HR0_6.out (kB HB)) | (with_reducible first | refine yV ?_ _ | refine yW ?_ _ | refine yX ?_))); (case side2 => exact HC0_6.out); rintro e w25 ⟨rfl, hb⟩; refine ⟨_, rfl, ?_⟩; replace BK130 := yD (zB (kN BK130) hb); replace HB := yD (zC (kB HB) hb); clear hb; obtain ⟨hcz26_0, hcz26_1, hcz26_2, hcz26_3, hcz26_4, hcz26_5, hcz26_6, hcz26_7, hcz26_8⟩ := cz9 BK130.out; obtain ⟨hfz26_0, hfz26_1, hfz26_2, hfz26_3, hfz26_4, hfz26_5, hfz26_6, hfz26_7, hfz26_8⟩ := fz9 BK130.out) | ((with_reducible refine gate_callee (f := 32) rfl ?_); refine gL 26 Try.func32 #[.slice A0_7 l0_7.length c0_7, .int .i64 t133] ?_; (with_reducible refine (laws_szTypeS.calls (laws_szType.f k) (ih k (by omega)) k _ _ l0_7 t133 t134 _ ?side1 ?side2 A16.out).mono ?_); (case side1 => exact kV (yY HR0_7.out HB.out)); (case side2 => exact HC0_7.out); rintro e w27 ⟨rfl, hb⟩; refine ⟨_, rfl, ?_⟩; replace BK130 := yD (zB (kN BK130) hb); replace HB := yD (zC (kB HB) hb); clear hb))
      go_ret
      exact ⟨by first | rfl | (simp <;> rfl) | (simp [*] <;> rfl), kR0 HB⟩

/-! ### laws_szArray: function 24 -/
def laws_szArray.f (k : Nat) (a0_0 : Int) (a0_1 : Int) (a0_2 : Bool) (a0_3 : Bool) (l0_4 : List ByteArray) (l0_5 : List Int) (l0_6 : List (S91)) (l0_7 : List (S27)) (a0_8 : Int) (l0_9 : List Int) (a0_10 : ByteArray) (a1 : Int) : Option (Int) := (laws_szType.f k a0_0 a0_1 a0_2 a0_3 l0_4 l0_5 l0_6 l0_7 a0_8 a1).bind fun t136 => (if t136 < 0 then (some (-1)) else ((laws_szInt64S.f l0_9 t136).bind fun t137 => (if t137 < 0 then (some (-1)) else (if (wrap64 (t137 - (a0_10.size : Int))) < 0 then (some (-1)) else (some (wrap64 (t137 - (a0_10.size : Int))))))))
set_option maxHeartbeats 8000000 in
set_option maxRecDepth 100000 in
theorem laws_szArray.calls (k : Nat) (a0_0 : Int) (a0_1 : Int) (a0_2 : Bool) (a0_3 : Bool) (A0_4 : Option Addr) (c0_4 : Nat) (l0_4 : List ByteArray) (A0_5 : Option Addr) (c0_5 : Nat) (l0_5 : List Int) (A0_6 : Option Addr) (c0_6 : Nat) (l0_6 : List (S91)) (A0_7 : Option Addr) (c0_7 : Nat) (l0_7 : List (S27)) (a0_8 : Int) (A0_9 : Option Addr) (c0_9 : Nat) (l0_9 : List Int) (a0_10 : ByteArray) (a1 : Int) (r : Int) (w : World) (hr0_4 : Kd.C Kd.string w A0_4 l0_4.length l0_4) (hc0_4 : l0_4.length ≤ c0_4) (hr0_5 : Kd.C (Kd.int .i64) w A0_5 l0_5.length l0_5) (hc0_5 : l0_5.length ≤ c0_5) (hr0_6 : Kd.C k91 w A0_6 l0_6.length l0_6) (hc0_6 : l0_6.length ≤ c0_6) (hr0_7 : Kd.C k27 w A0_7 l0_7.length l0_7) (hc0_7 : l0_7.length ≤ c0_7) (hr0_9 : Kd.C (Kd.int .i64) w A0_9 l0_9.length l0_9) (hc0_9 : l0_9.length ≤ c0_9) (h : laws_szArray.f k a0_0 a0_1 a0_2 a0_3 l0_4 l0_5 l0_6 l0_7 a0_8 l0_9 a0_10 a1 = some r) :
 Calls Try.prog 24 #[.agg #[.int .i64 a0_0, .int .i64 a0_1, .bool a0_2, .bool a0_3, .slice A0_4 l0_4.length c0_4, .slice A0_5 l0_5.length c0_5, .slice A0_6 l0_6.length c0_6, .slice A0_7 l0_7.length c0_7, .int .i64 a0_8, .slice A0_9 l0_9.length c0_9, .string a0_10], .int .i64 a1] w fun e w' => e = .returned (.int .i64 r) ∧ Below w.heap.size w w' := by
 have hu52 := Try.underlying52; have hu27 := Try.underlying27
 have HR0_4 := yD hr0_4
 have HC0_4 := yD hc0_4
 clear hr0_4 hc0_4
 have HR0_5 := yD hr0_5
 have HC0_5 := yD hc0_5
 clear hr0_5 hc0_5
 have HR0_6 := yD hr0_6
 have HC0_6 := yD hc0_6
 clear hr0_6 hc0_6
 have HR0_7 := yD hr0_7
 have HC0_7 := yD hc0_7
 clear hr0_7 hc0_7
 have HR0_9 := yD hr0_9
 have HC0_9 := yD hc0_9
 clear hr0_9 hc0_9
 have HB := yD (Below.refl w.heap.size w)
 have H : ((laws_szType.f k a0_0 a0_1 a0_2 a0_3 l0_4 l0_5 l0_6 l0_7 a0_8 a1).bind fun t136 => (if t136 < 0 then (some (-1)) else ((laws_szInt64S.f l0_9 t136).bind fun t137 => (if t137 < 0 then (some (-1)) else (if (wrap64 (t137 - (a0_10.size : Int))) < 0 then (some (-1)) else (some (wrap64 (t137 - (a0_10.size : Int))))))))) = some r := h
 clear h
 obtain ⟨t136, A30, H⟩ := zW_ H
 replace H : (if t136 < 0 then (some (-1)) else ((laws_szInt64S.f l0_9 t136).bind fun t137 => (if t137 < 0 then (some (-1)) else (if (wrap64 (t137 - (a0_10.size : Int))) < 0 then (some (-1)) else (some (wrap64 (t137 - (a0_10.size : Int)))))))) = some r := H
 have A3 := yD A30
 clear A30
 by_cases c4 : t136 < 0
 · rw [if_pos c4] at H
   have c4b0 : decide (t136 < 0) = true := zR c4; clear c4; obtain rfl := Option.some.inj H; go_enter Try.func24, Try.ntmps24
   go_wp2_with (first | ((with_reducible refine gate_dst (N := 2) rfl ?_); refine box_event ?hg (N := 2) ?hd (cs := #[.int .i64 a0_0, .int .i64 a0_1, .bool a0_2, .bool a0_3, .slice A0_4 l0_4.length c0_4, .slice A0_5 l0_5.length c0_5, .slice A0_6 l0_6.length c0_6, .slice A0_7 l0_7.length c0_7, .int .i64 a0_8, .slice A0_9 l0_9.length c0_9, .string a0_10]) (t := 52) ?hr ?_; (case hd => rfl); (case hg => rfl); (case hr => first | (go_simp; done) | (go_simp; rfl)); intro gb135 hg w5 hbox hb; have BK135 := yD (hbox); have GW135 := yD ((by rw [hg]; exact (below_size (kB HB)) : w.heap.size ≤ gb135)); have GE135 := yD ((by rw [hg]; exact (below_size (kB HB)) : w.heap.size ≤ gb135)); replace HB := yD (zC (kB HB) hb); clear hb hbox hg; obtain ⟨hcz6_0, hcz6_1, hcz6_2, hcz6_3, hcz6_4, hcz6_5, hcz6_6, hcz6_7, hcz6_8, hcz6_9, hcz6_10⟩ := cz11 BK135.out; obtain ⟨hfz6_0, hfz6_1, hfz6_2, hfz6_3, hfz6_4, hfz6_5, hfz6_6, hfz6_7, hfz6_8, hfz6_9, hfz6_10⟩ := fz11 BK135.out) | ((with_reducible refine gate_callee (f := 7) rfl ?_); refine gL 8 Try.func7 #[.agg #[.int .i64 a0_0, .int .i64 a0_1, .bool a0_2, .bool a0_3, .slice A0_4 l0_4.length c0_4, .slice A0_5 l0_5.length c0_5, .slice A0_6 l0_6.length c0_6, .slice A0_7 l0_7.length c0_7, .int .i64 a0_8], .int .i64 a1] ?_; (with_reducible refine (laws_szType.calls k a0_0 a0_1 a0_2 a0_3 _ _ l0_4 _ _ l0_5 _ _ l0_6 _ _ l0_7 a0_8 a1 t136 _ ?side1 ?side2 ?side3 ?side4 ?side5 ?side6 ?side7 ?side8 A3.out).mono ?_); (case side1 => exact kV (yY HR0_4.out HB.out)); (case side2 => exact HC0_4.out); (case side3 => exact kV (yY HR0_5.out HB.out)); (case side4 => exact HC0_5.out); (case side5 => exact kV (yY HR0_6.out HB.out)); (case side6 => exact HC0_6.out); (case side7 => exact kV (yY HR0_7.out HB.out)); (case side8 => exact HC0_7.out); rintro e w7 ⟨rfl, hb⟩; refine ⟨_, rfl, ?_⟩; replace BK135 := yD (zB (kN BK135) hb); replace HB := yD (zC (kB HB) hb); clear hb))
   go_ret
   exact ⟨by first | rfl | (simp <;> rfl) | (simp [*] <;> rfl), kR0 HB⟩
 ·
  rw [if_neg c4] at H
  have c4b0 : decide (t136 < 0) = false := zS c4; clear c4
  obtain ⟨t137, A80, H⟩ := zW_ H
  replace H : (if t137 < 0 then (some (-1)) else (if (wrap64 (t137 - (a0_10.size : Int))) < 0 then (some (-1)) else (some (wrap64 (t137 - (a0_10.size : Int)))))) = some r := H
  have A8 := yD A80
  clear A80
  by_cases c9 : t137 < 0
  · rw [if_pos c9] at H
    have c9b0 : decide (t137 < 0) = true := zR c9; clear c9; obtain rfl := Option.some.inj H; go_enter Try.func24, Try.ntmps24
    go_wp2_with (first | ((with_reducible refine gate_dst (N := 2) rfl ?_); refine box_event ?hg (N := 2) ?hd (cs := #[.int .i64 a0_0, .int .i64 a0_1, .bool a0_2, .bool a0_3, .slice A0_4 l0_4.length c0_4, .slice A0_5 l0_5.length c0_5, .slice A0_6 l0_6.length c0_6, .slice A0_7 l0_7.length c0_7, .int .i64 a0_8, .slice A0_9 l0_9.length c0_9, .string a0_10]) (t := 52) ?hr ?_; (case hd => rfl); (case hg => rfl); (case hr => first | (go_simp; done) | (go_simp; rfl)); intro gb135 hg w10 hbox hb; have BK135 := yD (hbox); have GW135 := yD ((by rw [hg]; exact (below_size (kB HB)) : w.heap.size ≤ gb135)); have GE135 := yD ((by rw [hg]; exact (below_size (kB HB)) : w.heap.size ≤ gb135)); replace HB := yD (zC (kB HB) hb); clear hb hbox hg; obtain ⟨hcz11_0, hcz11_1, hcz11_2, hcz11_3, hcz11_4, hcz11_5, hcz11_6, hcz11_7, hcz11_8, hcz11_9, hcz11_10⟩ := cz11 BK135.out; obtain ⟨hfz11_0, hfz11_1, hfz11_2, hfz11_3, hfz11_4, hfz11_5, hfz11_6, hfz11_7, hfz11_8, hfz11_9, hfz11_10⟩ := fz11 BK135.out) | ((with_reducible refine gate_callee (f := 7) rfl ?_); refine gL 8 Try.func7 #[.agg #[.int .i64 a0_0, .int .i64 a0_1, .bool a0_2, .bool a0_3, .slice A0_4 l0_4.length c0_4, .slice A0_5 l0_5.length c0_5, .slice A0_6 l0_6.length c0_6, .slice A0_7 l0_7.length c0_7, .int .i64 a0_8], .int .i64 a1] ?_; (with_reducible refine (laws_szType.calls k a0_0 a0_1 a0_2 a0_3 _ _ l0_4 _ _ l0_5 _ _ l0_6 _ _ l0_7 a0_8 a1 t136 _ ?side1 ?side2 ?side3 ?side4 ?side5 ?side6 ?side7 ?side8 A3.out).mono ?_); (case side1 => exact kV (yY HR0_4.out HB.out)); (case side2 => exact HC0_4.out); (case side3 => exact kV (yY HR0_5.out HB.out)); (case side4 => exact HC0_5.out); (case side5 => exact kV (yY HR0_6.out HB.out)); (case side6 => exact HC0_6.out); (case side7 => exact kV (yY HR0_7.out HB.out)); (case side8 => exact HC0_7.out); rintro e w12 ⟨rfl, hb⟩; refine ⟨_, rfl, ?_⟩; replace BK135 := yD (zB (kN BK135) hb); replace HB := yD (zC (kB HB) hb); clear hb; obtain ⟨hcz13_0, hcz13_1, hcz13_2, hcz13_3, hcz13_4, hcz13_5, hcz13_6, hcz13_7, hcz13_8, hcz13_9, hcz13_10⟩ := cz11 BK135.out; obtain ⟨hfz13_0, hfz13_1, hfz13_2, hfz13_3, hfz13_4, hfz13_5, hfz13_6, hfz13_7, hfz13_8, hfz13_9, hfz13_10⟩ := fz11 BK135.out) | ((with_reducible refine gate_callee (f := 30) rfl ?_); refine gL 14 Try.func30 #[.slice A0_9 l0_9.length c0_9, .int .i64 t136] ?_; (with_reducible refine (laws_szInt64S.calls _ _ l0_9 t136 t137 _ ?side1 ?side2 A8.out).mono ?_); (case side1 => exact kV (yY HR0_9.out HB.out)); (case side2 => exact HC0_9.out); rintro e w' ⟨rfl, ⟨nd, rfl⟩⟩; refine ⟨_, rfl, ?_⟩))
    go_ret
    exact ⟨by first | rfl | (simp <;> rfl) | (simp [*] <;> rfl), kR0 HB⟩
  ·
   rw [if_neg c9] at H
   have c9b0 : decide (t137 < 0) = false := zS c9; clear c9
   by_cases c14 : (wrap64 (t137 - (a0_10.size : Int))) < 0
   · rw [if_pos c14] at H
     have c14b0 : decide ((wrap64 (t137 - (a0_10.size : Int))) < 0) = true := zR c14; clear c14; obtain rfl := Option.some.inj H; go_enter Try.func24, Try.ntmps24
     go_wp2_with (first | ((with_reducible refine gate_dst (N := 2) rfl ?_); refine box_event ?hg (N := 2) ?hd (cs := #[.int .i64 a0_0, .int .i64 a0_1, .bool a0_2, .bool a0_3, .slice A0_4 l0_4.length c0_4, .slice A0_5 l0_5.length c0_5, .slice A0_6 l0_6.length c0_6, .slice A0_7 l0_7.length c0_7, .int .i64 a0_8, .slice A0_9 l0_9.length c0_9, .string a0_10]) (t := 52) ?hr ?_; (case hd => rfl); (case hg => rfl); (case hr => first | (go_simp; done) | (go_simp; rfl)); intro gb135 hg w15 hbox hb; have BK135 := yD (hbox); have GW135 := yD ((by rw [hg]; exact (below_size (kB HB)) : w.heap.size ≤ gb135)); have GE135 := yD ((by rw [hg]; exact (below_size (kB HB)) : w.heap.size ≤ gb135)); replace HB := yD (zC (kB HB) hb); clear hb hbox hg; obtain ⟨hcz16_0, hcz16_1, hcz16_2, hcz16_3, hcz16_4, hcz16_5, hcz16_6, hcz16_7, hcz16_8, hcz16_9, hcz16_10⟩ := cz11 BK135.out; obtain ⟨hfz16_0, hfz16_1, hfz16_2, hfz16_3, hfz16_4, hfz16_5, hfz16_6, hfz16_7, hfz16_8, hfz16_9, hfz16_10⟩ := fz11 BK135.out) | ((with_reducible refine gate_callee (f := 7) rfl ?_); refine gL 8 Try.func7 #[.agg #[.int .i64 a0_0, .int .i64 a0_1, .bool a0_2, .bool a0_3, .slice A0_4 l0_4.length c0_4, .slice A0_5 l0_5.length c0_5, .slice A0_6 l0_6.length c0_6, .slice A0_7 l0_7.length c0_7, .int .i64 a0_8], .int .i64 a1] ?_; (with_reducible refine (laws_szType.calls k a0_0 a0_1 a0_2 a0_3 _ _ l0_4 _ _ l0_5 _ _ l0_6 _ _ l0_7 a0_8 a1 t136 _ ?side1 ?side2 ?side3 ?side4 ?side5 ?side6 ?side7 ?side8 A3.out).mono ?_); (case side1 => exact kV (yY HR0_4.out HB.out)); (case side2 => exact HC0_4.out); (case side3 => exact kV (yY HR0_5.out HB.out)); (case side4 => exact HC0_5.out); (case side5 => exact kV (yY HR0_6.out HB.out)); (case side6 => exact HC0_6.out); (case side7 => exact kV (yY HR0_7.out HB.out)); (case side8 => exact HC0_7.out); rintro e w17 ⟨rfl, hb⟩; refine ⟨_, rfl, ?_⟩; replace BK135 := yD (zB (kN BK135) hb); replace HB := yD (zC (kB HB) hb); clear hb; obtain ⟨hcz18_0, hcz18_1, hcz18_2, hcz18_3, hcz18_4, hcz18_5, hcz18_6, hcz18_7, hcz18_8, hcz18_9, hcz18_10⟩ := cz11 BK135.out; obtain ⟨hfz18_0, hfz18_1, hfz18_2, hfz18_3, hfz18_4, hfz18_5, hfz18_6, hfz18_7, hfz18_8, hfz18_9, hfz18_10⟩ := fz11 BK135.out) | ((with_reducible refine gate_callee (f := 30) rfl ?_); refine gL 14 Try.func30 #[.slice A0_9 l0_9.length c0_9, .int .i64 t136] ?_; (with_reducible refine (laws_szInt64S.calls _ _ l0_9 t136 t137 _ ?side1 ?side2 A8.out).mono ?_); (case side1 => exact kV (yY HR0_9.out HB.out)); (case side2 => exact HC0_9.out); rintro e w' ⟨rfl, ⟨nd, rfl⟩⟩; refine ⟨_, rfl, ?_⟩))
     go_ret
     exact ⟨by first | rfl | (simp <;> rfl) | (simp [*] <;> rfl), kR0 HB⟩
   · rw [if_neg c14] at H
     have c14b0 : decide ((wrap64 (t137 - (a0_10.size : Int))) < 0) = false := zS c14; clear c14; obtain rfl := Option.some.inj H; go_enter Try.func24, Try.ntmps24
     go_wp2_with (first | ((with_reducible refine gate_dst (N := 2) rfl ?_); refine box_event ?hg (N := 2) ?hd (cs := #[.int .i64 a0_0, .int .i64 a0_1, .bool a0_2, .bool a0_3, .slice A0_4 l0_4.length c0_4, .slice A0_5 l0_5.length c0_5, .slice A0_6 l0_6.length c0_6, .slice A0_7 l0_7.length c0_7, .int .i64 a0_8, .slice A0_9 l0_9.length c0_9, .string a0_10]) (t := 52) ?hr ?_; (case hd => rfl); (case hg => rfl); (case hr => first | (go_simp; done) | (go_simp; rfl)); intro gb135 hg w19 hbox hb; have BK135 := yD (hbox); have GW135 := yD ((by rw [hg]; exact (below_size (kB HB)) : w.heap.size ≤ gb135)); have GE135 := yD ((by rw [hg]; exact (below_size (kB HB)) : w.heap.size ≤ gb135)); replace HB := yD (zC (kB HB) hb); clear hb hbox hg; obtain ⟨hcz20_0, hcz20_1, hcz20_2, hcz20_3, hcz20_4, hcz20_5, hcz20_6, hcz20_7, hcz20_8, hcz20_9, hcz20_10⟩ := cz11 BK135.out; obtain ⟨hfz20_0, hfz20_1, hfz20_2, hfz20_3, hfz20_4, hfz20_5, hfz20_6, hfz20_7, hfz20_8, hfz20_9, hfz20_10⟩ := fz11 BK135.out) | ((with_reducible refine gate_callee (f := 7) rfl ?_); refine gL 8 Try.func7 #[.agg #[.int .i64 a0_0, .int .i64 a0_1, .bool a0_2, .bool a0_3, .slice A0_4 l0_4.length c0_4, .slice A0_5 l0_5.length c0_5, .slice A0_6 l0_6.length c0_6, .slice A0_7 l0_7.length c0_7, .int .i64 a0_8], .int .i64 a1] ?_; (with_reducible refine (laws_szType.calls k a0_0 a0_1 a0_2 a0_3 _ _ l0_4 _ _ l0_5 _ _ l0_6 _ _ l0_7 a0_8 a1 t136 _ ?side1 ?side2 ?side3 ?side4 ?side5 ?side6 ?side7 ?side8 A3.out).mono ?_); (case side1 => exact kV (yY HR0_4.out HB.out)); (case side2 => exact HC0_4.out); (case side3 => exact kV (yY HR0_5.out HB.out)); (case side4 => exact HC0_5.out); (case side5 => exact kV (yY HR0_6.out HB.out)); (case side6 => exact HC0_6.out); (case side7 => exact kV (yY HR0_7.out HB.out)); (case side8 => exact HC0_7.out); rintro e w21 ⟨rfl, hb⟩; refine ⟨_, rfl, ?_⟩; replace BK135 := yD (zB (kN BK135) hb); replace HB := yD (zC (kB HB) hb); clear hb; obtain ⟨hcz22_0, hcz22_1, hcz22_2, hcz22_3, hcz22_4, hcz22_5, hcz22_6, hcz22_7, hcz22_8, hcz22_9, hcz22_10⟩ := cz11 BK135.out; obtain ⟨hfz22_0, hfz22_1, hfz22_2, hfz22_3, hfz22_4, hfz22_5, hfz22_6, hfz22_7, hfz22_8, hfz22_9, hfz22_10⟩ := fz11 BK135.out) | ((with_reducible refine gate_callee (f := 30) rfl ?_); refine gL 14 Try.func30 #[.slice A0_9 l0_9.length c0_9, .int .i64 t136] ?_; (with_reducible refine (laws_szInt64S.calls _ _ l0_9 t136 t137 _ ?side1 ?side2 A8.out).mono ?_); (case side1 => exact kV (yY HR0_9.out HB.out)); (case side2 => exact HC0_9.out); rintro e w' ⟨rfl, ⟨nd, rfl⟩⟩; refine ⟨_, rfl, ?_⟩))
     go_ret
     exact ⟨by first | rfl | (simp <;> rfl) | (simp [*] <;> rfl), kR0 HB⟩

/-! ### laws_toStringS: function 35 -/
def laws_toStringS.l0 : Nat → List ByteArray → List ByteArray → Int → Option (List ByteArray)
 | 0, _, _, _ => none
 | k + 1, x0, x3, x4 => if x4 < (x0.length : Int) then (if 0 ≤ x4 then (if x4 < (x3.length : Int) then (laws_toStringS.l0 k x0 (x3.set (x4 : Int).toNat (rdOf ByteArray.empty x0 x4)) (wrap64 (x4 + 1))) else (none)) else (none)) else (some x3)
def laws_toStringS.f (k : Nat) (l0 : List ByteArray) : Option (List ByteArray) := if 0 ≤ (l0.length : Int) then (if ((l0.length : Int) : Int).toNat ≤ 17592186044416 then (laws_toStringS.l0 k l0 (List.replicate ((l0.length : Int) : Int).toNat (⟨#[]⟩ : ByteArray)) 0) else (none)) else (none)
set_option maxHeartbeats 8000000 in
set_option maxRecDepth 100000 in
theorem laws_toStringS.calls (k : Nat) (A0 : Option Addr) (c0 : Nat) (l0 : List ByteArray) (r : List ByteArray) (w : World) (hr0 : Kd.C Kd.string w A0 l0.length l0) (hc0 : l0.length ≤ c0) (h : laws_toStringS.f k l0 = some r) :
 Calls Try.prog 35 #[.slice A0 l0.length c0] w fun e w' => ∃ v0_ : Value, e = .returned (v0_) ∧ Kd.R Kd.string 9 w' w.heap.size (fun _ => True) v0_ r ∧ Below w.heap.size w w' := by
 have HR0 := yD hr0
 have HC0 := yD hc0
 clear hr0 hc0
 have HB := yD (Below.refl w.heap.size w)
 have H : (if 0 ≤ (l0.length : Int) then (if ((l0.length : Int) : Int).toNat ≤ 17592186044416 then (laws_toStringS.l0 k l0 (List.replicate ((l0.length : Int) : Int).toNat (⟨#[]⟩ : ByteArray)) 0) else (none)) else (none)) = some r := h
 clear h
 by_cases c2 : 0 ≤ (l0.length : Int)
 ·
  rw [if_pos c2] at H
  have c2b0 := eq_true c2
  have c2b1 : decide (0 ≤ (l0.length : Int)) = true := zR c2; clear c2
  by_cases c3 : ((l0.length : Int) : Int).toNat ≤ 17592186044416
  ·
   rw [if_pos c3] at H
   have c3b0 := eq_true c3
   have c3b1 : decide (((l0.length : Int) : Int).toNat ≤ 17592186044416) = true := zR c3
   clear c3
   obtain ⟨y138, hy138⟩ : ∃ y_ : List ByteArray, y_ = (List.replicate ((l0.length : Int) : Int).toNat (⟨#[]⟩ : ByteArray)) := ⟨_, rfl⟩
   replace H : (laws_toStringS.l0 k l0 y138 0) = some r := by first | (rw [hy138]; with_reducible exact H) | (have H2_ := (Option.bind_some _ _).symm.trans H; rw [hy138]; with_reducible exact H2_) | (have H2_ := (Option.bind_some _ _).symm.trans H; with_reducible exact H2_) | with_reducible exact H | (rw [hy138]; exact H) | exact H
   have Ny138 := yD hy138
   clear hy138
   have H' := yD H
   clear H; go_enter Try.func35, Try.ntmps35
   go_wp2_with (first | ((with_reducible refine gate_dst (N := 7) rfl ?_); refine Kd.R_make Kd.string _ 9 rfl (N := 7) rfl 22 _ _ rfl (l0.length : Int) rfl rfl Try.underlying22 (.string ⟨#[]⟩) 16 info9 rfl (by decide) (by omega) (⟨#[]⟩ : ByteArray) (ok := fun _ => True) (okp := fun _ => True) rfl (fun _ hk => hk) trivial (zP (by assumption)) (Nat.le_trans (Nat.mul_le_mul_right _ (zP (by assumption) : (l0.length : Int).toNat ≤ 17592186044416)) (by omega)) (Below.refl _ _) (Nat.le_refl _) ?_; intro v139 w4 ho5 hb hg_ hnew_; clear hg_ hnew_; (first | rw [← Ny138.out] at ho5 | (simp only [Int.reduceToNat] at ho5; rw [← Ny138.out] at ho5)); have HO140 := yD (yZ ho5 (below_size (kB HB))); replace HB := yD (zC (kB HB) hb); clear hb ho5))
   (try simp only [Act.put, zH, zI, zJ])
   go_loopg [4] k (fun kq v4 w' => ∃ (x3_1 : List ByteArray) (x4_1 : Int), v4 = .int .i64 x4_1 ∧ Aside0 (laws_toStringS.l0 kq l0 x3_1 x4_1 = some r) ∧ Aside0 (kq ≤ k) ∧ Aside0 (Kd.R Kd.string 9 w' w.heap.size (fun _ => True) v139 x3_1) ∧ Aside0 (Below w.heap.size w w'))
   case atStart => exact ⟨(y138), (0), (by first | rfl | (simp; done) | (simp [*]; done)), H', ⟨Nat.le_refl _⟩, ⟨kA HO140⟩, ⟨kR1 HB⟩⟩
   case round =>
    clear H'
    try clear c2; try clear c2b0; try clear c2b1; try clear c3; try clear c3b0; try clear c3b1
    obtain ⟨x3_1, x4_1, rfl, HA, HK1, HO_3, HB⟩ := hrel
    cases gk with
    | zero => exact absurd HA.out (by simp [laws_toStringS.l0])
    | succ k1 =>
     have H := HA.out; clear HA
     simp only [laws_toStringS.l0] at H
     by_cases c6 : x4_1 < (l0.length : Int)
     ·
      rw [if_pos c6] at H
      have c6b0 : decide (x4_1 < (l0.length : Int)) = true := zR c6; clear c6
      by_cases c7 : 0 ≤ x4_1
      ·
       rw [if_pos c7] at H
       have c7b0 : decide (0 ≤ x4_1) = true := zR c7; clear c7
       by_cases c8 : x4_1 < (x3_1.length : Int)
       ·
        rw [if_pos c8] at H
        have c8b0 : decide (x4_1 < (x3_1.length : Int)) = true := zR c8; clear c8
        obtain ⟨y142, hy142⟩ : ∃ y_ : List ByteArray, y_ = (x3_1.set (x4_1 : Int).toNat (rdOf ByteArray.empty l0 x4_1)) := ⟨_, rfl⟩
        replace H : (laws_toStringS.l0 k1 l0 y142 (wrap64 (x4_1 + 1))) = some r := by first | (rw [hy142]; with_reducible exact H) | (have H2_ := (Option.bind_some _ _).symm.trans H; rw [hy142]; with_reducible exact H2_) | (have H2_ := (Option.bind_some _ _).symm.trans H; with_reducible exact H2_) | with_reducible exact H | (rw [hy142]; exact H) | exact H
        have Ny142 := yD hy142
        clear hy142
        have H' := yD H
        clear H
        have p141 : 0 ≤ (x4_1 : Int) := zP (by assumption)
        have q141 : x4_1 < (l0.length : Int) := zP (by assumption)
        obtain ⟨ad141, e141, hx141_0⟩ := Kd.at_string HR0.out x4_1 p141 q141
        cases e141
        replace hx141_0 := kCx1_ HB hx141_0
        replace p141 := eq_true p141; replace q141 := eq_true q141
        have p9 : 0 ≤ (x4_1 : Int) := zP (by assumption)
        have q9 : (x4_1 : Int) < ((x3_1.length : Int) : Int) := zP (by assumption)
        obtain ⟨go9, co9, eo9, gb9, gl9, cl9, HG9⟩ := Kd.R_form HO_3.out (by omega)
        (first | cases eo9 | (injection eo9 with ea_ en_ ec_; (first | subst ea_ | (injection ea_ with ea_; subst ea_)); subst ec_; clear en_))
        have GB9 := yD gb9
        have GG9 := yD HG9
        clear gb9 gl9 HG9
        obtain ⟨hx9_0, hf9_0⟩ := Kd.R_celln (⟨#[]⟩ : ByteArray) HO_3.out (x4_1 : Int) p9 q9
        replace p9 := eq_true p9; replace q9 := eq_true q9
        have HP10 := Kd.R_putg HO_3.out (x4_1 : Int) (rdOf ByteArray.empty l0 x4_1)
        go_wp2_with (first | ((with_reducible refine gate_store (t := 9) (p := 20) rfl ?_); refine store_event (t := 9) (p := 20) (v := ?vo_w11) (w1 := (wr.setCell ⟨go9, (x4_1 : Int).toNat, none⟩ (.string (rdOf ByteArray.empty l0 x4_1)))) ?hg ?ho ?hn ?hr ?_; (case ho => rfl); (case hg => rfl); (case hn => rfl); (case hr => first | (go_simp; done) | (go_simp; rfl)); intro w11 hw; have hg : wr.grownBy w11 (some go9) := (by rw [hw]; exact HP10.2); have hp_ : Kd.R Kd.string 9 w11 w.heap.size (fun _ => True) (.slice (some ⟨go9, 0, none⟩) x3_1.length co9) y142 := (by rw [hw, Ny142.out]; exact HP10.1); clear HP10; replace HO_3 := yD (hp_); replace HB := yD ((by rw [hw]; exact yE (HB.out) GB9.out : Below w.heap.size w w11)); clear hg hw hp_))
        go_roundg k1
        case measure => have := HK1.out; omega
        case rel => exact ⟨(y142), (wrap64 (x4_1 + 1)), (by first | rfl | (simp; done) | (simp [*]; done)), H', ⟨by have := HK1.out; omega⟩, ⟨kA HO_3⟩, ⟨kR1 HB⟩⟩
       · rw [if_neg c8] at H
         exact absurd H (by simp)
      · rw [if_neg c7] at H
        exact absurd H (by simp)
     · rw [if_neg c6] at H
       have c6b0 : decide (x4_1 < (l0.length : Int)) = false := zS c6; clear c6; obtain rfl := Option.some.inj H
       go_wp2
       go_ret
       exact ⟨_, by first | rfl | (simp <;> rfl) | (simp [*] <;> rfl), kA HO_3, kR1 HB⟩
  · rw [if_neg c3] at H
    exact absurd H (by simp)
 · rw [if_neg c2] at H
   exact absurd H (by simp)

/-! ### laws_toInt64S: function 36 -/
def laws_toInt64S.l0 : Nat → List Int → List Int → Int → Option (List Int)
 | 0, _, _, _ => none
 | k + 1, x0, x3, x4 => if x4 < (x0.length : Int) then (if 0 ≤ x4 then (if x4 < (x3.length : Int) then (laws_toInt64S.l0 k x0 (x3.set (x4 : Int).toNat (rd x0 x4)) (wrap64 (x4 + 1))) else (none)) else (none)) else (some x3)
def laws_toInt64S.f (k : Nat) (l0 : List Int) : Option (List Int) := if 0 ≤ (l0.length : Int) then (if ((l0.length : Int) : Int).toNat ≤ 35184372088832 then (laws_toInt64S.l0 k l0 (List.replicate ((l0.length : Int) : Int).toNat 0) 0) else (none)) else (none)
set_option maxHeartbeats 8000000 in
set_option maxRecDepth 100000 in
theorem laws_toInt64S.calls (k : Nat) (A0 : Option Addr) (c0 : Nat) (l0 : List Int) (r : List Int) (w : World) (hr0 : Kd.C (Kd.int .i64) w A0 l0.length l0) (hc0 : l0.length ≤ c0) (h : laws_toInt64S.f k l0 = some r) :
 Calls Try.prog 36 #[.slice A0 l0.length c0] w fun e w' => ∃ v0_ : Value, e = .returned (v0_) ∧ Kd.R (Kd.int .i64) 2 w' w.heap.size (fun _ => True) v0_ r ∧ Below w.heap.size w w' := by
 have HR0 := yD hr0
 have HC0 := yD hc0
 clear hr0 hc0
 have HB := yD (Below.refl w.heap.size w)
 have H : (if 0 ≤ (l0.length : Int) then (if ((l0.length : Int) : Int).toNat ≤ 35184372088832 then (laws_toInt64S.l0 k l0 (List.replicate ((l0.length : Int) : Int).toNat 0) 0) else (none)) else (none)) = some r := h
 clear h
 by_cases c2 : 0 ≤ (l0.length : Int)
 ·
  rw [if_pos c2] at H
  have c2b0 := eq_true c2
  have c2b1 : decide (0 ≤ (l0.length : Int)) = true := zR c2; clear c2
  by_cases c3 : ((l0.length : Int) : Int).toNat ≤ 35184372088832
  ·
   rw [if_pos c3] at H
   have c3b0 := eq_true c3
   have c3b1 : decide (((l0.length : Int) : Int).toNat ≤ 35184372088832) = true := zR c3
   clear c3
   obtain ⟨y143, hy143⟩ : ∃ y_ : List Int, y_ = (List.replicate ((l0.length : Int) : Int).toNat 0) := ⟨_, rfl⟩
   replace H : (laws_toInt64S.l0 k l0 y143 0) = some r := by first | (rw [hy143]; with_reducible exact H) | (have H2_ := (Option.bind_some _ _).symm.trans H; rw [hy143]; with_reducible exact H2_) | (have H2_ := (Option.bind_some _ _).symm.trans H; with_reducible exact H2_) | with_reducible exact H | (rw [hy143]; exact H) | exact H
   have Ny143 := yD hy143
   clear hy143
   have H' := yD H
   clear H; go_enter Try.func36, Try.ntmps36
   go_wp2_with (first | ((with_reducible refine gate_dst (N := 7) rfl ?_); refine Kd.R_make (Kd.int .i64) _ 2 rfl (N := 7) rfl 23 _ _ rfl (l0.length : Int) rfl rfl Try.underlying23 (.int .i64 0) 8 info2 rfl (by decide) (by omega) 0 (ok := fun _ => True) (okp := fun _ => True) rfl (fun _ hk => hk) trivial (zP (by assumption)) (Nat.le_trans (Nat.mul_le_mul_right _ (zP (by assumption) : (l0.length : Int).toNat ≤ 35184372088832)) (by omega)) (Below.refl _ _) (Nat.le_refl _) ?_; intro v144 w4 ho5 hb hg_ hnew_; clear hg_ hnew_; (first | rw [← Ny143.out] at ho5 | (simp only [Int.reduceToNat] at ho5; rw [← Ny143.out] at ho5)); have HO145 := yD (yZ ho5 (below_size (kB HB))); replace HB := yD (zC (kB HB) hb); clear hb ho5))
   (try simp only [Act.put, zH, zI, zJ])
   go_loopg [4] k (fun kq v4 w' => ∃ (x3_1 : List Int) (x4_1 : Int), v4 = .int .i64 x4_1 ∧ Aside0 (laws_toInt64S.l0 kq l0 x3_1 x4_1 = some r) ∧ Aside0 (kq ≤ k) ∧ Aside0 (Kd.R (Kd.int .i64) 2 w' w.heap.size (fun _ => True) v144 x3_1) ∧ Aside0 (Below w.heap.size w w'))
   case atStart => exact ⟨(y143), (0), (by first | rfl | (simp; done) | (simp [*]; done)), H', ⟨Nat.le_refl _⟩, ⟨kA HO145⟩, ⟨kR1 HB⟩⟩
   case round =>
    clear H'
    try clear c2; try clear c2b0; try clear c2b1; try clear c3; try clear c3b0; try clear c3b1
    obtain ⟨x3_1, x4_1, rfl, HA, HK1, HO_3, HB⟩ := hrel
    cases gk with
    | zero => exact absurd HA.out (by simp [laws_toInt64S.l0])
    | succ k1 =>
     have H := HA.out; clear HA
     simp only [laws_toInt64S.l0] at H
     by_cases c6 : x4_1 < (l0.length : Int)
     ·
      rw [if_pos c6] at H
      have c6b0 : decide (x4_1 < (l0.length : Int)) = true := zR c6; clear c6
      by_cases c7 : 0 ≤ x4_1
      ·
       rw [if_pos c7] at H
       have c7b0 : decide (0 ≤ x4_1) = true := zR c7; clear c7
       by_cases c8 : x4_1 < (x3_1.length : Int)
       ·
        rw [if_pos c8] at H
        have c8b0 : decide (x4_1 < (x3_1.length : Int)) = true := zR c8; clear c8
        obtain ⟨y147, hy147⟩ : ∃ y_ : List Int, y_ = (x3_1.set (x4_1 : Int).toNat (rd l0 x4_1)) := ⟨_, rfl⟩
        replace H : (laws_toInt64S.l0 k1 l0 y147 (wrap64 (x4_1 + 1))) = some r := by first | (rw [hy147]; with_reducible exact H) | (have H2_ := (Option.bind_some _ _).symm.trans H; rw [hy147]; with_reducible exact H2_) | (have H2_ := (Option.bind_some _ _).symm.trans H; with_reducible exact H2_) | with_reducible exact H | (rw [hy147]; exact H) | exact H
        have Ny147 := yD hy147
        clear hy147
        have H' := yD H
        clear H
        have p146 : 0 ≤ (x4_1 : Int) := zP (by assumption)
        have q146 : x4_1 < (l0.length : Int) := zP (by assumption)
        obtain ⟨ad146, e146, hx146_0⟩ := Kd.at_int HR0.out x4_1 p146 q146
        cases e146
        replace hx146_0 := kCx1_ HB hx146_0
        replace p146 := eq_true p146; replace q146 := eq_true q146
        have p9 : 0 ≤ (x4_1 : Int) := zP (by assumption)
        have q9 : (x4_1 : Int) < ((x3_1.length : Int) : Int) := zP (by assumption)
        obtain ⟨go9, co9, eo9, gb9, gl9, cl9, HG9⟩ := Kd.R_form HO_3.out (by omega)
        (first | cases eo9 | (injection eo9 with ea_ en_ ec_; (first | subst ea_ | (injection ea_ with ea_; subst ea_)); subst ec_; clear en_))
        have GB9 := yD gb9
        have GG9 := yD HG9
        clear gb9 gl9 HG9
        obtain ⟨hx9_0, hf9_0⟩ := Kd.R_celln 0 HO_3.out (x4_1 : Int) p9 q9
        replace p9 := eq_true p9; replace q9 := eq_true q9
        have HP10 := Kd.R_putg HO_3.out (x4_1 : Int) (rd l0 x4_1)
        go_wp2_with (first | ((with_reducible refine gate_store (t := 2) (p := 20) rfl ?_); refine store_event (t := 2) (p := 20) (v := ?vo_w11) (w1 := (wr.setCell ⟨go9, (x4_1 : Int).toNat, none⟩ (.int .i64 (rd l0 x4_1)))) ?hg ?ho ?hn ?hr ?_; (case ho => rfl); (case hg => rfl); (case hn => rfl); (case hr => first | (go_simp; done) | (go_simp; rfl)); intro w11 hw; have hg : wr.grownBy w11 (some go9) := (by rw [hw]; exact HP10.2); have hp_ : Kd.R (Kd.int .i64) 2 w11 w.heap.size (fun _ => True) (.slice (some ⟨go9, 0, none⟩) x3_1.length co9) y147 := (by rw [hw, Ny147.out]; exact HP10.1); clear HP10; replace HO_3 := yD (hp_); replace HB := yD ((by rw [hw]; exact yE (HB.out) GB9.out : Below w.heap.size w w11)); clear hg hw hp_))
        go_roundg k1
        case measure => have := HK1.out; omega
        case rel => exact ⟨(y147), (wrap64 (x4_1 + 1)), (by first | rfl | (simp; done) | (simp [*]; done)), H', ⟨by have := HK1.out; omega⟩, ⟨kA HO_3⟩, ⟨kR1 HB⟩⟩
       · rw [if_neg c8] at H
         exact absurd H (by simp)
      · rw [if_neg c7] at H
        exact absurd H (by simp)
     · rw [if_neg c6] at H
       have c6b0 : decide (x4_1 < (l0.length : Int)) = false := zS c6; clear c6; obtain rfl := Option.some.inj H
       go_wp2
       go_ret
       exact ⟨_, by first | rfl | (simp <;> rfl) | (simp [*] <;> rfl), kA HO_3, kR1 HB⟩
  · rw [if_neg c3] at H
    exact absurd H (by simp)
 · rw [if_neg c2] at H
   exact absurd H (by simp)

/-! ### laws_toMember: function 63 -/
def laws_toMember.f (Y_ : Int → Int → Bool → Bool → List ByteArray → List Int → List (S91) → List (S27) → Int → Option (Int × Int × Bool × Bool × List ByteArray × List Int × (List (S64)) × (List (S33)) × Int)) (k : Nat) (a0_0 : ByteArray) (a0_1 : Int) (a0_2 : Int) (a0_3 : Int) (a0_4 : Bool) (a0_5 : Bool) (l0_6 : List ByteArray) (l0_7 : List Int) (l0_8 : List (S91)) (l0_9 : List (S27)) (a0_10 : Int) : Option (ByteArray × Int × Int × Int × Bool × Bool × List ByteArray × List Int × (List (S64)) × (List (S33)) × Int) := (Y_ a0_2 a0_3 a0_4 a0_5 l0_6 l0_7 l0_8 l0_9 a0_10).bind fun bt232 => (some (a0_0, a0_1, bt232.1, bt232.2.1, bt232.2.2.1, bt232.2.2.2.1, bt232.2.2.2.2.1, bt232.2.2.2.2.2.1, bt232.2.2.2.2.2.2.1, bt232.2.2.2.2.2.2.2.1, bt232.2.2.2.2.2.2.2.2))
set_option maxHeartbeats 8000000 in
set_option maxRecDepth 100000 in
theorem laws_toMember.calls (Y_ : Int → Int → Bool → Bool → List ByteArray → List Int → List (S91) → List (S27) → Int → Option (Int × Int × Bool × Bool × List ByteArray × List Int × (List (S64)) × (List (S33)) × Int)) (HY_ : ∀ (a0_0 : Int) (a0_1 : Int) (a0_2 : Bool) (a0_3 : Bool) (A0_4 : Option Addr) (c0_4 : Nat) (l0_4 : List ByteArray) (A0_5 : Option Addr) (c0_5 : Nat) (l0_5 : List Int) (A0_6 : Option Addr) (c0_6 : Nat) (l0_6 : List (S91)) (A0_7 : Option Addr) (c0_7 : Nat) (l0_7 : List (S27)) (a0_8 : Int) (r1 : Int) (r2 : Int) (r3 : Bool) (r4 : Bool) (r5 : List ByteArray) (r6 : List Int) (r7 : List (S64)) (r8 : List (S33)) (r9 : Int) (w : World) (hr0_4 : Kd.C Kd.string w A0_4 l0_4.length l0_4) (hc0_4 : l0_4.length ≤ c0_4) (hr0_5 : Kd.C (Kd.int .i64) w A0_5 l0_5.length l0_5) (hc0_5 : l0_5.length ≤ c0_5) (hr0_6 : Kd.C k91 w A0_6 l0_6.length l0_6) (hc0_6 : l0_6.length ≤ c0_6) (hr0_7 : Kd.C k27 w A0_7 l0_7.length l0_7) (hc0_7 : l0_7.length ≤ c0_7) (h : Y_ a0_0 a0_1 a0_2 a0_3 l0_4 l0_5 l0_6 l0_7 a0_8 = some (r1, r2, r3, r4, r5, r6, r7, r8, r9)), Calls Try.prog 9 #[.agg #[.int .i64 a0_0, .int .i64 a0_1, .bool a0_2, .bool a0_3, .slice A0_4 l0_4.length c0_4, .slice A0_5 l0_5.length c0_5, .slice A0_6 l0_6.length c0_6, .slice A0_7 l0_7.length c0_7, .int .i64 a0_8]] w fun e w' => ∃ v4_ v5_ v6_ v7_ : Value, e = .returned (.agg #[.int .i64 r1, .int .i64 r2, .bool r3, .bool r4, v4_, v5_, v6_, v7_, .int .i64 r9]) ∧ Kd.R Kd.string 9 w' w.heap.size (fun _ => True) v4_ r5 ∧ Kd.R (Kd.int .i64) 2 w' w.heap.size (fun _ => True) v5_ r6 ∧ Kd.R k64 64 w' w.heap.size (fun k_ => some k_ ≠ (v4_ : Value).ownBlock ∧ some k_ ≠ (v5_ : Value).ownBlock ∧ some k_ ≠ (v7_ : Value).ownBlock) v6_ r7 ∧ Kd.R k33 33 w' w.heap.size (fun k_ => some k_ ≠ (v4_ : Value).ownBlock ∧ some k_ ≠ (v5_ : Value).ownBlock ∧ some k_ ≠ (v6_ : Value).ownBlock) v7_ r8 ∧ Below w.heap.size w w') (k : Nat) (a0_0 : ByteArray) (a0_1 : Int) (a0_2 : Int) (a0_3 : Int) (a0_4 : Bool) (a0_5 : Bool) (A0_6 : Option Addr) (c0_6 : Nat) (l0_6 : List ByteArray) (A0_7 : Option Addr) (c0_7 : Nat) (l0_7 : List Int) (A0_8 : Option Addr) (c0_8 : Nat) (l0_8 : List (S91)) (A0_9 : Option Addr) (c0_9 : Nat) (l0_9 : List (S27)) (a0_10 : Int) (r1 : ByteArray) (r2 : Int) (r3 : Int) (r4 : Int) (r5 : Bool) (r6 : Bool) (r7 : List ByteArray) (r8 : List Int) (r9 : List (S64)) (r10 : List (S33)) (r11 : Int) (w : World) (hr0_6 : Kd.C Kd.string w A0_6 l0_6.length l0_6) (hc0_6 : l0_6.length ≤ c0_6) (hr0_7 : Kd.C (Kd.int .i64) w A0_7 l0_7.length l0_7) (hc0_7 : l0_7.length ≤ c0_7) (hr0_8 : Kd.C k91 w A0_8 l0_8.length l0_8) (hc0_8 : l0_8.length ≤ c0_8) (hr0_9 : Kd.C k27 w A0_9 l0_9.length l0_9) (hc0_9 : l0_9.length ≤ c0_9) (h : laws_toMember.f Y_ k a0_0 a0_1 a0_2 a0_3 a0_4 a0_5 l0_6 l0_7 l0_8 l0_9 a0_10 = some (r1, r2, r3, r4, r5, r6, r7, r8, r9, r10, r11)) :
 Calls Try.prog 63 #[.agg #[.string a0_0, .int .i64 a0_1, .int .i64 a0_2, .int .i64 a0_3, .bool a0_4, .bool a0_5, .slice A0_6 l0_6.length c0_6, .slice A0_7 l0_7.length c0_7, .slice A0_8 l0_8.length c0_8, .slice A0_9 l0_9.length c0_9, .int .i64 a0_10]] w fun e w' => ∃ v6_ v7_ v8_ v9_ : Value, e = .returned (.agg #[.string r1, .int .i64 r2, .int .i64 r3, .int .i64 r4, .bool r5, .bool r6, v6_, v7_, v8_, v9_, .int .i64 r11]) ∧ Kd.R Kd.string 9 w' w.heap.size (fun _ => True) v6_ r7 ∧ Kd.R (Kd.int .i64) 2 w' w.heap.size (fun _ => True) v7_ r8 ∧ Kd.R k64 64 w' w.heap.size (fun k_ => some k_ ≠ (v6_ : Value).ownBlock ∧ some k_ ≠ (v7_ : Value).ownBlock ∧ some k_ ≠ (v9_ : Value).ownBlock) v8_ r9 ∧ Kd.R k33 33 w' w.heap.size (fun k_ => some k_ ≠ (v6_ : Value).ownBlock ∧ some k_ ≠ (v7_ : Value).ownBlock ∧ some k_ ≠ (v8_ : Value).ownBlock) v9_ r10 ∧ Below w.heap.size w w' := by
 have hu91 := Try.underlying91; have hu64 := Try.underlying64; have hu27 := Try.underlying27; have hu33 := Try.underlying33
 have HR0_6 := yD hr0_6
 have HC0_6 := yD hc0_6
 clear hr0_6 hc0_6
 have HR0_7 := yD hr0_7
 have HC0_7 := yD hc0_7
 clear hr0_7 hc0_7
 have HR0_8 := yD hr0_8
 have HC0_8 := yD hc0_8
 clear hr0_8 hc0_8
 have HR0_9 := yD hr0_9
 have HC0_9 := yD hc0_9
 clear hr0_9 hc0_9
 have HB := yD (Below.refl w.heap.size w)
 have H : ((Y_ a0_2 a0_3 a0_4 a0_5 l0_6 l0_7 l0_8 l0_9 a0_10).bind fun bt232 => (some (a0_0, a0_1, bt232.1, bt232.2.1, bt232.2.2.1, bt232.2.2.2.1, bt232.2.2.2.2.1, bt232.2.2.2.2.2.1, bt232.2.2.2.2.2.2.1, bt232.2.2.2.2.2.2.2.1, bt232.2.2.2.2.2.2.2.2))) = some (r1, r2, r3, r4, r5, r6, r7, r8, r9, r10, r11) := h
 clear h
 obtain ⟨⟨t232, t233, t234, t235, t236, t239, t242, t245, t248⟩, A20, H⟩ := zW_ H
 replace H : (some (a0_0, a0_1, t232, t233, t234, t235, t236, t239, t242, t245, t248)) = some (r1, r2, r3, r4, r5, r6, r7, r8, r9, r10, r11) := H
 have A2 := yD A20
 clear A20
 simp only [Option.some.injEq, Prod.mk.injEq] at H
 obtain ⟨rfl, rfl, rfl, rfl, rfl, rfl, rfl, rfl, rfl, rfl, rfl⟩ := H
 go_enter Try.func63, Try.ntmps63
 go_wp2_with (first | ((with_reducible refine gate_dst (N := 1) rfl ?_); refine box_event ?hg (N := 1) ?hd (cs := #[.string a0_0, .int .i64 a0_1, .int .i64 a0_2, .int .i64 a0_3, .bool a0_4, .bool a0_5, .slice A0_6 l0_6.length c0_6, .slice A0_7 l0_7.length c0_7, .slice A0_8 l0_8.length c0_8, .slice A0_9 l0_9.length c0_9, .int .i64 a0_10]) (t := 91) ?hr ?_; (case hd => rfl); (case hg => rfl); (case hr => first | (go_simp; done) | (go_simp; rfl)); intro gb229 hg w3 hbox hb; have BK229 := yD (hbox); have GW229 := yD ((by rw [hg]; exact (below_size (kB HB)) : w.heap.size ≤ gb229)); have GE229 := yD ((by rw [hg]; exact (below_size (kB HB)) : w.heap.size ≤ gb229)); replace HB := yD (zC (kB HB) hb); clear hb hbox hg) | ((with_reducible refine gate_dst (N := 2) rfl ?_); refine box_event ?hg (N := 2) ?hd (cs := #[.string (⟨#[]⟩ : ByteArray), .int .i64 0, .int .i64 0, .int .i64 0, .bool false, .bool false, .slice none 0 0, .slice none 0 0, .slice none 0 0, .slice none 0 0, .int .i64 0]) (t := 64) ?hr ?_; (case hd => rfl); (case hg => rfl); (case hr => first | (go_simp; done) | (go_simp; rfl)); intro gb230 hg w4 hbox hb; have BK230 := yD (hbox); have GW230 := yD ((by rw [hg]; exact (below_size (kB HB)) : w.heap.size ≤ gb230)); have GE230 := yD ((by rw [hg]; exact (below_size (kB HB)) : w.heap.size ≤ gb230)); replace HB := yD (zC (kB HB) hb); have NB229_230 := yD ((by rw [hg]; exact Nat.ne_of_lt (blk_lt (kN BK229)) : gb229 ≠ gb230)); have NB230_229 := yD ((by rw [hg]; exact Nat.ne_of_gt (blk_lt (kN BK229)) : gb230 ≠ gb229)); replace BK229 := yD (zB (kN BK229) hb); clear hb hbox hg) | ((with_reducible refine gate_dst (N := 3) rfl ?_); refine box_event ?hg (N := 3) ?hd (cs := #[.string (⟨#[]⟩ : ByteArray), .int .i64 0, .int .i64 0, .int .i64 0, .bool false, .bool false, .slice none 0 0, .slice none 0 0, .slice none 0 0, .slice none 0 0, .int .i64 0]) (t := 64) ?hr ?_; (case hd => rfl); (case hg => rfl); (case hr => first | (go_simp; done) | (go_simp; rfl)); intro gb231 hg w5 hbox hb; have BK231 := yD (hbox); have GW231 := yD ((by rw [hg]; exact (below_size (kB HB)) : w.heap.size ≤ gb231)); have GE231 := yD ((by rw [hg]; exact (below_size (kB HB)) : w.heap.size ≤ gb231)); replace HB := yD (zC (kB HB) hb); have NB229_231 := yD ((by rw [hg]; exact Nat.ne_of_lt (blk_lt (kN BK229)) : gb229 ≠ gb231)); have NB231_229 := yD ((by rw [hg]; exact Nat.ne_of_gt (blk_lt (kN BK229)) : gb231 ≠ gb229)); replace BK229 := yD (zB (kN BK229) hb); have NB230_231 := yD ((by rw [hg]; exact Nat.ne_of_lt (blk_lt (kN BK230)) : gb230 ≠ gb231)); have NB231_230 := yD ((by rw [hg]; exact Nat.ne_of_gt (blk_lt (kN BK230)) : gb231 ≠ gb230)); replace BK230 := yD (zB (kN BK230) hb); clear hb hbox hg; have hnb6 := NB229_230.out; have hnc6 := NB230_229.out; have hnb7 := NB229_231.out; have hnc7 := NB231_229.out; obtain ⟨hcz8_0, hcz8_1, hcz8_2, hcz8_3, hcz8_4, hcz8_5, hcz8_6, hcz8_7, hcz8_8, hcz8_9, hcz8_10⟩ := cz11 BK229.out; obtain ⟨hfz8_0, hfz8_1, hfz8_2, hfz8_3, hfz8_4, hfz8_5, hfz8_6, hfz8_7, hfz8_8, hfz8_9, hfz8_10⟩ := fz11 BK229.out; have hnb9 := NB231_230.out; have hnc9 := NB230_231.out; obtain ⟨hcz10_0, hcz10_1, hcz10_2, hcz10_3, hcz10_4, hcz10_5, hcz10_6, hcz10_7, hcz10_8, hcz10_9, hcz10_10⟩ := cz11 BK231.out; obtain ⟨hfz10_0, hfz10_1, hfz10_2, hfz10_3, hfz10_4, hfz10_5, hfz10_6, hfz10_7, hfz10_8, hfz10_9, hfz10_10⟩ := fz11 BK231.out) | ((with_reducible refine gate_callee (f := 9) rfl ?_); refine gL 12 Try.func9 #[.agg #[.int .i64 a0_2, .int .i64 a0_3, .bool a0_4, .bool a0_5, .slice A0_6 l0_6.length c0_6, .slice A0_7 l0_7.length c0_7, .slice A0_8 l0_8.length c0_8, .slice A0_9 l0_9.length c0_9, .int .i64 a0_10]] ?_; (with_reducible refine (HY_ a0_2 a0_3 a0_4 a0_5 _ _ l0_6 _ _ l0_7 _ _ l0_8 _ _ l0_9 a0_10 t232 t233 t234 t235 t236 t239 t242 t245 t248 _ ?side1 ?side2 ?side3 ?side4 ?side5 ?side6 ?side7 ?side8 A2.out).mono ?_); (case side1 => exact yY HR0_6.out (kB HB)); (case side2 => exact HC0_6.out); (case side3 => exact yY HR0_7.out (kB HB)); (case side4 => exact HC0_7.out); (case side5 => exact yY HR0_8.out (kB HB)); (case side6 => exact HC0_8.out); (case side7 => exact yY HR0_9.out (kB HB)); (case side8 => exact HC0_9.out); rintro e w11 ⟨v237, v240, v243, v246, rfl, ho0, ho1, ho2, ho3, hb⟩; refine ⟨_, rfl, ?_⟩; have HO238 := yD (yZ ho0 (below_size (kB HB))); have HO241 := yD (yZ ho1 (below_size (kB HB))); have HO244 := yD (yZ (Kd.R_newB (Kd.R_newB ho2 (g := gb230) (o := .cells #[.string (⟨#[]⟩ : ByteArray), .int .i64 0, .int .i64 0, .int .i64 0, .bool false, .bool false, .slice none 0 0, .slice none 0 0, .slice none 0 0, .slice none 0 0, .int .i64 0] 64 (0, 0)) (by (with_reducible repeat (first | refine yM ?_ _ | refine yO ?_ | refine yN ?_ _)); refine blk_far ?_ NB230_231.out _; (with_reducible repeat (first | refine yM ?_ _ | refine yO ?_ | refine yN ?_ _)); refine blk_far ?_ NB230_231.out _; (with_reducible repeat (first | refine yM ?_ _ | refine yO ?_ | refine yN ?_ _)); exact BK230.out)) (g := gb231) (o := .cells #[.string a0_0, .int .i64 a0_1, .int .i64 0, .int .i64 0, .bool false, .bool false, .slice none 0 0, .slice none 0 0, .slice none 0 0, .slice none 0 0, .int .i64 0] 64 (0, 0)) (by (with_reducible repeat (first | refine yM ?_ _ | refine yO ?_ | refine yN ?_ _)); refine blk_put (cs := #[.string a0_0, .int .i64 0, .int .i64 0, .int .i64 0, .bool false, .bool false, .slice none 0 0, .slice none 0 0, .slice none 0 0, .slice none 0 0, .int .i64 0]) ?_ 1 _ rfl; (with_reducible repeat (first | refine yM ?_ _ | refine yO ?_ | refine yN ?_ _)); refine blk_put (cs := #[.string (⟨#[]⟩ : ByteArray), .int .i64 0, .int .i64 0, .int .i64 0, .bool false, .bool false, .slice none 0 0, .slice none 0 0, .slice none 0 0, .slice none 0 0, .int .i64 0]) ?_ 0 _ rfl; (with_reducible repeat (first | refine yM ?_ _ | refine yO ?_ | refine yN ?_ _)); exact BK231.out)) (below_size (kB HB))); have HO247 := yD (yZ (Kd.R_newB (Kd.R_newB ho3 (g := gb230) (o := .cells #[.string (⟨#[]⟩ : ByteArray), .int .i64 0, .int .i64 0, .int .i64 0, .bool false, .bool false, .slice none 0 0, .slice none 0 0, .slice none 0 0, .slice none 0 0, .int .i64 0] 64 (0, 0)) (by (with_reducible repeat (first | refine yM ?_ _ | refine yO ?_ | refine yN ?_ _)); refine blk_far ?_ NB230_231.out _; (with_reducible repeat (first | refine yM ?_ _ | refine yO ?_ | refine yN ?_ _)); refine blk_far ?_ NB230_231.out _; (with_reducible repeat (first | refine yM ?_ _ | refine yO ?_ | refine yN ?_ _)); exact BK230.out)) (g := gb231) (o := .cells #[.string a0_0, .int .i64 a0_1, .int .i64 0, .int .i64 0, .bool false, .bool false, .slice none 0 0, .slice none 0 0, .slice none 0 0, .slice none 0 0, .int .i64 0] 64 (0, 0)) (by (with_reducible repeat (first | refine yM ?_ _ | refine yO ?_ | refine yN ?_ _)); refine blk_put (cs := #[.string a0_0, .int .i64 0, .int .i64 0, .int .i64 0, .bool false, .bool false, .slice none 0 0, .slice none 0 0, .slice none 0 0, .slice none 0 0, .int .i64 0]) ?_ 1 _ rfl; (with_reducible repeat (first | refine yM ?_ _ | refine yO ?_ | refine yN ?_ _)); refine blk_put (cs := #[.string (⟨#[]⟩ : ByteArray), .int .i64 0, .int .i64 0, .int .i64 0, .bool false, .bool false, .slice none 0 0, .slice none 0 0, .slice none 0 0, .slice none 0 0, .int .i64 0]) ?_ 0 _ rfl; (with_reducible repeat (first | refine yM ?_ _ | refine yO ?_ | refine yN ?_ _)); exact BK231.out)) (below_size (kB HB))); replace BK229 := yD (zB (g := gb229) (o := .cells #[.string a0_0, .int .i64 a0_1, .int .i64 a0_2, .int .i64 a0_3, .bool a0_4, .bool a0_5, .slice A0_6 l0_6.length c0_6, .slice A0_7 l0_7.length c0_7, .slice A0_8 l0_8.length c0_8, .slice A0_9 l0_9.length c0_9, .int .i64 a0_10] 91 (0, 0)) (by (with_reducible repeat (first | refine yM ?_ _ | refine yO ?_ | refine yN ?_ _)); refine blk_far ?_ NB229_231.out _; (with_reducible repeat (first | refine yM ?_ _ | refine yO ?_ | refine yN ?_ _)); refine blk_far ?_ NB229_231.out _; (with_reducible repeat (first | refine yM ?_ _ | refine yO ?_ | refine yN ?_ _)); exact BK229.out) hb); replace BK230 := yD (zB (g := gb230) (o := .cells #[.string (⟨#[]⟩ : ByteArray), .int .i64 0, .int .i64 0, .int .i64 0, .bool false, .bool false, .slice none 0 0, .slice none 0 0, .slice none 0 0, .slice none 0 0, .int .i64 0] 64 (0, 0)) (by (with_reducible repeat (first | refine yM ?_ _ | refine yO ?_ | refine yN ?_ _)); refine blk_far ?_ NB230_231.out _; (with_reducible repeat (first | refine yM ?_ _ | refine yO ?_ | refine yN ?_ _)); refine blk_far ?_ NB230_231.out _; (with_reducible repeat (first | refine yM ?_ _ | refine yO ?_ | refine yN ?_ _)); exact BK230.out) hb); replace BK231 := yD (zB (g := gb231) (o := .cells #[.string a0_0, .int .i64 a0_1, .int .i64 0, .int .i64 0, .bool false, .bool false, .slice none 0 0, .slice none 0 0, .slice none 0 0, .slice none 0 0, .int .i64 0] 64 (0, 0)) (by (with_reducible repeat (first | refine yM ?_ _ | refine yO ?_ | refine yN ?_ _)); refine blk_put (cs := #[.string a0_0, .int .i64 0, .int .i64 0, .int .i64 0, .bool false, .bool false, .slice none 0 0, .slice none 0 0, .slice none 0 0, .slice none 0 0, .int .i64 0]) ?_ 1 _ rfl; (with_reducible repeat (first | refine yM ?_ _ | refine yO ?_ | refine yN ?_ _)); refine blk_put (cs := #[.string (⟨#[]⟩ : ByteArray), .int .i64 0, .int .i64 0, .int .i64 0, .bool false, .bool false, .slice none 0 0, .slice none 0 0, .slice none 0 0, .slice none 0 0, .int .i64 0]) ?_ 0 _ rfl; (with_reducible repeat (first | refine yM ?_ _ | refine yO ?_ | refine yN ?_ _)); exact BK231.out) hb); replace HB := yD (zC (kB HB) hb); clear hb ho0 ho1 ho2 ho3; obtain ⟨hcz12_0, hcz12_1, hcz12_2, hcz12_3, hcz12_4, hcz12_5, hcz12_6, hcz12_7, hcz12_8, hcz12_9, hcz12_10⟩ := cz11 BK231.out; obtain ⟨hfz12_0, hfz12_1, hfz12_2, hfz12_3, hfz12_4, hfz12_5, hfz12_6, hfz12_7, hfz12_8, hfz12_9, hfz12_10⟩ := fz11 BK231.out; obtain ⟨Ao13, co13, eo13⟩ := Kd.R_slice HO238.out; subst eo13; obtain ⟨Ao14, co14, eo14⟩ := Kd.R_slice HO241.out; subst eo14; obtain ⟨Ao15, co15, eo15⟩ := Kd.R_slice HO244.out; subst eo15; obtain ⟨Ao16, co16, eo16⟩ := Kd.R_slice HO247.out; subst eo16; obtain ⟨hcz17_0, hcz17_1, hcz17_2, hcz17_3, hcz17_4, hcz17_5, hcz17_6, hcz17_7, hcz17_8, hcz17_9, hcz17_10⟩ := cz11 BK230.out; obtain ⟨hfz17_0, hfz17_1, hfz17_2, hfz17_3, hfz17_4, hfz17_5, hfz17_6, hfz17_7, hfz17_8, hfz17_9, hfz17_10⟩ := fz11 BK230.out))
 refine bodyPost_ret (results_cell_row rfl _ _ gb230 64 #[.string a0_0, .int .i64 a0_1, .int .i64 t232, .int .i64 t233, .bool t234, .bool t235, .slice Ao13 t236.length co13, .slice Ao14 t239.length co14, .slice Ao15 t242.length co15, .slice Ao16 t245.length co16, .int .i64 t248] (0, 0) _ rfl (by (with_reducible repeat (first | refine yM ?_ _ | refine yO ?_ | refine yN ?_ _)); refine blk_put (cs := #[.string a0_0, .int .i64 a0_1, .int .i64 t232, .int .i64 t233, .bool t234, .bool t235, .slice Ao13 t236.length co13, .slice Ao14 t239.length co14, .slice Ao15 t242.length co15, .slice Ao16 t245.length co16, .int .i64 0]) ?_ 10 _ rfl; (with_reducible repeat (first | refine yM ?_ _ | refine yO ?_ | refine yN ?_ _)); refine blk_put (cs := #[.string a0_0, .int .i64 a0_1, .int .i64 t232, .int .i64 t233, .bool t234, .bool t235, .slice Ao13 t236.length co13, .slice Ao14 t239.length co14, .slice Ao15 t242.length co15, .slice none 0 0, .int .i64 0]) ?_ 9 _ rfl; (with_reducible repeat (first | refine yM ?_ _ | refine yO ?_ | refine yN ?_ _)); refine blk_put (cs := #[.string a0_0, .int .i64 a0_1, .int .i64 t232, .int .i64 t233, .bool t234, .bool t235, .slice Ao13 t236.length co13, .slice Ao14 t239.length co14, .slice none 0 0, .slice none 0 0, .int .i64 0]) ?_ 8 _ rfl; (with_reducible repeat (first | refine yM ?_ _ | refine yO ?_ | refine yN ?_ _)); refine blk_put (cs := #[.string a0_0, .int .i64 a0_1, .int .i64 t232, .int .i64 t233, .bool t234, .bool t235, .slice Ao13 t236.length co13, .slice none 0 0, .slice none 0 0, .slice none 0 0, .int .i64 0]) ?_ 7 _ rfl; (with_reducible repeat (first | refine yM ?_ _ | refine yO ?_ | refine yN ?_ _)); refine blk_put (cs := #[.string a0_0, .int .i64 a0_1, .int .i64 t232, .int .i64 t233, .bool t234, .bool t235, .slice none 0 0, .slice none 0 0, .slice none 0 0, .slice none 0 0, .int .i64 0]) ?_ 6 _ rfl; (with_reducible repeat (first | refine yM ?_ _ | refine yO ?_ | refine yN ?_ _)); refine blk_put (cs := #[.string a0_0, .int .i64 a0_1, .int .i64 t232, .int .i64 t233, .bool t234, .bool false, .slice none 0 0, .slice none 0 0, .slice none 0 0, .slice none 0 0, .int .i64 0]) ?_ 5 _ rfl; (with_reducible repeat (first | refine yM ?_ _ | refine yO ?_ | refine yN ?_ _)); refine blk_put (cs := #[.string a0_0, .int .i64 a0_1, .int .i64 t232, .int .i64 t233, .bool false, .bool false, .slice none 0 0, .slice none 0 0, .slice none 0 0, .slice none 0 0, .int .i64 0]) ?_ 4 _ rfl; (with_reducible repeat (first | refine yM ?_ _ | refine yO ?_ | refine yN ?_ _)); refine blk_put (cs := #[.string a0_0, .int .i64 a0_1, .int .i64 t232, .int .i64 0, .bool false, .bool false, .slice none 0 0, .slice none 0 0, .slice none 0 0, .slice none 0 0, .int .i64 0]) ?_ 3 _ rfl; (with_reducible repeat (first | refine yM ?_ _ | refine yO ?_ | refine yN ?_ _)); refine blk_put (cs := #[.string a0_0, .int .i64 a0_1, .int .i64 0, .int .i64 0, .bool false, .bool false, .slice none 0 0, .slice none 0 0, .slice none 0 0, .slice none 0 0, .int .i64 0]) ?_ 2 _ rfl; (with_reducible repeat (first | refine yM ?_ _ | refine yO ?_ | refine yN ?_ _)); refine blk_put (cs := #[.string a0_0, .int .i64 0, .int .i64 0, .int .i64 0, .bool false, .bool false, .slice none 0 0, .slice none 0 0, .slice none 0 0, .slice none 0 0, .int .i64 0]) ?_ 1 _ rfl; (with_reducible repeat (first | refine yM ?_ _ | refine yO ?_ | refine yN ?_ _)); refine blk_put (cs := #[.string (⟨#[]⟩ : ByteArray), .int .i64 0, .int .i64 0, .int .i64 0, .bool false, .bool false, .slice none 0 0, .slice none 0 0, .slice none 0 0, .slice none 0 0, .int .i64 0]) ?_ 0 _ rfl; (with_reducible repeat (first | refine yM ?_ _ | refine yO ?_ | refine yN ?_ _)); refine blk_far ?_ NB230_231.out _; (with_reducible repeat (first | refine yM ?_ _ | refine yO ?_ | refine yN ?_ _)); refine blk_far ?_ NB230_231.out _; (with_reducible repeat (first | refine yM ?_ _ | refine yO ?_ | refine yN ?_ _)); refine blk_far ?_ NB230_231.out _; (with_reducible repeat (first | refine yM ?_ _ | refine yO ?_ | refine yN ?_ _)); refine blk_far ?_ NB230_231.out _; (with_reducible repeat (first | refine yM ?_ _ | refine yO ?_ | refine yN ?_ _)); refine blk_far ?_ NB230_231.out _; (with_reducible repeat (first | refine yM ?_ _ | refine yO ?_ | refine yN ?_ _)); refine blk_far ?_ NB230_231.out _; (with_reducible repeat (first | refine yM ?_ _ | refine yO ?_ | refine yN ?_ _)); refine blk_far ?_ NB230_231.out _; (with_reducible repeat (first | refine yM ?_ _ | refine yO ?_ | refine yN ?_ _)); refine blk_far ?_ NB230_231.out _; (with_reducible repeat (first | refine yM ?_ _ | refine yO ?_ | refine yN ?_ _)); refine blk_far ?_ NB230_231.out _; (with_reducible repeat (first | refine yM ?_ _ | refine yO ?_ | refine yN ?_ _)); exact BK230.out) Try.underlying64 rfl (by kernel_rfl)) rfl ?_
 exact ⟨_, _, _, _, by first | rfl | (simp <;> rfl) | (simp [*] <;> rfl), by (with_reducible repeat (first | apply yA | apply yB | apply yC)); exact zF (yF (p := ⟨gb230, 10, none⟩) (yF (p := ⟨gb230, 9, none⟩) (yF (p := ⟨gb230, 8, none⟩) (yF (p := ⟨gb230, 7, none⟩) (yF (p := ⟨gb230, 6, none⟩) (yF (p := ⟨gb230, 5, none⟩) (yF (p := ⟨gb230, 4, none⟩) (yF (p := ⟨gb230, 3, none⟩) (yF (p := ⟨gb230, 2, none⟩) (yF (p := ⟨gb230, 1, none⟩) (yF (p := ⟨gb230, 0, none⟩) (yF (p := ⟨gb231, 10, none⟩) (yF (p := ⟨gb231, 9, none⟩) (yF (p := ⟨gb231, 8, none⟩) (yF (p := ⟨gb231, 7, none⟩) (yF (p := ⟨gb231, 6, none⟩) (yF (p := ⟨gb231, 5, none⟩) (yF (p := ⟨gb231, 4, none⟩) (yF (p := ⟨gb231, 3, none⟩) (yF (p := ⟨gb231, 2, none⟩) (Kd.R_types (Kd.R_types HO238.out BK231.out (by decide)) BK230.out (by decide)) (fun _ hk => hk.1.2) (.int .i64 t232)) (fun _ hk => hk.1.2) (.int .i64 t233)) (fun _ hk => hk.1.2) (.bool t234)) (fun _ hk => hk.1.2) (.bool t235)) (fun _ hk => hk.1.2) (.slice Ao13 t236.length co13)) (fun _ hk => hk.1.2) (.slice Ao14 t239.length co14)) (fun _ hk => hk.1.2) (.slice Ao15 t242.length co15)) (fun _ hk => hk.1.2) (.slice Ao16 t245.length co16)) (fun _ hk => hk.1.2) (.int .i64 t248)) (fun _ hk => hk.2) (.string a0_0)) (fun _ hk => hk.2) (.int .i64 a0_1)) (fun _ hk => hk.2) (.int .i64 t232)) (fun _ hk => hk.2) (.int .i64 t233)) (fun _ hk => hk.2) (.bool t234)) (fun _ hk => hk.2) (.bool t235)) (fun _ hk => hk.2) (.slice Ao13 t236.length co13)) (fun _ hk => hk.2) (.slice Ao14 t239.length co14)) (fun _ hk => hk.2) (.slice Ao15 t242.length co15)) (fun _ hk => hk.2) (.slice Ao16 t245.length co16)) (fun _ hk => hk.2) (.int .i64 t248)) (fun _ hk => trivial), by (with_reducible repeat (first | apply yA | apply yB | apply yC)); exact zF (yF (p := ⟨gb230, 10, none⟩) (yF (p := ⟨gb230, 9, none⟩) (yF (p := ⟨gb230, 8, none⟩) (yF (p := ⟨gb230, 7, none⟩) (yF (p := ⟨gb230, 6, none⟩) (yF (p := ⟨gb230, 5, none⟩) (yF (p := ⟨gb230, 4, none⟩) (yF (p := ⟨gb230, 3, none⟩) (yF (p := ⟨gb230, 2, none⟩) (yF (p := ⟨gb230, 1, none⟩) (yF (p := ⟨gb230, 0, none⟩) (yF (p := ⟨gb231, 10, none⟩) (yF (p := ⟨gb231, 9, none⟩) (yF (p := ⟨gb231, 8, none⟩) (yF (p := ⟨gb231, 7, none⟩) (yF (p := ⟨gb231, 6, none⟩) (yF (p := ⟨gb231, 5, none⟩) (yF (p := ⟨gb231, 4, none⟩) (yF (p := ⟨gb231, 3, none⟩) (yF (p := ⟨gb231, 2, none⟩) (Kd.R_types (Kd.R_types HO241.out BK231.out (by decide)) BK230.out (by decide)) (fun _ hk => hk.1.2) (.int .i64 t232)) (fun _ hk => hk.1.2) (.int .i64 t233)) (fun _ hk => hk.1.2) (.bool t234)) (fun _ hk => hk.1.2) (.bool t235)) (fun _ hk => hk.1.2) (.slice Ao13 t236.length co13)) (fun _ hk => hk.1.2) (.slice Ao14 t239.length co14)) (fun _ hk => hk.1.2) (.slice Ao15 t242.length co15)) (fun _ hk => hk.1.2) (.slice Ao16 t245.length co16)) (fun _ hk => hk.1.2) (.int .i64 t248)) (fun _ hk => hk.2) (.string a0_0)) (fun _ hk => hk.2) (.int .i64 a0_1)) (fun _ hk => hk.2) (.int .i64 t232)) (fun _ hk => hk.2) (.int .i64 t233)) (fun _ hk => hk.2) (.bool t234)) (fun _ hk => hk.2) (.bool t235)) (fun _ hk => hk.2) (.slice Ao13 t236.length co13)) (fun _ hk => hk.2) (.slice Ao14 t239.length co14)) (fun _ hk => hk.2) (.slice Ao15 t242.length co15)) (fun _ hk => hk.2) (.slice Ao16 t245.length co16)) (fun _ hk => hk.2) (.int .i64 t248)) (fun _ hk => trivial), by (with_reducible repeat (first | apply yA | apply yB | apply yC)); exact zF (yF (p := ⟨gb230, 10, none⟩) (yF (p := ⟨gb230, 9, none⟩) (yF (p := ⟨gb230, 8, none⟩) (yF (p := ⟨gb230, 7, none⟩) (yF (p := ⟨gb230, 6, none⟩) (yF (p := ⟨gb230, 5, none⟩) (yF (p := ⟨gb230, 4, none⟩) (yF (p := ⟨gb230, 3, none⟩) (yF (p := ⟨gb230, 2, none⟩) (yF (p := ⟨gb230, 1, none⟩) (yF (p := ⟨gb230, 0, none⟩) (yF (p := ⟨gb231, 10, none⟩) (yF (p := ⟨gb231, 9, none⟩) (yF (p := ⟨gb231, 8, none⟩) (yF (p := ⟨gb231, 7, none⟩) (yF (p := ⟨gb231, 6, none⟩) (yF (p := ⟨gb231, 5, none⟩) (yF (p := ⟨gb231, 4, none⟩) (yF (p := ⟨gb231, 3, none⟩) (yF (p := ⟨gb231, 2, none⟩) (zF (zF HO244.out (fun k_ hk => (⟨hk, hk.2⟩ : _ ∧ k_ ≠ gb231))) (fun k_ hk => (⟨hk, hk.1.1.2⟩ : _ ∧ k_ ≠ gb230))) (fun _ hk => hk.1.2) (.int .i64 t232)) (fun _ hk => hk.1.2) (.int .i64 t233)) (fun _ hk => hk.1.2) (.bool t234)) (fun _ hk => hk.1.2) (.bool t235)) (fun _ hk => hk.1.2) (.slice Ao13 t236.length co13)) (fun _ hk => hk.1.2) (.slice Ao14 t239.length co14)) (fun _ hk => hk.1.2) (.slice Ao15 t242.length co15)) (fun _ hk => hk.1.2) (.slice Ao16 t245.length co16)) (fun _ hk => hk.1.2) (.int .i64 t248)) (fun _ hk => hk.2) (.string a0_0)) (fun _ hk => hk.2) (.int .i64 a0_1)) (fun _ hk => hk.2) (.int .i64 t232)) (fun _ hk => hk.2) (.int .i64 t233)) (fun _ hk => hk.2) (.bool t234)) (fun _ hk => hk.2) (.bool t235)) (fun _ hk => hk.2) (.slice Ao13 t236.length co13)) (fun _ hk => hk.2) (.slice Ao14 t239.length co14)) (fun _ hk => hk.2) (.slice Ao15 t242.length co15)) (fun _ hk => hk.2) (.slice Ao16 t245.length co16)) (fun _ hk => hk.2) (.int .i64 t248)) (fun _ hk => ⟨hk.1.1.1.1.1, ⟨hk.1.1.1.1.2.1, hk.1.1.1.1.2.2⟩⟩), by (with_reducible repeat (first | apply yA | apply yB | apply yC)); exact zF (yF (p := ⟨gb230, 10, none⟩) (yF (p := ⟨gb230, 9, none⟩) (yF (p := ⟨gb230, 8, none⟩) (yF (p := ⟨gb230, 7, none⟩) (yF (p := ⟨gb230, 6, none⟩) (yF (p := ⟨gb230, 5, none⟩) (yF (p := ⟨gb230, 4, none⟩) (yF (p := ⟨gb230, 3, none⟩) (yF (p := ⟨gb230, 2, none⟩) (yF (p := ⟨gb230, 1, none⟩) (yF (p := ⟨gb230, 0, none⟩) (yF (p := ⟨gb231, 10, none⟩) (yF (p := ⟨gb231, 9, none⟩) (yF (p := ⟨gb231, 8, none⟩) (yF (p := ⟨gb231, 7, none⟩) (yF (p := ⟨gb231, 6, none⟩) (yF (p := ⟨gb231, 5, none⟩) (yF (p := ⟨gb231, 4, none⟩) (yF (p := ⟨gb231, 3, none⟩) (yF (p := ⟨gb231, 2, none⟩) (zF (zF HO247.out (fun k_ hk => (⟨hk, hk.2⟩ : _ ∧ k_ ≠ gb231))) (fun k_ hk => (⟨hk, hk.1.1.2⟩ : _ ∧ k_ ≠ gb230))) (fun _ hk => hk.1.2) (.int .i64 t232)) (fun _ hk => hk.1.2) (.int .i64 t233)) (fun _ hk => hk.1.2) (.bool t234)) (fun _ hk => hk.1.2) (.bool t235)) (fun _ hk => hk.1.2) (.slice Ao13 t236.length co13)) (fun _ hk => hk.1.2) (.slice Ao14 t239.length co14)) (fun _ hk => hk.1.2) (.slice Ao15 t242.length co15)) (fun _ hk => hk.1.2) (.slice Ao16 t245.length co16)) (fun _ hk => hk.1.2) (.int .i64 t248)) (fun _ hk => hk.2) (.string a0_0)) (fun _ hk => hk.2) (.int .i64 a0_1)) (fun _ hk => hk.2) (.int .i64 t232)) (fun _ hk => hk.2) (.int .i64 t233)) (fun _ hk => hk.2) (.bool t234)) (fun _ hk => hk.2) (.bool t235)) (fun _ hk => hk.2) (.slice Ao13 t236.length co13)) (fun _ hk => hk.2) (.slice Ao14 t239.length co14)) (fun _ hk => hk.2) (.slice Ao15 t242.length co15)) (fun _ hk => hk.2) (.slice Ao16 t245.length co16)) (fun _ hk => hk.2) (.int .i64 t248)) (fun _ hk => ⟨hk.1.1.1.1.1, ⟨hk.1.1.1.1.2.1, hk.1.1.1.1.2.2⟩⟩), kR0 HB⟩

/-! ### laws_toMemberS: function 37 -/
def laws_toMemberS.l0 (Y_ : Int → Int → Bool → Bool → List ByteArray → List Int → List (S91) → List (S27) → Int → Option (Int × Int × Bool × Bool × List ByteArray × List Int × (List (S64)) × (List (S33)) × Int)) : Nat → List (S91) → List (S64) → Int → Option ((List (S64)))
 | 0, _, _, _ => none
 | k + 1, x0, x3, x4 => if x4 < (x0.length : Int) then (if 0 ≤ x4 then ((laws_toMember.f Y_ k ((rd_T91 x0 x4).f0) ((rd_T91 x0 x4).f1) ((rd_T91 x0 x4).f2.f0) ((rd_T91 x0 x4).f2.f1) ((rd_T91 x0 x4).f2.f2) ((rd_T91 x0 x4).f2.f3) ((rd_T91 x0 x4).f2.f4) ((rd_T91 x0 x4).f2.f5) ((rd_T91 x0 x4).f2.f6) ((rd_T91 x0 x4).f2.f7) ((rd_T91 x0 x4).f2.f8)).bind fun bt253 => (if x4 < (x3.length : Int) then (laws_toMemberS.l0 Y_ k x0 (x3.set (x4 : Int).toNat (⟨bt253.1, bt253.2.1, (⟨bt253.2.2.1, bt253.2.2.2.1, bt253.2.2.2.2.1, bt253.2.2.2.2.2.1, bt253.2.2.2.2.2.2.1, bt253.2.2.2.2.2.2.2.1, bt253.2.2.2.2.2.2.2.2.1, bt253.2.2.2.2.2.2.2.2.2.1, bt253.2.2.2.2.2.2.2.2.2.2⟩ : S33)⟩ : S64)) (wrap64 (x4 + 1))) else (none))) else (none)) else (some x3)
def laws_toMemberS.f (Y_ : Int → Int → Bool → Bool → List ByteArray → List Int → List (S91) → List (S27) → Int → Option (Int × Int × Bool × Bool × List ByteArray × List Int × (List (S64)) × (List (S33)) × Int)) (k : Nat) (l0 : List (S91)) : Option ((List (S64))) := if 0 ≤ (l0.length : Int) then (if ((l0.length : Int) : Int).toNat ≤ 1851809057306 then (laws_toMemberS.l0 Y_ k l0 (List.replicate ((l0.length : Int) : Int).toNat z64) 0) else (none)) else (none)
set_option maxHeartbeats 8000000 in
set_option maxRecDepth 100000 in
theorem laws_toMemberS.calls (Y_ : Int → Int → Bool → Bool → List ByteArray → List Int → List (S91) → List (S27) → Int → Option (Int × Int × Bool × Bool × List ByteArray × List Int × (List (S64)) × (List (S33)) × Int)) (HY_ : ∀ (a0_0 : Int) (a0_1 : Int) (a0_2 : Bool) (a0_3 : Bool) (A0_4 : Option Addr) (c0_4 : Nat) (l0_4 : List ByteArray) (A0_5 : Option Addr) (c0_5 : Nat) (l0_5 : List Int) (A0_6 : Option Addr) (c0_6 : Nat) (l0_6 : List (S91)) (A0_7 : Option Addr) (c0_7 : Nat) (l0_7 : List (S27)) (a0_8 : Int) (r1 : Int) (r2 : Int) (r3 : Bool) (r4 : Bool) (r5 : List ByteArray) (r6 : List Int) (r7 : List (S64)) (r8 : List (S33)) (r9 : Int) (w : World) (hr0_4 : Kd.C Kd.string w A0_4 l0_4.length l0_4) (hc0_4 : l0_4.length ≤ c0_4) (hr0_5 : Kd.C (Kd.int .i64) w A0_5 l0_5.length l0_5) (hc0_5 : l0_5.length ≤ c0_5) (hr0_6 : Kd.C k91 w A0_6 l0_6.length l0_6) (hc0_6 : l0_6.length ≤ c0_6) (hr0_7 : Kd.C k27 w A0_7 l0_7.length l0_7) (hc0_7 : l0_7.length ≤ c0_7) (h : Y_ a0_0 a0_1 a0_2 a0_3 l0_4 l0_5 l0_6 l0_7 a0_8 = some (r1, r2, r3, r4, r5, r6, r7, r8, r9)), Calls Try.prog 9 #[.agg #[.int .i64 a0_0, .int .i64 a0_1, .bool a0_2, .bool a0_3, .slice A0_4 l0_4.length c0_4, .slice A0_5 l0_5.length c0_5, .slice A0_6 l0_6.length c0_6, .slice A0_7 l0_7.length c0_7, .int .i64 a0_8]] w fun e w' => ∃ v4_ v5_ v6_ v7_ : Value, e = .returned (.agg #[.int .i64 r1, .int .i64 r2, .bool r3, .bool r4, v4_, v5_, v6_, v7_, .int .i64 r9]) ∧ Kd.R Kd.string 9 w' w.heap.size (fun _ => True) v4_ r5 ∧ Kd.R (Kd.int .i64) 2 w' w.heap.size (fun _ => True) v5_ r6 ∧ Kd.R k64 64 w' w.heap.size (fun k_ => some k_ ≠ (v4_ : Value).ownBlock ∧ some k_ ≠ (v5_ : Value).ownBlock ∧ some k_ ≠ (v7_ : Value).ownBlock) v6_ r7 ∧ Kd.R k33 33 w' w.heap.size (fun k_ => some k_ ≠ (v4_ : Value).ownBlock ∧ some k_ ≠ (v5_ : Value).ownBlock ∧ some k_ ≠ (v6_ : Value).ownBlock) v7_ r8 ∧ Below w.heap.size w w') (k : Nat) (A0 : Option Addr) (c0 : Nat) (l0 : List (S91)) (r : List (S64)) (w : World) (hr0 : Kd.C k91 w A0 l0.length l0) (hc0 : l0.length ≤ c0) (h : laws_toMemberS.f Y_ k l0 = some r) :
 Calls Try.prog 37 #[.slice A0 l0.length c0] w fun e w' => ∃ v0_ : Value, e = .returned (v0_) ∧ Kd.R k64 64 w' w.heap.size (fun _ => True) v0_ r ∧ Below w.heap.size w w' := by
 have hu91 := Try.underlying91; have hu64 := Try.underlying64
 have HR0 := yD hr0
 have HC0 := yD hc0
 clear hr0 hc0
 have HB := yD (Below.refl w.heap.size w)
 have H : (if 0 ≤ (l0.length : Int) then (if ((l0.length : Int) : Int).toNat ≤ 1851809057306 then (laws_toMemberS.l0 Y_ k l0 (List.replicate ((l0.length : Int) : Int).toNat z64) 0) else (none)) else (none)) = some r := h
 clear h
 by_cases c2 : 0 ≤ (l0.length : Int)
 ·
  rw [if_pos c2] at H
  have c2b0 := eq_true c2
  have c2b1 : decide (0 ≤ (l0.length : Int)) = true := zR c2; clear c2
  by_cases c3 : ((l0.length : Int) : Int).toNat ≤ 1851809057306
  ·
   rw [if_pos c3] at H
   have c3b0 := eq_true c3
   have c3b1 : decide (((l0.length : Int) : Int).toNat ≤ 1851809057306) = true := zR c3
   clear c3
   obtain ⟨y249, hy249⟩ : ∃ y_ : List (S64), y_ = (List.replicate ((l0.length : Int) : Int).toNat z64) := ⟨_, rfl⟩
   replace H : (laws_toMemberS.l0 Y_ k l0 y249 0) = some r := by first | (rw [hy249]; with_reducible exact H) | (have H2_ := (Option.bind_some _ _).symm.trans H; rw [hy249]; with_reducible exact H2_) | (have H2_ := (Option.bind_some _ _).symm.trans H; with_reducible exact H2_) | with_reducible exact H | (rw [hy249]; exact H) | exact H
   have Ny249 := yD hy249
   clear hy249
   have H' := yD H
   clear H; go_enter Try.func37, Try.ntmps37
   go_wp2_with (first | ((with_reducible refine gate_dst (N := 7) rfl ?_); refine Kd.R_make k64 _ 64 rfl (N := 7) rfl 30 _ _ rfl (l0.length : Int) rfl rfl Try.underlying30 (.agg #[(.string ⟨#[]⟩), (.int .i64 0), (.int .i64 0), (.int .i64 0), (.bool false), (.bool false), (.slice none 0 0), (.slice none 0 0), (.slice none 0 0), (.slice none 0 0), (.int .i64 0)]) 152 info64 rfl (by decide) (by omega) z64 (ok := fun _ => True) (okp := fun _ => True) (k64_mkM _ _ _ z64 (Kd.R_nil _ _ _ _ _) (Kd.R_nil _ _ _ _ _) (Kd.R_nil _ _ _ _ _) (Kd.R_nil _ _ _ _ _)) (fun _ hk => hk) trivial (zP (by assumption)) (Nat.le_trans (Nat.mul_le_mul_right _ (zP (by assumption) : (l0.length : Int).toNat ≤ 1851809057306)) (by omega)) (Below.refl _ _) (Nat.le_refl _) ?_; intro v250 w4 ho5 hb hg_ hnew_; clear hg_ hnew_; (first | rw [← Ny249.out] at ho5 | (simp only [Int.reduceToNat] at ho5; rw [← Ny249.out] at ho5)); have HO251 := yD (yZ ho5 (below_size (kB HB))); replace HB := yD (zC (kB HB) hb); clear hb ho5))
   (try simp only [Act.put, zH, zI, zJ])
   go_loopg [4] k (fun kq v4 w' => ∃ (x3_1 : List (S64)) (x4_1 : Int), v4 = .int .i64 x4_1 ∧ Aside0 (laws_toMemberS.l0 Y_ kq l0 x3_1 x4_1 = some r) ∧ Aside0 (kq ≤ k) ∧ Aside0 (Kd.R k64 64 w' w.heap.size (fun _ => True) v250 x3_1) ∧ Aside0 (Below w.heap.size w w'))
   case atStart => exact ⟨(y249), (0), (by first | rfl | (simp; done) | (simp [*]; done)), H', ⟨Nat.le_refl _⟩, ⟨kA HO251⟩, ⟨kR1 HB⟩⟩
   case round =>
    clear H'
    try clear c2; try clear c2b0; try clear c2b1; try clear c3; try clear c3b0; try clear c3b1
    obtain ⟨x3_1, x4_1, rfl, HA, HK1, HO_3, HB⟩ := hrel
    cases gk with
    | zero => exact absurd HA.out (by simp [laws_toMemberS.l0])
    | succ k1 =>
     have H := HA.out; clear HA
     simp only [laws_toMemberS.l0] at H
     by_cases c6 : x4_1 < (l0.length : Int)
     ·
      rw [if_pos c6] at H
      have c6b0 : decide (x4_1 < (l0.length : Int)) = true := zR c6; clear c6
      by_cases c7 : 0 ≤ x4_1
      ·
       rw [if_pos c7] at H
       have c7b0 : decide (0 ≤ x4_1) = true := zR c7; clear c7
       obtain ⟨⟨t253, t254, t255, t256, t257, t258, t259, t262, t265, t268, t271⟩, A80, H⟩ := zW_ H
       replace H : (if x4_1 < (x3_1.length : Int) then (laws_toMemberS.l0 Y_ k1 l0 (x3_1.set (x4_1 : Int).toNat (⟨t253, t254, (⟨t255, t256, t257, t258, t259, t262, t265, t268, t271⟩ : S33)⟩ : S64)) (wrap64 (x4_1 + 1))) else (none)) = some r := H
       have A8 := yD A80
       clear A80
       by_cases c9 : x4_1 < (x3_1.length : Int)
       ·
        rw [if_pos c9] at H
        have c9b0 : decide (x4_1 < (x3_1.length : Int)) = true := zR c9; clear c9
        obtain ⟨y272, hy272⟩ : ∃ y_ : List (S64), y_ = (x3_1.set (x4_1 : Int).toNat (⟨t253, t254, (⟨t255, t256, t257, t258, t259, t262, t265, t268, t271⟩ : S33)⟩ : S64)) := ⟨_, rfl⟩
        replace H : (laws_toMemberS.l0 Y_ k1 l0 y272 (wrap64 (x4_1 + 1))) = some r := by first | (rw [hy272]; with_reducible exact H) | (have H2_ := (Option.bind_some _ _).symm.trans H; rw [hy272]; with_reducible exact H2_) | (have H2_ := (Option.bind_some _ _).symm.trans H; with_reducible exact H2_) | with_reducible exact H | (rw [hy272]; exact H) | exact H
        have Ny272 := yD hy272
        clear hy272
        have H' := yD H
        clear H
        have p252 : 0 ≤ (x4_1 : Int) := zP (by assumption)
        have q252 : x4_1 < (l0.length : Int) := zP (by assumption)
        obtain ⟨ad252, A252_6, c252_6, A252_7, c252_7, A252_8, c252_8, A252_9, c252_9, e252, hx252_0, hx252_1, hx252_2, hx252_3, hx252_4, hx252_5, hx252_6, hx252_7, hx252_8, hx252_9, hx252_10, hl252_6, hi252_6, hl252_7, hi252_7, hl252_8, hi252_8, hl252_9, hi252_9⟩ := at_T91 HR0.out x4_1 p252 q252
        cases e252
        replace hx252_0 := kCx1_ HB hx252_0
        replace hx252_1 := kCx1_ HB hx252_1
        replace hx252_2 := kCx1_ HB hx252_2
        replace hx252_3 := kCx1_ HB hx252_3
        replace hx252_4 := kCx1_ HB hx252_4
        replace hx252_5 := kCx1_ HB hx252_5
        replace hx252_6 := kCx1_ HB hx252_6
        replace hx252_7 := kCx1_ HB hx252_7
        replace hx252_8 := kCx1_ HB hx252_8
        replace hx252_9 := kCx1_ HB hx252_9
        replace hx252_10 := kCx1_ HB hx252_10
        have HR252_6 := yD hi252_6
        have HC252_6 := yD hl252_6
        clear hi252_6 hl252_6
        have HR252_7 := yD hi252_7
        have HC252_7 := yD hl252_7
        clear hi252_7 hl252_7
        have HR252_8 := yD hi252_8
        have HC252_8 := yD hl252_8
        clear hi252_8 hl252_8
        have HR252_9 := yD hi252_9
        have HC252_9 := yD hl252_9
        clear hi252_9 hl252_9; replace p252 := eq_true p252; replace q252 := eq_true q252
        go_wp2_with (first | ((with_reducible refine gate_callee (f := 63) rfl ?_); refine gL 20 Try.func63 #[.agg #[.string ((rd_T91 l0 x4_1).f0), .int .i64 ((rd_T91 l0 x4_1).f1), .int .i64 ((rd_T91 l0 x4_1).f2.f0), .int .i64 ((rd_T91 l0 x4_1).f2.f1), .bool ((rd_T91 l0 x4_1).f2.f2), .bool ((rd_T91 l0 x4_1).f2.f3), .slice A252_6 ((rd_T91 l0 x4_1).f2.f4).length c252_6, .slice A252_7 ((rd_T91 l0 x4_1).f2.f5).length c252_7, .slice A252_8 ((rd_T91 l0 x4_1).f2.f6).length c252_8, .slice A252_9 ((rd_T91 l0 x4_1).f2.f7).length c252_9, .int .i64 ((rd_T91 l0 x4_1).f2.f8)]] ?_; (with_reducible refine (laws_toMember.calls Y_ HY_ k1 ((rd_T91 l0 x4_1).f0) ((rd_T91 l0 x4_1).f1) ((rd_T91 l0 x4_1).f2.f0) ((rd_T91 l0 x4_1).f2.f1) ((rd_T91 l0 x4_1).f2.f2) ((rd_T91 l0 x4_1).f2.f3) _ _ ((rd_T91 l0 x4_1).f2.f4) _ _ ((rd_T91 l0 x4_1).f2.f5) _ _ ((rd_T91 l0 x4_1).f2.f6) _ _ ((rd_T91 l0 x4_1).f2.f7) ((rd_T91 l0 x4_1).f2.f8) t253 t254 t255 t256 t257 t258 t259 t262 t265 t268 t271 _ ?side1 ?side2 ?side3 ?side4 ?side5 ?side6 ?side7 ?side8 A8.out).mono ?_); (case side1 => exact kV (yY HR252_6.out HB.out)); (case side2 => exact HC252_6.out); (case side3 => exact kV (yY HR252_7.out HB.out)); (case side4 => exact HC252_7.out); (case side5 => exact kV (yY HR252_8.out HB.out)); (case side6 => exact HC252_8.out); (case side7 => exact kV (yY HR252_9.out HB.out)); (case side8 => exact HC252_9.out); rintro e w11 ⟨v260, v263, v266, v269, rfl, ho0, ho1, ho2, ho3, hb⟩; refine ⟨_, rfl, ?_⟩; have HO261 := yD (yZ ho0 (below_size (kB HB))); have HO264 := yD (yZ ho1 (below_size (kB HB))); have HO267 := yD (yZ (yJ ho2 (yK (kA HO_3))) (below_size (kB HB))); have HO270 := yD (yZ (yJ ho3 (yK (kA HO_3))) (below_size (kB HB))); replace HO_3 := yD (zF (yI (yI (yI (yI (Kd.R_old (kA HO_3) hb) (yH ho0)) (yH ho1)) (yH ho2)) (yH ho3)) (fun _ h_ => h_.1)); replace HB := yD (zC (kB HB) hb); clear hb ho0 ho1 ho2 ho3; have p10 : 0 ≤ (x4_1 : Int) := zP (by assumption); have q10 : (x4_1 : Int) < ((x3_1.length : Int) : Int) := zP (by assumption); obtain ⟨go10, co10, eo10, gb10, gl10, cl10, HG10⟩ := Kd.R_form HO_3.out (by omega); (first | cases eo10 | (injection eo10 with ea_ en_ ec_; (first | subst ea_ | (injection ea_ with ea_; subst ea_)); subst ec_; clear en_)); have GB10 := yD gb10; have GG10 := yD HG10; clear gb10 gl10 HG10; obtain ⟨ce10, hcl10, hM10, hcc10, hfr10⟩ := Kd.R_elem HO_3.out z64 (x4_1 : Int) p10 q10; obtain ⟨ve10_6, ve10_7, ve10_8, ve10_9, rfl, ge10_6, ge10_7, ge10_8, ge10_9⟩ := k64_openM hM10; have hx10_0 : w11.cell? ⟨go10, (x4_1 : Int).toNat * 11, none⟩ = some (.string ((rd_T64 x3_1 x4_1).f0)) := hcc10 0 _ rfl; have hx10_1 : w11.cell? ⟨go10, (x4_1 : Int).toNat * 11 + 1, none⟩ = some (.int .i64 ((rd_T64 x3_1 x4_1).f1)) := hcc10 1 _ rfl; have hx10_2 : w11.cell? ⟨go10, (x4_1 : Int).toNat * 11 + 2, none⟩ = some (.int .i64 ((rd_T64 x3_1 x4_1).f2.f0)) := hcc10 2 _ rfl; have hx10_3 : w11.cell? ⟨go10, (x4_1 : Int).toNat * 11 + 3, none⟩ = some (.int .i64 ((rd_T64 x3_1 x4_1).f2.f1)) := hcc10 3 _ rfl; have hx10_4 : w11.cell? ⟨go10, (x4_1 : Int).toNat * 11 + 4, none⟩ = some (.bool ((rd_T64 x3_1 x4_1).f2.f2)) := hcc10 4 _ rfl; have hx10_5 : w11.cell? ⟨go10, (x4_1 : Int).toNat * 11 + 5, none⟩ = some (.bool ((rd_T64 x3_1 x4_1).f2.f3)) := hcc10 5 _ rfl; have hx10_6 : w11.cell? ⟨go10, (x4_1 : Int).toNat * 11 + 6, none⟩ = some (ve10_6) := hcc10 6 _ rfl; have hx10_7 : w11.cell? ⟨go10, (x4_1 : Int).toNat * 11 + 7, none⟩ = some (ve10_7) := hcc10 7 _ rfl; have hx10_8 : w11.cell? ⟨go10, (x4_1 : Int).toNat * 11 + 8, none⟩ = some (ve10_8) := hcc10 8 _ rfl; have hx10_9 : w11.cell? ⟨go10, (x4_1 : Int).toNat * 11 + 9, none⟩ = some (ve10_9) := hcc10 9 _ rfl; have hx10_10 : w11.cell? ⟨go10, (x4_1 : Int).toNat * 11 + 10, none⟩ = some (.int .i64 ((rd_T64 x3_1 x4_1).f2.f8)) := hcc10 10 _ rfl; have hf10_0 : w11.frozen? ⟨go10, (x4_1 : Int).toNat * 11, none⟩ = false := hfr10 0; have hf10_1 : w11.frozen? ⟨go10, (x4_1 : Int).toNat * 11 + 1, none⟩ = false := hfr10 1; have hf10_2 : w11.frozen? ⟨go10, (x4_1 : Int).toNat * 11 + 2, none⟩ = false := hfr10 2; have hf10_3 : w11.frozen? ⟨go10, (x4_1 : Int).toNat * 11 + 3, none⟩ = false := hfr10 3; have hf10_4 : w11.frozen? ⟨go10, (x4_1 : Int).toNat * 11 + 4, none⟩ = false := hfr10 4; have hf10_5 : w11.frozen? ⟨go10, (x4_1 : Int).toNat * 11 + 5, none⟩ = false := hfr10 5; have hf10_6 : w11.frozen? ⟨go10, (x4_1 : Int).toNat * 11 + 6, none⟩ = false := hfr10 6; have hf10_7 : w11.frozen? ⟨go10, (x4_1 : Int).toNat * 11 + 7, none⟩ = false := hfr10 7; have hf10_8 : w11.frozen? ⟨go10, (x4_1 : Int).toNat * 11 + 8, none⟩ = false := hfr10 8; have hf10_9 : w11.frozen? ⟨go10, (x4_1 : Int).toNat * 11 + 9, none⟩ = false := hfr10 9; have hf10_10 : w11.frozen? ⟨go10, (x4_1 : Int).toNat * 11 + 10, none⟩ = false := hfr10 10; clear hcl10 hcc10 hfr10 hM10; replace p10 := eq_true p10; replace q10 := eq_true q10; obtain ⟨Ao14, co14, eo14⟩ := Kd.R_slice HO261.out; subst eo14; obtain ⟨Ao15, co15, eo15⟩ := Kd.R_slice HO264.out; subst eo15; obtain ⟨Ao16, co16, eo16⟩ := Kd.R_slice HO267.out; subst eo16; obtain ⟨Ao17, co17, eo17⟩ := Kd.R_slice HO270.out; subst eo17; have n_ := yD (zF (ok' := (fun k_ => oB (.slice Ao14 t259.length co14) k_ ∧ oB (.slice Ao15 t262.length co15) k_ ∧ oB (.slice Ao16 t265.length co16) k_ ∧ oB (.slice Ao17 t268.length co17) k_)) HO_3.out (fun k_ hk => ⟨hk.1.1.1.2, ⟨hk.1.1.2, ⟨hk.1.2, hk.2⟩⟩⟩)); clear HO_3; have HO_3 := n_; clear n_; have HX12 := yD (show Kd.R k64 64 w11 w.heap.size (fun _ => True) (.slice (some ⟨go10, 0, none⟩) x3_1.length co10) x3_1 from (mR HO_3 (fun _ hk => trivial))); obtain ⟨ce12, hcl12, hM12, hcc12, hfr12⟩ := Kd.R_elem HX12.out z64 (x4_1 : Int) (zP (by assumption)) (by have h_ : (x4_1 : Int) < ((x3_1.length : Int) : Int) := zP (by assumption); first | exact h_ | (have e_ := (zA HO_3.out).1; omega) | simpa using h_); obtain ⟨ve12_6, ve12_7, ve12_8, ve12_9, rfl, ge12_6, ge12_7, ge12_8, ge12_9⟩ := k64_openM hM12; have HP12 := Kd.R_seg HX12.out (x4_1 : Int) (zP (by assumption)) (by have h_ : (x4_1 : Int) < ((x3_1.length : Int) : Int) := zP (by assumption); first | exact h_ | (have e_ := (zA HO_3.out).1; omega) | simpa using h_) (seg := [.string t253, .int .i64 t254, .int .i64 t255, .int .i64 t256, .bool t257, .bool t258, .slice Ao14 t259.length co14, .slice Ao15 t262.length co15, .slice Ao16 t265.length co16, .slice Ao17 t268.length co17, .int .i64 t271]) (j := 0) hcl12 hcc12 (show 11 ≤ 11 from by decide) (x' := (⟨t253, t254, (⟨t255, t256, t257, t258, t259, t262, t265, t268, t271⟩ : S33)⟩ : S64)) (k64_mkM _ _ _ (⟨t253, t254, (⟨t255, t256, t257, t258, t259, t262, t265, t268, t271⟩ : S33)⟩ : S64) (zF (Kd.R_apart' (HO261.out) (Kd.R_typed HO_3.out) (by decide)) (fun k_ hk => ⟨trivial, fun e_ => (hk.2) (by rw [e_]; rfl)⟩)) (zF (Kd.R_apart' (HO264.out) (Kd.R_typed HO_3.out) (by decide)) (fun k_ hk => ⟨trivial, fun e_ => (hk.2) (by rw [e_]; rfl)⟩)) (zF (HO267.out) (fun k_ hk => ⟨trivial, fun e_ => (hk.2) (by rw [e_]; rfl)⟩)) (zF (HO270.out) (fun k_ hk => ⟨trivial, fun e_ => (hk.2) (by rw [e_]; rfl)⟩))) (fun _ hk => hk); have hx12_0 := hcc12 0 _ rfl; (try simp only [show (k64).sz = 11 from rfl, Nat.mul_one, Nat.add_zero] at hx12_0); have hf12_0 := hfr12 0; (try simp only [show (k64).sz = 11 from rfl, Nat.mul_one, Nat.add_zero] at hf12_0); have hx12_1 := hcc12 1 _ rfl; (try simp only [show (k64).sz = 11 from rfl, Nat.mul_one, Nat.add_zero] at hx12_1); have hf12_1 := hfr12 1; (try simp only [show (k64).sz = 11 from rfl, Nat.mul_one, Nat.add_zero] at hf12_1); have hx12_2 := hcc12 2 _ rfl; (try simp only [show (k64).sz = 11 from rfl, Nat.mul_one, Nat.add_zero] at hx12_2); have hf12_2 := hfr12 2; (try simp only [show (k64).sz = 11 from rfl, Nat.mul_one, Nat.add_zero] at hf12_2); have hx12_3 := hcc12 3 _ rfl; (try simp only [show (k64).sz = 11 from rfl, Nat.mul_one, Nat.add_zero] at hx12_3); have hf12_3 := hfr12 3; (try simp only [show (k64).sz = 11 from rfl, Nat.mul_one, Nat.add_zero] at hf12_3); have hx12_4 := hcc12 4 _ rfl; (try simp only [show (k64).sz = 11 from rfl, Nat.mul_one, Nat.add_zero] at hx12_4); have hf12_4 := hfr12 4; (try simp only [show (k64).sz = 11 from rfl, Nat.mul_one, Nat.add_zero] at hf12_4); have hx12_5 := hcc12 5 _ rfl; (try simp only [show (k64).sz = 11 from rfl, Nat.mul_one, Nat.add_zero] at hx12_5); have hf12_5 := hfr12 5; (try simp only [show (k64).sz = 11 from rfl, Nat.mul_one, Nat.add_zero] at hf12_5); have hx12_6 := hcc12 6 _ rfl; (try simp only [show (k64).sz = 11 from rfl, Nat.mul_one, Nat.add_zero] at hx12_6); have hf12_6 := hfr12 6; (try simp only [show (k64).sz = 11 from rfl, Nat.mul_one, Nat.add_zero] at hf12_6); have hx12_7 := hcc12 7 _ rfl; (try simp only [show (k64).sz = 11 from rfl, Nat.mul_one, Nat.add_zero] at hx12_7); have hf12_7 := hfr12 7; (try simp only [show (k64).sz = 11 from rfl, Nat.mul_one, Nat.add_zero] at hf12_7); have hx12_8 := hcc12 8 _ rfl; (try simp only [show (k64).sz = 11 from rfl, Nat.mul_one, Nat.add_zero] at hx12_8); have hf12_8 := hfr12 8; (try simp only [show (k64).sz = 11 from rfl, Nat.mul_one, Nat.add_zero] at hf12_8); have hx12_9 := hcc12 9 _ rfl; (try simp only [show (k64).sz = 11 from rfl, Nat.mul_one, Nat.add_zero] at hx12_9); have hf12_9 := hfr12 9; (try simp only [show (k64).sz = 11 from rfl, Nat.mul_one, Nat.add_zero] at hf12_9); have hx12_10 := hcc12 10 _ rfl; (try simp only [show (k64).sz = 11 from rfl, Nat.mul_one, Nat.add_zero] at hx12_10); have hf12_10 := hfr12 10; (try simp only [show (k64).sz = 11 from rfl, Nat.mul_one, Nat.add_zero] at hf12_10); clear hcl12 hcc12 hfr12 hM12) | ((with_reducible refine gate_store (t := 64) (p := 21) rfl ?_); refine store_event (t := 64) (p := 21) (v := ?vo_w13) (w1 := (((((((((((w11.setCell ⟨go10, (x4_1 : Int).toNat * 11, none⟩ (.string t253)).setCell ⟨go10, (x4_1 : Int).toNat * 11 + 1, none⟩ (.int .i64 t254)).setCell ⟨go10, (x4_1 : Int).toNat * 11 + 2, none⟩ (.int .i64 t255)).setCell ⟨go10, (x4_1 : Int).toNat * 11 + 3, none⟩ (.int .i64 t256)).setCell ⟨go10, (x4_1 : Int).toNat * 11 + 4, none⟩ (.bool t257)).setCell ⟨go10, (x4_1 : Int).toNat * 11 + 5, none⟩ (.bool t258)).setCell ⟨go10, (x4_1 : Int).toNat * 11 + 6, none⟩ (.slice Ao14 t259.length co14)).setCell ⟨go10, (x4_1 : Int).toNat * 11 + 7, none⟩ (.slice Ao15 t262.length co15)).setCell ⟨go10, (x4_1 : Int).toNat * 11 + 8, none⟩ (.slice Ao16 t265.length co16)).setCell ⟨go10, (x4_1 : Int).toNat * 11 + 9, none⟩ (.slice Ao17 t268.length co17)).setCell ⟨go10, (x4_1 : Int).toNat * 11 + 10, none⟩ (.int .i64 t271))) ?hg ?ho ?hn ?hr ?_; (case ho => rfl); (case hg => rfl); (case hn => rfl); (case hr => first | (go_simp; done) | (go_simp; rfl)); intro w13 hw; have hg : w11.grownBy w13 (some go10) := (by rw [hw]; exact HP12.2); have hp_ : Kd.R k64 64 w13 w.heap.size (fun _ => True) (.slice (some ⟨go10, 0, none⟩) x3_1.length co10) y272 := (by rw [hw, Ny272.out]; exact HP12.1); clear HP12; replace HO_3 := yD (hp_); replace HB := yD ((by rw [hw]; exact yE (yE (yE (yE (yE (yE (yE (yE (yE (yE (yE (HB.out) GB10.out) GB10.out) GB10.out) GB10.out) GB10.out) GB10.out) GB10.out) GB10.out) GB10.out) GB10.out) GB10.out : Below w.heap.size w w13)); clear HO261 HO264 HO267 HO270; clear hg hw hp_))
        go_roundg k1
        case measure => have := HK1.out; omega
        case rel => exact ⟨(y272), (wrap64 (x4_1 + 1)), (by first | rfl | (simp; done) | (simp [*]; done)), H', ⟨by have := HK1.out; omega⟩, ⟨kA HO_3⟩, ⟨kR1 HB⟩⟩
       · rw [if_neg c9] at H
         exact absurd H (by simp)
      · rw [if_neg c7] at H
        exact absurd H (by simp)
     · rw [if_neg c6] at H
       have c6b0 : decide (x4_1 < (l0.length : Int)) = false := zS c6; clear c6; obtain rfl := Option.some.inj H
       go_wp2
       go_ret
       exact ⟨_, by first | rfl | (simp <;> rfl) | (simp [*] <;> rfl), kA HO_3, kR1 HB⟩
  · rw [if_neg c3] at H
    exact absurd H (by simp)
 · rw [if_neg c2] at H
   exact absurd H (by simp)

end Go.Proofs.Ytfblodggimjoaaa.PFnExactSameArray
