/- Each Go function here comes to what the plain function of its name says, where that says something. Made by a program of this session, over the print. -/
import Derived.Test.YtdiaebjbiddefaaPFnExactBoundsOfx0
namespace Go.Proofs.Ytdiaebjbiddefaa.PFnExactBoundsOf
open Go.RowKit Go.Proofs.YtdiaebjbiddefaaW.PrintWords Go.Proofs.YtdiaebjbiddefaaW.PrintLast Go.Proofs.YtdiaebjbiddefaaW.PrintMore
attribute [local go_sem] max2_int min2_int max_two min_two max_three min_three max_four min_four   -- for this text's walks alone
set_option linter.unusedVariables false
set_option linter.unusedSimpArgs false

/-! ### laws_eqInt64S: function 42 -/
def laws_eqInt64S.l0 : Nat → List Int → List Int → Int → Option (Bool)
  | 0, _, _, _ => none
  | k + 1, x0, x1, x5 => if x5 < (x0.length : Int) then (if 0 ≤ x5 then (if x5 < (x1.length : Int) then (if (rd x0 x5) = (rd x1 x5) then (laws_eqInt64S.l0 k x0 x1 (wrap64 (x5 + 1))) else (some false)) else (none)) else (none)) else (some true)
def laws_eqInt64S.f (k : Nat) (l0 : List Int) (l1 : List Int) : Option (Bool) := if (l0.length : Int) = (l1.length : Int) then (laws_eqInt64S.l0 k l0 l1 0) else (some false)
theorem laws_eqInt64S.mono_l : ∀ k, (∀ y0 y1 y2, LeO (laws_eqInt64S.l0 k y0 y1 y2) (laws_eqInt64S.l0 (k + 1) y0 y1 y2))
  | 0 => fun _ _ _ r h => by simp [laws_eqInt64S.l0] at h
  | k + 1 => by
    have ih0 := laws_eqInt64S.mono_l k
    · intro y0 y1 y2
      unfold laws_eqInt64S.l0
      repeat' first
      | (with_reducible exact ih0 _ _ _)
      | (with_reducible exact LeO.refl _)
      | (with_reducible exact LeO.none _)
      | (with_reducible refine LeO.ite ?_ ?_)
      | (with_reducible refine LeO.bind ?_ (fun _ => ?_))
      | exact ih0 _ _ _
      | exact LeO.none _
      | refine LeO.ite ?_ ?_
      | refine LeO.bind ?_ (fun _ => ?_)
theorem laws_eqInt64S.mono : ∀ a0 a1 k, LeO (laws_eqInt64S.f k a0 a1) (laws_eqInt64S.f (k + 1) a0 a1) := by
  intro a0 a1 k
  have ih0 := laws_eqInt64S.mono_l k
  unfold laws_eqInt64S.f
  repeat' first
      | (with_reducible exact ih0 _ _ _)
      | (with_reducible exact LeO.refl _)
      | (with_reducible exact LeO.none _)
      | (with_reducible refine LeO.ite ?_ ?_)
      | (with_reducible refine LeO.bind ?_ (fun _ => ?_))
      | exact ih0 _ _ _
      | exact LeO.none _
      | refine LeO.ite ?_ ?_
      | refine LeO.bind ?_ (fun _ => ?_)
set_option maxHeartbeats 8000000 in
set_option maxRecDepth 100000 in
theorem laws_eqInt64S.calls (k : Nat) (A0 : Option Addr) (c0 : Nat) (l0 : List Int) (A1 : Option Addr) (c1 : Nat) (l1 : List Int) (r : Bool) (w : World) (hr0 : Kd.C (Kd.int .i64) w A0 l0.length l0) (hc0 : l0.length ≤ c0) (hr1 : Kd.C (Kd.int .i64) w A1 l1.length l1) (hc1 : l1.length ≤ c1) (h : laws_eqInt64S.f k l0 l1 = some r) :
    Calls Try.prog 42 #[.slice A0 l0.length c0, .slice A1 l1.length c1] w fun e w' => e = .returned (.bool r) ∧ Drawn0 w w' := by
  have HR0 := yD hr0
  have HC0 := yD hc0
  clear hr0 hc0
  have HR1 := yD hr1
  have HC1 := yD hc1
  clear hr1 hc1
  have H : (if (l0.length : Int) = (l1.length : Int) then (laws_eqInt64S.l0 k l0 l1 0) else (some false)) = some r := h
  clear h
  by_cases c3 : (l0.length : Int) = (l1.length : Int)
  · rw [if_pos c3] at H
    have c3b0 : ((l0.length : Int) == (l1.length : Int)) = true := beq_iff_eq.mpr c3
    have c3b1 : ((l0.length : Int) != (l1.length : Int)) = false := bne_eq_false_iff_eq.mpr c3
    have c3b2 : (l0.length == l1.length) = true := by first | simpa using c3 | (simp at c3 ⊢; omega)
    clear c3
    have H' := yD H
    clear H; go_enter Try.func42, Try.ntmps42
    go_wp2
    repeat (go_quiet (fail); try go_wp2)
    go_loopg [5] k (fun kq v5 w' => ∃ (x5_1 : Int), v5 = .int .i64 x5_1 ∧ Aside0 (laws_eqInt64S.l0 kq l0 l1 x5_1 = some r) ∧ Aside0 (kq ≤ k) ∧ Drawn0 w w')
    case atStart => exact ⟨(0), (by first | rfl | (simp; done) | (simp [*]; done)), H', ⟨Nat.le_refl _⟩, by repeat (first | exact Drawn0.refl _ | apply Drawn0.step)⟩
    case round =>
      clear H'
      try clear c1; try clear p2; try clear c3; try clear c3b0; try clear c3b1; try clear c3b2
      obtain ⟨x5_1, rfl, HA, HK1, ⟨m1, rfl⟩⟩ := hrel
      cases gk with
      | zero => exact absurd HA.out (by simp [laws_eqInt64S.l0])
      | succ k1 =>
        have H := HA.out; clear HA
        simp only [laws_eqInt64S.l0] at H
        by_cases c4 : x5_1 < (l0.length : Int)
        · rw [if_pos c4] at H
          have c4b0 : decide (x5_1 < (l0.length : Int)) = true := zR c4; clear c4
          by_cases c5 : 0 ≤ x5_1
          · rw [if_pos c5] at H
            have c5b0 : decide (0 ≤ x5_1) = true := zR c5; clear c5
            by_cases c6 : x5_1 < (l1.length : Int)
            · rw [if_pos c6] at H
              have c6b0 : decide (x5_1 < (l1.length : Int)) = true := zR c6; clear c6
              by_cases c7 : (rd l0 x5_1) = (rd l1 x5_1)
              · rw [if_pos c7] at H
                have c7b0 : ((rd l0 x5_1) == (rd l1 x5_1)) = true := beq_iff_eq.mpr c7
                have c7b1 : ((rd l0 x5_1) != (rd l1 x5_1)) = false := bne_eq_false_iff_eq.mpr c7
                clear c7
                have H' := yD H
                clear H
                have p205 : 0 ≤ (x5_1 : Int) := zP (by assumption)
                have q205 : x5_1 < (l0.length : Int) := zP (by assumption)
                obtain ⟨ad205, e205, hx205_0⟩ := Kd.at_int HR0.out x5_1 p205 q205
                cases e205; replace p205 := eq_true p205; replace q205 := eq_true q205
                have p206 : 0 ≤ (x5_1 : Int) := zP (by assumption)
                have q206 : x5_1 < (l1.length : Int) := zP (by assumption)
                obtain ⟨ad206, e206, hx206_0⟩ := Kd.at_int HR1.out x5_1 p206 q206
                cases e206; replace p206 := eq_true p206; replace q206 := eq_true q206
                go_wp2
                repeat (go_quiet (fail); try go_wp2)
                go_roundg k1
                case measure => have := HK1.out; omega
                case rel => exact ⟨(wrap64 (x5_1 + 1)), (by first | rfl | (simp; done) | (simp [*]; done)), H', ⟨by have := HK1.out; omega⟩, by repeat (first | exact Drawn0.refl _ | apply Drawn0.step)⟩
              · rw [if_neg c7] at H
                have c7b0 : ((rd l0 x5_1) == (rd l1 x5_1)) = false := beq_eq_false_iff_ne.mpr c7
                have c7b1 : ((rd l0 x5_1) != (rd l1 x5_1)) = true := bne_iff_ne.mpr c7
                obtain rfl := Option.some.inj H
                have p205 : 0 ≤ (x5_1 : Int) := zP (by assumption)
                have q205 : x5_1 < (l0.length : Int) := zP (by assumption)
                obtain ⟨ad205, e205, hx205_0⟩ := Kd.at_int HR0.out x5_1 p205 q205
                cases e205; replace p205 := eq_true p205; replace q205 := eq_true q205
                have p206 : 0 ≤ (x5_1 : Int) := zP (by assumption)
                have q206 : x5_1 < (l1.length : Int) := zP (by assumption)
                obtain ⟨ad206, e206, hx206_0⟩ := Kd.at_int HR1.out x5_1 p206 q206
                cases e206; replace p206 := eq_true p206; replace q206 := eq_true q206
                go_wp2
                repeat (go_quiet (fail); try go_wp2)
                go_ret
                exact ⟨by first | rfl | (simp; done) | (simp [*]; done), by repeat (first | exact Drawn0.refl _ | apply Drawn0.step)⟩
            · rw [if_neg c6] at H
              exact absurd H (by simp)
          · rw [if_neg c5] at H
            exact absurd H (by simp)
        · rw [if_neg c4] at H
          have c4b0 : decide (x5_1 < (l0.length : Int)) = false := zS c4; clear c4; obtain rfl := Option.some.inj H
          go_wp2
          repeat (go_quiet (fail); try go_wp2)
          go_ret
          exact ⟨by first | rfl | (simp; done) | (simp [*]; done), by repeat (first | exact Drawn0.refl _ | apply Drawn0.step)⟩
  · rw [if_neg c3] at H
    have c3b0 : ((l0.length : Int) == (l1.length : Int)) = false := beq_eq_false_iff_ne.mpr c3
    have c3b1 : ((l0.length : Int) != (l1.length : Int)) = true := bne_iff_ne.mpr c3
    have c3b2 : (l0.length == l1.length) = false := by first | simpa using c3 | (simp at c3 ⊢; omega)
    obtain rfl := Option.some.inj H; go_enter Try.func42, Try.ntmps42
    go_wp2
    repeat (go_quiet (fail); try go_wp2)
    go_ret
    exact ⟨by first | rfl | (simp; done) | (simp [*]; done), by repeat (first | exact Drawn0.refl _ | apply Drawn0.step)⟩

/-! ### laws_eqBox: function 34 -/
def laws_eqBox.f (k : Nat) (l0_0 : List Int) (l0_1 : List Int) (l1_0 : List Int) (l1_1 : List Int) : Option (Bool) := (laws_eqInt64S.f k l0_0 l1_0).bind fun t209 => (if t209 = true then ((laws_eqInt64S.f k l0_1 l1_1).bind fun t210 => (if t210 = true then (some true) else (some false))) else (some false))
theorem laws_eqBox.mono : ∀ a0 a1 a2 a3 k, LeO (laws_eqBox.f k a0 a1 a2 a3) (laws_eqBox.f (k + 1) a0 a1 a2 a3) := by
  intro a0 a1 a2 a3 k
  unfold laws_eqBox.f
  repeat' first
      | (with_reducible exact laws_eqInt64S.mono _ _ _)
      | (with_reducible exact LeO.refl _)
      | (with_reducible exact LeO.none _)
      | (with_reducible refine LeO.ite ?_ ?_)
      | (with_reducible refine LeO.bind ?_ (fun _ => ?_))
      | exact laws_eqInt64S.mono _ _ _
      | exact LeO.none _
      | refine LeO.ite ?_ ?_
      | refine LeO.bind ?_ (fun _ => ?_)
set_option maxHeartbeats 8000000 in
set_option maxRecDepth 100000 in
theorem laws_eqBox.calls (k : Nat) (A0_0 : Option Addr) (c0_0 : Nat) (l0_0 : List Int) (A0_1 : Option Addr) (c0_1 : Nat) (l0_1 : List Int) (A1_0 : Option Addr) (c1_0 : Nat) (l1_0 : List Int) (A1_1 : Option Addr) (c1_1 : Nat) (l1_1 : List Int) (r : Bool) (w : World) (hr0_0 : Kd.C (Kd.int .i64) w A0_0 l0_0.length l0_0) (hc0_0 : l0_0.length ≤ c0_0) (hr0_1 : Kd.C (Kd.int .i64) w A0_1 l0_1.length l0_1) (hc0_1 : l0_1.length ≤ c0_1) (hr1_0 : Kd.C (Kd.int .i64) w A1_0 l1_0.length l1_0) (hc1_0 : l1_0.length ≤ c1_0) (hr1_1 : Kd.C (Kd.int .i64) w A1_1 l1_1.length l1_1) (hc1_1 : l1_1.length ≤ c1_1) (h : laws_eqBox.f k l0_0 l0_1 l1_0 l1_1 = some r) :
    Calls Try.prog 34 #[.agg #[.slice A0_0 l0_0.length c0_0, .slice A0_1 l0_1.length c0_1], .agg #[.slice A1_0 l1_0.length c1_0, .slice A1_1 l1_1.length c1_1]] w fun e w' => e = .returned (.bool r) ∧ Below w.heap.size w w' := by
  have hu42 := Try.underlying42
  have HR0_0 := yD hr0_0
  have HC0_0 := yD hc0_0
  clear hr0_0 hc0_0
  have HR0_1 := yD hr0_1
  have HC0_1 := yD hc0_1
  clear hr0_1 hc0_1
  have HR1_0 := yD hr1_0
  have HC1_0 := yD hc1_0
  clear hr1_0 hc1_0
  have HR1_1 := yD hr1_1
  have HC1_1 := yD hc1_1
  clear hr1_1 hc1_1
  have HB := yD (Below.refl w.heap.size w)
  have H : ((laws_eqInt64S.f k l0_0 l1_0).bind fun t209 => (if t209 = true then ((laws_eqInt64S.f k l0_1 l1_1).bind fun t210 => (if t210 = true then (some true) else (some false))) else (some false))) = some r := h
  clear h
  replace H := Option.bind_eq_some_iff.mp H
  obtain ⟨t209, A30, H⟩ := H
  replace H : (if t209 = true then ((laws_eqInt64S.f k l0_1 l1_1).bind fun t210 => (if t210 = true then (some true) else (some false))) else (some false)) = some r := H
  have A3 := yD A30
  clear A30
  by_cases c4 : t209 = true
  · subst c4
    have H1 : ((laws_eqInt64S.f k l0_1 l1_1).bind fun t210 => (if t210 = true then (some true) else (some false))) = some r := by rw [if_pos rfl] at H; exact H
    clear H; have H := H1; clear H1
    replace H := Option.bind_eq_some_iff.mp H
    obtain ⟨t210, A50, H⟩ := H
    replace H : (if t210 = true then (some true) else (some false)) = some r := H
    have A5 := yD A50
    clear A50
    by_cases c6 : t210 = true
    · subst c6
      have H1 : (some true) = some r := by rw [if_pos rfl] at H; exact H
      clear H; have H := H1; clear H1; obtain rfl := Option.some.inj H; go_enter Try.func34, Try.ntmps34
      go_wp2_with (first | ((with_reducible refine gate_dst (N := 2) rfl ?_); refine box_event ?hg (N := 2) ?hd (cs := #[.slice A0_0 l0_0.length c0_0, .slice A0_1 l0_1.length c0_1]) (t := 42) ?hr ?_; (case hd => rfl); (case hg => rfl); (case hr => first | (go_simp; done) | (go_simp; rfl)); intro gb207 hg w7 hbox hb; have n0_ := yD (zC (by repeat (first | (with_reducible first | exact HB.out | apply yQ | apply yL | apply yP) | exact HB.out)) hb); have n1_ := yD (hbox); have n2_ := yD ((by rw [hg]; exact (below_size (by repeat (first | (with_reducible first | exact HB.out | apply yQ | apply yL | apply yP) | exact HB.out))) : w.heap.size ≤ gb207)); have n3_ := yD ((by rw [hg]; exact (below_size (by repeat (first | (with_reducible first | exact HB.out | apply yQ | apply yL | apply yP) | exact HB.out))) : w.heap.size ≤ gb207)); clear HB; have HB := n0_; have BK207 := n1_; have GW207 := n2_; have GE207 := n3_; clear n0_ n1_ n2_ n3_; clear hb hbox hg) | ((with_reducible refine gate_dst (N := 3) rfl ?_); refine box_event ?hg (N := 3) ?hd (cs := #[.slice A1_0 l1_0.length c1_0, .slice A1_1 l1_1.length c1_1]) (t := 42) ?hr ?_; (case hd => rfl); (case hg => rfl); (case hr => first | (go_simp; done) | (go_simp; rfl)); intro gb208 hg w8 hbox hb; have n0_ := yD (zB (g := gb207) (o := .cells #[.slice A0_0 l0_0.length c0_0, .slice A0_1 l0_1.length c0_1] 42 (0, 0)) (by (with_reducible repeat (first | refine yM ?_ _ | refine yO ?_ | refine yN ?_ _)); exact BK207.out) hb); have n1_ := yD (zC (by repeat (first | (with_reducible first | exact HB.out | apply yQ | apply yL | apply yP | refine yE ?_ GE207.out) | exact HB.out)) hb); have n2_ := yD (hbox); have n3_ := yD ((by rw [hg]; exact (below_size (by repeat (first | (with_reducible first | exact HB.out | apply yQ | apply yL | apply yP | refine yE ?_ GE207.out) | exact HB.out))) : w.heap.size ≤ gb208)); have n4_ := yD ((by rw [hg]; exact (below_size (by repeat (first | (with_reducible first | exact HB.out | apply yQ | apply yL | apply yP | refine yE ?_ GE207.out) | exact HB.out))) : w.heap.size ≤ gb208)); have n5_ := yD ((by rw [hg]; exact Nat.ne_of_lt (blk_lt (g := gb207) (o := .cells #[.slice A0_0 l0_0.length c0_0, .slice A0_1 l0_1.length c0_1] 42 (0, 0)) (by (with_reducible repeat (first | refine yM ?_ _ | refine yO ?_ | refine yN ?_ _)); exact BK207.out)) : gb207 ≠ gb208)); have n6_ := yD ((by rw [hg]; exact Nat.ne_of_gt (blk_lt (g := gb207) (o := .cells #[.slice A0_0 l0_0.length c0_0, .slice A0_1 l0_1.length c0_1] 42 (0, 0)) (by (with_reducible repeat (first | refine yM ?_ _ | refine yO ?_ | refine yN ?_ _)); exact BK207.out)) : gb208 ≠ gb207)); clear BK207; clear HB; have BK207 := n0_; have HB := n1_; have BK208 := n2_; have GW208 := n3_; have GE208 := n4_; have NB207_208 := n5_; have NB208_207 := n6_; clear n0_ n1_ n2_ n3_ n4_ n5_ n6_; clear hb hbox hg; have hnb9 := NB207_208.out; have hnc9 := NB208_207.out; have hcz10_0 : w8.cell? ⟨gb207, 0, none⟩ = some (.slice A0_0 l0_0.length c0_0) := (yG BK207.out 0).trans rfl; have hcz10_1 : w8.cell? ⟨gb207, 1, none⟩ = some (.slice A0_1 l0_1.length c0_1) := (yG BK207.out 1).trans rfl; have hfz10_0 := yR BK207.out 0; have hfz10_1 := yR BK207.out 1; have hcz11_0 : w8.cell? ⟨gb208, 0, none⟩ = some (.slice A1_0 l1_0.length c1_0) := (yG BK208.out 0).trans rfl; have hcz11_1 : w8.cell? ⟨gb208, 1, none⟩ = some (.slice A1_1 l1_1.length c1_1) := (yG BK208.out 1).trans rfl; have hfz11_0 := yR BK208.out 0; have hfz11_1 := yR BK208.out 1) | ((with_reducible refine gate_callee (f := 42) rfl ?_); refine goesL_ (some 9) rfl rfl Try.func42 (by kernel_rfl) rfl #[.slice A0_0 l0_0.length c0_0, .slice A1_0 l1_0.length c1_0] rfl (by (try simp only [zK, zL, zM]); first | done | rfl | (simp only [zN, zO]; rfl)) ?_; (with_reducible refine (laws_eqInt64S.calls k _ _ l0_0 _ _ l1_0 true _ ?side1 ?side2 ?side3 ?side4 A3.out).mono ?_); (case side1 => repeat (first | exact (yY HR0_0.out HB.out) | (with_reducible first | refine yV ?_ _ | refine yW ?_ _ | refine yX ?_))); (case side2 => exact HC0_0.out); (case side3 => repeat (first | exact (yY HR1_0.out HB.out) | (with_reducible first | refine yV ?_ _ | refine yW ?_ _ | refine yX ?_))); (case side4 => exact HC1_0.out); rintro e w' ⟨rfl, ⟨nd, rfl⟩⟩; refine ⟨_, rfl, ?_⟩) | ((with_reducible refine gate_callee (f := 42) rfl ?_); refine goesL_ (some 15) rfl rfl Try.func42 (by kernel_rfl) rfl #[.slice A0_1 l0_1.length c0_1, .slice A1_1 l1_1.length c1_1] rfl (by (try simp only [zK, zL, zM]); first | done | rfl | (simp only [zN, zO]; rfl)) ?_; (with_reducible refine (laws_eqInt64S.calls k _ _ l0_1 _ _ l1_1 true _ ?side1 ?side2 ?side3 ?side4 A5.out).mono ?_); (case side1 => repeat (first | exact (yY HR0_1.out (by repeat (first | (with_reducible first | exact HB.out | apply yQ | apply yL | apply yP | refine yE ?_ GE207.out | refine yE ?_ GE208.out) | exact HB.out))) | (with_reducible first | refine yV ?_ _ | refine yW ?_ _ | refine yX ?_))); (case side2 => exact HC0_1.out); (case side3 => repeat (first | exact (yY HR1_1.out (by repeat (first | (with_reducible first | exact HB.out | apply yQ | apply yL | apply yP | refine yE ?_ GE207.out | refine yE ?_ GE208.out) | exact HB.out))) | (with_reducible first | refine yV ?_ _ | refine yW ?_ _ | refine yX ?_))); (case side4 => exact HC1_1.out); rintro e w' ⟨rfl, ⟨nd, rfl⟩⟩; refine ⟨_, rfl, ?_⟩))
      go_ret
      exact ⟨by first | rfl | (simp [errW_none, errW_some] <;> rfl) | (simp [*, errW_none, errW_some] <;> rfl), by repeat (first | (with_reducible first | exact HB.out | apply yQ | apply yL | apply yP | refine yE ?_ GE207.out | refine yE ?_ GE208.out) | exact HB.out)⟩
    · replace c6 := Bool.eq_false_iff.mpr c6
      subst c6
      have H1 : (some false) = some r := by rw [if_neg (show ¬ (false = true) by decide)] at H; exact H
      clear H; have H := H1; clear H1; obtain rfl := Option.some.inj H; go_enter Try.func34, Try.ntmps34
      go_wp2_with (first | ((with_reducible refine gate_dst (N := 2) rfl ?_); refine box_event ?hg (N := 2) ?hd (cs := #[.slice A0_0 l0_0.length c0_0, .slice A0_1 l0_1.length c0_1]) (t := 42) ?hr ?_; (case hd => rfl); (case hg => rfl); (case hr => first | (go_simp; done) | (go_simp; rfl)); intro gb207 hg w12 hbox hb; have n0_ := yD (zC (by repeat (first | (with_reducible first | exact HB.out | apply yQ | apply yL | apply yP) | exact HB.out)) hb); have n1_ := yD (hbox); have n2_ := yD ((by rw [hg]; exact (below_size (by repeat (first | (with_reducible first | exact HB.out | apply yQ | apply yL | apply yP) | exact HB.out))) : w.heap.size ≤ gb207)); have n3_ := yD ((by rw [hg]; exact (below_size (by repeat (first | (with_reducible first | exact HB.out | apply yQ | apply yL | apply yP) | exact HB.out))) : w.heap.size ≤ gb207)); clear HB; have HB := n0_; have BK207 := n1_; have GW207 := n2_; have GE207 := n3_; clear n0_ n1_ n2_ n3_; clear hb hbox hg) | ((with_reducible refine gate_dst (N := 3) rfl ?_); refine box_event ?hg (N := 3) ?hd (cs := #[.slice A1_0 l1_0.length c1_0, .slice A1_1 l1_1.length c1_1]) (t := 42) ?hr ?_; (case hd => rfl); (case hg => rfl); (case hr => first | (go_simp; done) | (go_simp; rfl)); intro gb208 hg w13 hbox hb; have n0_ := yD (zB (g := gb207) (o := .cells #[.slice A0_0 l0_0.length c0_0, .slice A0_1 l0_1.length c0_1] 42 (0, 0)) (by (with_reducible repeat (first | refine yM ?_ _ | refine yO ?_ | refine yN ?_ _)); exact BK207.out) hb); have n1_ := yD (zC (by repeat (first | (with_reducible first | exact HB.out | apply yQ | apply yL | apply yP | refine yE ?_ GE207.out) | exact HB.out)) hb); have n2_ := yD (hbox); have n3_ := yD ((by rw [hg]; exact (below_size (by repeat (first | (with_reducible first | exact HB.out | apply yQ | apply yL | apply yP | refine yE ?_ GE207.out) | exact HB.out))) : w.heap.size ≤ gb208)); have n4_ := yD ((by rw [hg]; exact (below_size (by repeat (first | (with_reducible first | exact HB.out | apply yQ | apply yL | apply yP | refine yE ?_ GE207.out) | exact HB.out))) : w.heap.size ≤ gb208)); have n5_ := yD ((by rw [hg]; exact Nat.ne_of_lt (blk_lt (g := gb207) (o := .cells #[.slice A0_0 l0_0.length c0_0, .slice A0_1 l0_1.length c0_1] 42 (0, 0)) (by (with_reducible repeat (first | refine yM ?_ _ | refine yO ?_ | refine yN ?_ _)); exact BK207.out)) : gb207 ≠ gb208)); have n6_ := yD ((by rw [hg]; exact Nat.ne_of_gt (blk_lt (g := gb207) (o := .cells #[.slice A0_0 l0_0.length c0_0, .slice A0_1 l0_1.length c0_1] 42 (0, 0)) (by (with_reducible repeat (first | refine yM ?_ _ | refine yO ?_ | refine yN ?_ _)); exact BK207.out)) : gb208 ≠ gb207)); clear BK207; clear HB; have BK207 := n0_; have HB := n1_; have BK208 := n2_; have GW208 := n3_; have GE208 := n4_; have NB207_208 := n5_; have NB208_207 := n6_; clear n0_ n1_ n2_ n3_ n4_ n5_ n6_; clear hb hbox hg; have hnb14 := NB207_208.out; have hnc14 := NB208_207.out; have hcz15_0 : w13.cell? ⟨gb207, 0, none⟩ = some (.slice A0_0 l0_0.length c0_0) := (yG BK207.out 0).trans rfl; have hcz15_1 : w13.cell? ⟨gb207, 1, none⟩ = some (.slice A0_1 l0_1.length c0_1) := (yG BK207.out 1).trans rfl; have hfz15_0 := yR BK207.out 0; have hfz15_1 := yR BK207.out 1; have hcz16_0 : w13.cell? ⟨gb208, 0, none⟩ = some (.slice A1_0 l1_0.length c1_0) := (yG BK208.out 0).trans rfl; have hcz16_1 : w13.cell? ⟨gb208, 1, none⟩ = some (.slice A1_1 l1_1.length c1_1) := (yG BK208.out 1).trans rfl; have hfz16_0 := yR BK208.out 0; have hfz16_1 := yR BK208.out 1) | ((with_reducible refine gate_callee (f := 42) rfl ?_); refine goesL_ (some 9) rfl rfl Try.func42 (by kernel_rfl) rfl #[.slice A0_0 l0_0.length c0_0, .slice A1_0 l1_0.length c1_0] rfl (by (try simp only [zK, zL, zM]); first | done | rfl | (simp only [zN, zO]; rfl)) ?_; (with_reducible refine (laws_eqInt64S.calls k _ _ l0_0 _ _ l1_0 true _ ?side1 ?side2 ?side3 ?side4 A3.out).mono ?_); (case side1 => repeat (first | exact (yY HR0_0.out HB.out) | (with_reducible first | refine yV ?_ _ | refine yW ?_ _ | refine yX ?_))); (case side2 => exact HC0_0.out); (case side3 => repeat (first | exact (yY HR1_0.out HB.out) | (with_reducible first | refine yV ?_ _ | refine yW ?_ _ | refine yX ?_))); (case side4 => exact HC1_0.out); rintro e w' ⟨rfl, ⟨nd, rfl⟩⟩; refine ⟨_, rfl, ?_⟩) | ((with_reducible refine gate_callee (f := 42) rfl ?_); refine goesL_ (some 15) rfl rfl Try.func42 (by kernel_rfl) rfl #[.slice A0_1 l0_1.length c0_1, .slice A1_1 l1_1.length c1_1] rfl (by (try simp only [zK, zL, zM]); first | done | rfl | (simp only [zN, zO]; rfl)) ?_; (with_reducible refine (laws_eqInt64S.calls k _ _ l0_1 _ _ l1_1 false _ ?side1 ?side2 ?side3 ?side4 A5.out).mono ?_); (case side1 => repeat (first | exact (yY HR0_1.out (by repeat (first | (with_reducible first | exact HB.out | apply yQ | apply yL | apply yP | refine yE ?_ GE207.out | refine yE ?_ GE208.out) | exact HB.out))) | (with_reducible first | refine yV ?_ _ | refine yW ?_ _ | refine yX ?_))); (case side2 => exact HC0_1.out); (case side3 => repeat (first | exact (yY HR1_1.out (by repeat (first | (with_reducible first | exact HB.out | apply yQ | apply yL | apply yP | refine yE ?_ GE207.out | refine yE ?_ GE208.out) | exact HB.out))) | (with_reducible first | refine yV ?_ _ | refine yW ?_ _ | refine yX ?_))); (case side4 => exact HC1_1.out); rintro e w' ⟨rfl, ⟨nd, rfl⟩⟩; refine ⟨_, rfl, ?_⟩))
      go_ret
      exact ⟨by first | rfl | (simp [errW_none, errW_some] <;> rfl) | (simp [*, errW_none, errW_some] <;> rfl), by repeat (first | (with_reducible first | exact HB.out | apply yQ | apply yL | apply yP | refine yE ?_ GE207.out | refine yE ?_ GE208.out) | exact HB.out)⟩
  · replace c4 := Bool.eq_false_iff.mpr c4
    subst c4
    have H1 : (some false) = some r := by rw [if_neg (show ¬ (false = true) by decide)] at H; exact H
    clear H; have H := H1; clear H1; obtain rfl := Option.some.inj H; go_enter Try.func34, Try.ntmps34
    go_wp2_with (first | ((with_reducible refine gate_dst (N := 2) rfl ?_); refine box_event ?hg (N := 2) ?hd (cs := #[.slice A0_0 l0_0.length c0_0, .slice A0_1 l0_1.length c0_1]) (t := 42) ?hr ?_; (case hd => rfl); (case hg => rfl); (case hr => first | (go_simp; done) | (go_simp; rfl)); intro gb207 hg w17 hbox hb; have n0_ := yD (zC (by repeat (first | (with_reducible first | exact HB.out | apply yQ | apply yL | apply yP) | exact HB.out)) hb); have n1_ := yD (hbox); have n2_ := yD ((by rw [hg]; exact (below_size (by repeat (first | (with_reducible first | exact HB.out | apply yQ | apply yL | apply yP) | exact HB.out))) : w.heap.size ≤ gb207)); have n3_ := yD ((by rw [hg]; exact (below_size (by repeat (first | (with_reducible first | exact HB.out | apply yQ | apply yL | apply yP) | exact HB.out))) : w.heap.size ≤ gb207)); clear HB; have HB := n0_; have BK207 := n1_; have GW207 := n2_; have GE207 := n3_; clear n0_ n1_ n2_ n3_; clear hb hbox hg) | ((with_reducible refine gate_dst (N := 3) rfl ?_); refine box_event ?hg (N := 3) ?hd (cs := #[.slice A1_0 l1_0.length c1_0, .slice A1_1 l1_1.length c1_1]) (t := 42) ?hr ?_; (case hd => rfl); (case hg => rfl); (case hr => first | (go_simp; done) | (go_simp; rfl)); intro gb208 hg w18 hbox hb; have n0_ := yD (zB (g := gb207) (o := .cells #[.slice A0_0 l0_0.length c0_0, .slice A0_1 l0_1.length c0_1] 42 (0, 0)) (by (with_reducible repeat (first | refine yM ?_ _ | refine yO ?_ | refine yN ?_ _)); exact BK207.out) hb); have n1_ := yD (zC (by repeat (first | (with_reducible first | exact HB.out | apply yQ | apply yL | apply yP | refine yE ?_ GE207.out) | exact HB.out)) hb); have n2_ := yD (hbox); have n3_ := yD ((by rw [hg]; exact (below_size (by repeat (first | (with_reducible first | exact HB.out | apply yQ | apply yL | apply yP | refine yE ?_ GE207.out) | exact HB.out))) : w.heap.size ≤ gb208)); have n4_ := yD ((by rw [hg]; exact (below_size (by repeat (first | (with_reducible first | exact HB.out | apply yQ | apply yL | apply yP | refine yE ?_ GE207.out) | exact HB.out))) : w.heap.size ≤ gb208)); have n5_ := yD ((by rw [hg]; exact Nat.ne_of_lt (blk_lt (g := gb207) (o := .cells #[.slice A0_0 l0_0.length c0_0, .slice A0_1 l0_1.length c0_1] 42 (0, 0)) (by (with_reducible repeat (first | refine yM ?_ _ | refine yO ?_ | refine yN ?_ _)); exact BK207.out)) : gb207 ≠ gb208)); have n6_ := yD ((by rw [hg]; exact Nat.ne_of_gt (blk_lt (g := gb207) (o := .cells #[.slice A0_0 l0_0.length c0_0, .slice A0_1 l0_1.length c0_1] 42 (0, 0)) (by (with_reducible repeat (first | refine yM ?_ _ | refine yO ?_ | refine yN ?_ _)); exact BK207.out)) : gb208 ≠ gb207)); clear BK207; clear HB; have BK207 := n0_; have HB := n1_; have BK208 := n2_; have GW208 := n3_; have GE208 := n4_; have NB207_208 := n5_; have NB208_207 := n6_; clear n0_ n1_ n2_ n3_ n4_ n5_ n6_; clear hb hbox hg; have hnb19 := NB207_208.out; have hnc19 := NB208_207.out; have hcz20_0 : w18.cell? ⟨gb207, 0, none⟩ = some (.slice A0_0 l0_0.length c0_0) := (yG BK207.out 0).trans rfl; have hcz20_1 : w18.cell? ⟨gb207, 1, none⟩ = some (.slice A0_1 l0_1.length c0_1) := (yG BK207.out 1).trans rfl; have hfz20_0 := yR BK207.out 0; have hfz20_1 := yR BK207.out 1; have hcz21_0 : w18.cell? ⟨gb208, 0, none⟩ = some (.slice A1_0 l1_0.length c1_0) := (yG BK208.out 0).trans rfl; have hcz21_1 : w18.cell? ⟨gb208, 1, none⟩ = some (.slice A1_1 l1_1.length c1_1) := (yG BK208.out 1).trans rfl; have hfz21_0 := yR BK208.out 0; have hfz21_1 := yR BK208.out 1) | ((with_reducible refine gate_callee (f := 42) rfl ?_); refine goesL_ (some 9) rfl rfl Try.func42 (by kernel_rfl) rfl #[.slice A0_0 l0_0.length c0_0, .slice A1_0 l1_0.length c1_0] rfl (by (try simp only [zK, zL, zM]); first | done | rfl | (simp only [zN, zO]; rfl)) ?_; (with_reducible refine (laws_eqInt64S.calls k _ _ l0_0 _ _ l1_0 false _ ?side1 ?side2 ?side3 ?side4 A3.out).mono ?_); (case side1 => repeat (first | exact (yY HR0_0.out HB.out) | (with_reducible first | refine yV ?_ _ | refine yW ?_ _ | refine yX ?_))); (case side2 => exact HC0_0.out); (case side3 => repeat (first | exact (yY HR1_0.out HB.out) | (with_reducible first | refine yV ?_ _ | refine yW ?_ _ | refine yX ?_))); (case side4 => exact HC1_0.out); rintro e w' ⟨rfl, ⟨nd, rfl⟩⟩; refine ⟨_, rfl, ?_⟩))
    go_ret
    exact ⟨by first | rfl | (simp [errW_none, errW_some] <;> rfl) | (simp [*, errW_none, errW_some] <;> rfl), by repeat (first | (with_reducible first | exact HB.out | apply yQ | apply yL | apply yP | refine yE ?_ GE207.out | refine yE ?_ GE208.out) | exact HB.out)⟩

/-! ### laws_eqBoxS: function 17 -/
def laws_eqBoxS.l0 : Nat → List (S42) → List (S42) → Int → Option (Bool)
  | 0, _, _, _ => none
  | k + 1, x0, x1, x5 => if x5 < (x0.length : Int) then (if 0 ≤ x5 then (if x5 < (x1.length : Int) then ((laws_eqBox.f k ((rd_T42 x0 x5).f0) ((rd_T42 x0 x5).f1) ((rd_T42 x1 x5).f0) ((rd_T42 x1 x5).f1)).bind fun t213 => (if t213 = true then (laws_eqBoxS.l0 k x0 x1 (wrap64 (x5 + 1))) else (some false))) else (none)) else (none)) else (some true)
def laws_eqBoxS.f (k : Nat) (l0 : List (S42)) (l1 : List (S42)) : Option (Bool) := if (l0.length : Int) = (l1.length : Int) then (laws_eqBoxS.l0 k l0 l1 0) else (some false)
theorem laws_eqBoxS.mono_l : ∀ k, (∀ y0 y1 y2, LeO (laws_eqBoxS.l0 k y0 y1 y2) (laws_eqBoxS.l0 (k + 1) y0 y1 y2))
  | 0 => fun _ _ _ r h => by simp [laws_eqBoxS.l0] at h
  | k + 1 => by
    have ih0 := laws_eqBoxS.mono_l k
    · intro y0 y1 y2
      unfold laws_eqBoxS.l0
      repeat' first
      | (with_reducible exact ih0 _ _ _)
      | (with_reducible exact laws_eqBox.mono _ _ _ _ _)
      | (with_reducible exact LeO.refl _)
      | (with_reducible exact LeO.none _)
      | (with_reducible refine LeO.ite ?_ ?_)
      | (with_reducible refine LeO.bind ?_ (fun _ => ?_))
      | exact ih0 _ _ _
      | exact laws_eqBox.mono _ _ _ _ _
      | exact LeO.none _
      | refine LeO.ite ?_ ?_
      | refine LeO.bind ?_ (fun _ => ?_)
theorem laws_eqBoxS.mono : ∀ a0 a1 k, LeO (laws_eqBoxS.f k a0 a1) (laws_eqBoxS.f (k + 1) a0 a1) := by
  intro a0 a1 k
  have ih0 := laws_eqBoxS.mono_l k
  unfold laws_eqBoxS.f
  repeat' first
      | (with_reducible exact ih0 _ _ _)
      | (with_reducible exact laws_eqBox.mono _ _ _ _ _)
      | (with_reducible exact LeO.refl _)
      | (with_reducible exact LeO.none _)
      | (with_reducible refine LeO.ite ?_ ?_)
      | (with_reducible refine LeO.bind ?_ (fun _ => ?_))
      | exact ih0 _ _ _
      | exact laws_eqBox.mono _ _ _ _ _
      | exact LeO.none _
      | refine LeO.ite ?_ ?_
      | refine LeO.bind ?_ (fun _ => ?_)
def laws_eqBoxS.T6 : Bool × List (List Nat × List Nat) := (true, [([], []), ([], []), ([0, 1], [0, 1]), ([2], [2]), ([], []), ([], []), ([4, 5], [4, 5]), ([6], [6]), ([3, 7], [3, 7]), ([8], [8])])
def laws_eqBoxS.B6 : List Nat := [0, 0, 3, 7, 0, 0, 48, 112, 255, 511]
theorem laws_eqBoxS.tab6 : rtab .any (opsOf Try.f17 6) = laws_eqBoxS.T6 := by kernel_rfl
theorem laws_eqBoxS.bits6 : waitsOk laws_eqBoxS.T6.2 laws_eqBoxS.B6 = true := by kernel_rfl
set_option maxHeartbeats 8000000 in
set_option maxRecDepth 100000 in
theorem laws_eqBoxS.calls (k : Nat) (A0 : Option Addr) (c0 : Nat) (l0 : List (S42)) (A1 : Option Addr) (c1 : Nat) (l1 : List (S42)) (r : Bool) (w : World) (hr0 : Kd.C k42 w A0 l0.length l0) (hc0 : l0.length ≤ c0) (hr1 : Kd.C k42 w A1 l1.length l1) (hc1 : l1.length ≤ c1) (h : laws_eqBoxS.f k l0 l1 = some r) :
    Calls Try.prog 17 #[.slice A0 l0.length c0, .slice A1 l1.length c1] w fun e w' => e = .returned (.bool r) ∧ Below w.heap.size w w' := by
  have hu42 := Try.underlying42
  have HR0 := yD hr0
  have HC0 := yD hc0
  clear hr0 hc0
  have HR1 := yD hr1
  have HC1 := yD hc1
  clear hr1 hc1
  have HB := yD (Below.refl w.heap.size w)
  have H : (if (l0.length : Int) = (l1.length : Int) then (laws_eqBoxS.l0 k l0 l1 0) else (some false)) = some r := h
  clear h
  by_cases c3 : (l0.length : Int) = (l1.length : Int)
  · rw [if_pos c3] at H
    have c3b0 : ((l0.length : Int) == (l1.length : Int)) = true := beq_iff_eq.mpr c3
    have c3b1 : ((l0.length : Int) != (l1.length : Int)) = false := bne_eq_false_iff_eq.mpr c3
    have c3b2 : (l0.length == l1.length) = true := by first | simpa using c3 | (simp at c3 ⊢; omega)
    clear c3
    have H' := yD H
    clear H; go_enter Try.func17, Try.ntmps17
    go_wp2
    go_loopg [5] k (fun kq v5 w' => ∃ (x5_1 : Int), v5 = .int .i64 x5_1 ∧ Aside0 (laws_eqBoxS.l0 kq l0 l1 x5_1 = some r) ∧ Aside0 (kq ≤ k) ∧ Aside0 (Below w.heap.size w w'))
    case atStart => exact ⟨(0), (by first | rfl | (simp; done) | (simp [*]; done)), H', ⟨Nat.le_refl _⟩, ⟨by repeat (first | (with_reducible first | exact HB.out | apply yQ | apply yL | apply yP) | exact HB.out)⟩⟩
    case round =>
      clear H'
      try clear c1; try clear p2; try clear c3; try clear c3b0; try clear c3b1; try clear c3b2
      obtain ⟨x5_1, rfl, HA, HK1, HB⟩ := hrel
      cases gk with
      | zero => exact absurd HA.out (by simp [laws_eqBoxS.l0])
      | succ k1 =>
        have H := HA.out; clear HA
        simp only [laws_eqBoxS.l0] at H
        by_cases c4 : x5_1 < (l0.length : Int)
        · rw [if_pos c4] at H
          have c4b0 : decide (x5_1 < (l0.length : Int)) = true := zR c4; clear c4
          by_cases c5 : 0 ≤ x5_1
          · rw [if_pos c5] at H
            have c5b0 : decide (0 ≤ x5_1) = true := zR c5; clear c5
            by_cases c6 : x5_1 < (l1.length : Int)
            · rw [if_pos c6] at H
              have c6b0 : decide (x5_1 < (l1.length : Int)) = true := zR c6; clear c6
              replace H := Option.bind_eq_some_iff.mp H
              obtain ⟨t213, A70, H⟩ := H
              replace H : (if t213 = true then (laws_eqBoxS.l0 k1 l0 l1 (wrap64 (x5_1 + 1))) else (some false)) = some r := H
              have A7 := yD A70
              clear A70
              by_cases c8 : t213 = true
              · subst c8
                have H1 : (laws_eqBoxS.l0 k1 l0 l1 (wrap64 (x5_1 + 1))) = some r := by rw [if_pos rfl] at H; exact H
                clear H; have H := H1; clear H1
                have H' := yD H
                clear H
                try go_wp2
                have n0_ := yD (yP HB.out)
                clear HB; have HB := n0_; clear n0_
                have p211 : 0 ≤ (x5_1 : Int) := zP (by assumption)
                have q211 : x5_1 < (l0.length : Int) := zP (by assumption)
                obtain ⟨ad211, A211_0, c211_0, A211_1, c211_1, e211, hx211_0, hx211_1, hl211_0, hi211_0, hl211_1, hi211_1⟩ := at_T42 HR0.out x5_1 p211 q211
                have hw211_1 := hx211_1; have hw211_0 := hx211_0; cases e211
                replace hx211_0 := (HB.out.cell (zQ w _ hx211_0)).trans hx211_0
                replace hx211_1 := (HB.out.cell (zQ w _ hx211_1)).trans hx211_1
                have HR211_0 := yD hi211_0
                have HC211_0 := yD hl211_0
                clear hi211_0 hl211_0
                have HR211_1 := yD hi211_1
                have HC211_1 := yD hl211_1
                clear hi211_1 hl211_1; replace p211 := eq_true p211; replace q211 := eq_true q211
                have p212 : 0 ≤ (x5_1 : Int) := zP (by assumption)
                have q212 : x5_1 < (l1.length : Int) := zP (by assumption)
                obtain ⟨ad212, A212_0, c212_0, A212_1, c212_1, e212, hx212_0, hx212_1, hl212_0, hi212_0, hl212_1, hi212_1⟩ := at_T42 HR1.out x5_1 p212 q212
                have hw212_1 := hx212_1; have hw212_0 := hx212_0; cases e212
                replace hx212_0 := (HB.out.cell (zQ w _ hx212_0)).trans hx212_0
                replace hx212_1 := (HB.out.cell (zQ w _ hx212_1)).trans hx212_1
                have HR212_0 := yD hi212_0
                have HC212_0 := yD hl212_0
                clear hi212_0 hl212_0
                have HR212_1 := yD hi212_1
                have HC212_1 := yD hl212_1
                clear hi212_1 hl212_1; replace p212 := eq_true p212; replace q212 := eq_true q212
                refine start_ (n := 10) (S := fun w' => w'.cell? (ad211.add ((x5_1).toNat * 2)) = some (.slice A211_0 ((rd_T42 l0 x5_1).f0).length c211_0) ∧ w'.cell? ⟨(ad211.add ((x5_1).toNat * 2)).block, (ad211.add ((x5_1).toNat * 2)).off + 1, none⟩ = some (.slice A211_1 ((rd_T42 l0 x5_1).f1).length c211_1) ∧ w'.cell? (ad212.add ((x5_1).toNat * 2)) = some (.slice A212_0 ((rd_T42 l1 x5_1).f0).length c212_0) ∧ w'.cell? ⟨(ad212.add ((x5_1).toNat * 2)).block, (ad212.add ((x5_1).toNat * 2)).off + 1, none⟩ = some (.slice A212_1 ((rd_T42 l1 x5_1).f1).length c212_1)) (ds := []) #[false, false, false, false, false, false, false, false, false, false] (by kernel_rfl) rfl rfl ⟨((HB.out.cell (zQ w _ hw211_0)).trans hw211_0), ((HB.out.cell (zQ w _ hw211_1)).trans hw211_1), ((HB.out.cell (zQ w _ hw212_0)).trans hw212_0), ((HB.out.cell (zQ w _ hw212_1)).trans hw212_1)⟩ (fun hHeld => ?_); refine with_tabW laws_eqBoxS.tab6 laws_eqBoxS.bits6 (fun HT_ HW_ => ?_)
                generalize wr.drew = w9 at HB HR211_0 HR211_1 HR212_0 HR212_1 hx211_0 hx211_1 hx212_0 hx212_1 hHeld ⊢
                refine pure_ (i := 0) (N := some 17) (v := ?_) (a' := ?_) #[true, false, false, false, false, false, false, false, false, false] rfl rfl (any_of HT_.out (by kernel_rfl)) (fun _ _ _ h => h) (Or.inl ⟨by rfl, ?_⟩) ?_ ?_
                rotate_left
                · intro w'
                  go_simp
                  with_reducible rfl
                rotate_left
                · simp only [Act.put, zH, zI, zJ, i64_w, i32_w]
                  rfl
                refine pure_ (i := 1) (N := some 18) (v := ?_) (a' := ?_) #[true, true, false, false, false, false, false, false, false, false] rfl rfl (any_of HT_.out (by kernel_rfl)) (fun _ _ _ h => h) (Or.inl ⟨by rfl, ?_⟩) ?_ ?_
                rotate_left
                · intro w'
                  go_simp
                  with_reducible rfl
                rotate_left
                · simp only [Act.put, zH, zI, zJ, i64_w, i32_w]
                  rfl
                refine pure_ (i := 2) (N := some 19) (v := ?_) (a' := ?_) #[true, true, true, false, false, false, false, false, false, false] rfl rfl (any_of HT_.out (by kernel_rfl)) (fun _ _ _ h => h) (Or.inl ⟨by rfl, ?_⟩) ?_ ?_
                rotate_left
                · intro w'
                  go_simp
                  with_reducible rfl
                rotate_left
                · simp only [Act.put, zH, zI, zJ, i64_w, i32_w]
                  rfl
                refine pure_ (i := 4) (N := some 21) (v := ?_) (a' := ?_) #[true, true, true, false, true, false, false, false, false, false] rfl rfl (any_of HT_.out (by kernel_rfl)) (fun _ _ _ h => h) (Or.inl ⟨by rfl, ?_⟩) ?_ ?_
                rotate_left
                · intro w'
                  go_simp
                  with_reducible rfl
                rotate_left
                · simp only [Act.put, zH, zI, zJ, i64_w, i32_w]
                  rfl
                refine pure_ (i := 5) (N := some 22) (v := ?_) (a' := ?_) #[true, true, true, false, true, true, false, false, false, false] rfl rfl (any_of HT_.out (by kernel_rfl)) (fun _ _ _ h => h) (Or.inl ⟨by rfl, ?_⟩) ?_ ?_
                rotate_left
                · intro w'
                  go_simp
                  with_reducible rfl
                rotate_left
                · simp only [Act.put, zH, zI, zJ, i64_w, i32_w]
                  rfl
                refine pure_ (i := 6) (N := some 23) (v := ?_) (a' := ?_) #[true, true, true, false, true, true, true, false, false, false] rfl rfl (any_of HT_.out (by kernel_rfl)) (fun _ _ _ h => h) (Or.inl ⟨by rfl, ?_⟩) ?_ ?_
                rotate_left
                · intro w'
                  go_simp
                  with_reducible rfl
                rotate_left
                · simp only [Act.put, zH, zI, zJ, i64_w, i32_w]
                  rfl
                refine take_ (i := 3) (N := some 20) (v := ?_) (a' := ?_) #[true, true, true, true, true, true, true, false, false, false] rfl rfl (take_ofW HT_.out HW_.out (by kernel_rfl)) (fun _ _ _ h => h) (Or.inl ⟨by rfl, ?_⟩) hHeld ?_ ?_
                rotate_left
                · rintro w' ⟨s0, s1, s2, s3⟩
                  go_simp
                  with_reducible rfl
                rotate_left
                · simp only [Act.put, zH, zI, zJ, i64_w, i32_w]
                  rfl
                refine take_ (i := 7) (N := some 24) (v := ?_) (a' := ?_) #[true, true, true, true, true, true, true, true, false, false] rfl rfl (take_ofW HT_.out HW_.out (by kernel_rfl)) (fun _ _ _ h => h) (Or.inl ⟨by rfl, ?_⟩) hHeld ?_ ?_
                rotate_left
                · rintro w' ⟨s0, s1, s2, s3⟩
                  go_simp
                  with_reducible rfl
                rotate_left
                · simp only [Act.put, zH, zI, zJ, i64_w, i32_w]
                  rfl
                refine one_ (i := 8) (N := some 25) #[true, true, true, true, true, true, true, true, true, false] rfl rfl (one_of HT_.out (by kernel_rfl)) (by decide) (fun K hK => ?_)
                refine goes_ Try.func34 (by kernel_rfl) rfl #[.agg #[.slice A211_0 ((rd_T42 l0 x5_1).f0).length c211_0, .slice A211_1 ((rd_T42 l0 x5_1).f1).length c211_1], .agg #[.slice A212_0 ((rd_T42 l1 x5_1).f0).length c212_0, .slice A212_1 ((rd_T42 l1 x5_1).f1).length c212_1]] (by rfl) rfl rfl (by (try simp only [zK, zL, zM]); first | done | rfl | (simp only [zN, zO]; rfl)) ?_
                with_reducible refine (laws_eqBox.calls k1 _ _ ((rd_T42 l0 x5_1).f0) _ _ ((rd_T42 l0 x5_1).f1) _ _ ((rd_T42 l1 x5_1).f0) _ _ ((rd_T42 l1 x5_1).f1) true _ ?side1 ?side2 ?side3 ?side4 ?side5 ?side6 ?side7 ?side8 A7.out).mono ?_
                (case side1 => repeat (first | exact (yY HR211_0.out HB.out) | (with_reducible first | refine yV ?_ _ | refine yW ?_ _ | refine yX ?_)))
                (case side2 => exact HC211_0.out)
                (case side3 => repeat (first | exact (yY HR211_1.out HB.out) | (with_reducible first | refine yV ?_ _ | refine yW ?_ _ | refine yX ?_)))
                (case side4 => exact HC211_1.out)
                (case side5 => repeat (first | exact (yY HR212_0.out HB.out) | (with_reducible first | refine yV ?_ _ | refine yW ?_ _ | refine yX ?_)))
                (case side6 => exact HC212_0.out)
                (case side7 => repeat (first | exact (yY HR212_1.out HB.out) | (with_reducible first | refine yV ?_ _ | refine yW ?_ _ | refine yX ?_)))
                (case side8 => exact HC212_1.out)
                rintro e w10 ⟨rfl, hb⟩
                refine ⟨_, rfl, ?_⟩
                have n0_ := yD (zC (by repeat (first | (with_reducible first | exact HB.out | apply yQ | apply yL | apply yP) | exact HB.out)) hb)
                clear HB; have HB := n0_; clear n0_; (try clear hb); (try clear hb2); (try clear hk); (try clear hi)
                refine hK.out _ _ ⟨((HB.out.cell (zQ w _ hw211_0)).trans hw211_0), ((HB.out.cell (zQ w _ hw211_1)).trans hw211_1), ((HB.out.cell (zQ w _ hw212_0)).trans hw212_0), ((HB.out.cell (zQ w _ hw212_1)).trans hw212_1)⟩ (fun hHeld => ?_)
                clear hK K
                refine norm_ (a' := ?_) ?_ ?_
                rotate_left
                · show Act.put _ (some 25) _ = _
                  simp only [Act.put, zH, zI, zJ, i64_w, i32_w]
                  rfl
                refine pure_ (i := 9) (N := some 26) (v := ?_) (a' := ?_) #[true, true, true, true, true, true, true, true, true, true] rfl rfl (any_of HT_.out (by kernel_rfl)) (fun _ _ _ h => h) (Or.inl ⟨by rfl, ?_⟩) ?_ ?_
                rotate_left
                · intro w'
                  go_simp
                  with_reducible rfl
                rotate_left
                · simp only [Act.put, zH, zI, zJ, i64_w, i32_w]
                  rfl
                refine done_ (done_of HT_.out (by kernel_rfl)) ?_
                try go_wp2
                go_roundg k1
                case measure => have := HK1.out; omega
                case rel => exact ⟨(wrap64 (x5_1 + 1)), (by first | rfl | (simp; done) | (simp [*]; done)), H', ⟨by have := HK1.out; omega⟩, ⟨by repeat (first | (with_reducible first | exact HB.out | apply yQ | apply yL | apply yP) | exact HB.out)⟩⟩
              · replace c8 := Bool.eq_false_iff.mpr c8
                subst c8
                have H1 : (some false) = some r := by rw [if_neg (show ¬ (false = true) by decide)] at H; exact H
                clear H; have H := H1; clear H1; obtain rfl := Option.some.inj H
                try go_wp2
                have n0_ := yD (yP HB.out)
                clear HB; have HB := n0_; clear n0_
                have p211 : 0 ≤ (x5_1 : Int) := zP (by assumption)
                have q211 : x5_1 < (l0.length : Int) := zP (by assumption)
                obtain ⟨ad211, A211_0, c211_0, A211_1, c211_1, e211, hx211_0, hx211_1, hl211_0, hi211_0, hl211_1, hi211_1⟩ := at_T42 HR0.out x5_1 p211 q211
                have hw211_1 := hx211_1; have hw211_0 := hx211_0; cases e211
                replace hx211_0 := (HB.out.cell (zQ w _ hx211_0)).trans hx211_0
                replace hx211_1 := (HB.out.cell (zQ w _ hx211_1)).trans hx211_1
                have HR211_0 := yD hi211_0
                have HC211_0 := yD hl211_0
                clear hi211_0 hl211_0
                have HR211_1 := yD hi211_1
                have HC211_1 := yD hl211_1
                clear hi211_1 hl211_1; replace p211 := eq_true p211; replace q211 := eq_true q211
                have p212 : 0 ≤ (x5_1 : Int) := zP (by assumption)
                have q212 : x5_1 < (l1.length : Int) := zP (by assumption)
                obtain ⟨ad212, A212_0, c212_0, A212_1, c212_1, e212, hx212_0, hx212_1, hl212_0, hi212_0, hl212_1, hi212_1⟩ := at_T42 HR1.out x5_1 p212 q212
                have hw212_1 := hx212_1; have hw212_0 := hx212_0; cases e212
                replace hx212_0 := (HB.out.cell (zQ w _ hx212_0)).trans hx212_0
                replace hx212_1 := (HB.out.cell (zQ w _ hx212_1)).trans hx212_1
                have HR212_0 := yD hi212_0
                have HC212_0 := yD hl212_0
                clear hi212_0 hl212_0
                have HR212_1 := yD hi212_1
                have HC212_1 := yD hl212_1
                clear hi212_1 hl212_1; replace p212 := eq_true p212; replace q212 := eq_true q212
                refine start_ (n := 10) (S := fun w' => w'.cell? (ad211.add ((x5_1).toNat * 2)) = some (.slice A211_0 ((rd_T42 l0 x5_1).f0).length c211_0) ∧ w'.cell? ⟨(ad211.add ((x5_1).toNat * 2)).block, (ad211.add ((x5_1).toNat * 2)).off + 1, none⟩ = some (.slice A211_1 ((rd_T42 l0 x5_1).f1).length c211_1) ∧ w'.cell? (ad212.add ((x5_1).toNat * 2)) = some (.slice A212_0 ((rd_T42 l1 x5_1).f0).length c212_0) ∧ w'.cell? ⟨(ad212.add ((x5_1).toNat * 2)).block, (ad212.add ((x5_1).toNat * 2)).off + 1, none⟩ = some (.slice A212_1 ((rd_T42 l1 x5_1).f1).length c212_1)) (ds := []) #[false, false, false, false, false, false, false, false, false, false] (by kernel_rfl) rfl rfl ⟨((HB.out.cell (zQ w _ hw211_0)).trans hw211_0), ((HB.out.cell (zQ w _ hw211_1)).trans hw211_1), ((HB.out.cell (zQ w _ hw212_0)).trans hw212_0), ((HB.out.cell (zQ w _ hw212_1)).trans hw212_1)⟩ (fun hHeld => ?_); refine with_tabW laws_eqBoxS.tab6 laws_eqBoxS.bits6 (fun HT_ HW_ => ?_)
                generalize wr.drew = w11 at HB HR211_0 HR211_1 HR212_0 HR212_1 hx211_0 hx211_1 hx212_0 hx212_1 hHeld ⊢
                refine pure_ (i := 0) (N := some 17) (v := ?_) (a' := ?_) #[true, false, false, false, false, false, false, false, false, false] rfl rfl (any_of HT_.out (by kernel_rfl)) (fun _ _ _ h => h) (Or.inl ⟨by rfl, ?_⟩) ?_ ?_
                rotate_left
                · intro w'
                  go_simp
                  with_reducible rfl
                rotate_left
                · simp only [Act.put, zH, zI, zJ, i64_w, i32_w]
                  rfl
                refine pure_ (i := 1) (N := some 18) (v := ?_) (a' := ?_) #[true, true, false, false, false, false, false, false, false, false] rfl rfl (any_of HT_.out (by kernel_rfl)) (fun _ _ _ h => h) (Or.inl ⟨by rfl, ?_⟩) ?_ ?_
                rotate_left
                · intro w'
                  go_simp
                  with_reducible rfl
                rotate_left
                · simp only [Act.put, zH, zI, zJ, i64_w, i32_w]
                  rfl
                refine pure_ (i := 2) (N := some 19) (v := ?_) (a' := ?_) #[true, true, true, false, false, false, false, false, false, false] rfl rfl (any_of HT_.out (by kernel_rfl)) (fun _ _ _ h => h) (Or.inl ⟨by rfl, ?_⟩) ?_ ?_
                rotate_left
                · intro w'
                  go_simp
                  with_reducible rfl
                rotate_left
                · simp only [Act.put, zH, zI, zJ, i64_w, i32_w]
                  rfl
                refine pure_ (i := 4) (N := some 21) (v := ?_) (a' := ?_) #[true, true, true, false, true, false, false, false, false, false] rfl rfl (any_of HT_.out (by kernel_rfl)) (fun _ _ _ h => h) (Or.inl ⟨by rfl, ?_⟩) ?_ ?_
                rotate_left
                · intro w'
                  go_simp
                  with_reducible rfl
                rotate_left
                · simp only [Act.put, zH, zI, zJ, i64_w, i32_w]
                  rfl
                refine pure_ (i := 5) (N := some 22) (v := ?_) (a' := ?_) #[true, true, true, false, true, true, false, false, false, false] rfl rfl (any_of HT_.out (by kernel_rfl)) (fun _ _ _ h => h) (Or.inl ⟨by rfl, ?_⟩) ?_ ?_
                rotate_left
                · intro w'
                  go_simp
                  with_reducible rfl
                rotate_left
                · simp only [Act.put, zH, zI, zJ, i64_w, i32_w]
                  rfl
                refine pure_ (i := 6) (N := some 23) (v := ?_) (a' := ?_) #[true, true, true, false, true, true, true, false, false, false] rfl rfl (any_of HT_.out (by kernel_rfl)) (fun _ _ _ h => h) (Or.inl ⟨by rfl, ?_⟩) ?_ ?_
                rotate_left
                · intro w'
                  go_simp
                  with_reducible rfl
                rotate_left
                · simp only [Act.put, zH, zI, zJ, i64_w, i32_w]
                  rfl
                refine take_ (i := 3) (N := some 20) (v := ?_) (a' := ?_) #[true, true, true, true, true, true, true, false, false, false] rfl rfl (take_ofW HT_.out HW_.out (by kernel_rfl)) (fun _ _ _ h => h) (Or.inl ⟨by rfl, ?_⟩) hHeld ?_ ?_
                rotate_left
                · rintro w' ⟨s0, s1, s2, s3⟩
                  go_simp
                  with_reducible rfl
                rotate_left
                · simp only [Act.put, zH, zI, zJ, i64_w, i32_w]
                  rfl
                refine take_ (i := 7) (N := some 24) (v := ?_) (a' := ?_) #[true, true, true, true, true, true, true, true, false, false] rfl rfl (take_ofW HT_.out HW_.out (by kernel_rfl)) (fun _ _ _ h => h) (Or.inl ⟨by rfl, ?_⟩) hHeld ?_ ?_
                rotate_left
                · rintro w' ⟨s0, s1, s2, s3⟩
                  go_simp
                  with_reducible rfl
                rotate_left
                · simp only [Act.put, zH, zI, zJ, i64_w, i32_w]
                  rfl
                refine one_ (i := 8) (N := some 25) #[true, true, true, true, true, true, true, true, true, false] rfl rfl (one_of HT_.out (by kernel_rfl)) (by decide) (fun K hK => ?_)
                refine goes_ Try.func34 (by kernel_rfl) rfl #[.agg #[.slice A211_0 ((rd_T42 l0 x5_1).f0).length c211_0, .slice A211_1 ((rd_T42 l0 x5_1).f1).length c211_1], .agg #[.slice A212_0 ((rd_T42 l1 x5_1).f0).length c212_0, .slice A212_1 ((rd_T42 l1 x5_1).f1).length c212_1]] (by rfl) rfl rfl (by (try simp only [zK, zL, zM]); first | done | rfl | (simp only [zN, zO]; rfl)) ?_
                with_reducible refine (laws_eqBox.calls k1 _ _ ((rd_T42 l0 x5_1).f0) _ _ ((rd_T42 l0 x5_1).f1) _ _ ((rd_T42 l1 x5_1).f0) _ _ ((rd_T42 l1 x5_1).f1) false _ ?side1 ?side2 ?side3 ?side4 ?side5 ?side6 ?side7 ?side8 A7.out).mono ?_
                (case side1 => repeat (first | exact (yY HR211_0.out HB.out) | (with_reducible first | refine yV ?_ _ | refine yW ?_ _ | refine yX ?_)))
                (case side2 => exact HC211_0.out)
                (case side3 => repeat (first | exact (yY HR211_1.out HB.out) | (with_reducible first | refine yV ?_ _ | refine yW ?_ _ | refine yX ?_)))
                (case side4 => exact HC211_1.out)
                (case side5 => repeat (first | exact (yY HR212_0.out HB.out) | (with_reducible first | refine yV ?_ _ | refine yW ?_ _ | refine yX ?_)))
                (case side6 => exact HC212_0.out)
                (case side7 => repeat (first | exact (yY HR212_1.out HB.out) | (with_reducible first | refine yV ?_ _ | refine yW ?_ _ | refine yX ?_)))
                (case side8 => exact HC212_1.out)
                rintro e w12 ⟨rfl, hb⟩
                refine ⟨_, rfl, ?_⟩
                have n0_ := yD (zC (by repeat (first | (with_reducible first | exact HB.out | apply yQ | apply yL | apply yP) | exact HB.out)) hb)
                clear HB; have HB := n0_; clear n0_; (try clear hb); (try clear hb2); (try clear hk); (try clear hi)
                refine hK.out _ _ ⟨((HB.out.cell (zQ w _ hw211_0)).trans hw211_0), ((HB.out.cell (zQ w _ hw211_1)).trans hw211_1), ((HB.out.cell (zQ w _ hw212_0)).trans hw212_0), ((HB.out.cell (zQ w _ hw212_1)).trans hw212_1)⟩ (fun hHeld => ?_)
                clear hK K
                refine norm_ (a' := ?_) ?_ ?_
                rotate_left
                · show Act.put _ (some 25) _ = _
                  simp only [Act.put, zH, zI, zJ, i64_w, i32_w]
                  rfl
                refine pure_ (i := 9) (N := some 26) (v := ?_) (a' := ?_) #[true, true, true, true, true, true, true, true, true, true] rfl rfl (any_of HT_.out (by kernel_rfl)) (fun _ _ _ h => h) (Or.inl ⟨by rfl, ?_⟩) ?_ ?_
                rotate_left
                · intro w'
                  go_simp
                  with_reducible rfl
                rotate_left
                · simp only [Act.put, zH, zI, zJ, i64_w, i32_w]
                  rfl
                refine done_ (done_of HT_.out (by kernel_rfl)) ?_
                try go_wp2
                go_ret
                exact ⟨by first | rfl | (simp [errW_none, errW_some] <;> rfl) | (simp [*, errW_none, errW_some] <;> rfl), by repeat (first | (with_reducible first | exact HB.out | apply yQ | apply yL | apply yP) | exact HB.out)⟩
            · rw [if_neg c6] at H
              exact absurd H (by simp)
          · rw [if_neg c5] at H
            exact absurd H (by simp)
        · rw [if_neg c4] at H
          have c4b0 : decide (x5_1 < (l0.length : Int)) = false := zS c4; clear c4; obtain rfl := Option.some.inj H
          go_wp2
          go_ret
          exact ⟨by first | rfl | (simp [errW_none, errW_some] <;> rfl) | (simp [*, errW_none, errW_some] <;> rfl), by repeat (first | (with_reducible first | exact HB.out | apply yQ | apply yL | apply yP) | exact HB.out)⟩
  · rw [if_neg c3] at H
    have c3b0 : ((l0.length : Int) == (l1.length : Int)) = false := beq_eq_false_iff_ne.mpr c3
    have c3b1 : ((l0.length : Int) != (l1.length : Int)) = true := bne_iff_ne.mpr c3
    have c3b2 : (l0.length == l1.length) = false := by first | simpa using c3 | (simp at c3 ⊢; omega)
    obtain rfl := Option.some.inj H; go_enter Try.func17, Try.ntmps17
    go_wp2
    go_ret
    exact ⟨by first | rfl | (simp [errW_none, errW_some] <;> rfl) | (simp [*, errW_none, errW_some] <;> rfl), by repeat (first | (with_reducible first | exact HB.out | apply yQ | apply yL | apply yP) | exact HB.out)⟩

/-! ### laws_markInt64S: function 44 -/
def laws_markInt64S.l0 : Nat → List Int → Int → Int → Option (Int × List Int)
  | 0, _, _, _ => none
  | k + 1, x0, x1, x5 => if x5 < (x0.length : Int) then (if 0 ≤ x5 then (laws_markInt64S.l0 k (x0.set (x5 : Int).toNat x1) (wrap64 (x1 + 1)) (wrap64 (x5 + 1))) else (none)) else (some (x1, x0))
def laws_markInt64S.f (k : Nat) (l0 : List Int) (a1 : Int) : Option (Int × List Int) := laws_markInt64S.l0 k l0 a1 0
theorem laws_markInt64S.mono_l : ∀ k, (∀ y0 y1 y2, LeO (laws_markInt64S.l0 k y0 y1 y2) (laws_markInt64S.l0 (k + 1) y0 y1 y2))
  | 0 => fun _ _ _ r h => by simp [laws_markInt64S.l0] at h
  | k + 1 => by
    have ih0 := laws_markInt64S.mono_l k
    · intro y0 y1 y2
      unfold laws_markInt64S.l0
      repeat' first
      | (with_reducible exact ih0 _ _ _)
      | (with_reducible exact LeO.refl _)
      | (with_reducible exact LeO.none _)
      | (with_reducible refine LeO.ite ?_ ?_)
      | (with_reducible refine LeO.bind ?_ (fun _ => ?_))
      | exact ih0 _ _ _
      | exact LeO.none _
      | refine LeO.ite ?_ ?_
      | refine LeO.bind ?_ (fun _ => ?_)
theorem laws_markInt64S.mono : ∀ a0 a1 k, LeO (laws_markInt64S.f k a0 a1) (laws_markInt64S.f (k + 1) a0 a1) := by
  intro a0 a1 k
  have ih0 := laws_markInt64S.mono_l k
  unfold laws_markInt64S.f
  repeat' first
      | (with_reducible exact ih0 _ _ _)
      | (with_reducible exact LeO.refl _)
      | (with_reducible exact LeO.none _)
      | (with_reducible refine LeO.ite ?_ ?_)
      | (with_reducible refine LeO.bind ?_ (fun _ => ?_))
      | exact ih0 _ _ _
      | exact LeO.none _
      | refine LeO.ite ?_ ?_
      | refine LeO.bind ?_ (fun _ => ?_)
set_option maxHeartbeats 8000000 in
set_option maxRecDepth 100000 in
theorem laws_markInt64S.calls (k : Nat) (P0_ : Nat → Prop) (u9000_ : Value) (l0 : List Int) (a1 : Int) (r1 : Int) (r2 : List Int) (w0 w : World) (hB : Below w0.heap.size w0 w) (ho0 : Kd.R (Kd.int .i64) 2 w w0.heap.size P0_ u9000_ l0) (h : laws_markInt64S.f k l0 a1 = some (r1, r2)) :
    Calls Try.prog 44 #[u9000_, .int .i64 a1] w fun e w' => e = .returned (.int .i64 r1) ∧ Kd.R (Kd.int .i64) 2 w' w0.heap.size (fun k_ => (P0_ k_ ∨ w.heap.size ≤ k_)) u9000_ r2 ∧ Below w0.heap.size w0 w' ∧ Kept w w' (fun k_ => P0_ k_) := by
  have HO0 := yD (show Kd.R (Kd.int .i64) 2 w w0.heap.size (fun k_ => (P0_ k_ ∨ w.heap.size ≤ k_)) u9000_ l0 from zF ho0 (fun k_ hk => (.inl hk)))
  have HK := yD (Kept.refl w (fun k_ => P0_ k_))
  have HW0 := yD hB.size
  have HB := yD hB
  clear hB
  have H : (laws_markInt64S.l0 k l0 a1 0) = some (r1, r2) := h
  clear h
  have H' := yD H
  clear H; go_enter Try.func44, Try.ntmps44
  go_wp2
  go_loopg [1, 5] k (fun kq v1 v5 w' => ∃ (x0_1 : List Int) (x1_1 : Int) (x5_1 : Int), v1 = .int .i64 x1_1 ∧ v5 = .int .i64 x5_1 ∧ Aside0 (laws_markInt64S.l0 kq x0_1 x1_1 x5_1 = some (r1, r2)) ∧ Aside0 (kq ≤ k) ∧ Aside0 (Kd.R (Kd.int .i64) 2 w' w0.heap.size (fun k_ => (P0_ k_ ∨ w.heap.size ≤ k_)) u9000_ x0_1) ∧ Aside0 (Kept w w' (fun k_ => P0_ k_)) ∧ Aside0 (Below w0.heap.size w0 w'))
  case atStart => exact ⟨(l0), (a1), (0), (by first | rfl | (simp; done) | (simp [*]; done)), (by first | rfl | (simp; done) | (simp [*]; done)), H', ⟨Nat.le_refl _⟩, ⟨by (with_reducible repeat (first | apply yA | apply yB | apply yC)); exact HO0.out⟩, ⟨by repeat (first | (with_reducible first | exact HK.out | apply Kept.alloc | apply Kept.drewN | apply Kept.drew) | exact HK.out)⟩, ⟨by repeat (first | (with_reducible first | exact HB.out | apply yQ | apply yL | apply yP) | exact HB.out)⟩⟩
  case round =>
    clear H'
    try clear p2
    obtain ⟨x0_1, x1_1, x5_1, rfl, rfl, HA, HK1, HO_0, HK, HB⟩ := hrel
    cases gk with
    | zero => exact absurd HA.out (by simp [laws_markInt64S.l0])
    | succ k1 =>
      have H := HA.out; clear HA
      simp only [laws_markInt64S.l0] at H
      by_cases c3 : x5_1 < (x0_1.length : Int)
      · rw [if_pos c3] at H
        have c3b0 : decide (x5_1 < (x0_1.length : Int)) = true := zR c3; clear c3
        by_cases c4 : 0 ≤ x5_1
        · rw [if_pos c4] at H
          have c4b0 : decide (0 ≤ x5_1) = true := zR c4; clear c4
          obtain ⟨y214, hy214⟩ : ∃ y_ : List Int, y_ = (x0_1.set (x5_1 : Int).toNat x1_1) := ⟨_, rfl⟩
          replace H : (laws_markInt64S.l0 k1 y214 (wrap64 (x1_1 + 1)) (wrap64 (x5_1 + 1))) = some (r1, r2) := by first | (rw [hy214]; with_reducible exact H) | (have H2_ := (Option.bind_some _ _).symm.trans H; rw [hy214]; with_reducible exact H2_) | (have H2_ := (Option.bind_some _ _).symm.trans H; with_reducible exact H2_) | with_reducible exact H | (rw [hy214]; exact H) | exact H
          have Ny214 := yD hy214
          clear hy214
          have H' := yD H
          clear H
          obtain ⟨Ao6, co6, eo6⟩ := Kd.R_slice HO_0.out
          subst eo6
          have p5 : 0 ≤ (x5_1 : Int) := zP (by assumption)
          have q5 : (x5_1 : Int) < ((x0_1.length : Int) : Int) := zP (by assumption)
          obtain ⟨go5, co5, eo5, gb5, gl5, cl5, HG5⟩ := Kd.R_form HO_0.out (by omega)
          (first | cases eo5 | (injection eo5 with ea_ en_ ec_; (first | subst ea_ | (injection ea_ with ea_; subst ea_)); subst ec_; clear en_))
          have GB5 := yD gb5
          have GG5 := yD HG5
          clear gb5 gl5 HG5
          have HMgo5 := yD (show (P0_ go5 ∨ w.heap.size ≤ go5) from (HO_0.out.1 _ rfl))
          obtain ⟨hx5_0, hf5_0⟩ := Kd.R_celln 0 HO_0.out (x5_1 : Int) p5 q5
          replace p5 := eq_true p5; replace q5 := eq_true q5
          have HP7 := Kd.R_putg HO_0.out (x5_1 : Int) x1_1
          go_wp2_with (first | ((with_reducible refine gate_store (t := 2) (p := 15) rfl ?_); refine store_event (t := 2) (p := 15) (v := ?vo_w8) (w1 := (wr.setCell ⟨go5, (x5_1 : Int).toNat, none⟩ (.int .i64 x1_1))) ?hg ?ho ?hn ?hr ?_; (case ho => rfl); (case hg => rfl); (case hn => rfl); (case hr => first | (go_simp; done) | (go_simp; rfl)); intro w8 hw; have hg : wr.grownBy w8 (some go5) := (by rw [hw]; exact HP7.2); have hp_ : Kd.R (Kd.int .i64) 2 w8 w0.heap.size (fun k_ => (P0_ k_ ∨ w.heap.size ≤ k_)) (.slice (some ⟨go5, 0, none⟩) x0_1.length co6) y214 := (by rw [hw, Ny214.out]; exact HP7.1); clear HP7; have n0_ := yD (hp_); have n1_ := yD ((by rw [hw]; exact yE (HB.out) GB5.out : Below w0.heap.size w0 w8)); have n2_ := yD (Kept.of_grown (S := (fun k_ => P0_ k_)) hg (by repeat (first | (with_reducible first | exact HK.out | apply Kept.alloc | apply Kept.drewN | apply Kept.drew) | exact HK.out)) (fun k_ e_ => (HO_0.out.1 k_ e_))); clear HO_0; clear HB; clear HK; have HO_0 := n0_; have HB := n1_; have HK := n2_; clear n0_ n1_ n2_; clear hg hw hp_))
          go_roundg k1
          case measure => have := HK1.out; omega
          case rel => exact ⟨(y214), (wrap64 (x1_1 + 1)), (wrap64 (x5_1 + 1)), (by first | rfl | (simp; done) | (simp [*]; done)), (by first | rfl | (simp; done) | (simp [*]; done)), H', ⟨by have := HK1.out; omega⟩, ⟨by (with_reducible repeat (first | apply yA | apply yB | apply yC)); exact HO_0.out⟩, ⟨by repeat (first | (with_reducible first | exact HK.out | apply Kept.alloc | apply Kept.drewN | apply Kept.drew) | exact HK.out)⟩, ⟨by repeat (first | (with_reducible first | exact HB.out | apply yQ | apply yL | apply yP) | exact HB.out)⟩⟩
        · rw [if_neg c4] at H
          exact absurd H (by simp)
      · rw [if_neg c3] at H
        have c3b0 : decide (x5_1 < (x0_1.length : Int)) = false := zS c3; clear c3
        simp only [Option.some.injEq, Prod.mk.injEq] at H
        obtain ⟨rfl, rfl⟩ := H
        obtain ⟨Ao9, co9, eo9⟩ := Kd.R_slice HO_0.out
        subst eo9
        go_wp2
        go_ret
        exact ⟨by first | rfl | (simp [errW_none, errW_some] <;> rfl) | (simp [*, errW_none, errW_some] <;> rfl), by (with_reducible repeat (first | apply yA | apply yB | apply yC)); exact HO_0.out, by repeat (first | (with_reducible first | exact HB.out | apply yQ | apply yL | apply yP) | exact HB.out), by repeat (first | (with_reducible first | exact HK.out | apply Kept.alloc | apply Kept.drewN | apply Kept.drew) | exact HK.out)⟩

/-! ### laws_markBoxS: function 18 -/
def laws_markBoxS.l0 : Nat → List (S42) → Int → Int → Option (Int × List (S42))
  | 0, _, _, _ => none
  | k + 1, x0, x1, x5 => if x5 < (x0.length : Int) then (if 0 ≤ x5 then ((laws_markInt64S.f k ((rd_T42 x0 x5).f0) x1).bind fun ta => ((laws_markInt64S.f k ((rd_T42 x0 x5).f1) ta.1).bind fun tb => (laws_markBoxS.l0 k (x0.set x5.toNat ⟨ta.2, tb.2⟩) tb.1 (wrap64 (x5 + 1))))) else none) else some (x1, x0)
def laws_markBoxS.g (k : Nat) (l0 : List (S42)) (a1 : Int) : Option (Int × List (S42)) := laws_markBoxS.l0 k l0 a1 0
theorem laws_markBoxS.mono_l : ∀ k, (∀ y0 y1 y2, LeO (laws_markBoxS.l0 k y0 y1 y2) (laws_markBoxS.l0 (k + 1) y0 y1 y2))
  | 0 => fun _ _ _ r h => by simp [laws_markBoxS.l0] at h
  | k + 1 => by
    have ih0 := laws_markBoxS.mono_l k
    intro y0 y1 y2
    unfold laws_markBoxS.l0
    (repeat' first | (with_reducible exact ih0 _ _ _) | (with_reducible exact laws_markInt64S.mono _ _ _) | (with_reducible exact LeO.refl _) | (with_reducible exact LeO.none _) | (with_reducible refine LeO.ite ?_ ?_) | (with_reducible refine LeO.bind ?_ (fun _ => ?_)) | exact ih0 _ _ _ | exact laws_markInt64S.mono _ _ _)
theorem laws_markBoxS.gmono : ∀ a0 a1 k, LeO (laws_markBoxS.g k a0 a1) (laws_markBoxS.g (k + 1) a0 a1) := by
  intro a0 a1 k
  exact laws_markBoxS.mono_l k _ _ _
set_option maxHeartbeats 8000000 in
set_option maxRecDepth 100000 in
theorem laws_markBoxS.gcalls (k : Nat) (P0_ : Nat → Prop) (u9000_ : Value) (l0 : List (S42)) (a1 : Int) (r1 : Int) (r2 : List (S42)) (w0 w : World) (hB : Below w0.heap.size w0 w) (ho0 : Kd.S k42 42 w w0.heap.size P0_ u9000_ l0) (h : laws_markBoxS.g k l0 a1 = some (r1, r2)) :
    Calls Try.prog 18 #[u9000_, .int .i64 a1] w fun e w' => e = .returned (.int .i64 r1) ∧ Kd.S k42 42 w' w0.heap.size (fun k_ => (P0_ k_ ∨ w.heap.size ≤ k_)) u9000_ r2 ∧ Below w0.heap.size w0 w' ∧ Kept w w' (fun k_ => P0_ k_) := by
  obtain ⟨A0, c0, rfl⟩ := Kd.S_slice ho0
  have HO_ := Aside0.mk ho0; have HB_ := Aside0.mk hB; have H' := Aside0.mk (show laws_markBoxS.l0 k l0 a1 0 = some (r1, r2) from h)
  clear ho0 hB h
  go_enter Try.func18, Try.ntmps18
  go_wp2
  go_loopg [1, 5] k (fun kq v1 v5 w' => ∃ (x1_1 : Int) (x5_1 : Int) (xs : List (S42)), v1 = .int .i64 x1_1 ∧ v5 = .int .i64 x5_1 ∧ Aside0 (laws_markBoxS.l0 kq xs x1_1 x5_1 = some (r1, r2)) ∧ Aside0 (kq ≤ k) ∧ Aside0 (xs.length = l0.length) ∧ Aside0 (Kd.S k42 42 w' w0.heap.size P0_ (.slice A0 l0.length c0) xs) ∧ Aside0 (Below w0.heap.size w0 w') ∧ Aside0 (Kept w w' (fun k_ => P0_ k_)))
  case atStart => exact ⟨a1, 0, l0, rfl, rfl, H', ⟨Nat.le_refl _⟩, ⟨rfl⟩, ⟨by (with_reducible repeat (first | apply Kd.S_alloc | apply Kd.S_drewN | apply Kd.S_drew)); exact HO_.out⟩, ⟨by repeat (first | (with_reducible first | exact HB_.out | apply below_alloc | apply pw_below_drewN | apply below_drew1) | exact HB_.out)⟩, ⟨by (with_reducible repeat (first | apply Kept.alloc | apply Kept.drewN | apply Kept.drew)); exact Kept.refl _ _⟩⟩
  case round =>
    clear H' HO_ HB_
    obtain ⟨x1_1, x5_1, xs, rfl, rfl, HA, HK1, HL, HO, HB, HK⟩ := hrel
    cases gk with
    | zero => exact absurd HA.out (by simp [laws_markBoxS.l0])
    | succ k1 =>
      have H := HA.out
      clear HA
      simp only [laws_markBoxS.l0] at H
      by_cases c3 : x5_1 < (xs.length : Int)
      · rw [if_pos c3] at H
        have c3b0 : decide (x5_1 < (l0.length : Int)) = true := decide_eq_true (by rw [← HL.out]; exact c3)
        by_cases c4 : 0 ≤ x5_1
        · rw [if_pos c4] at H
          have c4b0 : decide (0 ≤ x5_1) = true := decide_eq_true c4
          obtain ⟨⟨ta, la⟩, Aa0, H⟩ := Option.bind_eq_some_iff.mp H
          have Aa := Aside0.mk Aa0; clear Aa0
          obtain ⟨⟨tb, lb⟩, Ab0, H⟩ := Option.bind_eq_some_iff.mp H
          have Ab := Aside0.mk Ab0; clear Ab0
          have H' := Aside0.mk H
          clear H
          have hlt : (x5_1 : Int) < (l0.length : Int) := by rw [← HL.out]; exact c3
          obtain ⟨ad, rfl⟩ : ∃ ad, A0 = some ad := by
            obtain ⟨_, _, h2⟩ := (Kd.S_reads' HO.out).2.2
            obtain ⟨ad, he, _⟩ := h2 (by omega)
            exact ⟨ad, he⟩
          obtain ⟨go, rfl⟩ := Kd.R_head (Kd.S_R HO.out)
          obtain ⟨oki, ce, hcl, hM, hcc, hfr, hoki, hH⟩ := Kd.S_elem HO.out (rd_T42 [] 0) (x5_1 : Int) c4 hlt
          obtain ⟨v0, v1, rfl, g0, g1⟩ := k42_openM hM
          have hne := k42_ne hM
          have hx0 : wr.cell? ⟨go, (x5_1 : Int).toNat * 2, none⟩ = some (v0) := hcc 0 _ rfl
          have hx1 : wr.cell? ⟨go, (x5_1 : Int).toNat * 2 + 1, none⟩ = some (v1) := hcc 1 _ rfl
          have p3 : (0 ≤ x5_1) = True := eq_true c4
          have q3 : (x5_1 < (l0.length : Int)) = True := eq_true hlt
          have hel : (xs.getD (x5_1 : Int).toNat (rd_T42 [] 0)) = rd_T42 xs x5_1 := rfl
          rw [hel] at g0 g1
          have f0 := Aside0.mk (Kd.R_tight rfl g0); have b0 := Aside0.mk g0.1
          have f1 := Aside0.mk (Kd.R_tight rfl g1); have b1 := Aside0.mk g1.1
          obtain ⟨Ae0, ce0, rfl⟩ := Kd.R_slice f0.out
          obtain ⟨Ae1, ce1, rfl⟩ := Kd.R_slice f1.out
          go_wp2_with (first | ((with_reducible refine gate_callee (f := 44) rfl ?_); refine goesL_ (some 18) rfl rfl Try.func44 (by kernel_rfl) rfl #[.slice Ae0 (rd_T42 xs x5_1).f0.length ce0, .int .i64 x1_1] rfl (by (try simp only [List.map_toArray, List.map_cons, List.map_nil]); first | done | rfl | (simp only [List.length_drop, List.length_take]; rfl)) ?_; (refine (laws_markInt64S.calls k1 (fun k_ => some k_ = (Value.slice Ae0 (rd_T42 xs x5_1).f0.length ce0).ownBlock) _ _ x1_1 ta la w0 _ ?side1 ?side2 Aa.out).mono ?_); (case side1 => repeat (first | (with_reducible first | exact HB.out | apply below_alloc | apply pw_below_drewN | apply below_drew1) | exact HB.out)); (case side2 => (with_reducible repeat (first | apply Kd.R_alloc | apply Kd.R_drewN | apply Kd.R_drew)); exact f0.out); rintro e wq ⟨rfl, hr_, hb_, hk_⟩; refine ⟨_, rfl, ?_⟩; have kq_ := Kept.then_ (Kept.refl wr _) (Kept.then_ (S := fun k_ => some k_ = (Value.slice Ae0 (rd_T42 xs x5_1).f0.length ce0).ownBlock) (by (with_reducible repeat (first | apply Kept.alloc | apply Kept.drewN | apply Kept.drew)); exact Kept.refl _ _) hk_ (fun _ h_ => .inl h_)) (fun _ h_ => .inl h_); have n0_ := Aside0.mk (Kd.H_step hH (fun k_ h1_ h2_ h3_ => kq_.2 k_ h3_ (fun e_ => h2_ (b0.out k_ e_.symm)))); have n1_ := Aside0.mk (Kd.R_move f1.out (fun k_ h1_ => kq_.2 k_ (Kd.R_lt f1.out k_ h1_.symm) (fun e_ => hne k_ e_.symm h1_.symm))); have n2_ := Aside0.mk (Kd.R_tight rfl hr_); have hx1q : wq.cell? ⟨go, (x5_1 : Int).toNat * 2 + 1, none⟩ = some (.slice Ae1 (rd_T42 xs x5_1).f1.length ce1) := (by obtain ⟨_, _, _, _, _, h5_, _⟩ := Kd.H_raw n0_.out c4 hlt; exact h5_ 1 _ rfl); have n3_ := Aside0.mk hb_; have n4_ := Aside0.mk (Kept.then_ HK.out kq_ (fun k_ e_ => .inl (hoki k_ (b0.out k_ e_.symm)).1)); clear hr_ hb_ hk_ kq_ HB HK f1 f0 hH; have hH := n0_.out; have f1 := n1_; have f0 := n2_; have HB := n3_; have HK := n4_; clear n0_ n1_ n2_ n3_ n4_) | ((with_reducible refine gate_callee (f := 44) rfl ?_); refine goesL_ (some 25) rfl rfl Try.func44 (by kernel_rfl) rfl #[.slice Ae1 (rd_T42 xs x5_1).f1.length ce1, .int .i64 ta] rfl (by (try simp only [List.map_toArray, List.map_cons, List.map_nil]); first | done | rfl | (simp only [List.length_drop, List.length_take]; rfl)) ?_; (refine (laws_markInt64S.calls k1 (fun k_ => some k_ = (Value.slice Ae1 (rd_T42 xs x5_1).f1.length ce1).ownBlock) _ _ ta tb lb w0 _ ?side1 ?side2 Ab.out).mono ?_); (case side1 => repeat (first | (with_reducible first | exact HB.out | apply below_alloc | apply pw_below_drewN | apply below_drew1) | exact HB.out)); (case side2 => (with_reducible repeat (first | apply Kd.R_alloc | apply Kd.R_drewN | apply Kd.R_drew)); exact f1.out); rintro e wq ⟨rfl, hr_, hb_, hk_⟩; refine ⟨_, rfl, ?_⟩; have kq_ := (show Kept _ _ (fun k_ => some k_ = (Value.slice Ae1 (rd_T42 xs x5_1).f1.length ce1).ownBlock) from hk_); have n0_ := Aside0.mk (Kd.H_step hH (fun k_ h1_ h2_ h3_ => (Kept.then_ (by (with_reducible repeat (first | apply Kept.alloc | apply Kept.drewN | apply Kept.drew)); exact Kept.refl _ _) kq_ (fun _ h_ => .inl h_)).2 k_ h3_ (fun e_ => h2_ (b1.out k_ e_.symm)))); have n1_ := Aside0.mk (Kd.R_move f0.out (fun k_ h1_ => (Kept.then_ (by (with_reducible repeat (first | apply Kept.alloc | apply Kept.drewN | apply Kept.drew)); exact Kept.refl _ _) kq_ (fun _ h_ => .inl h_)).2 k_ (Kd.R_lt f0.out k_ h1_.symm) (fun e_ => hne k_ h1_.symm e_.symm))); have n2_ := Aside0.mk (Kd.R_tight rfl hr_); have n3_ := Aside0.mk hb_; have n4_ := Aside0.mk (Kept.then_ HK.out (Kept.then_ (by (with_reducible repeat (first | apply Kept.alloc | apply Kept.drewN | apply Kept.drew)); exact Kept.refl _ _) kq_ (fun _ h_ => .inl h_)) (fun k_ e_ => .inl (hoki k_ (b1.out k_ e_.symm)).1)); have HF := Aside0.mk (Kd.H_back n0_.out (x' := ⟨la, lb⟩) (k42_mkM _ _ _ (⟨la, lb⟩ : S42) (Kd.R_mono n1_.out (fun k_ e_ => b0.out k_ e_.symm)) (Kd.R_mono n2_.out (fun k_ e_ => b1.out k_ e_.symm)) hne) (fun _ h_ => h_)); clear hr_ hb_ hk_ kq_ HB HK f1 f0 hH n0_ n1_ n2_; have HB := n3_; have HK := n4_; clear n3_ n4_))
          go_roundg k1
          case measure => have := HK1.out; omega
          case rel => exact ⟨tb, (wrap64 (x5_1 + 1)), _, (by first | rfl | (simp; done)), (by first | rfl | (simp; done)), H', ⟨by have := HK1.out; omega⟩, ⟨by rw [List.length_set]; exact HL.out⟩, ⟨by (with_reducible repeat (first | apply Kd.S_alloc | apply Kd.S_drewN | apply Kd.S_drew)); exact HF.out⟩, ⟨by repeat (first | (with_reducible first | exact HB.out | apply below_alloc | apply pw_below_drewN | apply below_drew1) | exact HB.out)⟩, ⟨by (with_reducible repeat (first | apply Kept.alloc | apply Kept.drewN | apply Kept.drew)); exact HK.out⟩⟩
        · rw [if_neg c4] at H
          exact absurd H (by simp)
      · rw [if_neg c3] at H
        have c3b0 : decide (x5_1 < (l0.length : Int)) = false := decide_eq_false (by rw [← HL.out]; exact c3)
        obtain ⟨rfl, rfl⟩ := Prod.mk.inj (Option.some.inj H)
        go_wp2
        go_ret
        exact ⟨by first | rfl | (simp; done), by (with_reducible repeat (first | apply Kd.S_alloc | apply Kd.S_drewN | apply Kd.S_drew)); exact Kd.S_mono HO.out (fun _ hk => .inl hk), by repeat (first | (with_reducible first | exact HB.out | apply below_alloc | apply pw_below_drewN | apply below_drew1) | exact HB.out), by (with_reducible repeat (first | apply Kept.alloc | apply Kept.drewN | apply Kept.drew)); exact HK.out⟩

def laws_markBoxS.f (k : Nat) (l0 : List (S42)) (a1 : Int) : Option Int := (laws_markBoxS.g k l0 a1).bind fun t => some t.1
theorem laws_markBoxS.mono : ∀ a0 a1 k, LeO (laws_markBoxS.f k a0 a1) (laws_markBoxS.f (k + 1) a0 a1) := fun a0 a1 k => LeO.bind (laws_markBoxS.gmono a0 a1 k) (fun _ => LeO.refl _)
theorem laws_markBoxS.calls (k : Nat) (P0_ : Nat → Prop) (u9000_ : Value) (l0 : List (S42)) (a1 : Int) (r : Int) (w0 w : World) (hB : Below w0.heap.size w0 w) (ho0 : Kd.S k42 42 w w0.heap.size P0_ u9000_ l0) (h : laws_markBoxS.f k l0 a1 = some r) :
    Calls Try.prog 18 #[u9000_, .int .i64 a1] w fun e w' => e = .returned (.int .i64 r) ∧ Below w0.heap.size w0 w' ∧ Kept w w' (fun k_ => P0_ k_) := by
  unfold laws_markBoxS.f at h
  obtain ⟨⟨r1, r2⟩, hg, he⟩ := Option.bind_eq_some_iff.mp h
  cases he
  refine (laws_markBoxS.gcalls k P0_ u9000_ l0 a1 r1 r2 w0 w hB ho0 hg).mono ?_
  rintro e w' ⟨h1, -, h3⟩
  exact ⟨h1, h3⟩
theorem R_keptT {α : Type} {d : Kd α} {e : Nat} {W W2 : World} {base : Nat} {ok S : Nat → Prop} {v : Value} {xs : List α} (hE : d.E = []) (h : d.R e W base ok v xs) (hk : Kept W W2 S) (hne : ∀ k, some k = v.ownBlock ∧ ok k → ¬ S k) : d.R e W2 base (fun k => ok k ∧ (¬ S k ∧ k < W.heap.size)) v xs :=
  Kd.R_mono (Kd.R_keptB (Kd.R_tight2 hE h) hk hne) (fun k hk => ⟨hk.1.2, hk.2⟩)

/-! ### laws_markBox: function 35 -/
def laws_markBox.f (k : Nat) (l0_0 : List Int) (l0_1 : List Int) (a1 : Int) : Option (Int × List Int × List Int) := (laws_markInt64S.f k l0_0 a1).bind fun bt216 => ((laws_markInt64S.f k l0_1 bt216.1).bind fun bt218 => (some (bt218.1, bt216.2, bt218.2)))
theorem laws_markBox.mono : ∀ a0 a1 a2 k, LeO (laws_markBox.f k a0 a1 a2) (laws_markBox.f (k + 1) a0 a1 a2) := by
  intro a0 a1 a2 k
  unfold laws_markBox.f
  repeat' first
      | (with_reducible exact laws_markInt64S.mono _ _ _)
      | (with_reducible exact LeO.refl _)
      | (with_reducible exact LeO.none _)
      | (with_reducible refine LeO.ite ?_ ?_)
      | (with_reducible refine LeO.bind ?_ (fun _ => ?_))
      | exact laws_markInt64S.mono _ _ _
      | exact LeO.none _
      | refine LeO.ite ?_ ?_
      | refine LeO.bind ?_ (fun _ => ?_)
set_option maxHeartbeats 8000000 in
set_option maxRecDepth 100000 in
theorem laws_markBox.calls (k : Nat) (P0_0_ : Nat → Prop) (u9000_ : Value) (l0_0 : List Int) (P0_1_ : Nat → Prop) (u9001_ : Value) (l0_1 : List Int) (a1 : Int) (r1 : Int) (r2 : List Int) (r3 : List Int) (w0 w : World) (hB : Below w0.heap.size w0 w) (ho0_0 : Kd.R (Kd.int .i64) 2 w w0.heap.size P0_0_ u9000_ l0_0) (hp0_0_0_1 : ∀ k_, P0_0_ k_ → ¬ P0_1_ k_) (ho0_1 : Kd.R (Kd.int .i64) 2 w w0.heap.size P0_1_ u9001_ l0_1) (hp0_1_0_0 : ∀ k_, P0_1_ k_ → ¬ P0_0_ k_) (h : laws_markBox.f k l0_0 l0_1 a1 = some (r1, r2, r3)) :
    Calls Try.prog 35 #[.agg #[u9000_, u9001_], .int .i64 a1] w fun e w' => e = .returned (.int .i64 r1) ∧ Kd.R (Kd.int .i64) 2 w' w0.heap.size (fun k_ => ((P0_0_ k_ ∨ P0_1_ k_) ∨ w.heap.size ≤ k_)) u9000_ r2 ∧ Kd.R (Kd.int .i64) 2 w' w0.heap.size (fun k_ => ((P0_0_ k_ ∨ P0_1_ k_) ∨ w.heap.size ≤ k_)) u9001_ r3 ∧ Below w0.heap.size w0 w' ∧ Kept w w' (fun k_ => P0_0_ k_ ∨ P0_1_ k_) := by
  have hu42 := Try.underlying42
  have HO0_0 := yD (show Kd.R (Kd.int .i64) 2 w w0.heap.size (fun k_ => ((P0_0_ k_ ∨ P0_1_ k_) ∨ w.heap.size ≤ k_) ∧ some k_ ≠ (u9001_ : Value).ownBlock) u9000_ l0_0 from zF ho0_0 (fun k_ hk => ⟨(.inl (.inl hk)), fun e_ => hp0_0_0_1 k_ hk (ho0_1.1 k_ e_.symm)⟩))
  have HO0_1 := yD (show Kd.R (Kd.int .i64) 2 w w0.heap.size (fun k_ => ((P0_0_ k_ ∨ P0_1_ k_) ∨ w.heap.size ≤ k_) ∧ some k_ ≠ (u9000_ : Value).ownBlock) u9001_ l0_1 from zF ho0_1 (fun k_ hk => ⟨(.inl (.inr hk)), fun e_ => hp0_1_0_0 k_ hk (ho0_0.1 k_ e_.symm)⟩))
  have HK := yD (Kept.refl w (fun k_ => P0_0_ k_ ∨ P0_1_ k_))
  have HW0 := yD hB.size
  have HB := yD hB
  clear hB
  have H : ((laws_markInt64S.f k l0_0 a1).bind fun bt216 => ((laws_markInt64S.f k l0_1 bt216.1).bind fun bt218 => (some (bt218.1, bt216.2, bt218.2)))) = some (r1, r2, r3) := h
  clear h
  replace H := Option.bind_eq_some_iff.mp H
  obtain ⟨⟨t216, t217⟩, A30, H⟩ := H
  replace H : ((laws_markInt64S.f k l0_1 t216).bind fun bt218 => (some (bt218.1, t217, bt218.2))) = some (r1, r2, r3) := H
  have A3 := yD A30
  clear A30
  replace H := Option.bind_eq_some_iff.mp H
  obtain ⟨⟨t218, t219⟩, A40, H⟩ := H
  replace H : (some (t218, t217, t219)) = some (r1, r2, r3) := H
  have A4 := yD A40
  clear A40
  simp only [Option.some.injEq, Prod.mk.injEq] at H
  obtain ⟨rfl, rfl, rfl⟩ := H
  obtain ⟨Ao5, co5, eo5⟩ := Kd.R_slice HO0_0.out
  subst eo5
  obtain ⟨Ao6, co6, eo6⟩ := Kd.R_slice HO0_1.out
  subst eo6; go_enter Try.func35, Try.ntmps35
  go_wp2_with (first | ((with_reducible refine gate_dst (N := 2) rfl ?_); refine box_event ?hg (N := 2) ?hd (cs := #[.slice Ao5 l0_0.length co5, .slice Ao6 l0_1.length co6]) (t := 42) ?hr ?_; (case hd => rfl); (case hg => rfl); (case hr => first | (go_simp; done) | (go_simp; rfl)); intro gb215 hg w7 hbox hb; have n0_ := yD (zE (by (with_reducible repeat (first | apply yA | apply yB | apply yC)); exact HO0_0.out) hb); have n1_ := yD (zE (by (with_reducible repeat (first | apply yA | apply yB | apply yC)); exact HO0_1.out) hb); have n2_ := yD (Kept.below (S := (fun k_ => P0_0_ k_ ∨ P0_1_ k_)) (by repeat (first | (with_reducible first | exact HK.out | apply Kept.alloc | apply Kept.drewN | apply Kept.drew) | exact HK.out)) hb); have n3_ := yD (zC (by repeat (first | (with_reducible first | exact HB.out | apply yQ | apply yL | apply yP) | exact HB.out)) hb); have n4_ := yD (hbox); have n5_ := yD ((by rw [hg]; exact (by first | exact HK.out.1 | exact (show Kept w _ (fun k_ => P0_0_ k_ ∨ P0_1_ k_) from by repeat (first | (with_reducible first | exact HK.out | apply Kept.alloc | apply Kept.drewN | apply Kept.drew) | exact HK.out)).1) : w.heap.size ≤ gb215)); have n6_ := yD ((by rw [hg]; exact (below_size (by repeat (first | (with_reducible first | exact HB.out | apply yQ | apply yL | apply yP) | exact HB.out))) : w0.heap.size ≤ gb215)); clear HO0_0; clear HO0_1; clear HK; clear HB; have HO0_0 := n0_; have HO0_1 := n1_; have HK := n2_; have HB := n3_; have BK215 := n4_; have GW215 := n5_; have GE215 := n6_; clear n0_ n1_ n2_ n3_ n4_ n5_ n6_; clear hb hbox hg; have hcz8_0 : w7.cell? ⟨gb215, 0, none⟩ = some (.slice Ao5 l0_0.length co5) := (yG BK215.out 0).trans rfl; have hcz8_1 : w7.cell? ⟨gb215, 1, none⟩ = some (.slice Ao6 l0_1.length co6) := (yG BK215.out 1).trans rfl; have hfz8_0 := yR BK215.out 0; have hfz8_1 := yR BK215.out 1) | ((with_reducible refine gate_callee (f := 44) rfl ?_); refine goesL_ (some 8) rfl rfl Try.func44 (by kernel_rfl) rfl #[.slice Ao5 l0_0.length co5, .int .i64 a1] rfl (by (try simp only [zK, zL, zM]); first | done | rfl | (simp only [zN, zO]; rfl)) ?_; (with_reducible refine (laws_markInt64S.calls k (fun k_ => some k_ = (.slice Ao5 l0_0.length co5 : Value).ownBlock) (.slice Ao5 l0_0.length co5) l0_0 a1 t216 t217 w0 _ ?side1 ?side2 A3.out).mono ?_); (case side1 => repeat (first | (with_reducible first | exact HB.out | apply yQ | apply yL | apply yP | refine yE ?_ GE215.out) | exact HB.out)); (case side2 => exact Kd.R_tight rfl HO0_0.out); rintro e w9 ⟨rfl, hy0, hb, hkp⟩; refine ⟨_, rfl, ?_⟩; have n0_ := yD (Kd.R_reok rfl hy0 (fun k_ e_ => HO0_0.out.1 k_ e_)); have n1_ := yD (zF (ok' := fun k_ => ((P0_0_ k_ ∨ P0_1_ k_) ∨ w.heap.size ≤ k_) ∧ some k_ ≠ (.slice Ao5 l0_0.length co5 : Value).ownBlock) (Kd.R_keptB (HO0_1.out) hkp (fun k_ hk_ hs_ => (hk_.2) hs_)) (fun k_ hk_ => ⟨hk_.1.1, hk_.1.2⟩)); have n2_ := yD (blk_kept (by (with_reducible repeat (first | refine yM ?_ _ | refine yO ?_ | refine yN ?_ _)); exact BK215.out) hkp (fun hs_ => (fun e_ => (Kd.R_ne HO0_0.out BK215.out (by decide)) e_) hs_)); have n3_ := yD (Kept.then_ (S := (fun k_ => P0_0_ k_ ∨ P0_1_ k_)) (by repeat (first | (with_reducible first | exact HK.out | apply Kept.alloc | apply Kept.drewN | apply Kept.drew | refine Kept.setCell ?_ (.inr GW215.out) _) | exact HK.out)) hkp (fun k_ hs_ => (fun e_ => (HO0_0.out.1 k_ e_.symm).1) hs_)); have n4_ := yD (hb); clear HO0_0; clear HO0_1; clear BK215; clear HK; clear HB; have HO0_0 := n0_; have HO0_1 := n1_; have BK215 := n2_; have HK := n3_; have HB := n4_; clear n0_ n1_ n2_ n3_ n4_; (try clear hb); (try clear hkp); (try clear hy0); have hcz10_0 : w9.cell? ⟨gb215, 0, none⟩ = some (.slice Ao5 l0_0.length co5) := (yG BK215.out 0).trans rfl; have hcz10_1 : w9.cell? ⟨gb215, 1, none⟩ = some (.slice Ao6 l0_1.length co6) := (yG BK215.out 1).trans rfl; have hfz10_0 := yR BK215.out 0; have hfz10_1 := yR BK215.out 1) | ((with_reducible refine gate_callee (f := 44) rfl ?_); refine goesL_ (some 12) rfl rfl Try.func44 (by kernel_rfl) rfl #[.slice Ao6 l0_1.length co6, .int .i64 t216] rfl (by (try simp only [zK, zL, zM]); first | done | rfl | (simp only [zN, zO]; rfl)) ?_; (with_reducible refine (laws_markInt64S.calls k (fun k_ => some k_ = (.slice Ao6 l0_1.length co6 : Value).ownBlock) (.slice Ao6 l0_1.length co6) l0_1 t216 t218 t219 w0 _ ?side1 ?side2 A4.out).mono ?_); (case side1 => repeat (first | (with_reducible first | exact HB.out | apply yQ | apply yL | apply yP | refine yE ?_ GE215.out) | exact HB.out)); (case side2 => exact Kd.R_tight rfl HO0_1.out); rintro e w11 ⟨rfl, hy0, hb, hkp⟩; refine ⟨_, rfl, ?_⟩; have n0_ := yD (zF (ok' := fun k_ => ((P0_0_ k_ ∨ P0_1_ k_) ∨ w.heap.size ≤ k_) ∧ some k_ ≠ (.slice Ao6 l0_1.length co6 : Value).ownBlock) (Kd.R_keptB (HO0_0.out) hkp (fun k_ hk_ hs_ => (hk_.2) hs_)) (fun k_ hk_ => ⟨hk_.1.1, hk_.1.2⟩)); have n1_ := yD (Kd.R_reok rfl hy0 (fun k_ e_ => HO0_1.out.1 k_ e_)); have n2_ := yD (blk_kept (by (with_reducible repeat (first | refine yM ?_ _ | refine yO ?_ | refine yN ?_ _)); exact BK215.out) hkp (fun hs_ => (fun e_ => (Kd.R_ne HO0_1.out BK215.out (by decide)) e_) hs_)); have n3_ := yD (Kept.then_ (S := (fun k_ => P0_0_ k_ ∨ P0_1_ k_)) (by repeat (first | (with_reducible first | exact HK.out | apply Kept.alloc | apply Kept.drewN | apply Kept.drew | refine Kept.setCell ?_ (.inr GW215.out) _) | exact HK.out)) hkp (fun k_ hs_ => (fun e_ => (HO0_1.out.1 k_ e_.symm).1) hs_)); have n4_ := yD (hb); clear HO0_0; clear HO0_1; clear BK215; clear HK; clear HB; have HO0_0 := n0_; have HO0_1 := n1_; have BK215 := n2_; have HK := n3_; have HB := n4_; clear n0_ n1_ n2_ n3_ n4_; (try clear hb); (try clear hkp); (try clear hy0)))
  go_ret
  exact ⟨by first | rfl | (simp [errW_none, errW_some] <;> rfl) | (simp [*, errW_none, errW_some] <;> rfl), by (with_reducible repeat (first | apply yA | apply yB | apply yC)); exact zF HO0_0.out (fun _ hk => hk.1), by (with_reducible repeat (first | apply yA | apply yB | apply yC)); exact zF HO0_1.out (fun _ hk => hk.1), by repeat (first | (with_reducible first | exact HB.out | apply yQ | apply yL | apply yP | refine yE ?_ GE215.out) | exact HB.out), by repeat (first | (with_reducible first | exact HK.out | apply Kept.alloc | apply Kept.drewN | apply Kept.drew | refine Kept.setCell ?_ (.inr GW215.out) _) | exact HK.out)⟩

/-! ### laws_heldInt64S: function 46 -/
def laws_heldInt64S.l0 : Nat → List Int → Int → Int → Option (Int)
  | 0, _, _, _ => none
  | k + 1, x0, x1, x5 => if x5 < (x0.length : Int) then (if 0 ≤ x5 then (if (rd x0 x5) = x1 then (laws_heldInt64S.l0 k x0 (wrap64 (x1 + 1)) (wrap64 (x5 + 1))) else (some (-1))) else (none)) else (some x1)
def laws_heldInt64S.f (k : Nat) (l0 : List Int) (a1 : Int) : Option (Int) := laws_heldInt64S.l0 k l0 a1 0
theorem laws_heldInt64S.mono_l : ∀ k, (∀ y0 y1 y2, LeO (laws_heldInt64S.l0 k y0 y1 y2) (laws_heldInt64S.l0 (k + 1) y0 y1 y2))
  | 0 => fun _ _ _ r h => by simp [laws_heldInt64S.l0] at h
  | k + 1 => by
    have ih0 := laws_heldInt64S.mono_l k
    · intro y0 y1 y2
      unfold laws_heldInt64S.l0
      repeat' first
      | (with_reducible exact ih0 _ _ _)
      | (with_reducible exact LeO.refl _)
      | (with_reducible exact LeO.none _)
      | (with_reducible refine LeO.ite ?_ ?_)
      | (with_reducible refine LeO.bind ?_ (fun _ => ?_))
      | exact ih0 _ _ _
      | exact LeO.none _
      | refine LeO.ite ?_ ?_
      | refine LeO.bind ?_ (fun _ => ?_)
theorem laws_heldInt64S.mono : ∀ a0 a1 k, LeO (laws_heldInt64S.f k a0 a1) (laws_heldInt64S.f (k + 1) a0 a1) := by
  intro a0 a1 k
  have ih0 := laws_heldInt64S.mono_l k
  unfold laws_heldInt64S.f
  repeat' first
      | (with_reducible exact ih0 _ _ _)
      | (with_reducible exact LeO.refl _)
      | (with_reducible exact LeO.none _)
      | (with_reducible refine LeO.ite ?_ ?_)
      | (with_reducible refine LeO.bind ?_ (fun _ => ?_))
      | exact ih0 _ _ _
      | exact LeO.none _
      | refine LeO.ite ?_ ?_
      | refine LeO.bind ?_ (fun _ => ?_)
set_option maxHeartbeats 8000000 in
set_option maxRecDepth 100000 in
theorem laws_heldInt64S.calls (k : Nat) (A0 : Option Addr) (c0 : Nat) (l0 : List Int) (a1 : Int) (r : Int) (w : World) (hr0 : Kd.C (Kd.int .i64) w A0 l0.length l0) (hc0 : l0.length ≤ c0) (h : laws_heldInt64S.f k l0 a1 = some r) :
    Calls Try.prog 46 #[.slice A0 l0.length c0, .int .i64 a1] w fun e w' => e = .returned (.int .i64 r) ∧ Drawn0 w w' := by
  have HR0 := yD hr0
  have HC0 := yD hc0
  clear hr0 hc0
  have H : (laws_heldInt64S.l0 k l0 a1 0) = some r := h
  clear h
  have H' := yD H
  clear H; go_enter Try.func46, Try.ntmps46
  go_wp2
  go_loopg [1, 5] k (fun kq v1 v5 w' => ∃ (x1_1 : Int) (x5_1 : Int), v1 = .int .i64 x1_1 ∧ v5 = .int .i64 x5_1 ∧ Aside0 (laws_heldInt64S.l0 kq l0 x1_1 x5_1 = some r) ∧ Aside0 (kq ≤ k) ∧ Drawn0 w w')
  case atStart => exact ⟨(a1), (0), (by first | rfl | (simp; done) | (simp [*]; done)), (by first | rfl | (simp; done) | (simp [*]; done)), H', ⟨Nat.le_refl _⟩, by repeat (first | exact Drawn0.refl _ | apply Drawn0.step)⟩
  case round =>
    clear H'
    try clear p2
    obtain ⟨x1_1, x5_1, rfl, rfl, HA, HK1, ⟨m1, rfl⟩⟩ := hrel
    cases gk with
    | zero => exact absurd HA.out (by simp [laws_heldInt64S.l0])
    | succ k1 =>
      have H := HA.out; clear HA
      simp only [laws_heldInt64S.l0] at H
      by_cases c3 : x5_1 < (l0.length : Int)
      · rw [if_pos c3] at H
        have c3b0 : decide (x5_1 < (l0.length : Int)) = true := zR c3; clear c3
        by_cases c4 : 0 ≤ x5_1
        · rw [if_pos c4] at H
          have c4b0 : decide (0 ≤ x5_1) = true := zR c4; clear c4
          by_cases c5 : (rd l0 x5_1) = x1_1
          · rw [if_pos c5] at H
            have c5b0 : ((rd l0 x5_1) == x1_1) = true := beq_iff_eq.mpr c5
            have c5b1 : ((rd l0 x5_1) != x1_1) = false := bne_eq_false_iff_eq.mpr c5
            clear c5
            have H' := yD H
            clear H
            have p220 : 0 ≤ (x5_1 : Int) := zP (by assumption)
            have q220 : x5_1 < (l0.length : Int) := zP (by assumption)
            obtain ⟨ad220, e220, hx220_0⟩ := Kd.at_int HR0.out x5_1 p220 q220
            cases e220; replace p220 := eq_true p220; replace q220 := eq_true q220
            go_wp2
            go_roundg k1
            case measure => have := HK1.out; omega
            case rel => exact ⟨(wrap64 (x1_1 + 1)), (wrap64 (x5_1 + 1)), (by first | rfl | (simp; done) | (simp [*]; done)), (by first | rfl | (simp; done) | (simp [*]; done)), H', ⟨by have := HK1.out; omega⟩, by repeat (first | exact Drawn0.refl _ | apply Drawn0.step)⟩
          · rw [if_neg c5] at H
            have c5b0 : ((rd l0 x5_1) == x1_1) = false := beq_eq_false_iff_ne.mpr c5
            have c5b1 : ((rd l0 x5_1) != x1_1) = true := bne_iff_ne.mpr c5
            obtain rfl := Option.some.inj H
            have p220 : 0 ≤ (x5_1 : Int) := zP (by assumption)
            have q220 : x5_1 < (l0.length : Int) := zP (by assumption)
            obtain ⟨ad220, e220, hx220_0⟩ := Kd.at_int HR0.out x5_1 p220 q220
            cases e220; replace p220 := eq_true p220; replace q220 := eq_true q220
            go_wp2
            go_ret
            exact ⟨by first | rfl | (simp; done) | (simp [*]; done), by repeat (first | exact Drawn0.refl _ | apply Drawn0.step)⟩
        · rw [if_neg c4] at H
          exact absurd H (by simp)
      · rw [if_neg c3] at H
        have c3b0 : decide (x5_1 < (l0.length : Int)) = false := zS c3; clear c3; obtain rfl := Option.some.inj H
        go_wp2
        go_ret
        exact ⟨by first | rfl | (simp; done) | (simp [*]; done), by repeat (first | exact Drawn0.refl _ | apply Drawn0.step)⟩

/-! ### laws_heldBox: function 36 -/
def laws_heldBox.f (k : Nat) (l0_0 : List Int) (l0_1 : List Int) (a1 : Int) : Option (Int) := (laws_heldInt64S.f k l0_0 a1).bind fun t222 => (if t222 < 0 then (some (-1)) else ((laws_heldInt64S.f k l0_1 t222).bind fun t223 => (if t223 < 0 then (some (-1)) else (some t223))))
theorem laws_heldBox.mono : ∀ a0 a1 a2 k, LeO (laws_heldBox.f k a0 a1 a2) (laws_heldBox.f (k + 1) a0 a1 a2) := by
  intro a0 a1 a2 k
  unfold laws_heldBox.f
  repeat' first
      | (with_reducible exact laws_heldInt64S.mono _ _ _)
      | (with_reducible exact LeO.refl _)
      | (with_reducible exact LeO.none _)
      | (with_reducible refine LeO.ite ?_ ?_)
      | (with_reducible refine LeO.bind ?_ (fun _ => ?_))
      | exact laws_heldInt64S.mono _ _ _
      | exact LeO.none _
      | refine LeO.ite ?_ ?_
      | refine LeO.bind ?_ (fun _ => ?_)
set_option maxHeartbeats 8000000 in
set_option maxRecDepth 100000 in
theorem laws_heldBox.calls (k : Nat) (A0_0 : Option Addr) (c0_0 : Nat) (l0_0 : List Int) (A0_1 : Option Addr) (c0_1 : Nat) (l0_1 : List Int) (a1 : Int) (r : Int) (w : World) (hr0_0 : Kd.C (Kd.int .i64) w A0_0 l0_0.length l0_0) (hc0_0 : l0_0.length ≤ c0_0) (hr0_1 : Kd.C (Kd.int .i64) w A0_1 l0_1.length l0_1) (hc0_1 : l0_1.length ≤ c0_1) (h : laws_heldBox.f k l0_0 l0_1 a1 = some r) :
    Calls Try.prog 36 #[.agg #[.slice A0_0 l0_0.length c0_0, .slice A0_1 l0_1.length c0_1], .int .i64 a1] w fun e w' => e = .returned (.int .i64 r) ∧ Below w.heap.size w w' := by
  have hu42 := Try.underlying42
  have HR0_0 := yD hr0_0
  have HC0_0 := yD hc0_0
  clear hr0_0 hc0_0
  have HR0_1 := yD hr0_1
  have HC0_1 := yD hc0_1
  clear hr0_1 hc0_1
  have HB := yD (Below.refl w.heap.size w)
  have H : ((laws_heldInt64S.f k l0_0 a1).bind fun t222 => (if t222 < 0 then (some (-1)) else ((laws_heldInt64S.f k l0_1 t222).bind fun t223 => (if t223 < 0 then (some (-1)) else (some t223))))) = some r := h
  clear h
  replace H := Option.bind_eq_some_iff.mp H
  obtain ⟨t222, A30, H⟩ := H
  replace H : (if t222 < 0 then (some (-1)) else ((laws_heldInt64S.f k l0_1 t222).bind fun t223 => (if t223 < 0 then (some (-1)) else (some t223)))) = some r := H
  have A3 := yD A30
  clear A30
  by_cases c4 : t222 < 0
  · rw [if_pos c4] at H
    have c4b0 : decide (t222 < 0) = true := zR c4; clear c4; obtain rfl := Option.some.inj H; go_enter Try.func36, Try.ntmps36
    go_wp2_with (first | ((with_reducible refine gate_dst (N := 2) rfl ?_); refine box_event ?hg (N := 2) ?hd (cs := #[.slice A0_0 l0_0.length c0_0, .slice A0_1 l0_1.length c0_1]) (t := 42) ?hr ?_; (case hd => rfl); (case hg => rfl); (case hr => first | (go_simp; done) | (go_simp; rfl)); intro gb221 hg w5 hbox hb; have n0_ := yD (zC (by repeat (first | (with_reducible first | exact HB.out | apply yQ | apply yL | apply yP) | exact HB.out)) hb); have n1_ := yD (hbox); have n2_ := yD ((by rw [hg]; exact (below_size (by repeat (first | (with_reducible first | exact HB.out | apply yQ | apply yL | apply yP) | exact HB.out))) : w.heap.size ≤ gb221)); have n3_ := yD ((by rw [hg]; exact (below_size (by repeat (first | (with_reducible first | exact HB.out | apply yQ | apply yL | apply yP) | exact HB.out))) : w.heap.size ≤ gb221)); clear HB; have HB := n0_; have BK221 := n1_; have GW221 := n2_; have GE221 := n3_; clear n0_ n1_ n2_ n3_; clear hb hbox hg; have hcz6_0 : w5.cell? ⟨gb221, 0, none⟩ = some (.slice A0_0 l0_0.length c0_0) := (yG BK221.out 0).trans rfl; have hcz6_1 : w5.cell? ⟨gb221, 1, none⟩ = some (.slice A0_1 l0_1.length c0_1) := (yG BK221.out 1).trans rfl; have hfz6_0 := yR BK221.out 0; have hfz6_1 := yR BK221.out 1) | ((with_reducible refine gate_callee (f := 46) rfl ?_); refine goesL_ (some 8) rfl rfl Try.func46 (by kernel_rfl) rfl #[.slice A0_0 l0_0.length c0_0, .int .i64 a1] rfl (by (try simp only [zK, zL, zM]); first | done | rfl | (simp only [zN, zO]; rfl)) ?_; (with_reducible refine (laws_heldInt64S.calls k _ _ l0_0 a1 t222 _ ?side1 ?side2 A3.out).mono ?_); (case side1 => repeat (first | exact (yY HR0_0.out HB.out) | (with_reducible first | refine yV ?_ _ | refine yW ?_ _ | refine yX ?_))); (case side2 => exact HC0_0.out); rintro e w' ⟨rfl, ⟨nd, rfl⟩⟩; refine ⟨_, rfl, ?_⟩))
    go_ret
    exact ⟨by first | rfl | (simp [errW_none, errW_some] <;> rfl) | (simp [*, errW_none, errW_some] <;> rfl), by repeat (first | (with_reducible first | exact HB.out | apply yQ | apply yL | apply yP | refine yE ?_ GE221.out) | exact HB.out)⟩
  · rw [if_neg c4] at H
    have c4b0 : decide (t222 < 0) = false := zS c4; clear c4
    replace H := Option.bind_eq_some_iff.mp H
    obtain ⟨t223, A70, H⟩ := H
    replace H : (if t223 < 0 then (some (-1)) else (some t223)) = some r := H
    have A7 := yD A70
    clear A70
    by_cases c8 : t223 < 0
    · rw [if_pos c8] at H
      have c8b0 : decide (t223 < 0) = true := zR c8; clear c8; obtain rfl := Option.some.inj H; go_enter Try.func36, Try.ntmps36
      go_wp2_with (first | ((with_reducible refine gate_dst (N := 2) rfl ?_); refine box_event ?hg (N := 2) ?hd (cs := #[.slice A0_0 l0_0.length c0_0, .slice A0_1 l0_1.length c0_1]) (t := 42) ?hr ?_; (case hd => rfl); (case hg => rfl); (case hr => first | (go_simp; done) | (go_simp; rfl)); intro gb221 hg w9 hbox hb; have n0_ := yD (zC (by repeat (first | (with_reducible first | exact HB.out | apply yQ | apply yL | apply yP) | exact HB.out)) hb); have n1_ := yD (hbox); have n2_ := yD ((by rw [hg]; exact (below_size (by repeat (first | (with_reducible first | exact HB.out | apply yQ | apply yL | apply yP) | exact HB.out))) : w.heap.size ≤ gb221)); have n3_ := yD ((by rw [hg]; exact (below_size (by repeat (first | (with_reducible first | exact HB.out | apply yQ | apply yL | apply yP) | exact HB.out))) : w.heap.size ≤ gb221)); clear HB; have HB := n0_; have BK221 := n1_; have GW221 := n2_; have GE221 := n3_; clear n0_ n1_ n2_ n3_; clear hb hbox hg; have hcz10_0 : w9.cell? ⟨gb221, 0, none⟩ = some (.slice A0_0 l0_0.length c0_0) := (yG BK221.out 0).trans rfl; have hcz10_1 : w9.cell? ⟨gb221, 1, none⟩ = some (.slice A0_1 l0_1.length c0_1) := (yG BK221.out 1).trans rfl; have hfz10_0 := yR BK221.out 0; have hfz10_1 := yR BK221.out 1) | ((with_reducible refine gate_callee (f := 46) rfl ?_); refine goesL_ (some 8) rfl rfl Try.func46 (by kernel_rfl) rfl #[.slice A0_0 l0_0.length c0_0, .int .i64 a1] rfl (by (try simp only [zK, zL, zM]); first | done | rfl | (simp only [zN, zO]; rfl)) ?_; (with_reducible refine (laws_heldInt64S.calls k _ _ l0_0 a1 t222 _ ?side1 ?side2 A3.out).mono ?_); (case side1 => repeat (first | exact (yY HR0_0.out HB.out) | (with_reducible first | refine yV ?_ _ | refine yW ?_ _ | refine yX ?_))); (case side2 => exact HC0_0.out); rintro e w' ⟨rfl, ⟨nd, rfl⟩⟩; refine ⟨_, rfl, ?_⟩) | ((with_reducible refine gate_callee (f := 46) rfl ?_); refine goesL_ (some 14) rfl rfl Try.func46 (by kernel_rfl) rfl #[.slice A0_1 l0_1.length c0_1, .int .i64 t222] rfl (by (try simp only [zK, zL, zM]); first | done | rfl | (simp only [zN, zO]; rfl)) ?_; (with_reducible refine (laws_heldInt64S.calls k _ _ l0_1 t222 t223 _ ?side1 ?side2 A7.out).mono ?_); (case side1 => repeat (first | exact (yY HR0_1.out (by repeat (first | (with_reducible first | exact HB.out | apply yQ | apply yL | apply yP | refine yE ?_ GE221.out) | exact HB.out))) | (with_reducible first | refine yV ?_ _ | refine yW ?_ _ | refine yX ?_))); (case side2 => exact HC0_1.out); rintro e w' ⟨rfl, ⟨nd, rfl⟩⟩; refine ⟨_, rfl, ?_⟩))
      go_ret
      exact ⟨by first | rfl | (simp [errW_none, errW_some] <;> rfl) | (simp [*, errW_none, errW_some] <;> rfl), by repeat (first | (with_reducible first | exact HB.out | apply yQ | apply yL | apply yP | refine yE ?_ GE221.out) | exact HB.out)⟩
    · rw [if_neg c8] at H
      have c8b0 : decide (t223 < 0) = false := zS c8; clear c8; obtain rfl := Option.some.inj H; go_enter Try.func36, Try.ntmps36
      go_wp2_with (first | ((with_reducible refine gate_dst (N := 2) rfl ?_); refine box_event ?hg (N := 2) ?hd (cs := #[.slice A0_0 l0_0.length c0_0, .slice A0_1 l0_1.length c0_1]) (t := 42) ?hr ?_; (case hd => rfl); (case hg => rfl); (case hr => first | (go_simp; done) | (go_simp; rfl)); intro gb221 hg w11 hbox hb; have n0_ := yD (zC (by repeat (first | (with_reducible first | exact HB.out | apply yQ | apply yL | apply yP) | exact HB.out)) hb); have n1_ := yD (hbox); have n2_ := yD ((by rw [hg]; exact (below_size (by repeat (first | (with_reducible first | exact HB.out | apply yQ | apply yL | apply yP) | exact HB.out))) : w.heap.size ≤ gb221)); have n3_ := yD ((by rw [hg]; exact (below_size (by repeat (first | (with_reducible first | exact HB.out | apply yQ | apply yL | apply yP) | exact HB.out))) : w.heap.size ≤ gb221)); clear HB; have HB := n0_; have BK221 := n1_; have GW221 := n2_; have GE221 := n3_; clear n0_ n1_ n2_ n3_; clear hb hbox hg; have hcz12_0 : w11.cell? ⟨gb221, 0, none⟩ = some (.slice A0_0 l0_0.length c0_0) := (yG BK221.out 0).trans rfl; have hcz12_1 : w11.cell? ⟨gb221, 1, none⟩ = some (.slice A0_1 l0_1.length c0_1) := (yG BK221.out 1).trans rfl; have hfz12_0 := yR BK221.out 0; have hfz12_1 := yR BK221.out 1) | ((with_reducible refine gate_callee (f := 46) rfl ?_); refine goesL_ (some 8) rfl rfl Try.func46 (by kernel_rfl) rfl #[.slice A0_0 l0_0.length c0_0, .int .i64 a1] rfl (by (try simp only [zK, zL, zM]); first | done | rfl | (simp only [zN, zO]; rfl)) ?_; (with_reducible refine (laws_heldInt64S.calls k _ _ l0_0 a1 t222 _ ?side1 ?side2 A3.out).mono ?_); (case side1 => repeat (first | exact (yY HR0_0.out HB.out) | (with_reducible first | refine yV ?_ _ | refine yW ?_ _ | refine yX ?_))); (case side2 => exact HC0_0.out); rintro e w' ⟨rfl, ⟨nd, rfl⟩⟩; refine ⟨_, rfl, ?_⟩) | ((with_reducible refine gate_callee (f := 46) rfl ?_); refine goesL_ (some 14) rfl rfl Try.func46 (by kernel_rfl) rfl #[.slice A0_1 l0_1.length c0_1, .int .i64 t222] rfl (by (try simp only [zK, zL, zM]); first | done | rfl | (simp only [zN, zO]; rfl)) ?_; (with_reducible refine (laws_heldInt64S.calls k _ _ l0_1 t222 t223 _ ?side1 ?side2 A7.out).mono ?_); (case side1 => repeat (first | exact (yY HR0_1.out (by repeat (first | (with_reducible first | exact HB.out | apply yQ | apply yL | apply yP | refine yE ?_ GE221.out) | exact HB.out))) | (with_reducible first | refine yV ?_ _ | refine yW ?_ _ | refine yX ?_))); (case side2 => exact HC0_1.out); rintro e w' ⟨rfl, ⟨nd, rfl⟩⟩; refine ⟨_, rfl, ?_⟩))
      go_ret
      exact ⟨by first | rfl | (simp [errW_none, errW_some] <;> rfl) | (simp [*, errW_none, errW_some] <;> rfl), by repeat (first | (with_reducible first | exact HB.out | apply yQ | apply yL | apply yP | refine yE ?_ GE221.out) | exact HB.out)⟩

end Go.Proofs.Ytdiaebjbiddefaa.PFnExactBoundsOf
