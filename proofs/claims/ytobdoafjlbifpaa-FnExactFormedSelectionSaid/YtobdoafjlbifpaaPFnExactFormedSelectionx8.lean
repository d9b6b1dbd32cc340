/- Each Go function here comes to what the plain function of its name says, where that says something. Made by a program of this session, over the print. -/
import Derived.Test.YtobdoafjlbifpaaPFnExactFormedSelectionx0
namespace Go.Proofs.Ytobdoafjlbifpaa.PFnExactFormedSelection
open Go.RowKit Go.Proofs.YtobdoafjlbifpaaW.PrintWords Go.Proofs.YtobdoafjlbifpaaW.PrintLast Go.Proofs.YtobdoafjlbifpaaW.PrintMore
attribute [local go_sem] max2_int min2_int max_two min_two max_three min_three max_four min_four   -- for this text's walks alone
set_option linter.unusedVariables false
set_option linter.unusedSimpArgs false

/-! ### laws_eqInt64S: function 13 -/
def laws_eqInt64S.l0 : Nat → List Int → List Int → Int → Option (Bool)
 | 0, _, _, _ => none
 | k + 1, x0, x1, x5 => if x5 < (x0.length : Int) then (if 0 ≤ x5 then (if x5 < (x1.length : Int) then (if (rd x0 x5) = (rd x1 x5) then (laws_eqInt64S.l0 k x0 x1 (wrap64 (x5 + 1))) else (some false)) else (none)) else (none)) else (some true)
def laws_eqInt64S.f (k : Nat) (l0 : List Int) (l1 : List Int) : Option (Bool) := if (l0.length : Int) = (l1.length : Int) then (laws_eqInt64S.l0 k l0 l1 0) else (some false)
theorem laws_eqInt64S.mono_l : ∀ k, (∀ y0 y1 y2, LeO (laws_eqInt64S.l0 k y0 y1 y2) (laws_eqInt64S.l0 (k + 1) y0 y1 y2))
 | 0 => fun _ _ _ r h => by simp [laws_eqInt64S.l0] at h
 | k + 1 => by
  have ih0 := laws_eqInt64S.mono_l k
  ·
   intro y0 y1 y2
   unfold laws_eqInt64S.l0
   repeat' first
   | (with_reducible exact ih0 _ _ _)
   | (with_reducible exact LeO.refl _)
   | (with_reducible exact LeO.none _)
   | (with_reducible refine LeO.ite ?_ ?_)
   | (with_reducible refine LeO.bind ?_ (fun _ => ?_))
   | exact ih0 _ _ _
   | exact LeO.none _
   | refine LeO.ite ?_ ?_
   | refine LeO.bind ?_ (fun _ => ?_)
theorem laws_eqInt64S.mono : ∀ a0 a1 k, LeO (laws_eqInt64S.f k a0 a1) (laws_eqInt64S.f (k + 1) a0 a1) := by
 intro a0 a1 k
 have ih0 := laws_eqInt64S.mono_l k
 unfold laws_eqInt64S.f
 repeat' first
   | (with_reducible exact ih0 _ _ _)
   | (with_reducible exact LeO.refl _)
   | (with_reducible exact LeO.none _)
   | (with_reducible refine LeO.ite ?_ ?_)
   | (with_reducible refine LeO.bind ?_ (fun _ => ?_))
   | exact ih0 _ _ _
   | exact LeO.none _
   | refine LeO.ite ?_ ?_
   | refine LeO.bind ?_ (fun _ => ?_)
set_option maxHeartbeats 8000000 in
set_option maxRecDepth 100000 in
theorem laws_eqInt64S.calls (k : Nat) (A0 : Option Addr) (c0 : Nat) (l0 : List Int) (A1 : Option Addr) (c1 : Nat) (l1 : List Int) (r : Bool) (w : World) (hr0 : Kd.C (Kd.int .i64) w A0 l0.length l0) (hc0 : l0.length ≤ c0) (hr1 : Kd.C (Kd.int .i64) w A1 l1.length l1) (hc1 : l1.length ≤ c1) (h : laws_eqInt64S.f k l0 l1 = some r) :
  Calls Try.prog 13 #[.slice A0 l0.length c0, .slice A1 l1.length c1] w fun e w' => e = .returned (.bool r) ∧ Drawn0 w w' := by
 have HR0 := yD hr0
 have HC0 := yD hc0
 clear hr0 hc0
 have HR1 := yD hr1
 have HC1 := yD hc1
 clear hr1 hc1
 have H : (if (l0.length : Int) = (l1.length : Int) then (laws_eqInt64S.l0 k l0 l1 0) else (some false)) = some r := h
 clear h
 by_cases c3 : (l0.length : Int) = (l1.length : Int)
 ·
  rw [if_pos c3] at H
  have c3b0 : ((l0.length : Int) == (l1.length : Int)) = true := beq_iff_eq.mpr c3
  have c3b1 : ((l0.length : Int) != (l1.length : Int)) = false := bne_eq_false_iff_eq.mpr c3
  have c3b2 : (l0.length == l1.length) = true := by first | simpa using c3 | (simp at c3 ⊢; omega)
  clear c3
  have H' := yD H
  clear H; go_enter Try.func13, Try.ntmps13
  go_wp2
  repeat (go_quiet (fail); try go_wp2)
  go_loopg [5] k (fun kq v5 w' => ∃ (x5_1 : Int), v5 = .int .i64 x5_1 ∧ Aside0 (laws_eqInt64S.l0 kq l0 l1 x5_1 = some r) ∧ Aside0 (kq ≤ k) ∧ Drawn0 w w')
  case atStart => exact ⟨(0), (by first | rfl | (simp; done) | (simp [*]; done)), H', ⟨Nat.le_refl _⟩, by repeat (first | exact Drawn0.refl _ | apply Drawn0.step)⟩
  case round =>
   clear H'
   try clear c1; try clear p2; try clear c3; try clear c3b0; try clear c3b1; try clear c3b2
   obtain ⟨x5_1, rfl, HA, HK1, ⟨m1, rfl⟩⟩ := hrel
   cases gk with
   | zero => exact absurd HA.out (by simp [laws_eqInt64S.l0])
   | succ k1 =>
    have H := HA.out; clear HA
    simp only [laws_eqInt64S.l0] at H
    by_cases c4 : x5_1 < (l0.length : Int)
    ·
     rw [if_pos c4] at H; have c4b0 : decide (x5_1 < (l0.length : Int)) = true := zR c4; clear c4
     by_cases c5 : 0 ≤ x5_1
     ·
      rw [if_pos c5] at H; have c5b0 : decide (0 ≤ x5_1) = true := zR c5; clear c5
      by_cases c6 : x5_1 < (l1.length : Int)
      ·
       rw [if_pos c6] at H; have c6b0 : decide (x5_1 < (l1.length : Int)) = true := zR c6; clear c6
       by_cases c7 : (rd l0 x5_1) = (rd l1 x5_1)
       ·
        rw [if_pos c7] at H
        have c7b0 : ((rd l0 x5_1) == (rd l1 x5_1)) = true := beq_iff_eq.mpr c7
        have c7b1 : ((rd l0 x5_1) != (rd l1 x5_1)) = false := bne_eq_false_iff_eq.mpr c7
        clear c7
        have H' := yD H
        clear H
        have p244 : 0 ≤ (x5_1 : Int) := zP (by assumption)
        have q244 : x5_1 < (l0.length : Int) := zP (by assumption)
        obtain ⟨ad244, e244, hx244_0⟩ := Kd.at_int HR0.out x5_1 p244 q244
        cases e244; replace p244 := eq_true p244; replace q244 := eq_true q244
        have p245 : 0 ≤ (x5_1 : Int) := zP (by assumption)
        have q245 : x5_1 < (l1.length : Int) := zP (by assumption)
        obtain ⟨ad245, e245, hx245_0⟩ := Kd.at_int HR1.out x5_1 p245 q245
        cases e245; replace p245 := eq_true p245; replace q245 := eq_true q245
        go_wp2
        repeat (go_quiet (fail); try go_wp2)
        go_roundg k1
        case measure => have := HK1.out; omega
        case rel => exact ⟨(wrap64 (x5_1 + 1)), (by first | rfl | (simp; done) | (simp [*]; done)), H', ⟨by have := HK1.out; omega⟩, by repeat (first | exact Drawn0.refl _ | apply Drawn0.step)⟩
       ·
        rw [if_neg c7] at H
        have c7b0 : ((rd l0 x5_1) == (rd l1 x5_1)) = false := beq_eq_false_iff_ne.mpr c7
        have c7b1 : ((rd l0 x5_1) != (rd l1 x5_1)) = true := bne_iff_ne.mpr c7
        obtain rfl := Option.some.inj H
        have p244 : 0 ≤ (x5_1 : Int) := zP (by assumption)
        have q244 : x5_1 < (l0.length : Int) := zP (by assumption)
        obtain ⟨ad244, e244, hx244_0⟩ := Kd.at_int HR0.out x5_1 p244 q244
        cases e244; replace p244 := eq_true p244; replace q244 := eq_true q244
        have p245 : 0 ≤ (x5_1 : Int) := zP (by assumption)
        have q245 : x5_1 < (l1.length : Int) := zP (by assumption)
        obtain ⟨ad245, e245, hx245_0⟩ := Kd.at_int HR1.out x5_1 p245 q245
        cases e245; replace p245 := eq_true p245; replace q245 := eq_true q245
        go_wp2
        repeat (go_quiet (fail); try go_wp2)
        go_ret
        exact ⟨by first | rfl | (simp; done) | (simp [*]; done), by repeat (first | exact Drawn0.refl _ | apply Drawn0.step)⟩
      ·
       rw [if_neg c6] at H
       exact absurd H (by simp)
     ·
      rw [if_neg c5] at H
      exact absurd H (by simp)
    ·
     rw [if_neg c4] at H; have c4b0 : decide (x5_1 < (l0.length : Int)) = false := zS c4; clear c4; obtain rfl := Option.some.inj H
     go_wp2
     repeat (go_quiet (fail); try go_wp2)
     go_ret
     exact ⟨by first | rfl | (simp; done) | (simp [*]; done), by repeat (first | exact Drawn0.refl _ | apply Drawn0.step)⟩
 ·
  rw [if_neg c3] at H
  have c3b0 : ((l0.length : Int) == (l1.length : Int)) = false := beq_eq_false_iff_ne.mpr c3
  have c3b1 : ((l0.length : Int) != (l1.length : Int)) = true := bne_iff_ne.mpr c3
  have c3b2 : (l0.length == l1.length) = false := by first | simpa using c3 | (simp at c3 ⊢; omega)
  obtain rfl := Option.some.inj H; go_enter Try.func13, Try.ntmps13
  go_wp2
  repeat (go_quiet (fail); try go_wp2)
  go_ret
  exact ⟨by first | rfl | (simp; done) | (simp [*]; done), by repeat (first | exact Drawn0.refl _ | apply Drawn0.step)⟩

/-! ### laws_eqPoint: function 40 -/
def laws_eqPoint.f (k : Nat) (l0_0 : List Int) (l1_0 : List Int) : Option (Bool) := (laws_eqInt64S.f k l0_0 l1_0).bind fun t248 => (if t248 = true then (some true) else (some false))
theorem laws_eqPoint.mono : ∀ a0 a1 k, LeO (laws_eqPoint.f k a0 a1) (laws_eqPoint.f (k + 1) a0 a1) := by
 intro a0 a1 k
 unfold laws_eqPoint.f
 repeat' first
   | (with_reducible exact laws_eqInt64S.mono _ _ _)
   | (with_reducible exact LeO.refl _)
   | (with_reducible exact LeO.none _)
   | (with_reducible refine LeO.ite ?_ ?_)
   | (with_reducible refine LeO.bind ?_ (fun _ => ?_))
   | exact laws_eqInt64S.mono _ _ _
   | exact LeO.none _
   | refine LeO.ite ?_ ?_
   | refine LeO.bind ?_ (fun _ => ?_)
set_option maxHeartbeats 8000000 in
set_option maxRecDepth 100000 in
theorem laws_eqPoint.calls (k : Nat) (A0_0 : Option Addr) (c0_0 : Nat) (l0_0 : List Int) (A1_0 : Option Addr) (c1_0 : Nat) (l1_0 : List Int) (r : Bool) (w : World) (hr0_0 : Kd.C (Kd.int .i64) w A0_0 l0_0.length l0_0) (hc0_0 : l0_0.length ≤ c0_0) (hr1_0 : Kd.C (Kd.int .i64) w A1_0 l1_0.length l1_0) (hc1_0 : l1_0.length ≤ c1_0) (h : laws_eqPoint.f k l0_0 l1_0 = some r) :
  Calls Try.prog 40 #[.agg #[.slice A0_0 l0_0.length c0_0], .agg #[.slice A1_0 l1_0.length c1_0]] w fun e w' => e = .returned (.bool r) ∧ Below w.heap.size w w' := by
 have hu48 := Try.underlying48
 have HR0_0 := yD hr0_0
 have HC0_0 := yD hc0_0
 clear hr0_0 hc0_0
 have HR1_0 := yD hr1_0
 have HC1_0 := yD hc1_0
 clear hr1_0 hc1_0
 have HB := yD (Below.refl w.heap.size w)
 have H : ((laws_eqInt64S.f k l0_0 l1_0).bind fun t248 => (if t248 = true then (some true) else (some false))) = some r := h
 clear h
 obtain ⟨t248, A30, H⟩ := zW_ H
 replace H : (if t248 = true then (some true) else (some false)) = some r := H
 have A3 := yD A30
 clear A30
 by_cases c4 : t248 = true
 ·
  subst c4
  have H1 : (some true) = some r := by rw [if_pos rfl] at H; exact H
  clear H; have H := H1; clear H1; obtain rfl := Option.some.inj H; go_enter Try.func40, Try.ntmps40
  go_wp2_with (first | ((with_reducible refine gate_dst (N := 2) rfl ?_); refine box_event ?hg (N := 2) ?hd (cs := #[.slice A0_0 l0_0.length c0_0]) (t := 48) ?hr ?_; (case hd => rfl); (case hg => rfl); (case hr => first | (go_simp; done) | (go_simp; rfl)); intro gb246 hg w5 hbox hb; have n0_ := yD (zC (by exact HB.out) hb); have n1_ := yD (hbox); have n2_ := yD ((by rw [hg]; exact (below_size (by exact HB.out)) : w.heap.size ≤ gb246)); have n3_ := yD ((by rw [hg]; exact (below_size (by exact HB.out)) : w.heap.size ≤ gb246)); clear HB; have HB := n0_; have BK246 := n1_; have GW246 := n2_; have GE246 := n3_; clear n0_ n1_ n2_ n3_; clear hb hbox hg) | ((with_reducible refine gate_dst (N := 3) rfl ?_); refine box_event ?hg (N := 3) ?hd (cs := #[.slice A1_0 l1_0.length c1_0]) (t := 48) ?hr ?_; (case hd => rfl); (case hg => rfl); (case hr => first | (go_simp; done) | (go_simp; rfl)); intro gb247 hg w6 hbox hb; have n0_ := yD (zB (g := gb246) (o := .cells #[.slice A0_0 l0_0.length c0_0] 48 (0, 0)) (by exact BK246.out) hb); have n1_ := yD (zC (by exact HB.out) hb); have n2_ := yD (hbox); have n3_ := yD ((by rw [hg]; exact (below_size (by exact HB.out)) : w.heap.size ≤ gb247)); have n4_ := yD ((by rw [hg]; exact (below_size (by exact HB.out)) : w.heap.size ≤ gb247)); have n5_ := yD ((by rw [hg]; exact Nat.ne_of_lt (blk_lt (g := gb246) (o := .cells #[.slice A0_0 l0_0.length c0_0] 48 (0, 0)) (by exact BK246.out)) : gb246 ≠ gb247)); have n6_ := yD ((by rw [hg]; exact Nat.ne_of_gt (blk_lt (g := gb246) (o := .cells #[.slice A0_0 l0_0.length c0_0] 48 (0, 0)) (by exact BK246.out)) : gb247 ≠ gb246)); clear BK246; clear HB; have BK246 := n0_; have HB := n1_; have BK247 := n2_; have GW247 := n3_; have GE247 := n4_; have NB246_247 := n5_; have NB247_246 := n6_; clear n0_ n1_ n2_ n3_ n4_ n5_ n6_; clear hb hbox hg; have hnb7 := NB246_247.out; have hnc7 := NB247_246.out; have hcz8_0 : w6.cell? ⟨gb246, 0, none⟩ = some (.slice A0_0 l0_0.length c0_0) := (yG BK246.out 0).trans rfl; have hfz8_0 := yR BK246.out 0; have hcz9_0 : w6.cell? ⟨gb247, 0, none⟩ = some (.slice A1_0 l1_0.length c1_0) := (yG BK247.out 0).trans rfl; have hfz9_0 := yR BK247.out 0) | ((with_reducible refine gate_callee (f := 13) rfl ?_); refine goesL_ (some 9) rfl rfl Try.func13 (by kernel_rfl) rfl #[.slice A0_0 l0_0.length c0_0, .slice A1_0 l1_0.length c1_0] rfl (by (try simp only [zK, zL, zM]); first | done | rfl | (simp only [zN, zO]; rfl)) ?_; (with_reducible refine (laws_eqInt64S.calls k _ _ l0_0 _ _ l1_0 true _ ?side1 ?side2 ?side3 ?side4 A3.out).mono ?_); (case side1 => exact yY HR0_0.out HB.out); (case side2 => exact HC0_0.out); (case side3 => exact yY HR1_0.out HB.out); (case side4 => exact HC1_0.out); rintro e w' ⟨rfl, ⟨nd, rfl⟩⟩; refine ⟨_, rfl, ?_⟩))
  go_ret
  exact ⟨by first | rfl | (simp <;> rfl) | (simp [*] <;> rfl), by repeat (first | (with_reducible first | exact HB.out | apply yQ | apply yL | apply yP | refine yE ?_ GE246.out | refine yE ?_ GE247.out) | exact HB.out)⟩
 ·
  replace c4 := Bool.eq_false_iff.mpr c4
  subst c4
  have H1 : (some false) = some r := by rw [if_neg (show ¬ (false = true) by decide)] at H; exact H
  clear H; have H := H1; clear H1; obtain rfl := Option.some.inj H; go_enter Try.func40, Try.ntmps40
  go_wp2_with (first | ((with_reducible refine gate_dst (N := 2) rfl ?_); refine box_event ?hg (N := 2) ?hd (cs := #[.slice A0_0 l0_0.length c0_0]) (t := 48) ?hr ?_; (case hd => rfl); (case hg => rfl); (case hr => first | (go_simp; done) | (go_simp; rfl)); intro gb246 hg w10 hbox hb; have n0_ := yD (zC (by exact HB.out) hb); have n1_ := yD (hbox); have n2_ := yD ((by rw [hg]; exact (below_size (by exact HB.out)) : w.heap.size ≤ gb246)); have n3_ := yD ((by rw [hg]; exact (below_size (by exact HB.out)) : w.heap.size ≤ gb246)); clear HB; have HB := n0_; have BK246 := n1_; have GW246 := n2_; have GE246 := n3_; clear n0_ n1_ n2_ n3_; clear hb hbox hg) | ((with_reducible refine gate_dst (N := 3) rfl ?_); refine box_event ?hg (N := 3) ?hd (cs := #[.slice A1_0 l1_0.length c1_0]) (t := 48) ?hr ?_; (case hd => rfl); (case hg => rfl); (case hr => first | (go_simp; done) | (go_simp; rfl)); intro gb247 hg w11 hbox hb; have n0_ := yD (zB (g := gb246) (o := .cells #[.slice A0_0 l0_0.length c0_0] 48 (0, 0)) (by exact BK246.out) hb); have n1_ := yD (zC (by exact HB.out) hb); have n2_ := yD (hbox); have n3_ := yD ((by rw [hg]; exact (below_size (by exact HB.out)) : w.heap.size ≤ gb247)); have n4_ := yD ((by rw [hg]; exact (below_size (by exact HB.out)) : w.heap.size ≤ gb247)); have n5_ := yD ((by rw [hg]; exact Nat.ne_of_lt (blk_lt (g := gb246) (o := .cells #[.slice A0_0 l0_0.length c0_0] 48 (0, 0)) (by exact BK246.out)) : gb246 ≠ gb247)); have n6_ := yD ((by rw [hg]; exact Nat.ne_of_gt (blk_lt (g := gb246) (o := .cells #[.slice A0_0 l0_0.length c0_0] 48 (0, 0)) (by exact BK246.out)) : gb247 ≠ gb246)); clear BK246; clear HB; have BK246 := n0_; have HB := n1_; have BK247 := n2_; have GW247 := n3_; have GE247 := n4_; have NB246_247 := n5_; have NB247_246 := n6_; clear n0_ n1_ n2_ n3_ n4_ n5_ n6_; clear hb hbox hg; have hnb12 := NB246_247.out; have hnc12 := NB247_246.out; have hcz13_0 : w11.cell? ⟨gb246, 0, none⟩ = some (.slice A0_0 l0_0.length c0_0) := (yG BK246.out 0).trans rfl; have hfz13_0 := yR BK246.out 0; have hcz14_0 : w11.cell? ⟨gb247, 0, none⟩ = some (.slice A1_0 l1_0.length c1_0) := (yG BK247.out 0).trans rfl; have hfz14_0 := yR BK247.out 0) | ((with_reducible refine gate_callee (f := 13) rfl ?_); refine goesL_ (some 9) rfl rfl Try.func13 (by kernel_rfl) rfl #[.slice A0_0 l0_0.length c0_0, .slice A1_0 l1_0.length c1_0] rfl (by (try simp only [zK, zL, zM]); first | done | rfl | (simp only [zN, zO]; rfl)) ?_; (with_reducible refine (laws_eqInt64S.calls k _ _ l0_0 _ _ l1_0 false _ ?side1 ?side2 ?side3 ?side4 A3.out).mono ?_); (case side1 => exact yY HR0_0.out HB.out); (case side2 => exact HC0_0.out); (case side3 => exact yY HR1_0.out HB.out); (case side4 => exact HC1_0.out); rintro e w' ⟨rfl, ⟨nd, rfl⟩⟩; refine ⟨_, rfl, ?_⟩))
  go_ret
  exact ⟨by first | rfl | (simp <;> rfl) | (simp [*] <;> rfl), by repeat (first | (with_reducible first | exact HB.out | apply yQ | apply yL | apply yP | refine yE ?_ GE246.out | refine yE ?_ GE247.out) | exact HB.out)⟩

/-! ### laws_eqPointS: function 21 -/
def laws_eqPointS.l0 : Nat → List (S48) → List (S48) → Int → Option (Bool)
 | 0, _, _, _ => none
 | k + 1, x0, x1, x5 => if x5 < (x0.length : Int) then (if 0 ≤ x5 then (if x5 < (x1.length : Int) then ((laws_eqPoint.f k ((rd_T48 x0 x5).f0) ((rd_T48 x1 x5).f0)).bind fun t251 => (if t251 = true then (laws_eqPointS.l0 k x0 x1 (wrap64 (x5 + 1))) else (some false))) else (none)) else (none)) else (some true)
def laws_eqPointS.f (k : Nat) (l0 : List (S48)) (l1 : List (S48)) : Option (Bool) := if (l0.length : Int) = (l1.length : Int) then (laws_eqPointS.l0 k l0 l1 0) else (some false)
theorem laws_eqPointS.mono_l : ∀ k, (∀ y0 y1 y2, LeO (laws_eqPointS.l0 k y0 y1 y2) (laws_eqPointS.l0 (k + 1) y0 y1 y2))
 | 0 => fun _ _ _ r h => by simp [laws_eqPointS.l0] at h
 | k + 1 => by
  have ih0 := laws_eqPointS.mono_l k
  ·
   intro y0 y1 y2
   unfold laws_eqPointS.l0
   repeat' first
   | (with_reducible exact ih0 _ _ _)
   | (with_reducible exact laws_eqPoint.mono _ _ _)
   | (with_reducible exact LeO.refl _)
   | (with_reducible exact LeO.none _)
   | (with_reducible refine LeO.ite ?_ ?_)
   | (with_reducible refine LeO.bind ?_ (fun _ => ?_))
   | exact ih0 _ _ _
   | exact laws_eqPoint.mono _ _ _
   | exact LeO.none _
   | refine LeO.ite ?_ ?_
   | refine LeO.bind ?_ (fun _ => ?_)
theorem laws_eqPointS.mono : ∀ a0 a1 k, LeO (laws_eqPointS.f k a0 a1) (laws_eqPointS.f (k + 1) a0 a1) := by
 intro a0 a1 k
 have ih0 := laws_eqPointS.mono_l k
 unfold laws_eqPointS.f
 repeat' first
   | (with_reducible exact ih0 _ _ _)
   | (with_reducible exact laws_eqPoint.mono _ _ _)
   | (with_reducible exact LeO.refl _)
   | (with_reducible exact LeO.none _)
   | (with_reducible refine LeO.ite ?_ ?_)
   | (with_reducible refine LeO.bind ?_ (fun _ => ?_))
   | exact ih0 _ _ _
   | exact laws_eqPoint.mono _ _ _
   | exact LeO.none _
   | refine LeO.ite ?_ ?_
   | refine LeO.bind ?_ (fun _ => ?_)
def laws_eqPointS.T6 : Bool × List (List Nat × List Nat) := (true, [([], []), ([], []), ([0, 1], [0, 1]), ([2], [2]), ([], []), ([], []), ([4, 5], [4, 5]), ([6], [6]), ([3, 7], [3, 7]), ([8], [8])])
def laws_eqPointS.B6 : List Nat := [0, 0, 3, 7, 0, 0, 48, 112, 255, 511]
theorem laws_eqPointS.tab6 : rtab .any (opsOf Try.f21 6) = laws_eqPointS.T6 := by kernel_rfl
theorem laws_eqPointS.bits6 : waitsOk laws_eqPointS.T6.2 laws_eqPointS.B6 = true := by kernel_rfl
abbrev laws_eqPointS.Q_0 : Array Bool := #[false, false, false, false, false, false, false, false, false, false]
abbrev laws_eqPointS.Q_1 : Array Bool := #[true, false, false, false, false, false, false, false, false, false]
abbrev laws_eqPointS.Q_2 : Array Bool := #[true, true, false, false, false, false, false, false, false, false]
abbrev laws_eqPointS.Q_3 : Array Bool := #[true, true, true, false, false, false, false, false, false, false]
abbrev laws_eqPointS.Q_4 : Array Bool := #[true, true, true, false, true, false, false, false, false, false]
abbrev laws_eqPointS.Q_5 : Array Bool := #[true, true, true, false, true, true, false, false, false, false]
abbrev laws_eqPointS.Q_6 : Array Bool := #[true, true, true, false, true, true, true, false, false, false]
abbrev laws_eqPointS.Q_7 : Array Bool := #[true, true, true, true, true, true, true, false, false, false]
abbrev laws_eqPointS.Q_8 : Array Bool := #[true, true, true, true, true, true, true, true, false, false]
abbrev laws_eqPointS.Q_9 : Array Bool := #[true, true, true, true, true, true, true, true, true, false]
abbrev laws_eqPointS.Q_10 : Array Bool := #[true, true, true, true, true, true, true, true, true, true]
set_option maxHeartbeats 8000000 in
set_option maxRecDepth 100000 in
theorem laws_eqPointS.calls (k : Nat) (A0 : Option Addr) (c0 : Nat) (l0 : List (S48)) (A1 : Option Addr) (c1 : Nat) (l1 : List (S48)) (r : Bool) (w : World) (hr0 : Kd.C k48 w A0 l0.length l0) (hc0 : l0.length ≤ c0) (hr1 : Kd.C k48 w A1 l1.length l1) (hc1 : l1.length ≤ c1) (h : laws_eqPointS.f k l0 l1 = some r) :
  Calls Try.prog 21 #[.slice A0 l0.length c0, .slice A1 l1.length c1] w fun e w' => e = .returned (.bool r) ∧ Below w.heap.size w w' := by
 have hu48 := Try.underlying48
 have HR0 := yD hr0
 have HC0 := yD hc0
 clear hr0 hc0
 have HR1 := yD hr1
 have HC1 := yD hc1
 clear hr1 hc1
 have HB := yD (Below.refl w.heap.size w)
 have H : (if (l0.length : Int) = (l1.length : Int) then (laws_eqPointS.l0 k l0 l1 0) else (some false)) = some r := h
 clear h
 by_cases c3 : (l0.length : Int) = (l1.length : Int)
 ·
  rw [if_pos c3] at H
  have c3b0 : ((l0.length : Int) == (l1.length : Int)) = true := beq_iff_eq.mpr c3
  have c3b1 : ((l0.length : Int) != (l1.length : Int)) = false := bne_eq_false_iff_eq.mpr c3
  have c3b2 : (l0.length == l1.length) = true := by first | simpa using c3 | (simp at c3 ⊢; omega)
  clear c3
  have H' := yD H
  clear H; go_enter Try.func21, Try.ntmps21
  go_wp2
  go_loopg [5] k (fun kq v5 w' => ∃ (x5_1 : Int), v5 = .int .i64 x5_1 ∧ Aside0 (laws_eqPointS.l0 kq l0 l1 x5_1 = some r) ∧ Aside0 (kq ≤ k) ∧ Aside0 (Below w.heap.size w w'))
  case atStart => exact ⟨(0), (by first | rfl | (simp; done) | (simp [*]; done)), H', ⟨Nat.le_refl _⟩, ⟨by repeat (first | (with_reducible first | exact HB.out | apply yQ | apply yL | apply yP) | exact HB.out)⟩⟩
  case round =>
   clear H'
   try clear c1; try clear c2; try clear p2; try clear c3; try clear c3b0; try clear c3b1; try clear c3b2
   obtain ⟨x5_1, rfl, HA, HK1, HB⟩ := hrel
   cases gk with
   | zero => exact absurd HA.out (by simp [laws_eqPointS.l0])
   | succ k1 =>
    have H := HA.out; clear HA
    simp only [laws_eqPointS.l0] at H
    by_cases c4 : x5_1 < (l0.length : Int)
    ·
     rw [if_pos c4] at H; have c4b0 : decide (x5_1 < (l0.length : Int)) = true := zR c4; clear c4
     by_cases c5 : 0 ≤ x5_1
     ·
      rw [if_pos c5] at H; have c5b0 : decide (0 ≤ x5_1) = true := zR c5; clear c5
      by_cases c6 : x5_1 < (l1.length : Int)
      ·
       rw [if_pos c6] at H; have c6b0 : decide (x5_1 < (l1.length : Int)) = true := zR c6; clear c6
       obtain ⟨t251, A70, H⟩ := zW_ H
       replace H : (if t251 = true then (laws_eqPointS.l0 k1 l0 l1 (wrap64 (x5_1 + 1))) else (some false)) = some r := H
       have A7 := yD A70
       clear A70
       by_cases c8 : t251 = true
       ·
        subst c8
        have H1 : (laws_eqPointS.l0 k1 l0 l1 (wrap64 (x5_1 + 1))) = some r := by rw [if_pos rfl] at H; exact H
        clear H; have H := H1; clear H1
        have H' := yD H
        clear H
        try go_wp2
        have n0_ := yD (yP HB.out)
        clear HB; have HB := n0_; clear n0_
        have p249 : 0 ≤ (x5_1 : Int) := zP (by assumption)
        have q249 : x5_1 < (l0.length : Int) := zP (by assumption)
        obtain ⟨ad249, A249_0, c249_0, e249, hx249_0, hl249_0, hi249_0⟩ := at_T48 HR0.out x5_1 p249 q249
        have hw249_0 := hx249_0; cases e249
        replace hx249_0 := (HB.out.cell (zQ w _ hx249_0)).trans hx249_0
        have HR249_0 := yD hi249_0
        have HC249_0 := yD hl249_0
        clear hi249_0 hl249_0; replace p249 := eq_true p249; replace q249 := eq_true q249
        have p250 : 0 ≤ (x5_1 : Int) := zP (by assumption)
        have q250 : x5_1 < (l1.length : Int) := zP (by assumption)
        obtain ⟨ad250, A250_0, c250_0, e250, hx250_0, hl250_0, hi250_0⟩ := at_T48 HR1.out x5_1 p250 q250
        have hw250_0 := hx250_0; cases e250
        replace hx250_0 := (HB.out.cell (zQ w _ hx250_0)).trans hx250_0
        have HR250_0 := yD hi250_0
        have HC250_0 := yD hl250_0
        clear hi250_0 hl250_0; replace p250 := eq_true p250; replace q250 := eq_true q250
        refine start_ (n := 10) (S := fun w' => w'.cell? (ad249.add (x5_1).toNat) = some (.slice A249_0 ((rd_T48 l0 x5_1).f0).length c249_0) ∧ w'.cell? (ad250.add (x5_1).toNat) = some (.slice A250_0 ((rd_T48 l1 x5_1).f0).length c250_0)) (ds := []) Q_0 (by kernel_rfl) rfl rfl ⟨((HB.out.cell (zQ w _ hw249_0)).trans hw249_0), ((HB.out.cell (zQ w _ hw250_0)).trans hw250_0)⟩ (fun hHeld => ?_); refine with_tabW laws_eqPointS.tab6 laws_eqPointS.bits6 (fun HT_ HW_ => ?_)
        generalize wr.drew = w9 at HB HR249_0 HR250_0 hx249_0 hx250_0 hHeld ⊢
        refine pA 0 17 Q_1 rfl rfl (pD HT_ (by kernel_rfl)) (fun _ _ _ h => h) (by rfl) (fun _ => by go_simp; with_reducible rfl) (by simp only [Act.put, zH, zI, zJ, i64_w, i32_w]; rfl) ?_
        refine pA 1 18 Q_2 rfl rfl (pD HT_ (by kernel_rfl)) (fun _ _ _ h => h) (by rfl) (fun _ => by go_simp; with_reducible rfl) (by simp only [Act.put, zH, zI, zJ, i64_w, i32_w]; rfl) ?_
        refine pA 2 19 Q_3 rfl rfl (pD HT_ (by kernel_rfl)) (fun _ _ _ h => h) (by rfl) (fun _ => by go_simp; with_reducible rfl) (by simp only [Act.put, zH, zI, zJ, i64_w, i32_w]; rfl) ?_
        refine pA 4 21 Q_4 rfl rfl (pD HT_ (by kernel_rfl)) (fun _ _ _ h => h) (by rfl) (fun _ => by go_simp; with_reducible rfl) (by simp only [Act.put, zH, zI, zJ, i64_w, i32_w]; rfl) ?_
        refine pA 5 22 Q_5 rfl rfl (pD HT_ (by kernel_rfl)) (fun _ _ _ h => h) (by rfl) (fun _ => by go_simp; with_reducible rfl) (by simp only [Act.put, zH, zI, zJ, i64_w, i32_w]; rfl) ?_
        refine pA 6 23 Q_6 rfl rfl (pD HT_ (by kernel_rfl)) (fun _ _ _ h => h) (by rfl) (fun _ => by go_simp; with_reducible rfl) (by simp only [Act.put, zH, zI, zJ, i64_w, i32_w]; rfl) ?_
        refine pC 3 20 Q_7 rfl rfl (take_ofW HT_.out HW_.out (by kernel_rfl)) (fun _ _ _ h => h) (by rfl) hHeld (by rintro w' ⟨s0, s1⟩; go_simp; with_reducible rfl) (by simp only [Act.put, zH, zI, zJ, i64_w, i32_w]; rfl) ?_
        refine pC 7 24 Q_8 rfl rfl (take_ofW HT_.out HW_.out (by kernel_rfl)) (fun _ _ _ h => h) (by rfl) hHeld (by rintro w' ⟨s0, s1⟩; go_simp; with_reducible rfl) (by simp only [Act.put, zH, zI, zJ, i64_w, i32_w]; rfl) ?_
        refine one_ (i := 8) (N := some 25) Q_9 rfl rfl (one_of HT_.out (by kernel_rfl)) (by decide) (fun K hK => ?_)
        refine goes_ Try.func40 (by kernel_rfl) rfl #[.agg #[.slice A249_0 ((rd_T48 l0 x5_1).f0).length c249_0], .agg #[.slice A250_0 ((rd_T48 l1 x5_1).f0).length c250_0]] (by rfl) rfl rfl (by (try simp only [zK, zL, zM]); first | done | rfl | (simp only [zN, zO]; rfl)) ?_
        with_reducible refine (laws_eqPoint.calls k1 _ _ ((rd_T48 l0 x5_1).f0) _ _ ((rd_T48 l1 x5_1).f0) true _ ?side1 ?side2 ?side3 ?side4 A7.out).mono ?_
        (case side1 => exact yY HR249_0.out HB.out)
        (case side2 => exact HC249_0.out)
        (case side3 => exact yY HR250_0.out HB.out)
        (case side4 => exact HC250_0.out)
        rintro e w10 ⟨rfl, hb⟩
        refine ⟨_, rfl, ?_⟩
        have n0_ := yD (zC (by exact HB.out) hb)
        clear HB; have HB := n0_; clear n0_; (try clear hb); (try clear hb2); (try clear hk); (try clear hi)
        refine hK.out _ _ ⟨((HB.out.cell (zQ w _ hw249_0)).trans hw249_0), ((HB.out.cell (zQ w _ hw250_0)).trans hw250_0)⟩ (fun hHeld => ?_)
        clear hK K
        refine norm_ (by show Act.put _ (some 25) _ = _; simp only [Act.put, zH, zI, zJ, i64_w, i32_w]; rfl) ?_
        refine pA 9 26 Q_10 rfl rfl (pD HT_ (by kernel_rfl)) (fun _ _ _ h => h) (by rfl) (fun _ => by go_simp; with_reducible rfl) (by simp only [Act.put, zH, zI, zJ, i64_w, i32_w]; rfl) ?_
        refine done_ (done_of HT_.out (by kernel_rfl)) ?_
        try go_wp2
        go_roundg k1
        case measure => have := HK1.out; omega
        case rel => exact ⟨(wrap64 (x5_1 + 1)), (by first | rfl | (simp; done) | (simp [*]; done)), H', ⟨by have := HK1.out; omega⟩, ⟨by repeat (first | (with_reducible first | exact HB.out | apply yQ | apply yL | apply yP) | exact HB.out)⟩⟩
       ·
        replace c8 := Bool.eq_false_iff.mpr c8
        subst c8
        have H1 : (some false) = some r := by rw [if_neg (show ¬ (false = true) by decide)] at H; exact H
        clear H; have H := H1; clear H1; obtain rfl := Option.some.inj H
        try go_wp2
        have n0_ := yD (yP HB.out)
        clear HB; have HB := n0_; clear n0_
        have p249 : 0 ≤ (x5_1 : Int) := zP (by assumption)
        have q249 : x5_1 < (l0.length : Int) := zP (by assumption)
        obtain ⟨ad249, A249_0, c249_0, e249, hx249_0, hl249_0, hi249_0⟩ := at_T48 HR0.out x5_1 p249 q249
        have hw249_0 := hx249_0; cases e249
        replace hx249_0 := (HB.out.cell (zQ w _ hx249_0)).trans hx249_0
        have HR249_0 := yD hi249_0
        have HC249_0 := yD hl249_0
        clear hi249_0 hl249_0; replace p249 := eq_true p249; replace q249 := eq_true q249
        have p250 : 0 ≤ (x5_1 : Int) := zP (by assumption)
        have q250 : x5_1 < (l1.length : Int) := zP (by assumption)
        obtain ⟨ad250, A250_0, c250_0, e250, hx250_0, hl250_0, hi250_0⟩ := at_T48 HR1.out x5_1 p250 q250
        have hw250_0 := hx250_0; cases e250
        replace hx250_0 := (HB.out.cell (zQ w _ hx250_0)).trans hx250_0
        have HR250_0 := yD hi250_0
        have HC250_0 := yD hl250_0
        clear hi250_0 hl250_0; replace p250 := eq_true p250; replace q250 := eq_true q250
        refine start_ (n := 10) (S := fun w' => w'.cell? (ad249.add (x5_1).toNat) = some (.slice A249_0 ((rd_T48 l0 x5_1).f0).length c249_0) ∧ w'.cell? (ad250.add (x5_1).toNat) = some (.slice A250_0 ((rd_T48 l1 x5_1).f0).length c250_0)) (ds := []) Q_0 (by kernel_rfl) rfl rfl ⟨((HB.out.cell (zQ w _ hw249_0)).trans hw249_0), ((HB.out.cell (zQ w _ hw250_0)).trans hw250_0)⟩ (fun hHeld => ?_); refine with_tabW laws_eqPointS.tab6 laws_eqPointS.bits6 (fun HT_ HW_ => ?_)
        generalize wr.drew = w11 at HB HR249_0 HR250_0 hx249_0 hx250_0 hHeld ⊢
        refine pA 0 17 Q_1 rfl rfl (pD HT_ (by kernel_rfl)) (fun _ _ _ h => h) (by rfl) (fun _ => by go_simp; with_reducible rfl) (by simp only [Act.put, zH, zI, zJ, i64_w, i32_w]; rfl) ?_
        refine pA 1 18 Q_2 rfl rfl (pD HT_ (by kernel_rfl)) (fun _ _ _ h => h) (by rfl) (fun _ => by go_simp; with_reducible rfl) (by simp only [Act.put, zH, zI, zJ, i64_w, i32_w]; rfl) ?_
        refine pA 2 19 Q_3 rfl rfl (pD HT_ (by kernel_rfl)) (fun _ _ _ h => h) (by rfl) (fun _ => by go_simp; with_reducible rfl) (by simp only [Act.put, zH, zI, zJ, i64_w, i32_w]; rfl) ?_
        refine pA 4 21 Q_4 rfl rfl (pD HT_ (by kernel_rfl)) (fun _ _ _ h => h) (by rfl) (fun _ => by go_simp; with_reducible rfl) (by simp only [Act.put, zH, zI, zJ, i64_w, i32_w]; rfl) ?_
        refine pA 5 22 Q_5 rfl rfl (pD HT_ (by kernel_rfl)) (fun _ _ _ h => h) (by rfl) (fun _ => by go_simp; with_reducible rfl) (by simp only [Act.put, zH, zI, zJ, i64_w, i32_w]; rfl) ?_
        refine pA 6 23 Q_6 rfl rfl (pD HT_ (by kernel_rfl)) (fun _ _ _ h => h) (by rfl) (fun _ => by go_simp; with_reducible rfl) (by simp only [Act.put, zH, zI, zJ, i64_w, i32_w]; rfl) ?_
        refine pC 3 20 Q_7 rfl rfl (take_ofW HT_.out HW_.out (by kernel_rfl)) (fun _ _ _ h => h) (by rfl) hHeld (by rintro w' ⟨s0, s1⟩; go_simp; with_reducible rfl) (by simp only [Act.put, zH, zI, zJ, i64_w, i32_w]; rfl) ?_
        refine pC 7 24 Q_8 rfl rfl (take_ofW HT_.out HW_.out (by kernel_rfl)) (fun _ _ _ h => h) (by rfl) hHeld (by rintro w' ⟨s0, s1⟩; go_simp; with_reducible rfl) (by simp only [Act.put, zH, zI, zJ, i64_w, i32_w]; rfl) ?_
        refine one_ (i := 8) (N := some 25) Q_9 rfl rfl (one_of HT_.out (by kernel_rfl)) (by decide) (fun K hK => ?_)
        refine goes_ Try.func40 (by kernel_rfl) rfl #[.agg #[.slice A249_0 ((rd_T48 l0 x5_1).f0).length c249_0], .agg #[.slice A250_0 ((rd_T48 l1 x5_1).f0).length c250_0]] (by rfl) rfl rfl (by (try simp only [zK, zL, zM]); first | done | rfl | (simp only [zN, zO]; rfl)) ?_
        with_reducible refine (laws_eqPoint.calls k1 _ _ ((rd_T48 l0 x5_1).f0) _ _ ((rd_T48 l1 x5_1).f0) false _ ?side1 ?side2 ?side3 ?side4 A7.out).mono ?_
        (case side1 => exact yY HR249_0.out HB.out)
        (case side2 => exact HC249_0.out)
        (case side3 => exact yY HR250_0.out HB.out)
        (case side4 => exact HC250_0.out)
        rintro e w12 ⟨rfl, hb⟩
        refine ⟨_, rfl, ?_⟩
        have n0_ := yD (zC (by exact HB.out) hb)
        clear HB; have HB := n0_; clear n0_; (try clear hb); (try clear hb2); (try clear hk); (try clear hi)
        refine hK.out _ _ ⟨((HB.out.cell (zQ w _ hw249_0)).trans hw249_0), ((HB.out.cell (zQ w _ hw250_0)).trans hw250_0)⟩ (fun hHeld => ?_)
        clear hK K
        refine norm_ (by show Act.put _ (some 25) _ = _; simp only [Act.put, zH, zI, zJ, i64_w, i32_w]; rfl) ?_
        refine pA 9 26 Q_10 rfl rfl (pD HT_ (by kernel_rfl)) (fun _ _ _ h => h) (by rfl) (fun _ => by go_simp; with_reducible rfl) (by simp only [Act.put, zH, zI, zJ, i64_w, i32_w]; rfl) ?_
        refine done_ (done_of HT_.out (by kernel_rfl)) ?_
        try go_wp2
        go_ret
        exact ⟨by first | rfl | (simp <;> rfl) | (simp [*] <;> rfl), by repeat (first | (with_reducible first | exact HB.out | apply yQ | apply yL | apply yP) | exact HB.out)⟩
      ·
       rw [if_neg c6] at H
       exact absurd H (by simp)
     ·
      rw [if_neg c5] at H
      exact absurd H (by simp)
    ·
     rw [if_neg c4] at H; have c4b0 : decide (x5_1 < (l0.length : Int)) = false := zS c4; clear c4; obtain rfl := Option.some.inj H
     go_wp2
     go_ret
     exact ⟨by first | rfl | (simp <;> rfl) | (simp [*] <;> rfl), by repeat (first | (with_reducible first | exact HB.out | apply yQ | apply yL | apply yP) | exact HB.out)⟩
 ·
  rw [if_neg c3] at H
  have c3b0 : ((l0.length : Int) == (l1.length : Int)) = false := beq_eq_false_iff_ne.mpr c3
  have c3b1 : ((l0.length : Int) != (l1.length : Int)) = true := bne_iff_ne.mpr c3
  have c3b2 : (l0.length == l1.length) = false := by first | simpa using c3 | (simp at c3 ⊢; omega)
  obtain rfl := Option.some.inj H; go_enter Try.func21, Try.ntmps21
  go_wp2
  go_ret
  exact ⟨by first | rfl | (simp <;> rfl) | (simp [*] <;> rfl), by repeat (first | (with_reducible first | exact HB.out | apply yQ | apply yL | apply yP) | exact HB.out)⟩

/-! ### laws_eqSelection: function 9 -/
def laws_eqSelection.f (k : Nat) (a0_0 : Int) (l0_1 : List Int) (l0_2 : List Int) (l0_3 : List Int) (l0_4 : List Int) (l0_5 : List (S48)) (a1_0 : Int) (l1_1 : List Int) (l1_2 : List Int) (l1_3 : List Int) (l1_4 : List Int) (l1_5 : List (S48)) : Option (Bool) := if a0_0 = a1_0 then ((laws_eqInt64S.f k l0_1 l1_1).bind fun t254 => (if t254 = true then ((laws_eqInt64S.f k l0_2 l1_2).bind fun t255 => (if t255 = true then ((laws_eqInt64S.f k l0_3 l1_3).bind fun t256 => (if t256 = true then ((laws_eqInt64S.f k l0_4 l1_4).bind fun t257 => (if t257 = true then ((laws_eqPointS.f k l0_5 l1_5).bind fun t258 => (if t258 = true then (some true) else (some false))) else (some false))) else (some false))) else (some false))) else (some false))) else (some false)
theorem laws_eqSelection.mono : ∀ a0 a1 a2 a3 a4 a5 a6 a7 a8 a9 a10 a11 k, LeO (laws_eqSelection.f k a0 a1 a2 a3 a4 a5 a6 a7 a8 a9 a10 a11) (laws_eqSelection.f (k + 1) a0 a1 a2 a3 a4 a5 a6 a7 a8 a9 a10 a11) := by
 intro a0 a1 a2 a3 a4 a5 a6 a7 a8 a9 a10 a11 k
 unfold laws_eqSelection.f
 repeat' first
   | (with_reducible exact laws_eqInt64S.mono _ _ _)
   | (with_reducible exact laws_eqPointS.mono _ _ _)
   | (with_reducible exact LeO.refl _)
   | (with_reducible exact LeO.none _)
   | (with_reducible refine LeO.ite ?_ ?_)
   | (with_reducible refine LeO.bind ?_ (fun _ => ?_))
   | exact laws_eqInt64S.mono _ _ _
   | exact laws_eqPointS.mono _ _ _
   | exact LeO.none _
   | refine LeO.ite ?_ ?_
   | refine LeO.bind ?_ (fun _ => ?_)
set_option maxHeartbeats 8000000 in
set_option maxRecDepth 100000 in
theorem laws_eqSelection.calls (k : Nat) (a0_0 : Int) (A0_1 : Option Addr) (c0_1 : Nat) (l0_1 : List Int) (A0_2 : Option Addr) (c0_2 : Nat) (l0_2 : List Int) (A0_3 : Option Addr) (c0_3 : Nat) (l0_3 : List Int) (A0_4 : Option Addr) (c0_4 : Nat) (l0_4 : List Int) (A0_5 : Option Addr) (c0_5 : Nat) (l0_5 : List (S48)) (a1_0 : Int) (A1_1 : Option Addr) (c1_1 : Nat) (l1_1 : List Int) (A1_2 : Option Addr) (c1_2 : Nat) (l1_2 : List Int) (A1_3 : Option Addr) (c1_3 : Nat) (l1_3 : List Int) (A1_4 : Option Addr) (c1_4 : Nat) (l1_4 : List Int) (A1_5 : Option Addr) (c1_5 : Nat) (l1_5 : List (S48)) (r : Bool) (w : World) (hr0_1 : Kd.C (Kd.int .i64) w A0_1 l0_1.length l0_1) (hc0_1 : l0_1.length ≤ c0_1) (hr0_2 : Kd.C (Kd.int .i64) w A0_2 l0_2.length l0_2) (hc0_2 : l0_2.length ≤ c0_2) (hr0_3 : Kd.C (Kd.int .i64) w A0_3 l0_3.length l0_3) (hc0_3 : l0_3.length ≤ c0_3) (hr0_4 : Kd.C (Kd.int .i64) w A0_4 l0_4.length l0_4) (hc0_4 : l0_4.length ≤ c0_4) (hr0_5 : Kd.C k48 w A0_5 l0_5.length l0_5) (hc0_5 : l0_5.length ≤ c0_5) (hr1_1 : Kd.C (Kd.int .i64) w A1_1 l1_1.length l1_1) (hc1_1 : l1_1.length ≤ c1_1) (hr1_2 : Kd.C (Kd.int .i64) w A1_2 l1_2.length l1_2) (hc1_2 : l1_2.length ≤ c1_2) (hr1_3 : Kd.C (Kd.int .i64) w A1_3 l1_3.length l1_3) (hc1_3 : l1_3.length ≤ c1_3) (hr1_4 : Kd.C (Kd.int .i64) w A1_4 l1_4.length l1_4) (hc1_4 : l1_4.length ≤ c1_4) (hr1_5 : Kd.C k48 w A1_5 l1_5.length l1_5) (hc1_5 : l1_5.length ≤ c1_5) (h : laws_eqSelection.f k a0_0 l0_1 l0_2 l0_3 l0_4 l0_5 a1_0 l1_1 l1_2 l1_3 l1_4 l1_5 = some r) :
  Calls Try.prog 9 #[.agg #[.int .i64 a0_0, .slice A0_1 l0_1.length c0_1, .slice A0_2 l0_2.length c0_2, .slice A0_3 l0_3.length c0_3, .slice A0_4 l0_4.length c0_4, .slice A0_5 l0_5.length c0_5], .agg #[.int .i64 a1_0, .slice A1_1 l1_1.length c1_1, .slice A1_2 l1_2.length c1_2, .slice A1_3 l1_3.length c1_3, .slice A1_4 l1_4.length c1_4, .slice A1_5 l1_5.length c1_5]] w fun e w' => e = .returned (.bool r) ∧ Below w.heap.size w w' := by
 have hu30 := Try.underlying30
 have HR0_1 := yD hr0_1
 have HC0_1 := yD hc0_1
 clear hr0_1 hc0_1
 have HR0_2 := yD hr0_2
 have HC0_2 := yD hc0_2
 clear hr0_2 hc0_2
 have HR0_3 := yD hr0_3
 have HC0_3 := yD hc0_3
 clear hr0_3 hc0_3
 have HR0_4 := yD hr0_4
 have HC0_4 := yD hc0_4
 clear hr0_4 hc0_4
 have HR0_5 := yD hr0_5
 have HC0_5 := yD hc0_5
 clear hr0_5 hc0_5
 have HR1_1 := yD hr1_1
 have HC1_1 := yD hc1_1
 clear hr1_1 hc1_1
 have HR1_2 := yD hr1_2
 have HC1_2 := yD hc1_2
 clear hr1_2 hc1_2
 have HR1_3 := yD hr1_3
 have HC1_3 := yD hc1_3
 clear hr1_3 hc1_3
 have HR1_4 := yD hr1_4
 have HC1_4 := yD hc1_4
 clear hr1_4 hc1_4
 have HR1_5 := yD hr1_5
 have HC1_5 := yD hc1_5
 clear hr1_5 hc1_5
 have HB := yD (Below.refl w.heap.size w)
 have H : (if a0_0 = a1_0 then ((laws_eqInt64S.f k l0_1 l1_1).bind fun t254 => (if t254 = true then ((laws_eqInt64S.f k l0_2 l1_2).bind fun t255 => (if t255 = true then ((laws_eqInt64S.f k l0_3 l1_3).bind fun t256 => (if t256 = true then ((laws_eqInt64S.f k l0_4 l1_4).bind fun t257 => (if t257 = true then ((laws_eqPointS.f k l0_5 l1_5).bind fun t258 => (if t258 = true then (some true) else (some false))) else (some false))) else (some false))) else (some false))) else (some false))) else (some false)) = some r := h
 clear h
 by_cases c3 : a0_0 = a1_0
 ·
  rw [if_pos c3] at H
  have c3b0 : (a0_0 == a1_0) = true := beq_iff_eq.mpr c3
  have c3b1 : (a0_0 != a1_0) = false := bne_eq_false_iff_eq.mpr c3
  clear c3
  obtain ⟨t254, A40, H⟩ := zW_ H
  replace H : (if t254 = true then ((laws_eqInt64S.f k l0_2 l1_2).bind fun t255 => (if t255 = true then ((laws_eqInt64S.f k l0_3 l1_3).bind fun t256 => (if t256 = true then ((laws_eqInt64S.f k l0_4 l1_4).bind fun t257 => (if t257 = true then ((laws_eqPointS.f k l0_5 l1_5).bind fun t258 => (if t258 = true then (some true) else (some false))) else (some false))) else (some false))) else (some false))) else (some false)) = some r := H
  have A4 := yD A40
  clear A40
  by_cases c5 : t254 = true
  ·
   subst c5
   have H1 : ((laws_eqInt64S.f k l0_2 l1_2).bind fun t255 => (if t255 = true then ((laws_eqInt64S.f k l0_3 l1_3).bind fun t256 => (if t256 = true then ((laws_eqInt64S.f k l0_4 l1_4).bind fun t257 => (if t257 = true then ((laws_eqPointS.f k l0_5 l1_5).bind fun t258 => (if t258 = true then (some true) else (some false))) else (some false))) else (some false))) else (some false))) = some r := by rw [if_pos rfl] at H; exact H
   clear H; have H := H1; clear H1
   obtain ⟨t255, A60, H⟩ := zW_ H
   replace H : (if t255 = true then ((laws_eqInt64S.f k l0_3 l1_3).bind fun t256 => (if t256 = true then ((laws_eqInt64S.f k l0_4 l1_4).bind fun t257 => (if t257 = true then ((laws_eqPointS.f k l0_5 l1_5).bind fun t258 => (if t258 = true then (some true) else (some false))) else (some false))) else (some false))) else (some false)) = some r := H
   have A6 := yD A60
   clear A60
   by_cases c7 : t255 = true
   ·
    subst c7
    have H1 : ((laws_eqInt64S.f k l0_3 l1_3).bind fun t256 => (if t256 = true then ((laws_eqInt64S.f k l0_4 l1_4).bind fun t257 => (if t257 = true then ((laws_eqPointS.f k l0_5 l1_5).bind fun t258 => (if t258 = true then (some true) else (some false))) else (some false))) else (some false))) = some r := by rw [if_pos rfl] at H; exact H
    clear H; have H := H1; clear H1
    obtain ⟨t256, A80, H⟩ := zW_ H
    replace H : (if t256 = true then ((laws_eqInt64S.f k l0_4 l1_4).bind fun t257 => (if t257 = true then ((laws_eqPointS.f k l0_5 l1_5).bind fun t258 => (if t258 = true then (some true) else (some false))) else (some false))) else (some false)) = some r := H
    have A8 := yD A80
    clear A80
    by_cases c9 : t256 = true
    ·
     subst c9
     have H1 : ((laws_eqInt64S.f k l0_4 l1_4).bind fun t257 => (if t257 = true then ((laws_eqPointS.f k l0_5 l1_5).bind fun t258 => (if t258 = true then (some true) else (some false))) else (some false))) = some r := by rw [if_pos rfl] at H; exact H
     clear H; have H := H1; clear H1
     obtain ⟨t257, A100, H⟩ := zW_ H
     replace H : (if t257 = true then ((laws_eqPointS.f k l0_5 l1_5).bind fun t258 => (if t258 = true then (some true) else (some false))) else (some false)) = some r := H
     have A10 := yD A100
     clear A100
     by_cases c11 : t257 = true
     ·
      subst c11
      have H1 : ((laws_eqPointS.f k l0_5 l1_5).bind fun t258 => (if t258 = true then (some true) else (some false))) = some r := by rw [if_pos rfl] at H; exact H
      clear H; have H := H1; clear H1
      obtain ⟨t258, A120, H⟩ := zW_ H
      replace H : (if t258 = true then (some true) else (some false)) = some r := H
      have A12 := yD A120
      clear A120
      by_cases c13 : t258 = true
      ·
       subst c13
       have H1 : (some true) = some r := by rw [if_pos rfl] at H; exact H
       clear H; have H := H1; clear H1; obtain rfl := Option.some.inj H; go_enter Try.func9, Try.ntmps9
       go_wp2_with (first | ((with_reducible refine gate_dst (N := 2) rfl ?_); refine box_event ?hg (N := 2) ?hd (cs := #[.int .i64 a0_0, .slice A0_1 l0_1.length c0_1, .slice A0_2 l0_2.length c0_2, .slice A0_3 l0_3.length c0_3, .slice A0_4 l0_4.length c0_4, .slice A0_5 l0_5.length c0_5]) (t := 30) ?hr ?_; (case hd => rfl); (case hg => rfl); (case hr => first | (go_simp; done) | (go_simp; rfl)); intro gb252 hg w14 hbox hb; have n0_ := yD (zC (by exact HB.out) hb); have n1_ := yD (hbox); have n2_ := yD ((by rw [hg]; exact (below_size (by exact HB.out)) : w.heap.size ≤ gb252)); have n3_ := yD ((by rw [hg]; exact (below_size (by exact HB.out)) : w.heap.size ≤ gb252)); clear HB; have HB := n0_; have BK252 := n1_; have GW252 := n2_; have GE252 := n3_; clear n0_ n1_ n2_ n3_; clear hb hbox hg) | ((with_reducible refine gate_dst (N := 3) rfl ?_); refine box_event ?hg (N := 3) ?hd (cs := #[.int .i64 a1_0, .slice A1_1 l1_1.length c1_1, .slice A1_2 l1_2.length c1_2, .slice A1_3 l1_3.length c1_3, .slice A1_4 l1_4.length c1_4, .slice A1_5 l1_5.length c1_5]) (t := 30) ?hr ?_; (case hd => rfl); (case hg => rfl); (case hr => first | (go_simp; done) | (go_simp; rfl)); intro gb253 hg w15 hbox hb; have n0_ := yD (zB (g := gb252) (o := .cells #[.int .i64 a0_0, .slice A0_1 l0_1.length c0_1, .slice A0_2 l0_2.length c0_2, .slice A0_3 l0_3.length c0_3, .slice A0_4 l0_4.length c0_4, .slice A0_5 l0_5.length c0_5] 30 (0, 0)) (by exact BK252.out) hb); have n1_ := yD (zC (by exact HB.out) hb); have n2_ := yD (hbox); have n3_ := yD ((by rw [hg]; exact (below_size (by exact HB.out)) : w.heap.size ≤ gb253)); have n4_ := yD ((by rw [hg]; exact (below_size (by exact HB.out)) : w.heap.size ≤ gb253)); have n5_ := yD ((by rw [hg]; exact Nat.ne_of_lt (blk_lt (g := gb252) (o := .cells #[.int .i64 a0_0, .slice A0_1 l0_1.length c0_1, .slice A0_2 l0_2.length c0_2, .slice A0_3 l0_3.length c0_3, .slice A0_4 l0_4.length c0_4, .slice A0_5 l0_5.length c0_5] 30 (0, 0)) (by exact BK252.out)) : gb252 ≠ gb253)); have n6_ := yD ((by rw [hg]; exact Nat.ne_of_gt (blk_lt (g := gb252) (o := .cells #[.int .i64 a0_0, .slice A0_1 l0_1.length c0_1, .slice A0_2 l0_2.length c0_2, .slice A0_3 l0_3.length c0_3, .slice A0_4 l0_4.length c0_4, .slice A0_5 l0_5.length c0_5] 30 (0, 0)) (by exact BK252.out)) : gb253 ≠ gb252)); clear BK252; clear HB; have BK252 := n0_; have HB := n1_; have BK253 := n2_; have GW253 := n3_; have GE253 := n4_; have NB252_253 := n5_; have NB253_252 := n6_; clear n0_ n1_ n2_ n3_ n4_ n5_ n6_; clear hb hbox hg; have hnb16 := NB252_253.out; have hnc16 := NB253_252.out; have hcz17_0 : w15.cell? ⟨gb252, 0, none⟩ = some (.int .i64 a0_0) := (yG BK252.out 0).trans rfl; have hcz17_1 : w15.cell? ⟨gb252, 1, none⟩ = some (.slice A0_1 l0_1.length c0_1) := (yG BK252.out 1).trans rfl; have hcz17_2 : w15.cell? ⟨gb252, 2, none⟩ = some (.slice A0_2 l0_2.length c0_2) := (yG BK252.out 2).trans rfl; have hcz17_3 : w15.cell? ⟨gb252, 3, none⟩ = some (.slice A0_3 l0_3.length c0_3) := (yG BK252.out 3).trans rfl; have hcz17_4 : w15.cell? ⟨gb252, 4, none⟩ = some (.slice A0_4 l0_4.length c0_4) := (yG BK252.out 4).trans rfl; have hcz17_5 : w15.cell? ⟨gb252, 5, none⟩ = some (.slice A0_5 l0_5.length c0_5) := (yG BK252.out 5).trans rfl; have hfz17_0 := yR BK252.out 0; have hfz17_1 := yR BK252.out 1; have hfz17_2 := yR BK252.out 2; have hfz17_3 := yR BK252.out 3; have hfz17_4 := yR BK252.out 4; have hfz17_5 := yR BK252.out 5; have hcz18_0 : w15.cell? ⟨gb253, 0, none⟩ = some (.int .i64 a1_0) := (yG BK253.out 0).trans rfl; have hcz18_1 : w15.cell? ⟨gb253, 1, none⟩ = some (.slice A1_1 l1_1.length c1_1) := (yG BK253.out 1).trans rfl; have hcz18_2 : w15.cell? ⟨gb253, 2, none⟩ = some (.slice A1_2 l1_2.length c1_2) := (yG BK253.out 2).trans rfl; have hcz18_3 : w15.cell? ⟨gb253, 3, none⟩ = some (.slice A1_3 l1_3.length c1_3) := (yG BK253.out 3).trans rfl; have hcz18_4 : w15.cell? ⟨gb253, 4, none⟩ = some (.slice A1_4 l1_4.length c1_4) := (yG BK253.out 4).trans rfl; have hcz18_5 : w15.cell? ⟨gb253, 5, none⟩ = some (.slice A1_5 l1_5.length c1_5) := (yG BK253.out 5).trans rfl; have hfz18_0 := yR BK253.out 0; have hfz18_1 := yR BK253.out 1; have hfz18_2 := yR BK253.out 2; have hfz18_3 := yR BK253.out 3; have hfz18_4 := yR BK253.out 4; have hfz18_5 := yR BK253.out 5) | ((with_reducible refine gate_callee (f := 13) rfl ?_); refine goesL_ (some 14) rfl rfl Try.func13 (by kernel_rfl) rfl #[.slice A0_1 l0_1.length c0_1, .slice A1_1 l1_1.length c1_1] rfl (by (try simp only [zK, zL, zM]); first | done | rfl | (simp only [zN, zO]; rfl)) ?_; (with_reducible refine (laws_eqInt64S.calls k _ _ l0_1 _ _ l1_1 true _ ?side1 ?side2 ?side3 ?side4 A4.out).mono ?_); (case side1 => exact yY HR0_1.out HB.out); (case side2 => exact HC0_1.out); (case side3 => exact yY HR1_1.out HB.out); (case side4 => exact HC1_1.out); rintro e w' ⟨rfl, ⟨nd, rfl⟩⟩; refine ⟨_, rfl, ?_⟩) | ((with_reducible refine gate_callee (f := 13) rfl ?_); refine goesL_ (some 20) rfl rfl Try.func13 (by kernel_rfl) rfl #[.slice A0_2 l0_2.length c0_2, .slice A1_2 l1_2.length c1_2] rfl (by (try simp only [zK, zL, zM]); first | done | rfl | (simp only [zN, zO]; rfl)) ?_; (with_reducible refine (laws_eqInt64S.calls k _ _ l0_2 _ _ l1_2 true _ ?side1 ?side2 ?side3 ?side4 A6.out).mono ?_); (case side1 => exact yY HR0_2.out (by apply yL; exact HB.out)); (case side2 => exact HC0_2.out); (case side3 => exact yY HR1_2.out (by apply yL; exact HB.out)); (case side4 => exact HC1_2.out); rintro e w' ⟨rfl, ⟨nd, rfl⟩⟩; refine ⟨_, rfl, ?_⟩) | ((with_reducible refine gate_callee (f := 13) rfl ?_); refine goesL_ (some 26) rfl rfl Try.func13 (by kernel_rfl) rfl #[.slice A0_3 l0_3.length c0_3, .slice A1_3 l1_3.length c1_3] rfl (by (try simp only [zK, zL, zM]); first | done | rfl | (simp only [zN, zO]; rfl)) ?_; (with_reducible refine (laws_eqInt64S.calls k _ _ l0_3 _ _ l1_3 true _ ?side1 ?side2 ?side3 ?side4 A8.out).mono ?_); (case side1 => exact yY HR0_3.out (by apply yL; exact HB.out)); (case side2 => exact HC0_3.out); (case side3 => exact yY HR1_3.out (by apply yL; exact HB.out)); (case side4 => exact HC1_3.out); rintro e w' ⟨rfl, ⟨nd, rfl⟩⟩; refine ⟨_, rfl, ?_⟩) | ((with_reducible refine gate_callee (f := 13) rfl ?_); refine goesL_ (some 32) rfl rfl Try.func13 (by kernel_rfl) rfl #[.slice A0_4 l0_4.length c0_4, .slice A1_4 l1_4.length c1_4] rfl (by (try simp only [zK, zL, zM]); first | done | rfl | (simp only [zN, zO]; rfl)) ?_; (with_reducible refine (laws_eqInt64S.calls k _ _ l0_4 _ _ l1_4 true _ ?side1 ?side2 ?side3 ?side4 A10.out).mono ?_); (case side1 => exact yY HR0_4.out (by apply yL; exact HB.out)); (case side2 => exact HC0_4.out); (case side3 => exact yY HR1_4.out (by apply yL; exact HB.out)); (case side4 => exact HC1_4.out); rintro e w' ⟨rfl, ⟨nd, rfl⟩⟩; refine ⟨_, rfl, ?_⟩) | ((with_reducible refine gate_callee (f := 21) rfl ?_); refine goesL_ (some 38) rfl rfl Try.func21 (by kernel_rfl) rfl #[.slice A0_5 l0_5.length c0_5, .slice A1_5 l1_5.length c1_5] rfl (by (try simp only [zK, zL, zM]); first | done | rfl | (simp only [zN, zO]; rfl)) ?_; (with_reducible refine (laws_eqPointS.calls k _ _ l0_5 _ _ l1_5 true _ ?side1 ?side2 ?side3 ?side4 A12.out).mono ?_); (case side1 => exact yY HR0_5.out (by apply yL; exact HB.out)); (case side2 => exact HC0_5.out); (case side3 => exact yY HR1_5.out (by apply yL; exact HB.out)); (case side4 => exact HC1_5.out); rintro e w19 ⟨rfl, hb⟩; refine ⟨_, rfl, ?_⟩; have n0_ := yD (zB (g := gb252) (o := .cells #[.int .i64 a0_0, .slice A0_1 l0_1.length c0_1, .slice A0_2 l0_2.length c0_2, .slice A0_3 l0_3.length c0_3, .slice A0_4 l0_4.length c0_4, .slice A0_5 l0_5.length c0_5] 30 (0, 0)) (by refine yM ?_ _; exact BK252.out) hb); have n1_ := yD (zB (g := gb253) (o := .cells #[.int .i64 a1_0, .slice A1_1 l1_1.length c1_1, .slice A1_2 l1_2.length c1_2, .slice A1_3 l1_3.length c1_3, .slice A1_4 l1_4.length c1_4, .slice A1_5 l1_5.length c1_5] 30 (0, 0)) (by refine yM ?_ _; exact BK253.out) hb); have n2_ := yD (zC (by apply yL; exact HB.out) hb); clear BK252; clear BK253; clear HB; have BK252 := n0_; have BK253 := n1_; have HB := n2_; clear n0_ n1_ n2_; (try clear hb); (try clear hb2); (try clear hk); (try clear hi)))
       go_ret
       exact ⟨by first | rfl | (simp <;> rfl) | (simp [*] <;> rfl), by repeat (first | (with_reducible first | exact HB.out | apply yQ | apply yL | apply yP | refine yE ?_ GE252.out | refine yE ?_ GE253.out) | exact HB.out)⟩
      ·
       replace c13 := Bool.eq_false_iff.mpr c13
       subst c13
       have H1 : (some false) = some r := by rw [if_neg (show ¬ (false = true) by decide)] at H; exact H
       clear H; have H := H1; clear H1; obtain rfl := Option.some.inj H; go_enter Try.func9, Try.ntmps9
       go_wp2_with (first | ((with_reducible refine gate_dst (N := 2) rfl ?_); refine box_event ?hg (N := 2) ?hd (cs := #[.int .i64 a0_0, .slice A0_1 l0_1.length c0_1, .slice A0_2 l0_2.length c0_2, .slice A0_3 l0_3.length c0_3, .slice A0_4 l0_4.length c0_4, .slice A0_5 l0_5.length c0_5]) (t := 30) ?hr ?_; (case hd => rfl); (case hg => rfl); (case hr => first | (go_simp; done) | (go_simp; rfl)); intro gb252 hg w20 hbox hb; have n0_ := yD (zC (by exact HB.out) hb); have n1_ := yD (hbox); have n2_ := yD ((by rw [hg]; exact (below_size (by exact HB.out)) : w.heap.size ≤ gb252)); have n3_ := yD ((by rw [hg]; exact (below_size (by exact HB.out)) : w.heap.size ≤ gb252)); clear HB; have HB := n0_; have BK252 := n1_; have GW252 := n2_; have GE252 := n3_; clear n0_ n1_ n2_ n3_; clear hb hbox hg) | ((with_reducible refine gate_dst (N := 3) rfl ?_); refine box_event ?hg (N := 3) ?hd (cs := #[.int .i64 a1_0, .slice A1_1 l1_1.length c1_1, .slice A1_2 l1_2.length c1_2, .slice A1_3 l1_3.length c1_3, .slice A1_4 l1_4.length c1_4, .slice A1_5 l1_5.length c1_5]) (t := 30) ?hr ?_; (case hd => rfl); (case hg => rfl); (case hr => first | (go_simp; done) | (go_simp; rfl)); intro gb253 hg w21 hbox hb; have n0_ := yD (zB (g := gb252) (o := .cells #[.int .i64 a0_0, .slice A0_1 l0_1.length c0_1, .slice A0_2 l0_2.length c0_2, .slice A0_3 l0_3.length c0_3, .slice A0_4 l0_4.length c0_4, .slice A0_5 l0_5.length c0_5] 30 (0, 0)) (by exact BK252.out) hb); have n1_ := yD (zC (by exact HB.out) hb); have n2_ := yD (hbox); have n3_ := yD ((by rw [hg]; exact (below_size (by exact HB.out)) : w.heap.size ≤ gb253)); have n4_ := yD ((by rw [hg]; exact (below_size (by exact HB.out)) : w.heap.size ≤ gb253)); have n5_ := yD ((by rw [hg]; exact Nat.ne_of_lt (blk_lt (g := gb252) (o := .cells #[.int .i64 a0_0, .slice A0_1 l0_1.length c0_1, .slice A0_2 l0_2.length c0_2, .slice A0_3 l0_3.length c0_3, .slice A0_4 l0_4.length c0_4, .slice A0_5 l0_5.length c0_5] 30 (0, 0)) (by exact BK252.out)) : gb252 ≠ gb253)); have n6_ := yD ((by rw [hg]; exact Nat.ne_of_gt (blk_lt (g := gb252) (o := .cells #[.int .i64 a0_0, .slice A0_1 l0_1.length c0_1, .slice A0_2 l0_2.length c0_2, .slice A0_3 l0_3.length c0_3, .slice A0_4 l0_4.length c0_4, .slice A0_5 l0_5.length c0_5] 30 (0, 0)) (by exact BK252.out)) : gb253 ≠ gb252)); clear BK252; clear HB; have BK252 := n0_; have HB := n1_; have BK253 := n2_; have GW253 := n3_; have GE253 := n4_; have NB252_253 := n5_; have NB253_252 := n6_; clear n0_ n1_ n2_ n3_ n4_ n5_ n6_; clear hb hbox hg; have hnb22 := NB252_253.out; have hnc22 := NB253_252.out; have hcz23_0 : w21.cell? ⟨gb252, 0, none⟩ = some (.int .i64 a0_0) := (yG BK252.out 0).trans rfl; have hcz23_1 : w21.cell? ⟨gb252, 1, none⟩ = some (.slice A0_1 l0_1.length c0_1) := (yG BK252.out 1).trans rfl; have hcz23_2 : w21.cell? ⟨gb252, 2, none⟩ = some (.slice A0_2 l0_2.length c0_2) := (yG BK252.out 2).trans rfl; have hcz23_3 : w21.cell? ⟨gb252, 3, none⟩ = some (.slice A0_3 l0_3.length c0_3) := (yG BK252.out 3).trans rfl; have hcz23_4 : w21.cell? ⟨gb252, 4, none⟩ = some (.slice A0_4 l0_4.length c0_4) := (yG BK252.out 4).trans rfl; have hcz23_5 : w21.cell? ⟨gb252, 5, none⟩ = some (.slice A0_5 l0_5.length c0_5) := (yG BK252.out 5).trans rfl; have hfz23_0 := yR BK252.out 0; have hfz23_1 := yR BK252.out 1; have hfz23_2 := yR BK252.out 2; have hfz23_3 := yR BK252.out 3; have hfz23_4 := yR BK252.out 4; have hfz23_5 := yR BK252.out 5; have hcz24_0 : w21.cell? ⟨gb253, 0, none⟩ = some (.int .i64 a1_0) := (yG BK253.out 0).trans rfl; have hcz24_1 : w21.cell? ⟨gb253, 1, none⟩ = some (.slice A1_1 l1_1.length c1_1) := (yG BK253.out 1).trans rfl; have hcz24_2 : w21.cell? ⟨gb253, 2, none⟩ = some (.slice A1_2 l1_2.length c1_2) := (yG BK253.out 2).trans rfl; have hcz24_3 : w21.cell? ⟨gb253, 3, none⟩ = some (.slice A1_3 l1_3.length c1_3) := (yG BK253.out 3).trans rfl; have hcz24_4 : w21.cell? ⟨gb253, 4, none⟩ = some (.slice A1_4 l1_4.length c1_4) := (yG BK253.out 4).trans rfl; have hcz24_5 : w21.cell? ⟨gb253, 5, none⟩ = some (.slice A1_5 l1_5.length c1_5) := (yG BK253.out 5).trans rfl; have hfz24_0 := yR BK253.out 0; have hfz24_1 := yR BK253.out 1; have hfz24_2 := yR BK253.out 2; have hfz24_3 := yR BK253.out 3; have hfz24_4 := yR BK253.out 4; have hfz24_5 := yR BK253.out 5) | ((with_reducible refine gate_callee (f := 13) rfl ?_); refine goesL_ (some 14) rfl rfl Try.func13 (by kernel_rfl) rfl #[.slice A0_1 l0_1.length c0_1, .slice A1_1 l1_1.length c1_1] rfl (by (try simp only [zK, zL, zM]); first | done | rfl | (simp only [zN, zO]; rfl)) ?_; (with_reducible refine (laws_eqInt64S.calls k _ _ l0_1 _ _ l1_1 true _ ?side1 ?side2 ?side3 ?side4 A4.out).mono ?_); (case side1 => exact yY HR0_1.out HB.out); (case side2 => exact HC0_1.out); (case side3 => exact yY HR1_1.out HB.out); (case side4 => exact HC1_1.out); rintro e w' ⟨rfl, ⟨nd, rfl⟩⟩; refine ⟨_, rfl, ?_⟩) | ((with_reducible refine gate_callee (f := 13) rfl ?_); refine goesL_ (some 20) rfl rfl Try.func13 (by kernel_rfl) rfl #[.slice A0_2 l0_2.length c0_2, .slice A1_2 l1_2.length c1_2] rfl (by (try simp only [zK, zL, zM]); first | done | rfl | (simp only [zN, zO]; rfl)) ?_; (with_reducible refine (laws_eqInt64S.calls k _ _ l0_2 _ _ l1_2 true _ ?side1 ?side2 ?side3 ?side4 A6.out).mono ?_); (case side1 => exact yY HR0_2.out (by apply yL; exact HB.out)); (case side2 => exact HC0_2.out); (case side3 => exact yY HR1_2.out (by apply yL; exact HB.out)); (case side4 => exact HC1_2.out); rintro e w' ⟨rfl, ⟨nd, rfl⟩⟩; refine ⟨_, rfl, ?_⟩) | ((with_reducible refine gate_callee (f := 13) rfl ?_); refine goesL_ (some 26) rfl rfl Try.func13 (by kernel_rfl) rfl #[.slice A0_3 l0_3.length c0_3, .slice A1_3 l1_3.length c1_3] rfl (by (try simp only [zK, zL, zM]); first | done | rfl | (simp only [zN, zO]; rfl)) ?_; (with_reducible refine (laws_eqInt64S.calls k _ _ l0_3 _ _ l1_3 true _ ?side1 ?side2 ?side3 ?side4 A8.out).mono ?_); (case side1 => exact yY HR0_3.out (by apply yL; exact HB.out)); (case side2 => exact HC0_3.out); (case side3 => exact yY HR1_3.out (by apply yL; exact HB.out)); (case side4 => exact HC1_3.out); rintro e w' ⟨rfl, ⟨nd, rfl⟩⟩; refine ⟨_, rfl, ?_⟩) | ((with_reducible refine gate_callee (f := 13) rfl ?_); refine goesL_ (some 32) rfl rfl Try.func13 (by kernel_rfl) rfl #[.slice A0_4 l0_4.length c0_4, .slice A1_4 l1_4.length c1_4] rfl (by (try simp only [zK, zL, zM]); first | done | rfl | (simp only [zN, zO]; rfl)) ?_; (with_reducible refine (laws_eqInt64S.calls k _ _ l0_4 _ _ l1_4 true _ ?side1 ?side2 ?side3 ?side4 A10.out).mono ?_); (case side1 => exact yY HR0_4.out (by apply yL; exact HB.out)); (case side2 => exact HC0_4.out); (case side3 => exact yY HR1_4.out (by apply yL; exact HB.out)); (case side4 => exact HC1_4.out); rintro e w' ⟨rfl, ⟨nd, rfl⟩⟩; refine ⟨_, rfl, ?_⟩) | ((with_reducible refine gate_callee (f := 21) rfl ?_); refine goesL_ (some 38) rfl rfl Try.func21 (by kernel_rfl) rfl #[.slice A0_5 l0_5.length c0_5, .slice A1_5 l1_5.length c1_5] rfl (by (try simp only [zK, zL, zM]); first | done | rfl | (simp only [zN, zO]; rfl)) ?_; (with_reducible refine (laws_eqPointS.calls k _ _ l0_5 _ _ l1_5 false _ ?side1 ?side2 ?side3 ?side4 A12.out).mono ?_); (case side1 => exact yY HR0_5.out (by apply yL; exact HB.out)); (case side2 => exact HC0_5.out); (case side3 => exact yY HR1_5.out (by apply yL; exact HB.out)); (case side4 => exact HC1_5.out); rintro e w25 ⟨rfl, hb⟩; refine ⟨_, rfl, ?_⟩; have n0_ := yD (zB (g := gb252) (o := .cells #[.int .i64 a0_0, .slice A0_1 l0_1.length c0_1, .slice A0_2 l0_2.length c0_2, .slice A0_3 l0_3.length c0_3, .slice A0_4 l0_4.length c0_4, .slice A0_5 l0_5.length c0_5] 30 (0, 0)) (by refine yM ?_ _; exact BK252.out) hb); have n1_ := yD (zB (g := gb253) (o := .cells #[.int .i64 a1_0, .slice A1_1 l1_1.length c1_1, .slice A1_2 l1_2.length c1_2, .slice A1_3 l1_3.length c1_3, .slice A1_4 l1_4.length c1_4, .slice A1_5 l1_5.length c1_5] 30 (0, 0)) (by refine yM ?_ _; exact BK253.out) hb); have n2_ := yD (zC (by apply yL; exact HB.out) hb); clear BK252; clear BK253; clear HB; have BK252 := n0_; have BK253 := n1_; have HB := n2_; clear n0_ n1_ n2_; (try clear hb); (try clear hb2); (try clear hk); (try clear hi)))
       go_ret
       exact ⟨by first | rfl | (simp <;> rfl) | (simp [*] <;> rfl), by repeat (first | (with_reducible first | exact HB.out | apply yQ | apply yL | apply yP | refine yE ?_ GE252.out | refine yE ?_ GE253.out) | exact HB.out)⟩
     ·
      replace c11 := Bool.eq_false_iff.mpr c11
      subst c11
      have H1 : (some false) = some r := by rw [if_neg (show ¬ (false = true) by decide)] at H; exact H
      clear H; have H := H1; clear H1; obtain rfl := Option.some.inj H; go_enter Try.func9, Try.ntmps9
      go_wp2_with (first | ((with_reducible refine gate_dst (N := 2) rfl ?_); refine box_event ?hg (N := 2) ?hd (cs := #[.int .i64 a0_0, .slice A0_1 l0_1.length c0_1, .slice A0_2 l0_2.length c0_2, .slice A0_3 l0_3.length c0_3, .slice A0_4 l0_4.length c0_4, .slice A0_5 l0_5.length c0_5]) (t := 30) ?hr ?_; (case hd => rfl); (case hg => rfl); (case hr => first | (go_simp; done) | (go_simp; rfl)); intro gb252 hg w26 hbox hb; have n0_ := yD (zC (by exact HB.out) hb); have n1_ := yD (hbox); have n2_ := yD ((by rw [hg]; exact (below_size (by exact HB.out)) : w.heap.size ≤ gb252)); have n3_ := yD ((by rw [hg]; exact (below_size (by exact HB.out)) : w.heap.size ≤ gb252)); clear HB; have HB := n0_; have BK252 := n1_; have GW252 := n2_; have GE252 := n3_; clear n0_ n1_ n2_ n3_; clear hb hbox hg) | ((with_reducible refine gate_dst (N := 3) rfl ?_); refine box_event ?hg (N := 3) ?hd (cs := #[.int .i64 a1_0, .slice A1_1 l1_1.length c1_1, .slice A1_2 l1_2.length c1_2, .slice A1_3 l1_3.length c1_3, .slice A1_4 l1_4.length c1_4, .slice A1_5 l1_5.length c1_5]) (t := 30) ?hr ?_; (case hd => rfl); (case hg => rfl); (case hr => first | (go_simp; done) | (go_simp; rfl)); intro gb253 hg w27 hbox hb; have n0_ := yD (zB (g := gb252) (o := .cells #[.int .i64 a0_0, .slice A0_1 l0_1.length c0_1, .slice A0_2 l0_2.length c0_2, .slice A0_3 l0_3.length c0_3, .slice A0_4 l0_4.length c0_4, .slice A0_5 l0_5.length c0_5] 30 (0, 0)) (by exact BK252.out) hb); have n1_ := yD (zC (by exact HB.out) hb); have n2_ := yD (hbox); have n3_ := yD ((by rw [hg]; exact (below_size (by exact HB.out)) : w.heap.size ≤ gb253)); have n4_ := yD ((by rw [hg]; exact (below_size (by exact HB.out)) : w.heap.size ≤ gb253)); have n5_ := yD ((by rw [hg]; exact Nat.ne_of_lt (blk_lt (g := gb252) (o := .cells #[.int .i64 a0_0, .slice A0_1 l0_1.length c0_1, .slice A0_2 l0_2.length c0_2, .slice A0_3 l0_3.length c0_3, .slice A0_4 l0_4.length c0_4, .slice A0_5 l0_5.length c0_5] 30 (0, 0)) (by exact BK252.out)) : gb252 ≠ gb253)); have n6_ := yD ((by rw [hg]; exact Nat.ne_of_gt (blk_lt (g := gb252) (o := .cells #[.int .i64 a0_0, .slice A0_1 l0_1.length c0_1, .slice A0_2 l0_2.length c0_2, .slice A0_3 l0_3.length c0_3, .slice A0_4 l0_4.length c0_4, .slice A0_5 l0_5.length c0_5] 30 (0, 0)) (by exact BK252.out)) : gb253 ≠ gb252)); clear BK252; clear HB; have BK252 := n0_; have HB := n1_; have BK253 := n2_; have GW253 := n3_; have GE253 := n4_; have NB252_253 := n5_; have NB253_252 := n6_; clear n0_ n1_ n2_ n3_ n4_ n5_ n6_; clear hb hbox hg; have hnb28 := NB252_253.out; have hnc28 := NB253_252.out; have hcz29_0 : w27.cell? ⟨gb252, 0, none⟩ = some (.int .i64 a0_0) := (yG BK252.out 0).trans rfl; have hcz29_1 : w27.cell? ⟨gb252, 1, none⟩ = some (.slice A0_1 l0_1.length c0_1) := (yG BK252.out 1).trans rfl; have hcz29_2 : w27.cell? ⟨gb252, 2, none⟩ = some (.slice A0_2 l0_2.length c0_2) := (yG BK252.out 2).trans rfl; have hcz29_3 : w27.cell? ⟨gb252, 3, none⟩ = some (.slice A0_3 l0_3.length c0_3) := (yG BK252.out 3).trans rfl; have hcz29_4 : w27.cell? ⟨gb252, 4, none⟩ = some (.slice A0_4 l0_4.length c0_4) := (yG BK252.out 4).trans rfl; have hcz29_5 : w27.cell? ⟨gb252, 5, none⟩ = some (.slice A0_5 l0_5.length c0_5) := (yG BK252.out 5).trans rfl; have hfz29_0 := yR BK252.out 0; have hfz29_1 := yR BK252.out 1; have hfz29_2 := yR BK252.out 2; have hfz29_3 := yR BK252.out 3; have hfz29_4 := yR BK252.out 4; have hfz29_5 := yR BK252.out 5; have hcz30_0 : w27.cell? ⟨gb253, 0, none⟩ = some (.int .i64 a1_0) := (yG BK253.out 0).trans rfl; have hcz30_1 : w27.cell? ⟨gb253, 1, none⟩ = some (.slice A1_1 l1_1.length c1_1) := (yG BK253.out 1).trans rfl; have hcz30_2 : w27.cell? ⟨gb253, 2, none⟩ = some (.slice A1_2 l1_2.length c1_2) := (yG BK253.out 2).trans rfl; have hcz30_3 : w27.cell? ⟨gb253, 3, none⟩ = some (.slice A1_3 l1_3.length c1_3) := (yG BK253.out 3).trans rfl; have hcz30_4 : w27.cell? ⟨gb253, 4, none⟩ = some (.slice A1_4 l1_4.length c1_4) := (yG BK253.out 4).trans rfl; have hcz30_5 : w27.cell? ⟨gb253, 5, none⟩ = some (.slice A1_5 l1_5.length c1_5) := (yG BK253.out 5).trans rfl; have hfz30_0 := yR BK253.out 0; have hfz30_1 := yR BK253.out 1; have hfz30_2 := yR BK253.out 2; have hfz30_3 := yR BK253.out 3; have hfz30_4 := yR BK253.out 4; have hfz30_5 := yR BK253.out 5) | ((with_reducible refine gate_callee (f := 13) rfl ?_); refine goesL_ (some 14) rfl rfl Try.func13 (by kernel_rfl) rfl #[.slice A0_1 l0_1.length c0_1, .slice A1_1 l1_1.length c1_1] rfl (by (try simp only [zK, zL, zM]); first | done | rfl | (simp only [zN, zO]; rfl)) ?_; (with_reducible refine (laws_eqInt64S.calls k _ _ l0_1 _ _ l1_1 true _ ?side1 ?side2 ?side3 ?side4 A4.out).mono ?_); (case side1 => exact yY HR0_1.out HB.out); (case side2 => exact HC0_1.out); (case side3 => exact yY HR1_1.out HB.out); (case side4 => exact HC1_1.out); rintro e w' ⟨rfl, ⟨nd, rfl⟩⟩; refine ⟨_, rfl, ?_⟩) | ((with_reducible refine gate_callee (f := 13) rfl ?_); refine goesL_ (some 20) rfl rfl Try.func13 (by kernel_rfl) rfl #[.slice A0_2 l0_2.length c0_2, .slice A1_2 l1_2.length c1_2] rfl (by (try simp only [zK, zL, zM]); first | done | rfl | (simp only [zN, zO]; rfl)) ?_; (with_reducible refine (laws_eqInt64S.calls k _ _ l0_2 _ _ l1_2 true _ ?side1 ?side2 ?side3 ?side4 A6.out).mono ?_); (case side1 => exact yY HR0_2.out (by apply yL; exact HB.out)); (case side2 => exact HC0_2.out); (case side3 => exact yY HR1_2.out (by apply yL; exact HB.out)); (case side4 => exact HC1_2.out); rintro e w' ⟨rfl, ⟨nd, rfl⟩⟩; refine ⟨_, rfl, ?_⟩) | ((with_reducible refine gate_callee (f := 13) rfl ?_); refine goesL_ (some 26) rfl rfl Try.func13 (by kernel_rfl) rfl #[.slice A0_3 l0_3.length c0_3, .slice A1_3 l1_3.length c1_3] rfl (by (try simp only [zK, zL, zM]); first | done | rfl | (simp only [zN, zO]; rfl)) ?_; (with_reducible refine (laws_eqInt64S.calls k _ _ l0_3 _ _ l1_3 true _ ?side1 ?side2 ?side3 ?side4 A8.out).mono ?_); (case side1 => exact yY HR0_3.out (by apply yL; exact HB.out)); (case side2 => exact HC0_3.out); (case side3 => exact yY HR1_3.out (by apply yL; exact HB.out)); (case side4 => exact HC1_3.out); rintro e w' ⟨rfl, ⟨nd, rfl⟩⟩; refine ⟨_, rfl, ?_⟩) | ((with_reducible refine gate_callee (f := 13) rfl ?_); refine goesL_ (some 32) rfl rfl Try.func13 (by kernel_rfl) rfl #[.slice A0_4 l0_4.length c0_4, .slice A1_4 l1_4.length c1_4] rfl (by (try simp only [zK, zL, zM]); first | done | rfl | (simp only [zN, zO]; rfl)) ?_; (with_reducible refine (laws_eqInt64S.calls k _ _ l0_4 _ _ l1_4 false _ ?side1 ?side2 ?side3 ?side4 A10.out).mono ?_); (case side1 => exact yY HR0_4.out (by apply yL; exact HB.out)); (case side2 => exact HC0_4.out); (case side3 => exact yY HR1_4.out (by apply yL; exact HB.out)); (case side4 => exact HC1_4.out); rintro e w' ⟨rfl, ⟨nd, rfl⟩⟩; refine ⟨_, rfl, ?_⟩))
      go_ret
      exact ⟨by first | rfl | (simp <;> rfl) | (simp [*] <;> rfl), by repeat (first | (with_reducible first | exact HB.out | apply yQ | apply yL | apply yP | refine yE ?_ GE252.out | refine yE ?_ GE253.out) | exact HB.out)⟩
    ·
     replace c9 := Bool.eq_false_iff.mpr c9
     subst c9
     have H1 : (some false) = some r := by rw [if_neg (show ¬ (false = true) by decide)] at H; exact H
     clear H; have H := H1; clear H1; obtain rfl := Option.some.inj H; go_enter Try.func9, Try.ntmps9
     go_wp2_with (first | ((with_reducible refine gate_dst (N := 2) rfl ?_); refine box_event ?hg (N := 2) ?hd (cs := #[.int .i64 a0_0, .slice A0_1 l0_1.length c0_1, .slice A0_2 l0_2.length c0_2, .slice A0_3 l0_3.length c0_3, .slice A0_4 l0_4.length c0_4, .slice A0_5 l0_5.length c0_5]) (t := 30) ?hr ?_; (case hd => rfl); (case hg => rfl); (case hr => first | (go_simp; done) | (go_simp; rfl)); intro gb252 hg w31 hbox hb; have n0_ := yD (zC (by exact HB.out) hb); have n1_ := yD (hbox); have n2_ := yD ((by rw [hg]; exact (below_size (by exact HB.out)) : w.heap.size ≤ gb252)); have n3_ := yD ((by rw [hg]; exact (below_size (by exact HB.out)) : w.heap.size ≤ gb252)); clear HB; have HB := n0_; have BK252 := n1_; have GW252 := n2_; have GE252 := n3_; clear n0_ n1_ n2_ n3_; clear hb hbox hg) | ((with_reducible refine gate_dst (N := 3) rfl ?_); refine box_event ?hg (N := 3) ?hd (cs := #[.int .i64 a1_0, .slice A1_1 l1_1.length c1_1, .slice A1_2 l1_2.length c1_2, .slice A1_3 l1_3.length c1_3, .slice A1_4 l1_4.length c1_4, .slice A1_5 l1_5.length c1_5]) (t := 30) ?hr ?_; (case hd => rfl); (case hg => rfl); (case hr => first | (go_simp; done) | (go_simp; rfl)); intro gb253 hg w32 hbox hb; have n0_ := yD (zB (g := gb252) (o := .cells #[.int .i64 a0_0, .slice A0_1 l0_1.length c0_1, .slice A0_2 l0_2.length c0_2, .slice A0_3 l0_3.length c0_3, .slice A0_4 l0_4.length c0_4, .slice A0_5 l0_5.length c0_5] 30 (0, 0)) (by exact BK252.out) hb); have n1_ := yD (zC (by exact HB.out) hb); have n2_ := yD (hbox); have n3_ := yD ((by rw [hg]; exact (below_size (by exact HB.out)) : w.heap.size ≤ gb253)); have n4_ := yD ((by rw [hg]; exact (below_size (by exact HB.out)) : w.heap.size ≤ gb253)); have n5_ := yD ((by rw [hg]; exact Nat.ne_of_lt (blk_lt (g := gb252) (o := .cells #[.int .i64 a0_0, .slice A0_1 l0_1.length c0_1, .slice A0_2 l0_2.length c0_2, .slice A0_3 l0_3.length c0_3, .slice A0_4 l0_4.length c0_4, .slice A0_5 l0_5.length c0_5] 30 (0, 0)) (by exact BK252.out)) : gb252 ≠ gb253)); have n6_ := yD ((by rw [hg]; exact Nat.ne_of_gt (blk_lt (g := gb252) (o := .cells #[.int .i64 a0_0, .slice A0_1 l0_1.length c0_1, .slice A0_2 l0_2.length c0_2, .slice A0_3 l0_3.length c0_3, .slice A0_4 l0_4.length c0_4, .slice A0_5 l0_5.length c0_5] 30 (0, 0)) (by exact BK252.out)) : gb253 ≠ gb252)); clear BK252; clear HB; have BK252 := n0_; have HB := n1_; have BK253 := n2_; have GW253 := n3_; have GE253 := n4_; have NB252_253 := n5_; have NB253_252 := n6_; clear n0_ n1_ n2_ n3_ n4_ n5_ n6_; clear hb hbox hg; have hnb33 := NB252_253.out; have hnc33 := NB253_252.out; have hcz34_0 : w32.cell? ⟨gb252, 0, none⟩ = some (.int .i64 a0_0) := (yG BK252.out 0).trans rfl; have hcz34_1 : w32.cell? ⟨gb252, 1, none⟩ = some (.slice A0_1 l0_1.length c0_1) := (yG BK252.out 1).trans rfl; have hcz34_2 : w32.cell? ⟨gb252, 2, none⟩ = some (.slice A0_2 l0_2.length c0_2) := (yG BK252.out 2).trans rfl; have hcz34_3 : w32.cell? ⟨gb252, 3, none⟩ = some (.slice A0_3 l0_3.length c0_3) := (yG BK252.out 3).trans rfl; have hcz34_4 : w32.cell? ⟨gb252, 4, none⟩ = some (.slice A0_4 l0_4.length c0_4) := (yG BK252.out 4).trans rfl; have hcz34_5 : w32.cell? ⟨gb252, 5, none⟩ = some (.slice A0_5 l0_5.length c0_5) := (yG BK252.out 5).trans rfl; have hfz34_0 := yR BK252.out 0; have hfz34_1 := yR BK252.out 1; have hfz34_2 := yR BK252.out 2; have hfz34_3 := yR BK252.out 3; have hfz34_4 := yR BK252.out 4; have hfz34_5 := yR BK252.out 5; have hcz35_0 : w32.cell? ⟨gb253, 0, none⟩ = some (.int .i64 a1_0) := (yG BK253.out 0).trans rfl; have hcz35_1 : w32.cell? ⟨gb253, 1, none⟩ = some (.slice A1_1 l1_1.length c1_1) := (yG BK253.out 1).trans rfl; have hcz35_2 : w32.cell? ⟨gb253, 2, none⟩ = some (.slice A1_2 l1_2.length c1_2) := (yG BK253.out 2).trans rfl; have hcz35_3 : w32.cell? ⟨gb253, 3, none⟩ = some (.slice A1_3 l1_3.length c1_3) := (yG BK253.out 3).trans rfl; have hcz35_4 : w32.cell? ⟨gb253, 4, none⟩ = some (.slice A1_4 l1_4.length c1_4) := (yG BK253.out 4).trans rfl; have hcz35_5 : w32.cell? ⟨gb253, 5, none⟩ = some (.slice A1_5 l1_5.length c1_5) := (yG BK253.out 5).trans rfl; have hfz35_0 := yR BK253.out 0; have hfz35_1 := yR BK253.out 1; have hfz35_2 := yR BK253.out 2; have hfz35_3 := yR BK253.out 3; have hfz35_4 := yR BK253.out 4; have hfz35_5 := yR BK253.out 5) | ((with_reducible refine gate_callee (f := 13) rfl ?_); refine goesL_ (some 14) rfl rfl Try.func13 (by kernel_rfl) rfl #[.slice A0_1 l0_1.length c0_1, .slice A1_1 l1_1.length c1_1] rfl (by (try simp only [zK, zL, zM]); first | done | rfl | (simp only [zN, zO]; rfl)) ?_; (with_reducible refine (laws_eqInt64S.calls k _ _ l0_1 _ _ l1_1 true _ ?side1 ?side2 ?side3 ?side4 A4.out).mono ?_); (case side1 => exact yY HR0_1.out HB.out); (case side2 => exact HC0_1.out); (case side3 => exact yY HR1_1.out HB.out); (case side4 => exact HC1_1.out); rintro e w' ⟨rfl, ⟨nd, rfl⟩⟩; refine ⟨_, rfl, ?_⟩) | ((with_reducible refine gate_callee (f := 13) rfl ?_); refine goesL_ (some 20) rfl rfl Try.func13 (by kernel_rfl) rfl #[.slice A0_2 l0_2.length c0_2, .slice A1_2 l1_2.length c1_2] rfl (by (try simp only [zK, zL, zM]); first | done | rfl | (simp only [zN, zO]; rfl)) ?_; (with_reducible refine (laws_eqInt64S.calls k _ _ l0_2 _ _ l1_2 true _ ?side1 ?side2 ?side3 ?side4 A6.out).mono ?_); (case side1 => exact yY HR0_2.out (by apply yL; exact HB.out)); (case side2 => exact HC0_2.out); (case side3 => exact yY HR1_2.out (by apply yL; exact HB.out)); (case side4 => exact HC1_2.out); rintro e w' ⟨rfl, ⟨nd, rfl⟩⟩; refine ⟨_, rfl, ?_⟩) | ((with_reducible refine gate_callee (f := 13) rfl ?_); refine goesL_ (some 26) rfl rfl Try.func13 (by kernel_rfl) rfl #[.slice A0_3 l0_3.length c0_3, .slice A1_3 l1_3.length c1_3] rfl (by (try simp only [zK, zL, zM]); first | done | rfl | (simp only [zN, zO]; rfl)) ?_; (with_reducible refine (laws_eqInt64S.calls k _ _ l0_3 _ _ l1_3 false _ ?side1 ?side2 ?side3 ?side4 A8.out).mono ?_); (case side1 => exact yY HR0_3.out (by apply yL; exact HB.out)); (case side2 => exact HC0_3.out); (case side3 => exact yY HR1_3.out (by apply yL; exact HB.out)); (case side4 => exact HC1_3.out); rintro e w' ⟨rfl, ⟨nd, rfl⟩⟩; refine ⟨_, rfl, ?_⟩))
     go_ret
     exact ⟨by first | rfl | (simp <;> rfl) | (simp [*] <;> rfl), by repeat (first | (with_reducible first | exact HB.out | apply yQ | apply yL | apply yP | refine yE ?_ GE252.out | refine yE ?_ GE253.out) | exact HB.out)⟩
   ·
    replace c7 := Bool.eq_false_iff.mpr c7
    subst c7
    have H1 : (some false) = some r := by rw [if_neg (show ¬ (false = true) by decide)] at H; exact H
    clear H; have H := H1; clear H1; obtain rfl := Option.some.inj H; go_enter Try.func9, Try.ntmps9
    go_wp2_with (first | ((with_reducible refine gate_dst (N := 2) rfl ?_); refine box_event ?hg (N := 2) ?hd (cs := #[.int .i64 a0_0, .slice A0_1 l0_1.length c0_1, .slice A0_2 l0_2.length c0_2, .slice A0_3 l0_3.length c0_3, .slice A0_4 l0_4.length c0_4, .slice A0_5 l0_5.length c0_5]) (t := 30) ?hr ?_; (case hd => rfl); (case hg => rfl); (case hr => first | (go_simp; done) | (go_simp; rfl)); intro gb252 hg w36 hbox hb; have n0_ := yD (zC (by exact HB.out) hb); have n1_ := yD (hbox); have n2_ := yD ((by rw [hg]; exact (below_size (by exact HB.out)) : w.heap.size ≤ gb252)); have n3_ := yD ((by rw [hg]; exact (below_size (by exact HB.out)) : w.heap.size ≤ gb252)); clear HB; have HB := n0_; have BK252 := n1_; have GW252 := n2_; have GE252 := n3_; clear n0_ n1_ n2_ n3_; clear hb hbox hg) | ((with_reducible refine gate_dst (N := 3) rfl ?_); refine box_event ?hg (N := 3) ?hd (cs := #[.int .i64 a1_0, .slice A1_1 l1_1.length c1_1, .slice A1_2 l1_2.length c1_2, .slice A1_3 l1_3.length c1_3, .slice A1_4 l1_4.length c1_4, .slice A1_5 l1_5.length c1_5]) (t := 30) ?hr ?_; (case hd => rfl); (case hg => rfl); (case hr => first | (go_simp; done) | (go_simp; rfl)); intro gb253 hg w37 hbox hb; have n0_ := yD (zB (g := gb252) (o := .cells #[.int .i64 a0_0, .slice A0_1 l0_1.length c0_1, .slice A0_2 l0_2.length c0_2, .slice A0_3 l0_3.length c0_3, .slice A0_4 l0_4.length c0_4, .slice A0_5 l0_5.length c0_5] 30 (0, 0)) (by exact BK252.out) hb); have n1_ := yD (zC (by exact HB.out) hb); have n2_ := yD (hbox); have n3_ := yD ((by rw [hg]; exact (below_size (by exact HB.out)) : w.heap.size ≤ gb253)); have n4_ := yD ((by rw [hg]; exact (below_size (by exact HB.out)) : w.heap.size ≤ gb253)); have n5_ := yD ((by rw [hg]; exact Nat.ne_of_lt (blk_lt (g := gb252) (o := .cells #[.int .i64 a0_0, .slice A0_1 l0_1.length c0_1, .slice A0_2 l0_2.length c0_2, .slice A0_3 l0_3.length c0_3, .slice A0_4 l0_4.length c0_4, .slice A0_5 l0_5.length c0_5] 30 (0, 0)) (by exact BK252.out)) : gb252 ≠ gb253)); have n6_ := yD ((by rw [hg]; exact Nat.ne_of_gt (blk_lt (g := gb252) (o := .cells #[.int .i64 a0_0, .slice A0_1 l0_1.length c0_1, .slice A0_2 l0_2.length c0_2, .slice A0_3 l0_3.length c0_3, .slice A0_4 l0_4.length c0_4, .slice A0_5 l0_5.length c0_5] 30 (0, 0)) (by exact BK252.out)) : gb253 ≠ gb252)); clear BK252; clear HB; have BK252 := n0_; have HB := n1_; have BK253 := n2_; have GW253 := n3_; have GE253 := n4_; have NB252_253 := n5_; have NB253_252 := n6_; clear n0_ n1_ n2_ n3_ n4_ n5_ n6_; clear hb hbox hg; have hnb38 := NB252_253.out; have hnc38 := NB253_252.out; have hcz39_0 : w37.cell? ⟨gb252, 0, none⟩ = some (.int .i64 a0_0) := (yG BK252.out 0).trans rfl; have hcz39_1 : w37.cell? ⟨gb252, 1, none⟩ = some (.slice A0_1 l0_1.length c0_1) := (yG BK252.out 1).trans rfl; have hcz39_2 : w37.cell? ⟨gb252, 2, none⟩ = some (.slice A0_2 l0_2.length c0_2) := (yG BK252.out 2).trans rfl; have hcz39_3 : w37.cell? ⟨gb252, 3, none⟩ = some (.slice A0_3 l0_3.length c0_3) := (yG BK252.out 3).trans rfl; have hcz39_4 : w37.cell? ⟨gb252, 4, none⟩ = some (.slice A0_4 l0_4.length c0_4) := (yG BK252.out 4).trans rfl; have hcz39_5 : w37.cell? ⟨gb252, 5, none⟩ = some (.slice A0_5 l0_5.length c0_5) := (yG BK252.out 5).trans rfl; have hfz39_0 := yR BK252.out 0; have hfz39_1 := yR BK252.out 1; have hfz39_2 := yR BK252.out 2; have hfz39_3 := yR BK252.out 3; have hfz39_4 := yR BK252.out 4; have hfz39_5 := yR BK252.out 5; have hcz40_0 : w37.cell? ⟨gb253, 0, none⟩ = some (.int .i64 a1_0) := (yG BK253.out 0).trans rfl; have hcz40_1 : w37.cell? ⟨gb253, 1, none⟩ = some (.slice A1_1 l1_1.length c1_1) := (yG BK253.out 1).trans rfl; have hcz40_2 : w37.cell? ⟨gb253, 2, none⟩ = some (.slice A1_2 l1_2.length c1_2) := (yG BK253.out 2).trans rfl; have hcz40_3 : w37.cell? ⟨gb253, 3, none⟩ = some (.slice A1_3 l1_3.length c1_3) := (yG BK253.out 3).trans rfl; have hcz40_4 : w37.cell? ⟨gb253, 4, none⟩ = some (.slice A1_4 l1_4.length c1_4) := (yG BK253.out 4).trans rfl; have hcz40_5 : w37.cell? ⟨gb253, 5, none⟩ = some (.slice A1_5 l1_5.length c1_5) := (yG BK253.out 5).trans rfl; have hfz40_0 := yR BK253.out 0; have hfz40_1 := yR BK253.out 1; have hfz40_2 := yR BK253.out 2; have hfz40_3 := yR BK253.out 3; have hfz40_4 := yR BK253.out 4; have hfz40_5 := yR BK253.out 5) | ((with_reducible refine gate_callee (f := 13) rfl ?_); refine goesL_ (some 14) rfl rfl Try.func13 (by kernel_rfl) rfl #[.slice A0_1 l0_1.length c0_1, .slice A1_1 l1_1.length c1_1] rfl (by (try simp only [zK, zL, zM]); first | done | rfl | (simp only [zN, zO]; rfl)) ?_; (with_reducible refine (laws_eqInt64S.calls k _ _ l0_1 _ _ l1_1 true _ ?side1 ?side2 ?side3 ?side4 A4.out).mono ?_); (case side1 => exact yY HR0_1.out HB.out); (case side2 => exact HC0_1.out); (case side3 => exact yY HR1_1.out HB.out); (case side4 => exact HC1_1.out); rintro e w' ⟨rfl, ⟨nd, rfl⟩⟩; refine ⟨_, rfl, ?_⟩) | ((with_reducible refine gate_callee (f := 13) rfl ?_); refine goesL_ (some 20) rfl rfl Try.func13 (by kernel_rfl) rfl #[.slice A0_2 l0_2.length c0_2, .slice A1_2 l1_2.length c1_2] rfl (by (try simp only [zK, zL, zM]); first | done | rfl | (simp only [zN, zO]; rfl)) ?_; (with_reducible refine (laws_eqInt64S.calls k _ _ l0_2 _ _ l1_2 false _ ?side1 ?side2 ?side3 ?side4 A6.out).mono ?_); (case side1 => exact yY HR0_2.out (by apply yL; exact HB.out)); (case side2 => exact HC0_2.out); (case side3 => exact yY HR1_2.out (by apply yL; exact HB.out)); (case side4 => exact HC1_2.out); rintro e w' ⟨rfl, ⟨nd, rfl⟩⟩; refine ⟨_, rfl, ?_⟩))
    go_ret
    exact ⟨by first | rfl | (simp <;> rfl) | (simp [*] <;> rfl), by repeat (first | (with_reducible first | exact HB.out | apply yQ | apply yL | apply yP | refine yE ?_ GE252.out | refine yE ?_ GE253.out) | exact HB.out)⟩
  ·
   replace c5 := Bool.eq_false_iff.mpr c5
   subst c5
   have H1 : (some false) = some r := by rw [if_neg (show ¬ (false = true) by decide)] at H; exact H
   clear H; have H := H1; clear H1; obtain rfl := Option.some.inj H; go_enter Try.func9, Try.ntmps9
   go_wp2_with (first | ((with_reducible refine gate_dst (N := 2) rfl ?_); refine box_event ?hg (N := 2) ?hd (cs := #[.int .i64 a0_0, .slice A0_1 l0_1.length c0_1, .slice A0_2 l0_2.length c0_2, .slice A0_3 l0_3.length c0_3, .slice A0_4 l0_4.length c0_4, .slice A0_5 l0_5.length c0_5]) (t := 30) ?hr ?_; (case hd => rfl); (case hg => rfl); (case hr => first | (go_simp; done) | (go_simp; rfl)); intro gb252 hg w41 hbox hb; have n0_ := yD (zC (by exact HB.out) hb); have n1_ := yD (hbox); have n2_ := yD ((by rw [hg]; exact (below_size (by exact HB.out)) : w.heap.size ≤ gb252)); have n3_ := yD ((by rw [hg]; exact (below_size (by exact HB.out)) : w.heap.size ≤ gb252)); clear HB; have HB := n0_; have BK252 := n1_; have GW252 := n2_; have GE252 := n3_; clear n0_ n1_ n2_ n3_; clear hb hbox hg) | ((with_reducible refine gate_dst (N := 3) rfl ?_); refine box_event ?hg (N := 3) ?hd (cs := #[.int .i64 a1_0, .slice A1_1 l1_1.length c1_1, .slice A1_2 l1_2.length c1_2, .slice A1_3 l1_3.length c1_3, .slice A1_4 l1_4.length c1_4, .slice A1_5 l1_5.length c1_5]) (t := 30) ?hr ?_; (case hd => rfl); (case hg => rfl); (case hr => first | (go_simp; done) | (go_simp; rfl)); intro gb253 hg w42 hbox hb; have n0_ := yD (zB (g := gb252) (o := .cells #[.int .i64 a0_0, .slice A0_1 l0_1.length c0_1, .slice A0_2 l0_2.length c0_2, .slice A0_3 l0_3.length c0_3, .slice A0_4 l0_4.length c0_4, .slice A0_5 l0_5.length c0_5] 30 (0, 0)) (by exact BK252.out) hb); have n1_ := yD (zC (by exact HB.out) hb); have n2_ := yD (hbox); have n3_ := yD ((by rw [hg]; exact (below_size (by exact HB.out)) : w.heap.size ≤ gb253)); have n4_ := yD ((by rw [hg]; exact (below_size (by exact HB.out)) : w.heap.size ≤ gb253)); have n5_ := yD ((by rw [hg]; exact Nat.ne_of_lt (blk_lt (g := gb252) (o := .cells #[.int .i64 a0_0, .slice A0_1 l0_1.length c0_1, .slice A0_2 l0_2.length c0_2, .slice A0_3 l0_3.length c0_3, .slice A0_4 l0_4.length c0_4, .slice A0_5 l0_5.length c0_5] 30 (0, 0)) (by exact BK252.out)) : gb252 ≠ gb253)); have n6_ := yD ((by rw [hg]; exact Nat.ne_of_gt (blk_lt (g := gb252) (o := .cells #[.int .i64 a0_0, .slice A0_1 l0_1.length c0_1, .slice A0_2 l0_2.length c0_2, .slice A0_3 l0_3.length c0_3, .slice A0_4 l0_4.length c0_4, .slice A0_5 l0_5.length c0_5] 30 (0, 0)) (by exact BK252.out)) : gb253 ≠ gb252)); clear BK252; clear HB; have BK252 := n0_; have HB := n1_; have BK253 := n2_; have GW253 := n3_; have GE253 := n4_; have NB252_253 := n5_; have NB253_252 := n6_; clear n0_ n1_ n2_ n3_ n4_ n5_ n6_; clear hb hbox hg; have hnb43 := NB252_253.out; have hnc43 := NB253_252.out; have hcz44_0 : w42.cell? ⟨gb252, 0, none⟩ = some (.int .i64 a0_0) := (yG BK252.out 0).trans rfl; have hcz44_1 : w42.cell? ⟨gb252, 1, none⟩ = some (.slice A0_1 l0_1.length c0_1) := (yG BK252.out 1).trans rfl; have hcz44_2 : w42.cell? ⟨gb252, 2, none⟩ = some (.slice A0_2 l0_2.length c0_2) := (yG BK252.out 2).trans rfl; have hcz44_3 : w42.cell? ⟨gb252, 3, none⟩ = some (.slice A0_3 l0_3.length c0_3) := (yG BK252.out 3).trans rfl; have hcz44_4 : w42.cell? ⟨gb252, 4, none⟩ = some (.slice A0_4 l0_4.length c0_4) := (yG BK252.out 4).trans rfl; have hcz44_5 : w42.cell? ⟨gb252, 5, none⟩ = some (.slice A0_5 l0_5.length c0_5) := (yG BK252.out 5).trans rfl; have hfz44_0 := yR BK252.out 0; have hfz44_1 := yR BK252.out 1; have hfz44_2 := yR BK252.out 2; have hfz44_3 := yR BK252.out 3; have hfz44_4 := yR BK252.out 4; have hfz44_5 := yR BK252.out 5; have hcz45_0 : w42.cell? ⟨gb253, 0, none⟩ = some (.int .i64 a1_0) := (yG BK253.out 0).trans rfl; have hcz45_1 : w42.cell? ⟨gb253, 1, none⟩ = some (.slice A1_1 l1_1.length c1_1) := (yG BK253.out 1).trans rfl; have hcz45_2 : w42.cell? ⟨gb253, 2, none⟩ = some (.slice A1_2 l1_2.length c1_2) := (yG BK253.out 2).trans rfl; have hcz45_3 : w42.cell? ⟨gb253, 3, none⟩ = some (.slice A1_3 l1_3.length c1_3) := (yG BK253.out 3).trans rfl; have hcz45_4 : w42.cell? ⟨gb253, 4, none⟩ = some (.slice A1_4 l1_4.length c1_4) := (yG BK253.out 4).trans rfl; have hcz45_5 : w42.cell? ⟨gb253, 5, none⟩ = some (.slice A1_5 l1_5.length c1_5) := (yG BK253.out 5).trans rfl; have hfz45_0 := yR BK253.out 0; have hfz45_1 := yR BK253.out 1; have hfz45_2 := yR BK253.out 2; have hfz45_3 := yR BK253.out 3; have hfz45_4 := yR BK253.out 4; have hfz45_5 := yR BK253.out 5) | ((with_reducible refine gate_callee (f := 13) rfl ?_); refine goesL_ (some 14) rfl rfl Try.func13 (by kernel_rfl) rfl #[.slice A0_1 l0_1.length c0_1, .slice A1_1 l1_1.length c1_1] rfl (by (try simp only [zK, zL, zM]); first | done | rfl | (simp only [zN, zO]; rfl)) ?_; (with_reducible refine (laws_eqInt64S.calls k _ _ l0_1 _ _ l1_1 false _ ?side1 ?side2 ?side3 ?side4 A4.out).mono ?_); (case side1 => exact yY HR0_1.out HB.out); (case side2 => exact HC0_1.out); (case side3 => exact yY HR1_1.out HB.out); (case side4 => exact HC1_1.out); rintro e w' ⟨rfl, ⟨nd, rfl⟩⟩; refine ⟨_, rfl, ?_⟩))
   go_ret
   exact ⟨by first | rfl | (simp <;> rfl) | (simp [*] <;> rfl), by repeat (first | (with_reducible first | exact HB.out | apply yQ | apply yL | apply yP | refine yE ?_ GE252.out | refine yE ?_ GE253.out) | exact HB.out)⟩
 ·
  rw [if_neg c3] at H
  have c3b0 : (a0_0 == a1_0) = false := beq_eq_false_iff_ne.mpr c3
  have c3b1 : (a0_0 != a1_0) = true := bne_iff_ne.mpr c3
  obtain rfl := Option.some.inj H; go_enter Try.func9, Try.ntmps9
  go_wp2_with (first | ((with_reducible refine gate_dst (N := 2) rfl ?_); refine box_event ?hg (N := 2) ?hd (cs := #[.int .i64 a0_0, .slice A0_1 l0_1.length c0_1, .slice A0_2 l0_2.length c0_2, .slice A0_3 l0_3.length c0_3, .slice A0_4 l0_4.length c0_4, .slice A0_5 l0_5.length c0_5]) (t := 30) ?hr ?_; (case hd => rfl); (case hg => rfl); (case hr => first | (go_simp; done) | (go_simp; rfl)); intro gb252 hg w46 hbox hb; have n0_ := yD (zC (by exact HB.out) hb); have n1_ := yD (hbox); have n2_ := yD ((by rw [hg]; exact (below_size (by exact HB.out)) : w.heap.size ≤ gb252)); have n3_ := yD ((by rw [hg]; exact (below_size (by exact HB.out)) : w.heap.size ≤ gb252)); clear HB; have HB := n0_; have BK252 := n1_; have GW252 := n2_; have GE252 := n3_; clear n0_ n1_ n2_ n3_; clear hb hbox hg) | ((with_reducible refine gate_dst (N := 3) rfl ?_); refine box_event ?hg (N := 3) ?hd (cs := #[.int .i64 a1_0, .slice A1_1 l1_1.length c1_1, .slice A1_2 l1_2.length c1_2, .slice A1_3 l1_3.length c1_3, .slice A1_4 l1_4.length c1_4, .slice A1_5 l1_5.length c1_5]) (t := 30) ?hr ?_; (case hd => rfl); (case hg => rfl); (case hr => first | (go_simp; done) | (go_simp; rfl)); intro gb253 hg w47 hbox hb; have n0_ := yD (zB (g := gb252) (o := .cells #[.int .i64 a0_0, .slice A0_1 l0_1.length c0_1, .slice A0_2 l0_2.length c0_2, .slice A0_3 l0_3.length c0_3, .slice A0_4 l0_4.length c0_4, .slice A0_5 l0_5.length c0_5] 30 (0, 0)) (by exact BK252.out) hb); have n1_ := yD (zC (by exact HB.out) hb); have n2_ := yD (hbox); have n3_ := yD ((by rw [hg]; exact (below_size (by exact HB.out)) : w.heap.size ≤ gb253)); have n4_ := yD ((by rw [hg]; exact (below_size (by exact HB.out)) : w.heap.size ≤ gb253)); have n5_ := yD ((by rw [hg]; exact Nat.ne_of_lt (blk_lt (g := gb252) (o := .cells #[.int .i64 a0_0, .slice A0_1 l0_1.length c0_1, .slice A0_2 l0_2.length c0_2, .slice A0_3 l0_3.length c0_3, .slice A0_4 l0_4.length c0_4, .slice A0_5 l0_5.length c0_5] 30 (0, 0)) (by exact BK252.out)) : gb252 ≠ gb253)); have n6_ := yD ((by rw [hg]; exact Nat.ne_of_gt (blk_lt (g := gb252) (o := .cells #[.int .i64 a0_0, .slice A0_1 l0_1.length c0_1, .slice A0_2 l0_2.length c0_2, .slice A0_3 l0_3.length c0_3, .slice A0_4 l0_4.length c0_4, .slice A0_5 l0_5.length c0_5] 30 (0, 0)) (by exact BK252.out)) : gb253 ≠ gb252)); clear BK252; clear HB; have BK252 := n0_; have HB := n1_; have BK253 := n2_; have GW253 := n3_; have GE253 := n4_; have NB252_253 := n5_; have NB253_252 := n6_; clear n0_ n1_ n2_ n3_ n4_ n5_ n6_; clear hb hbox hg; have hnb48 := NB252_253.out; have hnc48 := NB253_252.out; have hcz49_0 : w47.cell? ⟨gb252, 0, none⟩ = some (.int .i64 a0_0) := (yG BK252.out 0).trans rfl; have hcz49_1 : w47.cell? ⟨gb252, 1, none⟩ = some (.slice A0_1 l0_1.length c0_1) := (yG BK252.out 1).trans rfl; have hcz49_2 : w47.cell? ⟨gb252, 2, none⟩ = some (.slice A0_2 l0_2.length c0_2) := (yG BK252.out 2).trans rfl; have hcz49_3 : w47.cell? ⟨gb252, 3, none⟩ = some (.slice A0_3 l0_3.length c0_3) := (yG BK252.out 3).trans rfl; have hcz49_4 : w47.cell? ⟨gb252, 4, none⟩ = some (.slice A0_4 l0_4.length c0_4) := (yG BK252.out 4).trans rfl; have hcz49_5 : w47.cell? ⟨gb252, 5, none⟩ = some (.slice A0_5 l0_5.length c0_5) := (yG BK252.out 5).trans rfl; have hfz49_0 := yR BK252.out 0; have hfz49_1 := yR BK252.out 1; have hfz49_2 := yR BK252.out 2; have hfz49_3 := yR BK252.out 3; have hfz49_4 := yR BK252.out 4; have hfz49_5 := yR BK252.out 5; have hcz50_0 : w47.cell? ⟨gb253, 0, none⟩ = some (.int .i64 a1_0) := (yG BK253.out 0).trans rfl; have hcz50_1 : w47.cell? ⟨gb253, 1, none⟩ = some (.slice A1_1 l1_1.length c1_1) := (yG BK253.out 1).trans rfl; have hcz50_2 : w47.cell? ⟨gb253, 2, none⟩ = some (.slice A1_2 l1_2.length c1_2) := (yG BK253.out 2).trans rfl; have hcz50_3 : w47.cell? ⟨gb253, 3, none⟩ = some (.slice A1_3 l1_3.length c1_3) := (yG BK253.out 3).trans rfl; have hcz50_4 : w47.cell? ⟨gb253, 4, none⟩ = some (.slice A1_4 l1_4.length c1_4) := (yG BK253.out 4).trans rfl; have hcz50_5 : w47.cell? ⟨gb253, 5, none⟩ = some (.slice A1_5 l1_5.length c1_5) := (yG BK253.out 5).trans rfl; have hfz50_0 := yR BK253.out 0; have hfz50_1 := yR BK253.out 1; have hfz50_2 := yR BK253.out 2; have hfz50_3 := yR BK253.out 3; have hfz50_4 := yR BK253.out 4; have hfz50_5 := yR BK253.out 5))
  go_ret
  exact ⟨by first | rfl | (simp <;> rfl) | (simp [*] <;> rfl), by repeat (first | (with_reducible first | exact HB.out | apply yQ | apply yL | apply yP | refine yE ?_ GE252.out | refine yE ?_ GE253.out) | exact HB.out)⟩

end Go.Proofs.Ytobdoafjlbifpaa.PFnExactFormedSelection
