/- Each Go function here comes to what the plain function of its name says, where that says something. Made by a program of this session, over the print. -/
import Derived.Test.YtdiaebjbiddefaaPFnExactBoundsOfx0
namespace Go.Proofs.Ytdiaebjbiddefaa.PFnExactBoundsOf
open Go.RowKit Go.Proofs.YtdiaebjbiddefaaW.PrintWords Go.Proofs.YtdiaebjbiddefaaW.PrintLast Go.Proofs.YtdiaebjbiddefaaW.PrintMore
attribute [local go_sem] max2_int min2_int max_two min_two max_three min_three max_four min_four   -- for this text's walks alone
set_option linter.unusedVariables false
set_option linter.unusedSimpArgs false

/-! ### impl_ValidBox: function 104 -/
mutual
def impl_ValidBox.j0 : Nat → Bool → List Int → List Int → Option (Bool)
  | 0, _, _, _ => none
  | k + 1, x17, x169000, x169001 => if x17 = true then (some false) else (impl_ValidBox.l0 k x169000 (x169000.length : Int) 0 x169000 x169001)
def impl_ValidBox.l0 : Nat → List Int → Int → Int → List Int → List Int → Option (Bool)
  | 0, _, _, _, _, _ => none
  | k + 1, x19, x20, x21, x169000, x169001 => if x21 < x20 then (if 0 ≤ x21 then (if x21 < (x19.length : Int) then (if (rd x19 x21) < 0 then (some false) else (if x21 < (x169001.length : Int) then (if (rd x19 x21) ≥ (rd x169001 x21) then (some false) else (if (rd x169001 x21) > 40 then (some false) else (impl_ValidBox.l0 k x19 x20 (wrap64 (x21 + 1)) x169000 x169001))) else (none))) else (none)) else (none)) else (some true)
end
def impl_ValidBox.f (k : Nat) (l0_0 : List Int) (l0_1 : List Int) : Option (Bool) := if (l0_0.length : Int) = (l0_1.length : Int) then (impl_ValidBox.j0 k (decide ((l0_0.length : Int) > 3)) l0_0 l0_1) else (impl_ValidBox.j0 k true l0_0 l0_1)
theorem impl_ValidBox.mono_l : ∀ k, (∀ y0 y1 y2, LeO (impl_ValidBox.j0 k y0 y1 y2) (impl_ValidBox.j0 (k + 1) y0 y1 y2)) ∧ (∀ y0 y1 y2 y3 y4, LeO (impl_ValidBox.l0 k y0 y1 y2 y3 y4) (impl_ValidBox.l0 (k + 1) y0 y1 y2 y3 y4))
  | 0 => ⟨fun _ _ _ r h => by simp [impl_ValidBox.j0] at h, fun _ _ _ _ _ r h => by simp [impl_ValidBox.l0] at h⟩
  | k + 1 => by
    obtain ⟨ih0, ih1⟩ := impl_ValidBox.mono_l k
    refine ⟨?_, ?_⟩
    · intro y0 y1 y2
      unfold impl_ValidBox.j0
      repeat' first
      | (with_reducible exact ih0 _ _ _)
      | (with_reducible exact ih1 _ _ _ _ _)
      | (with_reducible exact LeO.refl _)
      | (with_reducible exact LeO.none _)
      | (with_reducible refine LeO.ite ?_ ?_)
      | (with_reducible refine LeO.bind ?_ (fun _ => ?_))
      | exact ih0 _ _ _
      | exact ih1 _ _ _ _ _
      | exact LeO.none _
      | refine LeO.ite ?_ ?_
      | refine LeO.bind ?_ (fun _ => ?_)
    · intro y0 y1 y2 y3 y4
      unfold impl_ValidBox.l0
      repeat' first
      | (with_reducible exact ih0 _ _ _)
      | (with_reducible exact ih1 _ _ _ _ _)
      | (with_reducible exact LeO.refl _)
      | (with_reducible exact LeO.none _)
      | (with_reducible refine LeO.ite ?_ ?_)
      | (with_reducible refine LeO.bind ?_ (fun _ => ?_))
      | exact ih0 _ _ _
      | exact ih1 _ _ _ _ _
      | exact LeO.none _
      | refine LeO.ite ?_ ?_
      | refine LeO.bind ?_ (fun _ => ?_)
theorem impl_ValidBox.mono : ∀ a0 a1 k, LeO (impl_ValidBox.f k a0 a1) (impl_ValidBox.f (k + 1) a0 a1) := by
  intro a0 a1 k
  obtain ⟨ih0, ih1⟩ := impl_ValidBox.mono_l k
  unfold impl_ValidBox.f
  repeat' first
      | (with_reducible exact ih0 _ _ _)
      | (with_reducible exact ih1 _ _ _ _ _)
      | (with_reducible exact LeO.refl _)
      | (with_reducible exact LeO.none _)
      | (with_reducible refine LeO.ite ?_ ?_)
      | (with_reducible refine LeO.bind ?_ (fun _ => ?_))
      | exact ih0 _ _ _
      | exact ih1 _ _ _ _ _
      | exact LeO.none _
      | refine LeO.ite ?_ ?_
      | refine LeO.bind ?_ (fun _ => ?_)
set_option maxHeartbeats 8000000 in
set_option maxRecDepth 100000 in
theorem impl_ValidBox.calls (k : Nat) (A0_0 : Option Addr) (c0_0 : Nat) (l0_0 : List Int) (A0_1 : Option Addr) (c0_1 : Nat) (l0_1 : List Int) (r : Bool) (w : World) (hr0_0 : Kd.C (Kd.int .i64) w A0_0 l0_0.length l0_0) (hc0_0 : l0_0.length ≤ c0_0) (hr0_1 : Kd.C (Kd.int .i64) w A0_1 l0_1.length l0_1) (hc0_1 : l0_1.length ≤ c0_1) (h : impl_ValidBox.f k l0_0 l0_1 = some r) :
    Calls Try.prog 104 #[.agg #[.slice A0_0 l0_0.length c0_0, .slice A0_1 l0_1.length c0_1]] w fun e w' => e = .returned (.bool r) ∧ Below w.heap.size w w' := by
  have hu42 := Try.underlying42
  have HR0_0 := yD hr0_0
  have HC0_0 := yD hc0_0
  clear hr0_0 hc0_0
  have HR0_1 := yD hr0_1
  have HC0_1 := yD hc0_1
  clear hr0_1 hc0_1
  have HB := yD (Below.refl w.heap.size w)
  have H : (if (l0_0.length : Int) = (l0_1.length : Int) then (impl_ValidBox.j0 k (decide ((l0_0.length : Int) > 3)) l0_0 l0_1) else (impl_ValidBox.j0 k true l0_0 l0_1)) = some r := h
  clear h
  have HC2 := yD H
  clear H; go_enter Try.func104, Try.ntmps104
  go_upto_region 1 with (first | ((with_reducible refine gate_dst (N := 1) rfl ?_); (try (refine gate_guard (by rfl) ?_; dsimp only)); refine box_event ?hg (N := 1) ?hd (cs := #[.slice A0_0 l0_0.length c0_0, .slice A0_1 l0_1.length c0_1]) (t := 42) ?hr ?_; (case hd => rfl); (case hg => rfl); (case hr => first | (go_simp; done) | (go_simp; rfl)); intro gb168 hg w3 hbox hb; have n0_ := yD (zC (by repeat (first | (with_reducible first | exact HB.out | apply yQ | apply yL | apply yP) | exact HB.out)) hb); have n1_ := yD (hbox); have n2_ := yD ((by rw [hg]; exact (below_size (by repeat (first | (with_reducible first | exact HB.out | apply yQ | apply yL | apply yP) | exact HB.out))) : w.heap.size ≤ gb168)); have n3_ := yD ((by rw [hg]; exact (below_size (by repeat (first | (with_reducible first | exact HB.out | apply yQ | apply yL | apply yP) | exact HB.out))) : w.heap.size ≤ gb168)); clear HB; have HB := n0_; have BK168 := n1_; have GW168 := n2_; have GE168 := n3_; clear n0_ n1_ n2_ n3_; clear hb hbox hg))
  (try simp only [Act.put, zH, zI, zJ])
  go_cut [17] (fun v17 wc => ∃ (kq : Nat) (x17_1 : Bool), v17 = .bool x17_1 ∧ Aside0 (impl_ValidBox.j0 kq x17_1 l0_0 l0_1 = some r) ∧ Aside0 (kq ≤ k) ∧ Aside0 (wc.heap[gb168]? = some (.cells #[(.slice A0_0 l0_0.length c0_0), (.slice A0_1 l0_1.length c0_1)] 42 (0, 0))) ∧ Aside0 (Below w.heap.size w wc))
  case first =>
    have H := HC2.out; clear HC2
    by_cases c4 : (l0_0.length : Int) = (l0_1.length : Int)
    · rw [if_pos c4] at H
      have c4b0 : ((l0_0.length : Int) == (l0_1.length : Int)) = true := beq_iff_eq.mpr c4
      have c4b1 : ((l0_0.length : Int) != (l0_1.length : Int)) = false := bne_eq_false_iff_eq.mpr c4
      have c4b2 : (l0_0.length == l0_1.length) = true := by first | simpa using c4 | (simp at c4 ⊢; omega)
      clear c4
      (first | rw [c4b0] | (simp only [i64_w, i32_w]; rw [c4b0]) | (simp only [bne] at c4b0; rw [c4b0]) | skip)
      have H' := yD H
      clear H
      have hcz5_0 : w3.cell? ⟨gb168, 0, none⟩ = some (.slice A0_0 l0_0.length c0_0) := (yG BK168.out 0).trans rfl
      have hcz5_1 : w3.cell? ⟨gb168, 1, none⟩ = some (.slice A0_1 l0_1.length c0_1) := (yG BK168.out 1).trans rfl
      have hfz5_0 := yR BK168.out 0
      have hfz5_1 := yR BK168.out 1
      go_wp2
      go_meet
      case rel => exact ⟨_, (decide ((l0_0.length : Int) > 3)), (by first | rfl | (simp; done) | (simp [*]; done)), H', ⟨by first | omega | exact Nat.le_refl _⟩, ⟨by (with_reducible repeat (first | refine yM ?_ _ | refine yO ?_ | refine yN ?_ _)); exact BK168.out⟩, ⟨by repeat (first | (with_reducible first | exact HB.out | apply yQ | apply yL | apply yP | refine yE ?_ GE168.out) | exact HB.out)⟩⟩
    · rw [if_neg c4] at H
      have c4b0 : ((l0_0.length : Int) == (l0_1.length : Int)) = false := beq_eq_false_iff_ne.mpr c4
      have c4b1 : ((l0_0.length : Int) != (l0_1.length : Int)) = true := bne_iff_ne.mpr c4
      have c4b2 : (l0_0.length == l0_1.length) = false := by first | simpa using c4 | (simp at c4 ⊢; omega)
      (first | rw [c4b0] | (simp only [i64_w, i32_w]; rw [c4b0]) | (simp only [bne] at c4b0; rw [c4b0]) | skip)
      have H' := yD H
      clear H
      have hcz6_0 : w3.cell? ⟨gb168, 0, none⟩ = some (.slice A0_0 l0_0.length c0_0) := (yG BK168.out 0).trans rfl
      have hcz6_1 : w3.cell? ⟨gb168, 1, none⟩ = some (.slice A0_1 l0_1.length c0_1) := (yG BK168.out 1).trans rfl
      have hfz6_0 := yR BK168.out 0
      have hfz6_1 := yR BK168.out 1
      go_wp2
      go_meet
      case rel => exact ⟨_, (true), (by first | rfl | (simp; done) | (simp [*]; done)), H', ⟨by first | omega | exact Nat.le_refl _⟩, ⟨by (with_reducible repeat (first | refine yM ?_ _ | refine yO ?_ | refine yN ?_ _)); exact BK168.out⟩, ⟨by repeat (first | (with_reducible first | exact HB.out | apply yQ | apply yL | apply yP | refine yE ?_ GE168.out) | exact HB.out)⟩⟩
  case rest =>
    clear HC2; try clear c1; try clear p2; try clear c4; try clear c4b0; try clear c4b1; try clear c4b2; try clear hcz5_0; try clear hcz5_1; try clear hcz6_0; try clear hcz6_1; try clear hfz5_0; try clear hfz5_1; try clear hfz6_0; try clear hfz6_1
    obtain ⟨kq, x17_1, rfl, HA, HJ1, BK168, HB⟩ := hcut
    cases kq with
    | zero => exact absurd HA.out (by simp [impl_ValidBox.j0])
    | succ kj1 =>
      have H := HA.out; clear HA
      simp only [impl_ValidBox.j0] at H
      by_cases c7 : x17_1 = true
      · subst c7
        have H1 : (some false) = some r := by rw [if_pos rfl] at H; exact H
        clear H; have H := H1; clear H1; obtain rfl := Option.some.inj H
        go_wp2
        go_ret
        exact ⟨by first | rfl | (simp [errW_none, errW_some] <;> rfl) | (simp [*, errW_none, errW_some] <;> rfl), by repeat (first | (with_reducible first | exact HB.out | apply yQ | apply yL | apply yP | refine yE ?_ GE168.out) | exact HB.out)⟩
      · replace c7 := Bool.eq_false_iff.mpr c7
        subst c7
        have H1 : (impl_ValidBox.l0 kj1 l0_0 (l0_0.length : Int) 0 l0_0 l0_1) = some r := by rw [if_neg (show ¬ (false = true) by decide)] at H; exact H
        clear H; have H := H1; clear H1
        have H' := yD H
        clear H
        have hcz8_0 : wc.cell? ⟨gb168, 0, none⟩ = some (.slice A0_0 l0_0.length c0_0) := (yG BK168.out 0).trans rfl
        have hcz8_1 : wc.cell? ⟨gb168, 1, none⟩ = some (.slice A0_1 l0_1.length c0_1) := (yG BK168.out 1).trans rfl
        have hfz8_0 := yR BK168.out 0
        have hfz8_1 := yR BK168.out 1
        go_wp2
        go_loopg [21] kj1 (fun kq v21 w' => ∃ (x21_2 : Int), v21 = .int .i64 x21_2 ∧ Aside0 (impl_ValidBox.l0 kq l0_0 (l0_0.length : Int) x21_2 l0_0 l0_1 = some r) ∧ Aside0 (kq ≤ kj1) ∧ Aside0 (w'.heap[gb168]? = some (.cells #[(.slice A0_0 l0_0.length c0_0), (.slice A0_1 l0_1.length c0_1)] 42 (0, 0))) ∧ Aside0 (Below w.heap.size w w'))
        case atStart => exact ⟨(0), (by first | rfl | (simp; done) | (simp [*]; done)), H', ⟨Nat.le_refl _⟩, ⟨by (with_reducible repeat (first | refine yM ?_ _ | refine yO ?_ | refine yN ?_ _)); exact BK168.out⟩, ⟨by repeat (first | (with_reducible first | exact HB.out | apply yQ | apply yL | apply yP | refine yE ?_ GE168.out) | exact HB.out)⟩⟩
        case round =>
          clear H'
          try clear c1; try clear p2; try clear c4; try clear c4b0; try clear c4b1; try clear c4b2; try clear c7; try clear hcz5_0; try clear hcz5_1; try clear hcz6_0; try clear hcz6_1; try clear hcz8_0; try clear hcz8_1; try clear hfz5_0; try clear hfz5_1; try clear hfz6_0; try clear hfz6_1; try clear hfz8_0; try clear hfz8_1; try clear p2
          obtain ⟨x21_2, rfl, HA, HK2, BK168, HB⟩ := hrel
          cases gk with
          | zero => exact absurd HA.out (by simp [impl_ValidBox.l0])
          | succ k2 =>
            have H := HA.out; clear HA
            simp only [impl_ValidBox.l0] at H
            by_cases c9 : x21_2 < (l0_0.length : Int)
            · rw [if_pos c9] at H
              have c9b0 : decide (x21_2 < (l0_0.length : Int)) = true := zR c9; clear c9
              by_cases c10 : 0 ≤ x21_2
              · rw [if_pos c10] at H
                have c10b0 : decide (0 ≤ x21_2) = true := zR c10; clear c10
                by_cases c11 : x21_2 < (l0_0.length : Int)
                · rw [if_pos c11] at H
                  have c11b0 : decide (x21_2 < (l0_0.length : Int)) = true := zR c11; clear c11
                  by_cases c12 : (rd l0_0 x21_2) < 0
                  · rw [if_pos c12] at H
                    have c12b0 : decide ((rd l0_0 x21_2) < 0) = true := zR c12; clear c12; obtain rfl := Option.some.inj H
                    have p169 : 0 ≤ (x21_2 : Int) := zP (by assumption)
                    have q169 : x21_2 < (l0_0.length : Int) := zP (by assumption)
                    obtain ⟨ad169, e169, hx169_0⟩ := Kd.at_int HR0_0.out x21_2 p169 q169
                    cases e169
                    replace hx169_0 := (HB.out.cell (zQ w _ hx169_0)).trans hx169_0
                    replace p169 := eq_true p169; replace q169 := eq_true q169
                    go_wp2
                    go_ret
                    exact ⟨by first | rfl | (simp [errW_none, errW_some] <;> rfl) | (simp [*, errW_none, errW_some] <;> rfl), by repeat (first | (with_reducible first | exact HB.out | apply yQ | apply yL | apply yP | refine yE ?_ GE168.out) | exact HB.out)⟩
                  · rw [if_neg c12] at H
                    have c12b0 : decide ((rd l0_0 x21_2) < 0) = false := zS c12; clear c12
                    by_cases c13 : x21_2 < (l0_1.length : Int)
                    · rw [if_pos c13] at H
                      have c13b0 : decide (x21_2 < (l0_1.length : Int)) = true := zR c13; clear c13
                      by_cases c14 : (rd l0_0 x21_2) ≥ (rd l0_1 x21_2)
                      · rw [if_pos c14] at H
                        have c14b0 : decide ((rd l0_1 x21_2) ≤ (rd l0_0 x21_2)) = true := zR c14; clear c14; obtain rfl := Option.some.inj H
                        have p169 : 0 ≤ (x21_2 : Int) := zP (by assumption)
                        have q169 : x21_2 < (l0_0.length : Int) := zP (by assumption)
                        obtain ⟨ad169, e169, hx169_0⟩ := Kd.at_int HR0_0.out x21_2 p169 q169
                        cases e169
                        replace hx169_0 := (HB.out.cell (zQ w _ hx169_0)).trans hx169_0
                        replace p169 := eq_true p169; replace q169 := eq_true q169
                        have hcz15_0 : wr.cell? ⟨gb168, 0, none⟩ = some (.slice (some ad169) l0_0.length c0_0) := (yG BK168.out 0).trans rfl
                        have hcz15_1 : wr.cell? ⟨gb168, 1, none⟩ = some (.slice A0_1 l0_1.length c0_1) := (yG BK168.out 1).trans rfl
                        have hfz15_0 := yR BK168.out 0
                        have hfz15_1 := yR BK168.out 1
                        have p170 : 0 ≤ (x21_2 : Int) := zP (by assumption)
                        have q170 : x21_2 < (l0_1.length : Int) := zP (by assumption)
                        obtain ⟨ad170, e170, hx170_0⟩ := Kd.at_int HR0_1.out x21_2 p170 q170
                        cases e170
                        replace hx170_0 := (HB.out.cell (zQ w _ hx170_0)).trans hx170_0
                        replace p170 := eq_true p170; replace q170 := eq_true q170
                        go_wp2
                        go_ret
                        exact ⟨by first | rfl | (simp [errW_none, errW_some] <;> rfl) | (simp [*, errW_none, errW_some] <;> rfl), by repeat (first | (with_reducible first | exact HB.out | apply yQ | apply yL | apply yP | refine yE ?_ GE168.out) | exact HB.out)⟩
                      · rw [if_neg c14] at H
                        have c14b0 : decide ((rd l0_1 x21_2) ≤ (rd l0_0 x21_2)) = false := zS c14; clear c14
                        by_cases c16 : (rd l0_1 x21_2) > 40
                        · rw [if_pos c16] at H
                          have c16b0 : decide (40 < (rd l0_1 x21_2)) = true := zR c16; clear c16; obtain rfl := Option.some.inj H
                          have p169 : 0 ≤ (x21_2 : Int) := zP (by assumption)
                          have q169 : x21_2 < (l0_0.length : Int) := zP (by assumption)
                          obtain ⟨ad169, e169, hx169_0⟩ := Kd.at_int HR0_0.out x21_2 p169 q169
                          cases e169
                          replace hx169_0 := (HB.out.cell (zQ w _ hx169_0)).trans hx169_0
                          replace p169 := eq_true p169; replace q169 := eq_true q169
                          have hcz17_0 : wr.cell? ⟨gb168, 0, none⟩ = some (.slice (some ad169) l0_0.length c0_0) := (yG BK168.out 0).trans rfl
                          have hcz17_1 : wr.cell? ⟨gb168, 1, none⟩ = some (.slice A0_1 l0_1.length c0_1) := (yG BK168.out 1).trans rfl
                          have hfz17_0 := yR BK168.out 0
                          have hfz17_1 := yR BK168.out 1
                          have p170 : 0 ≤ (x21_2 : Int) := zP (by assumption)
                          have q170 : x21_2 < (l0_1.length : Int) := zP (by assumption)
                          obtain ⟨ad170, e170, hx170_0⟩ := Kd.at_int HR0_1.out x21_2 p170 q170
                          cases e170
                          replace hx170_0 := (HB.out.cell (zQ w _ hx170_0)).trans hx170_0
                          replace p170 := eq_true p170; replace q170 := eq_true q170
                          have p171 : 0 ≤ (x21_2 : Int) := zP (by assumption)
                          have q171 : x21_2 < (l0_1.length : Int) := zP (by assumption)
                          obtain ⟨ad171, e171, hx171_0⟩ := Kd.at_int HR0_1.out x21_2 p171 q171
                          obtain rfl : ad170 = ad171 := (by injection e171)
                          replace hx171_0 := (HB.out.cell (zQ w _ hx171_0)).trans hx171_0
                          replace p171 := eq_true p171; replace q171 := eq_true q171
                          go_wp2
                          go_ret
                          exact ⟨by first | rfl | (simp [errW_none, errW_some] <;> rfl) | (simp [*, errW_none, errW_some] <;> rfl), by repeat (first | (with_reducible first | exact HB.out | apply yQ | apply yL | apply yP | refine yE ?_ GE168.out) | exact HB.out)⟩
                        · rw [if_neg c16] at H
                          have c16b0 : decide (40 < (rd l0_1 x21_2)) = false := zS c16; clear c16
                          have H' := yD H
                          clear H
                          have p169 : 0 ≤ (x21_2 : Int) := zP (by assumption)
                          have q169 : x21_2 < (l0_0.length : Int) := zP (by assumption)
                          obtain ⟨ad169, e169, hx169_0⟩ := Kd.at_int HR0_0.out x21_2 p169 q169
                          cases e169
                          replace hx169_0 := (HB.out.cell (zQ w _ hx169_0)).trans hx169_0
                          replace p169 := eq_true p169; replace q169 := eq_true q169
                          have hcz18_0 : wr.cell? ⟨gb168, 0, none⟩ = some (.slice (some ad169) l0_0.length c0_0) := (yG BK168.out 0).trans rfl
                          have hcz18_1 : wr.cell? ⟨gb168, 1, none⟩ = some (.slice A0_1 l0_1.length c0_1) := (yG BK168.out 1).trans rfl
                          have hfz18_0 := yR BK168.out 0
                          have hfz18_1 := yR BK168.out 1
                          have p170 : 0 ≤ (x21_2 : Int) := zP (by assumption)
                          have q170 : x21_2 < (l0_1.length : Int) := zP (by assumption)
                          obtain ⟨ad170, e170, hx170_0⟩ := Kd.at_int HR0_1.out x21_2 p170 q170
                          cases e170
                          replace hx170_0 := (HB.out.cell (zQ w _ hx170_0)).trans hx170_0
                          replace p170 := eq_true p170; replace q170 := eq_true q170
                          have p171 : 0 ≤ (x21_2 : Int) := zP (by assumption)
                          have q171 : x21_2 < (l0_1.length : Int) := zP (by assumption)
                          obtain ⟨ad171, e171, hx171_0⟩ := Kd.at_int HR0_1.out x21_2 p171 q171
                          obtain rfl : ad170 = ad171 := (by injection e171)
                          replace hx171_0 := (HB.out.cell (zQ w _ hx171_0)).trans hx171_0
                          replace p171 := eq_true p171; replace q171 := eq_true q171
                          go_wp2
                          go_roundg k2
                          case measure => have := HJ1.out; have := HK2.out; omega
                          case rel => exact ⟨(wrap64 (x21_2 + 1)), (by first | rfl | (simp; done) | (simp [*]; done)), H', ⟨by have := HJ1.out; have := HK2.out; omega⟩, ⟨by (with_reducible repeat (first | refine yM ?_ _ | refine yO ?_ | refine yN ?_ _)); exact BK168.out⟩, ⟨by repeat (first | (with_reducible first | exact HB.out | apply yQ | apply yL | apply yP | refine yE ?_ GE168.out) | exact HB.out)⟩⟩
                    · rw [if_neg c13] at H
                      exact absurd H (by simp)
                · rw [if_neg c11] at H
                  exact absurd H (by simp)
              · rw [if_neg c10] at H
                exact absurd H (by simp)
            · rw [if_neg c9] at H
              have c9b0 : decide (x21_2 < (l0_0.length : Int)) = false := zS c9; clear c9; obtain rfl := Option.some.inj H
              go_wp2
              go_ret
              exact ⟨by first | rfl | (simp [errW_none, errW_some] <;> rfl) | (simp [*, errW_none, errW_some] <;> rfl), by repeat (first | (with_reducible first | exact HB.out | apply yQ | apply yL | apply yP | refine yE ?_ GE168.out) | exact HB.out)⟩

/-! ### impl_boxesOk_1: function 103 -/
def impl_boxesOk_1.f (k : Nat) (l0_0 : List Int) (l0_1 : List Int) (l1_0 : List (S42)) : Option (Bool) := (impl_ValidBox.f k l0_0 l0_1).bind fun t173 => (if t173 = true then (if 0 < (l1_0.length : Int) then (some ((l0_0.length : Int) != (((rd_T42 l1_0 0).f0).length : Int))) else (none)) else (some true))
theorem impl_boxesOk_1.mono : ∀ a0 a1 a2 k, LeO (impl_boxesOk_1.f k a0 a1 a2) (impl_boxesOk_1.f (k + 1) a0 a1 a2) := by
  intro a0 a1 a2 k
  unfold impl_boxesOk_1.f
  repeat' first
      | (with_reducible exact impl_ValidBox.mono _ _ _)
      | (with_reducible exact LeO.refl _)
      | (with_reducible exact LeO.none _)
      | (with_reducible refine LeO.ite ?_ ?_)
      | (with_reducible refine LeO.bind ?_ (fun _ => ?_))
      | exact impl_ValidBox.mono _ _ _
      | exact LeO.none _
      | refine LeO.ite ?_ ?_
      | refine LeO.bind ?_ (fun _ => ?_)
def impl_boxesOk_1.T1 : Bool × List (List Nat × List Nat) := (true, [([], []), ([0], [0]), ([1], [1]), ([2, 1], [2]), ([3], [3]), ([4, 3], [3, 4]), ([5, 3], [3, 5]), ([3], [3]), ([7, 3], [3, 7]), ([8, 3], [3, 8]), ([9, 3], [3, 9]), ([10, 3], [3, 10]), ([6, 11, 3], [3, 6, 11]), ([3, 12], [3, 12]), ([13, 3, 0, 1, 2, 3, 4, 5, 6, 7, 8, 9, 10, 11, 12, 13], [13])])
def impl_boxesOk_1.B1 : List Nat := [0, 1, 3, 7, 15, 31, 63, 15, 143, 399, 911, 1935, 4095, 8191, 16383]
theorem impl_boxesOk_1.tab1 : rtab .any (opsOf Try.f103 1) = impl_boxesOk_1.T1 := by kernel_rfl
theorem impl_boxesOk_1.bits1 : waitsOk impl_boxesOk_1.T1.2 impl_boxesOk_1.B1 = true := by kernel_rfl
set_option maxHeartbeats 8000000 in
set_option maxRecDepth 100000 in
theorem impl_boxesOk_1.calls (k : Nat) (A0_0 : Option Addr) (c0_0 : Nat) (l0_0 : List Int) (A0_1 : Option Addr) (c0_1 : Nat) (l0_1 : List Int) (g1_0 : Nat) (A1_0 : Option Addr) (c1_0 : Nat) (l1_0 : List (S42)) (r : Bool) (w : World) (hr0_0 : Kd.C (Kd.int .i64) w A0_0 l0_0.length l0_0) (hc0_0 : l0_0.length ≤ c0_0) (hr0_1 : Kd.C (Kd.int .i64) w A0_1 l0_1.length l0_1) (hc0_1 : l0_1.length ≤ c0_1) (hr1_0 : Kd.C k42 w A1_0 l1_0.length l1_0) (hc1_0 : l1_0.length ≤ c1_0) (hb1_0 : w.heap[g1_0]? = some (.cells #[.slice A1_0 l1_0.length c1_0] 24 (0, 0))) (h : impl_boxesOk_1.f k l0_0 l0_1 l1_0 = some r) :
    Calls Try.prog 103 #[.agg #[.slice A0_0 l0_0.length c0_0, .slice A0_1 l0_1.length c0_1], .pointer (some ⟨g1_0, 0, none⟩)] w fun e w' => e = .returned (.bool r) ∧ Below w.heap.size w w' := by
  have hu42 := Try.underlying42
  have HR0_0 := yD hr0_0
  have HC0_0 := yD hc0_0
  clear hr0_0 hc0_0
  have HR0_1 := yD hr0_1
  have HC0_1 := yD hc0_1
  clear hr0_1 hc0_1
  have HR1_0 := yD hr1_0
  have HC1_0 := yD hc1_0
  clear hr1_0 hc1_0
  have BK48 := yD hb1_0
  clear hb1_0
  have HB := yD (Below.refl w.heap.size w)
  have H : ((impl_ValidBox.f k l0_0 l0_1).bind fun t173 => (if t173 = true then (if 0 < (l1_0.length : Int) then (some ((l0_0.length : Int) != (((rd_T42 l1_0 0).f0).length : Int))) else (none)) else (some true))) = some r := h
  clear h
  replace H := Option.bind_eq_some_iff.mp H
  obtain ⟨t173, A30, H⟩ := H
  replace H : (if t173 = true then (if 0 < (l1_0.length : Int) then (some ((l0_0.length : Int) != (((rd_T42 l1_0 0).f0).length : Int))) else (none)) else (some true)) = some r := H
  have A3 := yD A30
  clear A30
  by_cases c4 : t173 = true
  · subst c4
    have H1 : (if 0 < (l1_0.length : Int) then (some ((l0_0.length : Int) != (((rd_T42 l1_0 0).f0).length : Int))) else (none)) = some r := by rw [if_pos rfl] at H; exact H
    clear H; have H := H1; clear H1
    by_cases c5 : 0 < (l1_0.length : Int)
    · rw [if_pos c5] at H
      have c5b0 : decide (0 < (l1_0.length : Int)) = true := zR c5
      have c5b1 : decide (0 < l1_0.length) = true := zR (by omega)
      clear c5; obtain rfl := Option.some.inj H; go_enter Try.func103, Try.ntmps103
      try go_wp2_with (first | ((with_reducible refine gate_dst (N := 2) rfl ?_); (try (refine gate_guard (by rfl) ?_; dsimp only)); refine box_event ?hg (N := 2) ?hd (cs := #[.slice A0_0 l0_0.length c0_0, .slice A0_1 l0_1.length c0_1]) (t := 42) ?hr ?_; (case hd => rfl); (case hg => rfl); (case hr => first | (go_simp; done) | (go_simp; rfl)); intro gb172 hg w6 hbox hb; have n0_ := yD (zB (g := g1_0) (o := .cells #[.slice A1_0 l1_0.length c1_0] 24 (0, 0)) (by (with_reducible repeat (first | refine yM ?_ _ | refine yO ?_ | refine yN ?_ _)); exact BK48.out) hb); have n1_ := yD (zC (by repeat (first | (with_reducible first | exact HB.out | apply yQ | apply yL | apply yP | refine yE ?_ GE48.out) | exact HB.out)) hb); have n2_ := yD (hbox); have n3_ := yD ((by rw [hg]; exact (below_size (by repeat (first | (with_reducible first | exact HB.out | apply yQ | apply yL | apply yP | refine yE ?_ GE48.out) | exact HB.out))) : w.heap.size ≤ gb172)); have n4_ := yD ((by rw [hg]; exact (below_size (by repeat (first | (with_reducible first | exact HB.out | apply yQ | apply yL | apply yP | refine yE ?_ GE48.out) | exact HB.out))) : w.heap.size ≤ gb172)); have n5_ := yD ((by rw [hg]; exact Nat.ne_of_lt (blk_lt (g := g1_0) (o := .cells #[.slice A1_0 l1_0.length c1_0] 24 (0, 0)) (by (with_reducible repeat (first | refine yM ?_ _ | refine yO ?_ | refine yN ?_ _)); exact BK48.out)) : g1_0 ≠ gb172)); have n6_ := yD ((by rw [hg]; exact Nat.ne_of_gt (blk_lt (g := g1_0) (o := .cells #[.slice A1_0 l1_0.length c1_0] 24 (0, 0)) (by (with_reducible repeat (first | refine yM ?_ _ | refine yO ?_ | refine yN ?_ _)); exact BK48.out)) : gb172 ≠ g1_0)); clear BK48; clear HB; have BK48 := n0_; have HB := n1_; have BK172 := n2_; have GW172 := n3_; have GE172 := n4_; have NB48_172 := n5_; have NB172_48 := n6_; clear n0_ n1_ n2_ n3_ n4_ n5_ n6_; clear hb hbox hg))
      have n0_ := yD (yO BK48.out)
      have n1_ := yD (yO BK172.out)
      have n2_ := yD (yP HB.out)
      clear BK48 BK172 HB; have BK48 := n0_; have BK172 := n1_; have HB := n2_; clear n0_ n1_ n2_
      have p174 : 0 ≤ (0 : Int) := (by omega)
      have q174 : 0 < (l1_0.length : Int) := zP (by assumption)
      obtain ⟨ad174, A174_0, c174_0, A174_1, c174_1, e174, hx174_0, hx174_1, hl174_0, hi174_0, hl174_1, hi174_1⟩ := at_T42 HR1_0.out 0 p174 q174
      have hw174_1 := hx174_1
      (try rw [show ((0 : Int)).toNat = 0 from rfl] at hw174_1)
      (try rw [show 0 * 2 = 0 from rfl] at hw174_1)
      (try rw [Addr.add_zero'] at hw174_1)
      have hw174_0 := hx174_0
      (try rw [show ((0 : Int)).toNat = 0 from rfl] at hw174_0)
      (try rw [show 0 * 2 = 0 from rfl] at hw174_0)
      (try rw [Addr.add_zero'] at hw174_0)
      cases e174
      have qi174 : (0 < l1_0.length) = True := eq_true (by omega)
      (try rw [show ((0 : Int)).toNat = 0 from rfl] at hx174_0)
      (try rw [show 0 * 2 = 0 from rfl] at hx174_0)
      (try rw [Addr.add_zero'] at hx174_0)
      (try rw [show ((0 : Int)).toNat = 0 from rfl] at hx174_1)
      (try rw [show 0 * 2 = 0 from rfl] at hx174_1)
      (try rw [Addr.add_zero'] at hx174_1)
      replace hx174_0 := (HB.out.cell (zQ w _ hx174_0)).trans hx174_0
      replace hx174_1 := (HB.out.cell (zQ w _ hx174_1)).trans hx174_1
      have HR174_0 := yD hi174_0
      have HC174_0 := yD hl174_0
      clear hi174_0 hl174_0
      have HR174_1 := yD hi174_1
      have HC174_1 := yD hl174_1
      clear hi174_1 hl174_1; replace p174 := eq_true p174; replace q174 := eq_true q174
      refine start_ (n := 15) (S := fun w' => w'.cell? ⟨gb172, 0, none⟩ = some (.slice A0_0 l0_0.length c0_0) ∧ w'.cell? ⟨gb172, 1, none⟩ = some (.slice A0_1 l0_1.length c0_1) ∧ w'.cell? ⟨g1_0, 0, none⟩ = some (.slice (some ad174) l1_0.length c1_0) ∧ w'.cell? ad174 = some (.slice A174_0 ((rd_T42 l1_0 0).f0).length c174_0) ∧ w'.cell? ⟨ad174.block, ad174.off + 1, none⟩ = some (.slice A174_1 ((rd_T42 l1_0 0).f1).length c174_1)) (ds := []) #[false, false, false, false, false, false, false, false, false, false, false, false, false, false, false] (by kernel_rfl) rfl rfl ⟨(yG BK172.out 0).trans rfl, (yG BK172.out 1).trans rfl, (yG BK48.out 0).trans rfl, ((HB.out.cell (zQ w _ hw174_0)).trans hw174_0), ((HB.out.cell (zQ w _ hw174_1)).trans hw174_1)⟩ (fun hHeld => ?_); refine with_tabW impl_boxesOk_1.tab1 impl_boxesOk_1.bits1 (fun HT_ HW_ => ?_)
      generalize w6.drew = w7 at BK48 BK172 HB HR174_0 HR174_1 hx174_0 hx174_1 hHeld ⊢
      refine take_ (i := 0) (N := some 4) (v := ?_) (a' := ?_) #[true, false, false, false, false, false, false, false, false, false, false, false, false, false, false] rfl rfl (take_ofW HT_.out HW_.out (by kernel_rfl)) (fun _ _ _ h => h) (Or.inl ⟨by rfl, ?_⟩) hHeld ?_ ?_
      rotate_left
      · rintro w' ⟨s0, s1, s2, s3, s4⟩
        go_simp
        with_reducible rfl
      rotate_left
      · simp only [Act.put, zH, zI, zJ, i64_w, i32_w]
        rfl
      refine one_ (i := 1) (N := some 5) #[true, true, false, false, false, false, false, false, false, false, false, false, false, false, false] rfl rfl (one_of HT_.out (by kernel_rfl)) (by decide) (fun K hK => ?_)
      refine goes_ Try.func104 (by kernel_rfl) rfl #[.agg #[.slice A0_0 l0_0.length c0_0, .slice A0_1 l0_1.length c0_1]] (by rfl) rfl rfl (by (try simp only [zK, zL, zM]); first | done | rfl | (simp only [zN, zO]; rfl)) ?_
      with_reducible refine (impl_ValidBox.calls k _ _ l0_0 _ _ l0_1 true _ ?side1 ?side2 ?side3 ?side4 A3.out).mono ?_
      (case side1 => repeat (first | exact (yY HR0_0.out HB.out) | (with_reducible first | refine yV ?_ _ | refine yW ?_ _ | refine yX ?_)))
      (case side2 => exact HC0_0.out)
      (case side3 => repeat (first | exact (yY HR0_1.out HB.out) | (with_reducible first | refine yV ?_ _ | refine yW ?_ _ | refine yX ?_)))
      (case side4 => exact HC0_1.out)
      rintro e w8 ⟨rfl, hb⟩
      refine ⟨_, rfl, ?_⟩
      have n0_ := yD (zB (g := g1_0) (o := .cells #[.slice (some ad174) l1_0.length c1_0] 24 (0, 0)) (by (with_reducible repeat (first | refine yM ?_ _ | refine yO ?_ | refine yN ?_ _)); exact BK48.out) hb)
      have n1_ := yD (zB (g := gb172) (o := .cells #[.slice A0_0 l0_0.length c0_0, .slice A0_1 l0_1.length c0_1] 42 (0, 0)) (by (with_reducible repeat (first | refine yM ?_ _ | refine yO ?_ | refine yN ?_ _)); exact BK172.out) hb)
      have n2_ := yD (zC (by repeat (first | (with_reducible first | exact HB.out | apply yQ | apply yL | apply yP | refine yE ?_ GE48.out | refine yE ?_ GE172.out) | exact HB.out)) hb)
      clear BK48 BK172 HB; have BK48 := n0_; have BK172 := n1_; have HB := n2_; clear n0_ n1_ n2_; (try clear hb); (try clear hb2); (try clear hk); (try clear hi)
      refine hK.out _ _ ⟨(yG BK172.out 0).trans rfl, (yG BK172.out 1).trans rfl, (yG BK48.out 0).trans rfl, ((HB.out.cell (zQ w _ hw174_0)).trans hw174_0), ((HB.out.cell (zQ w _ hw174_1)).trans hw174_1)⟩ (fun hHeld => ?_)
      clear hK K
      refine norm_ (a' := ?_) ?_ ?_
      rotate_left
      · show Act.put _ (some 5) _ = _
        simp only [Act.put, zH, zI, zJ, i64_w, i32_w]
        rfl
      refine pure_ (i := 2) (N := some 6) (v := ?_) (a' := ?_) #[true, true, true, false, false, false, false, false, false, false, false, false, false, false, false] rfl rfl (any_of HT_.out (by kernel_rfl)) (fun _ _ _ h => h) (Or.inl ⟨by rfl, ?_⟩) ?_ ?_
      rotate_left
      · intro w'
        go_simp
        with_reducible rfl
      rotate_left
      · simp only [Act.put, zH, zI, zJ, i64_w, i32_w]
        rfl
      refine pure_ (i := 3) (N := some 7) (v := ?_) (a' := ?_) #[true, true, true, true, false, false, false, false, false, false, false, false, false, false, false] rfl rfl (any_of HT_.out (by kernel_rfl)) (fun _ _ _ h => h) (Or.inl ⟨by rfl, ?_⟩) ?_ ?_
      rotate_left
      · intro w'
        go_simp
        with_reducible rfl
      rotate_left
      · simp only [Act.put, zH, zI, zJ, i64_w, i32_w]
        rfl
      refine pure_ (i := 4) (N := some 8) (v := ?_) (a' := ?_) #[true, true, true, true, true, false, false, false, false, false, false, false, false, false, false] rfl rfl (any_of HT_.out (by kernel_rfl)) (fun _ _ _ h => h) (Or.inl ⟨by rfl, ?_⟩) ?_ ?_
      rotate_left
      · intro w'
        go_simp
        with_reducible rfl
      rotate_left
      · simp only [Act.put, zH, zI, zJ, i64_w, i32_w]
        rfl
      refine take_ (i := 5) (N := some 9) (v := ?_) (a' := ?_) #[true, true, true, true, true, true, false, false, false, false, false, false, false, false, false] rfl rfl (take_ofW HT_.out HW_.out (by kernel_rfl)) (fun _ _ _ h => h) (Or.inl ⟨by rfl, ?_⟩) hHeld ?_ ?_
      rotate_left
      · rintro w' ⟨s0, s1, s2, s3, s4⟩
        go_simp
        with_reducible rfl
      rotate_left
      · simp only [Act.put, zH, zI, zJ, i64_w, i32_w]
        rfl
      refine pure_ (i := 6) (N := some 10) (v := ?_) (a' := ?_) #[true, true, true, true, true, true, true, false, false, false, false, false, false, false, false] rfl rfl (any_of HT_.out (by kernel_rfl)) (fun _ _ _ h => h) (Or.inl ⟨by rfl, ?_⟩) ?_ ?_
      rotate_left
      · intro w'
        go_simp
        with_reducible rfl
      rotate_left
      · simp only [Act.put, zH, zI, zJ, i64_w, i32_w]
        rfl
      refine take_ (i := 7) (N := some 11) (v := ?_) (a' := ?_) #[true, true, true, true, true, true, true, true, false, false, false, false, false, false, false] rfl rfl (take_ofW HT_.out HW_.out (by kernel_rfl)) (fun _ _ _ h => h) (Or.inl ⟨by rfl, ?_⟩) hHeld ?_ ?_
      rotate_left
      · rintro w' ⟨s0, s1, s2, s3, s4⟩
        go_simp
        with_reducible rfl
      rotate_left
      · simp only [Act.put, zH, zI, zJ, i64_w, i32_w]
        rfl
      refine pure_ (i := 8) (N := some 12) (v := ?_) (a' := ?_) #[true, true, true, true, true, true, true, true, true, false, false, false, false, false, false] rfl rfl (any_of HT_.out (by kernel_rfl)) (fun _ _ _ h => h) (Or.inl ⟨by rfl, ?_⟩) ?_ ?_
      rotate_left
      · intro w'
        go_simp
        with_reducible rfl
      rotate_left
      · simp only [Act.put, zH, zI, zJ, i64_w, i32_w]
        rfl
      refine pure_ (i := 9) (N := some 13) (v := ?_) (a' := ?_) #[true, true, true, true, true, true, true, true, true, true, false, false, false, false, false] rfl rfl (any_of HT_.out (by kernel_rfl)) (fun _ _ _ h => h) (Or.inl ⟨by rfl, ?_⟩) ?_ ?_
      rotate_left
      · intro w'
        go_simp
        with_reducible rfl
      rotate_left
      · simp only [Act.put, zH, zI, zJ, i64_w, i32_w]
        rfl
      refine take_ (i := 10) (N := some 14) (v := ?_) (a' := ?_) #[true, true, true, true, true, true, true, true, true, true, true, false, false, false, false] rfl rfl (take_ofW HT_.out HW_.out (by kernel_rfl)) (fun _ _ _ h => h) (Or.inl ⟨by rfl, ?_⟩) hHeld ?_ ?_
      rotate_left
      · rintro w' ⟨s0, s1, s2, s3, s4⟩
        go_simp
        with_reducible rfl
      rotate_left
      · simp only [Act.put, zH, zI, zJ, i64_w, i32_w]
        rfl
      refine pure_ (i := 11) (N := some 15) (v := ?_) (a' := ?_) #[true, true, true, true, true, true, true, true, true, true, true, true, false, false, false] rfl rfl (any_of HT_.out (by kernel_rfl)) (fun _ _ _ h => h) (Or.inl ⟨by rfl, ?_⟩) ?_ ?_
      rotate_left
      · intro w'
        go_simp
        with_reducible rfl
      rotate_left
      · simp only [Act.put, zH, zI, zJ, i64_w, i32_w]
        rfl
      refine pure_ (i := 12) (N := some 16) (v := ?_) (a' := ?_) #[true, true, true, true, true, true, true, true, true, true, true, true, true, false, false] rfl rfl (any_of HT_.out (by kernel_rfl)) (fun _ _ _ h => h) (Or.inl ⟨by rfl, ?_⟩) ?_ ?_
      rotate_left
      · intro w'
        go_simp
        with_reducible rfl
      rotate_left
      · simp only [Act.put, zH, zI, zJ, i64_w, i32_w]
        rfl
      refine pure_ (i := 13) (N := some 17) (v := ?_) (a' := ?_) #[true, true, true, true, true, true, true, true, true, true, true, true, true, true, false] rfl rfl (any_of HT_.out (by kernel_rfl)) (fun _ _ _ h => h) (Or.inl ⟨by rfl, ?_⟩) ?_ ?_
      rotate_left
      · intro w'
        go_simp
        with_reducible rfl
      rotate_left
      · simp only [Act.put, zH, zI, zJ, i64_w, i32_w]
        rfl
      refine pure_ (i := 14) (N := some 3) (v := ?_) (a' := ?_) #[true, true, true, true, true, true, true, true, true, true, true, true, true, true, true] rfl rfl (any_of HT_.out (by kernel_rfl)) (fun _ _ _ h => h) (Or.inl ⟨by rfl, ?_⟩) ?_ ?_
      rotate_left
      · intro w'
        go_simp
        with_reducible rfl
      rotate_left
      · simp only [Act.put, zH, zI, zJ, i64_w, i32_w]
        rfl
      refine done_ (done_of HT_.out (by kernel_rfl)) ?_
      try go_wp2
      go_ret
      exact ⟨by first | rfl | (simp [errW_none, errW_some] <;> rfl) | (simp [*, errW_none, errW_some] <;> rfl), by repeat (first | (with_reducible first | exact HB.out | apply yQ | apply yL | apply yP | refine yE ?_ GE48.out | refine yE ?_ GE172.out) | exact HB.out)⟩
    · rw [if_neg c5] at H
      exact absurd H (by simp)
  · replace c4 := Bool.eq_false_iff.mpr c4
    subst c4
    have H1 : (some true) = some r := by rw [if_neg (show ¬ (false = true) by decide)] at H; exact H
    clear H; have H := H1; clear H1; obtain rfl := Option.some.inj H; go_enter Try.func103, Try.ntmps103
    try go_wp2_with (first | ((with_reducible refine gate_dst (N := 2) rfl ?_); (try (refine gate_guard (by rfl) ?_; dsimp only)); refine box_event ?hg (N := 2) ?hd (cs := #[.slice A0_0 l0_0.length c0_0, .slice A0_1 l0_1.length c0_1]) (t := 42) ?hr ?_; (case hd => rfl); (case hg => rfl); (case hr => first | (go_simp; done) | (go_simp; rfl)); intro gb172 hg w9 hbox hb; have n0_ := yD (zB (g := g1_0) (o := .cells #[.slice A1_0 l1_0.length c1_0] 24 (0, 0)) (by (with_reducible repeat (first | refine yM ?_ _ | refine yO ?_ | refine yN ?_ _)); exact BK48.out) hb); have n1_ := yD (zC (by repeat (first | (with_reducible first | exact HB.out | apply yQ | apply yL | apply yP | refine yE ?_ GE48.out) | exact HB.out)) hb); have n2_ := yD (hbox); have n3_ := yD ((by rw [hg]; exact (below_size (by repeat (first | (with_reducible first | exact HB.out | apply yQ | apply yL | apply yP | refine yE ?_ GE48.out) | exact HB.out))) : w.heap.size ≤ gb172)); have n4_ := yD ((by rw [hg]; exact (below_size (by repeat (first | (with_reducible first | exact HB.out | apply yQ | apply yL | apply yP | refine yE ?_ GE48.out) | exact HB.out))) : w.heap.size ≤ gb172)); have n5_ := yD ((by rw [hg]; exact Nat.ne_of_lt (blk_lt (g := g1_0) (o := .cells #[.slice A1_0 l1_0.length c1_0] 24 (0, 0)) (by (with_reducible repeat (first | refine yM ?_ _ | refine yO ?_ | refine yN ?_ _)); exact BK48.out)) : g1_0 ≠ gb172)); have n6_ := yD ((by rw [hg]; exact Nat.ne_of_gt (blk_lt (g := g1_0) (o := .cells #[.slice A1_0 l1_0.length c1_0] 24 (0, 0)) (by (with_reducible repeat (first | refine yM ?_ _ | refine yO ?_ | refine yN ?_ _)); exact BK48.out)) : gb172 ≠ g1_0)); clear BK48; clear HB; have BK48 := n0_; have HB := n1_; have BK172 := n2_; have GW172 := n3_; have GE172 := n4_; have NB48_172 := n5_; have NB172_48 := n6_; clear n0_ n1_ n2_ n3_ n4_ n5_ n6_; clear hb hbox hg))
    have n0_ := yD (yO BK48.out)
    have n1_ := yD (yO BK172.out)
    have n2_ := yD (yP HB.out)
    clear BK48 BK172 HB; have BK48 := n0_; have BK172 := n1_; have HB := n2_; clear n0_ n1_ n2_
    refine start_ (n := 15) (S := fun w' => w'.cell? ⟨gb172, 0, none⟩ = some (.slice A0_0 l0_0.length c0_0) ∧ w'.cell? ⟨gb172, 1, none⟩ = some (.slice A0_1 l0_1.length c0_1)) (ds := []) #[false, false, false, false, false, false, false, false, false, false, false, false, false, false, false] (by kernel_rfl) rfl rfl ⟨(yG BK172.out 0).trans rfl, (yG BK172.out 1).trans rfl⟩ (fun hHeld => ?_); refine with_tabW impl_boxesOk_1.tab1 impl_boxesOk_1.bits1 (fun HT_ HW_ => ?_)
    generalize w9.drew = w10 at BK48 BK172 HB hHeld ⊢
    refine take_ (i := 0) (N := some 4) (v := ?_) (a' := ?_) #[true, false, false, false, false, false, false, false, false, false, false, false, false, false, false] rfl rfl (take_ofW HT_.out HW_.out (by kernel_rfl)) (fun _ _ _ h => h) (Or.inl ⟨by rfl, ?_⟩) hHeld ?_ ?_
    rotate_left
    · rintro w' ⟨s0, s1⟩
      go_simp
      with_reducible rfl
    rotate_left
    · simp only [Act.put, zH, zI, zJ, i64_w, i32_w]
      rfl
    refine one_ (i := 1) (N := some 5) #[true, true, false, false, false, false, false, false, false, false, false, false, false, false, false] rfl rfl (one_of HT_.out (by kernel_rfl)) (by decide) (fun K hK => ?_)
    refine goes_ Try.func104 (by kernel_rfl) rfl #[.agg #[.slice A0_0 l0_0.length c0_0, .slice A0_1 l0_1.length c0_1]] (by rfl) rfl rfl (by (try simp only [zK, zL, zM]); first | done | rfl | (simp only [zN, zO]; rfl)) ?_
    with_reducible refine (impl_ValidBox.calls k _ _ l0_0 _ _ l0_1 false _ ?side1 ?side2 ?side3 ?side4 A3.out).mono ?_
    (case side1 => repeat (first | exact (yY HR0_0.out HB.out) | (with_reducible first | refine yV ?_ _ | refine yW ?_ _ | refine yX ?_)))
    (case side2 => exact HC0_0.out)
    (case side3 => repeat (first | exact (yY HR0_1.out HB.out) | (with_reducible first | refine yV ?_ _ | refine yW ?_ _ | refine yX ?_)))
    (case side4 => exact HC0_1.out)
    rintro e w11 ⟨rfl, hb⟩
    refine ⟨_, rfl, ?_⟩
    have n0_ := yD (zB (g := g1_0) (o := .cells #[.slice A1_0 l1_0.length c1_0] 24 (0, 0)) (by (with_reducible repeat (first | refine yM ?_ _ | refine yO ?_ | refine yN ?_ _)); exact BK48.out) hb)
    have n1_ := yD (zB (g := gb172) (o := .cells #[.slice A0_0 l0_0.length c0_0, .slice A0_1 l0_1.length c0_1] 42 (0, 0)) (by (with_reducible repeat (first | refine yM ?_ _ | refine yO ?_ | refine yN ?_ _)); exact BK172.out) hb)
    have n2_ := yD (zC (by repeat (first | (with_reducible first | exact HB.out | apply yQ | apply yL | apply yP | refine yE ?_ GE48.out | refine yE ?_ GE172.out) | exact HB.out)) hb)
    clear BK48 BK172 HB; have BK48 := n0_; have BK172 := n1_; have HB := n2_; clear n0_ n1_ n2_; (try clear hb); (try clear hb2); (try clear hk); (try clear hi)
    refine hK.out _ _ ⟨(yG BK172.out 0).trans rfl, (yG BK172.out 1).trans rfl⟩ (fun hHeld => ?_)
    clear hK K
    refine norm_ (a' := ?_) ?_ ?_
    rotate_left
    · show Act.put _ (some 5) _ = _
      simp only [Act.put, zH, zI, zJ, i64_w, i32_w]
      rfl
    refine pure_ (i := 2) (N := some 6) (v := ?_) (a' := ?_) #[true, true, true, false, false, false, false, false, false, false, false, false, false, false, false] rfl rfl (any_of HT_.out (by kernel_rfl)) (fun _ _ _ h => h) (Or.inl ⟨by rfl, ?_⟩) ?_ ?_
    rotate_left
    · intro w'
      go_simp
      with_reducible rfl
    rotate_left
    · simp only [Act.put, zH, zI, zJ, i64_w, i32_w]
      rfl
    refine pure_ (i := 3) (N := some 7) (v := ?_) (a' := ?_) #[true, true, true, true, false, false, false, false, false, false, false, false, false, false, false] rfl rfl (any_of HT_.out (by kernel_rfl)) (fun _ _ _ h => h) (Or.inl ⟨by rfl, ?_⟩) ?_ ?_
    rotate_left
    · intro w'
      go_simp
      with_reducible rfl
    rotate_left
    · simp only [Act.put, zH, zI, zJ, i64_w, i32_w]
      rfl
    refine pure_ (i := 4) (N := some 8) (v := undef) (a' := ?_) #[true, true, true, true, true, false, false, false, false, false, false, false, false, false, false] rfl rfl (any_of HT_.out (by kernel_rfl)) (fun _ _ _ h => h) (Or.inr ⟨by rfl, rfl⟩) ?_ ?_
    rotate_left
    · simp only [Act.put, zH, zI, zJ, i64_w, i32_w]
      rfl
    refine pure_ (i := 5) (N := some 9) (v := undef) (a' := ?_) #[true, true, true, true, true, true, false, false, false, false, false, false, false, false, false] rfl rfl (any_of HT_.out (by kernel_rfl)) (fun _ _ _ h => h) (Or.inr ⟨by rfl, rfl⟩) ?_ ?_
    rotate_left
    · simp only [Act.put, zH, zI, zJ, i64_w, i32_w]
      rfl
    refine pure_ (i := 6) (N := some 10) (v := undef) (a' := ?_) #[true, true, true, true, true, true, true, false, false, false, false, false, false, false, false] rfl rfl (any_of HT_.out (by kernel_rfl)) (fun _ _ _ h => h) (Or.inr ⟨by rfl, rfl⟩) ?_ ?_
    rotate_left
    · simp only [Act.put, zH, zI, zJ, i64_w, i32_w]
      rfl
    refine pure_ (i := 7) (N := some 11) (v := undef) (a' := ?_) #[true, true, true, true, true, true, true, true, false, false, false, false, false, false, false] rfl rfl (any_of HT_.out (by kernel_rfl)) (fun _ _ _ h => h) (Or.inr ⟨by rfl, rfl⟩) ?_ ?_
    rotate_left
    · simp only [Act.put, zH, zI, zJ, i64_w, i32_w]
      rfl
    refine pure_ (i := 8) (N := some 12) (v := undef) (a' := ?_) #[true, true, true, true, true, true, true, true, true, false, false, false, false, false, false] rfl rfl (any_of HT_.out (by kernel_rfl)) (fun _ _ _ h => h) (Or.inr ⟨by rfl, rfl⟩) ?_ ?_
    rotate_left
    · simp only [Act.put, zH, zI, zJ, i64_w, i32_w]
      rfl
    refine pure_ (i := 9) (N := some 13) (v := undef) (a' := ?_) #[true, true, true, true, true, true, true, true, true, true, false, false, false, false, false] rfl rfl (any_of HT_.out (by kernel_rfl)) (fun _ _ _ h => h) (Or.inr ⟨by rfl, rfl⟩) ?_ ?_
    rotate_left
    · simp only [Act.put, zH, zI, zJ, i64_w, i32_w]
      rfl
    refine pure_ (i := 10) (N := some 14) (v := undef) (a' := ?_) #[true, true, true, true, true, true, true, true, true, true, true, false, false, false, false] rfl rfl (any_of HT_.out (by kernel_rfl)) (fun _ _ _ h => h) (Or.inr ⟨by rfl, rfl⟩) ?_ ?_
    rotate_left
    · simp only [Act.put, zH, zI, zJ, i64_w, i32_w]
      rfl
    refine pure_ (i := 11) (N := some 15) (v := undef) (a' := ?_) #[true, true, true, true, true, true, true, true, true, true, true, true, false, false, false] rfl rfl (any_of HT_.out (by kernel_rfl)) (fun _ _ _ h => h) (Or.inr ⟨by rfl, rfl⟩) ?_ ?_
    rotate_left
    · simp only [Act.put, zH, zI, zJ, i64_w, i32_w]
      rfl
    refine pure_ (i := 12) (N := some 16) (v := undef) (a' := ?_) #[true, true, true, true, true, true, true, true, true, true, true, true, true, false, false] rfl rfl (any_of HT_.out (by kernel_rfl)) (fun _ _ _ h => h) (Or.inr ⟨by rfl, rfl⟩) ?_ ?_
    rotate_left
    · simp only [Act.put, zH, zI, zJ, i64_w, i32_w]
      rfl
    refine pure_ (i := 13) (N := some 17) (v := ?_) (a' := ?_) #[true, true, true, true, true, true, true, true, true, true, true, true, true, true, false] rfl rfl (any_of HT_.out (by kernel_rfl)) (fun _ _ _ h => h) (Or.inl ⟨by rfl, ?_⟩) ?_ ?_
    rotate_left
    · intro w'
      go_simp
      with_reducible rfl
    rotate_left
    · simp only [Act.put, zH, zI, zJ, i64_w, i32_w]
      rfl
    refine pure_ (i := 14) (N := some 3) (v := ?_) (a' := ?_) #[true, true, true, true, true, true, true, true, true, true, true, true, true, true, true] rfl rfl (any_of HT_.out (by kernel_rfl)) (fun _ _ _ h => h) (Or.inl ⟨by rfl, ?_⟩) ?_ ?_
    rotate_left
    · intro w'
      go_simp
      with_reducible rfl
    rotate_left
    · simp only [Act.put, zH, zI, zJ, i64_w, i32_w]
      rfl
    refine done_ (done_of HT_.out (by kernel_rfl)) ?_
    try go_wp2
    go_ret
    exact ⟨by first | rfl | (simp [errW_none, errW_some] <;> rfl) | (simp [*, errW_none, errW_some] <;> rfl), by repeat (first | (with_reducible first | exact HB.out | apply yQ | apply yL | apply yP | refine yE ?_ GE48.out | refine yE ?_ GE172.out) | exact HB.out)⟩

/-! ### slices_IndexFunc_impl_boxesOk_1: function 105 -/
def slices_IndexFunc_impl_boxesOk_1.l0 : Nat → List (S42) → Int → Int → List (S42) → Option (Int)
  | 0, _, _, _, _ => none
  | k + 1, x0, x7, x8, x49000 => if x8 < x7 then (if 0 ≤ x8 then (if x8 < (x0.length : Int) then ((impl_boxesOk_1.f k ((rd_T42 x0 x8).f0) ((rd_T42 x0 x8).f1) x49000).bind fun t176 => (if t176 = true then (some x8) else (slices_IndexFunc_impl_boxesOk_1.l0 k x0 x7 (wrap64 (x8 + 1)) x49000))) else (none)) else (none)) else (some (-1))
def slices_IndexFunc_impl_boxesOk_1.f (k : Nat) (l0 : List (S42)) (l1_0 : List (S42)) : Option (Int) := slices_IndexFunc_impl_boxesOk_1.l0 k l0 (l0.length : Int) 0 l1_0
theorem slices_IndexFunc_impl_boxesOk_1.mono_l : ∀ k, (∀ y0 y1 y2 y3, LeO (slices_IndexFunc_impl_boxesOk_1.l0 k y0 y1 y2 y3) (slices_IndexFunc_impl_boxesOk_1.l0 (k + 1) y0 y1 y2 y3))
  | 0 => fun _ _ _ _ r h => by simp [slices_IndexFunc_impl_boxesOk_1.l0] at h
  | k + 1 => by
    have ih0 := slices_IndexFunc_impl_boxesOk_1.mono_l k
    · intro y0 y1 y2 y3
      unfold slices_IndexFunc_impl_boxesOk_1.l0
      repeat' first
      | (with_reducible exact ih0 _ _ _ _)
      | (with_reducible exact impl_boxesOk_1.mono _ _ _ _)
      | (with_reducible exact LeO.refl _)
      | (with_reducible exact LeO.none _)
      | (with_reducible refine LeO.ite ?_ ?_)
      | (with_reducible refine LeO.bind ?_ (fun _ => ?_))
      | exact ih0 _ _ _ _
      | exact impl_boxesOk_1.mono _ _ _ _
      | exact LeO.none _
      | refine LeO.ite ?_ ?_
      | refine LeO.bind ?_ (fun _ => ?_)
theorem slices_IndexFunc_impl_boxesOk_1.mono : ∀ a0 a1 k, LeO (slices_IndexFunc_impl_boxesOk_1.f k a0 a1) (slices_IndexFunc_impl_boxesOk_1.f (k + 1) a0 a1) := by
  intro a0 a1 k
  have ih0 := slices_IndexFunc_impl_boxesOk_1.mono_l k
  unfold slices_IndexFunc_impl_boxesOk_1.f
  repeat' first
      | (with_reducible exact ih0 _ _ _ _)
      | (with_reducible exact impl_boxesOk_1.mono _ _ _ _)
      | (with_reducible exact LeO.refl _)
      | (with_reducible exact LeO.none _)
      | (with_reducible refine LeO.ite ?_ ?_)
      | (with_reducible refine LeO.bind ?_ (fun _ => ?_))
      | exact ih0 _ _ _ _
      | exact impl_boxesOk_1.mono _ _ _ _
      | exact LeO.none _
      | refine LeO.ite ?_ ?_
      | refine LeO.bind ?_ (fun _ => ?_)
set_option maxHeartbeats 8000000 in
set_option maxRecDepth 100000 in
theorem slices_IndexFunc_impl_boxesOk_1.calls (k : Nat) (A0 : Option Addr) (c0 : Nat) (l0 : List (S42)) (g1_0 : Nat) (A1_0 : Option Addr) (c1_0 : Nat) (l1_0 : List (S42)) (r : Int) (w : World) (hr0 : Kd.C k42 w A0 l0.length l0) (hc0 : l0.length ≤ c0) (hr1_0 : Kd.C k42 w A1_0 l1_0.length l1_0) (hc1_0 : l1_0.length ≤ c1_0) (hb1_0 : w.heap[g1_0]? = some (.cells #[.slice A1_0 l1_0.length c1_0] 24 (0, 0))) (h : slices_IndexFunc_impl_boxesOk_1.f k l0 l1_0 = some r) :
    Calls Try.prog 105 #[.slice A0 l0.length c0, .func (.func 103) #[] #[.pointer (some ⟨g1_0, 0, none⟩)]] w fun e w' => e = .returned (.int .i64 r) ∧ Below w.heap.size w w' := by
  have hu42 := Try.underlying42
  have HR0 := yD hr0
  have HC0 := yD hc0
  clear hr0 hc0
  have HR1_0 := yD hr1_0
  have HC1_0 := yD hc1_0
  clear hr1_0 hc1_0
  have BK48 := yD hb1_0
  clear hb1_0
  have HB := yD (Below.refl w.heap.size w)
  have H : (slices_IndexFunc_impl_boxesOk_1.l0 k l0 (l0.length : Int) 0 l1_0) = some r := h
  clear h
  have H' := yD H
  clear H; go_enter Try.func105, Try.ntmps105
  go_wp2
  go_loopg [8] k (fun kq v8 w' => ∃ (x8_1 : Int), v8 = .int .i64 x8_1 ∧ Aside0 (slices_IndexFunc_impl_boxesOk_1.l0 kq l0 (l0.length : Int) x8_1 l1_0 = some r) ∧ Aside0 (kq ≤ k) ∧ Aside0 (w'.heap[g1_0]? = some (.cells #[(.slice A1_0 l1_0.length c1_0)] 24 (0, 0))) ∧ Aside0 (Below w.heap.size w w'))
  case atStart => exact ⟨(0), (by first | rfl | (simp; done) | (simp [*]; done)), H', ⟨Nat.le_refl _⟩, ⟨by (with_reducible repeat (first | refine yM ?_ _ | refine yO ?_ | refine yN ?_ _)); exact BK48.out⟩, ⟨by repeat (first | (with_reducible first | exact HB.out | apply yQ | apply yL | apply yP | refine yE ?_ GE48.out) | exact HB.out)⟩⟩
  case round =>
    clear H'
    try clear c1; try clear p2
    obtain ⟨x8_1, rfl, HA, HK1, BK48, HB⟩ := hrel
    cases gk with
    | zero => exact absurd HA.out (by simp [slices_IndexFunc_impl_boxesOk_1.l0])
    | succ k1 =>
      have H := HA.out; clear HA
      simp only [slices_IndexFunc_impl_boxesOk_1.l0] at H
      by_cases c3 : x8_1 < (l0.length : Int)
      · rw [if_pos c3] at H
        have c3b0 : decide (x8_1 < (l0.length : Int)) = true := zR c3; clear c3
        by_cases c4 : 0 ≤ x8_1
        · rw [if_pos c4] at H
          have c4b0 : decide (0 ≤ x8_1) = true := zR c4; clear c4
          by_cases c5 : x8_1 < (l0.length : Int)
          · rw [if_pos c5] at H
            have c5b0 : decide (x8_1 < (l0.length : Int)) = true := zR c5; clear c5
            replace H := Option.bind_eq_some_iff.mp H
            obtain ⟨t176, A60, H⟩ := H
            replace H : (if t176 = true then (some x8_1) else (slices_IndexFunc_impl_boxesOk_1.l0 k1 l0 (l0.length : Int) (wrap64 (x8_1 + 1)) l1_0)) = some r := H
            have A6 := yD A60
            clear A60
            by_cases c7 : t176 = true
            · subst c7
              have H1 : (some x8_1) = some r := by rw [if_pos rfl] at H; exact H
              clear H; have H := H1; clear H1; obtain rfl := Option.some.inj H
              have p175 : 0 ≤ (x8_1 : Int) := zP (by assumption)
              have q175 : x8_1 < (l0.length : Int) := zP (by assumption)
              obtain ⟨ad175, A175_0, c175_0, A175_1, c175_1, e175, hx175_0, hx175_1, hl175_0, hi175_0, hl175_1, hi175_1⟩ := at_T42 HR0.out x8_1 p175 q175
              cases e175
              replace hx175_0 := (HB.out.cell (zQ w _ hx175_0)).trans hx175_0
              replace hx175_1 := (HB.out.cell (zQ w _ hx175_1)).trans hx175_1
              have HR175_0 := yD hi175_0
              have HC175_0 := yD hl175_0
              clear hi175_0 hl175_0
              have HR175_1 := yD hi175_1
              have HC175_1 := yD hl175_1
              clear hi175_1 hl175_1; replace p175 := eq_true p175; replace q175 := eq_true q175
              go_wp2_with (first | (go_at_call 103; (with_reducible refine (impl_boxesOk_1.calls k1 _ _ ((rd_T42 l0 x8_1).f0) _ _ ((rd_T42 l0 x8_1).f1) g1_0 A1_0 c1_0 l1_0 true _ ?side1 ?side2 ?side3 ?side4 ?side5 ?side6 ?side7 A6.out).mono ?_); (case side1 => repeat (first | exact (yY HR175_0.out HB.out) | (with_reducible first | refine yV ?_ _ | refine yW ?_ _ | refine yX ?_))); (case side2 => exact HC175_0.out); (case side3 => repeat (first | exact (yY HR175_1.out HB.out) | (with_reducible first | refine yV ?_ _ | refine yW ?_ _ | refine yX ?_))); (case side4 => exact HC175_1.out); (case side5 => repeat (first | exact (yY HR1_0.out HB.out) | (with_reducible first | refine yV ?_ _ | refine yW ?_ _ | refine yX ?_))); (case side6 => exact HC1_0.out); (case side7 => (with_reducible repeat (first | refine yM ?_ _ | refine yO ?_ | refine yN ?_ _)); exact BK48.out); rintro e w8 ⟨rfl, hb⟩; have n0_ := yD (zB (g := g1_0) (o := .cells #[.slice A1_0 l1_0.length c1_0] 24 (0, 0)) (by (with_reducible repeat (first | refine yM ?_ _ | refine yO ?_ | refine yN ?_ _)); exact BK48.out) hb); have n1_ := yD (zC (by repeat (first | (with_reducible first | exact HB.out | apply yQ | apply yL | apply yP | refine yE ?_ GE48.out) | exact HB.out)) hb); clear BK48; clear HB; have BK48 := n0_; have HB := n1_; clear n0_ n1_; (try clear hb); (try clear hb2); (try clear hk); (try clear hi)))
              go_ret
              exact ⟨by first | rfl | (simp [errW_none, errW_some] <;> rfl) | (simp [*, errW_none, errW_some] <;> rfl), by repeat (first | (with_reducible first | exact HB.out | apply yQ | apply yL | apply yP | refine yE ?_ GE48.out) | exact HB.out)⟩
            · replace c7 := Bool.eq_false_iff.mpr c7
              subst c7
              have H1 : (slices_IndexFunc_impl_boxesOk_1.l0 k1 l0 (l0.length : Int) (wrap64 (x8_1 + 1)) l1_0) = some r := by rw [if_neg (show ¬ (false = true) by decide)] at H; exact H
              clear H; have H := H1; clear H1
              have H' := yD H
              clear H
              have p175 : 0 ≤ (x8_1 : Int) := zP (by assumption)
              have q175 : x8_1 < (l0.length : Int) := zP (by assumption)
              obtain ⟨ad175, A175_0, c175_0, A175_1, c175_1, e175, hx175_0, hx175_1, hl175_0, hi175_0, hl175_1, hi175_1⟩ := at_T42 HR0.out x8_1 p175 q175
              cases e175
              replace hx175_0 := (HB.out.cell (zQ w _ hx175_0)).trans hx175_0
              replace hx175_1 := (HB.out.cell (zQ w _ hx175_1)).trans hx175_1
              have HR175_0 := yD hi175_0
              have HC175_0 := yD hl175_0
              clear hi175_0 hl175_0
              have HR175_1 := yD hi175_1
              have HC175_1 := yD hl175_1
              clear hi175_1 hl175_1; replace p175 := eq_true p175; replace q175 := eq_true q175
              go_wp2_with (first | (go_at_call 103; (with_reducible refine (impl_boxesOk_1.calls k1 _ _ ((rd_T42 l0 x8_1).f0) _ _ ((rd_T42 l0 x8_1).f1) g1_0 A1_0 c1_0 l1_0 false _ ?side1 ?side2 ?side3 ?side4 ?side5 ?side6 ?side7 A6.out).mono ?_); (case side1 => repeat (first | exact (yY HR175_0.out HB.out) | (with_reducible first | refine yV ?_ _ | refine yW ?_ _ | refine yX ?_))); (case side2 => exact HC175_0.out); (case side3 => repeat (first | exact (yY HR175_1.out HB.out) | (with_reducible first | refine yV ?_ _ | refine yW ?_ _ | refine yX ?_))); (case side4 => exact HC175_1.out); (case side5 => repeat (first | exact (yY HR1_0.out HB.out) | (with_reducible first | refine yV ?_ _ | refine yW ?_ _ | refine yX ?_))); (case side6 => exact HC1_0.out); (case side7 => (with_reducible repeat (first | refine yM ?_ _ | refine yO ?_ | refine yN ?_ _)); exact BK48.out); rintro e w9 ⟨rfl, hb⟩; have n0_ := yD (zB (g := g1_0) (o := .cells #[.slice A1_0 l1_0.length c1_0] 24 (0, 0)) (by (with_reducible repeat (first | refine yM ?_ _ | refine yO ?_ | refine yN ?_ _)); exact BK48.out) hb); have n1_ := yD (zC (by repeat (first | (with_reducible first | exact HB.out | apply yQ | apply yL | apply yP | refine yE ?_ GE48.out) | exact HB.out)) hb); clear BK48; clear HB; have BK48 := n0_; have HB := n1_; clear n0_ n1_; (try clear hb); (try clear hb2); (try clear hk); (try clear hi)))
              go_roundg k1
              case measure => have := HK1.out; omega
              case rel => exact ⟨(wrap64 (x8_1 + 1)), (by first | rfl | (simp; done) | (simp [*]; done)), H', ⟨by have := HK1.out; omega⟩, ⟨by (with_reducible repeat (first | refine yM ?_ _ | refine yO ?_ | refine yN ?_ _)); exact BK48.out⟩, ⟨by repeat (first | (with_reducible first | exact HB.out | apply yQ | apply yL | apply yP | refine yE ?_ GE48.out) | exact HB.out)⟩⟩
          · rw [if_neg c5] at H
            exact absurd H (by simp)
        · rw [if_neg c4] at H
          exact absurd H (by simp)
      · rw [if_neg c3] at H
        have c3b0 : decide (x8_1 < (l0.length : Int)) = false := zS c3; clear c3; obtain rfl := Option.some.inj H
        go_wp2
        go_ret
        exact ⟨by first | rfl | (simp [errW_none, errW_some] <;> rfl) | (simp [*, errW_none, errW_some] <;> rfl), by repeat (first | (with_reducible first | exact HB.out | apply yQ | apply yL | apply yP | refine yE ?_ GE48.out) | exact HB.out)⟩

/-! ### slices_ContainsFunc_impl_boxesOk_1: function 64 -/
def slices_ContainsFunc_impl_boxesOk_1.f (k : Nat) (l0 : List (S42)) (l1_0 : List (S42)) : Option (Bool) := (slices_IndexFunc_impl_boxesOk_1.f k l0 l1_0).bind fun t177 => (some (decide (t177 ≥ 0)))
theorem slices_ContainsFunc_impl_boxesOk_1.mono : ∀ a0 a1 k, LeO (slices_ContainsFunc_impl_boxesOk_1.f k a0 a1) (slices_ContainsFunc_impl_boxesOk_1.f (k + 1) a0 a1) := by
  intro a0 a1 k
  unfold slices_ContainsFunc_impl_boxesOk_1.f
  repeat' first
      | (with_reducible exact slices_IndexFunc_impl_boxesOk_1.mono _ _ _)
      | (with_reducible exact LeO.refl _)
      | (with_reducible exact LeO.none _)
      | (with_reducible refine LeO.ite ?_ ?_)
      | (with_reducible refine LeO.bind ?_ (fun _ => ?_))
      | exact slices_IndexFunc_impl_boxesOk_1.mono _ _ _
      | exact LeO.none _
      | refine LeO.ite ?_ ?_
      | refine LeO.bind ?_ (fun _ => ?_)
set_option maxHeartbeats 8000000 in
set_option maxRecDepth 100000 in
theorem slices_ContainsFunc_impl_boxesOk_1.calls (k : Nat) (A0 : Option Addr) (c0 : Nat) (l0 : List (S42)) (g1_0 : Nat) (A1_0 : Option Addr) (c1_0 : Nat) (l1_0 : List (S42)) (r : Bool) (w : World) (hr0 : Kd.C k42 w A0 l0.length l0) (hc0 : l0.length ≤ c0) (hr1_0 : Kd.C k42 w A1_0 l1_0.length l1_0) (hc1_0 : l1_0.length ≤ c1_0) (hb1_0 : w.heap[g1_0]? = some (.cells #[.slice A1_0 l1_0.length c1_0] 24 (0, 0))) (h : slices_ContainsFunc_impl_boxesOk_1.f k l0 l1_0 = some r) :
    Calls Try.prog 64 #[.slice A0 l0.length c0, .func (.func 103) #[] #[.pointer (some ⟨g1_0, 0, none⟩)]] w fun e w' => e = .returned (.bool r) ∧ Below w.heap.size w w' := by
  have HR0 := yD hr0
  have HC0 := yD hc0
  clear hr0 hc0
  have HR1_0 := yD hr1_0
  have HC1_0 := yD hc1_0
  clear hr1_0 hc1_0
  have BK48 := yD hb1_0
  clear hb1_0
  have HB := yD (Below.refl w.heap.size w)
  have H : ((slices_IndexFunc_impl_boxesOk_1.f k l0 l1_0).bind fun t177 => (some (decide (t177 ≥ 0)))) = some r := h
  clear h
  replace H := Option.bind_eq_some_iff.mp H
  obtain ⟨t177, A30, H⟩ := H
  replace H : (some (decide (t177 ≥ 0))) = some r := H
  have A3 := yD A30
  clear A30; obtain rfl := Option.some.inj H; go_enter Try.func64, Try.ntmps64
  go_wp2_with (first | ((with_reducible refine gate_callee (f := 105) rfl ?_); refine goesL_ (some 7) rfl rfl Try.func105 (by kernel_rfl) rfl #[.slice A0 l0.length c0, .func (.func 103) #[] #[.pointer (some ⟨g1_0, 0, none⟩)]] rfl (by (try simp only [zK, zL, zM]); first | done | rfl | (simp only [zN, zO]; rfl)) ?_; (with_reducible refine (slices_IndexFunc_impl_boxesOk_1.calls k _ _ l0 g1_0 A1_0 c1_0 l1_0 t177 _ ?side1 ?side2 ?side3 ?side4 ?side5 A3.out).mono ?_); (case side1 => repeat (first | exact HR0.out | (with_reducible first | refine yV ?_ _ | refine yW ?_ _ | refine yX ?_))); (case side2 => exact HC0.out); (case side3 => repeat (first | exact HR1_0.out | (with_reducible first | refine yV ?_ _ | refine yW ?_ _ | refine yX ?_))); (case side4 => exact HC1_0.out); (case side5 => (with_reducible repeat (first | refine yM ?_ _ | refine yO ?_ | refine yN ?_ _)); exact BK48.out); rintro e w4 ⟨rfl, hb⟩; refine ⟨_, rfl, ?_⟩; have n0_ := yD (zB (g := g1_0) (o := .cells #[.slice A1_0 l1_0.length c1_0] 24 (0, 0)) (by (with_reducible repeat (first | refine yM ?_ _ | refine yO ?_ | refine yN ?_ _)); exact BK48.out) hb); have n1_ := yD (zC (by repeat (first | (with_reducible first | exact HB.out | apply yQ | apply yL | apply yP | refine yE ?_ GE48.out) | exact HB.out)) hb); clear BK48; clear HB; have BK48 := n0_; have HB := n1_; clear n0_ n1_; (try clear hb); (try clear hb2); (try clear hk); (try clear hi)))
  go_ret
  exact ⟨by first | rfl | (simp [errW_none, errW_some] <;> rfl) | (simp [*, errW_none, errW_some] <;> rfl), by repeat (first | (with_reducible first | exact HB.out | apply yQ | apply yL | apply yP | refine yE ?_ GE48.out) | exact HB.out)⟩

/-! ### impl_boxesOk: function 63 -/
def impl_boxesOk.f (k : Nat) (l0 : List (S42)) : Option (Bool) := if (l0.length : Int) ≤ 32 then ((slices_ContainsFunc_impl_boxesOk_1.f k l0 l0).bind fun t179 => (some (!t179))) else (some false)
theorem impl_boxesOk.mono : ∀ a0 k, LeO (impl_boxesOk.f k a0) (impl_boxesOk.f (k + 1) a0) := by
  intro a0 k
  unfold impl_boxesOk.f
  repeat' first
      | (with_reducible exact slices_ContainsFunc_impl_boxesOk_1.mono _ _ _)
      | (with_reducible exact LeO.refl _)
      | (with_reducible exact LeO.none _)
      | (with_reducible refine LeO.ite ?_ ?_)
      | (with_reducible refine LeO.bind ?_ (fun _ => ?_))
      | exact slices_ContainsFunc_impl_boxesOk_1.mono _ _ _
      | exact LeO.none _
      | refine LeO.ite ?_ ?_
      | refine LeO.bind ?_ (fun _ => ?_)
set_option maxHeartbeats 8000000 in
set_option maxRecDepth 100000 in
theorem impl_boxesOk.calls (k : Nat) (A0 : Option Addr) (c0 : Nat) (l0 : List (S42)) (r : Bool) (w : World) (hr0 : Kd.C k42 w A0 l0.length l0) (hc0 : l0.length ≤ c0) (h : impl_boxesOk.f k l0 = some r) :
    Calls Try.prog 63 #[.slice A0 l0.length c0] w fun e w' => e = .returned (.bool r) ∧ Below w.heap.size w w' := by
  have HR0 := yD hr0
  have HC0 := yD hc0
  clear hr0 hc0
  have HB := yD (Below.refl w.heap.size w)
  have H : (if (l0.length : Int) ≤ 32 then ((slices_ContainsFunc_impl_boxesOk_1.f k l0 l0).bind fun t179 => (some (!t179))) else (some false)) = some r := h
  clear h
  by_cases c2 : (l0.length : Int) ≤ 32
  · rw [if_pos c2] at H
    have c2b0 : decide ((l0.length : Int) ≤ 32) = true := zR c2
    have c2b1 : decide (l0.length ≤ 32) = true := zR (by omega)
    clear c2
    replace H := Option.bind_eq_some_iff.mp H
    obtain ⟨t179, A30, H⟩ := H
    replace H : (some (!t179)) = some r := H
    have A3 := yD A30
    clear A30; obtain rfl := Option.some.inj H; go_enter Try.func63, Try.ntmps63
    go_wp2_with (first | ((with_reducible refine gate_dst (N := 1) rfl ?_); refine box_event ?hg (N := 1) ?hd (cs := #[.slice A0 l0.length c0]) (t := 24) ?hr ?_; (case hd => rfl); (case hg => rfl); (case hr => first | (go_simp; done) | (go_simp; rfl)); intro gb178 hg w4 hbox hb; have n0_ := yD (zC (by repeat (first | (with_reducible first | exact HB.out | apply yQ | apply yL | apply yP) | exact HB.out)) hb); have n1_ := yD (hbox); have n2_ := yD ((by rw [hg]; exact (below_size (by repeat (first | (with_reducible first | exact HB.out | apply yQ | apply yL | apply yP) | exact HB.out))) : w.heap.size ≤ gb178)); have n3_ := yD ((by rw [hg]; exact (below_size (by repeat (first | (with_reducible first | exact HB.out | apply yQ | apply yL | apply yP) | exact HB.out))) : w.heap.size ≤ gb178)); clear HB; have HB := n0_; have BK178 := n1_; have GW178 := n2_; have GE178 := n3_; clear n0_ n1_ n2_ n3_; clear hb hbox hg; have hcz5_0 : w4.cell? ⟨gb178, 0, none⟩ = some (.slice A0 l0.length c0) := (yG BK178.out 0).trans rfl; have hfz5_0 := yR BK178.out 0) | (go_at_call 64; (with_reducible refine (slices_ContainsFunc_impl_boxesOk_1.calls k _ _ l0 gb178 A0 c0 l0 t179 _ ?side1 ?side2 ?side3 ?side4 ?side5 A3.out).mono ?_); (case side1 => repeat (first | exact (yY HR0.out HB.out) | (with_reducible first | refine yV ?_ _ | refine yW ?_ _ | refine yX ?_))); (case side2 => exact HC0.out); (case side3 => repeat (first | exact (yY HR0.out HB.out) | (with_reducible first | refine yV ?_ _ | refine yW ?_ _ | refine yX ?_))); (case side4 => exact HC0.out); (case side5 => (with_reducible repeat (first | refine yM ?_ _ | refine yO ?_ | refine yN ?_ _)); exact BK178.out); rintro e w6 ⟨rfl, hb⟩; have n0_ := yD (zB (g := gb178) (o := .cells #[.slice A0 l0.length c0] 24 (0, 0)) (by (with_reducible repeat (first | refine yM ?_ _ | refine yO ?_ | refine yN ?_ _)); exact BK178.out) hb); have n1_ := yD (zC (by repeat (first | (with_reducible first | exact HB.out | apply yQ | apply yL | apply yP | refine yE ?_ GE178.out) | exact HB.out)) hb); clear BK178; clear HB; have BK178 := n0_; have HB := n1_; clear n0_ n1_; (try clear hb); (try clear hb2); (try clear hk); (try clear hi)))
    go_ret
    exact ⟨by first | rfl | (simp [errW_none, errW_some] <;> rfl) | (simp [*, errW_none, errW_some] <;> rfl), by repeat (first | (with_reducible first | exact HB.out | apply yQ | apply yL | apply yP | refine yE ?_ GE178.out) | exact HB.out)⟩
  · rw [if_neg c2] at H
    have c2b0 : decide ((l0.length : Int) ≤ 32) = false := zS c2
    have c2b1 : decide (l0.length ≤ 32) = false := zS (by omega)
    clear c2; obtain rfl := Option.some.inj H; go_enter Try.func63, Try.ntmps63
    go_wp2_with (first | ((with_reducible refine gate_dst (N := 1) rfl ?_); refine box_event ?hg (N := 1) ?hd (cs := #[.slice A0 l0.length c0]) (t := 24) ?hr ?_; (case hd => rfl); (case hg => rfl); (case hr => first | (go_simp; done) | (go_simp; rfl)); intro gb178 hg w7 hbox hb; have n0_ := yD (zC (by repeat (first | (with_reducible first | exact HB.out | apply yQ | apply yL | apply yP) | exact HB.out)) hb); have n1_ := yD (hbox); have n2_ := yD ((by rw [hg]; exact (below_size (by repeat (first | (with_reducible first | exact HB.out | apply yQ | apply yL | apply yP) | exact HB.out))) : w.heap.size ≤ gb178)); have n3_ := yD ((by rw [hg]; exact (below_size (by repeat (first | (with_reducible first | exact HB.out | apply yQ | apply yL | apply yP) | exact HB.out))) : w.heap.size ≤ gb178)); clear HB; have HB := n0_; have BK178 := n1_; have GW178 := n2_; have GE178 := n3_; clear n0_ n1_ n2_ n3_; clear hb hbox hg; have hcz8_0 : w7.cell? ⟨gb178, 0, none⟩ = some (.slice A0 l0.length c0) := (yG BK178.out 0).trans rfl; have hfz8_0 := yR BK178.out 0))
    go_ret
    exact ⟨by first | rfl | (simp [errW_none, errW_some] <;> rfl) | (simp [*, errW_none, errW_some] <;> rfl), by repeat (first | (with_reducible first | exact HB.out | apply yQ | apply yL | apply yP | refine yE ?_ GE178.out) | exact HB.out)⟩

/-! ### slices_Clone_int64_int64_isnil: function 74 -/
def slices_Clone_int64_int64_isnil.f (l0 : List Int) : Option (List Int) := some ([] : List Int)
set_option maxHeartbeats 8000000 in
set_option maxRecDepth 100000 in
theorem slices_Clone_int64_int64_isnil.calls (c0 : Nat) (l0 : List Int) (r : List Int) (w : World) (hr0 : Kd.C (Kd.int .i64) w none l0.length l0) (hc0 : l0.length ≤ c0) (h : slices_Clone_int64_int64_isnil.f l0 = some r) :
    Calls Try.prog 74 #[.slice none l0.length c0] w fun e w' => ∃ v0_ : Value, e = .returned (v0_) ∧ Kd.R (Kd.int .i64) 2 w' w.heap.size (fun _ => True) v0_ r ∧ Below w.heap.size w w' := by
  have HR0 := yD hr0
  have HC0 := yD hc0
  clear hr0 hc0
  have HB := yD (Below.refl w.heap.size w)
  have H : (some ([] : List Int)) = some r := h
  clear h; obtain rfl := Option.some.inj H; have q_ : ∀ (w : World) (a : Option Addr) (n c n' c' : Nat), (binOp .eql 36 (.slice a n c) (.slice none n' c')).run Try.prog w = .ok (.bool a.isNone) w := fun w a n c n' c' => Lib.run_eql_slice_nil w _ _ a n c n' c' Try.underlying36; go_enter Try.func74, Try.ntmps74
  go_wp2
  go_ret
  exact ⟨_, by first | rfl | (simp [errW_none, errW_some] <;> rfl) | (simp [*, errW_none, errW_some] <;> rfl), by first | exact Kd.R_nil _ _ _ _ _ | exact Kd.N_nil _ _ _ _ _ | exact Kd.V_nil _ _ _ _ _ | exact Kd.Q_nil _ _ _ _ _ | exact Kd.S_nil _ _ _ _ _, by repeat (first | (with_reducible first | exact HB.out | apply yQ | apply yL | apply yP) | exact HB.out)⟩

/-! ### slices_Clone_int64_int64_nn: function 74 -/
def slices_Clone_int64_int64_nn.f (l0 : List Int) : Option (List Int) := (some (([] : List Int) : List Int)).bind fun y180 => (if y180.length + l0.length < 17592186044416 then (some (y180 ++ l0)) else (none))
set_option maxHeartbeats 8000000 in
set_option maxRecDepth 100000 in
theorem slices_Clone_int64_int64_nn.calls (A0 : Addr) (c0 : Nat) (l0 : List Int) (r : List Int) (w : World) (hr0 : Kd.C (Kd.int .i64) w (some A0) l0.length l0) (hc0 : l0.length ≤ c0) (h : slices_Clone_int64_int64_nn.f l0 = some r) :
    Calls Try.prog 74 #[.slice (some A0) l0.length c0] w fun e w' => ∃ v0_ : Value, e = .returned (v0_) ∧ Kd.R (Kd.int .i64) 2 w' w.heap.size (fun _ => True) v0_ r ∧ Below w.heap.size w w' := by
  have HR0 := yD hr0
  have HC0 := yD hc0
  clear hr0 hc0
  have HB := yD (Below.refl w.heap.size w)
  have H : ((some (([] : List Int) : List Int)).bind fun y180 => (if y180.length + l0.length < 17592186044416 then (some (y180 ++ l0)) else (none))) = some r := h
  clear h
  obtain ⟨y180, hy180⟩ : ∃ y_ : List Int, y_ = (([] : List Int)) := ⟨_, rfl⟩
  replace H : (if y180.length + l0.length < 17592186044416 then (some (y180 ++ l0)) else (none)) = some r := by first | (rw [hy180]; with_reducible exact H) | (have H2_ := (Option.bind_some _ _).symm.trans H; rw [hy180]; with_reducible exact H2_) | (have H2_ := (Option.bind_some _ _).symm.trans H; with_reducible exact H2_) | with_reducible exact H | (rw [hy180]; exact H) | exact H
  have Ny180 := yD hy180
  clear hy180
  by_cases c2 : y180.length + l0.length < 17592186044416
  · rw [if_pos c2] at H
    have LMc2 := yD c2
    clear c2
    obtain ⟨y183, hy183⟩ : ∃ y_ : List Int, y_ = (y180 ++ l0) := ⟨_, rfl⟩
    replace H : (some y183) = some r := by first | (rw [hy183]; with_reducible exact H) | (have H2_ := (Option.bind_some _ _).symm.trans H; rw [hy183]; with_reducible exact H2_) | (have H2_ := (Option.bind_some _ _).symm.trans H; with_reducible exact H2_) | with_reducible exact H | (rw [hy183]; exact H) | exact H
    have Ny183 := yD hy183
    clear hy183; obtain rfl := Option.some.inj H; have q_ : ∀ (w : World) (a : Option Addr) (n c n' c' : Nat), (binOp .eql 36 (.slice a n c) (.slice none n' c')).run Try.prog w = .ok (.bool a.isNone) w := fun w a n c n' c' => Lib.run_eql_slice_nil w _ _ a n c n' c' Try.underlying36; go_enter Try.func74, Try.ntmps74
    go_wp2_with (first | ((with_reducible refine gate_dst (N := 5) rfl ?_); refine Kd.R_lit (Kd.int .i64) _ 2 ?hg (N := 5) ?hd (xs := ([] : List Int)) (inner := []) (ok := fun _ => True) (okp := fun _ => True) ?hr ?hp (fun _ hk => hk) trivial (Below.refl _ _) (Nat.le_refl _) (by simp) ?_; (case hd => rfl); (case hg => rfl); (case hr => first | (go_simp; done) | (go_simp; rfl)); (case hp => exact (Reps.none _ _)); intro v181 w3 ho4 hb hg_ hnew_; clear hg_ hnew_; (first | rw [← Ny180.out] at ho4 | (simp only [Int.reduceToNat] at ho4; rw [← Ny180.out] at ho4)); have n0_ := yD (yZ ho4 (below_size (by repeat (first | (with_reducible first | exact HB.out | apply yQ | apply yL | apply yP) | exact HB.out)))); have n1_ := yD (zC (by repeat (first | (with_reducible first | exact HB.out | apply yQ | apply yL | apply yP) | exact HB.out)) hb); clear HB; have HO182 := n0_; have HB := n1_; clear n0_ n1_; clear hb ho4) | ((with_reducible refine gate_builtin (b := .append) (xs := #[.tmp 5, .tmp 6]) rfl ?_); at_builtin; refine Kd.R_append_rows (Kd.int .i64) (w0 := w) w.heap.size rfl (.tmp 5) (.tmp 6) 36 2 (.int .i64 0) 8 rfl Try.underlying36 info2 rfl (by decide) (by omega) v181 y180 l0 _ _ _ (fun _ => True) (fun _ => False) rfl rfl ?aO ?aR (fun _ _ h => h) (fun _ h => h.elim) ?aF ?aB ?aS ?aL ?_; (case aR => repeat (first | exact (yY HR0.out HB.out) | (with_reducible first | refine yV ?_ _ | refine yW ?_ _ | refine yX ?_))); (case aB => exact (by repeat (first | (with_reducible first | exact HB.out | apply yQ | apply yL | apply yP) | exact HB.out))); (case aF => exact (fun _ _ => trivial)); (case aO => exact (by (with_reducible repeat (first | apply yA | apply yB | apply yC)); exact HO182.out)); (case aS => exact (below_size (by repeat (first | (with_reducible first | exact HB.out | apply yQ | apply yL | apply yP) | exact HB.out)))); (case aL => have := LMc2.out; omega); intro v184 w5 ho hb hg hat; rw [← Ny183.out] at ho; have n0_ := yD (hb); have n1_ := yD (ho); clear HB; clear HO182; have HB := n0_; have HO185 := n1_; clear n0_ n1_; clear ho hb hg hat))
    go_ret
    exact ⟨_, by first | rfl | (simp [errW_none, errW_some] <;> rfl) | (simp [*, errW_none, errW_some] <;> rfl), by (with_reducible repeat (first | apply yA | apply yB | apply yC)); exact HO185.out, by repeat (first | (with_reducible first | exact HB.out | apply yQ | apply yL | apply yP) | exact HB.out)⟩
  · rw [if_neg c2] at H
    exact absurd H (by simp)

/-! ### slices_Clone_int64_int64: function 74 -/
def slices_Clone_int64_int64.f (l0 : List Int) : Option (List Int) := slices_Clone_int64_int64_nn.f l0
theorem slices_Clone_int64_int64.calls (A0 : Option Addr) (c0 : Nat) (l0 : List Int) (r : List Int) (w : World) (hr0 : Kd.C (Kd.int .i64) w A0 l0.length l0) (hc0 : l0.length ≤ c0) (h : slices_Clone_int64_int64.f l0 = some r) :
    Calls Try.prog 74 #[.slice A0 l0.length c0] w fun e w' => ∃ v0_ : Value, e = .returned (v0_) ∧ Kd.R (Kd.int .i64) 2 w' w.heap.size (fun _ => True) v0_ r ∧ Below w.heap.size w w' := by
  cases A0 with
  | some A0 => exact slices_Clone_int64_int64_nn.calls A0 c0 l0 r w hr0 hc0 h
  | none =>
    have hz : l0 = [] := by
      cases l0 with
      | nil => rfl
      | cons x xs => obtain ⟨ad, e, _⟩ := hr0.2.2 (by simp); cases e
    subst hz
    have hr : r = [] := by
      have h' := h
      unfold slices_Clone_int64_int64.f slices_Clone_int64_int64_nn.f at h'
      simp at h'
      exact h'
    subst hr
    exact slices_Clone_int64_int64_isnil.calls c0 [] [] w hr0 hc0 rfl

end Go.Proofs.Ytdiaebjbiddefaa.PFnExactBoundsOf
