/- Each Go function here comes to what the plain function of its name says, where that says something. Made by a program of this session, over the print. -/
import Derived.Test.YtehldidejgpifaaPFnExactRangeOfx0
namespace Go.Proofs.Ytehldidejgpifaa.PFnExactRangeOf
open Go.RowKit Go.Proofs.YtehldidejgpifaaW.PrintWords Go.Proofs.YtehldidejgpifaaW.PrintLast Go.Proofs.YtehldidejgpifaaW.PrintMore
attribute [local go_sem] max2_int min2_int max_two min_two max_three min_three max_four min_four   -- for this text's walks alone
set_option linter.unusedVariables false
set_option linter.unusedSimpArgs false

/-! ### impl_ValidBox: function 81 -/
mutual
def impl_ValidBox.j0 : Nat → Bool → List Int → List Int → Option (Bool)
  | 0, _, _, _ => none
  | k + 1, x17, x184000, x184001 => if x17 = true then (some false) else (impl_ValidBox.l0 k x184000 (x184000.length : Int) 0 x184000 x184001)
def impl_ValidBox.l0 : Nat → List Int → Int → Int → List Int → List Int → Option (Bool)
  | 0, _, _, _, _, _ => none
  | k + 1, x19, x20, x21, x184000, x184001 => if x21 < x20 then (if 0 ≤ x21 then (if x21 < (x19.length : Int) then (if (rd x19 x21) < 0 then (some false) else (if x21 < (x184001.length : Int) then (if (rd x19 x21) ≥ (rd x184001 x21) then (some false) else (if (rd x184001 x21) > 40 then (some false) else (impl_ValidBox.l0 k x19 x20 (wrap64 (x21 + 1)) x184000 x184001))) else (none))) else (none)) else (none)) else (some true)
end
def impl_ValidBox.f (k : Nat) (l0_0 : List Int) (l0_1 : List Int) : Option (Bool) := if (l0_0.length : Int) = (l0_1.length : Int) then (impl_ValidBox.j0 k (decide ((l0_0.length : Int) > 3)) l0_0 l0_1) else (impl_ValidBox.j0 k true l0_0 l0_1)
theorem impl_ValidBox.mono_l : ∀ k, (∀ y0 y1 y2, LeO (impl_ValidBox.j0 k y0 y1 y2) (impl_ValidBox.j0 (k + 1) y0 y1 y2)) ∧ (∀ y0 y1 y2 y3 y4, LeO (impl_ValidBox.l0 k y0 y1 y2 y3 y4) (impl_ValidBox.l0 (k + 1) y0 y1 y2 y3 y4))
  | 0 => ⟨fun _ _ _ r h => by simp [impl_ValidBox.j0] at h, fun _ _ _ _ _ r h => by simp [impl_ValidBox.l0] at h⟩
  | k + 1 => by
    obtain ⟨ih0, ih1⟩ := impl_ValidBox.mono_l k
    refine ⟨?_, ?_⟩
    · intro y0 y1 y2
      unfold impl_ValidBox.j0
      repeat' first
      | (with_reducible exact ih0 _ _ _)
      | (with_reducible exact ih1 _ _ _ _ _)
      | (with_reducible exact LeO.refl _)
      | (with_reducible exact LeO.none _)
      | (with_reducible refine LeO.ite ?_ ?_)
      | (with_reducible refine LeO.bind ?_ (fun _ => ?_))
      | exact ih0 _ _ _
      | exact ih1 _ _ _ _ _
      | exact LeO.none _
      | refine LeO.ite ?_ ?_
      | refine LeO.bind ?_ (fun _ => ?_)
    · intro y0 y1 y2 y3 y4
      unfold impl_ValidBox.l0
      repeat' first
      | (with_reducible exact ih0 _ _ _)
      | (with_reducible exact ih1 _ _ _ _ _)
      | (with_reducible exact LeO.refl _)
      | (with_reducible exact LeO.none _)
      | (with_reducible refine LeO.ite ?_ ?_)
      | (with_reducible refine LeO.bind ?_ (fun _ => ?_))
      | exact ih0 _ _ _
      | exact ih1 _ _ _ _ _
      | exact LeO.none _
      | refine LeO.ite ?_ ?_
      | refine LeO.bind ?_ (fun _ => ?_)
theorem impl_ValidBox.mono : ∀ a0 a1 k, LeO (impl_ValidBox.f k a0 a1) (impl_ValidBox.f (k + 1) a0 a1) := by
  intro a0 a1 k
  obtain ⟨ih0, ih1⟩ := impl_ValidBox.mono_l k
  unfold impl_ValidBox.f
  repeat' first
      | (with_reducible exact ih0 _ _ _)
      | (with_reducible exact ih1 _ _ _ _ _)
      | (with_reducible exact LeO.refl _)
      | (with_reducible exact LeO.none _)
      | (with_reducible refine LeO.ite ?_ ?_)
      | (with_reducible refine LeO.bind ?_ (fun _ => ?_))
      | exact ih0 _ _ _
      | exact ih1 _ _ _ _ _
      | exact LeO.none _
      | refine LeO.ite ?_ ?_
      | refine LeO.bind ?_ (fun _ => ?_)
set_option maxHeartbeats 8000000 in
set_option maxRecDepth 100000 in
theorem impl_ValidBox.calls (k : Nat) (A0_0 : Option Addr) (c0_0 : Nat) (l0_0 : List Int) (A0_1 : Option Addr) (c0_1 : Nat) (l0_1 : List Int) (r : Bool) (w : World) (hr0_0 : Kd.C (Kd.int .i64) w A0_0 l0_0.length l0_0) (hc0_0 : l0_0.length ≤ c0_0) (hr0_1 : Kd.C (Kd.int .i64) w A0_1 l0_1.length l0_1) (hc0_1 : l0_1.length ≤ c0_1) (h : impl_ValidBox.f k l0_0 l0_1 = some r) :
    Calls Try.prog 81 #[.agg #[.slice A0_0 l0_0.length c0_0, .slice A0_1 l0_1.length c0_1]] w fun e w' => e = .returned (.bool r) ∧ Below w.heap.size w w' := by
  have hu45 := Try.underlying45
  have HR0_0 := yD hr0_0
  have HC0_0 := yD hc0_0
  clear hr0_0 hc0_0
  have HR0_1 := yD hr0_1
  have HC0_1 := yD hc0_1
  clear hr0_1 hc0_1
  have HB := yD (Below.refl w.heap.size w)
  have H : (if (l0_0.length : Int) = (l0_1.length : Int) then (impl_ValidBox.j0 k (decide ((l0_0.length : Int) > 3)) l0_0 l0_1) else (impl_ValidBox.j0 k true l0_0 l0_1)) = some r := h
  clear h
  have HC2 := yD H
  clear H; go_enter Try.func81, Try.ntmps81
  go_upto_region 1 with (first | ((with_reducible refine gate_dst (N := 1) rfl ?_); (try (refine gate_guard (by rfl) ?_; dsimp only)); refine box_event ?hg (N := 1) ?hd (cs := #[.slice A0_0 l0_0.length c0_0, .slice A0_1 l0_1.length c0_1]) (t := 45) ?hr ?_; (case hd => rfl); (case hg => rfl); (case hr => first | (go_simp; done) | (go_simp; rfl)); intro gb183 hg w3 hbox hb; have n0_ := yD (zC (kB HB) hb); have n1_ := yD (hbox); have n2_ := yD ((by rw [hg]; exact (below_size (kB HB)) : w.heap.size ≤ gb183)); have n3_ := yD ((by rw [hg]; exact (below_size (kB HB)) : w.heap.size ≤ gb183)); clear HB; have HB := n0_; have BK183 := n1_; have GW183 := n2_; have GE183 := n3_; clear n0_ n1_ n2_ n3_; clear hb hbox hg))
  (try simp only [Act.put, zH, zI, zJ])
  go_cut [17] (fun v17 wc => ∃ (kq : Nat) (x17_1 : Bool), v17 = .bool x17_1 ∧ Aside0 (impl_ValidBox.j0 kq x17_1 l0_0 l0_1 = some r) ∧ Aside0 (kq ≤ k) ∧ Aside0 (wc.heap[gb183]? = some (.cells #[(.slice A0_0 l0_0.length c0_0), (.slice A0_1 l0_1.length c0_1)] 45 (0, 0))) ∧ Aside0 (Below w.heap.size w wc))
  case first =>
    have H := HC2.out; clear HC2
    by_cases c4 : (l0_0.length : Int) = (l0_1.length : Int)
    · rw [if_pos c4] at H
      have c4b0 : ((l0_0.length : Int) == (l0_1.length : Int)) = true := beq_iff_eq.mpr c4
      have c4b1 : ((l0_0.length : Int) != (l0_1.length : Int)) = false := bne_eq_false_iff_eq.mpr c4
      have c4b2 : (l0_0.length == l0_1.length) = true := by first | simpa using c4 | (simp at c4 ⊢; omega)
      clear c4
      (first | rw [c4b0] | (simp only [i64_w, i32_w]; rw [c4b0]) | (simp only [bne] at c4b0; rw [c4b0]) | skip)
      have H' := yD H
      clear H
      obtain ⟨hcz5_0, hcz5_1⟩ := cz2 BK183.out
      obtain ⟨hfz5_0, hfz5_1⟩ := fz2 BK183.out
      go_wp2
      go_meet
      case rel => exact ⟨_, (decide ((l0_0.length : Int) > 3)), (by first | rfl | (simp; done) | (simp [*]; done)), H', ⟨by first | omega | exact Nat.le_refl _⟩, ⟨by (with_reducible repeat (first | refine yM ?_ _ | refine yO ?_ | refine yN ?_ _)); exact BK183.out⟩, ⟨by repeat (first | (with_reducible first | exact HB.out | apply yQ | apply yL | apply yP | refine yE ?_ GE183.out) | exact HB.out)⟩⟩
    · rw [if_neg c4] at H
      have c4b0 : ((l0_0.length : Int) == (l0_1.length : Int)) = false := beq_eq_false_iff_ne.mpr c4
      have c4b1 : ((l0_0.length : Int) != (l0_1.length : Int)) = true := bne_iff_ne.mpr c4
      have c4b2 : (l0_0.length == l0_1.length) = false := by first | simpa using c4 | (simp at c4 ⊢; omega)
      (first | rw [c4b0] | (simp only [i64_w, i32_w]; rw [c4b0]) | (simp only [bne] at c4b0; rw [c4b0]) | skip)
      have H' := yD H
      clear H
      obtain ⟨hcz6_0, hcz6_1⟩ := cz2 BK183.out
      obtain ⟨hfz6_0, hfz6_1⟩ := fz2 BK183.out
      go_wp2
      go_meet
      case rel => exact ⟨_, (true), (by first | rfl | (simp; done) | (simp [*]; done)), H', ⟨by first | omega | exact Nat.le_refl _⟩, ⟨by (with_reducible repeat (first | refine yM ?_ _ | refine yO ?_ | refine yN ?_ _)); exact BK183.out⟩, ⟨by repeat (first | (with_reducible first | exact HB.out | apply yQ | apply yL | apply yP | refine yE ?_ GE183.out) | exact HB.out)⟩⟩
  case rest =>
    clear HC2; try clear p2; try clear c4; try clear c4b0; try clear c4b1; try clear c4b2; try clear hcz5_0; try clear hcz5_1; try clear hcz6_0; try clear hcz6_1; try clear hfz5_0; try clear hfz5_1; try clear hfz6_0; try clear hfz6_1
    obtain ⟨kq, x17_1, rfl, HA, HJ1, BK183, HB⟩ := hcut
    cases kq with
    | zero => exact absurd HA.out (by simp [impl_ValidBox.j0])
    | succ kj1 =>
      have H := HA.out; clear HA
      simp only [impl_ValidBox.j0] at H
      by_cases c7 : x17_1 = true
      · subst c7
        have H1 : (some false) = some r := by rw [if_pos rfl] at H; exact H
        clear H; have H := H1; clear H1; obtain rfl := Option.some.inj H
        go_wp2
        go_ret
        exact ⟨by first | rfl | (simp <;> rfl) | (simp [*] <;> rfl), by repeat (first | (with_reducible first | exact HB.out | apply yQ | apply yL | apply yP | refine yE ?_ GE183.out) | exact HB.out)⟩
      · replace c7 := Bool.eq_false_iff.mpr c7
        subst c7
        have H1 : (impl_ValidBox.l0 kj1 l0_0 (l0_0.length : Int) 0 l0_0 l0_1) = some r := by rw [if_neg (show ¬ (false = true) by decide)] at H; exact H
        clear H; have H := H1; clear H1
        have H' := yD H
        clear H
        obtain ⟨hcz8_0, hcz8_1⟩ := cz2 BK183.out
        obtain ⟨hfz8_0, hfz8_1⟩ := fz2 BK183.out
        go_wp2
        go_loopg [21] kj1 (fun kq v21 w' => ∃ (x21_2 : Int), v21 = .int .i64 x21_2 ∧ Aside0 (impl_ValidBox.l0 kq l0_0 (l0_0.length : Int) x21_2 l0_0 l0_1 = some r) ∧ Aside0 (kq ≤ kj1) ∧ Aside0 (w'.heap[gb183]? = some (.cells #[(.slice A0_0 l0_0.length c0_0), (.slice A0_1 l0_1.length c0_1)] 45 (0, 0))) ∧ Aside0 (Below w.heap.size w w'))
        case atStart => exact ⟨(0), (by first | rfl | (simp; done) | (simp [*]; done)), H', ⟨Nat.le_refl _⟩, ⟨by (with_reducible repeat (first | refine yM ?_ _ | refine yO ?_ | refine yN ?_ _)); exact BK183.out⟩, ⟨by repeat (first | (with_reducible first | exact HB.out | apply yQ | apply yL | apply yP | refine yE ?_ GE183.out) | exact HB.out)⟩⟩
        case round =>
          clear H'
          try clear p2; try clear c4; try clear c4b0; try clear c4b1; try clear c4b2; try clear c7; try clear c8; try clear hcz5_0; try clear hcz5_1; try clear hcz6_0; try clear hcz6_1; try clear hcz8_0; try clear hcz8_1; try clear hfz5_0; try clear hfz5_1; try clear hfz6_0; try clear hfz6_1; try clear hfz8_0; try clear hfz8_1; try clear p2
          obtain ⟨x21_2, rfl, HA, HK2, BK183, HB⟩ := hrel
          cases gk with
          | zero => exact absurd HA.out (by simp [impl_ValidBox.l0])
          | succ k2 =>
            have H := HA.out; clear HA
            simp only [impl_ValidBox.l0] at H
            by_cases c9 : x21_2 < (l0_0.length : Int)
            · rw [if_pos c9] at H
              have c9b0 : decide (x21_2 < (l0_0.length : Int)) = true := zR c9; clear c9
              by_cases c10 : 0 ≤ x21_2
              · rw [if_pos c10] at H
                have c10b0 : decide (0 ≤ x21_2) = true := zR c10; clear c10
                by_cases c11 : x21_2 < (l0_0.length : Int)
                · rw [if_pos c11] at H
                  have c11b0 : decide (x21_2 < (l0_0.length : Int)) = true := zR c11; clear c11
                  by_cases c12 : (rd l0_0 x21_2) < 0
                  · rw [if_pos c12] at H
                    have c12b0 : decide ((rd l0_0 x21_2) < 0) = true := zR c12; clear c12; obtain rfl := Option.some.inj H
                    have p184 : 0 ≤ (x21_2 : Int) := zP (by assumption)
                    have q184 : x21_2 < (l0_0.length : Int) := zP (by assumption)
                    obtain ⟨ad184, e184, hx184_0⟩ := Kd.at_int HR0_0.out x21_2 p184 q184
                    cases e184
                    replace hx184_0 := (HB.out.cell (zQ w _ hx184_0)).trans hx184_0
                    replace p184 := eq_true p184; replace q184 := eq_true q184
                    go_wp2
                    go_ret
                    exact ⟨by first | rfl | (simp <;> rfl) | (simp [*] <;> rfl), by repeat (first | (with_reducible first | exact HB.out | apply yQ | apply yL | apply yP | refine yE ?_ GE183.out) | exact HB.out)⟩
                  · rw [if_neg c12] at H
                    have c12b0 : decide ((rd l0_0 x21_2) < 0) = false := zS c12; clear c12
                    by_cases c13 : x21_2 < (l0_1.length : Int)
                    · rw [if_pos c13] at H
                      have c13b0 : decide (x21_2 < (l0_1.length : Int)) = true := zR c13; clear c13
                      by_cases c14 : (rd l0_0 x21_2) ≥ (rd l0_1 x21_2)
                      · rw [if_pos c14] at H
                        have c14b0 : decide ((rd l0_1 x21_2) ≤ (rd l0_0 x21_2)) = true := zR c14; clear c14; obtain rfl := Option.some.inj H
                        have p184 : 0 ≤ (x21_2 : Int) := zP (by assumption)
                        have q184 : x21_2 < (l0_0.length : Int) := zP (by assumption)
                        obtain ⟨ad184, e184, hx184_0⟩ := Kd.at_int HR0_0.out x21_2 p184 q184
                        cases e184
                        replace hx184_0 := (HB.out.cell (zQ w _ hx184_0)).trans hx184_0
                        replace p184 := eq_true p184; replace q184 := eq_true q184
                        obtain ⟨hcz15_0, hcz15_1⟩ := cz2 BK183.out
                        obtain ⟨hfz15_0, hfz15_1⟩ := fz2 BK183.out
                        have p185 : 0 ≤ (x21_2 : Int) := zP (by assumption)
                        have q185 : x21_2 < (l0_1.length : Int) := zP (by assumption)
                        obtain ⟨ad185, e185, hx185_0⟩ := Kd.at_int HR0_1.out x21_2 p185 q185
                        cases e185
                        replace hx185_0 := (HB.out.cell (zQ w _ hx185_0)).trans hx185_0
                        replace p185 := eq_true p185; replace q185 := eq_true q185
                        go_wp2
                        go_ret
                        exact ⟨by first | rfl | (simp <;> rfl) | (simp [*] <;> rfl), by repeat (first | (with_reducible first | exact HB.out | apply yQ | apply yL | apply yP | refine yE ?_ GE183.out) | exact HB.out)⟩
                      · rw [if_neg c14] at H
                        have c14b0 : decide ((rd l0_1 x21_2) ≤ (rd l0_0 x21_2)) = false := zS c14; clear c14
                        by_cases c16 : (rd l0_1 x21_2) > 40
                        · rw [if_pos c16] at H
                          have c16b0 : decide (40 < (rd l0_1 x21_2)) = true := zR c16; clear c16; obtain rfl := Option.some.inj H
                          have p184 : 0 ≤ (x21_2 : Int) := zP (by assumption)
                          have q184 : x21_2 < (l0_0.length : Int) := zP (by assumption)
                          obtain ⟨ad184, e184, hx184_0⟩ := Kd.at_int HR0_0.out x21_2 p184 q184
                          cases e184
                          replace hx184_0 := (HB.out.cell (zQ w _ hx184_0)).trans hx184_0
                          replace p184 := eq_true p184; replace q184 := eq_true q184
                          obtain ⟨hcz17_0, hcz17_1⟩ := cz2 BK183.out
                          obtain ⟨hfz17_0, hfz17_1⟩ := fz2 BK183.out
                          have p185 : 0 ≤ (x21_2 : Int) := zP (by assumption)
                          have q185 : x21_2 < (l0_1.length : Int) := zP (by assumption)
                          obtain ⟨ad185, e185, hx185_0⟩ := Kd.at_int HR0_1.out x21_2 p185 q185
                          cases e185
                          replace hx185_0 := (HB.out.cell (zQ w _ hx185_0)).trans hx185_0
                          replace p185 := eq_true p185; replace q185 := eq_true q185
                          have p186 : 0 ≤ (x21_2 : Int) := zP (by assumption)
                          have q186 : x21_2 < (l0_1.length : Int) := zP (by assumption)
                          obtain ⟨ad186, e186, hx186_0⟩ := Kd.at_int HR0_1.out x21_2 p186 q186
                          obtain rfl : ad185 = ad186 := (by injection e186)
                          replace hx186_0 := (HB.out.cell (zQ w _ hx186_0)).trans hx186_0
                          replace p186 := eq_true p186; replace q186 := eq_true q186
                          go_wp2
                          go_ret
                          exact ⟨by first | rfl | (simp <;> rfl) | (simp [*] <;> rfl), by repeat (first | (with_reducible first | exact HB.out | apply yQ | apply yL | apply yP | refine yE ?_ GE183.out) | exact HB.out)⟩
                        · rw [if_neg c16] at H
                          have c16b0 : decide (40 < (rd l0_1 x21_2)) = false := zS c16; clear c16
                          have H' := yD H
                          clear H
                          have p184 : 0 ≤ (x21_2 : Int) := zP (by assumption)
                          have q184 : x21_2 < (l0_0.length : Int) := zP (by assumption)
                          obtain ⟨ad184, e184, hx184_0⟩ := Kd.at_int HR0_0.out x21_2 p184 q184
                          cases e184
                          replace hx184_0 := (HB.out.cell (zQ w _ hx184_0)).trans hx184_0
                          replace p184 := eq_true p184; replace q184 := eq_true q184
                          obtain ⟨hcz18_0, hcz18_1⟩ := cz2 BK183.out
                          obtain ⟨hfz18_0, hfz18_1⟩ := fz2 BK183.out
                          have p185 : 0 ≤ (x21_2 : Int) := zP (by assumption)
                          have q185 : x21_2 < (l0_1.length : Int) := zP (by assumption)
                          obtain ⟨ad185, e185, hx185_0⟩ := Kd.at_int HR0_1.out x21_2 p185 q185
                          cases e185
                          replace hx185_0 := (HB.out.cell (zQ w _ hx185_0)).trans hx185_0
                          replace p185 := eq_true p185; replace q185 := eq_true q185
                          have p186 : 0 ≤ (x21_2 : Int) := zP (by assumption)
                          have q186 : x21_2 < (l0_1.length : Int) := zP (by assumption)
                          obtain ⟨ad186, e186, hx186_0⟩ := Kd.at_int HR0_1.out x21_2 p186 q186
                          obtain rfl : ad185 = ad186 := (by injection e186)
                          replace hx186_0 := (HB.out.cell (zQ w _ hx186_0)).trans hx186_0
                          replace p186 := eq_true p186; replace q186 := eq_true q186
                          go_wp2
                          go_roundg k2
                          case measure => have := HJ1.out; have := HK2.out; omega
                          case rel => exact ⟨(wrap64 (x21_2 + 1)), (by first | rfl | (simp; done) | (simp [*]; done)), H', ⟨by have := HJ1.out; have := HK2.out; omega⟩, ⟨by (with_reducible repeat (first | refine yM ?_ _ | refine yO ?_ | refine yN ?_ _)); exact BK183.out⟩, ⟨by repeat (first | (with_reducible first | exact HB.out | apply yQ | apply yL | apply yP | refine yE ?_ GE183.out) | exact HB.out)⟩⟩
                    · rw [if_neg c13] at H
                      exact absurd H (by simp)
                · rw [if_neg c11] at H
                  exact absurd H (by simp)
              · rw [if_neg c10] at H
                exact absurd H (by simp)
            · rw [if_neg c9] at H
              have c9b0 : decide (x21_2 < (l0_0.length : Int)) = false := zS c9; clear c9; obtain rfl := Option.some.inj H
              go_wp2
              go_ret
              exact ⟨by first | rfl | (simp <;> rfl) | (simp [*] <;> rfl), by repeat (first | (with_reducible first | exact HB.out | apply yQ | apply yL | apply yP | refine yE ?_ GE183.out) | exact HB.out)⟩

/-! ### slices_Clone_int64_int64_isnil: function 78 -/
def slices_Clone_int64_int64_isnil.f (l0 : List Int) : Option (List Int) := some ([] : List Int)
set_option maxHeartbeats 8000000 in
set_option maxRecDepth 100000 in
theorem slices_Clone_int64_int64_isnil.calls (c0 : Nat) (l0 : List Int) (r : List Int) (w : World) (hr0 : Kd.C (Kd.int .i64) w none l0.length l0) (hc0 : l0.length ≤ c0) (h : slices_Clone_int64_int64_isnil.f l0 = some r) :
    Calls Try.prog 78 #[.slice none l0.length c0] w fun e w' => ∃ v0_ : Value, e = .returned (v0_) ∧ Kd.R (Kd.int .i64) 2 w' w.heap.size (fun _ => True) v0_ r ∧ Below w.heap.size w w' := by
  have HR0 := yD hr0
  have HC0 := yD hc0
  clear hr0 hc0
  have HB := yD (Below.refl w.heap.size w)
  have H : (some ([] : List Int)) = some r := h
  clear h; obtain rfl := Option.some.inj H; have q_ : ∀ (w : World) (a : Option Addr) (n c n' c' : Nat), (binOp .eql 27 (.slice a n c) (.slice none n' c')).run Try.prog w = .ok (.bool a.isNone) w := fun w a n c n' c' => Lib.run_eql_slice_nil w _ _ a n c n' c' Try.underlying27; go_enter Try.func78, Try.ntmps78
  go_wp2
  go_ret
  exact ⟨_, by first | rfl | (simp <;> rfl) | (simp [*] <;> rfl), by first | exact Kd.R_nil _ _ _ _ _ | exact Kd.N_nil _ _ _ _ _ | exact Kd.V_nil _ _ _ _ _ | exact Kd.Q_nil _ _ _ _ _ | exact Kd.S_nil _ _ _ _ _, by repeat (first | (with_reducible first | exact HB.out | apply yQ | apply yL | apply yP) | exact HB.out)⟩

/-! ### slices_Clone_int64_int64_nn: function 78 -/
def slices_Clone_int64_int64_nn.f (l0 : List Int) : Option (List Int) := (some (([] : List Int) : List Int)).bind fun y187 => (if y187.length + l0.length < 17592186044416 then (some (y187 ++ l0)) else (none))
set_option maxHeartbeats 8000000 in
set_option maxRecDepth 100000 in
theorem slices_Clone_int64_int64_nn.calls (A0 : Addr) (c0 : Nat) (l0 : List Int) (r : List Int) (w : World) (hr0 : Kd.C (Kd.int .i64) w (some A0) l0.length l0) (hc0 : l0.length ≤ c0) (h : slices_Clone_int64_int64_nn.f l0 = some r) :
    Calls Try.prog 78 #[.slice (some A0) l0.length c0] w fun e w' => ∃ v0_ : Value, e = .returned (v0_) ∧ Kd.R (Kd.int .i64) 2 w' w.heap.size (fun _ => True) v0_ r ∧ Below w.heap.size w w' := by
  have HR0 := yD hr0
  have HC0 := yD hc0
  clear hr0 hc0
  have HB := yD (Below.refl w.heap.size w)
  have H : ((some (([] : List Int) : List Int)).bind fun y187 => (if y187.length + l0.length < 17592186044416 then (some (y187 ++ l0)) else (none))) = some r := h
  clear h
  obtain ⟨y187, hy187⟩ : ∃ y_ : List Int, y_ = (([] : List Int)) := ⟨_, rfl⟩
  replace H : (if y187.length + l0.length < 17592186044416 then (some (y187 ++ l0)) else (none)) = some r := by first | (rw [hy187]; with_reducible exact H) | (have H2_ := (Option.bind_some _ _).symm.trans H; rw [hy187]; with_reducible exact H2_) | (have H2_ := (Option.bind_some _ _).symm.trans H; with_reducible exact H2_) | with_reducible exact H | (rw [hy187]; exact H) | exact H
  have Ny187 := yD hy187
  clear hy187
  by_cases c2 : y187.length + l0.length < 17592186044416
  · rw [if_pos c2] at H
    have LMc2 := yD c2
    clear c2
    obtain ⟨y190, hy190⟩ : ∃ y_ : List Int, y_ = (y187 ++ l0) := ⟨_, rfl⟩
    replace H : (some y190) = some r := by first | (rw [hy190]; with_reducible exact H) | (have H2_ := (Option.bind_some _ _).symm.trans H; rw [hy190]; with_reducible exact H2_) | (have H2_ := (Option.bind_some _ _).symm.trans H; with_reducible exact H2_) | with_reducible exact H | (rw [hy190]; exact H) | exact H
    have Ny190 := yD hy190
    clear hy190; obtain rfl := Option.some.inj H; have q_ : ∀ (w : World) (a : Option Addr) (n c n' c' : Nat), (binOp .eql 27 (.slice a n c) (.slice none n' c')).run Try.prog w = .ok (.bool a.isNone) w := fun w a n c n' c' => Lib.run_eql_slice_nil w _ _ a n c n' c' Try.underlying27; go_enter Try.func78, Try.ntmps78
    go_wp2_with (first | ((with_reducible refine gate_dst (N := 5) rfl ?_); refine Kd.R_lit (Kd.int .i64) _ 2 ?hg (N := 5) ?hd (xs := ([] : List Int)) (inner := []) (ok := fun _ => True) (okp := fun _ => True) ?hr ?hp (fun _ hk => hk) trivial (Below.refl _ _) (Nat.le_refl _) (by simp) ?_; (case hd => rfl); (case hg => rfl); (case hr => first | (go_simp; done) | (go_simp; rfl)); (case hp => exact (Reps.none _ _)); intro v188 w3 ho4 hb hg_ hnew_; clear hg_ hnew_; (first | rw [← Ny187.out] at ho4 | (simp only [Int.reduceToNat] at ho4; rw [← Ny187.out] at ho4)); have n0_ := yD (yZ ho4 (below_size (kB HB))); have n1_ := yD (zC (kB HB) hb); clear HB; have HO189 := n0_; have HB := n1_; clear n0_ n1_; clear hb ho4) | ((with_reducible refine gate_builtin (b := .append) (xs := #[.tmp 5, .tmp 6]) rfl ?_); at_builtin; refine Kd.R_append_rows (Kd.int .i64) (w0 := w) w.heap.size rfl (.tmp 5) (.tmp 6) 27 2 (.int .i64 0) 8 rfl Try.underlying27 info2 rfl (by decide) (by omega) v188 y187 l0 _ _ _ (fun _ => True) (fun _ => False) rfl rfl ?aO ?aR (fun _ _ h => h) (fun _ h => h.elim) ?aF ?aB ?aS ?aL ?_; (case aR => exact kV (yY HR0.out HB.out)); (case aB => exact (kB HB)); (case aF => exact (fun _ _ => trivial)); (case aO => exact (kA HO189)); (case aS => exact (below_size (kB HB))); (case aL => have := LMc2.out; omega); intro v191 w5 ho hb hg hat; rw [← Ny190.out] at ho; have n0_ := yD (hb); have n1_ := yD (ho); clear HB; clear HO189; have HB := n0_; have HO192 := n1_; clear n0_ n1_; clear ho hb hg hat))
    go_ret
    exact ⟨_, by first | rfl | (simp <;> rfl) | (simp [*] <;> rfl), by (with_reducible repeat (first | apply yA | apply yB | apply yC)); exact HO192.out, by repeat (first | (with_reducible first | exact HB.out | apply yQ | apply yL | apply yP) | exact HB.out)⟩
  · rw [if_neg c2] at H
    exact absurd H (by simp)

/-! ### slices_Clone_int64_int64: function 78 -/
def slices_Clone_int64_int64.f (l0 : List Int) : Option (List Int) := slices_Clone_int64_int64_nn.f l0
theorem slices_Clone_int64_int64.calls (A0 : Option Addr) (c0 : Nat) (l0 : List Int) (r : List Int) (w : World) (hr0 : Kd.C (Kd.int .i64) w A0 l0.length l0) (hc0 : l0.length ≤ c0) (h : slices_Clone_int64_int64.f l0 = some r) :
    Calls Try.prog 78 #[.slice A0 l0.length c0] w fun e w' => ∃ v0_ : Value, e = .returned (v0_) ∧ Kd.R (Kd.int .i64) 2 w' w.heap.size (fun _ => True) v0_ r ∧ Below w.heap.size w w' := by
  cases A0 with
  | some A0 => exact slices_Clone_int64_int64_nn.calls A0 c0 l0 r w hr0 hc0 h
  | none =>
    have hz : l0 = [] := by
      cases l0 with
      | nil => rfl
      | cons x xs => obtain ⟨ad, e, _⟩ := hr0.2.2 (by simp); cases e
    subst hz
    have hr : r = [] := by
      have h' := h
      unfold slices_Clone_int64_int64.f slices_Clone_int64_int64_nn.f at h'
      simp at h'
      exact h'
    subst hr
    exact slices_Clone_int64_int64_isnil.calls c0 [] [] w hr0 hc0 rfl

/-! ### impl_rangeOf: function 82 -/
def impl_rangeOf.l0 : Nat → List Int → List Int → Int → Int → Int → List Int → List Int → List Int → List Int → Option (Int × List Int × List Int × List Int × List Int × (List (S137)))
  | 0, _, _, _, _, _, _, _, _, _ => none
  | k + 1, x0, x1, x11, x12, x198000, x198001, x198002, x198003, x198004 => if x12 < x11 then (if x198003.length < 17592186044416 then (if 0 ≤ x12 then (if x12 < (x1.length : Int) then (if x12 < (x0.length : Int) then (if x198002.length < 17592186044416 then (if x198004.length < 17592186044416 then (impl_rangeOf.l0 k x0 x1 x11 (wrap64 (x12 + 1)) x198000 x198001 (x198002 ++ [wrap64 ((rd x1 x12) - (rd x0 x12))]) (x198003 ++ [1]) (x198004 ++ [wrap64 ((rd x1 x12) - (rd x0 x12))])) else (none)) else (none)) else (none)) else (none)) else (none)) else (none)) else (some (x198000, x198001, x198002, x198003, x198004, ([] : List (S137))))
def impl_rangeOf.f (k : Nat) (l0 : List Int) (l1 : List Int) : Option (Int × List Int × List Int × List Int × List Int × (List (S137))) := (slices_Clone_int64_int64.f l0).bind fun t194 => (impl_rangeOf.l0 k l0 l1 (l0.length : Int) 0 3 t194 ([] : List Int) ([] : List Int) ([] : List Int))
theorem impl_rangeOf.mono_l : ∀ k, (∀ y0 y1 y2 y3 y4 y5 y6 y7 y8, LeO (impl_rangeOf.l0 k y0 y1 y2 y3 y4 y5 y6 y7 y8) (impl_rangeOf.l0 (k + 1) y0 y1 y2 y3 y4 y5 y6 y7 y8))
  | 0 => fun _ _ _ _ _ _ _ _ _ r h => by simp [impl_rangeOf.l0] at h
  | k + 1 => by
    have ih0 := impl_rangeOf.mono_l k
    · intro y0 y1 y2 y3 y4 y5 y6 y7 y8
      unfold impl_rangeOf.l0
      repeat' first
      | (with_reducible exact ih0 _ _ _ _ _ _ _ _ _)
      | (with_reducible exact LeO.refl _)
      | (with_reducible exact LeO.none _)
      | (with_reducible refine LeO.ite ?_ ?_)
      | (with_reducible refine LeO.bind ?_ (fun _ => ?_))
      | exact ih0 _ _ _ _ _ _ _ _ _
      | exact LeO.none _
      | refine LeO.ite ?_ ?_
      | refine LeO.bind ?_ (fun _ => ?_)
theorem impl_rangeOf.mono : ∀ a0 a1 k, LeO (impl_rangeOf.f k a0 a1) (impl_rangeOf.f (k + 1) a0 a1) := by
  intro a0 a1 k
  have ih0 := impl_rangeOf.mono_l k
  unfold impl_rangeOf.f
  repeat' first
      | (with_reducible exact ih0 _ _ _ _ _ _ _ _ _)
      | (with_reducible exact LeO.refl _)
      | (with_reducible exact LeO.none _)
      | (with_reducible refine LeO.ite ?_ ?_)
      | (with_reducible refine LeO.bind ?_ (fun _ => ?_))
      | exact ih0 _ _ _ _ _ _ _ _ _
      | exact LeO.none _
      | refine LeO.ite ?_ ?_
      | refine LeO.bind ?_ (fun _ => ?_)
def impl_rangeOf.T6 : Bool × List (List Nat × List Nat) := (true, [([], []), ([0], [0]), ([], []), ([], []), ([2, 3], [2, 3]), ([4], [4]), ([], []), ([], []), ([6, 7], [6, 7]), ([8], [8]), ([5, 9], [5, 9]), ([10], [10]), ([1, 11], [1, 11]), ([0, 1, 2, 3, 4, 5, 6, 7, 8, 9, 10, 11, 12], []), ([13, 12, 12, 0, 1, 2, 3, 4, 5, 6, 7, 8, 9, 10, 11, 12], [12, 13])])
def impl_rangeOf.B6 : List Nat := [0, 1, 0, 0, 12, 28, 0, 0, 192, 448, 1020, 2044, 4095, 8191, 16383]
theorem impl_rangeOf.tab6 : rtab .any (opsOf Try.f82 6) = impl_rangeOf.T6 := by kernel_rfl
theorem impl_rangeOf.bits6 : waitsOk impl_rangeOf.T6.2 impl_rangeOf.B6 = true := by kernel_rfl
def impl_rangeOf.T7 : Bool × List (List Nat × List Nat) := (true, [([], []), ([0], [0]), ([], []), ([], []), ([2, 3], [2, 3]), ([4], [4]), ([], []), ([], []), ([6, 7], [6, 7]), ([8], [8]), ([5, 9], [5, 9]), ([10], [10]), ([1, 11], [1, 11]), ([0, 1, 2, 3, 4, 5, 6, 7, 8, 9, 10, 11, 12], []), ([13, 12, 12, 0, 1, 2, 3, 4, 5, 6, 7, 8, 9, 10, 11, 12], [12, 13])])
def impl_rangeOf.B7 : List Nat := [0, 1, 0, 0, 12, 28, 0, 0, 192, 448, 1020, 2044, 4095, 8191, 16383]
theorem impl_rangeOf.tab7 : rtab .any (opsOf Try.f82 7) = impl_rangeOf.T7 := by kernel_rfl
theorem impl_rangeOf.bits7 : waitsOk impl_rangeOf.T7.2 impl_rangeOf.B7 = true := by kernel_rfl
set_option maxHeartbeats 8000000 in
set_option maxRecDepth 100000 in
theorem impl_rangeOf.calls (k : Nat) (A0 : Option Addr) (c0 : Nat) (l0 : List Int) (A1 : Option Addr) (c1 : Nat) (l1 : List Int) (r1 : Int) (r2 : List Int) (r3 : List Int) (r4 : List Int) (r5 : List Int) (r6 : List (S137)) (w : World) (hr0 : Kd.C (Kd.int .i64) w A0 l0.length l0) (hc0 : l0.length ≤ c0) (hr1 : Kd.C (Kd.int .i64) w A1 l1.length l1) (hc1 : l1.length ≤ c1) (h : impl_rangeOf.f k l0 l1 = some (r1, r2, r3, r4, r5, r6)) :
    Calls Try.prog 82 #[.slice A0 l0.length c0, .slice A1 l1.length c1] w fun e w' => ∃ v1_ v2_ v3_ v4_ v5_ : Value, e = .returned (.agg #[.int .i64 r1, v1_, v2_, v3_, v4_, v5_]) ∧ Kd.R (Kd.int .i64) 2 w' w.heap.size (fun k_ => some k_ ≠ (v2_ : Value).ownBlock ∧ some k_ ≠ (v3_ : Value).ownBlock ∧ some k_ ≠ (v4_ : Value).ownBlock) v1_ r2 ∧ Kd.R (Kd.int .i64) 2 w' w.heap.size (fun k_ => some k_ ≠ (v1_ : Value).ownBlock ∧ some k_ ≠ (v3_ : Value).ownBlock ∧ some k_ ≠ (v4_ : Value).ownBlock) v2_ r3 ∧ Kd.R (Kd.int .i64) 2 w' w.heap.size (fun k_ => some k_ ≠ (v1_ : Value).ownBlock ∧ some k_ ≠ (v2_ : Value).ownBlock ∧ some k_ ≠ (v4_ : Value).ownBlock) v3_ r4 ∧ Kd.R (Kd.int .i64) 2 w' w.heap.size (fun k_ => some k_ ≠ (v1_ : Value).ownBlock ∧ some k_ ≠ (v2_ : Value).ownBlock ∧ some k_ ≠ (v3_ : Value).ownBlock) v4_ r5 ∧ Kd.S k137 137 w' w.heap.size (fun k_ => some k_ ≠ (v1_ : Value).ownBlock ∧ some k_ ≠ (v2_ : Value).ownBlock ∧ some k_ ≠ (v3_ : Value).ownBlock ∧ some k_ ≠ (v4_ : Value).ownBlock) v5_ r6 ∧ Below w.heap.size w w' := by
  have hu57 := Try.underlying57
  have HR0 := yD hr0
  have HC0 := yD hc0
  clear hr0 hc0
  have HR1 := yD hr1
  have HC1 := yD hc1
  clear hr1 hc1
  have HB := yD (Below.refl w.heap.size w)
  have H : ((slices_Clone_int64_int64.f l0).bind fun t194 => (impl_rangeOf.l0 k l0 l1 (l0.length : Int) 0 3 t194 ([] : List Int) ([] : List Int) ([] : List Int))) = some (r1, r2, r3, r4, r5, r6) := h
  clear h
  obtain ⟨t194, A30, H⟩ := zW_ H
  replace H : (impl_rangeOf.l0 k l0 l1 (l0.length : Int) 0 3 t194 ([] : List Int) ([] : List Int) ([] : List Int)) = some (r1, r2, r3, r4, r5, r6) := H
  have A3 := yD A30
  clear A30
  have H' := yD H
  clear H; go_enter Try.func82, Try.ntmps82
  go_wp2_with (first | ((with_reducible refine gate_dst (N := 4) rfl ?_); refine box_event ?hg (N := 4) ?hd (cs := #[.int .i64 0, .slice none 0 0, .slice none 0 0, .slice none 0 0, .slice none 0 0, .slice none 0 0]) (t := 57) ?hr ?_; (case hd => rfl); (case hg => rfl); (case hr => first | (go_simp; done) | (go_simp; rfl)); intro gb193 hg w4 hbox hb; have n0_ := yD (zC (kB HB) hb); have n1_ := yD (hbox); have n2_ := yD ((by rw [hg]; exact (below_size (kB HB)) : w.heap.size ≤ gb193)); have n3_ := yD ((by rw [hg]; exact (below_size (kB HB)) : w.heap.size ≤ gb193)); clear HB; have HB := n0_; have BK193 := n1_; have GW193 := n2_; have GE193 := n3_; clear n0_ n1_ n2_ n3_; clear hb hbox hg) | ((with_reducible refine gate_callee (f := 78) rfl ?_); refine goesL_ (some 8) rfl rfl Try.func78 (by kernel_rfl) rfl #[.slice A0 l0.length c0] rfl (by (try simp only [zK, zL, zM]); first | done | rfl | (simp only [zN, zO]; rfl)) ?_; (with_reducible refine (slices_Clone_int64_int64.calls _ _ l0 t194 _ ?side1 ?side2 A3.out).mono ?_); (case side1 => exact kV (yY HR0.out HB.out)); (case side2 => exact HC0.out); rintro e w5 ⟨v195, rfl, ho0, hb⟩; refine ⟨_, rfl, ?_⟩; have n0_ := yD (yZ ho0 (below_size (kB HB))); have n1_ := yD (zB (g := gb193) (o := .cells #[.int .i64 0, .slice none 0 0, .slice none 0 0, .slice none 0 0, .slice none 0 0, .slice none 0 0] 57 (0, 0)) (kM BK193) hb); have n2_ := yD (zC (kB HB) hb); clear BK193; clear HB; have HO196 := n0_; have BK193 := n1_; have HB := n2_; clear n0_ n1_ n2_; (try clear hb); (try clear hb2); (try clear hk); (try clear hi); (try clear ho0); obtain ⟨Ao6, co6, eo6⟩ := Kd.R_slice HO196.out; subst eo6) | ((with_reducible refine gate_dst (N := 5) rfl ?_); refine box_event ?hg (N := 5) ?hd (cs := #[.int .i64 0, .slice none 0 0, .slice none 0 0, .slice none 0 0, .slice none 0 0, .slice none 0 0]) (t := 57) ?hr ?_; (case hd => rfl); (case hg => rfl); (case hr => first | (go_simp; done) | (go_simp; rfl)); intro gb197 hg w7 hbox hb; have n0_ := yD (zE (kA HO196) hb); have n1_ := yD (zB (g := gb193) (o := .cells #[.int .i64 0, .slice none 0 0, .slice none 0 0, .slice none 0 0, .slice none 0 0, .slice none 0 0] 57 (0, 0)) (kM BK193) hb); have n2_ := yD (zC (kB HB) hb); have n3_ := yD (hbox); have n4_ := yD ((by rw [hg]; exact (below_size (kB HB)) : w.heap.size ≤ gb197)); have n5_ := yD ((by rw [hg]; exact (below_size (kB HB)) : w.heap.size ≤ gb197)); have n6_ := yD ((by rw [hg]; exact Nat.ne_of_lt (blk_lt (g := gb193) (o := .cells #[.int .i64 0, .slice none 0 0, .slice none 0 0, .slice none 0 0, .slice none 0 0, .slice none 0 0] 57 (0, 0)) (kM BK193)) : gb193 ≠ gb197)); have n7_ := yD ((by rw [hg]; exact Nat.ne_of_gt (blk_lt (g := gb193) (o := .cells #[.int .i64 0, .slice none 0 0, .slice none 0 0, .slice none 0 0, .slice none 0 0, .slice none 0 0] 57 (0, 0)) (kM BK193)) : gb197 ≠ gb193)); clear HO196; clear BK193; clear HB; have HO196 := n0_; have BK193 := n1_; have HB := n2_; have BK197 := n3_; have GW197 := n4_; have GE197 := n5_; have NB193_197 := n6_; have NB197_193 := n7_; clear n0_ n1_ n2_ n3_ n4_ n5_ n6_ n7_; clear hb hbox hg; have hnb8 := NB197_193.out; have hnc8 := NB193_197.out; obtain ⟨hcz9_0, hcz9_1, hcz9_2, hcz9_3, hcz9_4, hcz9_5⟩ := cz6 BK197.out; obtain ⟨hfz9_0, hfz9_1, hfz9_2, hfz9_3, hfz9_4, hfz9_5⟩ := fz6 BK197.out))
  go_loopg [12] k (fun kq v12 w' => ∃ (x12_1 : Int) (x198002_1 : List Int) (x198003_1 : List Int) (x198004_1 : List Int) (u198002 : Value) (u198003 : Value) (u198004 : Value), v12 = .int .i64 x12_1 ∧ Aside0 (impl_rangeOf.l0 kq l0 l1 (l0.length : Int) x12_1 3 t194 x198002_1 x198003_1 x198004_1 = some (r1, r2, r3, r4, r5, r6)) ∧ Aside0 (kq ≤ k) ∧ Aside0 (Kd.R (Kd.int .i64) 2 w' w.heap.size (fun k_ => some k_ ≠ (u198002 : Value).ownBlock ∧ some k_ ≠ (u198003 : Value).ownBlock ∧ some k_ ≠ (u198004 : Value).ownBlock) (.slice Ao6 t194.length co6) t194) ∧ Aside0 (Kd.R (Kd.int .i64) 2 w' w.heap.size (fun k_ => some k_ ≠ ((.slice Ao6 t194.length co6) : Value).ownBlock ∧ some k_ ≠ (u198003 : Value).ownBlock ∧ some k_ ≠ (u198004 : Value).ownBlock) u198002 x198002_1) ∧ Aside0 (Kd.R (Kd.int .i64) 2 w' w.heap.size (fun k_ => some k_ ≠ ((.slice Ao6 t194.length co6) : Value).ownBlock ∧ some k_ ≠ (u198002 : Value).ownBlock ∧ some k_ ≠ (u198004 : Value).ownBlock) u198003 x198003_1) ∧ Aside0 (Kd.R (Kd.int .i64) 2 w' w.heap.size (fun k_ => some k_ ≠ ((.slice Ao6 t194.length co6) : Value).ownBlock ∧ some k_ ≠ (u198002 : Value).ownBlock ∧ some k_ ≠ (u198003 : Value).ownBlock) u198004 x198004_1) ∧ Aside0 (w'.heap[gb193]? = some (.cells #[.int .i64 0, (.slice none 0 0), (.slice none 0 0), (.slice none 0 0), (.slice none 0 0), (.slice none 0 0)] 57 (0, 0))) ∧ Aside0 (w'.heap[gb197]? = some (.cells #[.int .i64 3, (.slice Ao6 t194.length co6), u198002, u198003, u198004, (.slice none 0 0)] 57 (0, 0))) ∧ Aside0 (Below w.heap.size w w'))
  case atStart => exact ⟨(0), (([] : List Int)), (([] : List Int)), (([] : List Int)), (.slice none 0 0), (.slice none 0 0), (.slice none 0 0), (by first | rfl | (simp; done) | (simp [*]; done)), H', ⟨Nat.le_refl _⟩, ⟨by (with_reducible repeat (first | apply yA | apply yB | apply yC)); exact zF (yF (p := ⟨gb197, 5, none⟩) (yF (p := ⟨gb197, 4, none⟩) (yF (p := ⟨gb197, 3, none⟩) (yF (p := ⟨gb197, 2, none⟩) (yF (p := ⟨gb197, 1, none⟩) (yF (p := ⟨gb197, 0, none⟩) (Kd.R_types HO196.out BK197.out (by decide)) (fun _ hk => hk.2) (.int .i64 3)) (fun _ hk => hk.2) (.slice Ao6 t194.length co6)) (fun _ hk => hk.2) (.slice none 0 0)) (fun _ hk => hk.2) (.slice none 0 0)) (fun _ hk => hk.2) (.slice none 0 0)) (fun _ hk => hk.2) (.slice none 0 0)) (fun _ hk => ⟨(by simp [Value.ownBlock]), ⟨(by simp [Value.ownBlock]), (by simp [Value.ownBlock])⟩⟩)⟩, ⟨by first | exact Kd.R_nil _ _ _ _ _ | exact Kd.N_nil _ _ _ _ _ | exact Kd.V_nil _ _ _ _ _ | exact Kd.Q_nil _ _ _ _ _ | exact Kd.S_nil _ _ _ _ _⟩, ⟨by first | exact Kd.R_nil _ _ _ _ _ | exact Kd.N_nil _ _ _ _ _ | exact Kd.V_nil _ _ _ _ _ | exact Kd.Q_nil _ _ _ _ _ | exact Kd.S_nil _ _ _ _ _⟩, ⟨by first | exact Kd.R_nil _ _ _ _ _ | exact Kd.N_nil _ _ _ _ _ | exact Kd.V_nil _ _ _ _ _ | exact Kd.Q_nil _ _ _ _ _ | exact Kd.S_nil _ _ _ _ _⟩, ⟨by (with_reducible repeat (first | refine yM ?_ _ | refine yO ?_ | refine yN ?_ _)); refine blk_far ?_ NB193_197.out _; (with_reducible repeat (first | refine yM ?_ _ | refine yO ?_ | refine yN ?_ _)); refine blk_far ?_ NB193_197.out _; (with_reducible repeat (first | refine yM ?_ _ | refine yO ?_ | refine yN ?_ _)); refine blk_far ?_ NB193_197.out _; (with_reducible repeat (first | refine yM ?_ _ | refine yO ?_ | refine yN ?_ _)); refine blk_far ?_ NB193_197.out _; (with_reducible repeat (first | refine yM ?_ _ | refine yO ?_ | refine yN ?_ _)); refine blk_far ?_ NB193_197.out _; (with_reducible repeat (first | refine yM ?_ _ | refine yO ?_ | refine yN ?_ _)); refine blk_far ?_ NB193_197.out _; (with_reducible repeat (first | refine yM ?_ _ | refine yO ?_ | refine yN ?_ _)); exact BK193.out⟩, ⟨by (with_reducible repeat (first | refine yM ?_ _ | refine yO ?_ | refine yN ?_ _)); refine blk_put (cs := #[.int .i64 3, .slice Ao6 t194.length co6, .slice none 0 0, .slice none 0 0, .slice none 0 0, .slice none 0 0]) ?_ 5 _ rfl; (with_reducible repeat (first | refine yM ?_ _ | refine yO ?_ | refine yN ?_ _)); refine blk_put (cs := #[.int .i64 3, .slice Ao6 t194.length co6, .slice none 0 0, .slice none 0 0, .slice none 0 0, .slice none 0 0]) ?_ 4 _ rfl; (with_reducible repeat (first | refine yM ?_ _ | refine yO ?_ | refine yN ?_ _)); refine blk_put (cs := #[.int .i64 3, .slice Ao6 t194.length co6, .slice none 0 0, .slice none 0 0, .slice none 0 0, .slice none 0 0]) ?_ 3 _ rfl; (with_reducible repeat (first | refine yM ?_ _ | refine yO ?_ | refine yN ?_ _)); refine blk_put (cs := #[.int .i64 3, .slice Ao6 t194.length co6, .slice none 0 0, .slice none 0 0, .slice none 0 0, .slice none 0 0]) ?_ 2 _ rfl; (with_reducible repeat (first | refine yM ?_ _ | refine yO ?_ | refine yN ?_ _)); refine blk_put (cs := #[.int .i64 3, .slice none 0 0, .slice none 0 0, .slice none 0 0, .slice none 0 0, .slice none 0 0]) ?_ 1 _ rfl; (with_reducible repeat (first | refine yM ?_ _ | refine yO ?_ | refine yN ?_ _)); refine blk_put (cs := #[.int .i64 0, .slice none 0 0, .slice none 0 0, .slice none 0 0, .slice none 0 0, .slice none 0 0]) ?_ 0 _ rfl; (with_reducible repeat (first | refine yM ?_ _ | refine yO ?_ | refine yN ?_ _)); exact BK197.out⟩, ⟨by repeat (first | (with_reducible first | exact HB.out | apply yQ | apply yL | apply yP | refine yE ?_ GE193.out | refine yE ?_ GE197.out) | exact HB.out)⟩⟩
  case round =>
    clear H'
    try clear c1; try clear p2; try clear c7; try clear c8; try clear hcz9_0; try clear hcz9_1; try clear hcz9_2; try clear hcz9_3; try clear hcz9_4; try clear hcz9_5; try clear hfz9_0; try clear hfz9_1; try clear hfz9_2; try clear hfz9_3; try clear hfz9_4; try clear hfz9_5
    obtain ⟨x12_1, x198002_1, x198003_1, x198004_1, u198002, u198003, u198004, rfl, HA, HK1, HO_198001, HO_198002, HO_198003, HO_198004, BK193, BK197, HB⟩ := hrel
    cases gk with
    | zero => exact absurd HA.out (by simp [impl_rangeOf.l0])
    | succ k1 =>
      have H := HA.out; clear HA
      simp only [impl_rangeOf.l0] at H
      by_cases c10 : x12_1 < (l0.length : Int)
      · rw [if_pos c10] at H
        have c10b0 : decide (x12_1 < (l0.length : Int)) = true := zR c10; clear c10
        by_cases c11 : x198003_1.length < 17592186044416
        · rw [if_pos c11] at H
          have LMc11 := yD c11
          clear c11
          obtain ⟨y198, hy198⟩ : ∃ y_ : List Int, y_ = (x198003_1 ++ [1]) := ⟨_, rfl⟩
          replace H : (if 0 ≤ x12_1 then (if x12_1 < (l1.length : Int) then (if x12_1 < (l0.length : Int) then (if x198002_1.length < 17592186044416 then (if x198004_1.length < 17592186044416 then (impl_rangeOf.l0 k1 l0 l1 (l0.length : Int) (wrap64 (x12_1 + 1)) 3 t194 (x198002_1 ++ [wrap64 ((rd l1 x12_1) - (rd l0 x12_1))]) y198 (x198004_1 ++ [wrap64 ((rd l1 x12_1) - (rd l0 x12_1))])) else (none)) else (none)) else (none)) else (none)) else (none)) = some (r1, r2, r3, r4, r5, r6) := by first | (rw [hy198]; with_reducible exact H) | (have H2_ := (Option.bind_some _ _).symm.trans H; rw [hy198]; with_reducible exact H2_) | (have H2_ := (Option.bind_some _ _).symm.trans H; with_reducible exact H2_) | with_reducible exact H | (rw [hy198]; exact H) | exact H
          have Ny198 := yD hy198
          clear hy198
          by_cases c12 : 0 ≤ x12_1
          · rw [if_pos c12] at H
            have c12b0 : decide (0 ≤ x12_1) = true := zR c12; clear c12
            by_cases c13 : x12_1 < (l1.length : Int)
            · rw [if_pos c13] at H
              have c13b0 : decide (x12_1 < (l1.length : Int)) = true := zR c13; clear c13
              by_cases c14 : x12_1 < (l0.length : Int)
              · rw [if_pos c14] at H
                have c14b0 : decide (x12_1 < (l0.length : Int)) = true := zR c14; clear c14
                by_cases c15 : x198002_1.length < 17592186044416
                · rw [if_pos c15] at H
                  have LMc15 := yD c15
                  clear c15
                  obtain ⟨y203, hy203⟩ : ∃ y_ : List Int, y_ = (x198002_1 ++ [wrap64 ((rd l1 x12_1) - (rd l0 x12_1))]) := ⟨_, rfl⟩
                  replace H : (if x198004_1.length < 17592186044416 then (impl_rangeOf.l0 k1 l0 l1 (l0.length : Int) (wrap64 (x12_1 + 1)) 3 t194 y203 y198 (x198004_1 ++ [wrap64 ((rd l1 x12_1) - (rd l0 x12_1))])) else (none)) = some (r1, r2, r3, r4, r5, r6) := by first | (rw [hy203]; with_reducible exact H) | (have H2_ := (Option.bind_some _ _).symm.trans H; rw [hy203]; with_reducible exact H2_) | (have H2_ := (Option.bind_some _ _).symm.trans H; with_reducible exact H2_) | with_reducible exact H | (rw [hy203]; exact H) | exact H
                  have Ny203 := yD hy203
                  clear hy203
                  by_cases c16 : x198004_1.length < 17592186044416
                  · rw [if_pos c16] at H
                    have LMc16 := yD c16
                    clear c16
                    obtain ⟨y208, hy208⟩ : ∃ y_ : List Int, y_ = (x198004_1 ++ [wrap64 ((rd l1 x12_1) - (rd l0 x12_1))]) := ⟨_, rfl⟩
                    replace H : (impl_rangeOf.l0 k1 l0 l1 (l0.length : Int) (wrap64 (x12_1 + 1)) 3 t194 y203 y198 y208) = some (r1, r2, r3, r4, r5, r6) := by first | (rw [hy208]; with_reducible exact H) | (have H2_ := (Option.bind_some _ _).symm.trans H; rw [hy208]; with_reducible exact H2_) | (have H2_ := (Option.bind_some _ _).symm.trans H; with_reducible exact H2_) | with_reducible exact H | (rw [hy208]; exact H) | exact H
                    have Ny208 := yD hy208
                    clear hy208
                    have H' := yD H
                    clear H; have hnb17 := NB197_193.out; have hnc17 := NB193_197.out
                    obtain ⟨hcz18_0, hcz18_1, hcz18_2, hcz18_3, hcz18_4, hcz18_5⟩ := cz6 BK197.out
                    obtain ⟨hfz18_0, hfz18_1, hfz18_2, hfz18_3, hfz18_4, hfz18_5⟩ := fz6 BK197.out
                    try go_wp2_with (first | ((with_reducible refine gate_builtin (b := .append) (xs := #[.tmp 16, .tmp 17]) rfl ?_); at_builtin; refine Kd.R_append (Kd.int .i64) (w0 := w) w.heap.size rfl (.tmp 16) (.tmp 17) 27 2 (.int .i64 0) 8 rfl Try.underlying27 info2 rfl (by decide) (by omega) u198003 x198003_1 1 [.int .i64 1] (fun k_ => some k_ ≠ (.slice Ao6 t194.length co6 : Value).ownBlock ∧ some k_ ≠ (u198002 : Value).ownBlock ∧ some k_ ≠ (u198004 : Value).ownBlock) (fun _ => False) rfl rfl ?aP (fun _ hk => hk.elim) ?aF ?aO ?aB ?aS ?aL ?_; (case aP => exact rfl); (case aB => exact (kB HB)); (case aF => exact (fun k_ hk => ⟨Kd.fresh' (yK (kA HO_198001)) k_ hk, Kd.fresh' (yK (kA HO_198002)) k_ hk, Kd.fresh' (yK (kA HO_198004)) k_ hk⟩)); (case aO => exact (kA HO_198003)); (case aS => exact (below_size (kB HB))); (case aL => have := LMc11.out; omega); intro v199 w19 ho hb hg hat; rw [← Ny198.out] at ho; have n0_ := yD (Kd.R_after (ok := (fun k_ => some k_ ≠ (u198002 : Value).ownBlock ∧ some k_ ≠ (u198004 : Value).ownBlock)) (by (with_reducible repeat (first | apply yA | apply yB | apply yC)); exact zF HO_198001.out (fun _ hk => ⟨⟨hk.1, hk.2.2⟩, hk.2.1⟩)) hg hat); have n1_ := yD (Kd.R_after (ok := (fun k_ => some k_ ≠ (.slice Ao6 t194.length co6 : Value).ownBlock ∧ some k_ ≠ (u198004 : Value).ownBlock)) (by (with_reducible repeat (first | apply yA | apply yB | apply yC)); exact zF HO_198002.out (fun _ hk => ⟨⟨hk.1, hk.2.2⟩, hk.2.1⟩)) hg hat); have n2_ := yD (Kd.R_after (ok := (fun k_ => some k_ ≠ (.slice Ao6 t194.length co6 : Value).ownBlock ∧ some k_ ≠ (u198002 : Value).ownBlock)) (by (with_reducible repeat (first | apply yA | apply yB | apply yC)); exact zF HO_198004.out (fun _ hk => ⟨⟨hk.1, hk.2.1⟩, hk.2.2⟩)) hg hat); have n3_ := yD (blk_grown (g := gb193) (o := .cells #[.int .i64 0, .slice none 0 0, .slice none 0 0, .slice none 0 0, .slice none 0 0, .slice none 0 0] 57 (0, 0)) (kM BK193) hg (Kd.R_ne HO_198003.out BK193.out (by decide))); have n4_ := yD (blk_grown (g := gb197) (o := .cells #[.int .i64 3, .slice Ao6 t194.length co6, u198002, u198003, u198004, .slice none 0 0] 57 (0, 0)) (kM BK197) hg (Kd.R_ne HO_198003.out BK197.out (by decide))); have n5_ := yD (hb); have n6_ := yD (ho); clear HO_198001; clear HO_198002; clear HO_198004; clear BK193; clear BK197; clear HB; clear HO_198003; have HO_198001 := n0_; have HO_198002 := n1_; have HO_198004 := n2_; have BK193 := n3_; have BK197 := n4_; have HB := n5_; have HO200 := n6_; clear n0_ n1_ n2_ n3_ n4_ n5_ n6_; clear ho hb hg hat; obtain ⟨Ao20, co20, eo20⟩ := Kd.R_slice HO200.out; subst eo20; obtain ⟨hcz21_0, hcz21_1, hcz21_2, hcz21_3, hcz21_4, hcz21_5⟩ := cz6 BK197.out; obtain ⟨hfz21_0, hfz21_1, hfz21_2, hfz21_3, hfz21_4, hfz21_5⟩ := fz6 BK197.out))
                    have n0_ : Aside0 (Kd.R (Kd.int .i64) 2 (w19.setCell ⟨gb197, 3, none⟩ (.slice Ao20 y198.length co20)) w.heap.size (fun k_ => some k_ ≠ (u198002 : Value).ownBlock ∧ some k_ ≠ (u198004 : Value).ownBlock ∧ some k_ ≠ (.slice Ao20 y198.length co20 : Value).ownBlock) (.slice Ao6 t194.length co6) t194) := ⟨by (with_reducible repeat (first | apply yA | apply yB | apply yC)); exact zF (yF (p := ⟨gb197, 3, none⟩) (Kd.R_types HO_198001.out BK197.out (by decide)) (fun _ hk => hk.2) (.slice Ao20 y198.length co20)) (fun _ hk => ⟨hk.1.1.1, ⟨hk.1.1.2, hk.1.2⟩⟩)⟩
                    have n1_ : Aside0 (Kd.R (Kd.int .i64) 2 (w19.setCell ⟨gb197, 3, none⟩ (.slice Ao20 y198.length co20)) w.heap.size (fun k_ => some k_ ≠ (.slice Ao6 t194.length co6 : Value).ownBlock ∧ some k_ ≠ (u198004 : Value).ownBlock ∧ some k_ ≠ (.slice Ao20 y198.length co20 : Value).ownBlock) u198002 x198002_1) := ⟨by (with_reducible repeat (first | apply yA | apply yB | apply yC)); exact zF (yF (p := ⟨gb197, 3, none⟩) (Kd.R_types HO_198002.out BK197.out (by decide)) (fun _ hk => hk.2) (.slice Ao20 y198.length co20)) (fun _ hk => ⟨hk.1.1.1, ⟨hk.1.1.2, hk.1.2⟩⟩)⟩
                    have n2_ : Aside0 (Kd.R (Kd.int .i64) 2 (w19.setCell ⟨gb197, 3, none⟩ (.slice Ao20 y198.length co20)) w.heap.size (fun k_ => some k_ ≠ (.slice Ao6 t194.length co6 : Value).ownBlock ∧ some k_ ≠ (u198002 : Value).ownBlock ∧ some k_ ≠ (.slice Ao20 y198.length co20 : Value).ownBlock) u198004 x198004_1) := ⟨by (with_reducible repeat (first | apply yA | apply yB | apply yC)); exact zF (yF (p := ⟨gb197, 3, none⟩) (Kd.R_types HO_198004.out BK197.out (by decide)) (fun _ hk => hk.2) (.slice Ao20 y198.length co20)) (fun _ hk => ⟨hk.1.1.1, ⟨hk.1.1.2, hk.1.2⟩⟩)⟩
                    have n3_ : Aside0 (Kd.R (Kd.int .i64) 2 (w19.setCell ⟨gb197, 3, none⟩ (.slice Ao20 y198.length co20)) w.heap.size (fun k_ => some k_ ≠ (.slice Ao6 t194.length co6 : Value).ownBlock ∧ some k_ ≠ (u198002 : Value).ownBlock ∧ some k_ ≠ (u198004 : Value).ownBlock) (.slice Ao20 y198.length co20) y198) := ⟨by (with_reducible repeat (first | apply yA | apply yB | apply yC)); exact zF (yF (p := ⟨gb197, 3, none⟩) (Kd.R_types HO200.out BK197.out (by decide)) (fun _ hk => hk.2) (.slice Ao20 y198.length co20)) (fun _ hk => ⟨hk.1.1, ⟨hk.1.2.1, hk.1.2.2⟩⟩)⟩
                    have n4_ : Aside0 ((w19.setCell ⟨gb197, 3, none⟩ (.slice Ao20 y198.length co20)).heap[gb193]? = some (.cells #[.int .i64 0, .slice none 0 0, .slice none 0 0, .slice none 0 0, .slice none 0 0, .slice none 0 0] 57 (0, 0))) := ⟨by (with_reducible repeat (first | refine yM ?_ _ | refine yO ?_ | refine yN ?_ _)); refine blk_far ?_ NB193_197.out _; (with_reducible repeat (first | refine yM ?_ _ | refine yO ?_ | refine yN ?_ _)); exact BK193.out⟩
                    have n5_ : Aside0 ((w19.setCell ⟨gb197, 3, none⟩ (.slice Ao20 y198.length co20)).heap[gb197]? = some (.cells #[.int .i64 3, .slice Ao6 t194.length co6, u198002, .slice Ao20 y198.length co20, u198004, .slice none 0 0] 57 (0, 0))) := ⟨by (with_reducible repeat (first | refine yM ?_ _ | refine yO ?_ | refine yN ?_ _)); refine blk_put (cs := #[.int .i64 3, .slice Ao6 t194.length co6, u198002, u198003, u198004, .slice none 0 0]) ?_ 3 _ rfl; (with_reducible repeat (first | refine yM ?_ _ | refine yO ?_ | refine yN ?_ _)); exact BK197.out⟩
                    have n6_ : Aside0 (Below w.heap.size w (w19.setCell ⟨gb197, 3, none⟩ (.slice Ao20 y198.length co20))) := ⟨by repeat (first | (with_reducible first | exact HB.out | apply yQ | apply yL | apply yP | refine yE ?_ GE193.out | refine yE ?_ GE197.out) | exact HB.out)⟩
                    (try clear HO_198001); (try clear HO_198002); (try clear HO_198004); (try clear HO200); (try clear BK193); (try clear BK197); (try clear HB)
                    generalize (w19.setCell ⟨gb197, 3, none⟩ (.slice Ao20 y198.length co20)) = w22 at n0_ n1_ n2_ n3_ n4_ n5_ n6_ ⊢
                    have HO_198001 := n0_; have HO_198002 := n1_; have HO_198004 := n2_; have HO200 := n3_; have BK193 := n4_; have BK197 := n5_; have HB := n6_; clear n0_ n1_ n2_ n3_ n4_ n5_ n6_
                    have n0_ := yD (yC HO_198001.out)
                    have n1_ := yD (yC HO_198002.out)
                    have n2_ := yD (yC HO_198004.out)
                    have n3_ := yD (yC HO200.out)
                    have n4_ := yD (yO BK193.out)
                    have n5_ := yD (yO BK197.out)
                    have n6_ := yD (yP HB.out)
                    clear HO_198001 HO_198002 HO_198004 HO200 BK193 BK197 HB; have HO_198001 := n0_; have HO_198002 := n1_; have HO_198004 := n2_; have HO200 := n3_; have BK193 := n4_; have BK197 := n5_; have HB := n6_; clear n0_ n1_ n2_ n3_ n4_ n5_ n6_
                    have p201 : 0 ≤ (x12_1 : Int) := zP (by assumption)
                    have q201 : x12_1 < (l1.length : Int) := zP (by assumption)
                    obtain ⟨ad201, e201, hx201_0⟩ := Kd.at_int HR1.out x12_1 p201 q201
                    have hw201_0 := hx201_0; cases e201
                    replace hx201_0 := (HB.out.cell (zQ w _ hx201_0)).trans hx201_0
                    replace p201 := eq_true p201; replace q201 := eq_true q201
                    have p202 : 0 ≤ (x12_1 : Int) := zP (by assumption)
                    have q202 : x12_1 < (l0.length : Int) := zP (by assumption)
                    obtain ⟨ad202, e202, hx202_0⟩ := Kd.at_int HR0.out x12_1 p202 q202
                    have hw202_0 := hx202_0; cases e202
                    replace hx202_0 := (HB.out.cell (zQ w _ hx202_0)).trans hx202_0
                    replace p202 := eq_true p202; replace q202 := eq_true q202
                    refine start_ (n := 15) (S := fun w' => w'.cell? ⟨gb197, 0, none⟩ = some (.int .i64 3) ∧ w'.cell? ⟨gb197, 1, none⟩ = some (.slice Ao6 t194.length co6) ∧ w'.cell? ⟨gb197, 2, none⟩ = some (u198002) ∧ w'.cell? ⟨gb197, 3, none⟩ = some (.slice Ao20 y198.length co20) ∧ w'.cell? ⟨gb197, 4, none⟩ = some (u198004) ∧ w'.cell? ⟨gb197, 5, none⟩ = some (.slice none 0 0) ∧ w'.cell? (ad201.add (x12_1).toNat) = some (.int .i64 (rd l1 x12_1)) ∧ w'.cell? (ad202.add (x12_1).toNat) = some (.int .i64 (rd l0 x12_1))) (ds := [14]) (bz 15 0) (by kernel_rfl) rfl rfl ⟨(yG BK197.out 0).trans rfl, (yG BK197.out 1).trans rfl, (yG BK197.out 2).trans rfl, (yG BK197.out 3).trans rfl, (yG BK197.out 4).trans rfl, (yG BK197.out 5).trans rfl, ((HB.out.cell (zQ w _ hw201_0)).trans hw201_0), ((HB.out.cell (zQ w _ hw202_0)).trans hw202_0)⟩ (fun hHeld => ?_); refine with_tabW impl_rangeOf.tab6 impl_rangeOf.bits6 (fun HT_ HW_ => ?_)
                    generalize w22.drew = w23 at HO_198001 HO_198002 HO_198004 HO200 BK193 BK197 HB hx201_0 hx202_0 hHeld ⊢
                    refine qA 0 20 (bz 15 1) HT_ ?_
                    refine qA 2 22 (bz 15 5) HT_ ?_
                    refine qA 3 23 (bz 15 13) HT_ ?_
                    refine qA 4 24 (bz 15 29) HT_ ?_
                    refine qA 6 26 (bz 15 93) HT_ ?_
                    refine qA 7 27 (bz 15 221) HT_ ?_
                    refine qA 8 28 (bz 15 477) HT_ ?_
                    refine qC 1 21 (bz 15 479) HT_ HW_ hHeld ?_ (hy := by rintro w' ⟨s0, s1, s2, s3, s4, s5, s6, s7⟩; go_simp; with_reducible rfl)
                    refine qC 5 25 (bz 15 511) HT_ HW_ hHeld ?_ (hy := by rintro w' ⟨s0, s1, s2, s3, s4, s5, s6, s7⟩; go_simp; with_reducible rfl)
                    refine qC 9 29 (bz 15 1023) HT_ HW_ hHeld ?_ (hy := by rintro w' ⟨s0, s1, s2, s3, s4, s5, s6, s7⟩; go_simp; with_reducible rfl)
                    refine qA 10 30 (bz 15 2047) HT_ ?_
                    refine one_ (i := 11) (N := some 31) (bz 15 4095) rfl rfl (one_of HT_.out (by kernel_rfl)) (by decide) (fun K hK => ?_)
                    refine value_ (w1 := ?_) (v := ?_) (by rfl) rfl ?_ ?_
                    rotate_left 2
                    · go_simp
                      constructor
                      · rfl
                      · rfl
                    refine hK.out _ _ ⟨(yG (yN BK197.out _) 0).trans rfl, (yG (yN BK197.out _) 1).trans rfl, (yG (yN BK197.out _) 2).trans rfl, (yG (yN BK197.out _) 3).trans rfl, (yG (yN BK197.out _) 4).trans rfl, (yG (yN BK197.out _) 5).trans rfl, (World.cell?_alloc_lt _ _ _ (zQ _ _ (((HB.out.cell (zQ w _ hw201_0)).trans hw201_0)))).trans (((HB.out.cell (zQ w _ hw201_0)).trans hw201_0)), (World.cell?_alloc_lt _ _ _ (zQ _ _ (((HB.out.cell (zQ w _ hw202_0)).trans hw202_0)))).trans (((HB.out.cell (zQ w _ hw202_0)).trans hw202_0))⟩ (fun hHeld => ?_)
                    clear hK K
                    refine norm_ (a' := ?_) ?_ ?_
                    rotate_left
                    · show Act.put _ (some 31) _ = _
                      simp only [Act.put, zH, zI, zJ, i64_w, i32_w]
                      rfl
                    refine one_ (i := 12) (N := some 32) (bz 15 8191) rfl rfl (one_of HT_.out (by kernel_rfl)) (by decide) (fun K hK => ?_)
                    refine Kd.R_append_step (Kd.int .i64) (w0 := w) w.heap.size (by rfl) (.tmp 21) (.tmp 31) 27 2 (.int .i64 0) 8 rfl Try.underlying27 info2 rfl (by decide) (by omega) u198002 x198002_1 (wrap64 ((rd l1 x12_1) - (rd l0 x12_1))) [.int .i64 (wrap64 ((rd l1 x12_1) - (rd l0 x12_1)))] (fun k_ => some k_ ≠ (.slice Ao6 t194.length co6 : Value).ownBlock ∧ some k_ ≠ (u198004 : Value).ownBlock ∧ some k_ ≠ (.slice Ao20 y198.length co20 : Value).ownBlock) (fun _ => False) rfl rfl ?aP (fun _ hk => hk.elim) ?aF ?aO ?aB ?aS ?aL ?_
                    (case aP => exact rfl)
                    (case aB => exact (kB HB))
                    (case aF => exact (fun k_ hk => ⟨Kd.fresh' (yK (kA HO_198001)) k_ hk, Kd.fresh' (yK (kA HO_198004)) k_ hk, Kd.fresh' (yK (kA HO200)) k_ hk⟩))
                    (case aO => exact (kA HO_198002))
                    (case aS => exact (below_size (kB HB)))
                    (case aL => have := LMc15.out; omega)
                    intro v204 w24 ho hb hg hat
                    rw [← Ny203.out] at ho
                    have n0_ := yD (Kd.R_after (ok := (fun k_ => some k_ ≠ (u198004 : Value).ownBlock ∧ some k_ ≠ (.slice Ao20 y198.length co20 : Value).ownBlock)) (by (with_reducible repeat (first | apply yA | apply yB | apply yC)); exact zF HO_198001.out (fun _ hk => ⟨⟨hk.2.1, hk.2.2⟩, hk.1⟩)) hg hat)
                    have n1_ := yD (Kd.R_after (ok := (fun k_ => some k_ ≠ (.slice Ao6 t194.length co6 : Value).ownBlock ∧ some k_ ≠ (.slice Ao20 y198.length co20 : Value).ownBlock)) (by (with_reducible repeat (first | apply yA | apply yB | apply yC)); exact zF HO_198004.out (fun _ hk => ⟨⟨hk.1, hk.2.2⟩, hk.2.1⟩)) hg hat)
                    have n2_ := yD (blk_grown (g := gb193) (o := .cells #[.int .i64 0, .slice none 0 0, .slice none 0 0, .slice none 0 0, .slice none 0 0, .slice none 0 0] 57 (0, 0)) (kM BK193) hg (Kd.R_ne HO_198002.out BK193.out (by decide)))
                    have n3_ := yD (blk_grown (g := gb197) (o := .cells #[.int .i64 3, .slice Ao6 t194.length co6, u198002, .slice Ao20 y198.length co20, u198004, .slice none 0 0] 57 (0, 0)) (kM BK197) hg (Kd.R_ne HO_198002.out BK197.out (by decide)))
                    have n4_ := yD (Kd.R_after (ok := (fun k_ => some k_ ≠ (.slice Ao6 t194.length co6 : Value).ownBlock ∧ some k_ ≠ (u198004 : Value).ownBlock)) (by (with_reducible repeat (first | apply yA | apply yB | apply yC)); exact zF HO200.out (fun _ hk => ⟨⟨hk.1, hk.2.2⟩, hk.2.1⟩)) hg hat)
                    have n5_ := yD (hb)
                    have n6_ := yD (ho)
                    clear HO_198001 HO_198004 BK193 BK197 HO200 HB HO_198002; have HO_198001 := n0_; have HO_198004 := n1_; have BK193 := n2_; have BK197 := n3_; have HO200 := n4_; have HB := n5_; have HO205 := n6_; clear n0_ n1_ n2_ n3_ n4_ n5_ n6_ ho hb hg hat
                    obtain ⟨Ao25, co25, eo25⟩ := Kd.R_slice HO205.out
                    (first | subst eo25 | (injection eo25 with f1_ f2_ f3_; have f4_ := f1_.symm; have f5_ := f3_.symm; clear f1_ f2_ f3_; subst f4_; subst f5_))
                    refine hK.out _ _ ⟨(yG BK197.out 0).trans rfl, (yG BK197.out 1).trans rfl, (yG BK197.out 2).trans rfl, (yG BK197.out 3).trans rfl, (yG BK197.out 4).trans rfl, (yG BK197.out 5).trans rfl, ((HB.out.cell (zQ w _ hw201_0)).trans hw201_0), ((HB.out.cell (zQ w _ hw202_0)).trans hw202_0)⟩ (fun hHeld => ?_)
                    clear hK K
                    refine norm_ (a' := ?_) ?_ ?_
                    rotate_left
                    · show Act.put _ (some 32) _ = _
                      simp only [Act.put, zH, zI, zJ, i64_w, i32_w]
                      rfl
                    refine qA 13 33 (bz 15 16383) HT_ ?_
                    refine last_ (i := 14) (N := none) #[true, true, true, true, true, true, true, true, true, true, true, true, true, true, true] rfl rfl (one_of HT_.out (by kernel_rfl)) (by decide) (fun K hK => ?_)
                    have hs26 : w24.cell? ⟨gb197, 2, none⟩ = some (u198002) := (yG BK197.out 2).trans rfl
                    have hfs26 := yR BK197.out 2
                    have hns26_0 := NB193_197.out; have hms26_0 := NB197_193.out
                    refine skip_ (w1 := ?_) (by rfl) rfl ?_ ?_
                    rotate_left
                    · go_simp
                      rfl
                    refine hK.out _ _ ?_
                    clear hK K
                    refine done_ (done_of HT_.out (by kernel_rfl)) ?_
                    try go_wp2
                    have n0_ : Aside0 (Kd.R (Kd.int .i64) 2 (w24.setCell ⟨gb197, 2, none⟩ (.slice Ao25 y203.length co25)) w.heap.size (fun k_ => some k_ ≠ (u198004 : Value).ownBlock ∧ some k_ ≠ (.slice Ao20 y198.length co20 : Value).ownBlock ∧ some k_ ≠ (.slice Ao25 y203.length co25 : Value).ownBlock) (.slice Ao6 t194.length co6) t194) := ⟨by (with_reducible repeat (first | apply yA | apply yB | apply yC)); exact zF (yF (p := ⟨gb197, 2, none⟩) (Kd.R_types HO_198001.out BK197.out (by decide)) (fun _ hk => hk.2) (.slice Ao25 y203.length co25)) (fun _ hk => ⟨hk.1.1.1, ⟨hk.1.1.2, hk.1.2⟩⟩)⟩
                    have n1_ : Aside0 (Kd.R (Kd.int .i64) 2 (w24.setCell ⟨gb197, 2, none⟩ (.slice Ao25 y203.length co25)) w.heap.size (fun k_ => some k_ ≠ (.slice Ao6 t194.length co6 : Value).ownBlock ∧ some k_ ≠ (.slice Ao20 y198.length co20 : Value).ownBlock ∧ some k_ ≠ (.slice Ao25 y203.length co25 : Value).ownBlock) u198004 x198004_1) := ⟨by (with_reducible repeat (first | apply yA | apply yB | apply yC)); exact zF (yF (p := ⟨gb197, 2, none⟩) (Kd.R_types HO_198004.out BK197.out (by decide)) (fun _ hk => hk.2) (.slice Ao25 y203.length co25)) (fun _ hk => ⟨hk.1.1.1, ⟨hk.1.1.2, hk.1.2⟩⟩)⟩
                    have n2_ : Aside0 (Kd.R (Kd.int .i64) 2 (w24.setCell ⟨gb197, 2, none⟩ (.slice Ao25 y203.length co25)) w.heap.size (fun k_ => some k_ ≠ (.slice Ao6 t194.length co6 : Value).ownBlock ∧ some k_ ≠ (u198004 : Value).ownBlock ∧ some k_ ≠ (.slice Ao25 y203.length co25 : Value).ownBlock) (.slice Ao20 y198.length co20) y198) := ⟨by (with_reducible repeat (first | apply yA | apply yB | apply yC)); exact zF (yF (p := ⟨gb197, 2, none⟩) (Kd.R_types HO200.out BK197.out (by decide)) (fun _ hk => hk.2) (.slice Ao25 y203.length co25)) (fun _ hk => ⟨hk.1.1.1, ⟨hk.1.1.2, hk.1.2⟩⟩)⟩
                    have n3_ : Aside0 (Kd.R (Kd.int .i64) 2 (w24.setCell ⟨gb197, 2, none⟩ (.slice Ao25 y203.length co25)) w.heap.size (fun k_ => some k_ ≠ (.slice Ao6 t194.length co6 : Value).ownBlock ∧ some k_ ≠ (u198004 : Value).ownBlock ∧ some k_ ≠ (.slice Ao20 y198.length co20 : Value).ownBlock) (.slice Ao25 y203.length co25) y203) := ⟨by (with_reducible repeat (first | apply yA | apply yB | apply yC)); exact zF (yF (p := ⟨gb197, 2, none⟩) (Kd.R_types HO205.out BK197.out (by decide)) (fun _ hk => hk.2) (.slice Ao25 y203.length co25)) (fun _ hk => ⟨hk.1.1, ⟨hk.1.2.1, hk.1.2.2⟩⟩)⟩
                    have n4_ : Aside0 ((w24.setCell ⟨gb197, 2, none⟩ (.slice Ao25 y203.length co25)).heap[gb193]? = some (.cells #[.int .i64 0, .slice none 0 0, .slice none 0 0, .slice none 0 0, .slice none 0 0, .slice none 0 0] 57 (0, 0))) := ⟨by (with_reducible repeat (first | refine yM ?_ _ | refine yO ?_ | refine yN ?_ _)); refine blk_far ?_ NB193_197.out _; (with_reducible repeat (first | refine yM ?_ _ | refine yO ?_ | refine yN ?_ _)); exact BK193.out⟩
                    have n5_ : Aside0 ((w24.setCell ⟨gb197, 2, none⟩ (.slice Ao25 y203.length co25)).heap[gb197]? = some (.cells #[.int .i64 3, .slice Ao6 t194.length co6, .slice Ao25 y203.length co25, .slice Ao20 y198.length co20, u198004, .slice none 0 0] 57 (0, 0))) := ⟨by (with_reducible repeat (first | refine yM ?_ _ | refine yO ?_ | refine yN ?_ _)); refine blk_put (cs := #[.int .i64 3, .slice Ao6 t194.length co6, u198002, .slice Ao20 y198.length co20, u198004, .slice none 0 0]) ?_ 2 _ rfl; (with_reducible repeat (first | refine yM ?_ _ | refine yO ?_ | refine yN ?_ _)); exact BK197.out⟩
                    have n6_ : Aside0 (Below w.heap.size w (w24.setCell ⟨gb197, 2, none⟩ (.slice Ao25 y203.length co25))) := ⟨by repeat (first | (with_reducible first | exact HB.out | apply yQ | apply yL | apply yP | refine yE ?_ GE193.out | refine yE ?_ GE197.out) | exact HB.out)⟩
                    (try clear HO_198001); (try clear HO_198004); (try clear HO200); (try clear HO205); (try clear BK193); (try clear BK197); (try clear HB)
                    generalize (w24.setCell ⟨gb197, 2, none⟩ (.slice Ao25 y203.length co25)) = w27 at n0_ n1_ n2_ n3_ n4_ n5_ n6_ ⊢
                    have HO_198001 := n0_; have HO_198004 := n1_; have HO200 := n2_; have HO205 := n3_; have BK193 := n4_; have BK197 := n5_; have HB := n6_; clear n0_ n1_ n2_ n3_ n4_ n5_ n6_
                    have n0_ := yD (yC HO_198001.out)
                    have n1_ := yD (yC HO_198004.out)
                    have n2_ := yD (yC HO200.out)
                    have n3_ := yD (yC HO205.out)
                    have n4_ := yD (yO BK193.out)
                    have n5_ := yD (yO BK197.out)
                    have n6_ := yD (yP HB.out)
                    clear HO_198001 HO_198004 HO200 HO205 BK193 BK197 HB; have HO_198001 := n0_; have HO_198004 := n1_; have HO200 := n2_; have HO205 := n3_; have BK193 := n4_; have BK197 := n5_; have HB := n6_; clear n0_ n1_ n2_ n3_ n4_ n5_ n6_
                    have p206 : 0 ≤ (x12_1 : Int) := zP (by assumption)
                    have q206 : x12_1 < (l1.length : Int) := zP (by assumption)
                    obtain ⟨ad206, e206, hx206_0⟩ := Kd.at_int HR1.out x12_1 p206 q206
                    have hw206_0 := hx206_0
                    obtain rfl : ad201 = ad206 := (by injection e206)
                    replace hx206_0 := (HB.out.cell (zQ w _ hx206_0)).trans hx206_0
                    replace p206 := eq_true p206; replace q206 := eq_true q206
                    have p207 : 0 ≤ (x12_1 : Int) := zP (by assumption)
                    have q207 : x12_1 < (l0.length : Int) := zP (by assumption)
                    obtain ⟨ad207, e207, hx207_0⟩ := Kd.at_int HR0.out x12_1 p207 q207
                    have hw207_0 := hx207_0
                    obtain rfl : ad202 = ad207 := (by injection e207)
                    replace hx207_0 := (HB.out.cell (zQ w _ hx207_0)).trans hx207_0
                    replace p207 := eq_true p207; replace q207 := eq_true q207
                    refine start_ (n := 15) (S := fun w' => w'.cell? ⟨gb197, 0, none⟩ = some (.int .i64 3) ∧ w'.cell? ⟨gb197, 1, none⟩ = some (.slice Ao6 t194.length co6) ∧ w'.cell? ⟨gb197, 2, none⟩ = some (.slice Ao25 y203.length co25) ∧ w'.cell? ⟨gb197, 3, none⟩ = some (.slice Ao20 y198.length co20) ∧ w'.cell? ⟨gb197, 4, none⟩ = some (u198004) ∧ w'.cell? ⟨gb197, 5, none⟩ = some (.slice none 0 0) ∧ w'.cell? (ad201.add (x12_1).toNat) = some (.int .i64 (rd l1 x12_1)) ∧ w'.cell? (ad202.add (x12_1).toNat) = some (.int .i64 (rd l0 x12_1))) (ds := [14]) (bz 15 0) (by kernel_rfl) rfl rfl ⟨(yG BK197.out 0).trans rfl, (yG BK197.out 1).trans rfl, (yG BK197.out 2).trans rfl, (yG BK197.out 3).trans rfl, (yG BK197.out 4).trans rfl, (yG BK197.out 5).trans rfl, ((HB.out.cell (zQ w _ hw206_0)).trans hw206_0), ((HB.out.cell (zQ w _ hw207_0)).trans hw207_0)⟩ (fun hHeld => ?_); refine with_tabW impl_rangeOf.tab7 impl_rangeOf.bits7 (fun HT_ HW_ => ?_)
                    generalize w27.drew = w28 at HO_198001 HO_198004 HO200 HO205 BK193 BK197 HB hx206_0 hx207_0 hHeld ⊢
                    refine qA 0 34 (bz 15 1) HT_ ?_
                    refine qA 2 36 (bz 15 5) HT_ ?_
                    refine qA 3 37 (bz 15 13) HT_ ?_
                    refine qA 4 38 (bz 15 29) HT_ ?_
                    refine qA 6 40 (bz 15 93) HT_ ?_
                    refine qA 7 41 (bz 15 221) HT_ ?_
                    refine qA 8 42 (bz 15 477) HT_ ?_
                    refine qC 1 35 (bz 15 479) HT_ HW_ hHeld ?_ (hy := by rintro w' ⟨s0, s1, s2, s3, s4, s5, s6, s7⟩; go_simp; with_reducible rfl)
                    refine qC 5 39 (bz 15 511) HT_ HW_ hHeld ?_ (hy := by rintro w' ⟨s0, s1, s2, s3, s4, s5, s6, s7⟩; go_simp; with_reducible rfl)
                    refine qC 9 43 (bz 15 1023) HT_ HW_ hHeld ?_ (hy := by rintro w' ⟨s0, s1, s2, s3, s4, s5, s6, s7⟩; go_simp; with_reducible rfl)
                    refine qA 10 44 (bz 15 2047) HT_ ?_
                    refine one_ (i := 11) (N := some 45) (bz 15 4095) rfl rfl (one_of HT_.out (by kernel_rfl)) (by decide) (fun K hK => ?_)
                    refine value_ (w1 := ?_) (v := ?_) (by rfl) rfl ?_ ?_
                    rotate_left 2
                    · go_simp
                      constructor
                      · rfl
                      · rfl
                    refine hK.out _ _ ⟨(yG (yN BK197.out _) 0).trans rfl, (yG (yN BK197.out _) 1).trans rfl, (yG (yN BK197.out _) 2).trans rfl, (yG (yN BK197.out _) 3).trans rfl, (yG (yN BK197.out _) 4).trans rfl, (yG (yN BK197.out _) 5).trans rfl, (World.cell?_alloc_lt _ _ _ (zQ _ _ (((HB.out.cell (zQ w _ hw206_0)).trans hw206_0)))).trans (((HB.out.cell (zQ w _ hw206_0)).trans hw206_0)), (World.cell?_alloc_lt _ _ _ (zQ _ _ (((HB.out.cell (zQ w _ hw207_0)).trans hw207_0)))).trans (((HB.out.cell (zQ w _ hw207_0)).trans hw207_0))⟩ (fun hHeld => ?_)
                    clear hK K
                    refine norm_ (a' := ?_) ?_ ?_
                    rotate_left
                    · show Act.put _ (some 45) _ = _
                      simp only [Act.put, zH, zI, zJ, i64_w, i32_w]
                      rfl
                    refine one_ (i := 12) (N := some 46) (bz 15 8191) rfl rfl (one_of HT_.out (by kernel_rfl)) (by decide) (fun K hK => ?_)
                    refine Kd.R_append_step (Kd.int .i64) (w0 := w) w.heap.size (by rfl) (.tmp 35) (.tmp 45) 27 2 (.int .i64 0) 8 rfl Try.underlying27 info2 rfl (by decide) (by omega) u198004 x198004_1 (wrap64 ((rd l1 x12_1) - (rd l0 x12_1))) [.int .i64 (wrap64 ((rd l1 x12_1) - (rd l0 x12_1)))] (fun k_ => some k_ ≠ (.slice Ao6 t194.length co6 : Value).ownBlock ∧ some k_ ≠ (.slice Ao20 y198.length co20 : Value).ownBlock ∧ some k_ ≠ (.slice Ao25 y203.length co25 : Value).ownBlock) (fun _ => False) rfl rfl ?aP (fun _ hk => hk.elim) ?aF ?aO ?aB ?aS ?aL ?_
                    (case aP => exact rfl)
                    (case aB => exact (kB HB))
                    (case aF => exact (fun k_ hk => ⟨Kd.fresh' (yK (kA HO_198001)) k_ hk, Kd.fresh' (yK (kA HO200)) k_ hk, Kd.fresh' (yK (kA HO205)) k_ hk⟩))
                    (case aO => exact (kA HO_198004))
                    (case aS => exact (below_size (kB HB)))
                    (case aL => have := LMc16.out; omega)
                    intro v209 w29 ho hb hg hat
                    rw [← Ny208.out] at ho
                    have n0_ := yD (Kd.R_after (ok := (fun k_ => some k_ ≠ (.slice Ao20 y198.length co20 : Value).ownBlock ∧ some k_ ≠ (.slice Ao25 y203.length co25 : Value).ownBlock)) (by (with_reducible repeat (first | apply yA | apply yB | apply yC)); exact zF HO_198001.out (fun _ hk => ⟨⟨hk.2.1, hk.2.2⟩, hk.1⟩)) hg hat)
                    have n1_ := yD (blk_grown (g := gb193) (o := .cells #[.int .i64 0, .slice none 0 0, .slice none 0 0, .slice none 0 0, .slice none 0 0, .slice none 0 0] 57 (0, 0)) (kM BK193) hg (Kd.R_ne HO_198004.out BK193.out (by decide)))
                    have n2_ := yD (blk_grown (g := gb197) (o := .cells #[.int .i64 3, .slice Ao6 t194.length co6, .slice Ao25 y203.length co25, .slice Ao20 y198.length co20, u198004, .slice none 0 0] 57 (0, 0)) (kM BK197) hg (Kd.R_ne HO_198004.out BK197.out (by decide)))
                    have n3_ := yD (Kd.R_after (ok := (fun k_ => some k_ ≠ (.slice Ao6 t194.length co6 : Value).ownBlock ∧ some k_ ≠ (.slice Ao25 y203.length co25 : Value).ownBlock)) (by (with_reducible repeat (first | apply yA | apply yB | apply yC)); exact zF HO200.out (fun _ hk => ⟨⟨hk.1, hk.2.2⟩, hk.2.1⟩)) hg hat)
                    have n4_ := yD (Kd.R_after (ok := (fun k_ => some k_ ≠ (.slice Ao6 t194.length co6 : Value).ownBlock ∧ some k_ ≠ (.slice Ao20 y198.length co20 : Value).ownBlock)) (by (with_reducible repeat (first | apply yA | apply yB | apply yC)); exact zF HO205.out (fun _ hk => ⟨⟨hk.1, hk.2.2⟩, hk.2.1⟩)) hg hat)
                    have n5_ := yD (hb)
                    have n6_ := yD (ho)
                    clear HO_198001 BK193 BK197 HO200 HO205 HB HO_198004; have HO_198001 := n0_; have BK193 := n1_; have BK197 := n2_; have HO200 := n3_; have HO205 := n4_; have HB := n5_; have HO210 := n6_; clear n0_ n1_ n2_ n3_ n4_ n5_ n6_ ho hb hg hat
                    obtain ⟨Ao30, co30, eo30⟩ := Kd.R_slice HO210.out
                    (first | subst eo30 | (injection eo30 with f1_ f2_ f3_; have f4_ := f1_.symm; have f5_ := f3_.symm; clear f1_ f2_ f3_; subst f4_; subst f5_))
                    refine hK.out _ _ ⟨(yG BK197.out 0).trans rfl, (yG BK197.out 1).trans rfl, (yG BK197.out 2).trans rfl, (yG BK197.out 3).trans rfl, (yG BK197.out 4).trans rfl, (yG BK197.out 5).trans rfl, ((HB.out.cell (zQ w _ hw206_0)).trans hw206_0), ((HB.out.cell (zQ w _ hw207_0)).trans hw207_0)⟩ (fun hHeld => ?_)
                    clear hK K
                    refine norm_ (a' := ?_) ?_ ?_
                    rotate_left
                    · show Act.put _ (some 46) _ = _
                      simp only [Act.put, zH, zI, zJ, i64_w, i32_w]
                      rfl
                    refine qA 13 47 (bz 15 16383) HT_ ?_
                    refine last_ (i := 14) (N := none) #[true, true, true, true, true, true, true, true, true, true, true, true, true, true, true] rfl rfl (one_of HT_.out (by kernel_rfl)) (by decide) (fun K hK => ?_)
                    have hs31 : w29.cell? ⟨gb197, 4, none⟩ = some (u198004) := (yG BK197.out 4).trans rfl
                    have hfs31 := yR BK197.out 4
                    have hns31_0 := NB193_197.out; have hms31_0 := NB197_193.out
                    refine skip_ (w1 := ?_) (by rfl) rfl ?_ ?_
                    rotate_left
                    · go_simp
                      rfl
                    refine hK.out _ _ ?_
                    clear hK K
                    refine done_ (done_of HT_.out (by kernel_rfl)) ?_
                    try go_wp2
                    go_roundg k1
                    case measure => have := HK1.out; omega
                    case rel => exact ⟨(wrap64 (x12_1 + 1)), (y203), (y198), (y208), (.slice Ao25 y203.length co25), (.slice Ao20 y198.length co20), (.slice Ao30 y208.length co30), (by first | rfl | (simp; done) | (simp [*]; done)), H', ⟨by have := HK1.out; omega⟩, ⟨by (with_reducible repeat (first | apply yA | apply yB | apply yC)); exact zF (yF (p := ⟨gb197, 4, none⟩) (Kd.R_types HO_198001.out BK197.out (by decide)) (fun _ hk => hk.2) (.slice Ao30 y208.length co30)) (fun _ hk => ⟨hk.1.1.2, ⟨hk.1.1.1, hk.1.2⟩⟩)⟩, ⟨by (with_reducible repeat (first | apply yA | apply yB | apply yC)); exact zF (yF (p := ⟨gb197, 4, none⟩) (Kd.R_types HO205.out BK197.out (by decide)) (fun _ hk => hk.2) (.slice Ao30 y208.length co30)) (fun _ hk => ⟨hk.1.1.1, ⟨hk.1.1.2, hk.1.2⟩⟩)⟩, ⟨by (with_reducible repeat (first | apply yA | apply yB | apply yC)); exact zF (yF (p := ⟨gb197, 4, none⟩) (Kd.R_types HO200.out BK197.out (by decide)) (fun _ hk => hk.2) (.slice Ao30 y208.length co30)) (fun _ hk => ⟨hk.1.1.1, ⟨hk.1.1.2, hk.1.2⟩⟩)⟩, ⟨by (with_reducible repeat (first | apply yA | apply yB | apply yC)); exact zF (yF (p := ⟨gb197, 4, none⟩) (Kd.R_types HO210.out BK197.out (by decide)) (fun _ hk => hk.2) (.slice Ao30 y208.length co30)) (fun _ hk => ⟨hk.1.1, ⟨hk.1.2.2, hk.1.2.1⟩⟩)⟩, ⟨by (with_reducible repeat (first | refine yM ?_ _ | refine yO ?_ | refine yN ?_ _)); refine blk_far ?_ NB193_197.out _; (with_reducible repeat (first | refine yM ?_ _ | refine yO ?_ | refine yN ?_ _)); exact BK193.out⟩, ⟨by (with_reducible repeat (first | refine yM ?_ _ | refine yO ?_ | refine yN ?_ _)); refine blk_put (cs := #[.int .i64 3, .slice Ao6 t194.length co6, .slice Ao25 y203.length co25, .slice Ao20 y198.length co20, u198004, .slice none 0 0]) ?_ 4 _ rfl; (with_reducible repeat (first | refine yM ?_ _ | refine yO ?_ | refine yN ?_ _)); exact BK197.out⟩, ⟨by repeat (first | (with_reducible first | exact HB.out | apply yQ | apply yL | apply yP | refine yE ?_ GE193.out | refine yE ?_ GE197.out) | exact HB.out)⟩⟩
                  · rw [if_neg c16] at H
                    exact absurd H (by simp)
                · rw [if_neg c15] at H
                  exact absurd H (by simp)
              · rw [if_neg c14] at H
                exact absurd H (by simp)
            · rw [if_neg c13] at H
              exact absurd H (by simp)
          · rw [if_neg c12] at H
            exact absurd H (by simp)
        · rw [if_neg c11] at H
          exact absurd H (by simp)
      · rw [if_neg c10] at H
        have c10b0 : decide (x12_1 < (l0.length : Int)) = false := zS c10; clear c10
        simp only [Option.some.injEq, Prod.mk.injEq] at H
        obtain ⟨rfl, rfl, rfl, rfl, rfl, rfl⟩ := H
        have hnb32 := NB197_193.out; have hnc32 := NB193_197.out
        obtain ⟨hcz33_0, hcz33_1, hcz33_2, hcz33_3, hcz33_4, hcz33_5⟩ := cz6 BK197.out
        obtain ⟨hfz33_0, hfz33_1, hfz33_2, hfz33_3, hfz33_4, hfz33_5⟩ := fz6 BK197.out
        obtain ⟨hcz34_0, hcz34_1, hcz34_2, hcz34_3, hcz34_4, hcz34_5⟩ := cz6 BK193.out
        obtain ⟨hfz34_0, hfz34_1, hfz34_2, hfz34_3, hfz34_4, hfz34_5⟩ := fz6 BK193.out
        obtain ⟨Ao35, co35, eo35⟩ := Kd.R_slice HO_198002.out
        subst eo35
        obtain ⟨Ao36, co36, eo36⟩ := Kd.R_slice HO_198003.out
        subst eo36
        obtain ⟨Ao37, co37, eo37⟩ := Kd.R_slice HO_198004.out
        subst eo37
        go_wp2
        refine bodyPost_ret (results_cell_row rfl _ _ gb193 57 #[.int .i64 3, .slice Ao6 t194.length co6, .slice Ao35 x198002_1.length co35, .slice Ao36 x198003_1.length co36, .slice Ao37 x198004_1.length co37, .slice none 0 0] (0, 0) _ rfl (by (with_reducible repeat (first | refine yM ?_ _ | refine yO ?_ | refine yN ?_ _)); refine blk_put (cs := #[.int .i64 3, .slice Ao6 t194.length co6, .slice Ao35 x198002_1.length co35, .slice Ao36 x198003_1.length co36, .slice Ao37 x198004_1.length co37, .slice none 0 0]) ?_ 5 _ rfl; (with_reducible repeat (first | refine yM ?_ _ | refine yO ?_ | refine yN ?_ _)); refine blk_put (cs := #[.int .i64 3, .slice Ao6 t194.length co6, .slice Ao35 x198002_1.length co35, .slice Ao36 x198003_1.length co36, .slice none 0 0, .slice none 0 0]) ?_ 4 _ rfl; (with_reducible repeat (first | refine yM ?_ _ | refine yO ?_ | refine yN ?_ _)); refine blk_put (cs := #[.int .i64 3, .slice Ao6 t194.length co6, .slice Ao35 x198002_1.length co35, .slice none 0 0, .slice none 0 0, .slice none 0 0]) ?_ 3 _ rfl; (with_reducible repeat (first | refine yM ?_ _ | refine yO ?_ | refine yN ?_ _)); refine blk_put (cs := #[.int .i64 3, .slice Ao6 t194.length co6, .slice none 0 0, .slice none 0 0, .slice none 0 0, .slice none 0 0]) ?_ 2 _ rfl; (with_reducible repeat (first | refine yM ?_ _ | refine yO ?_ | refine yN ?_ _)); refine blk_put (cs := #[.int .i64 3, .slice none 0 0, .slice none 0 0, .slice none 0 0, .slice none 0 0, .slice none 0 0]) ?_ 1 _ rfl; (with_reducible repeat (first | refine yM ?_ _ | refine yO ?_ | refine yN ?_ _)); refine blk_put (cs := #[.int .i64 0, .slice none 0 0, .slice none 0 0, .slice none 0 0, .slice none 0 0, .slice none 0 0]) ?_ 0 _ rfl; (with_reducible repeat (first | refine yM ?_ _ | refine yO ?_ | refine yN ?_ _)); exact BK193.out) Try.underlying57 rfl (by kernel_rfl)) rfl ?_
        exact ⟨_, _, _, _, _, by first | rfl | (simp <;> rfl) | (simp [*] <;> rfl), by (with_reducible repeat (first | apply yA | apply yB | apply yC)); exact zF (yF (p := ⟨gb193, 5, none⟩) (yF (p := ⟨gb193, 4, none⟩) (yF (p := ⟨gb193, 3, none⟩) (yF (p := ⟨gb193, 2, none⟩) (yF (p := ⟨gb193, 1, none⟩) (yF (p := ⟨gb193, 0, none⟩) (Kd.R_types HO_198001.out BK193.out (by decide)) (fun _ hk => hk.2) (.int .i64 3)) (fun _ hk => hk.2) (.slice Ao6 t194.length co6)) (fun _ hk => hk.2) (.slice Ao35 x198002_1.length co35)) (fun _ hk => hk.2) (.slice Ao36 x198003_1.length co36)) (fun _ hk => hk.2) (.slice Ao37 x198004_1.length co37)) (fun _ hk => hk.2) (.slice none 0 0)) (fun _ hk => ⟨hk.1.1, ⟨hk.1.2.1, hk.1.2.2⟩⟩), by (with_reducible repeat (first | apply yA | apply yB | apply yC)); exact zF (yF (p := ⟨gb193, 5, none⟩) (yF (p := ⟨gb193, 4, none⟩) (yF (p := ⟨gb193, 3, none⟩) (yF (p := ⟨gb193, 2, none⟩) (yF (p := ⟨gb193, 1, none⟩) (yF (p := ⟨gb193, 0, none⟩) (Kd.R_types HO_198002.out BK193.out (by decide)) (fun _ hk => hk.2) (.int .i64 3)) (fun _ hk => hk.2) (.slice Ao6 t194.length co6)) (fun _ hk => hk.2) (.slice Ao35 x198002_1.length co35)) (fun _ hk => hk.2) (.slice Ao36 x198003_1.length co36)) (fun _ hk => hk.2) (.slice Ao37 x198004_1.length co37)) (fun _ hk => hk.2) (.slice none 0 0)) (fun _ hk => ⟨hk.1.1, ⟨hk.1.2.1, hk.1.2.2⟩⟩), by (with_reducible repeat (first | apply yA | apply yB | apply yC)); exact zF (yF (p := ⟨gb193, 5, none⟩) (yF (p := ⟨gb193, 4, none⟩) (yF (p := ⟨gb193, 3, none⟩) (yF (p := ⟨gb193, 2, none⟩) (yF (p := ⟨gb193, 1, none⟩) (yF (p := ⟨gb193, 0, none⟩) (Kd.R_types HO_198003.out BK193.out (by decide)) (fun _ hk => hk.2) (.int .i64 3)) (fun _ hk => hk.2) (.slice Ao6 t194.length co6)) (fun _ hk => hk.2) (.slice Ao35 x198002_1.length co35)) (fun _ hk => hk.2) (.slice Ao36 x198003_1.length co36)) (fun _ hk => hk.2) (.slice Ao37 x198004_1.length co37)) (fun _ hk => hk.2) (.slice none 0 0)) (fun _ hk => ⟨hk.1.1, ⟨hk.1.2.1, hk.1.2.2⟩⟩), by (with_reducible repeat (first | apply yA | apply yB | apply yC)); exact zF (yF (p := ⟨gb193, 5, none⟩) (yF (p := ⟨gb193, 4, none⟩) (yF (p := ⟨gb193, 3, none⟩) (yF (p := ⟨gb193, 2, none⟩) (yF (p := ⟨gb193, 1, none⟩) (yF (p := ⟨gb193, 0, none⟩) (Kd.R_types HO_198004.out BK193.out (by decide)) (fun _ hk => hk.2) (.int .i64 3)) (fun _ hk => hk.2) (.slice Ao6 t194.length co6)) (fun _ hk => hk.2) (.slice Ao35 x198002_1.length co35)) (fun _ hk => hk.2) (.slice Ao36 x198003_1.length co36)) (fun _ hk => hk.2) (.slice Ao37 x198004_1.length co37)) (fun _ hk => hk.2) (.slice none 0 0)) (fun _ hk => ⟨hk.1.1, ⟨hk.1.2.1, hk.1.2.2⟩⟩), by first | exact Kd.S_nil _ _ _ _ _ | exact Kd.N_nil _ _ _ _ _ | exact Kd.V_nil _ _ _ _ _ | exact Kd.Q_nil _ _ _ _ _ | exact Kd.R_nil _ _ _ _ _, by repeat (first | (with_reducible first | exact HB.out | apply yQ | apply yL | apply yP | refine yE ?_ GE193.out | refine yE ?_ GE197.out) | exact HB.out)⟩

end Go.Proofs.Ytehldidejgpifaa.PFnExactRangeOf
