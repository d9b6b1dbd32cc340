/- Each Go function here comes to what the plain function of its name says, where that says something. Made by a program of this session, over the print. -/
import Derived.Test.YtdiaebjbiddefaaPFnExactSubtractBoxesx0
import Derived.Test.YtdiaebjbiddefaaPFnExactSubtractBoxesx8
namespace Go.Proofs.Ytdiaebjbiddefaa.PFnExactSubtractBoxes
open Go.RowKit Go.Proofs.YtdiaebjbiddefaaW.PrintWords Go.Proofs.YtdiaebjbiddefaaW.PrintLast Go.Proofs.YtdiaebjbiddefaaW.PrintMore
attribute [local go_sem] max2_int min2_int max_two min_two max_three min_three max_four min_four   -- for this text's walks alone
set_option linter.unusedVariables false
set_option linter.unusedSimpArgs false

/-! ### spec_SubtractBoxes: function 24 -/
def spec_SubtractBoxes.f (k : Nat) (l0 : List (S42)) (l1 : List (S42)) : Option ((List (S42)) × Int) := (spec_l07Do.f k 3 l0 l1).bind fun bt269 => (some (bt269.1, bt269.2))
theorem spec_SubtractBoxes.mono : ∀ a0 a1 k, LeO (spec_SubtractBoxes.f k a0 a1) (spec_SubtractBoxes.f (k + 1) a0 a1) := by
 intro a0 a1 k
 unfold spec_SubtractBoxes.f
 repeat' (with_reducible first | exact spec_l07Do.mono _ _ _ _ | exact LeO.refl _ | exact LeO.none _ | refine LeO.ite ?_ ?_ | refine LeO.bind ?_ (fun _ => ?_))
set_option maxHeartbeats 8000000 in
set_option maxRecDepth 100000 in
theorem spec_SubtractBoxes.calls (k : Nat) (A0 : Option Addr) (c0 : Nat) (l0 : List (S42)) (A1 : Option Addr) (c1 : Nat) (l1 : List (S42)) (r1 : List (S42)) (r2 : Int) (w : World) (hr0 : Kd.C k42 w A0 l0.length l0) (hc0 : l0.length ≤ c0) (hr1 : Kd.C k42 w A1 l1.length l1) (hc1 : l1.length ≤ c1) (h : spec_SubtractBoxes.f k l0 l1 = some (r1, r2)) :
 Calls Try.prog 24 #[.slice A0 l0.length c0, .slice A1 l1.length c1] w fun e w' => ∃ v0_ : Value, e = .returned (.tuple #[v0_, .int .i64 r2]) ∧ Kd.S k42 42 w' w.heap.size (fun _ => True) v0_ r1 ∧ Below w.heap.size w w' := by
 have HR0 := yD hr0
 have HC0 := yD hc0
 clear hr0 hc0
 have HR1 := yD hr1
 have HC1 := yD hc1
 clear hr1 hc1
 have HB := yD (Below.refl w.heap.size w)
 have H : ((spec_l07Do.f k 3 l0 l1).bind fun bt269 => (some (bt269.1, bt269.2))) = some (r1, r2) := h
 clear h
 obtain ⟨⟨t269, t270⟩, A30, H⟩ := zW_ H
 replace H : (some (t269, t270)) = some (r1, r2) := H
 have A3 := yD A30
 clear A30
 simp only [Option.some.injEq, Prod.mk.injEq] at H
 obtain ⟨rfl, rfl⟩ := H
 go_enter Try.func24, Try.ntmps24
 go_wp2_with (first | ((with_reducible refine gate_callee (f := 54) rfl ?_); refine gL 8 Try.func54 #[.int .i64 3, .slice A0 l0.length c0, .slice A1 l1.length c1] ?_; (with_reducible refine (spec_l07Do.calls k 3 _ _ l0 _ _ l1 t269 t270 _ ?side1 ?side2 ?side3 ?side4 A3.out).mono ?_); (case side1 => repeat (first | exact HR0.out | (with_reducible first | refine yV ?_ _ | refine yW ?_ _ | refine yX ?_))); (case side2 => exact HC0.out); (case side3 => repeat (first | exact HR1.out | (with_reducible first | refine yV ?_ _ | refine yW ?_ _ | refine yX ?_))); (case side4 => exact HC1.out); rintro e w4 ⟨v271, rfl, ho0, hb⟩; refine ⟨_, rfl, ?_⟩; have HO272 := yD (zG ho0 (below_size (kB HB))); replace HB := yD (zC (kB HB) hb); clear hb ho0))
 go_ret2
 exact ⟨_, by first | rfl | (simp <;> rfl) | (simp [*] <;> rfl), kS HO272, kR1 HB⟩

/-! ### impl_ValidBox: function 104 -/
mutual
def impl_ValidBox.j0 : Nat → Bool → List Int → List Int → Option (Bool)
 | 0, _, _, _ => none
 | k + 1, x17, x274000, x274001 => if x17 = true then (some false) else (impl_ValidBox.l0 k x274000 (x274000.length : Int) 0 x274000 x274001)
def impl_ValidBox.l0 : Nat → List Int → Int → Int → List Int → List Int → Option (Bool)
 | 0, _, _, _, _, _ => none
 | k + 1, x19, x20, x21, x274000, x274001 => if x21 < x20 then (if 0 ≤ x21 then (if x21 < (x19.length : Int) then (if (rd x19 x21) < 0 then (some false) else (if x21 < (x274001.length : Int) then (if (rd x19 x21) ≥ (rd x274001 x21) then (some false) else (if (rd x274001 x21) > 40 then (some false) else (impl_ValidBox.l0 k x19 x20 (wrap64 (x21 + 1)) x274000 x274001))) else (none))) else (none)) else (none)) else (some true)
end
def impl_ValidBox.f (k : Nat) (l0_0 : List Int) (l0_1 : List Int) : Option (Bool) := if (l0_0.length : Int) = (l0_1.length : Int) then (impl_ValidBox.j0 k (decide ((l0_0.length : Int) > 3)) l0_0 l0_1) else (impl_ValidBox.j0 k true l0_0 l0_1)
theorem impl_ValidBox.mono_l : ∀ k, (∀ y0 y1 y2, LeO (impl_ValidBox.j0 k y0 y1 y2) (impl_ValidBox.j0 (k + 1) y0 y1 y2)) ∧ (∀ y0 y1 y2 y3 y4, LeO (impl_ValidBox.l0 k y0 y1 y2 y3 y4) (impl_ValidBox.l0 (k + 1) y0 y1 y2 y3 y4))
 | 0 => ⟨fun _ _ _ r h => by simp [impl_ValidBox.j0] at h, fun _ _ _ _ _ r h => by simp [impl_ValidBox.l0] at h⟩
 | k + 1 => by
  obtain ⟨ih0, ih1⟩ := impl_ValidBox.mono_l k
  refine ⟨?_, ?_⟩
  · intro y0 y1 y2
    unfold impl_ValidBox.j0
    repeat' (with_reducible first | exact ih0 _ _ _ | exact ih1 _ _ _ _ _ | exact LeO.refl _ | exact LeO.none _ | refine LeO.ite ?_ ?_ | refine LeO.bind ?_ (fun _ => ?_))
  · intro y0 y1 y2 y3 y4
    unfold impl_ValidBox.l0
    repeat' (with_reducible first | exact ih0 _ _ _ | exact ih1 _ _ _ _ _ | exact LeO.refl _ | exact LeO.none _ | refine LeO.ite ?_ ?_ | refine LeO.bind ?_ (fun _ => ?_))
theorem impl_ValidBox.mono : ∀ a0 a1 k, LeO (impl_ValidBox.f k a0 a1) (impl_ValidBox.f (k + 1) a0 a1) := by
 intro a0 a1 k
 obtain ⟨ih0, ih1⟩ := impl_ValidBox.mono_l k
 unfold impl_ValidBox.f
 repeat' (with_reducible first | exact ih0 _ _ _ | exact ih1 _ _ _ _ _ | exact LeO.refl _ | exact LeO.none _ | refine LeO.ite ?_ ?_ | refine LeO.bind ?_ (fun _ => ?_))
set_option maxHeartbeats 8000000 in
set_option maxRecDepth 100000 in
theorem impl_ValidBox.calls (k : Nat) (A0_0 : Option Addr) (c0_0 : Nat) (l0_0 : List Int) (A0_1 : Option Addr) (c0_1 : Nat) (l0_1 : List Int) (r : Bool) (w : World) (hr0_0 : Kd.C (Kd.int .i64) w A0_0 l0_0.length l0_0) (hc0_0 : l0_0.length ≤ c0_0) (hr0_1 : Kd.C (Kd.int .i64) w A0_1 l0_1.length l0_1) (hc0_1 : l0_1.length ≤ c0_1) (h : impl_ValidBox.f k l0_0 l0_1 = some r) :
 Calls Try.prog 104 #[.agg #[.slice A0_0 l0_0.length c0_0, .slice A0_1 l0_1.length c0_1]] w fun e w' => e = .returned (.bool r) ∧ Below w.heap.size w w' := by
 have hu42 := Try.underlying42
 have HR0_0 := yD hr0_0
 have HC0_0 := yD hc0_0
 clear hr0_0 hc0_0
 have HR0_1 := yD hr0_1
 have HC0_1 := yD hc0_1
 clear hr0_1 hc0_1
 have HB := yD (Below.refl w.heap.size w)
 have H : (if (l0_0.length : Int) = (l0_1.length : Int) then (impl_ValidBox.j0 k (decide ((l0_0.length : Int) > 3)) l0_0 l0_1) else (impl_ValidBox.j0 k true l0_0 l0_1)) = some r := h
 clear h
 have HC2 := yD H
 clear H; go_enter Try.func104, Try.ntmps104
 go_upto_region 1 with (first | ((with_reducible refine gate_dst (N := 1) rfl ?_); (try (refine gate_guard (by rfl) ?_; dsimp only)); refine box_event ?hg (N := 1) ?hd (cs := #[.slice A0_0 l0_0.length c0_0, .slice A0_1 l0_1.length c0_1]) (t := 42) ?hr ?_; (case hd => rfl); (case hg => rfl); (case hr => first | (go_simp; done) | (go_simp; rfl)); intro gb273 hg w3 hbox hb; have BK273 := yD (hbox); have GW273 := yD ((by rw [hg]; exact (below_size (kB HB)) : w.heap.size ≤ gb273)); have GE273 := yD ((by rw [hg]; exact (below_size (kB HB)) : w.heap.size ≤ gb273)); replace HB := yD (zC (kB HB) hb); clear hb hbox hg))
 (try simp only [Act.put, zH, zI, zJ])
 go_cut [17] (fun v17 wc => ∃ (kq : Nat) (x17_1 : Bool), v17 = .bool x17_1 ∧ Aside0 (impl_ValidBox.j0 kq x17_1 l0_0 l0_1 = some r) ∧ Aside0 (kq ≤ k) ∧ Aside0 (wc.heap[gb273]? = some (.cells #[(.slice A0_0 l0_0.length c0_0), (.slice A0_1 l0_1.length c0_1)] 42 (0, 0))) ∧ Aside0 (Below w.heap.size w wc))
 case first =>
  have H := HC2.out; clear HC2
  by_cases c4 : (l0_0.length : Int) = (l0_1.length : Int)
  ·
   rw [if_pos c4] at H
   have c4b0 : ((l0_0.length : Int) == (l0_1.length : Int)) = true := beq_iff_eq.mpr c4
   have c4b1 : ((l0_0.length : Int) != (l0_1.length : Int)) = false := bne_eq_false_iff_eq.mpr c4
   have c4b2 : (l0_0.length == l0_1.length) = true := by first | simpa using c4 | (simp at c4 ⊢; omega)
   clear c4
   (first | rw [c4b0] | (simp only [i64_w, i32_w]; rw [c4b0]) | (simp only [bne] at c4b0; rw [c4b0]) | skip)
   have H' := yD H
   clear H
   obtain ⟨hcz5_0, hcz5_1⟩ := cz2 BK273.out
   obtain ⟨hfz5_0, hfz5_1⟩ := fz2 BK273.out
   go_wp2
   go_meet
   case rel => exact ⟨_, (decide ((l0_0.length : Int) > 3)), (by first | rfl | (simp; done) | (simp [*]; done)), H', ⟨by first | omega | exact Nat.le_refl _⟩, ⟨kM BK273⟩, ⟨kR0 HB⟩⟩
  ·
   rw [if_neg c4] at H
   have c4b0 : ((l0_0.length : Int) == (l0_1.length : Int)) = false := beq_eq_false_iff_ne.mpr c4
   have c4b1 : ((l0_0.length : Int) != (l0_1.length : Int)) = true := bne_iff_ne.mpr c4
   have c4b2 : (l0_0.length == l0_1.length) = false := by first | simpa using c4 | (simp at c4 ⊢; omega)
   (first | rw [c4b0] | (simp only [i64_w, i32_w]; rw [c4b0]) | (simp only [bne] at c4b0; rw [c4b0]) | skip)
   have H' := yD H
   clear H
   obtain ⟨hcz6_0, hcz6_1⟩ := cz2 BK273.out
   obtain ⟨hfz6_0, hfz6_1⟩ := fz2 BK273.out
   go_wp2
   go_meet
   case rel => exact ⟨_, (true), (by first | rfl | (simp; done) | (simp [*]; done)), H', ⟨by first | omega | exact Nat.le_refl _⟩, ⟨kM BK273⟩, ⟨kR0 HB⟩⟩
 case rest =>
  clear HC2; try clear c4; try clear c4b0; try clear c4b1; try clear c4b2; try clear hcz5_0; try clear hcz5_1; try clear hcz6_0; try clear hcz6_1; try clear hfz5_0; try clear hfz5_1; try clear hfz6_0; try clear hfz6_1
  obtain ⟨kq, x17_1, rfl, HA, HJ1, BK273, HB⟩ := hcut
  cases kq with
  | zero => exact absurd HA.out (by simp [impl_ValidBox.j0])
  | succ kj1 =>
   have H := HA.out; clear HA
   simp only [impl_ValidBox.j0] at H
   by_cases c7 : x17_1 = true
   · subst c7
     replace H : (some false) = some r := (by rw [if_pos rfl] at H; exact H); obtain rfl := Option.some.inj H
     go_wp2
     go_ret
     exact ⟨by first | rfl | (simp <;> rfl) | (simp [*] <;> rfl), kR0 HB⟩
   ·
    replace c7 := Bool.eq_false_iff.mpr c7
    subst c7
    replace H : (impl_ValidBox.l0 kj1 l0_0 (l0_0.length : Int) 0 l0_0 l0_1) = some r := (by rw [if_neg (show ¬ (false = true) by decide)] at H; exact H)
    have H' := yD H
    clear H
    obtain ⟨hcz8_0, hcz8_1⟩ := cz2 BK273.out
    obtain ⟨hfz8_0, hfz8_1⟩ := fz2 BK273.out
    go_wp2
    go_loopg [21] kj1 (fun kq v21 w' => ∃ (x21_2 : Int), v21 = .int .i64 x21_2 ∧ Aside0 (impl_ValidBox.l0 kq l0_0 (l0_0.length : Int) x21_2 l0_0 l0_1 = some r) ∧ Aside0 (kq ≤ kj1) ∧ Aside0 (w'.heap[gb273]? = some (.cells #[(.slice A0_0 l0_0.length c0_0), (.slice A0_1 l0_1.length c0_1)] 42 (0, 0))) ∧ Aside0 (Below w.heap.size w w'))
    case atStart => exact ⟨(0), (by first | rfl | (simp; done) | (simp [*]; done)), H', ⟨Nat.le_refl _⟩, ⟨kM BK273⟩, ⟨kR0 HB⟩⟩
    case round =>
     clear H'
     try clear c1; try clear c4; try clear c4b0; try clear c4b1; try clear c4b2; try clear c7; try clear hcz5_0; try clear hcz5_1; try clear hcz6_0; try clear hcz6_1; try clear hcz8_0; try clear hcz8_1; try clear hfz5_0; try clear hfz5_1; try clear hfz6_0; try clear hfz6_1; try clear hfz8_0; try clear hfz8_1
     obtain ⟨x21_2, rfl, HA, HK2, BK273, HB⟩ := hrel
     cases gk with
     | zero => exact absurd HA.out (by simp [impl_ValidBox.l0])
     | succ k2 =>
      have H := HA.out; clear HA
      simp only [impl_ValidBox.l0] at H
      by_cases c9 : x21_2 < (l0_0.length : Int)
      ·
       rw [if_pos c9] at H
       have c9b0 : decide (x21_2 < (l0_0.length : Int)) = true := zR c9; clear c9
       by_cases c10 : 0 ≤ x21_2
       ·
        rw [if_pos c10] at H
        have c10b0 : decide (0 ≤ x21_2) = true := zR c10; clear c10
        by_cases c11 : x21_2 < (l0_0.length : Int)
        ·
         rw [if_pos c11] at H
         have c11b0 : decide (x21_2 < (l0_0.length : Int)) = true := zR c11; clear c11
         by_cases c12 : (rd l0_0 x21_2) < 0
         · rw [if_pos c12] at H
           have c12b0 : decide ((rd l0_0 x21_2) < 0) = true := zR c12; clear c12; obtain rfl := Option.some.inj H
           have p274 : 0 ≤ (x21_2 : Int) := zP (by assumption)
           have q274 : x21_2 < (l0_0.length : Int) := zP (by assumption)
           obtain ⟨ad274, e274, hx274_0⟩ := Kd.at_int HR0_0.out x21_2 p274 q274
           cases e274
           replace hx274_0 := (HB.out.cell (zQ w _ hx274_0)).trans hx274_0
           replace p274 := eq_true p274; replace q274 := eq_true q274
           go_wp2
           go_ret
           exact ⟨by first | rfl | (simp <;> rfl) | (simp [*] <;> rfl), kR0 HB⟩
         ·
          rw [if_neg c12] at H
          have c12b0 : decide ((rd l0_0 x21_2) < 0) = false := zS c12; clear c12
          by_cases c13 : x21_2 < (l0_1.length : Int)
          ·
           rw [if_pos c13] at H
           have c13b0 : decide (x21_2 < (l0_1.length : Int)) = true := zR c13; clear c13
           by_cases c14 : (rd l0_0 x21_2) ≥ (rd l0_1 x21_2)
           ·
            rw [if_pos c14] at H
            have c14b0 : decide ((rd l0_1 x21_2) ≤ (rd l0_0 x21_2)) = true := zR c14; clear c14; obtain rfl := Option.some.inj H
            have p274 : 0 ≤ (x21_2 : Int) := zP (by assumption)
            have q274 : x21_2 < (l0_0.length : Int) := zP (by assumption)
            obtain ⟨ad274, e274, hx274_0⟩ := Kd.at_int HR0_0.out x21_2 p274 q274
            cases e274
            replace hx274_0 := (HB.out.cell (zQ w _ hx274_0)).trans hx274_0
            replace p274 := eq_true p274; replace q274 := eq_true q274
            obtain ⟨hcz15_0, hcz15_1⟩ := cz2 BK273.out
            obtain ⟨hfz15_0, hfz15_1⟩ := fz2 BK273.out
            have p275 : 0 ≤ (x21_2 : Int) := zP (by assumption)
            have q275 : x21_2 < (l0_1.length : Int) := zP (by assumption)
            obtain ⟨ad275, e275, hx275_0⟩ := Kd.at_int HR0_1.out x21_2 p275 q275
            cases e275
            replace hx275_0 := (HB.out.cell (zQ w _ hx275_0)).trans hx275_0
            replace p275 := eq_true p275; replace q275 := eq_true q275
            go_wp2
            go_ret
            exact ⟨by first | rfl | (simp <;> rfl) | (simp [*] <;> rfl), kR0 HB⟩
           ·
            rw [if_neg c14] at H
            have c14b0 : decide ((rd l0_1 x21_2) ≤ (rd l0_0 x21_2)) = false := zS c14; clear c14
            by_cases c16 : (rd l0_1 x21_2) > 40
            ·
             rw [if_pos c16] at H
             have c16b0 : decide (40 < (rd l0_1 x21_2)) = true := zR c16; clear c16; obtain rfl := Option.some.inj H
             have p274 : 0 ≤ (x21_2 : Int) := zP (by assumption)
             have q274 : x21_2 < (l0_0.length : Int) := zP (by assumption)
             obtain ⟨ad274, e274, hx274_0⟩ := Kd.at_int HR0_0.out x21_2 p274 q274
             cases e274
             replace hx274_0 := (HB.out.cell (zQ w _ hx274_0)).trans hx274_0
             replace p274 := eq_true p274; replace q274 := eq_true q274
             obtain ⟨hcz17_0, hcz17_1⟩ := cz2 BK273.out
             obtain ⟨hfz17_0, hfz17_1⟩ := fz2 BK273.out
             have p275 : 0 ≤ (x21_2 : Int) := zP (by assumption)
             have q275 : x21_2 < (l0_1.length : Int) := zP (by assumption)
             obtain ⟨ad275, e275, hx275_0⟩ := Kd.at_int HR0_1.out x21_2 p275 q275
             cases e275
             replace hx275_0 := (HB.out.cell (zQ w _ hx275_0)).trans hx275_0
             replace p275 := eq_true p275; replace q275 := eq_true q275
             have p276 : 0 ≤ (x21_2 : Int) := zP (by assumption)
             have q276 : x21_2 < (l0_1.length : Int) := zP (by assumption)
             obtain ⟨ad276, e276, hx276_0⟩ := Kd.at_int HR0_1.out x21_2 p276 q276
             obtain rfl : ad275 = ad276 := (by injection e276)
             replace hx276_0 := (HB.out.cell (zQ w _ hx276_0)).trans hx276_0
             replace p276 := eq_true p276; replace q276 := eq_true q276
             go_wp2
             go_ret
             exact ⟨by first | rfl | (simp <;> rfl) | (simp [*] <;> rfl), kR0 HB⟩
            ·
             rw [if_neg c16] at H
             have c16b0 : decide (40 < (rd l0_1 x21_2)) = false := zS c16; clear c16
             have H' := yD H
             clear H
             have p274 : 0 ≤ (x21_2 : Int) := zP (by assumption)
             have q274 : x21_2 < (l0_0.length : Int) := zP (by assumption)
             obtain ⟨ad274, e274, hx274_0⟩ := Kd.at_int HR0_0.out x21_2 p274 q274
             cases e274
             replace hx274_0 := (HB.out.cell (zQ w _ hx274_0)).trans hx274_0
             replace p274 := eq_true p274; replace q274 := eq_true q274
             obtain ⟨hcz18_0, hcz18_1⟩ := cz2 BK273.out
             obtain ⟨hfz18_0, hfz18_1⟩ := fz2 BK273.out
             have p275 : 0 ≤ (x21_2 : Int) := zP (by assumption)
             have q275 : x21_2 < (l0_1.length : Int) := zP (by assumption)
             obtain ⟨ad275, e275, hx275_0⟩ := Kd.at_int HR0_1.out x21_2 p275 q275
             cases e275
             replace hx275_0 := (HB.out.cell (zQ w _ hx275_0)).trans hx275_0
             replace p275 := eq_true p275; replace q275 := eq_true q275
             have p276 : 0 ≤ (x21_2 : Int) := zP (by assumption)
             have q276 : x21_2 < (l0_1.length : Int) := zP (by assumption)
             obtain ⟨ad276, e276, hx276_0⟩ := Kd.at_int HR0_1.out x21_2 p276 q276
             obtain rfl : ad275 = ad276 := (by injection e276)
             replace hx276_0 := (HB.out.cell (zQ w _ hx276_0)).trans hx276_0
             replace p276 := eq_true p276; replace q276 := eq_true q276
             go_wp2
             go_roundg k2
             case measure => have := HJ1.out; have := HK2.out; omega
             case rel => exact ⟨(wrap64 (x21_2 + 1)), (by first | rfl | (simp; done) | (simp [*]; done)), H', ⟨by have := HJ1.out; have := HK2.out; omega⟩, ⟨kM BK273⟩, ⟨kR0 HB⟩⟩
          · rw [if_neg c13] at H
            exact absurd H (by simp)
        · rw [if_neg c11] at H
          exact absurd H (by simp)
       · rw [if_neg c10] at H
         exact absurd H (by simp)
      · rw [if_neg c9] at H
        have c9b0 : decide (x21_2 < (l0_0.length : Int)) = false := zS c9; clear c9; obtain rfl := Option.some.inj H
        go_wp2
        go_ret
        exact ⟨by first | rfl | (simp <;> rfl) | (simp [*] <;> rfl), kR0 HB⟩

/-! ### impl_boxesOk_1: function 103 -/
def impl_boxesOk_1.f (k : Nat) (l0_0 : List Int) (l0_1 : List Int) (l1_0 : List (S42)) : Option (Bool) := (impl_ValidBox.f k l0_0 l0_1).bind fun t278 => (if t278 = true then (if 0 < (l1_0.length : Int) then (some ((l0_0.length : Int) != (((rd_T42 l1_0 0).f0).length : Int))) else (none)) else (some true))
theorem impl_boxesOk_1.mono : ∀ a0 a1 a2 k, LeO (impl_boxesOk_1.f k a0 a1 a2) (impl_boxesOk_1.f (k + 1) a0 a1 a2) := by
 intro a0 a1 a2 k
 unfold impl_boxesOk_1.f
 repeat' (with_reducible first | exact impl_ValidBox.mono _ _ _ | exact LeO.refl _ | exact LeO.none _ | refine LeO.ite ?_ ?_ | refine LeO.bind ?_ (fun _ => ?_))
def impl_boxesOk_1.T1 : Bool × List (List Nat × List Nat) := (true, [([], []), ([0], [0]), ([1], [1]), ([2, 1], [2]), ([3], [3]), ([4, 3], [3, 4]), ([5, 3], [3, 5]), ([3], [3]), ([7, 3], [3, 7]), ([8, 3], [3, 8]), ([9, 3], [3, 9]), ([10, 3], [3, 10]), ([6, 11, 3], [3, 6, 11]), ([3, 12], [3, 12]), ([13, 3, 0, 1, 2, 3, 4, 5, 6, 7, 8, 9, 10, 11, 12, 13], [13])])
def impl_boxesOk_1.B1 : List Nat := [0, 1, 3, 7, 15, 31, 63, 15, 143, 399, 911, 1935, 4095, 8191, 16383]
theorem impl_boxesOk_1.tab1 : rtab .any (opsOf Try.f103 1) = impl_boxesOk_1.T1 := by kernel_rfl
theorem impl_boxesOk_1.bits1 : waitsOk impl_boxesOk_1.T1.2 impl_boxesOk_1.B1 = true := by kernel_rfl
set_option maxHeartbeats 8000000 in
set_option maxRecDepth 100000 in
theorem impl_boxesOk_1.calls (k : Nat) (A0_0 : Option Addr) (c0_0 : Nat) (l0_0 : List Int) (A0_1 : Option Addr) (c0_1 : Nat) (l0_1 : List Int) (g1_0 : Nat) (A1_0 : Option Addr) (c1_0 : Nat) (l1_0 : List (S42)) (r : Bool) (w : World) (hr0_0 : Kd.C (Kd.int .i64) w A0_0 l0_0.length l0_0) (hc0_0 : l0_0.length ≤ c0_0) (hr0_1 : Kd.C (Kd.int .i64) w A0_1 l0_1.length l0_1) (hc0_1 : l0_1.length ≤ c0_1) (hr1_0 : Kd.C k42 w A1_0 l1_0.length l1_0) (hc1_0 : l1_0.length ≤ c1_0) (hb1_0 : w.heap[g1_0]? = some (.cells #[.slice A1_0 l1_0.length c1_0] 24 (0, 0))) (h : impl_boxesOk_1.f k l0_0 l0_1 l1_0 = some r) :
 Calls Try.prog 103 #[.agg #[.slice A0_0 l0_0.length c0_0, .slice A0_1 l0_1.length c0_1], .pointer (some ⟨g1_0, 0, none⟩)] w fun e w' => e = .returned (.bool r) ∧ Below w.heap.size w w' := by
 have hu42 := Try.underlying42
 have HR0_0 := yD hr0_0
 have HC0_0 := yD hc0_0
 clear hr0_0 hc0_0
 have HR0_1 := yD hr0_1
 have HC0_1 := yD hc0_1
 clear hr0_1 hc0_1
 have HR1_0 := yD hr1_0
 have HC1_0 := yD hc1_0
 clear hr1_0 hc1_0
 have BK48 := yD hb1_0
 clear hb1_0
 have HB := yD (Below.refl w.heap.size w)
 have H : ((impl_ValidBox.f k l0_0 l0_1).bind fun t278 => (if t278 = true then (if 0 < (l1_0.length : Int) then (some ((l0_0.length : Int) != (((rd_T42 l1_0 0).f0).length : Int))) else (none)) else (some true))) = some r := h
 clear h
 obtain ⟨t278, A30, H⟩ := zW_ H
 replace H : (if t278 = true then (if 0 < (l1_0.length : Int) then (some ((l0_0.length : Int) != (((rd_T42 l1_0 0).f0).length : Int))) else (none)) else (some true)) = some r := H
 have A3 := yD A30
 clear A30
 by_cases c4 : t278 = true
 ·
  subst c4
  replace H : (if 0 < (l1_0.length : Int) then (some ((l0_0.length : Int) != (((rd_T42 l1_0 0).f0).length : Int))) else (none)) = some r := (by rw [if_pos rfl] at H; exact H)
  by_cases c5 : 0 < (l1_0.length : Int)
  ·
   rw [if_pos c5] at H
   have c5b0 : decide (0 < (l1_0.length : Int)) = true := zR c5
   have c5b1 : decide (0 < l1_0.length) = true := zR (by omega)
   clear c5; obtain rfl := Option.some.inj H; go_enter Try.func103, Try.ntmps103
   try go_wp2_with (first | ((with_reducible refine gate_dst (N := 2) rfl ?_); (try (refine gate_guard (by rfl) ?_; dsimp only)); refine box_event ?hg (N := 2) ?hd (cs := #[.slice A0_0 l0_0.length c0_0, .slice A0_1 l0_1.length c0_1]) (t := 42) ?hr ?_; (case hd => rfl); (case hg => rfl); (case hr => first | (go_simp; done) | (go_simp; rfl)); intro gb277 hg w6 hbox hb; have BK277 := yD (hbox); have GW277 := yD ((by rw [hg]; exact (below_size (kB HB)) : w.heap.size ≤ gb277)); have GE277 := yD ((by rw [hg]; exact (below_size (kB HB)) : w.heap.size ≤ gb277)); replace HB := yD (zC (kB HB) hb); have NB48_277 := yD ((by rw [hg]; exact Nat.ne_of_lt (blk_lt (kN BK48)) : g1_0 ≠ gb277)); have NB277_48 := yD ((by rw [hg]; exact Nat.ne_of_gt (blk_lt (kN BK48)) : gb277 ≠ g1_0)); replace BK48 := yD (zB (kN BK48) hb); clear hb hbox hg))
   have n0_ := yD (yO BK48.out)
   have n1_ := yD (yO BK277.out)
   have n2_ := yD (yP HB.out)
   clear BK48 BK277 HB; have BK48 := n0_; have BK277 := n1_; have HB := n2_; clear n0_ n1_ n2_
   have p279 : 0 ≤ (0 : Int) := (by omega)
   have q279 : 0 < (l1_0.length : Int) := zP (by assumption)
   obtain ⟨ad279, A279_0, c279_0, A279_1, c279_1, e279, hx279_0, hx279_1, hl279_0, hi279_0, hl279_1, hi279_1⟩ := at_T42 HR1_0.out 0 p279 q279
   have hw279_1 := hx279_1
   (try rw [show ((0 : Int)).toNat = 0 from rfl] at hw279_1)
   (try rw [show 0 * 2 = 0 from rfl] at hw279_1)
   (try rw [Addr.add_zero'] at hw279_1)
   have hw279_0 := hx279_0
   (try rw [show ((0 : Int)).toNat = 0 from rfl] at hw279_0)
   (try rw [show 0 * 2 = 0 from rfl] at hw279_0)
   (try rw [Addr.add_zero'] at hw279_0)
   cases e279
   have qi279 : (0 < l1_0.length) = True := eq_true (by omega)
   (try rw [show ((0 : Int)).toNat = 0 from rfl] at hx279_0)
   (try rw [show 0 * 2 = 0 from rfl] at hx279_0)
   (try rw [Addr.add_zero'] at hx279_0)
   (try rw [show ((0 : Int)).toNat = 0 from rfl] at hx279_1)
   (try rw [show 0 * 2 = 0 from rfl] at hx279_1)
   (try rw [Addr.add_zero'] at hx279_1)
   replace hx279_0 := (HB.out.cell (zQ w _ hx279_0)).trans hx279_0
   replace hx279_1 := (HB.out.cell (zQ w _ hx279_1)).trans hx279_1
   have HR279_0 := yD hi279_0
   have HC279_0 := yD hl279_0
   clear hi279_0 hl279_0
   have HR279_1 := yD hi279_1
   have HC279_1 := yD hl279_1
   clear hi279_1 hl279_1; replace p279 := eq_true p279; replace q279 := eq_true q279
   refine start_ (n := 15) (S := fun w' => w'.cell? ⟨gb277, 0, none⟩ = some (.slice A0_0 l0_0.length c0_0) ∧ w'.cell? ⟨gb277, 1, none⟩ = some (.slice A0_1 l0_1.length c0_1) ∧ w'.cell? ⟨g1_0, 0, none⟩ = some (.slice (some ad279) l1_0.length c1_0) ∧ w'.cell? ad279 = some (.slice A279_0 ((rd_T42 l1_0 0).f0).length c279_0) ∧ w'.cell? ⟨ad279.block, ad279.off + 1, none⟩ = some (.slice A279_1 ((rd_T42 l1_0 0).f1).length c279_1)) (ds := []) (bz 15 0) (by kernel_rfl) rfl rfl ⟨(yG BK277.out 0).trans rfl, (yG BK277.out 1).trans rfl, (yG BK48.out 0).trans rfl, ((HB.out.cell (zQ w _ hw279_0)).trans hw279_0), ((HB.out.cell (zQ w _ hw279_1)).trans hw279_1)⟩ (fun hHeld => ?_); refine with_tabW impl_boxesOk_1.tab1 impl_boxesOk_1.bits1 (fun HT_ HW_ => ?_)
   generalize w6.drew = w7 at BK48 BK277 HB HR279_0 HR279_1 hx279_0 hx279_1 hHeld ⊢
   refine qC 0 4 (bz 15 1) HT_ HW_ hHeld ?_ (hy := by rintro w' ⟨s0, s1, s2, s3, s4⟩; go_simp; with_reducible rfl)
   refine one_ (i := 1) (N := some 5) (bz 15 3) rfl rfl (one_of HT_.out (by kernel_rfl)) (by decide) (fun K hK => ?_)
   refine goes_ Try.func104 (by kernel_rfl) rfl #[.agg #[.slice A0_0 l0_0.length c0_0, .slice A0_1 l0_1.length c0_1]] (by rfl) rfl rfl (by (try simp only [zK, zL, zM]); first | done | rfl | (simp only [zN, zO]; rfl)) ?_
   with_reducible refine (impl_ValidBox.calls k _ _ l0_0 _ _ l0_1 true _ ?side1 ?side2 ?side3 ?side4 A3.out).mono ?_
   (case side1 => exact kV (yY HR0_0.out HB.out))
   (case side2 => exact HC0_0.out)
   (case side3 => exact kV (yY HR0_1.out HB.out))
   (case side4 => exact HC0_1.out)
   rintro e w8 ⟨rfl, hb⟩
   refine ⟨_, rfl, ?_⟩
   have n0_ := yD (zB (kN BK48) hb)
   have n1_ := yD (zB (kN BK277) hb)
   have n2_ := yD (zC (kB HB) hb)
   clear BK48 BK277 HB; have BK48 := n0_; have BK277 := n1_; have HB := n2_; clear n0_ n1_ n2_; (try clear hb); (try clear hb2); (try clear hk); (try clear hi)
   refine hK.out _ _ ⟨(yG BK277.out 0).trans rfl, (yG BK277.out 1).trans rfl, (yG BK48.out 0).trans rfl, ((HB.out.cell (zQ w _ hw279_0)).trans hw279_0), ((HB.out.cell (zQ w _ hw279_1)).trans hw279_1)⟩ (fun hHeld => ?_)
   clear hK K
   refine norm_ (a' := ?_) ?_ ?_
   rotate_left
   · show Act.put _ (some 5) _ = _
     simp only [Act.put, zH, zI, zJ, i64_w, i32_w]
     rfl
   refine qA 2 6 (bz 15 7) HT_ ?_
   refine qA 3 7 (bz 15 15) HT_ ?_
   refine qA 4 8 (bz 15 31) HT_ ?_
   refine qC 5 9 (bz 15 63) HT_ HW_ hHeld ?_ (hy := by rintro w' ⟨s0, s1, s2, s3, s4⟩; go_simp; with_reducible rfl)
   refine qA 6 10 (bz 15 127) HT_ ?_
   refine qC 7 11 (bz 15 255) HT_ HW_ hHeld ?_ (hy := by rintro w' ⟨s0, s1, s2, s3, s4⟩; go_simp; with_reducible rfl)
   refine qA 8 12 (bz 15 511) HT_ ?_
   refine qA 9 13 (bz 15 1023) HT_ ?_
   refine qC 10 14 (bz 15 2047) HT_ HW_ hHeld ?_ (hy := by rintro w' ⟨s0, s1, s2, s3, s4⟩; go_simp; with_reducible rfl)
   refine qA 11 15 (bz 15 4095) HT_ ?_
   refine qA 12 16 (bz 15 8191) HT_ ?_
   refine qA 13 17 (bz 15 16383) HT_ ?_
   refine qA 14 3 (bz 15 32767) HT_ ?_
   refine done_ (done_of HT_.out (by kernel_rfl)) ?_
   try go_wp2
   go_ret
   exact ⟨by first | rfl | (simp <;> rfl) | (simp [*] <;> rfl), kR0 HB⟩
  · rw [if_neg c5] at H
    exact absurd H (by simp)
 ·
  replace c4 := Bool.eq_false_iff.mpr c4
  subst c4
  replace H : (some true) = some r := (by rw [if_neg (show ¬ (false = true) by decide)] at H; exact H); obtain rfl := Option.some.inj H; go_enter Try.func103, Try.ntmps103
  try go_wp2_with (first | ((with_reducible refine gate_dst (N := 2) rfl ?_); (try (refine gate_guard (by rfl) ?_; dsimp only)); refine box_event ?hg (N := 2) ?hd (cs := #[.slice A0_0 l0_0.length c0_0, .slice A0_1 l0_1.length c0_1]) (t := 42) ?hr ?_; (case hd => rfl); (case hg => rfl); (case hr => first | (go_simp; done) | (go_simp; rfl)); intro gb277 hg w9 hbox hb; have BK277 := yD (hbox); have GW277 := yD ((by rw [hg]; exact (below_size (kB HB)) : w.heap.size ≤ gb277)); have GE277 := yD ((by rw [hg]; exact (below_size (kB HB)) : w.heap.size ≤ gb277)); replace HB := yD (zC (kB HB) hb); have NB48_277 := yD ((by rw [hg]; exact Nat.ne_of_lt (blk_lt (kN BK48)) : g1_0 ≠ gb277)); have NB277_48 := yD ((by rw [hg]; exact Nat.ne_of_gt (blk_lt (kN BK48)) : gb277 ≠ g1_0)); replace BK48 := yD (zB (kN BK48) hb); clear hb hbox hg))
  have n0_ := yD (yO BK48.out)
  have n1_ := yD (yO BK277.out)
  have n2_ := yD (yP HB.out)
  clear BK48 BK277 HB; have BK48 := n0_; have BK277 := n1_; have HB := n2_; clear n0_ n1_ n2_
  refine start_ (n := 15) (S := fun w' => w'.cell? ⟨gb277, 0, none⟩ = some (.slice A0_0 l0_0.length c0_0) ∧ w'.cell? ⟨gb277, 1, none⟩ = some (.slice A0_1 l0_1.length c0_1)) (ds := []) (bz 15 0) (by kernel_rfl) rfl rfl ⟨(yG BK277.out 0).trans rfl, (yG BK277.out 1).trans rfl⟩ (fun hHeld => ?_); refine with_tabW impl_boxesOk_1.tab1 impl_boxesOk_1.bits1 (fun HT_ HW_ => ?_)
  generalize w9.drew = w10 at BK48 BK277 HB hHeld ⊢
  refine qC 0 4 (bz 15 1) HT_ HW_ hHeld ?_ (hy := by rintro w' ⟨s0, s1⟩; go_simp; with_reducible rfl)
  refine one_ (i := 1) (N := some 5) (bz 15 3) rfl rfl (one_of HT_.out (by kernel_rfl)) (by decide) (fun K hK => ?_)
  refine goes_ Try.func104 (by kernel_rfl) rfl #[.agg #[.slice A0_0 l0_0.length c0_0, .slice A0_1 l0_1.length c0_1]] (by rfl) rfl rfl (by (try simp only [zK, zL, zM]); first | done | rfl | (simp only [zN, zO]; rfl)) ?_
  with_reducible refine (impl_ValidBox.calls k _ _ l0_0 _ _ l0_1 false _ ?side1 ?side2 ?side3 ?side4 A3.out).mono ?_
  (case side1 => exact kV (yY HR0_0.out HB.out))
  (case side2 => exact HC0_0.out)
  (case side3 => exact kV (yY HR0_1.out HB.out))
  (case side4 => exact HC0_1.out)
  rintro e w11 ⟨rfl, hb⟩
  refine ⟨_, rfl, ?_⟩
  have n0_ := yD (zB (kN BK48) hb)
  have n1_ := yD (zB (kN BK277) hb)
  have n2_ := yD (zC (kB HB) hb)
  clear BK48 BK277 HB; have BK48 := n0_; have BK277 := n1_; have HB := n2_; clear n0_ n1_ n2_; (try clear hb); (try clear hb2); (try clear hk); (try clear hi)
  refine hK.out _ _ ⟨(yG BK277.out 0).trans rfl, (yG BK277.out 1).trans rfl⟩ (fun hHeld => ?_)
  clear hK K
  refine norm_ (a' := ?_) ?_ ?_
  rotate_left
  · show Act.put _ (some 5) _ = _
    simp only [Act.put, zH, zI, zJ, i64_w, i32_w]
    rfl
  refine qA 2 6 (bz 15 7) HT_ ?_
  refine qA 3 7 (bz 15 15) HT_ ?_
  refine qB 4 8 (bz 15 31) HT_ ?_
  refine qB 5 9 (bz 15 63) HT_ ?_
  refine qB 6 10 (bz 15 127) HT_ ?_
  refine qB 7 11 (bz 15 255) HT_ ?_
  refine qB 8 12 (bz 15 511) HT_ ?_
  refine qB 9 13 (bz 15 1023) HT_ ?_
  refine qB 10 14 (bz 15 2047) HT_ ?_
  refine qB 11 15 (bz 15 4095) HT_ ?_
  refine qB 12 16 (bz 15 8191) HT_ ?_
  refine qA 13 17 (bz 15 16383) HT_ ?_
  refine qA 14 3 (bz 15 32767) HT_ ?_
  refine done_ (done_of HT_.out (by kernel_rfl)) ?_
  try go_wp2
  go_ret
  exact ⟨by first | rfl | (simp <;> rfl) | (simp [*] <;> rfl), kR0 HB⟩

/-! ### slices_IndexFunc_impl_boxesOk_1: function 105 -/
def slices_IndexFunc_impl_boxesOk_1.l0 : Nat → List (S42) → Int → Int → List (S42) → Option (Int)
 | 0, _, _, _, _ => none
 | k + 1, x0, x7, x8, x49000 => if x8 < x7 then (if 0 ≤ x8 then (if x8 < (x0.length : Int) then ((impl_boxesOk_1.f k ((rd_T42 x0 x8).f0) ((rd_T42 x0 x8).f1) x49000).bind fun t281 => (if t281 = true then (some x8) else (slices_IndexFunc_impl_boxesOk_1.l0 k x0 x7 (wrap64 (x8 + 1)) x49000))) else (none)) else (none)) else (some (-1))
def slices_IndexFunc_impl_boxesOk_1.f (k : Nat) (l0 : List (S42)) (l1_0 : List (S42)) : Option (Int) := slices_IndexFunc_impl_boxesOk_1.l0 k l0 (l0.length : Int) 0 l1_0
theorem slices_IndexFunc_impl_boxesOk_1.mono_l : ∀ k, (∀ y0 y1 y2 y3, LeO (slices_IndexFunc_impl_boxesOk_1.l0 k y0 y1 y2 y3) (slices_IndexFunc_impl_boxesOk_1.l0 (k + 1) y0 y1 y2 y3))
 | 0 => fun _ _ _ _ r h => by simp [slices_IndexFunc_impl_boxesOk_1.l0] at h
 | k + 1 => by
  have ih0 := slices_IndexFunc_impl_boxesOk_1.mono_l k
  · intro y0 y1 y2 y3
    unfold slices_IndexFunc_impl_boxesOk_1.l0
    repeat' (with_reducible first | exact ih0 _ _ _ _ | exact impl_boxesOk_1.mono _ _ _ _ | exact LeO.refl _ | exact LeO.none _ | refine LeO.ite ?_ ?_ | refine LeO.bind ?_ (fun _ => ?_))
theorem slices_IndexFunc_impl_boxesOk_1.mono : ∀ a0 a1 k, LeO (slices_IndexFunc_impl_boxesOk_1.f k a0 a1) (slices_IndexFunc_impl_boxesOk_1.f (k + 1) a0 a1) := by
 intro a0 a1 k
 have ih0 := slices_IndexFunc_impl_boxesOk_1.mono_l k
 unfold slices_IndexFunc_impl_boxesOk_1.f
 repeat' (with_reducible first | exact ih0 _ _ _ _ | exact impl_boxesOk_1.mono _ _ _ _ | exact LeO.refl _ | exact LeO.none _ | refine LeO.ite ?_ ?_ | refine LeO.bind ?_ (fun _ => ?_))
set_option maxHeartbeats 8000000 in
set_option maxRecDepth 100000 in
theorem slices_IndexFunc_impl_boxesOk_1.calls (k : Nat) (A0 : Option Addr) (c0 : Nat) (l0 : List (S42)) (g1_0 : Nat) (A1_0 : Option Addr) (c1_0 : Nat) (l1_0 : List (S42)) (r : Int) (w : World) (hr0 : Kd.C k42 w A0 l0.length l0) (hc0 : l0.length ≤ c0) (hr1_0 : Kd.C k42 w A1_0 l1_0.length l1_0) (hc1_0 : l1_0.length ≤ c1_0) (hb1_0 : w.heap[g1_0]? = some (.cells #[.slice A1_0 l1_0.length c1_0] 24 (0, 0))) (h : slices_IndexFunc_impl_boxesOk_1.f k l0 l1_0 = some r) :
 Calls Try.prog 105 #[.slice A0 l0.length c0, .func (.func 103) #[] #[.pointer (some ⟨g1_0, 0, none⟩)]] w fun e w' => e = .returned (.int .i64 r) ∧ Below w.heap.size w w' := by
 have hu42 := Try.underlying42
 have HR0 := yD hr0
 have HC0 := yD hc0
 clear hr0 hc0
 have HR1_0 := yD hr1_0
 have HC1_0 := yD hc1_0
 clear hr1_0 hc1_0
 have BK48 := yD hb1_0
 clear hb1_0
 have HB := yD (Below.refl w.heap.size w)
 have H : (slices_IndexFunc_impl_boxesOk_1.l0 k l0 (l0.length : Int) 0 l1_0) = some r := h
 clear h
 have H' := yD H
 clear H; go_enter Try.func105, Try.ntmps105
 go_wp2
 go_loopg [8] k (fun kq v8 w' => ∃ (x8_1 : Int), v8 = .int .i64 x8_1 ∧ Aside0 (slices_IndexFunc_impl_boxesOk_1.l0 kq l0 (l0.length : Int) x8_1 l1_0 = some r) ∧ Aside0 (kq ≤ k) ∧ Aside0 (w'.heap[g1_0]? = some (.cells #[(.slice A1_0 l1_0.length c1_0)] 24 (0, 0))) ∧ Aside0 (Below w.heap.size w w'))
 case atStart => exact ⟨(0), (by first | rfl | (simp; done) | (simp [*]; done)), H', ⟨Nat.le_refl _⟩, ⟨kM BK48⟩, ⟨kR0 HB⟩⟩
 case round =>
  clear H'
  try clear c1
  obtain ⟨x8_1, rfl, HA, HK1, BK48, HB⟩ := hrel
  cases gk with
  | zero => exact absurd HA.out (by simp [slices_IndexFunc_impl_boxesOk_1.l0])
  | succ k1 =>
   have H := HA.out; clear HA
   simp only [slices_IndexFunc_impl_boxesOk_1.l0] at H
   by_cases c3 : x8_1 < (l0.length : Int)
   ·
    rw [if_pos c3] at H
    have c3b0 : decide (x8_1 < (l0.length : Int)) = true := zR c3; clear c3
    by_cases c4 : 0 ≤ x8_1
    ·
     rw [if_pos c4] at H
     have c4b0 : decide (0 ≤ x8_1) = true := zR c4; clear c4
     by_cases c5 : x8_1 < (l0.length : Int)
     ·
      rw [if_pos c5] at H
      have c5b0 : decide (x8_1 < (l0.length : Int)) = true := zR c5; clear c5
      obtain ⟨t281, A60, H⟩ := zW_ H
      replace H : (if t281 = true then (some x8_1) else (slices_IndexFunc_impl_boxesOk_1.l0 k1 l0 (l0.length : Int) (wrap64 (x8_1 + 1)) l1_0)) = some r := H
      have A6 := yD A60
      clear A60
      by_cases c7 : t281 = true
      ·
       subst c7
       replace H : (some x8_1) = some r := (by rw [if_pos rfl] at H; exact H); obtain rfl := Option.some.inj H
       have p280 : 0 ≤ (x8_1 : Int) := zP (by assumption)
       have q280 : x8_1 < (l0.length : Int) := zP (by assumption)
       obtain ⟨ad280, A280_0, c280_0, A280_1, c280_1, e280, hx280_0, hx280_1, hl280_0, hi280_0, hl280_1, hi280_1⟩ := at_T42 HR0.out x8_1 p280 q280
       cases e280
       replace hx280_0 := (HB.out.cell (zQ w _ hx280_0)).trans hx280_0
       replace hx280_1 := (HB.out.cell (zQ w _ hx280_1)).trans hx280_1
       have HR280_0 := yD hi280_0
       have HC280_0 := yD hl280_0
       clear hi280_0 hl280_0
       have HR280_1 := yD hi280_1
       have HC280_1 := yD hl280_1
       clear hi280_1 hl280_1; replace p280 := eq_true p280; replace q280 := eq_true q280
       go_wp2_with (first | (go_at_call 103; (with_reducible refine (impl_boxesOk_1.calls k1 _ _ ((rd_T42 l0 x8_1).f0) _ _ ((rd_T42 l0 x8_1).f1) g1_0 A1_0 c1_0 l1_0 true _ ?side1 ?side2 ?side3 ?side4 ?side5 ?side6 ?side7 A6.out).mono ?_); (case side1 => exact kV (yY HR280_0.out HB.out)); (case side2 => exact HC280_0.out); (case side3 => exact kV (yY HR280_1.out HB.out)); (case side4 => exact HC280_1.out); (case side5 => exact kV (yY HR1_0.out HB.out)); (case side6 => exact HC1_0.out); (case side7 => (with_reducible repeat (first | refine yM ?_ _ | refine yO ?_ | refine yN ?_ _)); exact BK48.out); rintro e w8 ⟨rfl, hb⟩; replace BK48 := yD (zB (kN BK48) hb); replace HB := yD (zC (kB HB) hb); clear hb))
       go_ret
       exact ⟨by first | rfl | (simp <;> rfl) | (simp [*] <;> rfl), kR0 HB⟩
      ·
       replace c7 := Bool.eq_false_iff.mpr c7
       subst c7
       replace H : (slices_IndexFunc_impl_boxesOk_1.l0 k1 l0 (l0.length : Int) (wrap64 (x8_1 + 1)) l1_0) = some r := (by rw [if_neg (show ¬ (false = true) by decide)] at H; exact H)
       have H' := yD H
       clear H
       have p280 : 0 ≤ (x8_1 : Int) := zP (by assumption)
       have q280 : x8_1 < (l0.length : Int) := zP (by assumption)
       obtain ⟨ad280, A280_0, c280_0, A280_1, c280_1, e280, hx280_0, hx280_1, hl280_0, hi280_0, hl280_1, hi280_1⟩ := at_T42 HR0.out x8_1 p280 q280
       cases e280
       replace hx280_0 := (HB.out.cell (zQ w _ hx280_0)).trans hx280_0
       replace hx280_1 := (HB.out.cell (zQ w _ hx280_1)).trans hx280_1
       have HR280_0 := yD hi280_0
       have HC280_0 := yD hl280_0
       clear hi280_0 hl280_0
       have HR280_1 := yD hi280_1
       have HC280_1 := yD hl280_1
       clear hi280_1 hl280_1; replace p280 := eq_true p280; replace q280 := eq_true q280
       go_wp2_with (first | (go_at_call 103; (with_reducible refine (impl_boxesOk_1.calls k1 _ _ ((rd_T42 l0 x8_1).f0) _ _ ((rd_T42 l0 x8_1).f1) g1_0 A1_0 c1_0 l1_0 false _ ?side1 ?side2 ?side3 ?side4 ?side5 ?side6 ?side7 A6.out).mono ?_); (case side1 => exact kV (yY HR280_0.out HB.out)); (case side2 => exact HC280_0.out); (case side3 => exact kV (yY HR280_1.out HB.out)); (case side4 => exact HC280_1.out); (case side5 => exact kV (yY HR1_0.out HB.out)); (case side6 => exact HC1_0.out); (case side7 => (with_reducible repeat (first | refine yM ?_ _ | refine yO ?_ | refine yN ?_ _)); exact BK48.out); rintro e w9 ⟨rfl, hb⟩; replace BK48 := yD (zB (kN BK48) hb); replace HB := yD (zC (kB HB) hb); clear hb))
       go_roundg k1
       case measure => have := HK1.out; omega
       case rel => exact ⟨(wrap64 (x8_1 + 1)), (by first | rfl | (simp; done) | (simp [*]; done)), H', ⟨by have := HK1.out; omega⟩, ⟨kM BK48⟩, ⟨kR0 HB⟩⟩
     · rw [if_neg c5] at H
       exact absurd H (by simp)
    · rw [if_neg c4] at H
      exact absurd H (by simp)
   · rw [if_neg c3] at H
     have c3b0 : decide (x8_1 < (l0.length : Int)) = false := zS c3; clear c3; obtain rfl := Option.some.inj H
     go_wp2
     go_ret
     exact ⟨by first | rfl | (simp <;> rfl) | (simp [*] <;> rfl), kR0 HB⟩

/-! ### slices_ContainsFunc_impl_boxesOk_1: function 64 -/
def slices_ContainsFunc_impl_boxesOk_1.f (k : Nat) (l0 : List (S42)) (l1_0 : List (S42)) : Option (Bool) := (slices_IndexFunc_impl_boxesOk_1.f k l0 l1_0).bind fun t282 => (some (decide (t282 ≥ 0)))
theorem slices_ContainsFunc_impl_boxesOk_1.mono : ∀ a0 a1 k, LeO (slices_ContainsFunc_impl_boxesOk_1.f k a0 a1) (slices_ContainsFunc_impl_boxesOk_1.f (k + 1) a0 a1) := by
 intro a0 a1 k
 unfold slices_ContainsFunc_impl_boxesOk_1.f
 repeat' (with_reducible first | exact slices_IndexFunc_impl_boxesOk_1.mono _ _ _ | exact LeO.refl _ | exact LeO.none _ | refine LeO.ite ?_ ?_ | refine LeO.bind ?_ (fun _ => ?_))
set_option maxHeartbeats 8000000 in
set_option maxRecDepth 100000 in
theorem slices_ContainsFunc_impl_boxesOk_1.calls (k : Nat) (A0 : Option Addr) (c0 : Nat) (l0 : List (S42)) (g1_0 : Nat) (A1_0 : Option Addr) (c1_0 : Nat) (l1_0 : List (S42)) (r : Bool) (w : World) (hr0 : Kd.C k42 w A0 l0.length l0) (hc0 : l0.length ≤ c0) (hr1_0 : Kd.C k42 w A1_0 l1_0.length l1_0) (hc1_0 : l1_0.length ≤ c1_0) (hb1_0 : w.heap[g1_0]? = some (.cells #[.slice A1_0 l1_0.length c1_0] 24 (0, 0))) (h : slices_ContainsFunc_impl_boxesOk_1.f k l0 l1_0 = some r) :
 Calls Try.prog 64 #[.slice A0 l0.length c0, .func (.func 103) #[] #[.pointer (some ⟨g1_0, 0, none⟩)]] w fun e w' => e = .returned (.bool r) ∧ Below w.heap.size w w' := by
 have HR0 := yD hr0
 have HC0 := yD hc0
 clear hr0 hc0
 have HR1_0 := yD hr1_0
 have HC1_0 := yD hc1_0
 clear hr1_0 hc1_0
 have BK48 := yD hb1_0
 clear hb1_0
 have HB := yD (Below.refl w.heap.size w)
 have H : ((slices_IndexFunc_impl_boxesOk_1.f k l0 l1_0).bind fun t282 => (some (decide (t282 ≥ 0)))) = some r := h
 clear h
 obtain ⟨t282, A30, H⟩ := zW_ H
 replace H : (some (decide (t282 ≥ 0))) = some r := H
 have A3 := yD A30
 clear A30; obtain rfl := Option.some.inj H; go_enter Try.func64, Try.ntmps64
 go_wp2_with (first | ((with_reducible refine gate_callee (f := 105) rfl ?_); refine gL 7 Try.func105 #[.slice A0 l0.length c0, .func (.func 103) #[] #[.pointer (some ⟨g1_0, 0, none⟩)]] ?_; (with_reducible refine (slices_IndexFunc_impl_boxesOk_1.calls k _ _ l0 g1_0 A1_0 c1_0 l1_0 t282 _ ?side1 ?side2 ?side3 ?side4 ?side5 A3.out).mono ?_); (case side1 => repeat (first | exact HR0.out | (with_reducible first | refine yV ?_ _ | refine yW ?_ _ | refine yX ?_))); (case side2 => exact HC0.out); (case side3 => repeat (first | exact HR1_0.out | (with_reducible first | refine yV ?_ _ | refine yW ?_ _ | refine yX ?_))); (case side4 => exact HC1_0.out); (case side5 => (with_reducible repeat (first | refine yM ?_ _ | refine yO ?_ | refine yN ?_ _)); exact BK48.out); rintro e w4 ⟨rfl, hb⟩; refine ⟨_, rfl, ?_⟩; replace BK48 := yD (zB (kN BK48) hb); replace HB := yD (zC (kB HB) hb); clear hb))
 go_ret
 exact ⟨by first | rfl | (simp <;> rfl) | (simp [*] <;> rfl), kR0 HB⟩

/-! ### impl_boxesOk: function 63 -/
def impl_boxesOk.f (k : Nat) (l0 : List (S42)) : Option (Bool) := if (l0.length : Int) ≤ 32 then ((slices_ContainsFunc_impl_boxesOk_1.f k l0 l0).bind fun t284 => (some (!t284))) else (some false)
theorem impl_boxesOk.mono : ∀ a0 k, LeO (impl_boxesOk.f k a0) (impl_boxesOk.f (k + 1) a0) := by
 intro a0 k
 unfold impl_boxesOk.f
 repeat' (with_reducible first | exact slices_ContainsFunc_impl_boxesOk_1.mono _ _ _ | exact LeO.refl _ | exact LeO.none _ | refine LeO.ite ?_ ?_ | refine LeO.bind ?_ (fun _ => ?_))
set_option maxHeartbeats 8000000 in
set_option maxRecDepth 100000 in
theorem impl_boxesOk.calls (k : Nat) (A0 : Option Addr) (c0 : Nat) (l0 : List (S42)) (r : Bool) (w : World) (hr0 : Kd.C k42 w A0 l0.length l0) (hc0 : l0.length ≤ c0) (h : impl_boxesOk.f k l0 = some r) :
 Calls Try.prog 63 #[.slice A0 l0.length c0] w fun e w' => e = .returned (.bool r) ∧ Below w.heap.size w w' := by
 have HR0 := yD hr0
 have HC0 := yD hc0
 clear hr0 hc0
 have HB := yD (Below.refl w.heap.size w)
 have H : (if (l0.length : Int) ≤ 32 then ((slices_ContainsFunc_impl_boxesOk_1.f k l0 l0).bind fun t284 => (some (!t284))) else (some false)) = some r := h
 clear h
 by_cases c2 : (l0.length : Int) ≤ 32
 ·
  rw [if_pos c2] at H
  have c2b0 : decide ((l0.length : Int) ≤ 32) = true := zR c2
  have c2b1 : decide (l0.length ≤ 32) = true := zR (by omega)
  clear c2
  obtain ⟨t284, A30, H⟩ := zW_ H
  replace H : (some (!t284)) = some r := H
  have A3 := yD A30
  clear A30; obtain rfl := Option.some.inj H; go_enter Try.func63, Try.ntmps63
  go_wp2_with (first | ((with_reducible refine gate_dst (N := 1) rfl ?_); refine box_event ?hg (N := 1) ?hd (cs := #[.slice A0 l0.length c0]) (t := 24) ?hr ?_; (case hd => rfl); (case hg => rfl); (case hr => first | (go_simp; done) | (go_simp; rfl)); intro gb283 hg w4 hbox hb; have BK283 := yD (hbox); have GW283 := yD ((by rw [hg]; exact (below_size (kB HB)) : w.heap.size ≤ gb283)); have GE283 := yD ((by rw [hg]; exact (below_size (kB HB)) : w.heap.size ≤ gb283)); replace HB := yD (zC (kB HB) hb); clear hb hbox hg; have hcz5_0 : w4.cell? ⟨gb283, 0, none⟩ = some (.slice A0 l0.length c0) := (yG BK283.out 0).trans rfl; have hfz5_0 := yR BK283.out 0) | (go_at_call 64; (with_reducible refine (slices_ContainsFunc_impl_boxesOk_1.calls k _ _ l0 gb283 A0 c0 l0 t284 _ ?side1 ?side2 ?side3 ?side4 ?side5 A3.out).mono ?_); (case side1 => exact kV (yY HR0.out HB.out)); (case side2 => exact HC0.out); (case side3 => exact kV (yY HR0.out HB.out)); (case side4 => exact HC0.out); (case side5 => (with_reducible repeat (first | refine yM ?_ _ | refine yO ?_ | refine yN ?_ _)); exact BK283.out); rintro e w6 ⟨rfl, hb⟩; replace BK283 := yD (zB (kN BK283) hb); replace HB := yD (zC (kB HB) hb); clear hb))
  go_ret
  exact ⟨by first | rfl | (simp <;> rfl) | (simp [*] <;> rfl), kR0 HB⟩
 ·
  rw [if_neg c2] at H
  have c2b0 : decide ((l0.length : Int) ≤ 32) = false := zS c2
  have c2b1 : decide (l0.length ≤ 32) = false := zS (by omega)
  clear c2; obtain rfl := Option.some.inj H; go_enter Try.func63, Try.ntmps63
  go_wp2_with (first | ((with_reducible refine gate_dst (N := 1) rfl ?_); refine box_event ?hg (N := 1) ?hd (cs := #[.slice A0 l0.length c0]) (t := 24) ?hr ?_; (case hd => rfl); (case hg => rfl); (case hr => first | (go_simp; done) | (go_simp; rfl)); intro gb283 hg w7 hbox hb; have BK283 := yD (hbox); have GW283 := yD ((by rw [hg]; exact (below_size (kB HB)) : w.heap.size ≤ gb283)); have GE283 := yD ((by rw [hg]; exact (below_size (kB HB)) : w.heap.size ≤ gb283)); replace HB := yD (zC (kB HB) hb); clear hb hbox hg; have hcz8_0 : w7.cell? ⟨gb283, 0, none⟩ = some (.slice A0 l0.length c0) := (yG BK283.out 0).trans rfl; have hfz8_0 := yR BK283.out 0))
  go_ret
  exact ⟨by first | rfl | (simp <;> rfl) | (simp [*] <;> rfl), kR0 HB⟩

/-! ### slices_Grow_nil_900006: function 150 -/
section
open Go.Shelf
def slices_Grow_nil_900006.ren : Go.Shelf.Ren := ⟨fun | 4 => 150 | n => n, fun | 22 => 24 | 25 => 42 | 3 => 3 | 4 => 4 | 9 => 9 | 20 => 20 | 0 => 0 | n => n, fun n => n⟩
theorem slices_Grow_nil_900006.lays : Go.Proofs.Lays8.n4 Try.prog slices_Grow_nil_900006.ren :=
 { mixed := by kernel_rfl, f4 := ⟨Try.f150.name, by decide, Try.func150.trans (congrArg some (by kernel_rfl))⟩, t0 := Try.underlying0, a0 := Try.isAgg0, z0 := Try.sizeOf0, v0 := Try.zeroValue0, t3 := Try.underlying3, a3 := Try.isAgg3, z3 := Try.sizeOf3, v3 := Try.zeroValue3, t4 := Try.underlying4, a4 := Try.isAgg4, z4 := Try.sizeOf4, v4 := Try.zeroValue4, t9 := Try.underlying9, a9 := Try.isAgg9, z9 := Try.sizeOf9, v9 := Try.zeroValue9, t20 := Try.underlying20, a20 := Try.isAgg20, z20 := Try.sizeOf20, v20 := Try.zeroValue20, t22 := Try.underlying24, a22 := Try.isAgg24, z22 := Try.sizeOf24, v22 := Try.zeroValue24 }

def slices_Grow_nil_900006.f (a1 : Int) : Option (List (S42)) := if 0 ≤ a1 ∧ a1 ≤ 1073741824 then some [] else none
theorem slices_Grow_nil_900006.info : (Try.prog.info? 42).map (fun i => (i.zero, i.size, i.bytes)) = some (some (.agg #[(.slice none 0 0), (.slice none 0 0)]), 2, 48) := by kernel_rfl
theorem slices_Grow_nil_900006.calls (a1 : Int) (r : List (S42)) (w : World) (h : slices_Grow_nil_900006.f a1 = some r) :
 Calls Try.prog 150 #[.slice none 0 0, .int .i64 a1] w fun e w' => ∃ v0_ : Value, e = .returned (v0_) ∧ Kd.S k42 42 w' w.heap.size (fun _ => True) v0_ r ∧ Below w.heap.size w w' := by
 unfold slices_Grow_nil_900006.f at h
 split at h
 ·
  rename_i hc
  obtain ⟨h0, h1⟩ := hc
  obtain ⟨c, rfl⟩ : ∃ c : Nat, a1 = (c : Int) := ⟨a1.toNat, by omega⟩
  obtain rfl := Option.some.inj h
  by_cases hc0 : c = 0
  · subst hc0
    refine (Any8.slices_Grow_room slices_Grow_nil_900006.lays none 0 0 0 w (Nat.le_refl _) (by omega) (by omega) (by omega)).mono ?_
    rintro e w' ⟨rfl, rfl⟩
    exact ⟨_, rfl, Kd.S_nil _ _ _ _ _, Below.refl _ _⟩
  ·
   obtain ⟨i0, hi0, hz⟩ := Option.map_eq_some_iff.1 slices_Grow_nil_900006.info
   simp only [Prod.mk.injEq] at hz
   obtain ⟨hz0, hs0, hb0⟩ := hz
   refine (Any8.slices_Grow_grow slices_Grow_nil_900006.lays i0 _ hi0 hz0 (by omega) none 0 0 c [] w (Nat.le_refl _) (by omega) (by rw [hb0]; omega) (by omega) (by simp) (fun _ => rfl) (fun a ha => by cases ha)).mono ?_
   have hG := grownCap_le_maxLen w (0 + c) 0 42 (by unfold maxLen; omega)
   have hg := grownCap_ge w (0 + c) 0 42
   change grownCap w (0 + c) 0 (slices_Grow_nil_900006.ren.t 25) ≤ maxLen at hG
   change 0 + c ≤ grownCap w (0 + c) 0 (slices_Grow_nil_900006.ren.t 25) at hg
   generalize grownCap w (0 + c) 0 (slices_Grow_nil_900006.ren.t 25) = G at hG hg ⊢
   rintro e w' ⟨rfl, rfl⟩
   refine ⟨_, rfl, ⟨fun _ => 0, fun _ _ => trivial, [], ⟨by simp, .inr ⟨w.heap.size, G, ([] : List Value).toArray ++ Builtin.zeroCells (.agg #[(.slice none 0 0), (.slice none 0 0)] : Value).cells (0 + c - 0) ++ Builtin.zeroCells (.agg #[(.slice none 0 0), (.slice none 0 0)] : Value).cells (G - (0 + c)), rfl, Nat.le_refl _, ?_, Nat.zero_le _, hG, ?_, by simp⟩⟩, Reps.none _ _⟩, below_alloc (below_drew (Below.refl _ _)) _⟩
   · show (w.heap.push _)[w.heap.size]? = _
     rw [Array.getElem?_push_size]
     rfl
   · simp only [Array.size_append, size_zeroCells, List.size_toArray, List.length_nil, Nat.zero_add, Nat.sub_zero, ← Nat.add_mul]
     show _ = G * 2
     have : c + (G - c) = G := by omega
     rw [this]
     rfl
 · cases h
end

end Go.Proofs.Ytdiaebjbiddefaa.PFnExactSubtractBoxes
