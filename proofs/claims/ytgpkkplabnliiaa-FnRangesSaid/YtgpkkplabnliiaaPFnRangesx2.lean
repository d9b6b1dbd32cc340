/- Each Go function here comes to what the plain function of its name says, where that says something. Made by a program of this session, over the print. -/
import Derived.Test.YtgpkkplabnliiaaPFnRangesx0
import Derived.Test.YtgpkkplabnliiaaPFnRangesx1
namespace Go.Proofs.Ytgpkkplabnliiaa.PFnRanges
open Go.RowKit Go.Proofs.YtgpkkplabnliiaaW.PrintWords Go.Proofs.YtgpkkplabnliiaaW.PrintLast Go.Proofs.YtgpkkplabnliiaaW.PrintMore
attribute [local go_sem] max2_int min2_int max_two min_two max_three min_three max_four min_four   -- for this text's walks alone
set_option linter.unusedVariables false
set_option linter.unusedSimpArgs false

/-! ### spec_DrawRangeOf: function 6 -/
def spec_DrawRangeOf.f (k : Nat) (l0 : List Int) : Option (List Int × List Int) := (spec_l00From.f l0).bind fun bt182 => ((spec_l05DrawDims.f k bt182.1 bt182.2.1 bt182.2.2).bind fun bt186 => ((spec_l05DrawAt.f k bt182.1 bt186.2.1 bt186.2.2 bt186.1).bind fun bt191 => (some (bt191.1, bt186.1))))
theorem spec_DrawRangeOf.mono : ∀ a0 k, LeO (spec_DrawRangeOf.f k a0) (spec_DrawRangeOf.f (k + 1) a0) := by
 intro a0 k
 unfold spec_DrawRangeOf.f
 repeat' first
  | (with_reducible exact spec_l05DrawAt.mono _ _ _ _ _)
  | (with_reducible exact spec_l05DrawDims.mono _ _ _ _)
  | (with_reducible exact LeO.refl _)
  | (with_reducible exact LeO.none _)
  | (with_reducible refine LeO.ite ?_ ?_)
  | (with_reducible refine LeO.bind ?_ (fun _ => ?_))
  | exact spec_l05DrawAt.mono _ _ _ _ _
  | exact spec_l05DrawDims.mono _ _ _ _
  | exact LeO.none _
  | refine LeO.ite ?_ ?_
  | refine LeO.bind ?_ (fun _ => ?_)
set_option maxHeartbeats 8000000 in
set_option maxRecDepth 100000 in
theorem spec_DrawRangeOf.calls (k : Nat) (A0 : Option Addr) (c0 : Nat) (l0 : List Int) (r1 : List Int) (r2 : List Int) (w : World) (hr0 : Kd.C (Kd.int .u8) w A0 l0.length l0) (hc0 : l0.length ≤ c0) (h : spec_DrawRangeOf.f k l0 = some (r1, r2)) :
 Calls Try.prog 6 #[.slice A0 l0.length c0] w fun e w' => ∃ v0_ v1_ : Value, e = .returned (.tuple #[v0_, v1_]) ∧ Kd.R (Kd.int .i64) 2 w' w.heap.size (fun k_ => some k_ ≠ (v1_ : Value).ownBlock) v0_ r1 ∧ Kd.R (Kd.int .i64) 2 w' w.heap.size (fun k_ => some k_ ≠ (v0_ : Value).ownBlock) v1_ r2 ∧ Below w.heap.size w w' := by
 have HR0 := yD hr0
 have HC0 := yD hc0
 clear hr0 hc0
 have HB := yD (Below.refl w.heap.size w)
 have H : ((spec_l00From.f l0).bind fun bt182 => ((spec_l05DrawDims.f k bt182.1 bt182.2.1 bt182.2.2).bind fun bt186 => ((spec_l05DrawAt.f k bt182.1 bt186.2.1 bt186.2.2 bt186.1).bind fun bt191 => (some (bt191.1, bt186.1))))) = some (r1, r2) := h
 clear h
 obtain ⟨⟨t182, t183, t184⟩, A20, H⟩ := zW_ H
 replace H : ((spec_l05DrawDims.f k t182 t183 t184).bind fun bt186 => ((spec_l05DrawAt.f k t182 bt186.2.1 bt186.2.2 bt186.1).bind fun bt191 => (some (bt191.1, bt186.1)))) = some (r1, r2) := H
 have A2 := yD A20
 clear A20
 obtain ⟨⟨t186, t189, t190⟩, A30, H⟩ := zW_ H
 replace H : ((spec_l05DrawAt.f k t182 t189 t190 t186).bind fun bt191 => (some (bt191.1, t186))) = some (r1, r2) := H
 have A3 := yD A30
 clear A30
 obtain ⟨⟨t191, t194, t195⟩, A40, H⟩ := zW_ H
 replace H : (some (t191, t186)) = some (r1, r2) := H
 have A4 := yD A40
 clear A40
 simp only [Option.some.injEq, Prod.mk.injEq] at H
 obtain ⟨rfl, rfl⟩ := H
 go_enter Try.func6, Try.ntmps6
 go_wp2_with (first | ((with_reducible refine gate_callee (f := 25) rfl ?_); refine goesL_ (some 8) rfl rfl Try.func25 (by kernel_rfl) rfl #[.slice A0 l0.length c0] rfl (by (try simp only [zK, zL, zM]); first | done | rfl | (simp only [zN, zO]; rfl)) ?_; (with_reducible refine (spec_l00From.calls _ _ l0 t182 t183 t184 w _ ?side1 ?side2 ?side3 A2.out).mono ?_); (case side1 => exact kR0 HB); (case side2 => exact HR0.out); (case side3 => exact HC0.out); rintro e w5 ⟨g185, rfl, hi, hb, hb2⟩; refine ⟨_, rfl, ?_⟩; have n0_ := yD (hb); have n1_ := yD (hi); clear HB; have HB := n0_; have HI185 := n1_; clear n0_ n1_; (try clear hb); (try clear hb2); (try clear hk); (try clear hi)) | ((with_reducible refine gate_callee (f := 26) rfl ?_); refine goesL_ (some 10) rfl rfl Try.func26 (by kernel_rfl) rfl #[.pointer (some ⟨g185, 0, none⟩)] rfl (by (try simp only [zK, zL, zM]); first | done | rfl | (simp only [zN, zO]; rfl)) ?_; (with_reducible refine (spec_l05DrawDims.calls k g185 t182 t183 t184 t186 t189 t190 w _ ?side1 ?side2 A3.out).mono ?_); (case side1 => exact kR2 HI185); (case side2 => exact kR3 HB); rintro e w6 ⟨v187, rfl, ho0, hi, hb, hk⟩; refine ⟨_, rfl, ?_⟩; have n0_ := yD (yZ ho0 (below_size (kR3 HB))); have n1_ := yD (hb); have n2_ := yD (hi); clear HB; clear HI185; have HO188 := n0_; have HB := n1_; have HI185 := n2_; clear n0_ n1_ n2_; (try clear hb); (try clear hb2); (try clear hk); (try clear hi); (try clear ho0); obtain ⟨Ao7, co7, eo7⟩ := Kd.R_slice HO188.out; subst eo7) | ((with_reducible refine gate_callee (f := 27) rfl ?_); refine goesL_ (some 13) rfl rfl Try.func27 (by kernel_rfl) rfl #[.pointer (some ⟨g185, 0, none⟩), .slice Ao7 t186.length co7] rfl (by (try simp only [zK, zL, zM]); first | done | rfl | (simp only [zN, zO]; rfl)) ?_; (with_reducible refine (spec_l05DrawAt.calls k g185 t182 t189 t190 _ _ t186 t191 t194 t195 w _ ?side1 ?side2 ?side3 ?side4 ?side5 A4.out).mono ?_); (case side1 => exact kR2 HI185); (case side2 => exact kR3 HB); (case side3 => exact kV (zA HO188.out).2.2); (case side4 => exact (zA HO188.out).2.1); (case side5 => exact far_slice (IsS92.own_ne HI185.out HO188.out (by decide))); rintro e w8 ⟨v192, rfl, ho0, hi, hb, hk⟩; refine ⟨_, rfl, ?_⟩; have n0_ := yD (zF (yI (Kd.R_oldK (IsS92.apart (show IsS92 w _ g185 t182 t189 t190 from kR2 HI185) (kA HO188) (by decide)) hk) (yH ho0)) (fun _ h_ => h_.1)); have n1_ := yD (yZ (yJ ho0 (yK (kA HO188))) (below_size (kR3 HB))); have n2_ := yD (hb); have n3_ := yD (hi); clear HO188; clear HB; clear HI185; have HO188 := n0_; have HO193 := n1_; have HB := n2_; have HI185 := n3_; clear n0_ n1_ n2_ n3_; (try clear hb); (try clear hb2); (try clear hk); (try clear hi); (try clear ho0)))
 go_ret2
 exact ⟨_, _, by first | rfl | (simp <;> rfl) | (simp [*] <;> rfl), by (with_reducible repeat (first | apply yA | apply yB | apply yC)); exact zF HO193.out (fun _ hk => hk.2), by (with_reducible repeat (first | apply yA | apply yB | apply yC)); exact zF HO188.out (fun _ hk => hk.2), kR3 HB⟩

/-! ### impl_ValidBox: function 28 -/
mutual
def impl_ValidBox.j0 : Nat → Bool → List Int → List Int → Option (Bool)
 | 0, _, _, _ => none
 | k + 1, x17, x197000, x197001 => if x17 = true then (some false) else (impl_ValidBox.l0 k x197000 (x197000.length : Int) 0 x197000 x197001)
def impl_ValidBox.l0 : Nat → List Int → Int → Int → List Int → List Int → Option (Bool)
 | 0, _, _, _, _, _ => none
 | k + 1, x19, x20, x21, x197000, x197001 => if x21 < x20 then (if 0 ≤ x21 then (if x21 < (x19.length : Int) then (if (rd x19 x21) < 0 then (some false) else (if x21 < (x197001.length : Int) then (if (rd x19 x21) ≥ (rd x197001 x21) then (some false) else (if (rd x197001 x21) > 40 then (some false) else (impl_ValidBox.l0 k x19 x20 (wrap64 (x21 + 1)) x197000 x197001))) else (none))) else (none)) else (none)) else (some true)
end
def impl_ValidBox.f (k : Nat) (l0_0 : List Int) (l0_1 : List Int) : Option (Bool) := if (l0_0.length : Int) = (l0_1.length : Int) then (impl_ValidBox.j0 k (decide ((l0_0.length : Int) > 3)) l0_0 l0_1) else (impl_ValidBox.j0 k true l0_0 l0_1)
theorem impl_ValidBox.mono_l : ∀ k, (∀ y0 y1 y2, LeO (impl_ValidBox.j0 k y0 y1 y2) (impl_ValidBox.j0 (k + 1) y0 y1 y2)) ∧ (∀ y0 y1 y2 y3 y4, LeO (impl_ValidBox.l0 k y0 y1 y2 y3 y4) (impl_ValidBox.l0 (k + 1) y0 y1 y2 y3 y4))
 | 0 => ⟨fun _ _ _ r h => by simp [impl_ValidBox.j0] at h, fun _ _ _ _ _ r h => by simp [impl_ValidBox.l0] at h⟩
 | k + 1 => by
  obtain ⟨ih0, ih1⟩ := impl_ValidBox.mono_l k
  refine ⟨?_, ?_⟩
  ·
   intro y0 y1 y2
   unfold impl_ValidBox.j0
   repeat' first
   | (with_reducible exact ih0 _ _ _)
   | (with_reducible exact ih1 _ _ _ _ _)
   | (with_reducible exact LeO.refl _)
   | (with_reducible exact LeO.none _)
   | (with_reducible refine LeO.ite ?_ ?_)
   | (with_reducible refine LeO.bind ?_ (fun _ => ?_))
   | exact ih0 _ _ _
   | exact ih1 _ _ _ _ _
   | exact LeO.none _
   | refine LeO.ite ?_ ?_
   | refine LeO.bind ?_ (fun _ => ?_)
  ·
   intro y0 y1 y2 y3 y4
   unfold impl_ValidBox.l0
   repeat' first
   | (with_reducible exact ih0 _ _ _)
   | (with_reducible exact ih1 _ _ _ _ _)
   | (with_reducible exact LeO.refl _)
   | (with_reducible exact LeO.none _)
   | (with_reducible refine LeO.ite ?_ ?_)
   | (with_reducible refine LeO.bind ?_ (fun _ => ?_))
   | exact ih0 _ _ _
   | exact ih1 _ _ _ _ _
   | exact LeO.none _
   | refine LeO.ite ?_ ?_
   | refine LeO.bind ?_ (fun _ => ?_)
theorem impl_ValidBox.mono : ∀ a0 a1 k, LeO (impl_ValidBox.f k a0 a1) (impl_ValidBox.f (k + 1) a0 a1) := by
 intro a0 a1 k
 obtain ⟨ih0, ih1⟩ := impl_ValidBox.mono_l k
 unfold impl_ValidBox.f
 repeat' first
  | (with_reducible exact ih0 _ _ _)
  | (with_reducible exact ih1 _ _ _ _ _)
  | (with_reducible exact LeO.refl _)
  | (with_reducible exact LeO.none _)
  | (with_reducible refine LeO.ite ?_ ?_)
  | (with_reducible refine LeO.bind ?_ (fun _ => ?_))
  | exact ih0 _ _ _
  | exact ih1 _ _ _ _ _
  | exact LeO.none _
  | refine LeO.ite ?_ ?_
  | refine LeO.bind ?_ (fun _ => ?_)
set_option maxHeartbeats 8000000 in
set_option maxRecDepth 100000 in
theorem impl_ValidBox.calls (k : Nat) (A0_0 : Option Addr) (c0_0 : Nat) (l0_0 : List Int) (A0_1 : Option Addr) (c0_1 : Nat) (l0_1 : List Int) (r : Bool) (w : World) (hr0_0 : Kd.C (Kd.int .i64) w A0_0 l0_0.length l0_0) (hc0_0 : l0_0.length ≤ c0_0) (hr0_1 : Kd.C (Kd.int .i64) w A0_1 l0_1.length l0_1) (hc0_1 : l0_1.length ≤ c0_1) (h : impl_ValidBox.f k l0_0 l0_1 = some r) :
 Calls Try.prog 28 #[.agg #[.slice A0_0 l0_0.length c0_0, .slice A0_1 l0_1.length c0_1]] w fun e w' => e = .returned (.bool r) ∧ Below w.heap.size w w' := by
 have hu64 := Try.underlying64
 have HR0_0 := yD hr0_0
 have HC0_0 := yD hc0_0
 clear hr0_0 hc0_0
 have HR0_1 := yD hr0_1
 have HC0_1 := yD hc0_1
 clear hr0_1 hc0_1
 have HB := yD (Below.refl w.heap.size w)
 have H : (if (l0_0.length : Int) = (l0_1.length : Int) then (impl_ValidBox.j0 k (decide ((l0_0.length : Int) > 3)) l0_0 l0_1) else (impl_ValidBox.j0 k true l0_0 l0_1)) = some r := h
 clear h
 have HC2 := yD H
 clear H; go_enter Try.func28, Try.ntmps28
 go_upto_region 1 with (first | ((with_reducible refine gate_dst (N := 1) rfl ?_); (try (refine gate_guard (by rfl) ?_; dsimp only)); refine box_event ?hg (N := 1) ?hd (cs := #[.slice A0_0 l0_0.length c0_0, .slice A0_1 l0_1.length c0_1]) (t := 64) ?hr ?_; (case hd => rfl); (case hg => rfl); (case hr => first | (go_simp; done) | (go_simp; rfl)); intro gb196 hg w3 hbox hb; have n0_ := yD (zC (kB HB) hb); have n1_ := yD (hbox); have n2_ := yD ((by rw [hg]; exact (below_size (kB HB)) : w.heap.size ≤ gb196)); have n3_ := yD ((by rw [hg]; exact (below_size (kB HB)) : w.heap.size ≤ gb196)); clear HB; have HB := n0_; have BK196 := n1_; have GW196 := n2_; have GE196 := n3_; clear n0_ n1_ n2_ n3_; clear hb hbox hg))
 (try simp only [Act.put, zH, zI, zJ])
 go_cut [17] (fun v17 wc => ∃ (kq : Nat) (x17_1 : Bool), v17 = .bool x17_1 ∧ Aside0 (impl_ValidBox.j0 kq x17_1 l0_0 l0_1 = some r) ∧ Aside0 (kq ≤ k) ∧ Aside0 (wc.heap[gb196]? = some (.cells #[(.slice A0_0 l0_0.length c0_0), (.slice A0_1 l0_1.length c0_1)] 64 (0, 0))) ∧ Aside0 (Below w.heap.size w wc))
 case first =>
  have H := HC2.out; clear HC2
  by_cases c4 : (l0_0.length : Int) = (l0_1.length : Int)
  ·
   rw [if_pos c4] at H
   have c4b0 : ((l0_0.length : Int) == (l0_1.length : Int)) = true := beq_iff_eq.mpr c4
   have c4b1 : ((l0_0.length : Int) != (l0_1.length : Int)) = false := bne_eq_false_iff_eq.mpr c4
   have c4b2 : (l0_0.length == l0_1.length) = true := by first | simpa using c4 | (simp at c4 ⊢; omega)
   clear c4
   (first | rw [c4b0] | (simp only [i64_w, i32_w]; rw [c4b0]) | (simp only [bne] at c4b0; rw [c4b0]) | skip)
   have H' := yD H
   clear H
   obtain ⟨hcz5_0, hcz5_1⟩ := cz2 BK196.out
   obtain ⟨hfz5_0, hfz5_1⟩ := fz2 BK196.out
   go_wp2
   go_meet
   case rel => exact ⟨_, (decide ((l0_0.length : Int) > 3)), (by first | rfl | (simp; done) | (simp [*]; done)), H', ⟨by first | omega | exact Nat.le_refl _⟩, ⟨by (with_reducible repeat (first | refine yM ?_ _ | refine yO ?_ | refine yN ?_ _)); exact BK196.out⟩, ⟨kR1 HB⟩⟩
  ·
   rw [if_neg c4] at H
   have c4b0 : ((l0_0.length : Int) == (l0_1.length : Int)) = false := beq_eq_false_iff_ne.mpr c4
   have c4b1 : ((l0_0.length : Int) != (l0_1.length : Int)) = true := bne_iff_ne.mpr c4
   have c4b2 : (l0_0.length == l0_1.length) = false := by first | simpa using c4 | (simp at c4 ⊢; omega)
   (first | rw [c4b0] | (simp only [i64_w, i32_w]; rw [c4b0]) | (simp only [bne] at c4b0; rw [c4b0]) | skip)
   have H' := yD H
   clear H
   obtain ⟨hcz6_0, hcz6_1⟩ := cz2 BK196.out
   obtain ⟨hfz6_0, hfz6_1⟩ := fz2 BK196.out
   go_wp2
   go_meet
   case rel => exact ⟨_, (true), (by first | rfl | (simp; done) | (simp [*]; done)), H', ⟨by first | omega | exact Nat.le_refl _⟩, ⟨by (with_reducible repeat (first | refine yM ?_ _ | refine yO ?_ | refine yN ?_ _)); exact BK196.out⟩, ⟨kR1 HB⟩⟩
 case rest =>
  clear HC2; try clear c2; try clear p2; try clear c4; try clear c4b0; try clear c4b1; try clear c4b2; try clear hcz5_0; try clear hcz5_1; try clear hcz6_0; try clear hcz6_1; try clear hfz5_0; try clear hfz5_1; try clear hfz6_0; try clear hfz6_1
  obtain ⟨kq, x17_1, rfl, HA, HJ1, BK196, HB⟩ := hcut
  cases kq with
  | zero => exact absurd HA.out (by simp [impl_ValidBox.j0])
  | succ kj1 =>
   have H := HA.out; clear HA
   simp only [impl_ValidBox.j0] at H
   by_cases c7 : x17_1 = true
   · subst c7
     have H1 : (some false) = some r := by rw [if_pos rfl] at H; exact H
     clear H; have H := H1; clear H1; obtain rfl := Option.some.inj H
     go_wp2
     go_ret
     exact ⟨by first | rfl | (simp <;> rfl) | (simp [*] <;> rfl), kR1 HB⟩
   ·
    replace c7 := Bool.eq_false_iff.mpr c7
    subst c7
    have H1 : (impl_ValidBox.l0 kj1 l0_0 (l0_0.length : Int) 0 l0_0 l0_1) = some r := by rw [if_neg (show ¬ (false = true) by decide)] at H; exact H
    clear H; have H := H1; clear H1
    have H' := yD H
    clear H
    obtain ⟨hcz8_0, hcz8_1⟩ := cz2 BK196.out
    obtain ⟨hfz8_0, hfz8_1⟩ := fz2 BK196.out
    go_wp2
    go_loopg [21] kj1 (fun kq v21 w' => ∃ (x21_2 : Int), v21 = .int .i64 x21_2 ∧ Aside0 (impl_ValidBox.l0 kq l0_0 (l0_0.length : Int) x21_2 l0_0 l0_1 = some r) ∧ Aside0 (kq ≤ kj1) ∧ Aside0 (w'.heap[gb196]? = some (.cells #[(.slice A0_0 l0_0.length c0_0), (.slice A0_1 l0_1.length c0_1)] 64 (0, 0))) ∧ Aside0 (Below w.heap.size w w'))
    case atStart => exact ⟨(0), (by first | rfl | (simp; done) | (simp [*]; done)), H', ⟨Nat.le_refl _⟩, ⟨by (with_reducible repeat (first | refine yM ?_ _ | refine yO ?_ | refine yN ?_ _)); exact BK196.out⟩, ⟨kR1 HB⟩⟩
    case round =>
     clear H'
     try clear c2; try clear p2; try clear c4; try clear c4b0; try clear c4b1; try clear c4b2; try clear c7; try clear hcz5_0; try clear hcz5_1; try clear hcz6_0; try clear hcz6_1; try clear hcz8_0; try clear hcz8_1; try clear hfz5_0; try clear hfz5_1; try clear hfz6_0; try clear hfz6_1; try clear hfz8_0; try clear hfz8_1; try clear p2
     obtain ⟨x21_2, rfl, HA, HK2, BK196, HB⟩ := hrel
     cases gk with
     | zero => exact absurd HA.out (by simp [impl_ValidBox.l0])
     | succ k2 =>
      have H := HA.out; clear HA
      simp only [impl_ValidBox.l0] at H
      by_cases c9 : x21_2 < (l0_0.length : Int)
      ·
       rw [if_pos c9] at H
       have c9b0 : decide (x21_2 < (l0_0.length : Int)) = true := zR c9; clear c9
       by_cases c10 : 0 ≤ x21_2
       ·
        rw [if_pos c10] at H
        have c10b0 : decide (0 ≤ x21_2) = true := zR c10; clear c10
        by_cases c11 : x21_2 < (l0_0.length : Int)
        ·
         rw [if_pos c11] at H
         have c11b0 : decide (x21_2 < (l0_0.length : Int)) = true := zR c11; clear c11
         by_cases c12 : (rd l0_0 x21_2) < 0
         · rw [if_pos c12] at H
           have c12b0 : decide ((rd l0_0 x21_2) < 0) = true := zR c12; clear c12; obtain rfl := Option.some.inj H
           have p197 : 0 ≤ (x21_2 : Int) := zP (by assumption)
           have q197 : x21_2 < (l0_0.length : Int) := zP (by assumption)
           obtain ⟨ad197, e197, hx197_0⟩ := Kd.at_int HR0_0.out x21_2 p197 q197
           cases e197
           replace hx197_0 := (HB.out.cell (zQ w _ hx197_0)).trans hx197_0
           replace p197 := eq_true p197; replace q197 := eq_true q197
           go_wp2
           go_ret
           exact ⟨by first | rfl | (simp <;> rfl) | (simp [*] <;> rfl), kR1 HB⟩
         ·
          rw [if_neg c12] at H
          have c12b0 : decide ((rd l0_0 x21_2) < 0) = false := zS c12; clear c12
          by_cases c13 : x21_2 < (l0_1.length : Int)
          ·
           rw [if_pos c13] at H
           have c13b0 : decide (x21_2 < (l0_1.length : Int)) = true := zR c13; clear c13
           by_cases c14 : (rd l0_0 x21_2) ≥ (rd l0_1 x21_2)
           ·
            rw [if_pos c14] at H
            have c14b0 : decide ((rd l0_1 x21_2) ≤ (rd l0_0 x21_2)) = true := zR c14; clear c14; obtain rfl := Option.some.inj H
            have p197 : 0 ≤ (x21_2 : Int) := zP (by assumption)
            have q197 : x21_2 < (l0_0.length : Int) := zP (by assumption)
            obtain ⟨ad197, e197, hx197_0⟩ := Kd.at_int HR0_0.out x21_2 p197 q197
            cases e197
            replace hx197_0 := (HB.out.cell (zQ w _ hx197_0)).trans hx197_0
            replace p197 := eq_true p197; replace q197 := eq_true q197
            obtain ⟨hcz15_0, hcz15_1⟩ := cz2 BK196.out
            obtain ⟨hfz15_0, hfz15_1⟩ := fz2 BK196.out
            have p198 : 0 ≤ (x21_2 : Int) := zP (by assumption)
            have q198 : x21_2 < (l0_1.length : Int) := zP (by assumption)
            obtain ⟨ad198, e198, hx198_0⟩ := Kd.at_int HR0_1.out x21_2 p198 q198
            cases e198
            replace hx198_0 := (HB.out.cell (zQ w _ hx198_0)).trans hx198_0
            replace p198 := eq_true p198; replace q198 := eq_true q198
            go_wp2
            go_ret
            exact ⟨by first | rfl | (simp <;> rfl) | (simp [*] <;> rfl), kR1 HB⟩
           ·
            rw [if_neg c14] at H
            have c14b0 : decide ((rd l0_1 x21_2) ≤ (rd l0_0 x21_2)) = false := zS c14; clear c14
            by_cases c16 : (rd l0_1 x21_2) > 40
            ·
             rw [if_pos c16] at H
             have c16b0 : decide (40 < (rd l0_1 x21_2)) = true := zR c16; clear c16; obtain rfl := Option.some.inj H
             have p197 : 0 ≤ (x21_2 : Int) := zP (by assumption)
             have q197 : x21_2 < (l0_0.length : Int) := zP (by assumption)
             obtain ⟨ad197, e197, hx197_0⟩ := Kd.at_int HR0_0.out x21_2 p197 q197
             cases e197
             replace hx197_0 := (HB.out.cell (zQ w _ hx197_0)).trans hx197_0
             replace p197 := eq_true p197; replace q197 := eq_true q197
             obtain ⟨hcz17_0, hcz17_1⟩ := cz2 BK196.out
             obtain ⟨hfz17_0, hfz17_1⟩ := fz2 BK196.out
             have p198 : 0 ≤ (x21_2 : Int) := zP (by assumption)
             have q198 : x21_2 < (l0_1.length : Int) := zP (by assumption)
             obtain ⟨ad198, e198, hx198_0⟩ := Kd.at_int HR0_1.out x21_2 p198 q198
             cases e198
             replace hx198_0 := (HB.out.cell (zQ w _ hx198_0)).trans hx198_0
             replace p198 := eq_true p198; replace q198 := eq_true q198
             have p199 : 0 ≤ (x21_2 : Int) := zP (by assumption)
             have q199 : x21_2 < (l0_1.length : Int) := zP (by assumption)
             obtain ⟨ad199, e199, hx199_0⟩ := Kd.at_int HR0_1.out x21_2 p199 q199
             obtain rfl : ad198 = ad199 := (by injection e199)
             replace hx199_0 := (HB.out.cell (zQ w _ hx199_0)).trans hx199_0
             replace p199 := eq_true p199; replace q199 := eq_true q199
             go_wp2
             go_ret
             exact ⟨by first | rfl | (simp <;> rfl) | (simp [*] <;> rfl), kR1 HB⟩
            ·
             rw [if_neg c16] at H
             have c16b0 : decide (40 < (rd l0_1 x21_2)) = false := zS c16; clear c16
             have H' := yD H
             clear H
             have p197 : 0 ≤ (x21_2 : Int) := zP (by assumption)
             have q197 : x21_2 < (l0_0.length : Int) := zP (by assumption)
             obtain ⟨ad197, e197, hx197_0⟩ := Kd.at_int HR0_0.out x21_2 p197 q197
             cases e197
             replace hx197_0 := (HB.out.cell (zQ w _ hx197_0)).trans hx197_0
             replace p197 := eq_true p197; replace q197 := eq_true q197
             obtain ⟨hcz18_0, hcz18_1⟩ := cz2 BK196.out
             obtain ⟨hfz18_0, hfz18_1⟩ := fz2 BK196.out
             have p198 : 0 ≤ (x21_2 : Int) := zP (by assumption)
             have q198 : x21_2 < (l0_1.length : Int) := zP (by assumption)
             obtain ⟨ad198, e198, hx198_0⟩ := Kd.at_int HR0_1.out x21_2 p198 q198
             cases e198
             replace hx198_0 := (HB.out.cell (zQ w _ hx198_0)).trans hx198_0
             replace p198 := eq_true p198; replace q198 := eq_true q198
             have p199 : 0 ≤ (x21_2 : Int) := zP (by assumption)
             have q199 : x21_2 < (l0_1.length : Int) := zP (by assumption)
             obtain ⟨ad199, e199, hx199_0⟩ := Kd.at_int HR0_1.out x21_2 p199 q199
             obtain rfl : ad198 = ad199 := (by injection e199)
             replace hx199_0 := (HB.out.cell (zQ w _ hx199_0)).trans hx199_0
             replace p199 := eq_true p199; replace q199 := eq_true q199
             go_wp2
             go_roundg k2
             case measure => have := HJ1.out; have := HK2.out; omega
             case rel => exact ⟨(wrap64 (x21_2 + 1)), (by first | rfl | (simp; done) | (simp [*]; done)), H', ⟨by have := HJ1.out; have := HK2.out; omega⟩, ⟨by (with_reducible repeat (first | refine yM ?_ _ | refine yO ?_ | refine yN ?_ _)); exact BK196.out⟩, ⟨kR1 HB⟩⟩
          · rw [if_neg c13] at H
            exact absurd H (by simp)
        · rw [if_neg c11] at H
          exact absurd H (by simp)
       · rw [if_neg c10] at H
         exact absurd H (by simp)
      · rw [if_neg c9] at H
        have c9b0 : decide (x21_2 < (l0_0.length : Int)) = false := zS c9; clear c9; obtain rfl := Option.some.inj H
        go_wp2
        go_ret
        exact ⟨by first | rfl | (simp <;> rfl) | (simp [*] <;> rfl), kR1 HB⟩

/-! ### slices_Clone_int64_int64_isnil: function 62 -/
def slices_Clone_int64_int64_isnil.f (l0 : List Int) : Option (List Int) := some ([] : List Int)
set_option maxHeartbeats 8000000 in
set_option maxRecDepth 100000 in
theorem slices_Clone_int64_int64_isnil.calls (c0 : Nat) (l0 : List Int) (r : List Int) (w : World) (hr0 : Kd.C (Kd.int .i64) w none l0.length l0) (hc0 : l0.length ≤ c0) (h : slices_Clone_int64_int64_isnil.f l0 = some r) :
 Calls Try.prog 62 #[.slice none l0.length c0] w fun e w' => ∃ v0_ : Value, e = .returned (v0_) ∧ Kd.R (Kd.int .i64) 2 w' w.heap.size (fun _ => True) v0_ r ∧ Below w.heap.size w w' := by
 have HR0 := yD hr0
 have HC0 := yD hc0
 clear hr0 hc0
 have HB := yD (Below.refl w.heap.size w)
 have H : (some ([] : List Int)) = some r := h
 clear h; obtain rfl := Option.some.inj H; have q_ : ∀ (w : World) (a : Option Addr) (n c n' c' : Nat), (binOp .eql 23 (.slice a n c) (.slice none n' c')).run Try.prog w = .ok (.bool a.isNone) w := fun w a n c n' c' => Lib.run_eql_slice_nil w _ _ a n c n' c' Try.underlying23; go_enter Try.func62, Try.ntmps62
 go_wp2
 go_ret
 exact ⟨_, by first | rfl | (simp <;> rfl) | (simp [*] <;> rfl), by first | exact Kd.R_nil _ _ _ _ _ | exact Kd.N_nil _ _ _ _ _ | exact Kd.V_nil _ _ _ _ _ | exact Kd.Q_nil _ _ _ _ _ | exact Kd.S_nil _ _ _ _ _, kR0 HB⟩

/-! ### slices_Clone_int64_int64_nn: function 62 -/
def slices_Clone_int64_int64_nn.f (l0 : List Int) : Option (List Int) := (some (([] : List Int) : List Int)).bind fun y200 => (if y200.length + l0.length < 17592186044416 then (some (y200 ++ l0)) else (none))
set_option maxHeartbeats 8000000 in
set_option maxRecDepth 100000 in
theorem slices_Clone_int64_int64_nn.calls (A0 : Addr) (c0 : Nat) (l0 : List Int) (r : List Int) (w : World) (hr0 : Kd.C (Kd.int .i64) w (some A0) l0.length l0) (hc0 : l0.length ≤ c0) (h : slices_Clone_int64_int64_nn.f l0 = some r) :
 Calls Try.prog 62 #[.slice (some A0) l0.length c0] w fun e w' => ∃ v0_ : Value, e = .returned (v0_) ∧ Kd.R (Kd.int .i64) 2 w' w.heap.size (fun _ => True) v0_ r ∧ Below w.heap.size w w' := by
 have HR0 := yD hr0
 have HC0 := yD hc0
 clear hr0 hc0
 have HB := yD (Below.refl w.heap.size w)
 have H : ((some (([] : List Int) : List Int)).bind fun y200 => (if y200.length + l0.length < 17592186044416 then (some (y200 ++ l0)) else (none))) = some r := h
 clear h
 obtain ⟨y200, hy200⟩ : ∃ y_ : List Int, y_ = (([] : List Int)) := ⟨_, rfl⟩
 replace H : (if y200.length + l0.length < 17592186044416 then (some (y200 ++ l0)) else (none)) = some r := by first | (rw [hy200]; with_reducible exact H) | (have H2_ := (Option.bind_some _ _).symm.trans H; rw [hy200]; with_reducible exact H2_) | (have H2_ := (Option.bind_some _ _).symm.trans H; with_reducible exact H2_) | with_reducible exact H | (rw [hy200]; exact H) | exact H
 have Ny200 := yD hy200
 clear hy200
 by_cases c2 : y200.length + l0.length < 17592186044416
 ·
  rw [if_pos c2] at H
  have LMc2 := yD c2
  clear c2
  obtain ⟨y203, hy203⟩ : ∃ y_ : List Int, y_ = (y200 ++ l0) := ⟨_, rfl⟩
  replace H : (some y203) = some r := by first | (rw [hy203]; with_reducible exact H) | (have H2_ := (Option.bind_some _ _).symm.trans H; rw [hy203]; with_reducible exact H2_) | (have H2_ := (Option.bind_some _ _).symm.trans H; with_reducible exact H2_) | with_reducible exact H | (rw [hy203]; exact H) | exact H
  have Ny203 := yD hy203
  clear hy203; obtain rfl := Option.some.inj H; have q_ : ∀ (w : World) (a : Option Addr) (n c n' c' : Nat), (binOp .eql 23 (.slice a n c) (.slice none n' c')).run Try.prog w = .ok (.bool a.isNone) w := fun w a n c n' c' => Lib.run_eql_slice_nil w _ _ a n c n' c' Try.underlying23; go_enter Try.func62, Try.ntmps62
  go_wp2_with (first | ((with_reducible refine gate_dst (N := 5) rfl ?_); refine Kd.R_lit (Kd.int .i64) _ 2 ?hg (N := 5) ?hd (xs := ([] : List Int)) (inner := []) (ok := fun _ => True) (okp := fun _ => True) ?hr ?hp (fun _ hk => hk) trivial (Below.refl _ _) (Nat.le_refl _) (by simp) ?_; (case hd => rfl); (case hg => rfl); (case hr => first | (go_simp; done) | (go_simp; rfl)); (case hp => exact (Reps.none _ _)); intro v201 w3 ho4 hb hg_ hnew_; clear hg_ hnew_; (first | rw [← Ny200.out] at ho4 | (simp only [Int.reduceToNat] at ho4; rw [← Ny200.out] at ho4)); have n0_ := yD (yZ ho4 (below_size (kB HB))); have n1_ := yD (zC (kB HB) hb); clear HB; have HO202 := n0_; have HB := n1_; clear n0_ n1_; clear hb ho4) | ((with_reducible refine gate_builtin (b := .append) (xs := #[.tmp 5, .tmp 6]) rfl ?_); at_builtin; refine Kd.R_append_rows (Kd.int .i64) (w0 := w) w.heap.size rfl (.tmp 5) (.tmp 6) 23 2 (.int .i64 0) 8 rfl Try.underlying23 info2 rfl (by decide) (by omega) v201 y200 l0 _ _ _ (fun _ => True) (fun _ => False) rfl rfl ?aO ?aR (fun _ _ h => h) (fun _ h => h.elim) ?aF ?aB ?aS ?aL ?_; (case aR => exact kV (yY HR0.out HB.out)); (case aB => exact (kB HB)); (case aF => exact (fun _ _ => trivial)); (case aO => exact (kA HO202)); (case aS => exact (below_size (kB HB))); (case aL => have := LMc2.out; omega); intro v204 w5 ho hb hg hat; rw [← Ny203.out] at ho; have n0_ := yD (hb); have n1_ := yD (ho); clear HB; clear HO202; have HB := n0_; have HO205 := n1_; clear n0_ n1_; clear ho hb hg hat))
  go_ret
  exact ⟨_, by first | rfl | (simp <;> rfl) | (simp [*] <;> rfl), by (with_reducible repeat (first | apply yA | apply yB | apply yC)); exact HO205.out, kR0 HB⟩
 · rw [if_neg c2] at H
   exact absurd H (by simp)

/-! ### slices_Clone_int64_int64: function 62 -/
def slices_Clone_int64_int64.f (l0 : List Int) : Option (List Int) := slices_Clone_int64_int64_nn.f l0
theorem slices_Clone_int64_int64.calls (A0 : Option Addr) (c0 : Nat) (l0 : List Int) (r : List Int) (w : World) (hr0 : Kd.C (Kd.int .i64) w A0 l0.length l0) (hc0 : l0.length ≤ c0) (h : slices_Clone_int64_int64.f l0 = some r) :
 Calls Try.prog 62 #[.slice A0 l0.length c0] w fun e w' => ∃ v0_ : Value, e = .returned (v0_) ∧ Kd.R (Kd.int .i64) 2 w' w.heap.size (fun _ => True) v0_ r ∧ Below w.heap.size w w' := by
 cases A0 with
 | some A0 => exact slices_Clone_int64_int64_nn.calls A0 c0 l0 r w hr0 hc0 h
 | none =>
  have hz : l0 = [] := by
   cases l0 with
   | nil => rfl
   | cons x xs => obtain ⟨ad, e, _⟩ := hr0.2.2 (by simp); cases e
  subst hz
  have hr : r = [] := by
   have h' := h
   unfold slices_Clone_int64_int64.f slices_Clone_int64_int64_nn.f at h'
   simp at h'
   exact h'
  subst hr
  exact slices_Clone_int64_int64_isnil.calls c0 [] [] w hr0 hc0 rfl

end Go.Proofs.Ytgpkkplabnliiaa.PFnRanges
