/- Each Go function here comes to what the plain function of its name says, where that says something. Made by a program of this session, over the print. -/
import Derived.Test.YtdiaebjbiddefaaPFnExactSelectedIndicesx0
import Derived.Test.YtdiaebjbiddefaaPFnExactSelectedIndicesx1
import Derived.Test.YtdiaebjbiddefaaPFnExactSelectedIndicesx2
import Derived.Test.YtdiaebjbiddefaaPFnExactSelectedIndicesx4
namespace Go.Proofs.Ytdiaebjbiddefaa.PFnExactSelectedIndices
open Go.RowKit Go.Proofs.YtdiaebjbiddefaaW.PrintWords Go.Proofs.YtdiaebjbiddefaaW.PrintLast Go.Proofs.YtdiaebjbiddefaaW.PrintMore
attribute [local go_sem] max2_int min2_int max_two min_two max_three min_three max_four min_four   -- for this text's walks alone
set_option linter.unusedVariables false
set_option linter.unusedSimpArgs false

/-! ### spec_l06Valid: function 77 -/
mutual
def spec_l06Valid.j0 : Nat → List Int → Bool → Int → List Int → List Int → List Int → List Int → List (S110) → Option (Bool)
 | 0, _, _, _, _, _, _, _, _ => none
 | k + 1, x0, x14, x185000, x185001, x185002, x185003, x185004, x185005 => if x14 = true then (some false) else (if x185000 = 3 then (if (x185001.length : Int) = (x0.length : Int) then (spec_l06Valid.l0 k x0 0 x185000 x185001 x185002 x185003 x185004 x185005) else (some false)) else (if x185000 = 4 then (spec_l06Valid.l1 k x0 0 x185000 x185001 x185002 x185003 x185004 x185005) else (some true)))
def spec_l06Valid.l0 : Nat → List Int → Int → Int → List Int → List Int → List Int → List Int → List (S110) → Option (Bool)
 | 0, _, _, _, _, _, _, _, _ => none
 | k + 1, x0, x5, x185000, x185001, x185002, x185003, x185004, x185005 => if x5 < (x0.length : Int) then ((spec_l06End.f x185000 x185001 x185002 x185003 x185004 x185005 x5).bind fun t187 => (if 0 ≤ x5 then (if t187 > (rd x0 x5) then (some false) else (spec_l06Valid.l0 k x0 (wrap64 (x5 + 1)) x185000 x185001 x185002 x185003 x185004 x185005)) else (none))) else (some true)
def spec_l06Valid.l1 : Nat → List Int → Int → Int → List Int → List Int → List Int → List Int → List (S110) → Option (Bool)
 | 0, _, _, _, _, _, _, _, _ => none
 | k + 1, x0, x6, x185000, x185001, x185002, x185003, x185004, x185005 => if x6 < (x185005.length : Int) then (if 0 ≤ x6 then ((spec_l05Inside.f k x0 ((rd_T110 x185005 x6).f0)).bind fun t190 => (if t190 = true then (spec_l06Valid.l1 k x0 (wrap64 (x6 + 1)) x185000 x185001 x185002 x185003 x185004 x185005) else (some false))) else (none)) else (some true)
end
def spec_l06Valid.f (k : Nat) (l0 : List Int) (a1_0 : Int) (l1_1 : List Int) (l1_2 : List Int) (l1_3 : List Int) (l1_4 : List Int) (l1_5 : List (S110)) : Option (Bool) := (spec_l05Dims.f k l0).bind fun t185 => (if t185 = true then ((spec_l06Formed.f k a1_0 l1_1 l1_2 l1_3 l1_4 l1_5).bind fun t186 => (spec_l06Valid.j0 k l0 (!t186) a1_0 l1_1 l1_2 l1_3 l1_4 l1_5)) else (spec_l06Valid.j0 k l0 true a1_0 l1_1 l1_2 l1_3 l1_4 l1_5))
theorem spec_l06Valid.mono_l : ∀ k, (∀ y0 y1 y2 y3 y4 y5 y6 y7, LeO (spec_l06Valid.j0 k y0 y1 y2 y3 y4 y5 y6 y7) (spec_l06Valid.j0 (k + 1) y0 y1 y2 y3 y4 y5 y6 y7)) ∧ (∀ y0 y1 y2 y3 y4 y5 y6 y7, LeO (spec_l06Valid.l0 k y0 y1 y2 y3 y4 y5 y6 y7) (spec_l06Valid.l0 (k + 1) y0 y1 y2 y3 y4 y5 y6 y7)) ∧ (∀ y0 y1 y2 y3 y4 y5 y6 y7, LeO (spec_l06Valid.l1 k y0 y1 y2 y3 y4 y5 y6 y7) (spec_l06Valid.l1 (k + 1) y0 y1 y2 y3 y4 y5 y6 y7))
 | 0 => ⟨fun _ _ _ _ _ _ _ _ r h => by simp [spec_l06Valid.j0] at h, fun _ _ _ _ _ _ _ _ r h => by simp [spec_l06Valid.l0] at h, fun _ _ _ _ _ _ _ _ r h => by simp [spec_l06Valid.l1] at h⟩
 | k + 1 => by
  obtain ⟨ih0, ih1, ih2⟩ := spec_l06Valid.mono_l k
  refine ⟨?_, ?_, ?_⟩
  ·
   intro y0 y1 y2 y3 y4 y5 y6 y7
   unfold spec_l06Valid.j0
   repeat' (with_reducible first | exact ih0 _ _ _ _ _ _ _ _ | exact ih1 _ _ _ _ _ _ _ _ | exact ih2 _ _ _ _ _ _ _ _ | exact spec_l05Dims.mono _ _ | exact spec_l05Inside.mono _ _ _ | exact spec_l06Formed.mono _ _ _ _ _ _ _ | exact LeO.refl _ | exact LeO.none _ | refine LeO.ite ?_ ?_ | refine LeO.bind ?_ (fun _ => ?_))
  ·
   intro y0 y1 y2 y3 y4 y5 y6 y7
   unfold spec_l06Valid.l0
   repeat' (with_reducible first | exact ih0 _ _ _ _ _ _ _ _ | exact ih1 _ _ _ _ _ _ _ _ | exact ih2 _ _ _ _ _ _ _ _ | exact spec_l05Dims.mono _ _ | exact spec_l05Inside.mono _ _ _ | exact spec_l06Formed.mono _ _ _ _ _ _ _ | exact LeO.refl _ | exact LeO.none _ | refine LeO.ite ?_ ?_ | refine LeO.bind ?_ (fun _ => ?_))
  ·
   intro y0 y1 y2 y3 y4 y5 y6 y7
   unfold spec_l06Valid.l1
   repeat' (with_reducible first | exact ih0 _ _ _ _ _ _ _ _ | exact ih1 _ _ _ _ _ _ _ _ | exact ih2 _ _ _ _ _ _ _ _ | exact spec_l05Dims.mono _ _ | exact spec_l05Inside.mono _ _ _ | exact spec_l06Formed.mono _ _ _ _ _ _ _ | exact LeO.refl _ | exact LeO.none _ | refine LeO.ite ?_ ?_ | refine LeO.bind ?_ (fun _ => ?_))
theorem spec_l06Valid.mono : ∀ a0 a1 a2 a3 a4 a5 a6 k, LeO (spec_l06Valid.f k a0 a1 a2 a3 a4 a5 a6) (spec_l06Valid.f (k + 1) a0 a1 a2 a3 a4 a5 a6) := by
 intro a0 a1 a2 a3 a4 a5 a6 k
 obtain ⟨ih0, ih1, ih2⟩ := spec_l06Valid.mono_l k
 unfold spec_l06Valid.f
 repeat' (with_reducible first | exact ih0 _ _ _ _ _ _ _ _ | exact ih1 _ _ _ _ _ _ _ _ | exact ih2 _ _ _ _ _ _ _ _ | exact spec_l05Dims.mono _ _ | exact spec_l05Inside.mono _ _ _ | exact spec_l06Formed.mono _ _ _ _ _ _ _ | exact LeO.refl _ | exact LeO.none _ | refine LeO.ite ?_ ?_ | refine LeO.bind ?_ (fun _ => ?_))
def spec_l06Valid.T10 : Bool × List (List Nat × List Nat) := (true, [([], []), ([], []), ([0, 1], [0, 1]), ([], []), ([], []), ([3, 4], [3, 4]), ([5], [5]), ([2, 6], [2, 6])])
def spec_l06Valid.B10 : List Nat := [0, 0, 3, 0, 0, 24, 56, 127]
theorem spec_l06Valid.tab10 : rtab .any (opsOf Try.f77 10) = spec_l06Valid.T10 := by kernel_rfl
theorem spec_l06Valid.bits10 : waitsOk spec_l06Valid.T10.2 spec_l06Valid.B10 = true := by kernel_rfl
abbrev spec_l06Valid.Q_0 : Array Bool := (bz 8 0)
abbrev spec_l06Valid.Q_1 : Array Bool := (bz 8 2)
abbrev spec_l06Valid.Q_2 : Array Bool := (bz 8 10)
abbrev spec_l06Valid.Q_3 : Array Bool := (bz 8 26)
abbrev spec_l06Valid.Q_4 : Array Bool := (bz 8 58)
abbrev spec_l06Valid.Q_5 : Array Bool := (bz 8 59)
abbrev spec_l06Valid.Q_6 : Array Bool := (bz 8 123)
abbrev spec_l06Valid.Q_7 : Array Bool := (bz 8 127)
abbrev spec_l06Valid.Q_8 : Array Bool := (bz 8 255)
set_option maxHeartbeats 8000000 in
set_option maxRecDepth 100000 in
theorem spec_l06Valid.calls (k : Nat) (A0 : Option Addr) (c0 : Nat) (l0 : List Int) (a1_0 : Int) (A1_1 : Option Addr) (c1_1 : Nat) (l1_1 : List Int) (A1_2 : Option Addr) (c1_2 : Nat) (l1_2 : List Int) (A1_3 : Option Addr) (c1_3 : Nat) (l1_3 : List Int) (A1_4 : Option Addr) (c1_4 : Nat) (l1_4 : List Int) (A1_5 : Option Addr) (c1_5 : Nat) (l1_5 : List (S110)) (r : Bool) (w : World) (hr0 : Kd.C (Kd.int .i64) w A0 l0.length l0) (hc0 : l0.length ≤ c0) (hr1_1 : Kd.C (Kd.int .i64) w A1_1 l1_1.length l1_1) (hc1_1 : l1_1.length ≤ c1_1) (hr1_2 : Kd.C (Kd.int .i64) w A1_2 l1_2.length l1_2) (hc1_2 : l1_2.length ≤ c1_2) (hr1_3 : Kd.C (Kd.int .i64) w A1_3 l1_3.length l1_3) (hc1_3 : l1_3.length ≤ c1_3) (hr1_4 : Kd.C (Kd.int .i64) w A1_4 l1_4.length l1_4) (hc1_4 : l1_4.length ≤ c1_4) (hr1_5 : Kd.C k110 w A1_5 l1_5.length l1_5) (hc1_5 : l1_5.length ≤ c1_5) (h : spec_l06Valid.f k l0 a1_0 l1_1 l1_2 l1_3 l1_4 l1_5 = some r) :
 Calls Try.prog 77 #[.slice A0 l0.length c0, .agg #[.int .i64 a1_0, .slice A1_1 l1_1.length c1_1, .slice A1_2 l1_2.length c1_2, .slice A1_3 l1_3.length c1_3, .slice A1_4 l1_4.length c1_4, .slice A1_5 l1_5.length c1_5]] w fun e w' => e = .returned (.bool r) ∧ Below w.heap.size w w' := by
 have hu55 := Try.underlying55
 have HR0 := yD hr0
 have HC0 := yD hc0
 clear hr0 hc0
 have HR1_1 := yD hr1_1
 have HC1_1 := yD hc1_1
 clear hr1_1 hc1_1
 have HR1_2 := yD hr1_2
 have HC1_2 := yD hc1_2
 clear hr1_2 hc1_2
 have HR1_3 := yD hr1_3
 have HC1_3 := yD hc1_3
 clear hr1_3 hc1_3
 have HR1_4 := yD hr1_4
 have HC1_4 := yD hc1_4
 clear hr1_4 hc1_4
 have HR1_5 := yD hr1_5
 have HC1_5 := yD hc1_5
 clear hr1_5 hc1_5
 have HB := yD (Below.refl w.heap.size w)
 have H : ((spec_l05Dims.f k l0).bind fun t185 => (if t185 = true then ((spec_l06Formed.f k a1_0 l1_1 l1_2 l1_3 l1_4 l1_5).bind fun t186 => (spec_l06Valid.j0 k l0 (!t186) a1_0 l1_1 l1_2 l1_3 l1_4 l1_5)) else (spec_l06Valid.j0 k l0 true a1_0 l1_1 l1_2 l1_3 l1_4 l1_5))) = some r := h
 clear h
 have HC3 := yD H
 clear H; go_enter Try.func77, Try.ntmps77
 go_upto_region 1 with (first | ((with_reducible refine gate_dst (N := 3) rfl ?_); refine box_event ?hg (N := 3) ?hd (cs := #[.int .i64 a1_0, .slice A1_1 l1_1.length c1_1, .slice A1_2 l1_2.length c1_2, .slice A1_3 l1_3.length c1_3, .slice A1_4 l1_4.length c1_4, .slice A1_5 l1_5.length c1_5]) (t := 55) ?hr ?_; (case hd => rfl); (case hg => rfl); (case hr => first | (go_simp; done) | (go_simp; rfl)); intro gb184 hg w4 hbox hb; have n0_ := yD (zC (kB HB) hb); have n1_ := yD (hbox); have n2_ := yD ((by rw [hg]; exact (below_size (kB HB)) : w.heap.size ≤ gb184)); have n3_ := yD ((by rw [hg]; exact (below_size (kB HB)) : w.heap.size ≤ gb184)); clear HB; have HB := n0_; have BK184 := n1_; have GW184 := n2_; have GE184 := n3_; clear n0_ n1_ n2_ n3_; clear hb hbox hg))
 (try simp only [Act.put, zH, zI, zJ])
 go_cut [14] (fun v14 wc => ∃ (kq : Nat) (x14_2 : Bool), v14 = .bool x14_2 ∧ Aside0 (spec_l06Valid.j0 kq l0 x14_2 a1_0 l1_1 l1_2 l1_3 l1_4 l1_5 = some r) ∧ Aside0 (kq ≤ k) ∧ Aside0 (wc.heap[gb184]? = some (.cells #[.int .i64 a1_0, (.slice A1_1 l1_1.length c1_1), (.slice A1_2 l1_2.length c1_2), (.slice A1_3 l1_3.length c1_3), (.slice A1_4 l1_4.length c1_4), (.slice A1_5 l1_5.length c1_5)] 55 (0, 0))) ∧ Aside0 (Below w.heap.size w wc))
 case first =>
  have H := HC3.out; clear HC3
  obtain ⟨t185, A50, H⟩ := zW_ H
  replace H : (if t185 = true then ((spec_l06Formed.f k a1_0 l1_1 l1_2 l1_3 l1_4 l1_5).bind fun t186 => (spec_l06Valid.j0 k l0 (!t186) a1_0 l1_1 l1_2 l1_3 l1_4 l1_5)) else (spec_l06Valid.j0 k l0 true a1_0 l1_1 l1_2 l1_3 l1_4 l1_5)) = some r := H
  have A5 := yD A50
  clear A50
  by_cases c6 : t185 = true
  ·
   subst c6
   have H1 : ((spec_l06Formed.f k a1_0 l1_1 l1_2 l1_3 l1_4 l1_5).bind fun t186 => (spec_l06Valid.j0 k l0 (!t186) a1_0 l1_1 l1_2 l1_3 l1_4 l1_5)) = some r := by rw [if_pos rfl] at H; exact H
   clear H; have H := H1; clear H1
   obtain ⟨t186, A70, H⟩ := zW_ H
   replace H : (spec_l06Valid.j0 k l0 (!t186) a1_0 l1_1 l1_2 l1_3 l1_4 l1_5) = some r := H
   have A7 := yD A70
   clear A70
   have H' := yD H
   clear H
   go_wp2_with (first | ((with_reducible refine gate_callee (f := 90) rfl ?_); refine gL 8 Try.func90 #[.slice A0 l0.length c0] ?_; (with_reducible refine (spec_l05Dims.calls k _ _ l0 true _ ?side1 ?side2 A5.out).mono ?_); (case side1 => exact kV (yY HR0.out HB.out)); (case side2 => exact HC0.out); rintro e w' ⟨rfl, ⟨nd, rfl⟩⟩; refine ⟨_, rfl, ?_⟩; obtain ⟨hcz8_0, hcz8_1, hcz8_2, hcz8_3, hcz8_4, hcz8_5⟩ := cz6 BK184.out; obtain ⟨hfz8_0, hfz8_1, hfz8_2, hfz8_3, hfz8_4, hfz8_5⟩ := fz6 BK184.out) | (go_at_call 110; (with_reducible refine (spec_l06Formed.calls k a1_0 _ _ l1_1 _ _ l1_2 _ _ l1_3 _ _ l1_4 _ _ l1_5 t186 _ ?side1 ?side2 ?side3 ?side4 ?side5 ?side6 ?side7 ?side8 ?side9 ?side10 A7.out).mono ?_); (case side1 => exact yY HR1_1.out (kB HB)); (case side2 => exact HC1_1.out); (case side3 => exact yY HR1_2.out (kB HB)); (case side4 => exact HC1_2.out); (case side5 => exact yY HR1_3.out (kB HB)); (case side6 => exact HC1_3.out); (case side7 => exact yY HR1_4.out (kB HB)); (case side8 => exact HC1_4.out); (case side9 => exact yY HR1_5.out (kB HB)); (case side10 => exact HC1_5.out); rintro e w9 ⟨rfl, hb⟩; have n0_ := yD (zB (kN BK184) hb); have n1_ := yD (zC (kB HB) hb); clear BK184; clear HB; have BK184 := n0_; have HB := n1_; clear n0_ n1_; (try clear hb); (try clear hb2); (try clear hk); (try clear hi)))
   go_meet
   case rel => exact ⟨_, (!t186), (by first | rfl | (simp; done) | (simp [*]; done)), H', ⟨by first | omega | exact Nat.le_refl _⟩, ⟨by (with_reducible repeat (first | refine yM ?_ _ | refine yO ?_ | refine yN ?_ _)); exact BK184.out⟩, ⟨kR0 HB⟩⟩
  ·
   replace c6 := Bool.eq_false_iff.mpr c6
   subst c6
   have H1 : (spec_l06Valid.j0 k l0 true a1_0 l1_1 l1_2 l1_3 l1_4 l1_5) = some r := by rw [if_neg (show ¬ (false = true) by decide)] at H; exact H
   clear H; have H := H1; clear H1
   have H' := yD H
   clear H
   go_wp2_with (first | ((with_reducible refine gate_callee (f := 90) rfl ?_); refine gL 8 Try.func90 #[.slice A0 l0.length c0] ?_; (with_reducible refine (spec_l05Dims.calls k _ _ l0 false _ ?side1 ?side2 A5.out).mono ?_); (case side1 => exact kV (yY HR0.out HB.out)); (case side2 => exact HC0.out); rintro e w' ⟨rfl, ⟨nd, rfl⟩⟩; refine ⟨_, rfl, ?_⟩))
   go_meet
   case rel => exact ⟨_, (true), (by first | rfl | (simp; done) | (simp [*]; done)), H', ⟨by first | omega | exact Nat.le_refl _⟩, ⟨by (with_reducible repeat (first | refine yM ?_ _ | refine yO ?_ | refine yN ?_ _)); exact BK184.out⟩, ⟨kR0 HB⟩⟩
 case rest =>
  clear HC3; try clear c1; try clear p2; try clear c6; try clear c7; try clear c9; try clear hcz8_0; try clear hcz8_1; try clear hcz8_2; try clear hcz8_3; try clear hcz8_4; try clear hcz8_5; try clear hfz8_0; try clear hfz8_1; try clear hfz8_2; try clear hfz8_3; try clear hfz8_4; try clear hfz8_5
  obtain ⟨kq, x14_2, rfl, HA, HJ2, BK184, HB⟩ := hcut
  cases kq with
  | zero => exact absurd HA.out (by simp [spec_l06Valid.j0])
  | succ kj2 =>
   have H := HA.out; clear HA
   simp only [spec_l06Valid.j0] at H
   by_cases c10 : x14_2 = true
   ·
    subst c10
    have H1 : (some false) = some r := by rw [if_pos rfl] at H; exact H
    clear H; have H := H1; clear H1; obtain rfl := Option.some.inj H
    go_wp2
    go_ret
    exact ⟨by first | rfl | (simp <;> rfl) | (simp [*] <;> rfl), kR0 HB⟩
   ·
    replace c10 := Bool.eq_false_iff.mpr c10
    subst c10
    have H1 : (if a1_0 = 3 then (if (l1_1.length : Int) = (l0.length : Int) then (spec_l06Valid.l0 kj2 l0 0 a1_0 l1_1 l1_2 l1_3 l1_4 l1_5) else (some false)) else (if a1_0 = 4 then (spec_l06Valid.l1 kj2 l0 0 a1_0 l1_1 l1_2 l1_3 l1_4 l1_5) else (some true))) = some r := by rw [if_neg (show ¬ (false = true) by decide)] at H; exact H
    clear H; have H := H1; clear H1
    by_cases c11 : a1_0 = 3
    ·
     rw [if_pos c11] at H
     have c11b0 : (a1_0 == 3) = true := beq_iff_eq.mpr c11
     have c11b1 : (a1_0 != 3) = false := bne_eq_false_iff_eq.mpr c11
     clear c11
     by_cases c12 : (l1_1.length : Int) = (l0.length : Int)
     ·
      rw [if_pos c12] at H
      have c12b0 : ((l1_1.length : Int) == (l0.length : Int)) = true := beq_iff_eq.mpr c12
      have c12b1 : ((l1_1.length : Int) != (l0.length : Int)) = false := bne_eq_false_iff_eq.mpr c12
      have c12b2 : (l1_1.length == l0.length) = true := by first | simpa using c12 | (simp at c12 ⊢; omega)
      clear c12
      have H' := yD H
      clear H
      obtain ⟨hcz13_0, hcz13_1, hcz13_2, hcz13_3, hcz13_4, hcz13_5⟩ := cz6 BK184.out
      obtain ⟨hfz13_0, hfz13_1, hfz13_2, hfz13_3, hfz13_4, hfz13_5⟩ := fz6 BK184.out
      go_wp2
      go_loopg [5] kj2 (fun kq v5 w' => ∃ (x5_2 : Int), v5 = .int .i64 x5_2 ∧ Aside0 (spec_l06Valid.l0 kq l0 x5_2 a1_0 l1_1 l1_2 l1_3 l1_4 l1_5 = some r) ∧ Aside0 (kq ≤ kj2) ∧ Aside0 (w'.heap[gb184]? = some (.cells #[.int .i64 a1_0, (.slice A1_1 l1_1.length c1_1), (.slice A1_2 l1_2.length c1_2), (.slice A1_3 l1_3.length c1_3), (.slice A1_4 l1_4.length c1_4), (.slice A1_5 l1_5.length c1_5)] 55 (0, 0))) ∧ Aside0 (Below w.heap.size w w'))
      case atStart => exact ⟨(0), (by first | rfl | (simp; done) | (simp [*]; done)), H', ⟨Nat.le_refl _⟩, ⟨by (with_reducible repeat (first | refine yM ?_ _ | refine yO ?_ | refine yN ?_ _)); exact BK184.out⟩, ⟨kR0 HB⟩⟩
      case round =>
       clear H'
       try clear c1; try clear p2; try clear c6; try clear c7; try clear c9; try clear c10; try clear c11; try clear c11b0; try clear c11b1; try clear c12; try clear c12b0; try clear c12b1; try clear c12b2; try clear hcz13_0; try clear hcz13_1; try clear hcz13_2; try clear hcz13_3; try clear hcz13_4; try clear hcz13_5; try clear hcz8_0; try clear hcz8_1; try clear hcz8_2; try clear hcz8_3; try clear hcz8_4; try clear hcz8_5; try clear hfz13_0; try clear hfz13_1; try clear hfz13_2; try clear hfz13_3; try clear hfz13_4; try clear hfz13_5; try clear hfz8_0; try clear hfz8_1; try clear hfz8_2; try clear hfz8_3; try clear hfz8_4; try clear hfz8_5; try clear p2
       obtain ⟨x5_2, rfl, HA, HK2, BK184, HB⟩ := hrel
       cases gk with
       | zero => exact absurd HA.out (by simp [spec_l06Valid.l0])
       | succ k2 =>
        have H := HA.out; clear HA
        simp only [spec_l06Valid.l0] at H
        by_cases c14 : x5_2 < (l0.length : Int)
        ·
         rw [if_pos c14] at H; have c14b0 : decide (x5_2 < (l0.length : Int)) = true := zR c14; clear c14
         obtain ⟨t187, A150, H⟩ := zW_ H
         replace H : (if 0 ≤ x5_2 then (if t187 > (rd l0 x5_2) then (some false) else (spec_l06Valid.l0 k2 l0 (wrap64 (x5_2 + 1)) a1_0 l1_1 l1_2 l1_3 l1_4 l1_5)) else (none)) = some r := H
         have A15 := yD A150
         clear A150
         by_cases c16 : 0 ≤ x5_2
         ·
          rw [if_pos c16] at H; have c16b0 : decide (0 ≤ x5_2) = true := zR c16; clear c16
          by_cases c17 : t187 > (rd l0 x5_2)
          ·
           rw [if_pos c17] at H; have c17b0 : decide ((rd l0 x5_2) < t187) = true := zR c17; clear c17; obtain rfl := Option.some.inj H
           try go_wp2
           have n0_ := yD (yO BK184.out)
           have n1_ := yD (yP HB.out)
           clear BK184 HB; have BK184 := n0_; have HB := n1_; clear n0_ n1_
           have p188 : 0 ≤ (x5_2 : Int) := zP (by assumption)
           have q188 : x5_2 < (l0.length : Int) := zP (by assumption)
           obtain ⟨ad188, e188, hx188_0⟩ := Kd.at_int HR0.out x5_2 p188 q188
           have hw188_0 := hx188_0; cases e188
           replace hx188_0 := (HB.out.cell (zQ w _ hx188_0)).trans hx188_0
           replace p188 := eq_true p188; replace q188 := eq_true q188
           refine start_ (n := 8) (S := fun w' => w'.cell? ⟨gb184, 0, none⟩ = some (.int .i64 a1_0) ∧ w'.cell? ⟨gb184, 1, none⟩ = some (.slice A1_1 l1_1.length c1_1) ∧ w'.cell? ⟨gb184, 2, none⟩ = some (.slice A1_2 l1_2.length c1_2) ∧ w'.cell? ⟨gb184, 3, none⟩ = some (.slice A1_3 l1_3.length c1_3) ∧ w'.cell? ⟨gb184, 4, none⟩ = some (.slice A1_4 l1_4.length c1_4) ∧ w'.cell? ⟨gb184, 5, none⟩ = some (.slice A1_5 l1_5.length c1_5) ∧ w'.cell? (ad188.add (x5_2).toNat) = some (.int .i64 (rd l0 x5_2))) (ds := []) Q_0 (by kernel_rfl) rfl rfl ⟨(yG BK184.out 0).trans rfl, (yG BK184.out 1).trans rfl, (yG BK184.out 2).trans rfl, (yG BK184.out 3).trans rfl, (yG BK184.out 4).trans rfl, (yG BK184.out 5).trans rfl, ((HB.out.cell (zQ w _ hw188_0)).trans hw188_0)⟩ (fun hHeld => ?_); refine with_tabW spec_l06Valid.tab10 spec_l06Valid.bits10 (fun HT_ HW_ => ?_)
           generalize wr.drew = w18 at BK184 HB hx188_0 hHeld ⊢
           refine qA 1 32 Q_1 HT_ ?_
           refine qA 3 34 Q_2 HT_ ?_
           refine qA 4 35 Q_3 HT_ ?_
           refine qA 5 36 Q_4 HT_ ?_
           refine qC 0 31 Q_5 HT_ HW_ hHeld ?_ (hy := by rintro w' ⟨s0, s1, s2, s3, s4, s5, s6⟩; go_simp; with_reducible rfl)
           refine qC 6 37 Q_6 HT_ HW_ hHeld ?_ (hy := by rintro w' ⟨s0, s1, s2, s3, s4, s5, s6⟩; go_simp; with_reducible rfl)
           refine one_ (i := 2) (N := some 33) Q_7 rfl rfl (one_of HT_.out (by kernel_rfl)) (by decide) (fun K hK => ?_)
           refine goes_ Try.func111 (by kernel_rfl) rfl #[.agg #[.int .i64 a1_0, .slice A1_1 l1_1.length c1_1, .slice A1_2 l1_2.length c1_2, .slice A1_3 l1_3.length c1_3, .slice A1_4 l1_4.length c1_4, .slice A1_5 l1_5.length c1_5], .int .i64 x5_2] (by rfl) rfl rfl (by (try simp only [zK, zL, zM]); first | done | rfl | (simp only [zN, zO]; rfl)) ?_
           with_reducible refine (spec_l06End.calls a1_0 _ _ l1_1 _ _ l1_2 _ _ l1_3 _ _ l1_4 _ _ l1_5 x5_2 t187 _ ?side1 ?side2 ?side3 ?side4 ?side5 ?side6 ?side7 ?side8 ?side9 ?side10 A15.out).mono ?_
           (case side1 => exact kV (yY HR1_1.out HB.out))
           (case side2 => exact HC1_1.out)
           (case side3 => exact kV (yY HR1_2.out HB.out))
           (case side4 => exact HC1_2.out)
           (case side5 => exact kV (yY HR1_3.out HB.out))
           (case side6 => exact HC1_3.out)
           (case side7 => exact kV (yY HR1_4.out HB.out))
           (case side8 => exact HC1_4.out)
           (case side9 => exact kV (yY HR1_5.out HB.out))
           (case side10 => exact HC1_5.out)
           rintro e w19 ⟨rfl, hb⟩
           refine ⟨_, rfl, ?_⟩
           have n0_ := yD (zB (kN BK184) hb)
           have n1_ := yD (zC (kB HB) hb)
           clear BK184 HB; have BK184 := n0_; have HB := n1_; clear n0_ n1_; (try clear hb); (try clear hb2); (try clear hk); (try clear hi)
           refine hK.out _ _ ⟨(yG BK184.out 0).trans rfl, (yG BK184.out 1).trans rfl, (yG BK184.out 2).trans rfl, (yG BK184.out 3).trans rfl, (yG BK184.out 4).trans rfl, (yG BK184.out 5).trans rfl, ((HB.out.cell (zQ w _ hw188_0)).trans hw188_0)⟩ (fun hHeld => ?_)
           clear hK K
           refine norm_ (by show Act.put _ (some 33) _ = _; simp only [Act.put, zH, zI, zJ, i64_w, i32_w]; rfl) ?_
           refine qA 7 38 Q_8 HT_ ?_
           refine done_ (done_of HT_.out (by kernel_rfl)) ?_
           try go_wp2
           go_ret
           exact ⟨by first | rfl | (simp <;> rfl) | (simp [*] <;> rfl), kR0 HB⟩
          ·
           rw [if_neg c17] at H; have c17b0 : decide ((rd l0 x5_2) < t187) = false := zS c17; clear c17
           have H' := yD H
           clear H
           try go_wp2
           have n0_ := yD (yO BK184.out)
           have n1_ := yD (yP HB.out)
           clear BK184 HB; have BK184 := n0_; have HB := n1_; clear n0_ n1_
           have p188 : 0 ≤ (x5_2 : Int) := zP (by assumption)
           have q188 : x5_2 < (l0.length : Int) := zP (by assumption)
           obtain ⟨ad188, e188, hx188_0⟩ := Kd.at_int HR0.out x5_2 p188 q188
           have hw188_0 := hx188_0; cases e188
           replace hx188_0 := (HB.out.cell (zQ w _ hx188_0)).trans hx188_0
           replace p188 := eq_true p188; replace q188 := eq_true q188
           refine start_ (n := 8) (S := fun w' => w'.cell? ⟨gb184, 0, none⟩ = some (.int .i64 a1_0) ∧ w'.cell? ⟨gb184, 1, none⟩ = some (.slice A1_1 l1_1.length c1_1) ∧ w'.cell? ⟨gb184, 2, none⟩ = some (.slice A1_2 l1_2.length c1_2) ∧ w'.cell? ⟨gb184, 3, none⟩ = some (.slice A1_3 l1_3.length c1_3) ∧ w'.cell? ⟨gb184, 4, none⟩ = some (.slice A1_4 l1_4.length c1_4) ∧ w'.cell? ⟨gb184, 5, none⟩ = some (.slice A1_5 l1_5.length c1_5) ∧ w'.cell? (ad188.add (x5_2).toNat) = some (.int .i64 (rd l0 x5_2))) (ds := []) Q_0 (by kernel_rfl) rfl rfl ⟨(yG BK184.out 0).trans rfl, (yG BK184.out 1).trans rfl, (yG BK184.out 2).trans rfl, (yG BK184.out 3).trans rfl, (yG BK184.out 4).trans rfl, (yG BK184.out 5).trans rfl, ((HB.out.cell (zQ w _ hw188_0)).trans hw188_0)⟩ (fun hHeld => ?_); refine with_tabW spec_l06Valid.tab10 spec_l06Valid.bits10 (fun HT_ HW_ => ?_)
           generalize wr.drew = w20 at BK184 HB hx188_0 hHeld ⊢
           refine qA 1 32 Q_1 HT_ ?_
           refine qA 3 34 Q_2 HT_ ?_
           refine qA 4 35 Q_3 HT_ ?_
           refine qA 5 36 Q_4 HT_ ?_
           refine qC 0 31 Q_5 HT_ HW_ hHeld ?_ (hy := by rintro w' ⟨s0, s1, s2, s3, s4, s5, s6⟩; go_simp; with_reducible rfl)
           refine qC 6 37 Q_6 HT_ HW_ hHeld ?_ (hy := by rintro w' ⟨s0, s1, s2, s3, s4, s5, s6⟩; go_simp; with_reducible rfl)
           refine one_ (i := 2) (N := some 33) Q_7 rfl rfl (one_of HT_.out (by kernel_rfl)) (by decide) (fun K hK => ?_)
           refine goes_ Try.func111 (by kernel_rfl) rfl #[.agg #[.int .i64 a1_0, .slice A1_1 l1_1.length c1_1, .slice A1_2 l1_2.length c1_2, .slice A1_3 l1_3.length c1_3, .slice A1_4 l1_4.length c1_4, .slice A1_5 l1_5.length c1_5], .int .i64 x5_2] (by rfl) rfl rfl (by (try simp only [zK, zL, zM]); first | done | rfl | (simp only [zN, zO]; rfl)) ?_
           with_reducible refine (spec_l06End.calls a1_0 _ _ l1_1 _ _ l1_2 _ _ l1_3 _ _ l1_4 _ _ l1_5 x5_2 t187 _ ?side1 ?side2 ?side3 ?side4 ?side5 ?side6 ?side7 ?side8 ?side9 ?side10 A15.out).mono ?_
           (case side1 => exact kV (yY HR1_1.out HB.out))
           (case side2 => exact HC1_1.out)
           (case side3 => exact kV (yY HR1_2.out HB.out))
           (case side4 => exact HC1_2.out)
           (case side5 => exact kV (yY HR1_3.out HB.out))
           (case side6 => exact HC1_3.out)
           (case side7 => exact kV (yY HR1_4.out HB.out))
           (case side8 => exact HC1_4.out)
           (case side9 => exact kV (yY HR1_5.out HB.out))
           (case side10 => exact HC1_5.out)
           rintro e w21 ⟨rfl, hb⟩
           refine ⟨_, rfl, ?_⟩
           have n0_ := yD (zB (kN BK184) hb)
           have n1_ := yD (zC (kB HB) hb)
           clear BK184 HB; have BK184 := n0_; have HB := n1_; clear n0_ n1_; (try clear hb); (try clear hb2); (try clear hk); (try clear hi)
           refine hK.out _ _ ⟨(yG BK184.out 0).trans rfl, (yG BK184.out 1).trans rfl, (yG BK184.out 2).trans rfl, (yG BK184.out 3).trans rfl, (yG BK184.out 4).trans rfl, (yG BK184.out 5).trans rfl, ((HB.out.cell (zQ w _ hw188_0)).trans hw188_0)⟩ (fun hHeld => ?_)
           clear hK K
           refine norm_ (by show Act.put _ (some 33) _ = _; simp only [Act.put, zH, zI, zJ, i64_w, i32_w]; rfl) ?_
           refine qA 7 38 Q_8 HT_ ?_
           refine done_ (done_of HT_.out (by kernel_rfl)) ?_
           try go_wp2
           go_roundg k2
           case measure => have := HJ2.out; have := HK2.out; omega
           case rel => exact ⟨(wrap64 (x5_2 + 1)), (by first | rfl | (simp; done) | (simp [*]; done)), H', ⟨by have := HJ2.out; have := HK2.out; omega⟩, ⟨by (with_reducible repeat (first | refine yM ?_ _ | refine yO ?_ | refine yN ?_ _)); exact BK184.out⟩, ⟨kR0 HB⟩⟩
         ·
          rw [if_neg c16] at H
          exact absurd H (by simp)
        ·
         rw [if_neg c14] at H; have c14b0 : decide (x5_2 < (l0.length : Int)) = false := zS c14; clear c14; obtain rfl := Option.some.inj H
         go_wp2
         go_ret
         exact ⟨by first | rfl | (simp <;> rfl) | (simp [*] <;> rfl), kR0 HB⟩
     ·
      rw [if_neg c12] at H
      have c12b0 : ((l1_1.length : Int) == (l0.length : Int)) = false := beq_eq_false_iff_ne.mpr c12
      have c12b1 : ((l1_1.length : Int) != (l0.length : Int)) = true := bne_iff_ne.mpr c12
      have c12b2 : (l1_1.length == l0.length) = false := by first | simpa using c12 | (simp at c12 ⊢; omega)
      obtain rfl := Option.some.inj H
      obtain ⟨hcz22_0, hcz22_1, hcz22_2, hcz22_3, hcz22_4, hcz22_5⟩ := cz6 BK184.out
      obtain ⟨hfz22_0, hfz22_1, hfz22_2, hfz22_3, hfz22_4, hfz22_5⟩ := fz6 BK184.out
      go_wp2
      go_ret
      exact ⟨by first | rfl | (simp <;> rfl) | (simp [*] <;> rfl), kR0 HB⟩
    ·
     rw [if_neg c11] at H
     have c11b0 : (a1_0 == 3) = false := beq_eq_false_iff_ne.mpr c11
     have c11b1 : (a1_0 != 3) = true := bne_iff_ne.mpr c11
     by_cases c23 : a1_0 = 4
     ·
      rw [if_pos c23] at H
      have c23b0 : (a1_0 == 4) = true := beq_iff_eq.mpr c23
      have c23b1 : (a1_0 != 4) = false := bne_eq_false_iff_eq.mpr c23
      clear c23
      have H' := yD H
      clear H
      obtain ⟨hcz24_0, hcz24_1, hcz24_2, hcz24_3, hcz24_4, hcz24_5⟩ := cz6 BK184.out
      obtain ⟨hfz24_0, hfz24_1, hfz24_2, hfz24_3, hfz24_4, hfz24_5⟩ := fz6 BK184.out
      go_wp2
      go_loopg [6] kj2 (fun kq v6 w' => ∃ (x6_2 : Int), v6 = .int .i64 x6_2 ∧ Aside0 (spec_l06Valid.l1 kq l0 x6_2 a1_0 l1_1 l1_2 l1_3 l1_4 l1_5 = some r) ∧ Aside0 (kq ≤ kj2) ∧ Aside0 (w'.heap[gb184]? = some (.cells #[.int .i64 a1_0, (.slice A1_1 l1_1.length c1_1), (.slice A1_2 l1_2.length c1_2), (.slice A1_3 l1_3.length c1_3), (.slice A1_4 l1_4.length c1_4), (.slice A1_5 l1_5.length c1_5)] 55 (0, 0))) ∧ Aside0 (Below w.heap.size w w'))
      case atStart => exact ⟨(0), (by first | rfl | (simp; done) | (simp [*]; done)), H', ⟨Nat.le_refl _⟩, ⟨by (with_reducible repeat (first | refine yM ?_ _ | refine yO ?_ | refine yN ?_ _)); exact BK184.out⟩, ⟨kR0 HB⟩⟩
      case round =>
       clear H'
       try clear c1; try clear p1; try clear q1; try clear hx1; try clear c2; try clear p2; try clear c6; try clear p6; try clear c7; try clear c9; try clear c10; try clear c11; try clear c11b0; try clear c11b1; try clear c12; try clear c12b0; try clear c12b1; try clear c12b2; try clear c14; try clear c14b0; try clear c16; try clear c16b0; try clear c17; try clear c17b0; try clear p18; try clear q18; try clear hx18; try clear c23; try clear c23b0; try clear c23b1; try clear hcz13_0; try clear hcz13_1; try clear hcz13_2; try clear hcz13_3; try clear hcz13_4; try clear hcz13_5; try clear hcz22_0; try clear hcz22_1; try clear hcz22_2; try clear hcz22_3; try clear hcz22_4; try clear hcz22_5; try clear hcz24_0; try clear hcz24_1; try clear hcz24_2; try clear hcz24_3; try clear hcz24_4; try clear hcz24_5; try clear hcz8_0; try clear hcz8_1; try clear hcz8_2; try clear hcz8_3; try clear hcz8_4; try clear hcz8_5; try clear hfz13_0; try clear hfz13_1; try clear hfz13_2; try clear hfz13_3; try clear hfz13_4; try clear hfz13_5; try clear hfz22_0; try clear hfz22_1; try clear hfz22_2; try clear hfz22_3; try clear hfz22_4; try clear hfz22_5; try clear hfz24_0; try clear hfz24_1; try clear hfz24_2; try clear hfz24_3; try clear hfz24_4; try clear hfz24_5; try clear hfz8_0; try clear hfz8_1; try clear hfz8_2; try clear hfz8_3; try clear hfz8_4; try clear hfz8_5; try clear hx188_0; try clear p188; try clear p2; try clear q188
       obtain ⟨x6_2, rfl, HA, HK2, BK184, HB⟩ := hrel
       cases gk with
       | zero => exact absurd HA.out (by simp [spec_l06Valid.l1])
       | succ k2 =>
        have H := HA.out; clear HA
        simp only [spec_l06Valid.l1] at H
        by_cases c25 : x6_2 < (l1_5.length : Int)
        ·
         rw [if_pos c25] at H; have c25b0 : decide (x6_2 < (l1_5.length : Int)) = true := zR c25; clear c25
         by_cases c26 : 0 ≤ x6_2
         ·
          rw [if_pos c26] at H; have c26b0 : decide (0 ≤ x6_2) = true := zR c26; clear c26
          obtain ⟨t190, A270, H⟩ := zW_ H
          replace H : (if t190 = true then (spec_l06Valid.l1 k2 l0 (wrap64 (x6_2 + 1)) a1_0 l1_1 l1_2 l1_3 l1_4 l1_5) else (some false)) = some r := H
          have A27 := yD A270
          clear A270
          by_cases c28 : t190 = true
          ·
           subst c28
           have H1 : (spec_l06Valid.l1 k2 l0 (wrap64 (x6_2 + 1)) a1_0 l1_1 l1_2 l1_3 l1_4 l1_5) = some r := by rw [if_pos rfl] at H; exact H
           clear H; have H := H1; clear H1
           have H' := yD H
           clear H
           obtain ⟨hcz29_0, hcz29_1, hcz29_2, hcz29_3, hcz29_4, hcz29_5⟩ := cz6 BK184.out
           obtain ⟨hfz29_0, hfz29_1, hfz29_2, hfz29_3, hfz29_4, hfz29_5⟩ := fz6 BK184.out
           have p189 : 0 ≤ (x6_2 : Int) := zP (by assumption)
           have q189 : x6_2 < (l1_5.length : Int) := zP (by assumption)
           obtain ⟨ad189, A189_0, c189_0, e189, hx189_0, hl189_0, hi189_0⟩ := at_T110 HR1_5.out x6_2 p189 q189
           cases e189
           replace hx189_0 := (HB.out.cell (zQ w _ hx189_0)).trans hx189_0
           have HR189_0 := yD hi189_0
           have HC189_0 := yD hl189_0
           clear hi189_0 hl189_0; replace p189 := eq_true p189; replace q189 := eq_true q189
           go_wp2_with (first | ((with_reducible refine gate_callee (f := 94) rfl ?_); refine gL 55 Try.func94 #[.slice A0 l0.length c0, .slice A189_0 ((rd_T110 l1_5 x6_2).f0).length c189_0] ?_; (with_reducible refine (spec_l05Inside.calls k2 _ _ l0 _ _ ((rd_T110 l1_5 x6_2).f0) true _ ?side1 ?side2 ?side3 ?side4 A27.out).mono ?_); (case side1 => exact kV (yY HR0.out HB.out)); (case side2 => exact HC0.out); (case side3 => exact kV (yY HR189_0.out HB.out)); (case side4 => exact HC189_0.out); rintro e w' ⟨rfl, ⟨nd, rfl⟩⟩; refine ⟨_, rfl, ?_⟩))
           go_roundg k2
           case measure => have := HJ2.out; have := HK2.out; omega
           case rel => exact ⟨(wrap64 (x6_2 + 1)), (by first | rfl | (simp; done) | (simp [*]; done)), H', ⟨by have := HJ2.out; have := HK2.out; omega⟩, ⟨by (with_reducible repeat (first | refine yM ?_ _ | refine yO ?_ | refine yN ?_ _)); exact BK184.out⟩, ⟨kR0 HB⟩⟩
          ·
           replace c28 := Bool.eq_false_iff.mpr c28
           subst c28
           have H1 : (some false) = some r := by rw [if_neg (show ¬ (false = true) by decide)] at H; exact H
           clear H; have H := H1; clear H1; obtain rfl := Option.some.inj H
           obtain ⟨hcz30_0, hcz30_1, hcz30_2, hcz30_3, hcz30_4, hcz30_5⟩ := cz6 BK184.out
           obtain ⟨hfz30_0, hfz30_1, hfz30_2, hfz30_3, hfz30_4, hfz30_5⟩ := fz6 BK184.out
           have p189 : 0 ≤ (x6_2 : Int) := zP (by assumption)
           have q189 : x6_2 < (l1_5.length : Int) := zP (by assumption)
           obtain ⟨ad189, A189_0, c189_0, e189, hx189_0, hl189_0, hi189_0⟩ := at_T110 HR1_5.out x6_2 p189 q189
           cases e189
           replace hx189_0 := (HB.out.cell (zQ w _ hx189_0)).trans hx189_0
           have HR189_0 := yD hi189_0
           have HC189_0 := yD hl189_0
           clear hi189_0 hl189_0; replace p189 := eq_true p189; replace q189 := eq_true q189
           go_wp2_with (first | ((with_reducible refine gate_callee (f := 94) rfl ?_); refine gL 55 Try.func94 #[.slice A0 l0.length c0, .slice A189_0 ((rd_T110 l1_5 x6_2).f0).length c189_0] ?_; (with_reducible refine (spec_l05Inside.calls k2 _ _ l0 _ _ ((rd_T110 l1_5 x6_2).f0) false _ ?side1 ?side2 ?side3 ?side4 A27.out).mono ?_); (case side1 => exact kV (yY HR0.out HB.out)); (case side2 => exact HC0.out); (case side3 => exact kV (yY HR189_0.out HB.out)); (case side4 => exact HC189_0.out); rintro e w' ⟨rfl, ⟨nd, rfl⟩⟩; refine ⟨_, rfl, ?_⟩))
           go_ret
           exact ⟨by first | rfl | (simp <;> rfl) | (simp [*] <;> rfl), kR0 HB⟩
         ·
          rw [if_neg c26] at H
          exact absurd H (by simp)
        ·
         rw [if_neg c25] at H; have c25b0 : decide (x6_2 < (l1_5.length : Int)) = false := zS c25; clear c25; obtain rfl := Option.some.inj H
         obtain ⟨hcz31_0, hcz31_1, hcz31_2, hcz31_3, hcz31_4, hcz31_5⟩ := cz6 BK184.out
         obtain ⟨hfz31_0, hfz31_1, hfz31_2, hfz31_3, hfz31_4, hfz31_5⟩ := fz6 BK184.out
         go_wp2
         go_ret
         exact ⟨by first | rfl | (simp <;> rfl) | (simp [*] <;> rfl), kR0 HB⟩
     ·
      rw [if_neg c23] at H
      have c23b0 : (a1_0 == 4) = false := beq_eq_false_iff_ne.mpr c23
      have c23b1 : (a1_0 != 4) = true := bne_iff_ne.mpr c23
      obtain rfl := Option.some.inj H
      obtain ⟨hcz32_0, hcz32_1, hcz32_2, hcz32_3, hcz32_4, hcz32_5⟩ := cz6 BK184.out
      obtain ⟨hfz32_0, hfz32_1, hfz32_2, hfz32_3, hfz32_4, hfz32_5⟩ := fz6 BK184.out
      go_wp2
      go_ret
      exact ⟨by first | rfl | (simp <;> rfl) | (simp [*] <;> rfl), kR0 HB⟩

/-! ### spec_l05Count: function 91 -/
def spec_l05Count.l0 : Nat → List Int → Int → Int → Option (Int)
 | 0, _, _, _ => none
 | k + 1, x0, x3, x4 => if x4 < (x0.length : Int) then (if 0 ≤ x4 then (spec_l05Count.l0 k x0 (wrap64 (x3 * (rd x0 x4))) (wrap64 (x4 + 1))) else (none)) else (some x3)
def spec_l05Count.f (k : Nat) (l0 : List Int) : Option (Int) := spec_l05Count.l0 k l0 1 0
theorem spec_l05Count.mono_l : ∀ k, (∀ y0 y1 y2, LeO (spec_l05Count.l0 k y0 y1 y2) (spec_l05Count.l0 (k + 1) y0 y1 y2))
 | 0 => fun _ _ _ r h => by simp [spec_l05Count.l0] at h
 | k + 1 => by
  have ih0 := spec_l05Count.mono_l k
  ·
   intro y0 y1 y2
   unfold spec_l05Count.l0
   repeat' (with_reducible first | exact ih0 _ _ _ | exact LeO.refl _ | exact LeO.none _ | refine LeO.ite ?_ ?_ | refine LeO.bind ?_ (fun _ => ?_))
theorem spec_l05Count.mono : ∀ a0 k, LeO (spec_l05Count.f k a0) (spec_l05Count.f (k + 1) a0) := by
 intro a0 k
 have ih0 := spec_l05Count.mono_l k
 unfold spec_l05Count.f
 repeat' (with_reducible first | exact ih0 _ _ _ | exact LeO.refl _ | exact LeO.none _ | refine LeO.ite ?_ ?_ | refine LeO.bind ?_ (fun _ => ?_))
set_option maxHeartbeats 8000000 in
set_option maxRecDepth 100000 in
theorem spec_l05Count.calls (k : Nat) (A0 : Option Addr) (c0 : Nat) (l0 : List Int) (r : Int) (w : World) (hr0 : Kd.C (Kd.int .i64) w A0 l0.length l0) (hc0 : l0.length ≤ c0) (h : spec_l05Count.f k l0 = some r) :
 Calls Try.prog 91 #[.slice A0 l0.length c0] w fun e w' => e = .returned (.int .i64 r) ∧ Drawn0 w w' := by
 have HR0 := yD hr0
 have HC0 := yD hc0
 clear hr0 hc0
 have H : (spec_l05Count.l0 k l0 1 0) = some r := h
 clear h
 have H' := yD H
 clear H; go_enter Try.func91, Try.ntmps91
 go_wp2
 go_loopg [3, 4] k (fun kq v3 v4 w' => ∃ (x3_1 : Int) (x4_1 : Int), v3 = .int .i64 x3_1 ∧ v4 = .int .i64 x4_1 ∧ Aside0 (spec_l05Count.l0 kq l0 x3_1 x4_1 = some r) ∧ Aside0 (kq ≤ k) ∧ Drawn0 w w')
 case atStart => exact ⟨(1), (0), (by first | rfl | (simp; done) | (simp [*]; done)), (by first | rfl | (simp; done) | (simp [*]; done)), H', ⟨Nat.le_refl _⟩, by repeat (first | exact Drawn0.refl _ | apply Drawn0.step)⟩
 case round =>
  clear H'
  obtain ⟨x3_1, x4_1, rfl, rfl, HA, HK1, ⟨m1, rfl⟩⟩ := hrel
  cases gk with
  | zero => exact absurd HA.out (by simp [spec_l05Count.l0])
  | succ k1 =>
   have H := HA.out; clear HA
   simp only [spec_l05Count.l0] at H
   by_cases c2 : x4_1 < (l0.length : Int)
   ·
    rw [if_pos c2] at H; have c2b0 : decide (x4_1 < (l0.length : Int)) = true := zR c2; clear c2
    by_cases c3 : 0 ≤ x4_1
    ·
     rw [if_pos c3] at H; have c3b0 : decide (0 ≤ x4_1) = true := zR c3; clear c3
     have H' := yD H
     clear H
     have p191 : 0 ≤ (x4_1 : Int) := zP (by assumption)
     have q191 : x4_1 < (l0.length : Int) := zP (by assumption)
     obtain ⟨ad191, e191, hx191_0⟩ := Kd.at_int HR0.out x4_1 p191 q191
     cases e191; replace p191 := eq_true p191; replace q191 := eq_true q191
     go_wp2
     go_roundg k1
     case measure => have := HK1.out; omega
     case rel => exact ⟨(wrap64 (x3_1 * (rd l0 x4_1))), (wrap64 (x4_1 + 1)), (by first | rfl | (simp; done) | (simp [*]; done)), (by first | rfl | (simp; done) | (simp [*]; done)), H', ⟨by have := HK1.out; omega⟩, by repeat (first | exact Drawn0.refl _ | apply Drawn0.step)⟩
    ·
     rw [if_neg c3] at H
     exact absurd H (by simp)
   ·
    rw [if_neg c2] at H; have c2b0 : decide (x4_1 < (l0.length : Int)) = false := zS c2; clear c2; obtain rfl := Option.some.inj H
    go_wp2
    go_ret
    exact ⟨by first | rfl | (simp; done) | (simp [*]; done), by repeat (first | exact Drawn0.refl _ | apply Drawn0.step)⟩

/-! ### spec_l05Index: function 96 -/
def spec_l05Index.l0 : Nat → List Int → List Int → Int → Int → Option (Int)
 | 0, _, _, _, _ => none
 | k + 1, x0, x1, x5, x6 => if x6 < (x0.length : Int) then (if 0 ≤ x6 then (if x6 < (x1.length : Int) then (spec_l05Index.l0 k x0 x1 (wrap64 ((wrap64 (x5 * (rd x0 x6))) + (rd x1 x6))) (wrap64 (x6 + 1))) else (none)) else (none)) else (some x5)
def spec_l05Index.f (k : Nat) (l0 : List Int) (l1 : List Int) : Option (Int) := spec_l05Index.l0 k l0 l1 0 0
theorem spec_l05Index.mono_l : ∀ k, (∀ y0 y1 y2 y3, LeO (spec_l05Index.l0 k y0 y1 y2 y3) (spec_l05Index.l0 (k + 1) y0 y1 y2 y3))
 | 0 => fun _ _ _ _ r h => by simp [spec_l05Index.l0] at h
 | k + 1 => by
  have ih0 := spec_l05Index.mono_l k
  ·
   intro y0 y1 y2 y3
   unfold spec_l05Index.l0
   repeat' (with_reducible first | exact ih0 _ _ _ _ | exact LeO.refl _ | exact LeO.none _ | refine LeO.ite ?_ ?_ | refine LeO.bind ?_ (fun _ => ?_))
theorem spec_l05Index.mono : ∀ a0 a1 k, LeO (spec_l05Index.f k a0 a1) (spec_l05Index.f (k + 1) a0 a1) := by
 intro a0 a1 k
 have ih0 := spec_l05Index.mono_l k
 unfold spec_l05Index.f
 repeat' (with_reducible first | exact ih0 _ _ _ _ | exact LeO.refl _ | exact LeO.none _ | refine LeO.ite ?_ ?_ | refine LeO.bind ?_ (fun _ => ?_))
set_option maxHeartbeats 8000000 in
set_option maxRecDepth 100000 in
theorem spec_l05Index.calls (k : Nat) (A0 : Option Addr) (c0 : Nat) (l0 : List Int) (A1 : Option Addr) (c1 : Nat) (l1 : List Int) (r : Int) (w : World) (hr0 : Kd.C (Kd.int .i64) w A0 l0.length l0) (hc0 : l0.length ≤ c0) (hr1 : Kd.C (Kd.int .i64) w A1 l1.length l1) (hc1 : l1.length ≤ c1) (h : spec_l05Index.f k l0 l1 = some r) :
 Calls Try.prog 96 #[.slice A0 l0.length c0, .slice A1 l1.length c1] w fun e w' => e = .returned (.int .i64 r) ∧ Drawn0 w w' := by
 have HR0 := yD hr0
 have HC0 := yD hc0
 clear hr0 hc0
 have HR1 := yD hr1
 have HC1 := yD hc1
 clear hr1 hc1
 have H : (spec_l05Index.l0 k l0 l1 0 0) = some r := h
 clear h
 have H' := yD H
 clear H; go_enter Try.func96, Try.ntmps96
 go_wp2
 repeat (go_quiet (fail); try go_wp2)
 go_loopg [5, 6] k (fun kq v5 v6 w' => ∃ (x5_1 : Int) (x6_1 : Int), v5 = .int .i64 x5_1 ∧ v6 = .int .i64 x6_1 ∧ Aside0 (spec_l05Index.l0 kq l0 l1 x5_1 x6_1 = some r) ∧ Aside0 (kq ≤ k) ∧ Drawn0 w w')
 case atStart => exact ⟨(0), (0), (by first | rfl | (simp; done) | (simp [*]; done)), (by first | rfl | (simp; done) | (simp [*]; done)), H', ⟨Nat.le_refl _⟩, by repeat (first | exact Drawn0.refl _ | apply Drawn0.step)⟩
 case round =>
  clear H'
  try clear c1; try clear p2
  obtain ⟨x5_1, x6_1, rfl, rfl, HA, HK1, ⟨m1, rfl⟩⟩ := hrel
  cases gk with
  | zero => exact absurd HA.out (by simp [spec_l05Index.l0])
  | succ k1 =>
   have H := HA.out; clear HA
   simp only [spec_l05Index.l0] at H
   by_cases c3 : x6_1 < (l0.length : Int)
   ·
    rw [if_pos c3] at H; have c3b0 : decide (x6_1 < (l0.length : Int)) = true := zR c3; clear c3
    by_cases c4 : 0 ≤ x6_1
    ·
     rw [if_pos c4] at H; have c4b0 : decide (0 ≤ x6_1) = true := zR c4; clear c4
     by_cases c5 : x6_1 < (l1.length : Int)
     ·
      rw [if_pos c5] at H; have c5b0 : decide (x6_1 < (l1.length : Int)) = true := zR c5; clear c5
      have H' := yD H
      clear H
      have p192 : 0 ≤ (x6_1 : Int) := zP (by assumption)
      have q192 : x6_1 < (l0.length : Int) := zP (by assumption)
      obtain ⟨ad192, e192, hx192_0⟩ := Kd.at_int HR0.out x6_1 p192 q192
      cases e192; replace p192 := eq_true p192; replace q192 := eq_true q192
      have p193 : 0 ≤ (x6_1 : Int) := zP (by assumption)
      have q193 : x6_1 < (l1.length : Int) := zP (by assumption)
      obtain ⟨ad193, e193, hx193_0⟩ := Kd.at_int HR1.out x6_1 p193 q193
      cases e193; replace p193 := eq_true p193; replace q193 := eq_true q193
      go_wp2
      repeat (go_quiet (fail); try go_wp2)
      go_roundg k1
      case measure => have := HK1.out; omega
      case rel => exact ⟨(wrap64 ((wrap64 (x5_1 * (rd l0 x6_1))) + (rd l1 x6_1))), (wrap64 (x6_1 + 1)), (by first | rfl | (simp; done) | (simp [*]; done)), (by first | rfl | (simp; done) | (simp [*]; done)), H', ⟨by have := HK1.out; omega⟩, by repeat (first | exact Drawn0.refl _ | apply Drawn0.step)⟩
     ·
      rw [if_neg c5] at H
      exact absurd H (by simp)
    ·
     rw [if_neg c4] at H
     exact absurd H (by simp)
   ·
    rw [if_neg c3] at H; have c3b0 : decide (x6_1 < (l0.length : Int)) = false := zS c3; clear c3; obtain rfl := Option.some.inj H
    go_wp2
    repeat (go_quiet (fail); try go_wp2)
    go_ret
    exact ⟨by first | rfl | (simp; done) | (simp [*]; done), by repeat (first | exact Drawn0.refl _ | apply Drawn0.step)⟩

end Go.Proofs.Ytdiaebjbiddefaa.PFnExactSelectedIndices
