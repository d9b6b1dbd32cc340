/- Each Go function here comes to what the plain function of its name says, where that says something. Made by a program of this session, over the print. -/
import Derived.Test.YtdiaebjbiddefaaPFnExactSelectedIndicesx0
import Derived.Test.YtdiaebjbiddefaaPFnExactSelectedIndicesx1
import Derived.Test.YtdiaebjbiddefaaPFnExactSelectedIndicesx2
namespace Go.Proofs.Ytdiaebjbiddefaa.PFnExactSelectedIndices
open Go.RowKit Go.Proofs.YtdiaebjbiddefaaW.PrintWords Go.Proofs.YtdiaebjbiddefaaW.PrintLast Go.Proofs.YtdiaebjbiddefaaW.PrintMore
attribute [local go_sem] max2_int min2_int max_two min_two max_three min_three max_four min_four   -- for this text's walks alone
set_option linter.unusedVariables false
set_option linter.unusedSimpArgs false

/-! ### spec_l06Slab: function 134 -/
mutual
def spec_l06Slab.j0 : Nat → Int → Bool → Int → List Int → List Int → List Int → List Int → List (S110) → Option (Bool)
 | 0, _, _, _, _, _, _, _, _ => none
 | k + 1, x3, x36, x158000, x158001, x158002, x158003, x158004, x158005 => if x36 = true then (some false) else (spec_l06Slab.l0 k x3 0 x158000 x158001 x158002 x158003 x158004 x158005)
def spec_l06Slab.l0 : Nat → Int → Int → Int → List Int → List Int → List Int → List Int → List (S110) → Option (Bool)
 | 0, _, _, _, _, _, _, _, _ => none
 | k + 1, x3, x4, x158000, x158001, x158002, x158003, x158004, x158005 => if x4 < x3 then (if 0 ≤ x4 then (if x4 < (x158001.length : Int) then ((spec_l00In.f (rd x158001 x4) 0 40).bind fun t159 => (if t159 = true then (if x4 < (x158003.length : Int) then ((spec_l00In.f (rd x158003 x4) 1 40).bind fun t161 => (if t161 = true then (if x4 < (x158004.length : Int) then ((spec_l00In.f (rd x158004 x4) 1 40).bind fun t163 => (if t163 = true then (if x4 < (x158002.length : Int) then ((spec_l00In.f (rd x158002 x4) (rd x158004 x4) 40).bind fun t166 => (if t166 = true then ((spec_l06End.f x158000 x158001 x158002 x158003 x158004 x158005 x4).bind fun t167 => (if t167 > 40 then (some false) else (spec_l06Slab.l0 k x3 (wrap64 (x4 + 1)) x158000 x158001 x158002 x158003 x158004 x158005))) else (some false))) else (none)) else (some false))) else (none)) else (some false))) else (none)) else (some false))) else (none)) else (none)) else (some true)
end
def spec_l06Slab.f (k : Nat) (a0_0 : Int) (l0_1 : List Int) (l0_2 : List Int) (l0_3 : List Int) (l0_4 : List Int) (l0_5 : List (S110)) : Option (Bool) := if (l0_1.length : Int) > 3 then (spec_l06Slab.j0 k (l0_1.length : Int) true a0_0 l0_1 l0_2 l0_3 l0_4 l0_5) else (if (l0_2.length : Int) = (l0_1.length : Int) then (if (l0_3.length : Int) = (l0_1.length : Int) then (if (l0_4.length : Int) = (l0_1.length : Int) then (spec_l06Slab.j0 k (l0_1.length : Int) (decide ((l0_5.length : Int) > 0)) a0_0 l0_1 l0_2 l0_3 l0_4 l0_5) else (spec_l06Slab.j0 k (l0_1.length : Int) true a0_0 l0_1 l0_2 l0_3 l0_4 l0_5)) else (spec_l06Slab.j0 k (l0_1.length : Int) true a0_0 l0_1 l0_2 l0_3 l0_4 l0_5)) else (spec_l06Slab.j0 k (l0_1.length : Int) true a0_0 l0_1 l0_2 l0_3 l0_4 l0_5))
theorem spec_l06Slab.mono_l : ∀ k, (∀ y0 y1 y2 y3 y4 y5 y6 y7, LeO (spec_l06Slab.j0 k y0 y1 y2 y3 y4 y5 y6 y7) (spec_l06Slab.j0 (k + 1) y0 y1 y2 y3 y4 y5 y6 y7)) ∧ (∀ y0 y1 y2 y3 y4 y5 y6 y7, LeO (spec_l06Slab.l0 k y0 y1 y2 y3 y4 y5 y6 y7) (spec_l06Slab.l0 (k + 1) y0 y1 y2 y3 y4 y5 y6 y7))
 | 0 => ⟨fun _ _ _ _ _ _ _ _ r h => by simp [spec_l06Slab.j0] at h, fun _ _ _ _ _ _ _ _ r h => by simp [spec_l06Slab.l0] at h⟩
 | k + 1 => by
  obtain ⟨ih0, ih1⟩ := spec_l06Slab.mono_l k
  refine ⟨?_, ?_⟩
  ·
   intro y0 y1 y2 y3 y4 y5 y6 y7
   unfold spec_l06Slab.j0
   repeat' (with_reducible first | exact ih0 _ _ _ _ _ _ _ _ | exact ih1 _ _ _ _ _ _ _ _ | exact LeO.refl _ | exact LeO.none _ | refine LeO.ite ?_ ?_ | refine LeO.bind ?_ (fun _ => ?_))
  ·
   intro y0 y1 y2 y3 y4 y5 y6 y7
   unfold spec_l06Slab.l0
   repeat' (with_reducible first | exact ih0 _ _ _ _ _ _ _ _ | exact ih1 _ _ _ _ _ _ _ _ | exact LeO.refl _ | exact LeO.none _ | refine LeO.ite ?_ ?_ | refine LeO.bind ?_ (fun _ => ?_))
theorem spec_l06Slab.mono : ∀ a0 a1 a2 a3 a4 a5 k, LeO (spec_l06Slab.f k a0 a1 a2 a3 a4 a5) (spec_l06Slab.f (k + 1) a0 a1 a2 a3 a4 a5) := by
 intro a0 a1 a2 a3 a4 a5 k
 obtain ⟨ih0, ih1⟩ := spec_l06Slab.mono_l k
 unfold spec_l06Slab.f
 repeat' (with_reducible first | exact ih0 _ _ _ _ _ _ _ _ | exact ih1 _ _ _ _ _ _ _ _ | exact LeO.refl _ | exact LeO.none _ | refine LeO.ite ?_ ?_ | refine LeO.bind ?_ (fun _ => ?_))
def spec_l06Slab.T7 : Bool × List (List Nat × List Nat) := (true, [([], []), ([0], [0]), ([], []), ([1, 2], [1, 2]), ([3], [3]), ([4], [4]), ([5], [5]), ([6, 5], [6]), ([7], [7]), ([8, 7], [7, 8]), ([7], [7]), ([9, 10, 7], [7, 9, 10]), ([11, 7], [7, 11]), ([12, 7, 7], [7, 12]), ([13, 7], [7, 13]), ([7, 14], [7, 14]), ([15, 13], [15]), ([16], [16]), ([17, 16], [16, 17]), ([16], [16]), ([18, 19, 16], [16, 18, 19]), ([20, 16], [16, 20]), ([21, 16, 16], [16, 21]), ([22, 16], [16, 22]), ([16, 23], [16, 23]), ([24, 22], [24]), ([25], [25]), ([26, 25], [25, 26]), ([25], [25]), ([27, 28, 25], [25, 27, 28]), ([29, 25], [25, 29]), ([25], [25]), ([31, 25], [25, 31]), ([25], [25]), ([32, 33, 25], [25, 32, 33]), ([34, 25], [25, 34]), ([30, 35, 25, 25], [25, 30, 35]), ([36, 25], [25, 36]), ([25, 37], [25, 37]), ([38, 36], [38]), ([39], [39]), ([39], [39]), ([40, 41, 39, 39], [39, 40, 41]), ([42, 39], [39, 42]), ([39, 43], [39, 43])])
def spec_l06Slab.B7 : List Nat := [0, 1, 0, 7, 15, 31, 63, 127, 255, 511, 255, 2047, 4095, 8191, 16383, 32767, 65535, 131071, 262143, 131071, 1048575, 2097151, 4194303, 8388607, 16777215, 33554431, 67108863, 134217727, 67108863, 536870911, 1073741823, 67108863, 2214592511, 67108863, 15099494399, 32279363583, 68719476735, 137438953471, 274877906943, 549755813887, 1099511627775, 1099511627775, 4398046511103, 8796093022207, 17592186044415]
theorem spec_l06Slab.tab7 : rtab .any (opsOf Try.f134 7) = spec_l06Slab.T7 := by kernel_rfl
theorem spec_l06Slab.bits7 : waitsOk spec_l06Slab.T7.2 spec_l06Slab.B7 = true := by kernel_rfl
abbrev spec_l06Slab.Q_0 : Array Bool := (bz 45 0)
abbrev spec_l06Slab.Q_1 : Array Bool := (bz 45 1)
abbrev spec_l06Slab.Q_2 : Array Bool := (bz 45 5)
abbrev spec_l06Slab.Q_3 : Array Bool := (bz 45 7)
abbrev spec_l06Slab.Q_4 : Array Bool := (bz 45 15)
abbrev spec_l06Slab.Q_5 : Array Bool := (bz 45 31)
abbrev spec_l06Slab.Q_6 : Array Bool := (bz 45 63)
abbrev spec_l06Slab.Q_7 : Array Bool := (bz 45 127)
abbrev spec_l06Slab.Q_8 : Array Bool := (bz 45 255)
abbrev spec_l06Slab.Q_9 : Array Bool := (bz 45 511)
abbrev spec_l06Slab.Q_10 : Array Bool := (bz 45 1535)
abbrev spec_l06Slab.Q_11 : Array Bool := (bz 45 2047)
abbrev spec_l06Slab.Q_12 : Array Bool := (bz 45 4095)
abbrev spec_l06Slab.Q_13 : Array Bool := (bz 45 8191)
abbrev spec_l06Slab.Q_14 : Array Bool := (bz 45 16383)
abbrev spec_l06Slab.Q_15 : Array Bool := (bz 45 32767)
abbrev spec_l06Slab.Q_16 : Array Bool := (bz 45 65535)
abbrev spec_l06Slab.Q_17 : Array Bool := (bz 45 131071)
abbrev spec_l06Slab.Q_18 : Array Bool := (bz 45 262143)
abbrev spec_l06Slab.Q_19 : Array Bool := (bz 45 786431)
abbrev spec_l06Slab.Q_20 : Array Bool := (bz 45 1048575)
abbrev spec_l06Slab.Q_21 : Array Bool := (bz 45 2097151)
abbrev spec_l06Slab.Q_22 : Array Bool := (bz 45 4194303)
abbrev spec_l06Slab.Q_23 : Array Bool := (bz 45 8388607)
abbrev spec_l06Slab.Q_24 : Array Bool := (bz 45 16777215)
abbrev spec_l06Slab.Q_25 : Array Bool := (bz 45 33554431)
abbrev spec_l06Slab.Q_26 : Array Bool := (bz 45 67108863)
abbrev spec_l06Slab.Q_27 : Array Bool := (bz 45 134217727)
abbrev spec_l06Slab.Q_28 : Array Bool := (bz 45 402653183)
abbrev spec_l06Slab.Q_29 : Array Bool := (bz 45 2550136831)
abbrev spec_l06Slab.Q_30 : Array Bool := (bz 45 11140071423)
abbrev spec_l06Slab.Q_31 : Array Bool := (bz 45 11274289151)
abbrev spec_l06Slab.Q_32 : Array Bool := (bz 45 11811160063)
abbrev spec_l06Slab.Q_33 : Array Bool := (bz 45 12884901887)
abbrev spec_l06Slab.Q_34 : Array Bool := (bz 45 17179869183)
abbrev spec_l06Slab.Q_35 : Array Bool := (bz 45 34359738367)
abbrev spec_l06Slab.Q_36 : Array Bool := (bz 45 68719476735)
abbrev spec_l06Slab.Q_37 : Array Bool := (bz 45 137438953471)
abbrev spec_l06Slab.Q_38 : Array Bool := (bz 45 274877906943)
abbrev spec_l06Slab.Q_39 : Array Bool := (bz 45 549755813887)
abbrev spec_l06Slab.Q_40 : Array Bool := (bz 45 1099511627775)
abbrev spec_l06Slab.Q_41 : Array Bool := (bz 45 3298534883327)
abbrev spec_l06Slab.Q_42 : Array Bool := (bz 45 4398046511103)
abbrev spec_l06Slab.Q_43 : Array Bool := (bz 45 8796093022207)
abbrev spec_l06Slab.Q_44 : Array Bool := (bz 45 17592186044415)
abbrev spec_l06Slab.Q_45 : Array Bool := (bz 45 35184372088831)
abbrev spec_l06Slab.Q_46 : Array Bool := (bz 45 2199023255551)
abbrev spec_l06Slab.Q_47 : Array Bool := (bz 45 268435455)
abbrev spec_l06Slab.Q_48 : Array Bool := (bz 45 536870911)
abbrev spec_l06Slab.Q_49 : Array Bool := (bz 45 1073741823)
abbrev spec_l06Slab.Q_50 : Array Bool := (bz 45 2147483647)
abbrev spec_l06Slab.Q_51 : Array Bool := (bz 45 4294967295)
abbrev spec_l06Slab.Q_52 : Array Bool := (bz 45 8589934591)
abbrev spec_l06Slab.Q_53 : Array Bool := (bz 45 524287)
abbrev spec_l06Slab.Q_54 : Array Bool := (bz 45 1023)
set_option maxHeartbeats 8000000 in
set_option maxRecDepth 100000 in
theorem spec_l06Slab.calls (k : Nat) (a0_0 : Int) (A0_1 : Option Addr) (c0_1 : Nat) (l0_1 : List Int) (A0_2 : Option Addr) (c0_2 : Nat) (l0_2 : List Int) (A0_3 : Option Addr) (c0_3 : Nat) (l0_3 : List Int) (A0_4 : Option Addr) (c0_4 : Nat) (l0_4 : List Int) (A0_5 : Option Addr) (c0_5 : Nat) (l0_5 : List (S110)) (r : Bool) (w : World) (hr0_1 : Kd.C (Kd.int .i64) w A0_1 l0_1.length l0_1) (hc0_1 : l0_1.length ≤ c0_1) (hr0_2 : Kd.C (Kd.int .i64) w A0_2 l0_2.length l0_2) (hc0_2 : l0_2.length ≤ c0_2) (hr0_3 : Kd.C (Kd.int .i64) w A0_3 l0_3.length l0_3) (hc0_3 : l0_3.length ≤ c0_3) (hr0_4 : Kd.C (Kd.int .i64) w A0_4 l0_4.length l0_4) (hc0_4 : l0_4.length ≤ c0_4) (hr0_5 : Kd.C k110 w A0_5 l0_5.length l0_5) (hc0_5 : l0_5.length ≤ c0_5) (h : spec_l06Slab.f k a0_0 l0_1 l0_2 l0_3 l0_4 l0_5 = some r) :
 Calls Try.prog 134 #[.agg #[.int .i64 a0_0, .slice A0_1 l0_1.length c0_1, .slice A0_2 l0_2.length c0_2, .slice A0_3 l0_3.length c0_3, .slice A0_4 l0_4.length c0_4, .slice A0_5 l0_5.length c0_5]] w fun e w' => e = .returned (.bool r) ∧ Below w.heap.size w w' := by
 have hu55 := Try.underlying55
 have HR0_1 := yD hr0_1
 have HC0_1 := yD hc0_1
 clear hr0_1 hc0_1
 have HR0_2 := yD hr0_2
 have HC0_2 := yD hc0_2
 clear hr0_2 hc0_2
 have HR0_3 := yD hr0_3
 have HC0_3 := yD hc0_3
 clear hr0_3 hc0_3
 have HR0_4 := yD hr0_4
 have HC0_4 := yD hc0_4
 clear hr0_4 hc0_4
 have HR0_5 := yD hr0_5
 have HC0_5 := yD hc0_5
 clear hr0_5 hc0_5
 have HB := yD (Below.refl w.heap.size w)
 have H : (if (l0_1.length : Int) > 3 then (spec_l06Slab.j0 k (l0_1.length : Int) true a0_0 l0_1 l0_2 l0_3 l0_4 l0_5) else (if (l0_2.length : Int) = (l0_1.length : Int) then (if (l0_3.length : Int) = (l0_1.length : Int) then (if (l0_4.length : Int) = (l0_1.length : Int) then (spec_l06Slab.j0 k (l0_1.length : Int) (decide ((l0_5.length : Int) > 0)) a0_0 l0_1 l0_2 l0_3 l0_4 l0_5) else (spec_l06Slab.j0 k (l0_1.length : Int) true a0_0 l0_1 l0_2 l0_3 l0_4 l0_5)) else (spec_l06Slab.j0 k (l0_1.length : Int) true a0_0 l0_1 l0_2 l0_3 l0_4 l0_5)) else (spec_l06Slab.j0 k (l0_1.length : Int) true a0_0 l0_1 l0_2 l0_3 l0_4 l0_5))) = some r := h
 clear h
 have HC2 := yD H
 clear H; go_enter Try.func134, Try.ntmps134
 go_upto_region 2 with (first | ((with_reducible refine gate_dst (N := 1) rfl ?_); (try (refine gate_guard (by rfl) ?_; dsimp only)); refine box_event ?hg (N := 1) ?hd (cs := #[.int .i64 a0_0, .slice A0_1 l0_1.length c0_1, .slice A0_2 l0_2.length c0_2, .slice A0_3 l0_3.length c0_3, .slice A0_4 l0_4.length c0_4, .slice A0_5 l0_5.length c0_5]) (t := 55) ?hr ?_; (case hd => rfl); (case hg => rfl); (case hr => first | (go_simp; done) | (go_simp; rfl)); intro gb157 hg w3 hbox hb; have n0_ := yD (zC (kB HB) hb); have n1_ := yD (hbox); have n2_ := yD ((by rw [hg]; exact (below_size (kB HB)) : w.heap.size ≤ gb157)); have n3_ := yD ((by rw [hg]; exact (below_size (kB HB)) : w.heap.size ≤ gb157)); clear HB; have HB := n0_; have BK157 := n1_; have GW157 := n2_; have GE157 := n3_; clear n0_ n1_ n2_ n3_; clear hb hbox hg; obtain ⟨hcz4_0, hcz4_1, hcz4_2, hcz4_3, hcz4_4, hcz4_5⟩ := cz6 BK157.out; obtain ⟨hfz4_0, hfz4_1, hfz4_2, hfz4_3, hfz4_4, hfz4_5⟩ := fz6 BK157.out))
 (try simp only [Act.put, zH, zI, zJ])
 go_cut [36] (fun v36 wc => ∃ (kq : Nat) (x36_1 : Bool), v36 = .bool x36_1 ∧ Aside0 (spec_l06Slab.j0 kq (l0_1.length : Int) x36_1 a0_0 l0_1 l0_2 l0_3 l0_4 l0_5 = some r) ∧ Aside0 (kq ≤ k) ∧ Aside0 (wc.heap[gb157]? = some (.cells #[.int .i64 a0_0, (.slice A0_1 l0_1.length c0_1), (.slice A0_2 l0_2.length c0_2), (.slice A0_3 l0_3.length c0_3), (.slice A0_4 l0_4.length c0_4), (.slice A0_5 l0_5.length c0_5)] 55 (0, 0))) ∧ Aside0 (Below w.heap.size w wc))
 case first =>
  have H := HC2.out; clear HC2
  by_cases c5 : (l0_1.length : Int) > 3
  ·
   rw [if_pos c5] at H; have c5b0 : decide (3 < (l0_1.length : Int)) = true := zR c5
   have c5b1 : decide (3 < l0_1.length) = true := zR (by omega)
   clear c5
   (first | rw [c5b0] | (simp only [i64_w, i32_w]; rw [c5b0]) | (simp only [bne] at c5b0; rw [c5b0]) | skip)
   have H' := yD H
   clear H
   go_wp2
   go_meet
   case rel => exact ⟨_, (true), (by first | rfl | (simp; done) | (simp [*]; done)), H', ⟨by first | omega | exact Nat.le_refl _⟩, ⟨by (with_reducible repeat (first | refine yM ?_ _ | refine yO ?_ | refine yN ?_ _)); exact BK157.out⟩, ⟨kR0 HB⟩⟩
  ·
   rw [if_neg c5] at H; have c5b0 : decide (3 < (l0_1.length : Int)) = false := zS c5
   have c5b1 : decide (3 < l0_1.length) = false := zS (by omega)
   clear c5
   (first | rw [c5b0] | (simp only [i64_w, i32_w]; rw [c5b0]) | (simp only [bne] at c5b0; rw [c5b0]) | skip)
   by_cases c6 : (l0_2.length : Int) = (l0_1.length : Int)
   ·
    rw [if_pos c6] at H
    have c6b0 : ((l0_2.length : Int) == (l0_1.length : Int)) = true := beq_iff_eq.mpr c6
    have c6b1 : ((l0_2.length : Int) != (l0_1.length : Int)) = false := bne_eq_false_iff_eq.mpr c6
    have c6b2 : (l0_2.length == l0_1.length) = true := by first | simpa using c6 | (simp at c6 ⊢; omega)
    clear c6
    by_cases c7 : (l0_3.length : Int) = (l0_1.length : Int)
    ·
     rw [if_pos c7] at H
     have c7b0 : ((l0_3.length : Int) == (l0_1.length : Int)) = true := beq_iff_eq.mpr c7
     have c7b1 : ((l0_3.length : Int) != (l0_1.length : Int)) = false := bne_eq_false_iff_eq.mpr c7
     have c7b2 : (l0_3.length == l0_1.length) = true := by first | simpa using c7 | (simp at c7 ⊢; omega)
     clear c7
     by_cases c8 : (l0_4.length : Int) = (l0_1.length : Int)
     ·
      rw [if_pos c8] at H
      have c8b0 : ((l0_4.length : Int) == (l0_1.length : Int)) = true := beq_iff_eq.mpr c8
      have c8b1 : ((l0_4.length : Int) != (l0_1.length : Int)) = false := bne_eq_false_iff_eq.mpr c8
      have c8b2 : (l0_4.length == l0_1.length) = true := by first | simpa using c8 | (simp at c8 ⊢; omega)
      clear c8
      have H' := yD H
      clear H
      obtain ⟨hcz9_0, hcz9_1, hcz9_2, hcz9_3, hcz9_4, hcz9_5⟩ := cz6 BK157.out
      obtain ⟨hfz9_0, hfz9_1, hfz9_2, hfz9_3, hfz9_4, hfz9_5⟩ := fz6 BK157.out
      go_wp2
      go_meet
      case rel => exact ⟨_, (decide ((l0_5.length : Int) > 0)), (by first | rfl | (simp; done) | (simp [*]; done)), H', ⟨by first | omega | exact Nat.le_refl _⟩, ⟨by (with_reducible repeat (first | refine yM ?_ _ | refine yO ?_ | refine yN ?_ _)); exact BK157.out⟩, ⟨kR0 HB⟩⟩
     ·
      rw [if_neg c8] at H
      have c8b0 : ((l0_4.length : Int) == (l0_1.length : Int)) = false := beq_eq_false_iff_ne.mpr c8
      have c8b1 : ((l0_4.length : Int) != (l0_1.length : Int)) = true := bne_iff_ne.mpr c8
      have c8b2 : (l0_4.length == l0_1.length) = false := by first | simpa using c8 | (simp at c8 ⊢; omega)
      have H' := yD H
      clear H
      obtain ⟨hcz10_0, hcz10_1, hcz10_2, hcz10_3, hcz10_4, hcz10_5⟩ := cz6 BK157.out
      obtain ⟨hfz10_0, hfz10_1, hfz10_2, hfz10_3, hfz10_4, hfz10_5⟩ := fz6 BK157.out
      go_wp2
      go_meet
      case rel => exact ⟨_, (true), (by first | rfl | (simp; done) | (simp [*]; done)), H', ⟨by first | omega | exact Nat.le_refl _⟩, ⟨by (with_reducible repeat (first | refine yM ?_ _ | refine yO ?_ | refine yN ?_ _)); exact BK157.out⟩, ⟨kR0 HB⟩⟩
    ·
     rw [if_neg c7] at H
     have c7b0 : ((l0_3.length : Int) == (l0_1.length : Int)) = false := beq_eq_false_iff_ne.mpr c7
     have c7b1 : ((l0_3.length : Int) != (l0_1.length : Int)) = true := bne_iff_ne.mpr c7
     have c7b2 : (l0_3.length == l0_1.length) = false := by first | simpa using c7 | (simp at c7 ⊢; omega)
     have H' := yD H
     clear H
     obtain ⟨hcz11_0, hcz11_1, hcz11_2, hcz11_3, hcz11_4, hcz11_5⟩ := cz6 BK157.out
     obtain ⟨hfz11_0, hfz11_1, hfz11_2, hfz11_3, hfz11_4, hfz11_5⟩ := fz6 BK157.out
     go_wp2
     go_meet
     case rel => exact ⟨_, (true), (by first | rfl | (simp; done) | (simp [*]; done)), H', ⟨by first | omega | exact Nat.le_refl _⟩, ⟨by (with_reducible repeat (first | refine yM ?_ _ | refine yO ?_ | refine yN ?_ _)); exact BK157.out⟩, ⟨kR0 HB⟩⟩
   ·
    rw [if_neg c6] at H
    have c6b0 : ((l0_2.length : Int) == (l0_1.length : Int)) = false := beq_eq_false_iff_ne.mpr c6
    have c6b1 : ((l0_2.length : Int) != (l0_1.length : Int)) = true := bne_iff_ne.mpr c6
    have c6b2 : (l0_2.length == l0_1.length) = false := by first | simpa using c6 | (simp at c6 ⊢; omega)
    have H' := yD H
    clear H
    obtain ⟨hcz12_0, hcz12_1, hcz12_2, hcz12_3, hcz12_4, hcz12_5⟩ := cz6 BK157.out
    obtain ⟨hfz12_0, hfz12_1, hfz12_2, hfz12_3, hfz12_4, hfz12_5⟩ := fz6 BK157.out
    go_wp2
    go_meet
    case rel => exact ⟨_, (true), (by first | rfl | (simp; done) | (simp [*]; done)), H', ⟨by first | omega | exact Nat.le_refl _⟩, ⟨by (with_reducible repeat (first | refine yM ?_ _ | refine yO ?_ | refine yN ?_ _)); exact BK157.out⟩, ⟨kR0 HB⟩⟩
 case rest =>
  clear HC2; try clear c1; try clear p2; try clear c5; try clear c5b0; try clear c5b1; try clear c6; try clear c6b0; try clear c6b1; try clear c6b2; try clear c7; try clear c7b0; try clear c7b1; try clear c7b2; try clear c8; try clear c8b0; try clear c8b1; try clear c8b2; try clear hcz10_0; try clear hcz10_1; try clear hcz10_2; try clear hcz10_3; try clear hcz10_4; try clear hcz10_5; try clear hcz11_0; try clear hcz11_1; try clear hcz11_2; try clear hcz11_3; try clear hcz11_4; try clear hcz11_5; try clear hcz12_0; try clear hcz12_1; try clear hcz12_2; try clear hcz12_3; try clear hcz12_4; try clear hcz12_5; try clear hcz4_0; try clear hcz4_1; try clear hcz4_2; try clear hcz4_3; try clear hcz4_4; try clear hcz4_5; try clear hcz9_0; try clear hcz9_1; try clear hcz9_2; try clear hcz9_3; try clear hcz9_4; try clear hcz9_5; try clear hfz10_0; try clear hfz10_1; try clear hfz10_2; try clear hfz10_3; try clear hfz10_4; try clear hfz10_5; try clear hfz11_0; try clear hfz11_1; try clear hfz11_2; try clear hfz11_3; try clear hfz11_4; try clear hfz11_5; try clear hfz12_0; try clear hfz12_1; try clear hfz12_2; try clear hfz12_3; try clear hfz12_4; try clear hfz12_5; try clear hfz4_0; try clear hfz4_1; try clear hfz4_2; try clear hfz4_3; try clear hfz4_4; try clear hfz4_5; try clear hfz9_0; try clear hfz9_1; try clear hfz9_2; try clear hfz9_3; try clear hfz9_4; try clear hfz9_5
  obtain ⟨kq, x36_1, rfl, HA, HJ1, BK157, HB⟩ := hcut
  cases kq with
  | zero => exact absurd HA.out (by simp [spec_l06Slab.j0])
  | succ kj1 =>
   have H := HA.out; clear HA
   simp only [spec_l06Slab.j0] at H
   by_cases c13 : x36_1 = true
   ·
    subst c13
    have H1 : (some false) = some r := by rw [if_pos rfl] at H; exact H
    clear H; have H := H1; clear H1; obtain rfl := Option.some.inj H
    go_wp2
    go_ret
    exact ⟨by first | rfl | (simp <;> rfl) | (simp [*] <;> rfl), kR0 HB⟩
   ·
    replace c13 := Bool.eq_false_iff.mpr c13
    subst c13
    have H1 : (spec_l06Slab.l0 kj1 (l0_1.length : Int) 0 a0_0 l0_1 l0_2 l0_3 l0_4 l0_5) = some r := by rw [if_neg (show ¬ (false = true) by decide)] at H; exact H
    clear H; have H := H1; clear H1
    have H' := yD H
    clear H
    go_wp2
    go_loopg [4] kj1 (fun kq v4 w' => ∃ (x4_2 : Int), v4 = .int .i64 x4_2 ∧ Aside0 (spec_l06Slab.l0 kq (l0_1.length : Int) x4_2 a0_0 l0_1 l0_2 l0_3 l0_4 l0_5 = some r) ∧ Aside0 (kq ≤ kj1) ∧ Aside0 (w'.heap[gb157]? = some (.cells #[.int .i64 a0_0, (.slice A0_1 l0_1.length c0_1), (.slice A0_2 l0_2.length c0_2), (.slice A0_3 l0_3.length c0_3), (.slice A0_4 l0_4.length c0_4), (.slice A0_5 l0_5.length c0_5)] 55 (0, 0))) ∧ Aside0 (Below w.heap.size w w'))
    case atStart => exact ⟨(0), (by first | rfl | (simp; done) | (simp [*]; done)), H', ⟨Nat.le_refl _⟩, ⟨by (with_reducible repeat (first | refine yM ?_ _ | refine yO ?_ | refine yN ?_ _)); exact BK157.out⟩, ⟨kR0 HB⟩⟩
    case round =>
     clear H'
     try clear c1; try clear p2; try clear c5; try clear c5b0; try clear c5b1; try clear c6; try clear c6b0; try clear c6b1; try clear c6b2; try clear c7; try clear c7b0; try clear c7b1; try clear c7b2; try clear c8; try clear c8b0; try clear c8b1; try clear c8b2; try clear c13; try clear hcz10_0; try clear hcz10_1; try clear hcz10_2; try clear hcz10_3; try clear hcz10_4; try clear hcz10_5; try clear hcz11_0; try clear hcz11_1; try clear hcz11_2; try clear hcz11_3; try clear hcz11_4; try clear hcz11_5; try clear hcz12_0; try clear hcz12_1; try clear hcz12_2; try clear hcz12_3; try clear hcz12_4; try clear hcz12_5; try clear hcz4_0; try clear hcz4_1; try clear hcz4_2; try clear hcz4_3; try clear hcz4_4; try clear hcz4_5; try clear hcz9_0; try clear hcz9_1; try clear hcz9_2; try clear hcz9_3; try clear hcz9_4; try clear hcz9_5; try clear hfz10_0; try clear hfz10_1; try clear hfz10_2; try clear hfz10_3; try clear hfz10_4; try clear hfz10_5; try clear hfz11_0; try clear hfz11_1; try clear hfz11_2; try clear hfz11_3; try clear hfz11_4; try clear hfz11_5; try clear hfz12_0; try clear hfz12_1; try clear hfz12_2; try clear hfz12_3; try clear hfz12_4; try clear hfz12_5; try clear hfz4_0; try clear hfz4_1; try clear hfz4_2; try clear hfz4_3; try clear hfz4_4; try clear hfz4_5; try clear hfz9_0; try clear hfz9_1; try clear hfz9_2; try clear hfz9_3; try clear hfz9_4; try clear hfz9_5; try clear p2
     obtain ⟨x4_2, rfl, HA, HK2, BK157, HB⟩ := hrel
     cases gk with
     | zero => exact absurd HA.out (by simp [spec_l06Slab.l0])
     | succ k2 =>
      have H := HA.out; clear HA
      simp only [spec_l06Slab.l0] at H
      by_cases c14 : x4_2 < (l0_1.length : Int)
      ·
       rw [if_pos c14] at H; have c14b0 : decide (x4_2 < (l0_1.length : Int)) = true := zR c14; clear c14
       by_cases c15 : 0 ≤ x4_2
       ·
        rw [if_pos c15] at H; have c15b0 : decide (0 ≤ x4_2) = true := zR c15; clear c15
        by_cases c16 : x4_2 < (l0_1.length : Int)
        ·
         rw [if_pos c16] at H; have c16b0 : decide (x4_2 < (l0_1.length : Int)) = true := zR c16; clear c16
         obtain ⟨t159, A170, H⟩ := zW_ H
         replace H : (if t159 = true then (if x4_2 < (l0_3.length : Int) then ((spec_l00In.f (rd l0_3 x4_2) 1 40).bind fun t161 => (if t161 = true then (if x4_2 < (l0_4.length : Int) then ((spec_l00In.f (rd l0_4 x4_2) 1 40).bind fun t163 => (if t163 = true then (if x4_2 < (l0_2.length : Int) then ((spec_l00In.f (rd l0_2 x4_2) (rd l0_4 x4_2) 40).bind fun t166 => (if t166 = true then ((spec_l06End.f a0_0 l0_1 l0_2 l0_3 l0_4 l0_5 x4_2).bind fun t167 => (if t167 > 40 then (some false) else (spec_l06Slab.l0 k2 (l0_1.length : Int) (wrap64 (x4_2 + 1)) a0_0 l0_1 l0_2 l0_3 l0_4 l0_5))) else (some false))) else (none)) else (some false))) else (none)) else (some false))) else (none)) else (some false)) = some r := H
         have A17 := yD A170
         clear A170
         by_cases c18 : t159 = true
         ·
          subst c18
          have H1 : (if x4_2 < (l0_3.length : Int) then ((spec_l00In.f (rd l0_3 x4_2) 1 40).bind fun t161 => (if t161 = true then (if x4_2 < (l0_4.length : Int) then ((spec_l00In.f (rd l0_4 x4_2) 1 40).bind fun t163 => (if t163 = true then (if x4_2 < (l0_2.length : Int) then ((spec_l00In.f (rd l0_2 x4_2) (rd l0_4 x4_2) 40).bind fun t166 => (if t166 = true then ((spec_l06End.f a0_0 l0_1 l0_2 l0_3 l0_4 l0_5 x4_2).bind fun t167 => (if t167 > 40 then (some false) else (spec_l06Slab.l0 k2 (l0_1.length : Int) (wrap64 (x4_2 + 1)) a0_0 l0_1 l0_2 l0_3 l0_4 l0_5))) else (some false))) else (none)) else (some false))) else (none)) else (some false))) else (none)) = some r := by rw [if_pos rfl] at H; exact H
          clear H; have H := H1; clear H1
          by_cases c19 : x4_2 < (l0_3.length : Int)
          ·
           rw [if_pos c19] at H; have c19b0 : decide (x4_2 < (l0_3.length : Int)) = true := zR c19; clear c19
           obtain ⟨t161, A200, H⟩ := zW_ H
           replace H : (if t161 = true then (if x4_2 < (l0_4.length : Int) then ((spec_l00In.f (rd l0_4 x4_2) 1 40).bind fun t163 => (if t163 = true then (if x4_2 < (l0_2.length : Int) then ((spec_l00In.f (rd l0_2 x4_2) (rd l0_4 x4_2) 40).bind fun t166 => (if t166 = true then ((spec_l06End.f a0_0 l0_1 l0_2 l0_3 l0_4 l0_5 x4_2).bind fun t167 => (if t167 > 40 then (some false) else (spec_l06Slab.l0 k2 (l0_1.length : Int) (wrap64 (x4_2 + 1)) a0_0 l0_1 l0_2 l0_3 l0_4 l0_5))) else (some false))) else (none)) else (some false))) else (none)) else (some false)) = some r := H
           have A20 := yD A200
           clear A200
           by_cases c21 : t161 = true
           ·
            subst c21
            have H1 : (if x4_2 < (l0_4.length : Int) then ((spec_l00In.f (rd l0_4 x4_2) 1 40).bind fun t163 => (if t163 = true then (if x4_2 < (l0_2.length : Int) then ((spec_l00In.f (rd l0_2 x4_2) (rd l0_4 x4_2) 40).bind fun t166 => (if t166 = true then ((spec_l06End.f a0_0 l0_1 l0_2 l0_3 l0_4 l0_5 x4_2).bind fun t167 => (if t167 > 40 then (some false) else (spec_l06Slab.l0 k2 (l0_1.length : Int) (wrap64 (x4_2 + 1)) a0_0 l0_1 l0_2 l0_3 l0_4 l0_5))) else (some false))) else (none)) else (some false))) else (none)) = some r := by rw [if_pos rfl] at H; exact H
            clear H; have H := H1; clear H1
            by_cases c22 : x4_2 < (l0_4.length : Int)
            ·
             rw [if_pos c22] at H; have c22b0 : decide (x4_2 < (l0_4.length : Int)) = true := zR c22; clear c22
             obtain ⟨t163, A230, H⟩ := zW_ H
             replace H : (if t163 = true then (if x4_2 < (l0_2.length : Int) then ((spec_l00In.f (rd l0_2 x4_2) (rd l0_4 x4_2) 40).bind fun t166 => (if t166 = true then ((spec_l06End.f a0_0 l0_1 l0_2 l0_3 l0_4 l0_5 x4_2).bind fun t167 => (if t167 > 40 then (some false) else (spec_l06Slab.l0 k2 (l0_1.length : Int) (wrap64 (x4_2 + 1)) a0_0 l0_1 l0_2 l0_3 l0_4 l0_5))) else (some false))) else (none)) else (some false)) = some r := H
             have A23 := yD A230
             clear A230
             by_cases c24 : t163 = true
             ·
              subst c24
              have H1 : (if x4_2 < (l0_2.length : Int) then ((spec_l00In.f (rd l0_2 x4_2) (rd l0_4 x4_2) 40).bind fun t166 => (if t166 = true then ((spec_l06End.f a0_0 l0_1 l0_2 l0_3 l0_4 l0_5 x4_2).bind fun t167 => (if t167 > 40 then (some false) else (spec_l06Slab.l0 k2 (l0_1.length : Int) (wrap64 (x4_2 + 1)) a0_0 l0_1 l0_2 l0_3 l0_4 l0_5))) else (some false))) else (none)) = some r := by rw [if_pos rfl] at H; exact H
              clear H; have H := H1; clear H1
              by_cases c25 : x4_2 < (l0_2.length : Int)
              ·
               rw [if_pos c25] at H; have c25b0 : decide (x4_2 < (l0_2.length : Int)) = true := zR c25; clear c25
               obtain ⟨t166, A260, H⟩ := zW_ H
               replace H : (if t166 = true then ((spec_l06End.f a0_0 l0_1 l0_2 l0_3 l0_4 l0_5 x4_2).bind fun t167 => (if t167 > 40 then (some false) else (spec_l06Slab.l0 k2 (l0_1.length : Int) (wrap64 (x4_2 + 1)) a0_0 l0_1 l0_2 l0_3 l0_4 l0_5))) else (some false)) = some r := H
               have A26 := yD A260
               clear A260
               by_cases c27 : t166 = true
               ·
                subst c27
                have H1 : ((spec_l06End.f a0_0 l0_1 l0_2 l0_3 l0_4 l0_5 x4_2).bind fun t167 => (if t167 > 40 then (some false) else (spec_l06Slab.l0 k2 (l0_1.length : Int) (wrap64 (x4_2 + 1)) a0_0 l0_1 l0_2 l0_3 l0_4 l0_5))) = some r := by rw [if_pos rfl] at H; exact H
                clear H; have H := H1; clear H1
                obtain ⟨t167, A280, H⟩ := zW_ H
                replace H : (if t167 > 40 then (some false) else (spec_l06Slab.l0 k2 (l0_1.length : Int) (wrap64 (x4_2 + 1)) a0_0 l0_1 l0_2 l0_3 l0_4 l0_5)) = some r := H
                have A28 := yD A280
                clear A280
                by_cases c29 : t167 > 40
                ·
                 rw [if_pos c29] at H; have c29b0 : decide (40 < t167) = true := zR c29; clear c29; obtain rfl := Option.some.inj H
                 try go_wp2
                 have n0_ := yD (yO BK157.out)
                 have n1_ := yD (yP HB.out)
                 clear BK157 HB; have BK157 := n0_; have HB := n1_; clear n0_ n1_
                 have p158 : 0 ≤ (x4_2 : Int) := zP (by assumption)
                 have q158 : x4_2 < (l0_1.length : Int) := zP (by assumption)
                 obtain ⟨ad158, e158, hx158_0⟩ := Kd.at_int HR0_1.out x4_2 p158 q158
                 have hw158_0 := hx158_0; cases e158
                 replace hx158_0 := (HB.out.cell (zQ w _ hx158_0)).trans hx158_0
                 replace p158 := eq_true p158; replace q158 := eq_true q158
                 have p160 : 0 ≤ (x4_2 : Int) := zP (by assumption)
                 have q160 : x4_2 < (l0_3.length : Int) := zP (by assumption)
                 obtain ⟨ad160, e160, hx160_0⟩ := Kd.at_int HR0_3.out x4_2 p160 q160
                 have hw160_0 := hx160_0; cases e160
                 replace hx160_0 := (HB.out.cell (zQ w _ hx160_0)).trans hx160_0
                 replace p160 := eq_true p160; replace q160 := eq_true q160
                 have p162 : 0 ≤ (x4_2 : Int) := zP (by assumption)
                 have q162 : x4_2 < (l0_4.length : Int) := zP (by assumption)
                 obtain ⟨ad162, e162, hx162_0⟩ := Kd.at_int HR0_4.out x4_2 p162 q162
                 have hw162_0 := hx162_0; cases e162
                 replace hx162_0 := (HB.out.cell (zQ w _ hx162_0)).trans hx162_0
                 replace p162 := eq_true p162; replace q162 := eq_true q162
                 have p164 : 0 ≤ (x4_2 : Int) := zP (by assumption)
                 have q164 : x4_2 < (l0_2.length : Int) := zP (by assumption)
                 obtain ⟨ad164, e164, hx164_0⟩ := Kd.at_int HR0_2.out x4_2 p164 q164
                 have hw164_0 := hx164_0; cases e164
                 replace hx164_0 := (HB.out.cell (zQ w _ hx164_0)).trans hx164_0
                 replace p164 := eq_true p164; replace q164 := eq_true q164
                 have p165 : 0 ≤ (x4_2 : Int) := zP (by assumption)
                 have q165 : x4_2 < (l0_4.length : Int) := zP (by assumption)
                 obtain ⟨ad165, e165, hx165_0⟩ := Kd.at_int HR0_4.out x4_2 p165 q165
                 have hw165_0 := hx165_0
                 obtain rfl : ad162 = ad165 := (by injection e165)
                 replace hx165_0 := (HB.out.cell (zQ w _ hx165_0)).trans hx165_0
                 replace p165 := eq_true p165; replace q165 := eq_true q165
                 refine start_ (n := 45) (S := fun w' => w'.cell? ⟨gb157, 0, none⟩ = some (.int .i64 a0_0) ∧ w'.cell? ⟨gb157, 1, none⟩ = some (.slice (some ad158) l0_1.length c0_1) ∧ w'.cell? ⟨gb157, 2, none⟩ = some (.slice (some ad164) l0_2.length c0_2) ∧ w'.cell? ⟨gb157, 3, none⟩ = some (.slice (some ad160) l0_3.length c0_3) ∧ w'.cell? ⟨gb157, 4, none⟩ = some (.slice (some ad162) l0_4.length c0_4) ∧ w'.cell? ⟨gb157, 5, none⟩ = some (.slice A0_5 l0_5.length c0_5) ∧ w'.cell? (ad158.add (x4_2).toNat) = some (.int .i64 (rd l0_1 x4_2)) ∧ w'.cell? (ad160.add (x4_2).toNat) = some (.int .i64 (rd l0_3 x4_2)) ∧ w'.cell? (ad162.add (x4_2).toNat) = some (.int .i64 (rd l0_4 x4_2)) ∧ w'.cell? (ad164.add (x4_2).toNat) = some (.int .i64 (rd l0_2 x4_2)) ∧ w'.cell? (ad162.add (x4_2).toNat) = some (.int .i64 (rd l0_4 x4_2))) (ds := []) Q_0 (by kernel_rfl) rfl rfl ⟨(yG BK157.out 0).trans rfl, (yG BK157.out 1).trans rfl, (yG BK157.out 2).trans rfl, (yG BK157.out 3).trans rfl, (yG BK157.out 4).trans rfl, (yG BK157.out 5).trans rfl, ((HB.out.cell (zQ w _ hw158_0)).trans hw158_0), ((HB.out.cell (zQ w _ hw160_0)).trans hw160_0), ((HB.out.cell (zQ w _ hw162_0)).trans hw162_0), ((HB.out.cell (zQ w _ hw164_0)).trans hw164_0), ((HB.out.cell (zQ w _ hw165_0)).trans hw165_0)⟩ (fun hHeld => ?_); refine with_tabW spec_l06Slab.tab7 spec_l06Slab.bits7 (fun HT_ HW_ => ?_)
                 generalize wr.drew = w30 at BK157 HB hx158_0 hx160_0 hx162_0 hx164_0 hx165_0 hHeld ⊢
                 refine qA 0 42 Q_1 HT_ ?_
                 refine qA 2 44 Q_2 HT_ ?_
                 refine qC 1 43 Q_3 HT_ HW_ hHeld ?_ (hy := by rintro w' ⟨s0, s1, s2, s3, s4, s5, s6, s7, s8, s9, s10⟩; go_simp; with_reducible rfl)
                 refine qA 3 45 Q_4 HT_ ?_
                 refine qC 4 46 Q_5 HT_ HW_ hHeld ?_ (hy := by rintro w' ⟨s0, s1, s2, s3, s4, s5, s6, s7, s8, s9, s10⟩; go_simp; with_reducible rfl)
                 refine one_ (i := 5) (N := some 47) Q_6 rfl rfl (one_of HT_.out (by kernel_rfl)) (by decide) (fun K hK => ?_)
                 refine goes_ Try.func92 (by kernel_rfl) rfl #[.int .i64 (rd l0_1 x4_2), .int .i64 0, .int .i64 40] (by rfl) rfl rfl (by (try simp only [zK, zL, zM]); first | done | rfl | (simp only [zN, zO]; rfl)) ?_
                 with_reducible refine (spec_l00In.calls (rd l0_1 x4_2) 0 40 true _ A17.out).mono ?_
                 rintro e w' ⟨rfl, ⟨nd, rfl⟩⟩
                 refine ⟨_, rfl, ?_⟩
                 refine hK.out _ _ ⟨(yG BK157.out 0).trans rfl, (yG BK157.out 1).trans rfl, (yG BK157.out 2).trans rfl, (yG BK157.out 3).trans rfl, (yG BK157.out 4).trans rfl, (yG BK157.out 5).trans rfl, ((HB.out.cell (zQ w _ hw158_0)).trans hw158_0), ((HB.out.cell (zQ w _ hw160_0)).trans hw160_0), ((HB.out.cell (zQ w _ hw162_0)).trans hw162_0), ((HB.out.cell (zQ w _ hw164_0)).trans hw164_0), ((HB.out.cell (zQ w _ hw165_0)).trans hw165_0)⟩ (fun hHeld => ?_)
                 clear hK K
                 refine norm_ (by show Act.put _ (some 47) _ = _; simp only [Act.put, zH, zI, zJ, i64_w, i32_w]; rfl) ?_
                 refine qA 6 48 Q_7 HT_ ?_
                 refine qA 7 49 Q_8 HT_ ?_
                 refine qA 8 50 Q_9 HT_ ?_
                 refine qA 10 52 Q_10 HT_ ?_
                 refine qC 9 51 Q_11 HT_ HW_ hHeld ?_ (hy := by rintro w' ⟨s0, s1, s2, s3, s4, s5, s6, s7, s8, s9, s10⟩; go_simp; with_reducible rfl)
                 refine qA 11 53 Q_12 HT_ ?_
                 refine qC 12 54 Q_13 HT_ HW_ hHeld ?_ (hy := by rintro w' ⟨s0, s1, s2, s3, s4, s5, s6, s7, s8, s9, s10⟩; go_simp; with_reducible rfl)
                 refine one_ (i := 13) (N := some 55) Q_14 rfl rfl (one_of HT_.out (by kernel_rfl)) (by decide) (fun K hK => ?_)
                 refine goes_ Try.func92 (by kernel_rfl) rfl #[.int .i64 (rd l0_3 x4_2), .int .i64 1, .int .i64 40] (by rfl) rfl rfl (by (try simp only [zK, zL, zM]); first | done | rfl | (simp only [zN, zO]; rfl)) ?_
                 with_reducible refine (spec_l00In.calls (rd l0_3 x4_2) 1 40 true _ A20.out).mono ?_
                 rintro e w' ⟨rfl, ⟨nd, rfl⟩⟩
                 refine ⟨_, rfl, ?_⟩
                 refine hK.out _ _ ⟨(yG BK157.out 0).trans rfl, (yG BK157.out 1).trans rfl, (yG BK157.out 2).trans rfl, (yG BK157.out 3).trans rfl, (yG BK157.out 4).trans rfl, (yG BK157.out 5).trans rfl, ((HB.out.cell (zQ w _ hw158_0)).trans hw158_0), ((HB.out.cell (zQ w _ hw160_0)).trans hw160_0), ((HB.out.cell (zQ w _ hw162_0)).trans hw162_0), ((HB.out.cell (zQ w _ hw164_0)).trans hw164_0), ((HB.out.cell (zQ w _ hw165_0)).trans hw165_0)⟩ (fun hHeld => ?_)
                 clear hK K
                 refine norm_ (by show Act.put _ (some 55) _ = _; simp only [Act.put, zH, zI, zJ, i64_w, i32_w]; rfl) ?_
                 refine qA 14 56 Q_15 HT_ ?_
                 refine qA 15 57 Q_16 HT_ ?_
                 refine qA 16 58 Q_17 HT_ ?_
                 refine qA 17 59 Q_18 HT_ ?_
                 refine qA 19 61 Q_19 HT_ ?_
                 refine qC 18 60 Q_20 HT_ HW_ hHeld ?_ (hy := by rintro w' ⟨s0, s1, s2, s3, s4, s5, s6, s7, s8, s9, s10⟩; go_simp; with_reducible rfl)
                 refine qA 20 62 Q_21 HT_ ?_
                 refine qC 21 63 Q_22 HT_ HW_ hHeld ?_ (hy := by rintro w' ⟨s0, s1, s2, s3, s4, s5, s6, s7, s8, s9, s10⟩; go_simp; with_reducible rfl)
                 refine one_ (i := 22) (N := some 64) Q_23 rfl rfl (one_of HT_.out (by kernel_rfl)) (by decide) (fun K hK => ?_)
                 refine goes_ Try.func92 (by kernel_rfl) rfl #[.int .i64 (rd l0_4 x4_2), .int .i64 1, .int .i64 40] (by rfl) rfl rfl (by (try simp only [zK, zL, zM]); first | done | rfl | (simp only [zN, zO]; rfl)) ?_
                 with_reducible refine (spec_l00In.calls (rd l0_4 x4_2) 1 40 true _ A23.out).mono ?_
                 rintro e w' ⟨rfl, ⟨nd, rfl⟩⟩
                 refine ⟨_, rfl, ?_⟩
                 refine hK.out _ _ ⟨(yG BK157.out 0).trans rfl, (yG BK157.out 1).trans rfl, (yG BK157.out 2).trans rfl, (yG BK157.out 3).trans rfl, (yG BK157.out 4).trans rfl, (yG BK157.out 5).trans rfl, ((HB.out.cell (zQ w _ hw158_0)).trans hw158_0), ((HB.out.cell (zQ w _ hw160_0)).trans hw160_0), ((HB.out.cell (zQ w _ hw162_0)).trans hw162_0), ((HB.out.cell (zQ w _ hw164_0)).trans hw164_0), ((HB.out.cell (zQ w _ hw165_0)).trans hw165_0)⟩ (fun hHeld => ?_)
                 clear hK K
                 refine norm_ (by show Act.put _ (some 64) _ = _; simp only [Act.put, zH, zI, zJ, i64_w, i32_w]; rfl) ?_
                 refine qA 23 65 Q_24 HT_ ?_
                 refine qA 24 66 Q_25 HT_ ?_
                 refine qA 25 67 Q_26 HT_ ?_
                 refine qA 26 68 Q_27 HT_ ?_
                 refine qA 28 70 Q_28 HT_ ?_
                 refine qA 31 73 Q_29 HT_ ?_
                 refine qA 33 75 Q_30 HT_ ?_
                 refine qC 27 69 Q_31 HT_ HW_ hHeld ?_ (hy := by rintro w' ⟨s0, s1, s2, s3, s4, s5, s6, s7, s8, s9, s10⟩; go_simp; with_reducible rfl)
                 refine qA 29 71 Q_32 HT_ ?_
                 refine qC 30 72 Q_33 HT_ HW_ hHeld ?_ (hy := by rintro w' ⟨s0, s1, s2, s3, s4, s5, s6, s7, s8, s9, s10⟩; go_simp; with_reducible rfl)
                 refine qC 32 74 Q_34 HT_ HW_ hHeld ?_ (hy := by rintro w' ⟨s0, s1, s2, s3, s4, s5, s6, s7, s8, s9, s10⟩; go_simp; with_reducible rfl)
                 refine qA 34 76 Q_35 HT_ ?_
                 refine qC 35 77 Q_36 HT_ HW_ hHeld ?_ (hy := by rintro w' ⟨s0, s1, s2, s3, s4, s5, s6, s7, s8, s9, s10⟩; go_simp; with_reducible rfl)
                 refine one_ (i := 36) (N := some 78) Q_37 rfl rfl (one_of HT_.out (by kernel_rfl)) (by decide) (fun K hK => ?_)
                 refine goes_ Try.func92 (by kernel_rfl) rfl #[.int .i64 (rd l0_2 x4_2), .int .i64 (rd l0_4 x4_2), .int .i64 40] (by rfl) rfl rfl (by (try simp only [zK, zL, zM]); first | done | rfl | (simp only [zN, zO]; rfl)) ?_
                 with_reducible refine (spec_l00In.calls (rd l0_2 x4_2) (rd l0_4 x4_2) 40 true _ A26.out).mono ?_
                 rintro e w' ⟨rfl, ⟨nd, rfl⟩⟩
                 refine ⟨_, rfl, ?_⟩
                 refine hK.out _ _ ⟨(yG BK157.out 0).trans rfl, (yG BK157.out 1).trans rfl, (yG BK157.out 2).trans rfl, (yG BK157.out 3).trans rfl, (yG BK157.out 4).trans rfl, (yG BK157.out 5).trans rfl, ((HB.out.cell (zQ w _ hw158_0)).trans hw158_0), ((HB.out.cell (zQ w _ hw160_0)).trans hw160_0), ((HB.out.cell (zQ w _ hw162_0)).trans hw162_0), ((HB.out.cell (zQ w _ hw164_0)).trans hw164_0), ((HB.out.cell (zQ w _ hw165_0)).trans hw165_0)⟩ (fun hHeld => ?_)
                 clear hK K
                 refine norm_ (by show Act.put _ (some 78) _ = _; simp only [Act.put, zH, zI, zJ, i64_w, i32_w]; rfl) ?_
                 refine qA 37 79 Q_38 HT_ ?_
                 refine qA 38 80 Q_39 HT_ ?_
                 refine qA 39 81 Q_40 HT_ ?_
                 refine qA 41 83 Q_41 HT_ ?_
                 refine qC 40 82 Q_42 HT_ HW_ hHeld ?_ (hy := by rintro w' ⟨s0, s1, s2, s3, s4, s5, s6, s7, s8, s9, s10⟩; go_simp; with_reducible rfl)
                 refine one_ (i := 42) (N := some 84) Q_43 rfl rfl (one_of HT_.out (by kernel_rfl)) (by decide) (fun K hK => ?_)
                 refine goes_ Try.func111 (by kernel_rfl) rfl #[.agg #[.int .i64 a0_0, .slice (some ad158) l0_1.length c0_1, .slice (some ad164) l0_2.length c0_2, .slice (some ad160) l0_3.length c0_3, .slice (some ad162) l0_4.length c0_4, .slice A0_5 l0_5.length c0_5], .int .i64 x4_2] (by rfl) rfl rfl (by (try simp only [zK, zL, zM]); first | done | rfl | (simp only [zN, zO]; rfl)) ?_
                 with_reducible refine (spec_l06End.calls a0_0 _ _ l0_1 _ _ l0_2 _ _ l0_3 _ _ l0_4 _ _ l0_5 x4_2 t167 _ ?side1 ?side2 ?side3 ?side4 ?side5 ?side6 ?side7 ?side8 ?side9 ?side10 A28.out).mono ?_
                 (case side1 => exact yY HR0_1.out (kB HB))
                 (case side2 => exact HC0_1.out)
                 (case side3 => exact yY HR0_2.out (kB HB))
                 (case side4 => exact HC0_2.out)
                 (case side5 => exact yY HR0_3.out (kB HB))
                 (case side6 => exact HC0_3.out)
                 (case side7 => exact yY HR0_4.out (kB HB))
                 (case side8 => exact HC0_4.out)
                 (case side9 => exact yY HR0_5.out (kB HB))
                 (case side10 => exact HC0_5.out)
                 rintro e w31 ⟨rfl, hb⟩
                 refine ⟨_, rfl, ?_⟩
                 have n0_ := yD (zB (kN BK157) hb)
                 have n1_ := yD (zC (kB HB) hb)
                 clear BK157 HB; have BK157 := n0_; have HB := n1_; clear n0_ n1_; (try clear hb); (try clear hb2); (try clear hk); (try clear hi)
                 refine hK.out _ _ ⟨(yG BK157.out 0).trans rfl, (yG BK157.out 1).trans rfl, (yG BK157.out 2).trans rfl, (yG BK157.out 3).trans rfl, (yG BK157.out 4).trans rfl, (yG BK157.out 5).trans rfl, ((HB.out.cell (zQ w _ hw158_0)).trans hw158_0), ((HB.out.cell (zQ w _ hw160_0)).trans hw160_0), ((HB.out.cell (zQ w _ hw162_0)).trans hw162_0), ((HB.out.cell (zQ w _ hw164_0)).trans hw164_0), ((HB.out.cell (zQ w _ hw165_0)).trans hw165_0)⟩ (fun hHeld => ?_)
                 clear hK K
                 refine norm_ (by show Act.put _ (some 84) _ = _; simp only [Act.put, zH, zI, zJ, i64_w, i32_w]; rfl) ?_
                 refine qA 43 85 Q_44 HT_ ?_
                 refine qA 44 86 Q_45 HT_ ?_
                 refine done_ (done_of HT_.out (by kernel_rfl)) ?_
                 try go_wp2
                 go_ret
                 exact ⟨by first | rfl | (simp <;> rfl) | (simp [*] <;> rfl), kR0 HB⟩
                ·
                 rw [if_neg c29] at H; have c29b0 : decide (40 < t167) = false := zS c29; clear c29
                 have H' := yD H
                 clear H
                 try go_wp2
                 have n0_ := yD (yO BK157.out)
                 have n1_ := yD (yP HB.out)
                 clear BK157 HB; have BK157 := n0_; have HB := n1_; clear n0_ n1_
                 have p158 : 0 ≤ (x4_2 : Int) := zP (by assumption)
                 have q158 : x4_2 < (l0_1.length : Int) := zP (by assumption)
                 obtain ⟨ad158, e158, hx158_0⟩ := Kd.at_int HR0_1.out x4_2 p158 q158
                 have hw158_0 := hx158_0; cases e158
                 replace hx158_0 := (HB.out.cell (zQ w _ hx158_0)).trans hx158_0
                 replace p158 := eq_true p158; replace q158 := eq_true q158
                 have p160 : 0 ≤ (x4_2 : Int) := zP (by assumption)
                 have q160 : x4_2 < (l0_3.length : Int) := zP (by assumption)
                 obtain ⟨ad160, e160, hx160_0⟩ := Kd.at_int HR0_3.out x4_2 p160 q160
                 have hw160_0 := hx160_0; cases e160
                 replace hx160_0 := (HB.out.cell (zQ w _ hx160_0)).trans hx160_0
                 replace p160 := eq_true p160; replace q160 := eq_true q160
                 have p162 : 0 ≤ (x4_2 : Int) := zP (by assumption)
                 have q162 : x4_2 < (l0_4.length : Int) := zP (by assumption)
                 obtain ⟨ad162, e162, hx162_0⟩ := Kd.at_int HR0_4.out x4_2 p162 q162
                 have hw162_0 := hx162_0; cases e162
                 replace hx162_0 := (HB.out.cell (zQ w _ hx162_0)).trans hx162_0
                 replace p162 := eq_true p162; replace q162 := eq_true q162
                 have p164 : 0 ≤ (x4_2 : Int) := zP (by assumption)
                 have q164 : x4_2 < (l0_2.length : Int) := zP (by assumption)
                 obtain ⟨ad164, e164, hx164_0⟩ := Kd.at_int HR0_2.out x4_2 p164 q164
                 have hw164_0 := hx164_0; cases e164
                 replace hx164_0 := (HB.out.cell (zQ w _ hx164_0)).trans hx164_0
                 replace p164 := eq_true p164; replace q164 := eq_true q164
                 have p165 : 0 ≤ (x4_2 : Int) := zP (by assumption)
                 have q165 : x4_2 < (l0_4.length : Int) := zP (by assumption)
                 obtain ⟨ad165, e165, hx165_0⟩ := Kd.at_int HR0_4.out x4_2 p165 q165
                 have hw165_0 := hx165_0
                 obtain rfl : ad162 = ad165 := (by injection e165)
                 replace hx165_0 := (HB.out.cell (zQ w _ hx165_0)).trans hx165_0
                 replace p165 := eq_true p165; replace q165 := eq_true q165
                 refine start_ (n := 45) (S := fun w' => w'.cell? ⟨gb157, 0, none⟩ = some (.int .i64 a0_0) ∧ w'.cell? ⟨gb157, 1, none⟩ = some (.slice (some ad158) l0_1.length c0_1) ∧ w'.cell? ⟨gb157, 2, none⟩ = some (.slice (some ad164) l0_2.length c0_2) ∧ w'.cell? ⟨gb157, 3, none⟩ = some (.slice (some ad160) l0_3.length c0_3) ∧ w'.cell? ⟨gb157, 4, none⟩ = some (.slice (some ad162) l0_4.length c0_4) ∧ w'.cell? ⟨gb157, 5, none⟩ = some (.slice A0_5 l0_5.length c0_5) ∧ w'.cell? (ad158.add (x4_2).toNat) = some (.int .i64 (rd l0_1 x4_2)) ∧ w'.cell? (ad160.add (x4_2).toNat) = some (.int .i64 (rd l0_3 x4_2)) ∧ w'.cell? (ad162.add (x4_2).toNat) = some (.int .i64 (rd l0_4 x4_2)) ∧ w'.cell? (ad164.add (x4_2).toNat) = some (.int .i64 (rd l0_2 x4_2)) ∧ w'.cell? (ad162.add (x4_2).toNat) = some (.int .i64 (rd l0_4 x4_2))) (ds := []) Q_0 (by kernel_rfl) rfl rfl ⟨(yG BK157.out 0).trans rfl, (yG BK157.out 1).trans rfl, (yG BK157.out 2).trans rfl, (yG BK157.out 3).trans rfl, (yG BK157.out 4).trans rfl, (yG BK157.out 5).trans rfl, ((HB.out.cell (zQ w _ hw158_0)).trans hw158_0), ((HB.out.cell (zQ w _ hw160_0)).trans hw160_0), ((HB.out.cell (zQ w _ hw162_0)).trans hw162_0), ((HB.out.cell (zQ w _ hw164_0)).trans hw164_0), ((HB.out.cell (zQ w _ hw165_0)).trans hw165_0)⟩ (fun hHeld => ?_); refine with_tabW spec_l06Slab.tab7 spec_l06Slab.bits7 (fun HT_ HW_ => ?_)
                 generalize wr.drew = w32 at BK157 HB hx158_0 hx160_0 hx162_0 hx164_0 hx165_0 hHeld ⊢
                 refine qA 0 42 Q_1 HT_ ?_
                 refine qA 2 44 Q_2 HT_ ?_
                 refine qC 1 43 Q_3 HT_ HW_ hHeld ?_ (hy := by rintro w' ⟨s0, s1, s2, s3, s4, s5, s6, s7, s8, s9, s10⟩; go_simp; with_reducible rfl)
                 refine qA 3 45 Q_4 HT_ ?_
                 refine qC 4 46 Q_5 HT_ HW_ hHeld ?_ (hy := by rintro w' ⟨s0, s1, s2, s3, s4, s5, s6, s7, s8, s9, s10⟩; go_simp; with_reducible rfl)
                 refine one_ (i := 5) (N := some 47) Q_6 rfl rfl (one_of HT_.out (by kernel_rfl)) (by decide) (fun K hK => ?_)
                 refine goes_ Try.func92 (by kernel_rfl) rfl #[.int .i64 (rd l0_1 x4_2), .int .i64 0, .int .i64 40] (by rfl) rfl rfl (by (try simp only [zK, zL, zM]); first | done | rfl | (simp only [zN, zO]; rfl)) ?_
                 with_reducible refine (spec_l00In.calls (rd l0_1 x4_2) 0 40 true _ A17.out).mono ?_
                 rintro e w' ⟨rfl, ⟨nd, rfl⟩⟩
                 refine ⟨_, rfl, ?_⟩
                 refine hK.out _ _ ⟨(yG BK157.out 0).trans rfl, (yG BK157.out 1).trans rfl, (yG BK157.out 2).trans rfl, (yG BK157.out 3).trans rfl, (yG BK157.out 4).trans rfl, (yG BK157.out 5).trans rfl, ((HB.out.cell (zQ w _ hw158_0)).trans hw158_0), ((HB.out.cell (zQ w _ hw160_0)).trans hw160_0), ((HB.out.cell (zQ w _ hw162_0)).trans hw162_0), ((HB.out.cell (zQ w _ hw164_0)).trans hw164_0), ((HB.out.cell (zQ w _ hw165_0)).trans hw165_0)⟩ (fun hHeld => ?_)
                 clear hK K
                 refine norm_ (by show Act.put _ (some 47) _ = _; simp only [Act.put, zH, zI, zJ, i64_w, i32_w]; rfl) ?_
                 refine qA 6 48 Q_7 HT_ ?_
                 refine qA 7 49 Q_8 HT_ ?_
                 refine qA 8 50 Q_9 HT_ ?_
                 refine qA 10 52 Q_10 HT_ ?_
                 refine qC 9 51 Q_11 HT_ HW_ hHeld ?_ (hy := by rintro w' ⟨s0, s1, s2, s3, s4, s5, s6, s7, s8, s9, s10⟩; go_simp; with_reducible rfl)
                 refine qA 11 53 Q_12 HT_ ?_
                 refine qC 12 54 Q_13 HT_ HW_ hHeld ?_ (hy := by rintro w' ⟨s0, s1, s2, s3, s4, s5, s6, s7, s8, s9, s10⟩; go_simp; with_reducible rfl)
                 refine one_ (i := 13) (N := some 55) Q_14 rfl rfl (one_of HT_.out (by kernel_rfl)) (by decide) (fun K hK => ?_)
                 refine goes_ Try.func92 (by kernel_rfl) rfl #[.int .i64 (rd l0_3 x4_2), .int .i64 1, .int .i64 40] (by rfl) rfl rfl (by (try simp only [zK, zL, zM]); first | done | rfl | (simp only [zN, zO]; rfl)) ?_
                 with_reducible refine (spec_l00In.calls (rd l0_3 x4_2) 1 40 true _ A20.out).mono ?_
                 rintro e w' ⟨rfl, ⟨nd, rfl⟩⟩
                 refine ⟨_, rfl, ?_⟩
                 refine hK.out _ _ ⟨(yG BK157.out 0).trans rfl, (yG BK157.out 1).trans rfl, (yG BK157.out 2).trans rfl, (yG BK157.out 3).trans rfl, (yG BK157.out 4).trans rfl, (yG BK157.out 5).trans rfl, ((HB.out.cell (zQ w _ hw158_0)).trans hw158_0), ((HB.out.cell (zQ w _ hw160_0)).trans hw160_0), ((HB.out.cell (zQ w _ hw162_0)).trans hw162_0), ((HB.out.cell (zQ w _ hw164_0)).trans hw164_0), ((HB.out.cell (zQ w _ hw165_0)).trans hw165_0)⟩ (fun hHeld => ?_)
                 clear hK K
                 refine norm_ (by show Act.put _ (some 55) _ = _; simp only [Act.put, zH, zI, zJ, i64_w, i32_w]; rfl) ?_
                 refine qA 14 56 Q_15 HT_ ?_
                 refine qA 15 57 Q_16 HT_ ?_
                 refine qA 16 58 Q_17 HT_ ?_
                 refine qA 17 59 Q_18 HT_ ?_
                 refine qA 19 61 Q_19 HT_ ?_
                 refine qC 18 60 Q_20 HT_ HW_ hHeld ?_ (hy := by rintro w' ⟨s0, s1, s2, s3, s4, s5, s6, s7, s8, s9, s10⟩; go_simp; with_reducible rfl)
                 refine qA 20 62 Q_21 HT_ ?_
                 refine qC 21 63 Q_22 HT_ HW_ hHeld ?_ (hy := by rintro w' ⟨s0, s1, s2, s3, s4, s5, s6, s7, s8, s9, s10⟩; go_simp; with_reducible rfl)
                 refine one_ (i := 22) (N := some 64) Q_23 rfl rfl (one_of HT_.out (by kernel_rfl)) (by decide) (fun K hK => ?_)
                 refine goes_ Try.func92 (by kernel_rfl) rfl #[.int .i64 (rd l0_4 x4_2), .int .i64 1, .int .i64 40] (by rfl) rfl rfl (by (try simp only [zK, zL, zM]); first | done | rfl | (simp only [zN, zO]; rfl)) ?_
                 with_reducible refine (spec_l00In.calls (rd l0_4 x4_2) 1 40 true _ A23.out).mono ?_
                 rintro e w' ⟨rfl, ⟨nd, rfl⟩⟩
                 refine ⟨_, rfl, ?_⟩
                 refine hK.out _ _ ⟨(yG BK157.out 0).trans rfl, (yG BK157.out 1).trans rfl, (yG BK157.out 2).trans rfl, (yG BK157.out 3).trans rfl, (yG BK157.out 4).trans rfl, (yG BK157.out 5).trans rfl, ((HB.out.cell (zQ w _ hw158_0)).trans hw158_0), ((HB.out.cell (zQ w _ hw160_0)).trans hw160_0), ((HB.out.cell (zQ w _ hw162_0)).trans hw162_0), ((HB.out.cell (zQ w _ hw164_0)).trans hw164_0), ((HB.out.cell (zQ w _ hw165_0)).trans hw165_0)⟩ (fun hHeld => ?_)
                 clear hK K
                 refine norm_ (by show Act.put _ (some 64) _ = _; simp only [Act.put, zH, zI, zJ, i64_w, i32_w]; rfl) ?_
                 refine qA 23 65 Q_24 HT_ ?_
                 refine qA 24 66 Q_25 HT_ ?_
                 refine qA 25 67 Q_26 HT_ ?_
                 refine qA 26 68 Q_27 HT_ ?_
                 refine qA 28 70 Q_28 HT_ ?_
                 refine qA 31 73 Q_29 HT_ ?_
                 refine qA 33 75 Q_30 HT_ ?_
                 refine qC 27 69 Q_31 HT_ HW_ hHeld ?_ (hy := by rintro w' ⟨s0, s1, s2, s3, s4, s5, s6, s7, s8, s9, s10⟩; go_simp; with_reducible rfl)
                 refine qA 29 71 Q_32 HT_ ?_
                 refine qC 30 72 Q_33 HT_ HW_ hHeld ?_ (hy := by rintro w' ⟨s0, s1, s2, s3, s4, s5, s6, s7, s8, s9, s10⟩; go_simp; with_reducible rfl)
                 refine qC 32 74 Q_34 HT_ HW_ hHeld ?_ (hy := by rintro w' ⟨s0, s1, s2, s3, s4, s5, s6, s7, s8, s9, s10⟩; go_simp; with_reducible rfl)
                 refine qA 34 76 Q_35 HT_ ?_
                 refine qC 35 77 Q_36 HT_ HW_ hHeld ?_ (hy := by rintro w' ⟨s0, s1, s2, s3, s4, s5, s6, s7, s8, s9, s10⟩; go_simp; with_reducible rfl)
                 refine one_ (i := 36) (N := some 78) Q_37 rfl rfl (one_of HT_.out (by kernel_rfl)) (by decide) (fun K hK => ?_)
                 refine goes_ Try.func92 (by kernel_rfl) rfl #[.int .i64 (rd l0_2 x4_2), .int .i64 (rd l0_4 x4_2), .int .i64 40] (by rfl) rfl rfl (by (try simp only [zK, zL, zM]); first | done | rfl | (simp only [zN, zO]; rfl)) ?_
                 with_reducible refine (spec_l00In.calls (rd l0_2 x4_2) (rd l0_4 x4_2) 40 true _ A26.out).mono ?_
                 rintro e w' ⟨rfl, ⟨nd, rfl⟩⟩
                 refine ⟨_, rfl, ?_⟩
                 refine hK.out _ _ ⟨(yG BK157.out 0).trans rfl, (yG BK157.out 1).trans rfl, (yG BK157.out 2).trans rfl, (yG BK157.out 3).trans rfl, (yG BK157.out 4).trans rfl, (yG BK157.out 5).trans rfl, ((HB.out.cell (zQ w _ hw158_0)).trans hw158_0), ((HB.out.cell (zQ w _ hw160_0)).trans hw160_0), ((HB.out.cell (zQ w _ hw162_0)).trans hw162_0), ((HB.out.cell (zQ w _ hw164_0)).trans hw164_0), ((HB.out.cell (zQ w _ hw165_0)).trans hw165_0)⟩ (fun hHeld => ?_)
                 clear hK K
                 refine norm_ (by show Act.put _ (some 78) _ = _; simp only [Act.put, zH, zI, zJ, i64_w, i32_w]; rfl) ?_
                 refine qA 37 79 Q_38 HT_ ?_
                 refine qA 38 80 Q_39 HT_ ?_
                 refine qA 39 81 Q_40 HT_ ?_
                 refine qA 41 83 Q_41 HT_ ?_
                 refine qC 40 82 Q_42 HT_ HW_ hHeld ?_ (hy := by rintro w' ⟨s0, s1, s2, s3, s4, s5, s6, s7, s8, s9, s10⟩; go_simp; with_reducible rfl)
                 refine one_ (i := 42) (N := some 84) Q_43 rfl rfl (one_of HT_.out (by kernel_rfl)) (by decide) (fun K hK => ?_)
                 refine goes_ Try.func111 (by kernel_rfl) rfl #[.agg #[.int .i64 a0_0, .slice (some ad158) l0_1.length c0_1, .slice (some ad164) l0_2.length c0_2, .slice (some ad160) l0_3.length c0_3, .slice (some ad162) l0_4.length c0_4, .slice A0_5 l0_5.length c0_5], .int .i64 x4_2] (by rfl) rfl rfl (by (try simp only [zK, zL, zM]); first | done | rfl | (simp only [zN, zO]; rfl)) ?_
                 with_reducible refine (spec_l06End.calls a0_0 _ _ l0_1 _ _ l0_2 _ _ l0_3 _ _ l0_4 _ _ l0_5 x4_2 t167 _ ?side1 ?side2 ?side3 ?side4 ?side5 ?side6 ?side7 ?side8 ?side9 ?side10 A28.out).mono ?_
                 (case side1 => exact yY HR0_1.out (kB HB))
                 (case side2 => exact HC0_1.out)
                 (case side3 => exact yY HR0_2.out (kB HB))
                 (case side4 => exact HC0_2.out)
                 (case side5 => exact yY HR0_3.out (kB HB))
                 (case side6 => exact HC0_3.out)
                 (case side7 => exact yY HR0_4.out (kB HB))
                 (case side8 => exact HC0_4.out)
                 (case side9 => exact yY HR0_5.out (kB HB))
                 (case side10 => exact HC0_5.out)
                 rintro e w33 ⟨rfl, hb⟩
                 refine ⟨_, rfl, ?_⟩
                 have n0_ := yD (zB (kN BK157) hb)
                 have n1_ := yD (zC (kB HB) hb)
                 clear BK157 HB; have BK157 := n0_; have HB := n1_; clear n0_ n1_; (try clear hb); (try clear hb2); (try clear hk); (try clear hi)
                 refine hK.out _ _ ⟨(yG BK157.out 0).trans rfl, (yG BK157.out 1).trans rfl, (yG BK157.out 2).trans rfl, (yG BK157.out 3).trans rfl, (yG BK157.out 4).trans rfl, (yG BK157.out 5).trans rfl, ((HB.out.cell (zQ w _ hw158_0)).trans hw158_0), ((HB.out.cell (zQ w _ hw160_0)).trans hw160_0), ((HB.out.cell (zQ w _ hw162_0)).trans hw162_0), ((HB.out.cell (zQ w _ hw164_0)).trans hw164_0), ((HB.out.cell (zQ w _ hw165_0)).trans hw165_0)⟩ (fun hHeld => ?_)
                 clear hK K
                 refine norm_ (by show Act.put _ (some 84) _ = _; simp only [Act.put, zH, zI, zJ, i64_w, i32_w]; rfl) ?_
                 refine qA 43 85 Q_44 HT_ ?_
                 refine qA 44 86 Q_45 HT_ ?_
                 refine done_ (done_of HT_.out (by kernel_rfl)) ?_
                 try go_wp2
                 go_roundg k2
                 case measure => have := HJ1.out; have := HK2.out; omega
                 case rel => exact ⟨(wrap64 (x4_2 + 1)), (by first | rfl | (simp; done) | (simp [*]; done)), H', ⟨by have := HJ1.out; have := HK2.out; omega⟩, ⟨by (with_reducible repeat (first | refine yM ?_ _ | refine yO ?_ | refine yN ?_ _)); exact BK157.out⟩, ⟨kR0 HB⟩⟩
               ·
                replace c27 := Bool.eq_false_iff.mpr c27
                subst c27
                have H1 : (some false) = some r := by rw [if_neg (show ¬ (false = true) by decide)] at H; exact H
                clear H; have H := H1; clear H1; obtain rfl := Option.some.inj H
                try go_wp2
                have n0_ := yD (yO BK157.out)
                have n1_ := yD (yP HB.out)
                clear BK157 HB; have BK157 := n0_; have HB := n1_; clear n0_ n1_
                have p158 : 0 ≤ (x4_2 : Int) := zP (by assumption)
                have q158 : x4_2 < (l0_1.length : Int) := zP (by assumption)
                obtain ⟨ad158, e158, hx158_0⟩ := Kd.at_int HR0_1.out x4_2 p158 q158
                have hw158_0 := hx158_0; cases e158
                replace hx158_0 := (HB.out.cell (zQ w _ hx158_0)).trans hx158_0
                replace p158 := eq_true p158; replace q158 := eq_true q158
                have p160 : 0 ≤ (x4_2 : Int) := zP (by assumption)
                have q160 : x4_2 < (l0_3.length : Int) := zP (by assumption)
                obtain ⟨ad160, e160, hx160_0⟩ := Kd.at_int HR0_3.out x4_2 p160 q160
                have hw160_0 := hx160_0; cases e160
                replace hx160_0 := (HB.out.cell (zQ w _ hx160_0)).trans hx160_0
                replace p160 := eq_true p160; replace q160 := eq_true q160
                have p162 : 0 ≤ (x4_2 : Int) := zP (by assumption)
                have q162 : x4_2 < (l0_4.length : Int) := zP (by assumption)
                obtain ⟨ad162, e162, hx162_0⟩ := Kd.at_int HR0_4.out x4_2 p162 q162
                have hw162_0 := hx162_0; cases e162
                replace hx162_0 := (HB.out.cell (zQ w _ hx162_0)).trans hx162_0
                replace p162 := eq_true p162; replace q162 := eq_true q162
                have p164 : 0 ≤ (x4_2 : Int) := zP (by assumption)
                have q164 : x4_2 < (l0_2.length : Int) := zP (by assumption)
                obtain ⟨ad164, e164, hx164_0⟩ := Kd.at_int HR0_2.out x4_2 p164 q164
                have hw164_0 := hx164_0; cases e164
                replace hx164_0 := (HB.out.cell (zQ w _ hx164_0)).trans hx164_0
                replace p164 := eq_true p164; replace q164 := eq_true q164
                have p165 : 0 ≤ (x4_2 : Int) := zP (by assumption)
                have q165 : x4_2 < (l0_4.length : Int) := zP (by assumption)
                obtain ⟨ad165, e165, hx165_0⟩ := Kd.at_int HR0_4.out x4_2 p165 q165
                have hw165_0 := hx165_0
                obtain rfl : ad162 = ad165 := (by injection e165)
                replace hx165_0 := (HB.out.cell (zQ w _ hx165_0)).trans hx165_0
                replace p165 := eq_true p165; replace q165 := eq_true q165
                refine start_ (n := 45) (S := fun w' => w'.cell? ⟨gb157, 0, none⟩ = some (.int .i64 a0_0) ∧ w'.cell? ⟨gb157, 1, none⟩ = some (.slice (some ad158) l0_1.length c0_1) ∧ w'.cell? ⟨gb157, 2, none⟩ = some (.slice (some ad164) l0_2.length c0_2) ∧ w'.cell? ⟨gb157, 3, none⟩ = some (.slice (some ad160) l0_3.length c0_3) ∧ w'.cell? ⟨gb157, 4, none⟩ = some (.slice (some ad162) l0_4.length c0_4) ∧ w'.cell? ⟨gb157, 5, none⟩ = some (.slice A0_5 l0_5.length c0_5) ∧ w'.cell? (ad158.add (x4_2).toNat) = some (.int .i64 (rd l0_1 x4_2)) ∧ w'.cell? (ad160.add (x4_2).toNat) = some (.int .i64 (rd l0_3 x4_2)) ∧ w'.cell? (ad162.add (x4_2).toNat) = some (.int .i64 (rd l0_4 x4_2)) ∧ w'.cell? (ad164.add (x4_2).toNat) = some (.int .i64 (rd l0_2 x4_2)) ∧ w'.cell? (ad162.add (x4_2).toNat) = some (.int .i64 (rd l0_4 x4_2))) (ds := []) Q_0 (by kernel_rfl) rfl rfl ⟨(yG BK157.out 0).trans rfl, (yG BK157.out 1).trans rfl, (yG BK157.out 2).trans rfl, (yG BK157.out 3).trans rfl, (yG BK157.out 4).trans rfl, (yG BK157.out 5).trans rfl, ((HB.out.cell (zQ w _ hw158_0)).trans hw158_0), ((HB.out.cell (zQ w _ hw160_0)).trans hw160_0), ((HB.out.cell (zQ w _ hw162_0)).trans hw162_0), ((HB.out.cell (zQ w _ hw164_0)).trans hw164_0), ((HB.out.cell (zQ w _ hw165_0)).trans hw165_0)⟩ (fun hHeld => ?_); refine with_tabW spec_l06Slab.tab7 spec_l06Slab.bits7 (fun HT_ HW_ => ?_)
                generalize wr.drew = w34 at BK157 HB hx158_0 hx160_0 hx162_0 hx164_0 hx165_0 hHeld ⊢
                refine qA 0 42 Q_1 HT_ ?_
                refine qA 2 44 Q_2 HT_ ?_
                refine qC 1 43 Q_3 HT_ HW_ hHeld ?_ (hy := by rintro w' ⟨s0, s1, s2, s3, s4, s5, s6, s7, s8, s9, s10⟩; go_simp; with_reducible rfl)
                refine qA 3 45 Q_4 HT_ ?_
                refine qC 4 46 Q_5 HT_ HW_ hHeld ?_ (hy := by rintro w' ⟨s0, s1, s2, s3, s4, s5, s6, s7, s8, s9, s10⟩; go_simp; with_reducible rfl)
                refine one_ (i := 5) (N := some 47) Q_6 rfl rfl (one_of HT_.out (by kernel_rfl)) (by decide) (fun K hK => ?_)
                refine goes_ Try.func92 (by kernel_rfl) rfl #[.int .i64 (rd l0_1 x4_2), .int .i64 0, .int .i64 40] (by rfl) rfl rfl (by (try simp only [zK, zL, zM]); first | done | rfl | (simp only [zN, zO]; rfl)) ?_
                with_reducible refine (spec_l00In.calls (rd l0_1 x4_2) 0 40 true _ A17.out).mono ?_
                rintro e w' ⟨rfl, ⟨nd, rfl⟩⟩
                refine ⟨_, rfl, ?_⟩
                refine hK.out _ _ ⟨(yG BK157.out 0).trans rfl, (yG BK157.out 1).trans rfl, (yG BK157.out 2).trans rfl, (yG BK157.out 3).trans rfl, (yG BK157.out 4).trans rfl, (yG BK157.out 5).trans rfl, ((HB.out.cell (zQ w _ hw158_0)).trans hw158_0), ((HB.out.cell (zQ w _ hw160_0)).trans hw160_0), ((HB.out.cell (zQ w _ hw162_0)).trans hw162_0), ((HB.out.cell (zQ w _ hw164_0)).trans hw164_0), ((HB.out.cell (zQ w _ hw165_0)).trans hw165_0)⟩ (fun hHeld => ?_)
                clear hK K
                refine norm_ (by show Act.put _ (some 47) _ = _; simp only [Act.put, zH, zI, zJ, i64_w, i32_w]; rfl) ?_
                refine qA 6 48 Q_7 HT_ ?_
                refine qA 7 49 Q_8 HT_ ?_
                refine qA 8 50 Q_9 HT_ ?_
                refine qA 10 52 Q_10 HT_ ?_
                refine qC 9 51 Q_11 HT_ HW_ hHeld ?_ (hy := by rintro w' ⟨s0, s1, s2, s3, s4, s5, s6, s7, s8, s9, s10⟩; go_simp; with_reducible rfl)
                refine qA 11 53 Q_12 HT_ ?_
                refine qC 12 54 Q_13 HT_ HW_ hHeld ?_ (hy := by rintro w' ⟨s0, s1, s2, s3, s4, s5, s6, s7, s8, s9, s10⟩; go_simp; with_reducible rfl)
                refine one_ (i := 13) (N := some 55) Q_14 rfl rfl (one_of HT_.out (by kernel_rfl)) (by decide) (fun K hK => ?_)
                refine goes_ Try.func92 (by kernel_rfl) rfl #[.int .i64 (rd l0_3 x4_2), .int .i64 1, .int .i64 40] (by rfl) rfl rfl (by (try simp only [zK, zL, zM]); first | done | rfl | (simp only [zN, zO]; rfl)) ?_
                with_reducible refine (spec_l00In.calls (rd l0_3 x4_2) 1 40 true _ A20.out).mono ?_
                rintro e w' ⟨rfl, ⟨nd, rfl⟩⟩
                refine ⟨_, rfl, ?_⟩
                refine hK.out _ _ ⟨(yG BK157.out 0).trans rfl, (yG BK157.out 1).trans rfl, (yG BK157.out 2).trans rfl, (yG BK157.out 3).trans rfl, (yG BK157.out 4).trans rfl, (yG BK157.out 5).trans rfl, ((HB.out.cell (zQ w _ hw158_0)).trans hw158_0), ((HB.out.cell (zQ w _ hw160_0)).trans hw160_0), ((HB.out.cell (zQ w _ hw162_0)).trans hw162_0), ((HB.out.cell (zQ w _ hw164_0)).trans hw164_0), ((HB.out.cell (zQ w _ hw165_0)).trans hw165_0)⟩ (fun hHeld => ?_)
                clear hK K
                refine norm_ (by show Act.put _ (some 55) _ = _; simp only [Act.put, zH, zI, zJ, i64_w, i32_w]; rfl) ?_
                refine qA 14 56 Q_15 HT_ ?_
                refine qA 15 57 Q_16 HT_ ?_
                refine qA 16 58 Q_17 HT_ ?_
                refine qA 17 59 Q_18 HT_ ?_
                refine qA 19 61 Q_19 HT_ ?_
                refine qC 18 60 Q_20 HT_ HW_ hHeld ?_ (hy := by rintro w' ⟨s0, s1, s2, s3, s4, s5, s6, s7, s8, s9, s10⟩; go_simp; with_reducible rfl)
                refine qA 20 62 Q_21 HT_ ?_
                refine qC 21 63 Q_22 HT_ HW_ hHeld ?_ (hy := by rintro w' ⟨s0, s1, s2, s3, s4, s5, s6, s7, s8, s9, s10⟩; go_simp; with_reducible rfl)
                refine one_ (i := 22) (N := some 64) Q_23 rfl rfl (one_of HT_.out (by kernel_rfl)) (by decide) (fun K hK => ?_)
                refine goes_ Try.func92 (by kernel_rfl) rfl #[.int .i64 (rd l0_4 x4_2), .int .i64 1, .int .i64 40] (by rfl) rfl rfl (by (try simp only [zK, zL, zM]); first | done | rfl | (simp only [zN, zO]; rfl)) ?_
                with_reducible refine (spec_l00In.calls (rd l0_4 x4_2) 1 40 true _ A23.out).mono ?_
                rintro e w' ⟨rfl, ⟨nd, rfl⟩⟩
                refine ⟨_, rfl, ?_⟩
                refine hK.out _ _ ⟨(yG BK157.out 0).trans rfl, (yG BK157.out 1).trans rfl, (yG BK157.out 2).trans rfl, (yG BK157.out 3).trans rfl, (yG BK157.out 4).trans rfl, (yG BK157.out 5).trans rfl, ((HB.out.cell (zQ w _ hw158_0)).trans hw158_0), ((HB.out.cell (zQ w _ hw160_0)).trans hw160_0), ((HB.out.cell (zQ w _ hw162_0)).trans hw162_0), ((HB.out.cell (zQ w _ hw164_0)).trans hw164_0), ((HB.out.cell (zQ w _ hw165_0)).trans hw165_0)⟩ (fun hHeld => ?_)
                clear hK K
                refine norm_ (by show Act.put _ (some 64) _ = _; simp only [Act.put, zH, zI, zJ, i64_w, i32_w]; rfl) ?_
                refine qA 23 65 Q_24 HT_ ?_
                refine qA 24 66 Q_25 HT_ ?_
                refine qA 25 67 Q_26 HT_ ?_
                refine qA 26 68 Q_27 HT_ ?_
                refine qA 28 70 Q_28 HT_ ?_
                refine qA 31 73 Q_29 HT_ ?_
                refine qA 33 75 Q_30 HT_ ?_
                refine qC 27 69 Q_31 HT_ HW_ hHeld ?_ (hy := by rintro w' ⟨s0, s1, s2, s3, s4, s5, s6, s7, s8, s9, s10⟩; go_simp; with_reducible rfl)
                refine qA 29 71 Q_32 HT_ ?_
                refine qC 30 72 Q_33 HT_ HW_ hHeld ?_ (hy := by rintro w' ⟨s0, s1, s2, s3, s4, s5, s6, s7, s8, s9, s10⟩; go_simp; with_reducible rfl)
                refine qC 32 74 Q_34 HT_ HW_ hHeld ?_ (hy := by rintro w' ⟨s0, s1, s2, s3, s4, s5, s6, s7, s8, s9, s10⟩; go_simp; with_reducible rfl)
                refine qA 34 76 Q_35 HT_ ?_
                refine qC 35 77 Q_36 HT_ HW_ hHeld ?_ (hy := by rintro w' ⟨s0, s1, s2, s3, s4, s5, s6, s7, s8, s9, s10⟩; go_simp; with_reducible rfl)
                refine one_ (i := 36) (N := some 78) Q_37 rfl rfl (one_of HT_.out (by kernel_rfl)) (by decide) (fun K hK => ?_)
                refine goes_ Try.func92 (by kernel_rfl) rfl #[.int .i64 (rd l0_2 x4_2), .int .i64 (rd l0_4 x4_2), .int .i64 40] (by rfl) rfl rfl (by (try simp only [zK, zL, zM]); first | done | rfl | (simp only [zN, zO]; rfl)) ?_
                with_reducible refine (spec_l00In.calls (rd l0_2 x4_2) (rd l0_4 x4_2) 40 false _ A26.out).mono ?_
                rintro e w' ⟨rfl, ⟨nd, rfl⟩⟩
                refine ⟨_, rfl, ?_⟩
                refine hK.out _ _ ⟨(yG BK157.out 0).trans rfl, (yG BK157.out 1).trans rfl, (yG BK157.out 2).trans rfl, (yG BK157.out 3).trans rfl, (yG BK157.out 4).trans rfl, (yG BK157.out 5).trans rfl, ((HB.out.cell (zQ w _ hw158_0)).trans hw158_0), ((HB.out.cell (zQ w _ hw160_0)).trans hw160_0), ((HB.out.cell (zQ w _ hw162_0)).trans hw162_0), ((HB.out.cell (zQ w _ hw164_0)).trans hw164_0), ((HB.out.cell (zQ w _ hw165_0)).trans hw165_0)⟩ (fun hHeld => ?_)
                clear hK K
                refine norm_ (by show Act.put _ (some 78) _ = _; simp only [Act.put, zH, zI, zJ, i64_w, i32_w]; rfl) ?_
                refine qA 37 79 Q_38 HT_ ?_
                refine qA 38 80 Q_39 HT_ ?_
                refine qA 39 81 Q_40 HT_ ?_
                refine qB 40 82 Q_46 HT_ ?_
                refine qB 41 83 Q_42 HT_ ?_
                refine qB 42 84 Q_43 HT_ ?_
                refine qB 43 85 Q_44 HT_ ?_
                refine qA 44 86 Q_45 HT_ ?_
                refine done_ (done_of HT_.out (by kernel_rfl)) ?_
                try go_wp2
                go_ret
                exact ⟨by first | rfl | (simp <;> rfl) | (simp [*] <;> rfl), kR0 HB⟩
              ·
               rw [if_neg c25] at H
               exact absurd H (by simp)
             ·
              replace c24 := Bool.eq_false_iff.mpr c24
              subst c24
              have H1 : (some false) = some r := by rw [if_neg (show ¬ (false = true) by decide)] at H; exact H
              clear H; have H := H1; clear H1; obtain rfl := Option.some.inj H
              try go_wp2
              have n0_ := yD (yO BK157.out)
              have n1_ := yD (yP HB.out)
              clear BK157 HB; have BK157 := n0_; have HB := n1_; clear n0_ n1_
              have p158 : 0 ≤ (x4_2 : Int) := zP (by assumption)
              have q158 : x4_2 < (l0_1.length : Int) := zP (by assumption)
              obtain ⟨ad158, e158, hx158_0⟩ := Kd.at_int HR0_1.out x4_2 p158 q158
              have hw158_0 := hx158_0; cases e158
              replace hx158_0 := (HB.out.cell (zQ w _ hx158_0)).trans hx158_0
              replace p158 := eq_true p158; replace q158 := eq_true q158
              have p160 : 0 ≤ (x4_2 : Int) := zP (by assumption)
              have q160 : x4_2 < (l0_3.length : Int) := zP (by assumption)
              obtain ⟨ad160, e160, hx160_0⟩ := Kd.at_int HR0_3.out x4_2 p160 q160
              have hw160_0 := hx160_0; cases e160
              replace hx160_0 := (HB.out.cell (zQ w _ hx160_0)).trans hx160_0
              replace p160 := eq_true p160; replace q160 := eq_true q160
              have p162 : 0 ≤ (x4_2 : Int) := zP (by assumption)
              have q162 : x4_2 < (l0_4.length : Int) := zP (by assumption)
              obtain ⟨ad162, e162, hx162_0⟩ := Kd.at_int HR0_4.out x4_2 p162 q162
              have hw162_0 := hx162_0; cases e162
              replace hx162_0 := (HB.out.cell (zQ w _ hx162_0)).trans hx162_0
              replace p162 := eq_true p162; replace q162 := eq_true q162
              refine start_ (n := 45) (S := fun w' => w'.cell? ⟨gb157, 0, none⟩ = some (.int .i64 a0_0) ∧ w'.cell? ⟨gb157, 1, none⟩ = some (.slice (some ad158) l0_1.length c0_1) ∧ w'.cell? ⟨gb157, 2, none⟩ = some (.slice A0_2 l0_2.length c0_2) ∧ w'.cell? ⟨gb157, 3, none⟩ = some (.slice (some ad160) l0_3.length c0_3) ∧ w'.cell? ⟨gb157, 4, none⟩ = some (.slice (some ad162) l0_4.length c0_4) ∧ w'.cell? ⟨gb157, 5, none⟩ = some (.slice A0_5 l0_5.length c0_5) ∧ w'.cell? (ad158.add (x4_2).toNat) = some (.int .i64 (rd l0_1 x4_2)) ∧ w'.cell? (ad160.add (x4_2).toNat) = some (.int .i64 (rd l0_3 x4_2)) ∧ w'.cell? (ad162.add (x4_2).toNat) = some (.int .i64 (rd l0_4 x4_2))) (ds := []) Q_0 (by kernel_rfl) rfl rfl ⟨(yG BK157.out 0).trans rfl, (yG BK157.out 1).trans rfl, (yG BK157.out 2).trans rfl, (yG BK157.out 3).trans rfl, (yG BK157.out 4).trans rfl, (yG BK157.out 5).trans rfl, ((HB.out.cell (zQ w _ hw158_0)).trans hw158_0), ((HB.out.cell (zQ w _ hw160_0)).trans hw160_0), ((HB.out.cell (zQ w _ hw162_0)).trans hw162_0)⟩ (fun hHeld => ?_); refine with_tabW spec_l06Slab.tab7 spec_l06Slab.bits7 (fun HT_ HW_ => ?_)
              generalize wr.drew = w35 at BK157 HB hx158_0 hx160_0 hx162_0 hHeld ⊢
              refine qA 0 42 Q_1 HT_ ?_
              refine qA 2 44 Q_2 HT_ ?_
              refine qC 1 43 Q_3 HT_ HW_ hHeld ?_ (hy := by rintro w' ⟨s0, s1, s2, s3, s4, s5, s6, s7, s8⟩; go_simp; with_reducible rfl)
              refine qA 3 45 Q_4 HT_ ?_
              refine qC 4 46 Q_5 HT_ HW_ hHeld ?_ (hy := by rintro w' ⟨s0, s1, s2, s3, s4, s5, s6, s7, s8⟩; go_simp; with_reducible rfl)
              refine one_ (i := 5) (N := some 47) Q_6 rfl rfl (one_of HT_.out (by kernel_rfl)) (by decide) (fun K hK => ?_)
              refine goes_ Try.func92 (by kernel_rfl) rfl #[.int .i64 (rd l0_1 x4_2), .int .i64 0, .int .i64 40] (by rfl) rfl rfl (by (try simp only [zK, zL, zM]); first | done | rfl | (simp only [zN, zO]; rfl)) ?_
              with_reducible refine (spec_l00In.calls (rd l0_1 x4_2) 0 40 true _ A17.out).mono ?_
              rintro e w' ⟨rfl, ⟨nd, rfl⟩⟩
              refine ⟨_, rfl, ?_⟩
              refine hK.out _ _ ⟨(yG BK157.out 0).trans rfl, (yG BK157.out 1).trans rfl, (yG BK157.out 2).trans rfl, (yG BK157.out 3).trans rfl, (yG BK157.out 4).trans rfl, (yG BK157.out 5).trans rfl, ((HB.out.cell (zQ w _ hw158_0)).trans hw158_0), ((HB.out.cell (zQ w _ hw160_0)).trans hw160_0), ((HB.out.cell (zQ w _ hw162_0)).trans hw162_0)⟩ (fun hHeld => ?_)
              clear hK K
              refine norm_ (by show Act.put _ (some 47) _ = _; simp only [Act.put, zH, zI, zJ, i64_w, i32_w]; rfl) ?_
              refine qA 6 48 Q_7 HT_ ?_
              refine qA 7 49 Q_8 HT_ ?_
              refine qA 8 50 Q_9 HT_ ?_
              refine qA 10 52 Q_10 HT_ ?_
              refine qC 9 51 Q_11 HT_ HW_ hHeld ?_ (hy := by rintro w' ⟨s0, s1, s2, s3, s4, s5, s6, s7, s8⟩; go_simp; with_reducible rfl)
              refine qA 11 53 Q_12 HT_ ?_
              refine qC 12 54 Q_13 HT_ HW_ hHeld ?_ (hy := by rintro w' ⟨s0, s1, s2, s3, s4, s5, s6, s7, s8⟩; go_simp; with_reducible rfl)
              refine one_ (i := 13) (N := some 55) Q_14 rfl rfl (one_of HT_.out (by kernel_rfl)) (by decide) (fun K hK => ?_)
              refine goes_ Try.func92 (by kernel_rfl) rfl #[.int .i64 (rd l0_3 x4_2), .int .i64 1, .int .i64 40] (by rfl) rfl rfl (by (try simp only [zK, zL, zM]); first | done | rfl | (simp only [zN, zO]; rfl)) ?_
              with_reducible refine (spec_l00In.calls (rd l0_3 x4_2) 1 40 true _ A20.out).mono ?_
              rintro e w' ⟨rfl, ⟨nd, rfl⟩⟩
              refine ⟨_, rfl, ?_⟩
              refine hK.out _ _ ⟨(yG BK157.out 0).trans rfl, (yG BK157.out 1).trans rfl, (yG BK157.out 2).trans rfl, (yG BK157.out 3).trans rfl, (yG BK157.out 4).trans rfl, (yG BK157.out 5).trans rfl, ((HB.out.cell (zQ w _ hw158_0)).trans hw158_0), ((HB.out.cell (zQ w _ hw160_0)).trans hw160_0), ((HB.out.cell (zQ w _ hw162_0)).trans hw162_0)⟩ (fun hHeld => ?_)
              clear hK K
              refine norm_ (by show Act.put _ (some 55) _ = _; simp only [Act.put, zH, zI, zJ, i64_w, i32_w]; rfl) ?_
              refine qA 14 56 Q_15 HT_ ?_
              refine qA 15 57 Q_16 HT_ ?_
              refine qA 16 58 Q_17 HT_ ?_
              refine qA 17 59 Q_18 HT_ ?_
              refine qA 19 61 Q_19 HT_ ?_
              refine qC 18 60 Q_20 HT_ HW_ hHeld ?_ (hy := by rintro w' ⟨s0, s1, s2, s3, s4, s5, s6, s7, s8⟩; go_simp; with_reducible rfl)
              refine qA 20 62 Q_21 HT_ ?_
              refine qC 21 63 Q_22 HT_ HW_ hHeld ?_ (hy := by rintro w' ⟨s0, s1, s2, s3, s4, s5, s6, s7, s8⟩; go_simp; with_reducible rfl)
              refine one_ (i := 22) (N := some 64) Q_23 rfl rfl (one_of HT_.out (by kernel_rfl)) (by decide) (fun K hK => ?_)
              refine goes_ Try.func92 (by kernel_rfl) rfl #[.int .i64 (rd l0_4 x4_2), .int .i64 1, .int .i64 40] (by rfl) rfl rfl (by (try simp only [zK, zL, zM]); first | done | rfl | (simp only [zN, zO]; rfl)) ?_
              with_reducible refine (spec_l00In.calls (rd l0_4 x4_2) 1 40 false _ A23.out).mono ?_
              rintro e w' ⟨rfl, ⟨nd, rfl⟩⟩
              refine ⟨_, rfl, ?_⟩
              refine hK.out _ _ ⟨(yG BK157.out 0).trans rfl, (yG BK157.out 1).trans rfl, (yG BK157.out 2).trans rfl, (yG BK157.out 3).trans rfl, (yG BK157.out 4).trans rfl, (yG BK157.out 5).trans rfl, ((HB.out.cell (zQ w _ hw158_0)).trans hw158_0), ((HB.out.cell (zQ w _ hw160_0)).trans hw160_0), ((HB.out.cell (zQ w _ hw162_0)).trans hw162_0)⟩ (fun hHeld => ?_)
              clear hK K
              refine norm_ (by show Act.put _ (some 64) _ = _; simp only [Act.put, zH, zI, zJ, i64_w, i32_w]; rfl) ?_
              refine qA 23 65 Q_24 HT_ ?_
              refine qA 24 66 Q_25 HT_ ?_
              refine qA 25 67 Q_26 HT_ ?_
              refine qB 26 68 Q_27 HT_ ?_
              refine qB 27 69 Q_47 HT_ ?_
              refine qB 28 70 Q_48 HT_ ?_
              refine qB 29 71 Q_49 HT_ ?_
              refine qB 30 72 Q_50 HT_ ?_
              refine qB 31 73 Q_51 HT_ ?_
              refine qB 32 74 Q_52 HT_ ?_
              refine qB 33 75 Q_34 HT_ ?_
              refine qB 34 76 Q_35 HT_ ?_
              refine qB 35 77 Q_36 HT_ ?_
              refine qB 36 78 Q_37 HT_ ?_
              refine qB 37 79 Q_38 HT_ ?_
              refine qA 38 80 Q_39 HT_ ?_
              refine qA 39 81 Q_40 HT_ ?_
              refine qB 40 82 Q_46 HT_ ?_
              refine qB 41 83 Q_42 HT_ ?_
              refine qB 42 84 Q_43 HT_ ?_
              refine qB 43 85 Q_44 HT_ ?_
              refine qA 44 86 Q_45 HT_ ?_
              refine done_ (done_of HT_.out (by kernel_rfl)) ?_
              try go_wp2
              go_ret
              exact ⟨by first | rfl | (simp <;> rfl) | (simp [*] <;> rfl), kR0 HB⟩
            ·
             rw [if_neg c22] at H
             exact absurd H (by simp)
           ·
            replace c21 := Bool.eq_false_iff.mpr c21
            subst c21
            have H1 : (some false) = some r := by rw [if_neg (show ¬ (false = true) by decide)] at H; exact H
            clear H; have H := H1; clear H1; obtain rfl := Option.some.inj H
            try go_wp2
            have n0_ := yD (yO BK157.out)
            have n1_ := yD (yP HB.out)
            clear BK157 HB; have BK157 := n0_; have HB := n1_; clear n0_ n1_
            have p158 : 0 ≤ (x4_2 : Int) := zP (by assumption)
            have q158 : x4_2 < (l0_1.length : Int) := zP (by assumption)
            obtain ⟨ad158, e158, hx158_0⟩ := Kd.at_int HR0_1.out x4_2 p158 q158
            have hw158_0 := hx158_0; cases e158
            replace hx158_0 := (HB.out.cell (zQ w _ hx158_0)).trans hx158_0
            replace p158 := eq_true p158; replace q158 := eq_true q158
            have p160 : 0 ≤ (x4_2 : Int) := zP (by assumption)
            have q160 : x4_2 < (l0_3.length : Int) := zP (by assumption)
            obtain ⟨ad160, e160, hx160_0⟩ := Kd.at_int HR0_3.out x4_2 p160 q160
            have hw160_0 := hx160_0; cases e160
            replace hx160_0 := (HB.out.cell (zQ w _ hx160_0)).trans hx160_0
            replace p160 := eq_true p160; replace q160 := eq_true q160
            refine start_ (n := 45) (S := fun w' => w'.cell? ⟨gb157, 0, none⟩ = some (.int .i64 a0_0) ∧ w'.cell? ⟨gb157, 1, none⟩ = some (.slice (some ad158) l0_1.length c0_1) ∧ w'.cell? ⟨gb157, 2, none⟩ = some (.slice A0_2 l0_2.length c0_2) ∧ w'.cell? ⟨gb157, 3, none⟩ = some (.slice (some ad160) l0_3.length c0_3) ∧ w'.cell? ⟨gb157, 4, none⟩ = some (.slice A0_4 l0_4.length c0_4) ∧ w'.cell? ⟨gb157, 5, none⟩ = some (.slice A0_5 l0_5.length c0_5) ∧ w'.cell? (ad158.add (x4_2).toNat) = some (.int .i64 (rd l0_1 x4_2)) ∧ w'.cell? (ad160.add (x4_2).toNat) = some (.int .i64 (rd l0_3 x4_2))) (ds := []) Q_0 (by kernel_rfl) rfl rfl ⟨(yG BK157.out 0).trans rfl, (yG BK157.out 1).trans rfl, (yG BK157.out 2).trans rfl, (yG BK157.out 3).trans rfl, (yG BK157.out 4).trans rfl, (yG BK157.out 5).trans rfl, ((HB.out.cell (zQ w _ hw158_0)).trans hw158_0), ((HB.out.cell (zQ w _ hw160_0)).trans hw160_0)⟩ (fun hHeld => ?_); refine with_tabW spec_l06Slab.tab7 spec_l06Slab.bits7 (fun HT_ HW_ => ?_)
            generalize wr.drew = w36 at BK157 HB hx158_0 hx160_0 hHeld ⊢
            refine qA 0 42 Q_1 HT_ ?_
            refine qA 2 44 Q_2 HT_ ?_
            refine qC 1 43 Q_3 HT_ HW_ hHeld ?_ (hy := by rintro w' ⟨s0, s1, s2, s3, s4, s5, s6, s7⟩; go_simp; with_reducible rfl)
            refine qA 3 45 Q_4 HT_ ?_
            refine qC 4 46 Q_5 HT_ HW_ hHeld ?_ (hy := by rintro w' ⟨s0, s1, s2, s3, s4, s5, s6, s7⟩; go_simp; with_reducible rfl)
            refine one_ (i := 5) (N := some 47) Q_6 rfl rfl (one_of HT_.out (by kernel_rfl)) (by decide) (fun K hK => ?_)
            refine goes_ Try.func92 (by kernel_rfl) rfl #[.int .i64 (rd l0_1 x4_2), .int .i64 0, .int .i64 40] (by rfl) rfl rfl (by (try simp only [zK, zL, zM]); first | done | rfl | (simp only [zN, zO]; rfl)) ?_
            with_reducible refine (spec_l00In.calls (rd l0_1 x4_2) 0 40 true _ A17.out).mono ?_
            rintro e w' ⟨rfl, ⟨nd, rfl⟩⟩
            refine ⟨_, rfl, ?_⟩
            refine hK.out _ _ ⟨(yG BK157.out 0).trans rfl, (yG BK157.out 1).trans rfl, (yG BK157.out 2).trans rfl, (yG BK157.out 3).trans rfl, (yG BK157.out 4).trans rfl, (yG BK157.out 5).trans rfl, ((HB.out.cell (zQ w _ hw158_0)).trans hw158_0), ((HB.out.cell (zQ w _ hw160_0)).trans hw160_0)⟩ (fun hHeld => ?_)
            clear hK K
            refine norm_ (by show Act.put _ (some 47) _ = _; simp only [Act.put, zH, zI, zJ, i64_w, i32_w]; rfl) ?_
            refine qA 6 48 Q_7 HT_ ?_
            refine qA 7 49 Q_8 HT_ ?_
            refine qA 8 50 Q_9 HT_ ?_
            refine qA 10 52 Q_10 HT_ ?_
            refine qC 9 51 Q_11 HT_ HW_ hHeld ?_ (hy := by rintro w' ⟨s0, s1, s2, s3, s4, s5, s6, s7⟩; go_simp; with_reducible rfl)
            refine qA 11 53 Q_12 HT_ ?_
            refine qC 12 54 Q_13 HT_ HW_ hHeld ?_ (hy := by rintro w' ⟨s0, s1, s2, s3, s4, s5, s6, s7⟩; go_simp; with_reducible rfl)
            refine one_ (i := 13) (N := some 55) Q_14 rfl rfl (one_of HT_.out (by kernel_rfl)) (by decide) (fun K hK => ?_)
            refine goes_ Try.func92 (by kernel_rfl) rfl #[.int .i64 (rd l0_3 x4_2), .int .i64 1, .int .i64 40] (by rfl) rfl rfl (by (try simp only [zK, zL, zM]); first | done | rfl | (simp only [zN, zO]; rfl)) ?_
            with_reducible refine (spec_l00In.calls (rd l0_3 x4_2) 1 40 false _ A20.out).mono ?_
            rintro e w' ⟨rfl, ⟨nd, rfl⟩⟩
            refine ⟨_, rfl, ?_⟩
            refine hK.out _ _ ⟨(yG BK157.out 0).trans rfl, (yG BK157.out 1).trans rfl, (yG BK157.out 2).trans rfl, (yG BK157.out 3).trans rfl, (yG BK157.out 4).trans rfl, (yG BK157.out 5).trans rfl, ((HB.out.cell (zQ w _ hw158_0)).trans hw158_0), ((HB.out.cell (zQ w _ hw160_0)).trans hw160_0)⟩ (fun hHeld => ?_)
            clear hK K
            refine norm_ (by show Act.put _ (some 55) _ = _; simp only [Act.put, zH, zI, zJ, i64_w, i32_w]; rfl) ?_
            refine qA 14 56 Q_15 HT_ ?_
            refine qA 15 57 Q_16 HT_ ?_
            refine qA 16 58 Q_17 HT_ ?_
            refine qB 17 59 Q_18 HT_ ?_
            refine qB 18 60 Q_53 HT_ ?_
            refine qB 19 61 Q_20 HT_ ?_
            refine qB 20 62 Q_21 HT_ ?_
            refine qB 21 63 Q_22 HT_ ?_
            refine qB 22 64 Q_23 HT_ ?_
            refine qB 23 65 Q_24 HT_ ?_
            refine qA 24 66 Q_25 HT_ ?_
            refine qA 25 67 Q_26 HT_ ?_
            refine qB 26 68 Q_27 HT_ ?_
            refine qB 27 69 Q_47 HT_ ?_
            refine qB 28 70 Q_48 HT_ ?_
            refine qB 29 71 Q_49 HT_ ?_
            refine qB 30 72 Q_50 HT_ ?_
            refine qB 31 73 Q_51 HT_ ?_
            refine qB 32 74 Q_52 HT_ ?_
            refine qB 33 75 Q_34 HT_ ?_
            refine qB 34 76 Q_35 HT_ ?_
            refine qB 35 77 Q_36 HT_ ?_
            refine qB 36 78 Q_37 HT_ ?_
            refine qB 37 79 Q_38 HT_ ?_
            refine qA 38 80 Q_39 HT_ ?_
            refine qA 39 81 Q_40 HT_ ?_
            refine qB 40 82 Q_46 HT_ ?_
            refine qB 41 83 Q_42 HT_ ?_
            refine qB 42 84 Q_43 HT_ ?_
            refine qB 43 85 Q_44 HT_ ?_
            refine qA 44 86 Q_45 HT_ ?_
            refine done_ (done_of HT_.out (by kernel_rfl)) ?_
            try go_wp2
            go_ret
            exact ⟨by first | rfl | (simp <;> rfl) | (simp [*] <;> rfl), kR0 HB⟩
          ·
           rw [if_neg c19] at H
           exact absurd H (by simp)
         ·
          replace c18 := Bool.eq_false_iff.mpr c18
          subst c18
          have H1 : (some false) = some r := by rw [if_neg (show ¬ (false = true) by decide)] at H; exact H
          clear H; have H := H1; clear H1; obtain rfl := Option.some.inj H
          try go_wp2
          have n0_ := yD (yO BK157.out)
          have n1_ := yD (yP HB.out)
          clear BK157 HB; have BK157 := n0_; have HB := n1_; clear n0_ n1_
          have p158 : 0 ≤ (x4_2 : Int) := zP (by assumption)
          have q158 : x4_2 < (l0_1.length : Int) := zP (by assumption)
          obtain ⟨ad158, e158, hx158_0⟩ := Kd.at_int HR0_1.out x4_2 p158 q158
          have hw158_0 := hx158_0; cases e158
          replace hx158_0 := (HB.out.cell (zQ w _ hx158_0)).trans hx158_0
          replace p158 := eq_true p158; replace q158 := eq_true q158
          refine start_ (n := 45) (S := fun w' => w'.cell? ⟨gb157, 0, none⟩ = some (.int .i64 a0_0) ∧ w'.cell? ⟨gb157, 1, none⟩ = some (.slice (some ad158) l0_1.length c0_1) ∧ w'.cell? ⟨gb157, 2, none⟩ = some (.slice A0_2 l0_2.length c0_2) ∧ w'.cell? ⟨gb157, 3, none⟩ = some (.slice A0_3 l0_3.length c0_3) ∧ w'.cell? ⟨gb157, 4, none⟩ = some (.slice A0_4 l0_4.length c0_4) ∧ w'.cell? ⟨gb157, 5, none⟩ = some (.slice A0_5 l0_5.length c0_5) ∧ w'.cell? (ad158.add (x4_2).toNat) = some (.int .i64 (rd l0_1 x4_2))) (ds := []) Q_0 (by kernel_rfl) rfl rfl ⟨(yG BK157.out 0).trans rfl, (yG BK157.out 1).trans rfl, (yG BK157.out 2).trans rfl, (yG BK157.out 3).trans rfl, (yG BK157.out 4).trans rfl, (yG BK157.out 5).trans rfl, ((HB.out.cell (zQ w _ hw158_0)).trans hw158_0)⟩ (fun hHeld => ?_); refine with_tabW spec_l06Slab.tab7 spec_l06Slab.bits7 (fun HT_ HW_ => ?_)
          generalize wr.drew = w37 at BK157 HB hx158_0 hHeld ⊢
          refine qA 0 42 Q_1 HT_ ?_
          refine qA 2 44 Q_2 HT_ ?_
          refine qC 1 43 Q_3 HT_ HW_ hHeld ?_ (hy := by rintro w' ⟨s0, s1, s2, s3, s4, s5, s6⟩; go_simp; with_reducible rfl)
          refine qA 3 45 Q_4 HT_ ?_
          refine qC 4 46 Q_5 HT_ HW_ hHeld ?_ (hy := by rintro w' ⟨s0, s1, s2, s3, s4, s5, s6⟩; go_simp; with_reducible rfl)
          refine one_ (i := 5) (N := some 47) Q_6 rfl rfl (one_of HT_.out (by kernel_rfl)) (by decide) (fun K hK => ?_)
          refine goes_ Try.func92 (by kernel_rfl) rfl #[.int .i64 (rd l0_1 x4_2), .int .i64 0, .int .i64 40] (by rfl) rfl rfl (by (try simp only [zK, zL, zM]); first | done | rfl | (simp only [zN, zO]; rfl)) ?_
          with_reducible refine (spec_l00In.calls (rd l0_1 x4_2) 0 40 false _ A17.out).mono ?_
          rintro e w' ⟨rfl, ⟨nd, rfl⟩⟩
          refine ⟨_, rfl, ?_⟩
          refine hK.out _ _ ⟨(yG BK157.out 0).trans rfl, (yG BK157.out 1).trans rfl, (yG BK157.out 2).trans rfl, (yG BK157.out 3).trans rfl, (yG BK157.out 4).trans rfl, (yG BK157.out 5).trans rfl, ((HB.out.cell (zQ w _ hw158_0)).trans hw158_0)⟩ (fun hHeld => ?_)
          clear hK K
          refine norm_ (by show Act.put _ (some 47) _ = _; simp only [Act.put, zH, zI, zJ, i64_w, i32_w]; rfl) ?_
          refine qA 6 48 Q_7 HT_ ?_
          refine qA 7 49 Q_8 HT_ ?_
          refine qB 8 50 Q_9 HT_ ?_
          refine qB 9 51 Q_54 HT_ ?_
          refine qB 10 52 Q_11 HT_ ?_
          refine qB 11 53 Q_12 HT_ ?_
          refine qB 12 54 Q_13 HT_ ?_
          refine qB 13 55 Q_14 HT_ ?_
          refine qB 14 56 Q_15 HT_ ?_
          refine qA 15 57 Q_16 HT_ ?_
          refine qA 16 58 Q_17 HT_ ?_
          refine qB 17 59 Q_18 HT_ ?_
          refine qB 18 60 Q_53 HT_ ?_
          refine qB 19 61 Q_20 HT_ ?_
          refine qB 20 62 Q_21 HT_ ?_
          refine qB 21 63 Q_22 HT_ ?_
          refine qB 22 64 Q_23 HT_ ?_
          refine qB 23 65 Q_24 HT_ ?_
          refine qA 24 66 Q_25 HT_ ?_
          refine qA 25 67 Q_26 HT_ ?_
          refine qB 26 68 Q_27 HT_ ?_
          refine qB 27 69 Q_47 HT_ ?_
          refine qB 28 70 Q_48 HT_ ?_
          refine qB 29 71 Q_49 HT_ ?_
          refine qB 30 72 Q_50 HT_ ?_
          refine qB 31 73 Q_51 HT_ ?_
          refine qB 32 74 Q_52 HT_ ?_
          refine qB 33 75 Q_34 HT_ ?_
          refine qB 34 76 Q_35 HT_ ?_
          refine qB 35 77 Q_36 HT_ ?_
          refine qB 36 78 Q_37 HT_ ?_
          refine qB 37 79 Q_38 HT_ ?_
          refine qA 38 80 Q_39 HT_ ?_
          refine qA 39 81 Q_40 HT_ ?_
          refine qB 40 82 Q_46 HT_ ?_
          refine qB 41 83 Q_42 HT_ ?_
          refine qB 42 84 Q_43 HT_ ?_
          refine qB 43 85 Q_44 HT_ ?_
          refine qA 44 86 Q_45 HT_ ?_
          refine done_ (done_of HT_.out (by kernel_rfl)) ?_
          try go_wp2
          go_ret
          exact ⟨by first | rfl | (simp <;> rfl) | (simp [*] <;> rfl), kR0 HB⟩
        ·
         rw [if_neg c16] at H
         exact absurd H (by simp)
       ·
        rw [if_neg c15] at H
        exact absurd H (by simp)
      ·
       rw [if_neg c14] at H; have c14b0 : decide (x4_2 < (l0_1.length : Int)) = false := zS c14; clear c14; obtain rfl := Option.some.inj H
       go_wp2
       go_ret
       exact ⟨by first | rfl | (simp <;> rfl) | (simp [*] <;> rfl), kR0 HB⟩

end Go.Proofs.Ytdiaebjbiddefaa.PFnExactSelectedIndices
