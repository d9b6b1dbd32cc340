/- Each Go function here comes to what the plain function of its name says, where that says something. Made by a program of this session, over the print. -/
import Derived.Test.YtdiaebjbiddefaaPFnExactSelectedIndicesx0
import Derived.Test.YtdiaebjbiddefaaPFnExactSelectedIndicesx7
import Derived.Test.YtdiaebjbiddefaaPFnExactSelectedIndicesx9
namespace Go.Proofs.Ytdiaebjbiddefaa.PFnExactSelectedIndices
open Go.RowKit Go.Proofs.YtdiaebjbiddefaaW.PrintWords Go.Proofs.YtdiaebjbiddefaaW.PrintLast Go.Proofs.YtdiaebjbiddefaaW.PrintMore
attribute [local go_sem] max2_int min2_int max_two min_two max_three min_three max_four min_four   -- for this text's walks alone
set_option linter.unusedVariables false
set_option linter.unusedSimpArgs false

/-! ### impl_Selection_slabFormed: function 138 -/
mutual
def impl_Selection_slabFormed.j0 : Nat → Int → Bool → Int → List Int → List Int → List Int → List Int → List (S110) → Option (Bool)
 | 0, _, _, _, _, _, _, _, _ => none
 | k + 1, x3, x30, x281000, x281001, x281002, x281003, x281004, x281005 => if x30 = true then (some false) else (impl_Selection_slabFormed.l0 k x3 0 x281000 x281001 x281002 x281003 x281004 x281005)
def impl_Selection_slabFormed.l0 : Nat → Int → Int → Int → List Int → List Int → List Int → List Int → List (S110) → Option (Bool)
 | 0, _, _, _, _, _, _, _, _ => none
 | k + 1, x31, x32, x281000, x281001, x281002, x281003, x281004, x281005 => if x32 < x31 then (if 0 ≤ x32 then (if x32 < (x281001.length : Int) then ((impl_within.f (rd x281001 x32) 0 40).bind fun t282 => (if t282 = true then (if x32 < (x281003.length : Int) then ((impl_within.f (rd x281003 x32) 1 40).bind fun t284 => (if t284 = true then (if x32 < (x281004.length : Int) then ((impl_within.f (rd x281004 x32) 1 40).bind fun t286 => (if t286 = true then (if x32 < (x281002.length : Int) then ((impl_within.f (rd x281002 x32) (rd x281004 x32) 40).bind fun t289 => (if t289 = true then ((impl_Selection_end.f x281000 x281001 x281002 x281003 x281004 x281005 x32).bind fun t290 => (if t290 > 40 then (some false) else (impl_Selection_slabFormed.l0 k x31 (wrap64 (x32 + 1)) x281000 x281001 x281002 x281003 x281004 x281005))) else (some false))) else (none)) else (some false))) else (none)) else (some false))) else (none)) else (some false))) else (none)) else (none)) else (some true)
end
def impl_Selection_slabFormed.f (k : Nat) (a0_0 : Int) (l0_1 : List Int) (l0_2 : List Int) (l0_3 : List Int) (l0_4 : List Int) (l0_5 : List (S110)) : Option (Bool) := if (l0_1.length : Int) > 3 then (impl_Selection_slabFormed.j0 k (l0_1.length : Int) true a0_0 l0_1 l0_2 l0_3 l0_4 l0_5) else (if (l0_2.length : Int) = (l0_1.length : Int) then (if (l0_3.length : Int) = (l0_1.length : Int) then (impl_Selection_slabFormed.j0 k (l0_1.length : Int) ((l0_4.length : Int) != (l0_1.length : Int)) a0_0 l0_1 l0_2 l0_3 l0_4 l0_5) else (impl_Selection_slabFormed.j0 k (l0_1.length : Int) true a0_0 l0_1 l0_2 l0_3 l0_4 l0_5)) else (impl_Selection_slabFormed.j0 k (l0_1.length : Int) true a0_0 l0_1 l0_2 l0_3 l0_4 l0_5))
theorem impl_Selection_slabFormed.mono_l : ∀ k, (∀ y0 y1 y2 y3 y4 y5 y6 y7, LeO (impl_Selection_slabFormed.j0 k y0 y1 y2 y3 y4 y5 y6 y7) (impl_Selection_slabFormed.j0 (k + 1) y0 y1 y2 y3 y4 y5 y6 y7)) ∧ (∀ y0 y1 y2 y3 y4 y5 y6 y7, LeO (impl_Selection_slabFormed.l0 k y0 y1 y2 y3 y4 y5 y6 y7) (impl_Selection_slabFormed.l0 (k + 1) y0 y1 y2 y3 y4 y5 y6 y7))
 | 0 => ⟨fun _ _ _ _ _ _ _ _ r h => by simp [impl_Selection_slabFormed.j0] at h, fun _ _ _ _ _ _ _ _ r h => by simp [impl_Selection_slabFormed.l0] at h⟩
 | k + 1 => by
  obtain ⟨ih0, ih1⟩ := impl_Selection_slabFormed.mono_l k
  refine ⟨?_, ?_⟩
  ·
   intro y0 y1 y2 y3 y4 y5 y6 y7
   unfold impl_Selection_slabFormed.j0
   repeat' (with_reducible first | exact ih0 _ _ _ _ _ _ _ _ | exact ih1 _ _ _ _ _ _ _ _ | exact LeO.refl _ | exact LeO.none _ | refine LeO.ite ?_ ?_ | refine LeO.bind ?_ (fun _ => ?_))
  ·
   intro y0 y1 y2 y3 y4 y5 y6 y7
   unfold impl_Selection_slabFormed.l0
   repeat' (with_reducible first | exact ih0 _ _ _ _ _ _ _ _ | exact ih1 _ _ _ _ _ _ _ _ | exact LeO.refl _ | exact LeO.none _ | refine LeO.ite ?_ ?_ | refine LeO.bind ?_ (fun _ => ?_))
theorem impl_Selection_slabFormed.mono : ∀ a0 a1 a2 a3 a4 a5 k, LeO (impl_Selection_slabFormed.f k a0 a1 a2 a3 a4 a5) (impl_Selection_slabFormed.f (k + 1) a0 a1 a2 a3 a4 a5) := by
 intro a0 a1 a2 a3 a4 a5 k
 obtain ⟨ih0, ih1⟩ := impl_Selection_slabFormed.mono_l k
 unfold impl_Selection_slabFormed.f
 repeat' (with_reducible first | exact ih0 _ _ _ _ _ _ _ _ | exact ih1 _ _ _ _ _ _ _ _ | exact LeO.refl _ | exact LeO.none _ | refine LeO.ite ?_ ?_ | refine LeO.bind ?_ (fun _ => ?_))
def impl_Selection_slabFormed.T7 : Bool × List (List Nat × List Nat) := (true, [([], []), ([0], [0]), ([], []), ([1, 2], [1, 2]), ([3], [3]), ([4], [4]), ([5], [5]), ([6, 5], [6]), ([7], [7]), ([8, 7], [7, 8]), ([7], [7]), ([9, 10, 7], [7, 9, 10]), ([11, 7], [7, 11]), ([12, 7, 7], [7, 12]), ([13, 7], [7, 13]), ([7, 14], [7, 14]), ([15, 13], [15]), ([16], [16]), ([17, 16], [16, 17]), ([16], [16]), ([18, 19, 16], [16, 18, 19]), ([20, 16], [16, 20]), ([21, 16, 16], [16, 21]), ([22, 16], [16, 22]), ([16, 23], [16, 23]), ([24, 22], [24]), ([25], [25]), ([26, 25], [25, 26]), ([25], [25]), ([27, 28, 25], [25, 27, 28]), ([29, 25], [25, 29]), ([25], [25]), ([31, 25], [25, 31]), ([25], [25]), ([32, 33, 25], [25, 32, 33]), ([34, 25], [25, 34]), ([30, 35, 25, 25], [25, 30, 35]), ([36, 25], [25, 36]), ([25, 37], [25, 37]), ([38, 36], [38]), ([39], [39]), ([39], [39]), ([40, 41, 39, 39], [39, 40, 41]), ([42, 39], [39, 42]), ([39, 43], [39, 43])])
def impl_Selection_slabFormed.B7 : List Nat := [0, 1, 0, 7, 15, 31, 63, 127, 255, 511, 255, 2047, 4095, 8191, 16383, 32767, 65535, 131071, 262143, 131071, 1048575, 2097151, 4194303, 8388607, 16777215, 33554431, 67108863, 134217727, 67108863, 536870911, 1073741823, 67108863, 2214592511, 67108863, 15099494399, 32279363583, 68719476735, 137438953471, 274877906943, 549755813887, 1099511627775, 1099511627775, 4398046511103, 8796093022207, 17592186044415]
theorem impl_Selection_slabFormed.tab7 : rtab .any (opsOf Try.f138 7) = impl_Selection_slabFormed.T7 := by kernel_rfl
theorem impl_Selection_slabFormed.bits7 : waitsOk impl_Selection_slabFormed.T7.2 impl_Selection_slabFormed.B7 = true := by kernel_rfl
abbrev impl_Selection_slabFormed.Q_0 : Array Bool := (bz 45 0)
abbrev impl_Selection_slabFormed.Q_1 : Array Bool := (bz 45 1)
abbrev impl_Selection_slabFormed.Q_2 : Array Bool := (bz 45 5)
abbrev impl_Selection_slabFormed.Q_3 : Array Bool := (bz 45 7)
abbrev impl_Selection_slabFormed.Q_4 : Array Bool := (bz 45 15)
abbrev impl_Selection_slabFormed.Q_5 : Array Bool := (bz 45 31)
abbrev impl_Selection_slabFormed.Q_6 : Array Bool := (bz 45 63)
abbrev impl_Selection_slabFormed.Q_7 : Array Bool := (bz 45 127)
abbrev impl_Selection_slabFormed.Q_8 : Array Bool := (bz 45 255)
abbrev impl_Selection_slabFormed.Q_9 : Array Bool := (bz 45 511)
abbrev impl_Selection_slabFormed.Q_10 : Array Bool := (bz 45 1535)
abbrev impl_Selection_slabFormed.Q_11 : Array Bool := (bz 45 2047)
abbrev impl_Selection_slabFormed.Q_12 : Array Bool := (bz 45 4095)
abbrev impl_Selection_slabFormed.Q_13 : Array Bool := (bz 45 8191)
abbrev impl_Selection_slabFormed.Q_14 : Array Bool := (bz 45 16383)
abbrev impl_Selection_slabFormed.Q_15 : Array Bool := (bz 45 32767)
abbrev impl_Selection_slabFormed.Q_16 : Array Bool := (bz 45 65535)
abbrev impl_Selection_slabFormed.Q_17 : Array Bool := (bz 45 131071)
abbrev impl_Selection_slabFormed.Q_18 : Array Bool := (bz 45 262143)
abbrev impl_Selection_slabFormed.Q_19 : Array Bool := (bz 45 786431)
abbrev impl_Selection_slabFormed.Q_20 : Array Bool := (bz 45 1048575)
abbrev impl_Selection_slabFormed.Q_21 : Array Bool := (bz 45 2097151)
abbrev impl_Selection_slabFormed.Q_22 : Array Bool := (bz 45 4194303)
abbrev impl_Selection_slabFormed.Q_23 : Array Bool := (bz 45 8388607)
abbrev impl_Selection_slabFormed.Q_24 : Array Bool := (bz 45 16777215)
abbrev impl_Selection_slabFormed.Q_25 : Array Bool := (bz 45 33554431)
abbrev impl_Selection_slabFormed.Q_26 : Array Bool := (bz 45 67108863)
abbrev impl_Selection_slabFormed.Q_27 : Array Bool := (bz 45 134217727)
abbrev impl_Selection_slabFormed.Q_28 : Array Bool := (bz 45 402653183)
abbrev impl_Selection_slabFormed.Q_29 : Array Bool := (bz 45 2550136831)
abbrev impl_Selection_slabFormed.Q_30 : Array Bool := (bz 45 11140071423)
abbrev impl_Selection_slabFormed.Q_31 : Array Bool := (bz 45 11274289151)
abbrev impl_Selection_slabFormed.Q_32 : Array Bool := (bz 45 11811160063)
abbrev impl_Selection_slabFormed.Q_33 : Array Bool := (bz 45 12884901887)
abbrev impl_Selection_slabFormed.Q_34 : Array Bool := (bz 45 17179869183)
abbrev impl_Selection_slabFormed.Q_35 : Array Bool := (bz 45 34359738367)
abbrev impl_Selection_slabFormed.Q_36 : Array Bool := (bz 45 68719476735)
abbrev impl_Selection_slabFormed.Q_37 : Array Bool := (bz 45 137438953471)
abbrev impl_Selection_slabFormed.Q_38 : Array Bool := (bz 45 274877906943)
abbrev impl_Selection_slabFormed.Q_39 : Array Bool := (bz 45 549755813887)
abbrev impl_Selection_slabFormed.Q_40 : Array Bool := (bz 45 1099511627775)
abbrev impl_Selection_slabFormed.Q_41 : Array Bool := (bz 45 3298534883327)
abbrev impl_Selection_slabFormed.Q_42 : Array Bool := (bz 45 4398046511103)
abbrev impl_Selection_slabFormed.Q_43 : Array Bool := (bz 45 8796093022207)
abbrev impl_Selection_slabFormed.Q_44 : Array Bool := (bz 45 17592186044415)
abbrev impl_Selection_slabFormed.Q_45 : Array Bool := (bz 45 35184372088831)
abbrev impl_Selection_slabFormed.Q_46 : Array Bool := (bz 45 2199023255551)
abbrev impl_Selection_slabFormed.Q_47 : Array Bool := (bz 45 268435455)
abbrev impl_Selection_slabFormed.Q_48 : Array Bool := (bz 45 536870911)
abbrev impl_Selection_slabFormed.Q_49 : Array Bool := (bz 45 1073741823)
abbrev impl_Selection_slabFormed.Q_50 : Array Bool := (bz 45 2147483647)
abbrev impl_Selection_slabFormed.Q_51 : Array Bool := (bz 45 4294967295)
abbrev impl_Selection_slabFormed.Q_52 : Array Bool := (bz 45 8589934591)
abbrev impl_Selection_slabFormed.Q_53 : Array Bool := (bz 45 524287)
abbrev impl_Selection_slabFormed.Q_54 : Array Bool := (bz 45 1023)
set_option maxHeartbeats 8000000 in
set_option maxRecDepth 100000 in
theorem impl_Selection_slabFormed.calls (k : Nat) (a0_0 : Int) (A0_1 : Option Addr) (c0_1 : Nat) (l0_1 : List Int) (A0_2 : Option Addr) (c0_2 : Nat) (l0_2 : List Int) (A0_3 : Option Addr) (c0_3 : Nat) (l0_3 : List Int) (A0_4 : Option Addr) (c0_4 : Nat) (l0_4 : List Int) (A0_5 : Option Addr) (c0_5 : Nat) (l0_5 : List (S110)) (r : Bool) (w : World) (hr0_1 : Kd.C (Kd.int .i64) w A0_1 l0_1.length l0_1) (hc0_1 : l0_1.length ≤ c0_1) (hr0_2 : Kd.C (Kd.int .i64) w A0_2 l0_2.length l0_2) (hc0_2 : l0_2.length ≤ c0_2) (hr0_3 : Kd.C (Kd.int .i64) w A0_3 l0_3.length l0_3) (hc0_3 : l0_3.length ≤ c0_3) (hr0_4 : Kd.C (Kd.int .i64) w A0_4 l0_4.length l0_4) (hc0_4 : l0_4.length ≤ c0_4) (hr0_5 : Kd.C k110 w A0_5 l0_5.length l0_5) (hc0_5 : l0_5.length ≤ c0_5) (h : impl_Selection_slabFormed.f k a0_0 l0_1 l0_2 l0_3 l0_4 l0_5 = some r) :
 Calls Try.prog 138 #[.agg #[.int .i64 a0_0, .slice A0_1 l0_1.length c0_1, .slice A0_2 l0_2.length c0_2, .slice A0_3 l0_3.length c0_3, .slice A0_4 l0_4.length c0_4, .slice A0_5 l0_5.length c0_5]] w fun e w' => e = .returned (.bool r) ∧ Below w.heap.size w w' := by
 have hu55 := Try.underlying55
 have HR0_1 := yD hr0_1
 have HC0_1 := yD hc0_1
 clear hr0_1 hc0_1
 have HR0_2 := yD hr0_2
 have HC0_2 := yD hc0_2
 clear hr0_2 hc0_2
 have HR0_3 := yD hr0_3
 have HC0_3 := yD hc0_3
 clear hr0_3 hc0_3
 have HR0_4 := yD hr0_4
 have HC0_4 := yD hc0_4
 clear hr0_4 hc0_4
 have HR0_5 := yD hr0_5
 have HC0_5 := yD hc0_5
 clear hr0_5 hc0_5
 have HB := yD (Below.refl w.heap.size w)
 have H : (if (l0_1.length : Int) > 3 then (impl_Selection_slabFormed.j0 k (l0_1.length : Int) true a0_0 l0_1 l0_2 l0_3 l0_4 l0_5) else (if (l0_2.length : Int) = (l0_1.length : Int) then (if (l0_3.length : Int) = (l0_1.length : Int) then (impl_Selection_slabFormed.j0 k (l0_1.length : Int) ((l0_4.length : Int) != (l0_1.length : Int)) a0_0 l0_1 l0_2 l0_3 l0_4 l0_5) else (impl_Selection_slabFormed.j0 k (l0_1.length : Int) true a0_0 l0_1 l0_2 l0_3 l0_4 l0_5)) else (impl_Selection_slabFormed.j0 k (l0_1.length : Int) true a0_0 l0_1 l0_2 l0_3 l0_4 l0_5))) = some r := h
 clear h
 have HC2 := yD H
 clear H; go_enter Try.func138, Try.ntmps138
 go_upto_region 2 with (first | ((with_reducible refine gate_dst (N := 1) rfl ?_); (try (refine gate_guard (by rfl) ?_; dsimp only)); refine box_event ?hg (N := 1) ?hd (cs := #[.int .i64 a0_0, .slice A0_1 l0_1.length c0_1, .slice A0_2 l0_2.length c0_2, .slice A0_3 l0_3.length c0_3, .slice A0_4 l0_4.length c0_4, .slice A0_5 l0_5.length c0_5]) (t := 55) ?hr ?_; (case hd => rfl); (case hg => rfl); (case hr => first | (go_simp; done) | (go_simp; rfl)); intro gb280 hg w3 hbox hb; have n0_ := yD (zC (kB HB) hb); have n1_ := yD (hbox); have n2_ := yD ((by rw [hg]; exact (below_size (kB HB)) : w.heap.size ≤ gb280)); have n3_ := yD ((by rw [hg]; exact (below_size (kB HB)) : w.heap.size ≤ gb280)); clear HB; have HB := n0_; have BK280 := n1_; have GW280 := n2_; have GE280 := n3_; clear n0_ n1_ n2_ n3_; clear hb hbox hg; obtain ⟨hcz4_0, hcz4_1, hcz4_2, hcz4_3, hcz4_4, hcz4_5⟩ := cz6 BK280.out; obtain ⟨hfz4_0, hfz4_1, hfz4_2, hfz4_3, hfz4_4, hfz4_5⟩ := fz6 BK280.out))
 (try simp only [Act.put, zH, zI, zJ])
 go_cut [30] (fun v30 wc => ∃ (kq : Nat) (x30_1 : Bool), v30 = .bool x30_1 ∧ Aside0 (impl_Selection_slabFormed.j0 kq (l0_1.length : Int) x30_1 a0_0 l0_1 l0_2 l0_3 l0_4 l0_5 = some r) ∧ Aside0 (kq ≤ k) ∧ Aside0 (wc.heap[gb280]? = some (.cells #[.int .i64 a0_0, (.slice A0_1 l0_1.length c0_1), (.slice A0_2 l0_2.length c0_2), (.slice A0_3 l0_3.length c0_3), (.slice A0_4 l0_4.length c0_4), (.slice A0_5 l0_5.length c0_5)] 55 (0, 0))) ∧ Aside0 (Below w.heap.size w wc))
 case first =>
  have H := HC2.out; clear HC2
  by_cases c5 : (l0_1.length : Int) > 3
  ·
   rw [if_pos c5] at H; have c5b0 : decide (3 < (l0_1.length : Int)) = true := zR c5
   have c5b1 : decide (3 < l0_1.length) = true := zR (by omega)
   clear c5
   (first | rw [c5b0] | (simp only [i64_w, i32_w]; rw [c5b0]) | (simp only [bne] at c5b0; rw [c5b0]) | skip)
   have H' := yD H
   clear H
   go_wp2
   go_meet
   case rel => exact ⟨_, (true), (by first | rfl | (simp; done) | (simp [*]; done)), H', ⟨by first | omega | exact Nat.le_refl _⟩, ⟨by (with_reducible repeat (first | refine yM ?_ _ | refine yO ?_ | refine yN ?_ _)); exact BK280.out⟩, ⟨kR0 HB⟩⟩
  ·
   rw [if_neg c5] at H; have c5b0 : decide (3 < (l0_1.length : Int)) = false := zS c5
   have c5b1 : decide (3 < l0_1.length) = false := zS (by omega)
   clear c5
   (first | rw [c5b0] | (simp only [i64_w, i32_w]; rw [c5b0]) | (simp only [bne] at c5b0; rw [c5b0]) | skip)
   by_cases c6 : (l0_2.length : Int) = (l0_1.length : Int)
   ·
    rw [if_pos c6] at H
    have c6b0 : ((l0_2.length : Int) == (l0_1.length : Int)) = true := beq_iff_eq.mpr c6
    have c6b1 : ((l0_2.length : Int) != (l0_1.length : Int)) = false := bne_eq_false_iff_eq.mpr c6
    have c6b2 : (l0_2.length == l0_1.length) = true := by first | simpa using c6 | (simp at c6 ⊢; omega)
    clear c6
    by_cases c7 : (l0_3.length : Int) = (l0_1.length : Int)
    ·
     rw [if_pos c7] at H
     have c7b0 : ((l0_3.length : Int) == (l0_1.length : Int)) = true := beq_iff_eq.mpr c7
     have c7b1 : ((l0_3.length : Int) != (l0_1.length : Int)) = false := bne_eq_false_iff_eq.mpr c7
     have c7b2 : (l0_3.length == l0_1.length) = true := by first | simpa using c7 | (simp at c7 ⊢; omega)
     clear c7
     have H' := yD H
     clear H
     obtain ⟨hcz8_0, hcz8_1, hcz8_2, hcz8_3, hcz8_4, hcz8_5⟩ := cz6 BK280.out
     obtain ⟨hfz8_0, hfz8_1, hfz8_2, hfz8_3, hfz8_4, hfz8_5⟩ := fz6 BK280.out
     go_wp2
     go_meet
     case rel => exact ⟨_, (((l0_4.length : Int) != (l0_1.length : Int))), (by first | rfl | (simp; done) | (simp [*]; done)), H', ⟨by first | omega | exact Nat.le_refl _⟩, ⟨by (with_reducible repeat (first | refine yM ?_ _ | refine yO ?_ | refine yN ?_ _)); exact BK280.out⟩, ⟨kR0 HB⟩⟩
    ·
     rw [if_neg c7] at H
     have c7b0 : ((l0_3.length : Int) == (l0_1.length : Int)) = false := beq_eq_false_iff_ne.mpr c7
     have c7b1 : ((l0_3.length : Int) != (l0_1.length : Int)) = true := bne_iff_ne.mpr c7
     have c7b2 : (l0_3.length == l0_1.length) = false := by first | simpa using c7 | (simp at c7 ⊢; omega)
     have H' := yD H
     clear H
     obtain ⟨hcz9_0, hcz9_1, hcz9_2, hcz9_3, hcz9_4, hcz9_5⟩ := cz6 BK280.out
     obtain ⟨hfz9_0, hfz9_1, hfz9_2, hfz9_3, hfz9_4, hfz9_5⟩ := fz6 BK280.out
     go_wp2
     go_meet
     case rel => exact ⟨_, (true), (by first | rfl | (simp; done) | (simp [*]; done)), H', ⟨by first | omega | exact Nat.le_refl _⟩, ⟨by (with_reducible repeat (first | refine yM ?_ _ | refine yO ?_ | refine yN ?_ _)); exact BK280.out⟩, ⟨kR0 HB⟩⟩
   ·
    rw [if_neg c6] at H
    have c6b0 : ((l0_2.length : Int) == (l0_1.length : Int)) = false := beq_eq_false_iff_ne.mpr c6
    have c6b1 : ((l0_2.length : Int) != (l0_1.length : Int)) = true := bne_iff_ne.mpr c6
    have c6b2 : (l0_2.length == l0_1.length) = false := by first | simpa using c6 | (simp at c6 ⊢; omega)
    have H' := yD H
    clear H
    obtain ⟨hcz10_0, hcz10_1, hcz10_2, hcz10_3, hcz10_4, hcz10_5⟩ := cz6 BK280.out
    obtain ⟨hfz10_0, hfz10_1, hfz10_2, hfz10_3, hfz10_4, hfz10_5⟩ := fz6 BK280.out
    go_wp2
    go_meet
    case rel => exact ⟨_, (true), (by first | rfl | (simp; done) | (simp [*]; done)), H', ⟨by first | omega | exact Nat.le_refl _⟩, ⟨by (with_reducible repeat (first | refine yM ?_ _ | refine yO ?_ | refine yN ?_ _)); exact BK280.out⟩, ⟨kR0 HB⟩⟩
 case rest =>
  clear HC2; try clear c1; try clear p2; try clear c5; try clear c5b0; try clear c5b1; try clear c6; try clear c6b0; try clear c6b1; try clear c6b2; try clear c7; try clear c7b0; try clear c7b1; try clear c7b2; try clear hcz10_0; try clear hcz10_1; try clear hcz10_2; try clear hcz10_3; try clear hcz10_4; try clear hcz10_5; try clear hcz4_0; try clear hcz4_1; try clear hcz4_2; try clear hcz4_3; try clear hcz4_4; try clear hcz4_5; try clear hcz8_0; try clear hcz8_1; try clear hcz8_2; try clear hcz8_3; try clear hcz8_4; try clear hcz8_5; try clear hcz9_0; try clear hcz9_1; try clear hcz9_2; try clear hcz9_3; try clear hcz9_4; try clear hcz9_5; try clear hfz10_0; try clear hfz10_1; try clear hfz10_2; try clear hfz10_3; try clear hfz10_4; try clear hfz10_5; try clear hfz4_0; try clear hfz4_1; try clear hfz4_2; try clear hfz4_3; try clear hfz4_4; try clear hfz4_5; try clear hfz8_0; try clear hfz8_1; try clear hfz8_2; try clear hfz8_3; try clear hfz8_4; try clear hfz8_5; try clear hfz9_0; try clear hfz9_1; try clear hfz9_2; try clear hfz9_3; try clear hfz9_4; try clear hfz9_5
  obtain ⟨kq, x30_1, rfl, HA, HJ1, BK280, HB⟩ := hcut
  cases kq with
  | zero => exact absurd HA.out (by simp [impl_Selection_slabFormed.j0])
  | succ kj1 =>
   have H := HA.out; clear HA
   simp only [impl_Selection_slabFormed.j0] at H
   by_cases c11 : x30_1 = true
   ·
    subst c11
    have H1 : (some false) = some r := by rw [if_pos rfl] at H; exact H
    clear H; have H := H1; clear H1; obtain rfl := Option.some.inj H
    go_wp2
    go_ret
    exact ⟨by first | rfl | (simp <;> rfl) | (simp [*] <;> rfl), kR0 HB⟩
   ·
    replace c11 := Bool.eq_false_iff.mpr c11
    subst c11
    have H1 : (impl_Selection_slabFormed.l0 kj1 (l0_1.length : Int) 0 a0_0 l0_1 l0_2 l0_3 l0_4 l0_5) = some r := by rw [if_neg (show ¬ (false = true) by decide)] at H; exact H
    clear H; have H := H1; clear H1
    have H' := yD H
    clear H
    go_wp2
    go_loopg [32] kj1 (fun kq v32 w' => ∃ (x32_2 : Int), v32 = .int .i64 x32_2 ∧ Aside0 (impl_Selection_slabFormed.l0 kq (l0_1.length : Int) x32_2 a0_0 l0_1 l0_2 l0_3 l0_4 l0_5 = some r) ∧ Aside0 (kq ≤ kj1) ∧ Aside0 (w'.heap[gb280]? = some (.cells #[.int .i64 a0_0, (.slice A0_1 l0_1.length c0_1), (.slice A0_2 l0_2.length c0_2), (.slice A0_3 l0_3.length c0_3), (.slice A0_4 l0_4.length c0_4), (.slice A0_5 l0_5.length c0_5)] 55 (0, 0))) ∧ Aside0 (Below w.heap.size w w'))
    case atStart => exact ⟨(0), (by first | rfl | (simp; done) | (simp [*]; done)), H', ⟨Nat.le_refl _⟩, ⟨by (with_reducible repeat (first | refine yM ?_ _ | refine yO ?_ | refine yN ?_ _)); exact BK280.out⟩, ⟨kR0 HB⟩⟩
    case round =>
     clear H'
     try clear c1; try clear p2; try clear c5; try clear c5b0; try clear c5b1; try clear c6; try clear c6b0; try clear c6b1; try clear c6b2; try clear c7; try clear c7b0; try clear c7b1; try clear c7b2; try clear c11; try clear hcz10_0; try clear hcz10_1; try clear hcz10_2; try clear hcz10_3; try clear hcz10_4; try clear hcz10_5; try clear hcz4_0; try clear hcz4_1; try clear hcz4_2; try clear hcz4_3; try clear hcz4_4; try clear hcz4_5; try clear hcz8_0; try clear hcz8_1; try clear hcz8_2; try clear hcz8_3; try clear hcz8_4; try clear hcz8_5; try clear hcz9_0; try clear hcz9_1; try clear hcz9_2; try clear hcz9_3; try clear hcz9_4; try clear hcz9_5; try clear hfz10_0; try clear hfz10_1; try clear hfz10_2; try clear hfz10_3; try clear hfz10_4; try clear hfz10_5; try clear hfz4_0; try clear hfz4_1; try clear hfz4_2; try clear hfz4_3; try clear hfz4_4; try clear hfz4_5; try clear hfz8_0; try clear hfz8_1; try clear hfz8_2; try clear hfz8_3; try clear hfz8_4; try clear hfz8_5; try clear hfz9_0; try clear hfz9_1; try clear hfz9_2; try clear hfz9_3; try clear hfz9_4; try clear hfz9_5; try clear p2
     obtain ⟨x32_2, rfl, HA, HK2, BK280, HB⟩ := hrel
     cases gk with
     | zero => exact absurd HA.out (by simp [impl_Selection_slabFormed.l0])
     | succ k2 =>
      have H := HA.out; clear HA
      simp only [impl_Selection_slabFormed.l0] at H
      by_cases c12 : x32_2 < (l0_1.length : Int)
      ·
       rw [if_pos c12] at H; have c12b0 : decide (x32_2 < (l0_1.length : Int)) = true := zR c12; clear c12
       by_cases c13 : 0 ≤ x32_2
       ·
        rw [if_pos c13] at H; have c13b0 : decide (0 ≤ x32_2) = true := zR c13; clear c13
        by_cases c14 : x32_2 < (l0_1.length : Int)
        ·
         rw [if_pos c14] at H; have c14b0 : decide (x32_2 < (l0_1.length : Int)) = true := zR c14; clear c14
         obtain ⟨t282, A150, H⟩ := zW_ H
         replace H : (if t282 = true then (if x32_2 < (l0_3.length : Int) then ((impl_within.f (rd l0_3 x32_2) 1 40).bind fun t284 => (if t284 = true then (if x32_2 < (l0_4.length : Int) then ((impl_within.f (rd l0_4 x32_2) 1 40).bind fun t286 => (if t286 = true then (if x32_2 < (l0_2.length : Int) then ((impl_within.f (rd l0_2 x32_2) (rd l0_4 x32_2) 40).bind fun t289 => (if t289 = true then ((impl_Selection_end.f a0_0 l0_1 l0_2 l0_3 l0_4 l0_5 x32_2).bind fun t290 => (if t290 > 40 then (some false) else (impl_Selection_slabFormed.l0 k2 (l0_1.length : Int) (wrap64 (x32_2 + 1)) a0_0 l0_1 l0_2 l0_3 l0_4 l0_5))) else (some false))) else (none)) else (some false))) else (none)) else (some false))) else (none)) else (some false)) = some r := H
         have A15 := yD A150
         clear A150
         by_cases c16 : t282 = true
         ·
          subst c16
          have H1 : (if x32_2 < (l0_3.length : Int) then ((impl_within.f (rd l0_3 x32_2) 1 40).bind fun t284 => (if t284 = true then (if x32_2 < (l0_4.length : Int) then ((impl_within.f (rd l0_4 x32_2) 1 40).bind fun t286 => (if t286 = true then (if x32_2 < (l0_2.length : Int) then ((impl_within.f (rd l0_2 x32_2) (rd l0_4 x32_2) 40).bind fun t289 => (if t289 = true then ((impl_Selection_end.f a0_0 l0_1 l0_2 l0_3 l0_4 l0_5 x32_2).bind fun t290 => (if t290 > 40 then (some false) else (impl_Selection_slabFormed.l0 k2 (l0_1.length : Int) (wrap64 (x32_2 + 1)) a0_0 l0_1 l0_2 l0_3 l0_4 l0_5))) else (some false))) else (none)) else (some false))) else (none)) else (some false))) else (none)) = some r := by rw [if_pos rfl] at H; exact H
          clear H; have H := H1; clear H1
          by_cases c17 : x32_2 < (l0_3.length : Int)
          ·
           rw [if_pos c17] at H; have c17b0 : decide (x32_2 < (l0_3.length : Int)) = true := zR c17; clear c17
           obtain ⟨t284, A180, H⟩ := zW_ H
           replace H : (if t284 = true then (if x32_2 < (l0_4.length : Int) then ((impl_within.f (rd l0_4 x32_2) 1 40).bind fun t286 => (if t286 = true then (if x32_2 < (l0_2.length : Int) then ((impl_within.f (rd l0_2 x32_2) (rd l0_4 x32_2) 40).bind fun t289 => (if t289 = true then ((impl_Selection_end.f a0_0 l0_1 l0_2 l0_3 l0_4 l0_5 x32_2).bind fun t290 => (if t290 > 40 then (some false) else (impl_Selection_slabFormed.l0 k2 (l0_1.length : Int) (wrap64 (x32_2 + 1)) a0_0 l0_1 l0_2 l0_3 l0_4 l0_5))) else (some false))) else (none)) else (some false))) else (none)) else (some false)) = some r := H
           have A18 := yD A180
           clear A180
           by_cases c19 : t284 = true
           ·
            subst c19
            have H1 : (if x32_2 < (l0_4.length : Int) then ((impl_within.f (rd l0_4 x32_2) 1 40).bind fun t286 => (if t286 = true then (if x32_2 < (l0_2.length : Int) then ((impl_within.f (rd l0_2 x32_2) (rd l0_4 x32_2) 40).bind fun t289 => (if t289 = true then ((impl_Selection_end.f a0_0 l0_1 l0_2 l0_3 l0_4 l0_5 x32_2).bind fun t290 => (if t290 > 40 then (some false) else (impl_Selection_slabFormed.l0 k2 (l0_1.length : Int) (wrap64 (x32_2 + 1)) a0_0 l0_1 l0_2 l0_3 l0_4 l0_5))) else (some false))) else (none)) else (some false))) else (none)) = some r := by rw [if_pos rfl] at H; exact H
            clear H; have H := H1; clear H1
            by_cases c20 : x32_2 < (l0_4.length : Int)
            ·
             rw [if_pos c20] at H; have c20b0 : decide (x32_2 < (l0_4.length : Int)) = true := zR c20; clear c20
             obtain ⟨t286, A210, H⟩ := zW_ H
             replace H : (if t286 = true then (if x32_2 < (l0_2.length : Int) then ((impl_within.f (rd l0_2 x32_2) (rd l0_4 x32_2) 40).bind fun t289 => (if t289 = true then ((impl_Selection_end.f a0_0 l0_1 l0_2 l0_3 l0_4 l0_5 x32_2).bind fun t290 => (if t290 > 40 then (some false) else (impl_Selection_slabFormed.l0 k2 (l0_1.length : Int) (wrap64 (x32_2 + 1)) a0_0 l0_1 l0_2 l0_3 l0_4 l0_5))) else (some false))) else (none)) else (some false)) = some r := H
             have A21 := yD A210
             clear A210
             by_cases c22 : t286 = true
             ·
              subst c22
              have H1 : (if x32_2 < (l0_2.length : Int) then ((impl_within.f (rd l0_2 x32_2) (rd l0_4 x32_2) 40).bind fun t289 => (if t289 = true then ((impl_Selection_end.f a0_0 l0_1 l0_2 l0_3 l0_4 l0_5 x32_2).bind fun t290 => (if t290 > 40 then (some false) else (impl_Selection_slabFormed.l0 k2 (l0_1.length : Int) (wrap64 (x32_2 + 1)) a0_0 l0_1 l0_2 l0_3 l0_4 l0_5))) else (some false))) else (none)) = some r := by rw [if_pos rfl] at H; exact H
              clear H; have H := H1; clear H1
              by_cases c23 : x32_2 < (l0_2.length : Int)
              ·
               rw [if_pos c23] at H; have c23b0 : decide (x32_2 < (l0_2.length : Int)) = true := zR c23; clear c23
               obtain ⟨t289, A240, H⟩ := zW_ H
               replace H : (if t289 = true then ((impl_Selection_end.f a0_0 l0_1 l0_2 l0_3 l0_4 l0_5 x32_2).bind fun t290 => (if t290 > 40 then (some false) else (impl_Selection_slabFormed.l0 k2 (l0_1.length : Int) (wrap64 (x32_2 + 1)) a0_0 l0_1 l0_2 l0_3 l0_4 l0_5))) else (some false)) = some r := H
               have A24 := yD A240
               clear A240
               by_cases c25 : t289 = true
               ·
                subst c25
                have H1 : ((impl_Selection_end.f a0_0 l0_1 l0_2 l0_3 l0_4 l0_5 x32_2).bind fun t290 => (if t290 > 40 then (some false) else (impl_Selection_slabFormed.l0 k2 (l0_1.length : Int) (wrap64 (x32_2 + 1)) a0_0 l0_1 l0_2 l0_3 l0_4 l0_5))) = some r := by rw [if_pos rfl] at H; exact H
                clear H; have H := H1; clear H1
                obtain ⟨t290, A260, H⟩ := zW_ H
                replace H : (if t290 > 40 then (some false) else (impl_Selection_slabFormed.l0 k2 (l0_1.length : Int) (wrap64 (x32_2 + 1)) a0_0 l0_1 l0_2 l0_3 l0_4 l0_5)) = some r := H
                have A26 := yD A260
                clear A260
                by_cases c27 : t290 > 40
                ·
                 rw [if_pos c27] at H; have c27b0 : decide (40 < t290) = true := zR c27; clear c27; obtain rfl := Option.some.inj H
                 try go_wp2
                 have n0_ := yD (yO BK280.out)
                 have n1_ := yD (yP HB.out)
                 clear BK280 HB; have BK280 := n0_; have HB := n1_; clear n0_ n1_
                 have p281 : 0 ≤ (x32_2 : Int) := zP (by assumption)
                 have q281 : x32_2 < (l0_1.length : Int) := zP (by assumption)
                 obtain ⟨ad281, e281, hx281_0⟩ := Kd.at_int HR0_1.out x32_2 p281 q281
                 have hw281_0 := hx281_0; cases e281
                 replace hx281_0 := (HB.out.cell (zQ w _ hx281_0)).trans hx281_0
                 replace p281 := eq_true p281; replace q281 := eq_true q281
                 have p283 : 0 ≤ (x32_2 : Int) := zP (by assumption)
                 have q283 : x32_2 < (l0_3.length : Int) := zP (by assumption)
                 obtain ⟨ad283, e283, hx283_0⟩ := Kd.at_int HR0_3.out x32_2 p283 q283
                 have hw283_0 := hx283_0; cases e283
                 replace hx283_0 := (HB.out.cell (zQ w _ hx283_0)).trans hx283_0
                 replace p283 := eq_true p283; replace q283 := eq_true q283
                 have p285 : 0 ≤ (x32_2 : Int) := zP (by assumption)
                 have q285 : x32_2 < (l0_4.length : Int) := zP (by assumption)
                 obtain ⟨ad285, e285, hx285_0⟩ := Kd.at_int HR0_4.out x32_2 p285 q285
                 have hw285_0 := hx285_0; cases e285
                 replace hx285_0 := (HB.out.cell (zQ w _ hx285_0)).trans hx285_0
                 replace p285 := eq_true p285; replace q285 := eq_true q285
                 have p287 : 0 ≤ (x32_2 : Int) := zP (by assumption)
                 have q287 : x32_2 < (l0_2.length : Int) := zP (by assumption)
                 obtain ⟨ad287, e287, hx287_0⟩ := Kd.at_int HR0_2.out x32_2 p287 q287
                 have hw287_0 := hx287_0; cases e287
                 replace hx287_0 := (HB.out.cell (zQ w _ hx287_0)).trans hx287_0
                 replace p287 := eq_true p287; replace q287 := eq_true q287
                 have p288 : 0 ≤ (x32_2 : Int) := zP (by assumption)
                 have q288 : x32_2 < (l0_4.length : Int) := zP (by assumption)
                 obtain ⟨ad288, e288, hx288_0⟩ := Kd.at_int HR0_4.out x32_2 p288 q288
                 have hw288_0 := hx288_0
                 obtain rfl : ad285 = ad288 := (by injection e288)
                 replace hx288_0 := (HB.out.cell (zQ w _ hx288_0)).trans hx288_0
                 replace p288 := eq_true p288; replace q288 := eq_true q288
                 refine start_ (n := 45) (S := fun w' => w'.cell? ⟨gb280, 0, none⟩ = some (.int .i64 a0_0) ∧ w'.cell? ⟨gb280, 1, none⟩ = some (.slice (some ad281) l0_1.length c0_1) ∧ w'.cell? ⟨gb280, 2, none⟩ = some (.slice (some ad287) l0_2.length c0_2) ∧ w'.cell? ⟨gb280, 3, none⟩ = some (.slice (some ad283) l0_3.length c0_3) ∧ w'.cell? ⟨gb280, 4, none⟩ = some (.slice (some ad285) l0_4.length c0_4) ∧ w'.cell? ⟨gb280, 5, none⟩ = some (.slice A0_5 l0_5.length c0_5) ∧ w'.cell? (ad281.add (x32_2).toNat) = some (.int .i64 (rd l0_1 x32_2)) ∧ w'.cell? (ad283.add (x32_2).toNat) = some (.int .i64 (rd l0_3 x32_2)) ∧ w'.cell? (ad285.add (x32_2).toNat) = some (.int .i64 (rd l0_4 x32_2)) ∧ w'.cell? (ad287.add (x32_2).toNat) = some (.int .i64 (rd l0_2 x32_2)) ∧ w'.cell? (ad285.add (x32_2).toNat) = some (.int .i64 (rd l0_4 x32_2))) (ds := []) Q_0 (by kernel_rfl) rfl rfl ⟨(yG BK280.out 0).trans rfl, (yG BK280.out 1).trans rfl, (yG BK280.out 2).trans rfl, (yG BK280.out 3).trans rfl, (yG BK280.out 4).trans rfl, (yG BK280.out 5).trans rfl, ((HB.out.cell (zQ w _ hw281_0)).trans hw281_0), ((HB.out.cell (zQ w _ hw283_0)).trans hw283_0), ((HB.out.cell (zQ w _ hw285_0)).trans hw285_0), ((HB.out.cell (zQ w _ hw287_0)).trans hw287_0), ((HB.out.cell (zQ w _ hw288_0)).trans hw288_0)⟩ (fun hHeld => ?_); refine with_tabW impl_Selection_slabFormed.tab7 impl_Selection_slabFormed.bits7 (fun HT_ HW_ => ?_)
                 generalize wr.drew = w28 at BK280 HB hx281_0 hx283_0 hx285_0 hx287_0 hx288_0 hHeld ⊢
                 refine qA 0 35 Q_1 HT_ ?_
                 refine qA 2 37 Q_2 HT_ ?_
                 refine qC 1 36 Q_3 HT_ HW_ hHeld ?_ (hy := by rintro w' ⟨s0, s1, s2, s3, s4, s5, s6, s7, s8, s9, s10⟩; go_simp; with_reducible rfl)
                 refine qA 3 38 Q_4 HT_ ?_
                 refine qC 4 39 Q_5 HT_ HW_ hHeld ?_ (hy := by rintro w' ⟨s0, s1, s2, s3, s4, s5, s6, s7, s8, s9, s10⟩; go_simp; with_reducible rfl)
                 refine one_ (i := 5) (N := some 40) Q_6 rfl rfl (one_of HT_.out (by kernel_rfl)) (by decide) (fun K hK => ?_)
                 refine goes_ Try.func106 (by kernel_rfl) rfl #[.int .i64 (rd l0_1 x32_2), .int .i64 0, .int .i64 40] (by rfl) rfl rfl (by (try simp only [zK, zL, zM]); first | done | rfl | (simp only [zN, zO]; rfl)) ?_
                 with_reducible refine (impl_within.calls (rd l0_1 x32_2) 0 40 true _ A15.out).mono ?_
                 rintro e w' ⟨rfl, ⟨nd, rfl⟩⟩
                 refine ⟨_, rfl, ?_⟩
                 refine hK.out _ _ ⟨(yG BK280.out 0).trans rfl, (yG BK280.out 1).trans rfl, (yG BK280.out 2).trans rfl, (yG BK280.out 3).trans rfl, (yG BK280.out 4).trans rfl, (yG BK280.out 5).trans rfl, ((HB.out.cell (zQ w _ hw281_0)).trans hw281_0), ((HB.out.cell (zQ w _ hw283_0)).trans hw283_0), ((HB.out.cell (zQ w _ hw285_0)).trans hw285_0), ((HB.out.cell (zQ w _ hw287_0)).trans hw287_0), ((HB.out.cell (zQ w _ hw288_0)).trans hw288_0)⟩ (fun hHeld => ?_)
                 clear hK K
                 refine norm_ (by show Act.put _ (some 40) _ = _; simp only [Act.put, zH, zI, zJ, i64_w, i32_w]; rfl) ?_
                 refine qA 6 41 Q_7 HT_ ?_
                 refine qA 7 42 Q_8 HT_ ?_
                 refine qA 8 43 Q_9 HT_ ?_
                 refine qA 10 45 Q_10 HT_ ?_
                 refine qC 9 44 Q_11 HT_ HW_ hHeld ?_ (hy := by rintro w' ⟨s0, s1, s2, s3, s4, s5, s6, s7, s8, s9, s10⟩; go_simp; with_reducible rfl)
                 refine qA 11 46 Q_12 HT_ ?_
                 refine qC 12 47 Q_13 HT_ HW_ hHeld ?_ (hy := by rintro w' ⟨s0, s1, s2, s3, s4, s5, s6, s7, s8, s9, s10⟩; go_simp; with_reducible rfl)
                 refine one_ (i := 13) (N := some 48) Q_14 rfl rfl (one_of HT_.out (by kernel_rfl)) (by decide) (fun K hK => ?_)
                 refine goes_ Try.func106 (by kernel_rfl) rfl #[.int .i64 (rd l0_3 x32_2), .int .i64 1, .int .i64 40] (by rfl) rfl rfl (by (try simp only [zK, zL, zM]); first | done | rfl | (simp only [zN, zO]; rfl)) ?_
                 with_reducible refine (impl_within.calls (rd l0_3 x32_2) 1 40 true _ A18.out).mono ?_
                 rintro e w' ⟨rfl, ⟨nd, rfl⟩⟩
                 refine ⟨_, rfl, ?_⟩
                 refine hK.out _ _ ⟨(yG BK280.out 0).trans rfl, (yG BK280.out 1).trans rfl, (yG BK280.out 2).trans rfl, (yG BK280.out 3).trans rfl, (yG BK280.out 4).trans rfl, (yG BK280.out 5).trans rfl, ((HB.out.cell (zQ w _ hw281_0)).trans hw281_0), ((HB.out.cell (zQ w _ hw283_0)).trans hw283_0), ((HB.out.cell (zQ w _ hw285_0)).trans hw285_0), ((HB.out.cell (zQ w _ hw287_0)).trans hw287_0), ((HB.out.cell (zQ w _ hw288_0)).trans hw288_0)⟩ (fun hHeld => ?_)
                 clear hK K
                 refine norm_ (by show Act.put _ (some 48) _ = _; simp only [Act.put, zH, zI, zJ, i64_w, i32_w]; rfl) ?_
                 refine qA 14 49 Q_15 HT_ ?_
                 refine qA 15 50 Q_16 HT_ ?_
                 refine qA 16 51 Q_17 HT_ ?_
                 refine qA 17 52 Q_18 HT_ ?_
                 refine qA 19 54 Q_19 HT_ ?_
                 refine qC 18 53 Q_20 HT_ HW_ hHeld ?_ (hy := by rintro w' ⟨s0, s1, s2, s3, s4, s5, s6, s7, s8, s9, s10⟩; go_simp; with_reducible rfl)
                 refine qA 20 55 Q_21 HT_ ?_
                 refine qC 21 56 Q_22 HT_ HW_ hHeld ?_ (hy := by rintro w' ⟨s0, s1, s2, s3, s4, s5, s6, s7, s8, s9, s10⟩; go_simp; with_reducible rfl)
                 refine one_ (i := 22) (N := some 57) Q_23 rfl rfl (one_of HT_.out (by kernel_rfl)) (by decide) (fun K hK => ?_)
                 refine goes_ Try.func106 (by kernel_rfl) rfl #[.int .i64 (rd l0_4 x32_2), .int .i64 1, .int .i64 40] (by rfl) rfl rfl (by (try simp only [zK, zL, zM]); first | done | rfl | (simp only [zN, zO]; rfl)) ?_
                 with_reducible refine (impl_within.calls (rd l0_4 x32_2) 1 40 true _ A21.out).mono ?_
                 rintro e w' ⟨rfl, ⟨nd, rfl⟩⟩
                 refine ⟨_, rfl, ?_⟩
                 refine hK.out _ _ ⟨(yG BK280.out 0).trans rfl, (yG BK280.out 1).trans rfl, (yG BK280.out 2).trans rfl, (yG BK280.out 3).trans rfl, (yG BK280.out 4).trans rfl, (yG BK280.out 5).trans rfl, ((HB.out.cell (zQ w _ hw281_0)).trans hw281_0), ((HB.out.cell (zQ w _ hw283_0)).trans hw283_0), ((HB.out.cell (zQ w _ hw285_0)).trans hw285_0), ((HB.out.cell (zQ w _ hw287_0)).trans hw287_0), ((HB.out.cell (zQ w _ hw288_0)).trans hw288_0)⟩ (fun hHeld => ?_)
                 clear hK K
                 refine norm_ (by show Act.put _ (some 57) _ = _; simp only [Act.put, zH, zI, zJ, i64_w, i32_w]; rfl) ?_
                 refine qA 23 58 Q_24 HT_ ?_
                 refine qA 24 59 Q_25 HT_ ?_
                 refine qA 25 60 Q_26 HT_ ?_
                 refine qA 26 61 Q_27 HT_ ?_
                 refine qA 28 63 Q_28 HT_ ?_
                 refine qA 31 66 Q_29 HT_ ?_
                 refine qA 33 68 Q_30 HT_ ?_
                 refine qC 27 62 Q_31 HT_ HW_ hHeld ?_ (hy := by rintro w' ⟨s0, s1, s2, s3, s4, s5, s6, s7, s8, s9, s10⟩; go_simp; with_reducible rfl)
                 refine qA 29 64 Q_32 HT_ ?_
                 refine qC 30 65 Q_33 HT_ HW_ hHeld ?_ (hy := by rintro w' ⟨s0, s1, s2, s3, s4, s5, s6, s7, s8, s9, s10⟩; go_simp; with_reducible rfl)
                 refine qC 32 67 Q_34 HT_ HW_ hHeld ?_ (hy := by rintro w' ⟨s0, s1, s2, s3, s4, s5, s6, s7, s8, s9, s10⟩; go_simp; with_reducible rfl)
                 refine qA 34 69 Q_35 HT_ ?_
                 refine qC 35 70 Q_36 HT_ HW_ hHeld ?_ (hy := by rintro w' ⟨s0, s1, s2, s3, s4, s5, s6, s7, s8, s9, s10⟩; go_simp; with_reducible rfl)
                 refine one_ (i := 36) (N := some 71) Q_37 rfl rfl (one_of HT_.out (by kernel_rfl)) (by decide) (fun K hK => ?_)
                 refine goes_ Try.func106 (by kernel_rfl) rfl #[.int .i64 (rd l0_2 x32_2), .int .i64 (rd l0_4 x32_2), .int .i64 40] (by rfl) rfl rfl (by (try simp only [zK, zL, zM]); first | done | rfl | (simp only [zN, zO]; rfl)) ?_
                 with_reducible refine (impl_within.calls (rd l0_2 x32_2) (rd l0_4 x32_2) 40 true _ A24.out).mono ?_
                 rintro e w' ⟨rfl, ⟨nd, rfl⟩⟩
                 refine ⟨_, rfl, ?_⟩
                 refine hK.out _ _ ⟨(yG BK280.out 0).trans rfl, (yG BK280.out 1).trans rfl, (yG BK280.out 2).trans rfl, (yG BK280.out 3).trans rfl, (yG BK280.out 4).trans rfl, (yG BK280.out 5).trans rfl, ((HB.out.cell (zQ w _ hw281_0)).trans hw281_0), ((HB.out.cell (zQ w _ hw283_0)).trans hw283_0), ((HB.out.cell (zQ w _ hw285_0)).trans hw285_0), ((HB.out.cell (zQ w _ hw287_0)).trans hw287_0), ((HB.out.cell (zQ w _ hw288_0)).trans hw288_0)⟩ (fun hHeld => ?_)
                 clear hK K
                 refine norm_ (by show Act.put _ (some 71) _ = _; simp only [Act.put, zH, zI, zJ, i64_w, i32_w]; rfl) ?_
                 refine qA 37 72 Q_38 HT_ ?_
                 refine qA 38 73 Q_39 HT_ ?_
                 refine qA 39 74 Q_40 HT_ ?_
                 refine qA 41 76 Q_41 HT_ ?_
                 refine qC 40 75 Q_42 HT_ HW_ hHeld ?_ (hy := by rintro w' ⟨s0, s1, s2, s3, s4, s5, s6, s7, s8, s9, s10⟩; go_simp; with_reducible rfl)
                 refine one_ (i := 42) (N := some 77) Q_43 rfl rfl (one_of HT_.out (by kernel_rfl)) (by decide) (fun K hK => ?_)
                 refine goes_ Try.func140 (by kernel_rfl) rfl #[.agg #[.int .i64 a0_0, .slice (some ad281) l0_1.length c0_1, .slice (some ad287) l0_2.length c0_2, .slice (some ad283) l0_3.length c0_3, .slice (some ad285) l0_4.length c0_4, .slice A0_5 l0_5.length c0_5], .int .i64 x32_2] (by rfl) rfl rfl (by (try simp only [zK, zL, zM]); first | done | rfl | (simp only [zN, zO]; rfl)) ?_
                 with_reducible refine (impl_Selection_end.calls a0_0 _ _ l0_1 _ _ l0_2 _ _ l0_3 _ _ l0_4 _ _ l0_5 x32_2 t290 _ ?side1 ?side2 ?side3 ?side4 ?side5 ?side6 ?side7 ?side8 ?side9 ?side10 A26.out).mono ?_
                 (case side1 => exact yY HR0_1.out (kB HB))
                 (case side2 => exact HC0_1.out)
                 (case side3 => exact yY HR0_2.out (kB HB))
                 (case side4 => exact HC0_2.out)
                 (case side5 => exact yY HR0_3.out (kB HB))
                 (case side6 => exact HC0_3.out)
                 (case side7 => exact yY HR0_4.out (kB HB))
                 (case side8 => exact HC0_4.out)
                 (case side9 => exact yY HR0_5.out (kB HB))
                 (case side10 => exact HC0_5.out)
                 rintro e w29 ⟨rfl, hb⟩
                 refine ⟨_, rfl, ?_⟩
                 have n0_ := yD (zB (kN BK280) hb)
                 have n1_ := yD (zC (kB HB) hb)
                 clear BK280 HB; have BK280 := n0_; have HB := n1_; clear n0_ n1_; (try clear hb); (try clear hb2); (try clear hk); (try clear hi)
                 refine hK.out _ _ ⟨(yG BK280.out 0).trans rfl, (yG BK280.out 1).trans rfl, (yG BK280.out 2).trans rfl, (yG BK280.out 3).trans rfl, (yG BK280.out 4).trans rfl, (yG BK280.out 5).trans rfl, ((HB.out.cell (zQ w _ hw281_0)).trans hw281_0), ((HB.out.cell (zQ w _ hw283_0)).trans hw283_0), ((HB.out.cell (zQ w _ hw285_0)).trans hw285_0), ((HB.out.cell (zQ w _ hw287_0)).trans hw287_0), ((HB.out.cell (zQ w _ hw288_0)).trans hw288_0)⟩ (fun hHeld => ?_)
                 clear hK K
                 refine norm_ (by show Act.put _ (some 77) _ = _; simp only [Act.put, zH, zI, zJ, i64_w, i32_w]; rfl) ?_
                 refine qA 43 78 Q_44 HT_ ?_
                 refine qA 44 79 Q_45 HT_ ?_
                 refine done_ (done_of HT_.out (by kernel_rfl)) ?_
                 try go_wp2
                 go_ret
                 exact ⟨by first | rfl | (simp <;> rfl) | (simp [*] <;> rfl), kR0 HB⟩
                ·
                 rw [if_neg c27] at H; have c27b0 : decide (40 < t290) = false := zS c27; clear c27
                 have H' := yD H
                 clear H
                 try go_wp2
                 have n0_ := yD (yO BK280.out)
                 have n1_ := yD (yP HB.out)
                 clear BK280 HB; have BK280 := n0_; have HB := n1_; clear n0_ n1_
                 have p281 : 0 ≤ (x32_2 : Int) := zP (by assumption)
                 have q281 : x32_2 < (l0_1.length : Int) := zP (by assumption)
                 obtain ⟨ad281, e281, hx281_0⟩ := Kd.at_int HR0_1.out x32_2 p281 q281
                 have hw281_0 := hx281_0; cases e281
                 replace hx281_0 := (HB.out.cell (zQ w _ hx281_0)).trans hx281_0
                 replace p281 := eq_true p281; replace q281 := eq_true q281
                 have p283 : 0 ≤ (x32_2 : Int) := zP (by assumption)
                 have q283 : x32_2 < (l0_3.length : Int) := zP (by assumption)
                 obtain ⟨ad283, e283, hx283_0⟩ := Kd.at_int HR0_3.out x32_2 p283 q283
                 have hw283_0 := hx283_0; cases e283
                 replace hx283_0 := (HB.out.cell (zQ w _ hx283_0)).trans hx283_0
                 replace p283 := eq_true p283; replace q283 := eq_true q283
                 have p285 : 0 ≤ (x32_2 : Int) := zP (by assumption)
                 have q285 : x32_2 < (l0_4.length : Int) := zP (by assumption)
                 obtain ⟨ad285, e285, hx285_0⟩ := Kd.at_int HR0_4.out x32_2 p285 q285
                 have hw285_0 := hx285_0; cases e285
                 replace hx285_0 := (HB.out.cell (zQ w _ hx285_0)).trans hx285_0
                 replace p285 := eq_true p285; replace q285 := eq_true q285
                 have p287 : 0 ≤ (x32_2 : Int) := zP (by assumption)
                 have q287 : x32_2 < (l0_2.length : Int) := zP (by assumption)
                 obtain ⟨ad287, e287, hx287_0⟩ := Kd.at_int HR0_2.out x32_2 p287 q287
                 have hw287_0 := hx287_0; cases e287
                 replace hx287_0 := (HB.out.cell (zQ w _ hx287_0)).trans hx287_0
                 replace p287 := eq_true p287; replace q287 := eq_true q287
                 have p288 : 0 ≤ (x32_2 : Int) := zP (by assumption)
                 have q288 : x32_2 < (l0_4.length : Int) := zP (by assumption)
                 obtain ⟨ad288, e288, hx288_0⟩ := Kd.at_int HR0_4.out x32_2 p288 q288
                 have hw288_0 := hx288_0
                 obtain rfl : ad285 = ad288 := (by injection e288)
                 replace hx288_0 := (HB.out.cell (zQ w _ hx288_0)).trans hx288_0
                 replace p288 := eq_true p288; replace q288 := eq_true q288
                 refine start_ (n := 45) (S := fun w' => w'.cell? ⟨gb280, 0, none⟩ = some (.int .i64 a0_0) ∧ w'.cell? ⟨gb280, 1, none⟩ = some (.slice (some ad281) l0_1.length c0_1) ∧ w'.cell? ⟨gb280, 2, none⟩ = some (.slice (some ad287) l0_2.length c0_2) ∧ w'.cell? ⟨gb280, 3, none⟩ = some (.slice (some ad283) l0_3.length c0_3) ∧ w'.cell? ⟨gb280, 4, none⟩ = some (.slice (some ad285) l0_4.length c0_4) ∧ w'.cell? ⟨gb280, 5, none⟩ = some (.slice A0_5 l0_5.length c0_5) ∧ w'.cell? (ad281.add (x32_2).toNat) = some (.int .i64 (rd l0_1 x32_2)) ∧ w'.cell? (ad283.add (x32_2).toNat) = some (.int .i64 (rd l0_3 x32_2)) ∧ w'.cell? (ad285.add (x32_2).toNat) = some (.int .i64 (rd l0_4 x32_2)) ∧ w'.cell? (ad287.add (x32_2).toNat) = some (.int .i64 (rd l0_2 x32_2)) ∧ w'.cell? (ad285.add (x32_2).toNat) = some (.int .i64 (rd l0_4 x32_2))) (ds := []) Q_0 (by kernel_rfl) rfl rfl ⟨(yG BK280.out 0).trans rfl, (yG BK280.out 1).trans rfl, (yG BK280.out 2).trans rfl, (yG BK280.out 3).trans rfl, (yG BK280.out 4).trans rfl, (yG BK280.out 5).trans rfl, ((HB.out.cell (zQ w _ hw281_0)).trans hw281_0), ((HB.out.cell (zQ w _ hw283_0)).trans hw283_0), ((HB.out.cell (zQ w _ hw285_0)).trans hw285_0), ((HB.out.cell (zQ w _ hw287_0)).trans hw287_0), ((HB.out.cell (zQ w _ hw288_0)).trans hw288_0)⟩ (fun hHeld => ?_); refine with_tabW impl_Selection_slabFormed.tab7 impl_Selection_slabFormed.bits7 (fun HT_ HW_ => ?_)
                 generalize wr.drew = w30 at BK280 HB hx281_0 hx283_0 hx285_0 hx287_0 hx288_0 hHeld ⊢
                 refine qA 0 35 Q_1 HT_ ?_
                 refine qA 2 37 Q_2 HT_ ?_
                 refine qC 1 36 Q_3 HT_ HW_ hHeld ?_ (hy := by rintro w' ⟨s0, s1, s2, s3, s4, s5, s6, s7, s8, s9, s10⟩; go_simp; with_reducible rfl)
                 refine qA 3 38 Q_4 HT_ ?_
                 refine qC 4 39 Q_5 HT_ HW_ hHeld ?_ (hy := by rintro w' ⟨s0, s1, s2, s3, s4, s5, s6, s7, s8, s9, s10⟩; go_simp; with_reducible rfl)
                 refine one_ (i := 5) (N := some 40) Q_6 rfl rfl (one_of HT_.out (by kernel_rfl)) (by decide) (fun K hK => ?_)
                 refine goes_ Try.func106 (by kernel_rfl) rfl #[.int .i64 (rd l0_1 x32_2), .int .i64 0, .int .i64 40] (by rfl) rfl rfl (by (try simp only [zK, zL, zM]); first | done | rfl | (simp only [zN, zO]; rfl)) ?_
                 with_reducible refine (impl_within.calls (rd l0_1 x32_2) 0 40 true _ A15.out).mono ?_
                 rintro e w' ⟨rfl, ⟨nd, rfl⟩⟩
                 refine ⟨_, rfl, ?_⟩
                 refine hK.out _ _ ⟨(yG BK280.out 0).trans rfl, (yG BK280.out 1).trans rfl, (yG BK280.out 2).trans rfl, (yG BK280.out 3).trans rfl, (yG BK280.out 4).trans rfl, (yG BK280.out 5).trans rfl, ((HB.out.cell (zQ w _ hw281_0)).trans hw281_0), ((HB.out.cell (zQ w _ hw283_0)).trans hw283_0), ((HB.out.cell (zQ w _ hw285_0)).trans hw285_0), ((HB.out.cell (zQ w _ hw287_0)).trans hw287_0), ((HB.out.cell (zQ w _ hw288_0)).trans hw288_0)⟩ (fun hHeld => ?_)
                 clear hK K
                 refine norm_ (by show Act.put _ (some 40) _ = _; simp only [Act.put, zH, zI, zJ, i64_w, i32_w]; rfl) ?_
                 refine qA 6 41 Q_7 HT_ ?_
                 refine qA 7 42 Q_8 HT_ ?_
                 refine qA 8 43 Q_9 HT_ ?_
                 refine qA 10 45 Q_10 HT_ ?_
                 refine qC 9 44 Q_11 HT_ HW_ hHeld ?_ (hy := by rintro w' ⟨s0, s1, s2, s3, s4, s5, s6, s7, s8, s9, s10⟩; go_simp; with_reducible rfl)
                 refine qA 11 46 Q_12 HT_ ?_
                 refine qC 12 47 Q_13 HT_ HW_ hHeld ?_ (hy := by rintro w' ⟨s0, s1, s2, s3, s4, s5, s6, s7, s8, s9, s10⟩; go_simp; with_reducible rfl)
                 refine one_ (i := 13) (N := some 48) Q_14 rfl rfl (one_of HT_.out (by kernel_rfl)) (by decide) (fun K hK => ?_)
                 refine goes_ Try.func106 (by kernel_rfl) rfl #[.int .i64 (rd l0_3 x32_2), .int .i64 1, .int .i64 40] (by rfl) rfl rfl (by (try simp only [zK, zL, zM]); first | done | rfl | (simp only [zN, zO]; rfl)) ?_
                 with_reducible refine (impl_within.calls (rd l0_3 x32_2) 1 40 true _ A18.out).mono ?_
                 rintro e w' ⟨rfl, ⟨nd, rfl⟩⟩
                 refine ⟨_, rfl, ?_⟩
                 refine hK.out _ _ ⟨(yG BK280.out 0).trans rfl, (yG BK280.out 1).trans rfl, (yG BK280.out 2).trans rfl, (yG BK280.out 3).trans rfl, (yG BK280.out 4).trans rfl, (yG BK280.out 5).trans rfl, ((HB.out.cell (zQ w _ hw281_0)).trans hw281_0), ((HB.out.cell (zQ w _ hw283_0)).trans hw283_0), ((HB.out.cell (zQ w _ hw285_0)).trans hw285_0), ((HB.out.cell (zQ w _ hw287_0)).trans hw287_0), ((HB.out.cell (zQ w _ hw288_0)).trans hw288_0)⟩ (fun hHeld => ?_)
                 clear hK K
                 refine norm_ (by show Act.put _ (some 48) _ = _; simp only [Act.put, zH, zI, zJ, i64_w, i32_w]; rfl) ?_
                 refine qA 14 49 Q_15 HT_ ?_
                 refine qA 15 50 Q_16 HT_ ?_
                 refine qA 16 51 Q_17 HT_ ?_
                 refine qA 17 52 Q_18 HT_ ?_
                 refine qA 19 54 Q_19 HT_ ?_
                 refine qC 18 53 Q_20 HT_ HW_ hHeld ?_ (hy := by rintro w' ⟨s0, s1, s2, s3, s4, s5, s6, s7, s8, s9, s10⟩; go_simp; with_reducible rfl)
                 refine qA 20 55 Q_21 HT_ ?_
                 refine qC 21 56 Q_22 HT_ HW_ hHeld ?_ (hy := by rintro w' ⟨s0, s1, s2, s3, s4, s5, s6, s7, s8, s9, s10⟩; go_simp; with_reducible rfl)
                 refine one_ (i := 22) (N := some 57) Q_23 rfl rfl (one_of HT_.out (by kernel_rfl)) (by decide) (fun K hK => ?_)
                 refine goes_ Try.func106 (by kernel_rfl) rfl #[.int .i64 (rd l0_4 x32_2), .int .i64 1, .int .i64 40] (by rfl) rfl rfl (by (try simp only [zK, zL, zM]); first | done | rfl | (simp only [zN, zO]; rfl)) ?_
                 with_reducible refine (impl_within.calls (rd l0_4 x32_2) 1 40 true _ A21.out).mono ?_
                 rintro e w' ⟨rfl, ⟨nd, rfl⟩⟩
                 refine ⟨_, rfl, ?_⟩
                 refine hK.out _ _ ⟨(yG BK280.out 0).trans rfl, (yG BK280.out 1).trans rfl, (yG BK280.out 2).trans rfl, (yG BK280.out 3).trans rfl, (yG BK280.out 4).trans rfl, (yG BK280.out 5).trans rfl, ((HB.out.cell (zQ w _ hw281_0)).trans hw281_0), ((HB.out.cell (zQ w _ hw283_0)).trans hw283_0), ((HB.out.cell (zQ w _ hw285_0)).trans hw285_0), ((HB.out.cell (zQ w _ hw287_0)).trans hw287_0), ((HB.out.cell (zQ w _ hw288_0)).trans hw288_0)⟩ (fun hHeld => ?_)
                 clear hK K
                 refine norm_ (by show Act.put _ (some 57) _ = _; simp only [Act.put, zH, zI, zJ, i64_w, i32_w]; rfl) ?_
                 refine qA 23 58 Q_24 HT_ ?_
                 refine qA 24 59 Q_25 HT_ ?_
                 refine qA 25 60 Q_26 HT_ ?_
                 refine qA 26 61 Q_27 HT_ ?_
                 refine qA 28 63 Q_28 HT_ ?_
                 refine qA 31 66 Q_29 HT_ ?_
                 refine qA 33 68 Q_30 HT_ ?_
                 refine qC 27 62 Q_31 HT_ HW_ hHeld ?_ (hy := by rintro w' ⟨s0, s1, s2, s3, s4, s5, s6, s7, s8, s9, s10⟩; go_simp; with_reducible rfl)
                 refine qA 29 64 Q_32 HT_ ?_
                 refine qC 30 65 Q_33 HT_ HW_ hHeld ?_ (hy := by rintro w' ⟨s0, s1, s2, s3, s4, s5, s6, s7, s8, s9, s10⟩; go_simp; with_reducible rfl)
                 refine qC 32 67 Q_34 HT_ HW_ hHeld ?_ (hy := by rintro w' ⟨s0, s1, s2, s3, s4, s5, s6, s7, s8, s9, s10⟩; go_simp; with_reducible rfl)
                 refine qA 34 69 Q_35 HT_ ?_
                 refine qC 35 70 Q_36 HT_ HW_ hHeld ?_ (hy := by rintro w' ⟨s0, s1, s2, s3, s4, s5, s6, s7, s8, s9, s10⟩; go_simp; with_reducible rfl)
                 refine one_ (i := 36) (N := some 71) Q_37 rfl rfl (one_of HT_.out (by kernel_rfl)) (by decide) (fun K hK => ?_)
                 refine goes_ Try.func106 (by kernel_rfl) rfl #[.int .i64 (rd l0_2 x32_2), .int .i64 (rd l0_4 x32_2), .int .i64 40] (by rfl) rfl rfl (by (try simp only [zK, zL, zM]); first | done | rfl | (simp only [zN, zO]; rfl)) ?_
                 with_reducible refine (impl_within.calls (rd l0_2 x32_2) (rd l0_4 x32_2) 40 true _ A24.out).mono ?_
                 rintro e w' ⟨rfl, ⟨nd, rfl⟩⟩
                 refine ⟨_, rfl, ?_⟩
                 refine hK.out _ _ ⟨(yG BK280.out 0).trans rfl, (yG BK280.out 1).trans rfl, (yG BK280.out 2).trans rfl, (yG BK280.out 3).trans rfl, (yG BK280.out 4).trans rfl, (yG BK280.out 5).trans rfl, ((HB.out.cell (zQ w _ hw281_0)).trans hw281_0), ((HB.out.cell (zQ w _ hw283_0)).trans hw283_0), ((HB.out.cell (zQ w _ hw285_0)).trans hw285_0), ((HB.out.cell (zQ w _ hw287_0)).trans hw287_0), ((HB.out.cell (zQ w _ hw288_0)).trans hw288_0)⟩ (fun hHeld => ?_)
                 clear hK K
                 refine norm_ (by show Act.put _ (some 71) _ = _; simp only [Act.put, zH, zI, zJ, i64_w, i32_w]; rfl) ?_
                 refine qA 37 72 Q_38 HT_ ?_
                 refine qA 38 73 Q_39 HT_ ?_
                 refine qA 39 74 Q_40 HT_ ?_
                 refine qA 41 76 Q_41 HT_ ?_
                 refine qC 40 75 Q_42 HT_ HW_ hHeld ?_ (hy := by rintro w' ⟨s0, s1, s2, s3, s4, s5, s6, s7, s8, s9, s10⟩; go_simp; with_reducible rfl)
                 refine one_ (i := 42) (N := some 77) Q_43 rfl rfl (one_of HT_.out (by kernel_rfl)) (by decide) (fun K hK => ?_)
                 refine goes_ Try.func140 (by kernel_rfl) rfl #[.agg #[.int .i64 a0_0, .slice (some ad281) l0_1.length c0_1, .slice (some ad287) l0_2.length c0_2, .slice (some ad283) l0_3.length c0_3, .slice (some ad285) l0_4.length c0_4, .slice A0_5 l0_5.length c0_5], .int .i64 x32_2] (by rfl) rfl rfl (by (try simp only [zK, zL, zM]); first | done | rfl | (simp only [zN, zO]; rfl)) ?_
                 with_reducible refine (impl_Selection_end.calls a0_0 _ _ l0_1 _ _ l0_2 _ _ l0_3 _ _ l0_4 _ _ l0_5 x32_2 t290 _ ?side1 ?side2 ?side3 ?side4 ?side5 ?side6 ?side7 ?side8 ?side9 ?side10 A26.out).mono ?_
                 (case side1 => exact yY HR0_1.out (kB HB))
                 (case side2 => exact HC0_1.out)
                 (case side3 => exact yY HR0_2.out (kB HB))
                 (case side4 => exact HC0_2.out)
                 (case side5 => exact yY HR0_3.out (kB HB))
                 (case side6 => exact HC0_3.out)
                 (case side7 => exact yY HR0_4.out (kB HB))
                 (case side8 => exact HC0_4.out)
                 (case side9 => exact yY HR0_5.out (kB HB))
                 (case side10 => exact HC0_5.out)
                 rintro e w31 ⟨rfl, hb⟩
                 refine ⟨_, rfl, ?_⟩
                 have n0_ := yD (zB (kN BK280) hb)
                 have n1_ := yD (zC (kB HB) hb)
                 clear BK280 HB; have BK280 := n0_; have HB := n1_; clear n0_ n1_; (try clear hb); (try clear hb2); (try clear hk); (try clear hi)
                 refine hK.out _ _ ⟨(yG BK280.out 0).trans rfl, (yG BK280.out 1).trans rfl, (yG BK280.out 2).trans rfl, (yG BK280.out 3).trans rfl, (yG BK280.out 4).trans rfl, (yG BK280.out 5).trans rfl, ((HB.out.cell (zQ w _ hw281_0)).trans hw281_0), ((HB.out.cell (zQ w _ hw283_0)).trans hw283_0), ((HB.out.cell (zQ w _ hw285_0)).trans hw285_0), ((HB.out.cell (zQ w _ hw287_0)).trans hw287_0), ((HB.out.cell (zQ w _ hw288_0)).trans hw288_0)⟩ (fun hHeld => ?_)
                 clear hK K
                 refine norm_ (by show Act.put _ (some 77) _ = _; simp only [Act.put, zH, zI, zJ, i64_w, i32_w]; rfl) ?_
                 refine qA 43 78 Q_44 HT_ ?_
                 refine qA 44 79 Q_45 HT_ ?_
                 refine done_ (done_of HT_.out (by kernel_rfl)) ?_
                 try go_wp2
                 go_roundg k2
                 case measure => have := HJ1.out; have := HK2.out; omega
                 case rel => exact ⟨(wrap64 (x32_2 + 1)), (by first | rfl | (simp; done) | (simp [*]; done)), H', ⟨by have := HJ1.out; have := HK2.out; omega⟩, ⟨by (with_reducible repeat (first | refine yM ?_ _ | refine yO ?_ | refine yN ?_ _)); exact BK280.out⟩, ⟨kR0 HB⟩⟩
               ·
                replace c25 := Bool.eq_false_iff.mpr c25
                subst c25
                have H1 : (some false) = some r := by rw [if_neg (show ¬ (false = true) by decide)] at H; exact H
                clear H; have H := H1; clear H1; obtain rfl := Option.some.inj H
                try go_wp2
                have n0_ := yD (yO BK280.out)
                have n1_ := yD (yP HB.out)
                clear BK280 HB; have BK280 := n0_; have HB := n1_; clear n0_ n1_
                have p281 : 0 ≤ (x32_2 : Int) := zP (by assumption)
                have q281 : x32_2 < (l0_1.length : Int) := zP (by assumption)
                obtain ⟨ad281, e281, hx281_0⟩ := Kd.at_int HR0_1.out x32_2 p281 q281
                have hw281_0 := hx281_0; cases e281
                replace hx281_0 := (HB.out.cell (zQ w _ hx281_0)).trans hx281_0
                replace p281 := eq_true p281; replace q281 := eq_true q281
                have p283 : 0 ≤ (x32_2 : Int) := zP (by assumption)
                have q283 : x32_2 < (l0_3.length : Int) := zP (by assumption)
                obtain ⟨ad283, e283, hx283_0⟩ := Kd.at_int HR0_3.out x32_2 p283 q283
                have hw283_0 := hx283_0; cases e283
                replace hx283_0 := (HB.out.cell (zQ w _ hx283_0)).trans hx283_0
                replace p283 := eq_true p283; replace q283 := eq_true q283
                have p285 : 0 ≤ (x32_2 : Int) := zP (by assumption)
                have q285 : x32_2 < (l0_4.length : Int) := zP (by assumption)
                obtain ⟨ad285, e285, hx285_0⟩ := Kd.at_int HR0_4.out x32_2 p285 q285
                have hw285_0 := hx285_0; cases e285
                replace hx285_0 := (HB.out.cell (zQ w _ hx285_0)).trans hx285_0
                replace p285 := eq_true p285; replace q285 := eq_true q285
                have p287 : 0 ≤ (x32_2 : Int) := zP (by assumption)
                have q287 : x32_2 < (l0_2.length : Int) := zP (by assumption)
                obtain ⟨ad287, e287, hx287_0⟩ := Kd.at_int HR0_2.out x32_2 p287 q287
                have hw287_0 := hx287_0; cases e287
                replace hx287_0 := (HB.out.cell (zQ w _ hx287_0)).trans hx287_0
                replace p287 := eq_true p287; replace q287 := eq_true q287
                have p288 : 0 ≤ (x32_2 : Int) := zP (by assumption)
                have q288 : x32_2 < (l0_4.length : Int) := zP (by assumption)
                obtain ⟨ad288, e288, hx288_0⟩ := Kd.at_int HR0_4.out x32_2 p288 q288
                have hw288_0 := hx288_0
                obtain rfl : ad285 = ad288 := (by injection e288)
                replace hx288_0 := (HB.out.cell (zQ w _ hx288_0)).trans hx288_0
                replace p288 := eq_true p288; replace q288 := eq_true q288
                refine start_ (n := 45) (S := fun w' => w'.cell? ⟨gb280, 0, none⟩ = some (.int .i64 a0_0) ∧ w'.cell? ⟨gb280, 1, none⟩ = some (.slice (some ad281) l0_1.length c0_1) ∧ w'.cell? ⟨gb280, 2, none⟩ = some (.slice (some ad287) l0_2.length c0_2) ∧ w'.cell? ⟨gb280, 3, none⟩ = some (.slice (some ad283) l0_3.length c0_3) ∧ w'.cell? ⟨gb280, 4, none⟩ = some (.slice (some ad285) l0_4.length c0_4) ∧ w'.cell? ⟨gb280, 5, none⟩ = some (.slice A0_5 l0_5.length c0_5) ∧ w'.cell? (ad281.add (x32_2).toNat) = some (.int .i64 (rd l0_1 x32_2)) ∧ w'.cell? (ad283.add (x32_2).toNat) = some (.int .i64 (rd l0_3 x32_2)) ∧ w'.cell? (ad285.add (x32_2).toNat) = some (.int .i64 (rd l0_4 x32_2)) ∧ w'.cell? (ad287.add (x32_2).toNat) = some (.int .i64 (rd l0_2 x32_2)) ∧ w'.cell? (ad285.add (x32_2).toNat) = some (.int .i64 (rd l0_4 x32_2))) (ds := []) Q_0 (by kernel_rfl) rfl rfl ⟨(yG BK280.out 0).trans rfl, (yG BK280.out 1).trans rfl, (yG BK280.out 2).trans rfl, (yG BK280.out 3).trans rfl, (yG BK280.out 4).trans rfl, (yG BK280.out 5).trans rfl, ((HB.out.cell (zQ w _ hw281_0)).trans hw281_0), ((HB.out.cell (zQ w _ hw283_0)).trans hw283_0), ((HB.out.cell (zQ w _ hw285_0)).trans hw285_0), ((HB.out.cell (zQ w _ hw287_0)).trans hw287_0), ((HB.out.cell (zQ w _ hw288_0)).trans hw288_0)⟩ (fun hHeld => ?_); refine with_tabW impl_Selection_slabFormed.tab7 impl_Selection_slabFormed.bits7 (fun HT_ HW_ => ?_)
                generalize wr.drew = w32 at BK280 HB hx281_0 hx283_0 hx285_0 hx287_0 hx288_0 hHeld ⊢
                refine qA 0 35 Q_1 HT_ ?_
                refine qA 2 37 Q_2 HT_ ?_
                refine qC 1 36 Q_3 HT_ HW_ hHeld ?_ (hy := by rintro w' ⟨s0, s1, s2, s3, s4, s5, s6, s7, s8, s9, s10⟩; go_simp; with_reducible rfl)
                refine qA 3 38 Q_4 HT_ ?_
                refine qC 4 39 Q_5 HT_ HW_ hHeld ?_ (hy := by rintro w' ⟨s0, s1, s2, s3, s4, s5, s6, s7, s8, s9, s10⟩; go_simp; with_reducible rfl)
                refine one_ (i := 5) (N := some 40) Q_6 rfl rfl (one_of HT_.out (by kernel_rfl)) (by decide) (fun K hK => ?_)
                refine goes_ Try.func106 (by kernel_rfl) rfl #[.int .i64 (rd l0_1 x32_2), .int .i64 0, .int .i64 40] (by rfl) rfl rfl (by (try simp only [zK, zL, zM]); first | done | rfl | (simp only [zN, zO]; rfl)) ?_
                with_reducible refine (impl_within.calls (rd l0_1 x32_2) 0 40 true _ A15.out).mono ?_
                rintro e w' ⟨rfl, ⟨nd, rfl⟩⟩
                refine ⟨_, rfl, ?_⟩
                refine hK.out _ _ ⟨(yG BK280.out 0).trans rfl, (yG BK280.out 1).trans rfl, (yG BK280.out 2).trans rfl, (yG BK280.out 3).trans rfl, (yG BK280.out 4).trans rfl, (yG BK280.out 5).trans rfl, ((HB.out.cell (zQ w _ hw281_0)).trans hw281_0), ((HB.out.cell (zQ w _ hw283_0)).trans hw283_0), ((HB.out.cell (zQ w _ hw285_0)).trans hw285_0), ((HB.out.cell (zQ w _ hw287_0)).trans hw287_0), ((HB.out.cell (zQ w _ hw288_0)).trans hw288_0)⟩ (fun hHeld => ?_)
                clear hK K
                refine norm_ (by show Act.put _ (some 40) _ = _; simp only [Act.put, zH, zI, zJ, i64_w, i32_w]; rfl) ?_
                refine qA 6 41 Q_7 HT_ ?_
                refine qA 7 42 Q_8 HT_ ?_
                refine qA 8 43 Q_9 HT_ ?_
                refine qA 10 45 Q_10 HT_ ?_
                refine qC 9 44 Q_11 HT_ HW_ hHeld ?_ (hy := by rintro w' ⟨s0, s1, s2, s3, s4, s5, s6, s7, s8, s9, s10⟩; go_simp; with_reducible rfl)
                refine qA 11 46 Q_12 HT_ ?_
                refine qC 12 47 Q_13 HT_ HW_ hHeld ?_ (hy := by rintro w' ⟨s0, s1, s2, s3, s4, s5, s6, s7, s8, s9, s10⟩; go_simp; with_reducible rfl)
                refine one_ (i := 13) (N := some 48) Q_14 rfl rfl (one_of HT_.out (by kernel_rfl)) (by decide) (fun K hK => ?_)
                refine goes_ Try.func106 (by kernel_rfl) rfl #[.int .i64 (rd l0_3 x32_2), .int .i64 1, .int .i64 40] (by rfl) rfl rfl (by (try simp only [zK, zL, zM]); first | done | rfl | (simp only [zN, zO]; rfl)) ?_
                with_reducible refine (impl_within.calls (rd l0_3 x32_2) 1 40 true _ A18.out).mono ?_
                rintro e w' ⟨rfl, ⟨nd, rfl⟩⟩
                refine ⟨_, rfl, ?_⟩
                refine hK.out _ _ ⟨(yG BK280.out 0).trans rfl, (yG BK280.out 1).trans rfl, (yG BK280.out 2).trans rfl, (yG BK280.out 3).trans rfl, (yG BK280.out 4).trans rfl, (yG BK280.out 5).trans rfl, ((HB.out.cell (zQ w _ hw281_0)).trans hw281_0), ((HB.out.cell (zQ w _ hw283_0)).trans hw283_0), ((HB.out.cell (zQ w _ hw285_0)).trans hw285_0), ((HB.out.cell (zQ w _ hw287_0)).trans hw287_0), ((HB.out.cell (zQ w _ hw288_0)).trans hw288_0)⟩ (fun hHeld => ?_)
                clear hK K
                refine norm_ (by show Act.put _ (some 48) _ = _; simp only [Act.put, zH, zI, zJ, i64_w, i32_w]; rfl) ?_
                refine qA 14 49 Q_15 HT_ ?_
                refine qA 15 50 Q_16 HT_ ?_
                refine qA 16 51 Q_17 HT_ ?_
                refine qA 17 52 Q_18 HT_ ?_
                refine qA 19 54 Q_19 HT_ ?_
                refine qC 18 53 Q_20 HT_ HW_ hHeld ?_ (hy := by rintro w' ⟨s0, s1, s2, s3, s4, s5, s6, s7, s8, s9, s10⟩; go_simp; with_reducible rfl)
                refine qA 20 55 Q_21 HT_ ?_
                refine qC 21 56 Q_22 HT_ HW_ hHeld ?_ (hy := by rintro w' ⟨s0, s1, s2, s3, s4, s5, s6, s7, s8, s9, s10⟩; go_simp; with_reducible rfl)
                refine one_ (i := 22) (N := some 57) Q_23 rfl rfl (one_of HT_.out (by kernel_rfl)) (by decide) (fun K hK => ?_)
                refine goes_ Try.func106 (by kernel_rfl) rfl #[.int .i64 (rd l0_4 x32_2), .int .i64 1, .int .i64 40] (by rfl) rfl rfl (by (try simp only [zK, zL, zM]); first | done | rfl | (simp only [zN, zO]; rfl)) ?_
                with_reducible refine (impl_within.calls (rd l0_4 x32_2) 1 40 true _ A21.out).mono ?_
                rintro e w' ⟨rfl, ⟨nd, rfl⟩⟩
                refine ⟨_, rfl, ?_⟩
                refine hK.out _ _ ⟨(yG BK280.out 0).trans rfl, (yG BK280.out 1).trans rfl, (yG BK280.out 2).trans rfl, (yG BK280.out 3).trans rfl, (yG BK280.out 4).trans rfl, (yG BK280.out 5).trans rfl, ((HB.out.cell (zQ w _ hw281_0)).trans hw281_0), ((HB.out.cell (zQ w _ hw283_0)).trans hw283_0), ((HB.out.cell (zQ w _ hw285_0)).trans hw285_0), ((HB.out.cell (zQ w _ hw287_0)).trans hw287_0), ((HB.out.cell (zQ w _ hw288_0)).trans hw288_0)⟩ (fun hHeld => ?_)
                clear hK K
                refine norm_ (by show Act.put _ (some 57) _ = _; simp only [Act.put, zH, zI, zJ, i64_w, i32_w]; rfl) ?_
                refine qA 23 58 Q_24 HT_ ?_
                refine qA 24 59 Q_25 HT_ ?_
                refine qA 25 60 Q_26 HT_ ?_
                refine qA 26 61 Q_27 HT_ ?_
                refine qA 28 63 Q_28 HT_ ?_
                refine qA 31 66 Q_29 HT_ ?_
                refine qA 33 68 Q_30 HT_ ?_
                refine qC 27 62 Q_31 HT_ HW_ hHeld ?_ (hy := by rintro w' ⟨s0, s1, s2, s3, s4, s5, s6, s7, s8, s9, s10⟩; go_simp; with_reducible rfl)
                refine qA 29 64 Q_32 HT_ ?_
                refine qC 30 65 Q_33 HT_ HW_ hHeld ?_ (hy := by rintro w' ⟨s0, s1, s2, s3, s4, s5, s6, s7, s8, s9, s10⟩; go_simp; with_reducible rfl)
                refine qC 32 67 Q_34 HT_ HW_ hHeld ?_ (hy := by rintro w' ⟨s0, s1, s2, s3, s4, s5, s6, s7, s8, s9, s10⟩; go_simp; with_reducible rfl)
                refine qA 34 69 Q_35 HT_ ?_
                refine qC 35 70 Q_36 HT_ HW_ hHeld ?_ (hy := by rintro w' ⟨s0, s1, s2, s3, s4, s5, s6, s7, s8, s9, s10⟩; go_simp; with_reducible rfl)
                refine one_ (i := 36) (N := some 71) Q_37 rfl rfl (one_of HT_.out (by kernel_rfl)) (by decide) (fun K hK => ?_)
                refine goes_ Try.func106 (by kernel_rfl) rfl #[.int .i64 (rd l0_2 x32_2), .int .i64 (rd l0_4 x32_2), .int .i64 40] (by rfl) rfl rfl (by (try simp only [zK, zL, zM]); first | done | rfl | (simp only [zN, zO]; rfl)) ?_
                with_reducible refine (impl_within.calls (rd l0_2 x32_2) (rd l0_4 x32_2) 40 false _ A24.out).mono ?_
                rintro e w' ⟨rfl, ⟨nd, rfl⟩⟩
                refine ⟨_, rfl, ?_⟩
                refine hK.out _ _ ⟨(yG BK280.out 0).trans rfl, (yG BK280.out 1).trans rfl, (yG BK280.out 2).trans rfl, (yG BK280.out 3).trans rfl, (yG BK280.out 4).trans rfl, (yG BK280.out 5).trans rfl, ((HB.out.cell (zQ w _ hw281_0)).trans hw281_0), ((HB.out.cell (zQ w _ hw283_0)).trans hw283_0), ((HB.out.cell (zQ w _ hw285_0)).trans hw285_0), ((HB.out.cell (zQ w _ hw287_0)).trans hw287_0), ((HB.out.cell (zQ w _ hw288_0)).trans hw288_0)⟩ (fun hHeld => ?_)
                clear hK K
                refine norm_ (by show Act.put _ (some 71) _ = _; simp only [Act.put, zH, zI, zJ, i64_w, i32_w]; rfl) ?_
                refine qA 37 72 Q_38 HT_ ?_
                refine qA 38 73 Q_39 HT_ ?_
                refine qA 39 74 Q_40 HT_ ?_
                refine qB 40 75 Q_46 HT_ ?_
                refine qB 41 76 Q_42 HT_ ?_
                refine qB 42 77 Q_43 HT_ ?_
                refine qB 43 78 Q_44 HT_ ?_
                refine qA 44 79 Q_45 HT_ ?_
                refine done_ (done_of HT_.out (by kernel_rfl)) ?_
                try go_wp2
                go_ret
                exact ⟨by first | rfl | (simp <;> rfl) | (simp [*] <;> rfl), kR0 HB⟩
              ·
               rw [if_neg c23] at H
               exact absurd H (by simp)
             ·
              replace c22 := Bool.eq_false_iff.mpr c22
              subst c22
              have H1 : (some false) = some r := by rw [if_neg (show ¬ (false = true) by decide)] at H; exact H
              clear H; have H := H1; clear H1; obtain rfl := Option.some.inj H
              try go_wp2
              have n0_ := yD (yO BK280.out)
              have n1_ := yD (yP HB.out)
              clear BK280 HB; have BK280 := n0_; have HB := n1_; clear n0_ n1_
              have p281 : 0 ≤ (x32_2 : Int) := zP (by assumption)
              have q281 : x32_2 < (l0_1.length : Int) := zP (by assumption)
              obtain ⟨ad281, e281, hx281_0⟩ := Kd.at_int HR0_1.out x32_2 p281 q281
              have hw281_0 := hx281_0; cases e281
              replace hx281_0 := (HB.out.cell (zQ w _ hx281_0)).trans hx281_0
              replace p281 := eq_true p281; replace q281 := eq_true q281
              have p283 : 0 ≤ (x32_2 : Int) := zP (by assumption)
              have q283 : x32_2 < (l0_3.length : Int) := zP (by assumption)
              obtain ⟨ad283, e283, hx283_0⟩ := Kd.at_int HR0_3.out x32_2 p283 q283
              have hw283_0 := hx283_0; cases e283
              replace hx283_0 := (HB.out.cell (zQ w _ hx283_0)).trans hx283_0
              replace p283 := eq_true p283; replace q283 := eq_true q283
              have p285 : 0 ≤ (x32_2 : Int) := zP (by assumption)
              have q285 : x32_2 < (l0_4.length : Int) := zP (by assumption)
              obtain ⟨ad285, e285, hx285_0⟩ := Kd.at_int HR0_4.out x32_2 p285 q285
              have hw285_0 := hx285_0; cases e285
              replace hx285_0 := (HB.out.cell (zQ w _ hx285_0)).trans hx285_0
              replace p285 := eq_true p285; replace q285 := eq_true q285
              refine start_ (n := 45) (S := fun w' => w'.cell? ⟨gb280, 0, none⟩ = some (.int .i64 a0_0) ∧ w'.cell? ⟨gb280, 1, none⟩ = some (.slice (some ad281) l0_1.length c0_1) ∧ w'.cell? ⟨gb280, 2, none⟩ = some (.slice A0_2 l0_2.length c0_2) ∧ w'.cell? ⟨gb280, 3, none⟩ = some (.slice (some ad283) l0_3.length c0_3) ∧ w'.cell? ⟨gb280, 4, none⟩ = some (.slice (some ad285) l0_4.length c0_4) ∧ w'.cell? ⟨gb280, 5, none⟩ = some (.slice A0_5 l0_5.length c0_5) ∧ w'.cell? (ad281.add (x32_2).toNat) = some (.int .i64 (rd l0_1 x32_2)) ∧ w'.cell? (ad283.add (x32_2).toNat) = some (.int .i64 (rd l0_3 x32_2)) ∧ w'.cell? (ad285.add (x32_2).toNat) = some (.int .i64 (rd l0_4 x32_2))) (ds := []) Q_0 (by kernel_rfl) rfl rfl ⟨(yG BK280.out 0).trans rfl, (yG BK280.out 1).trans rfl, (yG BK280.out 2).trans rfl, (yG BK280.out 3).trans rfl, (yG BK280.out 4).trans rfl, (yG BK280.out 5).trans rfl, ((HB.out.cell (zQ w _ hw281_0)).trans hw281_0), ((HB.out.cell (zQ w _ hw283_0)).trans hw283_0), ((HB.out.cell (zQ w _ hw285_0)).trans hw285_0)⟩ (fun hHeld => ?_); refine with_tabW impl_Selection_slabFormed.tab7 impl_Selection_slabFormed.bits7 (fun HT_ HW_ => ?_)
              generalize wr.drew = w33 at BK280 HB hx281_0 hx283_0 hx285_0 hHeld ⊢
              refine qA 0 35 Q_1 HT_ ?_
              refine qA 2 37 Q_2 HT_ ?_
              refine qC 1 36 Q_3 HT_ HW_ hHeld ?_ (hy := by rintro w' ⟨s0, s1, s2, s3, s4, s5, s6, s7, s8⟩; go_simp; with_reducible rfl)
              refine qA 3 38 Q_4 HT_ ?_
              refine qC 4 39 Q_5 HT_ HW_ hHeld ?_ (hy := by rintro w' ⟨s0, s1, s2, s3, s4, s5, s6, s7, s8⟩; go_simp; with_reducible rfl)
              refine one_ (i := 5) (N := some 40) Q_6 rfl rfl (one_of HT_.out (by kernel_rfl)) (by decide) (fun K hK => ?_)
              refine goes_ Try.func106 (by kernel_rfl) rfl #[.int .i64 (rd l0_1 x32_2), .int .i64 0, .int .i64 40] (by rfl) rfl rfl (by (try simp only [zK, zL, zM]); first | done | rfl | (simp only [zN, zO]; rfl)) ?_
              with_reducible refine (impl_within.calls (rd l0_1 x32_2) 0 40 true _ A15.out).mono ?_
              rintro e w' ⟨rfl, ⟨nd, rfl⟩⟩
              refine ⟨_, rfl, ?_⟩
              refine hK.out _ _ ⟨(yG BK280.out 0).trans rfl, (yG BK280.out 1).trans rfl, (yG BK280.out 2).trans rfl, (yG BK280.out 3).trans rfl, (yG BK280.out 4).trans rfl, (yG BK280.out 5).trans rfl, ((HB.out.cell (zQ w _ hw281_0)).trans hw281_0), ((HB.out.cell (zQ w _ hw283_0)).trans hw283_0), ((HB.out.cell (zQ w _ hw285_0)).trans hw285_0)⟩ (fun hHeld => ?_)
              clear hK K
              refine norm_ (by show Act.put _ (some 40) _ = _; simp only [Act.put, zH, zI, zJ, i64_w, i32_w]; rfl) ?_
              refine qA 6 41 Q_7 HT_ ?_
              refine qA 7 42 Q_8 HT_ ?_
              refine qA 8 43 Q_9 HT_ ?_
              refine qA 10 45 Q_10 HT_ ?_
              refine qC 9 44 Q_11 HT_ HW_ hHeld ?_ (hy := by rintro w' ⟨s0, s1, s2, s3, s4, s5, s6, s7, s8⟩; go_simp; with_reducible rfl)
              refine qA 11 46 Q_12 HT_ ?_
              refine qC 12 47 Q_13 HT_ HW_ hHeld ?_ (hy := by rintro w' ⟨s0, s1, s2, s3, s4, s5, s6, s7, s8⟩; go_simp; with_reducible rfl)
              refine one_ (i := 13) (N := some 48) Q_14 rfl rfl (one_of HT_.out (by kernel_rfl)) (by decide) (fun K hK => ?_)
              refine goes_ Try.func106 (by kernel_rfl) rfl #[.int .i64 (rd l0_3 x32_2), .int .i64 1, .int .i64 40] (by rfl) rfl rfl (by (try simp only [zK, zL, zM]); first | done | rfl | (simp only [zN, zO]; rfl)) ?_
              with_reducible refine (impl_within.calls (rd l0_3 x32_2) 1 40 true _ A18.out).mono ?_
              rintro e w' ⟨rfl, ⟨nd, rfl⟩⟩
              refine ⟨_, rfl, ?_⟩
              refine hK.out _ _ ⟨(yG BK280.out 0).trans rfl, (yG BK280.out 1).trans rfl, (yG BK280.out 2).trans rfl, (yG BK280.out 3).trans rfl, (yG BK280.out 4).trans rfl, (yG BK280.out 5).trans rfl, ((HB.out.cell (zQ w _ hw281_0)).trans hw281_0), ((HB.out.cell (zQ w _ hw283_0)).trans hw283_0), ((HB.out.cell (zQ w _ hw285_0)).trans hw285_0)⟩ (fun hHeld => ?_)
              clear hK K
              refine norm_ (by show Act.put _ (some 48) _ = _; simp only [Act.put, zH, zI, zJ, i64_w, i32_w]; rfl) ?_
              refine qA 14 49 Q_15 HT_ ?_
              refine qA 15 50 Q_16 HT_ ?_
              refine qA 16 51 Q_17 HT_ ?_
              refine qA 17 52 Q_18 HT_ ?_
              refine qA 19 54 Q_19 HT_ ?_
              refine qC 18 53 Q_20 HT_ HW_ hHeld ?_ (hy := by rintro w' ⟨s0, s1, s2, s3, s4, s5, s6, s7, s8⟩; go_simp; with_reducible rfl)
              refine qA 20 55 Q_21 HT_ ?_
              refine qC 21 56 Q_22 HT_ HW_ hHeld ?_ (hy := by rintro w' ⟨s0, s1, s2, s3, s4, s5, s6, s7, s8⟩; go_simp; with_reducible rfl)
              refine one_ (i := 22) (N := some 57) Q_23 rfl rfl (one_of HT_.out (by kernel_rfl)) (by decide) (fun K hK => ?_)
              refine goes_ Try.func106 (by kernel_rfl) rfl #[.int .i64 (rd l0_4 x32_2), .int .i64 1, .int .i64 40] (by rfl) rfl rfl (by (try simp only [zK, zL, zM]); first | done | rfl | (simp only [zN, zO]; rfl)) ?_
              with_reducible refine (impl_within.calls (rd l0_4 x32_2) 1 40 false _ A21.out).mono ?_
              rintro e w' ⟨rfl, ⟨nd, rfl⟩⟩
              refine ⟨_, rfl, ?_⟩
              refine hK.out _ _ ⟨(yG BK280.out 0).trans rfl, (yG BK280.out 1).trans rfl, (yG BK280.out 2).trans rfl, (yG BK280.out 3).trans rfl, (yG BK280.out 4).trans rfl, (yG BK280.out 5).trans rfl, ((HB.out.cell (zQ w _ hw281_0)).trans hw281_0), ((HB.out.cell (zQ w _ hw283_0)).trans hw283_0), ((HB.out.cell (zQ w _ hw285_0)).trans hw285_0)⟩ (fun hHeld => ?_)
              clear hK K
              refine norm_ (by show Act.put _ (some 57) _ = _; simp only [Act.put, zH, zI, zJ, i64_w, i32_w]; rfl) ?_
              refine qA 23 58 Q_24 HT_ ?_
              refine qA 24 59 Q_25 HT_ ?_
              refine qA 25 60 Q_26 HT_ ?_
              refine qB 26 61 Q_27 HT_ ?_
              refine qB 27 62 Q_47 HT_ ?_
              refine qB 28 63 Q_48 HT_ ?_
              refine qB 29 64 Q_49 HT_ ?_
              refine qB 30 65 Q_50 HT_ ?_
              refine qB 31 66 Q_51 HT_ ?_
              refine qB 32 67 Q_52 HT_ ?_
              refine qB 33 68 Q_34 HT_ ?_
              refine qB 34 69 Q_35 HT_ ?_
              refine qB 35 70 Q_36 HT_ ?_
              refine qB 36 71 Q_37 HT_ ?_
              refine qB 37 72 Q_38 HT_ ?_
              refine qA 38 73 Q_39 HT_ ?_
              refine qA 39 74 Q_40 HT_ ?_
              refine qB 40 75 Q_46 HT_ ?_
              refine qB 41 76 Q_42 HT_ ?_
              refine qB 42 77 Q_43 HT_ ?_
              refine qB 43 78 Q_44 HT_ ?_
              refine qA 44 79 Q_45 HT_ ?_
              refine done_ (done_of HT_.out (by kernel_rfl)) ?_
              try go_wp2
              go_ret
              exact ⟨by first | rfl | (simp <;> rfl) | (simp [*] <;> rfl), kR0 HB⟩
            ·
             rw [if_neg c20] at H
             exact absurd H (by simp)
           ·
            replace c19 := Bool.eq_false_iff.mpr c19
            subst c19
            have H1 : (some false) = some r := by rw [if_neg (show ¬ (false = true) by decide)] at H; exact H
            clear H; have H := H1; clear H1; obtain rfl := Option.some.inj H
            try go_wp2
            have n0_ := yD (yO BK280.out)
            have n1_ := yD (yP HB.out)
            clear BK280 HB; have BK280 := n0_; have HB := n1_; clear n0_ n1_
            have p281 : 0 ≤ (x32_2 : Int) := zP (by assumption)
            have q281 : x32_2 < (l0_1.length : Int) := zP (by assumption)
            obtain ⟨ad281, e281, hx281_0⟩ := Kd.at_int HR0_1.out x32_2 p281 q281
            have hw281_0 := hx281_0; cases e281
            replace hx281_0 := (HB.out.cell (zQ w _ hx281_0)).trans hx281_0
            replace p281 := eq_true p281; replace q281 := eq_true q281
            have p283 : 0 ≤ (x32_2 : Int) := zP (by assumption)
            have q283 : x32_2 < (l0_3.length : Int) := zP (by assumption)
            obtain ⟨ad283, e283, hx283_0⟩ := Kd.at_int HR0_3.out x32_2 p283 q283
            have hw283_0 := hx283_0; cases e283
            replace hx283_0 := (HB.out.cell (zQ w _ hx283_0)).trans hx283_0
            replace p283 := eq_true p283; replace q283 := eq_true q283
            refine start_ (n := 45) (S := fun w' => w'.cell? ⟨gb280, 0, none⟩ = some (.int .i64 a0_0) ∧ w'.cell? ⟨gb280, 1, none⟩ = some (.slice (some ad281) l0_1.length c0_1) ∧ w'.cell? ⟨gb280, 2, none⟩ = some (.slice A0_2 l0_2.length c0_2) ∧ w'.cell? ⟨gb280, 3, none⟩ = some (.slice (some ad283) l0_3.length c0_3) ∧ w'.cell? ⟨gb280, 4, none⟩ = some (.slice A0_4 l0_4.length c0_4) ∧ w'.cell? ⟨gb280, 5, none⟩ = some (.slice A0_5 l0_5.length c0_5) ∧ w'.cell? (ad281.add (x32_2).toNat) = some (.int .i64 (rd l0_1 x32_2)) ∧ w'.cell? (ad283.add (x32_2).toNat) = some (.int .i64 (rd l0_3 x32_2))) (ds := []) Q_0 (by kernel_rfl) rfl rfl ⟨(yG BK280.out 0).trans rfl, (yG BK280.out 1).trans rfl, (yG BK280.out 2).trans rfl, (yG BK280.out 3).trans rfl, (yG BK280.out 4).trans rfl, (yG BK280.out 5).trans rfl, ((HB.out.cell (zQ w _ hw281_0)).trans hw281_0), ((HB.out.cell (zQ w _ hw283_0)).trans hw283_0)⟩ (fun hHeld => ?_); refine with_tabW impl_Selection_slabFormed.tab7 impl_Selection_slabFormed.bits7 (fun HT_ HW_ => ?_)
            generalize wr.drew = w34 at BK280 HB hx281_0 hx283_0 hHeld ⊢
            refine qA 0 35 Q_1 HT_ ?_
            refine qA 2 37 Q_2 HT_ ?_
            refine qC 1 36 Q_3 HT_ HW_ hHeld ?_ (hy := by rintro w' ⟨s0, s1, s2, s3, s4, s5, s6, s7⟩; go_simp; with_reducible rfl)
            refine qA 3 38 Q_4 HT_ ?_
            refine qC 4 39 Q_5 HT_ HW_ hHeld ?_ (hy := by rintro w' ⟨s0, s1, s2, s3, s4, s5, s6, s7⟩; go_simp; with_reducible rfl)
            refine one_ (i := 5) (N := some 40) Q_6 rfl rfl (one_of HT_.out (by kernel_rfl)) (by decide) (fun K hK => ?_)
            refine goes_ Try.func106 (by kernel_rfl) rfl #[.int .i64 (rd l0_1 x32_2), .int .i64 0, .int .i64 40] (by rfl) rfl rfl (by (try simp only [zK, zL, zM]); first | done | rfl | (simp only [zN, zO]; rfl)) ?_
            with_reducible refine (impl_within.calls (rd l0_1 x32_2) 0 40 true _ A15.out).mono ?_
            rintro e w' ⟨rfl, ⟨nd, rfl⟩⟩
            refine ⟨_, rfl, ?_⟩
            refine hK.out _ _ ⟨(yG BK280.out 0).trans rfl, (yG BK280.out 1).trans rfl, (yG BK280.out 2).trans rfl, (yG BK280.out 3).trans rfl, (yG BK280.out 4).trans rfl, (yG BK280.out 5).trans rfl, ((HB.out.cell (zQ w _ hw281_0)).trans hw281_0), ((HB.out.cell (zQ w _ hw283_0)).trans hw283_0)⟩ (fun hHeld => ?_)
            clear hK K
            refine norm_ (by show Act.put _ (some 40) _ = _; simp only [Act.put, zH, zI, zJ, i64_w, i32_w]; rfl) ?_
            refine qA 6 41 Q_7 HT_ ?_
            refine qA 7 42 Q_8 HT_ ?_
            refine qA 8 43 Q_9 HT_ ?_
            refine qA 10 45 Q_10 HT_ ?_
            refine qC 9 44 Q_11 HT_ HW_ hHeld ?_ (hy := by rintro w' ⟨s0, s1, s2, s3, s4, s5, s6, s7⟩; go_simp; with_reducible rfl)
            refine qA 11 46 Q_12 HT_ ?_
            refine qC 12 47 Q_13 HT_ HW_ hHeld ?_ (hy := by rintro w' ⟨s0, s1, s2, s3, s4, s5, s6, s7⟩; go_simp; with_reducible rfl)
            refine one_ (i := 13) (N := some 48) Q_14 rfl rfl (one_of HT_.out (by kernel_rfl)) (by decide) (fun K hK => ?_)
            refine goes_ Try.func106 (by kernel_rfl) rfl #[.int .i64 (rd l0_3 x32_2), .int .i64 1, .int .i64 40] (by rfl) rfl rfl (by (try simp only [zK, zL, zM]); first | done | rfl | (simp only [zN, zO]; rfl)) ?_
            with_reducible refine (impl_within.calls (rd l0_3 x32_2) 1 40 false _ A18.out).mono ?_
            rintro e w' ⟨rfl, ⟨nd, rfl⟩⟩
            refine ⟨_, rfl, ?_⟩
            refine hK.out _ _ ⟨(yG BK280.out 0).trans rfl, (yG BK280.out 1).trans rfl, (yG BK280.out 2).trans rfl, (yG BK280.out 3).trans rfl, (yG BK280.out 4).trans rfl, (yG BK280.out 5).trans rfl, ((HB.out.cell (zQ w _ hw281_0)).trans hw281_0), ((HB.out.cell (zQ w _ hw283_0)).trans hw283_0)⟩ (fun hHeld => ?_)
            clear hK K
            refine norm_ (by show Act.put _ (some 48) _ = _; simp only [Act.put, zH, zI, zJ, i64_w, i32_w]; rfl) ?_
            refine qA 14 49 Q_15 HT_ ?_
            refine qA 15 50 Q_16 HT_ ?_
            refine qA 16 51 Q_17 HT_ ?_
            refine qB 17 52 Q_18 HT_ ?_
            refine qB 18 53 Q_53 HT_ ?_
            refine qB 19 54 Q_20 HT_ ?_
            refine qB 20 55 Q_21 HT_ ?_
            refine qB 21 56 Q_22 HT_ ?_
            refine qB 22 57 Q_23 HT_ ?_
            refine qB 23 58 Q_24 HT_ ?_
            refine qA 24 59 Q_25 HT_ ?_
            refine qA 25 60 Q_26 HT_ ?_
            refine qB 26 61 Q_27 HT_ ?_
            refine qB 27 62 Q_47 HT_ ?_
            refine qB 28 63 Q_48 HT_ ?_
            refine qB 29 64 Q_49 HT_ ?_
            refine qB 30 65 Q_50 HT_ ?_
            refine qB 31 66 Q_51 HT_ ?_
            refine qB 32 67 Q_52 HT_ ?_
            refine qB 33 68 Q_34 HT_ ?_
            refine qB 34 69 Q_35 HT_ ?_
            refine qB 35 70 Q_36 HT_ ?_
            refine qB 36 71 Q_37 HT_ ?_
            refine qB 37 72 Q_38 HT_ ?_
            refine qA 38 73 Q_39 HT_ ?_
            refine qA 39 74 Q_40 HT_ ?_
            refine qB 40 75 Q_46 HT_ ?_
            refine qB 41 76 Q_42 HT_ ?_
            refine qB 42 77 Q_43 HT_ ?_
            refine qB 43 78 Q_44 HT_ ?_
            refine qA 44 79 Q_45 HT_ ?_
            refine done_ (done_of HT_.out (by kernel_rfl)) ?_
            try go_wp2
            go_ret
            exact ⟨by first | rfl | (simp <;> rfl) | (simp [*] <;> rfl), kR0 HB⟩
          ·
           rw [if_neg c17] at H
           exact absurd H (by simp)
         ·
          replace c16 := Bool.eq_false_iff.mpr c16
          subst c16
          have H1 : (some false) = some r := by rw [if_neg (show ¬ (false = true) by decide)] at H; exact H
          clear H; have H := H1; clear H1; obtain rfl := Option.some.inj H
          try go_wp2
          have n0_ := yD (yO BK280.out)
          have n1_ := yD (yP HB.out)
          clear BK280 HB; have BK280 := n0_; have HB := n1_; clear n0_ n1_
          have p281 : 0 ≤ (x32_2 : Int) := zP (by assumption)
          have q281 : x32_2 < (l0_1.length : Int) := zP (by assumption)
          obtain ⟨ad281, e281, hx281_0⟩ := Kd.at_int HR0_1.out x32_2 p281 q281
          have hw281_0 := hx281_0; cases e281
          replace hx281_0 := (HB.out.cell (zQ w _ hx281_0)).trans hx281_0
          replace p281 := eq_true p281; replace q281 := eq_true q281
          refine start_ (n := 45) (S := fun w' => w'.cell? ⟨gb280, 0, none⟩ = some (.int .i64 a0_0) ∧ w'.cell? ⟨gb280, 1, none⟩ = some (.slice (some ad281) l0_1.length c0_1) ∧ w'.cell? ⟨gb280, 2, none⟩ = some (.slice A0_2 l0_2.length c0_2) ∧ w'.cell? ⟨gb280, 3, none⟩ = some (.slice A0_3 l0_3.length c0_3) ∧ w'.cell? ⟨gb280, 4, none⟩ = some (.slice A0_4 l0_4.length c0_4) ∧ w'.cell? ⟨gb280, 5, none⟩ = some (.slice A0_5 l0_5.length c0_5) ∧ w'.cell? (ad281.add (x32_2).toNat) = some (.int .i64 (rd l0_1 x32_2))) (ds := []) Q_0 (by kernel_rfl) rfl rfl ⟨(yG BK280.out 0).trans rfl, (yG BK280.out 1).trans rfl, (yG BK280.out 2).trans rfl, (yG BK280.out 3).trans rfl, (yG BK280.out 4).trans rfl, (yG BK280.out 5).trans rfl, ((HB.out.cell (zQ w _ hw281_0)).trans hw281_0)⟩ (fun hHeld => ?_); refine with_tabW impl_Selection_slabFormed.tab7 impl_Selection_slabFormed.bits7 (fun HT_ HW_ => ?_)
          generalize wr.drew = w35 at BK280 HB hx281_0 hHeld ⊢
          refine qA 0 35 Q_1 HT_ ?_
          refine qA 2 37 Q_2 HT_ ?_
          refine qC 1 36 Q_3 HT_ HW_ hHeld ?_ (hy := by rintro w' ⟨s0, s1, s2, s3, s4, s5, s6⟩; go_simp; with_reducible rfl)
          refine qA 3 38 Q_4 HT_ ?_
          refine qC 4 39 Q_5 HT_ HW_ hHeld ?_ (hy := by rintro w' ⟨s0, s1, s2, s3, s4, s5, s6⟩; go_simp; with_reducible rfl)
          refine one_ (i := 5) (N := some 40) Q_6 rfl rfl (one_of HT_.out (by kernel_rfl)) (by decide) (fun K hK => ?_)
          refine goes_ Try.func106 (by kernel_rfl) rfl #[.int .i64 (rd l0_1 x32_2), .int .i64 0, .int .i64 40] (by rfl) rfl rfl (by (try simp only [zK, zL, zM]); first | done | rfl | (simp only [zN, zO]; rfl)) ?_
          with_reducible refine (impl_within.calls (rd l0_1 x32_2) 0 40 false _ A15.out).mono ?_
          rintro e w' ⟨rfl, ⟨nd, rfl⟩⟩
          refine ⟨_, rfl, ?_⟩
          refine hK.out _ _ ⟨(yG BK280.out 0).trans rfl, (yG BK280.out 1).trans rfl, (yG BK280.out 2).trans rfl, (yG BK280.out 3).trans rfl, (yG BK280.out 4).trans rfl, (yG BK280.out 5).trans rfl, ((HB.out.cell (zQ w _ hw281_0)).trans hw281_0)⟩ (fun hHeld => ?_)
          clear hK K
          refine norm_ (by show Act.put _ (some 40) _ = _; simp only [Act.put, zH, zI, zJ, i64_w, i32_w]; rfl) ?_
          refine qA 6 41 Q_7 HT_ ?_
          refine qA 7 42 Q_8 HT_ ?_
          refine qB 8 43 Q_9 HT_ ?_
          refine qB 9 44 Q_54 HT_ ?_
          refine qB 10 45 Q_11 HT_ ?_
          refine qB 11 46 Q_12 HT_ ?_
          refine qB 12 47 Q_13 HT_ ?_
          refine qB 13 48 Q_14 HT_ ?_
          refine qB 14 49 Q_15 HT_ ?_
          refine qA 15 50 Q_16 HT_ ?_
          refine qA 16 51 Q_17 HT_ ?_
          refine qB 17 52 Q_18 HT_ ?_
          refine qB 18 53 Q_53 HT_ ?_
          refine qB 19 54 Q_20 HT_ ?_
          refine qB 20 55 Q_21 HT_ ?_
          refine qB 21 56 Q_22 HT_ ?_
          refine qB 22 57 Q_23 HT_ ?_
          refine qB 23 58 Q_24 HT_ ?_
          refine qA 24 59 Q_25 HT_ ?_
          refine qA 25 60 Q_26 HT_ ?_
          refine qB 26 61 Q_27 HT_ ?_
          refine qB 27 62 Q_47 HT_ ?_
          refine qB 28 63 Q_48 HT_ ?_
          refine qB 29 64 Q_49 HT_ ?_
          refine qB 30 65 Q_50 HT_ ?_
          refine qB 31 66 Q_51 HT_ ?_
          refine qB 32 67 Q_52 HT_ ?_
          refine qB 33 68 Q_34 HT_ ?_
          refine qB 34 69 Q_35 HT_ ?_
          refine qB 35 70 Q_36 HT_ ?_
          refine qB 36 71 Q_37 HT_ ?_
          refine qB 37 72 Q_38 HT_ ?_
          refine qA 38 73 Q_39 HT_ ?_
          refine qA 39 74 Q_40 HT_ ?_
          refine qB 40 75 Q_46 HT_ ?_
          refine qB 41 76 Q_42 HT_ ?_
          refine qB 42 77 Q_43 HT_ ?_
          refine qB 43 78 Q_44 HT_ ?_
          refine qA 44 79 Q_45 HT_ ?_
          refine done_ (done_of HT_.out (by kernel_rfl)) ?_
          try go_wp2
          go_ret
          exact ⟨by first | rfl | (simp <;> rfl) | (simp [*] <;> rfl), kR0 HB⟩
        ·
         rw [if_neg c14] at H
         exact absurd H (by simp)
       ·
        rw [if_neg c13] at H
        exact absurd H (by simp)
      ·
       rw [if_neg c12] at H; have c12b0 : decide (x32_2 < (l0_1.length : Int)) = false := zS c12; clear c12; obtain rfl := Option.some.inj H
       go_wp2
       go_ret
       exact ⟨by first | rfl | (simp <;> rfl) | (simp [*] <;> rfl), kR0 HB⟩

end Go.Proofs.Ytdiaebjbiddefaa.PFnExactSelectedIndices
