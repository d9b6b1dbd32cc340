/- Each Go function here comes to what the plain function of its name says, where that says something. Made by a program of this session, over the print. -/
import Derived.Test.YtgpkkplabnliiaaPFnRangesx0
import Derived.Test.YtgpkkplabnliiaaPFnRangesx3
import Derived.Test.YtgpkkplabnliiaaPFnRangesx4
namespace Go.Proofs.Ytgpkkplabnliiaa.PFnRanges
open Go.RowKit Go.Proofs.YtgpkkplabnliiaaW.PrintWords Go.Proofs.YtgpkkplabnliiaaW.PrintLast Go.Proofs.YtgpkkplabnliiaaW.PrintMore
attribute [local go_sem] max2_int min2_int max_two min_two max_three min_three max_four min_four   -- for this text's walks alone
set_option linter.unusedVariables false
set_option linter.unusedSimpArgs false

/-! ### spec_l06Slab: function 65 -/
mutual
def spec_l06Slab.j0 : Nat → Int → Bool → Int → List Int → List Int → List Int → List Int → List (S97) → Option (Bool)
 | 0, _, _, _, _, _, _, _, _ => none
 | k + 1, x3, x36, x273000, x273001, x273002, x273003, x273004, x273005 => if x36 = true then (some false) else (spec_l06Slab.l0 k x3 0 x273000 x273001 x273002 x273003 x273004 x273005)
def spec_l06Slab.l0 : Nat → Int → Int → Int → List Int → List Int → List Int → List Int → List (S97) → Option (Bool)
 | 0, _, _, _, _, _, _, _, _ => none
 | k + 1, x3, x4, x273000, x273001, x273002, x273003, x273004, x273005 => if x4 < x3 then (if 0 ≤ x4 then (if x4 < (x273001.length : Int) then ((spec_l00In.f (rd x273001 x4) 0 40).bind fun t274 => (if t274 = true then (if x4 < (x273003.length : Int) then ((spec_l00In.f (rd x273003 x4) 1 40).bind fun t276 => (if t276 = true then (if x4 < (x273004.length : Int) then ((spec_l00In.f (rd x273004 x4) 1 40).bind fun t278 => (if t278 = true then (if x4 < (x273002.length : Int) then ((spec_l00In.f (rd x273002 x4) (rd x273004 x4) 40).bind fun t281 => (if t281 = true then ((spec_l06End.f x273000 x273001 x273002 x273003 x273004 x273005 x4).bind fun t282 => (if t282 > 40 then (some false) else (spec_l06Slab.l0 k x3 (wrap64 (x4 + 1)) x273000 x273001 x273002 x273003 x273004 x273005))) else (some false))) else (none)) else (some false))) else (none)) else (some false))) else (none)) else (some false))) else (none)) else (none)) else (some true)
end
def spec_l06Slab.f (k : Nat) (a0_0 : Int) (l0_1 : List Int) (l0_2 : List Int) (l0_3 : List Int) (l0_4 : List Int) (l0_5 : List (S97)) : Option (Bool) := if (l0_1.length : Int) > 3 then (spec_l06Slab.j0 k (l0_1.length : Int) true a0_0 l0_1 l0_2 l0_3 l0_4 l0_5) else (if (l0_2.length : Int) = (l0_1.length : Int) then (if (l0_3.length : Int) = (l0_1.length : Int) then (if (l0_4.length : Int) = (l0_1.length : Int) then (spec_l06Slab.j0 k (l0_1.length : Int) (decide ((l0_5.length : Int) > 0)) a0_0 l0_1 l0_2 l0_3 l0_4 l0_5) else (spec_l06Slab.j0 k (l0_1.length : Int) true a0_0 l0_1 l0_2 l0_3 l0_4 l0_5)) else (spec_l06Slab.j0 k (l0_1.length : Int) true a0_0 l0_1 l0_2 l0_3 l0_4 l0_5)) else (spec_l06Slab.j0 k (l0_1.length : Int) true a0_0 l0_1 l0_2 l0_3 l0_4 l0_5))
theorem spec_l06Slab.mono_l : ∀ k, (∀ y0 y1 y2 y3 y4 y5 y6 y7, LeO (spec_l06Slab.j0 k y0 y1 y2 y3 y4 y5 y6 y7) (spec_l06Slab.j0 (k + 1) y0 y1 y2 y3 y4 y5 y6 y7)) ∧ (∀ y0 y1 y2 y3 y4 y5 y6 y7, LeO (spec_l06Slab.l0 k y0 y1 y2 y3 y4 y5 y6 y7) (spec_l06Slab.l0 (k + 1) y0 y1 y2 y3 y4 y5 y6 y7))
 | 0 => ⟨fun _ _ _ _ _ _ _ _ r h => by simp [spec_l06Slab.j0] at h, fun _ _ _ _ _ _ _ _ r h => by simp [spec_l06Slab.l0] at h⟩
 | k + 1 => by
  obtain ⟨ih0, ih1⟩ := spec_l06Slab.mono_l k
  refine ⟨?_, ?_⟩
  ·
   intro y0 y1 y2 y3 y4 y5 y6 y7
   unfold spec_l06Slab.j0
   repeat' first
   | (with_reducible exact ih0 _ _ _ _ _ _ _ _)
   | (with_reducible exact ih1 _ _ _ _ _ _ _ _)
   | (with_reducible exact LeO.refl _)
   | (with_reducible exact LeO.none _)
   | (with_reducible refine LeO.ite ?_ ?_)
   | (with_reducible refine LeO.bind ?_ (fun _ => ?_))
   | exact ih0 _ _ _ _ _ _ _ _
   | exact ih1 _ _ _ _ _ _ _ _
   | exact LeO.none _
   | refine LeO.ite ?_ ?_
   | refine LeO.bind ?_ (fun _ => ?_)
  ·
   intro y0 y1 y2 y3 y4 y5 y6 y7
   unfold spec_l06Slab.l0
   repeat' first
   | (with_reducible exact ih0 _ _ _ _ _ _ _ _)
   | (with_reducible exact ih1 _ _ _ _ _ _ _ _)
   | (with_reducible exact LeO.refl _)
   | (with_reducible exact LeO.none _)
   | (with_reducible refine LeO.ite ?_ ?_)
   | (with_reducible refine LeO.bind ?_ (fun _ => ?_))
   | exact ih0 _ _ _ _ _ _ _ _
   | exact ih1 _ _ _ _ _ _ _ _
   | exact LeO.none _
   | refine LeO.ite ?_ ?_
   | refine LeO.bind ?_ (fun _ => ?_)
theorem spec_l06Slab.mono : ∀ a0 a1 a2 a3 a4 a5 k, LeO (spec_l06Slab.f k a0 a1 a2 a3 a4 a5) (spec_l06Slab.f (k + 1) a0 a1 a2 a3 a4 a5) := by
 intro a0 a1 a2 a3 a4 a5 k
 obtain ⟨ih0, ih1⟩ := spec_l06Slab.mono_l k
 unfold spec_l06Slab.f
 repeat' first
  | (with_reducible exact ih0 _ _ _ _ _ _ _ _)
  | (with_reducible exact ih1 _ _ _ _ _ _ _ _)
  | (with_reducible exact LeO.refl _)
  | (with_reducible exact LeO.none _)
  | (with_reducible refine LeO.ite ?_ ?_)
  | (with_reducible refine LeO.bind ?_ (fun _ => ?_))
  | exact ih0 _ _ _ _ _ _ _ _
  | exact ih1 _ _ _ _ _ _ _ _
  | exact LeO.none _
  | refine LeO.ite ?_ ?_
  | refine LeO.bind ?_ (fun _ => ?_)
def spec_l06Slab.T7 : Bool × List (List Nat × List Nat) := (true, [([], []), ([0], [0]), ([], []), ([1, 2], [1, 2]), ([3], [3]), ([4], [4]), ([5], [5]), ([6, 5], [6]), ([7], [7]), ([8, 7], [7, 8]), ([7], [7]), ([9, 10, 7], [7, 9, 10]), ([11, 7], [7, 11]), ([12, 7, 7], [7, 12]), ([13, 7], [7, 13]), ([7, 14], [7, 14]), ([15, 13], [15]), ([16], [16]), ([17, 16], [16, 17]), ([16], [16]), ([18, 19, 16], [16, 18, 19]), ([20, 16], [16, 20]), ([21, 16, 16], [16, 21]), ([22, 16], [16, 22]), ([16, 23], [16, 23]), ([24, 22], [24]), ([25], [25]), ([26, 25], [25, 26]), ([25], [25]), ([27, 28, 25], [25, 27, 28]), ([29, 25], [25, 29]), ([25], [25]), ([31, 25], [25, 31]), ([25], [25]), ([32, 33, 25], [25, 32, 33]), ([34, 25], [25, 34]), ([30, 35, 25, 25], [25, 30, 35]), ([36, 25], [25, 36]), ([25, 37], [25, 37]), ([38, 36], [38]), ([39], [39]), ([39], [39]), ([40, 41, 39, 39], [39, 40, 41]), ([42, 39], [39, 42]), ([39, 43], [39, 43])])
def spec_l06Slab.B7 : List Nat := [0, 1, 0, 7, 15, 31, 63, 127, 255, 511, 255, 2047, 4095, 8191, 16383, 32767, 65535, 131071, 262143, 131071, 1048575, 2097151, 4194303, 8388607, 16777215, 33554431, 67108863, 134217727, 67108863, 536870911, 1073741823, 67108863, 2214592511, 67108863, 15099494399, 32279363583, 68719476735, 137438953471, 274877906943, 549755813887, 1099511627775, 1099511627775, 4398046511103, 8796093022207, 17592186044415]
theorem spec_l06Slab.tab7 : rtab .any (opsOf Try.f65 7) = spec_l06Slab.T7 := by kernel_rfl
theorem spec_l06Slab.bits7 : waitsOk spec_l06Slab.T7.2 spec_l06Slab.B7 = true := by kernel_rfl
set_option maxHeartbeats 8000000 in
set_option maxRecDepth 100000 in
theorem spec_l06Slab.calls (k : Nat) (a0_0 : Int) (A0_1 : Option Addr) (c0_1 : Nat) (l0_1 : List Int) (A0_2 : Option Addr) (c0_2 : Nat) (l0_2 : List Int) (A0_3 : Option Addr) (c0_3 : Nat) (l0_3 : List Int) (A0_4 : Option Addr) (c0_4 : Nat) (l0_4 : List Int) (A0_5 : Option Addr) (c0_5 : Nat) (l0_5 : List (S97)) (r : Bool) (w : World) (hr0_1 : Kd.C (Kd.int .i64) w A0_1 l0_1.length l0_1) (hc0_1 : l0_1.length ≤ c0_1) (hr0_2 : Kd.C (Kd.int .i64) w A0_2 l0_2.length l0_2) (hc0_2 : l0_2.length ≤ c0_2) (hr0_3 : Kd.C (Kd.int .i64) w A0_3 l0_3.length l0_3) (hc0_3 : l0_3.length ≤ c0_3) (hr0_4 : Kd.C (Kd.int .i64) w A0_4 l0_4.length l0_4) (hc0_4 : l0_4.length ≤ c0_4) (hr0_5 : Kd.C k97 w A0_5 l0_5.length l0_5) (hc0_5 : l0_5.length ≤ c0_5) (h : spec_l06Slab.f k a0_0 l0_1 l0_2 l0_3 l0_4 l0_5 = some r) :
 Calls Try.prog 65 #[.agg #[.int .i64 a0_0, .slice A0_1 l0_1.length c0_1, .slice A0_2 l0_2.length c0_2, .slice A0_3 l0_3.length c0_3, .slice A0_4 l0_4.length c0_4, .slice A0_5 l0_5.length c0_5]] w fun e w' => e = .returned (.bool r) ∧ Below w.heap.size w w' := by
 have hu28 := Try.underlying28
 have HR0_1 := yD hr0_1
 have HC0_1 := yD hc0_1
 clear hr0_1 hc0_1
 have HR0_2 := yD hr0_2
 have HC0_2 := yD hc0_2
 clear hr0_2 hc0_2
 have HR0_3 := yD hr0_3
 have HC0_3 := yD hc0_3
 clear hr0_3 hc0_3
 have HR0_4 := yD hr0_4
 have HC0_4 := yD hc0_4
 clear hr0_4 hc0_4
 have HR0_5 := yD hr0_5
 have HC0_5 := yD hc0_5
 clear hr0_5 hc0_5
 have HB := yD (Below.refl w.heap.size w)
 have H : (if (l0_1.length : Int) > 3 then (spec_l06Slab.j0 k (l0_1.length : Int) true a0_0 l0_1 l0_2 l0_3 l0_4 l0_5) else (if (l0_2.length : Int) = (l0_1.length : Int) then (if (l0_3.length : Int) = (l0_1.length : Int) then (if (l0_4.length : Int) = (l0_1.length : Int) then (spec_l06Slab.j0 k (l0_1.length : Int) (decide ((l0_5.length : Int) > 0)) a0_0 l0_1 l0_2 l0_3 l0_4 l0_5) else (spec_l06Slab.j0 k (l0_1.length : Int) true a0_0 l0_1 l0_2 l0_3 l0_4 l0_5)) else (spec_l06Slab.j0 k (l0_1.length : Int) true a0_0 l0_1 l0_2 l0_3 l0_4 l0_5)) else (spec_l06Slab.j0 k (l0_1.length : Int) true a0_0 l0_1 l0_2 l0_3 l0_4 l0_5))) = some r := h
 clear h
 have HC2 := yD H
 clear H; go_enter Try.func65, Try.ntmps65
 go_upto_region 2 with (first | ((with_reducible refine gate_dst (N := 1) rfl ?_); (try (refine gate_guard (by rfl) ?_; dsimp only)); refine box_event ?hg (N := 1) ?hd (cs := #[.int .i64 a0_0, .slice A0_1 l0_1.length c0_1, .slice A0_2 l0_2.length c0_2, .slice A0_3 l0_3.length c0_3, .slice A0_4 l0_4.length c0_4, .slice A0_5 l0_5.length c0_5]) (t := 28) ?hr ?_; (case hd => rfl); (case hg => rfl); (case hr => first | (go_simp; done) | (go_simp; rfl)); intro gb272 hg w3 hbox hb; have n0_ := yD (zC (kB HB) hb); have n1_ := yD (hbox); have n2_ := yD ((by rw [hg]; exact (below_size (kB HB)) : w.heap.size ≤ gb272)); have n3_ := yD ((by rw [hg]; exact (below_size (kB HB)) : w.heap.size ≤ gb272)); clear HB; have HB := n0_; have BK272 := n1_; have GW272 := n2_; have GE272 := n3_; clear n0_ n1_ n2_ n3_; clear hb hbox hg; obtain ⟨hcz4_0, hcz4_1, hcz4_2, hcz4_3, hcz4_4, hcz4_5⟩ := cz6 BK272.out; obtain ⟨hfz4_0, hfz4_1, hfz4_2, hfz4_3, hfz4_4, hfz4_5⟩ := fz6 BK272.out))
 (try simp only [Act.put, zH, zI, zJ])
 go_cut [36] (fun v36 wc => ∃ (kq : Nat) (x36_1 : Bool), v36 = .bool x36_1 ∧ Aside0 (spec_l06Slab.j0 kq (l0_1.length : Int) x36_1 a0_0 l0_1 l0_2 l0_3 l0_4 l0_5 = some r) ∧ Aside0 (kq ≤ k) ∧ Aside0 (wc.heap[gb272]? = some (.cells #[.int .i64 a0_0, (.slice A0_1 l0_1.length c0_1), (.slice A0_2 l0_2.length c0_2), (.slice A0_3 l0_3.length c0_3), (.slice A0_4 l0_4.length c0_4), (.slice A0_5 l0_5.length c0_5)] 28 (0, 0))) ∧ Aside0 (Below w.heap.size w wc))
 case first =>
  have H := HC2.out; clear HC2
  by_cases c5 : (l0_1.length : Int) > 3
  ·
   rw [if_pos c5] at H
   have c5b0 : decide (3 < (l0_1.length : Int)) = true := zR c5
   have c5b1 : decide (3 < l0_1.length) = true := zR (by omega)
   clear c5
   (first | rw [c5b0] | (simp only [i64_w, i32_w]; rw [c5b0]) | (simp only [bne] at c5b0; rw [c5b0]) | skip)
   have H' := yD H
   clear H
   go_wp2
   go_meet
   case rel => exact ⟨_, (true), (by first | rfl | (simp; done) | (simp [*]; done)), H', ⟨by first | omega | exact Nat.le_refl _⟩, ⟨by (with_reducible repeat (first | refine yM ?_ _ | refine yO ?_ | refine yN ?_ _)); exact BK272.out⟩, ⟨kR1 HB⟩⟩
  ·
   rw [if_neg c5] at H
   have c5b0 : decide (3 < (l0_1.length : Int)) = false := zS c5
   have c5b1 : decide (3 < l0_1.length) = false := zS (by omega)
   clear c5
   (first | rw [c5b0] | (simp only [i64_w, i32_w]; rw [c5b0]) | (simp only [bne] at c5b0; rw [c5b0]) | skip)
   by_cases c6 : (l0_2.length : Int) = (l0_1.length : Int)
   ·
    rw [if_pos c6] at H
    have c6b0 : ((l0_2.length : Int) == (l0_1.length : Int)) = true := beq_iff_eq.mpr c6
    have c6b1 : ((l0_2.length : Int) != (l0_1.length : Int)) = false := bne_eq_false_iff_eq.mpr c6
    have c6b2 : (l0_2.length == l0_1.length) = true := by first | simpa using c6 | (simp at c6 ⊢; omega)
    clear c6
    by_cases c7 : (l0_3.length : Int) = (l0_1.length : Int)
    ·
     rw [if_pos c7] at H
     have c7b0 : ((l0_3.length : Int) == (l0_1.length : Int)) = true := beq_iff_eq.mpr c7
     have c7b1 : ((l0_3.length : Int) != (l0_1.length : Int)) = false := bne_eq_false_iff_eq.mpr c7
     have c7b2 : (l0_3.length == l0_1.length) = true := by first | simpa using c7 | (simp at c7 ⊢; omega)
     clear c7
     by_cases c8 : (l0_4.length : Int) = (l0_1.length : Int)
     ·
      rw [if_pos c8] at H
      have c8b0 : ((l0_4.length : Int) == (l0_1.length : Int)) = true := beq_iff_eq.mpr c8
      have c8b1 : ((l0_4.length : Int) != (l0_1.length : Int)) = false := bne_eq_false_iff_eq.mpr c8
      have c8b2 : (l0_4.length == l0_1.length) = true := by first | simpa using c8 | (simp at c8 ⊢; omega)
      clear c8
      have H' := yD H
      clear H
      obtain ⟨hcz9_0, hcz9_1, hcz9_2, hcz9_3, hcz9_4, hcz9_5⟩ := cz6 BK272.out
      obtain ⟨hfz9_0, hfz9_1, hfz9_2, hfz9_3, hfz9_4, hfz9_5⟩ := fz6 BK272.out
      go_wp2
      go_meet
      case rel => exact ⟨_, (decide ((l0_5.length : Int) > 0)), (by first | rfl | (simp; done) | (simp [*]; done)), H', ⟨by first | omega | exact Nat.le_refl _⟩, ⟨by (with_reducible repeat (first | refine yM ?_ _ | refine yO ?_ | refine yN ?_ _)); exact BK272.out⟩, ⟨kR1 HB⟩⟩
     ·
      rw [if_neg c8] at H
      have c8b0 : ((l0_4.length : Int) == (l0_1.length : Int)) = false := beq_eq_false_iff_ne.mpr c8
      have c8b1 : ((l0_4.length : Int) != (l0_1.length : Int)) = true := bne_iff_ne.mpr c8
      have c8b2 : (l0_4.length == l0_1.length) = false := by first | simpa using c8 | (simp at c8 ⊢; omega)
      have H' := yD H
      clear H
      obtain ⟨hcz10_0, hcz10_1, hcz10_2, hcz10_3, hcz10_4, hcz10_5⟩ := cz6 BK272.out
      obtain ⟨hfz10_0, hfz10_1, hfz10_2, hfz10_3, hfz10_4, hfz10_5⟩ := fz6 BK272.out
      go_wp2
      go_meet
      case rel => exact ⟨_, (true), (by first | rfl | (simp; done) | (simp [*]; done)), H', ⟨by first | omega | exact Nat.le_refl _⟩, ⟨by (with_reducible repeat (first | refine yM ?_ _ | refine yO ?_ | refine yN ?_ _)); exact BK272.out⟩, ⟨kR1 HB⟩⟩
    ·
     rw [if_neg c7] at H
     have c7b0 : ((l0_3.length : Int) == (l0_1.length : Int)) = false := beq_eq_false_iff_ne.mpr c7
     have c7b1 : ((l0_3.length : Int) != (l0_1.length : Int)) = true := bne_iff_ne.mpr c7
     have c7b2 : (l0_3.length == l0_1.length) = false := by first | simpa using c7 | (simp at c7 ⊢; omega)
     have H' := yD H
     clear H
     obtain ⟨hcz11_0, hcz11_1, hcz11_2, hcz11_3, hcz11_4, hcz11_5⟩ := cz6 BK272.out
     obtain ⟨hfz11_0, hfz11_1, hfz11_2, hfz11_3, hfz11_4, hfz11_5⟩ := fz6 BK272.out
     go_wp2
     go_meet
     case rel => exact ⟨_, (true), (by first | rfl | (simp; done) | (simp [*]; done)), H', ⟨by first | omega | exact Nat.le_refl _⟩, ⟨by (with_reducible repeat (first | refine yM ?_ _ | refine yO ?_ | refine yN ?_ _)); exact BK272.out⟩, ⟨kR1 HB⟩⟩
   ·
    rw [if_neg c6] at H
    have c6b0 : ((l0_2.length : Int) == (l0_1.length : Int)) = false := beq_eq_false_iff_ne.mpr c6
    have c6b1 : ((l0_2.length : Int) != (l0_1.length : Int)) = true := bne_iff_ne.mpr c6
    have c6b2 : (l0_2.length == l0_1.length) = false := by first | simpa using c6 | (simp at c6 ⊢; omega)
    have H' := yD H
    clear H
    obtain ⟨hcz12_0, hcz12_1, hcz12_2, hcz12_3, hcz12_4, hcz12_5⟩ := cz6 BK272.out
    obtain ⟨hfz12_0, hfz12_1, hfz12_2, hfz12_3, hfz12_4, hfz12_5⟩ := fz6 BK272.out
    go_wp2
    go_meet
    case rel => exact ⟨_, (true), (by first | rfl | (simp; done) | (simp [*]; done)), H', ⟨by first | omega | exact Nat.le_refl _⟩, ⟨by (with_reducible repeat (first | refine yM ?_ _ | refine yO ?_ | refine yN ?_ _)); exact BK272.out⟩, ⟨kR1 HB⟩⟩
 case rest =>
  clear HC2; try clear p2; try clear c5; try clear c5b0; try clear c5b1; try clear c6; try clear c6b0; try clear c6b1; try clear c6b2; try clear c7; try clear c7b0; try clear c7b1; try clear c7b2; try clear c8; try clear c8b0; try clear c8b1; try clear c8b2; try clear hcz10_0; try clear hcz10_1; try clear hcz10_2; try clear hcz10_3; try clear hcz10_4; try clear hcz10_5; try clear hcz11_0; try clear hcz11_1; try clear hcz11_2; try clear hcz11_3; try clear hcz11_4; try clear hcz11_5; try clear hcz12_0; try clear hcz12_1; try clear hcz12_2; try clear hcz12_3; try clear hcz12_4; try clear hcz12_5; try clear hcz4_0; try clear hcz4_1; try clear hcz4_2; try clear hcz4_3; try clear hcz4_4; try clear hcz4_5; try clear hcz9_0; try clear hcz9_1; try clear hcz9_2; try clear hcz9_3; try clear hcz9_4; try clear hcz9_5; try clear hfz10_0; try clear hfz10_1; try clear hfz10_2; try clear hfz10_3; try clear hfz10_4; try clear hfz10_5; try clear hfz11_0; try clear hfz11_1; try clear hfz11_2; try clear hfz11_3; try clear hfz11_4; try clear hfz11_5; try clear hfz12_0; try clear hfz12_1; try clear hfz12_2; try clear hfz12_3; try clear hfz12_4; try clear hfz12_5; try clear hfz4_0; try clear hfz4_1; try clear hfz4_2; try clear hfz4_3; try clear hfz4_4; try clear hfz4_5; try clear hfz9_0; try clear hfz9_1; try clear hfz9_2; try clear hfz9_3; try clear hfz9_4; try clear hfz9_5
  obtain ⟨kq, x36_1, rfl, HA, HJ1, BK272, HB⟩ := hcut
  cases kq with
  | zero => exact absurd HA.out (by simp [spec_l06Slab.j0])
  | succ kj1 =>
   have H := HA.out; clear HA
   simp only [spec_l06Slab.j0] at H
   by_cases c13 : x36_1 = true
   · subst c13
     have H1 : (some false) = some r := by rw [if_pos rfl] at H; exact H
     clear H; have H := H1; clear H1; obtain rfl := Option.some.inj H
     go_wp2
     go_ret
     exact ⟨by first | rfl | (simp <;> rfl) | (simp [*] <;> rfl), kR1 HB⟩
   ·
    replace c13 := Bool.eq_false_iff.mpr c13
    subst c13
    have H1 : (spec_l06Slab.l0 kj1 (l0_1.length : Int) 0 a0_0 l0_1 l0_2 l0_3 l0_4 l0_5) = some r := by rw [if_neg (show ¬ (false = true) by decide)] at H; exact H
    clear H; have H := H1; clear H1
    have H' := yD H
    clear H
    go_wp2
    go_loopg [4] kj1 (fun kq v4 w' => ∃ (x4_2 : Int), v4 = .int .i64 x4_2 ∧ Aside0 (spec_l06Slab.l0 kq (l0_1.length : Int) x4_2 a0_0 l0_1 l0_2 l0_3 l0_4 l0_5 = some r) ∧ Aside0 (kq ≤ kj1) ∧ Aside0 (w'.heap[gb272]? = some (.cells #[.int .i64 a0_0, (.slice A0_1 l0_1.length c0_1), (.slice A0_2 l0_2.length c0_2), (.slice A0_3 l0_3.length c0_3), (.slice A0_4 l0_4.length c0_4), (.slice A0_5 l0_5.length c0_5)] 28 (0, 0))) ∧ Aside0 (Below w.heap.size w w'))
    case atStart => exact ⟨(0), (by first | rfl | (simp; done) | (simp [*]; done)), H', ⟨Nat.le_refl _⟩, ⟨by (with_reducible repeat (first | refine yM ?_ _ | refine yO ?_ | refine yN ?_ _)); exact BK272.out⟩, ⟨kR1 HB⟩⟩
    case round =>
     clear H'
     try clear c1; try clear p2; try clear c5; try clear c5b0; try clear c5b1; try clear c6; try clear c6b0; try clear c6b1; try clear c6b2; try clear c7; try clear c7b0; try clear c7b1; try clear c7b2; try clear c8; try clear c8b0; try clear c8b1; try clear c8b2; try clear c13; try clear hcz10_0; try clear hcz10_1; try clear hcz10_2; try clear hcz10_3; try clear hcz10_4; try clear hcz10_5; try clear hcz11_0; try clear hcz11_1; try clear hcz11_2; try clear hcz11_3; try clear hcz11_4; try clear hcz11_5; try clear hcz12_0; try clear hcz12_1; try clear hcz12_2; try clear hcz12_3; try clear hcz12_4; try clear hcz12_5; try clear hcz4_0; try clear hcz4_1; try clear hcz4_2; try clear hcz4_3; try clear hcz4_4; try clear hcz4_5; try clear hcz9_0; try clear hcz9_1; try clear hcz9_2; try clear hcz9_3; try clear hcz9_4; try clear hcz9_5; try clear hfz10_0; try clear hfz10_1; try clear hfz10_2; try clear hfz10_3; try clear hfz10_4; try clear hfz10_5; try clear hfz11_0; try clear hfz11_1; try clear hfz11_2; try clear hfz11_3; try clear hfz11_4; try clear hfz11_5; try clear hfz12_0; try clear hfz12_1; try clear hfz12_2; try clear hfz12_3; try clear hfz12_4; try clear hfz12_5; try clear hfz4_0; try clear hfz4_1; try clear hfz4_2; try clear hfz4_3; try clear hfz4_4; try clear hfz4_5; try clear hfz9_0; try clear hfz9_1; try clear hfz9_2; try clear hfz9_3; try clear hfz9_4; try clear hfz9_5; try clear p2
     obtain ⟨x4_2, rfl, HA, HK2, BK272, HB⟩ := hrel
     cases gk with
     | zero => exact absurd HA.out (by simp [spec_l06Slab.l0])
     | succ k2 =>
      have H := HA.out; clear HA
      simp only [spec_l06Slab.l0] at H
      by_cases c14 : x4_2 < (l0_1.length : Int)
      ·
       rw [if_pos c14] at H
       have c14b0 : decide (x4_2 < (l0_1.length : Int)) = true := zR c14; clear c14
       by_cases c15 : 0 ≤ x4_2
       ·
        rw [if_pos c15] at H
        have c15b0 : decide (0 ≤ x4_2) = true := zR c15; clear c15
        by_cases c16 : x4_2 < (l0_1.length : Int)
        ·
         rw [if_pos c16] at H
         have c16b0 : decide (x4_2 < (l0_1.length : Int)) = true := zR c16; clear c16
         obtain ⟨t274, A170, H⟩ := zW_ H
         replace H : (if t274 = true then (if x4_2 < (l0_3.length : Int) then ((spec_l00In.f (rd l0_3 x4_2) 1 40).bind fun t276 => (if t276 = true then (if x4_2 < (l0_4.length : Int) then ((spec_l00In.f (rd l0_4 x4_2) 1 40).bind fun t278 => (if t278 = true then (if x4_2 < (l0_2.length : Int) then ((spec_l00In.f (rd l0_2 x4_2) (rd l0_4 x4_2) 40).bind fun t281 => (if t281 = true then ((spec_l06End.f a0_0 l0_1 l0_2 l0_3 l0_4 l0_5 x4_2).bind fun t282 => (if t282 > 40 then (some false) else (spec_l06Slab.l0 k2 (l0_1.length : Int) (wrap64 (x4_2 + 1)) a0_0 l0_1 l0_2 l0_3 l0_4 l0_5))) else (some false))) else (none)) else (some false))) else (none)) else (some false))) else (none)) else (some false)) = some r := H
         have A17 := yD A170
         clear A170
         by_cases c18 : t274 = true
         ·
          subst c18
          have H1 : (if x4_2 < (l0_3.length : Int) then ((spec_l00In.f (rd l0_3 x4_2) 1 40).bind fun t276 => (if t276 = true then (if x4_2 < (l0_4.length : Int) then ((spec_l00In.f (rd l0_4 x4_2) 1 40).bind fun t278 => (if t278 = true then (if x4_2 < (l0_2.length : Int) then ((spec_l00In.f (rd l0_2 x4_2) (rd l0_4 x4_2) 40).bind fun t281 => (if t281 = true then ((spec_l06End.f a0_0 l0_1 l0_2 l0_3 l0_4 l0_5 x4_2).bind fun t282 => (if t282 > 40 then (some false) else (spec_l06Slab.l0 k2 (l0_1.length : Int) (wrap64 (x4_2 + 1)) a0_0 l0_1 l0_2 l0_3 l0_4 l0_5))) else (some false))) else (none)) else (some false))) else (none)) else (some false))) else (none)) = some r := by rw [if_pos rfl] at H; exact H
          clear H; have H := H1; clear H1
          by_cases c19 : x4_2 < (l0_3.length : Int)
          ·
           rw [if_pos c19] at H
           have c19b0 : decide (x4_2 < (l0_3.length : Int)) = true := zR c19; clear c19
           obtain ⟨t276, A200, H⟩ := zW_ H
           replace H : (if t276 = true then (if x4_2 < (l0_4.length : Int) then ((spec_l00In.f (rd l0_4 x4_2) 1 40).bind fun t278 => (if t278 = true then (if x4_2 < (l0_2.length : Int) then ((spec_l00In.f (rd l0_2 x4_2) (rd l0_4 x4_2) 40).bind fun t281 => (if t281 = true then ((spec_l06End.f a0_0 l0_1 l0_2 l0_3 l0_4 l0_5 x4_2).bind fun t282 => (if t282 > 40 then (some false) else (spec_l06Slab.l0 k2 (l0_1.length : Int) (wrap64 (x4_2 + 1)) a0_0 l0_1 l0_2 l0_3 l0_4 l0_5))) else (some false))) else (none)) else (some false))) else (none)) else (some false)) = some r := H
           have A20 := yD A200
           clear A200
           by_cases c21 : t276 = true
           ·
            subst c21
            have H1 : (if x4_2 < (l0_4.length : Int) then ((spec_l00In.f (rd l0_4 x4_2) 1 40).bind fun t278 => (if t278 = true then (if x4_2 < (l0_2.length : Int) then ((spec_l00In.f (rd l0_2 x4_2) (rd l0_4 x4_2) 40).bind fun t281 => (if t281 = true then ((spec_l06End.f a0_0 l0_1 l0_2 l0_3 l0_4 l0_5 x4_2).bind fun t282 => (if t282 > 40 then (some false) else (spec_l06Slab.l0 k2 (l0_1.length : Int) (wrap64 (x4_2 + 1)) a0_0 l0_1 l0_2 l0_3 l0_4 l0_5))) else (some false))) else (none)) else (some false))) else (none)) = some r := by rw [if_pos rfl] at H; exact H
            clear H; have H := H1; clear H1
            by_cases c22 : x4_2 < (l0_4.length : Int)
            ·
             rw [if_pos c22] at H
             have c22b0 : decide (x4_2 < (l0_4.length : Int)) = true := zR c22; clear c22
             obtain ⟨t278, A230, H⟩ := zW_ H
             replace H : (if t278 = true then (if x4_2 < (l0_2.length : Int) then ((spec_l00In.f (rd l0_2 x4_2) (rd l0_4 x4_2) 40).bind fun t281 => (if t281 = true then ((spec_l06End.f a0_0 l0_1 l0_2 l0_3 l0_4 l0_5 x4_2).bind fun t282 => (if t282 > 40 then (some false) else (spec_l06Slab.l0 k2 (l0_1.length : Int) (wrap64 (x4_2 + 1)) a0_0 l0_1 l0_2 l0_3 l0_4 l0_5))) else (some false))) else (none)) else (some false)) = some r := H
             have A23 := yD A230
             clear A230
             by_cases c24 : t278 = true
             ·
              subst c24
              have H1 : (if x4_2 < (l0_2.length : Int) then ((spec_l00In.f (rd l0_2 x4_2) (rd l0_4 x4_2) 40).bind fun t281 => (if t281 = true then ((spec_l06End.f a0_0 l0_1 l0_2 l0_3 l0_4 l0_5 x4_2).bind fun t282 => (if t282 > 40 then (some false) else (spec_l06Slab.l0 k2 (l0_1.length : Int) (wrap64 (x4_2 + 1)) a0_0 l0_1 l0_2 l0_3 l0_4 l0_5))) else (some false))) else (none)) = some r := by rw [if_pos rfl] at H; exact H
              clear H; have H := H1; clear H1
              by_cases c25 : x4_2 < (l0_2.length : Int)
              ·
               rw [if_pos c25] at H
               have c25b0 : decide (x4_2 < (l0_2.length : Int)) = true := zR c25; clear c25
               obtain ⟨t281, A260, H⟩ := zW_ H
               replace H : (if t281 = true then ((spec_l06End.f a0_0 l0_1 l0_2 l0_3 l0_4 l0_5 x4_2).bind fun t282 => (if t282 > 40 then (some false) else (spec_l06Slab.l0 k2 (l0_1.length : Int) (wrap64 (x4_2 + 1)) a0_0 l0_1 l0_2 l0_3 l0_4 l0_5))) else (some false)) = some r := H
               have A26 := yD A260
               clear A260
               by_cases c27 : t281 = true
               ·
                subst c27
                have H1 : ((spec_l06End.f a0_0 l0_1 l0_2 l0_3 l0_4 l0_5 x4_2).bind fun t282 => (if t282 > 40 then (some false) else (spec_l06Slab.l0 k2 (l0_1.length : Int) (wrap64 (x4_2 + 1)) a0_0 l0_1 l0_2 l0_3 l0_4 l0_5))) = some r := by rw [if_pos rfl] at H; exact H
                clear H; have H := H1; clear H1
                obtain ⟨t282, A280, H⟩ := zW_ H
                replace H : (if t282 > 40 then (some false) else (spec_l06Slab.l0 k2 (l0_1.length : Int) (wrap64 (x4_2 + 1)) a0_0 l0_1 l0_2 l0_3 l0_4 l0_5)) = some r := H
                have A28 := yD A280
                clear A280
                by_cases c29 : t282 > 40
                ·
                 rw [if_pos c29] at H
                 have c29b0 : decide (40 < t282) = true := zR c29; clear c29; obtain rfl := Option.some.inj H
                 try go_wp2
                 have n0_ := yD (yO BK272.out)
                 have n1_ := yD (yP HB.out)
                 clear BK272 HB; have BK272 := n0_; have HB := n1_; clear n0_ n1_
                 have p273 : 0 ≤ (x4_2 : Int) := zP (by assumption)
                 have q273 : x4_2 < (l0_1.length : Int) := zP (by assumption)
                 obtain ⟨ad273, e273, hx273_0⟩ := Kd.at_int HR0_1.out x4_2 p273 q273
                 have hw273_0 := hx273_0; cases e273
                 replace hx273_0 := (HB.out.cell (zQ w _ hx273_0)).trans hx273_0
                 replace p273 := eq_true p273; replace q273 := eq_true q273
                 have p275 : 0 ≤ (x4_2 : Int) := zP (by assumption)
                 have q275 : x4_2 < (l0_3.length : Int) := zP (by assumption)
                 obtain ⟨ad275, e275, hx275_0⟩ := Kd.at_int HR0_3.out x4_2 p275 q275
                 have hw275_0 := hx275_0; cases e275
                 replace hx275_0 := (HB.out.cell (zQ w _ hx275_0)).trans hx275_0
                 replace p275 := eq_true p275; replace q275 := eq_true q275
                 have p277 : 0 ≤ (x4_2 : Int) := zP (by assumption)
                 have q277 : x4_2 < (l0_4.length : Int) := zP (by assumption)
                 obtain ⟨ad277, e277, hx277_0⟩ := Kd.at_int HR0_4.out x4_2 p277 q277
                 have hw277_0 := hx277_0; cases e277
                 replace hx277_0 := (HB.out.cell (zQ w _ hx277_0)).trans hx277_0
                 replace p277 := eq_true p277; replace q277 := eq_true q277
                 have p279 : 0 ≤ (x4_2 : Int) := zP (by assumption)
                 have q279 : x4_2 < (l0_2.length : Int) := zP (by assumption)
                 obtain ⟨ad279, e279, hx279_0⟩ := Kd.at_int HR0_2.out x4_2 p279 q279
                 have hw279_0 := hx279_0; cases e279
                 replace hx279_0 := (HB.out.cell (zQ w _ hx279_0)).trans hx279_0
                 replace p279 := eq_true p279; replace q279 := eq_true q279
                 have p280 : 0 ≤ (x4_2 : Int) := zP (by assumption)
                 have q280 : x4_2 < (l0_4.length : Int) := zP (by assumption)
                 obtain ⟨ad280, e280, hx280_0⟩ := Kd.at_int HR0_4.out x4_2 p280 q280
                 have hw280_0 := hx280_0
                 obtain rfl : ad277 = ad280 := (by injection e280)
                 replace hx280_0 := (HB.out.cell (zQ w _ hx280_0)).trans hx280_0
                 replace p280 := eq_true p280; replace q280 := eq_true q280
                 refine start_ (n := 45) (S := fun w' => w'.cell? ⟨gb272, 0, none⟩ = some (.int .i64 a0_0) ∧ w'.cell? ⟨gb272, 1, none⟩ = some (.slice (some ad273) l0_1.length c0_1) ∧ w'.cell? ⟨gb272, 2, none⟩ = some (.slice (some ad279) l0_2.length c0_2) ∧ w'.cell? ⟨gb272, 3, none⟩ = some (.slice (some ad275) l0_3.length c0_3) ∧ w'.cell? ⟨gb272, 4, none⟩ = some (.slice (some ad277) l0_4.length c0_4) ∧ w'.cell? ⟨gb272, 5, none⟩ = some (.slice A0_5 l0_5.length c0_5) ∧ w'.cell? (ad273.add (x4_2).toNat) = some (.int .i64 (rd l0_1 x4_2)) ∧ w'.cell? (ad275.add (x4_2).toNat) = some (.int .i64 (rd l0_3 x4_2)) ∧ w'.cell? (ad277.add (x4_2).toNat) = some (.int .i64 (rd l0_4 x4_2)) ∧ w'.cell? (ad279.add (x4_2).toNat) = some (.int .i64 (rd l0_2 x4_2)) ∧ w'.cell? (ad277.add (x4_2).toNat) = some (.int .i64 (rd l0_4 x4_2))) (ds := []) (bz 45 0) (by kernel_rfl) rfl rfl ⟨(yG BK272.out 0).trans rfl, (yG BK272.out 1).trans rfl, (yG BK272.out 2).trans rfl, (yG BK272.out 3).trans rfl, (yG BK272.out 4).trans rfl, (yG BK272.out 5).trans rfl, ((HB.out.cell (zQ w _ hw273_0)).trans hw273_0), ((HB.out.cell (zQ w _ hw275_0)).trans hw275_0), ((HB.out.cell (zQ w _ hw277_0)).trans hw277_0), ((HB.out.cell (zQ w _ hw279_0)).trans hw279_0), ((HB.out.cell (zQ w _ hw280_0)).trans hw280_0)⟩ (fun hHeld => ?_); refine with_tabW spec_l06Slab.tab7 spec_l06Slab.bits7 (fun HT_ HW_ => ?_)
                 generalize wr.drew = w30 at BK272 HB hx273_0 hx275_0 hx277_0 hx279_0 hx280_0 hHeld ⊢
                 refine qA 0 42 (bz 45 1) HT_ ?_
                 refine qA 2 44 (bz 45 5) HT_ ?_
                 refine qC 1 43 (bz 45 7) HT_ HW_ hHeld ?_ (hy := by rintro w' ⟨s0, s1, s2, s3, s4, s5, s6, s7, s8, s9, s10⟩; go_simp; with_reducible rfl)
                 refine qA 3 45 (bz 45 15) HT_ ?_
                 refine qC 4 46 (bz 45 31) HT_ HW_ hHeld ?_ (hy := by rintro w' ⟨s0, s1, s2, s3, s4, s5, s6, s7, s8, s9, s10⟩; go_simp; with_reducible rfl)
                 refine one_ (i := 5) (N := some 47) (bz 45 63) rfl rfl (one_of HT_.out (by kernel_rfl)) (by decide) (fun K hK => ?_)
                 refine goes_ Try.func30 (by kernel_rfl) rfl #[.int .i64 (rd l0_1 x4_2), .int .i64 0, .int .i64 40] (by rfl) rfl rfl (by (try simp only [zK, zL, zM]); first | done | rfl | (simp only [zN, zO]; rfl)) ?_
                 with_reducible refine (spec_l00In.calls (rd l0_1 x4_2) 0 40 true _ A17.out).mono ?_
                 rintro e w' ⟨rfl, ⟨nd, rfl⟩⟩
                 refine ⟨_, rfl, ?_⟩
                 refine hK.out _ _ ⟨(yG BK272.out 0).trans rfl, (yG BK272.out 1).trans rfl, (yG BK272.out 2).trans rfl, (yG BK272.out 3).trans rfl, (yG BK272.out 4).trans rfl, (yG BK272.out 5).trans rfl, ((HB.out.cell (zQ w _ hw273_0)).trans hw273_0), ((HB.out.cell (zQ w _ hw275_0)).trans hw275_0), ((HB.out.cell (zQ w _ hw277_0)).trans hw277_0), ((HB.out.cell (zQ w _ hw279_0)).trans hw279_0), ((HB.out.cell (zQ w _ hw280_0)).trans hw280_0)⟩ (fun hHeld => ?_)
                 clear hK K
                 refine norm_ (a' := ?_) ?_ ?_
                 rotate_left
                 · show Act.put _ (some 47) _ = _
                   simp only [Act.put, zH, zI, zJ, i64_w, i32_w]
                   rfl
                 refine qA 6 48 (bz 45 127) HT_ ?_
                 refine qA 7 49 (bz 45 255) HT_ ?_
                 refine qA 8 50 (bz 45 511) HT_ ?_
                 refine qA 10 52 (bz 45 1535) HT_ ?_
                 refine qC 9 51 (bz 45 2047) HT_ HW_ hHeld ?_ (hy := by rintro w' ⟨s0, s1, s2, s3, s4, s5, s6, s7, s8, s9, s10⟩; go_simp; with_reducible rfl)
                 refine qA 11 53 (bz 45 4095) HT_ ?_
                 refine qC 12 54 (bz 45 8191) HT_ HW_ hHeld ?_ (hy := by rintro w' ⟨s0, s1, s2, s3, s4, s5, s6, s7, s8, s9, s10⟩; go_simp; with_reducible rfl)
                 refine one_ (i := 13) (N := some 55) (bz 45 16383) rfl rfl (one_of HT_.out (by kernel_rfl)) (by decide) (fun K hK => ?_)
                 refine goes_ Try.func30 (by kernel_rfl) rfl #[.int .i64 (rd l0_3 x4_2), .int .i64 1, .int .i64 40] (by rfl) rfl rfl (by (try simp only [zK, zL, zM]); first | done | rfl | (simp only [zN, zO]; rfl)) ?_
                 with_reducible refine (spec_l00In.calls (rd l0_3 x4_2) 1 40 true _ A20.out).mono ?_
                 rintro e w' ⟨rfl, ⟨nd, rfl⟩⟩
                 refine ⟨_, rfl, ?_⟩
                 refine hK.out _ _ ⟨(yG BK272.out 0).trans rfl, (yG BK272.out 1).trans rfl, (yG BK272.out 2).trans rfl, (yG BK272.out 3).trans rfl, (yG BK272.out 4).trans rfl, (yG BK272.out 5).trans rfl, ((HB.out.cell (zQ w _ hw273_0)).trans hw273_0), ((HB.out.cell (zQ w _ hw275_0)).trans hw275_0), ((HB.out.cell (zQ w _ hw277_0)).trans hw277_0), ((HB.out.cell (zQ w _ hw279_0)).trans hw279_0), ((HB.out.cell (zQ w _ hw280_0)).trans hw280_0)⟩ (fun hHeld => ?_)
                 clear hK K
                 refine norm_ (a' := ?_) ?_ ?_
                 rotate_left
                 · show Act.put _ (some 55) _ = _
                   simp only [Act.put, zH, zI, zJ, i64_w, i32_w]
                   rfl
                 refine qA 14 56 (bz 45 32767) HT_ ?_
                 refine qA 15 57 (bz 45 65535) HT_ ?_
                 refine qA 16 58 (bz 45 131071) HT_ ?_
                 refine qA 17 59 (bz 45 262143) HT_ ?_
                 refine qA 19 61 (bz 45 786431) HT_ ?_
                 refine qC 18 60 (bz 45 1048575) HT_ HW_ hHeld ?_ (hy := by rintro w' ⟨s0, s1, s2, s3, s4, s5, s6, s7, s8, s9, s10⟩; go_simp; with_reducible rfl)
                 refine qA 20 62 (bz 45 2097151) HT_ ?_
                 refine qC 21 63 (bz 45 4194303) HT_ HW_ hHeld ?_ (hy := by rintro w' ⟨s0, s1, s2, s3, s4, s5, s6, s7, s8, s9, s10⟩; go_simp; with_reducible rfl)
                 refine one_ (i := 22) (N := some 64) (bz 45 8388607) rfl rfl (one_of HT_.out (by kernel_rfl)) (by decide) (fun K hK => ?_)
                 refine goes_ Try.func30 (by kernel_rfl) rfl #[.int .i64 (rd l0_4 x4_2), .int .i64 1, .int .i64 40] (by rfl) rfl rfl (by (try simp only [zK, zL, zM]); first | done | rfl | (simp only [zN, zO]; rfl)) ?_
                 with_reducible refine (spec_l00In.calls (rd l0_4 x4_2) 1 40 true _ A23.out).mono ?_
                 rintro e w' ⟨rfl, ⟨nd, rfl⟩⟩
                 refine ⟨_, rfl, ?_⟩
                 refine hK.out _ _ ⟨(yG BK272.out 0).trans rfl, (yG BK272.out 1).trans rfl, (yG BK272.out 2).trans rfl, (yG BK272.out 3).trans rfl, (yG BK272.out 4).trans rfl, (yG BK272.out 5).trans rfl, ((HB.out.cell (zQ w _ hw273_0)).trans hw273_0), ((HB.out.cell (zQ w _ hw275_0)).trans hw275_0), ((HB.out.cell (zQ w _ hw277_0)).trans hw277_0), ((HB.out.cell (zQ w _ hw279_0)).trans hw279_0), ((HB.out.cell (zQ w _ hw280_0)).trans hw280_0)⟩ (fun hHeld => ?_)
                 clear hK K
                 refine norm_ (a' := ?_) ?_ ?_
                 rotate_left
                 · show Act.put _ (some 64) _ = _
                   simp only [Act.put, zH, zI, zJ, i64_w, i32_w]
                   rfl
                 refine qA 23 65 (bz 45 16777215) HT_ ?_
                 refine qA 24 66 (bz 45 33554431) HT_ ?_
                 refine qA 25 67 (bz 45 67108863) HT_ ?_
                 refine qA 26 68 (bz 45 134217727) HT_ ?_
                 refine qA 28 70 (bz 45 402653183) HT_ ?_
                 refine qA 31 73 (bz 45 2550136831) HT_ ?_
                 refine qA 33 75 (bz 45 11140071423) HT_ ?_
                 refine qC 27 69 (bz 45 11274289151) HT_ HW_ hHeld ?_ (hy := by rintro w' ⟨s0, s1, s2, s3, s4, s5, s6, s7, s8, s9, s10⟩; go_simp; with_reducible rfl)
                 refine qA 29 71 (bz 45 11811160063) HT_ ?_
                 refine qC 30 72 (bz 45 12884901887) HT_ HW_ hHeld ?_ (hy := by rintro w' ⟨s0, s1, s2, s3, s4, s5, s6, s7, s8, s9, s10⟩; go_simp; with_reducible rfl)
                 refine qC 32 74 (bz 45 17179869183) HT_ HW_ hHeld ?_ (hy := by rintro w' ⟨s0, s1, s2, s3, s4, s5, s6, s7, s8, s9, s10⟩; go_simp; with_reducible rfl)
                 refine qA 34 76 (bz 45 34359738367) HT_ ?_
                 refine qC 35 77 (bz 45 68719476735) HT_ HW_ hHeld ?_ (hy := by rintro w' ⟨s0, s1, s2, s3, s4, s5, s6, s7, s8, s9, s10⟩; go_simp; with_reducible rfl)
                 refine one_ (i := 36) (N := some 78) (bz 45 137438953471) rfl rfl (one_of HT_.out (by kernel_rfl)) (by decide) (fun K hK => ?_)
                 refine goes_ Try.func30 (by kernel_rfl) rfl #[.int .i64 (rd l0_2 x4_2), .int .i64 (rd l0_4 x4_2), .int .i64 40] (by rfl) rfl rfl (by (try simp only [zK, zL, zM]); first | done | rfl | (simp only [zN, zO]; rfl)) ?_
                 with_reducible refine (spec_l00In.calls (rd l0_2 x4_2) (rd l0_4 x4_2) 40 true _ A26.out).mono ?_
                 rintro e w' ⟨rfl, ⟨nd, rfl⟩⟩
                 refine ⟨_, rfl, ?_⟩
                 refine hK.out _ _ ⟨(yG BK272.out 0).trans rfl, (yG BK272.out 1).trans rfl, (yG BK272.out 2).trans rfl, (yG BK272.out 3).trans rfl, (yG BK272.out 4).trans rfl, (yG BK272.out 5).trans rfl, ((HB.out.cell (zQ w _ hw273_0)).trans hw273_0), ((HB.out.cell (zQ w _ hw275_0)).trans hw275_0), ((HB.out.cell (zQ w _ hw277_0)).trans hw277_0), ((HB.out.cell (zQ w _ hw279_0)).trans hw279_0), ((HB.out.cell (zQ w _ hw280_0)).trans hw280_0)⟩ (fun hHeld => ?_)
                 clear hK K
                 refine norm_ (a' := ?_) ?_ ?_
                 rotate_left
                 · show Act.put _ (some 78) _ = _
                   simp only [Act.put, zH, zI, zJ, i64_w, i32_w]
                   rfl
                 refine qA 37 79 (bz 45 274877906943) HT_ ?_
                 refine qA 38 80 (bz 45 549755813887) HT_ ?_
                 refine qA 39 81 (bz 45 1099511627775) HT_ ?_
                 refine qA 41 83 (bz 45 3298534883327) HT_ ?_
                 refine qC 40 82 (bz 45 4398046511103) HT_ HW_ hHeld ?_ (hy := by rintro w' ⟨s0, s1, s2, s3, s4, s5, s6, s7, s8, s9, s10⟩; go_simp; with_reducible rfl)
                 refine one_ (i := 42) (N := some 84) (bz 45 8796093022207) rfl rfl (one_of HT_.out (by kernel_rfl)) (by decide) (fun K hK => ?_)
                 refine goes_ Try.func91 (by kernel_rfl) rfl #[.agg #[.int .i64 a0_0, .slice (some ad273) l0_1.length c0_1, .slice (some ad279) l0_2.length c0_2, .slice (some ad275) l0_3.length c0_3, .slice (some ad277) l0_4.length c0_4, .slice A0_5 l0_5.length c0_5], .int .i64 x4_2] (by rfl) rfl rfl (by (try simp only [zK, zL, zM]); first | done | rfl | (simp only [zN, zO]; rfl)) ?_
                 with_reducible refine (spec_l06End.calls a0_0 _ _ l0_1 _ _ l0_2 _ _ l0_3 _ _ l0_4 _ _ l0_5 x4_2 t282 _ ?side1 ?side2 ?side3 ?side4 ?side5 ?side6 ?side7 ?side8 ?side9 ?side10 A28.out).mono ?_
                 (case side1 => repeat (first | exact (yY HR0_1.out (kB HB)) | (with_reducible first | refine yV ?_ _ | refine yW ?_ _ | refine yX ?_)))
                 (case side2 => exact HC0_1.out)
                 (case side3 => repeat (first | exact (yY HR0_2.out (kB HB)) | (with_reducible first | refine yV ?_ _ | refine yW ?_ _ | refine yX ?_)))
                 (case side4 => exact HC0_2.out)
                 (case side5 => repeat (first | exact (yY HR0_3.out (kB HB)) | (with_reducible first | refine yV ?_ _ | refine yW ?_ _ | refine yX ?_)))
                 (case side6 => exact HC0_3.out)
                 (case side7 => repeat (first | exact (yY HR0_4.out (kB HB)) | (with_reducible first | refine yV ?_ _ | refine yW ?_ _ | refine yX ?_)))
                 (case side8 => exact HC0_4.out)
                 (case side9 => repeat (first | exact (yY HR0_5.out (kB HB)) | (with_reducible first | refine yV ?_ _ | refine yW ?_ _ | refine yX ?_)))
                 (case side10 => exact HC0_5.out)
                 rintro e w31 ⟨rfl, hb⟩
                 refine ⟨_, rfl, ?_⟩
                 have n0_ := yD (zB (g := gb272) (o := .cells #[.int .i64 a0_0, .slice (some ad273) l0_1.length c0_1, .slice (some ad279) l0_2.length c0_2, .slice (some ad275) l0_3.length c0_3, .slice (some ad277) l0_4.length c0_4, .slice A0_5 l0_5.length c0_5] 28 (0, 0)) (kM BK272) hb)
                 have n1_ := yD (zC (kB HB) hb)
                 clear BK272 HB; have BK272 := n0_; have HB := n1_; clear n0_ n1_; (try clear hb); (try clear hb2); (try clear hk); (try clear hi)
                 refine hK.out _ _ ⟨(yG BK272.out 0).trans rfl, (yG BK272.out 1).trans rfl, (yG BK272.out 2).trans rfl, (yG BK272.out 3).trans rfl, (yG BK272.out 4).trans rfl, (yG BK272.out 5).trans rfl, ((HB.out.cell (zQ w _ hw273_0)).trans hw273_0), ((HB.out.cell (zQ w _ hw275_0)).trans hw275_0), ((HB.out.cell (zQ w _ hw277_0)).trans hw277_0), ((HB.out.cell (zQ w _ hw279_0)).trans hw279_0), ((HB.out.cell (zQ w _ hw280_0)).trans hw280_0)⟩ (fun hHeld => ?_)
                 clear hK K
                 refine norm_ (a' := ?_) ?_ ?_
                 rotate_left
                 · show Act.put _ (some 84) _ = _
                   simp only [Act.put, zH, zI, zJ, i64_w, i32_w]
                   rfl
                 refine qA 43 85 (bz 45 17592186044415) HT_ ?_
                 refine qA 44 86 (bz 45 35184372088831) HT_ ?_
                 refine done_ (done_of HT_.out (by kernel_rfl)) ?_
                 try go_wp2
                 go_ret
                 exact ⟨by first | rfl | (simp <;> rfl) | (simp [*] <;> rfl), kR1 HB⟩
                ·
                 rw [if_neg c29] at H
                 have c29b0 : decide (40 < t282) = false := zS c29; clear c29
                 have H' := yD H
                 clear H
                 try go_wp2
                 have n0_ := yD (yO BK272.out)
                 have n1_ := yD (yP HB.out)
                 clear BK272 HB; have BK272 := n0_; have HB := n1_; clear n0_ n1_
                 have p273 : 0 ≤ (x4_2 : Int) := zP (by assumption)
                 have q273 : x4_2 < (l0_1.length : Int) := zP (by assumption)
                 obtain ⟨ad273, e273, hx273_0⟩ := Kd.at_int HR0_1.out x4_2 p273 q273
                 have hw273_0 := hx273_0; cases e273
                 replace hx273_0 := (HB.out.cell (zQ w _ hx273_0)).trans hx273_0
                 replace p273 := eq_true p273; replace q273 := eq_true q273
                 have p275 : 0 ≤ (x4_2 : Int) := zP (by assumption)
                 have q275 : x4_2 < (l0_3.length : Int) := zP (by assumption)
                 obtain ⟨ad275, e275, hx275_0⟩ := Kd.at_int HR0_3.out x4_2 p275 q275
                 have hw275_0 := hx275_0; cases e275
                 replace hx275_0 := (HB.out.cell (zQ w _ hx275_0)).trans hx275_0
                 replace p275 := eq_true p275; replace q275 := eq_true q275
                 have p277 : 0 ≤ (x4_2 : Int) := zP (by assumption)
                 have q277 : x4_2 < (l0_4.length : Int) := zP (by assumption)
                 obtain ⟨ad277, e277, hx277_0⟩ := Kd.at_int HR0_4.out x4_2 p277 q277
                 have hw277_0 := hx277_0; cases e277
                 replace hx277_0 := (HB.out.cell (zQ w _ hx277_0)).trans hx277_0
                 replace p277 := eq_true p277; replace q277 := eq_true q277
                 have p279 : 0 ≤ (x4_2 : Int) := zP (by assumption)
                 have q279 : x4_2 < (l0_2.length : Int) := zP (by assumption)
                 obtain ⟨ad279, e279, hx279_0⟩ := Kd.at_int HR0_2.out x4_2 p279 q279
                 have hw279_0 := hx279_0; cases e279
                 replace hx279_0 := (HB.out.cell (zQ w _ hx279_0)).trans hx279_0
                 replace p279 := eq_true p279; replace q279 := eq_true q279
                 have p280 : 0 ≤ (x4_2 : Int) := zP (by assumption)
                 have q280 : x4_2 < (l0_4.length : Int) := zP (by assumption)
                 obtain ⟨ad280, e280, hx280_0⟩ := Kd.at_int HR0_4.out x4_2 p280 q280
                 have hw280_0 := hx280_0
                 obtain rfl : ad277 = ad280 := (by injection e280)
                 replace hx280_0 := (HB.out.cell (zQ w _ hx280_0)).trans hx280_0
                 replace p280 := eq_true p280; replace q280 := eq_true q280
                 refine start_ (n := 45) (S := fun w' => w'.cell? ⟨gb272, 0, none⟩ = some (.int .i64 a0_0) ∧ w'.cell? ⟨gb272, 1, none⟩ = some (.slice (some ad273) l0_1.length c0_1) ∧ w'.cell? ⟨gb272, 2, none⟩ = some (.slice (some ad279) l0_2.length c0_2) ∧ w'.cell? ⟨gb272, 3, none⟩ = some (.slice (some ad275) l0_3.length c0_3) ∧ w'.cell? ⟨gb272, 4, none⟩ = some (.slice (some ad277) l0_4.length c0_4) ∧ w'.cell? ⟨gb272, 5, none⟩ = some (.slice A0_5 l0_5.length c0_5) ∧ w'.cell? (ad273.add (x4_2).toNat) = some (.int .i64 (rd l0_1 x4_2)) ∧ w'.cell? (ad275.add (x4_2).toNat) = some (.int .i64 (rd l0_3 x4_2)) ∧ w'.cell? (ad277.add (x4_2).toNat) = some (.int .i64 (rd l0_4 x4_2)) ∧ w'.cell? (ad279.add (x4_2).toNat) = some (.int .i64 (rd l0_2 x4_2)) ∧ w'.cell? (ad277.add (x4_2).toNat) = some (.int .i64 (rd l0_4 x4_2))) (ds := []) (bz 45 0) (by kernel_rfl) rfl rfl ⟨(yG BK272.out 0).trans rfl, (yG BK272.out 1).trans rfl, (yG BK272.out 2).trans rfl, (yG BK272.out 3).trans rfl, (yG BK272.out 4).trans rfl, (yG BK272.out 5).trans rfl, ((HB.out.cell (zQ w _ hw273_0)).trans hw273_0), ((HB.out.cell (zQ w _ hw275_0)).trans hw275_0), ((HB.out.cell (zQ w _ hw277_0)).trans hw277_0), ((HB.out.cell (zQ w _ hw279_0)).trans hw279_0), ((HB.out.cell (zQ w _ hw280_0)).trans hw280_0)⟩ (fun hHeld => ?_); refine with_tabW spec_l06Slab.tab7 spec_l06Slab.bits7 (fun HT_ HW_ => ?_)
                 generalize wr.drew = w32 at BK272 HB hx273_0 hx275_0 hx277_0 hx279_0 hx280_0 hHeld ⊢
                 refine qA 0 42 (bz 45 1) HT_ ?_
                 refine qA 2 44 (bz 45 5) HT_ ?_
                 refine qC 1 43 (bz 45 7) HT_ HW_ hHeld ?_ (hy := by rintro w' ⟨s0, s1, s2, s3, s4, s5, s6, s7, s8, s9, s10⟩; go_simp; with_reducible rfl)
                 refine qA 3 45 (bz 45 15) HT_ ?_
                 refine qC 4 46 (bz 45 31) HT_ HW_ hHeld ?_ (hy := by rintro w' ⟨s0, s1, s2, s3, s4, s5, s6, s7, s8, s9, s10⟩; go_simp; with_reducible rfl)
                 refine one_ (i := 5) (N := some 47) (bz 45 63) rfl rfl (one_of HT_.out (by kernel_rfl)) (by decide) (fun K hK => ?_)
                 refine goes_ Try.func30 (by kernel_rfl) rfl #[.int .i64 (rd l0_1 x4_2), .int .i64 0, .int .i64 40] (by rfl) rfl rfl (by (try simp only [zK, zL, zM]); first | done | rfl | (simp only [zN, zO]; rfl)) ?_
                 with_reducible refine (spec_l00In.calls (rd l0_1 x4_2) 0 40 true _ A17.out).mono ?_
                 rintro e w' ⟨rfl, ⟨nd, rfl⟩⟩
                 refine ⟨_, rfl, ?_⟩
                 refine hK.out _ _ ⟨(yG BK272.out 0).trans rfl, (yG BK272.out 1).trans rfl, (yG BK272.out 2).trans rfl, (yG BK272.out 3).trans rfl, (yG BK272.out 4).trans rfl, (yG BK272.out 5).trans rfl, ((HB.out.cell (zQ w _ hw273_0)).trans hw273_0), ((HB.out.cell (zQ w _ hw275_0)).trans hw275_0), ((HB.out.cell (zQ w _ hw277_0)).trans hw277_0), ((HB.out.cell (zQ w _ hw279_0)).trans hw279_0), ((HB.out.cell (zQ w _ hw280_0)).trans hw280_0)⟩ (fun hHeld => ?_)
                 clear hK K
                 refine norm_ (a' := ?_) ?_ ?_
                 rotate_left
                 · show Act.put _ (some 47) _ = _
                   simp only [Act.put, zH, zI, zJ, i64_w, i32_w]
                   rfl
                 refine qA 6 48 (bz 45 127) HT_ ?_
                 refine qA 7 49 (bz 45 255) HT_ ?_
                 refine qA 8 50 (bz 45 511) HT_ ?_
                 refine qA 10 52 (bz 45 1535) HT_ ?_
                 refine qC 9 51 (bz 45 2047) HT_ HW_ hHeld ?_ (hy := by rintro w' ⟨s0, s1, s2, s3, s4, s5, s6, s7, s8, s9, s10⟩; go_simp; with_reducible rfl)
                 refine qA 11 53 (bz 45 4095) HT_ ?_
                 refine qC 12 54 (bz 45 8191) HT_ HW_ hHeld ?_ (hy := by rintro w' ⟨s0, s1, s2, s3, s4, s5, s6, s7, s8, s9, s10⟩; go_simp; with_reducible rfl)
                 refine one_ (i := 13) (N := some 55) (bz 45 16383) rfl rfl (one_of HT_.out (by kernel_rfl)) (by decide) (fun K hK => ?_)
                 refine goes_ Try.func30 (by kernel_rfl) rfl #[.int .i64 (rd l0_3 x4_2), .int .i64 1, .int .i64 40] (by rfl) rfl rfl (by (try simp only [zK, zL, zM]); first | done | rfl | (simp only [zN, zO]; rfl)) ?_
                 with_reducible refine (spec_l00In.calls (rd l0_3 x4_2) 1 40 true _ A20.out).mono ?_
                 rintro e w' ⟨rfl, ⟨nd, rfl⟩⟩
                 refine ⟨_, rfl, ?_⟩
                 refine hK.out _ _ ⟨(yG BK272.out 0).trans rfl, (yG BK272.out 1).trans rfl, (yG BK272.out 2).trans rfl, (yG BK272.out 3).trans rfl, (yG BK272.out 4).trans rfl, (yG BK272.out 5).trans rfl, ((HB.out.cell (zQ w _ hw273_0)).trans hw273_0), ((HB.out.cell (zQ w _ hw275_0)).trans hw275_0), ((HB.out.cell (zQ w _ hw277_0)).trans hw277_0), ((HB.out.cell (zQ w _ hw279_0)).trans hw279_0), ((HB.out.cell (zQ w _ hw280_0)).trans hw280_0)⟩ (fun hHeld => ?_)
                 clear hK K
                 refine norm_ (a' := ?_) ?_ ?_
                 rotate_left
                 · show Act.put _ (some 55) _ = _
                   simp only [Act.put, zH, zI, zJ, i64_w, i32_w]
                   rfl
                 refine qA 14 56 (bz 45 32767) HT_ ?_
                 refine qA 15 57 (bz 45 65535) HT_ ?_
                 refine qA 16 58 (bz 45 131071) HT_ ?_
                 refine qA 17 59 (bz 45 262143) HT_ ?_
                 refine qA 19 61 (bz 45 786431) HT_ ?_
                 refine qC 18 60 (bz 45 1048575) HT_ HW_ hHeld ?_ (hy := by rintro w' ⟨s0, s1, s2, s3, s4, s5, s6, s7, s8, s9, s10⟩; go_simp; with_reducible rfl)
                 refine qA 20 62 (bz 45 2097151) HT_ ?_
                 refine qC 21 63 (bz 45 4194303) HT_ HW_ hHeld ?_ (hy := by rintro w' ⟨s0, s1, s2, s3, s4, s5, s6, s7, s8, s9, s10⟩; go_simp; with_reducible rfl)
                 refine one_ (i := 22) (N := some 64) (bz 45 8388607) rfl rfl (one_of HT_.out (by kernel_rfl)) (by decide) (fun K hK => ?_)
                 refine goes_ Try.func30 (by kernel_rfl) rfl #[.int .i64 (rd l0_4 x4_2), .int .i64 1, .int .i64 40] (by rfl) rfl rfl (by (try simp only [zK, zL, zM]); first | done | rfl | (simp only [zN, zO]; rfl)) ?_
                 with_reducible refine (spec_l00In.calls (rd l0_4 x4_2) 1 40 true _ A23.out).mono ?_
                 rintro e w' ⟨rfl, ⟨nd, rfl⟩⟩
                 refine ⟨_, rfl, ?_⟩
                 refine hK.out _ _ ⟨(yG BK272.out 0).trans rfl, (yG BK272.out 1).trans rfl, (yG BK272.out 2).trans rfl, (yG BK272.out 3).trans rfl, (yG BK272.out 4).trans rfl, (yG BK272.out 5).trans rfl, ((HB.out.cell (zQ w _ hw273_0)).trans hw273_0), ((HB.out.cell (zQ w _ hw275_0)).trans hw275_0), ((HB.out.cell (zQ w _ hw277_0)).trans hw277_0), ((HB.out.cell (zQ w _ hw279_0)).trans hw279_0), ((HB.out.cell (zQ w _ hw280_0)).trans hw280_0)⟩ (fun hHeld => ?_)
                 clear hK K
                 refine norm_ (a' := ?_) ?_ ?_
                 rotate_left
                 · show Act.put _ (some 64) _ = _
                   simp only [Act.put, zH, zI, zJ, i64_w, i32_w]
                   rfl
                 refine qA 23 65 (bz 45 16777215) HT_ ?_
                 refine qA 24 66 (bz 45 33554431) HT_ ?_
                 refine qA 25 67 (bz 45 67108863) HT_ ?_
                 refine qA 26 68 (bz 45 134217727) HT_ ?_
                 refine qA 28 70 (bz 45 402653183) HT_ ?_
                 refine qA 31 73 (bz 45 2550136831) HT_ ?_
                 refine qA 33 75 (bz 45 11140071423) HT_ ?_
                 refine qC 27 69 (bz 45 11274289151) HT_ HW_ hHeld ?_ (hy := by rintro w' ⟨s0, s1, s2, s3, s4, s5, s6, s7, s8, s9, s10⟩; go_simp; with_reducible rfl)
                 refine qA 29 71 (bz 45 11811160063) HT_ ?_
                 refine qC 30 72 (bz 45 12884901887) HT_ HW_ hHeld ?_ (hy := by rintro w' ⟨s0, s1, s2, s3, s4, s5, s6, s7, s8, s9, s10⟩; go_simp; with_reducible rfl)
                 refine qC 32 74 (bz 45 17179869183) HT_ HW_ hHeld ?_ (hy := by rintro w' ⟨s0, s1, s2, s3, s4, s5, s6, s7, s8, s9, s10⟩; go_simp; with_reducible rfl)
                 refine qA 34 76 (bz 45 34359738367) HT_ ?_
                 refine qC 35 77 (bz 45 68719476735) HT_ HW_ hHeld ?_ (hy := by rintro w' ⟨s0, s1, s2, s3, s4, s5, s6, s7, s8, s9, s10⟩; go_simp; with_reducible rfl)
                 refine one_ (i := 36) (N := some 78) (bz 45 137438953471) rfl rfl (one_of HT_.out (by kernel_rfl)) (by decide) (fun K hK => ?_)
                 refine goes_ Try.func30 (by kernel_rfl) rfl #[.int .i64 (rd l0_2 x4_2), .int .i64 (rd l0_4 x4_2), .int .i64 40] (by rfl) rfl rfl (by (try simp only [zK, zL, zM]); first | done | rfl | (simp only [zN, zO]; rfl)) ?_
                 with_reducible refine (spec_l00In.calls (rd l0_2 x4_2) (rd l0_4 x4_2) 40 true _ A26.out).mono ?_
                 rintro e w' ⟨rfl, ⟨nd, rfl⟩⟩
                 refine ⟨_, rfl, ?_⟩
                 refine hK.out _ _ ⟨(yG BK272.out 0).trans rfl, (yG BK272.out 1).trans rfl, (yG BK272.out 2).trans rfl, (yG BK272.out 3).trans rfl, (yG BK272.out 4).trans rfl, (yG BK272.out 5).trans rfl, ((HB.out.cell (zQ w _ hw273_0)).trans hw273_0), ((HB.out.cell (zQ w _ hw275_0)).trans hw275_0), ((HB.out.cell (zQ w _ hw277_0)).trans hw277_0), ((HB.out.cell (zQ w _ hw279_0)).trans hw279_0), ((HB.out.cell (zQ w _ hw280_0)).trans hw280_0)⟩ (fun hHeld => ?_)
                 clear hK K
                 refine norm_ (a' := ?_) ?_ ?_
                 rotate_left
                 · show Act.put _ (some 78) _ = _
                   simp only [Act.put, zH, zI, zJ, i64_w, i32_w]
                   rfl
                 refine qA 37 79 (bz 45 274877906943) HT_ ?_
                 refine qA 38 80 (bz 45 549755813887) HT_ ?_
                 refine qA 39 81 (bz 45 1099511627775) HT_ ?_
                 refine qA 41 83 (bz 45 3298534883327) HT_ ?_
                 refine qC 40 82 (bz 45 4398046511103) HT_ HW_ hHeld ?_ (hy := by rintro w' ⟨s0, s1, s2, s3, s4, s5, s6, s7, s8, s9, s10⟩; go_simp; with_reducible rfl)
                 refine one_ (i := 42) (N := some 84) (bz 45 8796093022207) rfl rfl (one_of HT_.out (by kernel_rfl)) (by decide) (fun K hK => ?_)
                 refine goes_ Try.func91 (by kernel_rfl) rfl #[.agg #[.int .i64 a0_0, .slice (some ad273) l0_1.length c0_1, .slice (some ad279) l0_2.length c0_2, .slice (some ad275) l0_3.length c0_3, .slice (some ad277) l0_4.length c0_4, .slice A0_5 l0_5.length c0_5], .int .i64 x4_2] (by rfl) rfl rfl (by (try simp only [zK, zL, zM]); first | done | rfl | (simp only [zN, zO]; rfl)) ?_
                 with_reducible refine (spec_l06End.calls a0_0 _ _ l0_1 _ _ l0_2 _ _ l0_3 _ _ l0_4 _ _ l0_5 x4_2 t282 _ ?side1 ?side2 ?side3 ?side4 ?side5 ?side6 ?side7 ?side8 ?side9 ?side10 A28.out).mono ?_
                 (case side1 => repeat (first | exact (yY HR0_1.out (kB HB)) | (with_reducible first | refine yV ?_ _ | refine yW ?_ _ | refine yX ?_)))
                 (case side2 => exact HC0_1.out)
                 (case side3 => repeat (first | exact (yY HR0_2.out (kB HB)) | (with_reducible first | refine yV ?_ _ | refine yW ?_ _ | refine yX ?_)))
                 (case side4 => exact HC0_2.out)
                 (case side5 => repeat (first | exact (yY HR0_3.out (kB HB)) | (with_reducible first | refine yV ?_ _ | refine yW ?_ _ | refine yX ?_)))
                 (case side6 => exact HC0_3.out)
                 (case side7 => repeat (first | exact (yY HR0_4.out (kB HB)) | (with_reducible first | refine yV ?_ _ | refine yW ?_ _ | refine yX ?_)))
                 (case side8 => exact HC0_4.out)
                 (case side9 => repeat (first | exact (yY HR0_5.out (kB HB)) | (with_reducible first | refine yV ?_ _ | refine yW ?_ _ | refine yX ?_)))
                 (case side10 => exact HC0_5.out)
                 rintro e w33 ⟨rfl, hb⟩
                 refine ⟨_, rfl, ?_⟩
                 have n0_ := yD (zB (g := gb272) (o := .cells #[.int .i64 a0_0, .slice (some ad273) l0_1.length c0_1, .slice (some ad279) l0_2.length c0_2, .slice (some ad275) l0_3.length c0_3, .slice (some ad277) l0_4.length c0_4, .slice A0_5 l0_5.length c0_5] 28 (0, 0)) (kM BK272) hb)
                 have n1_ := yD (zC (kB HB) hb)
                 clear BK272 HB; have BK272 := n0_; have HB := n1_; clear n0_ n1_; (try clear hb); (try clear hb2); (try clear hk); (try clear hi)
                 refine hK.out _ _ ⟨(yG BK272.out 0).trans rfl, (yG BK272.out 1).trans rfl, (yG BK272.out 2).trans rfl, (yG BK272.out 3).trans rfl, (yG BK272.out 4).trans rfl, (yG BK272.out 5).trans rfl, ((HB.out.cell (zQ w _ hw273_0)).trans hw273_0), ((HB.out.cell (zQ w _ hw275_0)).trans hw275_0), ((HB.out.cell (zQ w _ hw277_0)).trans hw277_0), ((HB.out.cell (zQ w _ hw279_0)).trans hw279_0), ((HB.out.cell (zQ w _ hw280_0)).trans hw280_0)⟩ (fun hHeld => ?_)
                 clear hK K
                 refine norm_ (a' := ?_) ?_ ?_
                 rotate_left
                 · show Act.put _ (some 84) _ = _
                   simp only [Act.put, zH, zI, zJ, i64_w, i32_w]
                   rfl
                 refine qA 43 85 (bz 45 17592186044415) HT_ ?_
                 refine qA 44 86 (bz 45 35184372088831) HT_ ?_
                 refine done_ (done_of HT_.out (by kernel_rfl)) ?_
                 try go_wp2
                 go_roundg k2
                 case measure => have := HJ1.out; have := HK2.out; omega
                 case rel => exact ⟨(wrap64 (x4_2 + 1)), (by first | rfl | (simp; done) | (simp [*]; done)), H', ⟨by have := HJ1.out; have := HK2.out; omega⟩, ⟨by (with_reducible repeat (first | refine yM ?_ _ | refine yO ?_ | refine yN ?_ _)); exact BK272.out⟩, ⟨kR1 HB⟩⟩
               ·
                replace c27 := Bool.eq_false_iff.mpr c27
                subst c27
                have H1 : (some false) = some r := by rw [if_neg (show ¬ (false = true) by decide)] at H; exact H
                clear H; have H := H1; clear H1; obtain rfl := Option.some.inj H
                try go_wp2
                have n0_ := yD (yO BK272.out)
                have n1_ := yD (yP HB.out)
                clear BK272 HB; have BK272 := n0_; have HB := n1_; clear n0_ n1_
                have p273 : 0 ≤ (x4_2 : Int) := zP (by assumption)
                have q273 : x4_2 < (l0_1.length : Int) := zP (by assumption)
                obtain ⟨ad273, e273, hx273_0⟩ := Kd.at_int HR0_1.out x4_2 p273 q273
                have hw273_0 := hx273_0; cases e273
                replace hx273_0 := (HB.out.cell (zQ w _ hx273_0)).trans hx273_0
                replace p273 := eq_true p273; replace q273 := eq_true q273
                have p275 : 0 ≤ (x4_2 : Int) := zP (by assumption)
                have q275 : x4_2 < (l0_3.length : Int) := zP (by assumption)
                obtain ⟨ad275, e275, hx275_0⟩ := Kd.at_int HR0_3.out x4_2 p275 q275
                have hw275_0 := hx275_0; cases e275
                replace hx275_0 := (HB.out.cell (zQ w _ hx275_0)).trans hx275_0
                replace p275 := eq_true p275; replace q275 := eq_true q275
                have p277 : 0 ≤ (x4_2 : Int) := zP (by assumption)
                have q277 : x4_2 < (l0_4.length : Int) := zP (by assumption)
                obtain ⟨ad277, e277, hx277_0⟩ := Kd.at_int HR0_4.out x4_2 p277 q277
                have hw277_0 := hx277_0; cases e277
                replace hx277_0 := (HB.out.cell (zQ w _ hx277_0)).trans hx277_0
                replace p277 := eq_true p277; replace q277 := eq_true q277
                have p279 : 0 ≤ (x4_2 : Int) := zP (by assumption)
                have q279 : x4_2 < (l0_2.length : Int) := zP (by assumption)
                obtain ⟨ad279, e279, hx279_0⟩ := Kd.at_int HR0_2.out x4_2 p279 q279
                have hw279_0 := hx279_0; cases e279
                replace hx279_0 := (HB.out.cell (zQ w _ hx279_0)).trans hx279_0
                replace p279 := eq_true p279; replace q279 := eq_true q279
                have p280 : 0 ≤ (x4_2 : Int) := zP (by assumption)
                have q280 : x4_2 < (l0_4.length : Int) := zP (by assumption)
                obtain ⟨ad280, e280, hx280_0⟩ := Kd.at_int HR0_4.out x4_2 p280 q280
                have hw280_0 := hx280_0
                obtain rfl : ad277 = ad280 := (by injection e280)
                replace hx280_0 := (HB.out.cell (zQ w _ hx280_0)).trans hx280_0
                replace p280 := eq_true p280; replace q280 := eq_true q280
                refine start_ (n := 45) (S := fun w' => w'.cell? ⟨gb272, 0, none⟩ = some (.int .i64 a0_0) ∧ w'.cell? ⟨gb272, 1, none⟩ = some (.slice (some ad273) l0_1.length c0_1) ∧ w'.cell? ⟨gb272, 2, none⟩ = some (.slice (some ad279) l0_2.length c0_2) ∧ w'.cell? ⟨gb272, 3, none⟩ = some (.slice (some ad275) l0_3.length c0_3) ∧ w'.cell? ⟨gb272, 4, none⟩ = some (.slice (some ad277) l0_4.length c0_4) ∧ w'.cell? ⟨gb272, 5, none⟩ = some (.slice A0_5 l0_5.length c0_5) ∧ w'.cell? (ad273.add (x4_2).toNat) = some (.int .i64 (rd l0_1 x4_2)) ∧ w'.cell? (ad275.add (x4_2).toNat) = some (.int .i64 (rd l0_3 x4_2)) ∧ w'.cell? (ad277.add (x4_2).toNat) = some (.int .i64 (rd l0_4 x4_2)) ∧ w'.cell? (ad279.add (x4_2).toNat) = some (.int .i64 (rd l0_2 x4_2)) ∧ w'.cell? (ad277.add (x4_2).toNat) = some (.int .i64 (rd l0_4 x4_2))) (ds := []) (bz 45 0) (by kernel_rfl) rfl rfl ⟨(yG BK272.out 0).trans rfl, (yG BK272.out 1).trans rfl, (yG BK272.out 2).trans rfl, (yG BK272.out 3).trans rfl, (yG BK272.out 4).trans rfl, (yG BK272.out 5).trans rfl, ((HB.out.cell (zQ w _ hw273_0)).trans hw273_0), ((HB.out.cell (zQ w _ hw275_0)).trans hw275_0), ((HB.out.cell (zQ w _ hw277_0)).trans hw277_0), ((HB.out.cell (zQ w _ hw279_0)).trans hw279_0), ((HB.out.cell (zQ w _ hw280_0)).trans hw280_0)⟩ (fun hHeld => ?_); refine with_tabW spec_l06Slab.tab7 spec_l06Slab.bits7 (fun HT_ HW_ => ?_)
                generalize wr.drew = w34 at BK272 HB hx273_0 hx275_0 hx277_0 hx279_0 hx280_0 hHeld ⊢
                refine qA 0 42 (bz 45 1) HT_ ?_
                refine qA 2 44 (bz 45 5) HT_ ?_
                refine qC 1 43 (bz 45 7) HT_ HW_ hHeld ?_ (hy := by rintro w' ⟨s0, s1, s2, s3, s4, s5, s6, s7, s8, s9, s10⟩; go_simp; with_reducible rfl)
                refine qA 3 45 (bz 45 15) HT_ ?_
                refine qC 4 46 (bz 45 31) HT_ HW_ hHeld ?_ (hy := by rintro w' ⟨s0, s1, s2, s3, s4, s5, s6, s7, s8, s9, s10⟩; go_simp; with_reducible rfl)
                refine one_ (i := 5) (N := some 47) (bz 45 63) rfl rfl (one_of HT_.out (by kernel_rfl)) (by decide) (fun K hK => ?_)
                refine goes_ Try.func30 (by kernel_rfl) rfl #[.int .i64 (rd l0_1 x4_2), .int .i64 0, .int .i64 40] (by rfl) rfl rfl (by (try simp only [zK, zL, zM]); first | done | rfl | (simp only [zN, zO]; rfl)) ?_
                with_reducible refine (spec_l00In.calls (rd l0_1 x4_2) 0 40 true _ A17.out).mono ?_
                rintro e w' ⟨rfl, ⟨nd, rfl⟩⟩
                refine ⟨_, rfl, ?_⟩
                refine hK.out _ _ ⟨(yG BK272.out 0).trans rfl, (yG BK272.out 1).trans rfl, (yG BK272.out 2).trans rfl, (yG BK272.out 3).trans rfl, (yG BK272.out 4).trans rfl, (yG BK272.out 5).trans rfl, ((HB.out.cell (zQ w _ hw273_0)).trans hw273_0), ((HB.out.cell (zQ w _ hw275_0)).trans hw275_0), ((HB.out.cell (zQ w _ hw277_0)).trans hw277_0), ((HB.out.cell (zQ w _ hw279_0)).trans hw279_0), ((HB.out.cell (zQ w _ hw280_0)).trans hw280_0)⟩ (fun hHeld => ?_)
                clear hK K
                refine norm_ (a' := ?_) ?_ ?_
                rotate_left
                · show Act.put _ (some 47) _ = _
                  simp only [Act.put, zH, zI, zJ, i64_w, i32_w]
                  rfl
                refine qA 6 48 (bz 45 127) HT_ ?_
                refine qA 7 49 (bz 45 255) HT_ ?_
                refine qA 8 50 (bz 45 511) HT_ ?_
                refine qA 10 52 (bz 45 1535) HT_ ?_
                refine qC 9 51 (bz 45 2047) HT_ HW_ hHeld ?_ (hy := by rintro w' ⟨s0, s1, s2, s3, s4, s5, s6, s7, s8, s9, s10⟩; go_simp; with_reducible rfl)
                refine qA 11 53 (bz 45 4095) HT_ ?_
                refine qC 12 54 (bz 45 8191) HT_ HW_ hHeld ?_ (hy := by rintro w' ⟨s0, s1, s2, s3, s4, s5, s6, s7, s8, s9, s10⟩; go_simp; with_reducible rfl)
                refine one_ (i := 13) (N := some 55) (bz 45 16383) rfl rfl (one_of HT_.out (by kernel_rfl)) (by decide) (fun K hK => ?_)
                refine goes_ Try.func30 (by kernel_rfl) rfl #[.int .i64 (rd l0_3 x4_2), .int .i64 1, .int .i64 40] (by rfl) rfl rfl (by (try simp only [zK, zL, zM]); first | done | rfl | (simp only [zN, zO]; rfl)) ?_
                with_reducible refine (spec_l00In.calls (rd l0_3 x4_2) 1 40 true _ A20.out).mono ?_
                rintro e w' ⟨rfl, ⟨nd, rfl⟩⟩
                refine ⟨_, rfl, ?_⟩
                refine hK.out _ _ ⟨(yG BK272.out 0).trans rfl, (yG BK272.out 1).trans rfl, (yG BK272.out 2).trans rfl, (yG BK272.out 3).trans rfl, (yG BK272.out 4).trans rfl, (yG BK272.out 5).trans rfl, ((HB.out.cell (zQ w _ hw273_0)).trans hw273_0), ((HB.out.cell (zQ w _ hw275_0)).trans hw275_0), ((HB.out.cell (zQ w _ hw277_0)).trans hw277_0), ((HB.out.cell (zQ w _ hw279_0)).trans hw279_0), ((HB.out.cell (zQ w _ hw280_0)).trans hw280_0)⟩ (fun hHeld => ?_)
                clear hK K
                refine norm_ (a' := ?_) ?_ ?_
                rotate_left
                · show Act.put _ (some 55) _ = _
                  simp only [Act.put, zH, zI, zJ, i64_w, i32_w]
                  rfl
                refine qA 14 56 (bz 45 32767) HT_ ?_
                refine qA 15 57 (bz 45 65535) HT_ ?_
                refine qA 16 58 (bz 45 131071) HT_ ?_
                refine qA 17 59 (bz 45 262143) HT_ ?_
                refine qA 19 61 (bz 45 786431) HT_ ?_
                refine qC 18 60 (bz 45 1048575) HT_ HW_ hHeld ?_ (hy := by rintro w' ⟨s0, s1, s2, s3, s4, s5, s6, s7, s8, s9, s10⟩; go_simp; with_reducible rfl)
                refine qA 20 62 (bz 45 2097151) HT_ ?_
                refine qC 21 63 (bz 45 4194303) HT_ HW_ hHeld ?_ (hy := by rintro w' ⟨s0, s1, s2, s3, s4, s5, s6, s7, s8, s9, s10⟩; go_simp; with_reducible rfl)
                refine one_ (i := 22) (N := some 64) (bz 45 8388607) rfl rfl (one_of HT_.out (by kernel_rfl)) (by decide) (fun K hK => ?_)
                refine goes_ Try.func30 (by kernel_rfl) rfl #[.int .i64 (rd l0_4 x4_2), .int .i64 1, .int .i64 40] (by rfl) rfl rfl (by (try simp only [zK, zL, zM]); first | done | rfl | (simp only [zN, zO]; rfl)) ?_
                with_reducible refine (spec_l00In.calls (rd l0_4 x4_2) 1 40 true _ A23.out).mono ?_
                rintro e w' ⟨rfl, ⟨nd, rfl⟩⟩
                refine ⟨_, rfl, ?_⟩
                refine hK.out _ _ ⟨(yG BK272.out 0).trans rfl, (yG BK272.out 1).trans rfl, (yG BK272.out 2).trans rfl, (yG BK272.out 3).trans rfl, (yG BK272.out 4).trans rfl, (yG BK272.out 5).trans rfl, ((HB.out.cell (zQ w _ hw273_0)).trans hw273_0), ((HB.out.cell (zQ w _ hw275_0)).trans hw275_0), ((HB.out.cell (zQ w _ hw277_0)).trans hw277_0), ((HB.out.cell (zQ w _ hw279_0)).trans hw279_0), ((HB.out.cell (zQ w _ hw280_0)).trans hw280_0)⟩ (fun hHeld => ?_)
                clear hK K
                refine norm_ (a' := ?_) ?_ ?_
                rotate_left
                · show Act.put _ (some 64) _ = _
                  simp only [Act.put, zH, zI, zJ, i64_w, i32_w]
                  rfl
                refine qA 23 65 (bz 45 16777215) HT_ ?_
                refine qA 24 66 (bz 45 33554431) HT_ ?_
                refine qA 25 67 (bz 45 67108863) HT_ ?_
                refine qA 26 68 (bz 45 134217727) HT_ ?_
                refine qA 28 70 (bz 45 402653183) HT_ ?_
                refine qA 31 73 (bz 45 2550136831) HT_ ?_
                refine qA 33 75 (bz 45 11140071423) HT_ ?_
                refine qC 27 69 (bz 45 11274289151) HT_ HW_ hHeld ?_ (hy := by rintro w' ⟨s0, s1, s2, s3, s4, s5, s6, s7, s8, s9, s10⟩; go_simp; with_reducible rfl)
                refine qA 29 71 (bz 45 11811160063) HT_ ?_
                refine qC 30 72 (bz 45 12884901887) HT_ HW_ hHeld ?_ (hy := by rintro w' ⟨s0, s1, s2, s3, s4, s5, s6, s7, s8, s9, s10⟩; go_simp; with_reducible rfl)
                refine qC 32 74 (bz 45 17179869183) HT_ HW_ hHeld ?_ (hy := by rintro w' ⟨s0, s1, s2, s3, s4, s5, s6, s7, s8, s9, s10⟩; go_simp; with_reducible rfl)
                refine qA 34 76 (bz 45 34359738367) HT_ ?_
                refine qC 35 77 (bz 45 68719476735) HT_ HW_ hHeld ?_ (hy := by rintro w' ⟨s0, s1, s2, s3, s4, s5, s6, s7, s8, s9, s10⟩; go_simp; with_reducible rfl)
                refine one_ (i := 36) (N := some 78) (bz 45 137438953471) rfl rfl (one_of HT_.out (by kernel_rfl)) (by decide) (fun K hK => ?_)
                refine goes_ Try.func30 (by kernel_rfl) rfl #[.int .i64 (rd l0_2 x4_2), .int .i64 (rd l0_4 x4_2), .int .i64 40] (by rfl) rfl rfl (by (try simp only [zK, zL, zM]); first | done | rfl | (simp only [zN, zO]; rfl)) ?_
                with_reducible refine (spec_l00In.calls (rd l0_2 x4_2) (rd l0_4 x4_2) 40 false _ A26.out).mono ?_
                rintro e w' ⟨rfl, ⟨nd, rfl⟩⟩
                refine ⟨_, rfl, ?_⟩
                refine hK.out _ _ ⟨(yG BK272.out 0).trans rfl, (yG BK272.out 1).trans rfl, (yG BK272.out 2).trans rfl, (yG BK272.out 3).trans rfl, (yG BK272.out 4).trans rfl, (yG BK272.out 5).trans rfl, ((HB.out.cell (zQ w _ hw273_0)).trans hw273_0), ((HB.out.cell (zQ w _ hw275_0)).trans hw275_0), ((HB.out.cell (zQ w _ hw277_0)).trans hw277_0), ((HB.out.cell (zQ w _ hw279_0)).trans hw279_0), ((HB.out.cell (zQ w _ hw280_0)).trans hw280_0)⟩ (fun hHeld => ?_)
                clear hK K
                refine norm_ (a' := ?_) ?_ ?_
                rotate_left
                · show Act.put _ (some 78) _ = _
                  simp only [Act.put, zH, zI, zJ, i64_w, i32_w]
                  rfl
                refine qA 37 79 (bz 45 274877906943) HT_ ?_
                refine qA 38 80 (bz 45 549755813887) HT_ ?_
                refine qA 39 81 (bz 45 1099511627775) HT_ ?_
                refine qB 40 82 (bz 45 2199023255551) HT_ ?_
                refine qB 41 83 (bz 45 4398046511103) HT_ ?_
                refine qB 42 84 (bz 45 8796093022207) HT_ ?_
                refine qB 43 85 (bz 45 17592186044415) HT_ ?_
                refine qA 44 86 (bz 45 35184372088831) HT_ ?_
                refine done_ (done_of HT_.out (by kernel_rfl)) ?_
                try go_wp2
                go_ret
                exact ⟨by first | rfl | (simp <;> rfl) | (simp [*] <;> rfl), kR1 HB⟩
              · rw [if_neg c25] at H
                exact absurd H (by simp)
             ·
              replace c24 := Bool.eq_false_iff.mpr c24
              subst c24
              have H1 : (some false) = some r := by rw [if_neg (show ¬ (false = true) by decide)] at H; exact H
              clear H; have H := H1; clear H1; obtain rfl := Option.some.inj H
              try go_wp2
              have n0_ := yD (yO BK272.out)
              have n1_ := yD (yP HB.out)
              clear BK272 HB; have BK272 := n0_; have HB := n1_; clear n0_ n1_
              have p273 : 0 ≤ (x4_2 : Int) := zP (by assumption)
              have q273 : x4_2 < (l0_1.length : Int) := zP (by assumption)
              obtain ⟨ad273, e273, hx273_0⟩ := Kd.at_int HR0_1.out x4_2 p273 q273
              have hw273_0 := hx273_0; cases e273
              replace hx273_0 := (HB.out.cell (zQ w _ hx273_0)).trans hx273_0
              replace p273 := eq_true p273; replace q273 := eq_true q273
              have p275 : 0 ≤ (x4_2 : Int) := zP (by assumption)
              have q275 : x4_2 < (l0_3.length : Int) := zP (by assumption)
              obtain ⟨ad275, e275, hx275_0⟩ := Kd.at_int HR0_3.out x4_2 p275 q275
              have hw275_0 := hx275_0; cases e275
              replace hx275_0 := (HB.out.cell (zQ w _ hx275_0)).trans hx275_0
              replace p275 := eq_true p275; replace q275 := eq_true q275
              have p277 : 0 ≤ (x4_2 : Int) := zP (by assumption)
              have q277 : x4_2 < (l0_4.length : Int) := zP (by assumption)
              obtain ⟨ad277, e277, hx277_0⟩ := Kd.at_int HR0_4.out x4_2 p277 q277
              have hw277_0 := hx277_0; cases e277
              replace hx277_0 := (HB.out.cell (zQ w _ hx277_0)).trans hx277_0
              replace p277 := eq_true p277; replace q277 := eq_true q277
              refine start_ (n := 45) (S := fun w' => w'.cell? ⟨gb272, 0, none⟩ = some (.int .i64 a0_0) ∧ w'.cell? ⟨gb272, 1, none⟩ = some (.slice (some ad273) l0_1.length c0_1) ∧ w'.cell? ⟨gb272, 2, none⟩ = some (.slice A0_2 l0_2.length c0_2) ∧ w'.cell? ⟨gb272, 3, none⟩ = some (.slice (some ad275) l0_3.length c0_3) ∧ w'.cell? ⟨gb272, 4, none⟩ = some (.slice (some ad277) l0_4.length c0_4) ∧ w'.cell? ⟨gb272, 5, none⟩ = some (.slice A0_5 l0_5.length c0_5) ∧ w'.cell? (ad273.add (x4_2).toNat) = some (.int .i64 (rd l0_1 x4_2)) ∧ w'.cell? (ad275.add (x4_2).toNat) = some (.int .i64 (rd l0_3 x4_2)) ∧ w'.cell? (ad277.add (x4_2).toNat) = some (.int .i64 (rd l0_4 x4_2))) (ds := []) (bz 45 0) (by kernel_rfl) rfl rfl ⟨(yG BK272.out 0).trans rfl, (yG BK272.out 1).trans rfl, (yG BK272.out 2).trans rfl, (yG BK272.out 3).trans rfl, (yG BK272.out 4).trans rfl, (yG BK272.out 5).trans rfl, ((HB.out.cell (zQ w _ hw273_0)).trans hw273_0), ((HB.out.cell (zQ w _ hw275_0)).trans hw275_0), ((HB.out.cell (zQ w _ hw277_0)).trans hw277_0)⟩ (fun hHeld => ?_); refine with_tabW spec_l06Slab.tab7 spec_l06Slab.bits7 (fun HT_ HW_ => ?_)
              generalize wr.drew = w35 at BK272 HB hx273_0 hx275_0 hx277_0 hHeld ⊢
              refine qA 0 42 (bz 45 1) HT_ ?_
              refine qA 2 44 (bz 45 5) HT_ ?_
              refine qC 1 43 (bz 45 7) HT_ HW_ hHeld ?_ (hy := by rintro w' ⟨s0, s1, s2, s3, s4, s5, s6, s7, s8⟩; go_simp; with_reducible rfl)
              refine qA 3 45 (bz 45 15) HT_ ?_
              refine qC 4 46 (bz 45 31) HT_ HW_ hHeld ?_ (hy := by rintro w' ⟨s0, s1, s2, s3, s4, s5, s6, s7, s8⟩; go_simp; with_reducible rfl)
              refine one_ (i := 5) (N := some 47) (bz 45 63) rfl rfl (one_of HT_.out (by kernel_rfl)) (by decide) (fun K hK => ?_)
              refine goes_ Try.func30 (by kernel_rfl) rfl #[.int .i64 (rd l0_1 x4_2), .int .i64 0, .int .i64 40] (by rfl) rfl rfl (by (try simp only [zK, zL, zM]); first | done | rfl | (simp only [zN, zO]; rfl)) ?_
              with_reducible refine (spec_l00In.calls (rd l0_1 x4_2) 0 40 true _ A17.out).mono ?_
              rintro e w' ⟨rfl, ⟨nd, rfl⟩⟩
              refine ⟨_, rfl, ?_⟩
              refine hK.out _ _ ⟨(yG BK272.out 0).trans rfl, (yG BK272.out 1).trans rfl, (yG BK272.out 2).trans rfl, (yG BK272.out 3).trans rfl, (yG BK272.out 4).trans rfl, (yG BK272.out 5).trans rfl, ((HB.out.cell (zQ w _ hw273_0)).trans hw273_0), ((HB.out.cell (zQ w _ hw275_0)).trans hw275_0), ((HB.out.cell (zQ w _ hw277_0)).trans hw277_0)⟩ (fun hHeld => ?_)
              clear hK K
              refine norm_ (a' := ?_) ?_ ?_
              rotate_left
              · show Act.put _ (some 47) _ = _
                simp only [Act.put, zH, zI, zJ, i64_w, i32_w]
                rfl
              refine qA 6 48 (bz 45 127) HT_ ?_
              refine qA 7 49 (bz 45 255) HT_ ?_
              refine qA 8 50 (bz 45 511) HT_ ?_
              refine qA 10 52 (bz 45 1535) HT_ ?_
              refine qC 9 51 (bz 45 2047) HT_ HW_ hHeld ?_ (hy := by rintro w' ⟨s0, s1, s2, s3, s4, s5, s6, s7, s8⟩; go_simp; with_reducible rfl)
              refine qA 11 53 (bz 45 4095) HT_ ?_
              refine qC 12 54 (bz 45 8191) HT_ HW_ hHeld ?_ (hy := by rintro w' ⟨s0, s1, s2, s3, s4, s5, s6, s7, s8⟩; go_simp; with_reducible rfl)
              refine one_ (i := 13) (N := some 55) (bz 45 16383) rfl rfl (one_of HT_.out (by kernel_rfl)) (by decide) (fun K hK => ?_)
              refine goes_ Try.func30 (by kernel_rfl) rfl #[.int .i64 (rd l0_3 x4_2), .int .i64 1, .int .i64 40] (by rfl) rfl rfl (by (try simp only [zK, zL, zM]); first | done | rfl | (simp only [zN, zO]; rfl)) ?_
              with_reducible refine (spec_l00In.calls (rd l0_3 x4_2) 1 40 true _ A20.out).mono ?_
              rintro e w' ⟨rfl, ⟨nd, rfl⟩⟩
              refine ⟨_, rfl, ?_⟩
              refine hK.out _ _ ⟨(yG BK272.out 0).trans rfl, (yG BK272.out 1).trans rfl, (yG BK272.out 2).trans rfl, (yG BK272.out 3).trans rfl, (yG BK272.out 4).trans rfl, (yG BK272.out 5).trans rfl, ((HB.out.cell (zQ w _ hw273_0)).trans hw273_0), ((HB.out.cell (zQ w _ hw275_0)).trans hw275_0), ((HB.out.cell (zQ w _ hw277_0)).trans hw277_0)⟩ (fun hHeld => ?_)
              clear hK K
              refine norm_ (a' := ?_) ?_ ?_
              rotate_left
              · show Act.put _ (some 55) _ = _
                simp only [Act.put, zH, zI, zJ, i64_w, i32_w]
                rfl
              refine qA 14 56 (bz 45 32767) HT_ ?_
              refine qA 15 57 (bz 45 65535) HT_ ?_
              refine qA 16 58 (bz 45 131071) HT_ ?_
              refine qA 17 59 (bz 45 262143) HT_ ?_
              refine qA 19 61 (bz 45 786431) HT_ ?_
              refine qC 18 60 (bz 45 1048575) HT_ HW_ hHeld ?_ (hy := by rintro w' ⟨s0, s1, s2, s3, s4, s5, s6, s7, s8⟩; go_simp; with_reducible rfl)
              refine qA 20 62 (bz 45 2097151) HT_ ?_
              refine qC 21 63 (bz 45 4194303) HT_ HW_ hHeld ?_ (hy := by rintro w' ⟨s0, s1, s2, s3, s4, s5, s6, s7, s8⟩; go_simp; with_reducible rfl)
              refine one_ (i := 22) (N := some 64) (bz 45 8388607) rfl rfl (one_of HT_.out (by kernel_rfl)) (by decide) (fun K hK => ?_)
              refine goes_ Try.func30 (by kernel_rfl) rfl #[.int .i64 (rd l0_4 x4_2), .int .i64 1, .int .i64 40] (by rfl) rfl rfl (by (try simp only [zK, zL, zM]); first | done | rfl | (simp only [zN, zO]; rfl)) ?_
              with_reducible refine (spec_l00In.calls (rd l0_4 x4_2) 1 40 false _ A23.out).mono ?_
              rintro e w' ⟨rfl, ⟨nd, rfl⟩⟩
              refine ⟨_, rfl, ?_⟩
              refine hK.out _ _ ⟨(yG BK272.out 0).trans rfl, (yG BK272.out 1).trans rfl, (yG BK272.out 2).trans rfl, (yG BK272.out 3).trans rfl, (yG BK272.out 4).trans rfl, (yG BK272.out 5).trans rfl, ((HB.out.cell (zQ w _ hw273_0)).trans hw273_0), ((HB.out.cell (zQ w _ hw275_0)).trans hw275_0), ((HB.out.cell (zQ w _ hw277_0)).trans hw277_0)⟩ (fun hHeld => ?_)
              clear hK K
              refine norm_ (a' := ?_) ?_ ?_
              rotate_left
              · show Act.put _ (some 64) _ = _
                simp only [Act.put, zH, zI, zJ, i64_w, i32_w]
                rfl
              refine qA 23 65 (bz 45 16777215) HT_ ?_
              refine qA 24 66 (bz 45 33554431) HT_ ?_
              refine qA 25 67 (bz 45 67108863) HT_ ?_
              refine qB 26 68 (bz 45 134217727) HT_ ?_
              refine qB 27 69 (bz 45 268435455) HT_ ?_
              refine qB 28 70 (bz 45 536870911) HT_ ?_
              refine qB 29 71 (bz 45 1073741823) HT_ ?_
              refine qB 30 72 (bz 45 2147483647) HT_ ?_
              refine qB 31 73 (bz 45 4294967295) HT_ ?_
              refine qB 32 74 (bz 45 8589934591) HT_ ?_
              refine qB 33 75 (bz 45 17179869183) HT_ ?_
              refine qB 34 76 (bz 45 34359738367) HT_ ?_
              refine qB 35 77 (bz 45 68719476735) HT_ ?_
              refine qB 36 78 (bz 45 137438953471) HT_ ?_
              refine qB 37 79 (bz 45 274877906943) HT_ ?_
              refine qA 38 80 (bz 45 549755813887) HT_ ?_
              refine qA 39 81 (bz 45 1099511627775) HT_ ?_
              refine qB 40 82 (bz 45 2199023255551) HT_ ?_
              refine qB 41 83 (bz 45 4398046511103) HT_ ?_
              refine qB 42 84 (bz 45 8796093022207) HT_ ?_
              refine qB 43 85 (bz 45 17592186044415) HT_ ?_
              refine qA 44 86 (bz 45 35184372088831) HT_ ?_
              refine done_ (done_of HT_.out (by kernel_rfl)) ?_
              try go_wp2
              go_ret
              exact ⟨by first | rfl | (simp <;> rfl) | (simp [*] <;> rfl), kR1 HB⟩
            · rw [if_neg c22] at H
              exact absurd H (by simp)
           ·
            replace c21 := Bool.eq_false_iff.mpr c21
            subst c21
            have H1 : (some false) = some r := by rw [if_neg (show ¬ (false = true) by decide)] at H; exact H
            clear H; have H := H1; clear H1; obtain rfl := Option.some.inj H
            try go_wp2
            have n0_ := yD (yO BK272.out)
            have n1_ := yD (yP HB.out)
            clear BK272 HB; have BK272 := n0_; have HB := n1_; clear n0_ n1_
            have p273 : 0 ≤ (x4_2 : Int) := zP (by assumption)
            have q273 : x4_2 < (l0_1.length : Int) := zP (by assumption)
            obtain ⟨ad273, e273, hx273_0⟩ := Kd.at_int HR0_1.out x4_2 p273 q273
            have hw273_0 := hx273_0; cases e273
            replace hx273_0 := (HB.out.cell (zQ w _ hx273_0)).trans hx273_0
            replace p273 := eq_true p273; replace q273 := eq_true q273
            have p275 : 0 ≤ (x4_2 : Int) := zP (by assumption)
            have q275 : x4_2 < (l0_3.length : Int) := zP (by assumption)
            obtain ⟨ad275, e275, hx275_0⟩ := Kd.at_int HR0_3.out x4_2 p275 q275
            have hw275_0 := hx275_0; cases e275
            replace hx275_0 := (HB.out.cell (zQ w _ hx275_0)).trans hx275_0
            replace p275 := eq_true p275; replace q275 := eq_true q275
            refine start_ (n := 45) (S := fun w' => w'.cell? ⟨gb272, 0, none⟩ = some (.int .i64 a0_0) ∧ w'.cell? ⟨gb272, 1, none⟩ = some (.slice (some ad273) l0_1.length c0_1) ∧ w'.cell? ⟨gb272, 2, none⟩ = some (.slice A0_2 l0_2.length c0_2) ∧ w'.cell? ⟨gb272, 3, none⟩ = some (.slice (some ad275) l0_3.length c0_3) ∧ w'.cell? ⟨gb272, 4, none⟩ = some (.slice A0_4 l0_4.length c0_4) ∧ w'.cell? ⟨gb272, 5, none⟩ = some (.slice A0_5 l0_5.length c0_5) ∧ w'.cell? (ad273.add (x4_2).toNat) = some (.int .i64 (rd l0_1 x4_2)) ∧ w'.cell? (ad275.add (x4_2).toNat) = some (.int .i64 (rd l0_3 x4_2))) (ds := []) (bz 45 0) (by kernel_rfl) rfl rfl ⟨(yG BK272.out 0).trans rfl, (yG BK272.out 1).trans rfl, (yG BK272.out 2).trans rfl, (yG BK272.out 3).trans rfl, (yG BK272.out 4).trans rfl, (yG BK272.out 5).trans rfl, ((HB.out.cell (zQ w _ hw273_0)).trans hw273_0), ((HB.out.cell (zQ w _ hw275_0)).trans hw275_0)⟩ (fun hHeld => ?_); refine with_tabW spec_l06Slab.tab7 spec_l06Slab.bits7 (fun HT_ HW_ => ?_)
            generalize wr.drew = w36 at BK272 HB hx273_0 hx275_0 hHeld ⊢
            refine qA 0 42 (bz 45 1) HT_ ?_
            refine qA 2 44 (bz 45 5) HT_ ?_
            refine qC 1 43 (bz 45 7) HT_ HW_ hHeld ?_ (hy := by rintro w' ⟨s0, s1, s2, s3, s4, s5, s6, s7⟩; go_simp; with_reducible rfl)
            refine qA 3 45 (bz 45 15) HT_ ?_
            refine qC 4 46 (bz 45 31) HT_ HW_ hHeld ?_ (hy := by rintro w' ⟨s0, s1, s2, s3, s4, s5, s6, s7⟩; go_simp; with_reducible rfl)
            refine one_ (i := 5) (N := some 47) (bz 45 63) rfl rfl (one_of HT_.out (by kernel_rfl)) (by decide) (fun K hK => ?_)
            refine goes_ Try.func30 (by kernel_rfl) rfl #[.int .i64 (rd l0_1 x4_2), .int .i64 0, .int .i64 40] (by rfl) rfl rfl (by (try simp only [zK, zL, zM]); first | done | rfl | (simp only [zN, zO]; rfl)) ?_
            with_reducible refine (spec_l00In.calls (rd l0_1 x4_2) 0 40 true _ A17.out).mono ?_
            rintro e w' ⟨rfl, ⟨nd, rfl⟩⟩
            refine ⟨_, rfl, ?_⟩
            refine hK.out _ _ ⟨(yG BK272.out 0).trans rfl, (yG BK272.out 1).trans rfl, (yG BK272.out 2).trans rfl, (yG BK272.out 3).trans rfl, (yG BK272.out 4).trans rfl, (yG BK272.out 5).trans rfl, ((HB.out.cell (zQ w _ hw273_0)).trans hw273_0), ((HB.out.cell (zQ w _ hw275_0)).trans hw275_0)⟩ (fun hHeld => ?_)
            clear hK K
            refine norm_ (a' := ?_) ?_ ?_
            rotate_left
            · show Act.put _ (some 47) _ = _
              simp only [Act.put, zH, zI, zJ, i64_w, i32_w]
              rfl
            refine qA 6 48 (bz 45 127) HT_ ?_
            refine qA 7 49 (bz 45 255) HT_ ?_
            refine qA 8 50 (bz 45 511) HT_ ?_
            refine qA 10 52 (bz 45 1535) HT_ ?_
            refine qC 9 51 (bz 45 2047) HT_ HW_ hHeld ?_ (hy := by rintro w' ⟨s0, s1, s2, s3, s4, s5, s6, s7⟩; go_simp; with_reducible rfl)
            refine qA 11 53 (bz 45 4095) HT_ ?_
            refine qC 12 54 (bz 45 8191) HT_ HW_ hHeld ?_ (hy := by rintro w' ⟨s0, s1, s2, s3, s4, s5, s6, s7⟩; go_simp; with_reducible rfl)
            refine one_ (i := 13) (N := some 55) (bz 45 16383) rfl rfl (one_of HT_.out (by kernel_rfl)) (by decide) (fun K hK => ?_)
            refine goes_ Try.func30 (by kernel_rfl) rfl #[.int .i64 (rd l0_3 x4_2), .int .i64 1, .int .i64 40] (by rfl) rfl rfl (by (try simp only [zK, zL, zM]); first | done | rfl | (simp only [zN, zO]; rfl)) ?_
            with_reducible refine (spec_l00In.calls (rd l0_3 x4_2) 1 40 false _ A20.out).mono ?_
            rintro e w' ⟨rfl, ⟨nd, rfl⟩⟩
            refine ⟨_, rfl, ?_⟩
            refine hK.out _ _ ⟨(yG BK272.out 0).trans rfl, (yG BK272.out 1).trans rfl, (yG BK272.out 2).trans rfl, (yG BK272.out 3).trans rfl, (yG BK272.out 4).trans rfl, (yG BK272.out 5).trans rfl, ((HB.out.cell (zQ w _ hw273_0)).trans hw273_0), ((HB.out.cell (zQ w _ hw275_0)).trans hw275_0)⟩ (fun hHeld => ?_)
            clear hK K
            refine norm_ (a' := ?_) ?_ ?_
            rotate_left
            · show Act.put _ (some 55) _ = _
              simp only [Act.put, zH, zI, zJ, i64_w, i32_w]
              rfl
            refine qA 14 56 (bz 45 32767) HT_ ?_
            refine qA 15 57 (bz 45 65535) HT_ ?_
            refine qA 16 58 (bz 45 131071) HT_ ?_
            refine qB 17 59 (bz 45 262143) HT_ ?_
            refine qB 18 60 (bz 45 524287) HT_ ?_
            refine qB 19 61 (bz 45 1048575) HT_ ?_
            refine qB 20 62 (bz 45 2097151) HT_ ?_
            refine qB 21 63 (bz 45 4194303) HT_ ?_
            refine qB 22 64 (bz 45 8388607) HT_ ?_
            refine qB 23 65 (bz 45 16777215) HT_ ?_
            refine qA 24 66 (bz 45 33554431) HT_ ?_
            refine qA 25 67 (bz 45 67108863) HT_ ?_
            refine qB 26 68 (bz 45 134217727) HT_ ?_
            refine qB 27 69 (bz 45 268435455) HT_ ?_
            refine qB 28 70 (bz 45 536870911) HT_ ?_
            refine qB 29 71 (bz 45 1073741823) HT_ ?_
            refine qB 30 72 (bz 45 2147483647) HT_ ?_
            refine qB 31 73 (bz 45 4294967295) HT_ ?_
            refine qB 32 74 (bz 45 8589934591) HT_ ?_
            refine qB 33 75 (bz 45 17179869183) HT_ ?_
            refine qB 34 76 (bz 45 34359738367) HT_ ?_
            refine qB 35 77 (bz 45 68719476735) HT_ ?_
            refine qB 36 78 (bz 45 137438953471) HT_ ?_
            refine qB 37 79 (bz 45 274877906943) HT_ ?_
            refine qA 38 80 (bz 45 549755813887) HT_ ?_
            refine qA 39 81 (bz 45 1099511627775) HT_ ?_
            refine qB 40 82 (bz 45 2199023255551) HT_ ?_
            refine qB 41 83 (bz 45 4398046511103) HT_ ?_
            refine qB 42 84 (bz 45 8796093022207) HT_ ?_
            refine qB 43 85 (bz 45 17592186044415) HT_ ?_
            refine qA 44 86 (bz 45 35184372088831) HT_ ?_
            refine done_ (done_of HT_.out (by kernel_rfl)) ?_
            try go_wp2
            go_ret
            exact ⟨by first | rfl | (simp <;> rfl) | (simp [*] <;> rfl), kR1 HB⟩
          · rw [if_neg c19] at H
            exact absurd H (by simp)
         ·
          replace c18 := Bool.eq_false_iff.mpr c18
          subst c18
          have H1 : (some false) = some r := by rw [if_neg (show ¬ (false = true) by decide)] at H; exact H
          clear H; have H := H1; clear H1; obtain rfl := Option.some.inj H
          try go_wp2
          have n0_ := yD (yO BK272.out)
          have n1_ := yD (yP HB.out)
          clear BK272 HB; have BK272 := n0_; have HB := n1_; clear n0_ n1_
          have p273 : 0 ≤ (x4_2 : Int) := zP (by assumption)
          have q273 : x4_2 < (l0_1.length : Int) := zP (by assumption)
          obtain ⟨ad273, e273, hx273_0⟩ := Kd.at_int HR0_1.out x4_2 p273 q273
          have hw273_0 := hx273_0; cases e273
          replace hx273_0 := (HB.out.cell (zQ w _ hx273_0)).trans hx273_0
          replace p273 := eq_true p273; replace q273 := eq_true q273
          refine start_ (n := 45) (S := fun w' => w'.cell? ⟨gb272, 0, none⟩ = some (.int .i64 a0_0) ∧ w'.cell? ⟨gb272, 1, none⟩ = some (.slice (some ad273) l0_1.length c0_1) ∧ w'.cell? ⟨gb272, 2, none⟩ = some (.slice A0_2 l0_2.length c0_2) ∧ w'.cell? ⟨gb272, 3, none⟩ = some (.slice A0_3 l0_3.length c0_3) ∧ w'.cell? ⟨gb272, 4, none⟩ = some (.slice A0_4 l0_4.length c0_4) ∧ w'.cell? ⟨gb272, 5, none⟩ = some (.slice A0_5 l0_5.length c0_5) ∧ w'.cell? (ad273.add (x4_2).toNat) = some (.int .i64 (rd l0_1 x4_2))) (ds := []) (bz 45 0) (by kernel_rfl) rfl rfl ⟨(yG BK272.out 0).trans rfl, (yG BK272.out 1).trans rfl, (yG BK272.out 2).trans rfl, (yG BK272.out 3).trans rfl, (yG BK272.out 4).trans rfl, (yG BK272.out 5).trans rfl, ((HB.out.cell (zQ w _ hw273_0)).trans hw273_0)⟩ (fun hHeld => ?_); refine with_tabW spec_l06Slab.tab7 spec_l06Slab.bits7 (fun HT_ HW_ => ?_)
          generalize wr.drew = w37 at BK272 HB hx273_0 hHeld ⊢
          refine qA 0 42 (bz 45 1) HT_ ?_
          refine qA 2 44 (bz 45 5) HT_ ?_
          refine qC 1 43 (bz 45 7) HT_ HW_ hHeld ?_ (hy := by rintro w' ⟨s0, s1, s2, s3, s4, s5, s6⟩; go_simp; with_reducible rfl)
          refine qA 3 45 (bz 45 15) HT_ ?_
          refine qC 4 46 (bz 45 31) HT_ HW_ hHeld ?_ (hy := by rintro w' ⟨s0, s1, s2, s3, s4, s5, s6⟩; go_simp; with_reducible rfl)
          refine one_ (i := 5) (N := some 47) (bz 45 63) rfl rfl (one_of HT_.out (by kernel_rfl)) (by decide) (fun K hK => ?_)
          refine goes_ Try.func30 (by kernel_rfl) rfl #[.int .i64 (rd l0_1 x4_2), .int .i64 0, .int .i64 40] (by rfl) rfl rfl (by (try simp only [zK, zL, zM]); first | done | rfl | (simp only [zN, zO]; rfl)) ?_
          with_reducible refine (spec_l00In.calls (rd l0_1 x4_2) 0 40 false _ A17.out).mono ?_
          rintro e w' ⟨rfl, ⟨nd, rfl⟩⟩
          refine ⟨_, rfl, ?_⟩
          refine hK.out _ _ ⟨(yG BK272.out 0).trans rfl, (yG BK272.out 1).trans rfl, (yG BK272.out 2).trans rfl, (yG BK272.out 3).trans rfl, (yG BK272.out 4).trans rfl, (yG BK272.out 5).trans rfl, ((HB.out.cell (zQ w _ hw273_0)).trans hw273_0)⟩ (fun hHeld => ?_)
          clear hK K
          refine norm_ (a' := ?_) ?_ ?_
          rotate_left
          · show Act.put _ (some 47) _ = _
            simp only [Act.put, zH, zI, zJ, i64_w, i32_w]
            rfl
          refine qA 6 48 (bz 45 127) HT_ ?_
          refine qA 7 49 (bz 45 255) HT_ ?_
          refine qB 8 50 (bz 45 511) HT_ ?_
          refine qB 9 51 (bz 45 1023) HT_ ?_
          refine qB 10 52 (bz 45 2047) HT_ ?_
          refine qB 11 53 (bz 45 4095) HT_ ?_
          refine qB 12 54 (bz 45 8191) HT_ ?_
          refine qB 13 55 (bz 45 16383) HT_ ?_
          refine qB 14 56 (bz 45 32767) HT_ ?_
          refine qA 15 57 (bz 45 65535) HT_ ?_
          refine qA 16 58 (bz 45 131071) HT_ ?_
          refine qB 17 59 (bz 45 262143) HT_ ?_
          refine qB 18 60 (bz 45 524287) HT_ ?_
          refine qB 19 61 (bz 45 1048575) HT_ ?_
          refine qB 20 62 (bz 45 2097151) HT_ ?_
          refine qB 21 63 (bz 45 4194303) HT_ ?_
          refine qB 22 64 (bz 45 8388607) HT_ ?_
          refine qB 23 65 (bz 45 16777215) HT_ ?_
          refine qA 24 66 (bz 45 33554431) HT_ ?_
          refine qA 25 67 (bz 45 67108863) HT_ ?_
          refine qB 26 68 (bz 45 134217727) HT_ ?_
          refine qB 27 69 (bz 45 268435455) HT_ ?_
          refine qB 28 70 (bz 45 536870911) HT_ ?_
          refine qB 29 71 (bz 45 1073741823) HT_ ?_
          refine qB 30 72 (bz 45 2147483647) HT_ ?_
          refine qB 31 73 (bz 45 4294967295) HT_ ?_
          refine qB 32 74 (bz 45 8589934591) HT_ ?_
          refine qB 33 75 (bz 45 17179869183) HT_ ?_
          refine qB 34 76 (bz 45 34359738367) HT_ ?_
          refine qB 35 77 (bz 45 68719476735) HT_ ?_
          refine qB 36 78 (bz 45 137438953471) HT_ ?_
          refine qB 37 79 (bz 45 274877906943) HT_ ?_
          refine qA 38 80 (bz 45 549755813887) HT_ ?_
          refine qA 39 81 (bz 45 1099511627775) HT_ ?_
          refine qB 40 82 (bz 45 2199023255551) HT_ ?_
          refine qB 41 83 (bz 45 4398046511103) HT_ ?_
          refine qB 42 84 (bz 45 8796093022207) HT_ ?_
          refine qB 43 85 (bz 45 17592186044415) HT_ ?_
          refine qA 44 86 (bz 45 35184372088831) HT_ ?_
          refine done_ (done_of HT_.out (by kernel_rfl)) ?_
          try go_wp2
          go_ret
          exact ⟨by first | rfl | (simp <;> rfl) | (simp [*] <;> rfl), kR1 HB⟩
        · rw [if_neg c16] at H
          exact absurd H (by simp)
       · rw [if_neg c15] at H
         exact absurd H (by simp)
      · rw [if_neg c14] at H
        have c14b0 : decide (x4_2 < (l0_1.length : Int)) = false := zS c14; clear c14; obtain rfl := Option.some.inj H
        go_wp2
        go_ret
        exact ⟨by first | rfl | (simp <;> rfl) | (simp [*] <;> rfl), kR1 HB⟩

end Go.Proofs.Ytgpkkplabnliiaa.PFnRanges
