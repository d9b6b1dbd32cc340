/- Each Go function here comes to what the plain function of its name says, where that says something. Made by a program of this session, over the print. -/
import Derived.Test.YtdiaebjbiddefaaPFnExactSelectedIndicesx0
import Derived.Test.YtdiaebjbiddefaaPFnExactSelectedIndicesx5
import Derived.Test.YtdiaebjbiddefaaPFnExactSelectedIndicesx6
namespace Go.Proofs.Ytdiaebjbiddefaa.PFnExactSelectedIndices
open Go.RowKit Go.Proofs.YtdiaebjbiddefaaW.PrintWords Go.Proofs.YtdiaebjbiddefaaW.PrintLast Go.Proofs.YtdiaebjbiddefaaW.PrintMore
attribute [local go_sem] max2_int min2_int max_two min_two max_three min_three max_four min_four   -- for this text's walks alone
set_option linter.unusedVariables false
set_option linter.unusedSimpArgs false

/-! ### spec_l06Indices: function 78 -/
mutual
def spec_l06Indices.l0 : Nat → List Int → List Int → Int → Option (List Int)
 | 0, _, _, _ => none
 | k + 1, x0, x5, x6 => (spec_l05Count.f k x0).bind fun t209 => (if x6 < t209 then (if x5.length < 17592186044416 then (spec_l06Indices.l0 k x0 (x5 ++ [x6]) (wrap64 (x6 + 1))) else (none)) else (some x5))
def spec_l06Indices.l1 : Nat → List Int → List Int → Int → Int → List Int → List Int → List Int → List Int → List (S110) → Option (List Int)
 | 0, _, _, _, _, _, _, _, _, _ => none
 | k + 1, x0, x5, x7, x206000, x206001, x206002, x206003, x206004, x206005 => if x7 < (x206005.length : Int) then (if 0 ≤ x7 then ((spec_l05Index.f k x0 ((rd_T110 x206005 x7).f0)).bind fun t214 => (if x5.length < 17592186044416 then (spec_l06Indices.l1 k x0 (x5 ++ [t214]) (wrap64 (x7 + 1)) x206000 x206001 x206002 x206003 x206004 x206005) else (none))) else (none)) else (some x5)
def spec_l06Indices.l2 : Nat → List Int → List Int → Int → Int → List Int → List Int → List Int → List Int → List (S110) → Option (List Int)
 | 0, _, _, _, _, _, _, _, _, _ => none
 | k + 1, x0, x5, x8, x206000, x206001, x206002, x206003, x206004, x206005 => if x8 < (x0.length : Int) then ((spec_l06Axis.f k x206000 x206001 x206002 x206003 x206004 x206005 x8).bind fun t221 => (spec_l06Indices.l3 k x0 x5 x8 t221 (([] : List Int)) 0 x206000 x206001 x206002 x206003 x206004 x206005)) else (some x5)
def spec_l06Indices.l3 : Nat → List Int → List Int → Int → List Int → List Int → Int → Int → List Int → List Int → List Int → List Int → List (S110) → Option (List Int)
 | 0, _, _, _, _, _, _, _, _, _, _, _, _ => none
 | k + 1, x0, x5, x8, x9, x10, x11, x206000, x206001, x206002, x206003, x206004, x206005 => if x11 < (x5.length : Int) then (spec_l06Indices.l4 k x0 x5 x8 x9 x10 x11 0 x206000 x206001 x206002 x206003 x206004 x206005) else (spec_l06Indices.l2 k x0 x10 (wrap64 (x8 + 1)) x206000 x206001 x206002 x206003 x206004 x206005)
def spec_l06Indices.l4 : Nat → List Int → List Int → Int → List Int → List Int → Int → Int → Int → List Int → List Int → List Int → List Int → List (S110) → Option (List Int)
 | 0, _, _, _, _, _, _, _, _, _, _, _, _, _ => none
 | k + 1, x0, x5, x8, x9, x10, x11, x12, x206000, x206001, x206002, x206003, x206004, x206005 => if x12 < (x9.length : Int) then (if 0 ≤ x11 then (if x11 < (x5.length : Int) then (if 0 ≤ x8 then (if x8 < (x0.length : Int) then (if 0 ≤ x12 then (if x10.length < 17592186044416 then (spec_l06Indices.l4 k x0 x5 x8 x9 (x10 ++ [wrap64 ((wrap64 ((rd x5 x11) * (rd x0 x8))) + (rd x9 x12))]) x11 (wrap64 (x12 + 1)) x206000 x206001 x206002 x206003 x206004 x206005) else (none)) else (none)) else (none)) else (none)) else (none)) else (none)) else (spec_l06Indices.l3 k x0 x5 x8 x9 x10 (wrap64 (x11 + 1)) x206000 x206001 x206002 x206003 x206004 x206005)
end
def spec_l06Indices.f (k : Nat) (l0 : List Int) (a1_0 : Int) (l1_1 : List Int) (l1_2 : List Int) (l1_3 : List Int) (l1_4 : List Int) (l1_5 : List (S110)) : Option (List Int) := (some (([] : List Int) : List Int)).bind fun y206 => (if a1_0 = 1 then (spec_l06Indices.l0 k l0 y206 0) else (if a1_0 = 4 then (spec_l06Indices.l1 k l0 y206 0 a1_0 l1_1 l1_2 l1_3 l1_4 l1_5) else (if a1_0 = 3 then (if y206.length < 17592186044416 then (spec_l06Indices.l2 k l0 (y206 ++ [0]) 0 a1_0 l1_1 l1_2 l1_3 l1_4 l1_5) else (none)) else (some y206))))
theorem spec_l06Indices.mono_l : ∀ k, (∀ y0 y1 y2, LeO (spec_l06Indices.l0 k y0 y1 y2) (spec_l06Indices.l0 (k + 1) y0 y1 y2)) ∧ (∀ y0 y1 y2 y3 y4 y5 y6 y7 y8, LeO (spec_l06Indices.l1 k y0 y1 y2 y3 y4 y5 y6 y7 y8) (spec_l06Indices.l1 (k + 1) y0 y1 y2 y3 y4 y5 y6 y7 y8)) ∧ (∀ y0 y1 y2 y3 y4 y5 y6 y7 y8, LeO (spec_l06Indices.l2 k y0 y1 y2 y3 y4 y5 y6 y7 y8) (spec_l06Indices.l2 (k + 1) y0 y1 y2 y3 y4 y5 y6 y7 y8)) ∧ (∀ y0 y1 y2 y3 y4 y5 y6 y7 y8 y9 y10 y11, LeO (spec_l06Indices.l3 k y0 y1 y2 y3 y4 y5 y6 y7 y8 y9 y10 y11) (spec_l06Indices.l3 (k + 1) y0 y1 y2 y3 y4 y5 y6 y7 y8 y9 y10 y11)) ∧ (∀ y0 y1 y2 y3 y4 y5 y6 y7 y8 y9 y10 y11 y12, LeO (spec_l06Indices.l4 k y0 y1 y2 y3 y4 y5 y6 y7 y8 y9 y10 y11 y12) (spec_l06Indices.l4 (k + 1) y0 y1 y2 y3 y4 y5 y6 y7 y8 y9 y10 y11 y12))
 | 0 => ⟨fun _ _ _ r h => by simp [spec_l06Indices.l0] at h, fun _ _ _ _ _ _ _ _ _ r h => by simp [spec_l06Indices.l1] at h, fun _ _ _ _ _ _ _ _ _ r h => by simp [spec_l06Indices.l2] at h, fun _ _ _ _ _ _ _ _ _ _ _ _ r h => by simp [spec_l06Indices.l3] at h, fun _ _ _ _ _ _ _ _ _ _ _ _ _ r h => by simp [spec_l06Indices.l4] at h⟩
 | k + 1 => by
  obtain ⟨ih0, ih1, ih2, ih3, ih4⟩ := spec_l06Indices.mono_l k
  refine ⟨?_, ?_, ?_, ?_, ?_⟩
  ·
   intro y0 y1 y2
   unfold spec_l06Indices.l0
   repeat' (with_reducible first | exact ih0 _ _ _ | exact ih1 _ _ _ _ _ _ _ _ _ | exact ih2 _ _ _ _ _ _ _ _ _ | exact ih3 _ _ _ _ _ _ _ _ _ _ _ _ | exact ih4 _ _ _ _ _ _ _ _ _ _ _ _ _ | exact spec_l05Count.mono _ _ | exact spec_l05Index.mono _ _ _ | exact spec_l06Axis.mono _ _ _ _ _ _ _ _ | exact LeO.refl _ | exact LeO.none _ | refine LeO.ite ?_ ?_ | refine LeO.bind ?_ (fun _ => ?_))
  ·
   intro y0 y1 y2 y3 y4 y5 y6 y7 y8
   unfold spec_l06Indices.l1
   repeat' (with_reducible first | exact ih0 _ _ _ | exact ih1 _ _ _ _ _ _ _ _ _ | exact ih2 _ _ _ _ _ _ _ _ _ | exact ih3 _ _ _ _ _ _ _ _ _ _ _ _ | exact ih4 _ _ _ _ _ _ _ _ _ _ _ _ _ | exact spec_l05Count.mono _ _ | exact spec_l05Index.mono _ _ _ | exact spec_l06Axis.mono _ _ _ _ _ _ _ _ | exact LeO.refl _ | exact LeO.none _ | refine LeO.ite ?_ ?_ | refine LeO.bind ?_ (fun _ => ?_))
  ·
   intro y0 y1 y2 y3 y4 y5 y6 y7 y8
   unfold spec_l06Indices.l2
   repeat' (with_reducible first | exact ih0 _ _ _ | exact ih1 _ _ _ _ _ _ _ _ _ | exact ih2 _ _ _ _ _ _ _ _ _ | exact ih3 _ _ _ _ _ _ _ _ _ _ _ _ | exact ih4 _ _ _ _ _ _ _ _ _ _ _ _ _ | exact spec_l05Count.mono _ _ | exact spec_l05Index.mono _ _ _ | exact spec_l06Axis.mono _ _ _ _ _ _ _ _ | exact LeO.refl _ | exact LeO.none _ | refine LeO.ite ?_ ?_ | refine LeO.bind ?_ (fun _ => ?_))
  ·
   intro y0 y1 y2 y3 y4 y5 y6 y7 y8 y9 y10 y11
   unfold spec_l06Indices.l3
   repeat' (with_reducible first | exact ih0 _ _ _ | exact ih1 _ _ _ _ _ _ _ _ _ | exact ih2 _ _ _ _ _ _ _ _ _ | exact ih3 _ _ _ _ _ _ _ _ _ _ _ _ | exact ih4 _ _ _ _ _ _ _ _ _ _ _ _ _ | exact spec_l05Count.mono _ _ | exact spec_l05Index.mono _ _ _ | exact spec_l06Axis.mono _ _ _ _ _ _ _ _ | exact LeO.refl _ | exact LeO.none _ | refine LeO.ite ?_ ?_ | refine LeO.bind ?_ (fun _ => ?_))
  ·
   intro y0 y1 y2 y3 y4 y5 y6 y7 y8 y9 y10 y11 y12
   unfold spec_l06Indices.l4
   repeat' (with_reducible first | exact ih0 _ _ _ | exact ih1 _ _ _ _ _ _ _ _ _ | exact ih2 _ _ _ _ _ _ _ _ _ | exact ih3 _ _ _ _ _ _ _ _ _ _ _ _ | exact ih4 _ _ _ _ _ _ _ _ _ _ _ _ _ | exact spec_l05Count.mono _ _ | exact spec_l05Index.mono _ _ _ | exact spec_l06Axis.mono _ _ _ _ _ _ _ _ | exact LeO.refl _ | exact LeO.none _ | refine LeO.ite ?_ ?_ | refine LeO.bind ?_ (fun _ => ?_))
theorem spec_l06Indices.mono : ∀ a0 a1 a2 a3 a4 a5 a6 k, LeO (spec_l06Indices.f k a0 a1 a2 a3 a4 a5 a6) (spec_l06Indices.f (k + 1) a0 a1 a2 a3 a4 a5 a6) := by
 intro a0 a1 a2 a3 a4 a5 a6 k
 obtain ⟨ih0, ih1, ih2, ih3, ih4⟩ := spec_l06Indices.mono_l k
 unfold spec_l06Indices.f
 repeat' (with_reducible first | exact ih0 _ _ _ | exact ih1 _ _ _ _ _ _ _ _ _ | exact ih2 _ _ _ _ _ _ _ _ _ | exact ih3 _ _ _ _ _ _ _ _ _ _ _ _ | exact ih4 _ _ _ _ _ _ _ _ _ _ _ _ _ | exact spec_l05Count.mono _ _ | exact spec_l05Index.mono _ _ _ | exact spec_l06Axis.mono _ _ _ _ _ _ _ _ | exact LeO.refl _ | exact LeO.none _ | refine LeO.ite ?_ ?_ | refine LeO.bind ?_ (fun _ => ?_))
def spec_l06Indices.T26 : Bool × List (List Nat × List Nat) := (true, [([], []), ([], []), ([], []), ([1, 2], [1, 2]), ([3], [3]), ([], []), ([], []), ([5, 6], [5, 6]), ([7], [7]), ([4, 8], [4, 8]), ([], []), ([], []), ([10, 11], [10, 11]), ([12], [12]), ([9, 13], [9, 13]), ([14], [14]), ([0, 15], [0, 15]), ([16, 16, 0, 1, 2, 3, 4, 5, 6, 7, 8, 9, 10, 11, 12, 13, 14, 15, 16], [0, 16])])
def spec_l06Indices.B26 : List Nat := [0, 0, 0, 6, 14, 0, 0, 96, 224, 510, 0, 0, 3072, 7168, 16382, 32766, 65535, 131071]
theorem spec_l06Indices.tab26 : rtab .any (opsOf Try.f78 26) = spec_l06Indices.T26 := by kernel_rfl
theorem spec_l06Indices.bits26 : waitsOk spec_l06Indices.T26.2 spec_l06Indices.B26 = true := by kernel_rfl
abbrev spec_l06Indices.Q_0 : Array Bool := (bz 18 0)
abbrev spec_l06Indices.Q_1 : Array Bool := (bz 18 1)
abbrev spec_l06Indices.Q_2 : Array Bool := (bz 18 3)
abbrev spec_l06Indices.Q_3 : Array Bool := (bz 18 7)
abbrev spec_l06Indices.Q_4 : Array Bool := (bz 18 15)
abbrev spec_l06Indices.Q_5 : Array Bool := (bz 18 47)
abbrev spec_l06Indices.Q_6 : Array Bool := (bz 18 111)
abbrev spec_l06Indices.Q_7 : Array Bool := (bz 18 239)
abbrev spec_l06Indices.Q_8 : Array Bool := (bz 18 1263)
abbrev spec_l06Indices.Q_9 : Array Bool := (bz 18 3311)
abbrev spec_l06Indices.Q_10 : Array Bool := (bz 18 7407)
abbrev spec_l06Indices.Q_11 : Array Bool := (bz 18 7423)
abbrev spec_l06Indices.Q_12 : Array Bool := (bz 18 7679)
abbrev spec_l06Indices.Q_13 : Array Bool := (bz 18 8191)
abbrev spec_l06Indices.Q_14 : Array Bool := (bz 18 16383)
abbrev spec_l06Indices.Q_15 : Array Bool := (bz 18 32767)
abbrev spec_l06Indices.Q_16 : Array Bool := (bz 18 65535)
abbrev spec_l06Indices.Q_17 : Array Bool := (bz 18 131071)
abbrev spec_l06Indices.Q_18 : Array Bool := (bz 18 262143)
set_option maxHeartbeats 8000000 in
set_option maxRecDepth 100000 in
theorem spec_l06Indices.calls (k : Nat) (A0 : Option Addr) (c0 : Nat) (l0 : List Int) (a1_0 : Int) (A1_1 : Option Addr) (c1_1 : Nat) (l1_1 : List Int) (A1_2 : Option Addr) (c1_2 : Nat) (l1_2 : List Int) (A1_3 : Option Addr) (c1_3 : Nat) (l1_3 : List Int) (A1_4 : Option Addr) (c1_4 : Nat) (l1_4 : List Int) (A1_5 : Option Addr) (c1_5 : Nat) (l1_5 : List (S110)) (r : List Int) (w : World) (hr0 : Kd.C (Kd.int .i64) w A0 l0.length l0) (hc0 : l0.length ≤ c0) (hr1_1 : Kd.C (Kd.int .i64) w A1_1 l1_1.length l1_1) (hc1_1 : l1_1.length ≤ c1_1) (hr1_2 : Kd.C (Kd.int .i64) w A1_2 l1_2.length l1_2) (hc1_2 : l1_2.length ≤ c1_2) (hr1_3 : Kd.C (Kd.int .i64) w A1_3 l1_3.length l1_3) (hc1_3 : l1_3.length ≤ c1_3) (hr1_4 : Kd.C (Kd.int .i64) w A1_4 l1_4.length l1_4) (hc1_4 : l1_4.length ≤ c1_4) (hr1_5 : Kd.C k110 w A1_5 l1_5.length l1_5) (hc1_5 : l1_5.length ≤ c1_5) (h : spec_l06Indices.f k l0 a1_0 l1_1 l1_2 l1_3 l1_4 l1_5 = some r) :
 Calls Try.prog 78 #[.slice A0 l0.length c0, .agg #[.int .i64 a1_0, .slice A1_1 l1_1.length c1_1, .slice A1_2 l1_2.length c1_2, .slice A1_3 l1_3.length c1_3, .slice A1_4 l1_4.length c1_4, .slice A1_5 l1_5.length c1_5]] w fun e w' => ∃ v0_ : Value, e = .returned (v0_) ∧ Kd.R (Kd.int .i64) 2 w' w.heap.size (fun _ => True) v0_ r ∧ Below w.heap.size w w' := by
 have hu55 := Try.underlying55
 have HR0 := yD hr0
 have HC0 := yD hc0
 clear hr0 hc0
 have HR1_1 := yD hr1_1
 have HC1_1 := yD hc1_1
 clear hr1_1 hc1_1
 have HR1_2 := yD hr1_2
 have HC1_2 := yD hc1_2
 clear hr1_2 hc1_2
 have HR1_3 := yD hr1_3
 have HC1_3 := yD hc1_3
 clear hr1_3 hc1_3
 have HR1_4 := yD hr1_4
 have HC1_4 := yD hc1_4
 clear hr1_4 hc1_4
 have HR1_5 := yD hr1_5
 have HC1_5 := yD hc1_5
 clear hr1_5 hc1_5
 have HB := yD (Below.refl w.heap.size w)
 have H : ((some (([] : List Int) : List Int)).bind fun y206 => (if a1_0 = 1 then (spec_l06Indices.l0 k l0 y206 0) else (if a1_0 = 4 then (spec_l06Indices.l1 k l0 y206 0 a1_0 l1_1 l1_2 l1_3 l1_4 l1_5) else (if a1_0 = 3 then (if y206.length < 17592186044416 then (spec_l06Indices.l2 k l0 (y206 ++ [0]) 0 a1_0 l1_1 l1_2 l1_3 l1_4 l1_5) else (none)) else (some y206))))) = some r := h
 clear h
 obtain ⟨y206, hy206⟩ : ∃ y_ : List Int, y_ = (([] : List Int)) := ⟨_, rfl⟩
 replace H : (if a1_0 = 1 then (spec_l06Indices.l0 k l0 y206 0) else (if a1_0 = 4 then (spec_l06Indices.l1 k l0 y206 0 a1_0 l1_1 l1_2 l1_3 l1_4 l1_5) else (if a1_0 = 3 then (if y206.length < 17592186044416 then (spec_l06Indices.l2 k l0 (y206 ++ [0]) 0 a1_0 l1_1 l1_2 l1_3 l1_4 l1_5) else (none)) else (some y206)))) = some r := by first | (rw [hy206]; with_reducible exact H) | (have H2_ := (Option.bind_some _ _).symm.trans H; rw [hy206]; with_reducible exact H2_) | (have H2_ := (Option.bind_some _ _).symm.trans H; with_reducible exact H2_) | with_reducible exact H | (rw [hy206]; exact H) | exact H
 have Ny206 := yD hy206
 clear hy206
 by_cases c3 : a1_0 = 1
 ·
  rw [if_pos c3] at H
  have c3b0 : (a1_0 == 1) = true := beq_iff_eq.mpr c3
  have c3b1 : (a1_0 != 1) = false := bne_eq_false_iff_eq.mpr c3
  clear c3
  have H' := yD H
  clear H; go_enter Try.func78, Try.ntmps78
  go_wp2_with (first | ((with_reducible refine gate_dst (N := 3) rfl ?_); refine box_event ?hg (N := 3) ?hd (cs := #[.int .i64 a1_0, .slice A1_1 l1_1.length c1_1, .slice A1_2 l1_2.length c1_2, .slice A1_3 l1_3.length c1_3, .slice A1_4 l1_4.length c1_4, .slice A1_5 l1_5.length c1_5]) (t := 55) ?hr ?_; (case hd => rfl); (case hg => rfl); (case hr => first | (go_simp; done) | (go_simp; rfl)); intro gb205 hg w4 hbox hb; have n0_ := yD (zC (kB HB) hb); have n1_ := yD (hbox); have n2_ := yD ((by rw [hg]; exact (below_size (kB HB)) : w.heap.size ≤ gb205)); have n3_ := yD ((by rw [hg]; exact (below_size (kB HB)) : w.heap.size ≤ gb205)); clear HB; have HB := n0_; have BK205 := n1_; have GW205 := n2_; have GE205 := n3_; clear n0_ n1_ n2_ n3_; clear hb hbox hg) | ((with_reducible refine gate_dst (N := 13) rfl ?_); refine Kd.R_lit (Kd.int .i64) _ 2 ?hg (N := 13) ?hd (xs := ([] : List Int)) (inner := []) (ok := fun _ => True) (okp := fun _ => True) ?hr ?hp (fun _ hk => hk) trivial (Below.refl _ _) (Nat.le_refl _) (by simp) ?_; (case hd => rfl); (case hg => rfl); (case hr => first | (go_simp; done) | (go_simp; rfl)); (case hp => exact (Reps.none _ _)); intro v207 w5 ho6 hb hg_ hnew_; clear hg_ hnew_; (first | rw [← Ny206.out] at ho6 | (simp only [Int.reduceToNat] at ho6; rw [← Ny206.out] at ho6)); have n0_ := yD (yZ ho6 (below_size (kB HB))); have n1_ := yD (zB (kN BK205) hb); have n2_ := yD (zC (kB HB) hb); clear BK205; clear HB; have HO208 := n0_; have BK205 := n1_; have HB := n2_; clear n0_ n1_ n2_; clear hb ho6; obtain ⟨hcz7_0, hcz7_1, hcz7_2, hcz7_3, hcz7_4, hcz7_5⟩ := cz6 BK205.out; obtain ⟨hfz7_0, hfz7_1, hfz7_2, hfz7_3, hfz7_4, hfz7_5⟩ := fz6 BK205.out))
  (try simp only [Act.put, zH, zI, zJ])
  go_loopg [5, 6] k (fun kq v5 v6 w' => ∃ (x5_1 : List Int) (x6_1 : Int), v6 = .int .i64 x6_1 ∧ Aside0 (spec_l06Indices.l0 kq l0 x5_1 x6_1 = some r) ∧ Aside0 (kq ≤ k) ∧ Aside0 (Kd.R (Kd.int .i64) 2 w' w.heap.size (fun _ => True) v5 x5_1) ∧ Aside0 (w'.heap[gb205]? = some (.cells #[.int .i64 a1_0, (.slice A1_1 l1_1.length c1_1), (.slice A1_2 l1_2.length c1_2), (.slice A1_3 l1_3.length c1_3), (.slice A1_4 l1_4.length c1_4), (.slice A1_5 l1_5.length c1_5)] 55 (0, 0))) ∧ Aside0 (Below w.heap.size w w'))
  case atStart => exact ⟨(y206), (0), (by first | rfl | (simp; done) | (simp [*]; done)), H', ⟨Nat.le_refl _⟩, ⟨by (with_reducible repeat (first | apply yA | apply yB | apply yC)); exact HO208.out⟩, ⟨by (with_reducible repeat (first | refine yM ?_ _ | refine yO ?_ | refine yN ?_ _)); exact BK205.out⟩, ⟨kR0 HB⟩⟩
  case round =>
   clear H'
   try clear c1; try clear p2; try clear c3; try clear c3b0; try clear c3b1; try clear c7; try clear hcz7_0; try clear hcz7_1; try clear hcz7_2; try clear hcz7_3; try clear hcz7_4; try clear hcz7_5; try clear hfz7_0; try clear hfz7_1; try clear hfz7_2; try clear hfz7_3; try clear hfz7_4; try clear hfz7_5
   obtain ⟨x5_1, x6_1, rfl, HA, HK1, HO_5, BK205, HB⟩ := hrel
   cases gk with
   | zero => exact absurd HA.out (by simp [spec_l06Indices.l0])
   | succ k1 =>
    have H := HA.out; clear HA
    simp only [spec_l06Indices.l0] at H
    obtain ⟨t209, A80, H⟩ := zW_ H
    replace H : (if x6_1 < t209 then (if x5_1.length < 17592186044416 then (spec_l06Indices.l0 k1 l0 (x5_1 ++ [x6_1]) (wrap64 (x6_1 + 1))) else (none)) else (some x5_1)) = some r := H
    have A8 := yD A80
    clear A80
    by_cases c9 : x6_1 < t209
    ·
     rw [if_pos c9] at H; have c9b0 : decide (x6_1 < t209) = true := zR c9; clear c9
     by_cases c10 : x5_1.length < 17592186044416
     ·
      rw [if_pos c10] at H
      have LMc10 := yD c10
      clear c10
      obtain ⟨y210, hy210⟩ : ∃ y_ : List Int, y_ = (x5_1 ++ [x6_1]) := ⟨_, rfl⟩
      replace H : (spec_l06Indices.l0 k1 l0 y210 (wrap64 (x6_1 + 1))) = some r := by first | (rw [hy210]; with_reducible exact H) | (have H2_ := (Option.bind_some _ _).symm.trans H; rw [hy210]; with_reducible exact H2_) | (have H2_ := (Option.bind_some _ _).symm.trans H; with_reducible exact H2_) | with_reducible exact H | (rw [hy210]; exact H) | exact H
      have Ny210 := yD hy210
      clear hy210
      have H' := yD H
      clear H
      go_wp2_with (first | ((with_reducible refine gate_callee (f := 91) rfl ?_); refine gL 20 Try.func91 #[.slice A0 l0.length c0] ?_; (with_reducible refine (spec_l05Count.calls k1 _ _ l0 t209 _ ?side1 ?side2 A8.out).mono ?_); (case side1 => exact kV (yY HR0.out HB.out)); (case side2 => exact HC0.out); rintro e w' ⟨rfl, ⟨nd, rfl⟩⟩; refine ⟨_, rfl, ?_⟩) | ((with_reducible refine gate_builtin (b := .append) (xs := #[.tmp 24, .tmp 26]) rfl ?_); at_builtin; refine Kd.R_append (Kd.int .i64) (w0 := w) w.heap.size rfl (.tmp 24) (.tmp 26) 36 2 (.int .i64 0) 8 rfl Try.underlying36 info2 rfl (by decide) (by omega) u5 x5_1 x6_1 [.int .i64 x6_1] (fun _ => True) (fun _ => False) rfl rfl ?aP (fun _ hk => hk.elim) ?aF ?aO ?aB ?aS ?aL ?_; (case aP => exact rfl); (case aB => exact (kB HB)); (case aF => exact (fun _ _ => trivial)); (case aO => exact (kA HO_5)); (case aS => exact (below_size (kB HB))); (case aL => have := LMc10.out; omega); intro v211 w11 ho hb hg hat; rw [← Ny210.out] at ho; have n0_ := yD (blk_grown (g := gb205) (o := .cells #[.int .i64 a1_0, .slice A1_1 l1_1.length c1_1, .slice A1_2 l1_2.length c1_2, .slice A1_3 l1_3.length c1_3, .slice A1_4 l1_4.length c1_4, .slice A1_5 l1_5.length c1_5] 55 (0, 0)) (kM BK205) hg (Kd.R_ne HO_5.out BK205.out (by decide))); have n1_ := yD (hb); have n2_ := yD (ho); clear BK205; clear HB; clear HO_5; have BK205 := n0_; have HB := n1_; have HO212 := n2_; clear n0_ n1_ n2_; clear ho hb hg hat))
      go_roundg k1
      case measure => have := HK1.out; omega
      case rel => exact ⟨(y210), (wrap64 (x6_1 + 1)), (by first | rfl | (simp; done) | (simp [*]; done)), H', ⟨by have := HK1.out; omega⟩, ⟨by (with_reducible repeat (first | apply yA | apply yB | apply yC)); exact HO212.out⟩, ⟨by (with_reducible repeat (first | refine yM ?_ _ | refine yO ?_ | refine yN ?_ _)); exact BK205.out⟩, ⟨kR0 HB⟩⟩
     ·
      rw [if_neg c10] at H
      exact absurd H (by simp)
    ·
     rw [if_neg c9] at H; have c9b0 : decide (x6_1 < t209) = false := zS c9; clear c9; obtain rfl := Option.some.inj H
     go_wp2_with (first | ((with_reducible refine gate_callee (f := 91) rfl ?_); refine gL 20 Try.func91 #[.slice A0 l0.length c0] ?_; (with_reducible refine (spec_l05Count.calls k1 _ _ l0 t209 _ ?side1 ?side2 A8.out).mono ?_); (case side1 => exact kV (yY HR0.out HB.out)); (case side2 => exact HC0.out); rintro e w' ⟨rfl, ⟨nd, rfl⟩⟩; refine ⟨_, rfl, ?_⟩))
     go_ret
     exact ⟨_, by first | rfl | (simp <;> rfl) | (simp [*] <;> rfl), by (with_reducible repeat (first | apply yA | apply yB | apply yC)); exact HO_5.out, kR0 HB⟩
 ·
  rw [if_neg c3] at H
  have c3b0 : (a1_0 == 1) = false := beq_eq_false_iff_ne.mpr c3
  have c3b1 : (a1_0 != 1) = true := bne_iff_ne.mpr c3
  by_cases c12 : a1_0 = 4
  ·
   rw [if_pos c12] at H
   have c12b0 : (a1_0 == 4) = true := beq_iff_eq.mpr c12
   have c12b1 : (a1_0 != 4) = false := bne_eq_false_iff_eq.mpr c12
   clear c12
   have H' := yD H
   clear H; go_enter Try.func78, Try.ntmps78
   go_wp2_with (first | ((with_reducible refine gate_dst (N := 3) rfl ?_); refine box_event ?hg (N := 3) ?hd (cs := #[.int .i64 a1_0, .slice A1_1 l1_1.length c1_1, .slice A1_2 l1_2.length c1_2, .slice A1_3 l1_3.length c1_3, .slice A1_4 l1_4.length c1_4, .slice A1_5 l1_5.length c1_5]) (t := 55) ?hr ?_; (case hd => rfl); (case hg => rfl); (case hr => first | (go_simp; done) | (go_simp; rfl)); intro gb205 hg w13 hbox hb; have n0_ := yD (zC (kB HB) hb); have n1_ := yD (hbox); have n2_ := yD ((by rw [hg]; exact (below_size (kB HB)) : w.heap.size ≤ gb205)); have n3_ := yD ((by rw [hg]; exact (below_size (kB HB)) : w.heap.size ≤ gb205)); clear HB; have HB := n0_; have BK205 := n1_; have GW205 := n2_; have GE205 := n3_; clear n0_ n1_ n2_ n3_; clear hb hbox hg) | ((with_reducible refine gate_dst (N := 13) rfl ?_); refine Kd.R_lit (Kd.int .i64) _ 2 ?hg (N := 13) ?hd (xs := ([] : List Int)) (inner := []) (ok := fun _ => True) (okp := fun _ => True) ?hr ?hp (fun _ hk => hk) trivial (Below.refl _ _) (Nat.le_refl _) (by simp) ?_; (case hd => rfl); (case hg => rfl); (case hr => first | (go_simp; done) | (go_simp; rfl)); (case hp => exact (Reps.none _ _)); intro v207 w14 ho15 hb hg_ hnew_; clear hg_ hnew_; (first | rw [← Ny206.out] at ho15 | (simp only [Int.reduceToNat] at ho15; rw [← Ny206.out] at ho15)); have n0_ := yD (yZ ho15 (below_size (kB HB))); have n1_ := yD (zB (kN BK205) hb); have n2_ := yD (zC (kB HB) hb); clear BK205; clear HB; have HO208 := n0_; have BK205 := n1_; have HB := n2_; clear n0_ n1_ n2_; clear hb ho15; obtain ⟨hcz16_0, hcz16_1, hcz16_2, hcz16_3, hcz16_4, hcz16_5⟩ := cz6 BK205.out; obtain ⟨hfz16_0, hfz16_1, hfz16_2, hfz16_3, hfz16_4, hfz16_5⟩ := fz6 BK205.out))
   (try simp only [Act.put, zH, zI, zJ])
   go_loopg [5, 7] k (fun kq v5 v7 w' => ∃ (x5_1 : List Int) (x7_1 : Int), v7 = .int .i64 x7_1 ∧ Aside0 (spec_l06Indices.l1 kq l0 x5_1 x7_1 a1_0 l1_1 l1_2 l1_3 l1_4 l1_5 = some r) ∧ Aside0 (kq ≤ k) ∧ Aside0 (Kd.R (Kd.int .i64) 2 w' w.heap.size (fun _ => True) v5 x5_1) ∧ Aside0 (w'.heap[gb205]? = some (.cells #[.int .i64 a1_0, (.slice A1_1 l1_1.length c1_1), (.slice A1_2 l1_2.length c1_2), (.slice A1_3 l1_3.length c1_3), (.slice A1_4 l1_4.length c1_4), (.slice A1_5 l1_5.length c1_5)] 55 (0, 0))) ∧ Aside0 (Below w.heap.size w w'))
   case atStart => exact ⟨(y206), (0), (by first | rfl | (simp; done) | (simp [*]; done)), H', ⟨Nat.le_refl _⟩, ⟨by (with_reducible repeat (first | apply yA | apply yB | apply yC)); exact HO208.out⟩, ⟨by (with_reducible repeat (first | refine yM ?_ _ | refine yO ?_ | refine yN ?_ _)); exact BK205.out⟩, ⟨kR0 HB⟩⟩
   case round =>
    clear H'
    try clear c1; try clear p2; try clear c3; try clear c3b0; try clear c3b1; try clear p6; try clear c7; try clear c9; try clear c9b0; try clear c10; try clear c12; try clear c12b0; try clear c12b1; try clear hcz16_0; try clear hcz16_1; try clear hcz16_2; try clear hcz16_3; try clear hcz16_4; try clear hcz16_5; try clear hcz7_0; try clear hcz7_1; try clear hcz7_2; try clear hcz7_3; try clear hcz7_4; try clear hcz7_5; try clear hfz16_0; try clear hfz16_1; try clear hfz16_2; try clear hfz16_3; try clear hfz16_4; try clear hfz16_5; try clear hfz7_0; try clear hfz7_1; try clear hfz7_2; try clear hfz7_3; try clear hfz7_4; try clear hfz7_5; try clear p2
    obtain ⟨x5_1, x7_1, rfl, HA, HK1, HO_5, BK205, HB⟩ := hrel
    cases gk with
    | zero => exact absurd HA.out (by simp [spec_l06Indices.l1])
    | succ k1 =>
     have H := HA.out; clear HA
     simp only [spec_l06Indices.l1] at H
     by_cases c17 : x7_1 < (l1_5.length : Int)
     ·
      rw [if_pos c17] at H; have c17b0 : decide (x7_1 < (l1_5.length : Int)) = true := zR c17; clear c17
      by_cases c18 : 0 ≤ x7_1
      ·
       rw [if_pos c18] at H; have c18b0 : decide (0 ≤ x7_1) = true := zR c18; clear c18
       obtain ⟨t214, A190, H⟩ := zW_ H
       replace H : (if x5_1.length < 17592186044416 then (spec_l06Indices.l1 k1 l0 (x5_1 ++ [t214]) (wrap64 (x7_1 + 1)) a1_0 l1_1 l1_2 l1_3 l1_4 l1_5) else (none)) = some r := H
       have A19 := yD A190
       clear A190
       by_cases c20 : x5_1.length < 17592186044416
       ·
        rw [if_pos c20] at H
        have LMc20 := yD c20
        clear c20
        obtain ⟨y215, hy215⟩ : ∃ y_ : List Int, y_ = (x5_1 ++ [t214]) := ⟨_, rfl⟩
        replace H : (spec_l06Indices.l1 k1 l0 y215 (wrap64 (x7_1 + 1)) a1_0 l1_1 l1_2 l1_3 l1_4 l1_5) = some r := by first | (rw [hy215]; with_reducible exact H) | (have H2_ := (Option.bind_some _ _).symm.trans H; rw [hy215]; with_reducible exact H2_) | (have H2_ := (Option.bind_some _ _).symm.trans H; with_reducible exact H2_) | with_reducible exact H | (rw [hy215]; exact H) | exact H
        have Ny215 := yD hy215
        clear hy215
        have H' := yD H
        clear H
        obtain ⟨hcz21_0, hcz21_1, hcz21_2, hcz21_3, hcz21_4, hcz21_5⟩ := cz6 BK205.out
        obtain ⟨hfz21_0, hfz21_1, hfz21_2, hfz21_3, hfz21_4, hfz21_5⟩ := fz6 BK205.out
        have p213 : 0 ≤ (x7_1 : Int) := zP (by assumption)
        have q213 : x7_1 < (l1_5.length : Int) := zP (by assumption)
        obtain ⟨ad213, A213_0, c213_0, e213, hx213_0, hl213_0, hi213_0⟩ := at_T110 HR1_5.out x7_1 p213 q213
        cases e213
        replace hx213_0 := (HB.out.cell (zQ w _ hx213_0)).trans hx213_0
        have HR213_0 := yD hi213_0
        have HC213_0 := yD hl213_0
        clear hi213_0 hl213_0; replace p213 := eq_true p213; replace q213 := eq_true q213
        go_wp2_with (first | ((with_reducible refine gate_callee (f := 96) rfl ?_); refine gL 45 Try.func96 #[.slice A0 l0.length c0, .slice A213_0 ((rd_T110 l1_5 x7_1).f0).length c213_0] ?_; (with_reducible refine (spec_l05Index.calls k1 _ _ l0 _ _ ((rd_T110 l1_5 x7_1).f0) t214 _ ?side1 ?side2 ?side3 ?side4 A19.out).mono ?_); (case side1 => exact kV (yY HR0.out HB.out)); (case side2 => exact HC0.out); (case side3 => exact kV (yY HR213_0.out HB.out)); (case side4 => exact HC213_0.out); rintro e w' ⟨rfl, ⟨nd, rfl⟩⟩; refine ⟨_, rfl, ?_⟩) | ((with_reducible refine gate_builtin (b := .append) (xs := #[.tmp 37, .tmp 46]) rfl ?_); at_builtin; refine Kd.R_append (Kd.int .i64) (w0 := w) w.heap.size rfl (.tmp 37) (.tmp 46) 36 2 (.int .i64 0) 8 rfl Try.underlying36 info2 rfl (by decide) (by omega) u5 x5_1 t214 [.int .i64 t214] (fun _ => True) (fun _ => False) rfl rfl ?aP (fun _ hk => hk.elim) ?aF ?aO ?aB ?aS ?aL ?_; (case aP => exact rfl); (case aB => exact (kB HB)); (case aF => exact (fun _ _ => trivial)); (case aO => exact (kA HO_5)); (case aS => exact (below_size (kB HB))); (case aL => have := LMc20.out; omega); intro v216 w22 ho hb hg hat; rw [← Ny215.out] at ho; have n0_ := yD (blk_grown (g := gb205) (o := .cells #[.int .i64 a1_0, .slice A1_1 l1_1.length c1_1, .slice A1_2 l1_2.length c1_2, .slice A1_3 l1_3.length c1_3, .slice A1_4 l1_4.length c1_4, .slice (some ad213) l1_5.length c1_5] 55 (0, 0)) (kM BK205) hg (Kd.R_ne HO_5.out BK205.out (by decide))); have n1_ := yD (hb); have n2_ := yD (ho); clear BK205; clear HB; clear HO_5; have BK205 := n0_; have HB := n1_; have HO217 := n2_; clear n0_ n1_ n2_; clear ho hb hg hat))
        go_roundg k1
        case measure => have := HK1.out; omega
        case rel => exact ⟨(y215), (wrap64 (x7_1 + 1)), (by first | rfl | (simp; done) | (simp [*]; done)), H', ⟨by have := HK1.out; omega⟩, ⟨by (with_reducible repeat (first | apply yA | apply yB | apply yC)); exact HO217.out⟩, ⟨by (with_reducible repeat (first | refine yM ?_ _ | refine yO ?_ | refine yN ?_ _)); exact BK205.out⟩, ⟨kR0 HB⟩⟩
       ·
        rw [if_neg c20] at H
        exact absurd H (by simp)
      ·
       rw [if_neg c18] at H
       exact absurd H (by simp)
     ·
      rw [if_neg c17] at H; have c17b0 : decide (x7_1 < (l1_5.length : Int)) = false := zS c17; clear c17; obtain rfl := Option.some.inj H
      obtain ⟨hcz23_0, hcz23_1, hcz23_2, hcz23_3, hcz23_4, hcz23_5⟩ := cz6 BK205.out
      obtain ⟨hfz23_0, hfz23_1, hfz23_2, hfz23_3, hfz23_4, hfz23_5⟩ := fz6 BK205.out
      go_wp2
      go_ret
      exact ⟨_, by first | rfl | (simp <;> rfl) | (simp [*] <;> rfl), by (with_reducible repeat (first | apply yA | apply yB | apply yC)); exact HO_5.out, kR0 HB⟩
  ·
   rw [if_neg c12] at H
   have c12b0 : (a1_0 == 4) = false := beq_eq_false_iff_ne.mpr c12
   have c12b1 : (a1_0 != 4) = true := bne_iff_ne.mpr c12
   by_cases c24 : a1_0 = 3
   ·
    rw [if_pos c24] at H
    have c24b0 : (a1_0 == 3) = true := beq_iff_eq.mpr c24
    have c24b1 : (a1_0 != 3) = false := bne_eq_false_iff_eq.mpr c24
    clear c24
    by_cases c25 : y206.length < 17592186044416
    ·
     rw [if_pos c25] at H
     have LMc25 := yD c25
     clear c25
     obtain ⟨y218, hy218⟩ : ∃ y_ : List Int, y_ = (y206 ++ [0]) := ⟨_, rfl⟩
     replace H : (spec_l06Indices.l2 k l0 y218 0 a1_0 l1_1 l1_2 l1_3 l1_4 l1_5) = some r := by first | (rw [hy218]; with_reducible exact H) | (have H2_ := (Option.bind_some _ _).symm.trans H; rw [hy218]; with_reducible exact H2_) | (have H2_ := (Option.bind_some _ _).symm.trans H; with_reducible exact H2_) | with_reducible exact H | (rw [hy218]; exact H) | exact H
     have Ny218 := yD hy218
     clear hy218
     have H' := yD H
     clear H; go_enter Try.func78, Try.ntmps78
     go_wp2_with (first | ((with_reducible refine gate_dst (N := 3) rfl ?_); refine box_event ?hg (N := 3) ?hd (cs := #[.int .i64 a1_0, .slice A1_1 l1_1.length c1_1, .slice A1_2 l1_2.length c1_2, .slice A1_3 l1_3.length c1_3, .slice A1_4 l1_4.length c1_4, .slice A1_5 l1_5.length c1_5]) (t := 55) ?hr ?_; (case hd => rfl); (case hg => rfl); (case hr => first | (go_simp; done) | (go_simp; rfl)); intro gb205 hg w26 hbox hb; have n0_ := yD (zC (kB HB) hb); have n1_ := yD (hbox); have n2_ := yD ((by rw [hg]; exact (below_size (kB HB)) : w.heap.size ≤ gb205)); have n3_ := yD ((by rw [hg]; exact (below_size (kB HB)) : w.heap.size ≤ gb205)); clear HB; have HB := n0_; have BK205 := n1_; have GW205 := n2_; have GE205 := n3_; clear n0_ n1_ n2_ n3_; clear hb hbox hg) | ((with_reducible refine gate_dst (N := 13) rfl ?_); refine Kd.R_lit (Kd.int .i64) _ 2 ?hg (N := 13) ?hd (xs := ([] : List Int)) (inner := []) (ok := fun _ => True) (okp := fun _ => True) ?hr ?hp (fun _ hk => hk) trivial (Below.refl _ _) (Nat.le_refl _) (by simp) ?_; (case hd => rfl); (case hg => rfl); (case hr => first | (go_simp; done) | (go_simp; rfl)); (case hp => exact (Reps.none _ _)); intro v207 w27 ho28 hb hg_ hnew_; clear hg_ hnew_; (first | rw [← Ny206.out] at ho28 | (simp only [Int.reduceToNat] at ho28; rw [← Ny206.out] at ho28)); have n0_ := yD (yZ ho28 (below_size (kB HB))); have n1_ := yD (zB (kN BK205) hb); have n2_ := yD (zC (kB HB) hb); clear BK205; clear HB; have HO208 := n0_; have BK205 := n1_; have HB := n2_; clear n0_ n1_ n2_; clear hb ho28; obtain ⟨hcz29_0, hcz29_1, hcz29_2, hcz29_3, hcz29_4, hcz29_5⟩ := cz6 BK205.out; obtain ⟨hfz29_0, hfz29_1, hfz29_2, hfz29_3, hfz29_4, hfz29_5⟩ := fz6 BK205.out) | ((with_reducible refine gate_builtin (b := .append) (xs := #[.tmp 50, .tmp 51]) rfl ?_); at_builtin; refine Kd.R_append (Kd.int .i64) (w0 := w) w.heap.size rfl (.tmp 50) (.tmp 51) 36 2 (.int .i64 0) 8 rfl Try.underlying36 info2 rfl (by decide) (by omega) v207 y206 0 [.int .i64 0] (fun _ => True) (fun _ => False) rfl rfl ?aP (fun _ hk => hk.elim) ?aF ?aO ?aB ?aS ?aL ?_; (case aP => exact rfl); (case aB => exact (kB HB)); (case aF => exact (fun _ _ => trivial)); (case aO => exact (kA HO208)); (case aS => exact (below_size (kB HB))); (case aL => have := LMc25.out; omega); intro v219 w30 ho hb hg hat; rw [← Ny218.out] at ho; have n0_ := yD (blk_grown (g := gb205) (o := .cells #[.int .i64 a1_0, .slice A1_1 l1_1.length c1_1, .slice A1_2 l1_2.length c1_2, .slice A1_3 l1_3.length c1_3, .slice A1_4 l1_4.length c1_4, .slice A1_5 l1_5.length c1_5] 55 (0, 0)) (kM BK205) hg (Kd.R_ne HO208.out BK205.out (by decide))); have n1_ := yD (hb); have n2_ := yD (ho); clear BK205; clear HB; clear HO208; have BK205 := n0_; have HB := n1_; have HO220 := n2_; clear n0_ n1_ n2_; clear ho hb hg hat))
     (try simp only [Act.put, zH, zI, zJ])
     go_loopg [5, 8] k (fun kq v5 v8 w' => ∃ (x5_1 : List Int) (x8_1 : Int), v8 = .int .i64 x8_1 ∧ Aside0 (spec_l06Indices.l2 kq l0 x5_1 x8_1 a1_0 l1_1 l1_2 l1_3 l1_4 l1_5 = some r) ∧ Aside0 (kq ≤ k) ∧ Aside0 (Kd.R (Kd.int .i64) 2 w' w.heap.size (fun _ => True) v5 x5_1) ∧ Aside0 (w'.heap[gb205]? = some (.cells #[.int .i64 a1_0, (.slice A1_1 l1_1.length c1_1), (.slice A1_2 l1_2.length c1_2), (.slice A1_3 l1_3.length c1_3), (.slice A1_4 l1_4.length c1_4), (.slice A1_5 l1_5.length c1_5)] 55 (0, 0))) ∧ Aside0 (Below w.heap.size w w'))
     case atStart => exact ⟨(y218), (0), (by first | rfl | (simp; done) | (simp [*]; done)), H', ⟨Nat.le_refl _⟩, ⟨by (with_reducible repeat (first | apply yA | apply yB | apply yC)); exact HO220.out⟩, ⟨by (with_reducible repeat (first | refine yM ?_ _ | refine yO ?_ | refine yN ?_ _)); exact BK205.out⟩, ⟨kR0 HB⟩⟩
     case round =>
      clear H'
      try clear c1; try clear c2; try clear p2; try clear q2; try clear hx2; try clear c3; try clear c3b0; try clear c3b1; try clear p6; try clear c7; try clear c9; try clear c9b0; try clear c10; try clear c12; try clear c12b0; try clear c12b1; try clear c17; try clear c17b0; try clear c18; try clear c18b0; try clear c20; try clear c21; try clear p21; try clear q21; try clear hx21; try clear c24; try clear c24b0; try clear c24b1; try clear c25; try clear hcz16_0; try clear hcz16_1; try clear hcz16_2; try clear hcz16_3; try clear hcz16_4; try clear hcz16_5; try clear hcz21_0; try clear hcz21_1; try clear hcz21_2; try clear hcz21_3; try clear hcz21_4; try clear hcz21_5; try clear hcz23_0; try clear hcz23_1; try clear hcz23_2; try clear hcz23_3; try clear hcz23_4; try clear hcz23_5; try clear hcz29_0; try clear hcz29_1; try clear hcz29_2; try clear hcz29_3; try clear hcz29_4; try clear hcz29_5; try clear hcz7_0; try clear hcz7_1; try clear hcz7_2; try clear hcz7_3; try clear hcz7_4; try clear hcz7_5; try clear hfz16_0; try clear hfz16_1; try clear hfz16_2; try clear hfz16_3; try clear hfz16_4; try clear hfz16_5; try clear hfz21_0; try clear hfz21_1; try clear hfz21_2; try clear hfz21_3; try clear hfz21_4; try clear hfz21_5; try clear hfz23_0; try clear hfz23_1; try clear hfz23_2; try clear hfz23_3; try clear hfz23_4; try clear hfz23_5; try clear hfz29_0; try clear hfz29_1; try clear hfz29_2; try clear hfz29_3; try clear hfz29_4; try clear hfz29_5; try clear hfz7_0; try clear hfz7_1; try clear hfz7_2; try clear hfz7_3; try clear hfz7_4; try clear hfz7_5; try clear hx213_0; try clear p2; try clear p213; try clear p6; try clear q213
      obtain ⟨x5_1, x8_1, rfl, HA, HK1, HO_5, BK205, HB⟩ := hrel
      cases gk with
      | zero => exact absurd HA.out (by simp [spec_l06Indices.l2])
      | succ k1 =>
       have H := HA.out; clear HA
       simp only [spec_l06Indices.l2] at H
       by_cases c31 : x8_1 < (l0.length : Int)
       ·
        rw [if_pos c31] at H; have c31b0 : decide (x8_1 < (l0.length : Int)) = true := zR c31; clear c31
        obtain ⟨t221, A320, H⟩ := zW_ H
        replace H : (spec_l06Indices.l3 k1 l0 x5_1 x8_1 t221 (([] : List Int)) 0 a1_0 l1_1 l1_2 l1_3 l1_4 l1_5) = some r := H
        have A32 := yD A320
        clear A320
        obtain ⟨y224, hy224⟩ : ∃ y_ : List Int, y_ = (([] : List Int)) := ⟨_, rfl⟩
        replace H : (spec_l06Indices.l3 k1 l0 x5_1 x8_1 t221 y224 0 a1_0 l1_1 l1_2 l1_3 l1_4 l1_5) = some r := by first | (rw [hy224]; with_reducible exact H) | (have H2_ := (Option.bind_some _ _).symm.trans H; rw [hy224]; with_reducible exact H2_) | (have H2_ := (Option.bind_some _ _).symm.trans H; with_reducible exact H2_) | with_reducible exact H | (rw [hy224]; exact H) | exact H
        have Ny224 := yD hy224
        clear hy224
        have H' := yD H
        clear H
        obtain ⟨hcz33_0, hcz33_1, hcz33_2, hcz33_3, hcz33_4, hcz33_5⟩ := cz6 BK205.out
        obtain ⟨hfz33_0, hfz33_1, hfz33_2, hfz33_3, hfz33_4, hfz33_5⟩ := fz6 BK205.out
        go_wp2_with (first | ((with_reducible refine gate_callee (f := 112) rfl ?_); refine gL 61 Try.func112 #[.agg #[.int .i64 a1_0, .slice A1_1 l1_1.length c1_1, .slice A1_2 l1_2.length c1_2, .slice A1_3 l1_3.length c1_3, .slice A1_4 l1_4.length c1_4, .slice A1_5 l1_5.length c1_5], .int .i64 x8_1] ?_; (with_reducible refine (spec_l06Axis.calls k1 a1_0 _ _ l1_1 _ _ l1_2 _ _ l1_3 _ _ l1_4 _ _ l1_5 x8_1 t221 _ ?side1 ?side2 ?side3 ?side4 ?side5 ?side6 ?side7 ?side8 ?side9 ?side10 A32.out).mono ?_); (case side1 => exact kV (yY HR1_1.out HB.out)); (case side2 => exact HC1_1.out); (case side3 => exact kV (yY HR1_2.out HB.out)); (case side4 => exact HC1_2.out); (case side5 => exact kV (yY HR1_3.out HB.out)); (case side6 => exact HC1_3.out); (case side7 => exact kV (yY HR1_4.out HB.out)); (case side8 => exact HC1_4.out); (case side9 => exact kV (yY HR1_5.out HB.out)); (case side10 => exact HC1_5.out); rintro e w34 ⟨v222, rfl, ho0, hb⟩; refine ⟨_, rfl, ?_⟩; have n0_ := yD (Kd.R_elder' (kA HO_5) (yH ho0) hb); have n1_ := yD (yZ (yJ ho0 (yK (kA HO_5))) (below_size (kB HB))); have n2_ := yD (zB (kN BK205) hb); have n3_ := yD (zC (kB HB) hb); clear HO_5; clear BK205; clear HB; have HO_5 := n0_; have HO223 := n1_; have BK205 := n2_; have HB := n3_; clear n0_ n1_ n2_ n3_; (try clear hb); (try clear hb2); (try clear hk); (try clear hi); (try clear ho0)) | ((with_reducible refine gate_dst (N := 62) rfl ?_); refine Kd.R_lit (Kd.int .i64) _ 2 ?hg (N := 62) ?hd (xs := ([] : List Int)) (inner := []) (ok := fun _ => True) (okp := fun _ => True) ?hr ?hp (fun _ hk => hk) trivial (Below.refl _ _) (Nat.le_refl _) (by simp) ?_; (case hd => rfl); (case hg => rfl); (case hr => first | (go_simp; done) | (go_simp; rfl)); (case hp => exact (Reps.none _ _)); intro v225 w35 ho36 hb hg_ hnew_; clear hg_ hnew_; (first | rw [← Ny224.out] at ho36 | (simp only [Int.reduceToNat] at ho36; rw [← Ny224.out] at ho36)); have n0_ := yD (Kd.R_elder' (kA HO_5) (yH ho36) hb); have n1_ := yD (Kd.R_elder' (kA HO223) (yH ho36) hb); have n2_ := yD (yZ (yJ (yJ ho36 (yK (kA HO_5))) (yK (kA HO223))) (below_size (kB HB))); have n3_ := yD (zB (kN BK205) hb); have n4_ := yD (zC (kB HB) hb); clear HO_5; clear HO223; clear BK205; clear HB; have HO_5 := n0_; have HO223 := n1_; have HO226 := n2_; have BK205 := n3_; have HB := n4_; clear n0_ n1_ n2_ n3_ n4_; clear hb ho36))
        (try simp only [Act.put, zH, zI, zJ])
        go_loopg [10, 11] k1 (fun kq v10 v11 w' => ∃ (x10_2 : List Int) (x11_2 : Int), v11 = .int .i64 x11_2 ∧ Aside0 (spec_l06Indices.l3 kq l0 x5_1 x8_1 t221 x10_2 x11_2 a1_0 l1_1 l1_2 l1_3 l1_4 l1_5 = some r) ∧ Aside0 (kq ≤ k1) ∧ Aside0 (Kd.R (Kd.int .i64) 2 w' w.heap.size (fun k_ => some k_ ≠ (v222 : Value).ownBlock ∧ some k_ ≠ (v10 : Value).ownBlock) u5 x5_1) ∧ Aside0 (Kd.R (Kd.int .i64) 2 w' w.heap.size (fun k_ => some k_ ≠ (u5 : Value).ownBlock ∧ some k_ ≠ (v10 : Value).ownBlock) v222 t221) ∧ Aside0 (Kd.R (Kd.int .i64) 2 w' w.heap.size (fun k_ => some k_ ≠ (u5 : Value).ownBlock ∧ some k_ ≠ (v222 : Value).ownBlock) v10 x10_2) ∧ Aside0 (w'.heap[gb205]? = some (.cells #[.int .i64 a1_0, (.slice A1_1 l1_1.length c1_1), (.slice A1_2 l1_2.length c1_2), (.slice A1_3 l1_3.length c1_3), (.slice A1_4 l1_4.length c1_4), (.slice A1_5 l1_5.length c1_5)] 55 (0, 0))) ∧ Aside0 (Below w.heap.size w w'))
        case atStart => exact ⟨(y224), (0), (by first | rfl | (simp; done) | (simp [*]; done)), H', ⟨Nat.le_refl _⟩, ⟨by (with_reducible repeat (first | apply yA | apply yB | apply yC)); exact zF HO_5.out (fun _ hk => ⟨hk.1.2, hk.2⟩)⟩, ⟨by (with_reducible repeat (first | apply yA | apply yB | apply yC)); exact zF HO223.out (fun _ hk => ⟨hk.1.2, hk.2⟩)⟩, ⟨by (with_reducible repeat (first | apply yA | apply yB | apply yC)); exact zF HO226.out (fun _ hk => ⟨hk.1.2, hk.2⟩)⟩, ⟨by (with_reducible repeat (first | refine yM ?_ _ | refine yO ?_ | refine yN ?_ _)); exact BK205.out⟩, ⟨kR0 HB⟩⟩
        case round =>
         clear H'
         try clear c1; try clear c2; try clear p2; try clear q2; try clear hx2; try clear c3; try clear c3b0; try clear c3b1; try clear p6; try clear c7; try clear c9; try clear c9b0; try clear c10; try clear c11; try clear c12; try clear c12b0; try clear c12b1; try clear c17; try clear c17b0; try clear c18; try clear c18b0; try clear c20; try clear c21; try clear p21; try clear q21; try clear hx21; try clear c24; try clear c24b0; try clear c24b1; try clear c25; try clear c31; try clear c31b0; try clear hcz16_0; try clear hcz16_1; try clear hcz16_2; try clear hcz16_3; try clear hcz16_4; try clear hcz16_5; try clear hcz21_0; try clear hcz21_1; try clear hcz21_2; try clear hcz21_3; try clear hcz21_4; try clear hcz21_5; try clear hcz23_0; try clear hcz23_1; try clear hcz23_2; try clear hcz23_3; try clear hcz23_4; try clear hcz23_5; try clear hcz29_0; try clear hcz29_1; try clear hcz29_2; try clear hcz29_3; try clear hcz29_4; try clear hcz29_5; try clear hcz33_0; try clear hcz33_1; try clear hcz33_2; try clear hcz33_3; try clear hcz33_4; try clear hcz33_5; try clear hcz7_0; try clear hcz7_1; try clear hcz7_2; try clear hcz7_3; try clear hcz7_4; try clear hcz7_5; try clear hfz16_0; try clear hfz16_1; try clear hfz16_2; try clear hfz16_3; try clear hfz16_4; try clear hfz16_5; try clear hfz21_0; try clear hfz21_1; try clear hfz21_2; try clear hfz21_3; try clear hfz21_4; try clear hfz21_5; try clear hfz23_0; try clear hfz23_1; try clear hfz23_2; try clear hfz23_3; try clear hfz23_4; try clear hfz23_5; try clear hfz29_0; try clear hfz29_1; try clear hfz29_2; try clear hfz29_3; try clear hfz29_4; try clear hfz29_5; try clear hfz33_0; try clear hfz33_1; try clear hfz33_2; try clear hfz33_3; try clear hfz33_4; try clear hfz33_5; try clear hfz7_0; try clear hfz7_1; try clear hfz7_2; try clear hfz7_3; try clear hfz7_4; try clear hfz7_5; try clear hx213_0; try clear p2; try clear p21; try clear p213; try clear p6; try clear q2; try clear q21; try clear q213
         obtain ⟨x10_2, x11_2, rfl, HA, HK2, HO_5, HO_9, HO_10, BK205, HB⟩ := hrel
         cases gk with
         | zero => exact absurd HA.out (by simp [spec_l06Indices.l3])
         | succ k2 =>
          have H := HA.out; clear HA
          simp only [spec_l06Indices.l3] at H
          by_cases c37 : x11_2 < (x5_1.length : Int)
          ·
           rw [if_pos c37] at H; have c37b0 : decide (x11_2 < (x5_1.length : Int)) = true := zR c37; clear c37
           have H' := yD H
           clear H
           obtain ⟨Ao38, co38, eo38⟩ := Kd.R_slice HO_5.out
           subst eo38
           go_wp2
           go_loopg [10, 12] k2 (fun kq v10 v12 w' => ∃ (x10_3 : List Int) (x12_3 : Int), v12 = .int .i64 x12_3 ∧ Aside0 (spec_l06Indices.l4 kq l0 x5_1 x8_1 t221 x10_3 x11_2 x12_3 a1_0 l1_1 l1_2 l1_3 l1_4 l1_5 = some r) ∧ Aside0 (kq ≤ k2) ∧ Aside0 (Kd.R (Kd.int .i64) 2 w' w.heap.size (fun k_ => some k_ ≠ (v222 : Value).ownBlock ∧ some k_ ≠ (v10 : Value).ownBlock) (.slice Ao38 x5_1.length co38) x5_1) ∧ Aside0 (Kd.R (Kd.int .i64) 2 w' w.heap.size (fun k_ => some k_ ≠ ((.slice Ao38 x5_1.length co38) : Value).ownBlock ∧ some k_ ≠ (v10 : Value).ownBlock) v222 t221) ∧ Aside0 (Kd.R (Kd.int .i64) 2 w' w.heap.size (fun k_ => some k_ ≠ ((.slice Ao38 x5_1.length co38) : Value).ownBlock ∧ some k_ ≠ (v222 : Value).ownBlock) v10 x10_3) ∧ Aside0 (w'.heap[gb205]? = some (.cells #[.int .i64 a1_0, (.slice A1_1 l1_1.length c1_1), (.slice A1_2 l1_2.length c1_2), (.slice A1_3 l1_3.length c1_3), (.slice A1_4 l1_4.length c1_4), (.slice A1_5 l1_5.length c1_5)] 55 (0, 0))) ∧ Aside0 (Below w.heap.size w w'))
           case atStart => exact ⟨(x10_2), (0), (by first | rfl | (simp; done) | (simp [*]; done)), H', ⟨Nat.le_refl _⟩, ⟨by (with_reducible repeat (first | apply yA | apply yB | apply yC)); exact HO_5.out⟩, ⟨by (with_reducible repeat (first | apply yA | apply yB | apply yC)); exact HO_9.out⟩, ⟨by (with_reducible repeat (first | apply yA | apply yB | apply yC)); exact HO_10.out⟩, ⟨by (with_reducible repeat (first | refine yM ?_ _ | refine yO ?_ | refine yN ?_ _)); exact BK205.out⟩, ⟨kR0 HB⟩⟩
           case round =>
            clear H'
            try clear c1; try clear c2; try clear p2; try clear q2; try clear hx2; try clear c3; try clear c3b0; try clear c3b1; try clear p6; try clear c7; try clear c9; try clear c9b0; try clear c10; try clear c11; try clear c12; try clear c12b0; try clear c12b1; try clear c17; try clear c17b0; try clear c18; try clear c18b0; try clear c20; try clear c21; try clear p21; try clear q21; try clear hx21; try clear c24; try clear c24b0; try clear c24b1; try clear c25; try clear c31; try clear c31b0; try clear c37; try clear c37b0; try clear hcz16_0; try clear hcz16_1; try clear hcz16_2; try clear hcz16_3; try clear hcz16_4; try clear hcz16_5; try clear hcz21_0; try clear hcz21_1; try clear hcz21_2; try clear hcz21_3; try clear hcz21_4; try clear hcz21_5; try clear hcz23_0; try clear hcz23_1; try clear hcz23_2; try clear hcz23_3; try clear hcz23_4; try clear hcz23_5; try clear hcz29_0; try clear hcz29_1; try clear hcz29_2; try clear hcz29_3; try clear hcz29_4; try clear hcz29_5; try clear hcz33_0; try clear hcz33_1; try clear hcz33_2; try clear hcz33_3; try clear hcz33_4; try clear hcz33_5; try clear hcz7_0; try clear hcz7_1; try clear hcz7_2; try clear hcz7_3; try clear hcz7_4; try clear hcz7_5; try clear hfz16_0; try clear hfz16_1; try clear hfz16_2; try clear hfz16_3; try clear hfz16_4; try clear hfz16_5; try clear hfz21_0; try clear hfz21_1; try clear hfz21_2; try clear hfz21_3; try clear hfz21_4; try clear hfz21_5; try clear hfz23_0; try clear hfz23_1; try clear hfz23_2; try clear hfz23_3; try clear hfz23_4; try clear hfz23_5; try clear hfz29_0; try clear hfz29_1; try clear hfz29_2; try clear hfz29_3; try clear hfz29_4; try clear hfz29_5; try clear hfz33_0; try clear hfz33_1; try clear hfz33_2; try clear hfz33_3; try clear hfz33_4; try clear hfz33_5; try clear hfz7_0; try clear hfz7_1; try clear hfz7_2; try clear hfz7_3; try clear hfz7_4; try clear hfz7_5; try clear hx213_0; try clear p2; try clear p21; try clear p213; try clear p6; try clear q2; try clear q21; try clear q213
            obtain ⟨x10_3, x12_3, rfl, HA, HK3, HO_5, HO_9, HO_10, BK205, HB⟩ := hrel
            cases gk with
            | zero => exact absurd HA.out (by simp [spec_l06Indices.l4])
            | succ k3 =>
             have H := HA.out; clear HA
             simp only [spec_l06Indices.l4] at H
             by_cases c39 : x12_3 < (t221.length : Int)
             ·
              rw [if_pos c39] at H; have c39b0 : decide (x12_3 < (t221.length : Int)) = true := zR c39; clear c39
              by_cases c40 : 0 ≤ x11_2
              ·
               rw [if_pos c40] at H; have c40b0 : decide (0 ≤ x11_2) = true := zR c40; clear c40
               by_cases c41 : x11_2 < (x5_1.length : Int)
               ·
                rw [if_pos c41] at H; have c41b0 : decide (x11_2 < (x5_1.length : Int)) = true := zR c41; clear c41
                by_cases c42 : 0 ≤ x8_1
                ·
                 rw [if_pos c42] at H; have c42b0 : decide (0 ≤ x8_1) = true := zR c42; clear c42
                 by_cases c43 : x8_1 < (l0.length : Int)
                 ·
                  rw [if_pos c43] at H; have c43b0 : decide (x8_1 < (l0.length : Int)) = true := zR c43; clear c43
                  by_cases c44 : 0 ≤ x12_3
                  ·
                   rw [if_pos c44] at H; have c44b0 : decide (0 ≤ x12_3) = true := zR c44; clear c44
                   by_cases c45 : x10_3.length < 17592186044416
                   ·
                    rw [if_pos c45] at H
                    have LMc45 := yD c45
                    clear c45
                    obtain ⟨y230, hy230⟩ : ∃ y_ : List Int, y_ = (x10_3 ++ [wrap64 ((wrap64 ((rd x5_1 x11_2) * (rd l0 x8_1))) + (rd t221 x12_3))]) := ⟨_, rfl⟩
                    replace H : (spec_l06Indices.l4 k3 l0 x5_1 x8_1 t221 y230 x11_2 (wrap64 (x12_3 + 1)) a1_0 l1_1 l1_2 l1_3 l1_4 l1_5) = some r := by first | (rw [hy230]; with_reducible exact H) | (have H2_ := (Option.bind_some _ _).symm.trans H; rw [hy230]; with_reducible exact H2_) | (have H2_ := (Option.bind_some _ _).symm.trans H; with_reducible exact H2_) | with_reducible exact H | (rw [hy230]; exact H) | exact H
                    have Ny230 := yD hy230
                    clear hy230
                    have H' := yD H
                    clear H
                    obtain ⟨Ao46, co46, eo46⟩ := Kd.R_slice HO_9.out
                    subst eo46
                    try go_wp2
                    have n0_ := yD (yC HO_5.out)
                    have n1_ := yD (yC HO_9.out)
                    have n2_ := yD (yC HO_10.out)
                    have n3_ := yD (yO BK205.out)
                    have n4_ := yD (yP HB.out)
                    clear HO_5 HO_9 HO_10 BK205 HB; have HO_5 := n0_; have HO_9 := n1_; have HO_10 := n2_; have BK205 := n3_; have HB := n4_; clear n0_ n1_ n2_ n3_ n4_
                    have p227 : 0 ≤ (x11_2 : Int) := zP (by assumption)
                    have q227 : x11_2 < (x5_1.length : Int) := zP (by assumption)
                    obtain ⟨ad227, e227, hx227_0⟩ := Kd.at_int (zA HO_5.out).2.2 x11_2 p227 q227
                    cases e227; replace p227 := eq_true p227; replace q227 := eq_true q227
                    have p228 : 0 ≤ (x8_1 : Int) := zP (by assumption)
                    have q228 : x8_1 < (l0.length : Int) := zP (by assumption)
                    obtain ⟨ad228, e228, hx228_0⟩ := Kd.at_int HR0.out x8_1 p228 q228
                    have hw228_0 := hx228_0; cases e228
                    replace hx228_0 := (HB.out.cell (zQ w _ hx228_0)).trans hx228_0
                    replace p228 := eq_true p228; replace q228 := eq_true q228
                    have p229 : 0 ≤ (x12_3 : Int) := zP (by assumption)
                    have q229 : x12_3 < (t221.length : Int) := zP (by assumption)
                    obtain ⟨ad229, e229, hx229_0⟩ := Kd.at_int (zA HO_9.out).2.2 x12_3 p229 q229
                    cases e229; replace p229 := eq_true p229; replace q229 := eq_true q229
                    refine start_ (n := 18) (S := fun w' => w'.cell? (ad227.add (x11_2).toNat) = some (.int .i64 (rd x5_1 x11_2)) ∧ w'.cell? (ad228.add (x8_1).toNat) = some (.int .i64 (rd l0 x8_1)) ∧ w'.cell? (ad229.add (x12_3).toNat) = some (.int .i64 (rd t221 x12_3))) (ds := [15, 16]) Q_0 (by kernel_rfl) rfl rfl ⟨hx227_0, ((HB.out.cell (zQ w _ hw228_0)).trans hw228_0), hx229_0⟩ (fun hHeld => ?_); refine with_tabW spec_l06Indices.tab26 spec_l06Indices.bits26 (fun HT_ HW_ => ?_)
                    generalize wr.drew = w47 at HO_5 HO_9 HO_10 BK205 HB hx227_0 hx228_0 hx229_0 hHeld ⊢
                    refine qA 0 75 Q_1 HT_ ?_
                    refine qA 1 76 Q_2 HT_ ?_
                    refine qA 2 77 Q_3 HT_ ?_
                    refine qA 3 78 Q_4 HT_ ?_
                    refine qA 5 80 Q_5 HT_ ?_
                    refine qA 6 81 Q_6 HT_ ?_
                    refine qA 7 82 Q_7 HT_ ?_
                    refine qA 10 85 Q_8 HT_ ?_
                    refine qA 11 86 Q_9 HT_ ?_
                    refine qA 12 87 Q_10 HT_ ?_
                    refine qC 4 79 Q_11 HT_ HW_ hHeld ?_ (hy := by rintro w' ⟨s0, s1, s2⟩; go_simp; with_reducible rfl)
                    refine qC 8 83 Q_12 HT_ HW_ hHeld ?_ (hy := by rintro w' ⟨s0, s1, s2⟩; go_simp; with_reducible rfl)
                    refine qA 9 84 Q_13 HT_ ?_
                    refine qC 13 88 Q_14 HT_ HW_ hHeld ?_ (hy := by rintro w' ⟨s0, s1, s2⟩; go_simp; with_reducible rfl)
                    refine qA 14 89 Q_15 HT_ ?_
                    refine last_ (i := 15) (N := some 90) Q_16 rfl rfl (one_of HT_.out (by kernel_rfl)) (by decide) (fun K hK => ?_)
                    refine value_ (w1 := ?_) (v := ?_) (by rfl) rfl ?_ ?_
                    rotate_left 2
                    ·
                     go_simp
                     constructor
                     ·
                      rfl
                     ·
                      rfl
                    refine hK.out _ _ ?_
                    clear hK K
                    refine norm_ (by show Act.put _ (some 90) _ = _; simp only [Act.put, zH, zI, zJ, i64_w, i32_w]; rfl) ?_
                    refine last_ (i := 16) (N := some 91) Q_17 rfl rfl (one_of HT_.out (by kernel_rfl)) (by decide) (fun K hK => ?_)
                    refine Kd.R_append_step (Kd.int .i64) (w0 := w) w.heap.size (by rfl) (.tmp 75) (.tmp 90) 36 2 (.int .i64 0) 8 rfl Try.underlying36 info2 rfl (by decide) (by omega) u10 x10_3 (wrap64 ((wrap64 ((rd x5_1 x11_2) * (rd l0 x8_1))) + (rd t221 x12_3))) [.int .i64 (wrap64 ((wrap64 ((rd x5_1 x11_2) * (rd l0 x8_1))) + (rd t221 x12_3)))] (fun k_ => some k_ ≠ (.slice (some ad227) x5_1.length co38 : Value).ownBlock ∧ some k_ ≠ (.slice (some ad229) t221.length co46 : Value).ownBlock) (fun _ => False) rfl rfl ?aP (fun _ hk => hk.elim) ?aF ?aO ?aB ?aS ?aL ?_
                    (case aP => exact rfl)
                    (case aB => exact (kB HB))
                    (case aF => exact (fun k_ hk => ⟨Kd.fresh' (yK (kA HO_5)) k_ hk, Kd.fresh' (yK (kA HO_9)) k_ hk⟩))
                    (case aO => exact (kA HO_10))
                    (case aS => exact (below_size (kB HB)))
                    (case aL => have := LMc45.out; omega)
                    intro v231 w48 ho hb hg hat
                    rw [← Ny230.out] at ho
                    have n0_ := yD (Kd.R_after (ok := (fun k_ => some k_ ≠ (.slice (some ad229) t221.length co46 : Value).ownBlock)) (kA HO_5) hg hat)
                    have n1_ := yD (Kd.R_after (ok := (fun k_ => some k_ ≠ (.slice (some ad227) x5_1.length co38 : Value).ownBlock)) (kA HO_9) hg hat)
                    have n2_ := yD (blk_grown (g := gb205) (o := .cells #[.int .i64 a1_0, .slice A1_1 l1_1.length c1_1, .slice A1_2 l1_2.length c1_2, .slice A1_3 l1_3.length c1_3, .slice A1_4 l1_4.length c1_4, .slice A1_5 l1_5.length c1_5] 55 (0, 0)) (kM BK205) hg (Kd.R_ne HO_10.out BK205.out (by decide)))
                    have n3_ := yD (hb)
                    have n4_ := yD (ho)
                    clear HO_5 HO_9 BK205 HB HO_10; have HO_5 := n0_; have HO_9 := n1_; have BK205 := n2_; have HB := n3_; have HO232 := n4_; clear n0_ n1_ n2_ n3_ n4_ ho hb hg hat
                    refine hK.out _ _ ?_
                    clear hK K
                    refine norm_ (by show Act.put _ (some 91) _ = _; simp only [Act.put, zH, zI, zJ, i64_w, i32_w]; rfl) ?_
                    refine qA 17 10 Q_18 HT_ ?_
                    refine done_ (done_of HT_.out (by kernel_rfl)) ?_
                    try go_wp2
                    go_roundg k3
                    case measure => have := HK1.out; have := HK2.out; have := HK3.out; omega
                    case rel => exact ⟨(y230), (wrap64 (x12_3 + 1)), (by first | rfl | (simp; done) | (simp [*]; done)), H', ⟨by have := HK1.out; have := HK2.out; have := HK3.out; omega⟩, ⟨by (with_reducible repeat (first | apply yA | apply yB | apply yC)); exact HO_5.out⟩, ⟨by (with_reducible repeat (first | apply yA | apply yB | apply yC)); exact HO_9.out⟩, ⟨by (with_reducible repeat (first | apply yA | apply yB | apply yC)); exact HO232.out⟩, ⟨by (with_reducible repeat (first | refine yM ?_ _ | refine yO ?_ | refine yN ?_ _)); exact BK205.out⟩, ⟨kR0 HB⟩⟩
                   ·
                    rw [if_neg c45] at H
                    exact absurd H (by simp)
                  ·
                   rw [if_neg c44] at H
                   exact absurd H (by simp)
                 ·
                  rw [if_neg c43] at H
                  exact absurd H (by simp)
                ·
                 rw [if_neg c42] at H
                 exact absurd H (by simp)
               ·
                rw [if_neg c41] at H
                exact absurd H (by simp)
              ·
               rw [if_neg c40] at H
               exact absurd H (by simp)
             ·
              rw [if_neg c39] at H; have c39b0 : decide (x12_3 < (t221.length : Int)) = false := zS c39; clear c39
              have H' := yD H
              clear H
              obtain ⟨Ao49, co49, eo49⟩ := Kd.R_slice HO_9.out
              subst eo49
              go_wp2
              go_roundg k3
              case measure => have := HK1.out; have := HK2.out; have := HK3.out; omega
              case rel => exact ⟨(x10_3), (wrap64 (x11_2 + 1)), (by first | rfl | (simp; done) | (simp [*]; done)), H', ⟨by have := HK1.out; have := HK2.out; have := HK3.out; omega⟩, ⟨by (with_reducible repeat (first | apply yA | apply yB | apply yC)); exact HO_5.out⟩, ⟨by (with_reducible repeat (first | apply yA | apply yB | apply yC)); exact HO_9.out⟩, ⟨by (with_reducible repeat (first | apply yA | apply yB | apply yC)); exact HO_10.out⟩, ⟨by (with_reducible repeat (first | refine yM ?_ _ | refine yO ?_ | refine yN ?_ _)); exact BK205.out⟩, ⟨kR0 HB⟩⟩
          ·
           rw [if_neg c37] at H; have c37b0 : decide (x11_2 < (x5_1.length : Int)) = false := zS c37; clear c37
           have H' := yD H
           clear H
           obtain ⟨Ao50, co50, eo50⟩ := Kd.R_slice HO_5.out
           subst eo50
           go_wp2
           go_roundg k2
           case measure => have := HK1.out; have := HK2.out; omega
           case rel => exact ⟨(x10_2), (wrap64 (x8_1 + 1)), (by first | rfl | (simp; done) | (simp [*]; done)), H', ⟨by have := HK1.out; have := HK2.out; omega⟩, ⟨by (with_reducible repeat (first | apply yA | apply yB | apply yC)); exact zF HO_10.out (fun _ hk => trivial)⟩, ⟨by (with_reducible repeat (first | refine yM ?_ _ | refine yO ?_ | refine yN ?_ _)); exact BK205.out⟩, ⟨kR0 HB⟩⟩
       ·
        rw [if_neg c31] at H; have c31b0 : decide (x8_1 < (l0.length : Int)) = false := zS c31; clear c31; obtain rfl := Option.some.inj H
        go_wp2
        go_ret
        exact ⟨_, by first | rfl | (simp <;> rfl) | (simp [*] <;> rfl), by (with_reducible repeat (first | apply yA | apply yB | apply yC)); exact HO_5.out, kR0 HB⟩
    ·
     rw [if_neg c25] at H
     exact absurd H (by simp)
   ·
    rw [if_neg c24] at H
    have c24b0 : (a1_0 == 3) = false := beq_eq_false_iff_ne.mpr c24
    have c24b1 : (a1_0 != 3) = true := bne_iff_ne.mpr c24
    obtain rfl := Option.some.inj H; go_enter Try.func78, Try.ntmps78
    go_wp2_with (first | ((with_reducible refine gate_dst (N := 3) rfl ?_); refine box_event ?hg (N := 3) ?hd (cs := #[.int .i64 a1_0, .slice A1_1 l1_1.length c1_1, .slice A1_2 l1_2.length c1_2, .slice A1_3 l1_3.length c1_3, .slice A1_4 l1_4.length c1_4, .slice A1_5 l1_5.length c1_5]) (t := 55) ?hr ?_; (case hd => rfl); (case hg => rfl); (case hr => first | (go_simp; done) | (go_simp; rfl)); intro gb205 hg w51 hbox hb; have n0_ := yD (zC (kB HB) hb); have n1_ := yD (hbox); have n2_ := yD ((by rw [hg]; exact (below_size (kB HB)) : w.heap.size ≤ gb205)); have n3_ := yD ((by rw [hg]; exact (below_size (kB HB)) : w.heap.size ≤ gb205)); clear HB; have HB := n0_; have BK205 := n1_; have GW205 := n2_; have GE205 := n3_; clear n0_ n1_ n2_ n3_; clear hb hbox hg) | ((with_reducible refine gate_dst (N := 13) rfl ?_); refine Kd.R_lit (Kd.int .i64) _ 2 ?hg (N := 13) ?hd (xs := ([] : List Int)) (inner := []) (ok := fun _ => True) (okp := fun _ => True) ?hr ?hp (fun _ hk => hk) trivial (Below.refl _ _) (Nat.le_refl _) (by simp) ?_; (case hd => rfl); (case hg => rfl); (case hr => first | (go_simp; done) | (go_simp; rfl)); (case hp => exact (Reps.none _ _)); intro v207 w52 ho53 hb hg_ hnew_; clear hg_ hnew_; (first | rw [← Ny206.out] at ho53 | (simp only [Int.reduceToNat] at ho53; rw [← Ny206.out] at ho53)); have n0_ := yD (yZ ho53 (below_size (kB HB))); have n1_ := yD (zB (kN BK205) hb); have n2_ := yD (zC (kB HB) hb); clear BK205; clear HB; have HO208 := n0_; have BK205 := n1_; have HB := n2_; clear n0_ n1_ n2_; clear hb ho53; obtain ⟨hcz54_0, hcz54_1, hcz54_2, hcz54_3, hcz54_4, hcz54_5⟩ := cz6 BK205.out; obtain ⟨hfz54_0, hfz54_1, hfz54_2, hfz54_3, hfz54_4, hfz54_5⟩ := fz6 BK205.out))
    go_ret
    exact ⟨_, by first | rfl | (simp <;> rfl) | (simp [*] <;> rfl), by (with_reducible repeat (first | apply yA | apply yB | apply yC)); exact HO208.out, kR0 HB⟩

/-! ### spec_SelectedIndices: function 38 -/
def spec_SelectedIndices.f (k : Nat) (l0 : List Int) (a1_0 : Int) (l1_1 : List Int) (l1_2 : List Int) (l1_3 : List Int) (l1_4 : List Int) (l1_5 : List (S110)) : Option (List Int) := (spec_l06Valid.f k l0 a1_0 l1_1 l1_2 l1_3 l1_4 l1_5).bind fun t234 => (if t234 = true then ((spec_l06Indices.f k l0 a1_0 l1_1 l1_2 l1_3 l1_4 l1_5).bind fun t235 => (some t235)) else (some ([] : List Int)))
theorem spec_SelectedIndices.mono : ∀ a0 a1 a2 a3 a4 a5 a6 k, LeO (spec_SelectedIndices.f k a0 a1 a2 a3 a4 a5 a6) (spec_SelectedIndices.f (k + 1) a0 a1 a2 a3 a4 a5 a6) := by
 intro a0 a1 a2 a3 a4 a5 a6 k
 unfold spec_SelectedIndices.f
 repeat' (with_reducible first | exact spec_l06Indices.mono _ _ _ _ _ _ _ _ | exact spec_l06Valid.mono _ _ _ _ _ _ _ _ | exact LeO.refl _ | exact LeO.none _ | refine LeO.ite ?_ ?_ | refine LeO.bind ?_ (fun _ => ?_))
set_option maxHeartbeats 8000000 in
set_option maxRecDepth 100000 in
theorem spec_SelectedIndices.calls (k : Nat) (A0 : Option Addr) (c0 : Nat) (l0 : List Int) (a1_0 : Int) (A1_1 : Option Addr) (c1_1 : Nat) (l1_1 : List Int) (A1_2 : Option Addr) (c1_2 : Nat) (l1_2 : List Int) (A1_3 : Option Addr) (c1_3 : Nat) (l1_3 : List Int) (A1_4 : Option Addr) (c1_4 : Nat) (l1_4 : List Int) (A1_5 : Option Addr) (c1_5 : Nat) (l1_5 : List (S110)) (r : List Int) (w : World) (hr0 : Kd.C (Kd.int .i64) w A0 l0.length l0) (hc0 : l0.length ≤ c0) (hr1_1 : Kd.C (Kd.int .i64) w A1_1 l1_1.length l1_1) (hc1_1 : l1_1.length ≤ c1_1) (hr1_2 : Kd.C (Kd.int .i64) w A1_2 l1_2.length l1_2) (hc1_2 : l1_2.length ≤ c1_2) (hr1_3 : Kd.C (Kd.int .i64) w A1_3 l1_3.length l1_3) (hc1_3 : l1_3.length ≤ c1_3) (hr1_4 : Kd.C (Kd.int .i64) w A1_4 l1_4.length l1_4) (hc1_4 : l1_4.length ≤ c1_4) (hr1_5 : Kd.C k110 w A1_5 l1_5.length l1_5) (hc1_5 : l1_5.length ≤ c1_5) (h : spec_SelectedIndices.f k l0 a1_0 l1_1 l1_2 l1_3 l1_4 l1_5 = some r) :
 Calls Try.prog 38 #[.slice A0 l0.length c0, .agg #[.int .i64 a1_0, .slice A1_1 l1_1.length c1_1, .slice A1_2 l1_2.length c1_2, .slice A1_3 l1_3.length c1_3, .slice A1_4 l1_4.length c1_4, .slice A1_5 l1_5.length c1_5]] w fun e w' => ∃ v0_ : Value, e = .returned (v0_) ∧ Kd.R (Kd.int .i64) 2 w' w.heap.size (fun _ => True) v0_ r ∧ Below w.heap.size w w' := by
 have hu55 := Try.underlying55
 have HR0 := yD hr0
 have HC0 := yD hc0
 clear hr0 hc0
 have HR1_1 := yD hr1_1
 have HC1_1 := yD hc1_1
 clear hr1_1 hc1_1
 have HR1_2 := yD hr1_2
 have HC1_2 := yD hc1_2
 clear hr1_2 hc1_2
 have HR1_3 := yD hr1_3
 have HC1_3 := yD hc1_3
 clear hr1_3 hc1_3
 have HR1_4 := yD hr1_4
 have HC1_4 := yD hc1_4
 clear hr1_4 hc1_4
 have HR1_5 := yD hr1_5
 have HC1_5 := yD hc1_5
 clear hr1_5 hc1_5
 have HB := yD (Below.refl w.heap.size w)
 have H : ((spec_l06Valid.f k l0 a1_0 l1_1 l1_2 l1_3 l1_4 l1_5).bind fun t234 => (if t234 = true then ((spec_l06Indices.f k l0 a1_0 l1_1 l1_2 l1_3 l1_4 l1_5).bind fun t235 => (some t235)) else (some ([] : List Int)))) = some r := h
 clear h
 obtain ⟨t234, A30, H⟩ := zW_ H
 replace H : (if t234 = true then ((spec_l06Indices.f k l0 a1_0 l1_1 l1_2 l1_3 l1_4 l1_5).bind fun t235 => (some t235)) else (some ([] : List Int))) = some r := H
 have A3 := yD A30
 clear A30
 by_cases c4 : t234 = true
 ·
  subst c4
  have H1 : ((spec_l06Indices.f k l0 a1_0 l1_1 l1_2 l1_3 l1_4 l1_5).bind fun t235 => (some t235)) = some r := by rw [if_pos rfl] at H; exact H
  clear H; have H := H1; clear H1
  obtain ⟨t235, A50, H⟩ := zW_ H
  replace H : (some t235) = some r := H
  have A5 := yD A50
  clear A50; obtain rfl := Option.some.inj H; go_enter Try.func38, Try.ntmps38
  go_wp2_with (first | ((with_reducible refine gate_dst (N := 3) rfl ?_); refine box_event ?hg (N := 3) ?hd (cs := #[.int .i64 a1_0, .slice A1_1 l1_1.length c1_1, .slice A1_2 l1_2.length c1_2, .slice A1_3 l1_3.length c1_3, .slice A1_4 l1_4.length c1_4, .slice A1_5 l1_5.length c1_5]) (t := 55) ?hr ?_; (case hd => rfl); (case hg => rfl); (case hr => first | (go_simp; done) | (go_simp; rfl)); intro gb233 hg w6 hbox hb; have n0_ := yD (zC (kB HB) hb); have n1_ := yD (hbox); have n2_ := yD ((by rw [hg]; exact (below_size (kB HB)) : w.heap.size ≤ gb233)); have n3_ := yD ((by rw [hg]; exact (below_size (kB HB)) : w.heap.size ≤ gb233)); clear HB; have HB := n0_; have BK233 := n1_; have GW233 := n2_; have GE233 := n3_; clear n0_ n1_ n2_ n3_; clear hb hbox hg; obtain ⟨hcz7_0, hcz7_1, hcz7_2, hcz7_3, hcz7_4, hcz7_5⟩ := cz6 BK233.out; obtain ⟨hfz7_0, hfz7_1, hfz7_2, hfz7_3, hfz7_4, hfz7_5⟩ := fz6 BK233.out) | ((with_reducible refine gate_callee (f := 77) rfl ?_); refine gL 7 Try.func77 #[.slice A0 l0.length c0, .agg #[.int .i64 a1_0, .slice A1_1 l1_1.length c1_1, .slice A1_2 l1_2.length c1_2, .slice A1_3 l1_3.length c1_3, .slice A1_4 l1_4.length c1_4, .slice A1_5 l1_5.length c1_5]] ?_; (with_reducible refine (spec_l06Valid.calls k _ _ l0 a1_0 _ _ l1_1 _ _ l1_2 _ _ l1_3 _ _ l1_4 _ _ l1_5 true _ ?side1 ?side2 ?side3 ?side4 ?side5 ?side6 ?side7 ?side8 ?side9 ?side10 ?side11 ?side12 A3.out).mono ?_); (case side1 => exact kV (yY HR0.out HB.out)); (case side2 => exact HC0.out); (case side3 => exact kV (yY HR1_1.out HB.out)); (case side4 => exact HC1_1.out); (case side5 => exact kV (yY HR1_2.out HB.out)); (case side6 => exact HC1_2.out); (case side7 => exact kV (yY HR1_3.out HB.out)); (case side8 => exact HC1_3.out); (case side9 => exact kV (yY HR1_4.out HB.out)); (case side10 => exact HC1_4.out); (case side11 => exact kV (yY HR1_5.out HB.out)); (case side12 => exact HC1_5.out); rintro e w8 ⟨rfl, hb⟩; refine ⟨_, rfl, ?_⟩; have n0_ := yD (zB (kN BK233) hb); have n1_ := yD (zC (kB HB) hb); clear BK233; clear HB; have BK233 := n0_; have HB := n1_; clear n0_ n1_; (try clear hb); (try clear hb2); (try clear hk); (try clear hi); obtain ⟨hcz9_0, hcz9_1, hcz9_2, hcz9_3, hcz9_4, hcz9_5⟩ := cz6 BK233.out; obtain ⟨hfz9_0, hfz9_1, hfz9_2, hfz9_3, hfz9_4, hfz9_5⟩ := fz6 BK233.out) | ((with_reducible refine gate_callee (f := 78) rfl ?_); refine gL 11 Try.func78 #[.slice A0 l0.length c0, .agg #[.int .i64 a1_0, .slice A1_1 l1_1.length c1_1, .slice A1_2 l1_2.length c1_2, .slice A1_3 l1_3.length c1_3, .slice A1_4 l1_4.length c1_4, .slice A1_5 l1_5.length c1_5]] ?_; (with_reducible refine (spec_l06Indices.calls k _ _ l0 a1_0 _ _ l1_1 _ _ l1_2 _ _ l1_3 _ _ l1_4 _ _ l1_5 t235 _ ?side1 ?side2 ?side3 ?side4 ?side5 ?side6 ?side7 ?side8 ?side9 ?side10 ?side11 ?side12 A5.out).mono ?_); (case side1 => exact kV (yY HR0.out HB.out)); (case side2 => exact HC0.out); (case side3 => exact kV (yY HR1_1.out HB.out)); (case side4 => exact HC1_1.out); (case side5 => exact kV (yY HR1_2.out HB.out)); (case side6 => exact HC1_2.out); (case side7 => exact kV (yY HR1_3.out HB.out)); (case side8 => exact HC1_3.out); (case side9 => exact kV (yY HR1_4.out HB.out)); (case side10 => exact HC1_4.out); (case side11 => exact kV (yY HR1_5.out HB.out)); (case side12 => exact HC1_5.out); rintro e w10 ⟨v236, rfl, ho0, hb⟩; refine ⟨_, rfl, ?_⟩; have n0_ := yD (yZ ho0 (below_size (kB HB))); have n1_ := yD (zB (kN BK233) hb); have n2_ := yD (zC (kB HB) hb); clear BK233; clear HB; have HO237 := n0_; have BK233 := n1_; have HB := n2_; clear n0_ n1_ n2_; (try clear hb); (try clear hb2); (try clear hk); (try clear hi); (try clear ho0)))
  go_ret
  exact ⟨_, by first | rfl | (simp <;> rfl) | (simp [*] <;> rfl), by (with_reducible repeat (first | apply yA | apply yB | apply yC)); exact HO237.out, kR0 HB⟩
 ·
  replace c4 := Bool.eq_false_iff.mpr c4
  subst c4
  have H1 : (some ([] : List Int)) = some r := by rw [if_neg (show ¬ (false = true) by decide)] at H; exact H
  clear H; have H := H1; clear H1; obtain rfl := Option.some.inj H; go_enter Try.func38, Try.ntmps38
  go_wp2_with (first | ((with_reducible refine gate_dst (N := 3) rfl ?_); refine box_event ?hg (N := 3) ?hd (cs := #[.int .i64 a1_0, .slice A1_1 l1_1.length c1_1, .slice A1_2 l1_2.length c1_2, .slice A1_3 l1_3.length c1_3, .slice A1_4 l1_4.length c1_4, .slice A1_5 l1_5.length c1_5]) (t := 55) ?hr ?_; (case hd => rfl); (case hg => rfl); (case hr => first | (go_simp; done) | (go_simp; rfl)); intro gb233 hg w11 hbox hb; have n0_ := yD (zC (kB HB) hb); have n1_ := yD (hbox); have n2_ := yD ((by rw [hg]; exact (below_size (kB HB)) : w.heap.size ≤ gb233)); have n3_ := yD ((by rw [hg]; exact (below_size (kB HB)) : w.heap.size ≤ gb233)); clear HB; have HB := n0_; have BK233 := n1_; have GW233 := n2_; have GE233 := n3_; clear n0_ n1_ n2_ n3_; clear hb hbox hg; obtain ⟨hcz12_0, hcz12_1, hcz12_2, hcz12_3, hcz12_4, hcz12_5⟩ := cz6 BK233.out; obtain ⟨hfz12_0, hfz12_1, hfz12_2, hfz12_3, hfz12_4, hfz12_5⟩ := fz6 BK233.out) | ((with_reducible refine gate_callee (f := 77) rfl ?_); refine gL 7 Try.func77 #[.slice A0 l0.length c0, .agg #[.int .i64 a1_0, .slice A1_1 l1_1.length c1_1, .slice A1_2 l1_2.length c1_2, .slice A1_3 l1_3.length c1_3, .slice A1_4 l1_4.length c1_4, .slice A1_5 l1_5.length c1_5]] ?_; (with_reducible refine (spec_l06Valid.calls k _ _ l0 a1_0 _ _ l1_1 _ _ l1_2 _ _ l1_3 _ _ l1_4 _ _ l1_5 false _ ?side1 ?side2 ?side3 ?side4 ?side5 ?side6 ?side7 ?side8 ?side9 ?side10 ?side11 ?side12 A3.out).mono ?_); (case side1 => exact kV (yY HR0.out HB.out)); (case side2 => exact HC0.out); (case side3 => exact kV (yY HR1_1.out HB.out)); (case side4 => exact HC1_1.out); (case side5 => exact kV (yY HR1_2.out HB.out)); (case side6 => exact HC1_2.out); (case side7 => exact kV (yY HR1_3.out HB.out)); (case side8 => exact HC1_3.out); (case side9 => exact kV (yY HR1_4.out HB.out)); (case side10 => exact HC1_4.out); (case side11 => exact kV (yY HR1_5.out HB.out)); (case side12 => exact HC1_5.out); rintro e w13 ⟨rfl, hb⟩; refine ⟨_, rfl, ?_⟩; have n0_ := yD (zB (kN BK233) hb); have n1_ := yD (zC (kB HB) hb); clear BK233; clear HB; have BK233 := n0_; have HB := n1_; clear n0_ n1_; (try clear hb); (try clear hb2); (try clear hk); (try clear hi)))
  go_ret
  exact ⟨_, by first | rfl | (simp <;> rfl) | (simp [*] <;> rfl), by first | exact Kd.R_nil _ _ _ _ _ | exact Kd.N_nil _ _ _ _ _ | exact Kd.V_nil _ _ _ _ _ | exact Kd.Q_nil _ _ _ _ _ | exact Kd.S_nil _ _ _ _ _, kR0 HB⟩

/-! ### impl_within: function 106 -/
def impl_within.f (a0 : Int) (a1 : Int) (a2 : Int) : Option (Bool) := if a0 ≥ a1 then (some (decide (a0 ≤ a2))) else (some false)
set_option maxHeartbeats 8000000 in
set_option maxRecDepth 100000 in
theorem impl_within.calls (a0 : Int) (a1 : Int) (a2 : Int) (r : Bool) (w : World) (h : impl_within.f a0 a1 a2 = some r) :
 Calls Try.prog 106 #[.int .i64 a0, .int .i64 a1, .int .i64 a2] w fun e w' => e = .returned (.bool r) ∧ Drawn0 w w' := by
 have H : (if a0 ≥ a1 then (some (decide (a0 ≤ a2))) else (some false)) = some r := h
 clear h
 by_cases c4 : a0 ≥ a1
 ·
  rw [if_pos c4] at H; have c4b0 : decide (a1 ≤ a0) = true := zR c4; clear c4; obtain rfl := Option.some.inj H; go_enter Try.func106, Try.ntmps106
  go_wp2
  go_ret
  exact ⟨by first | rfl | (simp; done) | (simp [*]; done), by repeat (first | exact Drawn0.refl _ | apply Drawn0.step)⟩
 ·
  rw [if_neg c4] at H; have c4b0 : decide (a1 ≤ a0) = false := zS c4; clear c4; obtain rfl := Option.some.inj H; go_enter Try.func106, Try.ntmps106
  go_wp2
  go_ret
  exact ⟨by first | rfl | (simp; done) | (simp [*]; done), by repeat (first | exact Drawn0.refl _ | apply Drawn0.step)⟩

end Go.Proofs.Ytdiaebjbiddefaa.PFnExactSelectedIndices
