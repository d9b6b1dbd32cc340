/- Each Go function here comes to what the plain function of its name says, where that says something. Made by a program of this session, over the print. -/
import Derived.Test.YtlfjepcmlgfogaaPFnExactSelectedCountx0
import Derived.Test.YtlfjepcmlgfogaaPFnExactSelectedCountx6
import Derived.Test.YtlfjepcmlgfogaaPFnExactSelectedCountx11
namespace Go.Proofs.Ytlfjepcmlgfogaa.PFnExactSelectedCount
open Go.RowKit Go.Proofs.YtlfjepcmlgfogaaW.PrintWords Go.Proofs.YtlfjepcmlgfogaaW.PrintLast Go.Proofs.YtlfjepcmlgfogaaW.PrintMore
attribute [local go_sem] max2_int min2_int max_two min_two max_three min_three max_four min_four   -- for this text's walks alone
set_option linter.unusedVariables false
set_option linter.unusedSimpArgs false

/-! ### impl_Selection_slabIndices: function 54 -/
mutual
def impl_Selection_slabIndices.l0 : Nat → List Int → List Int → Int → Int → Int → List Int → List Int → List Int → List Int → List (S65) → Option (List Int)
 | 0, _, _, _, _, _, _, _, _, _, _ => none
 | k + 1, x5, x14, x15, x16, x292000, x292001, x292002, x292003, x292004, x292005 => if x16 < x15 then (if 0 ≤ x16 then (if x16 < (x14.length : Int) then (impl_Selection_slabIndices.l1 k x16 (rd x14 x16) ([] : List Int) x14 x15 x16 x5 (x5.length : Int) 0 x292000 x292001 x292002 x292003 x292004 x292005) else (none)) else (none)) else (some x5)
def impl_Selection_slabIndices.l1 : Nat → Int → Int → List Int → List Int → Int → Int → List Int → Int → Int → Int → List Int → List Int → List Int → List Int → List (S65) → Option (List Int)
 | 0, _, _, _, _, _, _, _, _, _, _, _, _, _, _, _ => none
 | k + 1, x6, x7, x8, x14, x15, x16, x21, x22, x23, x292000, x292001, x292002, x292003, x292004, x292005 => if x23 < x22 then (if 0 ≤ x23 then (if x23 < (x21.length : Int) then ((impl_Selection_coordinates.f k x292000 x292001 x292002 x292003 x292004 x292005 x6).bind fun t297 => (impl_Selection_slabIndices.l2 k x6 x7 x8 (rd x21 x23) x14 x15 x16 x21 x22 x23 t297 (t297.length : Int) 0 x292000 x292001 x292002 x292003 x292004 x292005)) else (none)) else (none)) else (impl_Selection_slabIndices.l0 k x8 x14 x15 (wrap64 (x16 + 1)) x292000 x292001 x292002 x292003 x292004 x292005)
def impl_Selection_slabIndices.l2 : Nat → Int → Int → List Int → Int → List Int → Int → Int → List Int → Int → Int → List Int → Int → Int → Int → List Int → List Int → List Int → List Int → List (S65) → Option (List Int)
 | 0, _, _, _, _, _, _, _, _, _, _, _, _, _, _, _, _, _, _, _ => none
 | k + 1, x6, x7, x8, x10, x14, x15, x16, x21, x22, x23, x29, x30, x31, x292000, x292001, x292002, x292003, x292004, x292005 => if x31 < x30 then (if 0 ≤ x31 then (if x31 < (x29.length : Int) then (if x8.length < 17592186044416 then (impl_Selection_slabIndices.l2 k x6 x7 (x8 ++ [wrap64 ((wrap64 (x10 * x7)) + (rd x29 x31))]) x10 x14 x15 x16 x21 x22 x23 x29 x30 (wrap64 (x31 + 1)) x292000 x292001 x292002 x292003 x292004 x292005) else (none)) else (none)) else (none)) else (impl_Selection_slabIndices.l1 k x6 x7 x8 x14 x15 x16 x21 x22 (wrap64 (x23 + 1)) x292000 x292001 x292002 x292003 x292004 x292005)
end
def impl_Selection_slabIndices.f (k : Nat) (a0_0 : Int) (l0_1 : List Int) (l0_2 : List Int) (l0_3 : List Int) (l0_4 : List Int) (l0_5 : List (S65)) (l1 : List Int) : Option (List Int) := impl_Selection_slabIndices.l0 k (([0] : List Int)) l1 (l1.length : Int) 0 a0_0 l0_1 l0_2 l0_3 l0_4 l0_5
theorem impl_Selection_slabIndices.mono_l : ∀ k, (∀ y0 y1 y2 y3 y4 y5 y6 y7 y8 y9, LeO (impl_Selection_slabIndices.l0 k y0 y1 y2 y3 y4 y5 y6 y7 y8 y9) (impl_Selection_slabIndices.l0 (k + 1) y0 y1 y2 y3 y4 y5 y6 y7 y8 y9)) ∧ (∀ y0 y1 y2 y3 y4 y5 y6 y7 y8 y9 y10 y11 y12 y13 y14, LeO (impl_Selection_slabIndices.l1 k y0 y1 y2 y3 y4 y5 y6 y7 y8 y9 y10 y11 y12 y13 y14) (impl_Selection_slabIndices.l1 (k + 1) y0 y1 y2 y3 y4 y5 y6 y7 y8 y9 y10 y11 y12 y13 y14)) ∧ (∀ y0 y1 y2 y3 y4 y5 y6 y7 y8 y9 y10 y11 y12 y13 y14 y15 y16 y17 y18, LeO (impl_Selection_slabIndices.l2 k y0 y1 y2 y3 y4 y5 y6 y7 y8 y9 y10 y11 y12 y13 y14 y15 y16 y17 y18) (impl_Selection_slabIndices.l2 (k + 1) y0 y1 y2 y3 y4 y5 y6 y7 y8 y9 y10 y11 y12 y13 y14 y15 y16 y17 y18))
 | 0 => ⟨fun _ _ _ _ _ _ _ _ _ _ r h => by simp [impl_Selection_slabIndices.l0] at h, fun _ _ _ _ _ _ _ _ _ _ _ _ _ _ _ r h => by simp [impl_Selection_slabIndices.l1] at h, fun _ _ _ _ _ _ _ _ _ _ _ _ _ _ _ _ _ _ _ r h => by simp [impl_Selection_slabIndices.l2] at h⟩
 | k + 1 => by
  obtain ⟨ih0, ih1, ih2⟩ := impl_Selection_slabIndices.mono_l k
  refine ⟨?_, ?_, ?_⟩
  ·
   intro y0 y1 y2 y3 y4 y5 y6 y7 y8 y9
   unfold impl_Selection_slabIndices.l0
   repeat' first
   | (with_reducible exact ih0 _ _ _ _ _ _ _ _ _ _)
   | (with_reducible exact ih1 _ _ _ _ _ _ _ _ _ _ _ _ _ _ _)
   | (with_reducible exact ih2 _ _ _ _ _ _ _ _ _ _ _ _ _ _ _ _ _ _ _)
   | (with_reducible exact impl_Selection_coordinates.mono _ _ _ _ _ _ _ _)
   | (with_reducible exact LeO.refl _)
   | (with_reducible exact LeO.none _)
   | (with_reducible refine LeO.ite ?_ ?_)
   | (with_reducible refine LeO.bind ?_ (fun _ => ?_))
   | exact ih0 _ _ _ _ _ _ _ _ _ _
   | exact ih1 _ _ _ _ _ _ _ _ _ _ _ _ _ _ _
   | exact ih2 _ _ _ _ _ _ _ _ _ _ _ _ _ _ _ _ _ _ _
   | exact impl_Selection_coordinates.mono _ _ _ _ _ _ _ _
   | exact LeO.none _
   | refine LeO.ite ?_ ?_
   | refine LeO.bind ?_ (fun _ => ?_)
  ·
   intro y0 y1 y2 y3 y4 y5 y6 y7 y8 y9 y10 y11 y12 y13 y14
   unfold impl_Selection_slabIndices.l1
   repeat' first
   | (with_reducible exact ih0 _ _ _ _ _ _ _ _ _ _)
   | (with_reducible exact ih1 _ _ _ _ _ _ _ _ _ _ _ _ _ _ _)
   | (with_reducible exact ih2 _ _ _ _ _ _ _ _ _ _ _ _ _ _ _ _ _ _ _)
   | (with_reducible exact impl_Selection_coordinates.mono _ _ _ _ _ _ _ _)
   | (with_reducible exact LeO.refl _)
   | (with_reducible exact LeO.none _)
   | (with_reducible refine LeO.ite ?_ ?_)
   | (with_reducible refine LeO.bind ?_ (fun _ => ?_))
   | exact ih0 _ _ _ _ _ _ _ _ _ _
   | exact ih1 _ _ _ _ _ _ _ _ _ _ _ _ _ _ _
   | exact ih2 _ _ _ _ _ _ _ _ _ _ _ _ _ _ _ _ _ _ _
   | exact impl_Selection_coordinates.mono _ _ _ _ _ _ _ _
   | exact LeO.none _
   | refine LeO.ite ?_ ?_
   | refine LeO.bind ?_ (fun _ => ?_)
  ·
   intro y0 y1 y2 y3 y4 y5 y6 y7 y8 y9 y10 y11 y12 y13 y14 y15 y16 y17 y18
   unfold impl_Selection_slabIndices.l2
   repeat' first
   | (with_reducible exact ih0 _ _ _ _ _ _ _ _ _ _)
   | (with_reducible exact ih1 _ _ _ _ _ _ _ _ _ _ _ _ _ _ _)
   | (with_reducible exact ih2 _ _ _ _ _ _ _ _ _ _ _ _ _ _ _ _ _ _ _)
   | (with_reducible exact impl_Selection_coordinates.mono _ _ _ _ _ _ _ _)
   | (with_reducible exact LeO.refl _)
   | (with_reducible exact LeO.none _)
   | (with_reducible refine LeO.ite ?_ ?_)
   | (with_reducible refine LeO.bind ?_ (fun _ => ?_))
   | exact ih0 _ _ _ _ _ _ _ _ _ _
   | exact ih1 _ _ _ _ _ _ _ _ _ _ _ _ _ _ _
   | exact ih2 _ _ _ _ _ _ _ _ _ _ _ _ _ _ _ _ _ _ _
   | exact impl_Selection_coordinates.mono _ _ _ _ _ _ _ _
   | exact LeO.none _
   | refine LeO.ite ?_ ?_
   | refine LeO.bind ?_ (fun _ => ?_)
theorem impl_Selection_slabIndices.mono : ∀ a0 a1 a2 a3 a4 a5 a6 k, LeO (impl_Selection_slabIndices.f k a0 a1 a2 a3 a4 a5 a6) (impl_Selection_slabIndices.f (k + 1) a0 a1 a2 a3 a4 a5 a6) := by
 intro a0 a1 a2 a3 a4 a5 a6 k
 obtain ⟨ih0, ih1, ih2⟩ := impl_Selection_slabIndices.mono_l k
 unfold impl_Selection_slabIndices.f
 repeat' first
   | (with_reducible exact ih0 _ _ _ _ _ _ _ _ _ _)
   | (with_reducible exact ih1 _ _ _ _ _ _ _ _ _ _ _ _ _ _ _)
   | (with_reducible exact ih2 _ _ _ _ _ _ _ _ _ _ _ _ _ _ _ _ _ _ _)
   | (with_reducible exact impl_Selection_coordinates.mono _ _ _ _ _ _ _ _)
   | (with_reducible exact LeO.refl _)
   | (with_reducible exact LeO.none _)
   | (with_reducible refine LeO.ite ?_ ?_)
   | (with_reducible refine LeO.bind ?_ (fun _ => ?_))
   | exact ih0 _ _ _ _ _ _ _ _ _ _
   | exact ih1 _ _ _ _ _ _ _ _ _ _ _ _ _ _ _
   | exact ih2 _ _ _ _ _ _ _ _ _ _ _ _ _ _ _ _ _ _ _
   | exact impl_Selection_coordinates.mono _ _ _ _ _ _ _ _
   | exact LeO.none _
   | refine LeO.ite ?_ ?_
   | refine LeO.bind ?_ (fun _ => ?_)
set_option maxHeartbeats 8000000 in
set_option maxRecDepth 100000 in
theorem impl_Selection_slabIndices.calls (k : Nat) (a0_0 : Int) (A0_1 : Option Addr) (c0_1 : Nat) (l0_1 : List Int) (A0_2 : Option Addr) (c0_2 : Nat) (l0_2 : List Int) (A0_3 : Option Addr) (c0_3 : Nat) (l0_3 : List Int) (A0_4 : Option Addr) (c0_4 : Nat) (l0_4 : List Int) (A0_5 : Option Addr) (c0_5 : Nat) (l0_5 : List (S65)) (A1 : Option Addr) (c1 : Nat) (l1 : List Int) (r : List Int) (w : World) (hr0_1 : Kd.C (Kd.int .i64) w A0_1 l0_1.length l0_1) (hc0_1 : l0_1.length ≤ c0_1) (hr0_2 : Kd.C (Kd.int .i64) w A0_2 l0_2.length l0_2) (hc0_2 : l0_2.length ≤ c0_2) (hr0_3 : Kd.C (Kd.int .i64) w A0_3 l0_3.length l0_3) (hc0_3 : l0_3.length ≤ c0_3) (hr0_4 : Kd.C (Kd.int .i64) w A0_4 l0_4.length l0_4) (hc0_4 : l0_4.length ≤ c0_4) (hr0_5 : Kd.C k65 w A0_5 l0_5.length l0_5) (hc0_5 : l0_5.length ≤ c0_5) (hr1 : Kd.C (Kd.int .i64) w A1 l1.length l1) (hc1 : l1.length ≤ c1) (h : impl_Selection_slabIndices.f k a0_0 l0_1 l0_2 l0_3 l0_4 l0_5 l1 = some r) :
  Calls Try.prog 54 #[.agg #[.int .i64 a0_0, .slice A0_1 l0_1.length c0_1, .slice A0_2 l0_2.length c0_2, .slice A0_3 l0_3.length c0_3, .slice A0_4 l0_4.length c0_4, .slice A0_5 l0_5.length c0_5], .slice A1 l1.length c1] w fun e w' => ∃ v0_ : Value, e = .returned (v0_) ∧ Kd.R (Kd.int .i64) 2 w' w.heap.size (fun _ => True) v0_ r ∧ Below w.heap.size w w' := by
 have hu41 := Try.underlying41
 have HR0_1 := yD hr0_1
 have HC0_1 := yD hc0_1
 clear hr0_1 hc0_1
 have HR0_2 := yD hr0_2
 have HC0_2 := yD hc0_2
 clear hr0_2 hc0_2
 have HR0_3 := yD hr0_3
 have HC0_3 := yD hc0_3
 clear hr0_3 hc0_3
 have HR0_4 := yD hr0_4
 have HC0_4 := yD hc0_4
 clear hr0_4 hc0_4
 have HR0_5 := yD hr0_5
 have HC0_5 := yD hc0_5
 clear hr0_5 hc0_5
 have HR1 := yD hr1
 have HC1 := yD hc1
 clear hr1 hc1
 have HB := yD (Below.refl w.heap.size w)
 have H : (impl_Selection_slabIndices.l0 k (([0] : List Int)) l1 (l1.length : Int) 0 a0_0 l0_1 l0_2 l0_3 l0_4 l0_5) = some r := h
 clear h
 obtain ⟨y292, hy292⟩ : ∃ y_ : List Int, y_ = (([0] : List Int)) := ⟨_, rfl⟩
 replace H : (impl_Selection_slabIndices.l0 k y292 l1 (l1.length : Int) 0 a0_0 l0_1 l0_2 l0_3 l0_4 l0_5) = some r := by first | (rw [hy292]; with_reducible exact H) | (have H2_ := (Option.bind_some _ _).symm.trans H; rw [hy292]; with_reducible exact H2_) | (have H2_ := (Option.bind_some _ _).symm.trans H; with_reducible exact H2_) | with_reducible exact H | (rw [hy292]; exact H) | exact H
 have Ny292 := yD hy292
 clear hy292
 have H' := yD H
 clear H; go_enter Try.func54, Try.ntmps54
 go_wp2_with (first | ((with_reducible refine gate_dst (N := 2) rfl ?_); refine box_event ?hg (N := 2) ?hd (cs := #[.int .i64 a0_0, .slice A0_1 l0_1.length c0_1, .slice A0_2 l0_2.length c0_2, .slice A0_3 l0_3.length c0_3, .slice A0_4 l0_4.length c0_4, .slice A0_5 l0_5.length c0_5]) (t := 41) ?hr ?_; (case hd => rfl); (case hg => rfl); (case hr => first | (go_simp; done) | (go_simp; rfl)); intro gb291 hg w3 hbox hb; have n0_ := yD (zC (kB HB) hb); have n1_ := yD (hbox); have n2_ := yD ((by rw [hg]; exact (below_size (kB HB)) : w.heap.size ≤ gb291)); have n3_ := yD ((by rw [hg]; exact (below_size (kB HB)) : w.heap.size ≤ gb291)); clear HB; have HB := n0_; have BK291 := n1_; have GW291 := n2_; have GE291 := n3_; clear n0_ n1_ n2_ n3_; clear hb hbox hg) | ((with_reducible refine gate_dst (N := 13) rfl ?_); refine Kd.R_lit (Kd.int .i64) _ 2 ?hg (N := 13) ?hd (xs := ([0] : List Int)) (inner := [.int .i64 0]) (ok := fun _ => True) (okp := fun _ => True) ?hr ?hp (fun _ hk => hk) trivial (Below.refl _ _) (Nat.le_refl _) (by simp) ?_; (case hd => rfl); (case hg => rfl); (case hr => first | (go_simp; done) | (go_simp; rfl)); (case hp => exact (Reps.one (show Kd.M (Kd.int .i64) _ _ _ 0 [.int .i64 0] from rfl) (Reps.none _ _))); intro v293 w4 ho5 hb hg_ hnew_; clear hg_ hnew_; (first | rw [← Ny292.out] at ho5 | (simp only [Int.reduceToNat] at ho5; rw [← Ny292.out] at ho5)); have n0_ := yD (yZ ho5 (below_size (kB HB))); have n1_ := yD (zB (g := gb291) (o := .cells #[.int .i64 a0_0, .slice A0_1 l0_1.length c0_1, .slice A0_2 l0_2.length c0_2, .slice A0_3 l0_3.length c0_3, .slice A0_4 l0_4.length c0_4, .slice A0_5 l0_5.length c0_5] 41 (0, 0)) (kM BK291) hb); have n2_ := yD (zC (kB HB) hb); clear BK291; clear HB; have HO294 := n0_; have BK291 := n1_; have HB := n2_; clear n0_ n1_ n2_; clear hb ho5))
 go_loopg [5, 16] k (fun kq v5 v16 w' => ∃ (x5_1 : List Int) (x16_1 : Int), v16 = .int .i64 x16_1 ∧ Aside0 (impl_Selection_slabIndices.l0 kq x5_1 l1 (l1.length : Int) x16_1 a0_0 l0_1 l0_2 l0_3 l0_4 l0_5 = some r) ∧ Aside0 (kq ≤ k) ∧ Aside0 (Kd.R (Kd.int .i64) 2 w' w.heap.size (fun _ => True) v5 x5_1) ∧ Aside0 (w'.heap[gb291]? = some (.cells #[.int .i64 a0_0, (.slice A0_1 l0_1.length c0_1), (.slice A0_2 l0_2.length c0_2), (.slice A0_3 l0_3.length c0_3), (.slice A0_4 l0_4.length c0_4), (.slice A0_5 l0_5.length c0_5)] 41 (0, 0))) ∧ Aside0 (Below w.heap.size w w'))
 case atStart => exact ⟨(y292), (0), (by first | rfl | (simp; done) | (simp [*]; done)), H', ⟨Nat.le_refl _⟩, ⟨by (with_reducible repeat (first | apply yA | apply yB | apply yC)); exact HO294.out⟩, ⟨by (with_reducible repeat (first | refine yM ?_ _ | refine yO ?_ | refine yN ?_ _)); exact BK291.out⟩, ⟨by repeat (first | (with_reducible first | exact HB.out | apply yQ | apply yL | apply yP | refine yE ?_ GE291.out) | exact HB.out)⟩⟩
 case round =>
  clear H'
  try clear c1; try clear p2; try clear c5
  obtain ⟨x5_1, x16_1, rfl, HA, HK1, HO_5, BK291, HB⟩ := hrel
  cases gk with
  | zero => exact absurd HA.out (by simp [impl_Selection_slabIndices.l0])
  | succ k1 =>
   have H := HA.out; clear HA
   simp only [impl_Selection_slabIndices.l0] at H
   by_cases c6 : x16_1 < (l1.length : Int)
   ·
    rw [if_pos c6] at H; have c6b0 : decide (x16_1 < (l1.length : Int)) = true := zR c6; clear c6
    by_cases c7 : 0 ≤ x16_1
    ·
     rw [if_pos c7] at H; have c7b0 : decide (0 ≤ x16_1) = true := zR c7; clear c7
     by_cases c8 : x16_1 < (l1.length : Int)
     ·
      rw [if_pos c8] at H; have c8b0 : decide (x16_1 < (l1.length : Int)) = true := zR c8; clear c8
      have H' := yD H
      clear H
      have p295 : 0 ≤ (x16_1 : Int) := zP (by assumption)
      have q295 : x16_1 < (l1.length : Int) := zP (by assumption)
      obtain ⟨ad295, e295, hx295_0⟩ := Kd.at_int HR1.out x16_1 p295 q295
      cases e295
      replace hx295_0 := (HB.out.cell (zQ w _ hx295_0)).trans hx295_0
      replace p295 := eq_true p295; replace q295 := eq_true q295
      obtain ⟨Ao9, co9, eo9⟩ := Kd.R_slice HO_5.out
      subst eo9
      go_wp2
      go_loopg [8, 23] k1 (fun kq v8 v23 w' => ∃ (x8_2 : List Int) (x23_2 : Int), v23 = .int .i64 x23_2 ∧ Aside0 (impl_Selection_slabIndices.l1 kq x16_1 (rd l1 x16_1) x8_2 l1 (l1.length : Int) x16_1 x5_1 (x5_1.length : Int) x23_2 a0_0 l0_1 l0_2 l0_3 l0_4 l0_5 = some r) ∧ Aside0 (kq ≤ k1) ∧ Aside0 (Kd.R (Kd.int .i64) 2 w' w.heap.size (fun k_ => some k_ ≠ ((.slice Ao9 x5_1.length co9) : Value).ownBlock) v8 x8_2) ∧ Aside0 (Kd.R (Kd.int .i64) 2 w' w.heap.size (fun k_ => some k_ ≠ (v8 : Value).ownBlock) (.slice Ao9 x5_1.length co9) x5_1) ∧ Aside0 (w'.heap[gb291]? = some (.cells #[.int .i64 a0_0, (.slice A0_1 l0_1.length c0_1), (.slice A0_2 l0_2.length c0_2), (.slice A0_3 l0_3.length c0_3), (.slice A0_4 l0_4.length c0_4), (.slice A0_5 l0_5.length c0_5)] 41 (0, 0))) ∧ Aside0 (Below w.heap.size w w'))
      case atStart => exact ⟨(([] : List Int)), (0), (by first | rfl | (simp; done) | (simp [*]; done)), H', ⟨Nat.le_refl _⟩, ⟨by first | exact Kd.R_nil _ _ _ _ _ | exact Kd.N_nil _ _ _ _ _ | exact Kd.V_nil _ _ _ _ _ | exact Kd.Q_nil _ _ _ _ _ | exact Kd.S_nil _ _ _ _ _⟩, ⟨by (with_reducible repeat (first | apply yA | apply yB | apply yC)); exact zF HO_5.out (fun _ hk => (by simp [Value.ownBlock]))⟩, ⟨by (with_reducible repeat (first | refine yM ?_ _ | refine yO ?_ | refine yN ?_ _)); exact BK291.out⟩, ⟨by repeat (first | (with_reducible first | exact HB.out | apply yQ | apply yL | apply yP | refine yE ?_ GE291.out) | exact HB.out)⟩⟩
      case round =>
       clear H'
       try clear c1; try clear p2; try clear q2; try clear hx2; try clear c5; try clear c6; try clear c6b0; try clear c7; try clear c7b0; try clear c8; try clear c8b0; try clear hx295_0; try clear p2; try clear p295; try clear q295
       obtain ⟨x8_2, x23_2, rfl, HA, HK2, HO_8, HO_21, BK291, HB⟩ := hrel
       cases gk with
       | zero => exact absurd HA.out (by simp [impl_Selection_slabIndices.l1])
       | succ k2 =>
        have H := HA.out; clear HA
        simp only [impl_Selection_slabIndices.l1] at H
        by_cases c10 : x23_2 < (x5_1.length : Int)
        ·
         rw [if_pos c10] at H; have c10b0 : decide (x23_2 < (x5_1.length : Int)) = true := zR c10; clear c10
         by_cases c11 : 0 ≤ x23_2
         ·
          rw [if_pos c11] at H; have c11b0 : decide (0 ≤ x23_2) = true := zR c11; clear c11
          by_cases c12 : x23_2 < (x5_1.length : Int)
          ·
           rw [if_pos c12] at H; have c12b0 : decide (x23_2 < (x5_1.length : Int)) = true := zR c12; clear c12
           obtain ⟨t297, A130, H⟩ := zW_ H
           replace H : (impl_Selection_slabIndices.l2 k2 x16_1 (rd l1 x16_1) x8_2 (rd x5_1 x23_2) l1 (l1.length : Int) x16_1 x5_1 (x5_1.length : Int) x23_2 t297 (t297.length : Int) 0 a0_0 l0_1 l0_2 l0_3 l0_4 l0_5) = some r := H
           have A13 := yD A130
           clear A130
           have H' := yD H
           clear H
           have p296 : 0 ≤ (x23_2 : Int) := zP (by assumption)
           have q296 : x23_2 < (x5_1.length : Int) := zP (by assumption)
           obtain ⟨ad296, e296, hx296_0⟩ := Kd.at_int (zA HO_21.out).2.2 x23_2 p296 q296
           cases e296; replace p296 := eq_true p296; replace q296 := eq_true q296
           obtain ⟨hcz14_0, hcz14_1, hcz14_2, hcz14_3, hcz14_4, hcz14_5⟩ := cz6 BK291.out
           obtain ⟨hfz14_0, hfz14_1, hfz14_2, hfz14_3, hfz14_4, hfz14_5⟩ := fz6 BK291.out
           go_wp2_with (first | ((with_reducible refine gate_callee (f := 69) rfl ?_); refine goesL_ (some 29) rfl rfl Try.func69 (by kernel_rfl) rfl #[.agg #[.int .i64 a0_0, .slice A0_1 l0_1.length c0_1, .slice A0_2 l0_2.length c0_2, .slice A0_3 l0_3.length c0_3, .slice A0_4 l0_4.length c0_4, .slice A0_5 l0_5.length c0_5], .int .i64 x16_1] rfl (by (try simp only [zK, zL, zM]); first | done | rfl | (simp only [zN, zO]; rfl)) ?_; (with_reducible refine (impl_Selection_coordinates.calls k2 a0_0 _ _ l0_1 _ _ l0_2 _ _ l0_3 _ _ l0_4 _ _ l0_5 x16_1 t297 _ ?side1 ?side2 ?side3 ?side4 ?side5 ?side6 ?side7 ?side8 ?side9 ?side10 A13.out).mono ?_); (case side1 => repeat (first | exact (yY HR0_1.out HB.out) | (with_reducible first | refine yV ?_ _ | refine yW ?_ _ | refine yX ?_))); (case side2 => exact HC0_1.out); (case side3 => repeat (first | exact (yY HR0_2.out HB.out) | (with_reducible first | refine yV ?_ _ | refine yW ?_ _ | refine yX ?_))); (case side4 => exact HC0_2.out); (case side5 => repeat (first | exact (yY HR0_3.out HB.out) | (with_reducible first | refine yV ?_ _ | refine yW ?_ _ | refine yX ?_))); (case side6 => exact HC0_3.out); (case side7 => repeat (first | exact (yY HR0_4.out HB.out) | (with_reducible first | refine yV ?_ _ | refine yW ?_ _ | refine yX ?_))); (case side8 => exact HC0_4.out); (case side9 => repeat (first | exact (yY HR0_5.out HB.out) | (with_reducible first | refine yV ?_ _ | refine yW ?_ _ | refine yX ?_))); (case side10 => exact HC0_5.out); rintro e w15 ⟨v298, rfl, ho0, hb⟩; refine ⟨_, rfl, ?_⟩; have n0_ := yD (Kd.R_elder' (kA HO_8) (yH ho0) hb); have n1_ := yD (Kd.R_elder' (kA HO_21) (yH ho0) hb); have n2_ := yD (yZ (yJ (yJ ho0 (yK (kA HO_8))) (yK (kA HO_21))) (below_size (kB HB))); have n3_ := yD (zB (g := gb291) (o := .cells #[.int .i64 a0_0, .slice A0_1 l0_1.length c0_1, .slice A0_2 l0_2.length c0_2, .slice A0_3 l0_3.length c0_3, .slice A0_4 l0_4.length c0_4, .slice A0_5 l0_5.length c0_5] 41 (0, 0)) (kM BK291) hb); have n4_ := yD (zC (kB HB) hb); clear HO_8; clear HO_21; clear BK291; clear HB; have HO_8 := n0_; have HO_21 := n1_; have HO299 := n2_; have BK291 := n3_; have HB := n4_; clear n0_ n1_ n2_ n3_ n4_; (try clear hb); (try clear hb2); (try clear hk); (try clear hi); (try clear ho0); obtain ⟨Ao16, co16, eo16⟩ := Kd.R_slice HO299.out; subst eo16))
           go_loopg [8, 31] k2 (fun kq v8 v31 w' => ∃ (x8_3 : List Int) (x31_3 : Int), v31 = .int .i64 x31_3 ∧ Aside0 (impl_Selection_slabIndices.l2 kq x16_1 (rd l1 x16_1) x8_3 (rd x5_1 x23_2) l1 (l1.length : Int) x16_1 x5_1 (x5_1.length : Int) x23_2 t297 (t297.length : Int) x31_3 a0_0 l0_1 l0_2 l0_3 l0_4 l0_5 = some r) ∧ Aside0 (kq ≤ k2) ∧ Aside0 (Kd.R (Kd.int .i64) 2 w' w.heap.size (fun k_ => some k_ ≠ ((.slice (some ad296) x5_1.length co9) : Value).ownBlock ∧ some k_ ≠ ((.slice Ao16 t297.length co16) : Value).ownBlock) v8 x8_3) ∧ Aside0 (Kd.R (Kd.int .i64) 2 w' w.heap.size (fun k_ => some k_ ≠ (v8 : Value).ownBlock ∧ some k_ ≠ ((.slice Ao16 t297.length co16) : Value).ownBlock) (.slice (some ad296) x5_1.length co9) x5_1) ∧ Aside0 (Kd.R (Kd.int .i64) 2 w' w.heap.size (fun k_ => some k_ ≠ (v8 : Value).ownBlock ∧ some k_ ≠ ((.slice (some ad296) x5_1.length co9) : Value).ownBlock) (.slice Ao16 t297.length co16) t297) ∧ Aside0 (w'.heap[gb291]? = some (.cells #[.int .i64 a0_0, (.slice A0_1 l0_1.length c0_1), (.slice A0_2 l0_2.length c0_2), (.slice A0_3 l0_3.length c0_3), (.slice A0_4 l0_4.length c0_4), (.slice A0_5 l0_5.length c0_5)] 41 (0, 0))) ∧ Aside0 (Below w.heap.size w w'))
           case atStart => exact ⟨(x8_2), (0), (by first | rfl | (simp; done) | (simp [*]; done)), H', ⟨Nat.le_refl _⟩, ⟨by (with_reducible repeat (first | apply yA | apply yB | apply yC)); exact HO_8.out⟩, ⟨by (with_reducible repeat (first | apply yA | apply yB | apply yC)); exact HO_21.out⟩, ⟨by (with_reducible repeat (first | apply yA | apply yB | apply yC)); exact zF HO299.out (fun _ hk => ⟨hk.1.2, hk.2⟩)⟩, ⟨by (with_reducible repeat (first | refine yM ?_ _ | refine yO ?_ | refine yN ?_ _)); exact BK291.out⟩, ⟨by repeat (first | (with_reducible first | exact HB.out | apply yQ | apply yL | apply yP | refine yE ?_ GE291.out) | exact HB.out)⟩⟩
           case round =>
            clear H'
            try clear c1; try clear p2; try clear q2; try clear hx2; try clear c5; try clear c6; try clear c6b0; try clear c7; try clear c7b0; try clear c8; try clear c8b0; try clear c10; try clear c10b0; try clear c11; try clear c11b0; try clear c12; try clear c12b0; try clear hcz14_0; try clear hcz14_1; try clear hcz14_2; try clear hcz14_3; try clear hcz14_4; try clear hcz14_5; try clear hfz14_0; try clear hfz14_1; try clear hfz14_2; try clear hfz14_3; try clear hfz14_4; try clear hfz14_5; try clear hx295_0; try clear hx296_0; try clear p2; try clear p295; try clear p296; try clear q2; try clear q295; try clear q296
            obtain ⟨x8_3, x31_3, rfl, HA, HK3, HO_8, HO_21, HO_29, BK291, HB⟩ := hrel
            cases gk with
            | zero => exact absurd HA.out (by simp [impl_Selection_slabIndices.l2])
            | succ k3 =>
             have H := HA.out; clear HA
             simp only [impl_Selection_slabIndices.l2] at H
             by_cases c17 : x31_3 < (t297.length : Int)
             ·
              rw [if_pos c17] at H; have c17b0 : decide (x31_3 < (t297.length : Int)) = true := zR c17; clear c17
              by_cases c18 : 0 ≤ x31_3
              ·
               rw [if_pos c18] at H; have c18b0 : decide (0 ≤ x31_3) = true := zR c18; clear c18
               by_cases c19 : x31_3 < (t297.length : Int)
               ·
                rw [if_pos c19] at H; have c19b0 : decide (x31_3 < (t297.length : Int)) = true := zR c19; clear c19
                by_cases c20 : x8_3.length < 17592186044416
                ·
                 rw [if_pos c20] at H
                 have LMc20 := yD c20
                 clear c20
                 obtain ⟨y301, hy301⟩ : ∃ y_ : List Int, y_ = (x8_3 ++ [wrap64 ((wrap64 ((rd x5_1 x23_2) * (rd l1 x16_1))) + (rd t297 x31_3))]) := ⟨_, rfl⟩
                 replace H : (impl_Selection_slabIndices.l2 k3 x16_1 (rd l1 x16_1) y301 (rd x5_1 x23_2) l1 (l1.length : Int) x16_1 x5_1 (x5_1.length : Int) x23_2 t297 (t297.length : Int) (wrap64 (x31_3 + 1)) a0_0 l0_1 l0_2 l0_3 l0_4 l0_5) = some r := by first | (rw [hy301]; with_reducible exact H) | (have H2_ := (Option.bind_some _ _).symm.trans H; rw [hy301]; with_reducible exact H2_) | (have H2_ := (Option.bind_some _ _).symm.trans H; with_reducible exact H2_) | with_reducible exact H | (rw [hy301]; exact H) | exact H
                 have Ny301 := yD hy301
                 clear hy301
                 have H' := yD H
                 clear H
                 have p300 : 0 ≤ (x31_3 : Int) := zP (by assumption)
                 have q300 : x31_3 < (t297.length : Int) := zP (by assumption)
                 obtain ⟨ad300, e300, hx300_0⟩ := Kd.at_int (zA HO_29.out).2.2 x31_3 p300 q300
                 cases e300; replace p300 := eq_true p300; replace q300 := eq_true q300
                 go_wp2_with (first | ((with_reducible refine gate_builtin (b := .append) (xs := #[.tmp 35, .tmp 41]) rfl ?_); at_builtin; refine Kd.R_append (Kd.int .i64) (w0 := w) w.heap.size rfl (.tmp 35) (.tmp 41) 22 2 (.int .i64 0) 8 rfl Try.underlying22 info2 rfl (by decide) (by omega) u8 x8_3 (wrap64 ((wrap64 ((rd x5_1 x23_2) * (rd l1 x16_1))) + (rd t297 x31_3))) [.int .i64 (wrap64 ((wrap64 ((rd x5_1 x23_2) * (rd l1 x16_1))) + (rd t297 x31_3)))] (fun k_ => some k_ ≠ (.slice (some ad296) x5_1.length co9 : Value).ownBlock ∧ some k_ ≠ (.slice (some ad300) t297.length co16 : Value).ownBlock) (fun _ => False) rfl rfl ?aP (fun _ hk => hk.elim) ?aF ?aO ?aB ?aS ?aL ?_; (case aP => exact rfl); (case aB => exact (kB HB)); (case aF => exact (fun k_ hk => ⟨Kd.fresh' (yK (kA HO_21)) k_ hk, Kd.fresh' (yK (kA HO_29)) k_ hk⟩)); (case aO => exact (kA HO_8)); (case aS => exact (below_size (kB HB))); (case aL => have := LMc20.out; omega); intro v302 w21 ho hb hg hat; rw [← Ny301.out] at ho; have n0_ := yD (Kd.R_after (ok := (fun k_ => some k_ ≠ (.slice (some ad300) t297.length co16 : Value).ownBlock)) (by (with_reducible repeat (first | apply yA | apply yB | apply yC)); exact zF HO_21.out (fun _ hk => ⟨hk.2, hk.1⟩)) hg hat); have n1_ := yD (Kd.R_after (ok := (fun k_ => some k_ ≠ (.slice (some ad296) x5_1.length co9 : Value).ownBlock)) (by (with_reducible repeat (first | apply yA | apply yB | apply yC)); exact zF HO_29.out (fun _ hk => ⟨hk.2, hk.1⟩)) hg hat); have n2_ := yD (blk_grown (g := gb291) (o := .cells #[.int .i64 a0_0, .slice A0_1 l0_1.length c0_1, .slice A0_2 l0_2.length c0_2, .slice A0_3 l0_3.length c0_3, .slice A0_4 l0_4.length c0_4, .slice A0_5 l0_5.length c0_5] 41 (0, 0)) (kM BK291) hg (Kd.R_ne HO_8.out BK291.out (by decide))); have n3_ := yD (hb); have n4_ := yD (ho); clear HO_21; clear HO_29; clear BK291; clear HB; clear HO_8; have HO_21 := n0_; have HO_29 := n1_; have BK291 := n2_; have HB := n3_; have HO303 := n4_; clear n0_ n1_ n2_ n3_ n4_; clear ho hb hg hat))
                 go_roundg k3
                 case measure => have := HK1.out; have := HK2.out; have := HK3.out; omega
                 case rel => exact ⟨(y301), (wrap64 (x31_3 + 1)), (by first | rfl | (simp; done) | (simp [*]; done)), H', ⟨by have := HK1.out; have := HK2.out; have := HK3.out; omega⟩, ⟨by (with_reducible repeat (first | apply yA | apply yB | apply yC)); exact HO303.out⟩, ⟨by (with_reducible repeat (first | apply yA | apply yB | apply yC)); exact zF HO_21.out (fun _ hk => ⟨hk.2, hk.1⟩)⟩, ⟨by (with_reducible repeat (first | apply yA | apply yB | apply yC)); exact zF HO_29.out (fun _ hk => ⟨hk.2, hk.1⟩)⟩, ⟨by (with_reducible repeat (first | refine yM ?_ _ | refine yO ?_ | refine yN ?_ _)); exact BK291.out⟩, ⟨by repeat (first | (with_reducible first | exact HB.out | apply yQ | apply yL | apply yP | refine yE ?_ GE291.out) | exact HB.out)⟩⟩
                ·
                 rw [if_neg c20] at H
                 exact absurd H (by simp)
               ·
                rw [if_neg c19] at H
                exact absurd H (by simp)
              ·
               rw [if_neg c18] at H
               exact absurd H (by simp)
             ·
              rw [if_neg c17] at H; have c17b0 : decide (x31_3 < (t297.length : Int)) = false := zS c17; clear c17
              have H' := yD H
              clear H
              go_wp2
              go_roundg k3
              case measure => have := HK1.out; have := HK2.out; have := HK3.out; omega
              case rel => exact ⟨(x8_3), (wrap64 (x23_2 + 1)), (by first | rfl | (simp; done) | (simp [*]; done)), H', ⟨by have := HK1.out; have := HK2.out; have := HK3.out; omega⟩, ⟨by (with_reducible repeat (first | apply yA | apply yB | apply yC)); exact zF HO_8.out (fun _ hk => hk.1)⟩, ⟨by (with_reducible repeat (first | apply yA | apply yB | apply yC)); exact zF HO_21.out (fun _ hk => hk.1)⟩, ⟨by (with_reducible repeat (first | refine yM ?_ _ | refine yO ?_ | refine yN ?_ _)); exact BK291.out⟩, ⟨by repeat (first | (with_reducible first | exact HB.out | apply yQ | apply yL | apply yP | refine yE ?_ GE291.out) | exact HB.out)⟩⟩
          ·
           rw [if_neg c12] at H
           exact absurd H (by simp)
         ·
          rw [if_neg c11] at H
          exact absurd H (by simp)
        ·
         rw [if_neg c10] at H; have c10b0 : decide (x23_2 < (x5_1.length : Int)) = false := zS c10; clear c10
         have H' := yD H
         clear H
         go_wp2
         go_roundg k2
         case measure => have := HK1.out; have := HK2.out; omega
         case rel => exact ⟨(x8_2), (wrap64 (x16_1 + 1)), (by first | rfl | (simp; done) | (simp [*]; done)), H', ⟨by have := HK1.out; have := HK2.out; omega⟩, ⟨by (with_reducible repeat (first | apply yA | apply yB | apply yC)); exact zF HO_8.out (fun _ hk => trivial)⟩, ⟨by (with_reducible repeat (first | refine yM ?_ _ | refine yO ?_ | refine yN ?_ _)); exact BK291.out⟩, ⟨by repeat (first | (with_reducible first | exact HB.out | apply yQ | apply yL | apply yP | refine yE ?_ GE291.out) | exact HB.out)⟩⟩
     ·
      rw [if_neg c8] at H
      exact absurd H (by simp)
    ·
     rw [if_neg c7] at H
     exact absurd H (by simp)
   ·
    rw [if_neg c6] at H; have c6b0 : decide (x16_1 < (l1.length : Int)) = false := zS c6; clear c6; obtain rfl := Option.some.inj H
    go_wp2
    go_ret
    exact ⟨_, by first | rfl | (simp <;> rfl) | (simp [*] <;> rfl), by (with_reducible repeat (first | apply yA | apply yB | apply yC)); exact HO_5.out, by repeat (first | (with_reducible first | exact HB.out | apply yQ | apply yL | apply yP | refine yE ?_ GE291.out) | exact HB.out)⟩

/-! ### impl_indexOf: function 42 -/
def impl_indexOf.l0 : Nat → List Int → Int → List Int → Int → Int → Option (Int)
 | 0, _, _, _, _, _ => none
 | k + 1, x0, x5, x8, x9, x10 => if x10 < x9 then (if 0 ≤ x10 then (if x10 < (x8.length : Int) then (if x10 < (x0.length : Int) then (impl_indexOf.l0 k x0 (wrap64 ((wrap64 (x5 * (rd x0 x10))) + (rd x8 x10))) x8 x9 (wrap64 (x10 + 1))) else (none)) else (none)) else (none)) else (some x5)
def impl_indexOf.f (k : Nat) (l0 : List Int) (l1 : List Int) : Option (Int) := impl_indexOf.l0 k l0 0 l1 (l1.length : Int) 0
theorem impl_indexOf.mono_l : ∀ k, (∀ y0 y1 y2 y3 y4, LeO (impl_indexOf.l0 k y0 y1 y2 y3 y4) (impl_indexOf.l0 (k + 1) y0 y1 y2 y3 y4))
 | 0 => fun _ _ _ _ _ r h => by simp [impl_indexOf.l0] at h
 | k + 1 => by
  have ih0 := impl_indexOf.mono_l k
  ·
   intro y0 y1 y2 y3 y4
   unfold impl_indexOf.l0
   repeat' first
   | (with_reducible exact ih0 _ _ _ _ _)
   | (with_reducible exact LeO.refl _)
   | (with_reducible exact LeO.none _)
   | (with_reducible refine LeO.ite ?_ ?_)
   | (with_reducible refine LeO.bind ?_ (fun _ => ?_))
   | exact ih0 _ _ _ _ _
   | exact LeO.none _
   | refine LeO.ite ?_ ?_
   | refine LeO.bind ?_ (fun _ => ?_)
theorem impl_indexOf.mono : ∀ a0 a1 k, LeO (impl_indexOf.f k a0 a1) (impl_indexOf.f (k + 1) a0 a1) := by
 intro a0 a1 k
 have ih0 := impl_indexOf.mono_l k
 unfold impl_indexOf.f
 repeat' first
   | (with_reducible exact ih0 _ _ _ _ _)
   | (with_reducible exact LeO.refl _)
   | (with_reducible exact LeO.none _)
   | (with_reducible refine LeO.ite ?_ ?_)
   | (with_reducible refine LeO.bind ?_ (fun _ => ?_))
   | exact ih0 _ _ _ _ _
   | exact LeO.none _
   | refine LeO.ite ?_ ?_
   | refine LeO.bind ?_ (fun _ => ?_)
set_option maxHeartbeats 8000000 in
set_option maxRecDepth 100000 in
theorem impl_indexOf.calls (k : Nat) (A0 : Option Addr) (c0 : Nat) (l0 : List Int) (A1 : Option Addr) (c1 : Nat) (l1 : List Int) (r : Int) (w : World) (hr0 : Kd.C (Kd.int .i64) w A0 l0.length l0) (hc0 : l0.length ≤ c0) (hr1 : Kd.C (Kd.int .i64) w A1 l1.length l1) (hc1 : l1.length ≤ c1) (h : impl_indexOf.f k l0 l1 = some r) :
  Calls Try.prog 42 #[.slice A0 l0.length c0, .slice A1 l1.length c1] w fun e w' => e = .returned (.int .i64 r) ∧ Drawn0 w w' := by
 have HR0 := yD hr0
 have HC0 := yD hc0
 clear hr0 hc0
 have HR1 := yD hr1
 have HC1 := yD hc1
 clear hr1 hc1
 have H : (impl_indexOf.l0 k l0 0 l1 (l1.length : Int) 0) = some r := h
 clear h
 have H' := yD H
 clear H; go_enter Try.func42, Try.ntmps42
 go_wp2
 go_loopg [5, 10] k (fun kq v5 v10 w' => ∃ (x5_1 : Int) (x10_1 : Int), v5 = .int .i64 x5_1 ∧ v10 = .int .i64 x10_1 ∧ Aside0 (impl_indexOf.l0 kq l0 x5_1 l1 (l1.length : Int) x10_1 = some r) ∧ Aside0 (kq ≤ k) ∧ Drawn0 w w')
 case atStart => exact ⟨(0), (0), (by first | rfl | (simp; done) | (simp [*]; done)), (by first | rfl | (simp; done) | (simp [*]; done)), H', ⟨Nat.le_refl _⟩, by repeat (first | exact Drawn0.refl _ | apply Drawn0.step)⟩
 case round =>
  clear H'
  try clear c1; try clear p2
  obtain ⟨x5_1, x10_1, rfl, rfl, HA, HK1, ⟨m1, rfl⟩⟩ := hrel
  cases gk with
  | zero => exact absurd HA.out (by simp [impl_indexOf.l0])
  | succ k1 =>
   have H := HA.out; clear HA
   simp only [impl_indexOf.l0] at H
   by_cases c3 : x10_1 < (l1.length : Int)
   ·
    rw [if_pos c3] at H; have c3b0 : decide (x10_1 < (l1.length : Int)) = true := zR c3; clear c3
    by_cases c4 : 0 ≤ x10_1
    ·
     rw [if_pos c4] at H; have c4b0 : decide (0 ≤ x10_1) = true := zR c4; clear c4
     by_cases c5 : x10_1 < (l1.length : Int)
     ·
      rw [if_pos c5] at H; have c5b0 : decide (x10_1 < (l1.length : Int)) = true := zR c5; clear c5
      by_cases c6 : x10_1 < (l0.length : Int)
      ·
       rw [if_pos c6] at H; have c6b0 : decide (x10_1 < (l0.length : Int)) = true := zR c6; clear c6
       have H' := yD H
       clear H
       have p304 : 0 ≤ (x10_1 : Int) := zP (by assumption)
       have q304 : x10_1 < (l1.length : Int) := zP (by assumption)
       obtain ⟨ad304, e304, hx304_0⟩ := Kd.at_int HR1.out x10_1 p304 q304
       cases e304; replace p304 := eq_true p304; replace q304 := eq_true q304
       have p305 : 0 ≤ (x10_1 : Int) := zP (by assumption)
       have q305 : x10_1 < (l0.length : Int) := zP (by assumption)
       obtain ⟨ad305, e305, hx305_0⟩ := Kd.at_int HR0.out x10_1 p305 q305
       cases e305; replace p305 := eq_true p305; replace q305 := eq_true q305
       go_wp2
       go_roundg k1
       case measure => have := HK1.out; omega
       case rel => exact ⟨(wrap64 ((wrap64 (x5_1 * (rd l0 x10_1))) + (rd l1 x10_1))), (wrap64 (x10_1 + 1)), (by first | rfl | (simp; done) | (simp [*]; done)), (by first | rfl | (simp; done) | (simp [*]; done)), H', ⟨by have := HK1.out; omega⟩, by repeat (first | exact Drawn0.refl _ | apply Drawn0.step)⟩
      ·
       rw [if_neg c6] at H
       exact absurd H (by simp)
     ·
      rw [if_neg c5] at H
      exact absurd H (by simp)
    ·
     rw [if_neg c4] at H
     exact absurd H (by simp)
   ·
    rw [if_neg c3] at H; have c3b0 : decide (x10_1 < (l1.length : Int)) = false := zS c3; clear c3; obtain rfl := Option.some.inj H
    go_wp2
    go_ret
    exact ⟨by first | rfl | (simp; done) | (simp [*]; done), by repeat (first | exact Drawn0.refl _ | apply Drawn0.step)⟩

/-! ### impl_Selection_indices: function 34 -/
mutual
def impl_Selection_indices.l0 : Nat → List Int → Int → Int → Option (List Int)
 | 0, _, _, _ => none
 | k + 1, x5, x14, x15 => if x15 < x14 then (if x5.length < 17592186044416 then (impl_Selection_indices.l0 k (x5 ++ [x15]) x14 (wrap64 (x15 + 1))) else (none)) else (some x5)
def impl_Selection_indices.l1 : Nat → List Int → List Int → List (S65) → Int → Int → Option (List Int)
 | 0, _, _, _, _, _ => none
 | k + 1, x1, x5, x31, x32, x33 => if x33 < x32 then (if 0 ≤ x33 then (if x33 < (x31.length : Int) then ((impl_indexOf.f k x1 ((rd_T65 x31 x33).f0)).bind fun t316 => (if x5.length < 17592186044416 then (impl_Selection_indices.l1 k x1 (x5 ++ [t316]) x31 x32 (wrap64 (x33 + 1))) else (none))) else (none)) else (none)) else (some x5)
end
def impl_Selection_indices.f (k : Nat) (a0_0 : Int) (l0_1 : List Int) (l0_2 : List Int) (l0_3 : List Int) (l0_4 : List Int) (l0_5 : List (S65)) (l1 : List Int) : Option (List Int) := if a0_0 = 1 then ((impl_product.f k l1).bind fun t307 => (impl_Selection_indices.l0 k ([] : List Int) t307 0)) else (if a0_0 = 3 then ((impl_Selection_slabIndices.f k a0_0 l0_1 l0_2 l0_3 l0_4 l0_5 l1).bind fun t311 => (some t311)) else (if a0_0 = 4 then (impl_Selection_indices.l1 k l1 ([] : List Int) l0_5 (l0_5.length : Int) 0) else (some ([] : List Int))))
theorem impl_Selection_indices.mono_l : ∀ k, (∀ y0 y1 y2, LeO (impl_Selection_indices.l0 k y0 y1 y2) (impl_Selection_indices.l0 (k + 1) y0 y1 y2)) ∧ (∀ y0 y1 y2 y3 y4, LeO (impl_Selection_indices.l1 k y0 y1 y2 y3 y4) (impl_Selection_indices.l1 (k + 1) y0 y1 y2 y3 y4))
 | 0 => ⟨fun _ _ _ r h => by simp [impl_Selection_indices.l0] at h, fun _ _ _ _ _ r h => by simp [impl_Selection_indices.l1] at h⟩
 | k + 1 => by
  obtain ⟨ih0, ih1⟩ := impl_Selection_indices.mono_l k
  refine ⟨?_, ?_⟩
  ·
   intro y0 y1 y2
   unfold impl_Selection_indices.l0
   repeat' first
   | (with_reducible exact ih0 _ _ _)
   | (with_reducible exact ih1 _ _ _ _ _)
   | (with_reducible exact impl_Selection_slabIndices.mono _ _ _ _ _ _ _ _)
   | (with_reducible exact impl_indexOf.mono _ _ _)
   | (with_reducible exact impl_product.mono _ _)
   | (with_reducible exact LeO.refl _)
   | (with_reducible exact LeO.none _)
   | (with_reducible refine LeO.ite ?_ ?_)
   | (with_reducible refine LeO.bind ?_ (fun _ => ?_))
   | exact ih0 _ _ _
   | exact ih1 _ _ _ _ _
   | exact impl_Selection_slabIndices.mono _ _ _ _ _ _ _ _
   | exact impl_indexOf.mono _ _ _
   | exact impl_product.mono _ _
   | exact LeO.none _
   | refine LeO.ite ?_ ?_
   | refine LeO.bind ?_ (fun _ => ?_)
  ·
   intro y0 y1 y2 y3 y4
   unfold impl_Selection_indices.l1
   repeat' first
   | (with_reducible exact ih0 _ _ _)
   | (with_reducible exact ih1 _ _ _ _ _)
   | (with_reducible exact impl_Selection_slabIndices.mono _ _ _ _ _ _ _ _)
   | (with_reducible exact impl_indexOf.mono _ _ _)
   | (with_reducible exact impl_product.mono _ _)
   | (with_reducible exact LeO.refl _)
   | (with_reducible exact LeO.none _)
   | (with_reducible refine LeO.ite ?_ ?_)
   | (with_reducible refine LeO.bind ?_ (fun _ => ?_))
   | exact ih0 _ _ _
   | exact ih1 _ _ _ _ _
   | exact impl_Selection_slabIndices.mono _ _ _ _ _ _ _ _
   | exact impl_indexOf.mono _ _ _
   | exact impl_product.mono _ _
   | exact LeO.none _
   | refine LeO.ite ?_ ?_
   | refine LeO.bind ?_ (fun _ => ?_)
theorem impl_Selection_indices.mono : ∀ a0 a1 a2 a3 a4 a5 a6 k, LeO (impl_Selection_indices.f k a0 a1 a2 a3 a4 a5 a6) (impl_Selection_indices.f (k + 1) a0 a1 a2 a3 a4 a5 a6) := by
 intro a0 a1 a2 a3 a4 a5 a6 k
 obtain ⟨ih0, ih1⟩ := impl_Selection_indices.mono_l k
 unfold impl_Selection_indices.f
 repeat' first
   | (with_reducible exact ih0 _ _ _)
   | (with_reducible exact ih1 _ _ _ _ _)
   | (with_reducible exact impl_Selection_slabIndices.mono _ _ _ _ _ _ _ _)
   | (with_reducible exact impl_indexOf.mono _ _ _)
   | (with_reducible exact impl_product.mono _ _)
   | (with_reducible exact LeO.refl _)
   | (with_reducible exact LeO.none _)
   | (with_reducible refine LeO.ite ?_ ?_)
   | (with_reducible refine LeO.bind ?_ (fun _ => ?_))
   | exact ih0 _ _ _
   | exact ih1 _ _ _ _ _
   | exact impl_Selection_slabIndices.mono _ _ _ _ _ _ _ _
   | exact impl_indexOf.mono _ _ _
   | exact impl_product.mono _ _
   | exact LeO.none _
   | refine LeO.ite ?_ ?_
   | refine LeO.bind ?_ (fun _ => ?_)
set_option maxHeartbeats 8000000 in
set_option maxRecDepth 100000 in
theorem impl_Selection_indices.calls (k : Nat) (a0_0 : Int) (A0_1 : Option Addr) (c0_1 : Nat) (l0_1 : List Int) (A0_2 : Option Addr) (c0_2 : Nat) (l0_2 : List Int) (A0_3 : Option Addr) (c0_3 : Nat) (l0_3 : List Int) (A0_4 : Option Addr) (c0_4 : Nat) (l0_4 : List Int) (A0_5 : Option Addr) (c0_5 : Nat) (l0_5 : List (S65)) (A1 : Option Addr) (c1 : Nat) (l1 : List Int) (r : List Int) (w : World) (hr0_1 : Kd.C (Kd.int .i64) w A0_1 l0_1.length l0_1) (hc0_1 : l0_1.length ≤ c0_1) (hr0_2 : Kd.C (Kd.int .i64) w A0_2 l0_2.length l0_2) (hc0_2 : l0_2.length ≤ c0_2) (hr0_3 : Kd.C (Kd.int .i64) w A0_3 l0_3.length l0_3) (hc0_3 : l0_3.length ≤ c0_3) (hr0_4 : Kd.C (Kd.int .i64) w A0_4 l0_4.length l0_4) (hc0_4 : l0_4.length ≤ c0_4) (hr0_5 : Kd.C k65 w A0_5 l0_5.length l0_5) (hc0_5 : l0_5.length ≤ c0_5) (hr1 : Kd.C (Kd.int .i64) w A1 l1.length l1) (hc1 : l1.length ≤ c1) (h : impl_Selection_indices.f k a0_0 l0_1 l0_2 l0_3 l0_4 l0_5 l1 = some r) :
  Calls Try.prog 34 #[.agg #[.int .i64 a0_0, .slice A0_1 l0_1.length c0_1, .slice A0_2 l0_2.length c0_2, .slice A0_3 l0_3.length c0_3, .slice A0_4 l0_4.length c0_4, .slice A0_5 l0_5.length c0_5], .slice A1 l1.length c1] w fun e w' => ∃ v0_ : Value, e = .returned (v0_) ∧ Kd.R (Kd.int .i64) 2 w' w.heap.size (fun _ => True) v0_ r ∧ Below w.heap.size w w' := by
 have hu41 := Try.underlying41; have hu65 := Try.underlying65
 have HR0_1 := yD hr0_1
 have HC0_1 := yD hc0_1
 clear hr0_1 hc0_1
 have HR0_2 := yD hr0_2
 have HC0_2 := yD hc0_2
 clear hr0_2 hc0_2
 have HR0_3 := yD hr0_3
 have HC0_3 := yD hc0_3
 clear hr0_3 hc0_3
 have HR0_4 := yD hr0_4
 have HC0_4 := yD hc0_4
 clear hr0_4 hc0_4
 have HR0_5 := yD hr0_5
 have HC0_5 := yD hc0_5
 clear hr0_5 hc0_5
 have HR1 := yD hr1
 have HC1 := yD hc1
 clear hr1 hc1
 have HB := yD (Below.refl w.heap.size w)
 have H : (if a0_0 = 1 then ((impl_product.f k l1).bind fun t307 => (impl_Selection_indices.l0 k ([] : List Int) t307 0)) else (if a0_0 = 3 then ((impl_Selection_slabIndices.f k a0_0 l0_1 l0_2 l0_3 l0_4 l0_5 l1).bind fun t311 => (some t311)) else (if a0_0 = 4 then (impl_Selection_indices.l1 k l1 ([] : List Int) l0_5 (l0_5.length : Int) 0) else (some ([] : List Int))))) = some r := h
 clear h
 by_cases c3 : a0_0 = 1
 ·
  rw [if_pos c3] at H
  have c3b0 : (a0_0 == 1) = true := beq_iff_eq.mpr c3
  have c3b1 : (a0_0 != 1) = false := bne_eq_false_iff_eq.mpr c3
  clear c3
  obtain ⟨t307, A40, H⟩ := zW_ H
  replace H : (impl_Selection_indices.l0 k ([] : List Int) t307 0) = some r := H
  have A4 := yD A40
  clear A40
  have H' := yD H
  clear H; go_enter Try.func34, Try.ntmps34
  go_wp2_with (first | ((with_reducible refine gate_dst (N := 2) rfl ?_); refine box_event ?hg (N := 2) ?hd (cs := #[.int .i64 a0_0, .slice A0_1 l0_1.length c0_1, .slice A0_2 l0_2.length c0_2, .slice A0_3 l0_3.length c0_3, .slice A0_4 l0_4.length c0_4, .slice A0_5 l0_5.length c0_5]) (t := 41) ?hr ?_; (case hd => rfl); (case hg => rfl); (case hr => first | (go_simp; done) | (go_simp; rfl)); intro gb306 hg w5 hbox hb; have n0_ := yD (zC (kB HB) hb); have n1_ := yD (hbox); have n2_ := yD ((by rw [hg]; exact (below_size (kB HB)) : w.heap.size ≤ gb306)); have n3_ := yD ((by rw [hg]; exact (below_size (kB HB)) : w.heap.size ≤ gb306)); clear HB; have HB := n0_; have BK306 := n1_; have GW306 := n2_; have GE306 := n3_; clear n0_ n1_ n2_ n3_; clear hb hbox hg; obtain ⟨hcz6_0, hcz6_1, hcz6_2, hcz6_3, hcz6_4, hcz6_5⟩ := cz6 BK306.out; obtain ⟨hfz6_0, hfz6_1, hfz6_2, hfz6_3, hfz6_4, hfz6_5⟩ := fz6 BK306.out) | ((with_reducible refine gate_callee (f := 53) rfl ?_); refine goesL_ (some 14) rfl rfl Try.func53 (by kernel_rfl) rfl #[.slice A1 l1.length c1] rfl (by (try simp only [zK, zL, zM]); first | done | rfl | (simp only [zN, zO]; rfl)) ?_; (with_reducible refine (impl_product.calls k _ _ l1 t307 _ ?side1 ?side2 A4.out).mono ?_); (case side1 => repeat (first | exact (yY HR1.out HB.out) | (with_reducible first | refine yV ?_ _ | refine yW ?_ _ | refine yX ?_))); (case side2 => exact HC1.out); rintro e w' ⟨rfl, ⟨nd, rfl⟩⟩; refine ⟨_, rfl, ?_⟩))
  go_loopg [5, 15] k (fun kq v5 v15 w' => ∃ (x5_1 : List Int) (x15_1 : Int), v15 = .int .i64 x15_1 ∧ Aside0 (impl_Selection_indices.l0 kq x5_1 t307 x15_1 = some r) ∧ Aside0 (kq ≤ k) ∧ Aside0 (Kd.R (Kd.int .i64) 2 w' w.heap.size (fun _ => True) v5 x5_1) ∧ Aside0 (w'.heap[gb306]? = some (.cells #[.int .i64 a0_0, (.slice A0_1 l0_1.length c0_1), (.slice A0_2 l0_2.length c0_2), (.slice A0_3 l0_3.length c0_3), (.slice A0_4 l0_4.length c0_4), (.slice A0_5 l0_5.length c0_5)] 41 (0, 0))) ∧ Aside0 (Below w.heap.size w w'))
  case atStart => exact ⟨(([] : List Int)), (0), (by first | rfl | (simp; done) | (simp [*]; done)), H', ⟨Nat.le_refl _⟩, ⟨by first | exact Kd.R_nil _ _ _ _ _ | exact Kd.N_nil _ _ _ _ _ | exact Kd.V_nil _ _ _ _ _ | exact Kd.Q_nil _ _ _ _ _ | exact Kd.S_nil _ _ _ _ _⟩, ⟨by (with_reducible repeat (first | refine yM ?_ _ | refine yO ?_ | refine yN ?_ _)); exact BK306.out⟩, ⟨by repeat (first | (with_reducible first | exact HB.out | apply yQ | apply yL | apply yP | refine yE ?_ GE306.out) | exact HB.out)⟩⟩
  case round =>
   clear H'
   try clear c1; try clear p2; try clear c3; try clear c3b0; try clear c3b1; try clear c5; try clear hcz6_0; try clear hcz6_1; try clear hcz6_2; try clear hcz6_3; try clear hcz6_4; try clear hcz6_5; try clear hfz6_0; try clear hfz6_1; try clear hfz6_2; try clear hfz6_3; try clear hfz6_4; try clear hfz6_5
   obtain ⟨x5_1, x15_1, rfl, HA, HK1, HO_5, BK306, HB⟩ := hrel
   cases gk with
   | zero => exact absurd HA.out (by simp [impl_Selection_indices.l0])
   | succ k1 =>
    have H := HA.out; clear HA
    simp only [impl_Selection_indices.l0] at H
    by_cases c7 : x15_1 < t307
    ·
     rw [if_pos c7] at H; have c7b0 : decide (x15_1 < t307) = true := zR c7; clear c7
     by_cases c8 : x5_1.length < 17592186044416
     ·
      rw [if_pos c8] at H
      have LMc8 := yD c8
      clear c8
      obtain ⟨y308, hy308⟩ : ∃ y_ : List Int, y_ = (x5_1 ++ [x15_1]) := ⟨_, rfl⟩
      replace H : (impl_Selection_indices.l0 k1 y308 t307 (wrap64 (x15_1 + 1))) = some r := by first | (rw [hy308]; with_reducible exact H) | (have H2_ := (Option.bind_some _ _).symm.trans H; rw [hy308]; with_reducible exact H2_) | (have H2_ := (Option.bind_some _ _).symm.trans H; with_reducible exact H2_) | with_reducible exact H | (rw [hy308]; exact H) | exact H
      have Ny308 := yD hy308
      clear hy308
      have H' := yD H
      clear H
      go_wp2_with (first | ((with_reducible refine gate_builtin (b := .append) (xs := #[.tmp 18, .tmp 20]) rfl ?_); at_builtin; refine Kd.R_append (Kd.int .i64) (w0 := w) w.heap.size rfl (.tmp 18) (.tmp 20) 22 2 (.int .i64 0) 8 rfl Try.underlying22 info2 rfl (by decide) (by omega) u5 x5_1 x15_1 [.int .i64 x15_1] (fun _ => True) (fun _ => False) rfl rfl ?aP (fun _ hk => hk.elim) ?aF ?aO ?aB ?aS ?aL ?_; (case aP => exact rfl); (case aB => exact (kB HB)); (case aF => exact (fun _ _ => trivial)); (case aO => exact (kA HO_5)); (case aS => exact (below_size (kB HB))); (case aL => have := LMc8.out; omega); intro v309 w9 ho hb hg hat; rw [← Ny308.out] at ho; have n0_ := yD (blk_grown (g := gb306) (o := .cells #[.int .i64 a0_0, .slice A0_1 l0_1.length c0_1, .slice A0_2 l0_2.length c0_2, .slice A0_3 l0_3.length c0_3, .slice A0_4 l0_4.length c0_4, .slice A0_5 l0_5.length c0_5] 41 (0, 0)) (kM BK306) hg (Kd.R_ne HO_5.out BK306.out (by decide))); have n1_ := yD (hb); have n2_ := yD (ho); clear BK306; clear HB; clear HO_5; have BK306 := n0_; have HB := n1_; have HO310 := n2_; clear n0_ n1_ n2_; clear ho hb hg hat))
      go_roundg k1
      case measure => have := HK1.out; omega
      case rel => exact ⟨(y308), (wrap64 (x15_1 + 1)), (by first | rfl | (simp; done) | (simp [*]; done)), H', ⟨by have := HK1.out; omega⟩, ⟨by (with_reducible repeat (first | apply yA | apply yB | apply yC)); exact HO310.out⟩, ⟨by (with_reducible repeat (first | refine yM ?_ _ | refine yO ?_ | refine yN ?_ _)); exact BK306.out⟩, ⟨by repeat (first | (with_reducible first | exact HB.out | apply yQ | apply yL | apply yP | refine yE ?_ GE306.out) | exact HB.out)⟩⟩
     ·
      rw [if_neg c8] at H
      exact absurd H (by simp)
    ·
     rw [if_neg c7] at H; have c7b0 : decide (x15_1 < t307) = false := zS c7; clear c7; obtain rfl := Option.some.inj H
     go_wp2
     go_ret
     exact ⟨_, by first | rfl | (simp <;> rfl) | (simp [*] <;> rfl), by (with_reducible repeat (first | apply yA | apply yB | apply yC)); exact HO_5.out, by repeat (first | (with_reducible first | exact HB.out | apply yQ | apply yL | apply yP | refine yE ?_ GE306.out) | exact HB.out)⟩
 ·
  rw [if_neg c3] at H
  have c3b0 : (a0_0 == 1) = false := beq_eq_false_iff_ne.mpr c3
  have c3b1 : (a0_0 != 1) = true := bne_iff_ne.mpr c3
  by_cases c10 : a0_0 = 3
  ·
   rw [if_pos c10] at H
   have c10b0 : (a0_0 == 3) = true := beq_iff_eq.mpr c10
   have c10b1 : (a0_0 != 3) = false := bne_eq_false_iff_eq.mpr c10
   clear c10
   obtain ⟨t311, A110, H⟩ := zW_ H
   replace H : (some t311) = some r := H
   have A11 := yD A110
   clear A110; obtain rfl := Option.some.inj H; go_enter Try.func34, Try.ntmps34
   go_wp2_with (first | ((with_reducible refine gate_dst (N := 2) rfl ?_); refine box_event ?hg (N := 2) ?hd (cs := #[.int .i64 a0_0, .slice A0_1 l0_1.length c0_1, .slice A0_2 l0_2.length c0_2, .slice A0_3 l0_3.length c0_3, .slice A0_4 l0_4.length c0_4, .slice A0_5 l0_5.length c0_5]) (t := 41) ?hr ?_; (case hd => rfl); (case hg => rfl); (case hr => first | (go_simp; done) | (go_simp; rfl)); intro gb306 hg w12 hbox hb; have n0_ := yD (zC (kB HB) hb); have n1_ := yD (hbox); have n2_ := yD ((by rw [hg]; exact (below_size (kB HB)) : w.heap.size ≤ gb306)); have n3_ := yD ((by rw [hg]; exact (below_size (kB HB)) : w.heap.size ≤ gb306)); clear HB; have HB := n0_; have BK306 := n1_; have GW306 := n2_; have GE306 := n3_; clear n0_ n1_ n2_ n3_; clear hb hbox hg; obtain ⟨hcz13_0, hcz13_1, hcz13_2, hcz13_3, hcz13_4, hcz13_5⟩ := cz6 BK306.out; obtain ⟨hfz13_0, hfz13_1, hfz13_2, hfz13_3, hfz13_4, hfz13_5⟩ := fz6 BK306.out) | ((with_reducible refine gate_callee (f := 54) rfl ?_); refine goesL_ (some 27) rfl rfl Try.func54 (by kernel_rfl) rfl #[.agg #[.int .i64 a0_0, .slice A0_1 l0_1.length c0_1, .slice A0_2 l0_2.length c0_2, .slice A0_3 l0_3.length c0_3, .slice A0_4 l0_4.length c0_4, .slice A0_5 l0_5.length c0_5], .slice A1 l1.length c1] rfl (by (try simp only [zK, zL, zM]); first | done | rfl | (simp only [zN, zO]; rfl)) ?_; (with_reducible refine (impl_Selection_slabIndices.calls k a0_0 _ _ l0_1 _ _ l0_2 _ _ l0_3 _ _ l0_4 _ _ l0_5 _ _ l1 t311 _ ?side1 ?side2 ?side3 ?side4 ?side5 ?side6 ?side7 ?side8 ?side9 ?side10 ?side11 ?side12 A11.out).mono ?_); (case side1 => repeat (first | exact (yY HR0_1.out HB.out) | (with_reducible first | refine yV ?_ _ | refine yW ?_ _ | refine yX ?_))); (case side2 => exact HC0_1.out); (case side3 => repeat (first | exact (yY HR0_2.out HB.out) | (with_reducible first | refine yV ?_ _ | refine yW ?_ _ | refine yX ?_))); (case side4 => exact HC0_2.out); (case side5 => repeat (first | exact (yY HR0_3.out HB.out) | (with_reducible first | refine yV ?_ _ | refine yW ?_ _ | refine yX ?_))); (case side6 => exact HC0_3.out); (case side7 => repeat (first | exact (yY HR0_4.out HB.out) | (with_reducible first | refine yV ?_ _ | refine yW ?_ _ | refine yX ?_))); (case side8 => exact HC0_4.out); (case side9 => repeat (first | exact (yY HR0_5.out HB.out) | (with_reducible first | refine yV ?_ _ | refine yW ?_ _ | refine yX ?_))); (case side10 => exact HC0_5.out); (case side11 => repeat (first | exact (yY HR1.out HB.out) | (with_reducible first | refine yV ?_ _ | refine yW ?_ _ | refine yX ?_))); (case side12 => exact HC1.out); rintro e w14 ⟨v312, rfl, ho0, hb⟩; refine ⟨_, rfl, ?_⟩; have n0_ := yD (yZ ho0 (below_size (kB HB))); have n1_ := yD (zB (g := gb306) (o := .cells #[.int .i64 a0_0, .slice A0_1 l0_1.length c0_1, .slice A0_2 l0_2.length c0_2, .slice A0_3 l0_3.length c0_3, .slice A0_4 l0_4.length c0_4, .slice A0_5 l0_5.length c0_5] 41 (0, 0)) (kM BK306) hb); have n2_ := yD (zC (kB HB) hb); clear BK306; clear HB; have HO313 := n0_; have BK306 := n1_; have HB := n2_; clear n0_ n1_ n2_; (try clear hb); (try clear hb2); (try clear hk); (try clear hi); (try clear ho0)))
   go_ret
   exact ⟨_, by first | rfl | (simp <;> rfl) | (simp [*] <;> rfl), by (with_reducible repeat (first | apply yA | apply yB | apply yC)); exact HO313.out, by repeat (first | (with_reducible first | exact HB.out | apply yQ | apply yL | apply yP | refine yE ?_ GE306.out) | exact HB.out)⟩
  ·
   rw [if_neg c10] at H
   have c10b0 : (a0_0 == 3) = false := beq_eq_false_iff_ne.mpr c10
   have c10b1 : (a0_0 != 3) = true := bne_iff_ne.mpr c10
   by_cases c15 : a0_0 = 4
   ·
    rw [if_pos c15] at H
    have c15b0 : (a0_0 == 4) = true := beq_iff_eq.mpr c15
    have c15b1 : (a0_0 != 4) = false := bne_eq_false_iff_eq.mpr c15
    clear c15
    have H' := yD H
    clear H; go_enter Try.func34, Try.ntmps34
    go_wp2_with (first | ((with_reducible refine gate_dst (N := 2) rfl ?_); refine box_event ?hg (N := 2) ?hd (cs := #[.int .i64 a0_0, .slice A0_1 l0_1.length c0_1, .slice A0_2 l0_2.length c0_2, .slice A0_3 l0_3.length c0_3, .slice A0_4 l0_4.length c0_4, .slice A0_5 l0_5.length c0_5]) (t := 41) ?hr ?_; (case hd => rfl); (case hg => rfl); (case hr => first | (go_simp; done) | (go_simp; rfl)); intro gb306 hg w16 hbox hb; have n0_ := yD (zC (kB HB) hb); have n1_ := yD (hbox); have n2_ := yD ((by rw [hg]; exact (below_size (kB HB)) : w.heap.size ≤ gb306)); have n3_ := yD ((by rw [hg]; exact (below_size (kB HB)) : w.heap.size ≤ gb306)); clear HB; have HB := n0_; have BK306 := n1_; have GW306 := n2_; have GE306 := n3_; clear n0_ n1_ n2_ n3_; clear hb hbox hg; obtain ⟨hcz17_0, hcz17_1, hcz17_2, hcz17_3, hcz17_4, hcz17_5⟩ := cz6 BK306.out; obtain ⟨hfz17_0, hfz17_1, hfz17_2, hfz17_3, hfz17_4, hfz17_5⟩ := fz6 BK306.out))
    go_loopg [5, 33] k (fun kq v5 v33 w' => ∃ (x5_1 : List Int) (x33_1 : Int), v33 = .int .i64 x33_1 ∧ Aside0 (impl_Selection_indices.l1 kq l1 x5_1 l0_5 (l0_5.length : Int) x33_1 = some r) ∧ Aside0 (kq ≤ k) ∧ Aside0 (Kd.R (Kd.int .i64) 2 w' w.heap.size (fun _ => True) v5 x5_1) ∧ Aside0 (w'.heap[gb306]? = some (.cells #[.int .i64 a0_0, (.slice A0_1 l0_1.length c0_1), (.slice A0_2 l0_2.length c0_2), (.slice A0_3 l0_3.length c0_3), (.slice A0_4 l0_4.length c0_4), (.slice A0_5 l0_5.length c0_5)] 41 (0, 0))) ∧ Aside0 (Below w.heap.size w w'))
    case atStart => exact ⟨(([] : List Int)), (0), (by first | rfl | (simp; done) | (simp [*]; done)), H', ⟨Nat.le_refl _⟩, ⟨by first | exact Kd.R_nil _ _ _ _ _ | exact Kd.N_nil _ _ _ _ _ | exact Kd.V_nil _ _ _ _ _ | exact Kd.Q_nil _ _ _ _ _ | exact Kd.S_nil _ _ _ _ _⟩, ⟨by (with_reducible repeat (first | refine yM ?_ _ | refine yO ?_ | refine yN ?_ _)); exact BK306.out⟩, ⟨by repeat (first | (with_reducible first | exact HB.out | apply yQ | apply yL | apply yP | refine yE ?_ GE306.out) | exact HB.out)⟩⟩
    case round =>
     clear H'
     try clear c1; try clear p2; try clear c3; try clear c3b0; try clear c3b1; try clear c5; try clear p6; try clear c7; try clear c7b0; try clear c8; try clear c10; try clear c10b0; try clear c10b1; try clear c15; try clear c15b0; try clear c15b1; try clear hcz13_0; try clear hcz13_1; try clear hcz13_2; try clear hcz13_3; try clear hcz13_4; try clear hcz13_5; try clear hcz17_0; try clear hcz17_1; try clear hcz17_2; try clear hcz17_3; try clear hcz17_4; try clear hcz17_5; try clear hcz6_0; try clear hcz6_1; try clear hcz6_2; try clear hcz6_3; try clear hcz6_4; try clear hcz6_5; try clear hfz13_0; try clear hfz13_1; try clear hfz13_2; try clear hfz13_3; try clear hfz13_4; try clear hfz13_5; try clear hfz17_0; try clear hfz17_1; try clear hfz17_2; try clear hfz17_3; try clear hfz17_4; try clear hfz17_5; try clear hfz6_0; try clear hfz6_1; try clear hfz6_2; try clear hfz6_3; try clear hfz6_4; try clear hfz6_5; try clear p2
     obtain ⟨x5_1, x33_1, rfl, HA, HK1, HO_5, BK306, HB⟩ := hrel
     cases gk with
     | zero => exact absurd HA.out (by simp [impl_Selection_indices.l1])
     | succ k1 =>
      have H := HA.out; clear HA
      simp only [impl_Selection_indices.l1] at H
      by_cases c18 : x33_1 < (l0_5.length : Int)
      ·
       rw [if_pos c18] at H; have c18b0 : decide (x33_1 < (l0_5.length : Int)) = true := zR c18; clear c18
       by_cases c19 : 0 ≤ x33_1
       ·
        rw [if_pos c19] at H; have c19b0 : decide (0 ≤ x33_1) = true := zR c19; clear c19
        by_cases c20 : x33_1 < (l0_5.length : Int)
        ·
         rw [if_pos c20] at H; have c20b0 : decide (x33_1 < (l0_5.length : Int)) = true := zR c20; clear c20
         obtain ⟨t316, A210, H⟩ := zW_ H
         replace H : (if x5_1.length < 17592186044416 then (impl_Selection_indices.l1 k1 l1 (x5_1 ++ [t316]) l0_5 (l0_5.length : Int) (wrap64 (x33_1 + 1))) else (none)) = some r := H
         have A21 := yD A210
         clear A210
         by_cases c22 : x5_1.length < 17592186044416
         ·
          rw [if_pos c22] at H
          have LMc22 := yD c22
          clear c22
          obtain ⟨y317, hy317⟩ : ∃ y_ : List Int, y_ = (x5_1 ++ [t316]) := ⟨_, rfl⟩
          replace H : (impl_Selection_indices.l1 k1 l1 y317 l0_5 (l0_5.length : Int) (wrap64 (x33_1 + 1))) = some r := by first | (rw [hy317]; with_reducible exact H) | (have H2_ := (Option.bind_some _ _).symm.trans H; rw [hy317]; with_reducible exact H2_) | (have H2_ := (Option.bind_some _ _).symm.trans H; with_reducible exact H2_) | with_reducible exact H | (rw [hy317]; exact H) | exact H
          have Ny317 := yD hy317
          clear hy317
          have H' := yD H
          clear H
          have p314 : 0 ≤ (x33_1 : Int) := zP (by assumption)
          have q314 : x33_1 < (l0_5.length : Int) := zP (by assumption)
          obtain ⟨ad314, A314_0, c314_0, e314, hx314_0, hl314_0, hi314_0⟩ := at_T65 HR0_5.out x33_1 p314 q314
          cases e314
          replace hx314_0 := (HB.out.cell (zQ w _ hx314_0)).trans hx314_0
          have HR314_0 := yD hi314_0
          have HC314_0 := yD hl314_0
          clear hi314_0 hl314_0; replace p314 := eq_true p314; replace q314 := eq_true q314
          go_wp2_with (first | ((with_reducible refine gate_dst (N := 8) rfl ?_); refine box_event ?hg (N := 8) ?hd (cs := #[.slice none 0 0]) (t := 65) ?hr ?_; (case hd => rfl); (case hg => rfl); (case hr => first | (go_simp; done) | (go_simp; rfl)); intro gb315 hg w23 hbox hb; have n0_ := yD (zE (kA HO_5) hb); have n1_ := yD (zB (g := gb306) (o := .cells #[.int .i64 a0_0, .slice A0_1 l0_1.length c0_1, .slice A0_2 l0_2.length c0_2, .slice A0_3 l0_3.length c0_3, .slice A0_4 l0_4.length c0_4, .slice (some ad314) l0_5.length c0_5] 41 (0, 0)) (kM BK306) hb); have n2_ := yD (zC (kB HB) hb); have n3_ := yD (hbox); have n4_ := yD ((by rw [hg]; exact (below_size (kB HB)) : w.heap.size ≤ gb315)); have n5_ := yD ((by rw [hg]; exact (below_size (kB HB)) : w.heap.size ≤ gb315)); have n6_ := yD ((by rw [hg]; exact Nat.ne_of_lt (blk_lt (g := gb306) (o := .cells #[.int .i64 a0_0, .slice A0_1 l0_1.length c0_1, .slice A0_2 l0_2.length c0_2, .slice A0_3 l0_3.length c0_3, .slice A0_4 l0_4.length c0_4, .slice (some ad314) l0_5.length c0_5] 41 (0, 0)) (kM BK306)) : gb306 ≠ gb315)); have n7_ := yD ((by rw [hg]; exact Nat.ne_of_gt (blk_lt (g := gb306) (o := .cells #[.int .i64 a0_0, .slice A0_1 l0_1.length c0_1, .slice A0_2 l0_2.length c0_2, .slice A0_3 l0_3.length c0_3, .slice A0_4 l0_4.length c0_4, .slice (some ad314) l0_5.length c0_5] 41 (0, 0)) (kM BK306)) : gb315 ≠ gb306)); clear HO_5; clear BK306; clear HB; have HO_5 := n0_; have BK306 := n1_; have HB := n2_; have BK315 := n3_; have GW315 := n4_; have GE315 := n5_; have NB306_315 := n6_; have NB315_306 := n7_; clear n0_ n1_ n2_ n3_ n4_ n5_ n6_ n7_; clear hb hbox hg; have hnb24 := NB315_306.out; have hnc24 := NB306_315.out; have hcz25_0 : w23.cell? ⟨gb315, 0, none⟩ = some (.slice none 0 0) := (yG BK315.out 0).trans rfl; have hfz25_0 := yR BK315.out 0) | ((with_reducible refine gate_callee (f := 42) rfl ?_); refine goesL_ (some 41) rfl rfl Try.func42 (by kernel_rfl) rfl #[.slice A1 l1.length c1, .slice A314_0 ((rd_T65 l0_5 x33_1).f0).length c314_0] rfl (by (try simp only [zK, zL, zM]); first | done | rfl | (simp only [zN, zO]; rfl)) ?_; (with_reducible refine (impl_indexOf.calls k1 _ _ l1 _ _ ((rd_T65 l0_5 x33_1).f0) t316 _ ?side1 ?side2 ?side3 ?side4 A21.out).mono ?_); (case side1 => exact yY HR1.out (kB HB)); (case side2 => exact HC1.out); (case side3 => exact yY HR314_0.out (kB HB)); (case side4 => exact HC314_0.out); rintro e w' ⟨rfl, ⟨nd, rfl⟩⟩; refine ⟨_, rfl, ?_⟩) | ((with_reducible refine gate_builtin (b := .append) (xs := #[.tmp 37, .tmp 42]) rfl ?_); at_builtin; refine Kd.R_append (Kd.int .i64) (w0 := w) w.heap.size rfl (.tmp 37) (.tmp 42) 22 2 (.int .i64 0) 8 rfl Try.underlying22 info2 rfl (by decide) (by omega) u5 x5_1 t316 [.int .i64 t316] (fun _ => True) (fun _ => False) rfl (by first | (go_simp; done) | (go_simp; rfl)) ?aP (fun _ hk => hk.elim) ?aF ?aO ?aB ?aS ?aL ?_; (case aP => exact rfl); (case aB => exact (kB HB)); (case aF => exact (fun _ _ => trivial)); (case aO => exact (by (with_reducible repeat (first | apply yA | apply yB | apply yC)); exact zF (yF (p := ⟨gb315, 0, none⟩) (Kd.R_types HO_5.out BK315.out (by decide)) (fun _ hk => hk.2) (.slice A314_0 ((rd_T65 l0_5 x33_1).f0).length c314_0)) (fun _ hk => trivial))); (case aS => exact (below_size (kB HB))); (case aL => have := LMc22.out; omega); intro v318 w26 ho hb hg hat; rw [← Ny317.out] at ho; have n0_ := yD (blk_grown (g := gb306) (o := .cells #[.int .i64 a0_0, .slice A0_1 l0_1.length c0_1, .slice A0_2 l0_2.length c0_2, .slice A0_3 l0_3.length c0_3, .slice A0_4 l0_4.length c0_4, .slice (some ad314) l0_5.length c0_5] 41 (0, 0)) (by (with_reducible repeat (first | refine yM ?_ _ | refine yO ?_ | refine yN ?_ _)); refine blk_far ?_ NB306_315.out _; (with_reducible repeat (first | refine yM ?_ _ | refine yO ?_ | refine yN ?_ _)); exact BK306.out) hg (Kd.R_ne HO_5.out BK306.out (by decide))); have n1_ := yD (blk_grown (g := gb315) (o := .cells #[.slice A314_0 ((rd_T65 l0_5 x33_1).f0).length c314_0] 65 (0, 0)) (by (with_reducible repeat (first | refine yM ?_ _ | refine yO ?_ | refine yN ?_ _)); refine blk_put (cs := #[.slice none 0 0]) ?_ 0 _ rfl; (with_reducible repeat (first | refine yM ?_ _ | refine yO ?_ | refine yN ?_ _)); exact BK315.out) hg (Kd.R_ne HO_5.out BK315.out (by decide))); have n2_ := yD (hb); have n3_ := yD (ho); clear BK306; clear BK315; clear HB; clear HO_5; have BK306 := n0_; have BK315 := n1_; have HB := n2_; have HO319 := n3_; clear n0_ n1_ n2_ n3_; clear ho hb hg hat))
          go_roundg k1
          case measure => have := HK1.out; omega
          case rel => exact ⟨(y317), (wrap64 (x33_1 + 1)), (by first | rfl | (simp; done) | (simp [*]; done)), H', ⟨by have := HK1.out; omega⟩, ⟨by (with_reducible repeat (first | apply yA | apply yB | apply yC)); exact HO319.out⟩, ⟨by (with_reducible repeat (first | refine yM ?_ _ | refine yO ?_ | refine yN ?_ _)); exact BK306.out⟩, ⟨by repeat (first | (with_reducible first | exact HB.out | apply yQ | apply yL | apply yP | refine yE ?_ GE306.out | refine yE ?_ GE315.out) | exact HB.out)⟩⟩
         ·
          rw [if_neg c22] at H
          exact absurd H (by simp)
        ·
         rw [if_neg c20] at H
         exact absurd H (by simp)
       ·
        rw [if_neg c19] at H
        exact absurd H (by simp)
      ·
       rw [if_neg c18] at H; have c18b0 : decide (x33_1 < (l0_5.length : Int)) = false := zS c18; clear c18; obtain rfl := Option.some.inj H
       go_wp2
       go_ret
       exact ⟨_, by first | rfl | (simp <;> rfl) | (simp [*] <;> rfl), by (with_reducible repeat (first | apply yA | apply yB | apply yC)); exact HO_5.out, by repeat (first | (with_reducible first | exact HB.out | apply yQ | apply yL | apply yP | refine yE ?_ GE306.out) | exact HB.out)⟩
   ·
    rw [if_neg c15] at H
    have c15b0 : (a0_0 == 4) = false := beq_eq_false_iff_ne.mpr c15
    have c15b1 : (a0_0 != 4) = true := bne_iff_ne.mpr c15
    obtain rfl := Option.some.inj H; go_enter Try.func34, Try.ntmps34
    go_wp2_with (first | ((with_reducible refine gate_dst (N := 2) rfl ?_); refine box_event ?hg (N := 2) ?hd (cs := #[.int .i64 a0_0, .slice A0_1 l0_1.length c0_1, .slice A0_2 l0_2.length c0_2, .slice A0_3 l0_3.length c0_3, .slice A0_4 l0_4.length c0_4, .slice A0_5 l0_5.length c0_5]) (t := 41) ?hr ?_; (case hd => rfl); (case hg => rfl); (case hr => first | (go_simp; done) | (go_simp; rfl)); intro gb306 hg w27 hbox hb; have n0_ := yD (zC (kB HB) hb); have n1_ := yD (hbox); have n2_ := yD ((by rw [hg]; exact (below_size (kB HB)) : w.heap.size ≤ gb306)); have n3_ := yD ((by rw [hg]; exact (below_size (kB HB)) : w.heap.size ≤ gb306)); clear HB; have HB := n0_; have BK306 := n1_; have GW306 := n2_; have GE306 := n3_; clear n0_ n1_ n2_ n3_; clear hb hbox hg; obtain ⟨hcz28_0, hcz28_1, hcz28_2, hcz28_3, hcz28_4, hcz28_5⟩ := cz6 BK306.out; obtain ⟨hfz28_0, hfz28_1, hfz28_2, hfz28_3, hfz28_4, hfz28_5⟩ := fz6 BK306.out))
    go_ret
    exact ⟨_, by first | rfl | (simp <;> rfl) | (simp [*] <;> rfl), by first | exact Kd.R_nil _ _ _ _ _ | exact Kd.N_nil _ _ _ _ _ | exact Kd.V_nil _ _ _ _ _ | exact Kd.Q_nil _ _ _ _ _ | exact Kd.S_nil _ _ _ _ _, by repeat (first | (with_reducible first | exact HB.out | apply yQ | apply yL | apply yP | refine yE ?_ GE306.out) | exact HB.out)⟩

/-! ### impl_SelectedCount: function 17 -/
def impl_SelectedCount.f (k : Nat) (l0 : List Int) (a1_0 : Int) (l1_1 : List Int) (l1_2 : List Int) (l1_3 : List Int) (l1_4 : List Int) (l1_5 : List (S65)) : Option (Int) := (impl_ValidSelection.f k l0 a1_0 l1_1 l1_2 l1_3 l1_4 l1_5).bind fun t321 => (if t321 = true then ((impl_Selection_indices.f k a1_0 l1_1 l1_2 l1_3 l1_4 l1_5 l0).bind fun t322 => (some (t322.length : Int))) else (some (-1)))
theorem impl_SelectedCount.mono : ∀ a0 a1 a2 a3 a4 a5 a6 k, LeO (impl_SelectedCount.f k a0 a1 a2 a3 a4 a5 a6) (impl_SelectedCount.f (k + 1) a0 a1 a2 a3 a4 a5 a6) := by
 intro a0 a1 a2 a3 a4 a5 a6 k
 unfold impl_SelectedCount.f
 repeat' first
   | (with_reducible exact impl_Selection_indices.mono _ _ _ _ _ _ _ _)
   | (with_reducible exact impl_ValidSelection.mono _ _ _ _ _ _ _ _)
   | (with_reducible exact LeO.refl _)
   | (with_reducible exact LeO.none _)
   | (with_reducible refine LeO.ite ?_ ?_)
   | (with_reducible refine LeO.bind ?_ (fun _ => ?_))
   | exact impl_Selection_indices.mono _ _ _ _ _ _ _ _
   | exact impl_ValidSelection.mono _ _ _ _ _ _ _ _
   | exact LeO.none _
   | refine LeO.ite ?_ ?_
   | refine LeO.bind ?_ (fun _ => ?_)
set_option maxHeartbeats 8000000 in
set_option maxRecDepth 100000 in
theorem impl_SelectedCount.calls (k : Nat) (A0 : Option Addr) (c0 : Nat) (l0 : List Int) (a1_0 : Int) (A1_1 : Option Addr) (c1_1 : Nat) (l1_1 : List Int) (A1_2 : Option Addr) (c1_2 : Nat) (l1_2 : List Int) (A1_3 : Option Addr) (c1_3 : Nat) (l1_3 : List Int) (A1_4 : Option Addr) (c1_4 : Nat) (l1_4 : List Int) (A1_5 : Option Addr) (c1_5 : Nat) (l1_5 : List (S65)) (r : Int) (w : World) (hr0 : Kd.C (Kd.int .i64) w A0 l0.length l0) (hc0 : l0.length ≤ c0) (hr1_1 : Kd.C (Kd.int .i64) w A1_1 l1_1.length l1_1) (hc1_1 : l1_1.length ≤ c1_1) (hr1_2 : Kd.C (Kd.int .i64) w A1_2 l1_2.length l1_2) (hc1_2 : l1_2.length ≤ c1_2) (hr1_3 : Kd.C (Kd.int .i64) w A1_3 l1_3.length l1_3) (hc1_3 : l1_3.length ≤ c1_3) (hr1_4 : Kd.C (Kd.int .i64) w A1_4 l1_4.length l1_4) (hc1_4 : l1_4.length ≤ c1_4) (hr1_5 : Kd.C k65 w A1_5 l1_5.length l1_5) (hc1_5 : l1_5.length ≤ c1_5) (h : impl_SelectedCount.f k l0 a1_0 l1_1 l1_2 l1_3 l1_4 l1_5 = some r) :
  Calls Try.prog 17 #[.slice A0 l0.length c0, .agg #[.int .i64 a1_0, .slice A1_1 l1_1.length c1_1, .slice A1_2 l1_2.length c1_2, .slice A1_3 l1_3.length c1_3, .slice A1_4 l1_4.length c1_4, .slice A1_5 l1_5.length c1_5]] w fun e w' => e = .returned (.int .i64 r) ∧ Below w.heap.size w w' := by
 have hu41 := Try.underlying41
 have HR0 := yD hr0
 have HC0 := yD hc0
 clear hr0 hc0
 have HR1_1 := yD hr1_1
 have HC1_1 := yD hc1_1
 clear hr1_1 hc1_1
 have HR1_2 := yD hr1_2
 have HC1_2 := yD hc1_2
 clear hr1_2 hc1_2
 have HR1_3 := yD hr1_3
 have HC1_3 := yD hc1_3
 clear hr1_3 hc1_3
 have HR1_4 := yD hr1_4
 have HC1_4 := yD hc1_4
 clear hr1_4 hc1_4
 have HR1_5 := yD hr1_5
 have HC1_5 := yD hc1_5
 clear hr1_5 hc1_5
 have HB := yD (Below.refl w.heap.size w)
 have H : ((impl_ValidSelection.f k l0 a1_0 l1_1 l1_2 l1_3 l1_4 l1_5).bind fun t321 => (if t321 = true then ((impl_Selection_indices.f k a1_0 l1_1 l1_2 l1_3 l1_4 l1_5 l0).bind fun t322 => (some (t322.length : Int))) else (some (-1)))) = some r := h
 clear h
 obtain ⟨t321, A30, H⟩ := zW_ H
 replace H : (if t321 = true then ((impl_Selection_indices.f k a1_0 l1_1 l1_2 l1_3 l1_4 l1_5 l0).bind fun t322 => (some (t322.length : Int))) else (some (-1))) = some r := H
 have A3 := yD A30
 clear A30
 by_cases c4 : t321 = true
 ·
  subst c4
  have H1 : ((impl_Selection_indices.f k a1_0 l1_1 l1_2 l1_3 l1_4 l1_5 l0).bind fun t322 => (some (t322.length : Int))) = some r := by rw [if_pos rfl] at H; exact H
  clear H; have H := H1; clear H1
  obtain ⟨t322, A50, H⟩ := zW_ H
  replace H : (some (t322.length : Int)) = some r := H
  have A5 := yD A50
  clear A50; obtain rfl := Option.some.inj H; go_enter Try.func17, Try.ntmps17
  go_wp2_with (first | ((with_reducible refine gate_dst (N := 3) rfl ?_); refine box_event ?hg (N := 3) ?hd (cs := #[.int .i64 a1_0, .slice A1_1 l1_1.length c1_1, .slice A1_2 l1_2.length c1_2, .slice A1_3 l1_3.length c1_3, .slice A1_4 l1_4.length c1_4, .slice A1_5 l1_5.length c1_5]) (t := 41) ?hr ?_; (case hd => rfl); (case hg => rfl); (case hr => first | (go_simp; done) | (go_simp; rfl)); intro gb320 hg w6 hbox hb; have n0_ := yD (zC (kB HB) hb); have n1_ := yD (hbox); have n2_ := yD ((by rw [hg]; exact (below_size (kB HB)) : w.heap.size ≤ gb320)); have n3_ := yD ((by rw [hg]; exact (below_size (kB HB)) : w.heap.size ≤ gb320)); clear HB; have HB := n0_; have BK320 := n1_; have GW320 := n2_; have GE320 := n3_; clear n0_ n1_ n2_ n3_; clear hb hbox hg; obtain ⟨hcz7_0, hcz7_1, hcz7_2, hcz7_3, hcz7_4, hcz7_5⟩ := cz6 BK320.out; obtain ⟨hfz7_0, hfz7_1, hfz7_2, hfz7_3, hfz7_4, hfz7_5⟩ := fz6 BK320.out) | ((with_reducible refine gate_callee (f := 33) rfl ?_); refine goesL_ (some 7) rfl rfl Try.func33 (by kernel_rfl) rfl #[.slice A0 l0.length c0, .agg #[.int .i64 a1_0, .slice A1_1 l1_1.length c1_1, .slice A1_2 l1_2.length c1_2, .slice A1_3 l1_3.length c1_3, .slice A1_4 l1_4.length c1_4, .slice A1_5 l1_5.length c1_5]] rfl (by (try simp only [zK, zL, zM]); first | done | rfl | (simp only [zN, zO]; rfl)) ?_; (with_reducible refine (impl_ValidSelection.calls k _ _ l0 a1_0 _ _ l1_1 _ _ l1_2 _ _ l1_3 _ _ l1_4 _ _ l1_5 true _ ?side1 ?side2 ?side3 ?side4 ?side5 ?side6 ?side7 ?side8 ?side9 ?side10 ?side11 ?side12 A3.out).mono ?_); (case side1 => repeat (first | exact (yY HR0.out HB.out) | (with_reducible first | refine yV ?_ _ | refine yW ?_ _ | refine yX ?_))); (case side2 => exact HC0.out); (case side3 => repeat (first | exact (yY HR1_1.out HB.out) | (with_reducible first | refine yV ?_ _ | refine yW ?_ _ | refine yX ?_))); (case side4 => exact HC1_1.out); (case side5 => repeat (first | exact (yY HR1_2.out HB.out) | (with_reducible first | refine yV ?_ _ | refine yW ?_ _ | refine yX ?_))); (case side6 => exact HC1_2.out); (case side7 => repeat (first | exact (yY HR1_3.out HB.out) | (with_reducible first | refine yV ?_ _ | refine yW ?_ _ | refine yX ?_))); (case side8 => exact HC1_3.out); (case side9 => repeat (first | exact (yY HR1_4.out HB.out) | (with_reducible first | refine yV ?_ _ | refine yW ?_ _ | refine yX ?_))); (case side10 => exact HC1_4.out); (case side11 => repeat (first | exact (yY HR1_5.out HB.out) | (with_reducible first | refine yV ?_ _ | refine yW ?_ _ | refine yX ?_))); (case side12 => exact HC1_5.out); rintro e w8 ⟨rfl, hb⟩; refine ⟨_, rfl, ?_⟩; have n0_ := yD (zB (g := gb320) (o := .cells #[.int .i64 a1_0, .slice A1_1 l1_1.length c1_1, .slice A1_2 l1_2.length c1_2, .slice A1_3 l1_3.length c1_3, .slice A1_4 l1_4.length c1_4, .slice A1_5 l1_5.length c1_5] 41 (0, 0)) (kM BK320) hb); have n1_ := yD (zC (kB HB) hb); clear BK320; clear HB; have BK320 := n0_; have HB := n1_; clear n0_ n1_; (try clear hb); (try clear hb2); (try clear hk); (try clear hi); obtain ⟨hcz9_0, hcz9_1, hcz9_2, hcz9_3, hcz9_4, hcz9_5⟩ := cz6 BK320.out; obtain ⟨hfz9_0, hfz9_1, hfz9_2, hfz9_3, hfz9_4, hfz9_5⟩ := fz6 BK320.out) | ((with_reducible refine gate_callee (f := 34) rfl ?_); refine goesL_ (some 11) rfl rfl Try.func34 (by kernel_rfl) rfl #[.agg #[.int .i64 a1_0, .slice A1_1 l1_1.length c1_1, .slice A1_2 l1_2.length c1_2, .slice A1_3 l1_3.length c1_3, .slice A1_4 l1_4.length c1_4, .slice A1_5 l1_5.length c1_5], .slice A0 l0.length c0] rfl (by (try simp only [zK, zL, zM]); first | done | rfl | (simp only [zN, zO]; rfl)) ?_; (with_reducible refine (impl_Selection_indices.calls k a1_0 _ _ l1_1 _ _ l1_2 _ _ l1_3 _ _ l1_4 _ _ l1_5 _ _ l0 t322 _ ?side1 ?side2 ?side3 ?side4 ?side5 ?side6 ?side7 ?side8 ?side9 ?side10 ?side11 ?side12 A5.out).mono ?_); (case side1 => repeat (first | exact (yY HR1_1.out HB.out) | (with_reducible first | refine yV ?_ _ | refine yW ?_ _ | refine yX ?_))); (case side2 => exact HC1_1.out); (case side3 => repeat (first | exact (yY HR1_2.out HB.out) | (with_reducible first | refine yV ?_ _ | refine yW ?_ _ | refine yX ?_))); (case side4 => exact HC1_2.out); (case side5 => repeat (first | exact (yY HR1_3.out HB.out) | (with_reducible first | refine yV ?_ _ | refine yW ?_ _ | refine yX ?_))); (case side6 => exact HC1_3.out); (case side7 => repeat (first | exact (yY HR1_4.out HB.out) | (with_reducible first | refine yV ?_ _ | refine yW ?_ _ | refine yX ?_))); (case side8 => exact HC1_4.out); (case side9 => repeat (first | exact (yY HR1_5.out HB.out) | (with_reducible first | refine yV ?_ _ | refine yW ?_ _ | refine yX ?_))); (case side10 => exact HC1_5.out); (case side11 => repeat (first | exact (yY HR0.out HB.out) | (with_reducible first | refine yV ?_ _ | refine yW ?_ _ | refine yX ?_))); (case side12 => exact HC0.out); rintro e w10 ⟨v323, rfl, ho0, hb⟩; refine ⟨_, rfl, ?_⟩; have n0_ := yD (yZ ho0 (below_size (kB HB))); have n1_ := yD (zB (g := gb320) (o := .cells #[.int .i64 a1_0, .slice A1_1 l1_1.length c1_1, .slice A1_2 l1_2.length c1_2, .slice A1_3 l1_3.length c1_3, .slice A1_4 l1_4.length c1_4, .slice A1_5 l1_5.length c1_5] 41 (0, 0)) (kM BK320) hb); have n2_ := yD (zC (kB HB) hb); clear BK320; clear HB; have HO324 := n0_; have BK320 := n1_; have HB := n2_; clear n0_ n1_ n2_; (try clear hb); (try clear hb2); (try clear hk); (try clear hi); (try clear ho0); obtain ⟨Ao11, co11, eo11⟩ := Kd.R_slice HO324.out; subst eo11))
  go_ret
  exact ⟨by first | rfl | (simp <;> rfl) | (simp [*] <;> rfl), by repeat (first | (with_reducible first | exact HB.out | apply yQ | apply yL | apply yP | refine yE ?_ GE320.out) | exact HB.out)⟩
 ·
  replace c4 := Bool.eq_false_iff.mpr c4
  subst c4
  have H1 : (some (-1)) = some r := by rw [if_neg (show ¬ (false = true) by decide)] at H; exact H
  clear H; have H := H1; clear H1; obtain rfl := Option.some.inj H; go_enter Try.func17, Try.ntmps17
  go_wp2_with (first | ((with_reducible refine gate_dst (N := 3) rfl ?_); refine box_event ?hg (N := 3) ?hd (cs := #[.int .i64 a1_0, .slice A1_1 l1_1.length c1_1, .slice A1_2 l1_2.length c1_2, .slice A1_3 l1_3.length c1_3, .slice A1_4 l1_4.length c1_4, .slice A1_5 l1_5.length c1_5]) (t := 41) ?hr ?_; (case hd => rfl); (case hg => rfl); (case hr => first | (go_simp; done) | (go_simp; rfl)); intro gb320 hg w12 hbox hb; have n0_ := yD (zC (kB HB) hb); have n1_ := yD (hbox); have n2_ := yD ((by rw [hg]; exact (below_size (kB HB)) : w.heap.size ≤ gb320)); have n3_ := yD ((by rw [hg]; exact (below_size (kB HB)) : w.heap.size ≤ gb320)); clear HB; have HB := n0_; have BK320 := n1_; have GW320 := n2_; have GE320 := n3_; clear n0_ n1_ n2_ n3_; clear hb hbox hg; obtain ⟨hcz13_0, hcz13_1, hcz13_2, hcz13_3, hcz13_4, hcz13_5⟩ := cz6 BK320.out; obtain ⟨hfz13_0, hfz13_1, hfz13_2, hfz13_3, hfz13_4, hfz13_5⟩ := fz6 BK320.out) | ((with_reducible refine gate_callee (f := 33) rfl ?_); refine goesL_ (some 7) rfl rfl Try.func33 (by kernel_rfl) rfl #[.slice A0 l0.length c0, .agg #[.int .i64 a1_0, .slice A1_1 l1_1.length c1_1, .slice A1_2 l1_2.length c1_2, .slice A1_3 l1_3.length c1_3, .slice A1_4 l1_4.length c1_4, .slice A1_5 l1_5.length c1_5]] rfl (by (try simp only [zK, zL, zM]); first | done | rfl | (simp only [zN, zO]; rfl)) ?_; (with_reducible refine (impl_ValidSelection.calls k _ _ l0 a1_0 _ _ l1_1 _ _ l1_2 _ _ l1_3 _ _ l1_4 _ _ l1_5 false _ ?side1 ?side2 ?side3 ?side4 ?side5 ?side6 ?side7 ?side8 ?side9 ?side10 ?side11 ?side12 A3.out).mono ?_); (case side1 => repeat (first | exact (yY HR0.out HB.out) | (with_reducible first | refine yV ?_ _ | refine yW ?_ _ | refine yX ?_))); (case side2 => exact HC0.out); (case side3 => repeat (first | exact (yY HR1_1.out HB.out) | (with_reducible first | refine yV ?_ _ | refine yW ?_ _ | refine yX ?_))); (case side4 => exact HC1_1.out); (case side5 => repeat (first | exact (yY HR1_2.out HB.out) | (with_reducible first | refine yV ?_ _ | refine yW ?_ _ | refine yX ?_))); (case side6 => exact HC1_2.out); (case side7 => repeat (first | exact (yY HR1_3.out HB.out) | (with_reducible first | refine yV ?_ _ | refine yW ?_ _ | refine yX ?_))); (case side8 => exact HC1_3.out); (case side9 => repeat (first | exact (yY HR1_4.out HB.out) | (with_reducible first | refine yV ?_ _ | refine yW ?_ _ | refine yX ?_))); (case side10 => exact HC1_4.out); (case side11 => repeat (first | exact (yY HR1_5.out HB.out) | (with_reducible first | refine yV ?_ _ | refine yW ?_ _ | refine yX ?_))); (case side12 => exact HC1_5.out); rintro e w14 ⟨rfl, hb⟩; refine ⟨_, rfl, ?_⟩; have n0_ := yD (zB (g := gb320) (o := .cells #[.int .i64 a1_0, .slice A1_1 l1_1.length c1_1, .slice A1_2 l1_2.length c1_2, .slice A1_3 l1_3.length c1_3, .slice A1_4 l1_4.length c1_4, .slice A1_5 l1_5.length c1_5] 41 (0, 0)) (kM BK320) hb); have n1_ := yD (zC (kB HB) hb); clear BK320; clear HB; have BK320 := n0_; have HB := n1_; clear n0_ n1_; (try clear hb); (try clear hb2); (try clear hk); (try clear hi)))
  go_ret
  exact ⟨by first | rfl | (simp <;> rfl) | (simp [*] <;> rfl), by repeat (first | (with_reducible first | exact HB.out | apply yQ | apply yL | apply yP | refine yE ?_ GE320.out) | exact HB.out)⟩

/-! ### laws_eqInt64S: function 18 -/
def laws_eqInt64S.l0 : Nat → List Int → List Int → Int → Option (Bool)
 | 0, _, _, _ => none
 | k + 1, x0, x1, x5 => if x5 < (x0.length : Int) then (if 0 ≤ x5 then (if x5 < (x1.length : Int) then (if (rd x0 x5) = (rd x1 x5) then (laws_eqInt64S.l0 k x0 x1 (wrap64 (x5 + 1))) else (some false)) else (none)) else (none)) else (some true)
def laws_eqInt64S.f (k : Nat) (l0 : List Int) (l1 : List Int) : Option (Bool) := if (l0.length : Int) = (l1.length : Int) then (laws_eqInt64S.l0 k l0 l1 0) else (some false)
theorem laws_eqInt64S.mono_l : ∀ k, (∀ y0 y1 y2, LeO (laws_eqInt64S.l0 k y0 y1 y2) (laws_eqInt64S.l0 (k + 1) y0 y1 y2))
 | 0 => fun _ _ _ r h => by simp [laws_eqInt64S.l0] at h
 | k + 1 => by
  have ih0 := laws_eqInt64S.mono_l k
  ·
   intro y0 y1 y2
   unfold laws_eqInt64S.l0
   repeat' first
   | (with_reducible exact ih0 _ _ _)
   | (with_reducible exact LeO.refl _)
   | (with_reducible exact LeO.none _)
   | (with_reducible refine LeO.ite ?_ ?_)
   | (with_reducible refine LeO.bind ?_ (fun _ => ?_))
   | exact ih0 _ _ _
   | exact LeO.none _
   | refine LeO.ite ?_ ?_
   | refine LeO.bind ?_ (fun _ => ?_)
theorem laws_eqInt64S.mono : ∀ a0 a1 k, LeO (laws_eqInt64S.f k a0 a1) (laws_eqInt64S.f (k + 1) a0 a1) := by
 intro a0 a1 k
 have ih0 := laws_eqInt64S.mono_l k
 unfold laws_eqInt64S.f
 repeat' first
   | (with_reducible exact ih0 _ _ _)
   | (with_reducible exact LeO.refl _)
   | (with_reducible exact LeO.none _)
   | (with_reducible refine LeO.ite ?_ ?_)
   | (with_reducible refine LeO.bind ?_ (fun _ => ?_))
   | exact ih0 _ _ _
   | exact LeO.none _
   | refine LeO.ite ?_ ?_
   | refine LeO.bind ?_ (fun _ => ?_)
set_option maxHeartbeats 8000000 in
set_option maxRecDepth 100000 in
theorem laws_eqInt64S.calls (k : Nat) (A0 : Option Addr) (c0 : Nat) (l0 : List Int) (A1 : Option Addr) (c1 : Nat) (l1 : List Int) (r : Bool) (w : World) (hr0 : Kd.C (Kd.int .i64) w A0 l0.length l0) (hc0 : l0.length ≤ c0) (hr1 : Kd.C (Kd.int .i64) w A1 l1.length l1) (hc1 : l1.length ≤ c1) (h : laws_eqInt64S.f k l0 l1 = some r) :
  Calls Try.prog 18 #[.slice A0 l0.length c0, .slice A1 l1.length c1] w fun e w' => e = .returned (.bool r) ∧ Drawn0 w w' := by
 have HR0 := yD hr0
 have HC0 := yD hc0
 clear hr0 hc0
 have HR1 := yD hr1
 have HC1 := yD hc1
 clear hr1 hc1
 have H : (if (l0.length : Int) = (l1.length : Int) then (laws_eqInt64S.l0 k l0 l1 0) else (some false)) = some r := h
 clear h
 by_cases c3 : (l0.length : Int) = (l1.length : Int)
 ·
  rw [if_pos c3] at H
  have c3b0 : ((l0.length : Int) == (l1.length : Int)) = true := beq_iff_eq.mpr c3
  have c3b1 : ((l0.length : Int) != (l1.length : Int)) = false := bne_eq_false_iff_eq.mpr c3
  have c3b2 : (l0.length == l1.length) = true := by first | simpa using c3 | (simp at c3 ⊢; omega)
  clear c3
  have H' := yD H
  clear H; go_enter Try.func18, Try.ntmps18
  go_wp2
  repeat (go_quiet (fail); try go_wp2)
  go_loopg [5] k (fun kq v5 w' => ∃ (x5_1 : Int), v5 = .int .i64 x5_1 ∧ Aside0 (laws_eqInt64S.l0 kq l0 l1 x5_1 = some r) ∧ Aside0 (kq ≤ k) ∧ Drawn0 w w')
  case atStart => exact ⟨(0), (by first | rfl | (simp; done) | (simp [*]; done)), H', ⟨Nat.le_refl _⟩, by repeat (first | exact Drawn0.refl _ | apply Drawn0.step)⟩
  case round =>
   clear H'
   try clear c1; try clear p2; try clear c3; try clear c3b0; try clear c3b1; try clear c3b2
   obtain ⟨x5_1, rfl, HA, HK1, ⟨m1, rfl⟩⟩ := hrel
   cases gk with
   | zero => exact absurd HA.out (by simp [laws_eqInt64S.l0])
   | succ k1 =>
    have H := HA.out; clear HA
    simp only [laws_eqInt64S.l0] at H
    by_cases c4 : x5_1 < (l0.length : Int)
    ·
     rw [if_pos c4] at H; have c4b0 : decide (x5_1 < (l0.length : Int)) = true := zR c4; clear c4
     by_cases c5 : 0 ≤ x5_1
     ·
      rw [if_pos c5] at H; have c5b0 : decide (0 ≤ x5_1) = true := zR c5; clear c5
      by_cases c6 : x5_1 < (l1.length : Int)
      ·
       rw [if_pos c6] at H; have c6b0 : decide (x5_1 < (l1.length : Int)) = true := zR c6; clear c6
       by_cases c7 : (rd l0 x5_1) = (rd l1 x5_1)
       ·
        rw [if_pos c7] at H
        have c7b0 : ((rd l0 x5_1) == (rd l1 x5_1)) = true := beq_iff_eq.mpr c7
        have c7b1 : ((rd l0 x5_1) != (rd l1 x5_1)) = false := bne_eq_false_iff_eq.mpr c7
        clear c7
        have H' := yD H
        clear H
        have p325 : 0 ≤ (x5_1 : Int) := zP (by assumption)
        have q325 : x5_1 < (l0.length : Int) := zP (by assumption)
        obtain ⟨ad325, e325, hx325_0⟩ := Kd.at_int HR0.out x5_1 p325 q325
        cases e325; replace p325 := eq_true p325; replace q325 := eq_true q325
        have p326 : 0 ≤ (x5_1 : Int) := zP (by assumption)
        have q326 : x5_1 < (l1.length : Int) := zP (by assumption)
        obtain ⟨ad326, e326, hx326_0⟩ := Kd.at_int HR1.out x5_1 p326 q326
        cases e326; replace p326 := eq_true p326; replace q326 := eq_true q326
        go_wp2
        repeat (go_quiet (fail); try go_wp2)
        go_roundg k1
        case measure => have := HK1.out; omega
        case rel => exact ⟨(wrap64 (x5_1 + 1)), (by first | rfl | (simp; done) | (simp [*]; done)), H', ⟨by have := HK1.out; omega⟩, by repeat (first | exact Drawn0.refl _ | apply Drawn0.step)⟩
       ·
        rw [if_neg c7] at H
        have c7b0 : ((rd l0 x5_1) == (rd l1 x5_1)) = false := beq_eq_false_iff_ne.mpr c7
        have c7b1 : ((rd l0 x5_1) != (rd l1 x5_1)) = true := bne_iff_ne.mpr c7
        obtain rfl := Option.some.inj H
        have p325 : 0 ≤ (x5_1 : Int) := zP (by assumption)
        have q325 : x5_1 < (l0.length : Int) := zP (by assumption)
        obtain ⟨ad325, e325, hx325_0⟩ := Kd.at_int HR0.out x5_1 p325 q325
        cases e325; replace p325 := eq_true p325; replace q325 := eq_true q325
        have p326 : 0 ≤ (x5_1 : Int) := zP (by assumption)
        have q326 : x5_1 < (l1.length : Int) := zP (by assumption)
        obtain ⟨ad326, e326, hx326_0⟩ := Kd.at_int HR1.out x5_1 p326 q326
        cases e326; replace p326 := eq_true p326; replace q326 := eq_true q326
        go_wp2
        repeat (go_quiet (fail); try go_wp2)
        go_ret
        exact ⟨by first | rfl | (simp; done) | (simp [*]; done), by repeat (first | exact Drawn0.refl _ | apply Drawn0.step)⟩
      ·
       rw [if_neg c6] at H
       exact absurd H (by simp)
     ·
      rw [if_neg c5] at H
      exact absurd H (by simp)
    ·
     rw [if_neg c4] at H; have c4b0 : decide (x5_1 < (l0.length : Int)) = false := zS c4; clear c4; obtain rfl := Option.some.inj H
     go_wp2
     repeat (go_quiet (fail); try go_wp2)
     go_ret
     exact ⟨by first | rfl | (simp; done) | (simp [*]; done), by repeat (first | exact Drawn0.refl _ | apply Drawn0.step)⟩
 ·
  rw [if_neg c3] at H
  have c3b0 : ((l0.length : Int) == (l1.length : Int)) = false := beq_eq_false_iff_ne.mpr c3
  have c3b1 : ((l0.length : Int) != (l1.length : Int)) = true := bne_iff_ne.mpr c3
  have c3b2 : (l0.length == l1.length) = false := by first | simpa using c3 | (simp at c3 ⊢; omega)
  obtain rfl := Option.some.inj H; go_enter Try.func18, Try.ntmps18
  go_wp2
  repeat (go_quiet (fail); try go_wp2)
  go_ret
  exact ⟨by first | rfl | (simp; done) | (simp [*]; done), by repeat (first | exact Drawn0.refl _ | apply Drawn0.step)⟩

end Go.Proofs.Ytlfjepcmlgfogaa.PFnExactSelectedCount
