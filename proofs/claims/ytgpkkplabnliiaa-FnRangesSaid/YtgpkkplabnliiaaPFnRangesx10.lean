/- Each Go function here comes to what the plain function of its name says, where that says something. Made by a program of this session, over the print. -/
import Derived.Test.YtgpkkplabnliiaaPFnRangesx0
import Derived.Test.YtgpkkplabnliiaaPFnRangesx8
import Derived.Test.YtgpkkplabnliiaaPFnRangesx9
namespace Go.Proofs.Ytgpkkplabnliiaa.PFnRanges
open Go.RowKit Go.Proofs.YtgpkkplabnliiaaW.PrintWords Go.Proofs.YtgpkkplabnliiaaW.PrintLast Go.Proofs.YtgpkkplabnliiaaW.PrintMore
attribute [local go_sem] max2_int min2_int max_two min_two max_three min_three max_four min_four   -- for this text's walks alone
set_option linter.unusedVariables false
set_option linter.unusedSimpArgs false

/-! ### impl_SameSelection: function 93 -/
def impl_SameSelection.f (k : Nat) (a0_0 : Int) (l0_1 : List Int) (l0_2 : List Int) (l0_3 : List Int) (l0_4 : List Int) (l0_5 : List (S97)) (a1_0 : Int) (l1_1 : List Int) (l1_2 : List Int) (l1_3 : List Int) (l1_4 : List Int) (l1_5 : List (S97)) : Option (Bool) := if a0_0 = a1_0 then ((impl_Selection_lists.f a0_0 l0_1 l0_2 l0_3 l0_4 l0_5).bind fun t367 => ((impl_Selection_lists.f a1_0 l1_1 l1_2 l1_3 l1_4 l1_5).bind fun t370 => ((slices_EqualFunc_slices_Equal_int64_int64.f k t367 t370).bind fun t373 => (if t373 = true then ((slices_EqualFunc_impl_samePoint.f k l0_5 l1_5).bind fun t374 => (some t374)) else (some false))))) else (some false)
theorem impl_SameSelection.mono : ∀ a0 a1 a2 a3 a4 a5 a6 a7 a8 a9 a10 a11 k, LeO (impl_SameSelection.f k a0 a1 a2 a3 a4 a5 a6 a7 a8 a9 a10 a11) (impl_SameSelection.f (k + 1) a0 a1 a2 a3 a4 a5 a6 a7 a8 a9 a10 a11) := by
 intro a0 a1 a2 a3 a4 a5 a6 a7 a8 a9 a10 a11 k
 unfold impl_SameSelection.f
 repeat' first
  | (with_reducible exact slices_EqualFunc_impl_samePoint.mono _ _ _)
  | (with_reducible exact slices_EqualFunc_slices_Equal_int64_int64.mono _ _ _)
  | (with_reducible exact LeO.refl _)
  | (with_reducible exact LeO.none _)
  | (with_reducible refine LeO.ite ?_ ?_)
  | (with_reducible refine LeO.bind ?_ (fun _ => ?_))
  | exact slices_EqualFunc_impl_samePoint.mono _ _ _
  | exact slices_EqualFunc_slices_Equal_int64_int64.mono _ _ _
  | exact LeO.none _
  | refine LeO.ite ?_ ?_
  | refine LeO.bind ?_ (fun _ => ?_)
def impl_SameSelection.T1 : Bool × List (List Nat × List Nat) := (true, [([], []), ([0], [0]), ([], []), ([2], [2]), ([1, 3], [1, 3]), ([4], [4]), ([5], [5]), ([6, 5, 5], [5, 6]), ([5], [5]), ([8, 7, 5], [5, 8]), ([7, 9, 9, 5], [5, 7, 9]), ([5, 10], [5, 10]), ([11, 10], [11]), ([12], [12]), ([13, 12], [12, 13]), ([12], [12]), ([15, 12], [12, 15]), ([14, 16, 12, 12], [12, 14, 16]), ([12, 17], [12, 17]), ([18, 17, 0, 1, 2, 3, 4, 5, 6, 7, 8, 9, 10, 11, 12, 13, 14, 15, 16, 17, 18], [18])])
def impl_SameSelection.B1 : List Nat := [0, 1, 0, 4, 15, 31, 63, 127, 63, 511, 1023, 2047, 4095, 8191, 16383, 8191, 40959, 131071, 262143, 524287]
theorem impl_SameSelection.tab1 : rtab .any (opsOf Try.f93 1) = impl_SameSelection.T1 := by kernel_rfl
theorem impl_SameSelection.bits1 : waitsOk impl_SameSelection.T1.2 impl_SameSelection.B1 = true := by kernel_rfl
set_option maxHeartbeats 8000000 in
set_option maxRecDepth 100000 in
theorem impl_SameSelection.calls (k : Nat) (a0_0 : Int) (A0_1 : Option Addr) (c0_1 : Nat) (l0_1 : List Int) (A0_2 : Option Addr) (c0_2 : Nat) (l0_2 : List Int) (A0_3 : Option Addr) (c0_3 : Nat) (l0_3 : List Int) (A0_4 : Option Addr) (c0_4 : Nat) (l0_4 : List Int) (A0_5 : Option Addr) (c0_5 : Nat) (l0_5 : List (S97)) (a1_0 : Int) (A1_1 : Option Addr) (c1_1 : Nat) (l1_1 : List Int) (A1_2 : Option Addr) (c1_2 : Nat) (l1_2 : List Int) (A1_3 : Option Addr) (c1_3 : Nat) (l1_3 : List Int) (A1_4 : Option Addr) (c1_4 : Nat) (l1_4 : List Int) (A1_5 : Option Addr) (c1_5 : Nat) (l1_5 : List (S97)) (r : Bool) (w : World) (hr0_1 : Kd.C (Kd.int .i64) w A0_1 l0_1.length l0_1) (hc0_1 : l0_1.length ≤ c0_1) (hr0_2 : Kd.C (Kd.int .i64) w A0_2 l0_2.length l0_2) (hc0_2 : l0_2.length ≤ c0_2) (hr0_3 : Kd.C (Kd.int .i64) w A0_3 l0_3.length l0_3) (hc0_3 : l0_3.length ≤ c0_3) (hr0_4 : Kd.C (Kd.int .i64) w A0_4 l0_4.length l0_4) (hc0_4 : l0_4.length ≤ c0_4) (hr0_5 : Kd.C k97 w A0_5 l0_5.length l0_5) (hc0_5 : l0_5.length ≤ c0_5) (hr1_1 : Kd.C (Kd.int .i64) w A1_1 l1_1.length l1_1) (hc1_1 : l1_1.length ≤ c1_1) (hr1_2 : Kd.C (Kd.int .i64) w A1_2 l1_2.length l1_2) (hc1_2 : l1_2.length ≤ c1_2) (hr1_3 : Kd.C (Kd.int .i64) w A1_3 l1_3.length l1_3) (hc1_3 : l1_3.length ≤ c1_3) (hr1_4 : Kd.C (Kd.int .i64) w A1_4 l1_4.length l1_4) (hc1_4 : l1_4.length ≤ c1_4) (hr1_5 : Kd.C k97 w A1_5 l1_5.length l1_5) (hc1_5 : l1_5.length ≤ c1_5) (h : impl_SameSelection.f k a0_0 l0_1 l0_2 l0_3 l0_4 l0_5 a1_0 l1_1 l1_2 l1_3 l1_4 l1_5 = some r) :
 Calls Try.prog 93 #[.agg #[.int .i64 a0_0, .slice A0_1 l0_1.length c0_1, .slice A0_2 l0_2.length c0_2, .slice A0_3 l0_3.length c0_3, .slice A0_4 l0_4.length c0_4, .slice A0_5 l0_5.length c0_5], .agg #[.int .i64 a1_0, .slice A1_1 l1_1.length c1_1, .slice A1_2 l1_2.length c1_2, .slice A1_3 l1_3.length c1_3, .slice A1_4 l1_4.length c1_4, .slice A1_5 l1_5.length c1_5]] w fun e w' => e = .returned (.bool r) ∧ Below w.heap.size w w' := by
 have hu28 := Try.underlying28
 have HR0_1 := yD hr0_1
 have HC0_1 := yD hc0_1
 clear hr0_1 hc0_1
 have HR0_2 := yD hr0_2
 have HC0_2 := yD hc0_2
 clear hr0_2 hc0_2
 have HR0_3 := yD hr0_3
 have HC0_3 := yD hc0_3
 clear hr0_3 hc0_3
 have HR0_4 := yD hr0_4
 have HC0_4 := yD hc0_4
 clear hr0_4 hc0_4
 have HR0_5 := yD hr0_5
 have HC0_5 := yD hc0_5
 clear hr0_5 hc0_5
 have HR1_1 := yD hr1_1
 have HC1_1 := yD hc1_1
 clear hr1_1 hc1_1
 have HR1_2 := yD hr1_2
 have HC1_2 := yD hc1_2
 clear hr1_2 hc1_2
 have HR1_3 := yD hr1_3
 have HC1_3 := yD hc1_3
 clear hr1_3 hc1_3
 have HR1_4 := yD hr1_4
 have HC1_4 := yD hc1_4
 clear hr1_4 hc1_4
 have HR1_5 := yD hr1_5
 have HC1_5 := yD hc1_5
 clear hr1_5 hc1_5
 have HB := yD (Below.refl w.heap.size w)
 have H : (if a0_0 = a1_0 then ((impl_Selection_lists.f a0_0 l0_1 l0_2 l0_3 l0_4 l0_5).bind fun t367 => ((impl_Selection_lists.f a1_0 l1_1 l1_2 l1_3 l1_4 l1_5).bind fun t370 => ((slices_EqualFunc_slices_Equal_int64_int64.f k t367 t370).bind fun t373 => (if t373 = true then ((slices_EqualFunc_impl_samePoint.f k l0_5 l1_5).bind fun t374 => (some t374)) else (some false))))) else (some false)) = some r := h
 clear h
 by_cases c3 : a0_0 = a1_0
 ·
  rw [if_pos c3] at H
  have c3b0 : (a0_0 == a1_0) = true := beq_iff_eq.mpr c3
  have c3b1 : (a0_0 != a1_0) = false := bne_eq_false_iff_eq.mpr c3
  clear c3
  obtain ⟨t367, A40, H⟩ := zW_ H
  replace H : ((impl_Selection_lists.f a1_0 l1_1 l1_2 l1_3 l1_4 l1_5).bind fun t370 => ((slices_EqualFunc_slices_Equal_int64_int64.f k t367 t370).bind fun t373 => (if t373 = true then ((slices_EqualFunc_impl_samePoint.f k l0_5 l1_5).bind fun t374 => (some t374)) else (some false)))) = some r := H
  have A4 := yD A40
  clear A40
  obtain ⟨t370, A50, H⟩ := zW_ H
  replace H : ((slices_EqualFunc_slices_Equal_int64_int64.f k t367 t370).bind fun t373 => (if t373 = true then ((slices_EqualFunc_impl_samePoint.f k l0_5 l1_5).bind fun t374 => (some t374)) else (some false))) = some r := H
  have A5 := yD A50
  clear A50
  obtain ⟨t373, A60, H⟩ := zW_ H
  replace H : (if t373 = true then ((slices_EqualFunc_impl_samePoint.f k l0_5 l1_5).bind fun t374 => (some t374)) else (some false)) = some r := H
  have A6 := yD A60
  clear A60
  by_cases c7 : t373 = true
  ·
   subst c7
   have H1 : ((slices_EqualFunc_impl_samePoint.f k l0_5 l1_5).bind fun t374 => (some t374)) = some r := by rw [if_pos rfl] at H; exact H
   clear H; have H := H1; clear H1
   obtain ⟨t374, A80, H⟩ := zW_ H
   replace H : (some t374) = some r := H
   have A8 := yD A80
   clear A80; obtain rfl := Option.some.inj H; go_enter Try.func93, Try.ntmps93
   try go_wp2_with (first | ((with_reducible refine gate_dst (N := 2) rfl ?_); refine box_event ?hg (N := 2) ?hd (cs := #[.int .i64 a0_0, .slice A0_1 l0_1.length c0_1, .slice A0_2 l0_2.length c0_2, .slice A0_3 l0_3.length c0_3, .slice A0_4 l0_4.length c0_4, .slice A0_5 l0_5.length c0_5]) (t := 28) ?hr ?_; (case hd => rfl); (case hg => rfl); (case hr => first | (go_simp; done) | (go_simp; rfl)); intro gb365 hg w9 hbox hb; have n0_ := yD (zC (kB HB) hb); have n1_ := yD (hbox); have n2_ := yD ((by rw [hg]; exact (below_size (kB HB)) : w.heap.size ≤ gb365)); have n3_ := yD ((by rw [hg]; exact (below_size (kB HB)) : w.heap.size ≤ gb365)); clear HB; have HB := n0_; have BK365 := n1_; have GW365 := n2_; have GE365 := n3_; clear n0_ n1_ n2_ n3_; clear hb hbox hg) | ((with_reducible refine gate_dst (N := 3) rfl ?_); refine box_event ?hg (N := 3) ?hd (cs := #[.int .i64 a1_0, .slice A1_1 l1_1.length c1_1, .slice A1_2 l1_2.length c1_2, .slice A1_3 l1_3.length c1_3, .slice A1_4 l1_4.length c1_4, .slice A1_5 l1_5.length c1_5]) (t := 28) ?hr ?_; (case hd => rfl); (case hg => rfl); (case hr => first | (go_simp; done) | (go_simp; rfl)); intro gb366 hg w10 hbox hb; have n0_ := yD (zB (g := gb365) (o := .cells #[.int .i64 a0_0, .slice A0_1 l0_1.length c0_1, .slice A0_2 l0_2.length c0_2, .slice A0_3 l0_3.length c0_3, .slice A0_4 l0_4.length c0_4, .slice A0_5 l0_5.length c0_5] 28 (0, 0)) (kM BK365) hb); have n1_ := yD (zC (kB HB) hb); have n2_ := yD (hbox); have n3_ := yD ((by rw [hg]; exact (below_size (kB HB)) : w.heap.size ≤ gb366)); have n4_ := yD ((by rw [hg]; exact (below_size (kB HB)) : w.heap.size ≤ gb366)); have n5_ := yD ((by rw [hg]; exact Nat.ne_of_lt (blk_lt (g := gb365) (o := .cells #[.int .i64 a0_0, .slice A0_1 l0_1.length c0_1, .slice A0_2 l0_2.length c0_2, .slice A0_3 l0_3.length c0_3, .slice A0_4 l0_4.length c0_4, .slice A0_5 l0_5.length c0_5] 28 (0, 0)) (kM BK365)) : gb365 ≠ gb366)); have n6_ := yD ((by rw [hg]; exact Nat.ne_of_gt (blk_lt (g := gb365) (o := .cells #[.int .i64 a0_0, .slice A0_1 l0_1.length c0_1, .slice A0_2 l0_2.length c0_2, .slice A0_3 l0_3.length c0_3, .slice A0_4 l0_4.length c0_4, .slice A0_5 l0_5.length c0_5] 28 (0, 0)) (kM BK365)) : gb366 ≠ gb365)); clear BK365; clear HB; have BK365 := n0_; have HB := n1_; have BK366 := n2_; have GW366 := n3_; have GE366 := n4_; have NB365_366 := n5_; have NB366_365 := n6_; clear n0_ n1_ n2_ n3_ n4_ n5_ n6_; clear hb hbox hg))
   have n0_ := yD (yO BK365.out)
   have n1_ := yD (yO BK366.out)
   have n2_ := yD (yP HB.out)
   clear BK365 BK366 HB; have BK365 := n0_; have BK366 := n1_; have HB := n2_; clear n0_ n1_ n2_
   refine start_ (n := 20) (S := fun w' => w'.cell? ⟨gb365, 0, none⟩ = some (.int .i64 a0_0) ∧ w'.cell? ⟨gb365, 1, none⟩ = some (.slice A0_1 l0_1.length c0_1) ∧ w'.cell? ⟨gb365, 2, none⟩ = some (.slice A0_2 l0_2.length c0_2) ∧ w'.cell? ⟨gb365, 3, none⟩ = some (.slice A0_3 l0_3.length c0_3) ∧ w'.cell? ⟨gb365, 4, none⟩ = some (.slice A0_4 l0_4.length c0_4) ∧ w'.cell? ⟨gb365, 5, none⟩ = some (.slice A0_5 l0_5.length c0_5) ∧ w'.cell? ⟨gb366, 0, none⟩ = some (.int .i64 a1_0) ∧ w'.cell? ⟨gb366, 1, none⟩ = some (.slice A1_1 l1_1.length c1_1) ∧ w'.cell? ⟨gb366, 2, none⟩ = some (.slice A1_2 l1_2.length c1_2) ∧ w'.cell? ⟨gb366, 3, none⟩ = some (.slice A1_3 l1_3.length c1_3) ∧ w'.cell? ⟨gb366, 4, none⟩ = some (.slice A1_4 l1_4.length c1_4) ∧ w'.cell? ⟨gb366, 5, none⟩ = some (.slice A1_5 l1_5.length c1_5)) (ds := []) (bz 20 0) (by kernel_rfl) rfl rfl ⟨(yG BK365.out 0).trans rfl, (yG BK365.out 1).trans rfl, (yG BK365.out 2).trans rfl, (yG BK365.out 3).trans rfl, (yG BK365.out 4).trans rfl, (yG BK365.out 5).trans rfl, (yG BK366.out 0).trans rfl, (yG BK366.out 1).trans rfl, (yG BK366.out 2).trans rfl, (yG BK366.out 3).trans rfl, (yG BK366.out 4).trans rfl, (yG BK366.out 5).trans rfl⟩ (fun hHeld => ?_); refine with_tabW impl_SameSelection.tab1 impl_SameSelection.bits1 (fun HT_ HW_ => ?_)
   generalize w10.drew = w11 at BK365 BK366 HB hHeld ⊢
   refine qA 0 5 (bz 20 1) HT_ ?_
   refine qA 2 7 (bz 20 5) HT_ ?_
   refine qC 1 6 (bz 20 7) HT_ HW_ hHeld ?_ (hy := by rintro w' ⟨s0, s1, s2, s3, s4, s5, s6, s7, s8, s9, s10, s11⟩; go_simp; with_reducible rfl)
   refine qC 3 8 (bz 20 15) HT_ HW_ hHeld ?_ (hy := by rintro w' ⟨s0, s1, s2, s3, s4, s5, s6, s7, s8, s9, s10, s11⟩; go_simp; with_reducible rfl)
   refine qA 4 9 (bz 20 31) HT_ ?_
   refine qA 5 10 (bz 20 63) HT_ ?_
   refine qC 6 11 (bz 20 127) HT_ HW_ hHeld ?_ (hy := by rintro w' ⟨s0, s1, s2, s3, s4, s5, s6, s7, s8, s9, s10, s11⟩; go_simp; with_reducible rfl)
   refine qC 8 13 (bz 20 383) HT_ HW_ hHeld ?_ (hy := by rintro w' ⟨s0, s1, s2, s3, s4, s5, s6, s7, s8, s9, s10, s11⟩; go_simp; with_reducible rfl)
   refine one_ (i := 7) (N := some 12) (bz 20 511) rfl rfl (one_of HT_.out (by kernel_rfl)) (by decide) (fun K hK => ?_)
   refine goes_ Try.func106 (by kernel_rfl) rfl #[.agg #[.int .i64 a0_0, .slice A0_1 l0_1.length c0_1, .slice A0_2 l0_2.length c0_2, .slice A0_3 l0_3.length c0_3, .slice A0_4 l0_4.length c0_4, .slice A0_5 l0_5.length c0_5]] (by rfl) rfl rfl (by (try simp only [zK, zL, zM]); first | done | rfl | (simp only [zN, zO]; rfl)) ?_
   with_reducible refine (impl_Selection_lists.calls a0_0 (fun k_ => k_ < w.heap.size) _ _ l0_1 (fun k_ => k_ < w.heap.size) _ _ l0_2 (fun k_ => k_ < w.heap.size) _ _ l0_3 (fun k_ => k_ < w.heap.size) _ _ l0_4 _ _ l0_5 t367 _ ?side1 ?side2 ?side3 ?side4 ?side5 ?side6 A4.out).mono ?_
   (case side1 => exact Kd.V_mk HC0_1.out (Kd.F_below (Kd.C_F (Kd.heap_int .i64) HR0_1.out) (kB HB)))
   (case side2 => exact Kd.V_mk HC0_2.out (Kd.F_below (Kd.C_F (Kd.heap_int .i64) HR0_2.out) (kB HB)))
   (case side3 => exact Kd.V_mk HC0_3.out (Kd.F_below (Kd.C_F (Kd.heap_int .i64) HR0_3.out) (kB HB)))
   (case side4 => exact Kd.V_mk HC0_4.out (Kd.F_below (Kd.C_F (Kd.heap_int .i64) HR0_4.out) (kB HB)))
   (case side5 => exact kV (yY HR0_5.out HB.out))
   (case side6 => exact HC0_5.out)
   rintro e w12 ⟨v368, rfl, ho0, hb⟩
   refine ⟨_, rfl, ?_⟩
   have n0_ := yD (Kd.N_lower (Kd.N_mono (ok' := fun k_ => k_ ≠ gb365 ∧ k_ ≠ gb366) ho0 (fun k_ hk_ => ⟨Or.elim hk_ (fun hs_ => Or.elim hs_ (fun hs_ => fun e_ => Nat.not_le.2 hs_ (by rw [e_]; exact GW365.out)) (fun hs_ => Or.elim hs_ (fun hs_ => fun e_ => Nat.not_le.2 hs_ (by rw [e_]; exact GW365.out)) (fun hs_ => Or.elim hs_ (fun hs_ => fun e_ => Nat.not_le.2 hs_ (by rw [e_]; exact GW365.out)) (fun hs_ => fun e_ => Nat.not_le.2 hs_ (by rw [e_]; exact GW365.out))))) (fun hn_ => (Kd.freshB (g := gb365) (o := .cells #[.int .i64 a0_0, .slice A0_1 l0_1.length c0_1, .slice A0_2 l0_2.length c0_2, .slice A0_3 l0_3.length c0_3, .slice A0_4 l0_4.length c0_4, .slice A0_5 l0_5.length c0_5] 28 (0, 0)) (kM BK365) k_ hn_)), Or.elim hk_ (fun hs_ => Or.elim hs_ (fun hs_ => fun e_ => Nat.not_le.2 hs_ (by rw [e_]; exact GW366.out)) (fun hs_ => Or.elim hs_ (fun hs_ => fun e_ => Nat.not_le.2 hs_ (by rw [e_]; exact GW366.out)) (fun hs_ => Or.elim hs_ (fun hs_ => fun e_ => Nat.not_le.2 hs_ (by rw [e_]; exact GW366.out)) (fun hs_ => fun e_ => Nat.not_le.2 hs_ (by rw [e_]; exact GW366.out))))) (fun hn_ => (Kd.freshB (g := gb366) (o := .cells #[.int .i64 a1_0, .slice A1_1 l1_1.length c1_1, .slice A1_2 l1_2.length c1_2, .slice A1_3 l1_3.length c1_3, .slice A1_4 l1_4.length c1_4, .slice A1_5 l1_5.length c1_5] 28 (0, 0)) (kM BK366) k_ hn_))⟩)) (below_size (kB HB)))
   have n1_ := yD (zB (g := gb365) (o := .cells #[.int .i64 a0_0, .slice A0_1 l0_1.length c0_1, .slice A0_2 l0_2.length c0_2, .slice A0_3 l0_3.length c0_3, .slice A0_4 l0_4.length c0_4, .slice A0_5 l0_5.length c0_5] 28 (0, 0)) (kM BK365) hb)
   have n2_ := yD (zB (g := gb366) (o := .cells #[.int .i64 a1_0, .slice A1_1 l1_1.length c1_1, .slice A1_2 l1_2.length c1_2, .slice A1_3 l1_3.length c1_3, .slice A1_4 l1_4.length c1_4, .slice A1_5 l1_5.length c1_5] 28 (0, 0)) (kM BK366) hb)
   have n3_ := yD (zC (kB HB) hb)
   clear BK365 BK366 HB; have HO369 := n0_; have BK365 := n1_; have BK366 := n2_; have HB := n3_; clear n0_ n1_ n2_ n3_; (try clear hb); (try clear hb2); (try clear hk); (try clear hi); (try clear ho0)
   refine hK.out _ _ ⟨(yG BK365.out 0).trans rfl, (yG BK365.out 1).trans rfl, (yG BK365.out 2).trans rfl, (yG BK365.out 3).trans rfl, (yG BK365.out 4).trans rfl, (yG BK365.out 5).trans rfl, (yG BK366.out 0).trans rfl, (yG BK366.out 1).trans rfl, (yG BK366.out 2).trans rfl, (yG BK366.out 3).trans rfl, (yG BK366.out 4).trans rfl, (yG BK366.out 5).trans rfl⟩ (fun hHeld => ?_)
   clear hK K
   refine norm_ (a' := ?_) ?_ ?_
   rotate_left
   · show Act.put _ (some 12) _ = _
     simp only [Act.put, zH, zI, zJ, i64_w, i32_w]
     rfl
   refine one_ (i := 9) (N := some 14) (bz 20 1023) rfl rfl (one_of HT_.out (by kernel_rfl)) (by decide) (fun K hK => ?_)
   refine goes_ Try.func106 (by kernel_rfl) rfl #[.agg #[.int .i64 a1_0, .slice A1_1 l1_1.length c1_1, .slice A1_2 l1_2.length c1_2, .slice A1_3 l1_3.length c1_3, .slice A1_4 l1_4.length c1_4, .slice A1_5 l1_5.length c1_5]] (by rfl) rfl rfl (by (try simp only [zK, zL, zM]); first | done | rfl | (simp only [zN, zO]; rfl)) ?_
   with_reducible refine (impl_Selection_lists.calls a1_0 (fun k_ => k_ < w.heap.size) _ _ l1_1 (fun k_ => k_ < w.heap.size) _ _ l1_2 (fun k_ => k_ < w.heap.size) _ _ l1_3 (fun k_ => k_ < w.heap.size) _ _ l1_4 _ _ l1_5 t370 _ ?side1 ?side2 ?side3 ?side4 ?side5 ?side6 A5.out).mono ?_
   (case side1 => exact Kd.V_mk HC1_1.out (Kd.F_below (Kd.C_F (Kd.heap_int .i64) HR1_1.out) (kB HB)))
   (case side2 => exact Kd.V_mk HC1_2.out (Kd.F_below (Kd.C_F (Kd.heap_int .i64) HR1_2.out) (kB HB)))
   (case side3 => exact Kd.V_mk HC1_3.out (Kd.F_below (Kd.C_F (Kd.heap_int .i64) HR1_3.out) (kB HB)))
   (case side4 => exact Kd.V_mk HC1_4.out (Kd.F_below (Kd.C_F (Kd.heap_int .i64) HR1_4.out) (kB HB)))
   (case side5 => exact kV (yY HR1_5.out HB.out))
   (case side6 => exact HC1_5.out)
   rintro e w13 ⟨v371, rfl, ho0, hb⟩
   refine ⟨_, rfl, ?_⟩
   have n0_ := yD (Kd.N_elder' (by (with_reducible repeat (first | apply Kd.N_alloc | apply Kd.N_drewN | apply Kd.N_drew)); exact HO369.out) (Kd.N_base ho0) hb)
   have n1_ := yD (Kd.N_lower (Kd.N_mono (ok' := fun k_ => some k_ ≠ (v368 : Value).ownBlock ∧ k_ ≠ gb365 ∧ k_ ≠ gb366) ho0 (fun k_ hk_ => ⟨Or.elim hk_ (fun hs_ => Or.elim hs_ (fun hs_ => fun e_ => Nat.not_le.2 hs_ (Kd.N_base HO369.out k_ e_.symm)) (fun hs_ => Or.elim hs_ (fun hs_ => fun e_ => Nat.not_le.2 hs_ (Kd.N_base HO369.out k_ e_.symm)) (fun hs_ => Or.elim hs_ (fun hs_ => fun e_ => Nat.not_le.2 hs_ (Kd.N_base HO369.out k_ e_.symm)) (fun hs_ => fun e_ => Nat.not_le.2 hs_ (Kd.N_base HO369.out k_ e_.symm))))) (fun hn_ => (Kd.fresh' (Kd.N_lt (by (with_reducible repeat (first | apply Kd.N_alloc | apply Kd.N_drewN | apply Kd.N_drew)); exact HO369.out)) k_ hn_)), Or.elim hk_ (fun hs_ => Or.elim hs_ (fun hs_ => fun e_ => Nat.not_le.2 hs_ (by rw [e_]; exact GW365.out)) (fun hs_ => Or.elim hs_ (fun hs_ => fun e_ => Nat.not_le.2 hs_ (by rw [e_]; exact GW365.out)) (fun hs_ => Or.elim hs_ (fun hs_ => fun e_ => Nat.not_le.2 hs_ (by rw [e_]; exact GW365.out)) (fun hs_ => fun e_ => Nat.not_le.2 hs_ (by rw [e_]; exact GW365.out))))) (fun hn_ => (Kd.freshB (g := gb365) (o := .cells #[.int .i64 a0_0, .slice A0_1 l0_1.length c0_1, .slice A0_2 l0_2.length c0_2, .slice A0_3 l0_3.length c0_3, .slice A0_4 l0_4.length c0_4, .slice A0_5 l0_5.length c0_5] 28 (0, 0)) (kM BK365) k_ hn_)), Or.elim hk_ (fun hs_ => Or.elim hs_ (fun hs_ => fun e_ => Nat.not_le.2 hs_ (by rw [e_]; exact GW366.out)) (fun hs_ => Or.elim hs_ (fun hs_ => fun e_ => Nat.not_le.2 hs_ (by rw [e_]; exact GW366.out)) (fun hs_ => Or.elim hs_ (fun hs_ => fun e_ => Nat.not_le.2 hs_ (by rw [e_]; exact GW366.out)) (fun hs_ => fun e_ => Nat.not_le.2 hs_ (by rw [e_]; exact GW366.out))))) (fun hn_ => (Kd.freshB (g := gb366) (o := .cells #[.int .i64 a1_0, .slice A1_1 l1_1.length c1_1, .slice A1_2 l1_2.length c1_2, .slice A1_3 l1_3.length c1_3, .slice A1_4 l1_4.length c1_4, .slice A1_5 l1_5.length c1_5] 28 (0, 0)) (kM BK366) k_ hn_))⟩)) (below_size (kB HB)))
   have n2_ := yD (zB (g := gb365) (o := .cells #[.int .i64 a0_0, .slice A0_1 l0_1.length c0_1, .slice A0_2 l0_2.length c0_2, .slice A0_3 l0_3.length c0_3, .slice A0_4 l0_4.length c0_4, .slice A0_5 l0_5.length c0_5] 28 (0, 0)) (kM BK365) hb)
   have n3_ := yD (zB (g := gb366) (o := .cells #[.int .i64 a1_0, .slice A1_1 l1_1.length c1_1, .slice A1_2 l1_2.length c1_2, .slice A1_3 l1_3.length c1_3, .slice A1_4 l1_4.length c1_4, .slice A1_5 l1_5.length c1_5] 28 (0, 0)) (kM BK366) hb)
   have n4_ := yD (zC (kB HB) hb)
   clear HO369 BK365 BK366 HB; have HO369 := n0_; have HO372 := n1_; have BK365 := n2_; have BK366 := n3_; have HB := n4_; clear n0_ n1_ n2_ n3_ n4_; (try clear hb); (try clear hb2); (try clear hk); (try clear hi); (try clear ho0)
   obtain ⟨Ao14, co14, eo14⟩ := Kd.N_slice HO369.out
   (first | subst eo14 | (injection eo14 with f1_ f2_ f3_; have f4_ := f1_.symm; have f5_ := f3_.symm; clear f1_ f2_ f3_; subst f4_; subst f5_))
   obtain ⟨Ao15, co15, eo15⟩ := Kd.N_slice HO372.out
   (first | subst eo15 | (injection eo15 with f1_ f2_ f3_; have f4_ := f1_.symm; have f5_ := f3_.symm; clear f1_ f2_ f3_; subst f4_; subst f5_))
   refine hK.out _ _ ⟨(yG BK365.out 0).trans rfl, (yG BK365.out 1).trans rfl, (yG BK365.out 2).trans rfl, (yG BK365.out 3).trans rfl, (yG BK365.out 4).trans rfl, (yG BK365.out 5).trans rfl, (yG BK366.out 0).trans rfl, (yG BK366.out 1).trans rfl, (yG BK366.out 2).trans rfl, (yG BK366.out 3).trans rfl, (yG BK366.out 4).trans rfl, (yG BK366.out 5).trans rfl⟩ (fun hHeld => ?_)
   clear hK K
   refine norm_ (a' := ?_) ?_ ?_
   rotate_left
   · show Act.put _ (some 14) _ = _
     simp only [Act.put, zH, zI, zJ, i64_w, i32_w]
     rfl
   refine one_ (i := 10) (N := some 15) (bz 20 2047) rfl rfl (one_of HT_.out (by kernel_rfl)) (by decide) (fun K hK => ?_)
   refine goes_ Try.func105 (by kernel_rfl) rfl #[.slice Ao14 t367.length co14, .slice Ao15 t370.length co15, .func (.func 107) #[] #[]] (by rfl) rfl rfl (by (try simp only [zK, zL, zM]); first | done | rfl | (simp only [zN, zO]; rfl)) ?_
   with_reducible refine (slices_EqualFunc_slices_Equal_int64_int64.calls k _ _ t367 _ _ t370  true _ ?side1 ?side2 ?side3 ?side4 A6.out).mono ?_
   (case side1 => exact kV (Kd.N_reads' HO369.out).2.2)
   (case side2 => exact (Kd.N_reads' HO369.out).2.1)
   (case side3 => exact kV (Kd.N_reads' HO372.out).2.2)
   (case side4 => exact (Kd.N_reads' HO372.out).2.1)
   rintro e w16 ⟨rfl, hb⟩
   refine ⟨_, rfl, ?_⟩
   have n0_ := yD (Kd.N_below (by (with_reducible repeat (first | apply Kd.N_alloc | apply Kd.N_drewN | apply Kd.N_drew)); exact HO369.out) hb)
   have n1_ := yD (Kd.N_below (by (with_reducible repeat (first | apply Kd.N_alloc | apply Kd.N_drewN | apply Kd.N_drew)); exact HO372.out) hb)
   have n2_ := yD (zB (g := gb365) (o := .cells #[.int .i64 a0_0, .slice A0_1 l0_1.length c0_1, .slice A0_2 l0_2.length c0_2, .slice A0_3 l0_3.length c0_3, .slice A0_4 l0_4.length c0_4, .slice A0_5 l0_5.length c0_5] 28 (0, 0)) (kM BK365) hb)
   have n3_ := yD (zB (g := gb366) (o := .cells #[.int .i64 a1_0, .slice A1_1 l1_1.length c1_1, .slice A1_2 l1_2.length c1_2, .slice A1_3 l1_3.length c1_3, .slice A1_4 l1_4.length c1_4, .slice A1_5 l1_5.length c1_5] 28 (0, 0)) (kM BK366) hb)
   have n4_ := yD (zC (kB HB) hb)
   clear HO369 HO372 BK365 BK366 HB; have HO369 := n0_; have HO372 := n1_; have BK365 := n2_; have BK366 := n3_; have HB := n4_; clear n0_ n1_ n2_ n3_ n4_; (try clear hb); (try clear hb2); (try clear hk); (try clear hi)
   refine hK.out _ _ ⟨(yG BK365.out 0).trans rfl, (yG BK365.out 1).trans rfl, (yG BK365.out 2).trans rfl, (yG BK365.out 3).trans rfl, (yG BK365.out 4).trans rfl, (yG BK365.out 5).trans rfl, (yG BK366.out 0).trans rfl, (yG BK366.out 1).trans rfl, (yG BK366.out 2).trans rfl, (yG BK366.out 3).trans rfl, (yG BK366.out 4).trans rfl, (yG BK366.out 5).trans rfl⟩ (fun hHeld => ?_)
   clear hK K
   refine norm_ (a' := ?_) ?_ ?_
   rotate_left
   · show Act.put _ (some 15) _ = _
     simp only [Act.put, zH, zI, zJ, i64_w, i32_w]
     rfl
   refine qA 11 16 (bz 20 4095) HT_ ?_
   refine qA 12 17 (bz 20 8191) HT_ ?_
   refine qA 13 18 (bz 20 16383) HT_ ?_
   refine qA 15 20 (bz 20 49151) HT_ ?_
   refine qC 14 19 (bz 20 65535) HT_ HW_ hHeld ?_ (hy := by rintro w' ⟨s0, s1, s2, s3, s4, s5, s6, s7, s8, s9, s10, s11⟩; go_simp; with_reducible rfl)
   refine qC 16 21 (bz 20 131071) HT_ HW_ hHeld ?_ (hy := by rintro w' ⟨s0, s1, s2, s3, s4, s5, s6, s7, s8, s9, s10, s11⟩; go_simp; with_reducible rfl)
   refine one_ (i := 17) (N := some 22) (bz 20 262143) rfl rfl (one_of HT_.out (by kernel_rfl)) (by decide) (fun K hK => ?_)
   refine goes_ Try.func108 (by kernel_rfl) rfl #[.slice A0_5 l0_5.length c0_5, .slice A1_5 l1_5.length c1_5, .func (.func 109) #[] #[]] (by rfl) rfl rfl (by (try simp only [zK, zL, zM]); first | done | rfl | (simp only [zN, zO]; rfl)) ?_
   with_reducible refine (slices_EqualFunc_impl_samePoint.calls k _ _ l0_5 _ _ l1_5  t374 _ ?side1 ?side2 ?side3 ?side4 A8.out).mono ?_
   (case side1 => exact kV (yY HR0_5.out HB.out))
   (case side2 => exact HC0_5.out)
   (case side3 => exact kV (yY HR1_5.out HB.out))
   (case side4 => exact HC1_5.out)
   rintro e w17 ⟨rfl, hb⟩
   refine ⟨_, rfl, ?_⟩
   have n0_ := yD (Kd.N_below (by (with_reducible repeat (first | apply Kd.N_alloc | apply Kd.N_drewN | apply Kd.N_drew)); exact HO369.out) hb)
   have n1_ := yD (Kd.N_below (by (with_reducible repeat (first | apply Kd.N_alloc | apply Kd.N_drewN | apply Kd.N_drew)); exact HO372.out) hb)
   have n2_ := yD (zB (g := gb365) (o := .cells #[.int .i64 a0_0, .slice A0_1 l0_1.length c0_1, .slice A0_2 l0_2.length c0_2, .slice A0_3 l0_3.length c0_3, .slice A0_4 l0_4.length c0_4, .slice A0_5 l0_5.length c0_5] 28 (0, 0)) (kM BK365) hb)
   have n3_ := yD (zB (g := gb366) (o := .cells #[.int .i64 a1_0, .slice A1_1 l1_1.length c1_1, .slice A1_2 l1_2.length c1_2, .slice A1_3 l1_3.length c1_3, .slice A1_4 l1_4.length c1_4, .slice A1_5 l1_5.length c1_5] 28 (0, 0)) (kM BK366) hb)
   have n4_ := yD (zC (kB HB) hb)
   clear HO369 HO372 BK365 BK366 HB; have HO369 := n0_; have HO372 := n1_; have BK365 := n2_; have BK366 := n3_; have HB := n4_; clear n0_ n1_ n2_ n3_ n4_; (try clear hb); (try clear hb2); (try clear hk); (try clear hi)
   refine hK.out _ _ ⟨(yG BK365.out 0).trans rfl, (yG BK365.out 1).trans rfl, (yG BK365.out 2).trans rfl, (yG BK365.out 3).trans rfl, (yG BK365.out 4).trans rfl, (yG BK365.out 5).trans rfl, (yG BK366.out 0).trans rfl, (yG BK366.out 1).trans rfl, (yG BK366.out 2).trans rfl, (yG BK366.out 3).trans rfl, (yG BK366.out 4).trans rfl, (yG BK366.out 5).trans rfl⟩ (fun hHeld => ?_)
   clear hK K
   refine norm_ (a' := ?_) ?_ ?_
   rotate_left
   · show Act.put _ (some 22) _ = _
     simp only [Act.put, zH, zI, zJ, i64_w, i32_w]
     rfl
   refine qA 18 23 (bz 20 524287) HT_ ?_
   refine qA 19 4 (bz 20 1048575) HT_ ?_
   refine done_ (done_of HT_.out (by kernel_rfl)) ?_
   try go_wp2
   go_ret
   exact ⟨by first | rfl | (simp <;> rfl) | (simp [*] <;> rfl), kR1 HB⟩
  ·
   replace c7 := Bool.eq_false_iff.mpr c7
   subst c7
   have H1 : (some false) = some r := by rw [if_neg (show ¬ (false = true) by decide)] at H; exact H
   clear H; have H := H1; clear H1; obtain rfl := Option.some.inj H; go_enter Try.func93, Try.ntmps93
   try go_wp2_with (first | ((with_reducible refine gate_dst (N := 2) rfl ?_); refine box_event ?hg (N := 2) ?hd (cs := #[.int .i64 a0_0, .slice A0_1 l0_1.length c0_1, .slice A0_2 l0_2.length c0_2, .slice A0_3 l0_3.length c0_3, .slice A0_4 l0_4.length c0_4, .slice A0_5 l0_5.length c0_5]) (t := 28) ?hr ?_; (case hd => rfl); (case hg => rfl); (case hr => first | (go_simp; done) | (go_simp; rfl)); intro gb365 hg w18 hbox hb; have n0_ := yD (zC (kB HB) hb); have n1_ := yD (hbox); have n2_ := yD ((by rw [hg]; exact (below_size (kB HB)) : w.heap.size ≤ gb365)); have n3_ := yD ((by rw [hg]; exact (below_size (kB HB)) : w.heap.size ≤ gb365)); clear HB; have HB := n0_; have BK365 := n1_; have GW365 := n2_; have GE365 := n3_; clear n0_ n1_ n2_ n3_; clear hb hbox hg) | ((with_reducible refine gate_dst (N := 3) rfl ?_); refine box_event ?hg (N := 3) ?hd (cs := #[.int .i64 a1_0, .slice A1_1 l1_1.length c1_1, .slice A1_2 l1_2.length c1_2, .slice A1_3 l1_3.length c1_3, .slice A1_4 l1_4.length c1_4, .slice A1_5 l1_5.length c1_5]) (t := 28) ?hr ?_; (case hd => rfl); (case hg => rfl); (case hr => first | (go_simp; done) | (go_simp; rfl)); intro gb366 hg w19 hbox hb; have n0_ := yD (zB (g := gb365) (o := .cells #[.int .i64 a0_0, .slice A0_1 l0_1.length c0_1, .slice A0_2 l0_2.length c0_2, .slice A0_3 l0_3.length c0_3, .slice A0_4 l0_4.length c0_4, .slice A0_5 l0_5.length c0_5] 28 (0, 0)) (kM BK365) hb); have n1_ := yD (zC (kB HB) hb); have n2_ := yD (hbox); have n3_ := yD ((by rw [hg]; exact (below_size (kB HB)) : w.heap.size ≤ gb366)); have n4_ := yD ((by rw [hg]; exact (below_size (kB HB)) : w.heap.size ≤ gb366)); have n5_ := yD ((by rw [hg]; exact Nat.ne_of_lt (blk_lt (g := gb365) (o := .cells #[.int .i64 a0_0, .slice A0_1 l0_1.length c0_1, .slice A0_2 l0_2.length c0_2, .slice A0_3 l0_3.length c0_3, .slice A0_4 l0_4.length c0_4, .slice A0_5 l0_5.length c0_5] 28 (0, 0)) (kM BK365)) : gb365 ≠ gb366)); have n6_ := yD ((by rw [hg]; exact Nat.ne_of_gt (blk_lt (g := gb365) (o := .cells #[.int .i64 a0_0, .slice A0_1 l0_1.length c0_1, .slice A0_2 l0_2.length c0_2, .slice A0_3 l0_3.length c0_3, .slice A0_4 l0_4.length c0_4, .slice A0_5 l0_5.length c0_5] 28 (0, 0)) (kM BK365)) : gb366 ≠ gb365)); clear BK365; clear HB; have BK365 := n0_; have HB := n1_; have BK366 := n2_; have GW366 := n3_; have GE366 := n4_; have NB365_366 := n5_; have NB366_365 := n6_; clear n0_ n1_ n2_ n3_ n4_ n5_ n6_; clear hb hbox hg))
   have n0_ := yD (yO BK365.out)
   have n1_ := yD (yO BK366.out)
   have n2_ := yD (yP HB.out)
   clear BK365 BK366 HB; have BK365 := n0_; have BK366 := n1_; have HB := n2_; clear n0_ n1_ n2_
   refine start_ (n := 20) (S := fun w' => w'.cell? ⟨gb365, 0, none⟩ = some (.int .i64 a0_0) ∧ w'.cell? ⟨gb365, 1, none⟩ = some (.slice A0_1 l0_1.length c0_1) ∧ w'.cell? ⟨gb365, 2, none⟩ = some (.slice A0_2 l0_2.length c0_2) ∧ w'.cell? ⟨gb365, 3, none⟩ = some (.slice A0_3 l0_3.length c0_3) ∧ w'.cell? ⟨gb365, 4, none⟩ = some (.slice A0_4 l0_4.length c0_4) ∧ w'.cell? ⟨gb365, 5, none⟩ = some (.slice A0_5 l0_5.length c0_5) ∧ w'.cell? ⟨gb366, 0, none⟩ = some (.int .i64 a1_0) ∧ w'.cell? ⟨gb366, 1, none⟩ = some (.slice A1_1 l1_1.length c1_1) ∧ w'.cell? ⟨gb366, 2, none⟩ = some (.slice A1_2 l1_2.length c1_2) ∧ w'.cell? ⟨gb366, 3, none⟩ = some (.slice A1_3 l1_3.length c1_3) ∧ w'.cell? ⟨gb366, 4, none⟩ = some (.slice A1_4 l1_4.length c1_4) ∧ w'.cell? ⟨gb366, 5, none⟩ = some (.slice A1_5 l1_5.length c1_5)) (ds := []) (bz 20 0) (by kernel_rfl) rfl rfl ⟨(yG BK365.out 0).trans rfl, (yG BK365.out 1).trans rfl, (yG BK365.out 2).trans rfl, (yG BK365.out 3).trans rfl, (yG BK365.out 4).trans rfl, (yG BK365.out 5).trans rfl, (yG BK366.out 0).trans rfl, (yG BK366.out 1).trans rfl, (yG BK366.out 2).trans rfl, (yG BK366.out 3).trans rfl, (yG BK366.out 4).trans rfl, (yG BK366.out 5).trans rfl⟩ (fun hHeld => ?_); refine with_tabW impl_SameSelection.tab1 impl_SameSelection.bits1 (fun HT_ HW_ => ?_)
   generalize w19.drew = w20 at BK365 BK366 HB hHeld ⊢
   refine qA 0 5 (bz 20 1) HT_ ?_
   refine qA 2 7 (bz 20 5) HT_ ?_
   refine qC 1 6 (bz 20 7) HT_ HW_ hHeld ?_ (hy := by rintro w' ⟨s0, s1, s2, s3, s4, s5, s6, s7, s8, s9, s10, s11⟩; go_simp; with_reducible rfl)
   refine qC 3 8 (bz 20 15) HT_ HW_ hHeld ?_ (hy := by rintro w' ⟨s0, s1, s2, s3, s4, s5, s6, s7, s8, s9, s10, s11⟩; go_simp; with_reducible rfl)
   refine qA 4 9 (bz 20 31) HT_ ?_
   refine qA 5 10 (bz 20 63) HT_ ?_
   refine qC 6 11 (bz 20 127) HT_ HW_ hHeld ?_ (hy := by rintro w' ⟨s0, s1, s2, s3, s4, s5, s6, s7, s8, s9, s10, s11⟩; go_simp; with_reducible rfl)
   refine qC 8 13 (bz 20 383) HT_ HW_ hHeld ?_ (hy := by rintro w' ⟨s0, s1, s2, s3, s4, s5, s6, s7, s8, s9, s10, s11⟩; go_simp; with_reducible rfl)
   refine one_ (i := 7) (N := some 12) (bz 20 511) rfl rfl (one_of HT_.out (by kernel_rfl)) (by decide) (fun K hK => ?_)
   refine goes_ Try.func106 (by kernel_rfl) rfl #[.agg #[.int .i64 a0_0, .slice A0_1 l0_1.length c0_1, .slice A0_2 l0_2.length c0_2, .slice A0_3 l0_3.length c0_3, .slice A0_4 l0_4.length c0_4, .slice A0_5 l0_5.length c0_5]] (by rfl) rfl rfl (by (try simp only [zK, zL, zM]); first | done | rfl | (simp only [zN, zO]; rfl)) ?_
   with_reducible refine (impl_Selection_lists.calls a0_0 (fun k_ => k_ < w.heap.size) _ _ l0_1 (fun k_ => k_ < w.heap.size) _ _ l0_2 (fun k_ => k_ < w.heap.size) _ _ l0_3 (fun k_ => k_ < w.heap.size) _ _ l0_4 _ _ l0_5 t367 _ ?side1 ?side2 ?side3 ?side4 ?side5 ?side6 A4.out).mono ?_
   (case side1 => exact Kd.V_mk HC0_1.out (Kd.F_below (Kd.C_F (Kd.heap_int .i64) HR0_1.out) (kB HB)))
   (case side2 => exact Kd.V_mk HC0_2.out (Kd.F_below (Kd.C_F (Kd.heap_int .i64) HR0_2.out) (kB HB)))
   (case side3 => exact Kd.V_mk HC0_3.out (Kd.F_below (Kd.C_F (Kd.heap_int .i64) HR0_3.out) (kB HB)))
   (case side4 => exact Kd.V_mk HC0_4.out (Kd.F_below (Kd.C_F (Kd.heap_int .i64) HR0_4.out) (kB HB)))
   (case side5 => exact kV (yY HR0_5.out HB.out))
   (case side6 => exact HC0_5.out)
   rintro e w21 ⟨v368, rfl, ho0, hb⟩
   refine ⟨_, rfl, ?_⟩
   have n0_ := yD (Kd.N_lower (Kd.N_mono (ok' := fun k_ => k_ ≠ gb365 ∧ k_ ≠ gb366) ho0 (fun k_ hk_ => ⟨Or.elim hk_ (fun hs_ => Or.elim hs_ (fun hs_ => fun e_ => Nat.not_le.2 hs_ (by rw [e_]; exact GW365.out)) (fun hs_ => Or.elim hs_ (fun hs_ => fun e_ => Nat.not_le.2 hs_ (by rw [e_]; exact GW365.out)) (fun hs_ => Or.elim hs_ (fun hs_ => fun e_ => Nat.not_le.2 hs_ (by rw [e_]; exact GW365.out)) (fun hs_ => fun e_ => Nat.not_le.2 hs_ (by rw [e_]; exact GW365.out))))) (fun hn_ => (Kd.freshB (g := gb365) (o := .cells #[.int .i64 a0_0, .slice A0_1 l0_1.length c0_1, .slice A0_2 l0_2.length c0_2, .slice A0_3 l0_3.length c0_3, .slice A0_4 l0_4.length c0_4, .slice A0_5 l0_5.length c0_5] 28 (0, 0)) (kM BK365) k_ hn_)), Or.elim hk_ (fun hs_ => Or.elim hs_ (fun hs_ => fun e_ => Nat.not_le.2 hs_ (by rw [e_]; exact GW366.out)) (fun hs_ => Or.elim hs_ (fun hs_ => fun e_ => Nat.not_le.2 hs_ (by rw [e_]; exact GW366.out)) (fun hs_ => Or.elim hs_ (fun hs_ => fun e_ => Nat.not_le.2 hs_ (by rw [e_]; exact GW366.out)) (fun hs_ => fun e_ => Nat.not_le.2 hs_ (by rw [e_]; exact GW366.out))))) (fun hn_ => (Kd.freshB (g := gb366) (o := .cells #[.int .i64 a1_0, .slice A1_1 l1_1.length c1_1, .slice A1_2 l1_2.length c1_2, .slice A1_3 l1_3.length c1_3, .slice A1_4 l1_4.length c1_4, .slice A1_5 l1_5.length c1_5] 28 (0, 0)) (kM BK366) k_ hn_))⟩)) (below_size (kB HB)))
   have n1_ := yD (zB (g := gb365) (o := .cells #[.int .i64 a0_0, .slice A0_1 l0_1.length c0_1, .slice A0_2 l0_2.length c0_2, .slice A0_3 l0_3.length c0_3, .slice A0_4 l0_4.length c0_4, .slice A0_5 l0_5.length c0_5] 28 (0, 0)) (kM BK365) hb)
   have n2_ := yD (zB (g := gb366) (o := .cells #[.int .i64 a1_0, .slice A1_1 l1_1.length c1_1, .slice A1_2 l1_2.length c1_2, .slice A1_3 l1_3.length c1_3, .slice A1_4 l1_4.length c1_4, .slice A1_5 l1_5.length c1_5] 28 (0, 0)) (kM BK366) hb)
   have n3_ := yD (zC (kB HB) hb)
   clear BK365 BK366 HB; have HO369 := n0_; have BK365 := n1_; have BK366 := n2_; have HB := n3_; clear n0_ n1_ n2_ n3_; (try clear hb); (try clear hb2); (try clear hk); (try clear hi); (try clear ho0)
   refine hK.out _ _ ⟨(yG BK365.out 0).trans rfl, (yG BK365.out 1).trans rfl, (yG BK365.out 2).trans rfl, (yG BK365.out 3).trans rfl, (yG BK365.out 4).trans rfl, (yG BK365.out 5).trans rfl, (yG BK366.out 0).trans rfl, (yG BK366.out 1).trans rfl, (yG BK366.out 2).trans rfl, (yG BK366.out 3).trans rfl, (yG BK366.out 4).trans rfl, (yG BK366.out 5).trans rfl⟩ (fun hHeld => ?_)
   clear hK K
   refine norm_ (a' := ?_) ?_ ?_
   rotate_left
   · show Act.put _ (some 12) _ = _
     simp only [Act.put, zH, zI, zJ, i64_w, i32_w]
     rfl
   refine one_ (i := 9) (N := some 14) (bz 20 1023) rfl rfl (one_of HT_.out (by kernel_rfl)) (by decide) (fun K hK => ?_)
   refine goes_ Try.func106 (by kernel_rfl) rfl #[.agg #[.int .i64 a1_0, .slice A1_1 l1_1.length c1_1, .slice A1_2 l1_2.length c1_2, .slice A1_3 l1_3.length c1_3, .slice A1_4 l1_4.length c1_4, .slice A1_5 l1_5.length c1_5]] (by rfl) rfl rfl (by (try simp only [zK, zL, zM]); first | done | rfl | (simp only [zN, zO]; rfl)) ?_
   with_reducible refine (impl_Selection_lists.calls a1_0 (fun k_ => k_ < w.heap.size) _ _ l1_1 (fun k_ => k_ < w.heap.size) _ _ l1_2 (fun k_ => k_ < w.heap.size) _ _ l1_3 (fun k_ => k_ < w.heap.size) _ _ l1_4 _ _ l1_5 t370 _ ?side1 ?side2 ?side3 ?side4 ?side5 ?side6 A5.out).mono ?_
   (case side1 => exact Kd.V_mk HC1_1.out (Kd.F_below (Kd.C_F (Kd.heap_int .i64) HR1_1.out) (kB HB)))
   (case side2 => exact Kd.V_mk HC1_2.out (Kd.F_below (Kd.C_F (Kd.heap_int .i64) HR1_2.out) (kB HB)))
   (case side3 => exact Kd.V_mk HC1_3.out (Kd.F_below (Kd.C_F (Kd.heap_int .i64) HR1_3.out) (kB HB)))
   (case side4 => exact Kd.V_mk HC1_4.out (Kd.F_below (Kd.C_F (Kd.heap_int .i64) HR1_4.out) (kB HB)))
   (case side5 => exact kV (yY HR1_5.out HB.out))
   (case side6 => exact HC1_5.out)
   rintro e w22 ⟨v371, rfl, ho0, hb⟩
   refine ⟨_, rfl, ?_⟩
   have n0_ := yD (Kd.N_elder' (by (with_reducible repeat (first | apply Kd.N_alloc | apply Kd.N_drewN | apply Kd.N_drew)); exact HO369.out) (Kd.N_base ho0) hb)
   have n1_ := yD (Kd.N_lower (Kd.N_mono (ok' := fun k_ => some k_ ≠ (v368 : Value).ownBlock ∧ k_ ≠ gb365 ∧ k_ ≠ gb366) ho0 (fun k_ hk_ => ⟨Or.elim hk_ (fun hs_ => Or.elim hs_ (fun hs_ => fun e_ => Nat.not_le.2 hs_ (Kd.N_base HO369.out k_ e_.symm)) (fun hs_ => Or.elim hs_ (fun hs_ => fun e_ => Nat.not_le.2 hs_ (Kd.N_base HO369.out k_ e_.symm)) (fun hs_ => Or.elim hs_ (fun hs_ => fun e_ => Nat.not_le.2 hs_ (Kd.N_base HO369.out k_ e_.symm)) (fun hs_ => fun e_ => Nat.not_le.2 hs_ (Kd.N_base HO369.out k_ e_.symm))))) (fun hn_ => (Kd.fresh' (Kd.N_lt (by (with_reducible repeat (first | apply Kd.N_alloc | apply Kd.N_drewN | apply Kd.N_drew)); exact HO369.out)) k_ hn_)), Or.elim hk_ (fun hs_ => Or.elim hs_ (fun hs_ => fun e_ => Nat.not_le.2 hs_ (by rw [e_]; exact GW365.out)) (fun hs_ => Or.elim hs_ (fun hs_ => fun e_ => Nat.not_le.2 hs_ (by rw [e_]; exact GW365.out)) (fun hs_ => Or.elim hs_ (fun hs_ => fun e_ => Nat.not_le.2 hs_ (by rw [e_]; exact GW365.out)) (fun hs_ => fun e_ => Nat.not_le.2 hs_ (by rw [e_]; exact GW365.out))))) (fun hn_ => (Kd.freshB (g := gb365) (o := .cells #[.int .i64 a0_0, .slice A0_1 l0_1.length c0_1, .slice A0_2 l0_2.length c0_2, .slice A0_3 l0_3.length c0_3, .slice A0_4 l0_4.length c0_4, .slice A0_5 l0_5.length c0_5] 28 (0, 0)) (kM BK365) k_ hn_)), Or.elim hk_ (fun hs_ => Or.elim hs_ (fun hs_ => fun e_ => Nat.not_le.2 hs_ (by rw [e_]; exact GW366.out)) (fun hs_ => Or.elim hs_ (fun hs_ => fun e_ => Nat.not_le.2 hs_ (by rw [e_]; exact GW366.out)) (fun hs_ => Or.elim hs_ (fun hs_ => fun e_ => Nat.not_le.2 hs_ (by rw [e_]; exact GW366.out)) (fun hs_ => fun e_ => Nat.not_le.2 hs_ (by rw [e_]; exact GW366.out))))) (fun hn_ => (Kd.freshB (g := gb366) (o := .cells #[.int .i64 a1_0, .slice A1_1 l1_1.length c1_1, .slice A1_2 l1_2.length c1_2, .slice A1_3 l1_3.length c1_3, .slice A1_4 l1_4.length c1_4, .slice A1_5 l1_5.length c1_5] 28 (0, 0)) (kM BK366) k_ hn_))⟩)) (below_size (kB HB)))
   have n2_ := yD (zB (g := gb365) (o := .cells #[.int .i64 a0_0, .slice A0_1 l0_1.length c0_1, .slice A0_2 l0_2.length c0_2, .slice A0_3 l0_3.length c0_3, .slice A0_4 l0_4.length c0_4, .slice A0_5 l0_5.length c0_5] 28 (0, 0)) (kM BK365) hb)
   have n3_ := yD (zB (g := gb366) (o := .cells #[.int .i64 a1_0, .slice A1_1 l1_1.length c1_1, .slice A1_2 l1_2.length c1_2, .slice A1_3 l1_3.length c1_3, .slice A1_4 l1_4.length c1_4, .slice A1_5 l1_5.length c1_5] 28 (0, 0)) (kM BK366) hb)
   have n4_ := yD (zC (kB HB) hb)
   clear HO369 BK365 BK366 HB; have HO369 := n0_; have HO372 := n1_; have BK365 := n2_; have BK366 := n3_; have HB := n4_; clear n0_ n1_ n2_ n3_ n4_; (try clear hb); (try clear hb2); (try clear hk); (try clear hi); (try clear ho0)
   obtain ⟨Ao23, co23, eo23⟩ := Kd.N_slice HO369.out
   (first | subst eo23 | (injection eo23 with f1_ f2_ f3_; have f4_ := f1_.symm; have f5_ := f3_.symm; clear f1_ f2_ f3_; subst f4_; subst f5_))
   obtain ⟨Ao24, co24, eo24⟩ := Kd.N_slice HO372.out
   (first | subst eo24 | (injection eo24 with f1_ f2_ f3_; have f4_ := f1_.symm; have f5_ := f3_.symm; clear f1_ f2_ f3_; subst f4_; subst f5_))
   refine hK.out _ _ ⟨(yG BK365.out 0).trans rfl, (yG BK365.out 1).trans rfl, (yG BK365.out 2).trans rfl, (yG BK365.out 3).trans rfl, (yG BK365.out 4).trans rfl, (yG BK365.out 5).trans rfl, (yG BK366.out 0).trans rfl, (yG BK366.out 1).trans rfl, (yG BK366.out 2).trans rfl, (yG BK366.out 3).trans rfl, (yG BK366.out 4).trans rfl, (yG BK366.out 5).trans rfl⟩ (fun hHeld => ?_)
   clear hK K
   refine norm_ (a' := ?_) ?_ ?_
   rotate_left
   · show Act.put _ (some 14) _ = _
     simp only [Act.put, zH, zI, zJ, i64_w, i32_w]
     rfl
   refine one_ (i := 10) (N := some 15) (bz 20 2047) rfl rfl (one_of HT_.out (by kernel_rfl)) (by decide) (fun K hK => ?_)
   refine goes_ Try.func105 (by kernel_rfl) rfl #[.slice Ao23 t367.length co23, .slice Ao24 t370.length co24, .func (.func 107) #[] #[]] (by rfl) rfl rfl (by (try simp only [zK, zL, zM]); first | done | rfl | (simp only [zN, zO]; rfl)) ?_
   with_reducible refine (slices_EqualFunc_slices_Equal_int64_int64.calls k _ _ t367 _ _ t370  false _ ?side1 ?side2 ?side3 ?side4 A6.out).mono ?_
   (case side1 => exact kV (Kd.N_reads' HO369.out).2.2)
   (case side2 => exact (Kd.N_reads' HO369.out).2.1)
   (case side3 => exact kV (Kd.N_reads' HO372.out).2.2)
   (case side4 => exact (Kd.N_reads' HO372.out).2.1)
   rintro e w25 ⟨rfl, hb⟩
   refine ⟨_, rfl, ?_⟩
   have n0_ := yD (Kd.N_below (by (with_reducible repeat (first | apply Kd.N_alloc | apply Kd.N_drewN | apply Kd.N_drew)); exact HO369.out) hb)
   have n1_ := yD (Kd.N_below (by (with_reducible repeat (first | apply Kd.N_alloc | apply Kd.N_drewN | apply Kd.N_drew)); exact HO372.out) hb)
   have n2_ := yD (zB (g := gb365) (o := .cells #[.int .i64 a0_0, .slice A0_1 l0_1.length c0_1, .slice A0_2 l0_2.length c0_2, .slice A0_3 l0_3.length c0_3, .slice A0_4 l0_4.length c0_4, .slice A0_5 l0_5.length c0_5] 28 (0, 0)) (kM BK365) hb)
   have n3_ := yD (zB (g := gb366) (o := .cells #[.int .i64 a1_0, .slice A1_1 l1_1.length c1_1, .slice A1_2 l1_2.length c1_2, .slice A1_3 l1_3.length c1_3, .slice A1_4 l1_4.length c1_4, .slice A1_5 l1_5.length c1_5] 28 (0, 0)) (kM BK366) hb)
   have n4_ := yD (zC (kB HB) hb)
   clear HO369 HO372 BK365 BK366 HB; have HO369 := n0_; have HO372 := n1_; have BK365 := n2_; have BK366 := n3_; have HB := n4_; clear n0_ n1_ n2_ n3_ n4_; (try clear hb); (try clear hb2); (try clear hk); (try clear hi)
   refine hK.out _ _ ⟨(yG BK365.out 0).trans rfl, (yG BK365.out 1).trans rfl, (yG BK365.out 2).trans rfl, (yG BK365.out 3).trans rfl, (yG BK365.out 4).trans rfl, (yG BK365.out 5).trans rfl, (yG BK366.out 0).trans rfl, (yG BK366.out 1).trans rfl, (yG BK366.out 2).trans rfl, (yG BK366.out 3).trans rfl, (yG BK366.out 4).trans rfl, (yG BK366.out 5).trans rfl⟩ (fun hHeld => ?_)
   clear hK K
   refine norm_ (a' := ?_) ?_ ?_
   rotate_left
   · show Act.put _ (some 15) _ = _
     simp only [Act.put, zH, zI, zJ, i64_w, i32_w]
     rfl
   refine qA 11 16 (bz 20 4095) HT_ ?_
   refine qA 12 17 (bz 20 8191) HT_ ?_
   refine qB 13 18 (bz 20 16383) HT_ ?_
   refine qB 14 19 (bz 20 32767) HT_ ?_
   refine qB 15 20 (bz 20 65535) HT_ ?_
   refine qB 16 21 (bz 20 131071) HT_ ?_
   refine qB 17 22 (bz 20 262143) HT_ ?_
   refine qA 18 23 (bz 20 524287) HT_ ?_
   refine qA 19 4 (bz 20 1048575) HT_ ?_
   refine done_ (done_of HT_.out (by kernel_rfl)) ?_
   try go_wp2
   go_ret
   exact ⟨by first | rfl | (simp <;> rfl) | (simp [*] <;> rfl), kR1 HB⟩
 ·
  rw [if_neg c3] at H
  have c3b0 : (a0_0 == a1_0) = false := beq_eq_false_iff_ne.mpr c3
  have c3b1 : (a0_0 != a1_0) = true := bne_iff_ne.mpr c3
  obtain rfl := Option.some.inj H; go_enter Try.func93, Try.ntmps93
  try go_wp2_with (first | ((with_reducible refine gate_dst (N := 2) rfl ?_); refine box_event ?hg (N := 2) ?hd (cs := #[.int .i64 a0_0, .slice A0_1 l0_1.length c0_1, .slice A0_2 l0_2.length c0_2, .slice A0_3 l0_3.length c0_3, .slice A0_4 l0_4.length c0_4, .slice A0_5 l0_5.length c0_5]) (t := 28) ?hr ?_; (case hd => rfl); (case hg => rfl); (case hr => first | (go_simp; done) | (go_simp; rfl)); intro gb365 hg w26 hbox hb; have n0_ := yD (zC (kB HB) hb); have n1_ := yD (hbox); have n2_ := yD ((by rw [hg]; exact (below_size (kB HB)) : w.heap.size ≤ gb365)); have n3_ := yD ((by rw [hg]; exact (below_size (kB HB)) : w.heap.size ≤ gb365)); clear HB; have HB := n0_; have BK365 := n1_; have GW365 := n2_; have GE365 := n3_; clear n0_ n1_ n2_ n3_; clear hb hbox hg) | ((with_reducible refine gate_dst (N := 3) rfl ?_); refine box_event ?hg (N := 3) ?hd (cs := #[.int .i64 a1_0, .slice A1_1 l1_1.length c1_1, .slice A1_2 l1_2.length c1_2, .slice A1_3 l1_3.length c1_3, .slice A1_4 l1_4.length c1_4, .slice A1_5 l1_5.length c1_5]) (t := 28) ?hr ?_; (case hd => rfl); (case hg => rfl); (case hr => first | (go_simp; done) | (go_simp; rfl)); intro gb366 hg w27 hbox hb; have n0_ := yD (zB (g := gb365) (o := .cells #[.int .i64 a0_0, .slice A0_1 l0_1.length c0_1, .slice A0_2 l0_2.length c0_2, .slice A0_3 l0_3.length c0_3, .slice A0_4 l0_4.length c0_4, .slice A0_5 l0_5.length c0_5] 28 (0, 0)) (kM BK365) hb); have n1_ := yD (zC (kB HB) hb); have n2_ := yD (hbox); have n3_ := yD ((by rw [hg]; exact (below_size (kB HB)) : w.heap.size ≤ gb366)); have n4_ := yD ((by rw [hg]; exact (below_size (kB HB)) : w.heap.size ≤ gb366)); have n5_ := yD ((by rw [hg]; exact Nat.ne_of_lt (blk_lt (g := gb365) (o := .cells #[.int .i64 a0_0, .slice A0_1 l0_1.length c0_1, .slice A0_2 l0_2.length c0_2, .slice A0_3 l0_3.length c0_3, .slice A0_4 l0_4.length c0_4, .slice A0_5 l0_5.length c0_5] 28 (0, 0)) (kM BK365)) : gb365 ≠ gb366)); have n6_ := yD ((by rw [hg]; exact Nat.ne_of_gt (blk_lt (g := gb365) (o := .cells #[.int .i64 a0_0, .slice A0_1 l0_1.length c0_1, .slice A0_2 l0_2.length c0_2, .slice A0_3 l0_3.length c0_3, .slice A0_4 l0_4.length c0_4, .slice A0_5 l0_5.length c0_5] 28 (0, 0)) (kM BK365)) : gb366 ≠ gb365)); clear BK365; clear HB; have BK365 := n0_; have HB := n1_; have BK366 := n2_; have GW366 := n3_; have GE366 := n4_; have NB365_366 := n5_; have NB366_365 := n6_; clear n0_ n1_ n2_ n3_ n4_ n5_ n6_; clear hb hbox hg))
  have n0_ := yD (yO BK365.out)
  have n1_ := yD (yO BK366.out)
  have n2_ := yD (yP HB.out)
  clear BK365 BK366 HB; have BK365 := n0_; have BK366 := n1_; have HB := n2_; clear n0_ n1_ n2_
  refine start_ (n := 20) (S := fun w' => w'.cell? ⟨gb365, 0, none⟩ = some (.int .i64 a0_0) ∧ w'.cell? ⟨gb365, 1, none⟩ = some (.slice A0_1 l0_1.length c0_1) ∧ w'.cell? ⟨gb365, 2, none⟩ = some (.slice A0_2 l0_2.length c0_2) ∧ w'.cell? ⟨gb365, 3, none⟩ = some (.slice A0_3 l0_3.length c0_3) ∧ w'.cell? ⟨gb365, 4, none⟩ = some (.slice A0_4 l0_4.length c0_4) ∧ w'.cell? ⟨gb365, 5, none⟩ = some (.slice A0_5 l0_5.length c0_5) ∧ w'.cell? ⟨gb366, 0, none⟩ = some (.int .i64 a1_0) ∧ w'.cell? ⟨gb366, 1, none⟩ = some (.slice A1_1 l1_1.length c1_1) ∧ w'.cell? ⟨gb366, 2, none⟩ = some (.slice A1_2 l1_2.length c1_2) ∧ w'.cell? ⟨gb366, 3, none⟩ = some (.slice A1_3 l1_3.length c1_3) ∧ w'.cell? ⟨gb366, 4, none⟩ = some (.slice A1_4 l1_4.length c1_4) ∧ w'.cell? ⟨gb366, 5, none⟩ = some (.slice A1_5 l1_5.length c1_5)) (ds := []) (bz 20 0) (by kernel_rfl) rfl rfl ⟨(yG BK365.out 0).trans rfl, (yG BK365.out 1).trans rfl, (yG BK365.out 2).trans rfl, (yG BK365.out 3).trans rfl, (yG BK365.out 4).trans rfl, (yG BK365.out 5).trans rfl, (yG BK366.out 0).trans rfl, (yG BK366.out 1).trans rfl, (yG BK366.out 2).trans rfl, (yG BK366.out 3).trans rfl, (yG BK366.out 4).trans rfl, (yG BK366.out 5).trans rfl⟩ (fun hHeld => ?_); refine with_tabW impl_SameSelection.tab1 impl_SameSelection.bits1 (fun HT_ HW_ => ?_)
  generalize w27.drew = w28 at BK365 BK366 HB hHeld ⊢
  refine qA 0 5 (bz 20 1) HT_ ?_
  refine qA 2 7 (bz 20 5) HT_ ?_
  refine qC 1 6 (bz 20 7) HT_ HW_ hHeld ?_ (hy := by rintro w' ⟨s0, s1, s2, s3, s4, s5, s6, s7, s8, s9, s10, s11⟩; go_simp; with_reducible rfl)
  refine qC 3 8 (bz 20 15) HT_ HW_ hHeld ?_ (hy := by rintro w' ⟨s0, s1, s2, s3, s4, s5, s6, s7, s8, s9, s10, s11⟩; go_simp; with_reducible rfl)
  refine qA 4 9 (bz 20 31) HT_ ?_
  refine qA 5 10 (bz 20 63) HT_ ?_
  refine qB 6 11 (bz 20 127) HT_ ?_
  refine qB 7 12 (bz 20 255) HT_ ?_
  refine qB 8 13 (bz 20 511) HT_ ?_
  refine qB 9 14 (bz 20 1023) HT_ ?_
  refine qB 10 15 (bz 20 2047) HT_ ?_
  refine qA 11 16 (bz 20 4095) HT_ ?_
  refine qA 12 17 (bz 20 8191) HT_ ?_
  refine qB 13 18 (bz 20 16383) HT_ ?_
  refine qB 14 19 (bz 20 32767) HT_ ?_
  refine qB 15 20 (bz 20 65535) HT_ ?_
  refine qB 16 21 (bz 20 131071) HT_ ?_
  refine qB 17 22 (bz 20 262143) HT_ ?_
  refine qA 18 23 (bz 20 524287) HT_ ?_
  refine qA 19 4 (bz 20 1048575) HT_ ?_
  refine done_ (done_of HT_.out (by kernel_rfl)) ?_
  try go_wp2
  go_ret
  exact ⟨by first | rfl | (simp <;> rfl) | (simp [*] <;> rfl), kR1 HB⟩

/-! ### impl_Selection_end: function 96 -/
def impl_Selection_end.f (a0_0 : Int) (l0_1 : List Int) (l0_2 : List Int) (l0_3 : List Int) (l0_4 : List Int) (l0_5 : List (S97)) (a1 : Int) : Option (Int) := if 0 ≤ a1 then (if a1 < (l0_1.length : Int) then (if a1 < (l0_3.length : Int) then (if a1 < (l0_2.length : Int) then (if a1 < (l0_4.length : Int) then (some (wrap64 ((wrap64 ((rd l0_1 a1) + (wrap64 ((wrap64 ((rd l0_3 a1) - 1)) * (rd l0_2 a1))))) + (rd l0_4 a1)))) else (none)) else (none)) else (none)) else (none)) else (none)
set_option maxHeartbeats 8000000 in
set_option maxRecDepth 100000 in
theorem impl_Selection_end.calls (a0_0 : Int) (A0_1 : Option Addr) (c0_1 : Nat) (l0_1 : List Int) (A0_2 : Option Addr) (c0_2 : Nat) (l0_2 : List Int) (A0_3 : Option Addr) (c0_3 : Nat) (l0_3 : List Int) (A0_4 : Option Addr) (c0_4 : Nat) (l0_4 : List Int) (A0_5 : Option Addr) (c0_5 : Nat) (l0_5 : List (S97)) (a1 : Int) (r : Int) (w : World) (hr0_1 : Kd.C (Kd.int .i64) w A0_1 l0_1.length l0_1) (hc0_1 : l0_1.length ≤ c0_1) (hr0_2 : Kd.C (Kd.int .i64) w A0_2 l0_2.length l0_2) (hc0_2 : l0_2.length ≤ c0_2) (hr0_3 : Kd.C (Kd.int .i64) w A0_3 l0_3.length l0_3) (hc0_3 : l0_3.length ≤ c0_3) (hr0_4 : Kd.C (Kd.int .i64) w A0_4 l0_4.length l0_4) (hc0_4 : l0_4.length ≤ c0_4) (hr0_5 : Kd.C k97 w A0_5 l0_5.length l0_5) (hc0_5 : l0_5.length ≤ c0_5) (h : impl_Selection_end.f a0_0 l0_1 l0_2 l0_3 l0_4 l0_5 a1 = some r) :
 Calls Try.prog 96 #[.agg #[.int .i64 a0_0, .slice A0_1 l0_1.length c0_1, .slice A0_2 l0_2.length c0_2, .slice A0_3 l0_3.length c0_3, .slice A0_4 l0_4.length c0_4, .slice A0_5 l0_5.length c0_5], .int .i64 a1] w fun e w' => e = .returned (.int .i64 r) ∧ Below w.heap.size w w' := by
 have hu28 := Try.underlying28
 have HR0_1 := yD hr0_1
 have HC0_1 := yD hc0_1
 clear hr0_1 hc0_1
 have HR0_2 := yD hr0_2
 have HC0_2 := yD hc0_2
 clear hr0_2 hc0_2
 have HR0_3 := yD hr0_3
 have HC0_3 := yD hc0_3
 clear hr0_3 hc0_3
 have HR0_4 := yD hr0_4
 have HC0_4 := yD hc0_4
 clear hr0_4 hc0_4
 have HR0_5 := yD hr0_5
 have HC0_5 := yD hc0_5
 clear hr0_5 hc0_5
 have HB := yD (Below.refl w.heap.size w)
 have H : (if 0 ≤ a1 then (if a1 < (l0_1.length : Int) then (if a1 < (l0_3.length : Int) then (if a1 < (l0_2.length : Int) then (if a1 < (l0_4.length : Int) then (some (wrap64 ((wrap64 ((rd l0_1 a1) + (wrap64 ((wrap64 ((rd l0_3 a1) - 1)) * (rd l0_2 a1))))) + (rd l0_4 a1)))) else (none)) else (none)) else (none)) else (none)) else (none)) = some r := h
 clear h
 by_cases c3 : 0 ≤ a1
 ·
  rw [if_pos c3] at H
  have c3b0 : decide (0 ≤ a1) = true := zR c3; clear c3
  by_cases c4 : a1 < (l0_1.length : Int)
  ·
   rw [if_pos c4] at H
   have c4b0 : decide (a1 < (l0_1.length : Int)) = true := zR c4; clear c4
   by_cases c5 : a1 < (l0_3.length : Int)
   ·
    rw [if_pos c5] at H
    have c5b0 : decide (a1 < (l0_3.length : Int)) = true := zR c5; clear c5
    by_cases c6 : a1 < (l0_2.length : Int)
    ·
     rw [if_pos c6] at H
     have c6b0 : decide (a1 < (l0_2.length : Int)) = true := zR c6; clear c6
     by_cases c7 : a1 < (l0_4.length : Int)
     · rw [if_pos c7] at H
       have c7b0 : decide (a1 < (l0_4.length : Int)) = true := zR c7; clear c7; obtain rfl := Option.some.inj H; go_enter Try.func96, Try.ntmps96
       go_wp2_with (first | ((with_reducible refine gate_dst (N := 2) rfl ?_); refine box_event ?hg (N := 2) ?hd (cs := #[.int .i64 a0_0, .slice A0_1 l0_1.length c0_1, .slice A0_2 l0_2.length c0_2, .slice A0_3 l0_3.length c0_3, .slice A0_4 l0_4.length c0_4, .slice A0_5 l0_5.length c0_5]) (t := 28) ?hr ?_; (case hd => rfl); (case hg => rfl); (case hr => first | (go_simp; done) | (go_simp; rfl)); intro gb375 hg w8 hbox hb; have n0_ := yD (zC (kB HB) hb); have n1_ := yD (hbox); have n2_ := yD ((by rw [hg]; exact (below_size (kB HB)) : w.heap.size ≤ gb375)); have n3_ := yD ((by rw [hg]; exact (below_size (kB HB)) : w.heap.size ≤ gb375)); clear HB; have HB := n0_; have BK375 := n1_; have GW375 := n2_; have GE375 := n3_; clear n0_ n1_ n2_ n3_; clear hb hbox hg; obtain ⟨hcz9_0, hcz9_1, hcz9_2, hcz9_3, hcz9_4, hcz9_5⟩ := cz6 BK375.out; obtain ⟨hfz9_0, hfz9_1, hfz9_2, hfz9_3, hfz9_4, hfz9_5⟩ := fz6 BK375.out; have p376 : 0 ≤ (a1 : Int) := zP (by assumption); have q376 : a1 < (l0_1.length : Int) := zP (by assumption); obtain ⟨ad376, e376, hx376_0⟩ := Kd.at_int HR0_1.out a1 p376 q376; cases e376; replace hx376_0 := (HB.out.cell (zQ w _ hx376_0)).trans hx376_0; replace p376 := eq_true p376; replace q376 := eq_true q376; have p377 : 0 ≤ (a1 : Int) := zP (by assumption); have q377 : a1 < (l0_3.length : Int) := zP (by assumption); obtain ⟨ad377, e377, hx377_0⟩ := Kd.at_int HR0_3.out a1 p377 q377; cases e377; replace hx377_0 := (HB.out.cell (zQ w _ hx377_0)).trans hx377_0; replace p377 := eq_true p377; replace q377 := eq_true q377; have p378 : 0 ≤ (a1 : Int) := zP (by assumption); have q378 : a1 < (l0_2.length : Int) := zP (by assumption); obtain ⟨ad378, e378, hx378_0⟩ := Kd.at_int HR0_2.out a1 p378 q378; cases e378; replace hx378_0 := (HB.out.cell (zQ w _ hx378_0)).trans hx378_0; replace p378 := eq_true p378; replace q378 := eq_true q378; have p379 : 0 ≤ (a1 : Int) := zP (by assumption); have q379 : a1 < (l0_4.length : Int) := zP (by assumption); obtain ⟨ad379, e379, hx379_0⟩ := Kd.at_int HR0_4.out a1 p379 q379; cases e379; replace hx379_0 := (HB.out.cell (zQ w _ hx379_0)).trans hx379_0; replace p379 := eq_true p379; replace q379 := eq_true q379))
       repeat (go_quiet (first | ((with_reducible refine gate_dst (N := 2) rfl ?_); refine box_event ?hg (N := 2) ?hd (cs := #[.int .i64 a0_0, .slice A0_1 l0_1.length c0_1, .slice A0_2 l0_2.length c0_2, .slice A0_3 l0_3.length c0_3, .slice A0_4 l0_4.length c0_4, .slice A0_5 l0_5.length c0_5]) (t := 28) ?hr ?_; (case hd => rfl); (case hg => rfl); (case hr => first | (go_simp; done) | (go_simp; rfl)); intro gb375 hg w8 hbox hb; have n0_ := yD (zC (kB HB) hb); have n1_ := yD (hbox); have n2_ := yD ((by rw [hg]; exact (below_size (kB HB)) : w.heap.size ≤ gb375)); have n3_ := yD ((by rw [hg]; exact (below_size (kB HB)) : w.heap.size ≤ gb375)); clear HB; have HB := n0_; have BK375 := n1_; have GW375 := n2_; have GE375 := n3_; clear n0_ n1_ n2_ n3_; clear hb hbox hg; obtain ⟨hcz9_0, hcz9_1, hcz9_2, hcz9_3, hcz9_4, hcz9_5⟩ := cz6 BK375.out; obtain ⟨hfz9_0, hfz9_1, hfz9_2, hfz9_3, hfz9_4, hfz9_5⟩ := fz6 BK375.out; have p376 : 0 ≤ (a1 : Int) := zP (by assumption); have q376 : a1 < (l0_1.length : Int) := zP (by assumption); obtain ⟨ad376, e376, hx376_0⟩ := Kd.at_int HR0_1.out a1 p376 q376; cases e376; replace hx376_0 := (HB.out.cell (zQ w _ hx376_0)).trans hx376_0; replace p376 := eq_true p376; replace q376 := eq_true q376; have p377 : 0 ≤ (a1 : Int) := zP (by assumption); have q377 : a1 < (l0_3.length : Int) := zP (by assumption); obtain ⟨ad377, e377, hx377_0⟩ := Kd.at_int HR0_3.out a1 p377 q377; cases e377; replace hx377_0 := (HB.out.cell (zQ w _ hx377_0)).trans hx377_0; replace p377 := eq_true p377; replace q377 := eq_true q377; have p378 : 0 ≤ (a1 : Int) := zP (by assumption); have q378 : a1 < (l0_2.length : Int) := zP (by assumption); obtain ⟨ad378, e378, hx378_0⟩ := Kd.at_int HR0_2.out a1 p378 q378; cases e378; replace hx378_0 := (HB.out.cell (zQ w _ hx378_0)).trans hx378_0; replace p378 := eq_true p378; replace q378 := eq_true q378; have p379 : 0 ≤ (a1 : Int) := zP (by assumption); have q379 : a1 < (l0_4.length : Int) := zP (by assumption); obtain ⟨ad379, e379, hx379_0⟩ := Kd.at_int HR0_4.out a1 p379 q379; cases e379; replace hx379_0 := (HB.out.cell (zQ w _ hx379_0)).trans hx379_0; replace p379 := eq_true p379; replace q379 := eq_true q379)); try go_wp2_with (first | ((with_reducible refine gate_dst (N := 2) rfl ?_); refine box_event ?hg (N := 2) ?hd (cs := #[.int .i64 a0_0, .slice A0_1 l0_1.length c0_1, .slice A0_2 l0_2.length c0_2, .slice A0_3 l0_3.length c0_3, .slice A0_4 l0_4.length c0_4, .slice A0_5 l0_5.length c0_5]) (t := 28) ?hr ?_; (case hd => rfl); (case hg => rfl); (case hr => first | (go_simp; done) | (go_simp; rfl)); intro gb375 hg w8 hbox hb; have n0_ := yD (zC (kB HB) hb); have n1_ := yD (hbox); have n2_ := yD ((by rw [hg]; exact (below_size (kB HB)) : w.heap.size ≤ gb375)); have n3_ := yD ((by rw [hg]; exact (below_size (kB HB)) : w.heap.size ≤ gb375)); clear HB; have HB := n0_; have BK375 := n1_; have GW375 := n2_; have GE375 := n3_; clear n0_ n1_ n2_ n3_; clear hb hbox hg; obtain ⟨hcz9_0, hcz9_1, hcz9_2, hcz9_3, hcz9_4, hcz9_5⟩ := cz6 BK375.out; obtain ⟨hfz9_0, hfz9_1, hfz9_2, hfz9_3, hfz9_4, hfz9_5⟩ := fz6 BK375.out; have p376 : 0 ≤ (a1 : Int) := zP (by assumption); have q376 : a1 < (l0_1.length : Int) := zP (by assumption); obtain ⟨ad376, e376, hx376_0⟩ := Kd.at_int HR0_1.out a1 p376 q376; cases e376; replace hx376_0 := (HB.out.cell (zQ w _ hx376_0)).trans hx376_0; replace p376 := eq_true p376; replace q376 := eq_true q376; have p377 : 0 ≤ (a1 : Int) := zP (by assumption); have q377 : a1 < (l0_3.length : Int) := zP (by assumption); obtain ⟨ad377, e377, hx377_0⟩ := Kd.at_int HR0_3.out a1 p377 q377; cases e377; replace hx377_0 := (HB.out.cell (zQ w _ hx377_0)).trans hx377_0; replace p377 := eq_true p377; replace q377 := eq_true q377; have p378 : 0 ≤ (a1 : Int) := zP (by assumption); have q378 : a1 < (l0_2.length : Int) := zP (by assumption); obtain ⟨ad378, e378, hx378_0⟩ := Kd.at_int HR0_2.out a1 p378 q378; cases e378; replace hx378_0 := (HB.out.cell (zQ w _ hx378_0)).trans hx378_0; replace p378 := eq_true p378; replace q378 := eq_true q378; have p379 : 0 ≤ (a1 : Int) := zP (by assumption); have q379 : a1 < (l0_4.length : Int) := zP (by assumption); obtain ⟨ad379, e379, hx379_0⟩ := Kd.at_int HR0_4.out a1 p379 q379; cases e379; replace hx379_0 := (HB.out.cell (zQ w _ hx379_0)).trans hx379_0; replace p379 := eq_true p379; replace q379 := eq_true q379)))
       go_ret
       exact ⟨by first | rfl | (simp <;> rfl) | (simp [*] <;> rfl), kR1 HB⟩
     · rw [if_neg c7] at H
       exact absurd H (by simp)
    · rw [if_neg c6] at H
      exact absurd H (by simp)
   · rw [if_neg c5] at H
     exact absurd H (by simp)
  · rw [if_neg c4] at H
    exact absurd H (by simp)
 · rw [if_neg c3] at H
   exact absurd H (by simp)

end Go.Proofs.Ytgpkkplabnliiaa.PFnRanges
