/- Each Go function here comes to what the plain function of its name says, where that says something. Made by a program of this session, over the print. -/
import Derived.Test.YtdiaebjbiddefaaPFnExactSelectedIndicesx0
import Derived.Test.YtdiaebjbiddefaaPFnExactSelectedIndicesx8
namespace Go.Proofs.Ytdiaebjbiddefaa.PFnExactSelectedIndices
open Go.RowKit Go.Proofs.YtdiaebjbiddefaaW.PrintWords Go.Proofs.YtdiaebjbiddefaaW.PrintLast Go.Proofs.YtdiaebjbiddefaaW.PrintMore
attribute [local go_sem] max2_int min2_int max_two min_two max_three min_three max_four min_four   -- for this text's walks alone
set_option linter.unusedVariables false
set_option linter.unusedSimpArgs false

/-! ### impl_SameSelection: function 137 -/
def impl_SameSelection.f (k : Nat) (a0_0 : Int) (l0_1 : List Int) (l0_2 : List Int) (l0_3 : List Int) (l0_4 : List Int) (l0_5 : List (S110)) (a1_0 : Int) (l1_1 : List Int) (l1_2 : List Int) (l1_3 : List Int) (l1_4 : List Int) (l1_5 : List (S110)) : Option (Bool) := if a0_0 = a1_0 then ((impl_Selection_lists.f a0_0 l0_1 l0_2 l0_3 l0_4 l0_5).bind fun t267 => ((impl_Selection_lists.f a1_0 l1_1 l1_2 l1_3 l1_4 l1_5).bind fun t270 => ((slices_EqualFunc_slices_Equal_int64_int64.f k t267 t270).bind fun t273 => (if t273 = true then ((slices_EqualFunc_impl_samePoint.f k l0_5 l1_5).bind fun t274 => (some t274)) else (some false))))) else (some false)
theorem impl_SameSelection.mono : ∀ a0 a1 a2 a3 a4 a5 a6 a7 a8 a9 a10 a11 k, LeO (impl_SameSelection.f k a0 a1 a2 a3 a4 a5 a6 a7 a8 a9 a10 a11) (impl_SameSelection.f (k + 1) a0 a1 a2 a3 a4 a5 a6 a7 a8 a9 a10 a11) := by
 intro a0 a1 a2 a3 a4 a5 a6 a7 a8 a9 a10 a11 k
 unfold impl_SameSelection.f
 repeat' (with_reducible first | exact slices_EqualFunc_impl_samePoint.mono _ _ _ | exact slices_EqualFunc_slices_Equal_int64_int64.mono _ _ _ | exact LeO.refl _ | exact LeO.none _ | refine LeO.ite ?_ ?_ | refine LeO.bind ?_ (fun _ => ?_))
def impl_SameSelection.T1 : Bool × List (List Nat × List Nat) := (true, [([], []), ([0], [0]), ([], []), ([2], [2]), ([1, 3], [1, 3]), ([4], [4]), ([5], [5]), ([6, 5, 5], [5, 6]), ([5], [5]), ([8, 7, 5], [5, 8]), ([7, 9, 9, 5], [5, 7, 9]), ([5, 10], [5, 10]), ([11, 10], [11]), ([12], [12]), ([13, 12], [12, 13]), ([12], [12]), ([15, 12], [12, 15]), ([14, 16, 12, 12], [12, 14, 16]), ([12, 17], [12, 17]), ([18, 17, 0, 1, 2, 3, 4, 5, 6, 7, 8, 9, 10, 11, 12, 13, 14, 15, 16, 17, 18], [18])])
def impl_SameSelection.B1 : List Nat := [0, 1, 0, 4, 15, 31, 63, 127, 63, 511, 1023, 2047, 4095, 8191, 16383, 8191, 40959, 131071, 262143, 524287]
theorem impl_SameSelection.tab1 : rtab .any (opsOf Try.f137 1) = impl_SameSelection.T1 := by kernel_rfl
theorem impl_SameSelection.bits1 : waitsOk impl_SameSelection.T1.2 impl_SameSelection.B1 = true := by kernel_rfl
abbrev impl_SameSelection.Q_0 : Array Bool := (bz 20 0)
abbrev impl_SameSelection.Q_1 : Array Bool := (bz 20 1)
abbrev impl_SameSelection.Q_2 : Array Bool := (bz 20 5)
abbrev impl_SameSelection.Q_3 : Array Bool := (bz 20 7)
abbrev impl_SameSelection.Q_4 : Array Bool := (bz 20 15)
abbrev impl_SameSelection.Q_5 : Array Bool := (bz 20 31)
abbrev impl_SameSelection.Q_6 : Array Bool := (bz 20 63)
abbrev impl_SameSelection.Q_7 : Array Bool := (bz 20 127)
abbrev impl_SameSelection.Q_8 : Array Bool := (bz 20 383)
abbrev impl_SameSelection.Q_9 : Array Bool := (bz 20 511)
abbrev impl_SameSelection.Q_10 : Array Bool := (bz 20 1023)
abbrev impl_SameSelection.Q_11 : Array Bool := (bz 20 2047)
abbrev impl_SameSelection.Q_12 : Array Bool := (bz 20 4095)
abbrev impl_SameSelection.Q_13 : Array Bool := (bz 20 8191)
abbrev impl_SameSelection.Q_14 : Array Bool := (bz 20 16383)
abbrev impl_SameSelection.Q_15 : Array Bool := (bz 20 49151)
abbrev impl_SameSelection.Q_16 : Array Bool := (bz 20 65535)
abbrev impl_SameSelection.Q_17 : Array Bool := (bz 20 131071)
abbrev impl_SameSelection.Q_18 : Array Bool := (bz 20 262143)
abbrev impl_SameSelection.Q_19 : Array Bool := (bz 20 524287)
abbrev impl_SameSelection.Q_20 : Array Bool := (bz 20 1048575)
abbrev impl_SameSelection.Q_21 : Array Bool := (bz 20 32767)
abbrev impl_SameSelection.Q_22 : Array Bool := (bz 20 255)
set_option maxHeartbeats 8000000 in
set_option maxRecDepth 100000 in
theorem impl_SameSelection.calls (k : Nat) (a0_0 : Int) (A0_1 : Option Addr) (c0_1 : Nat) (l0_1 : List Int) (A0_2 : Option Addr) (c0_2 : Nat) (l0_2 : List Int) (A0_3 : Option Addr) (c0_3 : Nat) (l0_3 : List Int) (A0_4 : Option Addr) (c0_4 : Nat) (l0_4 : List Int) (A0_5 : Option Addr) (c0_5 : Nat) (l0_5 : List (S110)) (a1_0 : Int) (A1_1 : Option Addr) (c1_1 : Nat) (l1_1 : List Int) (A1_2 : Option Addr) (c1_2 : Nat) (l1_2 : List Int) (A1_3 : Option Addr) (c1_3 : Nat) (l1_3 : List Int) (A1_4 : Option Addr) (c1_4 : Nat) (l1_4 : List Int) (A1_5 : Option Addr) (c1_5 : Nat) (l1_5 : List (S110)) (r : Bool) (w : World) (hr0_1 : Kd.C (Kd.int .i64) w A0_1 l0_1.length l0_1) (hc0_1 : l0_1.length ≤ c0_1) (hr0_2 : Kd.C (Kd.int .i64) w A0_2 l0_2.length l0_2) (hc0_2 : l0_2.length ≤ c0_2) (hr0_3 : Kd.C (Kd.int .i64) w A0_3 l0_3.length l0_3) (hc0_3 : l0_3.length ≤ c0_3) (hr0_4 : Kd.C (Kd.int .i64) w A0_4 l0_4.length l0_4) (hc0_4 : l0_4.length ≤ c0_4) (hr0_5 : Kd.C k110 w A0_5 l0_5.length l0_5) (hc0_5 : l0_5.length ≤ c0_5) (hr1_1 : Kd.C (Kd.int .i64) w A1_1 l1_1.length l1_1) (hc1_1 : l1_1.length ≤ c1_1) (hr1_2 : Kd.C (Kd.int .i64) w A1_2 l1_2.length l1_2) (hc1_2 : l1_2.length ≤ c1_2) (hr1_3 : Kd.C (Kd.int .i64) w A1_3 l1_3.length l1_3) (hc1_3 : l1_3.length ≤ c1_3) (hr1_4 : Kd.C (Kd.int .i64) w A1_4 l1_4.length l1_4) (hc1_4 : l1_4.length ≤ c1_4) (hr1_5 : Kd.C k110 w A1_5 l1_5.length l1_5) (hc1_5 : l1_5.length ≤ c1_5) (h : impl_SameSelection.f k a0_0 l0_1 l0_2 l0_3 l0_4 l0_5 a1_0 l1_1 l1_2 l1_3 l1_4 l1_5 = some r) :
 Calls Try.prog 137 #[.agg #[.int .i64 a0_0, .slice A0_1 l0_1.length c0_1, .slice A0_2 l0_2.length c0_2, .slice A0_3 l0_3.length c0_3, .slice A0_4 l0_4.length c0_4, .slice A0_5 l0_5.length c0_5], .agg #[.int .i64 a1_0, .slice A1_1 l1_1.length c1_1, .slice A1_2 l1_2.length c1_2, .slice A1_3 l1_3.length c1_3, .slice A1_4 l1_4.length c1_4, .slice A1_5 l1_5.length c1_5]] w fun e w' => e = .returned (.bool r) ∧ Below w.heap.size w w' := by
 have hu55 := Try.underlying55
 have HR0_1 := yD hr0_1
 have HC0_1 := yD hc0_1
 clear hr0_1 hc0_1
 have HR0_2 := yD hr0_2
 have HC0_2 := yD hc0_2
 clear hr0_2 hc0_2
 have HR0_3 := yD hr0_3
 have HC0_3 := yD hc0_3
 clear hr0_3 hc0_3
 have HR0_4 := yD hr0_4
 have HC0_4 := yD hc0_4
 clear hr0_4 hc0_4
 have HR0_5 := yD hr0_5
 have HC0_5 := yD hc0_5
 clear hr0_5 hc0_5
 have HR1_1 := yD hr1_1
 have HC1_1 := yD hc1_1
 clear hr1_1 hc1_1
 have HR1_2 := yD hr1_2
 have HC1_2 := yD hc1_2
 clear hr1_2 hc1_2
 have HR1_3 := yD hr1_3
 have HC1_3 := yD hc1_3
 clear hr1_3 hc1_3
 have HR1_4 := yD hr1_4
 have HC1_4 := yD hc1_4
 clear hr1_4 hc1_4
 have HR1_5 := yD hr1_5
 have HC1_5 := yD hc1_5
 clear hr1_5 hc1_5
 have HB := yD (Below.refl w.heap.size w)
 have H : (if a0_0 = a1_0 then ((impl_Selection_lists.f a0_0 l0_1 l0_2 l0_3 l0_4 l0_5).bind fun t267 => ((impl_Selection_lists.f a1_0 l1_1 l1_2 l1_3 l1_4 l1_5).bind fun t270 => ((slices_EqualFunc_slices_Equal_int64_int64.f k t267 t270).bind fun t273 => (if t273 = true then ((slices_EqualFunc_impl_samePoint.f k l0_5 l1_5).bind fun t274 => (some t274)) else (some false))))) else (some false)) = some r := h
 clear h
 by_cases c3 : a0_0 = a1_0
 ·
  rw [if_pos c3] at H
  have c3b0 : (a0_0 == a1_0) = true := beq_iff_eq.mpr c3
  have c3b1 : (a0_0 != a1_0) = false := bne_eq_false_iff_eq.mpr c3
  clear c3
  obtain ⟨t267, A40, H⟩ := zW_ H
  replace H : ((impl_Selection_lists.f a1_0 l1_1 l1_2 l1_3 l1_4 l1_5).bind fun t270 => ((slices_EqualFunc_slices_Equal_int64_int64.f k t267 t270).bind fun t273 => (if t273 = true then ((slices_EqualFunc_impl_samePoint.f k l0_5 l1_5).bind fun t274 => (some t274)) else (some false)))) = some r := H
  have A4 := yD A40
  clear A40
  obtain ⟨t270, A50, H⟩ := zW_ H
  replace H : ((slices_EqualFunc_slices_Equal_int64_int64.f k t267 t270).bind fun t273 => (if t273 = true then ((slices_EqualFunc_impl_samePoint.f k l0_5 l1_5).bind fun t274 => (some t274)) else (some false))) = some r := H
  have A5 := yD A50
  clear A50
  obtain ⟨t273, A60, H⟩ := zW_ H
  replace H : (if t273 = true then ((slices_EqualFunc_impl_samePoint.f k l0_5 l1_5).bind fun t274 => (some t274)) else (some false)) = some r := H
  have A6 := yD A60
  clear A60
  by_cases c7 : t273 = true
  ·
   subst c7
   have H1 : ((slices_EqualFunc_impl_samePoint.f k l0_5 l1_5).bind fun t274 => (some t274)) = some r := by rw [if_pos rfl] at H; exact H
   clear H; have H := H1; clear H1
   obtain ⟨t274, A80, H⟩ := zW_ H
   replace H : (some t274) = some r := H
   have A8 := yD A80
   clear A80; obtain rfl := Option.some.inj H; go_enter Try.func137, Try.ntmps137
   try go_wp2_with (first | ((with_reducible refine gate_dst (N := 2) rfl ?_); refine box_event ?hg (N := 2) ?hd (cs := #[.int .i64 a0_0, .slice A0_1 l0_1.length c0_1, .slice A0_2 l0_2.length c0_2, .slice A0_3 l0_3.length c0_3, .slice A0_4 l0_4.length c0_4, .slice A0_5 l0_5.length c0_5]) (t := 55) ?hr ?_; (case hd => rfl); (case hg => rfl); (case hr => first | (go_simp; done) | (go_simp; rfl)); intro gb265 hg w9 hbox hb; have n0_ := yD (zC (kB HB) hb); have n1_ := yD (hbox); have n2_ := yD ((by rw [hg]; exact (below_size (kB HB)) : w.heap.size ≤ gb265)); have n3_ := yD ((by rw [hg]; exact (below_size (kB HB)) : w.heap.size ≤ gb265)); clear HB; have HB := n0_; have BK265 := n1_; have GW265 := n2_; have GE265 := n3_; clear n0_ n1_ n2_ n3_; clear hb hbox hg) | ((with_reducible refine gate_dst (N := 3) rfl ?_); refine box_event ?hg (N := 3) ?hd (cs := #[.int .i64 a1_0, .slice A1_1 l1_1.length c1_1, .slice A1_2 l1_2.length c1_2, .slice A1_3 l1_3.length c1_3, .slice A1_4 l1_4.length c1_4, .slice A1_5 l1_5.length c1_5]) (t := 55) ?hr ?_; (case hd => rfl); (case hg => rfl); (case hr => first | (go_simp; done) | (go_simp; rfl)); intro gb266 hg w10 hbox hb; have n0_ := yD (zB (kN BK265) hb); have n1_ := yD (zC (kB HB) hb); have n2_ := yD (hbox); have n3_ := yD ((by rw [hg]; exact (below_size (kB HB)) : w.heap.size ≤ gb266)); have n4_ := yD ((by rw [hg]; exact (below_size (kB HB)) : w.heap.size ≤ gb266)); have n5_ := yD ((by rw [hg]; exact Nat.ne_of_lt (blk_lt (kN BK265)) : gb265 ≠ gb266)); have n6_ := yD ((by rw [hg]; exact Nat.ne_of_gt (blk_lt (kN BK265)) : gb266 ≠ gb265)); clear BK265; clear HB; have BK265 := n0_; have HB := n1_; have BK266 := n2_; have GW266 := n3_; have GE266 := n4_; have NB265_266 := n5_; have NB266_265 := n6_; clear n0_ n1_ n2_ n3_ n4_ n5_ n6_; clear hb hbox hg))
   have n0_ := yD (yO BK265.out)
   have n1_ := yD (yO BK266.out)
   have n2_ := yD (yP HB.out)
   clear BK265 BK266 HB; have BK265 := n0_; have BK266 := n1_; have HB := n2_; clear n0_ n1_ n2_
   refine start_ (n := 20) (S := fun w' => w'.cell? ⟨gb265, 0, none⟩ = some (.int .i64 a0_0) ∧ w'.cell? ⟨gb265, 1, none⟩ = some (.slice A0_1 l0_1.length c0_1) ∧ w'.cell? ⟨gb265, 2, none⟩ = some (.slice A0_2 l0_2.length c0_2) ∧ w'.cell? ⟨gb265, 3, none⟩ = some (.slice A0_3 l0_3.length c0_3) ∧ w'.cell? ⟨gb265, 4, none⟩ = some (.slice A0_4 l0_4.length c0_4) ∧ w'.cell? ⟨gb265, 5, none⟩ = some (.slice A0_5 l0_5.length c0_5) ∧ w'.cell? ⟨gb266, 0, none⟩ = some (.int .i64 a1_0) ∧ w'.cell? ⟨gb266, 1, none⟩ = some (.slice A1_1 l1_1.length c1_1) ∧ w'.cell? ⟨gb266, 2, none⟩ = some (.slice A1_2 l1_2.length c1_2) ∧ w'.cell? ⟨gb266, 3, none⟩ = some (.slice A1_3 l1_3.length c1_3) ∧ w'.cell? ⟨gb266, 4, none⟩ = some (.slice A1_4 l1_4.length c1_4) ∧ w'.cell? ⟨gb266, 5, none⟩ = some (.slice A1_5 l1_5.length c1_5)) (ds := []) Q_0 (by kernel_rfl) rfl rfl ⟨(yG BK265.out 0).trans rfl, (yG BK265.out 1).trans rfl, (yG BK265.out 2).trans rfl, (yG BK265.out 3).trans rfl, (yG BK265.out 4).trans rfl, (yG BK265.out 5).trans rfl, (yG BK266.out 0).trans rfl, (yG BK266.out 1).trans rfl, (yG BK266.out 2).trans rfl, (yG BK266.out 3).trans rfl, (yG BK266.out 4).trans rfl, (yG BK266.out 5).trans rfl⟩ (fun hHeld => ?_); refine with_tabW impl_SameSelection.tab1 impl_SameSelection.bits1 (fun HT_ HW_ => ?_)
   generalize w10.drew = w11 at BK265 BK266 HB hHeld ⊢
   refine qA 0 5 Q_1 HT_ ?_
   refine qA 2 7 Q_2 HT_ ?_
   refine qC 1 6 Q_3 HT_ HW_ hHeld ?_ (hy := by rintro w' ⟨s0, s1, s2, s3, s4, s5, s6, s7, s8, s9, s10, s11⟩; go_simp; with_reducible rfl)
   refine qC 3 8 Q_4 HT_ HW_ hHeld ?_ (hy := by rintro w' ⟨s0, s1, s2, s3, s4, s5, s6, s7, s8, s9, s10, s11⟩; go_simp; with_reducible rfl)
   refine qA 4 9 Q_5 HT_ ?_
   refine qA 5 10 Q_6 HT_ ?_
   refine qC 6 11 Q_7 HT_ HW_ hHeld ?_ (hy := by rintro w' ⟨s0, s1, s2, s3, s4, s5, s6, s7, s8, s9, s10, s11⟩; go_simp; with_reducible rfl)
   refine qC 8 13 Q_8 HT_ HW_ hHeld ?_ (hy := by rintro w' ⟨s0, s1, s2, s3, s4, s5, s6, s7, s8, s9, s10, s11⟩; go_simp; with_reducible rfl)
   refine one_ (i := 7) (N := some 12) Q_9 rfl rfl (one_of HT_.out (by kernel_rfl)) (by decide) (fun K hK => ?_)
   refine goes_ Try.func154 (by kernel_rfl) rfl #[.agg #[.int .i64 a0_0, .slice A0_1 l0_1.length c0_1, .slice A0_2 l0_2.length c0_2, .slice A0_3 l0_3.length c0_3, .slice A0_4 l0_4.length c0_4, .slice A0_5 l0_5.length c0_5]] (by rfl) rfl rfl (by (try simp only [zK, zL, zM]); first | done | rfl | (simp only [zN, zO]; rfl)) ?_
   with_reducible refine (impl_Selection_lists.calls a0_0 (fun k_ => k_ < w.heap.size) _ _ l0_1 (fun k_ => k_ < w.heap.size) _ _ l0_2 (fun k_ => k_ < w.heap.size) _ _ l0_3 (fun k_ => k_ < w.heap.size) _ _ l0_4 _ _ l0_5 t267 _ ?side1 ?side2 ?side3 ?side4 ?side5 ?side6 A4.out).mono ?_
   (case side1 => exact Kd.V_mk HC0_1.out (Kd.F_below (Kd.C_F (Kd.heap_int .i64) HR0_1.out) (kB HB)))
   (case side2 => exact Kd.V_mk HC0_2.out (Kd.F_below (Kd.C_F (Kd.heap_int .i64) HR0_2.out) (kB HB)))
   (case side3 => exact Kd.V_mk HC0_3.out (Kd.F_below (Kd.C_F (Kd.heap_int .i64) HR0_3.out) (kB HB)))
   (case side4 => exact Kd.V_mk HC0_4.out (Kd.F_below (Kd.C_F (Kd.heap_int .i64) HR0_4.out) (kB HB)))
   (case side5 => exact kV (yY HR0_5.out HB.out))
   (case side6 => exact HC0_5.out)
   rintro e w12 ⟨v268, rfl, ho0, hb⟩
   refine ⟨_, rfl, ?_⟩
   have n0_ := yD (Kd.N_lower (Kd.N_mono (ok' := fun k_ => k_ ≠ gb265 ∧ k_ ≠ gb266) ho0 (fun k_ hk_ => ⟨Or.elim hk_ (fun hs_ => Or.elim hs_ (fun hs_ => fun e_ => Nat.not_le.2 hs_ (by rw [e_]; exact GW265.out)) (fun hs_ => Or.elim hs_ (fun hs_ => fun e_ => Nat.not_le.2 hs_ (by rw [e_]; exact GW265.out)) (fun hs_ => Or.elim hs_ (fun hs_ => fun e_ => Nat.not_le.2 hs_ (by rw [e_]; exact GW265.out)) (fun hs_ => fun e_ => Nat.not_le.2 hs_ (by rw [e_]; exact GW265.out))))) (fun hn_ => (Kd.freshB (g := gb265) (o := .cells #[.int .i64 a0_0, .slice A0_1 l0_1.length c0_1, .slice A0_2 l0_2.length c0_2, .slice A0_3 l0_3.length c0_3, .slice A0_4 l0_4.length c0_4, .slice A0_5 l0_5.length c0_5] 55 (0, 0)) (kM BK265) k_ hn_)), Or.elim hk_ (fun hs_ => Or.elim hs_ (fun hs_ => fun e_ => Nat.not_le.2 hs_ (by rw [e_]; exact GW266.out)) (fun hs_ => Or.elim hs_ (fun hs_ => fun e_ => Nat.not_le.2 hs_ (by rw [e_]; exact GW266.out)) (fun hs_ => Or.elim hs_ (fun hs_ => fun e_ => Nat.not_le.2 hs_ (by rw [e_]; exact GW266.out)) (fun hs_ => fun e_ => Nat.not_le.2 hs_ (by rw [e_]; exact GW266.out))))) (fun hn_ => (Kd.freshB (g := gb266) (o := .cells #[.int .i64 a1_0, .slice A1_1 l1_1.length c1_1, .slice A1_2 l1_2.length c1_2, .slice A1_3 l1_3.length c1_3, .slice A1_4 l1_4.length c1_4, .slice A1_5 l1_5.length c1_5] 55 (0, 0)) (kM BK266) k_ hn_))⟩)) (below_size (kB HB)))
   have n1_ := yD (zB (kN BK265) hb)
   have n2_ := yD (zB (kN BK266) hb)
   have n3_ := yD (zC (kB HB) hb)
   clear BK265 BK266 HB; have HO269 := n0_; have BK265 := n1_; have BK266 := n2_; have HB := n3_; clear n0_ n1_ n2_ n3_; (try clear hb); (try clear hb2); (try clear hk); (try clear hi); (try clear ho0)
   refine hK.out _ _ ⟨(yG BK265.out 0).trans rfl, (yG BK265.out 1).trans rfl, (yG BK265.out 2).trans rfl, (yG BK265.out 3).trans rfl, (yG BK265.out 4).trans rfl, (yG BK265.out 5).trans rfl, (yG BK266.out 0).trans rfl, (yG BK266.out 1).trans rfl, (yG BK266.out 2).trans rfl, (yG BK266.out 3).trans rfl, (yG BK266.out 4).trans rfl, (yG BK266.out 5).trans rfl⟩ (fun hHeld => ?_)
   clear hK K
   refine norm_ (by show Act.put _ (some 12) _ = _; simp only [Act.put, zH, zI, zJ, i64_w, i32_w]; rfl) ?_
   refine one_ (i := 9) (N := some 14) Q_10 rfl rfl (one_of HT_.out (by kernel_rfl)) (by decide) (fun K hK => ?_)
   refine goes_ Try.func154 (by kernel_rfl) rfl #[.agg #[.int .i64 a1_0, .slice A1_1 l1_1.length c1_1, .slice A1_2 l1_2.length c1_2, .slice A1_3 l1_3.length c1_3, .slice A1_4 l1_4.length c1_4, .slice A1_5 l1_5.length c1_5]] (by rfl) rfl rfl (by (try simp only [zK, zL, zM]); first | done | rfl | (simp only [zN, zO]; rfl)) ?_
   with_reducible refine (impl_Selection_lists.calls a1_0 (fun k_ => k_ < w.heap.size) _ _ l1_1 (fun k_ => k_ < w.heap.size) _ _ l1_2 (fun k_ => k_ < w.heap.size) _ _ l1_3 (fun k_ => k_ < w.heap.size) _ _ l1_4 _ _ l1_5 t270 _ ?side1 ?side2 ?side3 ?side4 ?side5 ?side6 A5.out).mono ?_
   (case side1 => exact Kd.V_mk HC1_1.out (Kd.F_below (Kd.C_F (Kd.heap_int .i64) HR1_1.out) (kB HB)))
   (case side2 => exact Kd.V_mk HC1_2.out (Kd.F_below (Kd.C_F (Kd.heap_int .i64) HR1_2.out) (kB HB)))
   (case side3 => exact Kd.V_mk HC1_3.out (Kd.F_below (Kd.C_F (Kd.heap_int .i64) HR1_3.out) (kB HB)))
   (case side4 => exact Kd.V_mk HC1_4.out (Kd.F_below (Kd.C_F (Kd.heap_int .i64) HR1_4.out) (kB HB)))
   (case side5 => exact kV (yY HR1_5.out HB.out))
   (case side6 => exact HC1_5.out)
   rintro e w13 ⟨v271, rfl, ho0, hb⟩
   refine ⟨_, rfl, ?_⟩
   have n0_ := yD (Kd.N_elder' (by (with_reducible repeat (first | apply Kd.N_alloc | apply Kd.N_drewN | apply Kd.N_drew)); exact HO269.out) (Kd.N_base ho0) hb)
   have n1_ := yD (Kd.N_lower (Kd.N_mono (ok' := fun k_ => some k_ ≠ (v268 : Value).ownBlock ∧ k_ ≠ gb265 ∧ k_ ≠ gb266) ho0 (fun k_ hk_ => ⟨Or.elim hk_ (fun hs_ => Or.elim hs_ (fun hs_ => fun e_ => Nat.not_le.2 hs_ (Kd.N_base HO269.out k_ e_.symm)) (fun hs_ => Or.elim hs_ (fun hs_ => fun e_ => Nat.not_le.2 hs_ (Kd.N_base HO269.out k_ e_.symm)) (fun hs_ => Or.elim hs_ (fun hs_ => fun e_ => Nat.not_le.2 hs_ (Kd.N_base HO269.out k_ e_.symm)) (fun hs_ => fun e_ => Nat.not_le.2 hs_ (Kd.N_base HO269.out k_ e_.symm))))) (fun hn_ => (Kd.fresh' (Kd.N_lt (by (with_reducible repeat (first | apply Kd.N_alloc | apply Kd.N_drewN | apply Kd.N_drew)); exact HO269.out)) k_ hn_)), Or.elim hk_ (fun hs_ => Or.elim hs_ (fun hs_ => fun e_ => Nat.not_le.2 hs_ (by rw [e_]; exact GW265.out)) (fun hs_ => Or.elim hs_ (fun hs_ => fun e_ => Nat.not_le.2 hs_ (by rw [e_]; exact GW265.out)) (fun hs_ => Or.elim hs_ (fun hs_ => fun e_ => Nat.not_le.2 hs_ (by rw [e_]; exact GW265.out)) (fun hs_ => fun e_ => Nat.not_le.2 hs_ (by rw [e_]; exact GW265.out))))) (fun hn_ => (Kd.freshB (g := gb265) (o := .cells #[.int .i64 a0_0, .slice A0_1 l0_1.length c0_1, .slice A0_2 l0_2.length c0_2, .slice A0_3 l0_3.length c0_3, .slice A0_4 l0_4.length c0_4, .slice A0_5 l0_5.length c0_5] 55 (0, 0)) (kM BK265) k_ hn_)), Or.elim hk_ (fun hs_ => Or.elim hs_ (fun hs_ => fun e_ => Nat.not_le.2 hs_ (by rw [e_]; exact GW266.out)) (fun hs_ => Or.elim hs_ (fun hs_ => fun e_ => Nat.not_le.2 hs_ (by rw [e_]; exact GW266.out)) (fun hs_ => Or.elim hs_ (fun hs_ => fun e_ => Nat.not_le.2 hs_ (by rw [e_]; exact GW266.out)) (fun hs_ => fun e_ => Nat.not_le.2 hs_ (by rw [e_]; exact GW266.out))))) (fun hn_ => (Kd.freshB (g := gb266) (o := .cells #[.int .i64 a1_0, .slice A1_1 l1_1.length c1_1, .slice A1_2 l1_2.length c1_2, .slice A1_3 l1_3.length c1_3, .slice A1_4 l1_4.length c1_4, .slice A1_5 l1_5.length c1_5] 55 (0, 0)) (kM BK266) k_ hn_))⟩)) (below_size (kB HB)))
   have n2_ := yD (zB (kN BK265) hb)
   have n3_ := yD (zB (kN BK266) hb)
   have n4_ := yD (zC (kB HB) hb)
   clear HO269 BK265 BK266 HB; have HO269 := n0_; have HO272 := n1_; have BK265 := n2_; have BK266 := n3_; have HB := n4_; clear n0_ n1_ n2_ n3_ n4_; (try clear hb); (try clear hb2); (try clear hk); (try clear hi); (try clear ho0)
   obtain ⟨Ao14, co14, eo14⟩ := Kd.N_slice HO269.out
   (first | subst eo14 | (injection eo14 with f1_ f2_ f3_; have f4_ := f1_.symm; have f5_ := f3_.symm; clear f1_ f2_ f3_; subst f4_; subst f5_))
   obtain ⟨Ao15, co15, eo15⟩ := Kd.N_slice HO272.out
   (first | subst eo15 | (injection eo15 with f1_ f2_ f3_; have f4_ := f1_.symm; have f5_ := f3_.symm; clear f1_ f2_ f3_; subst f4_; subst f5_))
   refine hK.out _ _ ⟨(yG BK265.out 0).trans rfl, (yG BK265.out 1).trans rfl, (yG BK265.out 2).trans rfl, (yG BK265.out 3).trans rfl, (yG BK265.out 4).trans rfl, (yG BK265.out 5).trans rfl, (yG BK266.out 0).trans rfl, (yG BK266.out 1).trans rfl, (yG BK266.out 2).trans rfl, (yG BK266.out 3).trans rfl, (yG BK266.out 4).trans rfl, (yG BK266.out 5).trans rfl⟩ (fun hHeld => ?_)
   clear hK K
   refine norm_ (by show Act.put _ (some 14) _ = _; simp only [Act.put, zH, zI, zJ, i64_w, i32_w]; rfl) ?_
   refine one_ (i := 10) (N := some 15) Q_11 rfl rfl (one_of HT_.out (by kernel_rfl)) (by decide) (fun K hK => ?_)
   refine goes_ Try.func153 (by kernel_rfl) rfl #[.slice Ao14 t267.length co14, .slice Ao15 t270.length co15, .func (.func 107) #[] #[]] (by rfl) rfl rfl (by (try simp only [zK, zL, zM]); first | done | rfl | (simp only [zN, zO]; rfl)) ?_
   with_reducible refine (slices_EqualFunc_slices_Equal_int64_int64.calls k _ _ t267 _ _ t270  true _ ?side1 ?side2 ?side3 ?side4 A6.out).mono ?_
   (case side1 => exact kV (Kd.N_reads' HO269.out).2.2)
   (case side2 => exact (Kd.N_reads' HO269.out).2.1)
   (case side3 => exact kV (Kd.N_reads' HO272.out).2.2)
   (case side4 => exact (Kd.N_reads' HO272.out).2.1)
   rintro e w16 ⟨rfl, hb⟩
   refine ⟨_, rfl, ?_⟩
   have n0_ := yD (Kd.N_below (by (with_reducible repeat (first | apply Kd.N_alloc | apply Kd.N_drewN | apply Kd.N_drew)); exact HO269.out) hb)
   have n1_ := yD (Kd.N_below (by (with_reducible repeat (first | apply Kd.N_alloc | apply Kd.N_drewN | apply Kd.N_drew)); exact HO272.out) hb)
   have n2_ := yD (zB (kN BK265) hb)
   have n3_ := yD (zB (kN BK266) hb)
   have n4_ := yD (zC (kB HB) hb)
   clear HO269 HO272 BK265 BK266 HB; have HO269 := n0_; have HO272 := n1_; have BK265 := n2_; have BK266 := n3_; have HB := n4_; clear n0_ n1_ n2_ n3_ n4_; (try clear hb); (try clear hb2); (try clear hk); (try clear hi)
   refine hK.out _ _ ⟨(yG BK265.out 0).trans rfl, (yG BK265.out 1).trans rfl, (yG BK265.out 2).trans rfl, (yG BK265.out 3).trans rfl, (yG BK265.out 4).trans rfl, (yG BK265.out 5).trans rfl, (yG BK266.out 0).trans rfl, (yG BK266.out 1).trans rfl, (yG BK266.out 2).trans rfl, (yG BK266.out 3).trans rfl, (yG BK266.out 4).trans rfl, (yG BK266.out 5).trans rfl⟩ (fun hHeld => ?_)
   clear hK K
   refine norm_ (by show Act.put _ (some 15) _ = _; simp only [Act.put, zH, zI, zJ, i64_w, i32_w]; rfl) ?_
   refine qA 11 16 Q_12 HT_ ?_
   refine qA 12 17 Q_13 HT_ ?_
   refine qA 13 18 Q_14 HT_ ?_
   refine qA 15 20 Q_15 HT_ ?_
   refine qC 14 19 Q_16 HT_ HW_ hHeld ?_ (hy := by rintro w' ⟨s0, s1, s2, s3, s4, s5, s6, s7, s8, s9, s10, s11⟩; go_simp; with_reducible rfl)
   refine qC 16 21 Q_17 HT_ HW_ hHeld ?_ (hy := by rintro w' ⟨s0, s1, s2, s3, s4, s5, s6, s7, s8, s9, s10, s11⟩; go_simp; with_reducible rfl)
   refine one_ (i := 17) (N := some 22) Q_18 rfl rfl (one_of HT_.out (by kernel_rfl)) (by decide) (fun K hK => ?_)
   refine goes_ Try.func155 (by kernel_rfl) rfl #[.slice A0_5 l0_5.length c0_5, .slice A1_5 l1_5.length c1_5, .func (.func 156) #[] #[]] (by rfl) rfl rfl (by (try simp only [zK, zL, zM]); first | done | rfl | (simp only [zN, zO]; rfl)) ?_
   with_reducible refine (slices_EqualFunc_impl_samePoint.calls k _ _ l0_5 _ _ l1_5  t274 _ ?side1 ?side2 ?side3 ?side4 A8.out).mono ?_
   (case side1 => exact kV (yY HR0_5.out HB.out))
   (case side2 => exact HC0_5.out)
   (case side3 => exact kV (yY HR1_5.out HB.out))
   (case side4 => exact HC1_5.out)
   rintro e w17 ⟨rfl, hb⟩
   refine ⟨_, rfl, ?_⟩
   have n0_ := yD (Kd.N_below (by (with_reducible repeat (first | apply Kd.N_alloc | apply Kd.N_drewN | apply Kd.N_drew)); exact HO269.out) hb)
   have n1_ := yD (Kd.N_below (by (with_reducible repeat (first | apply Kd.N_alloc | apply Kd.N_drewN | apply Kd.N_drew)); exact HO272.out) hb)
   have n2_ := yD (zB (kN BK265) hb)
   have n3_ := yD (zB (kN BK266) hb)
   have n4_ := yD (zC (kB HB) hb)
   clear HO269 HO272 BK265 BK266 HB; have HO269 := n0_; have HO272 := n1_; have BK265 := n2_; have BK266 := n3_; have HB := n4_; clear n0_ n1_ n2_ n3_ n4_; (try clear hb); (try clear hb2); (try clear hk); (try clear hi)
   refine hK.out _ _ ⟨(yG BK265.out 0).trans rfl, (yG BK265.out 1).trans rfl, (yG BK265.out 2).trans rfl, (yG BK265.out 3).trans rfl, (yG BK265.out 4).trans rfl, (yG BK265.out 5).trans rfl, (yG BK266.out 0).trans rfl, (yG BK266.out 1).trans rfl, (yG BK266.out 2).trans rfl, (yG BK266.out 3).trans rfl, (yG BK266.out 4).trans rfl, (yG BK266.out 5).trans rfl⟩ (fun hHeld => ?_)
   clear hK K
   refine norm_ (by show Act.put _ (some 22) _ = _; simp only [Act.put, zH, zI, zJ, i64_w, i32_w]; rfl) ?_
   refine qA 18 23 Q_19 HT_ ?_
   refine qA 19 4 Q_20 HT_ ?_
   refine done_ (done_of HT_.out (by kernel_rfl)) ?_
   try go_wp2
   go_ret
   exact ⟨by first | rfl | (simp <;> rfl) | (simp [*] <;> rfl), kR0 HB⟩
  ·
   replace c7 := Bool.eq_false_iff.mpr c7
   subst c7
   have H1 : (some false) = some r := by rw [if_neg (show ¬ (false = true) by decide)] at H; exact H
   clear H; have H := H1; clear H1; obtain rfl := Option.some.inj H; go_enter Try.func137, Try.ntmps137
   try go_wp2_with (first | ((with_reducible refine gate_dst (N := 2) rfl ?_); refine box_event ?hg (N := 2) ?hd (cs := #[.int .i64 a0_0, .slice A0_1 l0_1.length c0_1, .slice A0_2 l0_2.length c0_2, .slice A0_3 l0_3.length c0_3, .slice A0_4 l0_4.length c0_4, .slice A0_5 l0_5.length c0_5]) (t := 55) ?hr ?_; (case hd => rfl); (case hg => rfl); (case hr => first | (go_simp; done) | (go_simp; rfl)); intro gb265 hg w18 hbox hb; have n0_ := yD (zC (kB HB) hb); have n1_ := yD (hbox); have n2_ := yD ((by rw [hg]; exact (below_size (kB HB)) : w.heap.size ≤ gb265)); have n3_ := yD ((by rw [hg]; exact (below_size (kB HB)) : w.heap.size ≤ gb265)); clear HB; have HB := n0_; have BK265 := n1_; have GW265 := n2_; have GE265 := n3_; clear n0_ n1_ n2_ n3_; clear hb hbox hg) | ((with_reducible refine gate_dst (N := 3) rfl ?_); refine box_event ?hg (N := 3) ?hd (cs := #[.int .i64 a1_0, .slice A1_1 l1_1.length c1_1, .slice A1_2 l1_2.length c1_2, .slice A1_3 l1_3.length c1_3, .slice A1_4 l1_4.length c1_4, .slice A1_5 l1_5.length c1_5]) (t := 55) ?hr ?_; (case hd => rfl); (case hg => rfl); (case hr => first | (go_simp; done) | (go_simp; rfl)); intro gb266 hg w19 hbox hb; have n0_ := yD (zB (kN BK265) hb); have n1_ := yD (zC (kB HB) hb); have n2_ := yD (hbox); have n3_ := yD ((by rw [hg]; exact (below_size (kB HB)) : w.heap.size ≤ gb266)); have n4_ := yD ((by rw [hg]; exact (below_size (kB HB)) : w.heap.size ≤ gb266)); have n5_ := yD ((by rw [hg]; exact Nat.ne_of_lt (blk_lt (kN BK265)) : gb265 ≠ gb266)); have n6_ := yD ((by rw [hg]; exact Nat.ne_of_gt (blk_lt (kN BK265)) : gb266 ≠ gb265)); clear BK265; clear HB; have BK265 := n0_; have HB := n1_; have BK266 := n2_; have GW266 := n3_; have GE266 := n4_; have NB265_266 := n5_; have NB266_265 := n6_; clear n0_ n1_ n2_ n3_ n4_ n5_ n6_; clear hb hbox hg))
   have n0_ := yD (yO BK265.out)
   have n1_ := yD (yO BK266.out)
   have n2_ := yD (yP HB.out)
   clear BK265 BK266 HB; have BK265 := n0_; have BK266 := n1_; have HB := n2_; clear n0_ n1_ n2_
   refine start_ (n := 20) (S := fun w' => w'.cell? ⟨gb265, 0, none⟩ = some (.int .i64 a0_0) ∧ w'.cell? ⟨gb265, 1, none⟩ = some (.slice A0_1 l0_1.length c0_1) ∧ w'.cell? ⟨gb265, 2, none⟩ = some (.slice A0_2 l0_2.length c0_2) ∧ w'.cell? ⟨gb265, 3, none⟩ = some (.slice A0_3 l0_3.length c0_3) ∧ w'.cell? ⟨gb265, 4, none⟩ = some (.slice A0_4 l0_4.length c0_4) ∧ w'.cell? ⟨gb265, 5, none⟩ = some (.slice A0_5 l0_5.length c0_5) ∧ w'.cell? ⟨gb266, 0, none⟩ = some (.int .i64 a1_0) ∧ w'.cell? ⟨gb266, 1, none⟩ = some (.slice A1_1 l1_1.length c1_1) ∧ w'.cell? ⟨gb266, 2, none⟩ = some (.slice A1_2 l1_2.length c1_2) ∧ w'.cell? ⟨gb266, 3, none⟩ = some (.slice A1_3 l1_3.length c1_3) ∧ w'.cell? ⟨gb266, 4, none⟩ = some (.slice A1_4 l1_4.length c1_4) ∧ w'.cell? ⟨gb266, 5, none⟩ = some (.slice A1_5 l1_5.length c1_5)) (ds := []) Q_0 (by kernel_rfl) rfl rfl ⟨(yG BK265.out 0).trans rfl, (yG BK265.out 1).trans rfl, (yG BK265.out 2).trans rfl, (yG BK265.out 3).trans rfl, (yG BK265.out 4).trans rfl, (yG BK265.out 5).trans rfl, (yG BK266.out 0).trans rfl, (yG BK266.out 1).trans rfl, (yG BK266.out 2).trans rfl, (yG BK266.out 3).trans rfl, (yG BK266.out 4).trans rfl, (yG BK266.out 5).trans rfl⟩ (fun hHeld => ?_); refine with_tabW impl_SameSelection.tab1 impl_SameSelection.bits1 (fun HT_ HW_ => ?_)
   generalize w19.drew = w20 at BK265 BK266 HB hHeld ⊢
   refine qA 0 5 Q_1 HT_ ?_
   refine qA 2 7 Q_2 HT_ ?_
   refine qC 1 6 Q_3 HT_ HW_ hHeld ?_ (hy := by rintro w' ⟨s0, s1, s2, s3, s4, s5, s6, s7, s8, s9, s10, s11⟩; go_simp; with_reducible rfl)
   refine qC 3 8 Q_4 HT_ HW_ hHeld ?_ (hy := by rintro w' ⟨s0, s1, s2, s3, s4, s5, s6, s7, s8, s9, s10, s11⟩; go_simp; with_reducible rfl)
   refine qA 4 9 Q_5 HT_ ?_
   refine qA 5 10 Q_6 HT_ ?_
   refine qC 6 11 Q_7 HT_ HW_ hHeld ?_ (hy := by rintro w' ⟨s0, s1, s2, s3, s4, s5, s6, s7, s8, s9, s10, s11⟩; go_simp; with_reducible rfl)
   refine qC 8 13 Q_8 HT_ HW_ hHeld ?_ (hy := by rintro w' ⟨s0, s1, s2, s3, s4, s5, s6, s7, s8, s9, s10, s11⟩; go_simp; with_reducible rfl)
   refine one_ (i := 7) (N := some 12) Q_9 rfl rfl (one_of HT_.out (by kernel_rfl)) (by decide) (fun K hK => ?_)
   refine goes_ Try.func154 (by kernel_rfl) rfl #[.agg #[.int .i64 a0_0, .slice A0_1 l0_1.length c0_1, .slice A0_2 l0_2.length c0_2, .slice A0_3 l0_3.length c0_3, .slice A0_4 l0_4.length c0_4, .slice A0_5 l0_5.length c0_5]] (by rfl) rfl rfl (by (try simp only [zK, zL, zM]); first | done | rfl | (simp only [zN, zO]; rfl)) ?_
   with_reducible refine (impl_Selection_lists.calls a0_0 (fun k_ => k_ < w.heap.size) _ _ l0_1 (fun k_ => k_ < w.heap.size) _ _ l0_2 (fun k_ => k_ < w.heap.size) _ _ l0_3 (fun k_ => k_ < w.heap.size) _ _ l0_4 _ _ l0_5 t267 _ ?side1 ?side2 ?side3 ?side4 ?side5 ?side6 A4.out).mono ?_
   (case side1 => exact Kd.V_mk HC0_1.out (Kd.F_below (Kd.C_F (Kd.heap_int .i64) HR0_1.out) (kB HB)))
   (case side2 => exact Kd.V_mk HC0_2.out (Kd.F_below (Kd.C_F (Kd.heap_int .i64) HR0_2.out) (kB HB)))
   (case side3 => exact Kd.V_mk HC0_3.out (Kd.F_below (Kd.C_F (Kd.heap_int .i64) HR0_3.out) (kB HB)))
   (case side4 => exact Kd.V_mk HC0_4.out (Kd.F_below (Kd.C_F (Kd.heap_int .i64) HR0_4.out) (kB HB)))
   (case side5 => exact kV (yY HR0_5.out HB.out))
   (case side6 => exact HC0_5.out)
   rintro e w21 ⟨v268, rfl, ho0, hb⟩
   refine ⟨_, rfl, ?_⟩
   have n0_ := yD (Kd.N_lower (Kd.N_mono (ok' := fun k_ => k_ ≠ gb265 ∧ k_ ≠ gb266) ho0 (fun k_ hk_ => ⟨Or.elim hk_ (fun hs_ => Or.elim hs_ (fun hs_ => fun e_ => Nat.not_le.2 hs_ (by rw [e_]; exact GW265.out)) (fun hs_ => Or.elim hs_ (fun hs_ => fun e_ => Nat.not_le.2 hs_ (by rw [e_]; exact GW265.out)) (fun hs_ => Or.elim hs_ (fun hs_ => fun e_ => Nat.not_le.2 hs_ (by rw [e_]; exact GW265.out)) (fun hs_ => fun e_ => Nat.not_le.2 hs_ (by rw [e_]; exact GW265.out))))) (fun hn_ => (Kd.freshB (g := gb265) (o := .cells #[.int .i64 a0_0, .slice A0_1 l0_1.length c0_1, .slice A0_2 l0_2.length c0_2, .slice A0_3 l0_3.length c0_3, .slice A0_4 l0_4.length c0_4, .slice A0_5 l0_5.length c0_5] 55 (0, 0)) (kM BK265) k_ hn_)), Or.elim hk_ (fun hs_ => Or.elim hs_ (fun hs_ => fun e_ => Nat.not_le.2 hs_ (by rw [e_]; exact GW266.out)) (fun hs_ => Or.elim hs_ (fun hs_ => fun e_ => Nat.not_le.2 hs_ (by rw [e_]; exact GW266.out)) (fun hs_ => Or.elim hs_ (fun hs_ => fun e_ => Nat.not_le.2 hs_ (by rw [e_]; exact GW266.out)) (fun hs_ => fun e_ => Nat.not_le.2 hs_ (by rw [e_]; exact GW266.out))))) (fun hn_ => (Kd.freshB (g := gb266) (o := .cells #[.int .i64 a1_0, .slice A1_1 l1_1.length c1_1, .slice A1_2 l1_2.length c1_2, .slice A1_3 l1_3.length c1_3, .slice A1_4 l1_4.length c1_4, .slice A1_5 l1_5.length c1_5] 55 (0, 0)) (kM BK266) k_ hn_))⟩)) (below_size (kB HB)))
   have n1_ := yD (zB (kN BK265) hb)
   have n2_ := yD (zB (kN BK266) hb)
   have n3_ := yD (zC (kB HB) hb)
   clear BK265 BK266 HB; have HO269 := n0_; have BK265 := n1_; have BK266 := n2_; have HB := n3_; clear n0_ n1_ n2_ n3_; (try clear hb); (try clear hb2); (try clear hk); (try clear hi); (try clear ho0)
   refine hK.out _ _ ⟨(yG BK265.out 0).trans rfl, (yG BK265.out 1).trans rfl, (yG BK265.out 2).trans rfl, (yG BK265.out 3).trans rfl, (yG BK265.out 4).trans rfl, (yG BK265.out 5).trans rfl, (yG BK266.out 0).trans rfl, (yG BK266.out 1).trans rfl, (yG BK266.out 2).trans rfl, (yG BK266.out 3).trans rfl, (yG BK266.out 4).trans rfl, (yG BK266.out 5).trans rfl⟩ (fun hHeld => ?_)
   clear hK K
   refine norm_ (by show Act.put _ (some 12) _ = _; simp only [Act.put, zH, zI, zJ, i64_w, i32_w]; rfl) ?_
   refine one_ (i := 9) (N := some 14) Q_10 rfl rfl (one_of HT_.out (by kernel_rfl)) (by decide) (fun K hK => ?_)
   refine goes_ Try.func154 (by kernel_rfl) rfl #[.agg #[.int .i64 a1_0, .slice A1_1 l1_1.length c1_1, .slice A1_2 l1_2.length c1_2, .slice A1_3 l1_3.length c1_3, .slice A1_4 l1_4.length c1_4, .slice A1_5 l1_5.length c1_5]] (by rfl) rfl rfl (by (try simp only [zK, zL, zM]); first | done | rfl | (simp only [zN, zO]; rfl)) ?_
   with_reducible refine (impl_Selection_lists.calls a1_0 (fun k_ => k_ < w.heap.size) _ _ l1_1 (fun k_ => k_ < w.heap.size) _ _ l1_2 (fun k_ => k_ < w.heap.size) _ _ l1_3 (fun k_ => k_ < w.heap.size) _ _ l1_4 _ _ l1_5 t270 _ ?side1 ?side2 ?side3 ?side4 ?side5 ?side6 A5.out).mono ?_
   (case side1 => exact Kd.V_mk HC1_1.out (Kd.F_below (Kd.C_F (Kd.heap_int .i64) HR1_1.out) (kB HB)))
   (case side2 => exact Kd.V_mk HC1_2.out (Kd.F_below (Kd.C_F (Kd.heap_int .i64) HR1_2.out) (kB HB)))
   (case side3 => exact Kd.V_mk HC1_3.out (Kd.F_below (Kd.C_F (Kd.heap_int .i64) HR1_3.out) (kB HB)))
   (case side4 => exact Kd.V_mk HC1_4.out (Kd.F_below (Kd.C_F (Kd.heap_int .i64) HR1_4.out) (kB HB)))
   (case side5 => exact kV (yY HR1_5.out HB.out))
   (case side6 => exact HC1_5.out)
   rintro e w22 ⟨v271, rfl, ho0, hb⟩
   refine ⟨_, rfl, ?_⟩
   have n0_ := yD (Kd.N_elder' (by (with_reducible repeat (first | apply Kd.N_alloc | apply Kd.N_drewN | apply Kd.N_drew)); exact HO269.out) (Kd.N_base ho0) hb)
   have n1_ := yD (Kd.N_lower (Kd.N_mono (ok' := fun k_ => some k_ ≠ (v268 : Value).ownBlock ∧ k_ ≠ gb265 ∧ k_ ≠ gb266) ho0 (fun k_ hk_ => ⟨Or.elim hk_ (fun hs_ => Or.elim hs_ (fun hs_ => fun e_ => Nat.not_le.2 hs_ (Kd.N_base HO269.out k_ e_.symm)) (fun hs_ => Or.elim hs_ (fun hs_ => fun e_ => Nat.not_le.2 hs_ (Kd.N_base HO269.out k_ e_.symm)) (fun hs_ => Or.elim hs_ (fun hs_ => fun e_ => Nat.not_le.2 hs_ (Kd.N_base HO269.out k_ e_.symm)) (fun hs_ => fun e_ => Nat.not_le.2 hs_ (Kd.N_base HO269.out k_ e_.symm))))) (fun hn_ => (Kd.fresh' (Kd.N_lt (by (with_reducible repeat (first | apply Kd.N_alloc | apply Kd.N_drewN | apply Kd.N_drew)); exact HO269.out)) k_ hn_)), Or.elim hk_ (fun hs_ => Or.elim hs_ (fun hs_ => fun e_ => Nat.not_le.2 hs_ (by rw [e_]; exact GW265.out)) (fun hs_ => Or.elim hs_ (fun hs_ => fun e_ => Nat.not_le.2 hs_ (by rw [e_]; exact GW265.out)) (fun hs_ => Or.elim hs_ (fun hs_ => fun e_ => Nat.not_le.2 hs_ (by rw [e_]; exact GW265.out)) (fun hs_ => fun e_ => Nat.not_le.2 hs_ (by rw [e_]; exact GW265.out))))) (fun hn_ => (Kd.freshB (g := gb265) (o := .cells #[.int .i64 a0_0, .slice A0_1 l0_1.length c0_1, .slice A0_2 l0_2.length c0_2, .slice A0_3 l0_3.length c0_3, .slice A0_4 l0_4.length c0_4, .slice A0_5 l0_5.length c0_5] 55 (0, 0)) (kM BK265) k_ hn_)), Or.elim hk_ (fun hs_ => Or.elim hs_ (fun hs_ => fun e_ => Nat.not_le.2 hs_ (by rw [e_]; exact GW266.out)) (fun hs_ => Or.elim hs_ (fun hs_ => fun e_ => Nat.not_le.2 hs_ (by rw [e_]; exact GW266.out)) (fun hs_ => Or.elim hs_ (fun hs_ => fun e_ => Nat.not_le.2 hs_ (by rw [e_]; exact GW266.out)) (fun hs_ => fun e_ => Nat.not_le.2 hs_ (by rw [e_]; exact GW266.out))))) (fun hn_ => (Kd.freshB (g := gb266) (o := .cells #[.int .i64 a1_0, .slice A1_1 l1_1.length c1_1, .slice A1_2 l1_2.length c1_2, .slice A1_3 l1_3.length c1_3, .slice A1_4 l1_4.length c1_4, .slice A1_5 l1_5.length c1_5] 55 (0, 0)) (kM BK266) k_ hn_))⟩)) (below_size (kB HB)))
   have n2_ := yD (zB (kN BK265) hb)
   have n3_ := yD (zB (kN BK266) hb)
   have n4_ := yD (zC (kB HB) hb)
   clear HO269 BK265 BK266 HB; have HO269 := n0_; have HO272 := n1_; have BK265 := n2_; have BK266 := n3_; have HB := n4_; clear n0_ n1_ n2_ n3_ n4_; (try clear hb); (try clear hb2); (try clear hk); (try clear hi); (try clear ho0)
   obtain ⟨Ao23, co23, eo23⟩ := Kd.N_slice HO269.out
   (first | subst eo23 | (injection eo23 with f1_ f2_ f3_; have f4_ := f1_.symm; have f5_ := f3_.symm; clear f1_ f2_ f3_; subst f4_; subst f5_))
   obtain ⟨Ao24, co24, eo24⟩ := Kd.N_slice HO272.out
   (first | subst eo24 | (injection eo24 with f1_ f2_ f3_; have f4_ := f1_.symm; have f5_ := f3_.symm; clear f1_ f2_ f3_; subst f4_; subst f5_))
   refine hK.out _ _ ⟨(yG BK265.out 0).trans rfl, (yG BK265.out 1).trans rfl, (yG BK265.out 2).trans rfl, (yG BK265.out 3).trans rfl, (yG BK265.out 4).trans rfl, (yG BK265.out 5).trans rfl, (yG BK266.out 0).trans rfl, (yG BK266.out 1).trans rfl, (yG BK266.out 2).trans rfl, (yG BK266.out 3).trans rfl, (yG BK266.out 4).trans rfl, (yG BK266.out 5).trans rfl⟩ (fun hHeld => ?_)
   clear hK K
   refine norm_ (by show Act.put _ (some 14) _ = _; simp only [Act.put, zH, zI, zJ, i64_w, i32_w]; rfl) ?_
   refine one_ (i := 10) (N := some 15) Q_11 rfl rfl (one_of HT_.out (by kernel_rfl)) (by decide) (fun K hK => ?_)
   refine goes_ Try.func153 (by kernel_rfl) rfl #[.slice Ao23 t267.length co23, .slice Ao24 t270.length co24, .func (.func 107) #[] #[]] (by rfl) rfl rfl (by (try simp only [zK, zL, zM]); first | done | rfl | (simp only [zN, zO]; rfl)) ?_
   with_reducible refine (slices_EqualFunc_slices_Equal_int64_int64.calls k _ _ t267 _ _ t270  false _ ?side1 ?side2 ?side3 ?side4 A6.out).mono ?_
   (case side1 => exact kV (Kd.N_reads' HO269.out).2.2)
   (case side2 => exact (Kd.N_reads' HO269.out).2.1)
   (case side3 => exact kV (Kd.N_reads' HO272.out).2.2)
   (case side4 => exact (Kd.N_reads' HO272.out).2.1)
   rintro e w25 ⟨rfl, hb⟩
   refine ⟨_, rfl, ?_⟩
   have n0_ := yD (Kd.N_below (by (with_reducible repeat (first | apply Kd.N_alloc | apply Kd.N_drewN | apply Kd.N_drew)); exact HO269.out) hb)
   have n1_ := yD (Kd.N_below (by (with_reducible repeat (first | apply Kd.N_alloc | apply Kd.N_drewN | apply Kd.N_drew)); exact HO272.out) hb)
   have n2_ := yD (zB (kN BK265) hb)
   have n3_ := yD (zB (kN BK266) hb)
   have n4_ := yD (zC (kB HB) hb)
   clear HO269 HO272 BK265 BK266 HB; have HO269 := n0_; have HO272 := n1_; have BK265 := n2_; have BK266 := n3_; have HB := n4_; clear n0_ n1_ n2_ n3_ n4_; (try clear hb); (try clear hb2); (try clear hk); (try clear hi)
   refine hK.out _ _ ⟨(yG BK265.out 0).trans rfl, (yG BK265.out 1).trans rfl, (yG BK265.out 2).trans rfl, (yG BK265.out 3).trans rfl, (yG BK265.out 4).trans rfl, (yG BK265.out 5).trans rfl, (yG BK266.out 0).trans rfl, (yG BK266.out 1).trans rfl, (yG BK266.out 2).trans rfl, (yG BK266.out 3).trans rfl, (yG BK266.out 4).trans rfl, (yG BK266.out 5).trans rfl⟩ (fun hHeld => ?_)
   clear hK K
   refine norm_ (by show Act.put _ (some 15) _ = _; simp only [Act.put, zH, zI, zJ, i64_w, i32_w]; rfl) ?_
   refine qA 11 16 Q_12 HT_ ?_
   refine qA 12 17 Q_13 HT_ ?_
   refine qB 13 18 Q_14 HT_ ?_
   refine qB 14 19 Q_21 HT_ ?_
   refine qB 15 20 Q_16 HT_ ?_
   refine qB 16 21 Q_17 HT_ ?_
   refine qB 17 22 Q_18 HT_ ?_
   refine qA 18 23 Q_19 HT_ ?_
   refine qA 19 4 Q_20 HT_ ?_
   refine done_ (done_of HT_.out (by kernel_rfl)) ?_
   try go_wp2
   go_ret
   exact ⟨by first | rfl | (simp <;> rfl) | (simp [*] <;> rfl), kR0 HB⟩
 ·
  rw [if_neg c3] at H
  have c3b0 : (a0_0 == a1_0) = false := beq_eq_false_iff_ne.mpr c3
  have c3b1 : (a0_0 != a1_0) = true := bne_iff_ne.mpr c3
  obtain rfl := Option.some.inj H; go_enter Try.func137, Try.ntmps137
  try go_wp2_with (first | ((with_reducible refine gate_dst (N := 2) rfl ?_); refine box_event ?hg (N := 2) ?hd (cs := #[.int .i64 a0_0, .slice A0_1 l0_1.length c0_1, .slice A0_2 l0_2.length c0_2, .slice A0_3 l0_3.length c0_3, .slice A0_4 l0_4.length c0_4, .slice A0_5 l0_5.length c0_5]) (t := 55) ?hr ?_; (case hd => rfl); (case hg => rfl); (case hr => first | (go_simp; done) | (go_simp; rfl)); intro gb265 hg w26 hbox hb; have n0_ := yD (zC (kB HB) hb); have n1_ := yD (hbox); have n2_ := yD ((by rw [hg]; exact (below_size (kB HB)) : w.heap.size ≤ gb265)); have n3_ := yD ((by rw [hg]; exact (below_size (kB HB)) : w.heap.size ≤ gb265)); clear HB; have HB := n0_; have BK265 := n1_; have GW265 := n2_; have GE265 := n3_; clear n0_ n1_ n2_ n3_; clear hb hbox hg) | ((with_reducible refine gate_dst (N := 3) rfl ?_); refine box_event ?hg (N := 3) ?hd (cs := #[.int .i64 a1_0, .slice A1_1 l1_1.length c1_1, .slice A1_2 l1_2.length c1_2, .slice A1_3 l1_3.length c1_3, .slice A1_4 l1_4.length c1_4, .slice A1_5 l1_5.length c1_5]) (t := 55) ?hr ?_; (case hd => rfl); (case hg => rfl); (case hr => first | (go_simp; done) | (go_simp; rfl)); intro gb266 hg w27 hbox hb; have n0_ := yD (zB (kN BK265) hb); have n1_ := yD (zC (kB HB) hb); have n2_ := yD (hbox); have n3_ := yD ((by rw [hg]; exact (below_size (kB HB)) : w.heap.size ≤ gb266)); have n4_ := yD ((by rw [hg]; exact (below_size (kB HB)) : w.heap.size ≤ gb266)); have n5_ := yD ((by rw [hg]; exact Nat.ne_of_lt (blk_lt (kN BK265)) : gb265 ≠ gb266)); have n6_ := yD ((by rw [hg]; exact Nat.ne_of_gt (blk_lt (kN BK265)) : gb266 ≠ gb265)); clear BK265; clear HB; have BK265 := n0_; have HB := n1_; have BK266 := n2_; have GW266 := n3_; have GE266 := n4_; have NB265_266 := n5_; have NB266_265 := n6_; clear n0_ n1_ n2_ n3_ n4_ n5_ n6_; clear hb hbox hg))
  have n0_ := yD (yO BK265.out)
  have n1_ := yD (yO BK266.out)
  have n2_ := yD (yP HB.out)
  clear BK265 BK266 HB; have BK265 := n0_; have BK266 := n1_; have HB := n2_; clear n0_ n1_ n2_
  refine start_ (n := 20) (S := fun w' => w'.cell? ⟨gb265, 0, none⟩ = some (.int .i64 a0_0) ∧ w'.cell? ⟨gb265, 1, none⟩ = some (.slice A0_1 l0_1.length c0_1) ∧ w'.cell? ⟨gb265, 2, none⟩ = some (.slice A0_2 l0_2.length c0_2) ∧ w'.cell? ⟨gb265, 3, none⟩ = some (.slice A0_3 l0_3.length c0_3) ∧ w'.cell? ⟨gb265, 4, none⟩ = some (.slice A0_4 l0_4.length c0_4) ∧ w'.cell? ⟨gb265, 5, none⟩ = some (.slice A0_5 l0_5.length c0_5) ∧ w'.cell? ⟨gb266, 0, none⟩ = some (.int .i64 a1_0) ∧ w'.cell? ⟨gb266, 1, none⟩ = some (.slice A1_1 l1_1.length c1_1) ∧ w'.cell? ⟨gb266, 2, none⟩ = some (.slice A1_2 l1_2.length c1_2) ∧ w'.cell? ⟨gb266, 3, none⟩ = some (.slice A1_3 l1_3.length c1_3) ∧ w'.cell? ⟨gb266, 4, none⟩ = some (.slice A1_4 l1_4.length c1_4) ∧ w'.cell? ⟨gb266, 5, none⟩ = some (.slice A1_5 l1_5.length c1_5)) (ds := []) Q_0 (by kernel_rfl) rfl rfl ⟨(yG BK265.out 0).trans rfl, (yG BK265.out 1).trans rfl, (yG BK265.out 2).trans rfl, (yG BK265.out 3).trans rfl, (yG BK265.out 4).trans rfl, (yG BK265.out 5).trans rfl, (yG BK266.out 0).trans rfl, (yG BK266.out 1).trans rfl, (yG BK266.out 2).trans rfl, (yG BK266.out 3).trans rfl, (yG BK266.out 4).trans rfl, (yG BK266.out 5).trans rfl⟩ (fun hHeld => ?_); refine with_tabW impl_SameSelection.tab1 impl_SameSelection.bits1 (fun HT_ HW_ => ?_)
  generalize w27.drew = w28 at BK265 BK266 HB hHeld ⊢
  refine qA 0 5 Q_1 HT_ ?_
  refine qA 2 7 Q_2 HT_ ?_
  refine qC 1 6 Q_3 HT_ HW_ hHeld ?_ (hy := by rintro w' ⟨s0, s1, s2, s3, s4, s5, s6, s7, s8, s9, s10, s11⟩; go_simp; with_reducible rfl)
  refine qC 3 8 Q_4 HT_ HW_ hHeld ?_ (hy := by rintro w' ⟨s0, s1, s2, s3, s4, s5, s6, s7, s8, s9, s10, s11⟩; go_simp; with_reducible rfl)
  refine qA 4 9 Q_5 HT_ ?_
  refine qA 5 10 Q_6 HT_ ?_
  refine qB 6 11 Q_7 HT_ ?_
  refine qB 7 12 Q_22 HT_ ?_
  refine qB 8 13 Q_9 HT_ ?_
  refine qB 9 14 Q_10 HT_ ?_
  refine qB 10 15 Q_11 HT_ ?_
  refine qA 11 16 Q_12 HT_ ?_
  refine qA 12 17 Q_13 HT_ ?_
  refine qB 13 18 Q_14 HT_ ?_
  refine qB 14 19 Q_21 HT_ ?_
  refine qB 15 20 Q_16 HT_ ?_
  refine qB 16 21 Q_17 HT_ ?_
  refine qB 17 22 Q_18 HT_ ?_
  refine qA 18 23 Q_19 HT_ ?_
  refine qA 19 4 Q_20 HT_ ?_
  refine done_ (done_of HT_.out (by kernel_rfl)) ?_
  try go_wp2
  go_ret
  exact ⟨by first | rfl | (simp <;> rfl) | (simp [*] <;> rfl), kR0 HB⟩

/-! ### impl_Selection_end: function 140 -/
def impl_Selection_end.f (a0_0 : Int) (l0_1 : List Int) (l0_2 : List Int) (l0_3 : List Int) (l0_4 : List Int) (l0_5 : List (S110)) (a1 : Int) : Option (Int) := if 0 ≤ a1 then (if a1 < (l0_1.length : Int) then (if a1 < (l0_3.length : Int) then (if a1 < (l0_2.length : Int) then (if a1 < (l0_4.length : Int) then (some (wrap64 ((wrap64 ((rd l0_1 a1) + (wrap64 ((wrap64 ((rd l0_3 a1) - 1)) * (rd l0_2 a1))))) + (rd l0_4 a1)))) else (none)) else (none)) else (none)) else (none)) else (none)
set_option maxHeartbeats 8000000 in
set_option maxRecDepth 100000 in
theorem impl_Selection_end.calls (a0_0 : Int) (A0_1 : Option Addr) (c0_1 : Nat) (l0_1 : List Int) (A0_2 : Option Addr) (c0_2 : Nat) (l0_2 : List Int) (A0_3 : Option Addr) (c0_3 : Nat) (l0_3 : List Int) (A0_4 : Option Addr) (c0_4 : Nat) (l0_4 : List Int) (A0_5 : Option Addr) (c0_5 : Nat) (l0_5 : List (S110)) (a1 : Int) (r : Int) (w : World) (hr0_1 : Kd.C (Kd.int .i64) w A0_1 l0_1.length l0_1) (hc0_1 : l0_1.length ≤ c0_1) (hr0_2 : Kd.C (Kd.int .i64) w A0_2 l0_2.length l0_2) (hc0_2 : l0_2.length ≤ c0_2) (hr0_3 : Kd.C (Kd.int .i64) w A0_3 l0_3.length l0_3) (hc0_3 : l0_3.length ≤ c0_3) (hr0_4 : Kd.C (Kd.int .i64) w A0_4 l0_4.length l0_4) (hc0_4 : l0_4.length ≤ c0_4) (hr0_5 : Kd.C k110 w A0_5 l0_5.length l0_5) (hc0_5 : l0_5.length ≤ c0_5) (h : impl_Selection_end.f a0_0 l0_1 l0_2 l0_3 l0_4 l0_5 a1 = some r) :
 Calls Try.prog 140 #[.agg #[.int .i64 a0_0, .slice A0_1 l0_1.length c0_1, .slice A0_2 l0_2.length c0_2, .slice A0_3 l0_3.length c0_3, .slice A0_4 l0_4.length c0_4, .slice A0_5 l0_5.length c0_5], .int .i64 a1] w fun e w' => e = .returned (.int .i64 r) ∧ Below w.heap.size w w' := by
 have hu55 := Try.underlying55
 have HR0_1 := yD hr0_1
 have HC0_1 := yD hc0_1
 clear hr0_1 hc0_1
 have HR0_2 := yD hr0_2
 have HC0_2 := yD hc0_2
 clear hr0_2 hc0_2
 have HR0_3 := yD hr0_3
 have HC0_3 := yD hc0_3
 clear hr0_3 hc0_3
 have HR0_4 := yD hr0_4
 have HC0_4 := yD hc0_4
 clear hr0_4 hc0_4
 have HR0_5 := yD hr0_5
 have HC0_5 := yD hc0_5
 clear hr0_5 hc0_5
 have HB := yD (Below.refl w.heap.size w)
 have H : (if 0 ≤ a1 then (if a1 < (l0_1.length : Int) then (if a1 < (l0_3.length : Int) then (if a1 < (l0_2.length : Int) then (if a1 < (l0_4.length : Int) then (some (wrap64 ((wrap64 ((rd l0_1 a1) + (wrap64 ((wrap64 ((rd l0_3 a1) - 1)) * (rd l0_2 a1))))) + (rd l0_4 a1)))) else (none)) else (none)) else (none)) else (none)) else (none)) = some r := h
 clear h
 by_cases c3 : 0 ≤ a1
 ·
  rw [if_pos c3] at H; have c3b0 : decide (0 ≤ a1) = true := zR c3; clear c3
  by_cases c4 : a1 < (l0_1.length : Int)
  ·
   rw [if_pos c4] at H; have c4b0 : decide (a1 < (l0_1.length : Int)) = true := zR c4; clear c4
   by_cases c5 : a1 < (l0_3.length : Int)
   ·
    rw [if_pos c5] at H; have c5b0 : decide (a1 < (l0_3.length : Int)) = true := zR c5; clear c5
    by_cases c6 : a1 < (l0_2.length : Int)
    ·
     rw [if_pos c6] at H; have c6b0 : decide (a1 < (l0_2.length : Int)) = true := zR c6; clear c6
     by_cases c7 : a1 < (l0_4.length : Int)
     ·
      rw [if_pos c7] at H; have c7b0 : decide (a1 < (l0_4.length : Int)) = true := zR c7; clear c7; obtain rfl := Option.some.inj H; go_enter Try.func140, Try.ntmps140
      go_wp2_with (first | ((with_reducible refine gate_dst (N := 2) rfl ?_); refine box_event ?hg (N := 2) ?hd (cs := #[.int .i64 a0_0, .slice A0_1 l0_1.length c0_1, .slice A0_2 l0_2.length c0_2, .slice A0_3 l0_3.length c0_3, .slice A0_4 l0_4.length c0_4, .slice A0_5 l0_5.length c0_5]) (t := 55) ?hr ?_; (case hd => rfl); (case hg => rfl); (case hr => first | (go_simp; done) | (go_simp; rfl)); intro gb275 hg w8 hbox hb; have n0_ := yD (zC (kB HB) hb); have n1_ := yD (hbox); have n2_ := yD ((by rw [hg]; exact (below_size (kB HB)) : w.heap.size ≤ gb275)); have n3_ := yD ((by rw [hg]; exact (below_size (kB HB)) : w.heap.size ≤ gb275)); clear HB; have HB := n0_; have BK275 := n1_; have GW275 := n2_; have GE275 := n3_; clear n0_ n1_ n2_ n3_; clear hb hbox hg; obtain ⟨hcz9_0, hcz9_1, hcz9_2, hcz9_3, hcz9_4, hcz9_5⟩ := cz6 BK275.out; obtain ⟨hfz9_0, hfz9_1, hfz9_2, hfz9_3, hfz9_4, hfz9_5⟩ := fz6 BK275.out; have p276 : 0 ≤ (a1 : Int) := zP (by assumption); have q276 : a1 < (l0_1.length : Int) := zP (by assumption); obtain ⟨ad276, e276, hx276_0⟩ := Kd.at_int HR0_1.out a1 p276 q276; cases e276; replace hx276_0 := (HB.out.cell (zQ w _ hx276_0)).trans hx276_0; replace p276 := eq_true p276; replace q276 := eq_true q276; have p277 : 0 ≤ (a1 : Int) := zP (by assumption); have q277 : a1 < (l0_3.length : Int) := zP (by assumption); obtain ⟨ad277, e277, hx277_0⟩ := Kd.at_int HR0_3.out a1 p277 q277; cases e277; replace hx277_0 := (HB.out.cell (zQ w _ hx277_0)).trans hx277_0; replace p277 := eq_true p277; replace q277 := eq_true q277; have p278 : 0 ≤ (a1 : Int) := zP (by assumption); have q278 : a1 < (l0_2.length : Int) := zP (by assumption); obtain ⟨ad278, e278, hx278_0⟩ := Kd.at_int HR0_2.out a1 p278 q278; cases e278; replace hx278_0 := (HB.out.cell (zQ w _ hx278_0)).trans hx278_0; replace p278 := eq_true p278; replace q278 := eq_true q278; have p279 : 0 ≤ (a1 : Int) := zP (by assumption); have q279 : a1 < (l0_4.length : Int) := zP (by assumption); obtain ⟨ad279, e279, hx279_0⟩ := Kd.at_int HR0_4.out a1 p279 q279; cases e279; replace hx279_0 := (HB.out.cell (zQ w _ hx279_0)).trans hx279_0; replace p279 := eq_true p279; replace q279 := eq_true q279))
      repeat (go_quiet (first | ((with_reducible refine gate_dst (N := 2) rfl ?_); refine box_event ?hg (N := 2) ?hd (cs := #[.int .i64 a0_0, .slice A0_1 l0_1.length c0_1, .slice A0_2 l0_2.length c0_2, .slice A0_3 l0_3.length c0_3, .slice A0_4 l0_4.length c0_4, .slice A0_5 l0_5.length c0_5]) (t := 55) ?hr ?_; (case hd => rfl); (case hg => rfl); (case hr => first | (go_simp; done) | (go_simp; rfl)); intro gb275 hg w8 hbox hb; have n0_ := yD (zC (kB HB) hb); have n1_ := yD (hbox); have n2_ := yD ((by rw [hg]; exact (below_size (kB HB)) : w.heap.size ≤ gb275)); have n3_ := yD ((by rw [hg]; exact (below_size (kB HB)) : w.heap.size ≤ gb275)); clear HB; have HB := n0_; have BK275 := n1_; have GW275 := n2_; have GE275 := n3_; clear n0_ n1_ n2_ n3_; clear hb hbox hg; obtain ⟨hcz9_0, hcz9_1, hcz9_2, hcz9_3, hcz9_4, hcz9_5⟩ := cz6 BK275.out; obtain ⟨hfz9_0, hfz9_1, hfz9_2, hfz9_3, hfz9_4, hfz9_5⟩ := fz6 BK275.out; have p276 : 0 ≤ (a1 : Int) := zP (by assumption); have q276 : a1 < (l0_1.length : Int) := zP (by assumption); obtain ⟨ad276, e276, hx276_0⟩ := Kd.at_int HR0_1.out a1 p276 q276; cases e276; replace hx276_0 := (HB.out.cell (zQ w _ hx276_0)).trans hx276_0; replace p276 := eq_true p276; replace q276 := eq_true q276; have p277 : 0 ≤ (a1 : Int) := zP (by assumption); have q277 : a1 < (l0_3.length : Int) := zP (by assumption); obtain ⟨ad277, e277, hx277_0⟩ := Kd.at_int HR0_3.out a1 p277 q277; cases e277; replace hx277_0 := (HB.out.cell (zQ w _ hx277_0)).trans hx277_0; replace p277 := eq_true p277; replace q277 := eq_true q277; have p278 : 0 ≤ (a1 : Int) := zP (by assumption); have q278 : a1 < (l0_2.length : Int) := zP (by assumption); obtain ⟨ad278, e278, hx278_0⟩ := Kd.at_int HR0_2.out a1 p278 q278; cases e278; replace hx278_0 := (HB.out.cell (zQ w _ hx278_0)).trans hx278_0; replace p278 := eq_true p278; replace q278 := eq_true q278; have p279 : 0 ≤ (a1 : Int) := zP (by assumption); have q279 : a1 < (l0_4.length : Int) := zP (by assumption); obtain ⟨ad279, e279, hx279_0⟩ := Kd.at_int HR0_4.out a1 p279 q279; cases e279; replace hx279_0 := (HB.out.cell (zQ w _ hx279_0)).trans hx279_0; replace p279 := eq_true p279; replace q279 := eq_true q279)); try go_wp2_with (first | ((with_reducible refine gate_dst (N := 2) rfl ?_); refine box_event ?hg (N := 2) ?hd (cs := #[.int .i64 a0_0, .slice A0_1 l0_1.length c0_1, .slice A0_2 l0_2.length c0_2, .slice A0_3 l0_3.length c0_3, .slice A0_4 l0_4.length c0_4, .slice A0_5 l0_5.length c0_5]) (t := 55) ?hr ?_; (case hd => rfl); (case hg => rfl); (case hr => first | (go_simp; done) | (go_simp; rfl)); intro gb275 hg w8 hbox hb; have n0_ := yD (zC (kB HB) hb); have n1_ := yD (hbox); have n2_ := yD ((by rw [hg]; exact (below_size (kB HB)) : w.heap.size ≤ gb275)); have n3_ := yD ((by rw [hg]; exact (below_size (kB HB)) : w.heap.size ≤ gb275)); clear HB; have HB := n0_; have BK275 := n1_; have GW275 := n2_; have GE275 := n3_; clear n0_ n1_ n2_ n3_; clear hb hbox hg; obtain ⟨hcz9_0, hcz9_1, hcz9_2, hcz9_3, hcz9_4, hcz9_5⟩ := cz6 BK275.out; obtain ⟨hfz9_0, hfz9_1, hfz9_2, hfz9_3, hfz9_4, hfz9_5⟩ := fz6 BK275.out; have p276 : 0 ≤ (a1 : Int) := zP (by assumption); have q276 : a1 < (l0_1.length : Int) := zP (by assumption); obtain ⟨ad276, e276, hx276_0⟩ := Kd.at_int HR0_1.out a1 p276 q276; cases e276; replace hx276_0 := (HB.out.cell (zQ w _ hx276_0)).trans hx276_0; replace p276 := eq_true p276; replace q276 := eq_true q276; have p277 : 0 ≤ (a1 : Int) := zP (by assumption); have q277 : a1 < (l0_3.length : Int) := zP (by assumption); obtain ⟨ad277, e277, hx277_0⟩ := Kd.at_int HR0_3.out a1 p277 q277; cases e277; replace hx277_0 := (HB.out.cell (zQ w _ hx277_0)).trans hx277_0; replace p277 := eq_true p277; replace q277 := eq_true q277; have p278 : 0 ≤ (a1 : Int) := zP (by assumption); have q278 : a1 < (l0_2.length : Int) := zP (by assumption); obtain ⟨ad278, e278, hx278_0⟩ := Kd.at_int HR0_2.out a1 p278 q278; cases e278; replace hx278_0 := (HB.out.cell (zQ w _ hx278_0)).trans hx278_0; replace p278 := eq_true p278; replace q278 := eq_true q278; have p279 : 0 ≤ (a1 : Int) := zP (by assumption); have q279 : a1 < (l0_4.length : Int) := zP (by assumption); obtain ⟨ad279, e279, hx279_0⟩ := Kd.at_int HR0_4.out a1 p279 q279; cases e279; replace hx279_0 := (HB.out.cell (zQ w _ hx279_0)).trans hx279_0; replace p279 := eq_true p279; replace q279 := eq_true q279)))
      go_ret
      exact ⟨by first | rfl | (simp <;> rfl) | (simp [*] <;> rfl), kR0 HB⟩
     ·
      rw [if_neg c7] at H
      exact absurd H (by simp)
    ·
     rw [if_neg c6] at H
     exact absurd H (by simp)
   ·
    rw [if_neg c5] at H
    exact absurd H (by simp)
  ·
   rw [if_neg c4] at H
   exact absurd H (by simp)
 ·
  rw [if_neg c3] at H
  exact absurd H (by simp)

end Go.Proofs.Ytdiaebjbiddefaa.PFnExactSelectedIndices
