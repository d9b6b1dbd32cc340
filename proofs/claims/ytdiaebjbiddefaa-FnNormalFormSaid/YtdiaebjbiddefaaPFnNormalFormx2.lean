/- Each Go function here comes to what the plain function of its name says, where that says something. Made by a program of this session, over the print. -/
import Derived.Test.YtdiaebjbiddefaaPFnNormalFormx0
import Derived.Test.YtdiaebjbiddefaaPFnNormalFormx1
namespace Go.Proofs.Ytdiaebjbiddefaa.PFnNormalForm
open Go.RowKit Go.Proofs.YtdiaebjbiddefaaW.PrintWords Go.Proofs.YtdiaebjbiddefaaW.PrintLast Go.Proofs.YtdiaebjbiddefaaW.PrintMore
attribute [local go_sem] max2_int min2_int max_two min_two max_three min_three max_four min_four   -- for this text's walks alone
set_option linter.unusedVariables false
set_option linter.unusedSimpArgs false

/-! ### impl_boxesOk_1: function 103 -/
def impl_boxesOk_1.f (k : Nat) (l0_0 : List Int) (l0_1 : List Int) (l1_0 : List (S42)) : Option (Bool) := (impl_ValidBox.f k l0_0 l0_1).bind fun t172 => (if t172 = true then (if 0 < (l1_0.length : Int) then (some ((l0_0.length : Int) != (((rd_T42 l1_0 0).f0).length : Int))) else (none)) else (some true))
theorem impl_boxesOk_1.mono : ∀ a0 a1 a2 k, LeO (impl_boxesOk_1.f k a0 a1 a2) (impl_boxesOk_1.f (k + 1) a0 a1 a2) := by
 intro a0 a1 a2 k
 unfold impl_boxesOk_1.f
 repeat' first
  | (with_reducible exact impl_ValidBox.mono _ _ _)
  | (with_reducible exact LeO.refl _)
  | (with_reducible exact LeO.none _)
  | (with_reducible refine LeO.ite ?_ ?_)
  | (with_reducible refine LeO.bind ?_ (fun _ => ?_))
  | exact impl_ValidBox.mono _ _ _
  | exact LeO.none _
  | refine LeO.ite ?_ ?_
  | refine LeO.bind ?_ (fun _ => ?_)
def impl_boxesOk_1.T1 : Bool × List (List Nat × List Nat) := (true, [([], []), ([0], [0]), ([1], [1]), ([2, 1], [2]), ([3], [3]), ([4, 3], [3, 4]), ([5, 3], [3, 5]), ([3], [3]), ([7, 3], [3, 7]), ([8, 3], [3, 8]), ([9, 3], [3, 9]), ([10, 3], [3, 10]), ([6, 11, 3], [3, 6, 11]), ([3, 12], [3, 12]), ([13, 3, 0, 1, 2, 3, 4, 5, 6, 7, 8, 9, 10, 11, 12, 13], [13])])
def impl_boxesOk_1.B1 : List Nat := [0, 1, 3, 7, 15, 31, 63, 15, 143, 399, 911, 1935, 4095, 8191, 16383]
theorem impl_boxesOk_1.tab1 : rtab .any (opsOf Try.f103 1) = impl_boxesOk_1.T1 := by kernel_rfl
theorem impl_boxesOk_1.bits1 : waitsOk impl_boxesOk_1.T1.2 impl_boxesOk_1.B1 = true := by kernel_rfl
set_option maxHeartbeats 8000000 in
set_option maxRecDepth 100000 in
theorem impl_boxesOk_1.calls (k : Nat) (A0_0 : Option Addr) (c0_0 : Nat) (l0_0 : List Int) (A0_1 : Option Addr) (c0_1 : Nat) (l0_1 : List Int) (g1_0 : Nat) (A1_0 : Option Addr) (c1_0 : Nat) (l1_0 : List (S42)) (r : Bool) (w : World) (hr0_0 : Kd.C (Kd.int .i64) w A0_0 l0_0.length l0_0) (hc0_0 : l0_0.length ≤ c0_0) (hr0_1 : Kd.C (Kd.int .i64) w A0_1 l0_1.length l0_1) (hc0_1 : l0_1.length ≤ c0_1) (hr1_0 : Kd.C k42 w A1_0 l1_0.length l1_0) (hc1_0 : l1_0.length ≤ c1_0) (hb1_0 : w.heap[g1_0]? = some (.cells #[.slice A1_0 l1_0.length c1_0] 24 (0, 0))) (h : impl_boxesOk_1.f k l0_0 l0_1 l1_0 = some r) :
 Calls Try.prog 103 #[.agg #[.slice A0_0 l0_0.length c0_0, .slice A0_1 l0_1.length c0_1], .pointer (some ⟨g1_0, 0, none⟩)] w fun e w' => e = .returned (.bool r) ∧ Below w.heap.size w w' := by
 have hu42 := Try.underlying42
 have HR0_0 := yD hr0_0
 have HC0_0 := yD hc0_0
 clear hr0_0 hc0_0
 have HR0_1 := yD hr0_1
 have HC0_1 := yD hc0_1
 clear hr0_1 hc0_1
 have HR1_0 := yD hr1_0
 have HC1_0 := yD hc1_0
 clear hr1_0 hc1_0
 have BK48 := yD hb1_0
 clear hb1_0
 have HB := yD (Below.refl w.heap.size w)
 have H : ((impl_ValidBox.f k l0_0 l0_1).bind fun t172 => (if t172 = true then (if 0 < (l1_0.length : Int) then (some ((l0_0.length : Int) != (((rd_T42 l1_0 0).f0).length : Int))) else (none)) else (some true))) = some r := h
 clear h
 obtain ⟨t172, A30, H⟩ := zW_ H
 replace H : (if t172 = true then (if 0 < (l1_0.length : Int) then (some ((l0_0.length : Int) != (((rd_T42 l1_0 0).f0).length : Int))) else (none)) else (some true)) = some r := H
 have A3 := yD A30
 clear A30
 by_cases c4 : t172 = true
 ·
  subst c4
  have H1 : (if 0 < (l1_0.length : Int) then (some ((l0_0.length : Int) != (((rd_T42 l1_0 0).f0).length : Int))) else (none)) = some r := by rw [if_pos rfl] at H; exact H
  clear H; have H := H1; clear H1
  by_cases c5 : 0 < (l1_0.length : Int)
  ·
   rw [if_pos c5] at H
   have c5b0 : decide (0 < (l1_0.length : Int)) = true := zR c5
   have c5b1 : decide (0 < l1_0.length) = true := zR (by omega)
   clear c5; obtain rfl := Option.some.inj H; go_enter Try.func103, Try.ntmps103
   try go_wp2_with (first | ((with_reducible refine gate_dst (N := 2) rfl ?_); (try (refine gate_guard (by rfl) ?_; dsimp only)); refine box_event ?hg (N := 2) ?hd (cs := #[.slice A0_0 l0_0.length c0_0, .slice A0_1 l0_1.length c0_1]) (t := 42) ?hr ?_; (case hd => rfl); (case hg => rfl); (case hr => first | (go_simp; done) | (go_simp; rfl)); intro gb171 hg w6 hbox hb; have n0_ := yD (zB (g := g1_0) (o := .cells #[.slice A1_0 l1_0.length c1_0] 24 (0, 0)) (kM BK48) hb); have n1_ := yD (zC (kB HB) hb); have n2_ := yD (hbox); have n3_ := yD ((by rw [hg]; exact (below_size (kB HB)) : w.heap.size ≤ gb171)); have n4_ := yD ((by rw [hg]; exact (below_size (kB HB)) : w.heap.size ≤ gb171)); have n5_ := yD ((by rw [hg]; exact Nat.ne_of_lt (blk_lt (g := g1_0) (o := .cells #[.slice A1_0 l1_0.length c1_0] 24 (0, 0)) (kM BK48)) : g1_0 ≠ gb171)); have n6_ := yD ((by rw [hg]; exact Nat.ne_of_gt (blk_lt (g := g1_0) (o := .cells #[.slice A1_0 l1_0.length c1_0] 24 (0, 0)) (kM BK48)) : gb171 ≠ g1_0)); clear BK48; clear HB; have BK48 := n0_; have HB := n1_; have BK171 := n2_; have GW171 := n3_; have GE171 := n4_; have NB48_171 := n5_; have NB171_48 := n6_; clear n0_ n1_ n2_ n3_ n4_ n5_ n6_; clear hb hbox hg))
   have n0_ := yD (yO BK48.out)
   have n1_ := yD (yO BK171.out)
   have n2_ := yD (yP HB.out)
   clear BK48 BK171 HB; have BK48 := n0_; have BK171 := n1_; have HB := n2_; clear n0_ n1_ n2_
   have p173 : 0 ≤ (0 : Int) := (by omega)
   have q173 : 0 < (l1_0.length : Int) := zP (by assumption)
   obtain ⟨ad173, A173_0, c173_0, A173_1, c173_1, e173, hx173_0, hx173_1, hl173_0, hi173_0, hl173_1, hi173_1⟩ := at_T42 HR1_0.out 0 p173 q173
   have hw173_1 := hx173_1
   (try rw [show ((0 : Int)).toNat = 0 from rfl] at hw173_1)
   (try rw [show 0 * 2 = 0 from rfl] at hw173_1)
   (try rw [Addr.add_zero'] at hw173_1)
   have hw173_0 := hx173_0
   (try rw [show ((0 : Int)).toNat = 0 from rfl] at hw173_0)
   (try rw [show 0 * 2 = 0 from rfl] at hw173_0)
   (try rw [Addr.add_zero'] at hw173_0)
   cases e173
   have qi173 : (0 < l1_0.length) = True := eq_true (by omega)
   (try rw [show ((0 : Int)).toNat = 0 from rfl] at hx173_0)
   (try rw [show 0 * 2 = 0 from rfl] at hx173_0)
   (try rw [Addr.add_zero'] at hx173_0)
   (try rw [show ((0 : Int)).toNat = 0 from rfl] at hx173_1)
   (try rw [show 0 * 2 = 0 from rfl] at hx173_1)
   (try rw [Addr.add_zero'] at hx173_1)
   replace hx173_0 := (HB.out.cell (zQ w _ hx173_0)).trans hx173_0
   replace hx173_1 := (HB.out.cell (zQ w _ hx173_1)).trans hx173_1
   have HR173_0 := yD hi173_0
   have HC173_0 := yD hl173_0
   clear hi173_0 hl173_0
   have HR173_1 := yD hi173_1
   have HC173_1 := yD hl173_1
   clear hi173_1 hl173_1; replace p173 := eq_true p173; replace q173 := eq_true q173
   refine start_ (n := 15) (S := fun w' => w'.cell? ⟨gb171, 0, none⟩ = some (.slice A0_0 l0_0.length c0_0) ∧ w'.cell? ⟨gb171, 1, none⟩ = some (.slice A0_1 l0_1.length c0_1) ∧ w'.cell? ⟨g1_0, 0, none⟩ = some (.slice (some ad173) l1_0.length c1_0) ∧ w'.cell? ad173 = some (.slice A173_0 ((rd_T42 l1_0 0).f0).length c173_0) ∧ w'.cell? ⟨ad173.block, ad173.off + 1, none⟩ = some (.slice A173_1 ((rd_T42 l1_0 0).f1).length c173_1)) (ds := []) (bz 15 0) (by kernel_rfl) rfl rfl ⟨(yG BK171.out 0).trans rfl, (yG BK171.out 1).trans rfl, (yG BK48.out 0).trans rfl, ((HB.out.cell (zQ w _ hw173_0)).trans hw173_0), ((HB.out.cell (zQ w _ hw173_1)).trans hw173_1)⟩ (fun hHeld => ?_); refine with_tabW impl_boxesOk_1.tab1 impl_boxesOk_1.bits1 (fun HT_ HW_ => ?_)
   generalize w6.drew = w7 at BK48 BK171 HB HR173_0 HR173_1 hx173_0 hx173_1 hHeld ⊢
   refine qC 0 4 (bz 15 1) HT_ HW_ hHeld ?_ (hy := by rintro w' ⟨s0, s1, s2, s3, s4⟩; go_simp; with_reducible rfl)
   refine one_ (i := 1) (N := some 5) (bz 15 3) rfl rfl (one_of HT_.out (by kernel_rfl)) (by decide) (fun K hK => ?_)
   refine goes_ Try.func104 (by kernel_rfl) rfl #[.agg #[.slice A0_0 l0_0.length c0_0, .slice A0_1 l0_1.length c0_1]] (by rfl) rfl rfl (by (try simp only [zK, zL, zM]); first | done | rfl | (simp only [zN, zO]; rfl)) ?_
   with_reducible refine (impl_ValidBox.calls k _ _ l0_0 _ _ l0_1 true _ ?side1 ?side2 ?side3 ?side4 A3.out).mono ?_
   (case side1 => exact kV (yY HR0_0.out HB.out))
   (case side2 => exact HC0_0.out)
   (case side3 => exact kV (yY HR0_1.out HB.out))
   (case side4 => exact HC0_1.out)
   rintro e w8 ⟨rfl, hb⟩
   refine ⟨_, rfl, ?_⟩
   have n0_ := yD (zB (g := g1_0) (o := .cells #[.slice (some ad173) l1_0.length c1_0] 24 (0, 0)) (kM BK48) hb)
   have n1_ := yD (zB (g := gb171) (o := .cells #[.slice A0_0 l0_0.length c0_0, .slice A0_1 l0_1.length c0_1] 42 (0, 0)) (kM BK171) hb)
   have n2_ := yD (zC (kB HB) hb)
   clear BK48 BK171 HB; have BK48 := n0_; have BK171 := n1_; have HB := n2_; clear n0_ n1_ n2_; (try clear hb); (try clear hb2); (try clear hk); (try clear hi)
   refine hK.out _ _ ⟨(yG BK171.out 0).trans rfl, (yG BK171.out 1).trans rfl, (yG BK48.out 0).trans rfl, ((HB.out.cell (zQ w _ hw173_0)).trans hw173_0), ((HB.out.cell (zQ w _ hw173_1)).trans hw173_1)⟩ (fun hHeld => ?_)
   clear hK K
   refine norm_ (a' := ?_) ?_ ?_
   rotate_left
   · show Act.put _ (some 5) _ = _
     simp only [Act.put, zH, zI, zJ, i64_w, i32_w]
     rfl
   refine qA 2 6 (bz 15 7) HT_ ?_
   refine qA 3 7 (bz 15 15) HT_ ?_
   refine qA 4 8 (bz 15 31) HT_ ?_
   refine qC 5 9 (bz 15 63) HT_ HW_ hHeld ?_ (hy := by rintro w' ⟨s0, s1, s2, s3, s4⟩; go_simp; with_reducible rfl)
   refine qA 6 10 (bz 15 127) HT_ ?_
   refine qC 7 11 (bz 15 255) HT_ HW_ hHeld ?_ (hy := by rintro w' ⟨s0, s1, s2, s3, s4⟩; go_simp; with_reducible rfl)
   refine qA 8 12 (bz 15 511) HT_ ?_
   refine qA 9 13 (bz 15 1023) HT_ ?_
   refine qC 10 14 (bz 15 2047) HT_ HW_ hHeld ?_ (hy := by rintro w' ⟨s0, s1, s2, s3, s4⟩; go_simp; with_reducible rfl)
   refine qA 11 15 (bz 15 4095) HT_ ?_
   refine qA 12 16 (bz 15 8191) HT_ ?_
   refine qA 13 17 (bz 15 16383) HT_ ?_
   refine qA 14 3 (bz 15 32767) HT_ ?_
   refine done_ (done_of HT_.out (by kernel_rfl)) ?_
   try go_wp2
   go_ret
   exact ⟨by first | rfl | (simp <;> rfl) | (simp [*] <;> rfl), kR1 HB⟩
  · rw [if_neg c5] at H
    exact absurd H (by simp)
 ·
  replace c4 := Bool.eq_false_iff.mpr c4
  subst c4
  have H1 : (some true) = some r := by rw [if_neg (show ¬ (false = true) by decide)] at H; exact H
  clear H; have H := H1; clear H1; obtain rfl := Option.some.inj H; go_enter Try.func103, Try.ntmps103
  try go_wp2_with (first | ((with_reducible refine gate_dst (N := 2) rfl ?_); (try (refine gate_guard (by rfl) ?_; dsimp only)); refine box_event ?hg (N := 2) ?hd (cs := #[.slice A0_0 l0_0.length c0_0, .slice A0_1 l0_1.length c0_1]) (t := 42) ?hr ?_; (case hd => rfl); (case hg => rfl); (case hr => first | (go_simp; done) | (go_simp; rfl)); intro gb171 hg w9 hbox hb; have n0_ := yD (zB (g := g1_0) (o := .cells #[.slice A1_0 l1_0.length c1_0] 24 (0, 0)) (kM BK48) hb); have n1_ := yD (zC (kB HB) hb); have n2_ := yD (hbox); have n3_ := yD ((by rw [hg]; exact (below_size (kB HB)) : w.heap.size ≤ gb171)); have n4_ := yD ((by rw [hg]; exact (below_size (kB HB)) : w.heap.size ≤ gb171)); have n5_ := yD ((by rw [hg]; exact Nat.ne_of_lt (blk_lt (g := g1_0) (o := .cells #[.slice A1_0 l1_0.length c1_0] 24 (0, 0)) (kM BK48)) : g1_0 ≠ gb171)); have n6_ := yD ((by rw [hg]; exact Nat.ne_of_gt (blk_lt (g := g1_0) (o := .cells #[.slice A1_0 l1_0.length c1_0] 24 (0, 0)) (kM BK48)) : gb171 ≠ g1_0)); clear BK48; clear HB; have BK48 := n0_; have HB := n1_; have BK171 := n2_; have GW171 := n3_; have GE171 := n4_; have NB48_171 := n5_; have NB171_48 := n6_; clear n0_ n1_ n2_ n3_ n4_ n5_ n6_; clear hb hbox hg))
  have n0_ := yD (yO BK48.out)
  have n1_ := yD (yO BK171.out)
  have n2_ := yD (yP HB.out)
  clear BK48 BK171 HB; have BK48 := n0_; have BK171 := n1_; have HB := n2_; clear n0_ n1_ n2_
  refine start_ (n := 15) (S := fun w' => w'.cell? ⟨gb171, 0, none⟩ = some (.slice A0_0 l0_0.length c0_0) ∧ w'.cell? ⟨gb171, 1, none⟩ = some (.slice A0_1 l0_1.length c0_1)) (ds := []) (bz 15 0) (by kernel_rfl) rfl rfl ⟨(yG BK171.out 0).trans rfl, (yG BK171.out 1).trans rfl⟩ (fun hHeld => ?_); refine with_tabW impl_boxesOk_1.tab1 impl_boxesOk_1.bits1 (fun HT_ HW_ => ?_)
  generalize w9.drew = w10 at BK48 BK171 HB hHeld ⊢
  refine qC 0 4 (bz 15 1) HT_ HW_ hHeld ?_ (hy := by rintro w' ⟨s0, s1⟩; go_simp; with_reducible rfl)
  refine one_ (i := 1) (N := some 5) (bz 15 3) rfl rfl (one_of HT_.out (by kernel_rfl)) (by decide) (fun K hK => ?_)
  refine goes_ Try.func104 (by kernel_rfl) rfl #[.agg #[.slice A0_0 l0_0.length c0_0, .slice A0_1 l0_1.length c0_1]] (by rfl) rfl rfl (by (try simp only [zK, zL, zM]); first | done | rfl | (simp only [zN, zO]; rfl)) ?_
  with_reducible refine (impl_ValidBox.calls k _ _ l0_0 _ _ l0_1 false _ ?side1 ?side2 ?side3 ?side4 A3.out).mono ?_
  (case side1 => exact kV (yY HR0_0.out HB.out))
  (case side2 => exact HC0_0.out)
  (case side3 => exact kV (yY HR0_1.out HB.out))
  (case side4 => exact HC0_1.out)
  rintro e w11 ⟨rfl, hb⟩
  refine ⟨_, rfl, ?_⟩
  have n0_ := yD (zB (g := g1_0) (o := .cells #[.slice A1_0 l1_0.length c1_0] 24 (0, 0)) (kM BK48) hb)
  have n1_ := yD (zB (g := gb171) (o := .cells #[.slice A0_0 l0_0.length c0_0, .slice A0_1 l0_1.length c0_1] 42 (0, 0)) (kM BK171) hb)
  have n2_ := yD (zC (kB HB) hb)
  clear BK48 BK171 HB; have BK48 := n0_; have BK171 := n1_; have HB := n2_; clear n0_ n1_ n2_; (try clear hb); (try clear hb2); (try clear hk); (try clear hi)
  refine hK.out _ _ ⟨(yG BK171.out 0).trans rfl, (yG BK171.out 1).trans rfl⟩ (fun hHeld => ?_)
  clear hK K
  refine norm_ (a' := ?_) ?_ ?_
  rotate_left
  · show Act.put _ (some 5) _ = _
    simp only [Act.put, zH, zI, zJ, i64_w, i32_w]
    rfl
  refine qA 2 6 (bz 15 7) HT_ ?_
  refine qA 3 7 (bz 15 15) HT_ ?_
  refine qB 4 8 (bz 15 31) HT_ ?_
  refine qB 5 9 (bz 15 63) HT_ ?_
  refine qB 6 10 (bz 15 127) HT_ ?_
  refine qB 7 11 (bz 15 255) HT_ ?_
  refine qB 8 12 (bz 15 511) HT_ ?_
  refine qB 9 13 (bz 15 1023) HT_ ?_
  refine qB 10 14 (bz 15 2047) HT_ ?_
  refine qB 11 15 (bz 15 4095) HT_ ?_
  refine qB 12 16 (bz 15 8191) HT_ ?_
  refine qA 13 17 (bz 15 16383) HT_ ?_
  refine qA 14 3 (bz 15 32767) HT_ ?_
  refine done_ (done_of HT_.out (by kernel_rfl)) ?_
  try go_wp2
  go_ret
  exact ⟨by first | rfl | (simp <;> rfl) | (simp [*] <;> rfl), kR1 HB⟩

/-! ### slices_IndexFunc_impl_boxesOk_1: function 105 -/
def slices_IndexFunc_impl_boxesOk_1.l0 : Nat → List (S42) → Int → Int → List (S42) → Option (Int)
 | 0, _, _, _, _ => none
 | k + 1, x0, x7, x8, x49000 => if x8 < x7 then (if 0 ≤ x8 then (if x8 < (x0.length : Int) then ((impl_boxesOk_1.f k ((rd_T42 x0 x8).f0) ((rd_T42 x0 x8).f1) x49000).bind fun t175 => (if t175 = true then (some x8) else (slices_IndexFunc_impl_boxesOk_1.l0 k x0 x7 (wrap64 (x8 + 1)) x49000))) else (none)) else (none)) else (some (-1))
def slices_IndexFunc_impl_boxesOk_1.f (k : Nat) (l0 : List (S42)) (l1_0 : List (S42)) : Option (Int) := slices_IndexFunc_impl_boxesOk_1.l0 k l0 (l0.length : Int) 0 l1_0
theorem slices_IndexFunc_impl_boxesOk_1.mono_l : ∀ k, (∀ y0 y1 y2 y3, LeO (slices_IndexFunc_impl_boxesOk_1.l0 k y0 y1 y2 y3) (slices_IndexFunc_impl_boxesOk_1.l0 (k + 1) y0 y1 y2 y3))
 | 0 => fun _ _ _ _ r h => by simp [slices_IndexFunc_impl_boxesOk_1.l0] at h
 | k + 1 => by
  have ih0 := slices_IndexFunc_impl_boxesOk_1.mono_l k
  ·
   intro y0 y1 y2 y3
   unfold slices_IndexFunc_impl_boxesOk_1.l0
   repeat' first
   | (with_reducible exact ih0 _ _ _ _)
   | (with_reducible exact impl_boxesOk_1.mono _ _ _ _)
   | (with_reducible exact LeO.refl _)
   | (with_reducible exact LeO.none _)
   | (with_reducible refine LeO.ite ?_ ?_)
   | (with_reducible refine LeO.bind ?_ (fun _ => ?_))
   | exact ih0 _ _ _ _
   | exact impl_boxesOk_1.mono _ _ _ _
   | exact LeO.none _
   | refine LeO.ite ?_ ?_
   | refine LeO.bind ?_ (fun _ => ?_)
theorem slices_IndexFunc_impl_boxesOk_1.mono : ∀ a0 a1 k, LeO (slices_IndexFunc_impl_boxesOk_1.f k a0 a1) (slices_IndexFunc_impl_boxesOk_1.f (k + 1) a0 a1) := by
 intro a0 a1 k
 have ih0 := slices_IndexFunc_impl_boxesOk_1.mono_l k
 unfold slices_IndexFunc_impl_boxesOk_1.f
 repeat' first
  | (with_reducible exact ih0 _ _ _ _)
  | (with_reducible exact impl_boxesOk_1.mono _ _ _ _)
  | (with_reducible exact LeO.refl _)
  | (with_reducible exact LeO.none _)
  | (with_reducible refine LeO.ite ?_ ?_)
  | (with_reducible refine LeO.bind ?_ (fun _ => ?_))
  | exact ih0 _ _ _ _
  | exact impl_boxesOk_1.mono _ _ _ _
  | exact LeO.none _
  | refine LeO.ite ?_ ?_
  | refine LeO.bind ?_ (fun _ => ?_)
set_option maxHeartbeats 8000000 in
set_option maxRecDepth 100000 in
theorem slices_IndexFunc_impl_boxesOk_1.calls (k : Nat) (A0 : Option Addr) (c0 : Nat) (l0 : List (S42)) (g1_0 : Nat) (A1_0 : Option Addr) (c1_0 : Nat) (l1_0 : List (S42)) (r : Int) (w : World) (hr0 : Kd.C k42 w A0 l0.length l0) (hc0 : l0.length ≤ c0) (hr1_0 : Kd.C k42 w A1_0 l1_0.length l1_0) (hc1_0 : l1_0.length ≤ c1_0) (hb1_0 : w.heap[g1_0]? = some (.cells #[.slice A1_0 l1_0.length c1_0] 24 (0, 0))) (h : slices_IndexFunc_impl_boxesOk_1.f k l0 l1_0 = some r) :
 Calls Try.prog 105 #[.slice A0 l0.length c0, .func (.func 103) #[] #[.pointer (some ⟨g1_0, 0, none⟩)]] w fun e w' => e = .returned (.int .i64 r) ∧ Below w.heap.size w w' := by
 have hu42 := Try.underlying42
 have HR0 := yD hr0
 have HC0 := yD hc0
 clear hr0 hc0
 have HR1_0 := yD hr1_0
 have HC1_0 := yD hc1_0
 clear hr1_0 hc1_0
 have BK48 := yD hb1_0
 clear hb1_0
 have HB := yD (Below.refl w.heap.size w)
 have H : (slices_IndexFunc_impl_boxesOk_1.l0 k l0 (l0.length : Int) 0 l1_0) = some r := h
 clear h
 have H' := yD H
 clear H; go_enter Try.func105, Try.ntmps105
 go_wp2
 go_loopg [8] k (fun kq v8 w' => ∃ (x8_1 : Int), v8 = .int .i64 x8_1 ∧ Aside0 (slices_IndexFunc_impl_boxesOk_1.l0 kq l0 (l0.length : Int) x8_1 l1_0 = some r) ∧ Aside0 (kq ≤ k) ∧ Aside0 (w'.heap[g1_0]? = some (.cells #[(.slice A1_0 l1_0.length c1_0)] 24 (0, 0))) ∧ Aside0 (Below w.heap.size w w'))
 case atStart => exact ⟨(0), (by first | rfl | (simp; done) | (simp [*]; done)), H', ⟨Nat.le_refl _⟩, ⟨by (with_reducible repeat (first | refine yM ?_ _ | refine yO ?_ | refine yN ?_ _)); exact BK48.out⟩, ⟨kR1 HB⟩⟩
 case round =>
  clear H'
  try clear c1; try clear p2
  obtain ⟨x8_1, rfl, HA, HK1, BK48, HB⟩ := hrel
  cases gk with
  | zero => exact absurd HA.out (by simp [slices_IndexFunc_impl_boxesOk_1.l0])
  | succ k1 =>
   have H := HA.out; clear HA
   simp only [slices_IndexFunc_impl_boxesOk_1.l0] at H
   by_cases c3 : x8_1 < (l0.length : Int)
   ·
    rw [if_pos c3] at H
    have c3b0 : decide (x8_1 < (l0.length : Int)) = true := zR c3; clear c3
    by_cases c4 : 0 ≤ x8_1
    ·
     rw [if_pos c4] at H
     have c4b0 : decide (0 ≤ x8_1) = true := zR c4; clear c4
     by_cases c5 : x8_1 < (l0.length : Int)
     ·
      rw [if_pos c5] at H
      have c5b0 : decide (x8_1 < (l0.length : Int)) = true := zR c5; clear c5
      obtain ⟨t175, A60, H⟩ := zW_ H
      replace H : (if t175 = true then (some x8_1) else (slices_IndexFunc_impl_boxesOk_1.l0 k1 l0 (l0.length : Int) (wrap64 (x8_1 + 1)) l1_0)) = some r := H
      have A6 := yD A60
      clear A60
      by_cases c7 : t175 = true
      ·
       subst c7
       have H1 : (some x8_1) = some r := by rw [if_pos rfl] at H; exact H
       clear H; have H := H1; clear H1; obtain rfl := Option.some.inj H
       have p174 : 0 ≤ (x8_1 : Int) := zP (by assumption)
       have q174 : x8_1 < (l0.length : Int) := zP (by assumption)
       obtain ⟨ad174, A174_0, c174_0, A174_1, c174_1, e174, hx174_0, hx174_1, hl174_0, hi174_0, hl174_1, hi174_1⟩ := at_T42 HR0.out x8_1 p174 q174
       cases e174
       replace hx174_0 := (HB.out.cell (zQ w _ hx174_0)).trans hx174_0
       replace hx174_1 := (HB.out.cell (zQ w _ hx174_1)).trans hx174_1
       have HR174_0 := yD hi174_0
       have HC174_0 := yD hl174_0
       clear hi174_0 hl174_0
       have HR174_1 := yD hi174_1
       have HC174_1 := yD hl174_1
       clear hi174_1 hl174_1; replace p174 := eq_true p174; replace q174 := eq_true q174
       go_wp2_with (first | (go_at_call 103; (with_reducible refine (impl_boxesOk_1.calls k1 _ _ ((rd_T42 l0 x8_1).f0) _ _ ((rd_T42 l0 x8_1).f1) g1_0 A1_0 c1_0 l1_0 true _ ?side1 ?side2 ?side3 ?side4 ?side5 ?side6 ?side7 A6.out).mono ?_); (case side1 => exact kV (yY HR174_0.out HB.out)); (case side2 => exact HC174_0.out); (case side3 => exact kV (yY HR174_1.out HB.out)); (case side4 => exact HC174_1.out); (case side5 => exact kV (yY HR1_0.out HB.out)); (case side6 => exact HC1_0.out); (case side7 => (with_reducible repeat (first | refine yM ?_ _ | refine yO ?_ | refine yN ?_ _)); exact BK48.out); rintro e w8 ⟨rfl, hb⟩; have n0_ := yD (zB (g := g1_0) (o := .cells #[.slice A1_0 l1_0.length c1_0] 24 (0, 0)) (kM BK48) hb); have n1_ := yD (zC (kB HB) hb); clear BK48; clear HB; have BK48 := n0_; have HB := n1_; clear n0_ n1_; (try clear hb); (try clear hb2); (try clear hk); (try clear hi)))
       go_ret
       exact ⟨by first | rfl | (simp <;> rfl) | (simp [*] <;> rfl), kR1 HB⟩
      ·
       replace c7 := Bool.eq_false_iff.mpr c7
       subst c7
       have H1 : (slices_IndexFunc_impl_boxesOk_1.l0 k1 l0 (l0.length : Int) (wrap64 (x8_1 + 1)) l1_0) = some r := by rw [if_neg (show ¬ (false = true) by decide)] at H; exact H
       clear H; have H := H1; clear H1
       have H' := yD H
       clear H
       have p174 : 0 ≤ (x8_1 : Int) := zP (by assumption)
       have q174 : x8_1 < (l0.length : Int) := zP (by assumption)
       obtain ⟨ad174, A174_0, c174_0, A174_1, c174_1, e174, hx174_0, hx174_1, hl174_0, hi174_0, hl174_1, hi174_1⟩ := at_T42 HR0.out x8_1 p174 q174
       cases e174
       replace hx174_0 := (HB.out.cell (zQ w _ hx174_0)).trans hx174_0
       replace hx174_1 := (HB.out.cell (zQ w _ hx174_1)).trans hx174_1
       have HR174_0 := yD hi174_0
       have HC174_0 := yD hl174_0
       clear hi174_0 hl174_0
       have HR174_1 := yD hi174_1
       have HC174_1 := yD hl174_1
       clear hi174_1 hl174_1; replace p174 := eq_true p174; replace q174 := eq_true q174
       go_wp2_with (first | (go_at_call 103; (with_reducible refine (impl_boxesOk_1.calls k1 _ _ ((rd_T42 l0 x8_1).f0) _ _ ((rd_T42 l0 x8_1).f1) g1_0 A1_0 c1_0 l1_0 false _ ?side1 ?side2 ?side3 ?side4 ?side5 ?side6 ?side7 A6.out).mono ?_); (case side1 => exact kV (yY HR174_0.out HB.out)); (case side2 => exact HC174_0.out); (case side3 => exact kV (yY HR174_1.out HB.out)); (case side4 => exact HC174_1.out); (case side5 => exact kV (yY HR1_0.out HB.out)); (case side6 => exact HC1_0.out); (case side7 => (with_reducible repeat (first | refine yM ?_ _ | refine yO ?_ | refine yN ?_ _)); exact BK48.out); rintro e w9 ⟨rfl, hb⟩; have n0_ := yD (zB (g := g1_0) (o := .cells #[.slice A1_0 l1_0.length c1_0] 24 (0, 0)) (kM BK48) hb); have n1_ := yD (zC (kB HB) hb); clear BK48; clear HB; have BK48 := n0_; have HB := n1_; clear n0_ n1_; (try clear hb); (try clear hb2); (try clear hk); (try clear hi)))
       go_roundg k1
       case measure => have := HK1.out; omega
       case rel => exact ⟨(wrap64 (x8_1 + 1)), (by first | rfl | (simp; done) | (simp [*]; done)), H', ⟨by have := HK1.out; omega⟩, ⟨by (with_reducible repeat (first | refine yM ?_ _ | refine yO ?_ | refine yN ?_ _)); exact BK48.out⟩, ⟨kR1 HB⟩⟩
     · rw [if_neg c5] at H
       exact absurd H (by simp)
    · rw [if_neg c4] at H
      exact absurd H (by simp)
   · rw [if_neg c3] at H
     have c3b0 : decide (x8_1 < (l0.length : Int)) = false := zS c3; clear c3; obtain rfl := Option.some.inj H
     go_wp2
     go_ret
     exact ⟨by first | rfl | (simp <;> rfl) | (simp [*] <;> rfl), kR1 HB⟩

/-! ### slices_ContainsFunc_impl_boxesOk_1: function 64 -/
def slices_ContainsFunc_impl_boxesOk_1.f (k : Nat) (l0 : List (S42)) (l1_0 : List (S42)) : Option (Bool) := (slices_IndexFunc_impl_boxesOk_1.f k l0 l1_0).bind fun t176 => (some (decide (t176 ≥ 0)))
theorem slices_ContainsFunc_impl_boxesOk_1.mono : ∀ a0 a1 k, LeO (slices_ContainsFunc_impl_boxesOk_1.f k a0 a1) (slices_ContainsFunc_impl_boxesOk_1.f (k + 1) a0 a1) := by
 intro a0 a1 k
 unfold slices_ContainsFunc_impl_boxesOk_1.f
 repeat' first
  | (with_reducible exact slices_IndexFunc_impl_boxesOk_1.mono _ _ _)
  | (with_reducible exact LeO.refl _)
  | (with_reducible exact LeO.none _)
  | (with_reducible refine LeO.ite ?_ ?_)
  | (with_reducible refine LeO.bind ?_ (fun _ => ?_))
  | exact slices_IndexFunc_impl_boxesOk_1.mono _ _ _
  | exact LeO.none _
  | refine LeO.ite ?_ ?_
  | refine LeO.bind ?_ (fun _ => ?_)
set_option maxHeartbeats 8000000 in
set_option maxRecDepth 100000 in
theorem slices_ContainsFunc_impl_boxesOk_1.calls (k : Nat) (A0 : Option Addr) (c0 : Nat) (l0 : List (S42)) (g1_0 : Nat) (A1_0 : Option Addr) (c1_0 : Nat) (l1_0 : List (S42)) (r : Bool) (w : World) (hr0 : Kd.C k42 w A0 l0.length l0) (hc0 : l0.length ≤ c0) (hr1_0 : Kd.C k42 w A1_0 l1_0.length l1_0) (hc1_0 : l1_0.length ≤ c1_0) (hb1_0 : w.heap[g1_0]? = some (.cells #[.slice A1_0 l1_0.length c1_0] 24 (0, 0))) (h : slices_ContainsFunc_impl_boxesOk_1.f k l0 l1_0 = some r) :
 Calls Try.prog 64 #[.slice A0 l0.length c0, .func (.func 103) #[] #[.pointer (some ⟨g1_0, 0, none⟩)]] w fun e w' => e = .returned (.bool r) ∧ Below w.heap.size w w' := by
 have HR0 := yD hr0
 have HC0 := yD hc0
 clear hr0 hc0
 have HR1_0 := yD hr1_0
 have HC1_0 := yD hc1_0
 clear hr1_0 hc1_0
 have BK48 := yD hb1_0
 clear hb1_0
 have HB := yD (Below.refl w.heap.size w)
 have H : ((slices_IndexFunc_impl_boxesOk_1.f k l0 l1_0).bind fun t176 => (some (decide (t176 ≥ 0)))) = some r := h
 clear h
 obtain ⟨t176, A30, H⟩ := zW_ H
 replace H : (some (decide (t176 ≥ 0))) = some r := H
 have A3 := yD A30
 clear A30; obtain rfl := Option.some.inj H; go_enter Try.func64, Try.ntmps64
 go_wp2_with (first | ((with_reducible refine gate_callee (f := 105) rfl ?_); refine goesL_ (some 7) rfl rfl Try.func105 (by kernel_rfl) rfl #[.slice A0 l0.length c0, .func (.func 103) #[] #[.pointer (some ⟨g1_0, 0, none⟩)]] rfl (by (try simp only [zK, zL, zM]); first | done | rfl | (simp only [zN, zO]; rfl)) ?_; (with_reducible refine (slices_IndexFunc_impl_boxesOk_1.calls k _ _ l0 g1_0 A1_0 c1_0 l1_0 t176 _ ?side1 ?side2 ?side3 ?side4 ?side5 A3.out).mono ?_); (case side1 => repeat (first | exact HR0.out | (with_reducible first | refine yV ?_ _ | refine yW ?_ _ | refine yX ?_))); (case side2 => exact HC0.out); (case side3 => repeat (first | exact HR1_0.out | (with_reducible first | refine yV ?_ _ | refine yW ?_ _ | refine yX ?_))); (case side4 => exact HC1_0.out); (case side5 => (with_reducible repeat (first | refine yM ?_ _ | refine yO ?_ | refine yN ?_ _)); exact BK48.out); rintro e w4 ⟨rfl, hb⟩; refine ⟨_, rfl, ?_⟩; have n0_ := yD (zB (g := g1_0) (o := .cells #[.slice A1_0 l1_0.length c1_0] 24 (0, 0)) (kM BK48) hb); have n1_ := yD (zC (kB HB) hb); clear BK48; clear HB; have BK48 := n0_; have HB := n1_; clear n0_ n1_; (try clear hb); (try clear hb2); (try clear hk); (try clear hi)))
 go_ret
 exact ⟨by first | rfl | (simp <;> rfl) | (simp [*] <;> rfl), kR1 HB⟩

/-! ### impl_boxesOk: function 63 -/
def impl_boxesOk.f (k : Nat) (l0 : List (S42)) : Option (Bool) := if (l0.length : Int) ≤ 32 then ((slices_ContainsFunc_impl_boxesOk_1.f k l0 l0).bind fun t178 => (some (!t178))) else (some false)
theorem impl_boxesOk.mono : ∀ a0 k, LeO (impl_boxesOk.f k a0) (impl_boxesOk.f (k + 1) a0) := by
 intro a0 k
 unfold impl_boxesOk.f
 repeat' first
  | (with_reducible exact slices_ContainsFunc_impl_boxesOk_1.mono _ _ _)
  | (with_reducible exact LeO.refl _)
  | (with_reducible exact LeO.none _)
  | (with_reducible refine LeO.ite ?_ ?_)
  | (with_reducible refine LeO.bind ?_ (fun _ => ?_))
  | exact slices_ContainsFunc_impl_boxesOk_1.mono _ _ _
  | exact LeO.none _
  | refine LeO.ite ?_ ?_
  | refine LeO.bind ?_ (fun _ => ?_)
set_option maxHeartbeats 8000000 in
set_option maxRecDepth 100000 in
theorem impl_boxesOk.calls (k : Nat) (A0 : Option Addr) (c0 : Nat) (l0 : List (S42)) (r : Bool) (w : World) (hr0 : Kd.C k42 w A0 l0.length l0) (hc0 : l0.length ≤ c0) (h : impl_boxesOk.f k l0 = some r) :
 Calls Try.prog 63 #[.slice A0 l0.length c0] w fun e w' => e = .returned (.bool r) ∧ Below w.heap.size w w' := by
 have HR0 := yD hr0
 have HC0 := yD hc0
 clear hr0 hc0
 have HB := yD (Below.refl w.heap.size w)
 have H : (if (l0.length : Int) ≤ 32 then ((slices_ContainsFunc_impl_boxesOk_1.f k l0 l0).bind fun t178 => (some (!t178))) else (some false)) = some r := h
 clear h
 by_cases c2 : (l0.length : Int) ≤ 32
 ·
  rw [if_pos c2] at H
  have c2b0 : decide ((l0.length : Int) ≤ 32) = true := zR c2
  have c2b1 : decide (l0.length ≤ 32) = true := zR (by omega)
  clear c2
  obtain ⟨t178, A30, H⟩ := zW_ H
  replace H : (some (!t178)) = some r := H
  have A3 := yD A30
  clear A30; obtain rfl := Option.some.inj H; go_enter Try.func63, Try.ntmps63
  go_wp2_with (first | ((with_reducible refine gate_dst (N := 1) rfl ?_); refine box_event ?hg (N := 1) ?hd (cs := #[.slice A0 l0.length c0]) (t := 24) ?hr ?_; (case hd => rfl); (case hg => rfl); (case hr => first | (go_simp; done) | (go_simp; rfl)); intro gb177 hg w4 hbox hb; have n0_ := yD (zC (kB HB) hb); have n1_ := yD (hbox); have n2_ := yD ((by rw [hg]; exact (below_size (kB HB)) : w.heap.size ≤ gb177)); have n3_ := yD ((by rw [hg]; exact (below_size (kB HB)) : w.heap.size ≤ gb177)); clear HB; have HB := n0_; have BK177 := n1_; have GW177 := n2_; have GE177 := n3_; clear n0_ n1_ n2_ n3_; clear hb hbox hg; have hcz5_0 : w4.cell? ⟨gb177, 0, none⟩ = some (.slice A0 l0.length c0) := (yG BK177.out 0).trans rfl; have hfz5_0 := yR BK177.out 0) | (go_at_call 64; (with_reducible refine (slices_ContainsFunc_impl_boxesOk_1.calls k _ _ l0 gb177 A0 c0 l0 t178 _ ?side1 ?side2 ?side3 ?side4 ?side5 A3.out).mono ?_); (case side1 => exact kV (yY HR0.out HB.out)); (case side2 => exact HC0.out); (case side3 => exact kV (yY HR0.out HB.out)); (case side4 => exact HC0.out); (case side5 => (with_reducible repeat (first | refine yM ?_ _ | refine yO ?_ | refine yN ?_ _)); exact BK177.out); rintro e w6 ⟨rfl, hb⟩; have n0_ := yD (zB (g := gb177) (o := .cells #[.slice A0 l0.length c0] 24 (0, 0)) (kM BK177) hb); have n1_ := yD (zC (kB HB) hb); clear BK177; clear HB; have BK177 := n0_; have HB := n1_; clear n0_ n1_; (try clear hb); (try clear hb2); (try clear hk); (try clear hi)))
  go_ret
  exact ⟨by first | rfl | (simp <;> rfl) | (simp [*] <;> rfl), kR1 HB⟩
 ·
  rw [if_neg c2] at H
  have c2b0 : decide ((l0.length : Int) ≤ 32) = false := zS c2
  have c2b1 : decide (l0.length ≤ 32) = false := zS (by omega)
  clear c2; obtain rfl := Option.some.inj H; go_enter Try.func63, Try.ntmps63
  go_wp2_with (first | ((with_reducible refine gate_dst (N := 1) rfl ?_); refine box_event ?hg (N := 1) ?hd (cs := #[.slice A0 l0.length c0]) (t := 24) ?hr ?_; (case hd => rfl); (case hg => rfl); (case hr => first | (go_simp; done) | (go_simp; rfl)); intro gb177 hg w7 hbox hb; have n0_ := yD (zC (kB HB) hb); have n1_ := yD (hbox); have n2_ := yD ((by rw [hg]; exact (below_size (kB HB)) : w.heap.size ≤ gb177)); have n3_ := yD ((by rw [hg]; exact (below_size (kB HB)) : w.heap.size ≤ gb177)); clear HB; have HB := n0_; have BK177 := n1_; have GW177 := n2_; have GE177 := n3_; clear n0_ n1_ n2_ n3_; clear hb hbox hg; have hcz8_0 : w7.cell? ⟨gb177, 0, none⟩ = some (.slice A0 l0.length c0) := (yG BK177.out 0).trans rfl; have hfz8_0 := yR BK177.out 0))
  go_ret
  exact ⟨by first | rfl | (simp <;> rfl) | (simp [*] <;> rfl), kR1 HB⟩

/-! ### slices_Grow_nil_900006: function 150 -/
section
open Go.Shelf
def slices_Grow_nil_900006.ren : Go.Shelf.Ren := ⟨fun | 4 => 150 | n => n, fun | 22 => 24 | 25 => 42 | 3 => 3 | 4 => 4 | 9 => 9 | 20 => 20 | 0 => 0 | n => n, fun n => n⟩
theorem slices_Grow_nil_900006.lays : Go.Proofs.Lays8.n4 Try.prog slices_Grow_nil_900006.ren :=
 { mixed := by kernel_rfl, f4 := ⟨Try.f150.name, by decide, Try.func150.trans (congrArg some (by kernel_rfl))⟩, t0 := Try.underlying0, a0 := Try.isAgg0, z0 := Try.sizeOf0, v0 := Try.zeroValue0, t3 := Try.underlying3, a3 := Try.isAgg3, z3 := Try.sizeOf3, v3 := Try.zeroValue3, t4 := Try.underlying4, a4 := Try.isAgg4, z4 := Try.sizeOf4, v4 := Try.zeroValue4, t9 := Try.underlying9, a9 := Try.isAgg9, z9 := Try.sizeOf9, v9 := Try.zeroValue9, t20 := Try.underlying20, a20 := Try.isAgg20, z20 := Try.sizeOf20, v20 := Try.zeroValue20, t22 := Try.underlying24, a22 := Try.isAgg24, z22 := Try.sizeOf24, v22 := Try.zeroValue24 }

def slices_Grow_nil_900006.f (a1 : Int) : Option (List (S42)) := if 0 ≤ a1 ∧ a1 ≤ 1073741824 then some [] else none
theorem slices_Grow_nil_900006.info : (Try.prog.info? 42).map (fun i => (i.zero, i.size, i.bytes)) = some (some (.agg #[(.slice none 0 0), (.slice none 0 0)]), 2, 48) := by kernel_rfl
theorem slices_Grow_nil_900006.calls (a1 : Int) (r : List (S42)) (w : World) (h : slices_Grow_nil_900006.f a1 = some r) :
 Calls Try.prog 150 #[.slice none 0 0, .int .i64 a1] w fun e w' => ∃ v0_ : Value, e = .returned (v0_) ∧ Kd.S k42 42 w' w.heap.size (fun _ => True) v0_ r ∧ Below w.heap.size w w' := by
 unfold slices_Grow_nil_900006.f at h
 split at h
 ·
  rename_i hc
  obtain ⟨h0, h1⟩ := hc
  obtain ⟨c, rfl⟩ : ∃ c : Nat, a1 = (c : Int) := ⟨a1.toNat, by omega⟩
  obtain rfl := Option.some.inj h
  by_cases hc0 : c = 0
  · subst hc0
    refine (Any8.slices_Grow_room slices_Grow_nil_900006.lays none 0 0 0 w (Nat.le_refl _) (by omega) (by omega) (by omega)).mono ?_
    rintro e w' ⟨rfl, rfl⟩
    exact ⟨_, rfl, Kd.S_nil _ _ _ _ _, Below.refl _ _⟩
  ·
   obtain ⟨i0, hi0, hz⟩ := Option.map_eq_some_iff.1 slices_Grow_nil_900006.info
   simp only [Prod.mk.injEq] at hz
   obtain ⟨hz0, hs0, hb0⟩ := hz
   refine (Any8.slices_Grow_grow slices_Grow_nil_900006.lays i0 _ hi0 hz0 (by omega) none 0 0 c [] w (Nat.le_refl _) (by omega) (by rw [hb0]; omega) (by omega) (by simp) (fun _ => rfl) (fun a ha => by cases ha)).mono ?_
   have hG := grownCap_le_maxLen w (0 + c) 0 42 (by unfold maxLen; omega)
   have hg := grownCap_ge w (0 + c) 0 42
   change grownCap w (0 + c) 0 (slices_Grow_nil_900006.ren.t 25) ≤ maxLen at hG
   change 0 + c ≤ grownCap w (0 + c) 0 (slices_Grow_nil_900006.ren.t 25) at hg
   generalize grownCap w (0 + c) 0 (slices_Grow_nil_900006.ren.t 25) = G at hG hg ⊢
   rintro e w' ⟨rfl, rfl⟩
   refine ⟨_, rfl, ⟨fun _ => 0, fun _ _ => trivial, [], ⟨by simp, .inr ⟨w.heap.size, G, ([] : List Value).toArray ++ Builtin.zeroCells (.agg #[(.slice none 0 0), (.slice none 0 0)] : Value).cells (0 + c - 0) ++ Builtin.zeroCells (.agg #[(.slice none 0 0), (.slice none 0 0)] : Value).cells (G - (0 + c)), rfl, Nat.le_refl _, ?_, Nat.zero_le _, hG, ?_, by simp⟩⟩, Reps.none _ _⟩, below_alloc (below_drew (Below.refl _ _)) _⟩
   · show (w.heap.push _)[w.heap.size]? = _
     rw [Array.getElem?_push_size]
     rfl
   · simp only [Array.size_append, size_zeroCells, List.size_toArray, List.length_nil, Nat.zero_add, Nat.sub_zero, ← Nat.add_mul]
     show _ = G * 2
     have : c + (G - c) = G := by omega
     rw [this]
     rfl
 · cases h
end

/-! ### impl_Box: function 131 -/
mutual
def impl_Box.l0 : Nat → List (List (S42)) → Int → List (List (S42)) → Int → Int → Option ((List (S42)))
 | 0, _, _, _, _, _ => none
 | k + 1, x0, x3, x9, x10, x11 => if x11 < x10 then (if 0 ≤ x11 then (if x11 < (x9.length : Int) then (if (wrap64 (x3 + ((rd_L4 x9 x11).length : Int))) < 0 then (none) else (impl_Box.l0 k x0 (wrap64 (x3 + ((rd_L4 x9 x11).length : Int))) x9 x10 (wrap64 (x11 + 1)))) else (none)) else (none)) else ((slices_Grow_nil_900006.f x3).bind fun t180 => (impl_Box.l1 k t180 x0 (x0.length : Int) 0))
def impl_Box.l1 : Nat → List (S42) → List (List (S42)) → Int → Int → Option ((List (S42)))
 | 0, _, _, _, _ => none
 | k + 1, x6, x25, x26, x27 => if x27 < x26 then (if 0 ≤ x27 then (if x27 < (x25.length : Int) then (if x6.length + (rd_L4 x25 x27).length < 2932031007402 then (impl_Box.l1 k (x6 ++ (rd_L4 x25 x27)) x25 x26 (wrap64 (x27 + 1))) else (none)) else (none)) else (none)) else (some x6)
end
def impl_Box.f (k : Nat) (l0 : List (List (S42))) : Option ((List (S42))) := impl_Box.l0 k l0 0 l0 (l0.length : Int) 0
theorem impl_Box.mono_l : ∀ k, (∀ y0 y1 y2 y3 y4, LeO (impl_Box.l0 k y0 y1 y2 y3 y4) (impl_Box.l0 (k + 1) y0 y1 y2 y3 y4)) ∧ (∀ y0 y1 y2 y3, LeO (impl_Box.l1 k y0 y1 y2 y3) (impl_Box.l1 (k + 1) y0 y1 y2 y3))
 | 0 => ⟨fun _ _ _ _ _ r h => by simp [impl_Box.l0] at h, fun _ _ _ _ r h => by simp [impl_Box.l1] at h⟩
 | k + 1 => by
  obtain ⟨ih0, ih1⟩ := impl_Box.mono_l k
  refine ⟨?_, ?_⟩
  ·
   intro y0 y1 y2 y3 y4
   unfold impl_Box.l0
   repeat' first
   | (with_reducible exact ih0 _ _ _ _ _)
   | (with_reducible exact ih1 _ _ _ _)
   | (with_reducible exact LeO.refl _)
   | (with_reducible exact LeO.none _)
   | (with_reducible refine LeO.ite ?_ ?_)
   | (with_reducible refine LeO.bind ?_ (fun _ => ?_))
   | exact ih0 _ _ _ _ _
   | exact ih1 _ _ _ _
   | exact LeO.none _
   | refine LeO.ite ?_ ?_
   | refine LeO.bind ?_ (fun _ => ?_)
  ·
   intro y0 y1 y2 y3
   unfold impl_Box.l1
   repeat' first
   | (with_reducible exact ih0 _ _ _ _ _)
   | (with_reducible exact ih1 _ _ _ _)
   | (with_reducible exact LeO.refl _)
   | (with_reducible exact LeO.none _)
   | (with_reducible refine LeO.ite ?_ ?_)
   | (with_reducible refine LeO.bind ?_ (fun _ => ?_))
   | exact ih0 _ _ _ _ _
   | exact ih1 _ _ _ _
   | exact LeO.none _
   | refine LeO.ite ?_ ?_
   | refine LeO.bind ?_ (fun _ => ?_)
theorem impl_Box.mono : ∀ a0 k, LeO (impl_Box.f k a0) (impl_Box.f (k + 1) a0) := by
 intro a0 k
 obtain ⟨ih0, ih1⟩ := impl_Box.mono_l k
 unfold impl_Box.f
 repeat' first
  | (with_reducible exact ih0 _ _ _ _ _)
  | (with_reducible exact ih1 _ _ _ _)
  | (with_reducible exact LeO.refl _)
  | (with_reducible exact LeO.none _)
  | (with_reducible refine LeO.ite ?_ ?_)
  | (with_reducible refine LeO.bind ?_ (fun _ => ?_))
  | exact ih0 _ _ _ _ _
  | exact ih1 _ _ _ _
  | exact LeO.none _
  | refine LeO.ite ?_ ?_
  | refine LeO.bind ?_ (fun _ => ?_)
set_option maxHeartbeats 8000000 in
set_option maxRecDepth 100000 in
theorem impl_Box.calls (k : Nat) (P0_ : Nat → Prop) (A0 : Option Addr) (c0 : Nat) (l0 : List (List (S42))) (r : List (S42)) (w : World) (hs0 : Kd.V (Kd.slice 42 k42) 24 w w.heap.size (fun k_ => P0_ k_) (.slice A0 l0.length c0) l0) (h : impl_Box.f k l0 = some r) :
 Calls Try.prog 131 #[.slice A0 l0.length c0] w fun e w' => ∃ v0_ : Value, e = .returned (v0_) ∧ Kd.N k42 42 w' w.heap.size (fun k_ => (P0_ k_ ∨ w.heap.size ≤ k_)) v0_ r ∧ Below w.heap.size w w' := by
 have HO0 := yD (show Kd.V (Kd.slice 42 k42) 24 w w.heap.size (fun k_ => (P0_ k_ ∨ w.heap.size ≤ k_)) (.slice A0 l0.length c0) l0 from Kd.V_mono hs0 (fun k_ hk => .inl hk))
 have HB := yD (Below.refl w.heap.size w)
 have H : (impl_Box.l0 k l0 0 l0 (l0.length : Int) 0) = some r := h
 clear h
 have H' := yD H
 clear H; go_enter Try.func131, Try.ntmps131
 go_wp2
 go_loopg [3, 11] k (fun kq v3 v11 w' => ∃ (x3_1 : Int) (x11_1 : Int), v3 = .int .i64 x3_1 ∧ v11 = .int .i64 x11_1 ∧ Aside0 (impl_Box.l0 kq l0 x3_1 l0 (l0.length : Int) x11_1 = some r) ∧ Aside0 (kq ≤ k) ∧ Aside0 (Kd.V (Kd.slice 42 k42) 24 w' w.heap.size (fun k_ => (P0_ k_ ∨ w.heap.size ≤ k_)) (.slice A0 l0.length c0) l0) ∧ Aside0 (Kd.V (Kd.slice 42 k42) 24 w' w.heap.size (fun k_ => (P0_ k_ ∨ w.heap.size ≤ k_)) (.slice A0 l0.length c0) l0) ∧ Aside0 (Below w.heap.size w w'))
 case atStart => exact ⟨(0), (0), (by first | rfl | (simp; done) | (simp [*]; done)), (by first | rfl | (simp; done) | (simp [*]; done)), H', ⟨Nat.le_refl _⟩, ⟨by (with_reducible repeat (first | apply Kd.V_alloc | apply Kd.V_drewN | apply Kd.V_drew)); exact HO0.out⟩, ⟨by (with_reducible repeat (first | apply Kd.V_alloc | apply Kd.V_drewN | apply Kd.V_drew)); exact HO0.out⟩, ⟨kR0 HB⟩⟩
 case round =>
  clear H'
  try clear c1
  obtain ⟨x3_1, x11_1, rfl, rfl, HA, HK1, HO_0, HO_9, HB⟩ := hrel
  cases gk with
  | zero => exact absurd HA.out (by simp [impl_Box.l0])
  | succ k1 =>
   have H := HA.out; clear HA
   simp only [impl_Box.l0] at H
   by_cases c2 : x11_1 < (l0.length : Int)
   ·
    rw [if_pos c2] at H
    have c2b0 : decide (x11_1 < (l0.length : Int)) = true := zR c2; clear c2
    by_cases c3 : 0 ≤ x11_1
    ·
     rw [if_pos c3] at H
     have c3b0 : decide (0 ≤ x11_1) = true := zR c3; clear c3
     by_cases c4 : x11_1 < (l0.length : Int)
     ·
      rw [if_pos c4] at H
      have c4b0 : decide (x11_1 < (l0.length : Int)) = true := zR c4; clear c4
      by_cases c5 : (wrap64 (x3_1 + ((rd_L4 l0 x11_1).length : Int))) < 0
      · rw [if_pos c5] at H
        exact absurd H (by simp)
      ·
       rw [if_neg c5] at H
       have c5b0 : decide ((wrap64 (x3_1 + ((rd_L4 l0 x11_1).length : Int))) < 0) = false := zS c5; clear c5
       have H' := yD H
       clear H
       have p179 : 0 ≤ (x11_1 : Int) := zP (by assumption)
       have q179 : x11_1 < (l0.length : Int) := zP (by assumption)
       obtain ⟨ad179, A179_0, c179_0, e179, hx179_0, hl179_0, hi179_0⟩ := at_L4 (Kd.V_reads' HO_9.out).2.2 x11_1 p179 q179
       cases e179
       obtain ⟨ce179, hce179, hMe179, hcc179⟩ := Kd.V_get HO_9.out [] x11_1 p179 (by first | exact q179 | exact zP (by assumption) | (have e_ := (Kd.V_reads' HO_9.out).1; omega))
       obtain ⟨ua179_0, uc179_0, rfl, ul179_0, ge179_0⟩ := Kd.FK_slice_open hMe179
       have hv179_0 := hcc179 0 _ rfl
       rw [Nat.add_zero, show ((Kd.slice 42 k42)).sz = 1 from rfl, Nat.mul_one] at hv179_0
       replace hv179_0 := Option.some.inj (hv179_0.symm.trans hx179_0)
       injection hv179_0 with hva_ hvn_ hvc_
       rw [hva_] at ge179_0
       rw [hvc_] at ul179_0
       have HL179_0 := yD (show Kd.V k42 42 _ w.heap.size _ _ (rd_L4 l0 x11_1) from Kd.V_mk ul179_0 ge179_0)
       clear hva_ hvn_ hvc_ ge179_0 ul179_0 hcc179 hce179
       have HR179_0 := yD hi179_0
       have HC179_0 := yD hl179_0
       clear hi179_0 hl179_0; replace p179 := eq_true p179; replace q179 := eq_true q179
       go_wp2
       go_roundg k1
       case measure => have := HK1.out; omega
       case rel => exact ⟨(wrap64 (x3_1 + ((rd_L4 l0 x11_1).length : Int))), (wrap64 (x11_1 + 1)), (by first | rfl | (simp; done) | (simp [*]; done)), (by first | rfl | (simp; done) | (simp [*]; done)), H', ⟨by have := HK1.out; omega⟩, ⟨by (with_reducible repeat (first | apply Kd.V_alloc | apply Kd.V_drewN | apply Kd.V_drew)); exact HO_0.out⟩, ⟨by (with_reducible repeat (first | apply Kd.V_alloc | apply Kd.V_drewN | apply Kd.V_drew)); exact HO_9.out⟩, ⟨kR0 HB⟩⟩
     · rw [if_neg c4] at H
       exact absurd H (by simp)
    · rw [if_neg c3] at H
      exact absurd H (by simp)
   ·
    rw [if_neg c2] at H
    have c2b0 : decide (x11_1 < (l0.length : Int)) = false := zS c2; clear c2
    obtain ⟨t180, A60, H⟩ := zW_ H
    replace H : (impl_Box.l1 k1 t180 l0 (l0.length : Int) 0) = some r := H
    have A6 := yD A60
    clear A60
    have H' := yD H
    clear H
    go_wp2_with (first | ((with_reducible refine gate_callee (f := 150) rfl ?_); refine goesL_ (some 24) rfl rfl Try.func150 (by kernel_rfl) rfl #[.slice none 0 0, .int .i64 x3_1] rfl (by (try simp only [zK, zL, zM]); first | done | rfl | (simp only [zN, zO]; rfl)) ?_; (with_reducible refine (slices_Grow_nil_900006.calls  x3_1 t180 _ A6.out).mono ?_); rintro e w7 ⟨v181, rfl, ho0, hb⟩; refine ⟨_, rfl, ?_⟩; have n0_ := yD (Kd.V_elder' (by (with_reducible repeat (first | apply Kd.V_alloc | apply Kd.V_drewN | apply Kd.V_drew)); exact HO_0.out) (Kd.S_base ho0) hb); have n1_ := yD (Kd.V_elder' (by (with_reducible repeat (first | apply Kd.V_alloc | apply Kd.V_drewN | apply Kd.V_drew)); exact HO_9.out) (Kd.S_base ho0) hb); have n2_ := yD (Kd.N_lower (Kd.N_mono (ok' := fun k_ => (P0_ k_ ∨ w.heap.size ≤ k_)) (Kd.S_N (Kd.S_bound ho0)) (fun k_ hk_ => (.inr (Nat.le_trans (below_size (kB HB)) hk_.2.1)))) (below_size (kB HB))); have n3_ := yD (zC (kB HB) hb); clear HO_0; clear HO_9; clear HB; have HO_0 := n0_; have HO_9 := n1_; have HO182 := n2_; have HB := n3_; clear n0_ n1_ n2_ n3_; (try clear hb); (try clear hb2); (try clear hk); (try clear hi); (try clear ho0)))
    (try simp only [Act.put, zH, zI, zJ])
    go_loopg [6, 27] k1 (fun kq v6 v27 w' => ∃ (x6_2 : List (S42)) (x27_2 : Int), v27 = .int .i64 x27_2 ∧ Aside0 (impl_Box.l1 kq x6_2 l0 (l0.length : Int) x27_2 = some r) ∧ Aside0 (kq ≤ k1) ∧ Aside0 (Kd.N k42 42 w' w.heap.size (fun k_ => (P0_ k_ ∨ w.heap.size ≤ k_)) v6 x6_2) ∧ Aside0 (Kd.V (Kd.slice 42 k42) 24 w' w.heap.size (fun k_ => (P0_ k_ ∨ w.heap.size ≤ k_) ∧ some k_ ≠ (v6 : Value).ownBlock) (.slice A0 l0.length c0) l0) ∧ Aside0 (Below w.heap.size w w'))
    case atStart => exact ⟨(t180), (0), (by first | rfl | (simp; done) | (simp [*]; done)), H', ⟨Nat.le_refl _⟩, ⟨by (with_reducible repeat (first | apply Kd.N_alloc | apply Kd.N_drewN | apply Kd.N_drew)); exact HO182.out⟩, ⟨by (with_reducible repeat (first | apply Kd.V_alloc | apply Kd.V_drewN | apply Kd.V_drew)); exact HO_0.out⟩, ⟨kR0 HB⟩⟩
    case round =>
     clear H'
     try clear c1; try clear p1; try clear q1; try clear hx1; try clear c2; try clear c2b0; try clear p2; try clear c3; try clear c3b0; try clear c4; try clear c4b0; try clear c5; try clear c5b0; try clear p6; try clear hx179_0; try clear p179; try clear q179
     obtain ⟨x6_2, x27_2, rfl, HA, HK2, HO_6, HO_25, HB⟩ := hrel
     cases gk with
     | zero => exact absurd HA.out (by simp [impl_Box.l1])
     | succ k2 =>
      have H := HA.out; clear HA
      simp only [impl_Box.l1] at H
      by_cases c8 : x27_2 < (l0.length : Int)
      ·
       rw [if_pos c8] at H
       have c8b0 : decide (x27_2 < (l0.length : Int)) = true := zR c8; clear c8
       by_cases c9 : 0 ≤ x27_2
       ·
        rw [if_pos c9] at H
        have c9b0 : decide (0 ≤ x27_2) = true := zR c9; clear c9
        by_cases c10 : x27_2 < (l0.length : Int)
        ·
         rw [if_pos c10] at H
         have c10b0 : decide (x27_2 < (l0.length : Int)) = true := zR c10; clear c10
         by_cases c11 : x6_2.length + (rd_L4 l0 x27_2).length < 2932031007402
         ·
          rw [if_pos c11] at H
          have LMc11 := yD c11
          clear c11
          obtain ⟨y184, hy184⟩ : ∃ y_ : List (S42), y_ = (x6_2 ++ (rd_L4 l0 x27_2)) := ⟨_, rfl⟩
          replace H : (impl_Box.l1 k2 y184 l0 (l0.length : Int) (wrap64 (x27_2 + 1))) = some r := by first | (rw [hy184]; with_reducible exact H) | (have H2_ := (Option.bind_some _ _).symm.trans H; rw [hy184]; with_reducible exact H2_) | (have H2_ := (Option.bind_some _ _).symm.trans H; with_reducible exact H2_) | with_reducible exact H | (rw [hy184]; exact H) | exact H
          have Ny184 := yD hy184
          clear hy184
          have H' := yD H
          clear H
          have p183 : 0 ≤ (x27_2 : Int) := zP (by assumption)
          have q183 : x27_2 < (l0.length : Int) := zP (by assumption)
          obtain ⟨ad183, A183_0, c183_0, e183, hx183_0, hl183_0, hi183_0⟩ := at_L4 (Kd.V_reads' HO_25.out).2.2 x27_2 p183 q183
          cases e183
          obtain ⟨ce183, hce183, hMe183, hcc183⟩ := Kd.V_get HO_25.out [] x27_2 p183 (by first | exact q183 | exact zP (by assumption) | (have e_ := (Kd.V_reads' HO_25.out).1; omega))
          obtain ⟨ua183_0, uc183_0, rfl, ul183_0, ge183_0⟩ := Kd.FK_slice_open hMe183
          have hv183_0 := hcc183 0 _ rfl
          rw [Nat.add_zero, show ((Kd.slice 42 k42)).sz = 1 from rfl, Nat.mul_one] at hv183_0
          replace hv183_0 := Option.some.inj (hv183_0.symm.trans hx183_0)
          injection hv183_0 with hva_ hvn_ hvc_
          rw [hva_] at ge183_0
          rw [hvc_] at ul183_0
          have HL183_0 := yD (show Kd.V k42 42 _ w.heap.size _ _ (rd_L4 l0 x27_2) from Kd.V_mk ul183_0 ge183_0)
          clear hva_ hvn_ hvc_ ge183_0 ul183_0 hcc183 hce183
          have HR183_0 := yD hi183_0
          have HC183_0 := yD hl183_0
          clear hi183_0 hl183_0; replace p183 := eq_true p183; replace q183 := eq_true q183
          go_wp2_with (first | ((with_reducible refine gate_builtin (b := .append) (xs := #[.tmp 31, .tmp 32]) rfl ?_); at_builtin; refine Kd.N_append_rows k42 (w0 := w) w.heap.size rfl (.tmp 31) (.tmp 32) 24 42 (.agg #[(.slice none 0 0), (.slice none 0 0)]) 48 rfl Try.underlying24 info42 rfl (by decide) (by omega) u6 x6_2 (rd_L4 l0 x27_2) _ _ _ (fun k_ => (P0_ k_ ∨ w.heap.size ≤ k_)) (fun k_ => ((fun k_ => (P0_ k_ ∨ w.heap.size ≤ k_))) k_ ∧ some k_ ≠ (u6 : Value).ownBlock) rfl rfl ?aO ?aR (fun _ hk => hk) ?aF ?aB ?aS ?aL ?_; (case aR => exact (by skip; exact Kd.V_F (Kd.V_mono (ok' := (fun k_ => ((fun k_ => (P0_ k_ ∨ w.heap.size ≤ k_))) k_ ∧ some k_ ≠ (u6 : Value).ownBlock)) (HL183_0.out) (fun k_ hk => ⟨hk.1, hk.2⟩)))); (case aB => exact (kB HB)); (case aF => exact (fun k_ hk => (.inr (Nat.le_trans (below_size (kB HB)) hk)))); (case aO => exact (by (with_reducible repeat (first | apply Kd.N_alloc | apply Kd.N_drewN | apply Kd.N_drew)); exact HO_6.out)); (case aS => exact (below_size (kB HB))); (case aL => have := LMc11.out; omega); intro v185 w12 ho hb hg hat; rw [← Ny184.out] at ho; have n0_ := yD (Kd.V_afterv (ok := (fun k_ => (P0_ k_ ∨ w.heap.size ≤ k_))) (by (with_reducible repeat (first | apply Kd.V_alloc | apply Kd.V_drewN | apply Kd.V_drew)); exact HO_25.out) hg hat); have n1_ := yD (Kd.V_afterv (ok := (fun k_ => (P0_ k_ ∨ w.heap.size ≤ k_))) (by (with_reducible repeat (first | apply Kd.V_alloc | apply Kd.V_drewN | apply Kd.V_drew)); exact HL183_0.out) hg hat); have n2_ := yD (hb); have n3_ := yD (ho); clear HO_25; clear HL183_0; clear HB; clear HO_6; have HO_25 := n0_; have HL183_0 := n1_; have HB := n2_; have HO186 := n3_; clear n0_ n1_ n2_ n3_; clear ho hb hg hat))
          go_roundg k2
          case measure => have := HK1.out; have := HK2.out; omega
          case rel => exact ⟨(y184), (wrap64 (x27_2 + 1)), (by first | rfl | (simp; done) | (simp [*]; done)), H', ⟨by have := HK1.out; have := HK2.out; omega⟩, ⟨by (with_reducible repeat (first | apply Kd.N_alloc | apply Kd.N_drewN | apply Kd.N_drew)); exact HO186.out⟩, ⟨by (with_reducible repeat (first | apply Kd.V_alloc | apply Kd.V_drewN | apply Kd.V_drew)); exact HO_25.out⟩, ⟨kR0 HB⟩⟩
         · rw [if_neg c11] at H
           exact absurd H (by simp)
        · rw [if_neg c10] at H
          exact absurd H (by simp)
       · rw [if_neg c9] at H
         exact absurd H (by simp)
      · rw [if_neg c8] at H
        have c8b0 : decide (x27_2 < (l0.length : Int)) = false := zS c8; clear c8; obtain rfl := Option.some.inj H
        go_wp2
        go_ret
        exact ⟨_, by first | rfl | (simp <;> rfl) | (simp [*] <;> rfl), by (with_reducible repeat (first | apply Kd.N_alloc | apply Kd.N_drewN | apply Kd.N_drew)); exact HO_6.out, kR0 HB⟩

end Go.Proofs.Ytdiaebjbiddefaa.PFnNormalForm
