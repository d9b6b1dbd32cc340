/- Each Go function here comes to what the plain function of its name says, where that says something. Made by a program of this session, over the print. -/
import Derived.Test.YtgpkkplabnliiaaPFnCutsx0
import Derived.Test.YtgpkkplabnliiaaPFnCutsx4
namespace Go.Proofs.Ytgpkkplabnliiaa.PFnCuts
open Go.RowKit Go.Proofs.YtgpkkplabnliiaaW.PrintWords Go.Proofs.YtgpkkplabnliiaaW.PrintLast Go.Proofs.YtgpkkplabnliiaaW.PrintMore
attribute [local go_sem] max2_int min2_int max_two min_two max_three min_three max_four min_four   -- for this text's walks alone
set_option linter.unusedVariables false
set_option linter.unusedSimpArgs false

/-! ### impl_ValidDisk: function 47 -/
def impl_ValidDisk.j0 : Nat → Bool → List ByteArray → List (S57) → Int → Bool → Option (Bool)
  | 0, _, _, _, _, _ => none
  | k + 1, x19, x331000, x331001, x331002, x331003 => if x19 = true then (some false) else ((slices_ContainsFunc_impl_ValidDisk_1.f k x331000).bind fun t333 => (if t333 = true then (some false) else ((slices_ContainsFunc_impl_ValidDisk_2.f k x331001 x331000 x331001 x331002 x331003).bind fun t334 => (some (!t334)))))
def impl_ValidDisk.f (k : Nat) (l0_0 : List ByteArray) (l0_1 : List (S57)) (a0_2 : Int) (a0_3 : Bool) : Option (Bool) := (impl_within.f (l0_0.length : Int) 16 256).bind fun t331 => (if t331 = true then (if (l0_1.length : Int) > 600 then (impl_ValidDisk.j0 k true l0_0 l0_1 a0_2 a0_3) else ((impl_within.f a0_2 (-1) 100000).bind fun t332 => (impl_ValidDisk.j0 k (!t332) l0_0 l0_1 a0_2 a0_3))) else (impl_ValidDisk.j0 k true l0_0 l0_1 a0_2 a0_3))
theorem impl_ValidDisk.mono_l : ∀ k, (∀ y0 y1 y2 y3 y4, LeO (impl_ValidDisk.j0 k y0 y1 y2 y3 y4) (impl_ValidDisk.j0 (k + 1) y0 y1 y2 y3 y4))
  | 0 => fun _ _ _ _ _ r h => by simp [impl_ValidDisk.j0] at h
  | k + 1 => by
    have ih0 := impl_ValidDisk.mono_l k
    · intro y0 y1 y2 y3 y4
      unfold impl_ValidDisk.j0
      repeat' first
      | (with_reducible exact ih0 _ _ _ _ _)
      | (with_reducible exact slices_ContainsFunc_impl_ValidDisk_1.mono _ _)
      | (with_reducible exact slices_ContainsFunc_impl_ValidDisk_2.mono _ _ _ _ _ _)
      | (with_reducible exact LeO.refl _)
      | (with_reducible exact LeO.none _)
      | (with_reducible refine LeO.ite ?_ ?_)
      | (with_reducible refine LeO.bind ?_ (fun _ => ?_))
      | exact ih0 _ _ _ _ _
      | exact slices_ContainsFunc_impl_ValidDisk_1.mono _ _
      | exact slices_ContainsFunc_impl_ValidDisk_2.mono _ _ _ _ _ _
      | exact LeO.none _
      | refine LeO.ite ?_ ?_
      | refine LeO.bind ?_ (fun _ => ?_)
theorem impl_ValidDisk.mono : ∀ a0 a1 a2 a3 k, LeO (impl_ValidDisk.f k a0 a1 a2 a3) (impl_ValidDisk.f (k + 1) a0 a1 a2 a3) := by
  intro a0 a1 a2 a3 k
  have ih0 := impl_ValidDisk.mono_l k
  unfold impl_ValidDisk.f
  repeat' first
      | (with_reducible exact ih0 _ _ _ _ _)
      | (with_reducible exact slices_ContainsFunc_impl_ValidDisk_1.mono _ _)
      | (with_reducible exact slices_ContainsFunc_impl_ValidDisk_2.mono _ _ _ _ _ _)
      | (with_reducible exact LeO.refl _)
      | (with_reducible exact LeO.none _)
      | (with_reducible refine LeO.ite ?_ ?_)
      | (with_reducible refine LeO.bind ?_ (fun _ => ?_))
      | exact ih0 _ _ _ _ _
      | exact slices_ContainsFunc_impl_ValidDisk_1.mono _ _
      | exact slices_ContainsFunc_impl_ValidDisk_2.mono _ _ _ _ _ _
      | exact LeO.none _
      | refine LeO.ite ?_ ?_
      | refine LeO.bind ?_ (fun _ => ?_)
set_option maxHeartbeats 8000000 in
set_option maxRecDepth 100000 in
theorem impl_ValidDisk.calls (k : Nat) (A0_0 : Option Addr) (c0_0 : Nat) (l0_0 : List ByteArray) (A0_1 : Option Addr) (c0_1 : Nat) (l0_1 : List (S57)) (a0_2 : Int) (a0_3 : Bool) (r : Bool) (w : World) (hr0_0 : Kd.C Kd.string w A0_0 l0_0.length l0_0) (hc0_0 : l0_0.length ≤ c0_0) (hr0_1 : Kd.C k57 w A0_1 l0_1.length l0_1) (hc0_1 : l0_1.length ≤ c0_1) (h : impl_ValidDisk.f k l0_0 l0_1 a0_2 a0_3 = some r) :
    Calls Try.prog 47 #[.agg #[.slice A0_0 l0_0.length c0_0, .slice A0_1 l0_1.length c0_1, .int .i64 a0_2, .bool a0_3]] w fun e w' => e = .returned (.bool r) ∧ Below w.heap.size w w' := by
  have hu44 := Try.underlying44
  have HR0_0 := yD hr0_0
  have HC0_0 := yD hc0_0
  clear hr0_0 hc0_0
  have HR0_1 := yD hr0_1
  have HC0_1 := yD hc0_1
  clear hr0_1 hc0_1
  have HB := yD (Below.refl w.heap.size w)
  have H : ((impl_within.f (l0_0.length : Int) 16 256).bind fun t331 => (if t331 = true then (if (l0_1.length : Int) > 600 then (impl_ValidDisk.j0 k true l0_0 l0_1 a0_2 a0_3) else ((impl_within.f a0_2 (-1) 100000).bind fun t332 => (impl_ValidDisk.j0 k (!t332) l0_0 l0_1 a0_2 a0_3))) else (impl_ValidDisk.j0 k true l0_0 l0_1 a0_2 a0_3))) = some r := h
  clear h
  have HC2 := yD H
  clear H; go_enter Try.func47, Try.ntmps47
  go_upto_region 1 with (first | ((with_reducible refine gate_dst (N := 1) rfl ?_); (try (refine gate_guard (by rfl) ?_; dsimp only)); refine box_event ?hg (N := 1) ?hd (cs := #[.slice A0_0 l0_0.length c0_0, .slice A0_1 l0_1.length c0_1, .int .i64 a0_2, .bool a0_3]) (t := 44) ?hr ?_; (case hd => rfl); (case hg => rfl); (case hr => first | (go_simp; done) | (go_simp; rfl)); intro gb330 hg w3 hbox hb; have n0_ := yD (zC (kB HB) hb); have n1_ := yD (hbox); have n2_ := yD ((by rw [hg]; exact (below_size (kB HB)) : w.heap.size ≤ gb330)); have n3_ := yD ((by rw [hg]; exact (below_size (kB HB)) : w.heap.size ≤ gb330)); clear HB; have HB := n0_; have BK330 := n1_; have GW330 := n2_; have GE330 := n3_; clear n0_ n1_ n2_ n3_; clear hb hbox hg))
  (try simp only [Act.put, zH, zI, zJ])
  go_cut [19] (fun v19 wc => ∃ (kq : Nat) (x19_1 : Bool), v19 = .bool x19_1 ∧ Aside0 (impl_ValidDisk.j0 kq x19_1 l0_0 l0_1 a0_2 a0_3 = some r) ∧ Aside0 (kq ≤ k) ∧ Aside0 (wc.heap[gb330]? = some (.cells #[(.slice A0_0 l0_0.length c0_0), (.slice A0_1 l0_1.length c0_1), .int .i64 a0_2, .bool a0_3] 44 (0, 0))) ∧ Aside0 (Below w.heap.size w wc))
  case first =>
    have H := HC2.out; clear HC2
    obtain ⟨t331, A40, H⟩ := zW_ H
    replace H : (if t331 = true then (if (l0_1.length : Int) > 600 then (impl_ValidDisk.j0 k true l0_0 l0_1 a0_2 a0_3) else ((impl_within.f a0_2 (-1) 100000).bind fun t332 => (impl_ValidDisk.j0 k (!t332) l0_0 l0_1 a0_2 a0_3))) else (impl_ValidDisk.j0 k true l0_0 l0_1 a0_2 a0_3)) = some r := H
    have A4 := yD A40
    clear A40
    by_cases c5 : t331 = true
    · subst c5
      have H1 : (if (l0_1.length : Int) > 600 then (impl_ValidDisk.j0 k true l0_0 l0_1 a0_2 a0_3) else ((impl_within.f a0_2 (-1) 100000).bind fun t332 => (impl_ValidDisk.j0 k (!t332) l0_0 l0_1 a0_2 a0_3))) = some r := by rw [if_pos rfl] at H; exact H
      clear H; have H := H1; clear H1
      by_cases c6 : (l0_1.length : Int) > 600
      · rw [if_pos c6] at H
        have c6b0 : decide (600 < (l0_1.length : Int)) = true := zR c6
        have c6b1 : decide (600 < l0_1.length) = true := zR (by omega)
        clear c6
        (first | rw [c6b0] | (simp only [i64_w, i32_w]; rw [c6b0]) | (simp only [bne] at c6b0; rw [c6b0]) | skip)
        have H' := yD H
        clear H
        obtain ⟨hcz7_0, hcz7_1, hcz7_2, hcz7_3⟩ := cz4 BK330.out
        obtain ⟨hfz7_0, hfz7_1, hfz7_2, hfz7_3⟩ := fz4 BK330.out
        go_wp2_with (first | ((with_reducible refine gate_callee (f := 70) rfl ?_); refine goesL_ (some 6) rfl rfl Try.func70 (by kernel_rfl) rfl #[.int .i64 (l0_0.length : Int), .int .i64 16, .int .i64 256] rfl (by (try simp only [zK, zL, zM]); first | done | rfl | (simp only [zN, zO]; rfl)) ?_; (with_reducible refine (impl_within.calls (l0_0.length : Int) 16 256 true _ A4.out).mono ?_); rintro e w' ⟨rfl, ⟨nd, rfl⟩⟩; refine ⟨_, rfl, ?_⟩))
        go_meet
        case rel => exact ⟨_, (true), (by first | rfl | (simp; done) | (simp [*]; done)), H', ⟨by first | omega | exact Nat.le_refl _⟩, ⟨by (with_reducible repeat (first | refine yM ?_ _ | refine yO ?_ | refine yN ?_ _)); exact BK330.out⟩, ⟨kR1 HB⟩⟩
      · rw [if_neg c6] at H
        have c6b0 : decide (600 < (l0_1.length : Int)) = false := zS c6
        have c6b1 : decide (600 < l0_1.length) = false := zS (by omega)
        clear c6
        (first | rw [c6b0] | (simp only [i64_w, i32_w]; rw [c6b0]) | (simp only [bne] at c6b0; rw [c6b0]) | skip)
        obtain ⟨t332, A80, H⟩ := zW_ H
        replace H : (impl_ValidDisk.j0 k (!t332) l0_0 l0_1 a0_2 a0_3) = some r := H
        have A8 := yD A80
        clear A80
        have H' := yD H
        clear H
        obtain ⟨hcz9_0, hcz9_1, hcz9_2, hcz9_3⟩ := cz4 BK330.out
        obtain ⟨hfz9_0, hfz9_1, hfz9_2, hfz9_3⟩ := fz4 BK330.out
        go_wp2_with (first | ((with_reducible refine gate_callee (f := 70) rfl ?_); refine goesL_ (some 6) rfl rfl Try.func70 (by kernel_rfl) rfl #[.int .i64 (l0_0.length : Int), .int .i64 16, .int .i64 256] rfl (by (try simp only [zK, zL, zM]); first | done | rfl | (simp only [zN, zO]; rfl)) ?_; (with_reducible refine (impl_within.calls (l0_0.length : Int) 16 256 true _ A4.out).mono ?_); rintro e w' ⟨rfl, ⟨nd, rfl⟩⟩; refine ⟨_, rfl, ?_⟩) | (go_at_call 70; (with_reducible refine (impl_within.calls a0_2 (-1) 100000 t332 _ A8.out).mono ?_); rintro e w' ⟨rfl, ⟨nd, rfl⟩⟩))
        go_meet
        case rel => exact ⟨_, (!t332), (by first | rfl | (simp; done) | (simp [*]; done)), H', ⟨by first | omega | exact Nat.le_refl _⟩, ⟨by (with_reducible repeat (first | refine yM ?_ _ | refine yO ?_ | refine yN ?_ _)); exact BK330.out⟩, ⟨kR1 HB⟩⟩
    · replace c5 := Bool.eq_false_iff.mpr c5
      subst c5
      have H1 : (impl_ValidDisk.j0 k true l0_0 l0_1 a0_2 a0_3) = some r := by rw [if_neg (show ¬ (false = true) by decide)] at H; exact H
      clear H; have H := H1; clear H1
      have H' := yD H
      clear H
      obtain ⟨hcz10_0, hcz10_1, hcz10_2, hcz10_3⟩ := cz4 BK330.out
      obtain ⟨hfz10_0, hfz10_1, hfz10_2, hfz10_3⟩ := fz4 BK330.out
      go_wp2_with (first | ((with_reducible refine gate_callee (f := 70) rfl ?_); refine goesL_ (some 6) rfl rfl Try.func70 (by kernel_rfl) rfl #[.int .i64 (l0_0.length : Int), .int .i64 16, .int .i64 256] rfl (by (try simp only [zK, zL, zM]); first | done | rfl | (simp only [zN, zO]; rfl)) ?_; (with_reducible refine (impl_within.calls (l0_0.length : Int) 16 256 false _ A4.out).mono ?_); rintro e w' ⟨rfl, ⟨nd, rfl⟩⟩; refine ⟨_, rfl, ?_⟩))
      go_meet
      case rel => exact ⟨_, (true), (by first | rfl | (simp; done) | (simp [*]; done)), H', ⟨by first | omega | exact Nat.le_refl _⟩, ⟨by (with_reducible repeat (first | refine yM ?_ _ | refine yO ?_ | refine yN ?_ _)); exact BK330.out⟩, ⟨kR1 HB⟩⟩
  case rest =>
    clear HC2; try clear p2; try clear c4; try clear c5; try clear c6; try clear c6b0; try clear c6b1; try clear c7; try clear hcz10_0; try clear hcz10_1; try clear hcz10_2; try clear hcz10_3; try clear hcz7_0; try clear hcz7_1; try clear hcz7_2; try clear hcz7_3; try clear hcz9_0; try clear hcz9_1; try clear hcz9_2; try clear hcz9_3; try clear hfz10_0; try clear hfz10_1; try clear hfz10_2; try clear hfz10_3; try clear hfz7_0; try clear hfz7_1; try clear hfz7_2; try clear hfz7_3; try clear hfz9_0; try clear hfz9_1; try clear hfz9_2; try clear hfz9_3
    obtain ⟨kq, x19_1, rfl, HA, HJ1, BK330, HB⟩ := hcut
    cases kq with
    | zero => exact absurd HA.out (by simp [impl_ValidDisk.j0])
    | succ kj1 =>
      have H := HA.out; clear HA
      simp only [impl_ValidDisk.j0] at H
      by_cases c11 : x19_1 = true
      · subst c11
        have H1 : (some false) = some r := by rw [if_pos rfl] at H; exact H
        clear H; have H := H1; clear H1; obtain rfl := Option.some.inj H
        go_wp2
        go_ret
        exact ⟨by first | rfl | (simp <;> rfl) | (simp [*] <;> rfl), kR1 HB⟩
      · replace c11 := Bool.eq_false_iff.mpr c11
        subst c11
        have H1 : ((slices_ContainsFunc_impl_ValidDisk_1.f kj1 l0_0).bind fun t333 => (if t333 = true then (some false) else ((slices_ContainsFunc_impl_ValidDisk_2.f kj1 l0_1 l0_0 l0_1 a0_2 a0_3).bind fun t334 => (some (!t334))))) = some r := by rw [if_neg (show ¬ (false = true) by decide)] at H; exact H
        clear H; have H := H1; clear H1
        obtain ⟨t333, A120, H⟩ := zW_ H
        replace H : (if t333 = true then (some false) else ((slices_ContainsFunc_impl_ValidDisk_2.f kj1 l0_1 l0_0 l0_1 a0_2 a0_3).bind fun t334 => (some (!t334)))) = some r := H
        have A12 := yD A120
        clear A120
        by_cases c13 : t333 = true
        · subst c13
          have H1 : (some false) = some r := by rw [if_pos rfl] at H; exact H
          clear H; have H := H1; clear H1; obtain rfl := Option.some.inj H
          obtain ⟨hcz14_0, hcz14_1, hcz14_2, hcz14_3⟩ := cz4 BK330.out
          obtain ⟨hfz14_0, hfz14_1, hfz14_2, hfz14_3⟩ := fz4 BK330.out
          go_wp2_with (first | ((with_reducible refine gate_callee (f := 77) rfl ?_); refine goesL_ (some 22) rfl rfl Try.func77 (by kernel_rfl) rfl #[.slice A0_0 l0_0.length c0_0, .func (.func 78) #[] #[]] rfl (by (try simp only [zK, zL, zM]); first | done | rfl | (simp only [zN, zO]; rfl)) ?_; (with_reducible refine (slices_ContainsFunc_impl_ValidDisk_1.calls kj1 _ _ l0_0  true _ ?side1 ?side2 A12.out).mono ?_); (case side1 => exact kV (yY HR0_0.out HB.out)); (case side2 => exact HC0_0.out); rintro e w15 ⟨rfl, hb⟩; refine ⟨_, rfl, ?_⟩; have n0_ := yD (zB (g := gb330) (o := .cells #[.slice A0_0 l0_0.length c0_0, .slice A0_1 l0_1.length c0_1, .int .i64 a0_2, .bool a0_3] 44 (0, 0)) (kM BK330) hb); have n1_ := yD (zC (kB HB) hb); clear BK330; clear HB; have BK330 := n0_; have HB := n1_; clear n0_ n1_; (try clear hb); (try clear hb2); (try clear hk); (try clear hi)))
          go_ret
          exact ⟨by first | rfl | (simp <;> rfl) | (simp [*] <;> rfl), kR1 HB⟩
        · replace c13 := Bool.eq_false_iff.mpr c13
          subst c13
          have H1 : ((slices_ContainsFunc_impl_ValidDisk_2.f kj1 l0_1 l0_0 l0_1 a0_2 a0_3).bind fun t334 => (some (!t334))) = some r := by rw [if_neg (show ¬ (false = true) by decide)] at H; exact H
          clear H; have H := H1; clear H1
          obtain ⟨t334, A160, H⟩ := zW_ H
          replace H : (some (!t334)) = some r := H
          have A16 := yD A160
          clear A160; obtain rfl := Option.some.inj H
          obtain ⟨hcz17_0, hcz17_1, hcz17_2, hcz17_3⟩ := cz4 BK330.out
          obtain ⟨hfz17_0, hfz17_1, hfz17_2, hfz17_3⟩ := fz4 BK330.out
          go_wp2_with (first | ((with_reducible refine gate_callee (f := 77) rfl ?_); refine goesL_ (some 22) rfl rfl Try.func77 (by kernel_rfl) rfl #[.slice A0_0 l0_0.length c0_0, .func (.func 78) #[] #[]] rfl (by (try simp only [zK, zL, zM]); first | done | rfl | (simp only [zN, zO]; rfl)) ?_; (with_reducible refine (slices_ContainsFunc_impl_ValidDisk_1.calls kj1 _ _ l0_0  false _ ?side1 ?side2 A12.out).mono ?_); (case side1 => exact kV (yY HR0_0.out HB.out)); (case side2 => exact HC0_0.out); rintro e w18 ⟨rfl, hb⟩; refine ⟨_, rfl, ?_⟩; have n0_ := yD (zB (g := gb330) (o := .cells #[.slice A0_0 l0_0.length c0_0, .slice A0_1 l0_1.length c0_1, .int .i64 a0_2, .bool a0_3] 44 (0, 0)) (kM BK330) hb); have n1_ := yD (zC (kB HB) hb); clear BK330; clear HB; have BK330 := n0_; have HB := n1_; clear n0_ n1_; (try clear hb); (try clear hb2); (try clear hk); (try clear hi); obtain ⟨hcz19_0, hcz19_1, hcz19_2, hcz19_3⟩ := cz4 BK330.out; obtain ⟨hfz19_0, hfz19_1, hfz19_2, hfz19_3⟩ := fz4 BK330.out) | ((with_reducible refine gate_callee (f := 80) rfl ?_); refine goesL_ (some 26) rfl rfl Try.func80 (by kernel_rfl) rfl #[.slice A0_1 l0_1.length c0_1, .func (.func 81) #[] #[.pointer (some ⟨gb330, 0, none⟩)]] rfl (by (try simp only [zK, zL, zM]); first | done | rfl | (simp only [zN, zO]; rfl)) ?_; (with_reducible refine (slices_ContainsFunc_impl_ValidDisk_2.calls kj1 _ _ l0_1 gb330 A0_0 c0_0 l0_0 A0_1 c0_1 l0_1 a0_2 a0_3 t334 _ ?side1 ?side2 ?side3 ?side4 ?side5 ?side6 ?side7 A16.out).mono ?_); (case side1 => exact kV (yY HR0_1.out HB.out)); (case side2 => exact HC0_1.out); (case side3 => exact kV (yY HR0_0.out HB.out)); (case side4 => exact HC0_0.out); (case side5 => exact kV (yY HR0_1.out HB.out)); (case side6 => exact HC0_1.out); (case side7 => (with_reducible repeat (first | refine yM ?_ _ | refine yO ?_ | refine yN ?_ _)); exact BK330.out); rintro e w20 ⟨rfl, hb⟩; refine ⟨_, rfl, ?_⟩; have n0_ := yD (zB (g := gb330) (o := .cells #[.slice A0_0 l0_0.length c0_0, .slice A0_1 l0_1.length c0_1, .int .i64 a0_2, .bool a0_3] 44 (0, 0)) (kM BK330) hb); have n1_ := yD (zC (kB HB) hb); clear BK330; clear HB; have BK330 := n0_; have HB := n1_; clear n0_ n1_; (try clear hb); (try clear hb2); (try clear hk); (try clear hi)))
          go_ret
          exact ⟨by first | rfl | (simp <;> rfl) | (simp [*] <;> rfl), kR1 HB⟩

/-! ### impl_Disk_cutOk: function 48 -/
def impl_Disk_cutOk.f (l0_0 : List ByteArray) (l0_1 : List (S57)) (a0_2 : Int) (a0_3 : Bool) (l1 : List Bool) (a2 : Int) (a3 : Int) : Option (Bool) := if (l1.length : Int) = (l0_1.length : Int) then ((impl_within.f a2 (-1) (wrap64 ((l0_1.length : Int) - 1))).bind fun t336 => (if t336 = true then ((impl_within.f a3 0 64).bind fun t337 => (some t337)) else (some false))) else (some false)
set_option maxHeartbeats 8000000 in
set_option maxRecDepth 100000 in
theorem impl_Disk_cutOk.calls (A0_0 : Option Addr) (c0_0 : Nat) (l0_0 : List ByteArray) (A0_1 : Option Addr) (c0_1 : Nat) (l0_1 : List (S57)) (a0_2 : Int) (a0_3 : Bool) (A1 : Option Addr) (c1 : Nat) (l1 : List Bool) (a2 : Int) (a3 : Int) (r : Bool) (w : World) (hr0_0 : Kd.C Kd.string w A0_0 l0_0.length l0_0) (hc0_0 : l0_0.length ≤ c0_0) (hr0_1 : Kd.C k57 w A0_1 l0_1.length l0_1) (hc0_1 : l0_1.length ≤ c0_1) (hr1 : Kd.C Kd.bool w A1 l1.length l1) (hc1 : l1.length ≤ c1) (h : impl_Disk_cutOk.f l0_0 l0_1 a0_2 a0_3 l1 a2 a3 = some r) :
    Calls Try.prog 48 #[.agg #[.slice A0_0 l0_0.length c0_0, .slice A0_1 l0_1.length c0_1, .int .i64 a0_2, .bool a0_3], .slice A1 l1.length c1, .int .i64 a2, .int .i64 a3] w fun e w' => e = .returned (.bool r) ∧ Below w.heap.size w w' := by
  have hu44 := Try.underlying44
  have HR0_0 := yD hr0_0
  have HC0_0 := yD hc0_0
  clear hr0_0 hc0_0
  have HR0_1 := yD hr0_1
  have HC0_1 := yD hc0_1
  clear hr0_1 hc0_1
  have HR1 := yD hr1
  have HC1 := yD hc1
  clear hr1 hc1
  have HB := yD (Below.refl w.heap.size w)
  have H : (if (l1.length : Int) = (l0_1.length : Int) then ((impl_within.f a2 (-1) (wrap64 ((l0_1.length : Int) - 1))).bind fun t336 => (if t336 = true then ((impl_within.f a3 0 64).bind fun t337 => (some t337)) else (some false))) else (some false)) = some r := h
  clear h
  by_cases c5 : (l1.length : Int) = (l0_1.length : Int)
  · rw [if_pos c5] at H
    have c5b0 : ((l1.length : Int) == (l0_1.length : Int)) = true := beq_iff_eq.mpr c5
    have c5b1 : ((l1.length : Int) != (l0_1.length : Int)) = false := bne_eq_false_iff_eq.mpr c5
    have c5b2 : (l1.length == l0_1.length) = true := by first | simpa using c5 | (simp at c5 ⊢; omega)
    clear c5
    obtain ⟨t336, A60, H⟩ := zW_ H
    replace H : (if t336 = true then ((impl_within.f a3 0 64).bind fun t337 => (some t337)) else (some false)) = some r := H
    have A6 := yD A60
    clear A60
    by_cases c7 : t336 = true
    · subst c7
      have H1 : ((impl_within.f a3 0 64).bind fun t337 => (some t337)) = some r := by rw [if_pos rfl] at H; exact H
      clear H; have H := H1; clear H1
      obtain ⟨t337, A80, H⟩ := zW_ H
      replace H : (some t337) = some r := H
      have A8 := yD A80
      clear A80; obtain rfl := Option.some.inj H; go_enter Try.func48, Try.ntmps48
      go_wp2_with (first | ((with_reducible refine gate_dst (N := 4) rfl ?_); (try (refine gate_guard (by rfl) ?_; dsimp only)); refine box_event ?hg (N := 4) ?hd (cs := #[.slice A0_0 l0_0.length c0_0, .slice A0_1 l0_1.length c0_1, .int .i64 a0_2, .bool a0_3]) (t := 44) ?hr ?_; (case hd => rfl); (case hg => rfl); (case hr => first | (go_simp; done) | (go_simp; rfl)); intro gb335 hg w9 hbox hb; have n0_ := yD (zC (kB HB) hb); have n1_ := yD (hbox); have n2_ := yD ((by rw [hg]; exact (below_size (kB HB)) : w.heap.size ≤ gb335)); have n3_ := yD ((by rw [hg]; exact (below_size (kB HB)) : w.heap.size ≤ gb335)); clear HB; have HB := n0_; have BK335 := n1_; have GW335 := n2_; have GE335 := n3_; clear n0_ n1_ n2_ n3_; clear hb hbox hg; obtain ⟨hcz10_0, hcz10_1, hcz10_2, hcz10_3⟩ := cz4 BK335.out; obtain ⟨hfz10_0, hfz10_1, hfz10_2, hfz10_3⟩ := fz4 BK335.out) | (go_at_call 70; (with_reducible refine (impl_within.calls a2 (-1) (wrap64 ((l0_1.length : Int) - 1)) true _ A6.out).mono ?_); rintro e w' ⟨rfl, ⟨nd, rfl⟩⟩) | (go_at_call 70; (with_reducible refine (impl_within.calls a3 0 64 t337 _ A8.out).mono ?_); rintro e w' ⟨rfl, ⟨nd, rfl⟩⟩))
      go_ret
      exact ⟨by first | rfl | (simp <;> rfl) | (simp [*] <;> rfl), kR1 HB⟩
    · replace c7 := Bool.eq_false_iff.mpr c7
      subst c7
      have H1 : (some false) = some r := by rw [if_neg (show ¬ (false = true) by decide)] at H; exact H
      clear H; have H := H1; clear H1; obtain rfl := Option.some.inj H; go_enter Try.func48, Try.ntmps48
      go_wp2_with (first | ((with_reducible refine gate_dst (N := 4) rfl ?_); (try (refine gate_guard (by rfl) ?_; dsimp only)); refine box_event ?hg (N := 4) ?hd (cs := #[.slice A0_0 l0_0.length c0_0, .slice A0_1 l0_1.length c0_1, .int .i64 a0_2, .bool a0_3]) (t := 44) ?hr ?_; (case hd => rfl); (case hg => rfl); (case hr => first | (go_simp; done) | (go_simp; rfl)); intro gb335 hg w11 hbox hb; have n0_ := yD (zC (kB HB) hb); have n1_ := yD (hbox); have n2_ := yD ((by rw [hg]; exact (below_size (kB HB)) : w.heap.size ≤ gb335)); have n3_ := yD ((by rw [hg]; exact (below_size (kB HB)) : w.heap.size ≤ gb335)); clear HB; have HB := n0_; have BK335 := n1_; have GW335 := n2_; have GE335 := n3_; clear n0_ n1_ n2_ n3_; clear hb hbox hg; obtain ⟨hcz12_0, hcz12_1, hcz12_2, hcz12_3⟩ := cz4 BK335.out; obtain ⟨hfz12_0, hfz12_1, hfz12_2, hfz12_3⟩ := fz4 BK335.out) | (go_at_call 70; (with_reducible refine (impl_within.calls a2 (-1) (wrap64 ((l0_1.length : Int) - 1)) false _ A6.out).mono ?_); rintro e w' ⟨rfl, ⟨nd, rfl⟩⟩))
      go_ret
      exact ⟨by first | rfl | (simp <;> rfl) | (simp [*] <;> rfl), kR1 HB⟩
  · rw [if_neg c5] at H
    have c5b0 : ((l1.length : Int) == (l0_1.length : Int)) = false := beq_eq_false_iff_ne.mpr c5
    have c5b1 : ((l1.length : Int) != (l0_1.length : Int)) = true := bne_iff_ne.mpr c5
    have c5b2 : (l1.length == l0_1.length) = false := by first | simpa using c5 | (simp at c5 ⊢; omega)
    obtain rfl := Option.some.inj H; go_enter Try.func48, Try.ntmps48
    go_wp2_with (first | ((with_reducible refine gate_dst (N := 4) rfl ?_); (try (refine gate_guard (by rfl) ?_; dsimp only)); refine box_event ?hg (N := 4) ?hd (cs := #[.slice A0_0 l0_0.length c0_0, .slice A0_1 l0_1.length c0_1, .int .i64 a0_2, .bool a0_3]) (t := 44) ?hr ?_; (case hd => rfl); (case hg => rfl); (case hr => first | (go_simp; done) | (go_simp; rfl)); intro gb335 hg w13 hbox hb; have n0_ := yD (zC (kB HB) hb); have n1_ := yD (hbox); have n2_ := yD ((by rw [hg]; exact (below_size (kB HB)) : w.heap.size ≤ gb335)); have n3_ := yD ((by rw [hg]; exact (below_size (kB HB)) : w.heap.size ≤ gb335)); clear HB; have HB := n0_; have BK335 := n1_; have GW335 := n2_; have GE335 := n3_; clear n0_ n1_ n2_ n3_; clear hb hbox hg; obtain ⟨hcz14_0, hcz14_1, hcz14_2, hcz14_3⟩ := cz4 BK335.out; obtain ⟨hfz14_0, hfz14_1, hfz14_2, hfz14_3⟩ := fz4 BK335.out))
    go_ret
    exact ⟨by first | rfl | (simp <;> rfl) | (simp [*] <;> rfl), kR1 HB⟩

/-! ### slices_Clone_string_string_isnil: function 83 -/
def slices_Clone_string_string_isnil.f (l0 : List ByteArray) : Option (List ByteArray) := some ([] : List ByteArray)
set_option maxHeartbeats 8000000 in
set_option maxRecDepth 100000 in
theorem slices_Clone_string_string_isnil.calls (c0 : Nat) (l0 : List ByteArray) (r : List ByteArray) (w : World) (hr0 : Kd.C Kd.string w none l0.length l0) (hc0 : l0.length ≤ c0) (h : slices_Clone_string_string_isnil.f l0 = some r) :
    Calls Try.prog 83 #[.slice none l0.length c0] w fun e w' => ∃ v0_ : Value, e = .returned (v0_) ∧ Kd.R Kd.string 9 w' w.heap.size (fun _ => True) v0_ r ∧ Below w.heap.size w w' := by
  have HR0 := yD hr0
  have HC0 := yD hc0
  clear hr0 hc0
  have HB := yD (Below.refl w.heap.size w)
  have H : (some ([] : List ByteArray)) = some r := h
  clear h; obtain rfl := Option.some.inj H; have q_ : ∀ (w : World) (a : Option Addr) (n c n' c' : Nat), (binOp .eql 36 (.slice a n c) (.slice none n' c')).run Try.prog w = .ok (.bool a.isNone) w := fun w a n c n' c' => Lib.run_eql_slice_nil w _ _ a n c n' c' Try.underlying36; go_enter Try.func83, Try.ntmps83
  go_wp2
  go_ret
  exact ⟨_, by first | rfl | (simp <;> rfl) | (simp [*] <;> rfl), by first | exact Kd.R_nil _ _ _ _ _ | exact Kd.N_nil _ _ _ _ _ | exact Kd.V_nil _ _ _ _ _ | exact Kd.Q_nil _ _ _ _ _ | exact Kd.S_nil _ _ _ _ _, kR0 HB⟩

/-! ### slices_Clone_string_string_nn: function 83 -/
def slices_Clone_string_string_nn.f (l0 : List ByteArray) : Option (List ByteArray) := (some (([] : List ByteArray) : List ByteArray)).bind fun y338 => (if y338.length + l0.length < 8796093022208 then (some (y338 ++ l0)) else (none))
set_option maxHeartbeats 8000000 in
set_option maxRecDepth 100000 in
theorem slices_Clone_string_string_nn.calls (A0 : Addr) (c0 : Nat) (l0 : List ByteArray) (r : List ByteArray) (w : World) (hr0 : Kd.C Kd.string w (some A0) l0.length l0) (hc0 : l0.length ≤ c0) (h : slices_Clone_string_string_nn.f l0 = some r) :
    Calls Try.prog 83 #[.slice (some A0) l0.length c0] w fun e w' => ∃ v0_ : Value, e = .returned (v0_) ∧ Kd.R Kd.string 9 w' w.heap.size (fun _ => True) v0_ r ∧ Below w.heap.size w w' := by
  have HR0 := yD hr0
  have HC0 := yD hc0
  clear hr0 hc0
  have HB := yD (Below.refl w.heap.size w)
  have H : ((some (([] : List ByteArray) : List ByteArray)).bind fun y338 => (if y338.length + l0.length < 8796093022208 then (some (y338 ++ l0)) else (none))) = some r := h
  clear h
  obtain ⟨y338, hy338⟩ : ∃ y_ : List ByteArray, y_ = (([] : List ByteArray)) := ⟨_, rfl⟩
  replace H : (if y338.length + l0.length < 8796093022208 then (some (y338 ++ l0)) else (none)) = some r := by first | (rw [hy338]; with_reducible exact H) | (have H2_ := (Option.bind_some _ _).symm.trans H; rw [hy338]; with_reducible exact H2_) | (have H2_ := (Option.bind_some _ _).symm.trans H; with_reducible exact H2_) | with_reducible exact H | (rw [hy338]; exact H) | exact H
  have Ny338 := yD hy338
  clear hy338
  by_cases c2 : y338.length + l0.length < 8796093022208
  · rw [if_pos c2] at H
    have LMc2 := yD c2
    clear c2
    obtain ⟨y341, hy341⟩ : ∃ y_ : List ByteArray, y_ = (y338 ++ l0) := ⟨_, rfl⟩
    replace H : (some y341) = some r := by first | (rw [hy341]; with_reducible exact H) | (have H2_ := (Option.bind_some _ _).symm.trans H; rw [hy341]; with_reducible exact H2_) | (have H2_ := (Option.bind_some _ _).symm.trans H; with_reducible exact H2_) | with_reducible exact H | (rw [hy341]; exact H) | exact H
    have Ny341 := yD hy341
    clear hy341; obtain rfl := Option.some.inj H; have q_ : ∀ (w : World) (a : Option Addr) (n c n' c' : Nat), (binOp .eql 36 (.slice a n c) (.slice none n' c')).run Try.prog w = .ok (.bool a.isNone) w := fun w a n c n' c' => Lib.run_eql_slice_nil w _ _ a n c n' c' Try.underlying36; go_enter Try.func83, Try.ntmps83
    go_wp2_with (first | ((with_reducible refine gate_dst (N := 5) rfl ?_); refine Kd.R_lit Kd.string _ 9 ?hg (N := 5) ?hd (xs := ([] : List ByteArray)) (inner := []) (ok := fun _ => True) (okp := fun _ => True) ?hr ?hp (fun _ hk => hk) trivial (Below.refl _ _) (Nat.le_refl _) (by simp) ?_; (case hd => rfl); (case hg => rfl); (case hr => first | (go_simp; done) | (go_simp; rfl)); (case hp => exact (Reps.none _ _)); intro v339 w3 ho4 hb hg_ hnew_; clear hg_ hnew_; (first | rw [← Ny338.out] at ho4 | (simp only [Int.reduceToNat] at ho4; rw [← Ny338.out] at ho4)); have n0_ := yD (yZ ho4 (below_size (kB HB))); have n1_ := yD (zC (kB HB) hb); clear HB; have HO340 := n0_; have HB := n1_; clear n0_ n1_; clear hb ho4) | ((with_reducible refine gate_builtin (b := .append) (xs := #[.tmp 5, .tmp 6]) rfl ?_); at_builtin; refine Kd.R_append_rows Kd.string (w0 := w) w.heap.size rfl (.tmp 5) (.tmp 6) 36 9 (.string ⟨#[]⟩) 16 rfl Try.underlying36 info9 rfl (by decide) (by omega) v339 y338 l0 _ _ _ (fun _ => True) (fun _ => False) rfl rfl ?aO ?aR (fun _ _ h => h) (fun _ h => h.elim) ?aF ?aB ?aS ?aL ?_; (case aR => exact kV (yY HR0.out HB.out)); (case aB => exact (kB HB)); (case aF => exact (fun _ _ => trivial)); (case aO => exact (kA HO340)); (case aS => exact (below_size (kB HB))); (case aL => have := LMc2.out; omega); intro v342 w5 ho hb hg hat; rw [← Ny341.out] at ho; have n0_ := yD (hb); have n1_ := yD (ho); clear HB; clear HO340; have HB := n0_; have HO343 := n1_; clear n0_ n1_; clear ho hb hg hat))
    go_ret
    exact ⟨_, by first | rfl | (simp <;> rfl) | (simp [*] <;> rfl), by (with_reducible repeat (first | apply yA | apply yB | apply yC)); exact HO343.out, kR0 HB⟩
  · rw [if_neg c2] at H
    exact absurd H (by simp)

/-! ### slices_Clone_string_string: function 83 -/
def slices_Clone_string_string.f (l0 : List ByteArray) : Option (List ByteArray) := slices_Clone_string_string_nn.f l0
theorem slices_Clone_string_string.calls (A0 : Option Addr) (c0 : Nat) (l0 : List ByteArray) (r : List ByteArray) (w : World) (hr0 : Kd.C Kd.string w A0 l0.length l0) (hc0 : l0.length ≤ c0) (h : slices_Clone_string_string.f l0 = some r) :
    Calls Try.prog 83 #[.slice A0 l0.length c0] w fun e w' => ∃ v0_ : Value, e = .returned (v0_) ∧ Kd.R Kd.string 9 w' w.heap.size (fun _ => True) v0_ r ∧ Below w.heap.size w w' := by
  cases A0 with
  | some A0 => exact slices_Clone_string_string_nn.calls A0 c0 l0 r w hr0 hc0 h
  | none =>
    have hz : l0 = [] := by
      cases l0 with
      | nil => rfl
      | cons x xs => obtain ⟨ad, e, _⟩ := hr0.2.2 (by simp); cases e
    subst hz
    have hr : r = [] := by
      have h' := h
      unfold slices_Clone_string_string.f slices_Clone_string_string_nn.f at h'
      simp at h'
      exact h'
    subst hr
    exact slices_Clone_string_string_isnil.calls c0 [] [] w hr0 hc0 rfl

end Go.Proofs.Ytgpkkplabnliiaa.PFnCuts
