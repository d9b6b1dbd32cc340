/- Each Go function here comes to what the plain function of its name says, where that says something. Made by a program of this session, over the print. -/
import Derived.Test.YtgpkkplabnliiaaPFnCutsx0
import Derived.Test.YtgpkkplabnliiaaPFnCutsx1
namespace Go.Proofs.Ytgpkkplabnliiaa.PFnCuts
open Go.RowKit Go.Proofs.YtgpkkplabnliiaaW.PrintWords Go.Proofs.YtgpkkplabnliiaaW.PrintLast Go.Proofs.YtgpkkplabnliiaaW.PrintMore
attribute [local go_sem] max2_int min2_int max_two min_two max_three min_three max_four min_four   -- for this text's walks alone
set_option linter.unusedVariables false
set_option linter.unusedSimpArgs false

/-! ### spec_l00Src_word: function 88 -/
def spec_l00Src_word.l0 : Nat → List Int → Int → List Int → Int → Int → Option (ByteArray × Int × Int)
  | 0, _, _, _, _, _ => none
  | k + 1, x5, x6, x1000, x1001, x1002 => if x6 > 0 then ((spec_l00Src_next.f x1000 x1001 x1002).bind fun bt154 => (if x5.length < 140737488355328 then (spec_l00Src_word.l0 k (x5 ++ [(bt154.1) % 256]) (wrap64 (x6 - 1)) x1000 bt154.2.1 bt154.2.2) else (none))) else (some (strOfNums x5, x1001, x1002))
def spec_l00Src_word.f (k : Nat) (s0_0 : List Int) (s0_1 : Int) (s0_2 : Int) (a1 : Int) : Option (ByteArray × Int × Int) := (spec_l00Src_pick.f s0_0 s0_1 s0_2 a1).bind fun bt151 => (spec_l00Src_word.l0 k (([] : List Int)) bt151.1 s0_0 bt151.2.1 bt151.2.2)
theorem spec_l00Src_word.mono_l : ∀ k, (∀ y0 y1 y2 y3 y4, LeO (spec_l00Src_word.l0 k y0 y1 y2 y3 y4) (spec_l00Src_word.l0 (k + 1) y0 y1 y2 y3 y4))
  | 0 => fun _ _ _ _ _ r h => by simp [spec_l00Src_word.l0] at h
  | k + 1 => by
    have ih0 := spec_l00Src_word.mono_l k
    · intro y0 y1 y2 y3 y4
      unfold spec_l00Src_word.l0
      repeat' first
      | (with_reducible exact ih0 _ _ _ _ _)
      | (with_reducible exact LeO.refl _)
      | (with_reducible exact LeO.none _)
      | (with_reducible refine LeO.ite ?_ ?_)
      | (with_reducible refine LeO.bind ?_ (fun _ => ?_))
      | exact ih0 _ _ _ _ _
      | exact LeO.none _
      | refine LeO.ite ?_ ?_
      | refine LeO.bind ?_ (fun _ => ?_)
theorem spec_l00Src_word.mono : ∀ a0 a1 a2 a3 k, LeO (spec_l00Src_word.f k a0 a1 a2 a3) (spec_l00Src_word.f (k + 1) a0 a1 a2 a3) := by
  intro a0 a1 a2 a3 k
  have ih0 := spec_l00Src_word.mono_l k
  unfold spec_l00Src_word.f
  repeat' first
      | (with_reducible exact ih0 _ _ _ _ _)
      | (with_reducible exact LeO.refl _)
      | (with_reducible exact LeO.none _)
      | (with_reducible refine LeO.ite ?_ ?_)
      | (with_reducible refine LeO.bind ?_ (fun _ => ?_))
      | exact ih0 _ _ _ _ _
      | exact LeO.none _
      | refine LeO.ite ?_ ?_
      | refine LeO.bind ?_ (fun _ => ?_)
set_option maxHeartbeats 8000000 in
set_option maxRecDepth 100000 in
theorem spec_l00Src_word.calls (k : Nat) (g : Nat) (s0_0 : List Int) (s0_1 : Int) (s0_2 : Int) (a1 : Int) (r1 : ByteArray) (r2 : Int) (r3 : Int) (w0 w : World) (hI : IsS92 w0 w g s0_0 s0_1 s0_2) (hB : Below w0.heap.size w0 w) (h : spec_l00Src_word.f k s0_0 s0_1 s0_2 a1 = some (r1, r2, r3)) :
    Calls Try.prog 88 #[.pointer (some ⟨g, 0, none⟩), .int .i64 a1] w fun e w' => e = .returned (.string r1) ∧ IsS92 w0 w' g s0_0 r2 r3 ∧ Below w0.heap.size w0 w' ∧ KeepBut w w' g none := by
  have HI0 := yD hI
  have HK := yD (KeepBut.refl w g none)
  have HL := yD hB.size
  clear hI
  have HW0 := yD hB.size
  have HB := yD hB
  clear hB
  have H : ((spec_l00Src_pick.f s0_0 s0_1 s0_2 a1).bind fun bt151 => (spec_l00Src_word.l0 k (([] : List Int)) bt151.1 s0_0 bt151.2.1 bt151.2.2)) = some (r1, r2, r3) := h
  clear h
  obtain ⟨y148, hy148⟩ : ∃ y_ : List Int, y_ = (([] : List Int)) := ⟨_, rfl⟩
  replace H : ((spec_l00Src_pick.f s0_0 s0_1 s0_2 a1).bind fun bt151 => (spec_l00Src_word.l0 k y148 bt151.1 s0_0 bt151.2.1 bt151.2.2)) = some (r1, r2, r3) := by first | (rw [hy148]; with_reducible exact H) | (have H2_ := (Option.bind_some _ _).symm.trans H; rw [hy148]; with_reducible exact H2_) | (have H2_ := (Option.bind_some _ _).symm.trans H; with_reducible exact H2_) | with_reducible exact H | (rw [hy148]; exact H) | exact H
  have Ny148 := yD hy148
  clear hy148
  obtain ⟨⟨t151, t152, t153⟩, A30, H⟩ := zW_ H
  replace H : (spec_l00Src_word.l0 k y148 t151 s0_0 t152 t153) = some (r1, r2, r3) := H
  have A3 := yD A30
  clear A30
  have H' := yD H
  clear H; go_enter Try.func88, Try.ntmps88
  go_wp2_with (first | ((with_reducible refine gate_dst (N := 7) rfl ?_); refine Kd.R_lit (Kd.int .u8) _ 5 ?hg (N := 7) ?hd (xs := ([] : List Int)) (inner := []) (ok := fun _ => True) (okp := fun _ => True) ?hr ?hp (fun _ hk => hk) trivial (Below.refl _ _) (Nat.le_refl _) (by simp) ?_; (case hd => rfl); (case hg => rfl); (case hr => first | (go_simp; done) | (go_simp; rfl)); (case hp => exact (Reps.none _ _)); intro v149 w4 ho5 hb hg_ hnew_; clear hg_ hnew_; (first | rw [← Ny148.out] at ho5 | (simp only [Int.reduceToNat] at ho5; rw [← Ny148.out] at ho5)); have n0_ := yD (yZ ho5 (keep_size (w := w) (g := g) (row := none) (kR4 HK))); have n1_ := yD (IsS92.below (kR2 HI0) hb); have n2_ := yD (KeepBut.trans (kR4 HK) (KeepBut.of_below hb g none) (.inl rfl)); have n3_ := yD (zC (kR3 HB) hb); clear HI0; clear HK; clear HB; have HO150 := n0_; have HI0 := n1_; have HK := n2_; have HB := n3_; clear n0_ n1_ n2_ n3_; clear hb ho5) | ((with_reducible refine gate_callee (f := 58) rfl ?_); refine goesL_ (some 10) rfl rfl Try.func58 (by kernel_rfl) rfl #[.pointer (some ⟨g, 0, none⟩), .int .i64 a1] rfl (by (try simp only [zK, zL, zM]); first | done | rfl | (simp only [zN, zO]; rfl)) ?_; (with_reducible refine (spec_l00Src_pick.calls g s0_0 s0_1 s0_2 a1 t151 t152 t153 w0 _ ?side1 ?side2 A3.out).mono ?_); (case side1 => exact kR2 HI0); (case side2 => exact kR3 HB); rintro e w6 ⟨rfl, hi, hb, hk⟩; refine ⟨_, rfl, ?_⟩; have n0_ := yD (zF (Kd.R_keep (IsS92.apart (show IsS92 w0 _ g s0_0 s0_1 s0_2 from kR2 HI0) (kA HO150) (by decide)) hk (fun _ h => h.2)) (fun _ h => h.1)); have n1_ := yD (KeepBut.trans (kR4 HK) hk (.inl rfl)); have n2_ := yD (hb); have n3_ := yD (hi); clear HO150; clear HK; clear HB; clear HI0; have HO150 := n0_; have HK := n1_; have HB := n2_; have HI0 := n3_; clear n0_ n1_ n2_ n3_; (try clear hb); (try clear hb2); (try clear hk); (try clear hi)))
  go_loopg [5, 6] k (fun kq v5 v6 w' => ∃ (x5_1 : List Int) (x6_1 : Int) (x1001_1 : Int) (x1002_1 : Int), v6 = .int .i64 x6_1 ∧ Aside0 (spec_l00Src_word.l0 kq x5_1 x6_1 s0_0 x1001_1 x1002_1 = some (r1, r2, r3)) ∧ Aside0 (kq ≤ k) ∧ Aside0 (Kd.R (Kd.int .u8) 5 w' w.heap.size (fun _ => True) v5 x5_1) ∧ Aside0 (IsS92 w0 w' g s0_0 x1001_1 x1002_1) ∧ Aside0 (KeepBut w w' g none) ∧ Aside0 (Below w0.heap.size w0 w'))
  case atStart => exact ⟨(y148), (t151), (t152), (t153), (by first | rfl | (simp; done) | (simp [*]; done)), H', ⟨Nat.le_refl _⟩, ⟨by (with_reducible repeat (first | apply yA | apply yB | apply yC)); exact HO150.out⟩, ⟨kR2 HI0⟩, ⟨kR4 HK⟩, ⟨kR3 HB⟩⟩
  case round =>
    clear H'
    try clear p2; try clear c5
    obtain ⟨x5_1, x6_1, x1001_1, x1002_1, rfl, HA, HK1, HO_5, HI0, HK, HB⟩ := hrel
    cases gk with
    | zero => exact absurd HA.out (by simp [spec_l00Src_word.l0])
    | succ k1 =>
      have H := HA.out; clear HA
      simp only [spec_l00Src_word.l0] at H
      by_cases c7 : x6_1 > 0
      · rw [if_pos c7] at H
        have c7b0 : decide (0 < x6_1) = true := zR c7; clear c7
        obtain ⟨⟨t154, t155, t156⟩, A80, H⟩ := zW_ H
        replace H : (if x5_1.length < 140737488355328 then (spec_l00Src_word.l0 k1 (x5_1 ++ [(t154) % 256]) (wrap64 (x6_1 - 1)) s0_0 t155 t156) else (none)) = some (r1, r2, r3) := H
        have A8 := yD A80
        clear A80
        by_cases c9 : x5_1.length < 140737488355328
        · rw [if_pos c9] at H
          have LMc9 := yD c9
          clear c9
          obtain ⟨y157, hy157⟩ : ∃ y_ : List Int, y_ = (x5_1 ++ [(t154) % 256]) := ⟨_, rfl⟩
          replace H : (spec_l00Src_word.l0 k1 y157 (wrap64 (x6_1 - 1)) s0_0 t155 t156) = some (r1, r2, r3) := by first | (rw [hy157]; with_reducible exact H) | (have H2_ := (Option.bind_some _ _).symm.trans H; rw [hy157]; with_reducible exact H2_) | (have H2_ := (Option.bind_some _ _).symm.trans H; with_reducible exact H2_) | with_reducible exact H | (rw [hy157]; exact H) | exact H
          have Ny157 := yD hy157
          clear hy157
          have H' := yD H
          clear H
          go_wp2_with (first | ((with_reducible refine gate_callee (f := 90) rfl ?_); refine goesL_ (some 17) rfl rfl Try.func90 (by kernel_rfl) rfl #[.pointer (some ⟨g, 0, none⟩)] rfl (by (try simp only [zK, zL, zM]); first | done | rfl | (simp only [zN, zO]; rfl)) ?_; (with_reducible refine (spec_l00Src_next.calls g s0_0 x1001_1 x1002_1 t154 t155 t156 w0 _ ?side1 ?side2 A8.out).mono ?_); (case side1 => exact kR2 HI0); (case side2 => exact kR3 HB); rintro e w10 ⟨rfl, hi, hb, hk⟩; refine ⟨_, rfl, ?_⟩; have n0_ := yD (zF (Kd.R_keep (IsS92.apart (show IsS92 w0 _ g s0_0 x1001_1 x1002_1 from kR2 HI0) (kA HO_5) (by decide)) hk (fun _ h => h.2)) (fun _ h => h.1)); have n1_ := yD (KeepBut.trans (kR4 HK) hk (.inl rfl)); have n2_ := yD (hb); have n3_ := yD (hi); clear HO_5; clear HK; clear HB; clear HI0; have HO_5 := n0_; have HK := n1_; have HB := n2_; have HI0 := n3_; clear n0_ n1_ n2_ n3_; (try clear hb); (try clear hb2); (try clear hk); (try clear hi)) | ((with_reducible refine gate_builtin (b := .append) (xs := #[.tmp 15, .tmp 19]) rfl ?_); at_builtin; refine Kd.R_append (Kd.int .u8) w.heap.size rfl (.tmp 15) (.tmp 19) 22 5 (.int .u8 0) 1 rfl Try.underlying22 info5 rfl (by decide) (by omega) u5 x5_1 ((t154) % 256) [.int .u8 ((t154) % 256)] (fun _ => True) (fun _ => False) rfl rfl ?aP (fun _ hk => hk.elim) ?aF ?aO (Below.refl _ _) ?aS ?aL ?_; (case aP => exact rfl); (case aF => exact (fun _ _ => trivial)); (case aO => exact (kA HO_5)); (case aS => exact (keep_size (w := w) (g := g) (row := none) (kR4 HK))); (case aL => have := LMc9.out; omega); intro v158 w11 ho hb hg hat; rw [← Ny157.out] at ho; have n0_ := yD (IsS92.grown (kR2 HI0) hg (IsS92.own_ne HI0.out HO_5.out (by decide))); have n1_ := yD (below_weaken (kR3 HB) HL.out hb); have n2_ := yD (KeepBut.trans (kR4 HK) (KeepBut.of_grown hg g) (Kd.R_base2 HO_5.out)); have n3_ := yD (ho); clear HI0; clear HB; clear HK; clear HO_5; have HI0 := n0_; have HB := n1_; have HK := n2_; have HO159 := n3_; clear n0_ n1_ n2_ n3_; clear ho hb hg hat))
          go_roundg k1
          case measure => have := HK1.out; omega
          case rel => exact ⟨(y157), (wrap64 (x6_1 - 1)), (t155), (t156), (by first | rfl | (simp; done) | (simp [*]; done)), H', ⟨by have := HK1.out; omega⟩, ⟨by (with_reducible repeat (first | apply yA | apply yB | apply yC)); exact HO159.out⟩, ⟨kR2 HI0⟩, ⟨kR4 HK⟩, ⟨kR3 HB⟩⟩
        · rw [if_neg c9] at H
          exact absurd H (by simp)
      · rw [if_neg c7] at H
        have c7b0 : decide (0 < x6_1) = false := zS c7; clear c7
        simp only [Option.some.injEq, Prod.mk.injEq] at H
        obtain ⟨rfl, rfl, rfl⟩ := H
        have hcv12 := own_string (P := Try.prog) Try.underlying22 Try.underlying5 Try.underlying9 (Kd.own_of_R HO_5.out)
        go_wp2
        go_ret
        exact ⟨by first | rfl | (simp <;> rfl) | (simp [*] <;> rfl), kR2 HI0, kR3 HB, kR4 HK⟩

end Go.Proofs.Ytgpkkplabnliiaa.PFnCuts
