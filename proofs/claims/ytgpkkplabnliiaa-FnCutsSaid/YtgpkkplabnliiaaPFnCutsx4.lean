/- Each Go function here comes to what the plain function of its name says, where that says something. Made by a program of this session, over the print. -/
import Derived.Test.YtgpkkplabnliiaaPFnCutsx0
import Derived.Test.YtgpkkplabnliiaaPFnCutsx1
import Derived.Test.YtgpkkplabnliiaaPFnCutsx3
namespace Go.Proofs.Ytgpkkplabnliiaa.PFnCuts
open Go.RowKit Go.Proofs.YtgpkkplabnliiaaW.PrintWords Go.Proofs.YtgpkkplabnliiaaW.PrintLast Go.Proofs.YtgpkkplabnliiaaW.PrintMore
attribute [local go_sem] max2_int min2_int max_two min_two max_three min_three max_four min_four   -- for this text's walks alone
set_option linter.unusedVariables false
set_option linter.unusedSimpArgs false

/-! ### spec_l09DrawKept: function 59 -/
def spec_l09DrawKept.l0 : Nat → Int → List Bool → Int → List Int → Int → Int → Option (List Bool × Int × Int)
  | 0, _, _, _, _, _, _ => none
  | k + 1, x1, x5, x6, x1000, x1001, x1002 => if x6 < x1 then ((spec_l00Src_one.f x1000 x1001 x1002 2).bind fun bt263 => (if x5.length < 140737488355328 then (spec_l09DrawKept.l0 k x1 (x5 ++ [bt263.1]) (wrap64 (x6 + 1)) x1000 bt263.2.1 bt263.2.2) else (none))) else (some (x5, x1001, x1002))
def spec_l09DrawKept.f (k : Nat) (s0_0 : List Int) (s0_1 : Int) (s0_2 : Int) (a1 : Int) : Option (List Bool × Int × Int) := spec_l09DrawKept.l0 k a1 (([] : List Bool)) 0 s0_0 s0_1 s0_2
theorem spec_l09DrawKept.mono_l : ∀ k, (∀ y0 y1 y2 y3 y4 y5, LeO (spec_l09DrawKept.l0 k y0 y1 y2 y3 y4 y5) (spec_l09DrawKept.l0 (k + 1) y0 y1 y2 y3 y4 y5))
  | 0 => fun _ _ _ _ _ _ r h => by simp [spec_l09DrawKept.l0] at h
  | k + 1 => by
    have ih0 := spec_l09DrawKept.mono_l k
    · intro y0 y1 y2 y3 y4 y5
      unfold spec_l09DrawKept.l0
      repeat' first
      | (with_reducible exact ih0 _ _ _ _ _ _)
      | (with_reducible exact LeO.refl _)
      | (with_reducible exact LeO.none _)
      | (with_reducible refine LeO.ite ?_ ?_)
      | (with_reducible refine LeO.bind ?_ (fun _ => ?_))
      | exact ih0 _ _ _ _ _ _
      | exact LeO.none _
      | refine LeO.ite ?_ ?_
      | refine LeO.bind ?_ (fun _ => ?_)
theorem spec_l09DrawKept.mono : ∀ a0 a1 a2 a3 k, LeO (spec_l09DrawKept.f k a0 a1 a2 a3) (spec_l09DrawKept.f (k + 1) a0 a1 a2 a3) := by
  intro a0 a1 a2 a3 k
  have ih0 := spec_l09DrawKept.mono_l k
  unfold spec_l09DrawKept.f
  repeat' first
      | (with_reducible exact ih0 _ _ _ _ _ _)
      | (with_reducible exact LeO.refl _)
      | (with_reducible exact LeO.none _)
      | (with_reducible refine LeO.ite ?_ ?_)
      | (with_reducible refine LeO.bind ?_ (fun _ => ?_))
      | exact ih0 _ _ _ _ _ _
      | exact LeO.none _
      | refine LeO.ite ?_ ?_
      | refine LeO.bind ?_ (fun _ => ?_)
set_option maxHeartbeats 8000000 in
set_option maxRecDepth 100000 in
theorem spec_l09DrawKept.calls (k : Nat) (g : Nat) (s0_0 : List Int) (s0_1 : Int) (s0_2 : Int) (a1 : Int) (r1 : List Bool) (r2 : Int) (r3 : Int) (w0 w : World) (hI : IsS92 w0 w g s0_0 s0_1 s0_2) (hB : Below w0.heap.size w0 w) (h : spec_l09DrawKept.f k s0_0 s0_1 s0_2 a1 = some (r1, r2, r3)) :
    Calls Try.prog 59 #[.pointer (some ⟨g, 0, none⟩), .int .i64 a1] w fun e w' => ∃ v0_ : Value, e = .returned (v0_) ∧ Kd.R Kd.bool 4 w' w.heap.size (fun _ => True) v0_ r1 ∧ IsS92 w0 w' g s0_0 r2 r3 ∧ Below w0.heap.size w0 w' ∧ KeepBut w w' g none := by
  have HI0 := yD hI
  have HK := yD (KeepBut.refl w g none)
  have HL := yD hB.size
  clear hI
  have HW0 := yD hB.size
  have HB := yD hB
  clear hB
  have H : (spec_l09DrawKept.l0 k a1 (([] : List Bool)) 0 s0_0 s0_1 s0_2) = some (r1, r2, r3) := h
  clear h
  obtain ⟨y260, hy260⟩ : ∃ y_ : List Bool, y_ = (([] : List Bool)) := ⟨_, rfl⟩
  replace H : (spec_l09DrawKept.l0 k a1 y260 0 s0_0 s0_1 s0_2) = some (r1, r2, r3) := by first | (rw [hy260]; with_reducible exact H) | (have H2_ := (Option.bind_some _ _).symm.trans H; rw [hy260]; with_reducible exact H2_) | (have H2_ := (Option.bind_some _ _).symm.trans H; with_reducible exact H2_) | with_reducible exact H | (rw [hy260]; exact H) | exact H
  have Ny260 := yD hy260
  clear hy260
  have H' := yD H
  clear H; go_enter Try.func59, Try.ntmps59
  go_wp2_with (first | ((with_reducible refine gate_dst (N := 7) rfl ?_); refine Kd.R_lit Kd.bool _ 4 ?hg (N := 7) ?hd (xs := ([] : List Bool)) (inner := []) (ok := fun _ => True) (okp := fun _ => True) ?hr ?hp (fun _ hk => hk) trivial (Below.refl _ _) (Nat.le_refl _) (by simp) ?_; (case hd => rfl); (case hg => rfl); (case hr => first | (go_simp; done) | (go_simp; rfl)); (case hp => exact (Reps.none _ _)); intro v261 w3 ho4 hb hg_ hnew_; clear hg_ hnew_; (first | rw [← Ny260.out] at ho4 | (simp only [Int.reduceToNat] at ho4; rw [← Ny260.out] at ho4)); have n0_ := yD (yZ ho4 (keep_size (w := w) (g := g) (row := none) (kR4 HK))); have n1_ := yD (IsS92.below (kR2 HI0) hb); have n2_ := yD (KeepBut.trans (kR4 HK) (KeepBut.of_below hb g none) (.inl rfl)); have n3_ := yD (zC (kR3 HB) hb); clear HI0; clear HK; clear HB; have HO262 := n0_; have HI0 := n1_; have HK := n2_; have HB := n3_; clear n0_ n1_ n2_ n3_; clear hb ho4))
  go_loopg [5, 6] k (fun kq v5 v6 w' => ∃ (x5_1 : List Bool) (x6_1 : Int) (x1001_1 : Int) (x1002_1 : Int), v6 = .int .i64 x6_1 ∧ Aside0 (spec_l09DrawKept.l0 kq a1 x5_1 x6_1 s0_0 x1001_1 x1002_1 = some (r1, r2, r3)) ∧ Aside0 (kq ≤ k) ∧ Aside0 (Kd.R Kd.bool 4 w' w.heap.size (fun _ => True) v5 x5_1) ∧ Aside0 (IsS92 w0 w' g s0_0 x1001_1 x1002_1) ∧ Aside0 (KeepBut w w' g none) ∧ Aside0 (Below w0.heap.size w0 w'))
  case atStart => exact ⟨(y260), (0), (s0_1), (s0_2), (by first | rfl | (simp; done) | (simp [*]; done)), H', ⟨Nat.le_refl _⟩, ⟨by (with_reducible repeat (first | apply yA | apply yB | apply yC)); exact HO262.out⟩, ⟨kR2 HI0⟩, ⟨kR4 HK⟩, ⟨kR3 HB⟩⟩
  case round =>
    clear H'
    try clear p2
    obtain ⟨x5_1, x6_1, x1001_1, x1002_1, rfl, HA, HK1, HO_5, HI0, HK, HB⟩ := hrel
    cases gk with
    | zero => exact absurd HA.out (by simp [spec_l09DrawKept.l0])
    | succ k1 =>
      have H := HA.out; clear HA
      simp only [spec_l09DrawKept.l0] at H
      by_cases c5 : x6_1 < a1
      · rw [if_pos c5] at H
        have c5b0 : decide (x6_1 < a1) = true := zR c5; clear c5
        obtain ⟨⟨t263, t264, t265⟩, A60, H⟩ := zW_ H
        replace H : (if x5_1.length < 140737488355328 then (spec_l09DrawKept.l0 k1 a1 (x5_1 ++ [t263]) (wrap64 (x6_1 + 1)) s0_0 t264 t265) else (none)) = some (r1, r2, r3) := H
        have A6 := yD A60
        clear A60
        by_cases c7 : x5_1.length < 140737488355328
        · rw [if_pos c7] at H
          have LMc7 := yD c7
          clear c7
          obtain ⟨y266, hy266⟩ : ∃ y_ : List Bool, y_ = (x5_1 ++ [t263]) := ⟨_, rfl⟩
          replace H : (spec_l09DrawKept.l0 k1 a1 y266 (wrap64 (x6_1 + 1)) s0_0 t264 t265) = some (r1, r2, r3) := by first | (rw [hy266]; with_reducible exact H) | (have H2_ := (Option.bind_some _ _).symm.trans H; rw [hy266]; with_reducible exact H2_) | (have H2_ := (Option.bind_some _ _).symm.trans H; with_reducible exact H2_) | with_reducible exact H | (rw [hy266]; exact H) | exact H
          have Ny266 := yD hy266
          clear hy266
          have H' := yD H
          clear H
          go_wp2_with (first | ((with_reducible refine gate_callee (f := 57) rfl ?_); refine goesL_ (some 15) rfl rfl Try.func57 (by kernel_rfl) rfl #[.pointer (some ⟨g, 0, none⟩), .int .i64 2] rfl (by (try simp only [zK, zL, zM]); first | done | rfl | (simp only [zN, zO]; rfl)) ?_; (with_reducible refine (spec_l00Src_one.calls g s0_0 x1001_1 x1002_1 2 t263 t264 t265 w0 _ ?side1 ?side2 A6.out).mono ?_); (case side1 => exact kR2 HI0); (case side2 => exact kR3 HB); rintro e w8 ⟨rfl, hi, hb, hk⟩; refine ⟨_, rfl, ?_⟩; have n0_ := yD (zF (Kd.R_keep (IsS92.apart (show IsS92 w0 _ g s0_0 x1001_1 x1002_1 from kR2 HI0) (kA HO_5) (by decide)) hk (fun _ h => h.2)) (fun _ h => h.1)); have n1_ := yD (KeepBut.trans (kR4 HK) hk (.inl rfl)); have n2_ := yD (hb); have n3_ := yD (hi); clear HO_5; clear HK; clear HB; clear HI0; have HO_5 := n0_; have HK := n1_; have HB := n2_; have HI0 := n3_; clear n0_ n1_ n2_ n3_; (try clear hb); (try clear hb2); (try clear hk); (try clear hi)) | ((with_reducible refine gate_builtin (b := .append) (xs := #[.tmp 13, .tmp 16]) rfl ?_); at_builtin; refine Kd.R_append Kd.bool w.heap.size rfl (.tmp 13) (.tmp 16) 40 4 (.bool false) 1 rfl Try.underlying40 info4 rfl (by decide) (by omega) u5 x5_1 t263 [.bool t263] (fun _ => True) (fun _ => False) rfl rfl ?aP (fun _ hk => hk.elim) ?aF ?aO (Below.refl _ _) ?aS ?aL ?_; (case aP => exact rfl); (case aF => exact (fun _ _ => trivial)); (case aO => exact (kA HO_5)); (case aS => exact (keep_size (w := w) (g := g) (row := none) (kR4 HK))); (case aL => have := LMc7.out; omega); intro v267 w9 ho hb hg hat; rw [← Ny266.out] at ho; have n0_ := yD (IsS92.grown (kR2 HI0) hg (IsS92.own_ne HI0.out HO_5.out (by decide))); have n1_ := yD (below_weaken (kR3 HB) HL.out hb); have n2_ := yD (KeepBut.trans (kR4 HK) (KeepBut.of_grown hg g) (Kd.R_base2 HO_5.out)); have n3_ := yD (ho); clear HI0; clear HB; clear HK; clear HO_5; have HI0 := n0_; have HB := n1_; have HK := n2_; have HO268 := n3_; clear n0_ n1_ n2_ n3_; clear ho hb hg hat))
          go_roundg k1
          case measure => have := HK1.out; omega
          case rel => exact ⟨(y266), (wrap64 (x6_1 + 1)), (t264), (t265), (by first | rfl | (simp; done) | (simp [*]; done)), H', ⟨by have := HK1.out; omega⟩, ⟨by (with_reducible repeat (first | apply yA | apply yB | apply yC)); exact HO268.out⟩, ⟨kR2 HI0⟩, ⟨kR4 HK⟩, ⟨kR3 HB⟩⟩
        · rw [if_neg c7] at H
          exact absurd H (by simp)
      · rw [if_neg c5] at H
        have c5b0 : decide (x6_1 < a1) = false := zS c5; clear c5
        simp only [Option.some.injEq, Prod.mk.injEq] at H
        obtain ⟨rfl, rfl, rfl⟩ := H
        go_wp2
        go_ret
        exact ⟨_, by first | rfl | (simp <;> rfl) | (simp [*] <;> rfl), by (with_reducible repeat (first | apply yA | apply yB | apply yC)); exact HO_5.out, kR2 HI0, kR3 HB, kR4 HK⟩

/-! ### spec_DrawCutPower: function 24 -/
def spec_DrawCutPower.f (k : Nat) (l0 : List Int) : Option (List ByteArray × (List (S57)) × Int × Bool × List Bool × Int × Int) := (spec_l00From.f l0).bind fun bt270 => ((spec_l09Draw.f k bt270.1 bt270.2.1 bt270.2.2 12).bind fun bt274 => ((spec_l00Src_one.f bt270.1 bt274.2.2.2.2.1 bt274.2.2.2.2.2 9).bind fun bt285 => (if bt285.1 = true then ((spec_l00Src_pick.f bt270.1 bt285.2.1 bt285.2.2 3).bind fun bt288 => ((spec_l09DrawKept.f k bt270.1 bt288.2.1 bt288.2.2 (wrap64 ((bt274.2.1.length : Int) + (wrap64 (bt288.1 - 1))))).bind fun bt291 => ((spec_l00Src_pick.f bt270.1 bt291.2.1 bt291.2.2 (wrap64 ((wrap64 ((bt274.2.1.length : Int) + (wrap64 (bt288.1 - 1)))) + 3))).bind fun bt296 => ((spec_l00Src_among.f bt270.1 bt296.2.1 bt296.2.2 (([0, 1, 3, 32, 33, 63, 64, 65, (-1), 40] : List Int))).bind fun bt302 => (some (bt274.1, bt274.2.1, bt274.2.2.1, bt274.2.2.2.1, bt291.1, wrap64 (bt296.1 - 2), bt302.1)))))) else ((spec_l09DrawKept.f k bt270.1 bt285.2.1 bt285.2.2 (bt274.2.1.length : Int)).bind fun bt305 => ((spec_l00Src_pick.f bt270.1 bt305.2.1 bt305.2.2 (wrap64 ((bt274.2.1.length : Int) + 3))).bind fun bt310 => ((spec_l00Src_among.f bt270.1 bt310.2.1 bt310.2.2 (([0, 1, 3, 32, 33, 63, 64, 65, (-1), 40] : List Int))).bind fun bt316 => (some (bt274.1, bt274.2.1, bt274.2.2.1, bt274.2.2.2.1, bt305.1, wrap64 (bt310.1 - 2), bt316.1))))))))
theorem spec_DrawCutPower.mono : ∀ a0 k, LeO (spec_DrawCutPower.f k a0) (spec_DrawCutPower.f (k + 1) a0) := by
  intro a0 k
  unfold spec_DrawCutPower.f
  repeat' first
      | (with_reducible exact spec_l09Draw.mono _ _ _ _ _)
      | (with_reducible exact spec_l09DrawKept.mono _ _ _ _ _)
      | (with_reducible exact LeO.refl _)
      | (with_reducible exact LeO.none _)
      | (with_reducible refine LeO.ite ?_ ?_)
      | (with_reducible refine LeO.bind ?_ (fun _ => ?_))
      | exact spec_l09Draw.mono _ _ _ _ _
      | exact spec_l09DrawKept.mono _ _ _ _ _
      | exact LeO.none _
      | refine LeO.ite ?_ ?_
      | refine LeO.bind ?_ (fun _ => ?_)
def spec_DrawCutPower.T8 : Bool × List (List Nat × List Nat) := (true, [([], []), ([], []), ([], []), ([], []), ([], []), ([3, 4], [3, 4]), ([0, 5, 0], [0]), ([1, 6, 0, 1, 6], [1]), ([2, 7, 0, 1, 2, 6, 7], [2]), ([5, 8, 0, 1, 2, 3, 4, 5, 6, 7, 8], [5])])
def spec_DrawCutPower.B8 : List Nat := [0, 0, 0, 0, 0, 24, 57, 123, 255, 511]
theorem spec_DrawCutPower.tab8 : rtab .any (opsOf Try.f24 8) = spec_DrawCutPower.T8 := by kernel_rfl
theorem spec_DrawCutPower.bits8 : waitsOk spec_DrawCutPower.T8.2 spec_DrawCutPower.B8 = true := by kernel_rfl
set_option maxHeartbeats 8000000 in
set_option maxRecDepth 100000 in
theorem spec_DrawCutPower.calls (k : Nat) (A0 : Option Addr) (c0 : Nat) (l0 : List Int) (r1 : List ByteArray) (r2 : List (S57)) (r3 : Int) (r4 : Bool) (r5 : List Bool) (r6 : Int) (r7 : Int) (w : World) (hr0 : Kd.C (Kd.int .u8) w A0 l0.length l0) (hc0 : l0.length ≤ c0) (h : spec_DrawCutPower.f k l0 = some (r1, r2, r3, r4, r5, r6, r7)) :
    Calls Try.prog 24 #[.slice A0 l0.length c0] w fun e w' => ∃ v0_ v1_ v4_ : Value, e = .returned (.tuple #[.agg #[v0_, v1_, .int .i64 r3, .bool r4], v4_, .int .i64 r6, .int .i64 r7]) ∧ Kd.R Kd.string 9 w' w.heap.size (fun _ => True) v0_ r1 ∧ Kd.R k57 57 w' w.heap.size (fun _ => True) v1_ r2 ∧ Kd.R Kd.bool 4 w' w.heap.size (fun _ => True) v4_ r5 ∧ Below w.heap.size w w' := by
  have hu44 := Try.underlying44
  have HR0 := yD hr0
  have HC0 := yD hc0
  clear hr0 hc0
  have HB := yD (Below.refl w.heap.size w)
  have H : ((spec_l00From.f l0).bind fun bt270 => ((spec_l09Draw.f k bt270.1 bt270.2.1 bt270.2.2 12).bind fun bt274 => ((spec_l00Src_one.f bt270.1 bt274.2.2.2.2.1 bt274.2.2.2.2.2 9).bind fun bt285 => (if bt285.1 = true then ((spec_l00Src_pick.f bt270.1 bt285.2.1 bt285.2.2 3).bind fun bt288 => ((spec_l09DrawKept.f k bt270.1 bt288.2.1 bt288.2.2 (wrap64 ((bt274.2.1.length : Int) + (wrap64 (bt288.1 - 1))))).bind fun bt291 => ((spec_l00Src_pick.f bt270.1 bt291.2.1 bt291.2.2 (wrap64 ((wrap64 ((bt274.2.1.length : Int) + (wrap64 (bt288.1 - 1)))) + 3))).bind fun bt296 => ((spec_l00Src_among.f bt270.1 bt296.2.1 bt296.2.2 (([0, 1, 3, 32, 33, 63, 64, 65, (-1), 40] : List Int))).bind fun bt302 => (some (bt274.1, bt274.2.1, bt274.2.2.1, bt274.2.2.2.1, bt291.1, wrap64 (bt296.1 - 2), bt302.1)))))) else ((spec_l09DrawKept.f k bt270.1 bt285.2.1 bt285.2.2 (bt274.2.1.length : Int)).bind fun bt305 => ((spec_l00Src_pick.f bt270.1 bt305.2.1 bt305.2.2 (wrap64 ((bt274.2.1.length : Int) + 3))).bind fun bt310 => ((spec_l00Src_among.f bt270.1 bt310.2.1 bt310.2.2 (([0, 1, 3, 32, 33, 63, 64, 65, (-1), 40] : List Int))).bind fun bt316 => (some (bt274.1, bt274.2.1, bt274.2.2.1, bt274.2.2.2.1, bt305.1, wrap64 (bt310.1 - 2), bt316.1))))))))) = some (r1, r2, r3, r4, r5, r6, r7) := h
  clear h
  obtain ⟨⟨t270, t271, t272⟩, A20, H⟩ := zW_ H
  replace H : ((spec_l09Draw.f k t270 t271 t272 12).bind fun bt274 => ((spec_l00Src_one.f t270 bt274.2.2.2.2.1 bt274.2.2.2.2.2 9).bind fun bt285 => (if bt285.1 = true then ((spec_l00Src_pick.f t270 bt285.2.1 bt285.2.2 3).bind fun bt288 => ((spec_l09DrawKept.f k t270 bt288.2.1 bt288.2.2 (wrap64 ((bt274.2.1.length : Int) + (wrap64 (bt288.1 - 1))))).bind fun bt291 => ((spec_l00Src_pick.f t270 bt291.2.1 bt291.2.2 (wrap64 ((wrap64 ((bt274.2.1.length : Int) + (wrap64 (bt288.1 - 1)))) + 3))).bind fun bt296 => ((spec_l00Src_among.f t270 bt296.2.1 bt296.2.2 (([0, 1, 3, 32, 33, 63, 64, 65, (-1), 40] : List Int))).bind fun bt302 => (some (bt274.1, bt274.2.1, bt274.2.2.1, bt274.2.2.2.1, bt291.1, wrap64 (bt296.1 - 2), bt302.1)))))) else ((spec_l09DrawKept.f k t270 bt285.2.1 bt285.2.2 (bt274.2.1.length : Int)).bind fun bt305 => ((spec_l00Src_pick.f t270 bt305.2.1 bt305.2.2 (wrap64 ((bt274.2.1.length : Int) + 3))).bind fun bt310 => ((spec_l00Src_among.f t270 bt310.2.1 bt310.2.2 (([0, 1, 3, 32, 33, 63, 64, 65, (-1), 40] : List Int))).bind fun bt316 => (some (bt274.1, bt274.2.1, bt274.2.2.1, bt274.2.2.2.1, bt305.1, wrap64 (bt310.1 - 2), bt316.1)))))))) = some (r1, r2, r3, r4, r5, r6, r7) := H
  have A2 := yD A20
  clear A20
  obtain ⟨⟨t274, t277, t280, t281, t282, t283⟩, A30, H⟩ := zW_ H
  replace H : ((spec_l00Src_one.f t270 t282 t283 9).bind fun bt285 => (if bt285.1 = true then ((spec_l00Src_pick.f t270 bt285.2.1 bt285.2.2 3).bind fun bt288 => ((spec_l09DrawKept.f k t270 bt288.2.1 bt288.2.2 (wrap64 ((t277.length : Int) + (wrap64 (bt288.1 - 1))))).bind fun bt291 => ((spec_l00Src_pick.f t270 bt291.2.1 bt291.2.2 (wrap64 ((wrap64 ((t277.length : Int) + (wrap64 (bt288.1 - 1)))) + 3))).bind fun bt296 => ((spec_l00Src_among.f t270 bt296.2.1 bt296.2.2 (([0, 1, 3, 32, 33, 63, 64, 65, (-1), 40] : List Int))).bind fun bt302 => (some (t274, t277, t280, t281, bt291.1, wrap64 (bt296.1 - 2), bt302.1)))))) else ((spec_l09DrawKept.f k t270 bt285.2.1 bt285.2.2 (t277.length : Int)).bind fun bt305 => ((spec_l00Src_pick.f t270 bt305.2.1 bt305.2.2 (wrap64 ((t277.length : Int) + 3))).bind fun bt310 => ((spec_l00Src_among.f t270 bt310.2.1 bt310.2.2 (([0, 1, 3, 32, 33, 63, 64, 65, (-1), 40] : List Int))).bind fun bt316 => (some (t274, t277, t280, t281, bt305.1, wrap64 (bt310.1 - 2), bt316.1))))))) = some (r1, r2, r3, r4, r5, r6, r7) := H
  have A3 := yD A30
  clear A30
  obtain ⟨⟨t285, t286, t287⟩, A40, H⟩ := zW_ H
  replace H : (if t285 = true then ((spec_l00Src_pick.f t270 t286 t287 3).bind fun bt288 => ((spec_l09DrawKept.f k t270 bt288.2.1 bt288.2.2 (wrap64 ((t277.length : Int) + (wrap64 (bt288.1 - 1))))).bind fun bt291 => ((spec_l00Src_pick.f t270 bt291.2.1 bt291.2.2 (wrap64 ((wrap64 ((t277.length : Int) + (wrap64 (bt288.1 - 1)))) + 3))).bind fun bt296 => ((spec_l00Src_among.f t270 bt296.2.1 bt296.2.2 (([0, 1, 3, 32, 33, 63, 64, 65, (-1), 40] : List Int))).bind fun bt302 => (some (t274, t277, t280, t281, bt291.1, wrap64 (bt296.1 - 2), bt302.1)))))) else ((spec_l09DrawKept.f k t270 t286 t287 (t277.length : Int)).bind fun bt305 => ((spec_l00Src_pick.f t270 bt305.2.1 bt305.2.2 (wrap64 ((t277.length : Int) + 3))).bind fun bt310 => ((spec_l00Src_among.f t270 bt310.2.1 bt310.2.2 (([0, 1, 3, 32, 33, 63, 64, 65, (-1), 40] : List Int))).bind fun bt316 => (some (t274, t277, t280, t281, bt305.1, wrap64 (bt310.1 - 2), bt316.1)))))) = some (r1, r2, r3, r4, r5, r6, r7) := H
  have A4 := yD A40
  clear A40
  by_cases c5 : t285 = true
  · subst c5
    have H1 : ((spec_l00Src_pick.f t270 t286 t287 3).bind fun bt288 => ((spec_l09DrawKept.f k t270 bt288.2.1 bt288.2.2 (wrap64 ((t277.length : Int) + (wrap64 (bt288.1 - 1))))).bind fun bt291 => ((spec_l00Src_pick.f t270 bt291.2.1 bt291.2.2 (wrap64 ((wrap64 ((t277.length : Int) + (wrap64 (bt288.1 - 1)))) + 3))).bind fun bt296 => ((spec_l00Src_among.f t270 bt296.2.1 bt296.2.2 (([0, 1, 3, 32, 33, 63, 64, 65, (-1), 40] : List Int))).bind fun bt302 => (some (t274, t277, t280, t281, bt291.1, wrap64 (bt296.1 - 2), bt302.1)))))) = some (r1, r2, r3, r4, r5, r6, r7) := by rw [if_pos rfl] at H; exact H
    clear H; have H := H1; clear H1
    obtain ⟨⟨t288, t289, t290⟩, A60, H⟩ := zW_ H
    replace H : ((spec_l09DrawKept.f k t270 t289 t290 (wrap64 ((t277.length : Int) + (wrap64 (t288 - 1))))).bind fun bt291 => ((spec_l00Src_pick.f t270 bt291.2.1 bt291.2.2 (wrap64 ((wrap64 ((t277.length : Int) + (wrap64 (t288 - 1)))) + 3))).bind fun bt296 => ((spec_l00Src_among.f t270 bt296.2.1 bt296.2.2 (([0, 1, 3, 32, 33, 63, 64, 65, (-1), 40] : List Int))).bind fun bt302 => (some (t274, t277, t280, t281, bt291.1, wrap64 (bt296.1 - 2), bt302.1))))) = some (r1, r2, r3, r4, r5, r6, r7) := H
    have A6 := yD A60
    clear A60
    obtain ⟨⟨t291, t294, t295⟩, A70, H⟩ := zW_ H
    replace H : ((spec_l00Src_pick.f t270 t294 t295 (wrap64 ((wrap64 ((t277.length : Int) + (wrap64 (t288 - 1)))) + 3))).bind fun bt296 => ((spec_l00Src_among.f t270 bt296.2.1 bt296.2.2 (([0, 1, 3, 32, 33, 63, 64, 65, (-1), 40] : List Int))).bind fun bt302 => (some (t274, t277, t280, t281, t291, wrap64 (bt296.1 - 2), bt302.1)))) = some (r1, r2, r3, r4, r5, r6, r7) := H
    have A7 := yD A70
    clear A70
    obtain ⟨⟨t296, t297, t298⟩, A80, H⟩ := zW_ H
    replace H : ((spec_l00Src_among.f t270 t297 t298 (([0, 1, 3, 32, 33, 63, 64, 65, (-1), 40] : List Int))).bind fun bt302 => (some (t274, t277, t280, t281, t291, wrap64 (t296 - 2), bt302.1))) = some (r1, r2, r3, r4, r5, r6, r7) := H
    have A8 := yD A80
    clear A80
    obtain ⟨y299, hy299⟩ : ∃ y_ : List Int, y_ = (([0, 1, 3, 32, 33, 63, 64, 65, (-1), 40] : List Int)) := ⟨_, rfl⟩
    replace H : ((spec_l00Src_among.f t270 t297 t298 y299).bind fun bt302 => (some (t274, t277, t280, t281, t291, wrap64 (t296 - 2), bt302.1))) = some (r1, r2, r3, r4, r5, r6, r7) := by first | (rw [hy299]; with_reducible exact H) | (have H2_ := (Option.bind_some _ _).symm.trans H; rw [hy299]; with_reducible exact H2_) | (have H2_ := (Option.bind_some _ _).symm.trans H; with_reducible exact H2_) | with_reducible exact H | (rw [hy299]; exact H) | exact H
    have Ny299 := yD hy299
    clear hy299
    obtain ⟨⟨t302, t303, t304⟩, A90, H⟩ := zW_ H
    replace H : (some (t274, t277, t280, t281, t291, wrap64 (t296 - 2), t302)) = some (r1, r2, r3, r4, r5, r6, r7) := H
    have A9 := yD A90
    clear A90
    simp only [Option.some.injEq, Prod.mk.injEq] at H
    obtain ⟨rfl, rfl, rfl, rfl, rfl, rfl, rfl⟩ := H
    go_enter Try.func24, Try.ntmps24
    try go_wp2_with (first | ((with_reducible refine gate_dst (N := 2) rfl ?_); refine box_event ?hg (N := 2) ?hd (cs := #[.slice none 0 0, .slice none 0 0, .int .i64 0, .bool false]) (t := 44) ?hr ?_; (case hd => rfl); (case hg => rfl); (case hr => first | (go_simp; done) | (go_simp; rfl)); intro gb269 hg w10 hbox hb; have n0_ := yD (zC (kB HB) hb); have n1_ := yD (hbox); have n2_ := yD ((by rw [hg]; exact (below_size (kB HB)) : w.heap.size ≤ gb269)); have n3_ := yD ((by rw [hg]; exact (below_size (kB HB)) : w.heap.size ≤ gb269)); clear HB; have HB := n0_; have BK269 := n1_; have GW269 := n2_; have GE269 := n3_; clear n0_ n1_ n2_ n3_; clear hb hbox hg) | ((with_reducible refine gate_callee (f := 25) rfl ?_); refine goesL_ (some 12) rfl rfl Try.func25 (by kernel_rfl) rfl #[.slice A0 l0.length c0] rfl (by (try simp only [zK, zL, zM]); first | done | rfl | (simp only [zN, zO]; rfl)) ?_; (with_reducible refine (spec_l00From.calls _ _ l0 t270 t271 t272 w _ ?side1 ?side2 ?side3 A2.out).mono ?_); (case side1 => exact kR1 HB); (case side2 => exact HR0.out); (case side3 => exact HC0.out); rintro e w11 ⟨g273, rfl, hi, hb, hb2⟩; refine ⟨_, rfl, ?_⟩; have n0_ := yD (zB (g := gb269) (o := .cells #[.slice none 0 0, .slice none 0 0, .int .i64 0, .bool false] 44 (0, 0)) (kM BK269) hb2); have n1_ := yD (hb); have n2_ := yD (hi); have n3_ := yD (IsS92.ne_blk hi (zB (g := gb269) (o := .cells #[.slice none 0 0, .slice none 0 0, .int .i64 0, .bool false] 44 (0, 0)) (kM BK269) hb2) (by decide)); have n4_ := yD (Ne.symm (IsS92.ne_blk hi (zB (g := gb269) (o := .cells #[.slice none 0 0, .slice none 0 0, .int .i64 0, .bool false] 44 (0, 0)) (kM BK269) hb2) (by decide))); clear BK269; clear HB; have BK269 := n0_; have HB := n1_; have HI273 := n2_; have NB273_269 := n3_; have NB269_273 := n4_; clear n0_ n1_ n2_ n3_ n4_; (try clear hb); (try clear hb2); (try clear hk); (try clear hi)) | ((with_reducible refine gate_callee (f := 56) rfl ?_); refine goesL_ (some 14) rfl rfl Try.func56 (by kernel_rfl) rfl #[.pointer (some ⟨g273, 0, none⟩), .int .i64 12] rfl (by (try simp only [zK, zL, zM]); first | done | rfl | (simp only [zN, zO]; rfl)) ?_; (with_reducible refine (spec_l09Draw.calls k g273 t270 t271 t272 12 t274 t277 t280 t281 t282 t283 w _ ?side1 ?side2 A3.out).mono ?_); (case side1 => exact kR5 HI273); (case side2 => exact kR6 HB); rintro e w12 ⟨v275, v278, rfl, ho0, ho1, hi, hb, hk⟩; refine ⟨_, rfl, ?_⟩; have n0_ := yD (KeepBut.blk hk (g' := gb269) (o := .cells #[.slice none 0 0, .slice none 0 0, .int .i64 0, .bool false] 44 (0, 0)) (kM BK269) NB269_273.out (by simp)); have n1_ := yD (yZ ho0 (below_size (kR6 HB))); have n2_ := yD (yZ ho1 (below_size (kR6 HB))); have n3_ := yD (hb); have n4_ := yD (hi); clear BK269; clear HB; clear HI273; have BK269 := n0_; have HO276 := n1_; have HO279 := n2_; have HB := n3_; have HI273 := n4_; clear n0_ n1_ n2_ n3_ n4_; (try clear hb); (try clear hb2); (try clear hk); (try clear hi); (try clear ho0); (try clear ho1)) | ((with_reducible refine gate_dst (N := 7) rfl ?_); refine box_event ?hg (N := 7) ?hd (cs := #[.slice none 0 0, .slice none 0 0, .int .i64 0, .bool false]) (t := 44) ?hr ?_; (case hd => rfl); (case hg => rfl); (case hr => first | (go_simp; done) | (go_simp; rfl)); intro gb284 hg w13 hbox hb; have n0_ := yD (zE (kA HO276) hb); have n1_ := yD (zE (kA HO279) hb); have n2_ := yD (zB (g := gb269) (o := .cells #[.slice none 0 0, .slice none 0 0, .int .i64 0, .bool false] 44 (0, 0)) (kM BK269) hb); have n3_ := yD (IsS92.below (kR5 HI273) hb); have n4_ := yD (zC (kR6 HB) hb); have n5_ := yD (hbox); have n6_ := yD ((by rw [hg]; exact (below_size (kR6 HB)) : w.heap.size ≤ gb284)); have n7_ := yD ((by rw [hg]; exact (below_size (kR6 HB)) : w.heap.size ≤ gb284)); have n8_ := yD ((by rw [hg]; exact Nat.ne_of_lt (blk_lt (g := gb269) (o := .cells #[.slice none 0 0, .slice none 0 0, .int .i64 0, .bool false] 44 (0, 0)) (kM BK269)) : gb269 ≠ gb284)); have n9_ := yD ((by rw [hg]; exact Nat.ne_of_gt (blk_lt (g := gb269) (o := .cells #[.slice none 0 0, .slice none 0 0, .int .i64 0, .bool false] 44 (0, 0)) (kM BK269)) : gb284 ≠ gb269)); have n10_ := yD ((by rw [hg]; exact Nat.ne_of_lt (IsS92.lt (show IsS92 w _ g273 t270 t282 t283 from kR5 HI273)) : g273 ≠ gb284)); have n11_ := yD ((by rw [hg]; exact Nat.ne_of_gt (IsS92.lt (show IsS92 w _ g273 t270 t282 t283 from kR5 HI273)) : gb284 ≠ g273)); clear HO276; clear HO279; clear BK269; clear HI273; clear HB; have HO276 := n0_; have HO279 := n1_; have BK269 := n2_; have HI273 := n3_; have HB := n4_; have BK284 := n5_; have GW284 := n6_; have GE284 := n7_; have NB269_284 := n8_; have NB284_269 := n9_; have NB273_284 := n10_; have NB284_273 := n11_; clear n0_ n1_ n2_ n3_ n4_ n5_ n6_ n7_ n8_ n9_ n10_ n11_; clear hb hbox hg; obtain ⟨Ao14, co14, eo14⟩ := Kd.R_slice HO276.out; subst eo14; have hnb15 := NB284_269.out; have hnc15 := NB269_284.out; have hnb16 := NB284_273.out; have hnc16 := NB273_284.out; obtain ⟨hcz17_0, hcz17_1, hcz17_2, hcz17_3⟩ := cz4 BK284.out; obtain ⟨hfz17_0, hfz17_1, hfz17_2, hfz17_3⟩ := fz4 BK284.out; obtain ⟨Ao18, co18, eo18⟩ := Kd.R_slice HO279.out; subst eo18) | ((with_reducible refine gate_callee (f := 57) rfl ?_); refine goesL_ (some 19) rfl rfl Try.func57 (by kernel_rfl) rfl #[.pointer (some ⟨g273, 0, none⟩), .int .i64 9] rfl (by (try simp only [zK, zL, zM]); first | done | rfl | (simp only [zN, zO]; rfl)) ?_; (with_reducible refine (spec_l00Src_one.calls g273 t270 t282 t283 9 true t286 t287 w _ ?side1 ?side2 A4.out).mono ?_); (case side1 => exact kR5 HI273); (case side2 => exact kR6 HB); rintro e w19 ⟨rfl, hi, hb, hk⟩; refine ⟨_, rfl, ?_⟩; have n0_ := yD (KeepBut.blk hk (g' := gb269) (o := .cells #[.slice none 0 0, .slice none 0 0, .int .i64 0, .bool false] 44 (0, 0)) (by (with_reducible repeat (first | refine yM ?_ _ | refine yO ?_ | refine yN ?_ _)); refine blk_far ?_ NB269_284.out _; (with_reducible repeat (first | refine yM ?_ _ | refine yO ?_ | refine yN ?_ _)); refine blk_far ?_ NB269_284.out _; (with_reducible repeat (first | refine yM ?_ _ | refine yO ?_ | refine yN ?_ _)); refine blk_far ?_ NB269_284.out _; (with_reducible repeat (first | refine yM ?_ _ | refine yO ?_ | refine yN ?_ _)); refine blk_far ?_ NB269_284.out _; (with_reducible repeat (first | refine yM ?_ _ | refine yO ?_ | refine yN ?_ _)); exact BK269.out) NB269_273.out (by simp)); have n1_ := yD (zF (Kd.R_keep (IsS92.apart (show IsS92 w _ g273 t270 t282 t283 from kR5 HI273) (by (with_reducible repeat (first | apply yA | apply yB | apply yC)); exact (zF (yF (p := ⟨gb284, 3, none⟩) (yF (p := ⟨gb284, 2, none⟩) (yF (p := ⟨gb284, 1, none⟩) (yF (p := ⟨gb284, 0, none⟩) (Kd.R_types HO276.out BK284.out (by decide)) (fun _ hk => hk.2) (.slice Ao14 t274.length co14)) (fun _ hk => hk.2) (.slice Ao18 t277.length co18)) (fun _ hk => hk.2) (.int .i64 t280)) (fun _ hk => hk.2) (.bool t281)) (fun _ h_ => h_.1))) (by decide)) hk (fun _ h => h.2)) (fun _ h => h.1)); have n2_ := yD (zF (Kd.R_keep (IsS92.apart (show IsS92 w _ g273 t270 t282 t283 from kR5 HI273) (by (with_reducible repeat (first | apply yA | apply yB | apply yC)); exact (zF (yF (p := ⟨gb284, 3, none⟩) (yF (p := ⟨gb284, 2, none⟩) (yF (p := ⟨gb284, 1, none⟩) (yF (p := ⟨gb284, 0, none⟩) (Kd.R_types HO279.out BK284.out (by decide)) (fun _ hk => hk.2) (.slice Ao14 t274.length co14)) (fun _ hk => hk.2) (.slice Ao18 t277.length co18)) (fun _ hk => hk.2) (.int .i64 t280)) (fun _ hk => hk.2) (.bool t281)) (fun _ h_ => h_.1))) (by decide)) hk (fun _ h => h.2)) (fun _ h => h.1)); have n3_ := yD (KeepBut.blk hk (g' := gb284) (o := .cells #[.slice Ao14 t274.length co14, .slice Ao18 t277.length co18, .int .i64 t280, .bool t281] 44 (0, 0)) (by (with_reducible repeat (first | refine yM ?_ _ | refine yO ?_ | refine yN ?_ _)); refine blk_put (cs := #[.slice Ao14 t274.length co14, .slice Ao18 t277.length co18, .int .i64 t280, .bool false]) ?_ 3 _ rfl; (with_reducible repeat (first | refine yM ?_ _ | refine yO ?_ | refine yN ?_ _)); refine blk_put (cs := #[.slice Ao14 t274.length co14, .slice Ao18 t277.length co18, .int .i64 0, .bool false]) ?_ 2 _ rfl; (with_reducible repeat (first | refine yM ?_ _ | refine yO ?_ | refine yN ?_ _)); refine blk_put (cs := #[.slice Ao14 t274.length co14, .slice none 0 0, .int .i64 0, .bool false]) ?_ 1 _ rfl; (with_reducible repeat (first | refine yM ?_ _ | refine yO ?_ | refine yN ?_ _)); refine blk_put (cs := #[.slice none 0 0, .slice none 0 0, .int .i64 0, .bool false]) ?_ 0 _ rfl; (with_reducible repeat (first | refine yM ?_ _ | refine yO ?_ | refine yN ?_ _)); exact BK284.out) NB284_273.out (by simp)); have n4_ := yD (hb); have n5_ := yD (hi); clear BK269; clear HO276; clear HO279; clear BK284; clear HB; clear HI273; have BK269 := n0_; have HO276 := n1_; have HO279 := n2_; have BK284 := n3_; have HB := n4_; have HI273 := n5_; clear n0_ n1_ n2_ n3_ n4_ n5_; (try clear hb); (try clear hb2); (try clear hk); (try clear hi)) | ((with_reducible refine gate_callee (f := 58) rfl ?_); refine goesL_ (some 22) rfl rfl Try.func58 (by kernel_rfl) rfl #[.pointer (some ⟨g273, 0, none⟩), .int .i64 3] rfl (by (try simp only [zK, zL, zM]); first | done | rfl | (simp only [zN, zO]; rfl)) ?_; (with_reducible refine (spec_l00Src_pick.calls g273 t270 t286 t287 3 t288 t289 t290 w _ ?side1 ?side2 A6.out).mono ?_); (case side1 => exact kR5 HI273); (case side2 => exact kR6 HB); rintro e w20 ⟨rfl, hi, hb, hk⟩; refine ⟨_, rfl, ?_⟩; have n0_ := yD (KeepBut.blk hk (g' := gb269) (o := .cells #[.slice none 0 0, .slice none 0 0, .int .i64 0, .bool false] 44 (0, 0)) (kM BK269) NB269_273.out (by simp)); have n1_ := yD (zF (Kd.R_keep (IsS92.apart (show IsS92 w _ g273 t270 t286 t287 from kR5 HI273) (kA HO276) (by decide)) hk (fun _ h => h.2)) (fun _ h => h.1)); have n2_ := yD (zF (Kd.R_keep (IsS92.apart (show IsS92 w _ g273 t270 t286 t287 from kR5 HI273) (kA HO279) (by decide)) hk (fun _ h => h.2)) (fun _ h => h.1)); have n3_ := yD (KeepBut.blk hk (g' := gb284) (o := .cells #[.slice Ao14 t274.length co14, .slice Ao18 t277.length co18, .int .i64 t280, .bool t281] 44 (0, 0)) (kM BK284) NB284_273.out (by simp)); have n4_ := yD (hb); have n5_ := yD (hi); clear BK269; clear HO276; clear HO279; clear BK284; clear HB; clear HI273; have BK269 := n0_; have HO276 := n1_; have HO279 := n2_; have BK284 := n3_; have HB := n4_; have HI273 := n5_; clear n0_ n1_ n2_ n3_ n4_ n5_; (try clear hb); (try clear hb2); (try clear hk); (try clear hi)) | ((with_reducible refine gate_callee (f := 59) rfl ?_); refine goesL_ (some 27) rfl rfl Try.func59 (by kernel_rfl) rfl #[.pointer (some ⟨g273, 0, none⟩), .int .i64 (wrap64 ((t277.length : Int) + (wrap64 (t288 - 1))))] rfl (by (try simp only [zK, zL, zM]); first | done | rfl | (simp only [zN, zO]; rfl)) ?_; (with_reducible refine (spec_l09DrawKept.calls k g273 t270 t289 t290 (wrap64 ((t277.length : Int) + (wrap64 (t288 - 1)))) t291 t294 t295 w _ ?side1 ?side2 A7.out).mono ?_); (case side1 => exact kR5 HI273); (case side2 => exact kR6 HB); rintro e w21 ⟨v292, rfl, ho0, hi, hb, hk⟩; refine ⟨_, rfl, ?_⟩; have n0_ := yD (KeepBut.blk hk (g' := gb269) (o := .cells #[.slice none 0 0, .slice none 0 0, .int .i64 0, .bool false] 44 (0, 0)) (kM BK269) NB269_273.out (by simp)); have n1_ := yD (zF (Kd.R_keep (IsS92.apart (show IsS92 w _ g273 t270 t289 t290 from kR5 HI273) (kA HO276) (by decide)) hk (fun _ h => h.2)) (fun _ h => h.1)); have n2_ := yD (zF (Kd.R_keep (IsS92.apart (show IsS92 w _ g273 t270 t289 t290 from kR5 HI273) (kA HO279) (by decide)) hk (fun _ h => h.2)) (fun _ h => h.1)); have n3_ := yD (KeepBut.blk hk (g' := gb284) (o := .cells #[.slice Ao14 t274.length co14, .slice Ao18 t277.length co18, .int .i64 t280, .bool t281] 44 (0, 0)) (kM BK284) NB284_273.out (by simp)); have n4_ := yD (yZ ho0 (below_size (kR6 HB))); have n5_ := yD (hb); have n6_ := yD (hi); clear BK269; clear HO276; clear HO279; clear BK284; clear HB; clear HI273; have BK269 := n0_; have HO276 := n1_; have HO279 := n2_; have BK284 := n3_; have HO293 := n4_; have HB := n5_; have HI273 := n6_; clear n0_ n1_ n2_ n3_ n4_ n5_ n6_; (try clear hb); (try clear hb2); (try clear hk); (try clear hi); (try clear ho0)) | ((with_reducible refine gate_callee (f := 58) rfl ?_); refine goesL_ (some 31) rfl rfl Try.func58 (by kernel_rfl) rfl #[.pointer (some ⟨g273, 0, none⟩), .int .i64 (wrap64 ((wrap64 ((t277.length : Int) + (wrap64 (t288 - 1)))) + 3))] rfl (by (try simp only [zK, zL, zM]); first | done | rfl | (simp only [zN, zO]; rfl)) ?_; (with_reducible refine (spec_l00Src_pick.calls g273 t270 t294 t295 (wrap64 ((wrap64 ((t277.length : Int) + (wrap64 (t288 - 1)))) + 3)) t296 t297 t298 w _ ?side1 ?side2 A8.out).mono ?_); (case side1 => exact kR5 HI273); (case side2 => exact kR6 HB); rintro e w22 ⟨rfl, hi, hb, hk⟩; refine ⟨_, rfl, ?_⟩; have n0_ := yD (KeepBut.blk hk (g' := gb269) (o := .cells #[.slice none 0 0, .slice none 0 0, .int .i64 0, .bool false] 44 (0, 0)) (kM BK269) NB269_273.out (by simp)); have n1_ := yD (zF (Kd.R_keep (IsS92.apart (show IsS92 w _ g273 t270 t294 t295 from kR5 HI273) (kA HO276) (by decide)) hk (fun _ h => h.2)) (fun _ h => h.1)); have n2_ := yD (zF (Kd.R_keep (IsS92.apart (show IsS92 w _ g273 t270 t294 t295 from kR5 HI273) (kA HO279) (by decide)) hk (fun _ h => h.2)) (fun _ h => h.1)); have n3_ := yD (KeepBut.blk hk (g' := gb284) (o := .cells #[.slice Ao14 t274.length co14, .slice Ao18 t277.length co18, .int .i64 t280, .bool t281] 44 (0, 0)) (kM BK284) NB284_273.out (by simp)); have n4_ := yD (zF (Kd.R_keep (IsS92.apart (show IsS92 w _ g273 t270 t294 t295 from kR5 HI273) (kA HO293) (by decide)) hk (fun _ h => h.2)) (fun _ h => h.1)); have n5_ := yD (hb); have n6_ := yD (hi); clear BK269; clear HO276; clear HO279; clear BK284; clear HO293; clear HB; clear HI273; have BK269 := n0_; have HO276 := n1_; have HO279 := n2_; have BK284 := n3_; have HO293 := n4_; have HB := n5_; have HI273 := n6_; clear n0_ n1_ n2_ n3_ n4_ n5_ n6_; (try clear hb); (try clear hb2); (try clear hk); (try clear hi)))
    have n0_ := yD (yC HO276.out)
    have n1_ := yD (yC HO279.out)
    have n2_ := yD (yC HO293.out)
    have n3_ := yD (yO BK269.out)
    have n4_ := yD (yO BK284.out)
    have n5_ := yD (IsS92.drew HI273.out)
    have n6_ := yD (yP HB.out)
    clear HO276 HO279 HO293 BK269 BK284 HI273 HB; have HO276 := n0_; have HO279 := n1_; have HO293 := n2_; have BK269 := n3_; have BK284 := n4_; have HI273 := n5_; have HB := n6_; clear n0_ n1_ n2_ n3_ n4_ n5_ n6_
    refine start_ (n := 10) (S := fun w' => w'.cell? ⟨gb284, 0, none⟩ = some (.slice Ao14 t274.length co14) ∧ w'.cell? ⟨gb284, 1, none⟩ = some (.slice Ao18 t277.length co18) ∧ w'.cell? ⟨gb284, 2, none⟩ = some (.int .i64 t280) ∧ w'.cell? ⟨gb284, 3, none⟩ = some (.bool t281)) (ds := []) (bz 10 0) (by kernel_rfl) rfl rfl ⟨(yG BK284.out 0).trans rfl, (yG BK284.out 1).trans rfl, (yG BK284.out 2).trans rfl, (yG BK284.out 3).trans rfl⟩ (fun hHeld => ?_); refine with_tabW spec_DrawCutPower.tab8 spec_DrawCutPower.bits8 (fun HT_ HW_ => ?_)
    generalize w22.drew = w23 at HO276 HO279 HO293 BK269 BK284 HI273 HB hHeld ⊢
    refine qA 1 34 (bz 10 2) HT_ ?_
    refine qA 2 35 (bz 10 6) HT_ ?_
    refine qA 3 36 (bz 10 14) HT_ ?_
    refine qC 0 33 (bz 10 15) HT_ HW_ hHeld ?_ (hy := by rintro w' ⟨s0, s1, s2, s3⟩; go_simp; with_reducible rfl)
    refine one_ (i := 4) (N := some 37) (bz 10 31) rfl rfl (one_of HT_.out (by kernel_rfl)) (by decide) (fun K hK => ?_)
    refine Kd.R_lit_step (Kd.int .i64) _ 2 ?hg (N := 37) ?hd (xs := ([0, 1, 3, 32, 33, 63, 64, 65, (-1), 40] : List Int)) (inner := [.int .i64 0, .int .i64 1, .int .i64 3, .int .i64 32, .int .i64 33, .int .i64 63, .int .i64 64, .int .i64 65, .int .i64 (-1), .int .i64 40]) (ok := fun _ => True) (okp := fun _ => True) ?hr ?hp (fun _ hk => hk) trivial (Below.refl _ _) (Nat.le_refl _) (by simp) ?_; (case hd => rfl); (case hg => rfl); (case hr => first | (go_simp; done) | (go_simp; rfl)); (case hp => exact (Reps.one (show Kd.M (Kd.int .i64) _ _ _ 0 [.int .i64 0] from rfl) (Reps.one (show Kd.M (Kd.int .i64) _ _ _ 1 [.int .i64 1] from rfl) (Reps.one (show Kd.M (Kd.int .i64) _ _ _ 3 [.int .i64 3] from rfl) (Reps.one (show Kd.M (Kd.int .i64) _ _ _ 32 [.int .i64 32] from rfl) (Reps.one (show Kd.M (Kd.int .i64) _ _ _ 33 [.int .i64 33] from rfl) (Reps.one (show Kd.M (Kd.int .i64) _ _ _ 63 [.int .i64 63] from rfl) (Reps.one (show Kd.M (Kd.int .i64) _ _ _ 64 [.int .i64 64] from rfl) (Reps.one (show Kd.M (Kd.int .i64) _ _ _ 65 [.int .i64 65] from rfl) (Reps.one (show Kd.M (Kd.int .i64) _ _ _ (-1) [.int .i64 (-1)] from rfl) (Reps.one (show Kd.M (Kd.int .i64) _ _ _ 40 [.int .i64 40] from rfl) (Reps.none _ _))))))))))))
    intro v300 w24 ho25 hb hg_ hnew_
    clear hg_ hnew_
    (first | rw [← Ny299.out] at ho25 | (simp only [Int.reduceToNat] at ho25; rw [← Ny299.out] at ho25))
    have n0_ := yD (zE (kA HO276) hb)
    have n1_ := yD (zE (kA HO279) hb)
    have n2_ := yD (zE (kA HO293) hb)
    have n3_ := yD (yZ ho25 (below_size (kR6 HB)))
    have n4_ := yD (zB (g := gb269) (o := .cells #[.slice none 0 0, .slice none 0 0, .int .i64 0, .bool false] 44 (0, 0)) (kM BK269) hb)
    have n5_ := yD (IsS92.below (kR5 HI273) hb)
    have n6_ := yD (zB (g := gb284) (o := .cells #[.slice Ao14 t274.length co14, .slice Ao18 t277.length co18, .int .i64 t280, .bool t281] 44 (0, 0)) (kM BK284) hb)
    have n7_ := yD (zC (kR6 HB) hb)
    clear HO276 HO279 HO293 BK269 HI273 BK284 HB; have HO276 := n0_; have HO279 := n1_; have HO293 := n2_; have HO301 := n3_; have BK269 := n4_; have HI273 := n5_; have BK284 := n6_; have HB := n7_; clear n0_ n1_ n2_ n3_ n4_ n5_ n6_ n7_ hb ho25
    obtain ⟨Ao26, co26, eo26⟩ := Kd.R_slice HO301.out
    (first | subst eo26 | (injection eo26 with f1_ f2_ f3_; have f4_ := f1_.symm; have f5_ := f3_.symm; clear f1_ f2_ f3_; subst f4_; subst f5_))
    refine hK.out _ _ ⟨(yG BK284.out 0).trans rfl, (yG BK284.out 1).trans rfl, (yG BK284.out 2).trans rfl, (yG BK284.out 3).trans rfl⟩ (fun hHeld => ?_)
    clear hK K
    refine norm_ (a' := ?_) ?_ ?_
    rotate_left
    · show Act.put _ (some 37) _ = _
      simp only [Act.put, zH, zI, zJ, i64_w, i32_w]
      rfl
    refine one_ (i := 5) (N := some 38) (bz 10 63) rfl rfl (one_of HT_.out (by kernel_rfl)) (by decide) (fun K hK => ?_)
    refine goes_ Try.func60 (by kernel_rfl) rfl #[.pointer (some ⟨g273, 0, none⟩), .slice Ao26 y299.length co26] (by rfl) rfl rfl (by (try simp only [zK, zL, zM]); first | done | rfl | (simp only [zN, zO]; rfl)) ?_
    with_reducible refine (spec_l00Src_among.calls g273 t270 t297 t298 _ _ y299 t302 t303 t304 w _ ?side1 ?side2 ?side3 ?side4 ?side5 A9.out).mono ?_
    (case side1 => exact kR5 HI273)
    (case side2 => exact kR6 HB)
    (case side3 => exact kV (zA HO301.out).2.2)
    (case side4 => exact (zA HO301.out).2.1)
    (case side5 => exact far_slice (IsS92.own_ne HI273.out HO301.out (by decide)))
    rintro e w27 ⟨rfl, hi, hb, hk⟩
    refine ⟨_, rfl, ?_⟩
    have n0_ := yD (KeepBut.blk hk (g' := gb269) (o := .cells #[.slice none 0 0, .slice none 0 0, .int .i64 0, .bool false] 44 (0, 0)) (kM BK269) NB269_273.out (by simp))
    have n1_ := yD (zF (Kd.R_keep (IsS92.apart (show IsS92 w _ g273 t270 t297 t298 from kR5 HI273) (kA HO276) (by decide)) hk (fun _ h => h.2)) (fun _ h => h.1))
    have n2_ := yD (zF (Kd.R_keep (IsS92.apart (show IsS92 w _ g273 t270 t297 t298 from kR5 HI273) (kA HO279) (by decide)) hk (fun _ h => h.2)) (fun _ h => h.1))
    have n3_ := yD (KeepBut.blk hk (g' := gb284) (o := .cells #[.slice Ao14 t274.length co14, .slice Ao18 t277.length co18, .int .i64 t280, .bool t281] 44 (0, 0)) (kM BK284) NB284_273.out (by simp))
    have n4_ := yD (zF (Kd.R_keep (IsS92.apart (show IsS92 w _ g273 t270 t297 t298 from kR5 HI273) (kA HO293) (by decide)) hk (fun _ h => h.2)) (fun _ h => h.1))
    have n5_ := yD (zF (Kd.R_keep (IsS92.apart (show IsS92 w _ g273 t270 t297 t298 from kR5 HI273) (kA HO301) (by decide)) hk (fun _ h => h.2)) (fun _ h => h.1))
    have n6_ := yD (hb)
    have n7_ := yD (hi)
    clear BK269 HO276 HO279 BK284 HO293 HO301 HB HI273; have BK269 := n0_; have HO276 := n1_; have HO279 := n2_; have BK284 := n3_; have HO293 := n4_; have HO301 := n5_; have HB := n6_; have HI273 := n7_; clear n0_ n1_ n2_ n3_ n4_ n5_ n6_ n7_; (try clear hb); (try clear hb2); (try clear hk); (try clear hi)
    refine hK.out _ _ ⟨(yG BK284.out 0).trans rfl, (yG BK284.out 1).trans rfl, (yG BK284.out 2).trans rfl, (yG BK284.out 3).trans rfl⟩ (fun hHeld => ?_)
    clear hK K
    refine norm_ (a' := ?_) ?_ ?_
    rotate_left
    · show Act.put _ (some 38) _ = _
      simp only [Act.put, zH, zI, zJ, i64_w, i32_w]
      rfl
    refine one_ (i := 6) (N := none) (bz 10 127) rfl rfl (one_of HT_.out (by kernel_rfl)) (by decide) (fun K hK => ?_)
    have hs28 : w27.cell? ⟨gb269, 0, none⟩ = some (.slice none 0 0) := (yG BK269.out 0).trans rfl
    have hfs28 := yR BK269.out 0
    have hns28_1 := NB284_269.out; have hms28_1 := NB269_284.out
    have hs29 : w27.cell? ⟨gb269, 1, none⟩ = some (.slice none 0 0) := (yG BK269.out 1).trans rfl
    have hfs29 := yR BK269.out 1
    have hns29_1 := NB284_269.out; have hms29_1 := NB269_284.out
    have hs30 : w27.cell? ⟨gb269, 2, none⟩ = some (.int .i64 0) := (yG BK269.out 2).trans rfl
    have hfs30 := yR BK269.out 2
    have hns30_1 := NB284_269.out; have hms30_1 := NB269_284.out
    have hs31 : w27.cell? ⟨gb269, 3, none⟩ = some (.bool false) := (yG BK269.out 3).trans rfl
    have hfs31 := yR BK269.out 3
    have hns31_1 := NB284_269.out; have hms31_1 := NB269_284.out
    refine skip_ (w1 := ?_) (by rfl) rfl ?_ ?_
    rotate_left
    · go_simp
      rfl
    refine hK.out _ _ ⟨((cell_far (p := ⟨gb269, _, none⟩) NB284_269.out _).trans (((cell_far (p := ⟨gb269, _, none⟩) NB284_269.out _).trans (((cell_far (p := ⟨gb269, _, none⟩) NB284_269.out _).trans (((cell_far (p := ⟨gb269, _, none⟩) NB284_269.out _).trans (hHeld.1)))))))), ((cell_far (p := ⟨gb269, _, none⟩) NB284_269.out _).trans (((cell_far (p := ⟨gb269, _, none⟩) NB284_269.out _).trans (((cell_far (p := ⟨gb269, _, none⟩) NB284_269.out _).trans (((cell_far (p := ⟨gb269, _, none⟩) NB284_269.out _).trans (hHeld.2.1)))))))), ((cell_far (p := ⟨gb269, _, none⟩) NB284_269.out _).trans (((cell_far (p := ⟨gb269, _, none⟩) NB284_269.out _).trans (((cell_far (p := ⟨gb269, _, none⟩) NB284_269.out _).trans (((cell_far (p := ⟨gb269, _, none⟩) NB284_269.out _).trans (hHeld.2.2.1)))))))), ((cell_far (p := ⟨gb269, _, none⟩) NB284_269.out _).trans (((cell_far (p := ⟨gb269, _, none⟩) NB284_269.out _).trans (((cell_far (p := ⟨gb269, _, none⟩) NB284_269.out _).trans (((cell_far (p := ⟨gb269, _, none⟩) NB284_269.out _).trans (hHeld.2.2.2))))))))⟩ (fun hHeld => ?_)
    clear hK K
    refine qA 7 3 (bz 10 255) HT_ ?_
    refine qA 8 4 (bz 10 511) HT_ ?_
    refine qA 9 5 (bz 10 1023) HT_ ?_
    refine done_ (done_of HT_.out (by kernel_rfl)) ?_
    try go_wp2
    refine bodyPost_ret (results_list (rs := [.cell 2 44, .tmp 3, .tmp 4, .tmp 5]) rfl (by simp) (.cell gb269 44 #[.slice Ao14 t274.length co14, .slice Ao18 t277.length co18, .int .i64 t280, .bool t281] (0, 0) _ rfl (by (with_reducible repeat (first | refine yM ?_ _ | refine yO ?_ | refine yN ?_ _)); refine blk_put (cs := #[.slice Ao14 t274.length co14, .slice Ao18 t277.length co18, .int .i64 t280, .bool false]) ?_ 3 _ rfl; (with_reducible repeat (first | refine yM ?_ _ | refine yO ?_ | refine yN ?_ _)); refine blk_put (cs := #[.slice Ao14 t274.length co14, .slice Ao18 t277.length co18, .int .i64 0, .bool false]) ?_ 2 _ rfl; (with_reducible repeat (first | refine yM ?_ _ | refine yO ?_ | refine yN ?_ _)); refine blk_put (cs := #[.slice Ao14 t274.length co14, .slice none 0 0, .int .i64 0, .bool false]) ?_ 1 _ rfl; (with_reducible repeat (first | refine yM ?_ _ | refine yO ?_ | refine yN ?_ _)); refine blk_put (cs := #[.slice none 0 0, .slice none 0 0, .int .i64 0, .bool false]) ?_ 0 _ rfl; (with_reducible repeat (first | refine yM ?_ _ | refine yO ?_ | refine yN ?_ _)); exact BK269.out) Try.underlying44 rfl (by kernel_rfl) (.tmp (.tmp (.tmp .nil))))) rfl ?_
    exact ⟨_, _, _, by first | rfl | (simp <;> rfl) | (simp [*] <;> rfl), by (with_reducible repeat (first | apply yA | apply yB | apply yC)); exact zF (yF (p := ⟨gb269, 3, none⟩) (yF (p := ⟨gb269, 2, none⟩) (yF (p := ⟨gb269, 1, none⟩) (yF (p := ⟨gb269, 0, none⟩) (Kd.R_types HO276.out BK269.out (by decide)) (fun _ hk => hk.2) (.slice Ao14 t274.length co14)) (fun _ hk => hk.2) (.slice Ao18 t277.length co18)) (fun _ hk => hk.2) (.int .i64 t280)) (fun _ hk => hk.2) (.bool t281)) (fun _ hk => trivial), by (with_reducible repeat (first | apply yA | apply yB | apply yC)); exact zF (yF (p := ⟨gb269, 3, none⟩) (yF (p := ⟨gb269, 2, none⟩) (yF (p := ⟨gb269, 1, none⟩) (yF (p := ⟨gb269, 0, none⟩) (Kd.R_types HO279.out BK269.out (by decide)) (fun _ hk => hk.2) (.slice Ao14 t274.length co14)) (fun _ hk => hk.2) (.slice Ao18 t277.length co18)) (fun _ hk => hk.2) (.int .i64 t280)) (fun _ hk => hk.2) (.bool t281)) (fun _ hk => trivial), by (with_reducible repeat (first | apply yA | apply yB | apply yC)); exact zF (yF (p := ⟨gb269, 3, none⟩) (yF (p := ⟨gb269, 2, none⟩) (yF (p := ⟨gb269, 1, none⟩) (yF (p := ⟨gb269, 0, none⟩) (Kd.R_types HO293.out BK269.out (by decide)) (fun _ hk => hk.2) (.slice Ao14 t274.length co14)) (fun _ hk => hk.2) (.slice Ao18 t277.length co18)) (fun _ hk => hk.2) (.int .i64 t280)) (fun _ hk => hk.2) (.bool t281)) (fun _ hk => trivial), kR6 HB⟩
  · replace c5 := Bool.eq_false_iff.mpr c5
    subst c5
    have H1 : ((spec_l09DrawKept.f k t270 t286 t287 (t277.length : Int)).bind fun bt305 => ((spec_l00Src_pick.f t270 bt305.2.1 bt305.2.2 (wrap64 ((t277.length : Int) + 3))).bind fun bt310 => ((spec_l00Src_among.f t270 bt310.2.1 bt310.2.2 (([0, 1, 3, 32, 33, 63, 64, 65, (-1), 40] : List Int))).bind fun bt316 => (some (t274, t277, t280, t281, bt305.1, wrap64 (bt310.1 - 2), bt316.1))))) = some (r1, r2, r3, r4, r5, r6, r7) := by rw [if_neg (show ¬ (false = true) by decide)] at H; exact H
    clear H; have H := H1; clear H1
    obtain ⟨⟨t305, t308, t309⟩, A320, H⟩ := zW_ H
    replace H : ((spec_l00Src_pick.f t270 t308 t309 (wrap64 ((t277.length : Int) + 3))).bind fun bt310 => ((spec_l00Src_among.f t270 bt310.2.1 bt310.2.2 (([0, 1, 3, 32, 33, 63, 64, 65, (-1), 40] : List Int))).bind fun bt316 => (some (t274, t277, t280, t281, t305, wrap64 (bt310.1 - 2), bt316.1)))) = some (r1, r2, r3, r4, r5, r6, r7) := H
    have A32 := yD A320
    clear A320
    obtain ⟨⟨t310, t311, t312⟩, A330, H⟩ := zW_ H
    replace H : ((spec_l00Src_among.f t270 t311 t312 (([0, 1, 3, 32, 33, 63, 64, 65, (-1), 40] : List Int))).bind fun bt316 => (some (t274, t277, t280, t281, t305, wrap64 (t310 - 2), bt316.1))) = some (r1, r2, r3, r4, r5, r6, r7) := H
    have A33 := yD A330
    clear A330
    obtain ⟨y313, hy313⟩ : ∃ y_ : List Int, y_ = (([0, 1, 3, 32, 33, 63, 64, 65, (-1), 40] : List Int)) := ⟨_, rfl⟩
    replace H : ((spec_l00Src_among.f t270 t311 t312 y313).bind fun bt316 => (some (t274, t277, t280, t281, t305, wrap64 (t310 - 2), bt316.1))) = some (r1, r2, r3, r4, r5, r6, r7) := by first | (rw [hy313]; with_reducible exact H) | (have H2_ := (Option.bind_some _ _).symm.trans H; rw [hy313]; with_reducible exact H2_) | (have H2_ := (Option.bind_some _ _).symm.trans H; with_reducible exact H2_) | with_reducible exact H | (rw [hy313]; exact H) | exact H
    have Ny313 := yD hy313
    clear hy313
    obtain ⟨⟨t316, t317, t318⟩, A340, H⟩ := zW_ H
    replace H : (some (t274, t277, t280, t281, t305, wrap64 (t310 - 2), t316)) = some (r1, r2, r3, r4, r5, r6, r7) := H
    have A34 := yD A340
    clear A340
    simp only [Option.some.injEq, Prod.mk.injEq] at H
    obtain ⟨rfl, rfl, rfl, rfl, rfl, rfl, rfl⟩ := H
    go_enter Try.func24, Try.ntmps24
    try go_wp2_with (first | ((with_reducible refine gate_dst (N := 2) rfl ?_); refine box_event ?hg (N := 2) ?hd (cs := #[.slice none 0 0, .slice none 0 0, .int .i64 0, .bool false]) (t := 44) ?hr ?_; (case hd => rfl); (case hg => rfl); (case hr => first | (go_simp; done) | (go_simp; rfl)); intro gb269 hg w35 hbox hb; have n0_ := yD (zC (kB HB) hb); have n1_ := yD (hbox); have n2_ := yD ((by rw [hg]; exact (below_size (kB HB)) : w.heap.size ≤ gb269)); have n3_ := yD ((by rw [hg]; exact (below_size (kB HB)) : w.heap.size ≤ gb269)); clear HB; have HB := n0_; have BK269 := n1_; have GW269 := n2_; have GE269 := n3_; clear n0_ n1_ n2_ n3_; clear hb hbox hg) | ((with_reducible refine gate_callee (f := 25) rfl ?_); refine goesL_ (some 12) rfl rfl Try.func25 (by kernel_rfl) rfl #[.slice A0 l0.length c0] rfl (by (try simp only [zK, zL, zM]); first | done | rfl | (simp only [zN, zO]; rfl)) ?_; (with_reducible refine (spec_l00From.calls _ _ l0 t270 t271 t272 w _ ?side1 ?side2 ?side3 A2.out).mono ?_); (case side1 => exact kR1 HB); (case side2 => exact HR0.out); (case side3 => exact HC0.out); rintro e w36 ⟨g273, rfl, hi, hb, hb2⟩; refine ⟨_, rfl, ?_⟩; have n0_ := yD (zB (g := gb269) (o := .cells #[.slice none 0 0, .slice none 0 0, .int .i64 0, .bool false] 44 (0, 0)) (kM BK269) hb2); have n1_ := yD (hb); have n2_ := yD (hi); have n3_ := yD (IsS92.ne_blk hi (zB (g := gb269) (o := .cells #[.slice none 0 0, .slice none 0 0, .int .i64 0, .bool false] 44 (0, 0)) (kM BK269) hb2) (by decide)); have n4_ := yD (Ne.symm (IsS92.ne_blk hi (zB (g := gb269) (o := .cells #[.slice none 0 0, .slice none 0 0, .int .i64 0, .bool false] 44 (0, 0)) (kM BK269) hb2) (by decide))); clear BK269; clear HB; have BK269 := n0_; have HB := n1_; have HI273 := n2_; have NB273_269 := n3_; have NB269_273 := n4_; clear n0_ n1_ n2_ n3_ n4_; (try clear hb); (try clear hb2); (try clear hk); (try clear hi)) | ((with_reducible refine gate_callee (f := 56) rfl ?_); refine goesL_ (some 14) rfl rfl Try.func56 (by kernel_rfl) rfl #[.pointer (some ⟨g273, 0, none⟩), .int .i64 12] rfl (by (try simp only [zK, zL, zM]); first | done | rfl | (simp only [zN, zO]; rfl)) ?_; (with_reducible refine (spec_l09Draw.calls k g273 t270 t271 t272 12 t274 t277 t280 t281 t282 t283 w _ ?side1 ?side2 A3.out).mono ?_); (case side1 => exact kR5 HI273); (case side2 => exact kR6 HB); rintro e w37 ⟨v275, v278, rfl, ho0, ho1, hi, hb, hk⟩; refine ⟨_, rfl, ?_⟩; have n0_ := yD (KeepBut.blk hk (g' := gb269) (o := .cells #[.slice none 0 0, .slice none 0 0, .int .i64 0, .bool false] 44 (0, 0)) (kM BK269) NB269_273.out (by simp)); have n1_ := yD (yZ ho0 (below_size (kR6 HB))); have n2_ := yD (yZ ho1 (below_size (kR6 HB))); have n3_ := yD (hb); have n4_ := yD (hi); clear BK269; clear HB; clear HI273; have BK269 := n0_; have HO276 := n1_; have HO279 := n2_; have HB := n3_; have HI273 := n4_; clear n0_ n1_ n2_ n3_ n4_; (try clear hb); (try clear hb2); (try clear hk); (try clear hi); (try clear ho0); (try clear ho1)) | ((with_reducible refine gate_dst (N := 7) rfl ?_); refine box_event ?hg (N := 7) ?hd (cs := #[.slice none 0 0, .slice none 0 0, .int .i64 0, .bool false]) (t := 44) ?hr ?_; (case hd => rfl); (case hg => rfl); (case hr => first | (go_simp; done) | (go_simp; rfl)); intro gb284 hg w38 hbox hb; have n0_ := yD (zE (kA HO276) hb); have n1_ := yD (zE (kA HO279) hb); have n2_ := yD (zB (g := gb269) (o := .cells #[.slice none 0 0, .slice none 0 0, .int .i64 0, .bool false] 44 (0, 0)) (kM BK269) hb); have n3_ := yD (IsS92.below (kR5 HI273) hb); have n4_ := yD (zC (kR6 HB) hb); have n5_ := yD (hbox); have n6_ := yD ((by rw [hg]; exact (below_size (kR6 HB)) : w.heap.size ≤ gb284)); have n7_ := yD ((by rw [hg]; exact (below_size (kR6 HB)) : w.heap.size ≤ gb284)); have n8_ := yD ((by rw [hg]; exact Nat.ne_of_lt (blk_lt (g := gb269) (o := .cells #[.slice none 0 0, .slice none 0 0, .int .i64 0, .bool false] 44 (0, 0)) (kM BK269)) : gb269 ≠ gb284)); have n9_ := yD ((by rw [hg]; exact Nat.ne_of_gt (blk_lt (g := gb269) (o := .cells #[.slice none 0 0, .slice none 0 0, .int .i64 0, .bool false] 44 (0, 0)) (kM BK269)) : gb284 ≠ gb269)); have n10_ := yD ((by rw [hg]; exact Nat.ne_of_lt (IsS92.lt (show IsS92 w _ g273 t270 t282 t283 from kR5 HI273)) : g273 ≠ gb284)); have n11_ := yD ((by rw [hg]; exact Nat.ne_of_gt (IsS92.lt (show IsS92 w _ g273 t270 t282 t283 from kR5 HI273)) : gb284 ≠ g273)); clear HO276; clear HO279; clear BK269; clear HI273; clear HB; have HO276 := n0_; have HO279 := n1_; have BK269 := n2_; have HI273 := n3_; have HB := n4_; have BK284 := n5_; have GW284 := n6_; have GE284 := n7_; have NB269_284 := n8_; have NB284_269 := n9_; have NB273_284 := n10_; have NB284_273 := n11_; clear n0_ n1_ n2_ n3_ n4_ n5_ n6_ n7_ n8_ n9_ n10_ n11_; clear hb hbox hg; obtain ⟨Ao39, co39, eo39⟩ := Kd.R_slice HO276.out; subst eo39; have hnb40 := NB284_269.out; have hnc40 := NB269_284.out; have hnb41 := NB284_273.out; have hnc41 := NB273_284.out; obtain ⟨hcz42_0, hcz42_1, hcz42_2, hcz42_3⟩ := cz4 BK284.out; obtain ⟨hfz42_0, hfz42_1, hfz42_2, hfz42_3⟩ := fz4 BK284.out; obtain ⟨Ao43, co43, eo43⟩ := Kd.R_slice HO279.out; subst eo43) | ((with_reducible refine gate_callee (f := 57) rfl ?_); refine goesL_ (some 19) rfl rfl Try.func57 (by kernel_rfl) rfl #[.pointer (some ⟨g273, 0, none⟩), .int .i64 9] rfl (by (try simp only [zK, zL, zM]); first | done | rfl | (simp only [zN, zO]; rfl)) ?_; (with_reducible refine (spec_l00Src_one.calls g273 t270 t282 t283 9 false t286 t287 w _ ?side1 ?side2 A4.out).mono ?_); (case side1 => exact kR5 HI273); (case side2 => exact kR6 HB); rintro e w44 ⟨rfl, hi, hb, hk⟩; refine ⟨_, rfl, ?_⟩; have n0_ := yD (KeepBut.blk hk (g' := gb269) (o := .cells #[.slice none 0 0, .slice none 0 0, .int .i64 0, .bool false] 44 (0, 0)) (by (with_reducible repeat (first | refine yM ?_ _ | refine yO ?_ | refine yN ?_ _)); refine blk_far ?_ NB269_284.out _; (with_reducible repeat (first | refine yM ?_ _ | refine yO ?_ | refine yN ?_ _)); refine blk_far ?_ NB269_284.out _; (with_reducible repeat (first | refine yM ?_ _ | refine yO ?_ | refine yN ?_ _)); refine blk_far ?_ NB269_284.out _; (with_reducible repeat (first | refine yM ?_ _ | refine yO ?_ | refine yN ?_ _)); refine blk_far ?_ NB269_284.out _; (with_reducible repeat (first | refine yM ?_ _ | refine yO ?_ | refine yN ?_ _)); exact BK269.out) NB269_273.out (by simp)); have n1_ := yD (zF (Kd.R_keep (IsS92.apart (show IsS92 w _ g273 t270 t282 t283 from kR5 HI273) (by (with_reducible repeat (first | apply yA | apply yB | apply yC)); exact (zF (yF (p := ⟨gb284, 3, none⟩) (yF (p := ⟨gb284, 2, none⟩) (yF (p := ⟨gb284, 1, none⟩) (yF (p := ⟨gb284, 0, none⟩) (Kd.R_types HO276.out BK284.out (by decide)) (fun _ hk => hk.2) (.slice Ao39 t274.length co39)) (fun _ hk => hk.2) (.slice Ao43 t277.length co43)) (fun _ hk => hk.2) (.int .i64 t280)) (fun _ hk => hk.2) (.bool t281)) (fun _ h_ => h_.1))) (by decide)) hk (fun _ h => h.2)) (fun _ h => h.1)); have n2_ := yD (zF (Kd.R_keep (IsS92.apart (show IsS92 w _ g273 t270 t282 t283 from kR5 HI273) (by (with_reducible repeat (first | apply yA | apply yB | apply yC)); exact (zF (yF (p := ⟨gb284, 3, none⟩) (yF (p := ⟨gb284, 2, none⟩) (yF (p := ⟨gb284, 1, none⟩) (yF (p := ⟨gb284, 0, none⟩) (Kd.R_types HO279.out BK284.out (by decide)) (fun _ hk => hk.2) (.slice Ao39 t274.length co39)) (fun _ hk => hk.2) (.slice Ao43 t277.length co43)) (fun _ hk => hk.2) (.int .i64 t280)) (fun _ hk => hk.2) (.bool t281)) (fun _ h_ => h_.1))) (by decide)) hk (fun _ h => h.2)) (fun _ h => h.1)); have n3_ := yD (KeepBut.blk hk (g' := gb284) (o := .cells #[.slice Ao39 t274.length co39, .slice Ao43 t277.length co43, .int .i64 t280, .bool t281] 44 (0, 0)) (by (with_reducible repeat (first | refine yM ?_ _ | refine yO ?_ | refine yN ?_ _)); refine blk_put (cs := #[.slice Ao39 t274.length co39, .slice Ao43 t277.length co43, .int .i64 t280, .bool false]) ?_ 3 _ rfl; (with_reducible repeat (first | refine yM ?_ _ | refine yO ?_ | refine yN ?_ _)); refine blk_put (cs := #[.slice Ao39 t274.length co39, .slice Ao43 t277.length co43, .int .i64 0, .bool false]) ?_ 2 _ rfl; (with_reducible repeat (first | refine yM ?_ _ | refine yO ?_ | refine yN ?_ _)); refine blk_put (cs := #[.slice Ao39 t274.length co39, .slice none 0 0, .int .i64 0, .bool false]) ?_ 1 _ rfl; (with_reducible repeat (first | refine yM ?_ _ | refine yO ?_ | refine yN ?_ _)); refine blk_put (cs := #[.slice none 0 0, .slice none 0 0, .int .i64 0, .bool false]) ?_ 0 _ rfl; (with_reducible repeat (first | refine yM ?_ _ | refine yO ?_ | refine yN ?_ _)); exact BK284.out) NB284_273.out (by simp)); have n4_ := yD (hb); have n5_ := yD (hi); clear BK269; clear HO276; clear HO279; clear BK284; clear HB; clear HI273; have BK269 := n0_; have HO276 := n1_; have HO279 := n2_; have BK284 := n3_; have HB := n4_; have HI273 := n5_; clear n0_ n1_ n2_ n3_ n4_ n5_; (try clear hb); (try clear hb2); (try clear hk); (try clear hi)) | ((with_reducible refine gate_callee (f := 59) rfl ?_); refine goesL_ (some 27) rfl rfl Try.func59 (by kernel_rfl) rfl #[.pointer (some ⟨g273, 0, none⟩), .int .i64 (t277.length : Int)] rfl (by (try simp only [zK, zL, zM]); first | done | rfl | (simp only [zN, zO]; rfl)) ?_; (with_reducible refine (spec_l09DrawKept.calls k g273 t270 t286 t287 (t277.length : Int) t305 t308 t309 w _ ?side1 ?side2 A32.out).mono ?_); (case side1 => exact kR5 HI273); (case side2 => exact kR6 HB); rintro e w45 ⟨v306, rfl, ho0, hi, hb, hk⟩; refine ⟨_, rfl, ?_⟩; have n0_ := yD (KeepBut.blk hk (g' := gb269) (o := .cells #[.slice none 0 0, .slice none 0 0, .int .i64 0, .bool false] 44 (0, 0)) (kM BK269) NB269_273.out (by simp)); have n1_ := yD (zF (Kd.R_keep (IsS92.apart (show IsS92 w _ g273 t270 t286 t287 from kR5 HI273) (kA HO276) (by decide)) hk (fun _ h => h.2)) (fun _ h => h.1)); have n2_ := yD (zF (Kd.R_keep (IsS92.apart (show IsS92 w _ g273 t270 t286 t287 from kR5 HI273) (kA HO279) (by decide)) hk (fun _ h => h.2)) (fun _ h => h.1)); have n3_ := yD (KeepBut.blk hk (g' := gb284) (o := .cells #[.slice Ao39 t274.length co39, .slice Ao43 t277.length co43, .int .i64 t280, .bool t281] 44 (0, 0)) (kM BK284) NB284_273.out (by simp)); have n4_ := yD (yZ ho0 (below_size (kR6 HB))); have n5_ := yD (hb); have n6_ := yD (hi); clear BK269; clear HO276; clear HO279; clear BK284; clear HB; clear HI273; have BK269 := n0_; have HO276 := n1_; have HO279 := n2_; have BK284 := n3_; have HO307 := n4_; have HB := n5_; have HI273 := n6_; clear n0_ n1_ n2_ n3_ n4_ n5_ n6_; (try clear hb); (try clear hb2); (try clear hk); (try clear hi); (try clear ho0)) | ((with_reducible refine gate_callee (f := 58) rfl ?_); refine goesL_ (some 31) rfl rfl Try.func58 (by kernel_rfl) rfl #[.pointer (some ⟨g273, 0, none⟩), .int .i64 (wrap64 ((t277.length : Int) + 3))] rfl (by (try simp only [zK, zL, zM]); first | done | rfl | (simp only [zN, zO]; rfl)) ?_; (with_reducible refine (spec_l00Src_pick.calls g273 t270 t308 t309 (wrap64 ((t277.length : Int) + 3)) t310 t311 t312 w _ ?side1 ?side2 A33.out).mono ?_); (case side1 => exact kR5 HI273); (case side2 => exact kR6 HB); rintro e w46 ⟨rfl, hi, hb, hk⟩; refine ⟨_, rfl, ?_⟩; have n0_ := yD (KeepBut.blk hk (g' := gb269) (o := .cells #[.slice none 0 0, .slice none 0 0, .int .i64 0, .bool false] 44 (0, 0)) (kM BK269) NB269_273.out (by simp)); have n1_ := yD (zF (Kd.R_keep (IsS92.apart (show IsS92 w _ g273 t270 t308 t309 from kR5 HI273) (kA HO276) (by decide)) hk (fun _ h => h.2)) (fun _ h => h.1)); have n2_ := yD (zF (Kd.R_keep (IsS92.apart (show IsS92 w _ g273 t270 t308 t309 from kR5 HI273) (kA HO279) (by decide)) hk (fun _ h => h.2)) (fun _ h => h.1)); have n3_ := yD (KeepBut.blk hk (g' := gb284) (o := .cells #[.slice Ao39 t274.length co39, .slice Ao43 t277.length co43, .int .i64 t280, .bool t281] 44 (0, 0)) (kM BK284) NB284_273.out (by simp)); have n4_ := yD (zF (Kd.R_keep (IsS92.apart (show IsS92 w _ g273 t270 t308 t309 from kR5 HI273) (kA HO307) (by decide)) hk (fun _ h => h.2)) (fun _ h => h.1)); have n5_ := yD (hb); have n6_ := yD (hi); clear BK269; clear HO276; clear HO279; clear BK284; clear HO307; clear HB; clear HI273; have BK269 := n0_; have HO276 := n1_; have HO279 := n2_; have BK284 := n3_; have HO307 := n4_; have HB := n5_; have HI273 := n6_; clear n0_ n1_ n2_ n3_ n4_ n5_ n6_; (try clear hb); (try clear hb2); (try clear hk); (try clear hi)))
    have n0_ := yD (yC HO276.out)
    have n1_ := yD (yC HO279.out)
    have n2_ := yD (yC HO307.out)
    have n3_ := yD (yO BK269.out)
    have n4_ := yD (yO BK284.out)
    have n5_ := yD (IsS92.drew HI273.out)
    have n6_ := yD (yP HB.out)
    clear HO276 HO279 HO307 BK269 BK284 HI273 HB; have HO276 := n0_; have HO279 := n1_; have HO307 := n2_; have BK269 := n3_; have BK284 := n4_; have HI273 := n5_; have HB := n6_; clear n0_ n1_ n2_ n3_ n4_ n5_ n6_
    refine start_ (n := 10) (S := fun w' => w'.cell? ⟨gb284, 0, none⟩ = some (.slice Ao39 t274.length co39) ∧ w'.cell? ⟨gb284, 1, none⟩ = some (.slice Ao43 t277.length co43) ∧ w'.cell? ⟨gb284, 2, none⟩ = some (.int .i64 t280) ∧ w'.cell? ⟨gb284, 3, none⟩ = some (.bool t281)) (ds := []) (bz 10 0) (by kernel_rfl) rfl rfl ⟨(yG BK284.out 0).trans rfl, (yG BK284.out 1).trans rfl, (yG BK284.out 2).trans rfl, (yG BK284.out 3).trans rfl⟩ (fun hHeld => ?_); refine with_tabW spec_DrawCutPower.tab8 spec_DrawCutPower.bits8 (fun HT_ HW_ => ?_)
    generalize w46.drew = w47 at HO276 HO279 HO307 BK269 BK284 HI273 HB hHeld ⊢
    refine qA 1 34 (bz 10 2) HT_ ?_
    refine qA 2 35 (bz 10 6) HT_ ?_
    refine qA 3 36 (bz 10 14) HT_ ?_
    refine qC 0 33 (bz 10 15) HT_ HW_ hHeld ?_ (hy := by rintro w' ⟨s0, s1, s2, s3⟩; go_simp; with_reducible rfl)
    refine one_ (i := 4) (N := some 37) (bz 10 31) rfl rfl (one_of HT_.out (by kernel_rfl)) (by decide) (fun K hK => ?_)
    refine Kd.R_lit_step (Kd.int .i64) _ 2 ?hg (N := 37) ?hd (xs := ([0, 1, 3, 32, 33, 63, 64, 65, (-1), 40] : List Int)) (inner := [.int .i64 0, .int .i64 1, .int .i64 3, .int .i64 32, .int .i64 33, .int .i64 63, .int .i64 64, .int .i64 65, .int .i64 (-1), .int .i64 40]) (ok := fun _ => True) (okp := fun _ => True) ?hr ?hp (fun _ hk => hk) trivial (Below.refl _ _) (Nat.le_refl _) (by simp) ?_; (case hd => rfl); (case hg => rfl); (case hr => first | (go_simp; done) | (go_simp; rfl)); (case hp => exact (Reps.one (show Kd.M (Kd.int .i64) _ _ _ 0 [.int .i64 0] from rfl) (Reps.one (show Kd.M (Kd.int .i64) _ _ _ 1 [.int .i64 1] from rfl) (Reps.one (show Kd.M (Kd.int .i64) _ _ _ 3 [.int .i64 3] from rfl) (Reps.one (show Kd.M (Kd.int .i64) _ _ _ 32 [.int .i64 32] from rfl) (Reps.one (show Kd.M (Kd.int .i64) _ _ _ 33 [.int .i64 33] from rfl) (Reps.one (show Kd.M (Kd.int .i64) _ _ _ 63 [.int .i64 63] from rfl) (Reps.one (show Kd.M (Kd.int .i64) _ _ _ 64 [.int .i64 64] from rfl) (Reps.one (show Kd.M (Kd.int .i64) _ _ _ 65 [.int .i64 65] from rfl) (Reps.one (show Kd.M (Kd.int .i64) _ _ _ (-1) [.int .i64 (-1)] from rfl) (Reps.one (show Kd.M (Kd.int .i64) _ _ _ 40 [.int .i64 40] from rfl) (Reps.none _ _))))))))))))
    intro v314 w48 ho49 hb hg_ hnew_
    clear hg_ hnew_
    (first | rw [← Ny313.out] at ho49 | (simp only [Int.reduceToNat] at ho49; rw [← Ny313.out] at ho49))
    have n0_ := yD (zE (kA HO276) hb)
    have n1_ := yD (zE (kA HO279) hb)
    have n2_ := yD (zE (kA HO307) hb)
    have n3_ := yD (yZ ho49 (below_size (kR6 HB)))
    have n4_ := yD (zB (g := gb269) (o := .cells #[.slice none 0 0, .slice none 0 0, .int .i64 0, .bool false] 44 (0, 0)) (kM BK269) hb)
    have n5_ := yD (IsS92.below (kR5 HI273) hb)
    have n6_ := yD (zB (g := gb284) (o := .cells #[.slice Ao39 t274.length co39, .slice Ao43 t277.length co43, .int .i64 t280, .bool t281] 44 (0, 0)) (kM BK284) hb)
    have n7_ := yD (zC (kR6 HB) hb)
    clear HO276 HO279 HO307 BK269 HI273 BK284 HB; have HO276 := n0_; have HO279 := n1_; have HO307 := n2_; have HO315 := n3_; have BK269 := n4_; have HI273 := n5_; have BK284 := n6_; have HB := n7_; clear n0_ n1_ n2_ n3_ n4_ n5_ n6_ n7_ hb ho49
    obtain ⟨Ao50, co50, eo50⟩ := Kd.R_slice HO315.out
    (first | subst eo50 | (injection eo50 with f1_ f2_ f3_; have f4_ := f1_.symm; have f5_ := f3_.symm; clear f1_ f2_ f3_; subst f4_; subst f5_))
    refine hK.out _ _ ⟨(yG BK284.out 0).trans rfl, (yG BK284.out 1).trans rfl, (yG BK284.out 2).trans rfl, (yG BK284.out 3).trans rfl⟩ (fun hHeld => ?_)
    clear hK K
    refine norm_ (a' := ?_) ?_ ?_
    rotate_left
    · show Act.put _ (some 37) _ = _
      simp only [Act.put, zH, zI, zJ, i64_w, i32_w]
      rfl
    refine one_ (i := 5) (N := some 38) (bz 10 63) rfl rfl (one_of HT_.out (by kernel_rfl)) (by decide) (fun K hK => ?_)
    refine goes_ Try.func60 (by kernel_rfl) rfl #[.pointer (some ⟨g273, 0, none⟩), .slice Ao50 y313.length co50] (by rfl) rfl rfl (by (try simp only [zK, zL, zM]); first | done | rfl | (simp only [zN, zO]; rfl)) ?_
    with_reducible refine (spec_l00Src_among.calls g273 t270 t311 t312 _ _ y313 t316 t317 t318 w _ ?side1 ?side2 ?side3 ?side4 ?side5 A34.out).mono ?_
    (case side1 => exact kR5 HI273)
    (case side2 => exact kR6 HB)
    (case side3 => exact kV (zA HO315.out).2.2)
    (case side4 => exact (zA HO315.out).2.1)
    (case side5 => exact far_slice (IsS92.own_ne HI273.out HO315.out (by decide)))
    rintro e w51 ⟨rfl, hi, hb, hk⟩
    refine ⟨_, rfl, ?_⟩
    have n0_ := yD (KeepBut.blk hk (g' := gb269) (o := .cells #[.slice none 0 0, .slice none 0 0, .int .i64 0, .bool false] 44 (0, 0)) (kM BK269) NB269_273.out (by simp))
    have n1_ := yD (zF (Kd.R_keep (IsS92.apart (show IsS92 w _ g273 t270 t311 t312 from kR5 HI273) (kA HO276) (by decide)) hk (fun _ h => h.2)) (fun _ h => h.1))
    have n2_ := yD (zF (Kd.R_keep (IsS92.apart (show IsS92 w _ g273 t270 t311 t312 from kR5 HI273) (kA HO279) (by decide)) hk (fun _ h => h.2)) (fun _ h => h.1))
    have n3_ := yD (KeepBut.blk hk (g' := gb284) (o := .cells #[.slice Ao39 t274.length co39, .slice Ao43 t277.length co43, .int .i64 t280, .bool t281] 44 (0, 0)) (kM BK284) NB284_273.out (by simp))
    have n4_ := yD (zF (Kd.R_keep (IsS92.apart (show IsS92 w _ g273 t270 t311 t312 from kR5 HI273) (kA HO307) (by decide)) hk (fun _ h => h.2)) (fun _ h => h.1))
    have n5_ := yD (zF (Kd.R_keep (IsS92.apart (show IsS92 w _ g273 t270 t311 t312 from kR5 HI273) (kA HO315) (by decide)) hk (fun _ h => h.2)) (fun _ h => h.1))
    have n6_ := yD (hb)
    have n7_ := yD (hi)
    clear BK269 HO276 HO279 BK284 HO307 HO315 HB HI273; have BK269 := n0_; have HO276 := n1_; have HO279 := n2_; have BK284 := n3_; have HO307 := n4_; have HO315 := n5_; have HB := n6_; have HI273 := n7_; clear n0_ n1_ n2_ n3_ n4_ n5_ n6_ n7_; (try clear hb); (try clear hb2); (try clear hk); (try clear hi)
    refine hK.out _ _ ⟨(yG BK284.out 0).trans rfl, (yG BK284.out 1).trans rfl, (yG BK284.out 2).trans rfl, (yG BK284.out 3).trans rfl⟩ (fun hHeld => ?_)
    clear hK K
    refine norm_ (a' := ?_) ?_ ?_
    rotate_left
    · show Act.put _ (some 38) _ = _
      simp only [Act.put, zH, zI, zJ, i64_w, i32_w]
      rfl
    refine one_ (i := 6) (N := none) (bz 10 127) rfl rfl (one_of HT_.out (by kernel_rfl)) (by decide) (fun K hK => ?_)
    have hs52 : w51.cell? ⟨gb269, 0, none⟩ = some (.slice none 0 0) := (yG BK269.out 0).trans rfl
    have hfs52 := yR BK269.out 0
    have hns52_1 := NB284_269.out; have hms52_1 := NB269_284.out
    have hs53 : w51.cell? ⟨gb269, 1, none⟩ = some (.slice none 0 0) := (yG BK269.out 1).trans rfl
    have hfs53 := yR BK269.out 1
    have hns53_1 := NB284_269.out; have hms53_1 := NB269_284.out
    have hs54 : w51.cell? ⟨gb269, 2, none⟩ = some (.int .i64 0) := (yG BK269.out 2).trans rfl
    have hfs54 := yR BK269.out 2
    have hns54_1 := NB284_269.out; have hms54_1 := NB269_284.out
    have hs55 : w51.cell? ⟨gb269, 3, none⟩ = some (.bool false) := (yG BK269.out 3).trans rfl
    have hfs55 := yR BK269.out 3
    have hns55_1 := NB284_269.out; have hms55_1 := NB269_284.out
    refine skip_ (w1 := ?_) (by rfl) rfl ?_ ?_
    rotate_left
    · go_simp
      rfl
    refine hK.out _ _ ⟨((cell_far (p := ⟨gb269, _, none⟩) NB284_269.out _).trans (((cell_far (p := ⟨gb269, _, none⟩) NB284_269.out _).trans (((cell_far (p := ⟨gb269, _, none⟩) NB284_269.out _).trans (((cell_far (p := ⟨gb269, _, none⟩) NB284_269.out _).trans (hHeld.1)))))))), ((cell_far (p := ⟨gb269, _, none⟩) NB284_269.out _).trans (((cell_far (p := ⟨gb269, _, none⟩) NB284_269.out _).trans (((cell_far (p := ⟨gb269, _, none⟩) NB284_269.out _).trans (((cell_far (p := ⟨gb269, _, none⟩) NB284_269.out _).trans (hHeld.2.1)))))))), ((cell_far (p := ⟨gb269, _, none⟩) NB284_269.out _).trans (((cell_far (p := ⟨gb269, _, none⟩) NB284_269.out _).trans (((cell_far (p := ⟨gb269, _, none⟩) NB284_269.out _).trans (((cell_far (p := ⟨gb269, _, none⟩) NB284_269.out _).trans (hHeld.2.2.1)))))))), ((cell_far (p := ⟨gb269, _, none⟩) NB284_269.out _).trans (((cell_far (p := ⟨gb269, _, none⟩) NB284_269.out _).trans (((cell_far (p := ⟨gb269, _, none⟩) NB284_269.out _).trans (((cell_far (p := ⟨gb269, _, none⟩) NB284_269.out _).trans (hHeld.2.2.2))))))))⟩ (fun hHeld => ?_)
    clear hK K
    refine qA 7 3 (bz 10 255) HT_ ?_
    refine qA 8 4 (bz 10 511) HT_ ?_
    refine qA 9 5 (bz 10 1023) HT_ ?_
    refine done_ (done_of HT_.out (by kernel_rfl)) ?_
    try go_wp2
    refine bodyPost_ret (results_list (rs := [.cell 2 44, .tmp 3, .tmp 4, .tmp 5]) rfl (by simp) (.cell gb269 44 #[.slice Ao39 t274.length co39, .slice Ao43 t277.length co43, .int .i64 t280, .bool t281] (0, 0) _ rfl (by (with_reducible repeat (first | refine yM ?_ _ | refine yO ?_ | refine yN ?_ _)); refine blk_put (cs := #[.slice Ao39 t274.length co39, .slice Ao43 t277.length co43, .int .i64 t280, .bool false]) ?_ 3 _ rfl; (with_reducible repeat (first | refine yM ?_ _ | refine yO ?_ | refine yN ?_ _)); refine blk_put (cs := #[.slice Ao39 t274.length co39, .slice Ao43 t277.length co43, .int .i64 0, .bool false]) ?_ 2 _ rfl; (with_reducible repeat (first | refine yM ?_ _ | refine yO ?_ | refine yN ?_ _)); refine blk_put (cs := #[.slice Ao39 t274.length co39, .slice none 0 0, .int .i64 0, .bool false]) ?_ 1 _ rfl; (with_reducible repeat (first | refine yM ?_ _ | refine yO ?_ | refine yN ?_ _)); refine blk_put (cs := #[.slice none 0 0, .slice none 0 0, .int .i64 0, .bool false]) ?_ 0 _ rfl; (with_reducible repeat (first | refine yM ?_ _ | refine yO ?_ | refine yN ?_ _)); exact BK269.out) Try.underlying44 rfl (by kernel_rfl) (.tmp (.tmp (.tmp .nil))))) rfl ?_
    exact ⟨_, _, _, by first | rfl | (simp <;> rfl) | (simp [*] <;> rfl), by (with_reducible repeat (first | apply yA | apply yB | apply yC)); exact zF (yF (p := ⟨gb269, 3, none⟩) (yF (p := ⟨gb269, 2, none⟩) (yF (p := ⟨gb269, 1, none⟩) (yF (p := ⟨gb269, 0, none⟩) (Kd.R_types HO276.out BK269.out (by decide)) (fun _ hk => hk.2) (.slice Ao39 t274.length co39)) (fun _ hk => hk.2) (.slice Ao43 t277.length co43)) (fun _ hk => hk.2) (.int .i64 t280)) (fun _ hk => hk.2) (.bool t281)) (fun _ hk => trivial), by (with_reducible repeat (first | apply yA | apply yB | apply yC)); exact zF (yF (p := ⟨gb269, 3, none⟩) (yF (p := ⟨gb269, 2, none⟩) (yF (p := ⟨gb269, 1, none⟩) (yF (p := ⟨gb269, 0, none⟩) (Kd.R_types HO279.out BK269.out (by decide)) (fun _ hk => hk.2) (.slice Ao39 t274.length co39)) (fun _ hk => hk.2) (.slice Ao43 t277.length co43)) (fun _ hk => hk.2) (.int .i64 t280)) (fun _ hk => hk.2) (.bool t281)) (fun _ hk => trivial), by (with_reducible repeat (first | apply yA | apply yB | apply yC)); exact zF (yF (p := ⟨gb269, 3, none⟩) (yF (p := ⟨gb269, 2, none⟩) (yF (p := ⟨gb269, 1, none⟩) (yF (p := ⟨gb269, 0, none⟩) (Kd.R_types HO307.out BK269.out (by decide)) (fun _ hk => hk.2) (.slice Ao39 t274.length co39)) (fun _ hk => hk.2) (.slice Ao43 t277.length co43)) (fun _ hk => hk.2) (.int .i64 t280)) (fun _ hk => hk.2) (.bool t281)) (fun _ hk => trivial), kR6 HB⟩

/-! ### impl_within: function 70 -/
def impl_within.f (a0 : Int) (a1 : Int) (a2 : Int) : Option (Bool) := if a0 ≥ a1 then (some (decide (a0 ≤ a2))) else (some false)
set_option maxHeartbeats 8000000 in
set_option maxRecDepth 100000 in
theorem impl_within.calls (a0 : Int) (a1 : Int) (a2 : Int) (r : Bool) (w : World) (h : impl_within.f a0 a1 a2 = some r) :
    Calls Try.prog 70 #[.int .i64 a0, .int .i64 a1, .int .i64 a2] w fun e w' => e = .returned (.bool r) ∧ Drawn0 w w' := by
  have H : (if a0 ≥ a1 then (some (decide (a0 ≤ a2))) else (some false)) = some r := h
  clear h
  by_cases c4 : a0 ≥ a1
  · rw [if_pos c4] at H
    have c4b0 : decide (a1 ≤ a0) = true := zR c4; clear c4; obtain rfl := Option.some.inj H; go_enter Try.func70, Try.ntmps70
    go_wp2
    go_ret
    exact ⟨by first | rfl | (simp; done) | (simp [*]; done), by repeat (first | exact Drawn0.refl _ | apply Drawn0.step)⟩
  · rw [if_neg c4] at H
    have c4b0 : decide (a1 ≤ a0) = false := zS c4; clear c4; obtain rfl := Option.some.inj H; go_enter Try.func70, Try.ntmps70
    go_wp2
    go_ret
    exact ⟨by first | rfl | (simp; done) | (simp [*]; done), by repeat (first | exact Drawn0.refl _ | apply Drawn0.step)⟩

/-! ### impl_isBlock: function 79 -/
def impl_isBlock.f (a0 : ByteArray) : Option (Bool) := some ((a0.size : Int) == 64)
set_option maxHeartbeats 8000000 in
set_option maxRecDepth 100000 in
theorem impl_isBlock.calls (a0 : ByteArray) (r : Bool) (w : World) (h : impl_isBlock.f a0 = some r) :
    Calls Try.prog 79 #[.string a0] w fun e w' => e = .returned (.bool r) ∧ Drawn0 w w' := by
  have H : (some ((a0.size : Int) == 64)) = some r := h
  clear h; obtain rfl := Option.some.inj H; go_enter Try.func79, Try.ntmps79
  go_wp2
  go_ret
  exact ⟨by first | rfl | (simp; done) | (simp [*]; done), by repeat (first | exact Drawn0.refl _ | apply Drawn0.step)⟩

/-! ### impl_ValidDisk_1: function 78 -/
def impl_ValidDisk_1.f (a0 : ByteArray) : Option (Bool) := (impl_isBlock.f a0).bind fun t319 => (some (!t319))
set_option maxHeartbeats 8000000 in
set_option maxRecDepth 100000 in
theorem impl_ValidDisk_1.calls (a0 : ByteArray) (r : Bool) (w : World) (h : impl_ValidDisk_1.f a0 = some r) :
    Calls Try.prog 78 #[.string a0] w fun e w' => e = .returned (.bool r) ∧ Drawn0 w w' := by
  have H : ((impl_isBlock.f a0).bind fun t319 => (some (!t319))) = some r := h
  clear h
  obtain ⟨t319, A20, H⟩ := zW_ H
  replace H : (some (!t319)) = some r := H
  have A2 := yD A20
  clear A20; obtain rfl := Option.some.inj H; go_enter Try.func78, Try.ntmps78
  go_wp2_with (first | ((with_reducible refine gate_callee (f := 79) rfl ?_); refine goesL_ (some 4) rfl rfl Try.func79 (by kernel_rfl) rfl #[.string a0] rfl (by (try simp only [zK, zL, zM]); first | done | rfl | (simp only [zN, zO]; rfl)) ?_; (with_reducible refine (impl_isBlock.calls a0 t319 _ A2.out).mono ?_); rintro e w' ⟨rfl, ⟨nd, rfl⟩⟩; refine ⟨_, rfl, ?_⟩))
  go_ret
  exact ⟨by first | rfl | (simp; done) | (simp [*]; done), by repeat (first | exact Drawn0.refl _ | apply Drawn0.step)⟩

/-! ### slices_IndexFunc_impl_ValidDisk_1: function 100 -/
def slices_IndexFunc_impl_ValidDisk_1.l0 : Nat → List ByteArray → Int → Int → Option (Int)
  | 0, _, _, _ => none
  | k + 1, x0, x7, x8 => if x8 < x7 then (if 0 ≤ x8 then (if x8 < (x0.length : Int) then ((impl_ValidDisk_1.f (rdOf ByteArray.empty x0 x8)).bind fun t321 => (if t321 = true then (some x8) else (slices_IndexFunc_impl_ValidDisk_1.l0 k x0 x7 (wrap64 (x8 + 1))))) else (none)) else (none)) else (some (-1))
def slices_IndexFunc_impl_ValidDisk_1.f (k : Nat) (l0 : List ByteArray)  : Option (Int) := slices_IndexFunc_impl_ValidDisk_1.l0 k l0 (l0.length : Int) 0
theorem slices_IndexFunc_impl_ValidDisk_1.mono_l : ∀ k, (∀ y0 y1 y2, LeO (slices_IndexFunc_impl_ValidDisk_1.l0 k y0 y1 y2) (slices_IndexFunc_impl_ValidDisk_1.l0 (k + 1) y0 y1 y2))
  | 0 => fun _ _ _ r h => by simp [slices_IndexFunc_impl_ValidDisk_1.l0] at h
  | k + 1 => by
    have ih0 := slices_IndexFunc_impl_ValidDisk_1.mono_l k
    · intro y0 y1 y2
      unfold slices_IndexFunc_impl_ValidDisk_1.l0
      repeat' first
      | (with_reducible exact ih0 _ _ _)
      | (with_reducible exact LeO.refl _)
      | (with_reducible exact LeO.none _)
      | (with_reducible refine LeO.ite ?_ ?_)
      | (with_reducible refine LeO.bind ?_ (fun _ => ?_))
      | exact ih0 _ _ _
      | exact LeO.none _
      | refine LeO.ite ?_ ?_
      | refine LeO.bind ?_ (fun _ => ?_)
theorem slices_IndexFunc_impl_ValidDisk_1.mono : ∀ a0 k, LeO (slices_IndexFunc_impl_ValidDisk_1.f k a0) (slices_IndexFunc_impl_ValidDisk_1.f (k + 1) a0) := by
  intro a0 k
  have ih0 := slices_IndexFunc_impl_ValidDisk_1.mono_l k
  unfold slices_IndexFunc_impl_ValidDisk_1.f
  repeat' first
      | (with_reducible exact ih0 _ _ _)
      | (with_reducible exact LeO.refl _)
      | (with_reducible exact LeO.none _)
      | (with_reducible refine LeO.ite ?_ ?_)
      | (with_reducible refine LeO.bind ?_ (fun _ => ?_))
      | exact ih0 _ _ _
      | exact LeO.none _
      | refine LeO.ite ?_ ?_
      | refine LeO.bind ?_ (fun _ => ?_)
set_option maxHeartbeats 8000000 in
set_option maxRecDepth 100000 in
theorem slices_IndexFunc_impl_ValidDisk_1.calls (k : Nat) (A0 : Option Addr) (c0 : Nat) (l0 : List ByteArray)  (r : Int) (w : World) (hr0 : Kd.C Kd.string w A0 l0.length l0) (hc0 : l0.length ≤ c0) (h : slices_IndexFunc_impl_ValidDisk_1.f k l0 = some r) :
    Calls Try.prog 100 #[.slice A0 l0.length c0, .func (.func 78) #[] #[]] w fun e w' => e = .returned (.int .i64 r) ∧ Below w.heap.size w w' := by
  have HR0 := yD hr0
  have HC0 := yD hc0
  clear hr0 hc0
  have HB := yD (Below.refl w.heap.size w)
  have H : (slices_IndexFunc_impl_ValidDisk_1.l0 k l0 (l0.length : Int) 0) = some r := h
  clear h
  have H' := yD H
  clear H; go_enter Try.func100, Try.ntmps100
  go_wp2
  go_loopg [8] k (fun kq v8 w' => ∃ (x8_1 : Int), v8 = .int .i64 x8_1 ∧ Aside0 (slices_IndexFunc_impl_ValidDisk_1.l0 kq l0 (l0.length : Int) x8_1 = some r) ∧ Aside0 (kq ≤ k) ∧ Aside0 (Below w.heap.size w w'))
  case atStart => exact ⟨(0), (by first | rfl | (simp; done) | (simp [*]; done)), H', ⟨Nat.le_refl _⟩, ⟨kR0 HB⟩⟩
  case round =>
    clear H'
    try clear p2
    obtain ⟨x8_1, rfl, HA, HK1, HB⟩ := hrel
    cases gk with
    | zero => exact absurd HA.out (by simp [slices_IndexFunc_impl_ValidDisk_1.l0])
    | succ k1 =>
      have H := HA.out; clear HA
      simp only [slices_IndexFunc_impl_ValidDisk_1.l0] at H
      by_cases c3 : x8_1 < (l0.length : Int)
      · rw [if_pos c3] at H
        have c3b0 : decide (x8_1 < (l0.length : Int)) = true := zR c3; clear c3
        by_cases c4 : 0 ≤ x8_1
        · rw [if_pos c4] at H
          have c4b0 : decide (0 ≤ x8_1) = true := zR c4; clear c4
          by_cases c5 : x8_1 < (l0.length : Int)
          · rw [if_pos c5] at H
            have c5b0 : decide (x8_1 < (l0.length : Int)) = true := zR c5; clear c5
            obtain ⟨t321, A60, H⟩ := zW_ H
            replace H : (if t321 = true then (some x8_1) else (slices_IndexFunc_impl_ValidDisk_1.l0 k1 l0 (l0.length : Int) (wrap64 (x8_1 + 1)))) = some r := H
            have A6 := yD A60
            clear A60
            by_cases c7 : t321 = true
            · subst c7
              have H1 : (some x8_1) = some r := by rw [if_pos rfl] at H; exact H
              clear H; have H := H1; clear H1; obtain rfl := Option.some.inj H
              have p320 : 0 ≤ (x8_1 : Int) := zP (by assumption)
              have q320 : x8_1 < (l0.length : Int) := zP (by assumption)
              obtain ⟨ad320, e320, hx320_0⟩ := Kd.at_string HR0.out x8_1 p320 q320
              cases e320
              replace hx320_0 := (HB.out.cell (zQ w _ hx320_0)).trans hx320_0
              replace p320 := eq_true p320; replace q320 := eq_true q320
              go_wp2_with (first | (go_at_call 78; (with_reducible refine (impl_ValidDisk_1.calls (rdOf ByteArray.empty l0 x8_1) true _ A6.out).mono ?_); rintro e w' ⟨rfl, ⟨nd, rfl⟩⟩))
              go_ret
              exact ⟨by first | rfl | (simp <;> rfl) | (simp [*] <;> rfl), kR0 HB⟩
            · replace c7 := Bool.eq_false_iff.mpr c7
              subst c7
              have H1 : (slices_IndexFunc_impl_ValidDisk_1.l0 k1 l0 (l0.length : Int) (wrap64 (x8_1 + 1))) = some r := by rw [if_neg (show ¬ (false = true) by decide)] at H; exact H
              clear H; have H := H1; clear H1
              have H' := yD H
              clear H
              have p320 : 0 ≤ (x8_1 : Int) := zP (by assumption)
              have q320 : x8_1 < (l0.length : Int) := zP (by assumption)
              obtain ⟨ad320, e320, hx320_0⟩ := Kd.at_string HR0.out x8_1 p320 q320
              cases e320
              replace hx320_0 := (HB.out.cell (zQ w _ hx320_0)).trans hx320_0
              replace p320 := eq_true p320; replace q320 := eq_true q320
              go_wp2_with (first | (go_at_call 78; (with_reducible refine (impl_ValidDisk_1.calls (rdOf ByteArray.empty l0 x8_1) false _ A6.out).mono ?_); rintro e w' ⟨rfl, ⟨nd, rfl⟩⟩))
              go_roundg k1
              case measure => have := HK1.out; omega
              case rel => exact ⟨(wrap64 (x8_1 + 1)), (by first | rfl | (simp; done) | (simp [*]; done)), H', ⟨by have := HK1.out; omega⟩, ⟨kR0 HB⟩⟩
          · rw [if_neg c5] at H
            exact absurd H (by simp)
        · rw [if_neg c4] at H
          exact absurd H (by simp)
      · rw [if_neg c3] at H
        have c3b0 : decide (x8_1 < (l0.length : Int)) = false := zS c3; clear c3; obtain rfl := Option.some.inj H
        go_wp2
        go_ret
        exact ⟨by first | rfl | (simp <;> rfl) | (simp [*] <;> rfl), kR0 HB⟩

/-! ### slices_ContainsFunc_impl_ValidDisk_1: function 77 -/
def slices_ContainsFunc_impl_ValidDisk_1.f (k : Nat) (l0 : List ByteArray)  : Option (Bool) := (slices_IndexFunc_impl_ValidDisk_1.f k l0).bind fun t322 => (some (decide (t322 ≥ 0)))
theorem slices_ContainsFunc_impl_ValidDisk_1.mono : ∀ a0 k, LeO (slices_ContainsFunc_impl_ValidDisk_1.f k a0) (slices_ContainsFunc_impl_ValidDisk_1.f (k + 1) a0) := by
  intro a0 k
  unfold slices_ContainsFunc_impl_ValidDisk_1.f
  repeat' first
      | (with_reducible exact slices_IndexFunc_impl_ValidDisk_1.mono _ _)
      | (with_reducible exact LeO.refl _)
      | (with_reducible exact LeO.none _)
      | (with_reducible refine LeO.ite ?_ ?_)
      | (with_reducible refine LeO.bind ?_ (fun _ => ?_))
      | exact slices_IndexFunc_impl_ValidDisk_1.mono _ _
      | exact LeO.none _
      | refine LeO.ite ?_ ?_
      | refine LeO.bind ?_ (fun _ => ?_)
set_option maxHeartbeats 8000000 in
set_option maxRecDepth 100000 in
theorem slices_ContainsFunc_impl_ValidDisk_1.calls (k : Nat) (A0 : Option Addr) (c0 : Nat) (l0 : List ByteArray)  (r : Bool) (w : World) (hr0 : Kd.C Kd.string w A0 l0.length l0) (hc0 : l0.length ≤ c0) (h : slices_ContainsFunc_impl_ValidDisk_1.f k l0 = some r) :
    Calls Try.prog 77 #[.slice A0 l0.length c0, .func (.func 78) #[] #[]] w fun e w' => e = .returned (.bool r) ∧ Below w.heap.size w w' := by
  have HR0 := yD hr0
  have HC0 := yD hc0
  clear hr0 hc0
  have HB := yD (Below.refl w.heap.size w)
  have H : ((slices_IndexFunc_impl_ValidDisk_1.f k l0).bind fun t322 => (some (decide (t322 ≥ 0)))) = some r := h
  clear h
  obtain ⟨t322, A30, H⟩ := zW_ H
  replace H : (some (decide (t322 ≥ 0))) = some r := H
  have A3 := yD A30
  clear A30; obtain rfl := Option.some.inj H; go_enter Try.func77, Try.ntmps77
  go_wp2_with (first | ((with_reducible refine gate_callee (f := 100) rfl ?_); refine goesL_ (some 7) rfl rfl Try.func100 (by kernel_rfl) rfl #[.slice A0 l0.length c0, .func (.func 78) #[] #[]] rfl (by (try simp only [zK, zL, zM]); first | done | rfl | (simp only [zN, zO]; rfl)) ?_; (with_reducible refine (slices_IndexFunc_impl_ValidDisk_1.calls k _ _ l0  t322 _ ?side1 ?side2 A3.out).mono ?_); (case side1 => repeat (first | exact HR0.out | (with_reducible first | refine yV ?_ _ | refine yW ?_ _ | refine yX ?_))); (case side2 => exact HC0.out); rintro e w4 ⟨rfl, hb⟩; refine ⟨_, rfl, ?_⟩; have n0_ := yD (zC (kB HB) hb); clear HB; have HB := n0_; clear n0_; (try clear hb); (try clear hb2); (try clear hk); (try clear hi)))
  go_ret
  exact ⟨by first | rfl | (simp <;> rfl) | (simp [*] <;> rfl), kR0 HB⟩

/-! ### impl_isIndex: function 82 -/
def impl_isIndex.f (a0 : Int) (a1 : Int) : Option (Bool) := (impl_within.f a0 0 (wrap64 (a1 - 1))).bind fun t323 => (some t323)
set_option maxHeartbeats 8000000 in
set_option maxRecDepth 100000 in
theorem impl_isIndex.calls (a0 : Int) (a1 : Int) (r : Bool) (w : World) (h : impl_isIndex.f a0 a1 = some r) :
    Calls Try.prog 82 #[.int .i64 a0, .int .i64 a1] w fun e w' => e = .returned (.bool r) ∧ Drawn0 w w' := by
  have H : ((impl_within.f a0 0 (wrap64 (a1 - 1))).bind fun t323 => (some t323)) = some r := h
  clear h
  obtain ⟨t323, A30, H⟩ := zW_ H
  replace H : (some t323) = some r := H
  have A3 := yD A30
  clear A30; obtain rfl := Option.some.inj H; go_enter Try.func82, Try.ntmps82
  go_wp2_with (first | ((with_reducible refine gate_callee (f := 70) rfl ?_); refine goesL_ (some 8) rfl rfl Try.func70 (by kernel_rfl) rfl #[.int .i64 a0, .int .i64 0, .int .i64 (wrap64 (a1 - 1))] rfl (by (try simp only [zK, zL, zM]); first | done | rfl | (simp only [zN, zO]; rfl)) ?_; (with_reducible refine (impl_within.calls a0 0 (wrap64 (a1 - 1)) t323 _ A3.out).mono ?_); rintro e w' ⟨rfl, ⟨nd, rfl⟩⟩; refine ⟨_, rfl, ?_⟩))
  go_ret
  exact ⟨by first | rfl | (simp; done) | (simp [*]; done), by repeat (first | exact Drawn0.refl _ | apply Drawn0.step)⟩

/-! ### impl_ValidDisk_2: function 81 -/
def impl_ValidDisk_2.f (a0_0 : Int) (a0_1 : ByteArray) (l1_0 : List ByteArray) (l1_1 : List (S57)) (a1_2 : Int) (a1_3 : Bool) : Option (Bool) := (impl_isIndex.f a0_0 (l1_0.length : Int)).bind fun t325 => (if t325 = true then ((impl_isBlock.f a0_1).bind fun t326 => (some (!t326))) else (some true))
set_option maxHeartbeats 8000000 in
set_option maxRecDepth 100000 in
theorem impl_ValidDisk_2.calls (a0_0 : Int) (a0_1 : ByteArray) (g1_0 : Nat) (A1_0 : Option Addr) (c1_0 : Nat) (l1_0 : List ByteArray) (A1_1 : Option Addr) (c1_1 : Nat) (l1_1 : List (S57)) (a1_2 : Int) (a1_3 : Bool) (r : Bool) (w : World) (hr1_0 : Kd.C Kd.string w A1_0 l1_0.length l1_0) (hc1_0 : l1_0.length ≤ c1_0) (hr1_1 : Kd.C k57 w A1_1 l1_1.length l1_1) (hc1_1 : l1_1.length ≤ c1_1) (hb1_0 : w.heap[g1_0]? = some (.cells #[.slice A1_0 l1_0.length c1_0, .slice A1_1 l1_1.length c1_1, .int .i64 a1_2, .bool a1_3] 44 (0, 0))) (h : impl_ValidDisk_2.f a0_0 a0_1 l1_0 l1_1 a1_2 a1_3 = some r) :
    Calls Try.prog 81 #[.agg #[.int .i64 a0_0, .string a0_1], .pointer (some ⟨g1_0, 0, none⟩)] w fun e w' => e = .returned (.bool r) ∧ Below w.heap.size w w' := by
  have hu57 := Try.underlying57
  have HR1_0 := yD hr1_0
  have HC1_0 := yD hc1_0
  clear hr1_0 hc1_0
  have HR1_1 := yD hr1_1
  have HC1_1 := yD hc1_1
  clear hr1_1 hc1_1
  have BK48 := yD hb1_0
  clear hb1_0
  have HB := yD (Below.refl w.heap.size w)
  have H : ((impl_isIndex.f a0_0 (l1_0.length : Int)).bind fun t325 => (if t325 = true then ((impl_isBlock.f a0_1).bind fun t326 => (some (!t326))) else (some true))) = some r := h
  clear h
  obtain ⟨t325, A30, H⟩ := zW_ H
  replace H : (if t325 = true then ((impl_isBlock.f a0_1).bind fun t326 => (some (!t326))) else (some true)) = some r := H
  have A3 := yD A30
  clear A30
  by_cases c4 : t325 = true
  · subst c4
    have H1 : ((impl_isBlock.f a0_1).bind fun t326 => (some (!t326))) = some r := by rw [if_pos rfl] at H; exact H
    clear H; have H := H1; clear H1
    obtain ⟨t326, A50, H⟩ := zW_ H
    replace H : (some (!t326)) = some r := H
    have A5 := yD A50
    clear A50; obtain rfl := Option.some.inj H; go_enter Try.func81, Try.ntmps81
    go_wp2_with (first | ((with_reducible refine gate_dst (N := 2) rfl ?_); refine box_event ?hg (N := 2) ?hd (cs := #[.int .i64 a0_0, .string a0_1]) (t := 57) ?hr ?_; (case hd => rfl); (case hg => rfl); (case hr => first | (go_simp; done) | (go_simp; rfl)); intro gb324 hg w6 hbox hb; have n0_ := yD (zB (g := g1_0) (o := .cells #[.slice A1_0 l1_0.length c1_0, .slice A1_1 l1_1.length c1_1, .int .i64 a1_2, .bool a1_3] 44 (0, 0)) (kM BK48) hb); have n1_ := yD (zC (kB HB) hb); have n2_ := yD (hbox); have n3_ := yD ((by rw [hg]; exact (below_size (kB HB)) : w.heap.size ≤ gb324)); have n4_ := yD ((by rw [hg]; exact (below_size (kB HB)) : w.heap.size ≤ gb324)); have n5_ := yD ((by rw [hg]; exact Nat.ne_of_lt (blk_lt (g := g1_0) (o := .cells #[.slice A1_0 l1_0.length c1_0, .slice A1_1 l1_1.length c1_1, .int .i64 a1_2, .bool a1_3] 44 (0, 0)) (kM BK48)) : g1_0 ≠ gb324)); have n6_ := yD ((by rw [hg]; exact Nat.ne_of_gt (blk_lt (g := g1_0) (o := .cells #[.slice A1_0 l1_0.length c1_0, .slice A1_1 l1_1.length c1_1, .int .i64 a1_2, .bool a1_3] 44 (0, 0)) (kM BK48)) : gb324 ≠ g1_0)); clear BK48; clear HB; have BK48 := n0_; have HB := n1_; have BK324 := n2_; have GW324 := n3_; have GE324 := n4_; have NB48_324 := n5_; have NB324_48 := n6_; clear n0_ n1_ n2_ n3_ n4_ n5_ n6_; clear hb hbox hg; have hnb7 := NB324_48.out; have hnc7 := NB48_324.out; obtain ⟨hcz8_0, hcz8_1⟩ := cz2 BK324.out; obtain ⟨hfz8_0, hfz8_1⟩ := fz2 BK324.out; obtain ⟨hcz9_0, hcz9_1, hcz9_2, hcz9_3⟩ := cz4 BK48.out; obtain ⟨hfz9_0, hfz9_1, hfz9_2, hfz9_3⟩ := fz4 BK48.out) | ((with_reducible refine gate_callee (f := 82) rfl ?_); refine goesL_ (some 9) rfl rfl Try.func82 (by kernel_rfl) rfl #[.int .i64 a0_0, .int .i64 (l1_0.length : Int)] rfl (by (try simp only [zK, zL, zM]); first | done | rfl | (simp only [zN, zO]; rfl)) ?_; (with_reducible refine (impl_isIndex.calls a0_0 (l1_0.length : Int) true _ A3.out).mono ?_); rintro e w' ⟨rfl, ⟨nd, rfl⟩⟩; refine ⟨_, rfl, ?_⟩) | (go_at_call 79; (with_reducible refine (impl_isBlock.calls a0_1 t326 _ A5.out).mono ?_); rintro e w' ⟨rfl, ⟨nd, rfl⟩⟩))
    go_ret
    exact ⟨by first | rfl | (simp <;> rfl) | (simp [*] <;> rfl), kR1 HB⟩
  · replace c4 := Bool.eq_false_iff.mpr c4
    subst c4
    have H1 : (some true) = some r := by rw [if_neg (show ¬ (false = true) by decide)] at H; exact H
    clear H; have H := H1; clear H1; obtain rfl := Option.some.inj H; go_enter Try.func81, Try.ntmps81
    go_wp2_with (first | ((with_reducible refine gate_dst (N := 2) rfl ?_); refine box_event ?hg (N := 2) ?hd (cs := #[.int .i64 a0_0, .string a0_1]) (t := 57) ?hr ?_; (case hd => rfl); (case hg => rfl); (case hr => first | (go_simp; done) | (go_simp; rfl)); intro gb324 hg w10 hbox hb; have n0_ := yD (zB (g := g1_0) (o := .cells #[.slice A1_0 l1_0.length c1_0, .slice A1_1 l1_1.length c1_1, .int .i64 a1_2, .bool a1_3] 44 (0, 0)) (kM BK48) hb); have n1_ := yD (zC (kB HB) hb); have n2_ := yD (hbox); have n3_ := yD ((by rw [hg]; exact (below_size (kB HB)) : w.heap.size ≤ gb324)); have n4_ := yD ((by rw [hg]; exact (below_size (kB HB)) : w.heap.size ≤ gb324)); have n5_ := yD ((by rw [hg]; exact Nat.ne_of_lt (blk_lt (g := g1_0) (o := .cells #[.slice A1_0 l1_0.length c1_0, .slice A1_1 l1_1.length c1_1, .int .i64 a1_2, .bool a1_3] 44 (0, 0)) (kM BK48)) : g1_0 ≠ gb324)); have n6_ := yD ((by rw [hg]; exact Nat.ne_of_gt (blk_lt (g := g1_0) (o := .cells #[.slice A1_0 l1_0.length c1_0, .slice A1_1 l1_1.length c1_1, .int .i64 a1_2, .bool a1_3] 44 (0, 0)) (kM BK48)) : gb324 ≠ g1_0)); clear BK48; clear HB; have BK48 := n0_; have HB := n1_; have BK324 := n2_; have GW324 := n3_; have GE324 := n4_; have NB48_324 := n5_; have NB324_48 := n6_; clear n0_ n1_ n2_ n3_ n4_ n5_ n6_; clear hb hbox hg; have hnb11 := NB324_48.out; have hnc11 := NB48_324.out; obtain ⟨hcz12_0, hcz12_1⟩ := cz2 BK324.out; obtain ⟨hfz12_0, hfz12_1⟩ := fz2 BK324.out; obtain ⟨hcz13_0, hcz13_1, hcz13_2, hcz13_3⟩ := cz4 BK48.out; obtain ⟨hfz13_0, hfz13_1, hfz13_2, hfz13_3⟩ := fz4 BK48.out) | ((with_reducible refine gate_callee (f := 82) rfl ?_); refine goesL_ (some 9) rfl rfl Try.func82 (by kernel_rfl) rfl #[.int .i64 a0_0, .int .i64 (l1_0.length : Int)] rfl (by (try simp only [zK, zL, zM]); first | done | rfl | (simp only [zN, zO]; rfl)) ?_; (with_reducible refine (impl_isIndex.calls a0_0 (l1_0.length : Int) false _ A3.out).mono ?_); rintro e w' ⟨rfl, ⟨nd, rfl⟩⟩; refine ⟨_, rfl, ?_⟩))
    go_ret
    exact ⟨by first | rfl | (simp <;> rfl) | (simp [*] <;> rfl), kR1 HB⟩

/-! ### slices_IndexFunc_impl_ValidDisk_2: function 101 -/
def slices_IndexFunc_impl_ValidDisk_2.l0 : Nat → List (S57) → Int → Int → List ByteArray → List (S57) → Int → Bool → Option (Int)
  | 0, _, _, _, _, _, _, _ => none
  | k + 1, x0, x7, x8, x49000, x49001, x49002, x49003 => if x8 < x7 then (if 0 ≤ x8 then (if x8 < (x0.length : Int) then ((impl_ValidDisk_2.f ((rd_T57 x0 x8).f0) ((rd_T57 x0 x8).f1) x49000 x49001 x49002 x49003).bind fun t328 => (if t328 = true then (some x8) else (slices_IndexFunc_impl_ValidDisk_2.l0 k x0 x7 (wrap64 (x8 + 1)) x49000 x49001 x49002 x49003))) else (none)) else (none)) else (some (-1))
def slices_IndexFunc_impl_ValidDisk_2.f (k : Nat) (l0 : List (S57)) (l1_0 : List ByteArray) (l1_1 : List (S57)) (a1_2 : Int) (a1_3 : Bool) : Option (Int) := slices_IndexFunc_impl_ValidDisk_2.l0 k l0 (l0.length : Int) 0 l1_0 l1_1 a1_2 a1_3
theorem slices_IndexFunc_impl_ValidDisk_2.mono_l : ∀ k, (∀ y0 y1 y2 y3 y4 y5 y6, LeO (slices_IndexFunc_impl_ValidDisk_2.l0 k y0 y1 y2 y3 y4 y5 y6) (slices_IndexFunc_impl_ValidDisk_2.l0 (k + 1) y0 y1 y2 y3 y4 y5 y6))
  | 0 => fun _ _ _ _ _ _ _ r h => by simp [slices_IndexFunc_impl_ValidDisk_2.l0] at h
  | k + 1 => by
    have ih0 := slices_IndexFunc_impl_ValidDisk_2.mono_l k
    · intro y0 y1 y2 y3 y4 y5 y6
      unfold slices_IndexFunc_impl_ValidDisk_2.l0
      repeat' first
      | (with_reducible exact ih0 _ _ _ _ _ _ _)
      | (with_reducible exact LeO.refl _)
      | (with_reducible exact LeO.none _)
      | (with_reducible refine LeO.ite ?_ ?_)
      | (with_reducible refine LeO.bind ?_ (fun _ => ?_))
      | exact ih0 _ _ _ _ _ _ _
      | exact LeO.none _
      | refine LeO.ite ?_ ?_
      | refine LeO.bind ?_ (fun _ => ?_)
theorem slices_IndexFunc_impl_ValidDisk_2.mono : ∀ a0 a1 a2 a3 a4 k, LeO (slices_IndexFunc_impl_ValidDisk_2.f k a0 a1 a2 a3 a4) (slices_IndexFunc_impl_ValidDisk_2.f (k + 1) a0 a1 a2 a3 a4) := by
  intro a0 a1 a2 a3 a4 k
  have ih0 := slices_IndexFunc_impl_ValidDisk_2.mono_l k
  unfold slices_IndexFunc_impl_ValidDisk_2.f
  repeat' first
      | (with_reducible exact ih0 _ _ _ _ _ _ _)
      | (with_reducible exact LeO.refl _)
      | (with_reducible exact LeO.none _)
      | (with_reducible refine LeO.ite ?_ ?_)
      | (with_reducible refine LeO.bind ?_ (fun _ => ?_))
      | exact ih0 _ _ _ _ _ _ _
      | exact LeO.none _
      | refine LeO.ite ?_ ?_
      | refine LeO.bind ?_ (fun _ => ?_)
set_option maxHeartbeats 8000000 in
set_option maxRecDepth 100000 in
theorem slices_IndexFunc_impl_ValidDisk_2.calls (k : Nat) (A0 : Option Addr) (c0 : Nat) (l0 : List (S57)) (g1_0 : Nat) (A1_0 : Option Addr) (c1_0 : Nat) (l1_0 : List ByteArray) (A1_1 : Option Addr) (c1_1 : Nat) (l1_1 : List (S57)) (a1_2 : Int) (a1_3 : Bool) (r : Int) (w : World) (hr0 : Kd.C k57 w A0 l0.length l0) (hc0 : l0.length ≤ c0) (hr1_0 : Kd.C Kd.string w A1_0 l1_0.length l1_0) (hc1_0 : l1_0.length ≤ c1_0) (hr1_1 : Kd.C k57 w A1_1 l1_1.length l1_1) (hc1_1 : l1_1.length ≤ c1_1) (hb1_0 : w.heap[g1_0]? = some (.cells #[.slice A1_0 l1_0.length c1_0, .slice A1_1 l1_1.length c1_1, .int .i64 a1_2, .bool a1_3] 44 (0, 0))) (h : slices_IndexFunc_impl_ValidDisk_2.f k l0 l1_0 l1_1 a1_2 a1_3 = some r) :
    Calls Try.prog 101 #[.slice A0 l0.length c0, .func (.func 81) #[] #[.pointer (some ⟨g1_0, 0, none⟩)]] w fun e w' => e = .returned (.int .i64 r) ∧ Below w.heap.size w w' := by
  have hu57 := Try.underlying57
  have HR0 := yD hr0
  have HC0 := yD hc0
  clear hr0 hc0
  have HR1_0 := yD hr1_0
  have HC1_0 := yD hc1_0
  clear hr1_0 hc1_0
  have HR1_1 := yD hr1_1
  have HC1_1 := yD hc1_1
  clear hr1_1 hc1_1
  have BK48 := yD hb1_0
  clear hb1_0
  have HB := yD (Below.refl w.heap.size w)
  have H : (slices_IndexFunc_impl_ValidDisk_2.l0 k l0 (l0.length : Int) 0 l1_0 l1_1 a1_2 a1_3) = some r := h
  clear h
  have H' := yD H
  clear H; go_enter Try.func101, Try.ntmps101
  go_wp2
  go_loopg [8] k (fun kq v8 w' => ∃ (x8_1 : Int), v8 = .int .i64 x8_1 ∧ Aside0 (slices_IndexFunc_impl_ValidDisk_2.l0 kq l0 (l0.length : Int) x8_1 l1_0 l1_1 a1_2 a1_3 = some r) ∧ Aside0 (kq ≤ k) ∧ Aside0 (w'.heap[g1_0]? = some (.cells #[(.slice A1_0 l1_0.length c1_0), (.slice A1_1 l1_1.length c1_1), .int .i64 a1_2, .bool a1_3] 44 (0, 0))) ∧ Aside0 (Below w.heap.size w w'))
  case atStart => exact ⟨(0), (by first | rfl | (simp; done) | (simp [*]; done)), H', ⟨Nat.le_refl _⟩, ⟨by (with_reducible repeat (first | refine yM ?_ _ | refine yO ?_ | refine yN ?_ _)); exact BK48.out⟩, ⟨kR1 HB⟩⟩
  case round =>
    clear H'
    try clear c1; try clear p2
    obtain ⟨x8_1, rfl, HA, HK1, BK48, HB⟩ := hrel
    cases gk with
    | zero => exact absurd HA.out (by simp [slices_IndexFunc_impl_ValidDisk_2.l0])
    | succ k1 =>
      have H := HA.out; clear HA
      simp only [slices_IndexFunc_impl_ValidDisk_2.l0] at H
      by_cases c3 : x8_1 < (l0.length : Int)
      · rw [if_pos c3] at H
        have c3b0 : decide (x8_1 < (l0.length : Int)) = true := zR c3; clear c3
        by_cases c4 : 0 ≤ x8_1
        · rw [if_pos c4] at H
          have c4b0 : decide (0 ≤ x8_1) = true := zR c4; clear c4
          by_cases c5 : x8_1 < (l0.length : Int)
          · rw [if_pos c5] at H
            have c5b0 : decide (x8_1 < (l0.length : Int)) = true := zR c5; clear c5
            obtain ⟨t328, A60, H⟩ := zW_ H
            replace H : (if t328 = true then (some x8_1) else (slices_IndexFunc_impl_ValidDisk_2.l0 k1 l0 (l0.length : Int) (wrap64 (x8_1 + 1)) l1_0 l1_1 a1_2 a1_3)) = some r := H
            have A6 := yD A60
            clear A60
            by_cases c7 : t328 = true
            · subst c7
              have H1 : (some x8_1) = some r := by rw [if_pos rfl] at H; exact H
              clear H; have H := H1; clear H1; obtain rfl := Option.some.inj H
              have p327 : 0 ≤ (x8_1 : Int) := zP (by assumption)
              have q327 : x8_1 < (l0.length : Int) := zP (by assumption)
              obtain ⟨ad327, e327, hx327_0, hx327_1⟩ := at_T57 HR0.out x8_1 p327 q327
              cases e327
              replace hx327_0 := (HB.out.cell (zQ w _ hx327_0)).trans hx327_0
              replace hx327_1 := (HB.out.cell (zQ w _ hx327_1)).trans hx327_1
              replace p327 := eq_true p327; replace q327 := eq_true q327
              go_wp2_with (first | (go_at_call 81; (with_reducible refine (impl_ValidDisk_2.calls ((rd_T57 l0 x8_1).f0) ((rd_T57 l0 x8_1).f1) g1_0 A1_0 c1_0 l1_0 A1_1 c1_1 l1_1 a1_2 a1_3 true _ ?side1 ?side2 ?side3 ?side4 ?side5 A6.out).mono ?_); (case side1 => exact kV (yY HR1_0.out HB.out)); (case side2 => exact HC1_0.out); (case side3 => exact kV (yY HR1_1.out HB.out)); (case side4 => exact HC1_1.out); (case side5 => (with_reducible repeat (first | refine yM ?_ _ | refine yO ?_ | refine yN ?_ _)); exact BK48.out); rintro e w8 ⟨rfl, hb⟩; have n0_ := yD (zB (g := g1_0) (o := .cells #[.slice A1_0 l1_0.length c1_0, .slice A1_1 l1_1.length c1_1, .int .i64 a1_2, .bool a1_3] 44 (0, 0)) (kM BK48) hb); have n1_ := yD (zC (kB HB) hb); clear BK48; clear HB; have BK48 := n0_; have HB := n1_; clear n0_ n1_; (try clear hb); (try clear hb2); (try clear hk); (try clear hi)))
              go_ret
              exact ⟨by first | rfl | (simp <;> rfl) | (simp [*] <;> rfl), kR1 HB⟩
            · replace c7 := Bool.eq_false_iff.mpr c7
              subst c7
              have H1 : (slices_IndexFunc_impl_ValidDisk_2.l0 k1 l0 (l0.length : Int) (wrap64 (x8_1 + 1)) l1_0 l1_1 a1_2 a1_3) = some r := by rw [if_neg (show ¬ (false = true) by decide)] at H; exact H
              clear H; have H := H1; clear H1
              have H' := yD H
              clear H
              have p327 : 0 ≤ (x8_1 : Int) := zP (by assumption)
              have q327 : x8_1 < (l0.length : Int) := zP (by assumption)
              obtain ⟨ad327, e327, hx327_0, hx327_1⟩ := at_T57 HR0.out x8_1 p327 q327
              cases e327
              replace hx327_0 := (HB.out.cell (zQ w _ hx327_0)).trans hx327_0
              replace hx327_1 := (HB.out.cell (zQ w _ hx327_1)).trans hx327_1
              replace p327 := eq_true p327; replace q327 := eq_true q327
              go_wp2_with (first | (go_at_call 81; (with_reducible refine (impl_ValidDisk_2.calls ((rd_T57 l0 x8_1).f0) ((rd_T57 l0 x8_1).f1) g1_0 A1_0 c1_0 l1_0 A1_1 c1_1 l1_1 a1_2 a1_3 false _ ?side1 ?side2 ?side3 ?side4 ?side5 A6.out).mono ?_); (case side1 => exact kV (yY HR1_0.out HB.out)); (case side2 => exact HC1_0.out); (case side3 => exact kV (yY HR1_1.out HB.out)); (case side4 => exact HC1_1.out); (case side5 => (with_reducible repeat (first | refine yM ?_ _ | refine yO ?_ | refine yN ?_ _)); exact BK48.out); rintro e w9 ⟨rfl, hb⟩; have n0_ := yD (zB (g := g1_0) (o := .cells #[.slice A1_0 l1_0.length c1_0, .slice A1_1 l1_1.length c1_1, .int .i64 a1_2, .bool a1_3] 44 (0, 0)) (kM BK48) hb); have n1_ := yD (zC (kB HB) hb); clear BK48; clear HB; have BK48 := n0_; have HB := n1_; clear n0_ n1_; (try clear hb); (try clear hb2); (try clear hk); (try clear hi)))
              go_roundg k1
              case measure => have := HK1.out; omega
              case rel => exact ⟨(wrap64 (x8_1 + 1)), (by first | rfl | (simp; done) | (simp [*]; done)), H', ⟨by have := HK1.out; omega⟩, ⟨by (with_reducible repeat (first | refine yM ?_ _ | refine yO ?_ | refine yN ?_ _)); exact BK48.out⟩, ⟨kR1 HB⟩⟩
          · rw [if_neg c5] at H
            exact absurd H (by simp)
        · rw [if_neg c4] at H
          exact absurd H (by simp)
      · rw [if_neg c3] at H
        have c3b0 : decide (x8_1 < (l0.length : Int)) = false := zS c3; clear c3; obtain rfl := Option.some.inj H
        go_wp2
        go_ret
        exact ⟨by first | rfl | (simp <;> rfl) | (simp [*] <;> rfl), kR1 HB⟩

/-! ### slices_ContainsFunc_impl_ValidDisk_2: function 80 -/
def slices_ContainsFunc_impl_ValidDisk_2.f (k : Nat) (l0 : List (S57)) (l1_0 : List ByteArray) (l1_1 : List (S57)) (a1_2 : Int) (a1_3 : Bool) : Option (Bool) := (slices_IndexFunc_impl_ValidDisk_2.f k l0 l1_0 l1_1 a1_2 a1_3).bind fun t329 => (some (decide (t329 ≥ 0)))
theorem slices_ContainsFunc_impl_ValidDisk_2.mono : ∀ a0 a1 a2 a3 a4 k, LeO (slices_ContainsFunc_impl_ValidDisk_2.f k a0 a1 a2 a3 a4) (slices_ContainsFunc_impl_ValidDisk_2.f (k + 1) a0 a1 a2 a3 a4) := by
  intro a0 a1 a2 a3 a4 k
  unfold slices_ContainsFunc_impl_ValidDisk_2.f
  repeat' first
      | (with_reducible exact slices_IndexFunc_impl_ValidDisk_2.mono _ _ _ _ _ _)
      | (with_reducible exact LeO.refl _)
      | (with_reducible exact LeO.none _)
      | (with_reducible refine LeO.ite ?_ ?_)
      | (with_reducible refine LeO.bind ?_ (fun _ => ?_))
      | exact slices_IndexFunc_impl_ValidDisk_2.mono _ _ _ _ _ _
      | exact LeO.none _
      | refine LeO.ite ?_ ?_
      | refine LeO.bind ?_ (fun _ => ?_)
set_option maxHeartbeats 8000000 in
set_option maxRecDepth 100000 in
theorem slices_ContainsFunc_impl_ValidDisk_2.calls (k : Nat) (A0 : Option Addr) (c0 : Nat) (l0 : List (S57)) (g1_0 : Nat) (A1_0 : Option Addr) (c1_0 : Nat) (l1_0 : List ByteArray) (A1_1 : Option Addr) (c1_1 : Nat) (l1_1 : List (S57)) (a1_2 : Int) (a1_3 : Bool) (r : Bool) (w : World) (hr0 : Kd.C k57 w A0 l0.length l0) (hc0 : l0.length ≤ c0) (hr1_0 : Kd.C Kd.string w A1_0 l1_0.length l1_0) (hc1_0 : l1_0.length ≤ c1_0) (hr1_1 : Kd.C k57 w A1_1 l1_1.length l1_1) (hc1_1 : l1_1.length ≤ c1_1) (hb1_0 : w.heap[g1_0]? = some (.cells #[.slice A1_0 l1_0.length c1_0, .slice A1_1 l1_1.length c1_1, .int .i64 a1_2, .bool a1_3] 44 (0, 0))) (h : slices_ContainsFunc_impl_ValidDisk_2.f k l0 l1_0 l1_1 a1_2 a1_3 = some r) :
    Calls Try.prog 80 #[.slice A0 l0.length c0, .func (.func 81) #[] #[.pointer (some ⟨g1_0, 0, none⟩)]] w fun e w' => e = .returned (.bool r) ∧ Below w.heap.size w w' := by
  have HR0 := yD hr0
  have HC0 := yD hc0
  clear hr0 hc0
  have HR1_0 := yD hr1_0
  have HC1_0 := yD hc1_0
  clear hr1_0 hc1_0
  have HR1_1 := yD hr1_1
  have HC1_1 := yD hc1_1
  clear hr1_1 hc1_1
  have BK48 := yD hb1_0
  clear hb1_0
  have HB := yD (Below.refl w.heap.size w)
  have H : ((slices_IndexFunc_impl_ValidDisk_2.f k l0 l1_0 l1_1 a1_2 a1_3).bind fun t329 => (some (decide (t329 ≥ 0)))) = some r := h
  clear h
  obtain ⟨t329, A30, H⟩ := zW_ H
  replace H : (some (decide (t329 ≥ 0))) = some r := H
  have A3 := yD A30
  clear A30; obtain rfl := Option.some.inj H; go_enter Try.func80, Try.ntmps80
  go_wp2_with (first | ((with_reducible refine gate_callee (f := 101) rfl ?_); refine goesL_ (some 7) rfl rfl Try.func101 (by kernel_rfl) rfl #[.slice A0 l0.length c0, .func (.func 81) #[] #[.pointer (some ⟨g1_0, 0, none⟩)]] rfl (by (try simp only [zK, zL, zM]); first | done | rfl | (simp only [zN, zO]; rfl)) ?_; (with_reducible refine (slices_IndexFunc_impl_ValidDisk_2.calls k _ _ l0 g1_0 A1_0 c1_0 l1_0 A1_1 c1_1 l1_1 a1_2 a1_3 t329 _ ?side1 ?side2 ?side3 ?side4 ?side5 ?side6 ?side7 A3.out).mono ?_); (case side1 => repeat (first | exact HR0.out | (with_reducible first | refine yV ?_ _ | refine yW ?_ _ | refine yX ?_))); (case side2 => exact HC0.out); (case side3 => repeat (first | exact HR1_0.out | (with_reducible first | refine yV ?_ _ | refine yW ?_ _ | refine yX ?_))); (case side4 => exact HC1_0.out); (case side5 => repeat (first | exact HR1_1.out | (with_reducible first | refine yV ?_ _ | refine yW ?_ _ | refine yX ?_))); (case side6 => exact HC1_1.out); (case side7 => (with_reducible repeat (first | refine yM ?_ _ | refine yO ?_ | refine yN ?_ _)); exact BK48.out); rintro e w4 ⟨rfl, hb⟩; refine ⟨_, rfl, ?_⟩; have n0_ := yD (zB (g := g1_0) (o := .cells #[.slice A1_0 l1_0.length c1_0, .slice A1_1 l1_1.length c1_1, .int .i64 a1_2, .bool a1_3] 44 (0, 0)) (kM BK48) hb); have n1_ := yD (zC (kB HB) hb); clear BK48; clear HB; have BK48 := n0_; have HB := n1_; clear n0_ n1_; (try clear hb); (try clear hb2); (try clear hk); (try clear hi)))
  go_ret
  exact ⟨by first | rfl | (simp <;> rfl) | (simp [*] <;> rfl), kR1 HB⟩

end Go.Proofs.Ytgpkkplabnliiaa.PFnCuts
