/- Each Go function here comes to what the plain function of its name says, where that says something. Made by a program of this session, over the print. -/
import Derived.Test.YtdiaebjbiddefaaPFnNormalFormx0
namespace Go.Proofs.Ytdiaebjbiddefaa.PFnNormalForm
open Go.RowKit Go.Proofs.YtdiaebjbiddefaaW.PrintWords Go.Proofs.YtdiaebjbiddefaaW.PrintLast Go.Proofs.YtdiaebjbiddefaaW.PrintMore
attribute [local go_sem] max2_int min2_int max_two min_two max_three min_three max_four min_four   -- for this text's walks alone
set_option linter.unusedVariables false
set_option linter.unusedSimpArgs false

/-! ### spec_l00Put: function 148 -/
mutual
def spec_l00Put.l0 : Nat → List Int → Int → List Int → Bool → Int → Option (List Int)
 | 0, _, _, _, _, _ => none
 | k + 1, x0, x1, x5, x6, x7 => if x7 < (x0.length : Int) then (if x6 = true then (spec_l00Put.j1 k x0 x1 x5 x6 x7 false) else (if 0 ≤ x7 then (spec_l00Put.j1 k x0 x1 x5 x6 x7 (decide ((rd x0 x7) ≥ x1))) else (none))) else (if x6 = true then (some x5) else (if x5.length < 17592186044416 then (some (x5 ++ [x1])) else (none)))
def spec_l00Put.j1 : Nat → List Int → Int → List Int → Bool → Int → Bool → Option (List Int)
 | 0, _, _, _, _, _, _ => none
 | k + 1, x0, x1, x5, x6, x7, x24 => if x24 = true then (if 0 ≤ x7 then (if x7 < (x0.length : Int) then (if (rd x0 x7) > x1 then (if x5.length < 17592186044416 then ((some (x5 ++ [x1] : List Int)).bind fun y312 => (if y312.length < 17592186044416 then (spec_l00Put.l0 k x0 x1 (y312 ++ [rd x0 x7]) true (wrap64 (x7 + 1))) else (none))) else (none)) else (if x5.length < 17592186044416 then (spec_l00Put.l0 k x0 x1 (x5 ++ [rd x0 x7]) true (wrap64 (x7 + 1))) else (none))) else (none)) else (none)) else (if 0 ≤ x7 then (if x7 < (x0.length : Int) then (if x5.length < 17592186044416 then (spec_l00Put.l0 k x0 x1 (x5 ++ [rd x0 x7]) x6 (wrap64 (x7 + 1))) else (none)) else (none)) else (none))
end
def spec_l00Put.f (k : Nat) (l0 : List Int) (a1 : Int) : Option (List Int) := spec_l00Put.l0 k l0 a1 (([] : List Int)) false 0
theorem spec_l00Put.mono_l : ∀ k, (∀ y0 y1 y2 y3 y4, LeO (spec_l00Put.l0 k y0 y1 y2 y3 y4) (spec_l00Put.l0 (k + 1) y0 y1 y2 y3 y4)) ∧ (∀ y0 y1 y2 y3 y4 y5, LeO (spec_l00Put.j1 k y0 y1 y2 y3 y4 y5) (spec_l00Put.j1 (k + 1) y0 y1 y2 y3 y4 y5))
 | 0 => ⟨fun _ _ _ _ _ r h => by simp [spec_l00Put.l0] at h, fun _ _ _ _ _ _ r h => by simp [spec_l00Put.j1] at h⟩
 | k + 1 => by
  obtain ⟨ih0, ih1⟩ := spec_l00Put.mono_l k
  refine ⟨?_, ?_⟩
  ·
   intro y0 y1 y2 y3 y4
   unfold spec_l00Put.l0
   repeat' first
   | (with_reducible exact ih0 _ _ _ _ _)
   | (with_reducible exact ih1 _ _ _ _ _ _)
   | (with_reducible exact LeO.refl _)
   | (with_reducible exact LeO.none _)
   | (with_reducible refine LeO.ite ?_ ?_)
   | (with_reducible refine LeO.bind ?_ (fun _ => ?_))
   | exact ih0 _ _ _ _ _
   | exact ih1 _ _ _ _ _ _
   | exact LeO.none _
   | refine LeO.ite ?_ ?_
   | refine LeO.bind ?_ (fun _ => ?_)
  ·
   intro y0 y1 y2 y3 y4 y5
   unfold spec_l00Put.j1
   repeat' first
   | (with_reducible exact ih0 _ _ _ _ _)
   | (with_reducible exact ih1 _ _ _ _ _ _)
   | (with_reducible exact LeO.refl _)
   | (with_reducible exact LeO.none _)
   | (with_reducible refine LeO.ite ?_ ?_)
   | (with_reducible refine LeO.bind ?_ (fun _ => ?_))
   | exact ih0 _ _ _ _ _
   | exact ih1 _ _ _ _ _ _
   | exact LeO.none _
   | refine LeO.ite ?_ ?_
   | refine LeO.bind ?_ (fun _ => ?_)
theorem spec_l00Put.mono : ∀ a0 a1 k, LeO (spec_l00Put.f k a0 a1) (spec_l00Put.f (k + 1) a0 a1) := by
 intro a0 a1 k
 obtain ⟨ih0, ih1⟩ := spec_l00Put.mono_l k
 unfold spec_l00Put.f
 repeat' first
  | (with_reducible exact ih0 _ _ _ _ _)
  | (with_reducible exact ih1 _ _ _ _ _ _)
  | (with_reducible exact LeO.refl _)
  | (with_reducible exact LeO.none _)
  | (with_reducible refine LeO.ite ?_ ?_)
  | (with_reducible refine LeO.bind ?_ (fun _ => ?_))
  | exact ih0 _ _ _ _ _
  | exact ih1 _ _ _ _ _ _
  | exact LeO.none _
  | refine LeO.ite ?_ ?_
  | refine LeO.bind ?_ (fun _ => ?_)
set_option maxHeartbeats 8000000 in
set_option maxRecDepth 100000 in
theorem spec_l00Put.calls (k : Nat) (A0 : Option Addr) (c0 : Nat) (l0 : List Int) (a1 : Int) (r : List Int) (w : World) (hr0 : Kd.C (Kd.int .i64) w A0 l0.length l0) (hc0 : l0.length ≤ c0) (h : spec_l00Put.f k l0 a1 = some r) :
 Calls Try.prog 148 #[.slice A0 l0.length c0, .int .i64 a1] w fun e w' => ∃ v0_ : Value, e = .returned (v0_) ∧ Kd.R (Kd.int .i64) 2 w' w.heap.size (fun _ => True) v0_ r ∧ Below w.heap.size w w' := by
 have HR0 := yD hr0
 have HC0 := yD hc0
 clear hr0 hc0
 have HB := yD (Below.refl w.heap.size w)
 have H : (spec_l00Put.l0 k l0 a1 (([] : List Int)) false 0) = some r := h
 clear h
 obtain ⟨y304, hy304⟩ : ∃ y_ : List Int, y_ = (([] : List Int)) := ⟨_, rfl⟩
 replace H : (spec_l00Put.l0 k l0 a1 y304 false 0) = some r := by first | (rw [hy304]; with_reducible exact H) | (have H2_ := (Option.bind_some _ _).symm.trans H; rw [hy304]; with_reducible exact H2_) | (have H2_ := (Option.bind_some _ _).symm.trans H; with_reducible exact H2_) | with_reducible exact H | (rw [hy304]; exact H) | exact H
 have Ny304 := yD hy304
 clear hy304
 have H' := yD H
 clear H; go_enter Try.func148, Try.ntmps148
 go_wp2_with (first | ((with_reducible refine gate_dst (N := 8) rfl ?_); refine Kd.R_lit (Kd.int .i64) _ 2 ?hg (N := 8) ?hd (xs := ([] : List Int)) (inner := []) (ok := fun _ => True) (okp := fun _ => True) ?hr ?hp (fun _ hk => hk) trivial (Below.refl _ _) (Nat.le_refl _) (by simp) ?_; (case hd => rfl); (case hg => rfl); (case hr => first | (go_simp; done) | (go_simp; rfl)); (case hp => exact (Reps.none _ _)); intro v305 w3 ho4 hb hg_ hnew_; clear hg_ hnew_; (first | rw [← Ny304.out] at ho4 | (simp only [Int.reduceToNat] at ho4; rw [← Ny304.out] at ho4)); have n0_ := yD (yZ ho4 (below_size (kB HB))); have n1_ := yD (zC (kB HB) hb); clear HB; have HO306 := n0_; have HB := n1_; clear n0_ n1_; clear hb ho4))
 (try simp only [Act.put, zH, zI, zJ])
 go_loopg [5, 6, 7] k (fun kq v5 v6 v7 w' => ∃ (x5_1 : List Int) (x6_1 : Bool) (x7_1 : Int), v6 = .bool x6_1 ∧ v7 = .int .i64 x7_1 ∧ Aside0 (spec_l00Put.l0 kq l0 a1 x5_1 x6_1 x7_1 = some r) ∧ Aside0 (kq ≤ k) ∧ Aside0 (Kd.R (Kd.int .i64) 2 w' w.heap.size (fun _ => True) v5 x5_1) ∧ Aside0 (Below w.heap.size w w'))
 case atStart => exact ⟨(y304), (false), (0), (by first | rfl | (simp; done) | (simp [*]; done)), (by first | rfl | (simp; done) | (simp [*]; done)), H', ⟨Nat.le_refl _⟩, ⟨by (with_reducible repeat (first | apply yA | apply yB | apply yC)); exact HO306.out⟩, ⟨kR0 HB⟩⟩
 case round =>
  clear H'
  try clear c1; try clear p2
  obtain ⟨x5_1, x6_1, x7_1, rfl, rfl, HA, HK1, HO_5, HB⟩ := hrel
  cases gk with
  | zero => exact absurd HA.out (by simp [spec_l00Put.l0])
  | succ k1 =>
   have H := HA.out; clear HA
   simp only [spec_l00Put.l0] at H
   by_cases c5 : x7_1 < (l0.length : Int)
   ·
    rw [if_pos c5] at H
    have c5b0 : decide (x7_1 < (l0.length : Int)) = true := zR c5; clear c5
    have HC6 := yD H
    clear H
    go_upto_region 6 with (fail)
    go_cut [24] (fun v24 wc => ∃ (kq : Nat) (x24_5 : Bool), v24 = .bool x24_5 ∧ Aside0 (spec_l00Put.j1 kq l0 a1 x5_1 x6_1 x7_1 x24_5 = some r) ∧ Aside0 (kq ≤ k1) ∧ Aside0 (Kd.R (Kd.int .i64) 2 wc w.heap.size (fun _ => True) u5 x5_1) ∧ Aside0 (Below w.heap.size w wc))
    case first =>
     have H := HC6.out; clear HC6
     by_cases c7 : x6_1 = true
     · subst c7
       have H1 : (spec_l00Put.j1 k1 l0 a1 x5_1 true x7_1 false) = some r := by rw [if_pos rfl] at H; exact H
       clear H; have H := H1; clear H1
       have H' := yD H
       clear H
       go_wp2
       go_meet
       case rel => exact ⟨_, (false), (by first | rfl | (simp; done) | (simp [*]; done)), H', ⟨by have := HK1.out; first | omega | exact Nat.le_refl _⟩, ⟨by (with_reducible repeat (first | apply yA | apply yB | apply yC)); exact HO_5.out⟩, ⟨kR0 HB⟩⟩
     ·
      replace c7 := Bool.eq_false_iff.mpr c7
      subst c7
      have H1 : (if 0 ≤ x7_1 then (spec_l00Put.j1 k1 l0 a1 x5_1 false x7_1 (decide ((rd l0 x7_1) ≥ a1))) else (none)) = some r := by rw [if_neg (show ¬ (false = true) by decide)] at H; exact H
      clear H; have H := H1; clear H1
      by_cases c8 : 0 ≤ x7_1
      ·
       rw [if_pos c8] at H
       have c8b0 : decide (0 ≤ x7_1) = true := zR c8; clear c8
       (first | rw [c8b0] | (simp only [i64_w, i32_w]; rw [c8b0]) | (simp only [bne] at c8b0; rw [c8b0]) | skip)
       have H' := yD H
       clear H
       have p310 : 0 ≤ (x7_1 : Int) := zP (by assumption)
       have q310 : x7_1 < (l0.length : Int) := zP (by assumption)
       obtain ⟨ad310, e310, hx310_0⟩ := Kd.at_int HR0.out x7_1 p310 q310
       cases e310
       replace hx310_0 := (HB.out.cell (zQ w _ hx310_0)).trans hx310_0
       replace p310 := eq_true p310; replace q310 := eq_true q310
       go_wp2
       go_meet
       case rel => exact ⟨_, (decide ((rd l0 x7_1) ≥ a1)), (by first | rfl | (simp; done) | (simp [*]; done)), H', ⟨by have := HK1.out; first | omega | exact Nat.le_refl _⟩, ⟨by (with_reducible repeat (first | apply yA | apply yB | apply yC)); exact HO_5.out⟩, ⟨kR0 HB⟩⟩
      · rw [if_neg c8] at H
        exact absurd H (by simp)
    case rest =>
     clear HC6; try clear c1; try clear p2; try clear p3; try clear q3; try clear hx3; try clear c5; try clear c5b0; try clear c7; try clear c8; try clear c8b0; try clear hx310_0; try clear p2; try clear p310; try clear q310
     obtain ⟨kq, x24_5, rfl, HA, HJ5, HO_5, HB⟩ := hcut
     cases kq with
     | zero => exact absurd HA.out (by simp [spec_l00Put.j1])
     | succ kj5 =>
      have H := HA.out; clear HA
      simp only [spec_l00Put.j1] at H
      by_cases c9 : x24_5 = true
      ·
       subst c9
       have H1 : (if 0 ≤ x7_1 then (if x7_1 < (l0.length : Int) then (if (rd l0 x7_1) > a1 then (if x5_1.length < 17592186044416 then ((some (x5_1 ++ [a1] : List Int)).bind fun y312 => (if y312.length < 17592186044416 then (spec_l00Put.l0 kj5 l0 a1 (y312 ++ [rd l0 x7_1]) true (wrap64 (x7_1 + 1))) else (none))) else (none)) else (if x5_1.length < 17592186044416 then (spec_l00Put.l0 kj5 l0 a1 (x5_1 ++ [rd l0 x7_1]) true (wrap64 (x7_1 + 1))) else (none))) else (none)) else (none)) = some r := by rw [if_pos rfl] at H; exact H
       clear H; have H := H1; clear H1
       by_cases c10 : 0 ≤ x7_1
       ·
        rw [if_pos c10] at H
        have c10b0 : decide (0 ≤ x7_1) = true := zR c10; clear c10
        by_cases c11 : x7_1 < (l0.length : Int)
        ·
         rw [if_pos c11] at H
         have c11b0 : decide (x7_1 < (l0.length : Int)) = true := zR c11; clear c11
         by_cases c12 : (rd l0 x7_1) > a1
         ·
          rw [if_pos c12] at H
          have c12b0 : decide (a1 < (rd l0 x7_1)) = true := zR c12; clear c12
          by_cases c13 : x5_1.length < 17592186044416
          ·
           rw [if_pos c13] at H
           have LMc13 := yD c13
           clear c13
           obtain ⟨y312, hy312⟩ : ∃ y_ : List Int, y_ = (x5_1 ++ [a1]) := ⟨_, rfl⟩
           replace H : (if y312.length < 17592186044416 then (spec_l00Put.l0 kj5 l0 a1 (y312 ++ [rd l0 x7_1]) true (wrap64 (x7_1 + 1))) else (none)) = some r := by first | (rw [hy312]; with_reducible exact H) | (have H2_ := (Option.bind_some _ _).symm.trans H; rw [hy312]; with_reducible exact H2_) | (have H2_ := (Option.bind_some _ _).symm.trans H; with_reducible exact H2_) | with_reducible exact H | (rw [hy312]; exact H) | exact H
           have Ny312 := yD hy312
           clear hy312
           by_cases c14 : y312.length < 17592186044416
           ·
            rw [if_pos c14] at H
            have LMc14 := yD c14
            clear c14
            obtain ⟨y316, hy316⟩ : ∃ y_ : List Int, y_ = (y312 ++ [rd l0 x7_1]) := ⟨_, rfl⟩
            replace H : (spec_l00Put.l0 kj5 l0 a1 y316 true (wrap64 (x7_1 + 1))) = some r := by first | (rw [hy316]; with_reducible exact H) | (have H2_ := (Option.bind_some _ _).symm.trans H; rw [hy316]; with_reducible exact H2_) | (have H2_ := (Option.bind_some _ _).symm.trans H; with_reducible exact H2_) | with_reducible exact H | (rw [hy316]; exact H) | exact H
            have Ny316 := yD hy316
            clear hy316
            have H' := yD H
            clear H
            have p311 : 0 ≤ (x7_1 : Int) := zP (by assumption)
            have q311 : x7_1 < (l0.length : Int) := zP (by assumption)
            obtain ⟨ad311, e311, hx311_0⟩ := Kd.at_int HR0.out x7_1 p311 q311
            cases e311
            replace hx311_0 := (HB.out.cell (zQ w _ hx311_0)).trans hx311_0
            replace p311 := eq_true p311; replace q311 := eq_true q311
            go_wp2_with (first | ((with_reducible refine gate_builtin (b := .append) (xs := #[.tmp 31, .tmp 33]) rfl ?_); at_builtin; refine Kd.R_append (Kd.int .i64) (w0 := w) w.heap.size rfl (.tmp 31) (.tmp 33) 36 2 (.int .i64 0) 8 rfl Try.underlying36 info2 rfl (by decide) (by omega) u5 x5_1 a1 [.int .i64 a1] (fun _ => True) (fun _ => False) rfl rfl ?aP (fun _ hk => hk.elim) ?aF ?aO ?aB ?aS ?aL ?_; (case aP => exact rfl); (case aB => exact (kB HB)); (case aF => exact (fun _ _ => trivial)); (case aO => exact (kA HO_5)); (case aS => exact (below_size (kB HB))); (case aL => have := LMc13.out; omega); intro v313 w15 ho hb hg hat; rw [← Ny312.out] at ho; have n0_ := yD (hb); have n1_ := yD (ho); clear HB; clear HO_5; have HB := n0_; have HO314 := n1_; clear n0_ n1_; clear ho hb hg hat; have p315 : 0 ≤ (x7_1 : Int) := zP (by assumption); have q315 : x7_1 < (l0.length : Int) := zP (by assumption); obtain ⟨ad315, e315, hx315_0⟩ := Kd.at_int HR0.out x7_1 p315 q315; obtain rfl : ad311 = ad315 := (by injection e315); replace hx315_0 := (HB.out.cell (zQ w _ hx315_0)).trans hx315_0; replace p315 := eq_true p315; replace q315 := eq_true q315) | ((with_reducible refine gate_builtin (b := .append) (xs := #[.tmp 35, .tmp 40]) rfl ?_); at_builtin; refine Kd.R_append (Kd.int .i64) (w0 := w) w.heap.size rfl (.tmp 35) (.tmp 40) 36 2 (.int .i64 0) 8 rfl Try.underlying36 info2 rfl (by decide) (by omega) v313 y312 (rd l0 x7_1) [.int .i64 (rd l0 x7_1)] (fun _ => True) (fun _ => False) rfl rfl ?aP (fun _ hk => hk.elim) ?aF ?aO ?aB ?aS ?aL ?_; (case aP => exact rfl); (case aB => exact (kB HB)); (case aF => exact (fun _ _ => trivial)); (case aO => exact (kA HO314)); (case aS => exact (below_size (kB HB))); (case aL => have := LMc14.out; omega); intro v317 w16 ho hb hg hat; rw [← Ny316.out] at ho; have n0_ := yD (hb); have n1_ := yD (ho); clear HB; clear HO314; have HB := n0_; have HO318 := n1_; clear n0_ n1_; clear ho hb hg hat))
            go_roundg kj5
            case measure => have := HK1.out; have := HJ5.out; omega
            case rel => exact ⟨(y316), (true), (wrap64 (x7_1 + 1)), (by first | rfl | (simp; done) | (simp [*]; done)), (by first | rfl | (simp; done) | (simp [*]; done)), H', ⟨by have := HK1.out; have := HJ5.out; omega⟩, ⟨by (with_reducible repeat (first | apply yA | apply yB | apply yC)); exact HO318.out⟩, ⟨kR0 HB⟩⟩
           · rw [if_neg c14] at H
             exact absurd H (by simp)
          · rw [if_neg c13] at H
            exact absurd H (by simp)
         ·
          rw [if_neg c12] at H
          have c12b0 : decide (a1 < (rd l0 x7_1)) = false := zS c12; clear c12
          by_cases c17 : x5_1.length < 17592186044416
          ·
           rw [if_pos c17] at H
           have LMc17 := yD c17
           clear c17
           obtain ⟨y320, hy320⟩ : ∃ y_ : List Int, y_ = (x5_1 ++ [rd l0 x7_1]) := ⟨_, rfl⟩
           replace H : (spec_l00Put.l0 kj5 l0 a1 y320 true (wrap64 (x7_1 + 1))) = some r := by first | (rw [hy320]; with_reducible exact H) | (have H2_ := (Option.bind_some _ _).symm.trans H; rw [hy320]; with_reducible exact H2_) | (have H2_ := (Option.bind_some _ _).symm.trans H; with_reducible exact H2_) | with_reducible exact H | (rw [hy320]; exact H) | exact H
           have Ny320 := yD hy320
           clear hy320
           have H' := yD H
           clear H
           have p311 : 0 ≤ (x7_1 : Int) := zP (by assumption)
           have q311 : x7_1 < (l0.length : Int) := zP (by assumption)
           obtain ⟨ad311, e311, hx311_0⟩ := Kd.at_int HR0.out x7_1 p311 q311
           cases e311
           replace hx311_0 := (HB.out.cell (zQ w _ hx311_0)).trans hx311_0
           replace p311 := eq_true p311; replace q311 := eq_true q311
           have p319 : 0 ≤ (x7_1 : Int) := zP (by assumption)
           have q319 : x7_1 < (l0.length : Int) := zP (by assumption)
           obtain ⟨ad319, e319, hx319_0⟩ := Kd.at_int HR0.out x7_1 p319 q319
           obtain rfl : ad311 = ad319 := (by injection e319)
           replace hx319_0 := (HB.out.cell (zQ w _ hx319_0)).trans hx319_0
           replace p319 := eq_true p319; replace q319 := eq_true q319
           go_wp2_with (first | ((with_reducible refine gate_builtin (b := .append) (xs := #[.tmp 35, .tmp 40]) rfl ?_); at_builtin; refine Kd.R_append (Kd.int .i64) (w0 := w) w.heap.size rfl (.tmp 35) (.tmp 40) 36 2 (.int .i64 0) 8 rfl Try.underlying36 info2 rfl (by decide) (by omega) u5 x5_1 (rd l0 x7_1) [.int .i64 (rd l0 x7_1)] (fun _ => True) (fun _ => False) rfl rfl ?aP (fun _ hk => hk.elim) ?aF ?aO ?aB ?aS ?aL ?_; (case aP => exact rfl); (case aB => exact (kB HB)); (case aF => exact (fun _ _ => trivial)); (case aO => exact (kA HO_5)); (case aS => exact (below_size (kB HB))); (case aL => have := LMc17.out; omega); intro v321 w18 ho hb hg hat; rw [← Ny320.out] at ho; have n0_ := yD (hb); have n1_ := yD (ho); clear HB; clear HO_5; have HB := n0_; have HO322 := n1_; clear n0_ n1_; clear ho hb hg hat))
           go_roundg kj5
           case measure => have := HK1.out; have := HJ5.out; omega
           case rel => exact ⟨(y320), (true), (wrap64 (x7_1 + 1)), (by first | rfl | (simp; done) | (simp [*]; done)), (by first | rfl | (simp; done) | (simp [*]; done)), H', ⟨by have := HK1.out; have := HJ5.out; omega⟩, ⟨by (with_reducible repeat (first | apply yA | apply yB | apply yC)); exact HO322.out⟩, ⟨kR0 HB⟩⟩
          · rw [if_neg c17] at H
            exact absurd H (by simp)
        · rw [if_neg c11] at H
          exact absurd H (by simp)
       · rw [if_neg c10] at H
         exact absurd H (by simp)
      ·
       replace c9 := Bool.eq_false_iff.mpr c9
       subst c9
       have H1 : (if 0 ≤ x7_1 then (if x7_1 < (l0.length : Int) then (if x5_1.length < 17592186044416 then (spec_l00Put.l0 kj5 l0 a1 (x5_1 ++ [rd l0 x7_1]) x6_1 (wrap64 (x7_1 + 1))) else (none)) else (none)) else (none)) = some r := by rw [if_neg (show ¬ (false = true) by decide)] at H; exact H
       clear H; have H := H1; clear H1
       by_cases c19 : 0 ≤ x7_1
       ·
        rw [if_pos c19] at H
        have c19b0 : decide (0 ≤ x7_1) = true := zR c19; clear c19
        by_cases c20 : x7_1 < (l0.length : Int)
        ·
         rw [if_pos c20] at H
         have c20b0 : decide (x7_1 < (l0.length : Int)) = true := zR c20; clear c20
         by_cases c21 : x5_1.length < 17592186044416
         ·
          rw [if_pos c21] at H
          have LMc21 := yD c21
          clear c21
          obtain ⟨y324, hy324⟩ : ∃ y_ : List Int, y_ = (x5_1 ++ [rd l0 x7_1]) := ⟨_, rfl⟩
          replace H : (spec_l00Put.l0 kj5 l0 a1 y324 x6_1 (wrap64 (x7_1 + 1))) = some r := by first | (rw [hy324]; with_reducible exact H) | (have H2_ := (Option.bind_some _ _).symm.trans H; rw [hy324]; with_reducible exact H2_) | (have H2_ := (Option.bind_some _ _).symm.trans H; with_reducible exact H2_) | with_reducible exact H | (rw [hy324]; exact H) | exact H
          have Ny324 := yD hy324
          clear hy324
          have H' := yD H
          clear H
          have p323 : 0 ≤ (x7_1 : Int) := zP (by assumption)
          have q323 : x7_1 < (l0.length : Int) := zP (by assumption)
          obtain ⟨ad323, e323, hx323_0⟩ := Kd.at_int HR0.out x7_1 p323 q323
          cases e323
          replace hx323_0 := (HB.out.cell (zQ w _ hx323_0)).trans hx323_0
          replace p323 := eq_true p323; replace q323 := eq_true q323
          go_wp2_with (first | ((with_reducible refine gate_builtin (b := .append) (xs := #[.tmp 35, .tmp 40]) rfl ?_); at_builtin; refine Kd.R_append (Kd.int .i64) (w0 := w) w.heap.size rfl (.tmp 35) (.tmp 40) 36 2 (.int .i64 0) 8 rfl Try.underlying36 info2 rfl (by decide) (by omega) u5 x5_1 (rd l0 x7_1) [.int .i64 (rd l0 x7_1)] (fun _ => True) (fun _ => False) rfl rfl ?aP (fun _ hk => hk.elim) ?aF ?aO ?aB ?aS ?aL ?_; (case aP => exact rfl); (case aB => exact (kB HB)); (case aF => exact (fun _ _ => trivial)); (case aO => exact (kA HO_5)); (case aS => exact (below_size (kB HB))); (case aL => have := LMc21.out; omega); intro v325 w22 ho hb hg hat; rw [← Ny324.out] at ho; have n0_ := yD (hb); have n1_ := yD (ho); clear HB; clear HO_5; have HB := n0_; have HO326 := n1_; clear n0_ n1_; clear ho hb hg hat))
          go_roundg kj5
          case measure => have := HK1.out; have := HJ5.out; omega
          case rel => exact ⟨(y324), (x6_1), (wrap64 (x7_1 + 1)), (by first | rfl | (simp; done) | (simp [*]; done)), (by first | rfl | (simp; done) | (simp [*]; done)), H', ⟨by have := HK1.out; have := HJ5.out; omega⟩, ⟨by (with_reducible repeat (first | apply yA | apply yB | apply yC)); exact HO326.out⟩, ⟨kR0 HB⟩⟩
         · rw [if_neg c21] at H
           exact absurd H (by simp)
        · rw [if_neg c20] at H
          exact absurd H (by simp)
       · rw [if_neg c19] at H
         exact absurd H (by simp)
   ·
    rw [if_neg c5] at H
    have c5b0 : decide (x7_1 < (l0.length : Int)) = false := zS c5; clear c5
    by_cases c23 : x6_1 = true
    · subst c23
      have H1 : (some x5_1) = some r := by rw [if_pos rfl] at H; exact H
      clear H; have H := H1; clear H1; obtain rfl := Option.some.inj H
      go_wp2
      go_ret
      exact ⟨_, by first | rfl | (simp <;> rfl) | (simp [*] <;> rfl), by (with_reducible repeat (first | apply yA | apply yB | apply yC)); exact HO_5.out, kR0 HB⟩
    ·
     replace c23 := Bool.eq_false_iff.mpr c23
     subst c23
     have H1 : (if x5_1.length < 17592186044416 then (some (x5_1 ++ [a1])) else (none)) = some r := by rw [if_neg (show ¬ (false = true) by decide)] at H; exact H
     clear H; have H := H1; clear H1
     by_cases c24 : x5_1.length < 17592186044416
     ·
      rw [if_pos c24] at H
      have LMc24 := yD c24
      clear c24
      obtain ⟨y307, hy307⟩ : ∃ y_ : List Int, y_ = (x5_1 ++ [a1]) := ⟨_, rfl⟩
      replace H : (some y307) = some r := by first | (rw [hy307]; with_reducible exact H) | (have H2_ := (Option.bind_some _ _).symm.trans H; rw [hy307]; with_reducible exact H2_) | (have H2_ := (Option.bind_some _ _).symm.trans H; with_reducible exact H2_) | with_reducible exact H | (rw [hy307]; exact H) | exact H
      have Ny307 := yD hy307
      clear hy307; obtain rfl := Option.some.inj H
      go_wp2_with (first | ((with_reducible refine gate_builtin (b := .append) (xs := #[.tmp 44, .tmp 46]) rfl ?_); at_builtin; refine Kd.R_append (Kd.int .i64) (w0 := w) w.heap.size rfl (.tmp 44) (.tmp 46) 36 2 (.int .i64 0) 8 rfl Try.underlying36 info2 rfl (by decide) (by omega) u5 x5_1 a1 [.int .i64 a1] (fun _ => True) (fun _ => False) rfl rfl ?aP (fun _ hk => hk.elim) ?aF ?aO ?aB ?aS ?aL ?_; (case aP => exact rfl); (case aB => exact (kB HB)); (case aF => exact (fun _ _ => trivial)); (case aO => exact (kA HO_5)); (case aS => exact (below_size (kB HB))); (case aL => have := LMc24.out; omega); intro v308 w25 ho hb hg hat; rw [← Ny307.out] at ho; have n0_ := yD (hb); have n1_ := yD (ho); clear HB; clear HO_5; have HB := n0_; have HO309 := n1_; clear n0_ n1_; clear ho hb hg hat))
      go_ret
      exact ⟨_, by first | rfl | (simp <;> rfl) | (simp [*] <;> rfl), by (with_reducible repeat (first | apply yA | apply yB | apply yC)); exact HO309.out, kR0 HB⟩
     · rw [if_neg c24] at H
       exact absurd H (by simp)

/-! ### spec_l07Cuts: function 128 -/
def spec_l07Cuts.l0 : Nat → List Int → List (S42) → Int → Option (List Int)
 | 0, _, _, _ => none
 | k + 1, x0, x1, x5 => if x5 < (x1.length : Int) then (if 0 ≤ x5 then (if 0 < (((rd_T42 x1 x5).f0).length : Int) then ((spec_l00Put.f k x0 (rd ((rd_T42 x1 x5).f0) 0)).bind fun t329 => (if 0 < (((rd_T42 x1 x5).f1).length : Int) then ((spec_l00Put.f k t329 (rd ((rd_T42 x1 x5).f1) 0)).bind fun t334 => (spec_l07Cuts.l0 k t334 x1 (wrap64 (x5 + 1)))) else (none))) else (none)) else (none)) else (some x0)
def spec_l07Cuts.f (k : Nat) (l0 : List Int) (l1 : List (S42)) : Option (List Int) := spec_l07Cuts.l0 k l0 l1 0
theorem spec_l07Cuts.mono_l : ∀ k, (∀ y0 y1 y2, LeO (spec_l07Cuts.l0 k y0 y1 y2) (spec_l07Cuts.l0 (k + 1) y0 y1 y2))
 | 0 => fun _ _ _ r h => by simp [spec_l07Cuts.l0] at h
 | k + 1 => by
  have ih0 := spec_l07Cuts.mono_l k
  ·
   intro y0 y1 y2
   unfold spec_l07Cuts.l0
   repeat' first
   | (with_reducible exact ih0 _ _ _)
   | (with_reducible exact spec_l00Put.mono _ _ _)
   | (with_reducible exact LeO.refl _)
   | (with_reducible exact LeO.none _)
   | (with_reducible refine LeO.ite ?_ ?_)
   | (with_reducible refine LeO.bind ?_ (fun _ => ?_))
   | exact ih0 _ _ _
   | exact spec_l00Put.mono _ _ _
   | exact LeO.none _
   | refine LeO.ite ?_ ?_
   | refine LeO.bind ?_ (fun _ => ?_)
theorem spec_l07Cuts.mono : ∀ a0 a1 k, LeO (spec_l07Cuts.f k a0 a1) (spec_l07Cuts.f (k + 1) a0 a1) := by
 intro a0 a1 k
 have ih0 := spec_l07Cuts.mono_l k
 unfold spec_l07Cuts.f
 repeat' first
  | (with_reducible exact ih0 _ _ _)
  | (with_reducible exact spec_l00Put.mono _ _ _)
  | (with_reducible exact LeO.refl _)
  | (with_reducible exact LeO.none _)
  | (with_reducible refine LeO.ite ?_ ?_)
  | (with_reducible refine LeO.bind ?_ (fun _ => ?_))
  | exact ih0 _ _ _
  | exact spec_l00Put.mono _ _ _
  | exact LeO.none _
  | refine LeO.ite ?_ ?_
  | refine LeO.bind ?_ (fun _ => ?_)
set_option maxHeartbeats 8000000 in
set_option maxRecDepth 100000 in
theorem spec_l07Cuts.calls (k : Nat) (P0_ : Nat → Prop) (A0 : Option Addr) (c0 : Nat) (l0 : List Int) (A1 : Option Addr) (c1 : Nat) (l1 : List (S42)) (r : List Int) (w : World) (hs0 : Kd.V (Kd.int .i64) 2 w w.heap.size (fun k_ => P0_ k_) (.slice A0 l0.length c0) l0) (hr1 : Kd.C k42 w A1 l1.length l1) (hc1 : l1.length ≤ c1) (h : spec_l07Cuts.f k l0 l1 = some r) :
 Calls Try.prog 128 #[.slice A0 l0.length c0, .slice A1 l1.length c1] w fun e w' => ∃ v0_ : Value, e = .returned (v0_) ∧ Kd.V (Kd.int .i64) 2 w' w.heap.size (fun k_ => (P0_ k_ ∨ w.heap.size ≤ k_)) v0_ r ∧ Below w.heap.size w w' := by
 have HO0 := yD (show Kd.V (Kd.int .i64) 2 w w.heap.size (fun k_ => (P0_ k_ ∨ w.heap.size ≤ k_)) (.slice A0 l0.length c0) l0 from Kd.V_mono hs0 (fun k_ hk => .inl hk))
 have HR1 := yD hr1
 have HC1 := yD hc1
 clear hr1 hc1
 have HB := yD (Below.refl w.heap.size w)
 have H : (spec_l07Cuts.l0 k l0 l1 0) = some r := h
 clear h
 have H' := yD H
 clear H; go_enter Try.func128, Try.ntmps128
 go_wp2
 go_loopg [0, 5] k (fun kq v0 v5 w' => ∃ (x0_1 : List Int) (x5_1 : Int), v5 = .int .i64 x5_1 ∧ Aside0 (spec_l07Cuts.l0 kq x0_1 l1 x5_1 = some r) ∧ Aside0 (kq ≤ k) ∧ Aside0 (Kd.V (Kd.int .i64) 2 w' w.heap.size (fun k_ => (P0_ k_ ∨ w.heap.size ≤ k_)) v0 x0_1) ∧ Aside0 (Below w.heap.size w w'))
 case atStart => exact ⟨(l0), (0), (by first | rfl | (simp; done) | (simp [*]; done)), H', ⟨Nat.le_refl _⟩, ⟨by (with_reducible repeat (first | apply Kd.V_alloc | apply Kd.V_drewN | apply Kd.V_drew)); exact HO0.out⟩, ⟨kR0 HB⟩⟩
 case round =>
  clear H'
  try clear c1; try clear p2
  obtain ⟨x0_1, x5_1, rfl, HA, HK1, HO_0, HB⟩ := hrel
  cases gk with
  | zero => exact absurd HA.out (by simp [spec_l07Cuts.l0])
  | succ k1 =>
   have H := HA.out; clear HA
   simp only [spec_l07Cuts.l0] at H
   by_cases c3 : x5_1 < (l1.length : Int)
   ·
    rw [if_pos c3] at H
    have c3b0 : decide (x5_1 < (l1.length : Int)) = true := zR c3; clear c3
    by_cases c4 : 0 ≤ x5_1
    ·
     rw [if_pos c4] at H
     have c4b0 : decide (0 ≤ x5_1) = true := zR c4; clear c4
     by_cases c5 : 0 < (((rd_T42 l1 x5_1).f0).length : Int)
     ·
      rw [if_pos c5] at H
      have c5b0 : decide (0 < (((rd_T42 l1 x5_1).f0).length : Int)) = true := zR c5
      have c5b1 : decide (0 < ((rd_T42 l1 x5_1).f0).length) = true := zR (by omega)
      clear c5
      obtain ⟨t329, A60, H⟩ := zW_ H
      replace H : (if 0 < (((rd_T42 l1 x5_1).f1).length : Int) then ((spec_l00Put.f k1 t329 (rd ((rd_T42 l1 x5_1).f1) 0)).bind fun t334 => (spec_l07Cuts.l0 k1 t334 l1 (wrap64 (x5_1 + 1)))) else (none)) = some r := H
      have A6 := yD A60
      clear A60
      by_cases c7 : 0 < (((rd_T42 l1 x5_1).f1).length : Int)
      ·
       rw [if_pos c7] at H
       have c7b0 : decide (0 < (((rd_T42 l1 x5_1).f1).length : Int)) = true := zR c7
       have c7b1 : decide (0 < ((rd_T42 l1 x5_1).f1).length) = true := zR (by omega)
       clear c7
       obtain ⟨t334, A80, H⟩ := zW_ H
       replace H : (spec_l07Cuts.l0 k1 t334 l1 (wrap64 (x5_1 + 1))) = some r := H
       have A8 := yD A80
       clear A80
       have H' := yD H
       clear H
       have p327 : 0 ≤ (x5_1 : Int) := zP (by assumption)
       have q327 : x5_1 < (l1.length : Int) := zP (by assumption)
       obtain ⟨ad327, A327_0, c327_0, A327_1, c327_1, e327, hx327_0, hx327_1, hl327_0, hi327_0, hl327_1, hi327_1⟩ := at_T42 HR1.out x5_1 p327 q327
       cases e327
       replace hx327_0 := (HB.out.cell (zQ w _ hx327_0)).trans hx327_0
       replace hx327_1 := (HB.out.cell (zQ w _ hx327_1)).trans hx327_1
       have HR327_0 := yD hi327_0
       have HC327_0 := yD hl327_0
       clear hi327_0 hl327_0
       have HR327_1 := yD hi327_1
       have HC327_1 := yD hl327_1
       clear hi327_1 hl327_1; replace p327 := eq_true p327; replace q327 := eq_true q327
       have p328 : 0 ≤ (0 : Int) := (by omega)
       have q328 : 0 < (((rd_T42 l1 x5_1).f0).length : Int) := zP (by assumption)
       obtain ⟨ad328, e328, hx328_0⟩ := Kd.at_int HR327_0.out 0 p328 q328
       cases e328
       have qi328 : (0 < ((rd_T42 l1 x5_1).f0).length) = True := eq_true (by omega)
       (try rw [show ((0 : Int)).toNat = 0 from rfl] at hx328_0)
       (try rw [Addr.add_zero'] at hx328_0)
       replace hx328_0 := (HB.out.cell (zQ w _ hx328_0)).trans hx328_0
       replace p328 := eq_true p328; replace q328 := eq_true q328
       obtain ⟨Ao9, co9, eo9⟩ := Kd.V_slice HO_0.out
       subst eo9
       go_wp2_with (first | ((with_reducible refine gate_callee (f := 148) rfl ?_); refine goesL_ (some 20) rfl rfl Try.func148 (by kernel_rfl) rfl #[.slice Ao9 x0_1.length co9, .int .i64 (rd ((rd_T42 l1 x5_1).f0) 0)] rfl (by (try simp only [zK, zL, zM]); first | done | rfl | (simp only [zN, zO]; rfl)) ?_; (with_reducible refine (spec_l00Put.calls k1 _ _ x0_1 (rd ((rd_T42 l1 x5_1).f0) 0) t329 _ ?side1 ?side2 A6.out).mono ?_); (case side1 => exact kV (Kd.V_reads' HO_0.out).2.2); (case side2 => exact (Kd.V_reads' HO_0.out).2.1); rintro e w10 ⟨v330, rfl, ho0, hb⟩; refine ⟨_, rfl, ?_⟩; have n0_ := yD (Kd.V_elder' (by (with_reducible repeat (first | apply Kd.V_alloc | apply Kd.V_drewN | apply Kd.V_drew)); exact HO_0.out) (yH ho0) hb); have n1_ := yD (yZ (Kd.R_newM (M := fun k_ => (w.heap.size ≤ k_)) ho0 (below_size (kB HB)) (fun k_ h_ => h_)) (below_size (kB HB))); have n2_ := yD (zC (kB HB) hb); clear HO_0; clear HB; have HO_0 := n0_; have HO331 := n1_; have HB := n2_; clear n0_ n1_ n2_; (try clear hb); (try clear hb2); (try clear hk); (try clear hi); (try clear ho0); have p332 : 0 ≤ (x5_1 : Int) := zP (by assumption); have q332 : x5_1 < (l1.length : Int) := zP (by assumption); obtain ⟨ad332, A332_0, c332_0, A332_1, c332_1, e332, hx332_0, hx332_1, hl332_0, hi332_0, hl332_1, hi332_1⟩ := at_T42 HR1.out x5_1 p332 q332; obtain rfl : ad327 = ad332 := (by injection e332); replace hx332_0 := (HB.out.cell (zQ w _ hx332_0)).trans hx332_0; replace hx332_1 := (HB.out.cell (zQ w _ hx332_1)).trans hx332_1; have HR332_0 := yD hi332_0; have HC332_0 := yD hl332_0; clear hi332_0 hl332_0; have HR332_1 := yD hi332_1; have HC332_1 := yD hl332_1; clear hi332_1 hl332_1; replace p332 := eq_true p332; replace q332 := eq_true q332; have p333 : 0 ≤ (0 : Int) := (by omega); have q333 : 0 < (((rd_T42 l1 x5_1).f1).length : Int) := zP (by assumption); obtain ⟨ad333, e333, hx333_0⟩ := Kd.at_int HR332_1.out 0 p333 q333; cases e333; have qi333 : (0 < ((rd_T42 l1 x5_1).f1).length) = True := eq_true (by omega); (try rw [show ((0 : Int)).toNat = 0 from rfl] at hx333_0); (try rw [Addr.add_zero'] at hx333_0); replace hx333_0 := (HB.out.cell (zQ w _ hx333_0)).trans hx333_0; replace p333 := eq_true p333; replace q333 := eq_true q333; obtain ⟨Ao11, co11, eo11⟩ := Kd.R_slice HO331.out; subst eo11) | ((with_reducible refine gate_callee (f := 148) rfl ?_); refine goesL_ (some 29) rfl rfl Try.func148 (by kernel_rfl) rfl #[.slice Ao11 t329.length co11, .int .i64 (rd ((rd_T42 l1 x5_1).f1) 0)] rfl (by (try simp only [zK, zL, zM]); first | done | rfl | (simp only [zN, zO]; rfl)) ?_; (with_reducible refine (spec_l00Put.calls k1 _ _ t329 (rd ((rd_T42 l1 x5_1).f1) 0) t334 _ ?side1 ?side2 A8.out).mono ?_); (case side1 => exact kV (zA HO331.out).2.2); (case side2 => exact (zA HO331.out).2.1); rintro e w12 ⟨v335, rfl, ho0, hb⟩; refine ⟨_, rfl, ?_⟩; have n0_ := yD (Kd.V_elder' (by (with_reducible repeat (first | apply Kd.V_alloc | apply Kd.V_drewN | apply Kd.V_drew)); exact HO_0.out) (yH ho0) hb); have n1_ := yD (Kd.R_elder' (kA HO331) (yH ho0) hb); have n2_ := yD (yZ (yJ (Kd.R_newM (M := fun k_ => (w.heap.size ≤ k_)) ho0 (below_size (kB HB)) (fun k_ h_ => h_)) (yK (kA HO331))) (below_size (kB HB))); have n3_ := yD (zC (kB HB) hb); clear HO_0; clear HO331; clear HB; have HO_0 := n0_; have HO331 := n1_; have HO336 := n2_; have HB := n3_; clear n0_ n1_ n2_ n3_; (try clear hb); (try clear hb2); (try clear hk); (try clear hi); (try clear ho0)))
       go_roundg k1
       case measure => have := HK1.out; omega
       case rel => exact ⟨(t334), (wrap64 (x5_1 + 1)), (by first | rfl | (simp; done) | (simp [*]; done)), H', ⟨by have := HK1.out; omega⟩, ⟨Kd.V_mono (Kd.R_V (by (with_reducible repeat (first | apply yA | apply yB | apply yC)); exact zF HO336.out (fun _ hk => hk.1.1))) (fun k_ hk => by first | exact ⟨(.inr (hk.1)), hk.2⟩ | exact (.inr (hk)))⟩, ⟨kR0 HB⟩⟩
      · rw [if_neg c7] at H
        exact absurd H (by simp)
     · rw [if_neg c5] at H
       exact absurd H (by simp)
    · rw [if_neg c4] at H
      exact absurd H (by simp)
   · rw [if_neg c3] at H
     have c3b0 : decide (x5_1 < (l1.length : Int)) = false := zS c3; clear c3; obtain rfl := Option.some.inj H
     go_wp2
     go_ret
     exact ⟨_, by first | rfl | (simp <;> rfl) | (simp [*] <;> rfl), by (with_reducible repeat (first | apply Kd.V_alloc | apply Kd.V_drewN | apply Kd.V_drew)); exact HO_0.out, kR0 HB⟩

end Go.Proofs.Ytdiaebjbiddefaa.PFnNormalForm
