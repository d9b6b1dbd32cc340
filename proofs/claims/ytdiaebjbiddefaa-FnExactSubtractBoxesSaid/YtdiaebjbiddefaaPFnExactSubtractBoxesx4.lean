/- Each Go function here comes to what the plain function of its name says, where that says something. Made by a program of this session, over the print. -/
import Derived.Test.YtdiaebjbiddefaaPFnExactSubtractBoxesx0
namespace Go.Proofs.Ytdiaebjbiddefaa.PFnExactSubtractBoxes
open Go.RowKit Go.Proofs.YtdiaebjbiddefaaW.PrintWords Go.Proofs.YtdiaebjbiddefaaW.PrintLast Go.Proofs.YtdiaebjbiddefaaW.PrintMore
attribute [local go_sem] max2_int min2_int max_two min_two max_three min_three max_four min_four   -- for this text's walks alone
set_option linter.unusedVariables false
set_option linter.unusedSimpArgs false

/-! ### spec_l00Put: function 148 -/
mutual
def spec_l00Put.l0 : Nat → List Int → Int → List Int → Bool → Int → Option (List Int)
 | 0, _, _, _, _, _ => none
 | k + 1, x0, x1, x5, x6, x7 => if x7 < (x0.length : Int) then (if x6 = true then (spec_l00Put.j1 k x0 x1 x5 x6 x7 false) else (if 0 ≤ x7 then (spec_l00Put.j1 k x0 x1 x5 x6 x7 (decide ((rd x0 x7) ≥ x1))) else (none))) else (if x6 = true then (some x5) else (if x5.length < 17592186044416 then (some (x5 ++ [x1])) else (none)))
def spec_l00Put.j1 : Nat → List Int → Int → List Int → Bool → Int → Bool → Option (List Int)
 | 0, _, _, _, _, _, _ => none
 | k + 1, x0, x1, x5, x6, x7, x24 => if x24 = true then (if 0 ≤ x7 then (if x7 < (x0.length : Int) then (if (rd x0 x7) > x1 then (if x5.length < 17592186044416 then ((some (x5 ++ [x1] : List Int)).bind fun y151 => (if y151.length < 17592186044416 then (spec_l00Put.l0 k x0 x1 (y151 ++ [rd x0 x7]) true (wrap64 (x7 + 1))) else (none))) else (none)) else (if x5.length < 17592186044416 then (spec_l00Put.l0 k x0 x1 (x5 ++ [rd x0 x7]) true (wrap64 (x7 + 1))) else (none))) else (none)) else (none)) else (if 0 ≤ x7 then (if x7 < (x0.length : Int) then (if x5.length < 17592186044416 then (spec_l00Put.l0 k x0 x1 (x5 ++ [rd x0 x7]) x6 (wrap64 (x7 + 1))) else (none)) else (none)) else (none))
end
def spec_l00Put.f (k : Nat) (l0 : List Int) (a1 : Int) : Option (List Int) := spec_l00Put.l0 k l0 a1 (([] : List Int)) false 0
theorem spec_l00Put.mono_l : ∀ k, (∀ y0 y1 y2 y3 y4, LeO (spec_l00Put.l0 k y0 y1 y2 y3 y4) (spec_l00Put.l0 (k + 1) y0 y1 y2 y3 y4)) ∧ (∀ y0 y1 y2 y3 y4 y5, LeO (spec_l00Put.j1 k y0 y1 y2 y3 y4 y5) (spec_l00Put.j1 (k + 1) y0 y1 y2 y3 y4 y5))
 | 0 => ⟨fun _ _ _ _ _ r h => by simp [spec_l00Put.l0] at h, fun _ _ _ _ _ _ r h => by simp [spec_l00Put.j1] at h⟩
 | k + 1 => by
  obtain ⟨ih0, ih1⟩ := spec_l00Put.mono_l k
  refine ⟨?_, ?_⟩
  · intro y0 y1 y2 y3 y4
    unfold spec_l00Put.l0
    repeat' (with_reducible first | exact ih0 _ _ _ _ _ | exact ih1 _ _ _ _ _ _ | exact LeO.refl _ | exact LeO.none _ | refine LeO.ite ?_ ?_ | refine LeO.bind ?_ (fun _ => ?_))
  · intro y0 y1 y2 y3 y4 y5
    unfold spec_l00Put.j1
    repeat' (with_reducible first | exact ih0 _ _ _ _ _ | exact ih1 _ _ _ _ _ _ | exact LeO.refl _ | exact LeO.none _ | refine LeO.ite ?_ ?_ | refine LeO.bind ?_ (fun _ => ?_))
theorem spec_l00Put.mono : ∀ a0 a1 k, LeO (spec_l00Put.f k a0 a1) (spec_l00Put.f (k + 1) a0 a1) := by
 intro a0 a1 k
 obtain ⟨ih0, ih1⟩ := spec_l00Put.mono_l k
 unfold spec_l00Put.f
 repeat' (with_reducible first | exact ih0 _ _ _ _ _ | exact ih1 _ _ _ _ _ _ | exact LeO.refl _ | exact LeO.none _ | refine LeO.ite ?_ ?_ | refine LeO.bind ?_ (fun _ => ?_))
set_option maxHeartbeats 8000000 in
set_option maxRecDepth 100000 in
theorem spec_l00Put.calls (k : Nat) (A0 : Option Addr) (c0 : Nat) (l0 : List Int) (a1 : Int) (r : List Int) (w : World) (hr0 : Kd.C (Kd.int .i64) w A0 l0.length l0) (hc0 : l0.length ≤ c0) (h : spec_l00Put.f k l0 a1 = some r) :
 Calls Try.prog 148 #[.slice A0 l0.length c0, .int .i64 a1] w fun e w' => ∃ v0_ : Value, e = .returned (v0_) ∧ Kd.R (Kd.int .i64) 2 w' w.heap.size (fun _ => True) v0_ r ∧ Below w.heap.size w w' := by
 have HR0 := yD hr0
 have HC0 := yD hc0
 clear hr0 hc0
 have HB := yD (Below.refl w.heap.size w)
 have H : (spec_l00Put.l0 k l0 a1 (([] : List Int)) false 0) = some r := h
 clear h
 obtain ⟨y143, hy143⟩ : ∃ y_ : List Int, y_ = (([] : List Int)) := ⟨_, rfl⟩
 replace H : (spec_l00Put.l0 k l0 a1 y143 false 0) = some r := by first | (rw [hy143]; with_reducible exact H) | (have H2_ := (Option.bind_some _ _).symm.trans H; rw [hy143]; with_reducible exact H2_) | (have H2_ := (Option.bind_some _ _).symm.trans H; with_reducible exact H2_) | with_reducible exact H | (rw [hy143]; exact H) | exact H
 have Ny143 := yD hy143
 clear hy143
 have H' := yD H
 clear H; go_enter Try.func148, Try.ntmps148
 go_wp2_with (first | ((with_reducible refine gate_dst (N := 8) rfl ?_); refine Kd.R_lit (Kd.int .i64) _ 2 ?hg (N := 8) ?hd (xs := ([] : List Int)) (inner := []) (ok := fun _ => True) (okp := fun _ => True) ?hr ?hp (fun _ hk => hk) trivial (Below.refl _ _) (Nat.le_refl _) (by simp) ?_; (case hd => rfl); (case hg => rfl); (case hr => first | (go_simp; done) | (go_simp; rfl)); (case hp => exact (Reps.none _ _)); intro v144 w3 ho4 hb hg_ hnew_; clear hg_ hnew_; (first | rw [← Ny143.out] at ho4 | (simp only [Int.reduceToNat] at ho4; rw [← Ny143.out] at ho4)); have HO145 := yD (yZ ho4 (below_size (kB HB))); replace HB := yD (zC (kB HB) hb); clear hb ho4))
 (try simp only [Act.put, zH, zI, zJ])
 go_loopg [5, 6, 7] k (fun kq v5 v6 v7 w' => ∃ (x5_1 : List Int) (x6_1 : Bool) (x7_1 : Int), v6 = .bool x6_1 ∧ v7 = .int .i64 x7_1 ∧ Aside0 (spec_l00Put.l0 kq l0 a1 x5_1 x6_1 x7_1 = some r) ∧ Aside0 (kq ≤ k) ∧ Aside0 (Kd.R (Kd.int .i64) 2 w' w.heap.size (fun _ => True) v5 x5_1) ∧ Aside0 (Below w.heap.size w w'))
 case atStart => exact ⟨(y143), (false), (0), (by first | rfl | (simp; done) | (simp [*]; done)), (by first | rfl | (simp; done) | (simp [*]; done)), H', ⟨Nat.le_refl _⟩, ⟨kA HO145⟩, ⟨kR1 HB⟩⟩
 case round =>
  clear H'
  try clear c1
  obtain ⟨x5_1, x6_1, x7_1, rfl, rfl, HA, HK1, HO_5, HB⟩ := hrel
  cases gk with
  | zero => exact absurd HA.out (by simp [spec_l00Put.l0])
  | succ k1 =>
   have H := HA.out; clear HA
   simp only [spec_l00Put.l0] at H
   by_cases c5 : x7_1 < (l0.length : Int)
   ·
    rw [if_pos c5] at H
    have c5b0 : decide (x7_1 < (l0.length : Int)) = true := zR c5; clear c5
    have HC6 := yD H
    clear H
    go_upto_region 6 with (fail)
    go_cut [24] (fun v24 wc => ∃ (kq : Nat) (x24_5 : Bool), v24 = .bool x24_5 ∧ Aside0 (spec_l00Put.j1 kq l0 a1 x5_1 x6_1 x7_1 x24_5 = some r) ∧ Aside0 (kq ≤ k1) ∧ Aside0 (Kd.R (Kd.int .i64) 2 wc w.heap.size (fun _ => True) u5 x5_1) ∧ Aside0 (Below w.heap.size w wc))
    case first =>
     have H := HC6.out; clear HC6
     by_cases c7 : x6_1 = true
     · subst c7
       replace H : (spec_l00Put.j1 k1 l0 a1 x5_1 true x7_1 false) = some r := (by rw [if_pos rfl] at H; exact H)
       have H' := yD H
       clear H
       go_wp2
       go_meet
       case rel => exact ⟨_, (false), (by first | rfl | (simp; done) | (simp [*]; done)), H', ⟨by have := HK1.out; first | omega | exact Nat.le_refl _⟩, ⟨kA HO_5⟩, ⟨kR1 HB⟩⟩
     ·
      replace c7 := Bool.eq_false_iff.mpr c7
      subst c7
      replace H : (if 0 ≤ x7_1 then (spec_l00Put.j1 k1 l0 a1 x5_1 false x7_1 (decide ((rd l0 x7_1) ≥ a1))) else (none)) = some r := (by rw [if_neg (show ¬ (false = true) by decide)] at H; exact H)
      by_cases c8 : 0 ≤ x7_1
      ·
       rw [if_pos c8] at H
       have c8b0 : decide (0 ≤ x7_1) = true := zR c8; clear c8
       (first | rw [c8b0] | (simp only [i64_w, i32_w]; rw [c8b0]) | (simp only [bne] at c8b0; rw [c8b0]) | skip)
       have H' := yD H
       clear H
       have p149 : 0 ≤ (x7_1 : Int) := zP (by assumption)
       have q149 : x7_1 < (l0.length : Int) := zP (by assumption)
       obtain ⟨ad149, e149, hx149_0⟩ := Kd.at_int HR0.out x7_1 p149 q149
       cases e149
       replace hx149_0 := (HB.out.cell (zQ w _ hx149_0)).trans hx149_0
       replace p149 := eq_true p149; replace q149 := eq_true q149
       go_wp2
       go_meet
       case rel => exact ⟨_, (decide ((rd l0 x7_1) ≥ a1)), (by first | rfl | (simp; done) | (simp [*]; done)), H', ⟨by have := HK1.out; first | omega | exact Nat.le_refl _⟩, ⟨kA HO_5⟩, ⟨kR1 HB⟩⟩
      · rw [if_neg c8] at H
        exact absurd H (by simp)
    case rest =>
     clear HC6; try clear c5; try clear c5b0; try clear c7; try clear c8; try clear c8b0; try clear hx149_0; try clear p149; try clear q149
     obtain ⟨kq, x24_5, rfl, HA, HJ5, HO_5, HB⟩ := hcut
     cases kq with
     | zero => exact absurd HA.out (by simp [spec_l00Put.j1])
     | succ kj5 =>
      have H := HA.out; clear HA
      simp only [spec_l00Put.j1] at H
      by_cases c9 : x24_5 = true
      ·
       subst c9
       replace H : (if 0 ≤ x7_1 then (if x7_1 < (l0.length : Int) then (if (rd l0 x7_1) > a1 then (if x5_1.length < 17592186044416 then ((some (x5_1 ++ [a1] : List Int)).bind fun y151 => (if y151.length < 17592186044416 then (spec_l00Put.l0 kj5 l0 a1 (y151 ++ [rd l0 x7_1]) true (wrap64 (x7_1 + 1))) else (none))) else (none)) else (if x5_1.length < 17592186044416 then (spec_l00Put.l0 kj5 l0 a1 (x5_1 ++ [rd l0 x7_1]) true (wrap64 (x7_1 + 1))) else (none))) else (none)) else (none)) = some r := (by rw [if_pos rfl] at H; exact H)
       by_cases c10 : 0 ≤ x7_1
       ·
        rw [if_pos c10] at H
        have c10b0 : decide (0 ≤ x7_1) = true := zR c10; clear c10
        by_cases c11 : x7_1 < (l0.length : Int)
        ·
         rw [if_pos c11] at H
         have c11b0 : decide (x7_1 < (l0.length : Int)) = true := zR c11; clear c11
         by_cases c12 : (rd l0 x7_1) > a1
         ·
          rw [if_pos c12] at H
          have c12b0 : decide (a1 < (rd l0 x7_1)) = true := zR c12; clear c12
          by_cases c13 : x5_1.length < 17592186044416
          ·
           rw [if_pos c13] at H
           have LMc13 := yD c13
           clear c13
           obtain ⟨y151, hy151⟩ : ∃ y_ : List Int, y_ = (x5_1 ++ [a1]) := ⟨_, rfl⟩
           replace H : (if y151.length < 17592186044416 then (spec_l00Put.l0 kj5 l0 a1 (y151 ++ [rd l0 x7_1]) true (wrap64 (x7_1 + 1))) else (none)) = some r := by first | (rw [hy151]; with_reducible exact H) | (have H2_ := (Option.bind_some _ _).symm.trans H; rw [hy151]; with_reducible exact H2_) | (have H2_ := (Option.bind_some _ _).symm.trans H; with_reducible exact H2_) | with_reducible exact H | (rw [hy151]; exact H) | exact H
           have Ny151 := yD hy151
           clear hy151
           by_cases c14 : y151.length < 17592186044416
           ·
            rw [if_pos c14] at H
            have LMc14 := yD c14
            clear c14
            obtain ⟨y155, hy155⟩ : ∃ y_ : List Int, y_ = (y151 ++ [rd l0 x7_1]) := ⟨_, rfl⟩
            replace H : (spec_l00Put.l0 kj5 l0 a1 y155 true (wrap64 (x7_1 + 1))) = some r := by first | (rw [hy155]; with_reducible exact H) | (have H2_ := (Option.bind_some _ _).symm.trans H; rw [hy155]; with_reducible exact H2_) | (have H2_ := (Option.bind_some _ _).symm.trans H; with_reducible exact H2_) | with_reducible exact H | (rw [hy155]; exact H) | exact H
            have Ny155 := yD hy155
            clear hy155
            have H' := yD H
            clear H
            have p150 : 0 ≤ (x7_1 : Int) := zP (by assumption)
            have q150 : x7_1 < (l0.length : Int) := zP (by assumption)
            obtain ⟨ad150, e150, hx150_0⟩ := Kd.at_int HR0.out x7_1 p150 q150
            cases e150
            replace hx150_0 := (HB.out.cell (zQ w _ hx150_0)).trans hx150_0
            replace p150 := eq_true p150; replace q150 := eq_true q150
            go_wp2_with (first | ((with_reducible refine gate_builtin (b := .append) (xs := #[.tmp 31, .tmp 33]) rfl ?_); at_builtin; refine Kd.R_append (Kd.int .i64) (w0 := w) w.heap.size rfl (.tmp 31) (.tmp 33) 36 2 (.int .i64 0) 8 rfl Try.underlying36 info2 rfl (by decide) (by omega) u5 x5_1 a1 [.int .i64 a1] (fun _ => True) (fun _ => False) rfl rfl ?aP (fun _ hk => hk.elim) ?aF ?aO ?aB ?aS ?aL ?_; (case aP => exact rfl); (case aB => exact (kB HB)); (case aF => exact (fun _ _ => trivial)); (case aO => exact (kA HO_5)); (case aS => exact (below_size (kB HB))); (case aL => have := LMc13.out; omega); intro v152 w15 ho hb hg hat; rw [← Ny151.out] at ho; replace HB := yD (hb); have HO153 := yD (ho); clear HO_5; clear ho hb hg hat; have p154 : 0 ≤ (x7_1 : Int) := zP (by assumption); have q154 : x7_1 < (l0.length : Int) := zP (by assumption); obtain ⟨ad154, e154, hx154_0⟩ := Kd.at_int HR0.out x7_1 p154 q154; obtain rfl : ad150 = ad154 := (by injection e154); replace hx154_0 := (HB.out.cell (zQ w _ hx154_0)).trans hx154_0; replace p154 := eq_true p154; replace q154 := eq_true q154) | ((with_reducible refine gate_builtin (b := .append) (xs := #[.tmp 35, .tmp 40]) rfl ?_); at_builtin; refine Kd.R_append (Kd.int .i64) (w0 := w) w.heap.size rfl (.tmp 35) (.tmp 40) 36 2 (.int .i64 0) 8 rfl Try.underlying36 info2 rfl (by decide) (by omega) v152 y151 (rd l0 x7_1) [.int .i64 (rd l0 x7_1)] (fun _ => True) (fun _ => False) rfl rfl ?aP (fun _ hk => hk.elim) ?aF ?aO ?aB ?aS ?aL ?_; (case aP => exact rfl); (case aB => exact (kB HB)); (case aF => exact (fun _ _ => trivial)); (case aO => exact (kA HO153)); (case aS => exact (below_size (kB HB))); (case aL => have := LMc14.out; omega); intro v156 w16 ho hb hg hat; rw [← Ny155.out] at ho; replace HB := yD (hb); have HO157 := yD (ho); clear HO153; clear ho hb hg hat))
            go_roundg kj5
            case measure => have := HK1.out; have := HJ5.out; omega
            case rel => exact ⟨(y155), (true), (wrap64 (x7_1 + 1)), (by first | rfl | (simp; done) | (simp [*]; done)), (by first | rfl | (simp; done) | (simp [*]; done)), H', ⟨by have := HK1.out; have := HJ5.out; omega⟩, ⟨kA HO157⟩, ⟨kR1 HB⟩⟩
           · rw [if_neg c14] at H
             exact absurd H (by simp)
          · rw [if_neg c13] at H
            exact absurd H (by simp)
         ·
          rw [if_neg c12] at H
          have c12b0 : decide (a1 < (rd l0 x7_1)) = false := zS c12; clear c12
          by_cases c17 : x5_1.length < 17592186044416
          ·
           rw [if_pos c17] at H
           have LMc17 := yD c17
           clear c17
           obtain ⟨y159, hy159⟩ : ∃ y_ : List Int, y_ = (x5_1 ++ [rd l0 x7_1]) := ⟨_, rfl⟩
           replace H : (spec_l00Put.l0 kj5 l0 a1 y159 true (wrap64 (x7_1 + 1))) = some r := by first | (rw [hy159]; with_reducible exact H) | (have H2_ := (Option.bind_some _ _).symm.trans H; rw [hy159]; with_reducible exact H2_) | (have H2_ := (Option.bind_some _ _).symm.trans H; with_reducible exact H2_) | with_reducible exact H | (rw [hy159]; exact H) | exact H
           have Ny159 := yD hy159
           clear hy159
           have H' := yD H
           clear H
           have p150 : 0 ≤ (x7_1 : Int) := zP (by assumption)
           have q150 : x7_1 < (l0.length : Int) := zP (by assumption)
           obtain ⟨ad150, e150, hx150_0⟩ := Kd.at_int HR0.out x7_1 p150 q150
           cases e150
           replace hx150_0 := (HB.out.cell (zQ w _ hx150_0)).trans hx150_0
           replace p150 := eq_true p150; replace q150 := eq_true q150
           have p158 : 0 ≤ (x7_1 : Int) := zP (by assumption)
           have q158 : x7_1 < (l0.length : Int) := zP (by assumption)
           obtain ⟨ad158, e158, hx158_0⟩ := Kd.at_int HR0.out x7_1 p158 q158
           obtain rfl : ad150 = ad158 := (by injection e158)
           replace hx158_0 := (HB.out.cell (zQ w _ hx158_0)).trans hx158_0
           replace p158 := eq_true p158; replace q158 := eq_true q158
           go_wp2_with (first | ((with_reducible refine gate_builtin (b := .append) (xs := #[.tmp 35, .tmp 40]) rfl ?_); at_builtin; refine Kd.R_append (Kd.int .i64) (w0 := w) w.heap.size rfl (.tmp 35) (.tmp 40) 36 2 (.int .i64 0) 8 rfl Try.underlying36 info2 rfl (by decide) (by omega) u5 x5_1 (rd l0 x7_1) [.int .i64 (rd l0 x7_1)] (fun _ => True) (fun _ => False) rfl rfl ?aP (fun _ hk => hk.elim) ?aF ?aO ?aB ?aS ?aL ?_; (case aP => exact rfl); (case aB => exact (kB HB)); (case aF => exact (fun _ _ => trivial)); (case aO => exact (kA HO_5)); (case aS => exact (below_size (kB HB))); (case aL => have := LMc17.out; omega); intro v160 w18 ho hb hg hat; rw [← Ny159.out] at ho; replace HB := yD (hb); have HO161 := yD (ho); clear HO_5; clear ho hb hg hat))
           go_roundg kj5
           case measure => have := HK1.out; have := HJ5.out; omega
           case rel => exact ⟨(y159), (true), (wrap64 (x7_1 + 1)), (by first | rfl | (simp; done) | (simp [*]; done)), (by first | rfl | (simp; done) | (simp [*]; done)), H', ⟨by have := HK1.out; have := HJ5.out; omega⟩, ⟨kA HO161⟩, ⟨kR1 HB⟩⟩
          · rw [if_neg c17] at H
            exact absurd H (by simp)
        · rw [if_neg c11] at H
          exact absurd H (by simp)
       · rw [if_neg c10] at H
         exact absurd H (by simp)
      ·
       replace c9 := Bool.eq_false_iff.mpr c9
       subst c9
       replace H : (if 0 ≤ x7_1 then (if x7_1 < (l0.length : Int) then (if x5_1.length < 17592186044416 then (spec_l00Put.l0 kj5 l0 a1 (x5_1 ++ [rd l0 x7_1]) x6_1 (wrap64 (x7_1 + 1))) else (none)) else (none)) else (none)) = some r := (by rw [if_neg (show ¬ (false = true) by decide)] at H; exact H)
       by_cases c19 : 0 ≤ x7_1
       ·
        rw [if_pos c19] at H
        have c19b0 : decide (0 ≤ x7_1) = true := zR c19; clear c19
        by_cases c20 : x7_1 < (l0.length : Int)
        ·
         rw [if_pos c20] at H
         have c20b0 : decide (x7_1 < (l0.length : Int)) = true := zR c20; clear c20
         by_cases c21 : x5_1.length < 17592186044416
         ·
          rw [if_pos c21] at H
          have LMc21 := yD c21
          clear c21
          obtain ⟨y163, hy163⟩ : ∃ y_ : List Int, y_ = (x5_1 ++ [rd l0 x7_1]) := ⟨_, rfl⟩
          replace H : (spec_l00Put.l0 kj5 l0 a1 y163 x6_1 (wrap64 (x7_1 + 1))) = some r := by first | (rw [hy163]; with_reducible exact H) | (have H2_ := (Option.bind_some _ _).symm.trans H; rw [hy163]; with_reducible exact H2_) | (have H2_ := (Option.bind_some _ _).symm.trans H; with_reducible exact H2_) | with_reducible exact H | (rw [hy163]; exact H) | exact H
          have Ny163 := yD hy163
          clear hy163
          have H' := yD H
          clear H
          have p162 : 0 ≤ (x7_1 : Int) := zP (by assumption)
          have q162 : x7_1 < (l0.length : Int) := zP (by assumption)
          obtain ⟨ad162, e162, hx162_0⟩ := Kd.at_int HR0.out x7_1 p162 q162
          cases e162
          replace hx162_0 := (HB.out.cell (zQ w _ hx162_0)).trans hx162_0
          replace p162 := eq_true p162; replace q162 := eq_true q162
          go_wp2_with (first | ((with_reducible refine gate_builtin (b := .append) (xs := #[.tmp 35, .tmp 40]) rfl ?_); at_builtin; refine Kd.R_append (Kd.int .i64) (w0 := w) w.heap.size rfl (.tmp 35) (.tmp 40) 36 2 (.int .i64 0) 8 rfl Try.underlying36 info2 rfl (by decide) (by omega) u5 x5_1 (rd l0 x7_1) [.int .i64 (rd l0 x7_1)] (fun _ => True) (fun _ => False) rfl rfl ?aP (fun _ hk => hk.elim) ?aF ?aO ?aB ?aS ?aL ?_; (case aP => exact rfl); (case aB => exact (kB HB)); (case aF => exact (fun _ _ => trivial)); (case aO => exact (kA HO_5)); (case aS => exact (below_size (kB HB))); (case aL => have := LMc21.out; omega); intro v164 w22 ho hb hg hat; rw [← Ny163.out] at ho; replace HB := yD (hb); have HO165 := yD (ho); clear HO_5; clear ho hb hg hat))
          go_roundg kj5
          case measure => have := HK1.out; have := HJ5.out; omega
          case rel => exact ⟨(y163), (x6_1), (wrap64 (x7_1 + 1)), (by first | rfl | (simp; done) | (simp [*]; done)), (by first | rfl | (simp; done) | (simp [*]; done)), H', ⟨by have := HK1.out; have := HJ5.out; omega⟩, ⟨kA HO165⟩, ⟨kR1 HB⟩⟩
         · rw [if_neg c21] at H
           exact absurd H (by simp)
        · rw [if_neg c20] at H
          exact absurd H (by simp)
       · rw [if_neg c19] at H
         exact absurd H (by simp)
   ·
    rw [if_neg c5] at H
    have c5b0 : decide (x7_1 < (l0.length : Int)) = false := zS c5; clear c5
    by_cases c23 : x6_1 = true
    · subst c23
      replace H : (some x5_1) = some r := (by rw [if_pos rfl] at H; exact H); obtain rfl := Option.some.inj H
      go_wp2
      go_ret
      exact ⟨_, by first | rfl | (simp <;> rfl) | (simp [*] <;> rfl), kA HO_5, kR1 HB⟩
    ·
     replace c23 := Bool.eq_false_iff.mpr c23
     subst c23
     replace H : (if x5_1.length < 17592186044416 then (some (x5_1 ++ [a1])) else (none)) = some r := (by rw [if_neg (show ¬ (false = true) by decide)] at H; exact H)
     by_cases c24 : x5_1.length < 17592186044416
     ·
      rw [if_pos c24] at H
      have LMc24 := yD c24
      clear c24
      obtain ⟨y146, hy146⟩ : ∃ y_ : List Int, y_ = (x5_1 ++ [a1]) := ⟨_, rfl⟩
      replace H : (some y146) = some r := by first | (rw [hy146]; with_reducible exact H) | (have H2_ := (Option.bind_some _ _).symm.trans H; rw [hy146]; with_reducible exact H2_) | (have H2_ := (Option.bind_some _ _).symm.trans H; with_reducible exact H2_) | with_reducible exact H | (rw [hy146]; exact H) | exact H
      have Ny146 := yD hy146
      clear hy146; obtain rfl := Option.some.inj H
      go_wp2_with (first | ((with_reducible refine gate_builtin (b := .append) (xs := #[.tmp 44, .tmp 46]) rfl ?_); at_builtin; refine Kd.R_append (Kd.int .i64) (w0 := w) w.heap.size rfl (.tmp 44) (.tmp 46) 36 2 (.int .i64 0) 8 rfl Try.underlying36 info2 rfl (by decide) (by omega) u5 x5_1 a1 [.int .i64 a1] (fun _ => True) (fun _ => False) rfl rfl ?aP (fun _ hk => hk.elim) ?aF ?aO ?aB ?aS ?aL ?_; (case aP => exact rfl); (case aB => exact (kB HB)); (case aF => exact (fun _ _ => trivial)); (case aO => exact (kA HO_5)); (case aS => exact (below_size (kB HB))); (case aL => have := LMc24.out; omega); intro v147 w25 ho hb hg hat; rw [← Ny146.out] at ho; replace HB := yD (hb); have HO148 := yD (ho); clear HO_5; clear ho hb hg hat))
      go_ret
      exact ⟨_, by first | rfl | (simp <;> rfl) | (simp [*] <;> rfl), kA HO148, kR1 HB⟩
     · rw [if_neg c24] at H
       exact absurd H (by simp)

/-! ### spec_l07Cuts: function 128 -/
def spec_l07Cuts.l0 : Nat → List Int → List (S42) → Int → Option (List Int)
 | 0, _, _, _ => none
 | k + 1, x0, x1, x5 => if x5 < (x1.length : Int) then (if 0 ≤ x5 then (if 0 < (((rd_T42 x1 x5).f0).length : Int) then ((spec_l00Put.f k x0 (rd ((rd_T42 x1 x5).f0) 0)).bind fun t168 => (if 0 < (((rd_T42 x1 x5).f1).length : Int) then ((spec_l00Put.f k t168 (rd ((rd_T42 x1 x5).f1) 0)).bind fun t173 => (spec_l07Cuts.l0 k t173 x1 (wrap64 (x5 + 1)))) else (none))) else (none)) else (none)) else (some x0)
def spec_l07Cuts.f (k : Nat) (l0 : List Int) (l1 : List (S42)) : Option (List Int) := spec_l07Cuts.l0 k l0 l1 0
theorem spec_l07Cuts.mono_l : ∀ k, (∀ y0 y1 y2, LeO (spec_l07Cuts.l0 k y0 y1 y2) (spec_l07Cuts.l0 (k + 1) y0 y1 y2))
 | 0 => fun _ _ _ r h => by simp [spec_l07Cuts.l0] at h
 | k + 1 => by
  have ih0 := spec_l07Cuts.mono_l k
  · intro y0 y1 y2
    unfold spec_l07Cuts.l0
    repeat' (with_reducible first | exact ih0 _ _ _ | exact spec_l00Put.mono _ _ _ | exact LeO.refl _ | exact LeO.none _ | refine LeO.ite ?_ ?_ | refine LeO.bind ?_ (fun _ => ?_))
theorem spec_l07Cuts.mono : ∀ a0 a1 k, LeO (spec_l07Cuts.f k a0 a1) (spec_l07Cuts.f (k + 1) a0 a1) := by
 intro a0 a1 k
 have ih0 := spec_l07Cuts.mono_l k
 unfold spec_l07Cuts.f
 repeat' (with_reducible first | exact ih0 _ _ _ | exact spec_l00Put.mono _ _ _ | exact LeO.refl _ | exact LeO.none _ | refine LeO.ite ?_ ?_ | refine LeO.bind ?_ (fun _ => ?_))
set_option maxHeartbeats 8000000 in
set_option maxRecDepth 100000 in
theorem spec_l07Cuts.calls (k : Nat) (P0_ : Nat → Prop) (A0 : Option Addr) (c0 : Nat) (l0 : List Int) (A1 : Option Addr) (c1 : Nat) (l1 : List (S42)) (r : List Int) (w : World) (hs0 : Kd.V (Kd.int .i64) 2 w w.heap.size (fun k_ => P0_ k_) (.slice A0 l0.length c0) l0) (hr1 : Kd.C k42 w A1 l1.length l1) (hc1 : l1.length ≤ c1) (h : spec_l07Cuts.f k l0 l1 = some r) :
 Calls Try.prog 128 #[.slice A0 l0.length c0, .slice A1 l1.length c1] w fun e w' => ∃ v0_ : Value, e = .returned (v0_) ∧ Kd.V (Kd.int .i64) 2 w' w.heap.size (fun k_ => (P0_ k_ ∨ w.heap.size ≤ k_)) v0_ r ∧ Below w.heap.size w w' := by
 have HO0 := yD (show Kd.V (Kd.int .i64) 2 w w.heap.size (fun k_ => (P0_ k_ ∨ w.heap.size ≤ k_)) (.slice A0 l0.length c0) l0 from Kd.V_mono hs0 (fun k_ hk => .inl hk))
 have HR1 := yD hr1
 have HC1 := yD hc1
 clear hr1 hc1
 have HB := yD (Below.refl w.heap.size w)
 have H : (spec_l07Cuts.l0 k l0 l1 0) = some r := h
 clear h
 have H' := yD H
 clear H; go_enter Try.func128, Try.ntmps128
 go_wp2
 go_loopg [0, 5] k (fun kq v0 v5 w' => ∃ (x0_1 : List Int) (x5_1 : Int), v5 = .int .i64 x5_1 ∧ Aside0 (spec_l07Cuts.l0 kq x0_1 l1 x5_1 = some r) ∧ Aside0 (kq ≤ k) ∧ Aside0 (Kd.V (Kd.int .i64) 2 w' w.heap.size (fun k_ => (P0_ k_ ∨ w.heap.size ≤ k_)) v0 x0_1) ∧ Aside0 (Below w.heap.size w w'))
 case atStart => exact ⟨(l0), (0), (by first | rfl | (simp; done) | (simp [*]; done)), H', ⟨Nat.le_refl _⟩, ⟨kU HO0⟩, ⟨kR1 HB⟩⟩
 case round =>
  clear H'
  try clear c1
  obtain ⟨x0_1, x5_1, rfl, HA, HK1, HO_0, HB⟩ := hrel
  cases gk with
  | zero => exact absurd HA.out (by simp [spec_l07Cuts.l0])
  | succ k1 =>
   have H := HA.out; clear HA
   simp only [spec_l07Cuts.l0] at H
   by_cases c3 : x5_1 < (l1.length : Int)
   ·
    rw [if_pos c3] at H
    have c3b0 : decide (x5_1 < (l1.length : Int)) = true := zR c3; clear c3
    by_cases c4 : 0 ≤ x5_1
    ·
     rw [if_pos c4] at H
     have c4b0 : decide (0 ≤ x5_1) = true := zR c4; clear c4
     by_cases c5 : 0 < (((rd_T42 l1 x5_1).f0).length : Int)
     ·
      rw [if_pos c5] at H
      have c5b0 : decide (0 < (((rd_T42 l1 x5_1).f0).length : Int)) = true := zR c5
      have c5b1 : decide (0 < ((rd_T42 l1 x5_1).f0).length) = true := zR (by omega)
      clear c5
      obtain ⟨t168, A60, H⟩ := zW_ H
      replace H : (if 0 < (((rd_T42 l1 x5_1).f1).length : Int) then ((spec_l00Put.f k1 t168 (rd ((rd_T42 l1 x5_1).f1) 0)).bind fun t173 => (spec_l07Cuts.l0 k1 t173 l1 (wrap64 (x5_1 + 1)))) else (none)) = some r := H
      have A6 := yD A60
      clear A60
      by_cases c7 : 0 < (((rd_T42 l1 x5_1).f1).length : Int)
      ·
       rw [if_pos c7] at H
       have c7b0 : decide (0 < (((rd_T42 l1 x5_1).f1).length : Int)) = true := zR c7
       have c7b1 : decide (0 < ((rd_T42 l1 x5_1).f1).length) = true := zR (by omega)
       clear c7
       obtain ⟨t173, A80, H⟩ := zW_ H
       replace H : (spec_l07Cuts.l0 k1 t173 l1 (wrap64 (x5_1 + 1))) = some r := H
       have A8 := yD A80
       clear A80
       have H' := yD H
       clear H
       have p166 : 0 ≤ (x5_1 : Int) := zP (by assumption)
       have q166 : x5_1 < (l1.length : Int) := zP (by assumption)
       obtain ⟨ad166, A166_0, c166_0, A166_1, c166_1, e166, hx166_0, hx166_1, hl166_0, hi166_0, hl166_1, hi166_1⟩ := at_T42 HR1.out x5_1 p166 q166
       cases e166
       replace hx166_0 := (HB.out.cell (zQ w _ hx166_0)).trans hx166_0
       replace hx166_1 := (HB.out.cell (zQ w _ hx166_1)).trans hx166_1
       have HR166_0 := yD hi166_0
       have HC166_0 := yD hl166_0
       clear hi166_0 hl166_0
       have HR166_1 := yD hi166_1
       have HC166_1 := yD hl166_1
       clear hi166_1 hl166_1; replace p166 := eq_true p166; replace q166 := eq_true q166
       have p167 : 0 ≤ (0 : Int) := (by omega)
       have q167 : 0 < (((rd_T42 l1 x5_1).f0).length : Int) := zP (by assumption)
       obtain ⟨ad167, e167, hx167_0⟩ := Kd.at_int HR166_0.out 0 p167 q167
       cases e167
       have qi167 : (0 < ((rd_T42 l1 x5_1).f0).length) = True := eq_true (by omega)
       (try rw [show ((0 : Int)).toNat = 0 from rfl] at hx167_0)
       (try rw [Addr.add_zero'] at hx167_0)
       replace hx167_0 := (HB.out.cell (zQ w _ hx167_0)).trans hx167_0
       replace p167 := eq_true p167; replace q167 := eq_true q167
       obtain ⟨Ao9, co9, eo9⟩ := Kd.V_slice HO_0.out
       subst eo9
       go_wp2_with (first | ((with_reducible refine gate_callee (f := 148) rfl ?_); refine gL 20 Try.func148 #[.slice Ao9 x0_1.length co9, .int .i64 (rd ((rd_T42 l1 x5_1).f0) 0)] ?_; (with_reducible refine (spec_l00Put.calls k1 _ _ x0_1 (rd ((rd_T42 l1 x5_1).f0) 0) t168 _ ?side1 ?side2 A6.out).mono ?_); (case side1 => exact kV (Kd.V_reads' HO_0.out).2.2); (case side2 => exact (Kd.V_reads' HO_0.out).2.1); rintro e w10 ⟨v169, rfl, ho0, hb⟩; refine ⟨_, rfl, ?_⟩; replace HO_0 := yD (Kd.V_elder' (kU HO_0) (yH ho0) hb); have HO170 := yD (yZ (Kd.R_newM (M := fun k_ => (w.heap.size ≤ k_)) ho0 (below_size (kB HB)) (fun k_ h_ => h_)) (below_size (kB HB))); replace HB := yD (zC (kB HB) hb); clear hb ho0; have p171 : 0 ≤ (x5_1 : Int) := zP (by assumption); have q171 : x5_1 < (l1.length : Int) := zP (by assumption); obtain ⟨ad171, A171_0, c171_0, A171_1, c171_1, e171, hx171_0, hx171_1, hl171_0, hi171_0, hl171_1, hi171_1⟩ := at_T42 HR1.out x5_1 p171 q171; obtain rfl : ad166 = ad171 := (by injection e171); replace hx171_0 := (HB.out.cell (zQ w _ hx171_0)).trans hx171_0; replace hx171_1 := (HB.out.cell (zQ w _ hx171_1)).trans hx171_1; have HR171_0 := yD hi171_0; have HC171_0 := yD hl171_0; clear hi171_0 hl171_0; have HR171_1 := yD hi171_1; have HC171_1 := yD hl171_1; clear hi171_1 hl171_1; replace p171 := eq_true p171; replace q171 := eq_true q171; have p172 : 0 ≤ (0 : Int) := (by omega); have q172 : 0 < (((rd_T42 l1 x5_1).f1).length : Int) := zP (by assumption); obtain ⟨ad172, e172, hx172_0⟩ := Kd.at_int HR171_1.out 0 p172 q172; cases e172; have qi172 : (0 < ((rd_T42 l1 x5_1).f1).length) = True := eq_true (by omega); (try rw [show ((0 : Int)).toNat = 0 from rfl] at hx172_0); (try rw [Addr.add_zero'] at hx172_0); replace hx172_0 := (HB.out.cell (zQ w _ hx172_0)).trans hx172_0; replace p172 := eq_true p172; replace q172 := eq_true q172; obtain ⟨Ao11, co11, eo11⟩ := Kd.R_slice HO170.out; subst eo11) | ((with_reducible refine gate_callee (f := 148) rfl ?_); refine gL 29 Try.func148 #[.slice Ao11 t168.length co11, .int .i64 (rd ((rd_T42 l1 x5_1).f1) 0)] ?_; (with_reducible refine (spec_l00Put.calls k1 _ _ t168 (rd ((rd_T42 l1 x5_1).f1) 0) t173 _ ?side1 ?side2 A8.out).mono ?_); (case side1 => exact kV (zA HO170.out).2.2); (case side2 => exact (zA HO170.out).2.1); rintro e w12 ⟨v174, rfl, ho0, hb⟩; refine ⟨_, rfl, ?_⟩; replace HO_0 := yD (Kd.V_elder' (kU HO_0) (yH ho0) hb); have HO175 := yD (yZ (yJ (Kd.R_newM (M := fun k_ => (w.heap.size ≤ k_)) ho0 (below_size (kB HB)) (fun k_ h_ => h_)) (yK (kA HO170))) (below_size (kB HB))); replace HO170 := yD (Kd.R_elder' (kA HO170) (yH ho0) hb); replace HB := yD (zC (kB HB) hb); clear hb ho0))
       go_roundg k1
       case measure => have := HK1.out; omega
       case rel => exact ⟨(t173), (wrap64 (x5_1 + 1)), (by first | rfl | (simp; done) | (simp [*]; done)), H', ⟨by have := HK1.out; omega⟩, ⟨Kd.V_mono (Kd.R_V (mR HO175 (fun _ hk => hk.1.1))) (fun k_ hk => by first | exact ⟨(.inr (hk.1)), hk.2⟩ | exact (.inr (hk)))⟩, ⟨kR1 HB⟩⟩
      · rw [if_neg c7] at H
        exact absurd H (by simp)
     · rw [if_neg c5] at H
       exact absurd H (by simp)
    · rw [if_neg c4] at H
      exact absurd H (by simp)
   · rw [if_neg c3] at H
     have c3b0 : decide (x5_1 < (l1.length : Int)) = false := zS c3; clear c3; obtain rfl := Option.some.inj H
     go_wp2
     go_ret
     exact ⟨_, by first | rfl | (simp <;> rfl) | (simp [*] <;> rfl), kU HO_0, kR1 HB⟩

end Go.Proofs.Ytdiaebjbiddefaa.PFnExactSubtractBoxes
