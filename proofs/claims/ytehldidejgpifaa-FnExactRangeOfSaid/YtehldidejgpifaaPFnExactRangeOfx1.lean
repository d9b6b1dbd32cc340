/- Each Go function here comes to what the plain function of its name says, where that says something. Made by a program of this session, over the print. -/
import Derived.Test.YtehldidejgpifaaPFnExactRangeOfx0
namespace Go.Proofs.Ytehldidejgpifaa.PFnExactRangeOf
open Go.RowKit Go.Proofs.YtehldidejgpifaaW.PrintWords Go.Proofs.YtehldidejgpifaaW.PrintLast Go.Proofs.YtehldidejgpifaaW.PrintMore
attribute [local go_sem] max2_int min2_int max_two min_two max_three min_three max_four min_four   -- for this text's walks alone
set_option linter.unusedVariables false
set_option linter.unusedSimpArgs false

/-! ### laws_toInt64S: function 16 -/
def laws_toInt64S.l0 : Nat → List Int → List Int → Int → Option (List Int)
  | 0, _, _, _ => none
  | k + 1, x0, x3, x4 => if x4 < (x0.length : Int) then (if 0 ≤ x4 then (if x4 < (x3.length : Int) then (laws_toInt64S.l0 k x0 (x3.set (x4 : Int).toNat (rd x0 x4)) (wrap64 (x4 + 1))) else (none)) else (none)) else (some x3)
def laws_toInt64S.f (k : Nat) (l0 : List Int) : Option (List Int) := if 0 ≤ (l0.length : Int) then (if ((l0.length : Int) : Int).toNat ≤ 35184372088832 then (laws_toInt64S.l0 k l0 (List.replicate ((l0.length : Int) : Int).toNat 0) 0) else (none)) else (none)
theorem laws_toInt64S.mono_l : ∀ k, (∀ y0 y1 y2, LeO (laws_toInt64S.l0 k y0 y1 y2) (laws_toInt64S.l0 (k + 1) y0 y1 y2))
  | 0 => fun _ _ _ r h => by simp [laws_toInt64S.l0] at h
  | k + 1 => by
    have ih0 := laws_toInt64S.mono_l k
    · intro y0 y1 y2
      unfold laws_toInt64S.l0
      repeat' first
      | (with_reducible exact ih0 _ _ _)
      | (with_reducible exact LeO.refl _)
      | (with_reducible exact LeO.none _)
      | (with_reducible refine LeO.ite ?_ ?_)
      | (with_reducible refine LeO.bind ?_ (fun _ => ?_))
      | exact ih0 _ _ _
      | exact LeO.none _
      | refine LeO.ite ?_ ?_
      | refine LeO.bind ?_ (fun _ => ?_)
theorem laws_toInt64S.mono : ∀ a0 k, LeO (laws_toInt64S.f k a0) (laws_toInt64S.f (k + 1) a0) := by
  intro a0 k
  have ih0 := laws_toInt64S.mono_l k
  unfold laws_toInt64S.f
  repeat' first
      | (with_reducible exact ih0 _ _ _)
      | (with_reducible exact LeO.refl _)
      | (with_reducible exact LeO.none _)
      | (with_reducible refine LeO.ite ?_ ?_)
      | (with_reducible refine LeO.bind ?_ (fun _ => ?_))
      | exact ih0 _ _ _
      | exact LeO.none _
      | refine LeO.ite ?_ ?_
      | refine LeO.bind ?_ (fun _ => ?_)
set_option maxHeartbeats 8000000 in
set_option maxRecDepth 100000 in
theorem laws_toInt64S.calls (k : Nat) (A0 : Option Addr) (c0 : Nat) (l0 : List Int) (r : List Int) (w : World) (hr0 : Kd.C (Kd.int .i64) w A0 l0.length l0) (hc0 : l0.length ≤ c0) (h : laws_toInt64S.f k l0 = some r) :
    Calls Try.prog 16 #[.slice A0 l0.length c0] w fun e w' => ∃ v0_ : Value, e = .returned (v0_) ∧ Kd.R (Kd.int .i64) 2 w' w.heap.size (fun _ => True) v0_ r ∧ Below w.heap.size w w' := by
  have HR0 := yD hr0
  have HC0 := yD hc0
  clear hr0 hc0
  have HB := yD (Below.refl w.heap.size w)
  have H : (if 0 ≤ (l0.length : Int) then (if ((l0.length : Int) : Int).toNat ≤ 35184372088832 then (laws_toInt64S.l0 k l0 (List.replicate ((l0.length : Int) : Int).toNat 0) 0) else (none)) else (none)) = some r := h
  clear h
  by_cases c2 : 0 ≤ (l0.length : Int)
  · rw [if_pos c2] at H
    have c2b0 := eq_true c2
    have c2b1 : decide (0 ≤ (l0.length : Int)) = true := zR c2; clear c2
    by_cases c3 : ((l0.length : Int) : Int).toNat ≤ 35184372088832
    · rw [if_pos c3] at H
      have c3b0 := eq_true c3
      have c3b1 : decide (((l0.length : Int) : Int).toNat ≤ 35184372088832) = true := zR c3
      clear c3
      obtain ⟨y101, hy101⟩ : ∃ y_ : List Int, y_ = (List.replicate ((l0.length : Int) : Int).toNat 0) := ⟨_, rfl⟩
      replace H : (laws_toInt64S.l0 k l0 y101 0) = some r := by first | (rw [hy101]; with_reducible exact H) | (have H2_ := (Option.bind_some _ _).symm.trans H; rw [hy101]; with_reducible exact H2_) | (have H2_ := (Option.bind_some _ _).symm.trans H; with_reducible exact H2_) | with_reducible exact H | (rw [hy101]; exact H) | exact H
      have Ny101 := yD hy101
      clear hy101
      have H' := yD H
      clear H; go_enter Try.func16, Try.ntmps16
      go_wp2_with (first | ((with_reducible refine gate_dst (N := 7) rfl ?_); refine Kd.R_make (Kd.int .i64) _ 2 rfl (N := 7) rfl 27 _ _ rfl (l0.length : Int) rfl rfl Try.underlying27 (.int .i64 0) 8 info2 rfl (by decide) (by omega) 0 (ok := fun _ => True) (okp := fun _ => True) rfl (fun _ hk => hk) trivial (zP (by assumption)) (Nat.le_trans (Nat.mul_le_mul_right _ (zP (by assumption) : (l0.length : Int).toNat ≤ 35184372088832)) (by omega)) (Below.refl _ _) (Nat.le_refl _) ?_; intro v102 w4 ho5 hb hg_ hnew_; clear hg_ hnew_; (first | rw [← Ny101.out] at ho5 | (simp only [Int.reduceToNat] at ho5; rw [← Ny101.out] at ho5)); have n0_ := yD (yZ ho5 (below_size (kB HB))); have n1_ := yD (zC (kB HB) hb); clear HB; have HO103 := n0_; have HB := n1_; clear n0_ n1_; clear hb ho5))
      go_loopg [4] k (fun kq v4 w' => ∃ (x3_1 : List Int) (x4_1 : Int), v4 = .int .i64 x4_1 ∧ Aside0 (laws_toInt64S.l0 kq l0 x3_1 x4_1 = some r) ∧ Aside0 (kq ≤ k) ∧ Aside0 (Kd.R (Kd.int .i64) 2 w' w.heap.size (fun _ => True) v102 x3_1) ∧ Aside0 (Below w.heap.size w w'))
      case atStart => exact ⟨(y101), (0), (by first | rfl | (simp; done) | (simp [*]; done)), H', ⟨Nat.le_refl _⟩, ⟨by (with_reducible repeat (first | apply yA | apply yB | apply yC)); exact HO103.out⟩, ⟨by repeat (first | (with_reducible first | exact HB.out | apply yQ | apply yL | apply yP) | exact HB.out)⟩⟩
      case round =>
        clear H'
        try clear c1; try clear c2; try clear c2b0; try clear c2b1; try clear p2; try clear c3; try clear c3b0; try clear c3b1
        obtain ⟨x3_1, x4_1, rfl, HA, HK1, HO_3, HB⟩ := hrel
        cases gk with
        | zero => exact absurd HA.out (by simp [laws_toInt64S.l0])
        | succ k1 =>
          have H := HA.out; clear HA
          simp only [laws_toInt64S.l0] at H
          by_cases c6 : x4_1 < (l0.length : Int)
          · rw [if_pos c6] at H
            have c6b0 : decide (x4_1 < (l0.length : Int)) = true := zR c6; clear c6
            by_cases c7 : 0 ≤ x4_1
            · rw [if_pos c7] at H
              have c7b0 : decide (0 ≤ x4_1) = true := zR c7; clear c7
              by_cases c8 : x4_1 < (x3_1.length : Int)
              · rw [if_pos c8] at H
                have c8b0 : decide (x4_1 < (x3_1.length : Int)) = true := zR c8; clear c8
                obtain ⟨y105, hy105⟩ : ∃ y_ : List Int, y_ = (x3_1.set (x4_1 : Int).toNat (rd l0 x4_1)) := ⟨_, rfl⟩
                replace H : (laws_toInt64S.l0 k1 l0 y105 (wrap64 (x4_1 + 1))) = some r := by first | (rw [hy105]; with_reducible exact H) | (have H2_ := (Option.bind_some _ _).symm.trans H; rw [hy105]; with_reducible exact H2_) | (have H2_ := (Option.bind_some _ _).symm.trans H; with_reducible exact H2_) | with_reducible exact H | (rw [hy105]; exact H) | exact H
                have Ny105 := yD hy105
                clear hy105
                have H' := yD H
                clear H
                have p104 : 0 ≤ (x4_1 : Int) := zP (by assumption)
                have q104 : x4_1 < (l0.length : Int) := zP (by assumption)
                obtain ⟨ad104, e104, hx104_0⟩ := Kd.at_int HR0.out x4_1 p104 q104
                cases e104
                replace hx104_0 := (HB.out.cell (zQ w _ hx104_0)).trans hx104_0
                replace p104 := eq_true p104; replace q104 := eq_true q104
                have p9 : 0 ≤ (x4_1 : Int) := zP (by assumption)
                have q9 : (x4_1 : Int) < ((x3_1.length : Int) : Int) := zP (by assumption)
                obtain ⟨go9, co9, eo9, gb9, gl9, cl9, HG9⟩ := Kd.R_form HO_3.out (by omega)
                (first | cases eo9 | (injection eo9 with ea_ en_ ec_; (first | subst ea_ | (injection ea_ with ea_; subst ea_)); subst ec_; clear en_))
                have GB9 := yD gb9
                have GG9 := yD HG9
                clear gb9 gl9 HG9
                obtain ⟨hx9_0, hf9_0⟩ := Kd.R_celln 0 HO_3.out (x4_1 : Int) p9 q9
                replace p9 := eq_true p9; replace q9 := eq_true q9
                have HP10 := Kd.R_putg HO_3.out (x4_1 : Int) (rd l0 x4_1)
                go_wp2_with (first | ((with_reducible refine gate_store (t := 2) (p := 20) rfl ?_); refine store_event (t := 2) (p := 20) (v := ?vo_w11) (w1 := (wr.setCell ⟨go9, (x4_1 : Int).toNat, none⟩ (.int .i64 (rd l0 x4_1)))) ?hg ?ho ?hn ?hr ?_; (case ho => rfl); (case hg => rfl); (case hn => rfl); (case hr => first | (go_simp; done) | (go_simp; rfl)); intro w11 hw; have hg : wr.grownBy w11 (some go9) := (by rw [hw]; exact HP10.2); have hp_ : Kd.R (Kd.int .i64) 2 w11 w.heap.size (fun _ => True) (.slice (some ⟨go9, 0, none⟩) x3_1.length co9) y105 := (by rw [hw, Ny105.out]; exact HP10.1); clear HP10; have n0_ := yD (hp_); have n1_ := yD ((by rw [hw]; exact yE (HB.out) GB9.out : Below w.heap.size w w11)); clear HO_3; clear HB; have HO_3 := n0_; have HB := n1_; clear n0_ n1_; clear hg hw hp_))
                go_roundg k1
                case measure => have := HK1.out; omega
                case rel => exact ⟨(y105), (wrap64 (x4_1 + 1)), (by first | rfl | (simp; done) | (simp [*]; done)), H', ⟨by have := HK1.out; omega⟩, ⟨by (with_reducible repeat (first | apply yA | apply yB | apply yC)); exact HO_3.out⟩, ⟨by repeat (first | (with_reducible first | exact HB.out | apply yQ | apply yL | apply yP) | exact HB.out)⟩⟩
              · rw [if_neg c8] at H
                exact absurd H (by simp)
            · rw [if_neg c7] at H
              exact absurd H (by simp)
          · rw [if_neg c6] at H
            have c6b0 : decide (x4_1 < (l0.length : Int)) = false := zS c6; clear c6; obtain rfl := Option.some.inj H
            go_wp2
            go_ret
            exact ⟨_, by first | rfl | (simp <;> rfl) | (simp [*] <;> rfl), by (with_reducible repeat (first | apply yA | apply yB | apply yC)); exact HO_3.out, by repeat (first | (with_reducible first | exact HB.out | apply yQ | apply yL | apply yP) | exact HB.out)⟩
    · rw [if_neg c3] at H
      exact absurd H (by simp)
  · rw [if_neg c2] at H
    exact absurd H (by simp)

/-! ### spec_l00In: function 56 -/
def spec_l00In.f (a0 : Int) (a1 : Int) (a2 : Int) : Option (Bool) := if a0 ≥ a1 then (some (decide (a0 ≤ a2))) else (some false)
set_option maxHeartbeats 8000000 in
set_option maxRecDepth 100000 in
theorem spec_l00In.calls (a0 : Int) (a1 : Int) (a2 : Int) (r : Bool) (w : World) (h : spec_l00In.f a0 a1 a2 = some r) :
    Calls Try.prog 56 #[.int .i64 a0, .int .i64 a1, .int .i64 a2] w fun e w' => e = .returned (.bool r) ∧ Drawn0 w w' := by
  have H : (if a0 ≥ a1 then (some (decide (a0 ≤ a2))) else (some false)) = some r := h
  clear h
  by_cases c4 : a0 ≥ a1
  · rw [if_pos c4] at H
    have c4b0 : decide (a1 ≤ a0) = true := zR c4; clear c4; obtain rfl := Option.some.inj H; go_enter Try.func56, Try.ntmps56
    go_wp2
    go_ret
    exact ⟨by first | rfl | (simp; done) | (simp [*]; done), by repeat (first | exact Drawn0.refl _ | apply Drawn0.step)⟩
  · rw [if_neg c4] at H
    have c4b0 : decide (a1 ≤ a0) = false := zS c4; clear c4; obtain rfl := Option.some.inj H; go_enter Try.func56, Try.ntmps56
    go_wp2
    go_ret
    exact ⟨by first | rfl | (simp; done) | (simp [*]; done), by repeat (first | exact Drawn0.refl _ | apply Drawn0.step)⟩

/-! ### spec_l00Own: function 73 -/
def spec_l00Own.f (l0 : List Int) : Option (List Int) := (some (([] : List Int) : List Int)).bind fun y106 => (if y106.length + l0.length < 17592186044416 then (some (y106 ++ l0)) else (none))
set_option maxHeartbeats 8000000 in
set_option maxRecDepth 100000 in
theorem spec_l00Own.calls (A0 : Option Addr) (c0 : Nat) (l0 : List Int) (r : List Int) (w : World) (hr0 : Kd.C (Kd.int .i64) w A0 l0.length l0) (hc0 : l0.length ≤ c0) (h : spec_l00Own.f l0 = some r) :
    Calls Try.prog 73 #[.slice A0 l0.length c0] w fun e w' => ∃ v0_ : Value, e = .returned (v0_) ∧ Kd.R (Kd.int .i64) 2 w' w.heap.size (fun _ => True) v0_ r ∧ Below w.heap.size w w' := by
  have HR0 := yD hr0
  have HC0 := yD hc0
  clear hr0 hc0
  have HB := yD (Below.refl w.heap.size w)
  have H : ((some (([] : List Int) : List Int)).bind fun y106 => (if y106.length + l0.length < 17592186044416 then (some (y106 ++ l0)) else (none))) = some r := h
  clear h
  obtain ⟨y106, hy106⟩ : ∃ y_ : List Int, y_ = (([] : List Int)) := ⟨_, rfl⟩
  replace H : (if y106.length + l0.length < 17592186044416 then (some (y106 ++ l0)) else (none)) = some r := by first | (rw [hy106]; with_reducible exact H) | (have H2_ := (Option.bind_some _ _).symm.trans H; rw [hy106]; with_reducible exact H2_) | (have H2_ := (Option.bind_some _ _).symm.trans H; with_reducible exact H2_) | with_reducible exact H | (rw [hy106]; exact H) | exact H
  have Ny106 := yD hy106
  clear hy106
  by_cases c2 : y106.length + l0.length < 17592186044416
  · rw [if_pos c2] at H
    have LMc2 := yD c2
    clear c2
    obtain ⟨y109, hy109⟩ : ∃ y_ : List Int, y_ = (y106 ++ l0) := ⟨_, rfl⟩
    replace H : (some y109) = some r := by first | (rw [hy109]; with_reducible exact H) | (have H2_ := (Option.bind_some _ _).symm.trans H; rw [hy109]; with_reducible exact H2_) | (have H2_ := (Option.bind_some _ _).symm.trans H; with_reducible exact H2_) | with_reducible exact H | (rw [hy109]; exact H) | exact H
    have Ny109 := yD hy109
    clear hy109; obtain rfl := Option.some.inj H; go_enter Try.func73, Try.ntmps73
    go_wp2_with (first | ((with_reducible refine gate_dst (N := 3) rfl ?_); refine Kd.R_lit (Kd.int .i64) _ 2 ?hg (N := 3) ?hd (xs := ([] : List Int)) (inner := []) (ok := fun _ => True) (okp := fun _ => True) ?hr ?hp (fun _ hk => hk) trivial (Below.refl _ _) (Nat.le_refl _) (by simp) ?_; (case hd => rfl); (case hg => rfl); (case hr => first | (go_simp; done) | (go_simp; rfl)); (case hp => exact (Reps.none _ _)); intro v107 w3 ho4 hb hg_ hnew_; clear hg_ hnew_; (first | rw [← Ny106.out] at ho4 | (simp only [Int.reduceToNat] at ho4; rw [← Ny106.out] at ho4)); have n0_ := yD (yZ ho4 (below_size (kB HB))); have n1_ := yD (zC (kB HB) hb); clear HB; have HO108 := n0_; have HB := n1_; clear n0_ n1_; clear hb ho4) | ((with_reducible refine gate_builtin (b := .append) (xs := #[.tmp 3, .tmp 4]) rfl ?_); at_builtin; refine Kd.R_append_rows (Kd.int .i64) (w0 := w) w.heap.size rfl (.tmp 3) (.tmp 4) 27 2 (.int .i64 0) 8 rfl Try.underlying27 info2 rfl (by decide) (by omega) v107 y106 l0 _ _ _ (fun _ => True) (fun _ => False) rfl rfl ?aO ?aR (fun _ _ h => h) (fun _ h => h.elim) ?aF ?aB ?aS ?aL ?_; (case aR => exact kV (yY HR0.out HB.out)); (case aB => exact (kB HB)); (case aF => exact (fun _ _ => trivial)); (case aO => exact (kA HO108)); (case aS => exact (below_size (kB HB))); (case aL => have := LMc2.out; omega); intro v110 w5 ho hb hg hat; rw [← Ny109.out] at ho; have n0_ := yD (hb); have n1_ := yD (ho); clear HB; clear HO108; have HB := n0_; have HO111 := n1_; clear n0_ n1_; clear ho hb hg hat))
    go_ret
    exact ⟨_, by first | rfl | (simp <;> rfl) | (simp [*] <;> rfl), by (with_reducible repeat (first | apply yA | apply yB | apply yC)); exact HO111.out, by repeat (first | (with_reducible first | exact HB.out | apply yQ | apply yL | apply yP) | exact HB.out)⟩
  · rw [if_neg c2] at H
    exact absurd H (by simp)

/-! ### spec_l06Range: function 79 -/
def spec_l06Range.l0 : Nat → List Int → List Int → Int → Int → List Int → List Int → List Int → List Int → Option (Int × List Int × List Int × List Int × List Int × (List (S137)))
  | 0, _, _, _, _, _, _, _, _ => none
  | k + 1, x0, x1, x6, x117000, x117001, x117002, x117003, x117004 => if x6 < (x0.length : Int) then (if x6 < (x1.length : Int) then (if 0 ≤ x6 then (if x117002.length < 17592186044416 then (if x117003.length < 17592186044416 then (if x117004.length < 17592186044416 then (spec_l06Range.l0 k x0 x1 (wrap64 (x6 + 1)) x117000 x117001 (x117002 ++ [wrap64 ((rd x1 x6) - (rd x0 x6))]) (x117003 ++ [1]) (x117004 ++ [wrap64 ((rd x1 x6) - (rd x0 x6))])) else (none)) else (none)) else (none)) else (none)) else (some (x117000, x117001, x117002, x117003, x117004, ([] : List (S137))))) else (some (x117000, x117001, x117002, x117003, x117004, ([] : List (S137))))
def spec_l06Range.f (k : Nat) (l0 : List Int) (l1 : List Int) : Option (Int × List Int × List Int × List Int × List Int × (List (S137))) := (spec_l00Own.f l0).bind fun t113 => (spec_l06Range.l0 k l0 l1 0 3 t113 ([] : List Int) ([] : List Int) ([] : List Int))
theorem spec_l06Range.mono_l : ∀ k, (∀ y0 y1 y2 y3 y4 y5 y6 y7, LeO (spec_l06Range.l0 k y0 y1 y2 y3 y4 y5 y6 y7) (spec_l06Range.l0 (k + 1) y0 y1 y2 y3 y4 y5 y6 y7))
  | 0 => fun _ _ _ _ _ _ _ _ r h => by simp [spec_l06Range.l0] at h
  | k + 1 => by
    have ih0 := spec_l06Range.mono_l k
    · intro y0 y1 y2 y3 y4 y5 y6 y7
      unfold spec_l06Range.l0
      repeat' first
      | (with_reducible exact ih0 _ _ _ _ _ _ _ _)
      | (with_reducible exact LeO.refl _)
      | (with_reducible exact LeO.none _)
      | (with_reducible refine LeO.ite ?_ ?_)
      | (with_reducible refine LeO.bind ?_ (fun _ => ?_))
      | exact ih0 _ _ _ _ _ _ _ _
      | exact LeO.none _
      | refine LeO.ite ?_ ?_
      | refine LeO.bind ?_ (fun _ => ?_)
theorem spec_l06Range.mono : ∀ a0 a1 k, LeO (spec_l06Range.f k a0 a1) (spec_l06Range.f (k + 1) a0 a1) := by
  intro a0 a1 k
  have ih0 := spec_l06Range.mono_l k
  unfold spec_l06Range.f
  repeat' first
      | (with_reducible exact ih0 _ _ _ _ _ _ _ _)
      | (with_reducible exact LeO.refl _)
      | (with_reducible exact LeO.none _)
      | (with_reducible refine LeO.ite ?_ ?_)
      | (with_reducible refine LeO.bind ?_ (fun _ => ?_))
      | exact ih0 _ _ _ _ _ _ _ _
      | exact LeO.none _
      | refine LeO.ite ?_ ?_
      | refine LeO.bind ?_ (fun _ => ?_)
def spec_l06Range.T5 : Bool × List (List Nat × List Nat) := (true, [([], []), ([0], [0]), ([], []), ([], []), ([2, 3], [2, 3]), ([4], [4]), ([], []), ([], []), ([6, 7], [6, 7]), ([8], [8]), ([5, 9], [5, 9]), ([10], [10]), ([1, 11], [1, 11]), ([0, 1, 2, 3, 4, 5, 6, 7, 8, 9, 10, 11, 12], []), ([13, 12, 12, 0, 1, 2, 3, 4, 5, 6, 7, 8, 9, 10, 11, 12], [12, 13])])
def spec_l06Range.B5 : List Nat := [0, 1, 0, 0, 12, 28, 0, 0, 192, 448, 1020, 2044, 4095, 8191, 16383]
theorem spec_l06Range.tab5 : rtab .any (opsOf Try.f79 5) = spec_l06Range.T5 := by kernel_rfl
theorem spec_l06Range.bits5 : waitsOk spec_l06Range.T5.2 spec_l06Range.B5 = true := by kernel_rfl
def spec_l06Range.T7 : Bool × List (List Nat × List Nat) := (true, [([], []), ([0], [0]), ([], []), ([], []), ([2, 3], [2, 3]), ([4], [4]), ([], []), ([], []), ([6, 7], [6, 7]), ([8], [8]), ([5, 9], [5, 9]), ([10], [10]), ([1, 11], [1, 11]), ([0, 1, 2, 3, 4, 5, 6, 7, 8, 9, 10, 11, 12], []), ([13, 12, 12, 0, 1, 2, 3, 4, 5, 6, 7, 8, 9, 10, 11, 12], [12, 13])])
def spec_l06Range.B7 : List Nat := [0, 1, 0, 0, 12, 28, 0, 0, 192, 448, 1020, 2044, 4095, 8191, 16383]
theorem spec_l06Range.tab7 : rtab .any (opsOf Try.f79 7) = spec_l06Range.T7 := by kernel_rfl
theorem spec_l06Range.bits7 : waitsOk spec_l06Range.T7.2 spec_l06Range.B7 = true := by kernel_rfl
set_option maxHeartbeats 8000000 in
set_option maxRecDepth 100000 in
theorem spec_l06Range.calls (k : Nat) (A0 : Option Addr) (c0 : Nat) (l0 : List Int) (A1 : Option Addr) (c1 : Nat) (l1 : List Int) (r1 : Int) (r2 : List Int) (r3 : List Int) (r4 : List Int) (r5 : List Int) (r6 : List (S137)) (w : World) (hr0 : Kd.C (Kd.int .i64) w A0 l0.length l0) (hc0 : l0.length ≤ c0) (hr1 : Kd.C (Kd.int .i64) w A1 l1.length l1) (hc1 : l1.length ≤ c1) (h : spec_l06Range.f k l0 l1 = some (r1, r2, r3, r4, r5, r6)) :
    Calls Try.prog 79 #[.slice A0 l0.length c0, .slice A1 l1.length c1] w fun e w' => ∃ v1_ v2_ v3_ v4_ v5_ : Value, e = .returned (.agg #[.int .i64 r1, v1_, v2_, v3_, v4_, v5_]) ∧ Kd.R (Kd.int .i64) 2 w' w.heap.size (fun k_ => some k_ ≠ (v2_ : Value).ownBlock ∧ some k_ ≠ (v3_ : Value).ownBlock ∧ some k_ ≠ (v4_ : Value).ownBlock) v1_ r2 ∧ Kd.R (Kd.int .i64) 2 w' w.heap.size (fun k_ => some k_ ≠ (v1_ : Value).ownBlock ∧ some k_ ≠ (v3_ : Value).ownBlock ∧ some k_ ≠ (v4_ : Value).ownBlock) v2_ r3 ∧ Kd.R (Kd.int .i64) 2 w' w.heap.size (fun k_ => some k_ ≠ (v1_ : Value).ownBlock ∧ some k_ ≠ (v2_ : Value).ownBlock ∧ some k_ ≠ (v4_ : Value).ownBlock) v3_ r4 ∧ Kd.R (Kd.int .i64) 2 w' w.heap.size (fun k_ => some k_ ≠ (v1_ : Value).ownBlock ∧ some k_ ≠ (v2_ : Value).ownBlock ∧ some k_ ≠ (v3_ : Value).ownBlock) v4_ r5 ∧ Kd.S k137 137 w' w.heap.size (fun k_ => some k_ ≠ (v1_ : Value).ownBlock ∧ some k_ ≠ (v2_ : Value).ownBlock ∧ some k_ ≠ (v3_ : Value).ownBlock ∧ some k_ ≠ (v4_ : Value).ownBlock) v5_ r6 ∧ Below w.heap.size w w' := by
  have hu57 := Try.underlying57
  have HR0 := yD hr0
  have HC0 := yD hc0
  clear hr0 hc0
  have HR1 := yD hr1
  have HC1 := yD hc1
  clear hr1 hc1
  have HB := yD (Below.refl w.heap.size w)
  have H : ((spec_l00Own.f l0).bind fun t113 => (spec_l06Range.l0 k l0 l1 0 3 t113 ([] : List Int) ([] : List Int) ([] : List Int))) = some (r1, r2, r3, r4, r5, r6) := h
  clear h
  obtain ⟨t113, A30, H⟩ := zW_ H
  replace H : (spec_l06Range.l0 k l0 l1 0 3 t113 ([] : List Int) ([] : List Int) ([] : List Int)) = some (r1, r2, r3, r4, r5, r6) := H
  have A3 := yD A30
  clear A30
  have H' := yD H
  clear H; go_enter Try.func79, Try.ntmps79
  go_wp2_with (first | ((with_reducible refine gate_dst (N := 4) rfl ?_); (try (refine gate_guard (by rfl) ?_; dsimp only)); refine box_event ?hg (N := 4) ?hd (cs := #[.int .i64 0, .slice none 0 0, .slice none 0 0, .slice none 0 0, .slice none 0 0, .slice none 0 0]) (t := 57) ?hr ?_; (case hd => rfl); (case hg => rfl); (case hr => first | (go_simp; done) | (go_simp; rfl)); intro gb112 hg w4 hbox hb; have n0_ := yD (zC (kB HB) hb); have n1_ := yD (hbox); have n2_ := yD ((by rw [hg]; exact (below_size (kB HB)) : w.heap.size ≤ gb112)); have n3_ := yD ((by rw [hg]; exact (below_size (kB HB)) : w.heap.size ≤ gb112)); clear HB; have HB := n0_; have BK112 := n1_; have GW112 := n2_; have GE112 := n3_; clear n0_ n1_ n2_ n3_; clear hb hbox hg) | ((with_reducible refine gate_callee (f := 73) rfl ?_); refine goesL_ (some 8) rfl rfl Try.func73 (by kernel_rfl) rfl #[.slice A0 l0.length c0] rfl (by (try simp only [zK, zL, zM]); first | done | rfl | (simp only [zN, zO]; rfl)) ?_; (with_reducible refine (spec_l00Own.calls _ _ l0 t113 _ ?side1 ?side2 A3.out).mono ?_); (case side1 => exact kV (yY HR0.out HB.out)); (case side2 => exact HC0.out); rintro e w5 ⟨v114, rfl, ho0, hb⟩; refine ⟨_, rfl, ?_⟩; have n0_ := yD (yZ ho0 (below_size (kB HB))); have n1_ := yD (zB (g := gb112) (o := .cells #[.int .i64 0, .slice none 0 0, .slice none 0 0, .slice none 0 0, .slice none 0 0, .slice none 0 0] 57 (0, 0)) (kM BK112) hb); have n2_ := yD (zC (kB HB) hb); clear BK112; clear HB; have HO115 := n0_; have BK112 := n1_; have HB := n2_; clear n0_ n1_ n2_; (try clear hb); (try clear hb2); (try clear hk); (try clear hi); (try clear ho0); obtain ⟨Ao6, co6, eo6⟩ := Kd.R_slice HO115.out; subst eo6) | ((with_reducible refine gate_dst (N := 5) rfl ?_); (try (refine gate_guard (by rfl) ?_; dsimp only)); refine box_event ?hg (N := 5) ?hd (cs := #[.int .i64 0, .slice none 0 0, .slice none 0 0, .slice none 0 0, .slice none 0 0, .slice none 0 0]) (t := 57) ?hr ?_; (case hd => rfl); (case hg => rfl); (case hr => first | (go_simp; done) | (go_simp; rfl)); intro gb116 hg w7 hbox hb; have n0_ := yD (zE (kA HO115) hb); have n1_ := yD (zB (g := gb112) (o := .cells #[.int .i64 0, .slice none 0 0, .slice none 0 0, .slice none 0 0, .slice none 0 0, .slice none 0 0] 57 (0, 0)) (kM BK112) hb); have n2_ := yD (zC (kB HB) hb); have n3_ := yD (hbox); have n4_ := yD ((by rw [hg]; exact (below_size (kB HB)) : w.heap.size ≤ gb116)); have n5_ := yD ((by rw [hg]; exact (below_size (kB HB)) : w.heap.size ≤ gb116)); have n6_ := yD ((by rw [hg]; exact Nat.ne_of_lt (blk_lt (g := gb112) (o := .cells #[.int .i64 0, .slice none 0 0, .slice none 0 0, .slice none 0 0, .slice none 0 0, .slice none 0 0] 57 (0, 0)) (kM BK112)) : gb112 ≠ gb116)); have n7_ := yD ((by rw [hg]; exact Nat.ne_of_gt (blk_lt (g := gb112) (o := .cells #[.int .i64 0, .slice none 0 0, .slice none 0 0, .slice none 0 0, .slice none 0 0, .slice none 0 0] 57 (0, 0)) (kM BK112)) : gb116 ≠ gb112)); clear HO115; clear BK112; clear HB; have HO115 := n0_; have BK112 := n1_; have HB := n2_; have BK116 := n3_; have GW116 := n4_; have GE116 := n5_; have NB112_116 := n6_; have NB116_112 := n7_; clear n0_ n1_ n2_ n3_ n4_ n5_ n6_ n7_; clear hb hbox hg; have hnb8 := NB116_112.out; have hnc8 := NB112_116.out; obtain ⟨hcz9_0, hcz9_1, hcz9_2, hcz9_3, hcz9_4, hcz9_5⟩ := cz6 BK116.out; obtain ⟨hfz9_0, hfz9_1, hfz9_2, hfz9_3, hfz9_4, hfz9_5⟩ := fz6 BK116.out))
  go_loopg [6] k (fun kq v6 w' => ∃ (x6_1 : Int) (x117002_1 : List Int) (x117003_1 : List Int) (x117004_1 : List Int) (u117002 : Value) (u117003 : Value) (u117004 : Value), v6 = .int .i64 x6_1 ∧ Aside0 (spec_l06Range.l0 kq l0 l1 x6_1 3 t113 x117002_1 x117003_1 x117004_1 = some (r1, r2, r3, r4, r5, r6)) ∧ Aside0 (kq ≤ k) ∧ Aside0 (Kd.R (Kd.int .i64) 2 w' w.heap.size (fun k_ => some k_ ≠ (u117002 : Value).ownBlock ∧ some k_ ≠ (u117003 : Value).ownBlock ∧ some k_ ≠ (u117004 : Value).ownBlock) (.slice Ao6 t113.length co6) t113) ∧ Aside0 (Kd.R (Kd.int .i64) 2 w' w.heap.size (fun k_ => some k_ ≠ ((.slice Ao6 t113.length co6) : Value).ownBlock ∧ some k_ ≠ (u117003 : Value).ownBlock ∧ some k_ ≠ (u117004 : Value).ownBlock) u117002 x117002_1) ∧ Aside0 (Kd.R (Kd.int .i64) 2 w' w.heap.size (fun k_ => some k_ ≠ ((.slice Ao6 t113.length co6) : Value).ownBlock ∧ some k_ ≠ (u117002 : Value).ownBlock ∧ some k_ ≠ (u117004 : Value).ownBlock) u117003 x117003_1) ∧ Aside0 (Kd.R (Kd.int .i64) 2 w' w.heap.size (fun k_ => some k_ ≠ ((.slice Ao6 t113.length co6) : Value).ownBlock ∧ some k_ ≠ (u117002 : Value).ownBlock ∧ some k_ ≠ (u117003 : Value).ownBlock) u117004 x117004_1) ∧ Aside0 (w'.heap[gb112]? = some (.cells #[.int .i64 0, (.slice none 0 0), (.slice none 0 0), (.slice none 0 0), (.slice none 0 0), (.slice none 0 0)] 57 (0, 0))) ∧ Aside0 (w'.heap[gb116]? = some (.cells #[.int .i64 3, (.slice Ao6 t113.length co6), u117002, u117003, u117004, (.slice none 0 0)] 57 (0, 0))) ∧ Aside0 (Below w.heap.size w w'))
  case atStart => exact ⟨(0), (([] : List Int)), (([] : List Int)), (([] : List Int)), (.slice none 0 0), (.slice none 0 0), (.slice none 0 0), (by first | rfl | (simp; done) | (simp [*]; done)), H', ⟨Nat.le_refl _⟩, ⟨by (with_reducible repeat (first | apply yA | apply yB | apply yC)); exact zF (yF (p := ⟨gb116, 5, none⟩) (yF (p := ⟨gb116, 4, none⟩) (yF (p := ⟨gb116, 3, none⟩) (yF (p := ⟨gb116, 2, none⟩) (yF (p := ⟨gb116, 1, none⟩) (yF (p := ⟨gb116, 0, none⟩) (Kd.R_types HO115.out BK116.out (by decide)) (fun _ hk => hk.2) (.int .i64 3)) (fun _ hk => hk.2) (.slice Ao6 t113.length co6)) (fun _ hk => hk.2) (.slice none 0 0)) (fun _ hk => hk.2) (.slice none 0 0)) (fun _ hk => hk.2) (.slice none 0 0)) (fun _ hk => hk.2) (.slice none 0 0)) (fun _ hk => ⟨(by simp [Value.ownBlock]), ⟨(by simp [Value.ownBlock]), (by simp [Value.ownBlock])⟩⟩)⟩, ⟨by first | exact Kd.R_nil _ _ _ _ _ | exact Kd.N_nil _ _ _ _ _ | exact Kd.V_nil _ _ _ _ _ | exact Kd.Q_nil _ _ _ _ _ | exact Kd.S_nil _ _ _ _ _⟩, ⟨by first | exact Kd.R_nil _ _ _ _ _ | exact Kd.N_nil _ _ _ _ _ | exact Kd.V_nil _ _ _ _ _ | exact Kd.Q_nil _ _ _ _ _ | exact Kd.S_nil _ _ _ _ _⟩, ⟨by first | exact Kd.R_nil _ _ _ _ _ | exact Kd.N_nil _ _ _ _ _ | exact Kd.V_nil _ _ _ _ _ | exact Kd.Q_nil _ _ _ _ _ | exact Kd.S_nil _ _ _ _ _⟩, ⟨by (with_reducible repeat (first | refine yM ?_ _ | refine yO ?_ | refine yN ?_ _)); refine blk_far ?_ NB112_116.out _; (with_reducible repeat (first | refine yM ?_ _ | refine yO ?_ | refine yN ?_ _)); refine blk_far ?_ NB112_116.out _; (with_reducible repeat (first | refine yM ?_ _ | refine yO ?_ | refine yN ?_ _)); refine blk_far ?_ NB112_116.out _; (with_reducible repeat (first | refine yM ?_ _ | refine yO ?_ | refine yN ?_ _)); refine blk_far ?_ NB112_116.out _; (with_reducible repeat (first | refine yM ?_ _ | refine yO ?_ | refine yN ?_ _)); refine blk_far ?_ NB112_116.out _; (with_reducible repeat (first | refine yM ?_ _ | refine yO ?_ | refine yN ?_ _)); refine blk_far ?_ NB112_116.out _; (with_reducible repeat (first | refine yM ?_ _ | refine yO ?_ | refine yN ?_ _)); exact BK112.out⟩, ⟨by (with_reducible repeat (first | refine yM ?_ _ | refine yO ?_ | refine yN ?_ _)); refine blk_put (cs := #[.int .i64 3, .slice Ao6 t113.length co6, .slice none 0 0, .slice none 0 0, .slice none 0 0, .slice none 0 0]) ?_ 5 _ rfl; (with_reducible repeat (first | refine yM ?_ _ | refine yO ?_ | refine yN ?_ _)); refine blk_put (cs := #[.int .i64 3, .slice Ao6 t113.length co6, .slice none 0 0, .slice none 0 0, .slice none 0 0, .slice none 0 0]) ?_ 4 _ rfl; (with_reducible repeat (first | refine yM ?_ _ | refine yO ?_ | refine yN ?_ _)); refine blk_put (cs := #[.int .i64 3, .slice Ao6 t113.length co6, .slice none 0 0, .slice none 0 0, .slice none 0 0, .slice none 0 0]) ?_ 3 _ rfl; (with_reducible repeat (first | refine yM ?_ _ | refine yO ?_ | refine yN ?_ _)); refine blk_put (cs := #[.int .i64 3, .slice Ao6 t113.length co6, .slice none 0 0, .slice none 0 0, .slice none 0 0, .slice none 0 0]) ?_ 2 _ rfl; (with_reducible repeat (first | refine yM ?_ _ | refine yO ?_ | refine yN ?_ _)); refine blk_put (cs := #[.int .i64 3, .slice none 0 0, .slice none 0 0, .slice none 0 0, .slice none 0 0, .slice none 0 0]) ?_ 1 _ rfl; (with_reducible repeat (first | refine yM ?_ _ | refine yO ?_ | refine yN ?_ _)); refine blk_put (cs := #[.int .i64 0, .slice none 0 0, .slice none 0 0, .slice none 0 0, .slice none 0 0, .slice none 0 0]) ?_ 0 _ rfl; (with_reducible repeat (first | refine yM ?_ _ | refine yO ?_ | refine yN ?_ _)); exact BK116.out⟩, ⟨by repeat (first | (with_reducible first | exact HB.out | apply yQ | apply yL | apply yP | refine yE ?_ GE112.out | refine yE ?_ GE116.out) | exact HB.out)⟩⟩
  case round =>
    clear H'
    try clear c1; try clear p2; try clear c7; try clear c8; try clear hcz9_0; try clear hcz9_1; try clear hcz9_2; try clear hcz9_3; try clear hcz9_4; try clear hcz9_5; try clear hfz9_0; try clear hfz9_1; try clear hfz9_2; try clear hfz9_3; try clear hfz9_4; try clear hfz9_5
    obtain ⟨x6_1, x117002_1, x117003_1, x117004_1, u117002, u117003, u117004, rfl, HA, HK1, HO_117001, HO_117002, HO_117003, HO_117004, BK112, BK116, HB⟩ := hrel
    cases gk with
    | zero => exact absurd HA.out (by simp [spec_l06Range.l0])
    | succ k1 =>
      have H := HA.out; clear HA
      simp only [spec_l06Range.l0] at H
      by_cases c10 : x6_1 < (l0.length : Int)
      · rw [if_pos c10] at H
        have c10b0 : decide (x6_1 < (l0.length : Int)) = true := zR c10; clear c10
        by_cases c11 : x6_1 < (l1.length : Int)
        · rw [if_pos c11] at H
          have c11b0 : decide (x6_1 < (l1.length : Int)) = true := zR c11; clear c11
          by_cases c12 : 0 ≤ x6_1
          · rw [if_pos c12] at H
            have c12b0 : decide (0 ≤ x6_1) = true := zR c12; clear c12
            by_cases c13 : x117002_1.length < 17592186044416
            · rw [if_pos c13] at H
              have LMc13 := yD c13
              clear c13
              obtain ⟨y119, hy119⟩ : ∃ y_ : List Int, y_ = (x117002_1 ++ [wrap64 ((rd l1 x6_1) - (rd l0 x6_1))]) := ⟨_, rfl⟩
              replace H : (if x117003_1.length < 17592186044416 then (if x117004_1.length < 17592186044416 then (spec_l06Range.l0 k1 l0 l1 (wrap64 (x6_1 + 1)) 3 t113 y119 (x117003_1 ++ [1]) (x117004_1 ++ [wrap64 ((rd l1 x6_1) - (rd l0 x6_1))])) else (none)) else (none)) = some (r1, r2, r3, r4, r5, r6) := by first | (rw [hy119]; with_reducible exact H) | (have H2_ := (Option.bind_some _ _).symm.trans H; rw [hy119]; with_reducible exact H2_) | (have H2_ := (Option.bind_some _ _).symm.trans H; with_reducible exact H2_) | with_reducible exact H | (rw [hy119]; exact H) | exact H
              have Ny119 := yD hy119
              clear hy119
              by_cases c14 : x117003_1.length < 17592186044416
              · rw [if_pos c14] at H
                have LMc14 := yD c14
                clear c14
                obtain ⟨y122, hy122⟩ : ∃ y_ : List Int, y_ = (x117003_1 ++ [1]) := ⟨_, rfl⟩
                replace H : (if x117004_1.length < 17592186044416 then (spec_l06Range.l0 k1 l0 l1 (wrap64 (x6_1 + 1)) 3 t113 y119 y122 (x117004_1 ++ [wrap64 ((rd l1 x6_1) - (rd l0 x6_1))])) else (none)) = some (r1, r2, r3, r4, r5, r6) := by first | (rw [hy122]; with_reducible exact H) | (have H2_ := (Option.bind_some _ _).symm.trans H; rw [hy122]; with_reducible exact H2_) | (have H2_ := (Option.bind_some _ _).symm.trans H; with_reducible exact H2_) | with_reducible exact H | (rw [hy122]; exact H) | exact H
                have Ny122 := yD hy122
                clear hy122
                by_cases c15 : x117004_1.length < 17592186044416
                · rw [if_pos c15] at H
                  have LMc15 := yD c15
                  clear c15
                  obtain ⟨y127, hy127⟩ : ∃ y_ : List Int, y_ = (x117004_1 ++ [wrap64 ((rd l1 x6_1) - (rd l0 x6_1))]) := ⟨_, rfl⟩
                  replace H : (spec_l06Range.l0 k1 l0 l1 (wrap64 (x6_1 + 1)) 3 t113 y119 y122 y127) = some (r1, r2, r3, r4, r5, r6) := by first | (rw [hy127]; with_reducible exact H) | (have H2_ := (Option.bind_some _ _).symm.trans H; rw [hy127]; with_reducible exact H2_) | (have H2_ := (Option.bind_some _ _).symm.trans H; with_reducible exact H2_) | with_reducible exact H | (rw [hy127]; exact H) | exact H
                  have Ny127 := yD hy127
                  clear hy127
                  have H' := yD H
                  clear H
                  try go_wp2
                  have n0_ := yD (yC HO_117001.out)
                  have n1_ := yD (yC HO_117002.out)
                  have n2_ := yD (yC HO_117003.out)
                  have n3_ := yD (yC HO_117004.out)
                  have n4_ := yD (yO BK112.out)
                  have n5_ := yD (yO BK116.out)
                  have n6_ := yD (yP HB.out)
                  clear HO_117001 HO_117002 HO_117003 HO_117004 BK112 BK116 HB; have HO_117001 := n0_; have HO_117002 := n1_; have HO_117003 := n2_; have HO_117004 := n3_; have BK112 := n4_; have BK116 := n5_; have HB := n6_; clear n0_ n1_ n2_ n3_ n4_ n5_ n6_
                  have p117 : 0 ≤ (x6_1 : Int) := zP (by assumption)
                  have q117 : x6_1 < (l1.length : Int) := zP (by assumption)
                  obtain ⟨ad117, e117, hx117_0⟩ := Kd.at_int HR1.out x6_1 p117 q117
                  have hw117_0 := hx117_0; cases e117
                  replace hx117_0 := (HB.out.cell (zQ w _ hx117_0)).trans hx117_0
                  replace p117 := eq_true p117; replace q117 := eq_true q117
                  have p118 : 0 ≤ (x6_1 : Int) := zP (by assumption)
                  have q118 : x6_1 < (l0.length : Int) := zP (by assumption)
                  obtain ⟨ad118, e118, hx118_0⟩ := Kd.at_int HR0.out x6_1 p118 q118
                  have hw118_0 := hx118_0; cases e118
                  replace hx118_0 := (HB.out.cell (zQ w _ hx118_0)).trans hx118_0
                  replace p118 := eq_true p118; replace q118 := eq_true q118
                  refine start_ (n := 15) (S := fun w' => w'.cell? ⟨gb116, 0, none⟩ = some (.int .i64 3) ∧ w'.cell? ⟨gb116, 1, none⟩ = some (.slice Ao6 t113.length co6) ∧ w'.cell? ⟨gb116, 2, none⟩ = some (u117002) ∧ w'.cell? ⟨gb116, 3, none⟩ = some (u117003) ∧ w'.cell? ⟨gb116, 4, none⟩ = some (u117004) ∧ w'.cell? ⟨gb116, 5, none⟩ = some (.slice none 0 0) ∧ w'.cell? (ad117.add (x6_1).toNat) = some (.int .i64 (rd l1 x6_1)) ∧ w'.cell? (ad118.add (x6_1).toNat) = some (.int .i64 (rd l0 x6_1))) (ds := [14]) (bz 15 0) (by kernel_rfl) rfl rfl ⟨(yG BK116.out 0).trans rfl, (yG BK116.out 1).trans rfl, (yG BK116.out 2).trans rfl, (yG BK116.out 3).trans rfl, (yG BK116.out 4).trans rfl, (yG BK116.out 5).trans rfl, ((HB.out.cell (zQ w _ hw117_0)).trans hw117_0), ((HB.out.cell (zQ w _ hw118_0)).trans hw118_0)⟩ (fun hHeld => ?_); refine with_tabW spec_l06Range.tab5 spec_l06Range.bits5 (fun HT_ HW_ => ?_)
                  generalize wr.drew = w16 at HO_117001 HO_117002 HO_117003 HO_117004 BK112 BK116 HB hx117_0 hx118_0 hHeld ⊢
                  refine qA 0 22 (bz 15 1) HT_ ?_
                  refine qA 2 24 (bz 15 5) HT_ ?_
                  refine qA 3 25 (bz 15 13) HT_ ?_
                  refine qA 4 26 (bz 15 29) HT_ ?_
                  refine qA 6 28 (bz 15 93) HT_ ?_
                  refine qA 7 29 (bz 15 221) HT_ ?_
                  refine qA 8 30 (bz 15 477) HT_ ?_
                  refine qC 1 23 (bz 15 479) HT_ HW_ hHeld ?_ (hy := by rintro w' ⟨s0, s1, s2, s3, s4, s5, s6, s7⟩; go_simp; with_reducible rfl)
                  refine qC 5 27 (bz 15 511) HT_ HW_ hHeld ?_ (hy := by rintro w' ⟨s0, s1, s2, s3, s4, s5, s6, s7⟩; go_simp; with_reducible rfl)
                  refine qC 9 31 (bz 15 1023) HT_ HW_ hHeld ?_ (hy := by rintro w' ⟨s0, s1, s2, s3, s4, s5, s6, s7⟩; go_simp; with_reducible rfl)
                  refine qA 10 32 (bz 15 2047) HT_ ?_
                  refine one_ (i := 11) (N := some 33) (bz 15 4095) rfl rfl (one_of HT_.out (by kernel_rfl)) (by decide) (fun K hK => ?_)
                  refine value_ (w1 := ?_) (v := ?_) (by rfl) rfl ?_ ?_
                  rotate_left 2
                  · go_simp
                    constructor
                    · rfl
                    · rfl
                  refine hK.out _ _ ⟨(yG (yN BK116.out _) 0).trans rfl, (yG (yN BK116.out _) 1).trans rfl, (yG (yN BK116.out _) 2).trans rfl, (yG (yN BK116.out _) 3).trans rfl, (yG (yN BK116.out _) 4).trans rfl, (yG (yN BK116.out _) 5).trans rfl, (World.cell?_alloc_lt _ _ _ (zQ _ _ (((HB.out.cell (zQ w _ hw117_0)).trans hw117_0)))).trans (((HB.out.cell (zQ w _ hw117_0)).trans hw117_0)), (World.cell?_alloc_lt _ _ _ (zQ _ _ (((HB.out.cell (zQ w _ hw118_0)).trans hw118_0)))).trans (((HB.out.cell (zQ w _ hw118_0)).trans hw118_0))⟩ (fun hHeld => ?_)
                  clear hK K
                  refine norm_ (a' := ?_) ?_ ?_
                  rotate_left
                  · show Act.put _ (some 33) _ = _
                    simp only [Act.put, zH, zI, zJ, i64_w, i32_w]
                    rfl
                  refine one_ (i := 12) (N := some 34) (bz 15 8191) rfl rfl (one_of HT_.out (by kernel_rfl)) (by decide) (fun K hK => ?_)
                  refine Kd.R_append_step (Kd.int .i64) (w0 := w) w.heap.size (by rfl) (.tmp 23) (.tmp 33) 27 2 (.int .i64 0) 8 rfl Try.underlying27 info2 rfl (by decide) (by omega) u117002 x117002_1 (wrap64 ((rd l1 x6_1) - (rd l0 x6_1))) [.int .i64 (wrap64 ((rd l1 x6_1) - (rd l0 x6_1)))] (fun k_ => some k_ ≠ (.slice Ao6 t113.length co6 : Value).ownBlock ∧ some k_ ≠ (u117003 : Value).ownBlock ∧ some k_ ≠ (u117004 : Value).ownBlock) (fun _ => False) rfl rfl ?aP (fun _ hk => hk.elim) ?aF ?aO ?aB ?aS ?aL ?_
                  (case aP => exact rfl)
                  (case aB => exact (kB HB))
                  (case aF => exact (fun k_ hk => ⟨Kd.fresh' (yK (kA HO_117001)) k_ hk, Kd.fresh' (yK (kA HO_117003)) k_ hk, Kd.fresh' (yK (kA HO_117004)) k_ hk⟩))
                  (case aO => exact (kA HO_117002))
                  (case aS => exact (below_size (kB HB)))
                  (case aL => have := LMc13.out; omega)
                  intro v120 w17 ho hb hg hat
                  rw [← Ny119.out] at ho
                  have n0_ := yD (Kd.R_after (ok := (fun k_ => some k_ ≠ (u117003 : Value).ownBlock ∧ some k_ ≠ (u117004 : Value).ownBlock)) (by (with_reducible repeat (first | apply yA | apply yB | apply yC)); exact zF HO_117001.out (fun _ hk => ⟨⟨hk.2.1, hk.2.2⟩, hk.1⟩)) hg hat)
                  have n1_ := yD (Kd.R_after (ok := (fun k_ => some k_ ≠ (.slice Ao6 t113.length co6 : Value).ownBlock ∧ some k_ ≠ (u117004 : Value).ownBlock)) (by (with_reducible repeat (first | apply yA | apply yB | apply yC)); exact zF HO_117003.out (fun _ hk => ⟨⟨hk.1, hk.2.2⟩, hk.2.1⟩)) hg hat)
                  have n2_ := yD (Kd.R_after (ok := (fun k_ => some k_ ≠ (.slice Ao6 t113.length co6 : Value).ownBlock ∧ some k_ ≠ (u117003 : Value).ownBlock)) (by (with_reducible repeat (first | apply yA | apply yB | apply yC)); exact zF HO_117004.out (fun _ hk => ⟨⟨hk.1, hk.2.2⟩, hk.2.1⟩)) hg hat)
                  have n3_ := yD (blk_grown (g := gb112) (o := .cells #[.int .i64 0, .slice none 0 0, .slice none 0 0, .slice none 0 0, .slice none 0 0, .slice none 0 0] 57 (0, 0)) (kM BK112) hg (Kd.R_ne HO_117002.out BK112.out (by decide)))
                  have n4_ := yD (blk_grown (g := gb116) (o := .cells #[.int .i64 3, .slice Ao6 t113.length co6, u117002, u117003, u117004, .slice none 0 0] 57 (0, 0)) (kM BK116) hg (Kd.R_ne HO_117002.out BK116.out (by decide)))
                  have n5_ := yD (hb)
                  have n6_ := yD (ho)
                  clear HO_117001 HO_117003 HO_117004 BK112 BK116 HB HO_117002; have HO_117001 := n0_; have HO_117003 := n1_; have HO_117004 := n2_; have BK112 := n3_; have BK116 := n4_; have HB := n5_; have HO121 := n6_; clear n0_ n1_ n2_ n3_ n4_ n5_ n6_ ho hb hg hat
                  obtain ⟨Ao18, co18, eo18⟩ := Kd.R_slice HO121.out
                  (first | subst eo18 | (injection eo18 with f1_ f2_ f3_; have f4_ := f1_.symm; have f5_ := f3_.symm; clear f1_ f2_ f3_; subst f4_; subst f5_))
                  refine hK.out _ _ ⟨(yG BK116.out 0).trans rfl, (yG BK116.out 1).trans rfl, (yG BK116.out 2).trans rfl, (yG BK116.out 3).trans rfl, (yG BK116.out 4).trans rfl, (yG BK116.out 5).trans rfl, ((HB.out.cell (zQ w _ hw117_0)).trans hw117_0), ((HB.out.cell (zQ w _ hw118_0)).trans hw118_0)⟩ (fun hHeld => ?_)
                  clear hK K
                  refine norm_ (a' := ?_) ?_ ?_
                  rotate_left
                  · show Act.put _ (some 34) _ = _
                    simp only [Act.put, zH, zI, zJ, i64_w, i32_w]
                    rfl
                  refine qA 13 35 (bz 15 16383) HT_ ?_
                  refine last_ (i := 14) (N := none) #[true, true, true, true, true, true, true, true, true, true, true, true, true, true, true] rfl rfl (one_of HT_.out (by kernel_rfl)) (by decide) (fun K hK => ?_)
                  have hs19 : w17.cell? ⟨gb116, 2, none⟩ = some (u117002) := (yG BK116.out 2).trans rfl
                  have hfs19 := yR BK116.out 2
                  have hns19_0 := NB112_116.out; have hms19_0 := NB116_112.out
                  refine skip_ (w1 := ?_) (by rfl) rfl ?_ ?_
                  rotate_left
                  · go_simp
                    rfl
                  refine hK.out _ _ ?_
                  clear hK K
                  refine done_ (done_of HT_.out (by kernel_rfl)) ?_
                  have hnb20 := NB116_112.out; have hnc20 := NB112_116.out
                  obtain ⟨hcz21_0, hcz21_1, hcz21_2, hcz21_3, hcz21_4, hcz21_5⟩ := cz6 BK116.out
                  obtain ⟨hfz21_0, hfz21_1, hfz21_2, hfz21_3, hfz21_4, hfz21_5⟩ := fz6 BK116.out
                  try go_wp2_with (first | ((with_reducible refine gate_builtin (b := .append) (xs := #[.tmp 37, .tmp 38]) rfl ?_); (try (refine gate_guard (by rfl) ?_; dsimp only)); at_builtin; refine Kd.R_append (Kd.int .i64) (w0 := w) w.heap.size rfl (.tmp 37) (.tmp 38) 27 2 (.int .i64 0) 8 rfl Try.underlying27 info2 rfl (by decide) (by omega) u117003 x117003_1 1 [.int .i64 1] (fun k_ => some k_ ≠ (.slice Ao6 t113.length co6 : Value).ownBlock ∧ some k_ ≠ (u117004 : Value).ownBlock ∧ some k_ ≠ (.slice Ao18 y119.length co18 : Value).ownBlock) (fun _ => False) rfl (by first | (go_simp; done) | (go_simp; rfl)) ?aP (fun _ hk => hk.elim) ?aF ?aO ?aB ?aS ?aL ?_; (case aP => exact rfl); (case aB => exact (kB HB)); (case aF => exact (fun k_ hk => ⟨Kd.fresh' (yK (by (with_reducible repeat (first | apply yA | apply yB | apply yC)); exact (zF (yF (p := ⟨gb116, 2, none⟩) (Kd.R_types HO_117001.out BK116.out (by decide)) (fun _ hk => hk.2) (.slice Ao18 y119.length co18)) (fun _ h_ => h_.1)))) k_ hk, Kd.fresh' (yK (by (with_reducible repeat (first | apply yA | apply yB | apply yC)); exact (zF (yF (p := ⟨gb116, 2, none⟩) (Kd.R_types HO_117004.out BK116.out (by decide)) (fun _ hk => hk.2) (.slice Ao18 y119.length co18)) (fun _ h_ => h_.1)))) k_ hk, Kd.fresh' (yK (by (with_reducible repeat (first | apply yA | apply yB | apply yC)); exact (zF (yF (p := ⟨gb116, 2, none⟩) (Kd.R_types HO121.out BK116.out (by decide)) (fun _ hk => hk.2) (.slice Ao18 y119.length co18)) (fun _ h_ => h_.1)))) k_ hk⟩)); (case aO => exact (by (with_reducible repeat (first | apply yA | apply yB | apply yC)); exact zF (yF (p := ⟨gb116, 2, none⟩) (Kd.R_types HO_117003.out BK116.out (by decide)) (fun _ hk => hk.2) (.slice Ao18 y119.length co18)) (fun _ hk => ⟨hk.1.1.1, ⟨hk.1.1.2, hk.1.2⟩⟩))); (case aS => exact (below_size (kB HB))); (case aL => have := LMc14.out; omega); intro v123 w22 ho hb hg hat; rw [← Ny122.out] at ho; have n0_ := yD (Kd.R_after (ok := (fun k_ => some k_ ≠ (u117004 : Value).ownBlock ∧ some k_ ≠ (.slice Ao18 y119.length co18 : Value).ownBlock)) (by (with_reducible repeat (first | apply yA | apply yB | apply yC)); exact zF (yF (p := ⟨gb116, 2, none⟩) (Kd.R_types HO_117001.out BK116.out (by decide)) (fun _ hk => hk.2) (.slice Ao18 y119.length co18)) (fun _ hk => ⟨⟨hk.1.1.2, hk.1.2⟩, hk.1.1.1⟩)) hg hat); have n1_ := yD (Kd.R_after (ok := (fun k_ => some k_ ≠ (.slice Ao6 t113.length co6 : Value).ownBlock ∧ some k_ ≠ (.slice Ao18 y119.length co18 : Value).ownBlock)) (by (with_reducible repeat (first | apply yA | apply yB | apply yC)); exact zF (yF (p := ⟨gb116, 2, none⟩) (Kd.R_types HO_117004.out BK116.out (by decide)) (fun _ hk => hk.2) (.slice Ao18 y119.length co18)) (fun _ hk => ⟨⟨hk.1.1.1, hk.1.2⟩, hk.1.1.2⟩)) hg hat); have n2_ := yD (blk_grown (g := gb112) (o := .cells #[.int .i64 0, .slice none 0 0, .slice none 0 0, .slice none 0 0, .slice none 0 0, .slice none 0 0] 57 (0, 0)) (by (with_reducible repeat (first | refine yM ?_ _ | refine yO ?_ | refine yN ?_ _)); refine blk_far ?_ NB112_116.out _; (with_reducible repeat (first | refine yM ?_ _ | refine yO ?_ | refine yN ?_ _)); exact BK112.out) hg (Kd.R_ne HO_117003.out BK112.out (by decide))); have n3_ := yD (blk_grown (g := gb116) (o := .cells #[.int .i64 3, .slice Ao6 t113.length co6, .slice Ao18 y119.length co18, u117003, u117004, .slice none 0 0] 57 (0, 0)) (by (with_reducible repeat (first | refine yM ?_ _ | refine yO ?_ | refine yN ?_ _)); refine blk_put (cs := #[.int .i64 3, .slice Ao6 t113.length co6, u117002, u117003, u117004, .slice none 0 0]) ?_ 2 _ rfl; (with_reducible repeat (first | refine yM ?_ _ | refine yO ?_ | refine yN ?_ _)); exact BK116.out) hg (Kd.R_ne HO_117003.out BK116.out (by decide))); have n4_ := yD (Kd.R_after (ok := (fun k_ => some k_ ≠ (.slice Ao6 t113.length co6 : Value).ownBlock ∧ some k_ ≠ (u117004 : Value).ownBlock)) (by (with_reducible repeat (first | apply yA | apply yB | apply yC)); exact zF (yF (p := ⟨gb116, 2, none⟩) (Kd.R_types HO121.out BK116.out (by decide)) (fun _ hk => hk.2) (.slice Ao18 y119.length co18)) (fun _ hk => ⟨⟨hk.1.1, hk.1.2.2⟩, hk.1.2.1⟩)) hg hat); have n5_ := yD (hb); have n6_ := yD (ho); clear HO_117001; clear HO_117004; clear BK112; clear BK116; clear HO121; clear HB; clear HO_117003; have HO_117001 := n0_; have HO_117004 := n1_; have BK112 := n2_; have BK116 := n3_; have HO121 := n4_; have HB := n5_; have HO124 := n6_; clear n0_ n1_ n2_ n3_ n4_ n5_ n6_; clear ho hb hg hat; obtain ⟨Ao23, co23, eo23⟩ := Kd.R_slice HO124.out; subst eo23; obtain ⟨hcz24_0, hcz24_1, hcz24_2, hcz24_3, hcz24_4, hcz24_5⟩ := cz6 BK116.out; obtain ⟨hfz24_0, hfz24_1, hfz24_2, hfz24_3, hfz24_4, hfz24_5⟩ := fz6 BK116.out))
                  have n0_ : Aside0 (Kd.R (Kd.int .i64) 2 (w22.setCell ⟨gb116, 3, none⟩ (.slice Ao23 y122.length co23)) w.heap.size (fun k_ => some k_ ≠ (u117004 : Value).ownBlock ∧ some k_ ≠ (.slice Ao18 y119.length co18 : Value).ownBlock ∧ some k_ ≠ (.slice Ao23 y122.length co23 : Value).ownBlock) (.slice Ao6 t113.length co6) t113) := ⟨by (with_reducible repeat (first | apply yA | apply yB | apply yC)); exact zF (yF (p := ⟨gb116, 3, none⟩) (Kd.R_types HO_117001.out BK116.out (by decide)) (fun _ hk => hk.2) (.slice Ao23 y122.length co23)) (fun _ hk => ⟨hk.1.1.1, ⟨hk.1.1.2, hk.1.2⟩⟩)⟩
                  have n1_ : Aside0 (Kd.R (Kd.int .i64) 2 (w22.setCell ⟨gb116, 3, none⟩ (.slice Ao23 y122.length co23)) w.heap.size (fun k_ => some k_ ≠ (.slice Ao6 t113.length co6 : Value).ownBlock ∧ some k_ ≠ (.slice Ao18 y119.length co18 : Value).ownBlock ∧ some k_ ≠ (.slice Ao23 y122.length co23 : Value).ownBlock) u117004 x117004_1) := ⟨by (with_reducible repeat (first | apply yA | apply yB | apply yC)); exact zF (yF (p := ⟨gb116, 3, none⟩) (Kd.R_types HO_117004.out BK116.out (by decide)) (fun _ hk => hk.2) (.slice Ao23 y122.length co23)) (fun _ hk => ⟨hk.1.1.1, ⟨hk.1.1.2, hk.1.2⟩⟩)⟩
                  have n2_ : Aside0 (Kd.R (Kd.int .i64) 2 (w22.setCell ⟨gb116, 3, none⟩ (.slice Ao23 y122.length co23)) w.heap.size (fun k_ => some k_ ≠ (.slice Ao6 t113.length co6 : Value).ownBlock ∧ some k_ ≠ (u117004 : Value).ownBlock ∧ some k_ ≠ (.slice Ao23 y122.length co23 : Value).ownBlock) (.slice Ao18 y119.length co18) y119) := ⟨by (with_reducible repeat (first | apply yA | apply yB | apply yC)); exact zF (yF (p := ⟨gb116, 3, none⟩) (Kd.R_types HO121.out BK116.out (by decide)) (fun _ hk => hk.2) (.slice Ao23 y122.length co23)) (fun _ hk => ⟨hk.1.1.1, ⟨hk.1.1.2, hk.1.2⟩⟩)⟩
                  have n3_ : Aside0 (Kd.R (Kd.int .i64) 2 (w22.setCell ⟨gb116, 3, none⟩ (.slice Ao23 y122.length co23)) w.heap.size (fun k_ => some k_ ≠ (.slice Ao6 t113.length co6 : Value).ownBlock ∧ some k_ ≠ (u117004 : Value).ownBlock ∧ some k_ ≠ (.slice Ao18 y119.length co18 : Value).ownBlock) (.slice Ao23 y122.length co23) y122) := ⟨by (with_reducible repeat (first | apply yA | apply yB | apply yC)); exact zF (yF (p := ⟨gb116, 3, none⟩) (Kd.R_types HO124.out BK116.out (by decide)) (fun _ hk => hk.2) (.slice Ao23 y122.length co23)) (fun _ hk => ⟨hk.1.1, ⟨hk.1.2.1, hk.1.2.2⟩⟩)⟩
                  have n4_ : Aside0 ((w22.setCell ⟨gb116, 3, none⟩ (.slice Ao23 y122.length co23)).heap[gb112]? = some (.cells #[.int .i64 0, .slice none 0 0, .slice none 0 0, .slice none 0 0, .slice none 0 0, .slice none 0 0] 57 (0, 0))) := ⟨by (with_reducible repeat (first | refine yM ?_ _ | refine yO ?_ | refine yN ?_ _)); refine blk_far ?_ NB112_116.out _; (with_reducible repeat (first | refine yM ?_ _ | refine yO ?_ | refine yN ?_ _)); exact BK112.out⟩
                  have n5_ : Aside0 ((w22.setCell ⟨gb116, 3, none⟩ (.slice Ao23 y122.length co23)).heap[gb116]? = some (.cells #[.int .i64 3, .slice Ao6 t113.length co6, .slice Ao18 y119.length co18, .slice Ao23 y122.length co23, u117004, .slice none 0 0] 57 (0, 0))) := ⟨by (with_reducible repeat (first | refine yM ?_ _ | refine yO ?_ | refine yN ?_ _)); refine blk_put (cs := #[.int .i64 3, .slice Ao6 t113.length co6, .slice Ao18 y119.length co18, u117003, u117004, .slice none 0 0]) ?_ 3 _ rfl; (with_reducible repeat (first | refine yM ?_ _ | refine yO ?_ | refine yN ?_ _)); exact BK116.out⟩
                  have n6_ : Aside0 (Below w.heap.size w (w22.setCell ⟨gb116, 3, none⟩ (.slice Ao23 y122.length co23))) := ⟨by repeat (first | (with_reducible first | exact HB.out | apply yQ | apply yL | apply yP | refine yE ?_ GE112.out | refine yE ?_ GE116.out) | exact HB.out)⟩
                  (try clear HO_117001); (try clear HO_117004); (try clear HO121); (try clear HO124); (try clear BK112); (try clear BK116); (try clear HB)
                  generalize (w22.setCell ⟨gb116, 3, none⟩ (.slice Ao23 y122.length co23)) = w25 at n0_ n1_ n2_ n3_ n4_ n5_ n6_ ⊢
                  have HO_117001 := n0_; have HO_117004 := n1_; have HO121 := n2_; have HO124 := n3_; have BK112 := n4_; have BK116 := n5_; have HB := n6_; clear n0_ n1_ n2_ n3_ n4_ n5_ n6_
                  have n0_ := yD (yC HO_117001.out)
                  have n1_ := yD (yC HO_117004.out)
                  have n2_ := yD (yC HO121.out)
                  have n3_ := yD (yC HO124.out)
                  have n4_ := yD (yO BK112.out)
                  have n5_ := yD (yO BK116.out)
                  have n6_ := yD (yP HB.out)
                  clear HO_117001 HO_117004 HO121 HO124 BK112 BK116 HB; have HO_117001 := n0_; have HO_117004 := n1_; have HO121 := n2_; have HO124 := n3_; have BK112 := n4_; have BK116 := n5_; have HB := n6_; clear n0_ n1_ n2_ n3_ n4_ n5_ n6_
                  have p125 : 0 ≤ (x6_1 : Int) := zP (by assumption)
                  have q125 : x6_1 < (l1.length : Int) := zP (by assumption)
                  obtain ⟨ad125, e125, hx125_0⟩ := Kd.at_int HR1.out x6_1 p125 q125
                  have hw125_0 := hx125_0
                  obtain rfl : ad117 = ad125 := (by injection e125)
                  replace hx125_0 := (HB.out.cell (zQ w _ hx125_0)).trans hx125_0
                  replace p125 := eq_true p125; replace q125 := eq_true q125
                  have p126 : 0 ≤ (x6_1 : Int) := zP (by assumption)
                  have q126 : x6_1 < (l0.length : Int) := zP (by assumption)
                  obtain ⟨ad126, e126, hx126_0⟩ := Kd.at_int HR0.out x6_1 p126 q126
                  have hw126_0 := hx126_0
                  obtain rfl : ad118 = ad126 := (by injection e126)
                  replace hx126_0 := (HB.out.cell (zQ w _ hx126_0)).trans hx126_0
                  replace p126 := eq_true p126; replace q126 := eq_true q126
                  refine start_ (n := 15) (S := fun w' => w'.cell? ⟨gb116, 0, none⟩ = some (.int .i64 3) ∧ w'.cell? ⟨gb116, 1, none⟩ = some (.slice Ao6 t113.length co6) ∧ w'.cell? ⟨gb116, 2, none⟩ = some (.slice Ao18 y119.length co18) ∧ w'.cell? ⟨gb116, 3, none⟩ = some (.slice Ao23 y122.length co23) ∧ w'.cell? ⟨gb116, 4, none⟩ = some (u117004) ∧ w'.cell? ⟨gb116, 5, none⟩ = some (.slice none 0 0) ∧ w'.cell? (ad117.add (x6_1).toNat) = some (.int .i64 (rd l1 x6_1)) ∧ w'.cell? (ad118.add (x6_1).toNat) = some (.int .i64 (rd l0 x6_1))) (ds := [14]) (bz 15 0) (by kernel_rfl) rfl rfl ⟨(yG BK116.out 0).trans rfl, (yG BK116.out 1).trans rfl, (yG BK116.out 2).trans rfl, (yG BK116.out 3).trans rfl, (yG BK116.out 4).trans rfl, (yG BK116.out 5).trans rfl, ((HB.out.cell (zQ w _ hw125_0)).trans hw125_0), ((HB.out.cell (zQ w _ hw126_0)).trans hw126_0)⟩ (fun hHeld => ?_); refine with_tabW spec_l06Range.tab7 spec_l06Range.bits7 (fun HT_ HW_ => ?_)
                  generalize w25.drew = w26 at HO_117001 HO_117004 HO121 HO124 BK112 BK116 HB hx125_0 hx126_0 hHeld ⊢
                  refine qA 0 41 (bz 15 1) HT_ ?_
                  refine qA 2 43 (bz 15 5) HT_ ?_
                  refine qA 3 44 (bz 15 13) HT_ ?_
                  refine qA 4 45 (bz 15 29) HT_ ?_
                  refine qA 6 47 (bz 15 93) HT_ ?_
                  refine qA 7 48 (bz 15 221) HT_ ?_
                  refine qA 8 49 (bz 15 477) HT_ ?_
                  refine qC 1 42 (bz 15 479) HT_ HW_ hHeld ?_ (hy := by rintro w' ⟨s0, s1, s2, s3, s4, s5, s6, s7⟩; go_simp; with_reducible rfl)
                  refine qC 5 46 (bz 15 511) HT_ HW_ hHeld ?_ (hy := by rintro w' ⟨s0, s1, s2, s3, s4, s5, s6, s7⟩; go_simp; with_reducible rfl)
                  refine qC 9 50 (bz 15 1023) HT_ HW_ hHeld ?_ (hy := by rintro w' ⟨s0, s1, s2, s3, s4, s5, s6, s7⟩; go_simp; with_reducible rfl)
                  refine qA 10 51 (bz 15 2047) HT_ ?_
                  refine one_ (i := 11) (N := some 52) (bz 15 4095) rfl rfl (one_of HT_.out (by kernel_rfl)) (by decide) (fun K hK => ?_)
                  refine value_ (w1 := ?_) (v := ?_) (by rfl) rfl ?_ ?_
                  rotate_left 2
                  · go_simp
                    constructor
                    · rfl
                    · rfl
                  refine hK.out _ _ ⟨(yG (yN BK116.out _) 0).trans rfl, (yG (yN BK116.out _) 1).trans rfl, (yG (yN BK116.out _) 2).trans rfl, (yG (yN BK116.out _) 3).trans rfl, (yG (yN BK116.out _) 4).trans rfl, (yG (yN BK116.out _) 5).trans rfl, (World.cell?_alloc_lt _ _ _ (zQ _ _ (((HB.out.cell (zQ w _ hw125_0)).trans hw125_0)))).trans (((HB.out.cell (zQ w _ hw125_0)).trans hw125_0)), (World.cell?_alloc_lt _ _ _ (zQ _ _ (((HB.out.cell (zQ w _ hw126_0)).trans hw126_0)))).trans (((HB.out.cell (zQ w _ hw126_0)).trans hw126_0))⟩ (fun hHeld => ?_)
                  clear hK K
                  refine norm_ (a' := ?_) ?_ ?_
                  rotate_left
                  · show Act.put _ (some 52) _ = _
                    simp only [Act.put, zH, zI, zJ, i64_w, i32_w]
                    rfl
                  refine one_ (i := 12) (N := some 53) (bz 15 8191) rfl rfl (one_of HT_.out (by kernel_rfl)) (by decide) (fun K hK => ?_)
                  refine Kd.R_append_step (Kd.int .i64) (w0 := w) w.heap.size (by rfl) (.tmp 42) (.tmp 52) 27 2 (.int .i64 0) 8 rfl Try.underlying27 info2 rfl (by decide) (by omega) u117004 x117004_1 (wrap64 ((rd l1 x6_1) - (rd l0 x6_1))) [.int .i64 (wrap64 ((rd l1 x6_1) - (rd l0 x6_1)))] (fun k_ => some k_ ≠ (.slice Ao6 t113.length co6 : Value).ownBlock ∧ some k_ ≠ (.slice Ao18 y119.length co18 : Value).ownBlock ∧ some k_ ≠ (.slice Ao23 y122.length co23 : Value).ownBlock) (fun _ => False) rfl rfl ?aP (fun _ hk => hk.elim) ?aF ?aO ?aB ?aS ?aL ?_
                  (case aP => exact rfl)
                  (case aB => exact (kB HB))
                  (case aF => exact (fun k_ hk => ⟨Kd.fresh' (yK (kA HO_117001)) k_ hk, Kd.fresh' (yK (kA HO121)) k_ hk, Kd.fresh' (yK (kA HO124)) k_ hk⟩))
                  (case aO => exact (kA HO_117004))
                  (case aS => exact (below_size (kB HB)))
                  (case aL => have := LMc15.out; omega)
                  intro v128 w27 ho hb hg hat
                  rw [← Ny127.out] at ho
                  have n0_ := yD (Kd.R_after (ok := (fun k_ => some k_ ≠ (.slice Ao18 y119.length co18 : Value).ownBlock ∧ some k_ ≠ (.slice Ao23 y122.length co23 : Value).ownBlock)) (by (with_reducible repeat (first | apply yA | apply yB | apply yC)); exact zF HO_117001.out (fun _ hk => ⟨⟨hk.2.1, hk.2.2⟩, hk.1⟩)) hg hat)
                  have n1_ := yD (blk_grown (g := gb112) (o := .cells #[.int .i64 0, .slice none 0 0, .slice none 0 0, .slice none 0 0, .slice none 0 0, .slice none 0 0] 57 (0, 0)) (kM BK112) hg (Kd.R_ne HO_117004.out BK112.out (by decide)))
                  have n2_ := yD (blk_grown (g := gb116) (o := .cells #[.int .i64 3, .slice Ao6 t113.length co6, .slice Ao18 y119.length co18, .slice Ao23 y122.length co23, u117004, .slice none 0 0] 57 (0, 0)) (kM BK116) hg (Kd.R_ne HO_117004.out BK116.out (by decide)))
                  have n3_ := yD (Kd.R_after (ok := (fun k_ => some k_ ≠ (.slice Ao6 t113.length co6 : Value).ownBlock ∧ some k_ ≠ (.slice Ao23 y122.length co23 : Value).ownBlock)) (by (with_reducible repeat (first | apply yA | apply yB | apply yC)); exact zF HO121.out (fun _ hk => ⟨⟨hk.1, hk.2.2⟩, hk.2.1⟩)) hg hat)
                  have n4_ := yD (Kd.R_after (ok := (fun k_ => some k_ ≠ (.slice Ao6 t113.length co6 : Value).ownBlock ∧ some k_ ≠ (.slice Ao18 y119.length co18 : Value).ownBlock)) (by (with_reducible repeat (first | apply yA | apply yB | apply yC)); exact zF HO124.out (fun _ hk => ⟨⟨hk.1, hk.2.2⟩, hk.2.1⟩)) hg hat)
                  have n5_ := yD (hb)
                  have n6_ := yD (ho)
                  clear HO_117001 BK112 BK116 HO121 HO124 HB HO_117004; have HO_117001 := n0_; have BK112 := n1_; have BK116 := n2_; have HO121 := n3_; have HO124 := n4_; have HB := n5_; have HO129 := n6_; clear n0_ n1_ n2_ n3_ n4_ n5_ n6_ ho hb hg hat
                  obtain ⟨Ao28, co28, eo28⟩ := Kd.R_slice HO129.out
                  (first | subst eo28 | (injection eo28 with f1_ f2_ f3_; have f4_ := f1_.symm; have f5_ := f3_.symm; clear f1_ f2_ f3_; subst f4_; subst f5_))
                  refine hK.out _ _ ⟨(yG BK116.out 0).trans rfl, (yG BK116.out 1).trans rfl, (yG BK116.out 2).trans rfl, (yG BK116.out 3).trans rfl, (yG BK116.out 4).trans rfl, (yG BK116.out 5).trans rfl, ((HB.out.cell (zQ w _ hw125_0)).trans hw125_0), ((HB.out.cell (zQ w _ hw126_0)).trans hw126_0)⟩ (fun hHeld => ?_)
                  clear hK K
                  refine norm_ (a' := ?_) ?_ ?_
                  rotate_left
                  · show Act.put _ (some 53) _ = _
                    simp only [Act.put, zH, zI, zJ, i64_w, i32_w]
                    rfl
                  refine qA 13 54 (bz 15 16383) HT_ ?_
                  refine last_ (i := 14) (N := none) #[true, true, true, true, true, true, true, true, true, true, true, true, true, true, true] rfl rfl (one_of HT_.out (by kernel_rfl)) (by decide) (fun K hK => ?_)
                  have hs29 : w27.cell? ⟨gb116, 4, none⟩ = some (u117004) := (yG BK116.out 4).trans rfl
                  have hfs29 := yR BK116.out 4
                  have hns29_0 := NB112_116.out; have hms29_0 := NB116_112.out
                  refine skip_ (w1 := ?_) (by rfl) rfl ?_ ?_
                  rotate_left
                  · go_simp
                    rfl
                  refine hK.out _ _ ?_
                  clear hK K
                  refine done_ (done_of HT_.out (by kernel_rfl)) ?_
                  try go_wp2
                  go_roundg k1
                  case measure => have := HK1.out; omega
                  case rel => exact ⟨(wrap64 (x6_1 + 1)), (y119), (y122), (y127), (.slice Ao18 y119.length co18), (.slice Ao23 y122.length co23), (.slice Ao28 y127.length co28), (by first | rfl | (simp; done) | (simp [*]; done)), H', ⟨by have := HK1.out; omega⟩, ⟨by (with_reducible repeat (first | apply yA | apply yB | apply yC)); exact zF (yF (p := ⟨gb116, 4, none⟩) (Kd.R_types HO_117001.out BK116.out (by decide)) (fun _ hk => hk.2) (.slice Ao28 y127.length co28)) (fun _ hk => ⟨hk.1.1.1, ⟨hk.1.1.2, hk.1.2⟩⟩)⟩, ⟨by (with_reducible repeat (first | apply yA | apply yB | apply yC)); exact zF (yF (p := ⟨gb116, 4, none⟩) (Kd.R_types HO121.out BK116.out (by decide)) (fun _ hk => hk.2) (.slice Ao28 y127.length co28)) (fun _ hk => ⟨hk.1.1.1, ⟨hk.1.1.2, hk.1.2⟩⟩)⟩, ⟨by (with_reducible repeat (first | apply yA | apply yB | apply yC)); exact zF (yF (p := ⟨gb116, 4, none⟩) (Kd.R_types HO124.out BK116.out (by decide)) (fun _ hk => hk.2) (.slice Ao28 y127.length co28)) (fun _ hk => ⟨hk.1.1.1, ⟨hk.1.1.2, hk.1.2⟩⟩)⟩, ⟨by (with_reducible repeat (first | apply yA | apply yB | apply yC)); exact zF (yF (p := ⟨gb116, 4, none⟩) (Kd.R_types HO129.out BK116.out (by decide)) (fun _ hk => hk.2) (.slice Ao28 y127.length co28)) (fun _ hk => ⟨hk.1.1, ⟨hk.1.2.1, hk.1.2.2⟩⟩)⟩, ⟨by (with_reducible repeat (first | refine yM ?_ _ | refine yO ?_ | refine yN ?_ _)); refine blk_far ?_ NB112_116.out _; (with_reducible repeat (first | refine yM ?_ _ | refine yO ?_ | refine yN ?_ _)); exact BK112.out⟩, ⟨by (with_reducible repeat (first | refine yM ?_ _ | refine yO ?_ | refine yN ?_ _)); refine blk_put (cs := #[.int .i64 3, .slice Ao6 t113.length co6, .slice Ao18 y119.length co18, .slice Ao23 y122.length co23, u117004, .slice none 0 0]) ?_ 4 _ rfl; (with_reducible repeat (first | refine yM ?_ _ | refine yO ?_ | refine yN ?_ _)); exact BK116.out⟩, ⟨by repeat (first | (with_reducible first | exact HB.out | apply yQ | apply yL | apply yP | refine yE ?_ GE112.out | refine yE ?_ GE116.out) | exact HB.out)⟩⟩
                · rw [if_neg c15] at H
                  exact absurd H (by simp)
              · rw [if_neg c14] at H
                exact absurd H (by simp)
            · rw [if_neg c13] at H
              exact absurd H (by simp)
          · rw [if_neg c12] at H
            exact absurd H (by simp)
        · rw [if_neg c11] at H
          have c11b0 : decide (x6_1 < (l1.length : Int)) = false := zS c11; clear c11
          simp only [Option.some.injEq, Prod.mk.injEq] at H
          obtain ⟨rfl, rfl, rfl, rfl, rfl, rfl⟩ := H
          have hnb30 := NB116_112.out; have hnc30 := NB112_116.out
          obtain ⟨hcz31_0, hcz31_1, hcz31_2, hcz31_3, hcz31_4, hcz31_5⟩ := cz6 BK116.out
          obtain ⟨hfz31_0, hfz31_1, hfz31_2, hfz31_3, hfz31_4, hfz31_5⟩ := fz6 BK116.out
          obtain ⟨hcz32_0, hcz32_1, hcz32_2, hcz32_3, hcz32_4, hcz32_5⟩ := cz6 BK112.out
          obtain ⟨hfz32_0, hfz32_1, hfz32_2, hfz32_3, hfz32_4, hfz32_5⟩ := fz6 BK112.out
          obtain ⟨Ao33, co33, eo33⟩ := Kd.R_slice HO_117002.out
          subst eo33
          obtain ⟨Ao34, co34, eo34⟩ := Kd.R_slice HO_117003.out
          subst eo34
          obtain ⟨Ao35, co35, eo35⟩ := Kd.R_slice HO_117004.out
          subst eo35
          go_wp2
          refine bodyPost_ret (results_cell_row rfl _ _ gb112 57 #[.int .i64 3, .slice Ao6 t113.length co6, .slice Ao33 x117002_1.length co33, .slice Ao34 x117003_1.length co34, .slice Ao35 x117004_1.length co35, .slice none 0 0] (0, 0) _ rfl (by (with_reducible repeat (first | refine yM ?_ _ | refine yO ?_ | refine yN ?_ _)); refine blk_put (cs := #[.int .i64 3, .slice Ao6 t113.length co6, .slice Ao33 x117002_1.length co33, .slice Ao34 x117003_1.length co34, .slice Ao35 x117004_1.length co35, .slice none 0 0]) ?_ 5 _ rfl; (with_reducible repeat (first | refine yM ?_ _ | refine yO ?_ | refine yN ?_ _)); refine blk_put (cs := #[.int .i64 3, .slice Ao6 t113.length co6, .slice Ao33 x117002_1.length co33, .slice Ao34 x117003_1.length co34, .slice none 0 0, .slice none 0 0]) ?_ 4 _ rfl; (with_reducible repeat (first | refine yM ?_ _ | refine yO ?_ | refine yN ?_ _)); refine blk_put (cs := #[.int .i64 3, .slice Ao6 t113.length co6, .slice Ao33 x117002_1.length co33, .slice none 0 0, .slice none 0 0, .slice none 0 0]) ?_ 3 _ rfl; (with_reducible repeat (first | refine yM ?_ _ | refine yO ?_ | refine yN ?_ _)); refine blk_put (cs := #[.int .i64 3, .slice Ao6 t113.length co6, .slice none 0 0, .slice none 0 0, .slice none 0 0, .slice none 0 0]) ?_ 2 _ rfl; (with_reducible repeat (first | refine yM ?_ _ | refine yO ?_ | refine yN ?_ _)); refine blk_put (cs := #[.int .i64 3, .slice none 0 0, .slice none 0 0, .slice none 0 0, .slice none 0 0, .slice none 0 0]) ?_ 1 _ rfl; (with_reducible repeat (first | refine yM ?_ _ | refine yO ?_ | refine yN ?_ _)); refine blk_put (cs := #[.int .i64 0, .slice none 0 0, .slice none 0 0, .slice none 0 0, .slice none 0 0, .slice none 0 0]) ?_ 0 _ rfl; (with_reducible repeat (first | refine yM ?_ _ | refine yO ?_ | refine yN ?_ _)); exact BK112.out) Try.underlying57 rfl (by kernel_rfl)) rfl ?_
          exact ⟨_, _, _, _, _, by first | rfl | (simp <;> rfl) | (simp [*] <;> rfl), by (with_reducible repeat (first | apply yA | apply yB | apply yC)); exact zF (yF (p := ⟨gb112, 5, none⟩) (yF (p := ⟨gb112, 4, none⟩) (yF (p := ⟨gb112, 3, none⟩) (yF (p := ⟨gb112, 2, none⟩) (yF (p := ⟨gb112, 1, none⟩) (yF (p := ⟨gb112, 0, none⟩) (Kd.R_types HO_117001.out BK112.out (by decide)) (fun _ hk => hk.2) (.int .i64 3)) (fun _ hk => hk.2) (.slice Ao6 t113.length co6)) (fun _ hk => hk.2) (.slice Ao33 x117002_1.length co33)) (fun _ hk => hk.2) (.slice Ao34 x117003_1.length co34)) (fun _ hk => hk.2) (.slice Ao35 x117004_1.length co35)) (fun _ hk => hk.2) (.slice none 0 0)) (fun _ hk => ⟨hk.1.1, ⟨hk.1.2.1, hk.1.2.2⟩⟩), by (with_reducible repeat (first | apply yA | apply yB | apply yC)); exact zF (yF (p := ⟨gb112, 5, none⟩) (yF (p := ⟨gb112, 4, none⟩) (yF (p := ⟨gb112, 3, none⟩) (yF (p := ⟨gb112, 2, none⟩) (yF (p := ⟨gb112, 1, none⟩) (yF (p := ⟨gb112, 0, none⟩) (Kd.R_types HO_117002.out BK112.out (by decide)) (fun _ hk => hk.2) (.int .i64 3)) (fun _ hk => hk.2) (.slice Ao6 t113.length co6)) (fun _ hk => hk.2) (.slice Ao33 x117002_1.length co33)) (fun _ hk => hk.2) (.slice Ao34 x117003_1.length co34)) (fun _ hk => hk.2) (.slice Ao35 x117004_1.length co35)) (fun _ hk => hk.2) (.slice none 0 0)) (fun _ hk => ⟨hk.1.1, ⟨hk.1.2.1, hk.1.2.2⟩⟩), by (with_reducible repeat (first | apply yA | apply yB | apply yC)); exact zF (yF (p := ⟨gb112, 5, none⟩) (yF (p := ⟨gb112, 4, none⟩) (yF (p := ⟨gb112, 3, none⟩) (yF (p := ⟨gb112, 2, none⟩) (yF (p := ⟨gb112, 1, none⟩) (yF (p := ⟨gb112, 0, none⟩) (Kd.R_types HO_117003.out BK112.out (by decide)) (fun _ hk => hk.2) (.int .i64 3)) (fun _ hk => hk.2) (.slice Ao6 t113.length co6)) (fun _ hk => hk.2) (.slice Ao33 x117002_1.length co33)) (fun _ hk => hk.2) (.slice Ao34 x117003_1.length co34)) (fun _ hk => hk.2) (.slice Ao35 x117004_1.length co35)) (fun _ hk => hk.2) (.slice none 0 0)) (fun _ hk => ⟨hk.1.1, ⟨hk.1.2.1, hk.1.2.2⟩⟩), by (with_reducible repeat (first | apply yA | apply yB | apply yC)); exact zF (yF (p := ⟨gb112, 5, none⟩) (yF (p := ⟨gb112, 4, none⟩) (yF (p := ⟨gb112, 3, none⟩) (yF (p := ⟨gb112, 2, none⟩) (yF (p := ⟨gb112, 1, none⟩) (yF (p := ⟨gb112, 0, none⟩) (Kd.R_types HO_117004.out BK112.out (by decide)) (fun _ hk => hk.2) (.int .i64 3)) (fun _ hk => hk.2) (.slice Ao6 t113.length co6)) (fun _ hk => hk.2) (.slice Ao33 x117002_1.length co33)) (fun _ hk => hk.2) (.slice Ao34 x117003_1.length co34)) (fun _ hk => hk.2) (.slice Ao35 x117004_1.length co35)) (fun _ hk => hk.2) (.slice none 0 0)) (fun _ hk => ⟨hk.1.1, ⟨hk.1.2.1, hk.1.2.2⟩⟩), by first | exact Kd.S_nil _ _ _ _ _ | exact Kd.N_nil _ _ _ _ _ | exact Kd.V_nil _ _ _ _ _ | exact Kd.Q_nil _ _ _ _ _ | exact Kd.R_nil _ _ _ _ _, by repeat (first | (with_reducible first | exact HB.out | apply yQ | apply yL | apply yP | refine yE ?_ GE112.out | refine yE ?_ GE116.out) | exact HB.out)⟩
      · rw [if_neg c10] at H
        have c10b0 : decide (x6_1 < (l0.length : Int)) = false := zS c10; clear c10
        simp only [Option.some.injEq, Prod.mk.injEq] at H
        obtain ⟨rfl, rfl, rfl, rfl, rfl, rfl⟩ := H
        have hnb36 := NB116_112.out; have hnc36 := NB112_116.out
        obtain ⟨hcz37_0, hcz37_1, hcz37_2, hcz37_3, hcz37_4, hcz37_5⟩ := cz6 BK116.out
        obtain ⟨hfz37_0, hfz37_1, hfz37_2, hfz37_3, hfz37_4, hfz37_5⟩ := fz6 BK116.out
        obtain ⟨hcz38_0, hcz38_1, hcz38_2, hcz38_3, hcz38_4, hcz38_5⟩ := cz6 BK112.out
        obtain ⟨hfz38_0, hfz38_1, hfz38_2, hfz38_3, hfz38_4, hfz38_5⟩ := fz6 BK112.out
        obtain ⟨Ao39, co39, eo39⟩ := Kd.R_slice HO_117002.out
        subst eo39
        obtain ⟨Ao40, co40, eo40⟩ := Kd.R_slice HO_117003.out
        subst eo40
        obtain ⟨Ao41, co41, eo41⟩ := Kd.R_slice HO_117004.out
        subst eo41
        go_wp2
        refine bodyPost_ret (results_cell_row rfl _ _ gb112 57 #[.int .i64 3, .slice Ao6 t113.length co6, .slice Ao39 x117002_1.length co39, .slice Ao40 x117003_1.length co40, .slice Ao41 x117004_1.length co41, .slice none 0 0] (0, 0) _ rfl (by (with_reducible repeat (first | refine yM ?_ _ | refine yO ?_ | refine yN ?_ _)); refine blk_put (cs := #[.int .i64 3, .slice Ao6 t113.length co6, .slice Ao39 x117002_1.length co39, .slice Ao40 x117003_1.length co40, .slice Ao41 x117004_1.length co41, .slice none 0 0]) ?_ 5 _ rfl; (with_reducible repeat (first | refine yM ?_ _ | refine yO ?_ | refine yN ?_ _)); refine blk_put (cs := #[.int .i64 3, .slice Ao6 t113.length co6, .slice Ao39 x117002_1.length co39, .slice Ao40 x117003_1.length co40, .slice none 0 0, .slice none 0 0]) ?_ 4 _ rfl; (with_reducible repeat (first | refine yM ?_ _ | refine yO ?_ | refine yN ?_ _)); refine blk_put (cs := #[.int .i64 3, .slice Ao6 t113.length co6, .slice Ao39 x117002_1.length co39, .slice none 0 0, .slice none 0 0, .slice none 0 0]) ?_ 3 _ rfl; (with_reducible repeat (first | refine yM ?_ _ | refine yO ?_ | refine yN ?_ _)); refine blk_put (cs := #[.int .i64 3, .slice Ao6 t113.length co6, .slice none 0 0, .slice none 0 0, .slice none 0 0, .slice none 0 0]) ?_ 2 _ rfl; (with_reducible repeat (first | refine yM ?_ _ | refine yO ?_ | refine yN ?_ _)); refine blk_put (cs := #[.int .i64 3, .slice none 0 0, .slice none 0 0, .slice none 0 0, .slice none 0 0, .slice none 0 0]) ?_ 1 _ rfl; (with_reducible repeat (first | refine yM ?_ _ | refine yO ?_ | refine yN ?_ _)); refine blk_put (cs := #[.int .i64 0, .slice none 0 0, .slice none 0 0, .slice none 0 0, .slice none 0 0, .slice none 0 0]) ?_ 0 _ rfl; (with_reducible repeat (first | refine yM ?_ _ | refine yO ?_ | refine yN ?_ _)); exact BK112.out) Try.underlying57 rfl (by kernel_rfl)) rfl ?_
        exact ⟨_, _, _, _, _, by first | rfl | (simp <;> rfl) | (simp [*] <;> rfl), by (with_reducible repeat (first | apply yA | apply yB | apply yC)); exact zF (yF (p := ⟨gb112, 5, none⟩) (yF (p := ⟨gb112, 4, none⟩) (yF (p := ⟨gb112, 3, none⟩) (yF (p := ⟨gb112, 2, none⟩) (yF (p := ⟨gb112, 1, none⟩) (yF (p := ⟨gb112, 0, none⟩) (Kd.R_types HO_117001.out BK112.out (by decide)) (fun _ hk => hk.2) (.int .i64 3)) (fun _ hk => hk.2) (.slice Ao6 t113.length co6)) (fun _ hk => hk.2) (.slice Ao39 x117002_1.length co39)) (fun _ hk => hk.2) (.slice Ao40 x117003_1.length co40)) (fun _ hk => hk.2) (.slice Ao41 x117004_1.length co41)) (fun _ hk => hk.2) (.slice none 0 0)) (fun _ hk => ⟨hk.1.1, ⟨hk.1.2.1, hk.1.2.2⟩⟩), by (with_reducible repeat (first | apply yA | apply yB | apply yC)); exact zF (yF (p := ⟨gb112, 5, none⟩) (yF (p := ⟨gb112, 4, none⟩) (yF (p := ⟨gb112, 3, none⟩) (yF (p := ⟨gb112, 2, none⟩) (yF (p := ⟨gb112, 1, none⟩) (yF (p := ⟨gb112, 0, none⟩) (Kd.R_types HO_117002.out BK112.out (by decide)) (fun _ hk => hk.2) (.int .i64 3)) (fun _ hk => hk.2) (.slice Ao6 t113.length co6)) (fun _ hk => hk.2) (.slice Ao39 x117002_1.length co39)) (fun _ hk => hk.2) (.slice Ao40 x117003_1.length co40)) (fun _ hk => hk.2) (.slice Ao41 x117004_1.length co41)) (fun _ hk => hk.2) (.slice none 0 0)) (fun _ hk => ⟨hk.1.1, ⟨hk.1.2.1, hk.1.2.2⟩⟩), by (with_reducible repeat (first | apply yA | apply yB | apply yC)); exact zF (yF (p := ⟨gb112, 5, none⟩) (yF (p := ⟨gb112, 4, none⟩) (yF (p := ⟨gb112, 3, none⟩) (yF (p := ⟨gb112, 2, none⟩) (yF (p := ⟨gb112, 1, none⟩) (yF (p := ⟨gb112, 0, none⟩) (Kd.R_types HO_117003.out BK112.out (by decide)) (fun _ hk => hk.2) (.int .i64 3)) (fun _ hk => hk.2) (.slice Ao6 t113.length co6)) (fun _ hk => hk.2) (.slice Ao39 x117002_1.length co39)) (fun _ hk => hk.2) (.slice Ao40 x117003_1.length co40)) (fun _ hk => hk.2) (.slice Ao41 x117004_1.length co41)) (fun _ hk => hk.2) (.slice none 0 0)) (fun _ hk => ⟨hk.1.1, ⟨hk.1.2.1, hk.1.2.2⟩⟩), by (with_reducible repeat (first | apply yA | apply yB | apply yC)); exact zF (yF (p := ⟨gb112, 5, none⟩) (yF (p := ⟨gb112, 4, none⟩) (yF (p := ⟨gb112, 3, none⟩) (yF (p := ⟨gb112, 2, none⟩) (yF (p := ⟨gb112, 1, none⟩) (yF (p := ⟨gb112, 0, none⟩) (Kd.R_types HO_117004.out BK112.out (by decide)) (fun _ hk => hk.2) (.int .i64 3)) (fun _ hk => hk.2) (.slice Ao6 t113.length co6)) (fun _ hk => hk.2) (.slice Ao39 x117002_1.length co39)) (fun _ hk => hk.2) (.slice Ao40 x117003_1.length co40)) (fun _ hk => hk.2) (.slice Ao41 x117004_1.length co41)) (fun _ hk => hk.2) (.slice none 0 0)) (fun _ hk => ⟨hk.1.1, ⟨hk.1.2.1, hk.1.2.2⟩⟩), by first | exact Kd.S_nil _ _ _ _ _ | exact Kd.N_nil _ _ _ _ _ | exact Kd.V_nil _ _ _ _ _ | exact Kd.Q_nil _ _ _ _ _ | exact Kd.R_nil _ _ _ _ _, by repeat (first | (with_reducible first | exact HB.out | apply yQ | apply yL | apply yP | refine yE ?_ GE112.out | refine yE ?_ GE116.out) | exact HB.out)⟩

/-! ### spec_l06Plain: function 111 -/
def spec_l06Plain.f (a0_0 : Int) (l0_1 : List Int) (l0_2 : List Int) (l0_3 : List Int) (l0_4 : List Int) (l0_5 : List (S137)) : Option (Bool) := if (l0_1.length : Int) = 0 then (if (l0_2.length : Int) = 0 then (if (l0_3.length : Int) = 0 then (some ((l0_4.length : Int) == 0)) else (some false)) else (some false)) else (some false)
set_option maxHeartbeats 8000000 in
set_option maxRecDepth 100000 in
theorem spec_l06Plain.calls (a0_0 : Int) (A0_1 : Option Addr) (c0_1 : Nat) (l0_1 : List Int) (A0_2 : Option Addr) (c0_2 : Nat) (l0_2 : List Int) (A0_3 : Option Addr) (c0_3 : Nat) (l0_3 : List Int) (A0_4 : Option Addr) (c0_4 : Nat) (l0_4 : List Int) (A0_5 : Option Addr) (c0_5 : Nat) (l0_5 : List (S137)) (r : Bool) (w : World) (hr0_1 : Kd.C (Kd.int .i64) w A0_1 l0_1.length l0_1) (hc0_1 : l0_1.length ≤ c0_1) (hr0_2 : Kd.C (Kd.int .i64) w A0_2 l0_2.length l0_2) (hc0_2 : l0_2.length ≤ c0_2) (hr0_3 : Kd.C (Kd.int .i64) w A0_3 l0_3.length l0_3) (hc0_3 : l0_3.length ≤ c0_3) (hr0_4 : Kd.C (Kd.int .i64) w A0_4 l0_4.length l0_4) (hc0_4 : l0_4.length ≤ c0_4) (hr0_5 : Kd.C k137 w A0_5 l0_5.length l0_5) (hc0_5 : l0_5.length ≤ c0_5) (h : spec_l06Plain.f a0_0 l0_1 l0_2 l0_3 l0_4 l0_5 = some r) :
    Calls Try.prog 111 #[.agg #[.int .i64 a0_0, .slice A0_1 l0_1.length c0_1, .slice A0_2 l0_2.length c0_2, .slice A0_3 l0_3.length c0_3, .slice A0_4 l0_4.length c0_4, .slice A0_5 l0_5.length c0_5]] w fun e w' => e = .returned (.bool r) ∧ Below w.heap.size w w' := by
  have hu57 := Try.underlying57
  have HR0_1 := yD hr0_1
  have HC0_1 := yD hc0_1
  clear hr0_1 hc0_1
  have HR0_2 := yD hr0_2
  have HC0_2 := yD hc0_2
  clear hr0_2 hc0_2
  have HR0_3 := yD hr0_3
  have HC0_3 := yD hc0_3
  clear hr0_3 hc0_3
  have HR0_4 := yD hr0_4
  have HC0_4 := yD hc0_4
  clear hr0_4 hc0_4
  have HR0_5 := yD hr0_5
  have HC0_5 := yD hc0_5
  clear hr0_5 hc0_5
  have HB := yD (Below.refl w.heap.size w)
  have H : (if (l0_1.length : Int) = 0 then (if (l0_2.length : Int) = 0 then (if (l0_3.length : Int) = 0 then (some ((l0_4.length : Int) == 0)) else (some false)) else (some false)) else (some false)) = some r := h
  clear h
  by_cases c2 : (l0_1.length : Int) = 0
  · rw [if_pos c2] at H
    have c2b0 : ((l0_1.length : Int) == 0) = true := beq_iff_eq.mpr c2
    have c2b1 : ((l0_1.length : Int) != 0) = false := bne_eq_false_iff_eq.mpr c2
    clear c2
    by_cases c3 : (l0_2.length : Int) = 0
    · rw [if_pos c3] at H
      have c3b0 : ((l0_2.length : Int) == 0) = true := beq_iff_eq.mpr c3
      have c3b1 : ((l0_2.length : Int) != 0) = false := bne_eq_false_iff_eq.mpr c3
      clear c3
      by_cases c4 : (l0_3.length : Int) = 0
      · rw [if_pos c4] at H
        have c4b0 : ((l0_3.length : Int) == 0) = true := beq_iff_eq.mpr c4
        have c4b1 : ((l0_3.length : Int) != 0) = false := bne_eq_false_iff_eq.mpr c4
        clear c4; obtain rfl := Option.some.inj H; go_enter Try.func111, Try.ntmps111
        go_wp2_with (first | ((with_reducible refine gate_dst (N := 1) rfl ?_); (try (refine gate_guard (by rfl) ?_; dsimp only)); refine box_event ?hg (N := 1) ?hd (cs := #[.int .i64 a0_0, .slice A0_1 l0_1.length c0_1, .slice A0_2 l0_2.length c0_2, .slice A0_3 l0_3.length c0_3, .slice A0_4 l0_4.length c0_4, .slice A0_5 l0_5.length c0_5]) (t := 57) ?hr ?_; (case hd => rfl); (case hg => rfl); (case hr => first | (go_simp; done) | (go_simp; rfl)); intro gb130 hg w5 hbox hb; have n0_ := yD (zC (kB HB) hb); have n1_ := yD (hbox); have n2_ := yD ((by rw [hg]; exact (below_size (kB HB)) : w.heap.size ≤ gb130)); have n3_ := yD ((by rw [hg]; exact (below_size (kB HB)) : w.heap.size ≤ gb130)); clear HB; have HB := n0_; have BK130 := n1_; have GW130 := n2_; have GE130 := n3_; clear n0_ n1_ n2_ n3_; clear hb hbox hg; obtain ⟨hcz6_0, hcz6_1, hcz6_2, hcz6_3, hcz6_4, hcz6_5⟩ := cz6 BK130.out; obtain ⟨hfz6_0, hfz6_1, hfz6_2, hfz6_3, hfz6_4, hfz6_5⟩ := fz6 BK130.out))
        go_ret
        exact ⟨by first | rfl | (simp <;> rfl) | (simp [*] <;> rfl), by repeat (first | (with_reducible first | exact HB.out | apply yQ | apply yL | apply yP | refine yE ?_ GE130.out) | exact HB.out)⟩
      · rw [if_neg c4] at H
        have c4b0 : ((l0_3.length : Int) == 0) = false := beq_eq_false_iff_ne.mpr c4
        have c4b1 : ((l0_3.length : Int) != 0) = true := bne_iff_ne.mpr c4
        have c4b2 : ¬ (l0_3 = []) := fun h_ => c4 (by rw [h_]; rfl)
        obtain rfl := Option.some.inj H; go_enter Try.func111, Try.ntmps111
        go_wp2_with (first | ((with_reducible refine gate_dst (N := 1) rfl ?_); (try (refine gate_guard (by rfl) ?_; dsimp only)); refine box_event ?hg (N := 1) ?hd (cs := #[.int .i64 a0_0, .slice A0_1 l0_1.length c0_1, .slice A0_2 l0_2.length c0_2, .slice A0_3 l0_3.length c0_3, .slice A0_4 l0_4.length c0_4, .slice A0_5 l0_5.length c0_5]) (t := 57) ?hr ?_; (case hd => rfl); (case hg => rfl); (case hr => first | (go_simp; done) | (go_simp; rfl)); intro gb130 hg w7 hbox hb; have n0_ := yD (zC (kB HB) hb); have n1_ := yD (hbox); have n2_ := yD ((by rw [hg]; exact (below_size (kB HB)) : w.heap.size ≤ gb130)); have n3_ := yD ((by rw [hg]; exact (below_size (kB HB)) : w.heap.size ≤ gb130)); clear HB; have HB := n0_; have BK130 := n1_; have GW130 := n2_; have GE130 := n3_; clear n0_ n1_ n2_ n3_; clear hb hbox hg; obtain ⟨hcz8_0, hcz8_1, hcz8_2, hcz8_3, hcz8_4, hcz8_5⟩ := cz6 BK130.out; obtain ⟨hfz8_0, hfz8_1, hfz8_2, hfz8_3, hfz8_4, hfz8_5⟩ := fz6 BK130.out))
        go_ret
        exact ⟨by first | rfl | (simp <;> rfl) | (simp [*] <;> rfl), by repeat (first | (with_reducible first | exact HB.out | apply yQ | apply yL | apply yP | refine yE ?_ GE130.out) | exact HB.out)⟩
    · rw [if_neg c3] at H
      have c3b0 : ((l0_2.length : Int) == 0) = false := beq_eq_false_iff_ne.mpr c3
      have c3b1 : ((l0_2.length : Int) != 0) = true := bne_iff_ne.mpr c3
      have c3b2 : ¬ (l0_2 = []) := fun h_ => c3 (by rw [h_]; rfl)
      obtain rfl := Option.some.inj H; go_enter Try.func111, Try.ntmps111
      go_wp2_with (first | ((with_reducible refine gate_dst (N := 1) rfl ?_); (try (refine gate_guard (by rfl) ?_; dsimp only)); refine box_event ?hg (N := 1) ?hd (cs := #[.int .i64 a0_0, .slice A0_1 l0_1.length c0_1, .slice A0_2 l0_2.length c0_2, .slice A0_3 l0_3.length c0_3, .slice A0_4 l0_4.length c0_4, .slice A0_5 l0_5.length c0_5]) (t := 57) ?hr ?_; (case hd => rfl); (case hg => rfl); (case hr => first | (go_simp; done) | (go_simp; rfl)); intro gb130 hg w9 hbox hb; have n0_ := yD (zC (kB HB) hb); have n1_ := yD (hbox); have n2_ := yD ((by rw [hg]; exact (below_size (kB HB)) : w.heap.size ≤ gb130)); have n3_ := yD ((by rw [hg]; exact (below_size (kB HB)) : w.heap.size ≤ gb130)); clear HB; have HB := n0_; have BK130 := n1_; have GW130 := n2_; have GE130 := n3_; clear n0_ n1_ n2_ n3_; clear hb hbox hg; obtain ⟨hcz10_0, hcz10_1, hcz10_2, hcz10_3, hcz10_4, hcz10_5⟩ := cz6 BK130.out; obtain ⟨hfz10_0, hfz10_1, hfz10_2, hfz10_3, hfz10_4, hfz10_5⟩ := fz6 BK130.out))
      go_ret
      exact ⟨by first | rfl | (simp <;> rfl) | (simp [*] <;> rfl), by repeat (first | (with_reducible first | exact HB.out | apply yQ | apply yL | apply yP | refine yE ?_ GE130.out) | exact HB.out)⟩
  · rw [if_neg c2] at H
    have c2b0 : ((l0_1.length : Int) == 0) = false := beq_eq_false_iff_ne.mpr c2
    have c2b1 : ((l0_1.length : Int) != 0) = true := bne_iff_ne.mpr c2
    have c2b2 : ¬ (l0_1 = []) := fun h_ => c2 (by rw [h_]; rfl)
    obtain rfl := Option.some.inj H; go_enter Try.func111, Try.ntmps111
    go_wp2_with (first | ((with_reducible refine gate_dst (N := 1) rfl ?_); (try (refine gate_guard (by rfl) ?_; dsimp only)); refine box_event ?hg (N := 1) ?hd (cs := #[.int .i64 a0_0, .slice A0_1 l0_1.length c0_1, .slice A0_2 l0_2.length c0_2, .slice A0_3 l0_3.length c0_3, .slice A0_4 l0_4.length c0_4, .slice A0_5 l0_5.length c0_5]) (t := 57) ?hr ?_; (case hd => rfl); (case hg => rfl); (case hr => first | (go_simp; done) | (go_simp; rfl)); intro gb130 hg w11 hbox hb; have n0_ := yD (zC (kB HB) hb); have n1_ := yD (hbox); have n2_ := yD ((by rw [hg]; exact (below_size (kB HB)) : w.heap.size ≤ gb130)); have n3_ := yD ((by rw [hg]; exact (below_size (kB HB)) : w.heap.size ≤ gb130)); clear HB; have HB := n0_; have BK130 := n1_; have GW130 := n2_; have GE130 := n3_; clear n0_ n1_ n2_ n3_; clear hb hbox hg; obtain ⟨hcz12_0, hcz12_1, hcz12_2, hcz12_3, hcz12_4, hcz12_5⟩ := cz6 BK130.out; obtain ⟨hfz12_0, hfz12_1, hfz12_2, hfz12_3, hfz12_4, hfz12_5⟩ := fz6 BK130.out))
    go_ret
    exact ⟨by first | rfl | (simp <;> rfl) | (simp [*] <;> rfl), by repeat (first | (with_reducible first | exact HB.out | apply yQ | apply yL | apply yP | refine yE ?_ GE130.out) | exact HB.out)⟩

/-! ### spec_l06End: function 135 -/
def spec_l06End.f (a0_0 : Int) (l0_1 : List Int) (l0_2 : List Int) (l0_3 : List Int) (l0_4 : List Int) (l0_5 : List (S137)) (a1 : Int) : Option (Int) := if 0 ≤ a1 then (if a1 < (l0_1.length : Int) then (if a1 < (l0_3.length : Int) then (if a1 < (l0_2.length : Int) then (if a1 < (l0_4.length : Int) then (some (wrap64 ((wrap64 ((rd l0_1 a1) + (wrap64 ((wrap64 ((rd l0_3 a1) - 1)) * (rd l0_2 a1))))) + (rd l0_4 a1)))) else (none)) else (none)) else (none)) else (none)) else (none)
set_option maxHeartbeats 8000000 in
set_option maxRecDepth 100000 in
theorem spec_l06End.calls (a0_0 : Int) (A0_1 : Option Addr) (c0_1 : Nat) (l0_1 : List Int) (A0_2 : Option Addr) (c0_2 : Nat) (l0_2 : List Int) (A0_3 : Option Addr) (c0_3 : Nat) (l0_3 : List Int) (A0_4 : Option Addr) (c0_4 : Nat) (l0_4 : List Int) (A0_5 : Option Addr) (c0_5 : Nat) (l0_5 : List (S137)) (a1 : Int) (r : Int) (w : World) (hr0_1 : Kd.C (Kd.int .i64) w A0_1 l0_1.length l0_1) (hc0_1 : l0_1.length ≤ c0_1) (hr0_2 : Kd.C (Kd.int .i64) w A0_2 l0_2.length l0_2) (hc0_2 : l0_2.length ≤ c0_2) (hr0_3 : Kd.C (Kd.int .i64) w A0_3 l0_3.length l0_3) (hc0_3 : l0_3.length ≤ c0_3) (hr0_4 : Kd.C (Kd.int .i64) w A0_4 l0_4.length l0_4) (hc0_4 : l0_4.length ≤ c0_4) (hr0_5 : Kd.C k137 w A0_5 l0_5.length l0_5) (hc0_5 : l0_5.length ≤ c0_5) (h : spec_l06End.f a0_0 l0_1 l0_2 l0_3 l0_4 l0_5 a1 = some r) :
    Calls Try.prog 135 #[.agg #[.int .i64 a0_0, .slice A0_1 l0_1.length c0_1, .slice A0_2 l0_2.length c0_2, .slice A0_3 l0_3.length c0_3, .slice A0_4 l0_4.length c0_4, .slice A0_5 l0_5.length c0_5], .int .i64 a1] w fun e w' => e = .returned (.int .i64 r) ∧ Below w.heap.size w w' := by
  have hu57 := Try.underlying57
  have HR0_1 := yD hr0_1
  have HC0_1 := yD hc0_1
  clear hr0_1 hc0_1
  have HR0_2 := yD hr0_2
  have HC0_2 := yD hc0_2
  clear hr0_2 hc0_2
  have HR0_3 := yD hr0_3
  have HC0_3 := yD hc0_3
  clear hr0_3 hc0_3
  have HR0_4 := yD hr0_4
  have HC0_4 := yD hc0_4
  clear hr0_4 hc0_4
  have HR0_5 := yD hr0_5
  have HC0_5 := yD hc0_5
  clear hr0_5 hc0_5
  have HB := yD (Below.refl w.heap.size w)
  have H : (if 0 ≤ a1 then (if a1 < (l0_1.length : Int) then (if a1 < (l0_3.length : Int) then (if a1 < (l0_2.length : Int) then (if a1 < (l0_4.length : Int) then (some (wrap64 ((wrap64 ((rd l0_1 a1) + (wrap64 ((wrap64 ((rd l0_3 a1) - 1)) * (rd l0_2 a1))))) + (rd l0_4 a1)))) else (none)) else (none)) else (none)) else (none)) else (none)) = some r := h
  clear h
  by_cases c3 : 0 ≤ a1
  · rw [if_pos c3] at H
    have c3b0 : decide (0 ≤ a1) = true := zR c3; clear c3
    by_cases c4 : a1 < (l0_1.length : Int)
    · rw [if_pos c4] at H
      have c4b0 : decide (a1 < (l0_1.length : Int)) = true := zR c4; clear c4
      by_cases c5 : a1 < (l0_3.length : Int)
      · rw [if_pos c5] at H
        have c5b0 : decide (a1 < (l0_3.length : Int)) = true := zR c5; clear c5
        by_cases c6 : a1 < (l0_2.length : Int)
        · rw [if_pos c6] at H
          have c6b0 : decide (a1 < (l0_2.length : Int)) = true := zR c6; clear c6
          by_cases c7 : a1 < (l0_4.length : Int)
          · rw [if_pos c7] at H
            have c7b0 : decide (a1 < (l0_4.length : Int)) = true := zR c7; clear c7; obtain rfl := Option.some.inj H; go_enter Try.func135, Try.ntmps135
            go_wp2_with (first | ((with_reducible refine gate_dst (N := 2) rfl ?_); refine box_event ?hg (N := 2) ?hd (cs := #[.int .i64 a0_0, .slice A0_1 l0_1.length c0_1, .slice A0_2 l0_2.length c0_2, .slice A0_3 l0_3.length c0_3, .slice A0_4 l0_4.length c0_4, .slice A0_5 l0_5.length c0_5]) (t := 57) ?hr ?_; (case hd => rfl); (case hg => rfl); (case hr => first | (go_simp; done) | (go_simp; rfl)); intro gb131 hg w8 hbox hb; have n0_ := yD (zC (kB HB) hb); have n1_ := yD (hbox); have n2_ := yD ((by rw [hg]; exact (below_size (kB HB)) : w.heap.size ≤ gb131)); have n3_ := yD ((by rw [hg]; exact (below_size (kB HB)) : w.heap.size ≤ gb131)); clear HB; have HB := n0_; have BK131 := n1_; have GW131 := n2_; have GE131 := n3_; clear n0_ n1_ n2_ n3_; clear hb hbox hg; obtain ⟨hcz9_0, hcz9_1, hcz9_2, hcz9_3, hcz9_4, hcz9_5⟩ := cz6 BK131.out; obtain ⟨hfz9_0, hfz9_1, hfz9_2, hfz9_3, hfz9_4, hfz9_5⟩ := fz6 BK131.out; have p132 : 0 ≤ (a1 : Int) := zP (by assumption); have q132 : a1 < (l0_1.length : Int) := zP (by assumption); obtain ⟨ad132, e132, hx132_0⟩ := Kd.at_int HR0_1.out a1 p132 q132; cases e132; replace hx132_0 := (HB.out.cell (zQ w _ hx132_0)).trans hx132_0; replace p132 := eq_true p132; replace q132 := eq_true q132; have p133 : 0 ≤ (a1 : Int) := zP (by assumption); have q133 : a1 < (l0_3.length : Int) := zP (by assumption); obtain ⟨ad133, e133, hx133_0⟩ := Kd.at_int HR0_3.out a1 p133 q133; cases e133; replace hx133_0 := (HB.out.cell (zQ w _ hx133_0)).trans hx133_0; replace p133 := eq_true p133; replace q133 := eq_true q133; have p134 : 0 ≤ (a1 : Int) := zP (by assumption); have q134 : a1 < (l0_2.length : Int) := zP (by assumption); obtain ⟨ad134, e134, hx134_0⟩ := Kd.at_int HR0_2.out a1 p134 q134; cases e134; replace hx134_0 := (HB.out.cell (zQ w _ hx134_0)).trans hx134_0; replace p134 := eq_true p134; replace q134 := eq_true q134; have p135 : 0 ≤ (a1 : Int) := zP (by assumption); have q135 : a1 < (l0_4.length : Int) := zP (by assumption); obtain ⟨ad135, e135, hx135_0⟩ := Kd.at_int HR0_4.out a1 p135 q135; cases e135; replace hx135_0 := (HB.out.cell (zQ w _ hx135_0)).trans hx135_0; replace p135 := eq_true p135; replace q135 := eq_true q135))
            repeat (go_quiet (first | ((with_reducible refine gate_dst (N := 2) rfl ?_); refine box_event ?hg (N := 2) ?hd (cs := #[.int .i64 a0_0, .slice A0_1 l0_1.length c0_1, .slice A0_2 l0_2.length c0_2, .slice A0_3 l0_3.length c0_3, .slice A0_4 l0_4.length c0_4, .slice A0_5 l0_5.length c0_5]) (t := 57) ?hr ?_; (case hd => rfl); (case hg => rfl); (case hr => first | (go_simp; done) | (go_simp; rfl)); intro gb131 hg w8 hbox hb; have n0_ := yD (zC (kB HB) hb); have n1_ := yD (hbox); have n2_ := yD ((by rw [hg]; exact (below_size (kB HB)) : w.heap.size ≤ gb131)); have n3_ := yD ((by rw [hg]; exact (below_size (kB HB)) : w.heap.size ≤ gb131)); clear HB; have HB := n0_; have BK131 := n1_; have GW131 := n2_; have GE131 := n3_; clear n0_ n1_ n2_ n3_; clear hb hbox hg; obtain ⟨hcz9_0, hcz9_1, hcz9_2, hcz9_3, hcz9_4, hcz9_5⟩ := cz6 BK131.out; obtain ⟨hfz9_0, hfz9_1, hfz9_2, hfz9_3, hfz9_4, hfz9_5⟩ := fz6 BK131.out; have p132 : 0 ≤ (a1 : Int) := zP (by assumption); have q132 : a1 < (l0_1.length : Int) := zP (by assumption); obtain ⟨ad132, e132, hx132_0⟩ := Kd.at_int HR0_1.out a1 p132 q132; cases e132; replace hx132_0 := (HB.out.cell (zQ w _ hx132_0)).trans hx132_0; replace p132 := eq_true p132; replace q132 := eq_true q132; have p133 : 0 ≤ (a1 : Int) := zP (by assumption); have q133 : a1 < (l0_3.length : Int) := zP (by assumption); obtain ⟨ad133, e133, hx133_0⟩ := Kd.at_int HR0_3.out a1 p133 q133; cases e133; replace hx133_0 := (HB.out.cell (zQ w _ hx133_0)).trans hx133_0; replace p133 := eq_true p133; replace q133 := eq_true q133; have p134 : 0 ≤ (a1 : Int) := zP (by assumption); have q134 : a1 < (l0_2.length : Int) := zP (by assumption); obtain ⟨ad134, e134, hx134_0⟩ := Kd.at_int HR0_2.out a1 p134 q134; cases e134; replace hx134_0 := (HB.out.cell (zQ w _ hx134_0)).trans hx134_0; replace p134 := eq_true p134; replace q134 := eq_true q134; have p135 : 0 ≤ (a1 : Int) := zP (by assumption); have q135 : a1 < (l0_4.length : Int) := zP (by assumption); obtain ⟨ad135, e135, hx135_0⟩ := Kd.at_int HR0_4.out a1 p135 q135; cases e135; replace hx135_0 := (HB.out.cell (zQ w _ hx135_0)).trans hx135_0; replace p135 := eq_true p135; replace q135 := eq_true q135)); try go_wp2_with (first | ((with_reducible refine gate_dst (N := 2) rfl ?_); refine box_event ?hg (N := 2) ?hd (cs := #[.int .i64 a0_0, .slice A0_1 l0_1.length c0_1, .slice A0_2 l0_2.length c0_2, .slice A0_3 l0_3.length c0_3, .slice A0_4 l0_4.length c0_4, .slice A0_5 l0_5.length c0_5]) (t := 57) ?hr ?_; (case hd => rfl); (case hg => rfl); (case hr => first | (go_simp; done) | (go_simp; rfl)); intro gb131 hg w8 hbox hb; have n0_ := yD (zC (kB HB) hb); have n1_ := yD (hbox); have n2_ := yD ((by rw [hg]; exact (below_size (kB HB)) : w.heap.size ≤ gb131)); have n3_ := yD ((by rw [hg]; exact (below_size (kB HB)) : w.heap.size ≤ gb131)); clear HB; have HB := n0_; have BK131 := n1_; have GW131 := n2_; have GE131 := n3_; clear n0_ n1_ n2_ n3_; clear hb hbox hg; obtain ⟨hcz9_0, hcz9_1, hcz9_2, hcz9_3, hcz9_4, hcz9_5⟩ := cz6 BK131.out; obtain ⟨hfz9_0, hfz9_1, hfz9_2, hfz9_3, hfz9_4, hfz9_5⟩ := fz6 BK131.out; have p132 : 0 ≤ (a1 : Int) := zP (by assumption); have q132 : a1 < (l0_1.length : Int) := zP (by assumption); obtain ⟨ad132, e132, hx132_0⟩ := Kd.at_int HR0_1.out a1 p132 q132; cases e132; replace hx132_0 := (HB.out.cell (zQ w _ hx132_0)).trans hx132_0; replace p132 := eq_true p132; replace q132 := eq_true q132; have p133 : 0 ≤ (a1 : Int) := zP (by assumption); have q133 : a1 < (l0_3.length : Int) := zP (by assumption); obtain ⟨ad133, e133, hx133_0⟩ := Kd.at_int HR0_3.out a1 p133 q133; cases e133; replace hx133_0 := (HB.out.cell (zQ w _ hx133_0)).trans hx133_0; replace p133 := eq_true p133; replace q133 := eq_true q133; have p134 : 0 ≤ (a1 : Int) := zP (by assumption); have q134 : a1 < (l0_2.length : Int) := zP (by assumption); obtain ⟨ad134, e134, hx134_0⟩ := Kd.at_int HR0_2.out a1 p134 q134; cases e134; replace hx134_0 := (HB.out.cell (zQ w _ hx134_0)).trans hx134_0; replace p134 := eq_true p134; replace q134 := eq_true q134; have p135 : 0 ≤ (a1 : Int) := zP (by assumption); have q135 : a1 < (l0_4.length : Int) := zP (by assumption); obtain ⟨ad135, e135, hx135_0⟩ := Kd.at_int HR0_4.out a1 p135 q135; cases e135; replace hx135_0 := (HB.out.cell (zQ w _ hx135_0)).trans hx135_0; replace p135 := eq_true p135; replace q135 := eq_true q135)))
            go_ret
            exact ⟨by first | rfl | (simp <;> rfl) | (simp [*] <;> rfl), by repeat (first | (with_reducible first | exact HB.out | apply yQ | apply yL | apply yP | refine yE ?_ GE131.out) | exact HB.out)⟩
          · rw [if_neg c7] at H
            exact absurd H (by simp)
        · rw [if_neg c6] at H
          exact absurd H (by simp)
      · rw [if_neg c5] at H
        exact absurd H (by simp)
    · rw [if_neg c4] at H
      exact absurd H (by simp)
  · rw [if_neg c3] at H
    exact absurd H (by simp)

end Go.Proofs.Ytehldidejgpifaa.PFnExactRangeOf
