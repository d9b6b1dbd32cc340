/- Each Go function here comes to what the plain function of its name says, where that says something. Made by a program of this session, over the print. -/
import Derived.Test.YtdiaebjbiddefaaPFnExactSubtractBoxesx0
import Derived.Test.YtdiaebjbiddefaaPFnExactSubtractBoxesx9
namespace Go.Proofs.Ytdiaebjbiddefaa.PFnExactSubtractBoxes
open Go.RowKit Go.Proofs.YtdiaebjbiddefaaW.PrintWords Go.Proofs.YtdiaebjbiddefaaW.PrintLast Go.Proofs.YtdiaebjbiddefaaW.PrintMore
attribute [local go_sem] max2_int min2_int max_two min_two max_three min_three max_four min_four   -- for this text's walks alone
set_option linter.unusedVariables false
set_option linter.unusedSimpArgs false

/-! ### impl_Box: function 131 -/
mutual
def impl_Box.l0 : Nat → List (List (S42)) → Int → List (List (S42)) → Int → Int → Option ((List (S42)))
 | 0, _, _, _, _, _ => none
 | k + 1, x0, x3, x9, x10, x11 => if x11 < x10 then (if 0 ≤ x11 then (if x11 < (x9.length : Int) then (if (wrap64 (x3 + ((rd_L4 x9 x11).length : Int))) < 0 then (none) else (impl_Box.l0 k x0 (wrap64 (x3 + ((rd_L4 x9 x11).length : Int))) x9 x10 (wrap64 (x11 + 1)))) else (none)) else (none)) else ((slices_Grow_nil_900006.f x3).bind fun t286 => (impl_Box.l1 k t286 x0 (x0.length : Int) 0))
def impl_Box.l1 : Nat → List (S42) → List (List (S42)) → Int → Int → Option ((List (S42)))
 | 0, _, _, _, _ => none
 | k + 1, x6, x25, x26, x27 => if x27 < x26 then (if 0 ≤ x27 then (if x27 < (x25.length : Int) then (if x6.length + (rd_L4 x25 x27).length < 2932031007402 then (impl_Box.l1 k (x6 ++ (rd_L4 x25 x27)) x25 x26 (wrap64 (x27 + 1))) else (none)) else (none)) else (none)) else (some x6)
end
def impl_Box.f (k : Nat) (l0 : List (List (S42))) : Option ((List (S42))) := impl_Box.l0 k l0 0 l0 (l0.length : Int) 0
theorem impl_Box.mono_l : ∀ k, (∀ y0 y1 y2 y3 y4, LeO (impl_Box.l0 k y0 y1 y2 y3 y4) (impl_Box.l0 (k + 1) y0 y1 y2 y3 y4)) ∧ (∀ y0 y1 y2 y3, LeO (impl_Box.l1 k y0 y1 y2 y3) (impl_Box.l1 (k + 1) y0 y1 y2 y3))
 | 0 => ⟨fun _ _ _ _ _ r h => by simp [impl_Box.l0] at h, fun _ _ _ _ r h => by simp [impl_Box.l1] at h⟩
 | k + 1 => by
  obtain ⟨ih0, ih1⟩ := impl_Box.mono_l k
  refine ⟨?_, ?_⟩
  · intro y0 y1 y2 y3 y4
    unfold impl_Box.l0
    repeat' (with_reducible first | exact ih0 _ _ _ _ _ | exact ih1 _ _ _ _ | exact LeO.refl _ | exact LeO.none _ | refine LeO.ite ?_ ?_ | refine LeO.bind ?_ (fun _ => ?_))
  · intro y0 y1 y2 y3
    unfold impl_Box.l1
    repeat' (with_reducible first | exact ih0 _ _ _ _ _ | exact ih1 _ _ _ _ | exact LeO.refl _ | exact LeO.none _ | refine LeO.ite ?_ ?_ | refine LeO.bind ?_ (fun _ => ?_))
theorem impl_Box.mono : ∀ a0 k, LeO (impl_Box.f k a0) (impl_Box.f (k + 1) a0) := by
 intro a0 k
 obtain ⟨ih0, ih1⟩ := impl_Box.mono_l k
 unfold impl_Box.f
 repeat' (with_reducible first | exact ih0 _ _ _ _ _ | exact ih1 _ _ _ _ | exact LeO.refl _ | exact LeO.none _ | refine LeO.ite ?_ ?_ | refine LeO.bind ?_ (fun _ => ?_))
set_option maxHeartbeats 8000000 in
set_option maxRecDepth 100000 in
theorem impl_Box.calls (k : Nat) (P0_ : Nat → Prop) (A0 : Option Addr) (c0 : Nat) (l0 : List (List (S42))) (r : List (S42)) (w : World) (hs0 : Kd.V (Kd.slice 42 k42) 24 w w.heap.size (fun k_ => P0_ k_) (.slice A0 l0.length c0) l0) (h : impl_Box.f k l0 = some r) :
 Calls Try.prog 131 #[.slice A0 l0.length c0] w fun e w' => ∃ v0_ : Value, e = .returned (v0_) ∧ Kd.N k42 42 w' w.heap.size (fun k_ => (P0_ k_ ∨ w.heap.size ≤ k_)) v0_ r ∧ Below w.heap.size w w' := by
 have HO0 := yD (show Kd.V (Kd.slice 42 k42) 24 w w.heap.size (fun k_ => (P0_ k_ ∨ w.heap.size ≤ k_)) (.slice A0 l0.length c0) l0 from Kd.V_mono hs0 (fun k_ hk => .inl hk))
 have HB := yD (Below.refl w.heap.size w)
 have H : (impl_Box.l0 k l0 0 l0 (l0.length : Int) 0) = some r := h
 clear h
 have H' := yD H
 clear H; go_enter Try.func131, Try.ntmps131
 go_wp2
 go_loopg [3, 11] k (fun kq v3 v11 w' => ∃ (x3_1 : Int) (x11_1 : Int), v3 = .int .i64 x3_1 ∧ v11 = .int .i64 x11_1 ∧ Aside0 (impl_Box.l0 kq l0 x3_1 l0 (l0.length : Int) x11_1 = some r) ∧ Aside0 (kq ≤ k) ∧ Aside0 (Kd.V (Kd.slice 42 k42) 24 w' w.heap.size (fun k_ => (P0_ k_ ∨ w.heap.size ≤ k_)) (.slice A0 l0.length c0) l0) ∧ Aside0 (Kd.V (Kd.slice 42 k42) 24 w' w.heap.size (fun k_ => (P0_ k_ ∨ w.heap.size ≤ k_)) (.slice A0 l0.length c0) l0) ∧ Aside0 (Below w.heap.size w w'))
 case atStart => exact ⟨(0), (0), (by first | rfl | (simp; done) | (simp [*]; done)), (by first | rfl | (simp; done) | (simp [*]; done)), H', ⟨Nat.le_refl _⟩, ⟨kU HO0⟩, ⟨kU HO0⟩, ⟨kR1 HB⟩⟩
 case round =>
  clear H'
  try clear c1
  obtain ⟨x3_1, x11_1, rfl, rfl, HA, HK1, HO_0, HO_9, HB⟩ := hrel
  cases gk with
  | zero => exact absurd HA.out (by simp [impl_Box.l0])
  | succ k1 =>
   have H := HA.out; clear HA
   simp only [impl_Box.l0] at H
   by_cases c2 : x11_1 < (l0.length : Int)
   ·
    rw [if_pos c2] at H
    have c2b0 : decide (x11_1 < (l0.length : Int)) = true := zR c2; clear c2
    by_cases c3 : 0 ≤ x11_1
    ·
     rw [if_pos c3] at H
     have c3b0 : decide (0 ≤ x11_1) = true := zR c3; clear c3
     by_cases c4 : x11_1 < (l0.length : Int)
     ·
      rw [if_pos c4] at H
      have c4b0 : decide (x11_1 < (l0.length : Int)) = true := zR c4; clear c4
      by_cases c5 : (wrap64 (x3_1 + ((rd_L4 l0 x11_1).length : Int))) < 0
      · rw [if_pos c5] at H
        exact absurd H (by simp)
      ·
       rw [if_neg c5] at H
       have c5b0 : decide ((wrap64 (x3_1 + ((rd_L4 l0 x11_1).length : Int))) < 0) = false := zS c5; clear c5
       have H' := yD H
       clear H
       have p285 : 0 ≤ (x11_1 : Int) := zP (by assumption)
       have q285 : x11_1 < (l0.length : Int) := zP (by assumption)
       obtain ⟨ad285, A285_0, c285_0, e285, hx285_0, hl285_0, hi285_0⟩ := at_L4 (Kd.V_reads' HO_9.out).2.2 x11_1 p285 q285
       cases e285
       obtain ⟨ce285, hce285, hMe285, hcc285⟩ := Kd.V_get HO_9.out [] x11_1 p285 (by first | exact q285 | exact zP (by assumption) | (have e_ := (Kd.V_reads' HO_9.out).1; omega))
       obtain ⟨ua285_0, uc285_0, rfl, ul285_0, ge285_0⟩ := Kd.FK_slice_open hMe285
       have hv285_0 := hcc285 0 _ rfl
       rw [Nat.add_zero, show ((Kd.slice 42 k42)).sz = 1 from rfl, Nat.mul_one] at hv285_0
       replace hv285_0 := Option.some.inj (hv285_0.symm.trans hx285_0)
       injection hv285_0 with hva_ hvn_ hvc_
       rw [hva_] at ge285_0
       rw [hvc_] at ul285_0
       have HL285_0 := yD (show Kd.V k42 42 _ w.heap.size _ _ (rd_L4 l0 x11_1) from Kd.V_mk ul285_0 ge285_0)
       clear hva_ hvn_ hvc_ ge285_0 ul285_0 hcc285 hce285
       have HR285_0 := yD hi285_0
       have HC285_0 := yD hl285_0
       clear hi285_0 hl285_0; replace p285 := eq_true p285; replace q285 := eq_true q285
       go_wp2
       go_roundg k1
       case measure => have := HK1.out; omega
       case rel => exact ⟨(wrap64 (x3_1 + ((rd_L4 l0 x11_1).length : Int))), (wrap64 (x11_1 + 1)), (by first | rfl | (simp; done) | (simp [*]; done)), (by first | rfl | (simp; done) | (simp [*]; done)), H', ⟨by have := HK1.out; omega⟩, ⟨kU HO_0⟩, ⟨kU HO_9⟩, ⟨kR1 HB⟩⟩
     · rw [if_neg c4] at H
       exact absurd H (by simp)
    · rw [if_neg c3] at H
      exact absurd H (by simp)
   ·
    rw [if_neg c2] at H
    have c2b0 : decide (x11_1 < (l0.length : Int)) = false := zS c2; clear c2
    obtain ⟨t286, A60, H⟩ := zW_ H
    replace H : (impl_Box.l1 k1 t286 l0 (l0.length : Int) 0) = some r := H
    have A6 := yD A60
    clear A60
    have H' := yD H
    clear H
    go_wp2_with (first | ((with_reducible refine gate_callee (f := 150) rfl ?_); refine gL 24 Try.func150 #[.slice none 0 0, .int .i64 x3_1] ?_; (with_reducible refine (slices_Grow_nil_900006.calls  x3_1 t286 _ A6.out).mono ?_); rintro e w7 ⟨v287, rfl, ho0, hb⟩; refine ⟨_, rfl, ?_⟩; replace HO_0 := yD (Kd.V_elder' (kU HO_0) (Kd.S_base ho0) hb); replace HO_9 := yD (Kd.V_elder' (kU HO_9) (Kd.S_base ho0) hb); have HO288 := yD (Kd.N_lower (Kd.N_mono (ok' := fun k_ => (P0_ k_ ∨ w.heap.size ≤ k_)) (Kd.S_N (Kd.S_bound ho0)) (fun k_ hk_ => (.inr (Nat.le_trans (below_size (kB HB)) hk_.2.1)))) (below_size (kB HB))); replace HB := yD (zC (kB HB) hb); clear hb ho0))
    (try simp only [Act.put, zH, zI, zJ])
    go_loopg [6, 27] k1 (fun kq v6 v27 w' => ∃ (x6_2 : List (S42)) (x27_2 : Int), v27 = .int .i64 x27_2 ∧ Aside0 (impl_Box.l1 kq x6_2 l0 (l0.length : Int) x27_2 = some r) ∧ Aside0 (kq ≤ k1) ∧ Aside0 (Kd.N k42 42 w' w.heap.size (fun k_ => (P0_ k_ ∨ w.heap.size ≤ k_)) v6 x6_2) ∧ Aside0 (Kd.V (Kd.slice 42 k42) 24 w' w.heap.size (fun k_ => (P0_ k_ ∨ w.heap.size ≤ k_) ∧ oB v6 k_) (.slice A0 l0.length c0) l0) ∧ Aside0 (Below w.heap.size w w'))
    case atStart => exact ⟨(t286), (0), (by first | rfl | (simp; done) | (simp [*]; done)), H', ⟨Nat.le_refl _⟩, ⟨kQ HO288⟩, ⟨kU HO_0⟩, ⟨kR1 HB⟩⟩
    case round =>
     clear H'
     try clear c1; try clear c2; try clear c2b0; try clear c3; try clear c3b0; try clear c4; try clear c4b0; try clear c5; try clear c5b0; try clear hx285_0; try clear p285; try clear q285
     obtain ⟨x6_2, x27_2, rfl, HA, HK2, HO_6, HO_25, HB⟩ := hrel
     cases gk with
     | zero => exact absurd HA.out (by simp [impl_Box.l1])
     | succ k2 =>
      have H := HA.out; clear HA
      simp only [impl_Box.l1] at H
      by_cases c8 : x27_2 < (l0.length : Int)
      ·
       rw [if_pos c8] at H
       have c8b0 : decide (x27_2 < (l0.length : Int)) = true := zR c8; clear c8
       by_cases c9 : 0 ≤ x27_2
       ·
        rw [if_pos c9] at H
        have c9b0 : decide (0 ≤ x27_2) = true := zR c9; clear c9
        by_cases c10 : x27_2 < (l0.length : Int)
        ·
         rw [if_pos c10] at H
         have c10b0 : decide (x27_2 < (l0.length : Int)) = true := zR c10; clear c10
         by_cases c11 : x6_2.length + (rd_L4 l0 x27_2).length < 2932031007402
         ·
          rw [if_pos c11] at H
          have LMc11 := yD c11
          clear c11
          obtain ⟨y290, hy290⟩ : ∃ y_ : List (S42), y_ = (x6_2 ++ (rd_L4 l0 x27_2)) := ⟨_, rfl⟩
          replace H : (impl_Box.l1 k2 y290 l0 (l0.length : Int) (wrap64 (x27_2 + 1))) = some r := by first | (rw [hy290]; with_reducible exact H) | (have H2_ := (Option.bind_some _ _).symm.trans H; rw [hy290]; with_reducible exact H2_) | (have H2_ := (Option.bind_some _ _).symm.trans H; with_reducible exact H2_) | with_reducible exact H | (rw [hy290]; exact H) | exact H
          have Ny290 := yD hy290
          clear hy290
          have H' := yD H
          clear H
          have p289 : 0 ≤ (x27_2 : Int) := zP (by assumption)
          have q289 : x27_2 < (l0.length : Int) := zP (by assumption)
          obtain ⟨ad289, A289_0, c289_0, e289, hx289_0, hl289_0, hi289_0⟩ := at_L4 (Kd.V_reads' HO_25.out).2.2 x27_2 p289 q289
          cases e289
          obtain ⟨ce289, hce289, hMe289, hcc289⟩ := Kd.V_get HO_25.out [] x27_2 p289 (by first | exact q289 | exact zP (by assumption) | (have e_ := (Kd.V_reads' HO_25.out).1; omega))
          obtain ⟨ua289_0, uc289_0, rfl, ul289_0, ge289_0⟩ := Kd.FK_slice_open hMe289
          have hv289_0 := hcc289 0 _ rfl
          rw [Nat.add_zero, show ((Kd.slice 42 k42)).sz = 1 from rfl, Nat.mul_one] at hv289_0
          replace hv289_0 := Option.some.inj (hv289_0.symm.trans hx289_0)
          injection hv289_0 with hva_ hvn_ hvc_
          rw [hva_] at ge289_0
          rw [hvc_] at ul289_0
          have HL289_0 := yD (show Kd.V k42 42 _ w.heap.size _ _ (rd_L4 l0 x27_2) from Kd.V_mk ul289_0 ge289_0)
          clear hva_ hvn_ hvc_ ge289_0 ul289_0 hcc289 hce289
          have HR289_0 := yD hi289_0
          have HC289_0 := yD hl289_0
          clear hi289_0 hl289_0; replace p289 := eq_true p289; replace q289 := eq_true q289
          go_wp2_with (first | ((with_reducible refine gate_builtin (b := .append) (xs := #[.tmp 31, .tmp 32]) rfl ?_); at_builtin; refine Kd.N_append_rows k42 (w0 := w) w.heap.size rfl (.tmp 31) (.tmp 32) 24 42 (.agg #[(.slice none 0 0), (.slice none 0 0)]) 48 rfl Try.underlying24 info42 rfl (by decide) (by omega) u6 x6_2 (rd_L4 l0 x27_2) _ _ _ (fun k_ => (P0_ k_ ∨ w.heap.size ≤ k_)) (fun k_ => ((fun k_ => (P0_ k_ ∨ w.heap.size ≤ k_))) k_ ∧ oB u6 k_) rfl rfl ?aO ?aR (fun _ hk => hk) ?aF ?aB ?aS ?aL ?_; (case aR => exact (by skip; exact Kd.V_F (Kd.V_mono (ok' := (fun k_ => ((fun k_ => (P0_ k_ ∨ w.heap.size ≤ k_))) k_ ∧ oB u6 k_)) (HL289_0.out) (fun k_ hk => ⟨hk.1, hk.2⟩)))); (case aB => exact (kB HB)); (case aF => exact (fun k_ hk => (.inr (Nat.le_trans (below_size (kB HB)) hk)))); (case aO => exact (kQ HO_6)); (case aS => exact (below_size (kB HB))); (case aL => have := LMc11.out; omega); intro v291 w12 ho hb hg hat; rw [← Ny290.out] at ho; replace HO_25 := yD (Kd.V_afterv (ok := (fun k_ => (P0_ k_ ∨ w.heap.size ≤ k_))) (kU HO_25) hg hat); replace HL289_0 := yD (Kd.V_afterv (ok := (fun k_ => (P0_ k_ ∨ w.heap.size ≤ k_))) (kU HL289_0) hg hat); replace HB := yD (hb); have HO292 := yD (ho); clear HO_6; clear ho hb hg hat))
          go_roundg k2
          case measure => have := HK1.out; have := HK2.out; omega
          case rel => exact ⟨(y290), (wrap64 (x27_2 + 1)), (by first | rfl | (simp; done) | (simp [*]; done)), H', ⟨by have := HK1.out; have := HK2.out; omega⟩, ⟨kQ HO292⟩, ⟨kU HO_25⟩, ⟨kR1 HB⟩⟩
         · rw [if_neg c11] at H
           exact absurd H (by simp)
        · rw [if_neg c10] at H
          exact absurd H (by simp)
       · rw [if_neg c9] at H
         exact absurd H (by simp)
      · rw [if_neg c8] at H
        have c8b0 : decide (x27_2 < (l0.length : Int)) = false := zS c8; clear c8; obtain rfl := Option.some.inj H
        go_wp2
        go_ret
        exact ⟨_, by first | rfl | (simp <;> rfl) | (simp [*] <;> rfl), kQ HO_6, kR1 HB⟩

/-! ### impl_rankOf: function 99 -/
def impl_rankOf.l0 : Nat → List (S42) → Int → Int → Option (Int)
 | 0, _, _, _ => none
 | k + 1, x10, x11, x12 => if x12 < x11 then (if 0 ≤ x12 then (if x12 < (x10.length : Int) then (some (((rd_T42 x10 x12).f0).length : Int)) else (none)) else (none)) else (some 0)
def impl_rankOf.f (k : Nat) (l0 : List (S42)) (l1 : List (S42)) : Option (Int) := (impl_Box.f k (([l0, l1] : List (List (S42))))).bind fun t296 => (impl_rankOf.l0 k t296 (t296.length : Int) 0)
theorem impl_rankOf.mono_l : ∀ k, (∀ y0 y1 y2, LeO (impl_rankOf.l0 k y0 y1 y2) (impl_rankOf.l0 (k + 1) y0 y1 y2))
 | 0 => fun _ _ _ r h => by simp [impl_rankOf.l0] at h
 | k + 1 => by
  have ih0 := impl_rankOf.mono_l k
  · intro y0 y1 y2
    unfold impl_rankOf.l0
    repeat' (with_reducible first | exact ih0 _ _ _ | exact impl_Box.mono _ _ | exact LeO.refl _ | exact LeO.none _ | refine LeO.ite ?_ ?_ | refine LeO.bind ?_ (fun _ => ?_))
theorem impl_rankOf.mono : ∀ a0 a1 k, LeO (impl_rankOf.f k a0 a1) (impl_rankOf.f (k + 1) a0 a1) := by
 intro a0 a1 k
 have ih0 := impl_rankOf.mono_l k
 unfold impl_rankOf.f
 repeat' (with_reducible first | exact ih0 _ _ _ | exact impl_Box.mono _ _ | exact LeO.refl _ | exact LeO.none _ | refine LeO.ite ?_ ?_ | refine LeO.bind ?_ (fun _ => ?_))
set_option maxHeartbeats 8000000 in
set_option maxRecDepth 100000 in
theorem impl_rankOf.calls (k : Nat) (P0_ : Nat → Prop) (A0 : Option Addr) (c0 : Nat) (l0 : List (S42)) (P1_ : Nat → Prop) (A1 : Option Addr) (c1 : Nat) (l1 : List (S42)) (r : Int) (w : World) (hs0 : Kd.V k42 42 w w.heap.size (fun k_ => P0_ k_) (.slice A0 l0.length c0) l0) (hs1 : Kd.V k42 42 w w.heap.size (fun k_ => P1_ k_) (.slice A1 l1.length c1) l1) (h : impl_rankOf.f k l0 l1 = some r) :
 Calls Try.prog 99 #[.slice A0 l0.length c0, .slice A1 l1.length c1] w fun e w' => e = .returned (.int .i64 r) ∧ Below w.heap.size w w' := by
 have hu42 := Try.underlying42
 have HO0 := yD (show Kd.V k42 42 w w.heap.size (fun k_ => ((P0_ k_ ∨ P1_ k_) ∨ w.heap.size ≤ k_)) (.slice A0 l0.length c0) l0 from Kd.V_mono hs0 (fun k_ hk => .inl (.inl hk)))
 have HO1 := yD (show Kd.V k42 42 w w.heap.size (fun k_ => ((P0_ k_ ∨ P1_ k_) ∨ w.heap.size ≤ k_)) (.slice A1 l1.length c1) l1 from Kd.V_mono hs1 (fun k_ hk => .inl (.inr hk)))
 have HB := yD (Below.refl w.heap.size w)
 have H : ((impl_Box.f k (([l0, l1] : List (List (S42))))).bind fun t296 => (impl_rankOf.l0 k t296 (t296.length : Int) 0)) = some r := h
 clear h
 obtain ⟨y293, hy293⟩ : ∃ y_ : List (List (S42)), y_ = (([l0, l1] : List (List (S42)))) := ⟨_, rfl⟩
 replace H : ((impl_Box.f k y293).bind fun t296 => (impl_rankOf.l0 k t296 (t296.length : Int) 0)) = some r := by first | (rw [hy293]; with_reducible exact H) | (have H2_ := (Option.bind_some _ _).symm.trans H; rw [hy293]; with_reducible exact H2_) | (have H2_ := (Option.bind_some _ _).symm.trans H; with_reducible exact H2_) | with_reducible exact H | (rw [hy293]; exact H) | exact H
 have Ny293 := yD hy293
 clear hy293
 obtain ⟨t296, A30, H⟩ := zW_ H
 replace H : (impl_rankOf.l0 k t296 (t296.length : Int) 0) = some r := H
 have A3 := yD A30
 clear A30
 have H' := yD H
 clear H; go_enter Try.func99, Try.ntmps99
 go_wp2_with (first | ((with_reducible refine gate_dst (N := 9) rfl ?_); refine Kd.N_lit (Kd.slice 42 k42) _ 24 ?hg (N' := 9) ?hd (xs := ([l0, l1] : List (List (S42)))) (inner := [.slice A0 l0.length c0, .slice A1 l1.length c1]) (ok := (fun k_ => ((P0_ k_ ∨ P1_ k_) ∨ w.heap.size ≤ k_))) (okp := (fun k_ => ((P0_ k_ ∨ P1_ k_) ∨ w.heap.size ≤ k_))) ?hr ?hp (fun _ hk => hk) ((show ∀ k_, w.heap.size ≤ k_ → (fun k_ => ((P0_ k_ ∨ P1_ k_) ∨ w.heap.size ≤ k_)) k_ from fun k_ hk => (.inr (Nat.le_trans (below_size (kB HB)) hk))) _ (Nat.le_refl _)) (Below.refl _ _) (Nat.le_refl _) (by simp) ?_; (case hd => rfl); (case hg => rfl); (case hr => first | (go_simp; done) | (go_simp; rfl)); (case hp => exact (Reps.one (show Kd.FK (Kd.slice 42 k42) _ _ l0 [.slice A0 l0.length c0] from (Kd.FK_slice_mk (Kd.V_reads' (Kd.V_mono (ok' := (fun k_ => ((P0_ k_ ∨ P1_ k_) ∨ w.heap.size ≤ k_))) (HO0.out) (fun k_ hk => hk))).2.1 (Kd.V_F (Kd.V_mono (ok' := (fun k_ => ((P0_ k_ ∨ P1_ k_) ∨ w.heap.size ≤ k_))) (HO0.out) (fun k_ hk => hk))))) (Reps.one (show Kd.FK (Kd.slice 42 k42) _ _ l1 [.slice A1 l1.length c1] from (Kd.FK_slice_mk (Kd.V_reads' (Kd.V_mono (ok' := (fun k_ => ((P0_ k_ ∨ P1_ k_) ∨ w.heap.size ≤ k_))) (HO1.out) (fun k_ hk => hk))).2.1 (Kd.V_F (Kd.V_mono (ok' := (fun k_ => ((P0_ k_ ∨ P1_ k_) ∨ w.heap.size ≤ k_))) (HO1.out) (fun k_ hk => hk))))) (Reps.none _ _)))); intro v294 w4 ho5 hb hg_ hnew_; clear hg_ hnew_; (first | rw [← Ny293.out] at ho5 | (simp only [Int.reduceToNat] at ho5; rw [← Ny293.out] at ho5)); replace HO0 := yD (Kd.V_elder' (kU HO0) (Kd.N_base ho5) hb); replace HO1 := yD (Kd.V_elder' (kU HO1) (Kd.N_base ho5) hb); have HO295 := yD (Kd.N_lower ho5 (below_size (kB HB))); replace HB := yD (zC (kB HB) hb); clear hb ho5; obtain ⟨Ao6, co6, eo6⟩ := Kd.N_slice HO295.out; subst eo6) | ((with_reducible refine gate_callee (f := 131) rfl ?_); refine gL 10 Try.func131 #[.slice Ao6 y293.length co6] ?_; (with_reducible refine (impl_Box.calls k (fun k_ => ((P0_ k_ ∨ P1_ k_) ∨ w.heap.size ≤ k_)) _ _ y293 t296 _ ?side1 A3.out).mono ?_); (case side1 => exact Kd.N_V (HO295.out)); rintro e w7 ⟨v297, rfl, ho0, hb⟩; refine ⟨_, rfl, ?_⟩; replace HO0 := yD (Kd.V_elder' (kU HO0) (Kd.N_base ho0) hb); replace HO1 := yD (Kd.V_elder' (kU HO1) (Kd.N_base ho0) hb); replace HO295 := yD (Kd.N_elder' (kQ HO295) (Kd.N_base ho0) hb); have HO298 := yD (Kd.N_lower (Kd.N_mono (ok' := fun k_ => ((P0_ k_ ∨ P1_ k_) ∨ w.heap.size ≤ k_)) ho0 (fun k_ hk_ => Or.elim hk_ (fun hs_ => hs_) (fun hn_ => (.inr (Nat.le_trans (below_size (kB HB)) hn_))))) (below_size (kB HB))); replace HB := yD (zC (kB HB) hb); clear hb ho0; obtain ⟨Ao8, co8, eo8⟩ := Kd.N_slice HO298.out; subst eo8))
 (try simp only [Act.put, zH, zI, zJ])
 go_loopg [12] k (fun kq v12 w' => ∃ (x12_1 : Int), v12 = .int .i64 x12_1 ∧ Aside0 (impl_rankOf.l0 kq t296 (t296.length : Int) x12_1 = some r) ∧ Aside0 (kq ≤ k) ∧ Aside0 (Kd.N k42 42 w' w.heap.size (fun k_ => ((P0_ k_ ∨ P1_ k_) ∨ w.heap.size ≤ k_)) (.slice Ao8 t296.length co8) t296) ∧ Aside0 (Below w.heap.size w w'))
 case atStart => exact ⟨(0), (by first | rfl | (simp; done) | (simp [*]; done)), H', ⟨Nat.le_refl _⟩, ⟨kQ HO298⟩, ⟨kR1 HB⟩⟩
 case round =>
  clear H'
  try clear c1
  obtain ⟨x12_1, rfl, HA, HK1, HO_10, HB⟩ := hrel
  cases gk with
  | zero => exact absurd HA.out (by simp [impl_rankOf.l0])
  | succ k1 =>
   have H := HA.out; clear HA
   simp only [impl_rankOf.l0] at H
   by_cases c9 : x12_1 < (t296.length : Int)
   ·
    rw [if_pos c9] at H
    have c9b0 : decide (x12_1 < (t296.length : Int)) = true := zR c9; clear c9
    by_cases c10 : 0 ≤ x12_1
    ·
     rw [if_pos c10] at H
     have c10b0 : decide (0 ≤ x12_1) = true := zR c10; clear c10
     by_cases c11 : x12_1 < (t296.length : Int)
     ·
      rw [if_pos c11] at H
      have c11b0 : decide (x12_1 < (t296.length : Int)) = true := zR c11; clear c11; obtain rfl := Option.some.inj H
      have p299 : 0 ≤ (x12_1 : Int) := zP (by assumption)
      have q299 : x12_1 < (t296.length : Int) := zP (by assumption)
      obtain ⟨ad299, A299_0, c299_0, A299_1, c299_1, e299, hx299_0, hx299_1, hl299_0, hi299_0, hl299_1, hi299_1⟩ := at_T42 (Kd.N_reads' HO_10.out).2.2 x12_1 p299 q299
      cases e299
      obtain ⟨ce299, hce299, hMe299, hcc299⟩ := Kd.N_get HO_10.out z42 x12_1 p299 (by first | exact q299 | exact zP (by assumption) | (have e_ := (Kd.N_reads' HO_10.out).1; omega))
      obtain ⟨ua299_0, uc299_0, ua299_1, uc299_1, rfl, ul299_0, ge299_0, ul299_1, ge299_1⟩ := k42_openF hMe299
      have hv299_0 := hcc299 0 _ rfl
      rw [Nat.add_zero] at hv299_0
      replace hv299_0 := Option.some.inj (hv299_0.symm.trans hx299_0)
      injection hv299_0 with hva_ hvn_ hvc_
      rw [hva_] at ge299_0
      rw [hvc_] at ul299_0
      have HL299_0 := yD (show Kd.V (Kd.int .i64) 2 _ w.heap.size _ _ ((rd_T42 t296 x12_1).f0) from Kd.V_mk ul299_0 ge299_0)
      clear hva_ hvn_ hvc_ ge299_0 ul299_0
      have hv299_1 := hcc299 1 _ rfl
      rw [add_field _ _ 1 (by omega)] at hv299_1
      replace hv299_1 := Option.some.inj (hv299_1.symm.trans hx299_1)
      injection hv299_1 with hva_ hvn_ hvc_
      rw [hva_] at ge299_1
      rw [hvc_] at ul299_1
      have HL299_1 := yD (show Kd.V (Kd.int .i64) 2 _ w.heap.size _ _ ((rd_T42 t296 x12_1).f1) from Kd.V_mk ul299_1 ge299_1)
      clear hva_ hvn_ hvc_ ge299_1 ul299_1 hcc299 hce299
      have HR299_0 := yD hi299_0
      have HC299_0 := yD hl299_0
      clear hi299_0 hl299_0
      have HR299_1 := yD hi299_1
      have HC299_1 := yD hl299_1
      clear hi299_1 hl299_1; replace p299 := eq_true p299; replace q299 := eq_true q299
      go_wp2_with (first | ((with_reducible refine gate_dst (N := 6) rfl ?_); refine box_event ?hg (N := 6) ?hd (cs := #[.slice none 0 0, .slice none 0 0]) (t := 42) ?hr ?_; (case hd => rfl); (case hg => rfl); (case hr => first | (go_simp; done) | (go_simp; rfl)); intro gb300 hg w12 hbox hb; replace HO_10 := yD (Kd.N_below (Kd.N_elderB (kQ HO_10) gb300 (Nat.le_of_eq hg.symm)) hb); replace HL299_0 := yD (Kd.V_below (Kd.V_elderB (kU HL299_0) gb300 (Nat.le_of_eq hg.symm)) hb); replace HL299_1 := yD (Kd.V_below (Kd.V_elderB (kU HL299_1) gb300 (Nat.le_of_eq hg.symm)) hb); replace HR299_0 := yD (yY (by repeat (first | (with_reducible exact HR299_0.out) | (with_reducible first | refine yV ?_ _ | refine yW ?_ _ | refine yX ?_) | exact HR299_0.out)) hb); replace HR299_1 := yD (yY (by repeat (first | (with_reducible exact HR299_1.out) | (with_reducible first | refine yV ?_ _ | refine yW ?_ _ | refine yX ?_) | exact HR299_1.out)) hb); have BK300 := yD (hbox); have GW300 := yD ((by rw [hg]; exact (below_size (kB HB)) : w.heap.size ≤ gb300)); have GE300 := yD ((by rw [hg]; exact (below_size (kB HB)) : w.heap.size ≤ gb300)); replace HB := yD (zC (kB HB) hb); clear hb hbox hg; obtain ⟨hcz13_0, hcz13_1⟩ := cz2 BK300.out; obtain ⟨hfz13_0, hfz13_1⟩ := fz2 BK300.out))
      go_ret
      exact ⟨by first | rfl | (simp <;> rfl) | (simp [*] <;> rfl), kR0 HB⟩
     · rw [if_neg c11] at H
       exact absurd H (by simp)
    · rw [if_neg c10] at H
      exact absurd H (by simp)
   · rw [if_neg c9] at H
     have c9b0 : decide (x12_1 < (t296.length : Int)) = false := zS c9; clear c9; obtain rfl := Option.some.inj H
     go_wp2
     go_ret
     exact ⟨by first | rfl | (simp <;> rfl) | (simp [*] <;> rfl), kR1 HB⟩

/-! ### impl_without: function 59 -/
def impl_without.f (a0 : Bool) (a1 : Bool) : Option (Bool) := if a0 = true then (some (!a1)) else (some false)
set_option maxHeartbeats 8000000 in
set_option maxRecDepth 100000 in
theorem impl_without.calls (a0 : Bool) (a1 : Bool) (r : Bool) (w : World) (h : impl_without.f a0 a1 = some r) :
 Calls Try.prog 59 #[.bool a0, .bool a1] w fun e w' => e = .returned (.bool r) ∧ Drawn0 w w' := by
 have H : (if a0 = true then (some (!a1)) else (some false)) = some r := h
 clear h
 by_cases c3 : a0 = true
 · subst c3
   replace H : (some (!a1)) = some r := (by rw [if_pos rfl] at H; exact H); obtain rfl := Option.some.inj H; go_enter Try.func59, Try.ntmps59
   go_wp2
   go_ret
   exact ⟨by first | rfl | (simp; done) | (simp [*]; done), by repeat (first | exact Drawn0.refl _ | apply Drawn0.step)⟩
 ·
  replace c3 := Bool.eq_false_iff.mpr c3
  subst c3
  replace H : (some false) = some r := (by rw [if_neg (show ¬ (false = true) by decide)] at H; exact H); obtain rfl := Option.some.inj H; go_enter Try.func59, Try.ntmps59
  go_wp2
  go_ret
  exact ⟨by first | rfl | (simp; done) | (simp [*]; done), by repeat (first | exact Drawn0.refl _ | apply Drawn0.step)⟩

/-! ### impl_within: function 106 -/
def impl_within.f (a0 : Int) (a1 : Int) (a2 : Int) : Option (Bool) := if a0 ≥ a1 then (some (decide (a0 ≤ a2))) else (some false)
set_option maxHeartbeats 8000000 in
set_option maxRecDepth 100000 in
theorem impl_within.calls (a0 : Int) (a1 : Int) (a2 : Int) (r : Bool) (w : World) (h : impl_within.f a0 a1 a2 = some r) :
 Calls Try.prog 106 #[.int .i64 a0, .int .i64 a1, .int .i64 a2] w fun e w' => e = .returned (.bool r) ∧ Drawn0 w w' := by
 have H : (if a0 ≥ a1 then (some (decide (a0 ≤ a2))) else (some false)) = some r := h
 clear h
 by_cases c4 : a0 ≥ a1
 · rw [if_pos c4] at H
   have c4b0 : decide (a1 ≤ a0) = true := zR c4; clear c4; obtain rfl := Option.some.inj H; go_enter Try.func106, Try.ntmps106
   go_wp2
   go_ret
   exact ⟨by first | rfl | (simp; done) | (simp [*]; done), by repeat (first | exact Drawn0.refl _ | apply Drawn0.step)⟩
 ·
  rw [if_neg c4] at H
  have c4b0 : decide (a1 ≤ a0) = false := zS c4; clear c4; obtain rfl := Option.some.inj H; go_enter Try.func106, Try.ntmps106
  go_wp2
  go_ret
  exact ⟨by first | rfl | (simp; done) | (simp [*]; done), by repeat (first | exact Drawn0.refl _ | apply Drawn0.step)⟩

end Go.Proofs.Ytdiaebjbiddefaa.PFnExactSubtractBoxes
