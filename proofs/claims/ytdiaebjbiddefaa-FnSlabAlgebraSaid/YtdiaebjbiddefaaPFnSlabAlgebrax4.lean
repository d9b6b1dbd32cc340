/- Each Go function here comes to what the plain function of its name says, where that says something. Made by a program of this session, over the print. -/
import Derived.Test.YtdiaebjbiddefaaPFnSlabAlgebrax0
import Derived.Test.YtdiaebjbiddefaaPFnSlabAlgebrax3
namespace Go.Proofs.Ytdiaebjbiddefaa.PFnSlabAlgebra
open Go.RowKit Go.Proofs.YtdiaebjbiddefaaW.PrintWords Go.Proofs.YtdiaebjbiddefaaW.PrintLast Go.Proofs.YtdiaebjbiddefaaW.PrintMore
attribute [local go_sem] max2_int min2_int max_two min_two max_three min_three max_four min_four   -- for this text's walks alone
set_option linter.unusedVariables false
set_option linter.unusedSimpArgs false

/-! ### impl_SubtractBoxes: function 25 -/
def impl_SubtractBoxes.f (k : Nat) (l0 : List (S42)) (l1 : List (S42)) : Option ((List (S42)) × Int) := (impl_combine_impl_without.f k l0 l1).bind fun bt360 => (some (bt360.1, bt360.2))
theorem impl_SubtractBoxes.mono : ∀ a0 a1 k, LeO (impl_SubtractBoxes.f k a0 a1) (impl_SubtractBoxes.f (k + 1) a0 a1) := by
 intro a0 a1 k
 unfold impl_SubtractBoxes.f
 repeat' (with_reducible first | exact impl_combine_impl_without.mono _ _ _ | exact LeO.refl _ | exact LeO.none _ | refine LeO.ite ?_ ?_ | refine LeO.bind ?_ (fun _ => ?_))
set_option maxHeartbeats 8000000 in
set_option maxRecDepth 100000 in
theorem impl_SubtractBoxes.calls (k : Nat) (A0 : Option Addr) (c0 : Nat) (l0 : List (S42)) (A1 : Option Addr) (c1 : Nat) (l1 : List (S42)) (r1 : List (S42)) (r2 : Int) (w : World) (hr0 : Kd.C k42 w A0 l0.length l0) (hc0 : l0.length ≤ c0) (hr1 : Kd.C k42 w A1 l1.length l1) (hc1 : l1.length ≤ c1) (h : impl_SubtractBoxes.f k l0 l1 = some (r1, r2)) :
 Calls Try.prog 25 #[.slice A0 l0.length c0, .slice A1 l1.length c1] w fun e w' => ∃ v0_ : Value, e = .returned (.tuple #[v0_, .int .i64 r2]) ∧ Kd.S k42 42 w' w.heap.size (fun _ => True) v0_ r1 ∧ Below w.heap.size w w' := by
 have HR0 := yD hr0
 have HC0 := yD hc0
 clear hr0 hc0
 have HR1 := yD hr1
 have HC1 := yD hc1
 clear hr1 hc1
 have HB := yD (Below.refl w.heap.size w)
 have H : ((impl_combine_impl_without.f k l0 l1).bind fun bt360 => (some (bt360.1, bt360.2))) = some (r1, r2) := h
 clear h
 obtain ⟨⟨t360, t363⟩, A30, H⟩ := zW_ H
 replace H : (some (t360, t363)) = some (r1, r2) := H
 have A3 := yD A30
 clear A30
 simp only [Option.some.injEq, Prod.mk.injEq] at H
 obtain ⟨rfl, rfl⟩ := H
 go_enter Try.func25, Try.ntmps25
 go_wp2_with (first | ((with_reducible refine gate_callee (f := 56) rfl ?_); refine gL 8 Try.func56 #[.slice A0 l0.length c0, .slice A1 l1.length c1, .func (.func 59) #[] #[]] ?_; (with_reducible refine (impl_combine_impl_without.calls k _ _ l0 _ _ l1  t360 t363 _ ?side1 ?side2 ?side3 ?side4 A3.out).mono ?_); (case side1 => repeat (first | exact HR0.out | (with_reducible first | refine yV ?_ _ | refine yW ?_ _ | refine yX ?_))); (case side2 => exact HC0.out); (case side3 => repeat (first | exact HR1.out | (with_reducible first | refine yV ?_ _ | refine yW ?_ _ | refine yX ?_))); (case side4 => exact HC1.out); rintro e w4 ⟨v361, rfl, ho0, hb⟩; refine ⟨_, rfl, ?_⟩; have HO362 := yD (zG ho0 (below_size (kB HB))); replace HB := yD (zC (kB HB) hb); clear hb ho0))
 go_ret2
 exact ⟨_, by first | rfl | (simp <;> rfl) | (simp [*] <;> rfl), kS HO362, kR0 HB⟩

/-! ### spec_l00In: function 92 -/
def spec_l00In.f (a0 : Int) (a1 : Int) (a2 : Int) : Option (Bool) := if a0 ≥ a1 then (some (decide (a0 ≤ a2))) else (some false)
set_option maxHeartbeats 8000000 in
set_option maxRecDepth 100000 in
theorem spec_l00In.calls (a0 : Int) (a1 : Int) (a2 : Int) (r : Bool) (w : World) (h : spec_l00In.f a0 a1 a2 = some r) :
 Calls Try.prog 92 #[.int .i64 a0, .int .i64 a1, .int .i64 a2] w fun e w' => e = .returned (.bool r) ∧ Drawn0 w w' := by
 have H : (if a0 ≥ a1 then (some (decide (a0 ≤ a2))) else (some false)) = some r := h
 clear h
 by_cases c4 : a0 ≥ a1
 · rw [if_pos c4] at H
   have c4b0 : decide (a1 ≤ a0) = true := zR c4; clear c4; obtain rfl := Option.some.inj H; go_enter Try.func92, Try.ntmps92
   go_wp2
   go_ret
   exact ⟨by first | rfl | (simp; done) | (simp [*]; done), by repeat (first | exact Drawn0.refl _ | apply Drawn0.step)⟩
 ·
  rw [if_neg c4] at H
  have c4b0 : decide (a1 ≤ a0) = false := zS c4; clear c4; obtain rfl := Option.some.inj H; go_enter Try.func92, Try.ntmps92
  go_wp2
  go_ret
  exact ⟨by first | rfl | (simp; done) | (simp [*]; done), by repeat (first | exact Drawn0.refl _ | apply Drawn0.step)⟩

/-! ### spec_l07Box: function 108 -/
mutual
def spec_l07Box.j0 : Nat → Bool → List Int → List Int → Option (Bool)
 | 0, _, _, _ => none
 | k + 1, x16, x365000, x365001 => if x16 = true then (some false) else (spec_l07Box.l0 k 0 x365000 x365001)
def spec_l07Box.l0 : Nat → Int → List Int → List Int → Option (Bool)
 | 0, _, _, _ => none
 | k + 1, x3, x365000, x365001 => if x3 < (x365000.length : Int) then (if 0 ≤ x3 then (if x3 < (x365001.length : Int) then ((spec_l00In.f (rd x365001 x3) 1 40).bind fun t366 => (if t366 = true then ((spec_l00In.f (rd x365000 x3) 0 (wrap64 ((rd x365001 x3) - 1))).bind fun t369 => (if t369 = true then (spec_l07Box.l0 k (wrap64 (x3 + 1)) x365000 x365001) else (some false))) else (some false))) else (none)) else (none)) else (some true)
end
def spec_l07Box.f (k : Nat) (l0_0 : List Int) (l0_1 : List Int) : Option (Bool) := if (l0_0.length : Int) > 3 then (spec_l07Box.j0 k true l0_0 l0_1) else (spec_l07Box.j0 k ((l0_1.length : Int) != (l0_0.length : Int)) l0_0 l0_1)
theorem spec_l07Box.mono_l : ∀ k, (∀ y0 y1 y2, LeO (spec_l07Box.j0 k y0 y1 y2) (spec_l07Box.j0 (k + 1) y0 y1 y2)) ∧ (∀ y0 y1 y2, LeO (spec_l07Box.l0 k y0 y1 y2) (spec_l07Box.l0 (k + 1) y0 y1 y2))
 | 0 => ⟨fun _ _ _ r h => by simp [spec_l07Box.j0] at h, fun _ _ _ r h => by simp [spec_l07Box.l0] at h⟩
 | k + 1 => by
  obtain ⟨ih0, ih1⟩ := spec_l07Box.mono_l k
  refine ⟨?_, ?_⟩
  · intro y0 y1 y2
    unfold spec_l07Box.j0
    repeat' (with_reducible first | exact ih0 _ _ _ | exact ih1 _ _ _ | exact LeO.refl _ | exact LeO.none _ | refine LeO.ite ?_ ?_ | refine LeO.bind ?_ (fun _ => ?_))
  · intro y0 y1 y2
    unfold spec_l07Box.l0
    repeat' (with_reducible first | exact ih0 _ _ _ | exact ih1 _ _ _ | exact LeO.refl _ | exact LeO.none _ | refine LeO.ite ?_ ?_ | refine LeO.bind ?_ (fun _ => ?_))
theorem spec_l07Box.mono : ∀ a0 a1 k, LeO (spec_l07Box.f k a0 a1) (spec_l07Box.f (k + 1) a0 a1) := by
 intro a0 a1 k
 obtain ⟨ih0, ih1⟩ := spec_l07Box.mono_l k
 unfold spec_l07Box.f
 repeat' (with_reducible first | exact ih0 _ _ _ | exact ih1 _ _ _ | exact LeO.refl _ | exact LeO.none _ | refine LeO.ite ?_ ?_ | refine LeO.bind ?_ (fun _ => ?_))
def spec_l07Box.T6 : Bool × List (List Nat × List Nat) := (true, [([], []), ([0], [0]), ([], []), ([1, 2], [1, 2]), ([3], [3]), ([4], [4]), ([5], [5]), ([6, 5], [6]), ([7], [7]), ([8, 7], [7, 8]), ([7], [7]), ([9, 10, 7], [7, 9, 10]), ([11, 7], [7, 11]), ([7], [7]), ([13, 7], [7, 13]), ([7], [7]), ([14, 15, 7], [7, 14, 15]), ([16, 7], [7, 16]), ([17, 7], [7, 17]), ([12, 18, 7, 7], [7, 12, 18]), ([19, 7], [7, 19]), ([7, 20], [7, 20])])
def spec_l07Box.B6 : List Nat := [0, 1, 0, 7, 15, 31, 63, 127, 255, 511, 255, 2047, 4095, 255, 8447, 255, 57599, 123135, 254207, 524287, 1048575, 2097151]
theorem spec_l07Box.tab6 : rtab .any (opsOf Try.f108 6) = spec_l07Box.T6 := by kernel_rfl
theorem spec_l07Box.bits6 : waitsOk spec_l07Box.T6.2 spec_l07Box.B6 = true := by kernel_rfl
set_option maxHeartbeats 8000000 in
set_option maxRecDepth 100000 in
theorem spec_l07Box.calls (k : Nat) (A0_0 : Option Addr) (c0_0 : Nat) (l0_0 : List Int) (A0_1 : Option Addr) (c0_1 : Nat) (l0_1 : List Int) (r : Bool) (w : World) (hr0_0 : Kd.C (Kd.int .i64) w A0_0 l0_0.length l0_0) (hc0_0 : l0_0.length ≤ c0_0) (hr0_1 : Kd.C (Kd.int .i64) w A0_1 l0_1.length l0_1) (hc0_1 : l0_1.length ≤ c0_1) (h : spec_l07Box.f k l0_0 l0_1 = some r) :
 Calls Try.prog 108 #[.agg #[.slice A0_0 l0_0.length c0_0, .slice A0_1 l0_1.length c0_1]] w fun e w' => e = .returned (.bool r) ∧ Below w.heap.size w w' := by
 have hu42 := Try.underlying42
 have HR0_0 := yD hr0_0
 have HC0_0 := yD hc0_0
 clear hr0_0 hc0_0
 have HR0_1 := yD hr0_1
 have HC0_1 := yD hc0_1
 clear hr0_1 hc0_1
 have HB := yD (Below.refl w.heap.size w)
 have H : (if (l0_0.length : Int) > 3 then (spec_l07Box.j0 k true l0_0 l0_1) else (spec_l07Box.j0 k ((l0_1.length : Int) != (l0_0.length : Int)) l0_0 l0_1)) = some r := h
 clear h
 have HC2 := yD H
 clear H; go_enter Try.func108, Try.ntmps108
 go_upto_region 1 with (first | ((with_reducible refine gate_dst (N := 1) rfl ?_); (try (refine gate_guard (by rfl) ?_; dsimp only)); refine box_event ?hg (N := 1) ?hd (cs := #[.slice A0_0 l0_0.length c0_0, .slice A0_1 l0_1.length c0_1]) (t := 42) ?hr ?_; (case hd => rfl); (case hg => rfl); (case hr => first | (go_simp; done) | (go_simp; rfl)); intro gb364 hg w3 hbox hb; have BK364 := yD (hbox); have GW364 := yD ((by rw [hg]; exact (below_size (kB HB)) : w.heap.size ≤ gb364)); have GE364 := yD ((by rw [hg]; exact (below_size (kB HB)) : w.heap.size ≤ gb364)); replace HB := yD (zC (kB HB) hb); clear hb hbox hg))
 (try simp only [Act.put, zH, zI, zJ])
 go_cut [16] (fun v16 wc => ∃ (kq : Nat) (x16_1 : Bool), v16 = .bool x16_1 ∧ Aside0 (spec_l07Box.j0 kq x16_1 l0_0 l0_1 = some r) ∧ Aside0 (kq ≤ k) ∧ Aside0 (wc.heap[gb364]? = some (.cells #[(.slice A0_0 l0_0.length c0_0), (.slice A0_1 l0_1.length c0_1)] 42 (0, 0))) ∧ Aside0 (Below w.heap.size w wc))
 case first =>
  have H := HC2.out; clear HC2
  by_cases c4 : (l0_0.length : Int) > 3
  ·
   rw [if_pos c4] at H
   have c4b0 : decide (3 < (l0_0.length : Int)) = true := zR c4
   have c4b1 : decide (3 < l0_0.length) = true := zR (by omega)
   clear c4
   (first | rw [c4b0] | (simp only [i64_w, i32_w]; rw [c4b0]) | (simp only [bne] at c4b0; rw [c4b0]) | skip)
   have H' := yD H
   clear H
   obtain ⟨hcz5_0, hcz5_1⟩ := cz2 BK364.out
   obtain ⟨hfz5_0, hfz5_1⟩ := fz2 BK364.out
   go_wp2
   go_meet
   case rel => exact ⟨_, (true), (by first | rfl | (simp; done) | (simp [*]; done)), H', ⟨by first | omega | exact Nat.le_refl _⟩, ⟨kM BK364⟩, ⟨kR1 HB⟩⟩
  ·
   rw [if_neg c4] at H
   have c4b0 : decide (3 < (l0_0.length : Int)) = false := zS c4
   have c4b1 : decide (3 < l0_0.length) = false := zS (by omega)
   clear c4
   (first | rw [c4b0] | (simp only [i64_w, i32_w]; rw [c4b0]) | (simp only [bne] at c4b0; rw [c4b0]) | skip)
   have H' := yD H
   clear H
   obtain ⟨hcz6_0, hcz6_1⟩ := cz2 BK364.out
   obtain ⟨hfz6_0, hfz6_1⟩ := fz2 BK364.out
   go_wp2
   go_meet
   case rel => exact ⟨_, (((l0_1.length : Int) != (l0_0.length : Int))), (by first | rfl | (simp; done) | (simp [*]; done)), H', ⟨by first | omega | exact Nat.le_refl _⟩, ⟨kM BK364⟩, ⟨kR1 HB⟩⟩
 case rest =>
  clear HC2; try clear c4; try clear c4b0; try clear c4b1; try clear hcz5_0; try clear hcz5_1; try clear hcz6_0; try clear hcz6_1; try clear hfz5_0; try clear hfz5_1; try clear hfz6_0; try clear hfz6_1
  obtain ⟨kq, x16_1, rfl, HA, HJ1, BK364, HB⟩ := hcut
  cases kq with
  | zero => exact absurd HA.out (by simp [spec_l07Box.j0])
  | succ kj1 =>
   have H := HA.out; clear HA
   simp only [spec_l07Box.j0] at H
   by_cases c7 : x16_1 = true
   · subst c7
     replace H : (some false) = some r := (by rw [if_pos rfl] at H; exact H); obtain rfl := Option.some.inj H
     go_wp2
     go_ret
     exact ⟨by first | rfl | (simp <;> rfl) | (simp [*] <;> rfl), kR1 HB⟩
   ·
    replace c7 := Bool.eq_false_iff.mpr c7
    subst c7
    replace H : (spec_l07Box.l0 kj1 0 l0_0 l0_1) = some r := (by rw [if_neg (show ¬ (false = true) by decide)] at H; exact H)
    have H' := yD H
    clear H
    go_wp2
    go_loopg [3] kj1 (fun kq v3 w' => ∃ (x3_2 : Int), v3 = .int .i64 x3_2 ∧ Aside0 (spec_l07Box.l0 kq x3_2 l0_0 l0_1 = some r) ∧ Aside0 (kq ≤ kj1) ∧ Aside0 (w'.heap[gb364]? = some (.cells #[(.slice A0_0 l0_0.length c0_0), (.slice A0_1 l0_1.length c0_1)] 42 (0, 0))) ∧ Aside0 (Below w.heap.size w w'))
    case atStart => exact ⟨(0), (by first | rfl | (simp; done) | (simp [*]; done)), H', ⟨Nat.le_refl _⟩, ⟨kM BK364⟩, ⟨kR1 HB⟩⟩
    case round =>
     clear H'
     try clear c1; try clear c4; try clear c4b0; try clear c4b1; try clear c7; try clear hcz5_0; try clear hcz5_1; try clear hcz6_0; try clear hcz6_1; try clear hfz5_0; try clear hfz5_1; try clear hfz6_0; try clear hfz6_1
     obtain ⟨x3_2, rfl, HA, HK2, BK364, HB⟩ := hrel
     cases gk with
     | zero => exact absurd HA.out (by simp [spec_l07Box.l0])
     | succ k2 =>
      have H := HA.out; clear HA
      simp only [spec_l07Box.l0] at H
      by_cases c8 : x3_2 < (l0_0.length : Int)
      ·
       rw [if_pos c8] at H
       have c8b0 : decide (x3_2 < (l0_0.length : Int)) = true := zR c8; clear c8
       by_cases c9 : 0 ≤ x3_2
       ·
        rw [if_pos c9] at H
        have c9b0 : decide (0 ≤ x3_2) = true := zR c9; clear c9
        by_cases c10 : x3_2 < (l0_1.length : Int)
        ·
         rw [if_pos c10] at H
         have c10b0 : decide (x3_2 < (l0_1.length : Int)) = true := zR c10; clear c10
         obtain ⟨t366, A110, H⟩ := zW_ H
         replace H : (if t366 = true then ((spec_l00In.f (rd l0_0 x3_2) 0 (wrap64 ((rd l0_1 x3_2) - 1))).bind fun t369 => (if t369 = true then (spec_l07Box.l0 k2 (wrap64 (x3_2 + 1)) l0_0 l0_1) else (some false))) else (some false)) = some r := H
         have A11 := yD A110
         clear A110
         by_cases c12 : t366 = true
         ·
          subst c12
          replace H : ((spec_l00In.f (rd l0_0 x3_2) 0 (wrap64 ((rd l0_1 x3_2) - 1))).bind fun t369 => (if t369 = true then (spec_l07Box.l0 k2 (wrap64 (x3_2 + 1)) l0_0 l0_1) else (some false))) = some r := (by rw [if_pos rfl] at H; exact H)
          obtain ⟨t369, A130, H⟩ := zW_ H
          replace H : (if t369 = true then (spec_l07Box.l0 k2 (wrap64 (x3_2 + 1)) l0_0 l0_1) else (some false)) = some r := H
          have A13 := yD A130
          clear A130
          by_cases c14 : t369 = true
          ·
           subst c14
           replace H : (spec_l07Box.l0 k2 (wrap64 (x3_2 + 1)) l0_0 l0_1) = some r := (by rw [if_pos rfl] at H; exact H)
           have H' := yD H
           clear H
           obtain ⟨hcz15_0, hcz15_1⟩ := cz2 BK364.out
           obtain ⟨hfz15_0, hfz15_1⟩ := fz2 BK364.out
           try go_wp2
           have n0_ := yD (yO BK364.out)
           have n1_ := yD (yP HB.out)
           clear BK364 HB; have BK364 := n0_; have HB := n1_; clear n0_ n1_
           have p365 : 0 ≤ (x3_2 : Int) := zP (by assumption)
           have q365 : x3_2 < (l0_1.length : Int) := zP (by assumption)
           obtain ⟨ad365, e365, hx365_0⟩ := Kd.at_int HR0_1.out x3_2 p365 q365
           have hw365_0 := hx365_0; cases e365
           replace hx365_0 := (HB.out.cell (zQ w _ hx365_0)).trans hx365_0
           replace p365 := eq_true p365; replace q365 := eq_true q365
           have p367 : 0 ≤ (x3_2 : Int) := zP (by assumption)
           have q367 : x3_2 < (l0_0.length : Int) := zP (by assumption)
           obtain ⟨ad367, e367, hx367_0⟩ := Kd.at_int HR0_0.out x3_2 p367 q367
           have hw367_0 := hx367_0; cases e367
           replace hx367_0 := (HB.out.cell (zQ w _ hx367_0)).trans hx367_0
           replace p367 := eq_true p367; replace q367 := eq_true q367
           have p368 : 0 ≤ (x3_2 : Int) := zP (by assumption)
           have q368 : x3_2 < (l0_1.length : Int) := zP (by assumption)
           obtain ⟨ad368, e368, hx368_0⟩ := Kd.at_int HR0_1.out x3_2 p368 q368
           have hw368_0 := hx368_0
           obtain rfl : ad365 = ad368 := (by injection e368)
           replace hx368_0 := (HB.out.cell (zQ w _ hx368_0)).trans hx368_0
           replace p368 := eq_true p368; replace q368 := eq_true q368
           refine start_ (n := 22) (S := fun w' => w'.cell? ⟨gb364, 0, none⟩ = some (.slice (some ad367) l0_0.length c0_0) ∧ w'.cell? ⟨gb364, 1, none⟩ = some (.slice (some ad365) l0_1.length c0_1) ∧ w'.cell? (ad365.add (x3_2).toNat) = some (.int .i64 (rd l0_1 x3_2)) ∧ w'.cell? (ad367.add (x3_2).toNat) = some (.int .i64 (rd l0_0 x3_2)) ∧ w'.cell? (ad365.add (x3_2).toNat) = some (.int .i64 (rd l0_1 x3_2))) (ds := []) (bz 22 0) (by kernel_rfl) rfl rfl ⟨(yG BK364.out 0).trans rfl, (yG BK364.out 1).trans rfl, ((HB.out.cell (zQ w _ hw365_0)).trans hw365_0), ((HB.out.cell (zQ w _ hw367_0)).trans hw367_0), ((HB.out.cell (zQ w _ hw368_0)).trans hw368_0)⟩ (fun hHeld => ?_); refine with_tabW spec_l07Box.tab6 spec_l07Box.bits6 (fun HT_ HW_ => ?_)
           generalize wr.drew = w16 at BK364 HB hx365_0 hx367_0 hx368_0 hHeld ⊢
           refine qA 0 24 (bz 22 1) HT_ ?_
           refine qA 2 26 (bz 22 5) HT_ ?_
           refine qC 1 25 (bz 22 7) HT_ HW_ hHeld ?_ (hy := by rintro w' ⟨s0, s1, s2, s3, s4⟩; go_simp; with_reducible rfl)
           refine qA 3 27 (bz 22 15) HT_ ?_
           refine qC 4 28 (bz 22 31) HT_ HW_ hHeld ?_ (hy := by rintro w' ⟨s0, s1, s2, s3, s4⟩; go_simp; with_reducible rfl)
           refine one_ (i := 5) (N := some 29) (bz 22 63) rfl rfl (one_of HT_.out (by kernel_rfl)) (by decide) (fun K hK => ?_)
           refine goes_ Try.func92 (by kernel_rfl) rfl #[.int .i64 (rd l0_1 x3_2), .int .i64 1, .int .i64 40] (by rfl) rfl rfl (by (try simp only [zK, zL, zM]); first | done | rfl | (simp only [zN, zO]; rfl)) ?_
           with_reducible refine (spec_l00In.calls (rd l0_1 x3_2) 1 40 true _ A11.out).mono ?_
           rintro e w' ⟨rfl, ⟨nd, rfl⟩⟩
           refine ⟨_, rfl, ?_⟩
           refine hK.out _ _ ⟨(yG BK364.out 0).trans rfl, (yG BK364.out 1).trans rfl, ((HB.out.cell (zQ w _ hw365_0)).trans hw365_0), ((HB.out.cell (zQ w _ hw367_0)).trans hw367_0), ((HB.out.cell (zQ w _ hw368_0)).trans hw368_0)⟩ (fun hHeld => ?_)
           clear hK K
           refine norm_ (a' := ?_) ?_ ?_
           rotate_left
           · show Act.put _ (some 29) _ = _
             simp only [Act.put, zH, zI, zJ, i64_w, i32_w]
             rfl
           refine qA 6 30 (bz 22 127) HT_ ?_
           refine qA 7 31 (bz 22 255) HT_ ?_
           refine qA 8 32 (bz 22 511) HT_ ?_
           refine qA 10 34 (bz 22 1535) HT_ ?_
           refine qA 13 37 (bz 22 9727) HT_ ?_
           refine qA 15 39 (bz 22 42495) HT_ ?_
           refine qC 9 33 (bz 22 43007) HT_ HW_ hHeld ?_ (hy := by rintro w' ⟨s0, s1, s2, s3, s4⟩; go_simp; with_reducible rfl)
           refine qA 11 35 (bz 22 45055) HT_ ?_
           refine qC 12 36 (bz 22 49151) HT_ HW_ hHeld ?_ (hy := by rintro w' ⟨s0, s1, s2, s3, s4⟩; go_simp; with_reducible rfl)
           refine qC 14 38 (bz 22 65535) HT_ HW_ hHeld ?_ (hy := by rintro w' ⟨s0, s1, s2, s3, s4⟩; go_simp; with_reducible rfl)
           refine qA 16 40 (bz 22 131071) HT_ ?_
           refine qC 17 41 (bz 22 262143) HT_ HW_ hHeld ?_ (hy := by rintro w' ⟨s0, s1, s2, s3, s4⟩; go_simp; with_reducible rfl)
           refine qA 18 42 (bz 22 524287) HT_ ?_
           refine one_ (i := 19) (N := some 43) (bz 22 1048575) rfl rfl (one_of HT_.out (by kernel_rfl)) (by decide) (fun K hK => ?_)
           refine goes_ Try.func92 (by kernel_rfl) rfl #[.int .i64 (rd l0_0 x3_2), .int .i64 0, .int .i64 (wrap64 ((rd l0_1 x3_2) - 1))] (by rfl) rfl rfl (by (try simp only [zK, zL, zM]); first | done | rfl | (simp only [zN, zO]; rfl)) ?_
           with_reducible refine (spec_l00In.calls (rd l0_0 x3_2) 0 (wrap64 ((rd l0_1 x3_2) - 1)) true _ A13.out).mono ?_
           rintro e w' ⟨rfl, ⟨nd, rfl⟩⟩
           refine ⟨_, rfl, ?_⟩
           refine hK.out _ _ ⟨(yG BK364.out 0).trans rfl, (yG BK364.out 1).trans rfl, ((HB.out.cell (zQ w _ hw365_0)).trans hw365_0), ((HB.out.cell (zQ w _ hw367_0)).trans hw367_0), ((HB.out.cell (zQ w _ hw368_0)).trans hw368_0)⟩ (fun hHeld => ?_)
           clear hK K
           refine norm_ (a' := ?_) ?_ ?_
           rotate_left
           · show Act.put _ (some 43) _ = _
             simp only [Act.put, zH, zI, zJ, i64_w, i32_w]
             rfl
           refine qA 20 44 (bz 22 2097151) HT_ ?_
           refine qA 21 45 (bz 22 4194303) HT_ ?_
           refine done_ (done_of HT_.out (by kernel_rfl)) ?_
           try go_wp2
           go_roundg k2
           case measure => have := HJ1.out; have := HK2.out; omega
           case rel => exact ⟨(wrap64 (x3_2 + 1)), (by first | rfl | (simp; done) | (simp [*]; done)), H', ⟨by have := HJ1.out; have := HK2.out; omega⟩, ⟨kM BK364⟩, ⟨kR1 HB⟩⟩
          ·
           replace c14 := Bool.eq_false_iff.mpr c14
           subst c14
           replace H : (some false) = some r := (by rw [if_neg (show ¬ (false = true) by decide)] at H; exact H); obtain rfl := Option.some.inj H
           obtain ⟨hcz17_0, hcz17_1⟩ := cz2 BK364.out
           obtain ⟨hfz17_0, hfz17_1⟩ := fz2 BK364.out
           try go_wp2
           have n0_ := yD (yO BK364.out)
           have n1_ := yD (yP HB.out)
           clear BK364 HB; have BK364 := n0_; have HB := n1_; clear n0_ n1_
           have p365 : 0 ≤ (x3_2 : Int) := zP (by assumption)
           have q365 : x3_2 < (l0_1.length : Int) := zP (by assumption)
           obtain ⟨ad365, e365, hx365_0⟩ := Kd.at_int HR0_1.out x3_2 p365 q365
           have hw365_0 := hx365_0; cases e365
           replace hx365_0 := (HB.out.cell (zQ w _ hx365_0)).trans hx365_0
           replace p365 := eq_true p365; replace q365 := eq_true q365
           have p367 : 0 ≤ (x3_2 : Int) := zP (by assumption)
           have q367 : x3_2 < (l0_0.length : Int) := zP (by assumption)
           obtain ⟨ad367, e367, hx367_0⟩ := Kd.at_int HR0_0.out x3_2 p367 q367
           have hw367_0 := hx367_0; cases e367
           replace hx367_0 := (HB.out.cell (zQ w _ hx367_0)).trans hx367_0
           replace p367 := eq_true p367; replace q367 := eq_true q367
           have p368 : 0 ≤ (x3_2 : Int) := zP (by assumption)
           have q368 : x3_2 < (l0_1.length : Int) := zP (by assumption)
           obtain ⟨ad368, e368, hx368_0⟩ := Kd.at_int HR0_1.out x3_2 p368 q368
           have hw368_0 := hx368_0
           obtain rfl : ad365 = ad368 := (by injection e368)
           replace hx368_0 := (HB.out.cell (zQ w _ hx368_0)).trans hx368_0
           replace p368 := eq_true p368; replace q368 := eq_true q368
           refine start_ (n := 22) (S := fun w' => w'.cell? ⟨gb364, 0, none⟩ = some (.slice (some ad367) l0_0.length c0_0) ∧ w'.cell? ⟨gb364, 1, none⟩ = some (.slice (some ad365) l0_1.length c0_1) ∧ w'.cell? (ad365.add (x3_2).toNat) = some (.int .i64 (rd l0_1 x3_2)) ∧ w'.cell? (ad367.add (x3_2).toNat) = some (.int .i64 (rd l0_0 x3_2)) ∧ w'.cell? (ad365.add (x3_2).toNat) = some (.int .i64 (rd l0_1 x3_2))) (ds := []) (bz 22 0) (by kernel_rfl) rfl rfl ⟨(yG BK364.out 0).trans rfl, (yG BK364.out 1).trans rfl, ((HB.out.cell (zQ w _ hw365_0)).trans hw365_0), ((HB.out.cell (zQ w _ hw367_0)).trans hw367_0), ((HB.out.cell (zQ w _ hw368_0)).trans hw368_0)⟩ (fun hHeld => ?_); refine with_tabW spec_l07Box.tab6 spec_l07Box.bits6 (fun HT_ HW_ => ?_)
           generalize wr.drew = w18 at BK364 HB hx365_0 hx367_0 hx368_0 hHeld ⊢
           refine qA 0 24 (bz 22 1) HT_ ?_
           refine qA 2 26 (bz 22 5) HT_ ?_
           refine qC 1 25 (bz 22 7) HT_ HW_ hHeld ?_ (hy := by rintro w' ⟨s0, s1, s2, s3, s4⟩; go_simp; with_reducible rfl)
           refine qA 3 27 (bz 22 15) HT_ ?_
           refine qC 4 28 (bz 22 31) HT_ HW_ hHeld ?_ (hy := by rintro w' ⟨s0, s1, s2, s3, s4⟩; go_simp; with_reducible rfl)
           refine one_ (i := 5) (N := some 29) (bz 22 63) rfl rfl (one_of HT_.out (by kernel_rfl)) (by decide) (fun K hK => ?_)
           refine goes_ Try.func92 (by kernel_rfl) rfl #[.int .i64 (rd l0_1 x3_2), .int .i64 1, .int .i64 40] (by rfl) rfl rfl (by (try simp only [zK, zL, zM]); first | done | rfl | (simp only [zN, zO]; rfl)) ?_
           with_reducible refine (spec_l00In.calls (rd l0_1 x3_2) 1 40 true _ A11.out).mono ?_
           rintro e w' ⟨rfl, ⟨nd, rfl⟩⟩
           refine ⟨_, rfl, ?_⟩
           refine hK.out _ _ ⟨(yG BK364.out 0).trans rfl, (yG BK364.out 1).trans rfl, ((HB.out.cell (zQ w _ hw365_0)).trans hw365_0), ((HB.out.cell (zQ w _ hw367_0)).trans hw367_0), ((HB.out.cell (zQ w _ hw368_0)).trans hw368_0)⟩ (fun hHeld => ?_)
           clear hK K
           refine norm_ (a' := ?_) ?_ ?_
           rotate_left
           · show Act.put _ (some 29) _ = _
             simp only [Act.put, zH, zI, zJ, i64_w, i32_w]
             rfl
           refine qA 6 30 (bz 22 127) HT_ ?_
           refine qA 7 31 (bz 22 255) HT_ ?_
           refine qA 8 32 (bz 22 511) HT_ ?_
           refine qA 10 34 (bz 22 1535) HT_ ?_
           refine qA 13 37 (bz 22 9727) HT_ ?_
           refine qA 15 39 (bz 22 42495) HT_ ?_
           refine qC 9 33 (bz 22 43007) HT_ HW_ hHeld ?_ (hy := by rintro w' ⟨s0, s1, s2, s3, s4⟩; go_simp; with_reducible rfl)
           refine qA 11 35 (bz 22 45055) HT_ ?_
           refine qC 12 36 (bz 22 49151) HT_ HW_ hHeld ?_ (hy := by rintro w' ⟨s0, s1, s2, s3, s4⟩; go_simp; with_reducible rfl)
           refine qC 14 38 (bz 22 65535) HT_ HW_ hHeld ?_ (hy := by rintro w' ⟨s0, s1, s2, s3, s4⟩; go_simp; with_reducible rfl)
           refine qA 16 40 (bz 22 131071) HT_ ?_
           refine qC 17 41 (bz 22 262143) HT_ HW_ hHeld ?_ (hy := by rintro w' ⟨s0, s1, s2, s3, s4⟩; go_simp; with_reducible rfl)
           refine qA 18 42 (bz 22 524287) HT_ ?_
           refine one_ (i := 19) (N := some 43) (bz 22 1048575) rfl rfl (one_of HT_.out (by kernel_rfl)) (by decide) (fun K hK => ?_)
           refine goes_ Try.func92 (by kernel_rfl) rfl #[.int .i64 (rd l0_0 x3_2), .int .i64 0, .int .i64 (wrap64 ((rd l0_1 x3_2) - 1))] (by rfl) rfl rfl (by (try simp only [zK, zL, zM]); first | done | rfl | (simp only [zN, zO]; rfl)) ?_
           with_reducible refine (spec_l00In.calls (rd l0_0 x3_2) 0 (wrap64 ((rd l0_1 x3_2) - 1)) false _ A13.out).mono ?_
           rintro e w' ⟨rfl, ⟨nd, rfl⟩⟩
           refine ⟨_, rfl, ?_⟩
           refine hK.out _ _ ⟨(yG BK364.out 0).trans rfl, (yG BK364.out 1).trans rfl, ((HB.out.cell (zQ w _ hw365_0)).trans hw365_0), ((HB.out.cell (zQ w _ hw367_0)).trans hw367_0), ((HB.out.cell (zQ w _ hw368_0)).trans hw368_0)⟩ (fun hHeld => ?_)
           clear hK K
           refine norm_ (a' := ?_) ?_ ?_
           rotate_left
           · show Act.put _ (some 43) _ = _
             simp only [Act.put, zH, zI, zJ, i64_w, i32_w]
             rfl
           refine qA 20 44 (bz 22 2097151) HT_ ?_
           refine qA 21 45 (bz 22 4194303) HT_ ?_
           refine done_ (done_of HT_.out (by kernel_rfl)) ?_
           try go_wp2
           go_ret
           exact ⟨by first | rfl | (simp <;> rfl) | (simp [*] <;> rfl), kR1 HB⟩
         ·
          replace c12 := Bool.eq_false_iff.mpr c12
          subst c12
          replace H : (some false) = some r := (by rw [if_neg (show ¬ (false = true) by decide)] at H; exact H); obtain rfl := Option.some.inj H
          obtain ⟨hcz19_0, hcz19_1⟩ := cz2 BK364.out
          obtain ⟨hfz19_0, hfz19_1⟩ := fz2 BK364.out
          try go_wp2
          have n0_ := yD (yO BK364.out)
          have n1_ := yD (yP HB.out)
          clear BK364 HB; have BK364 := n0_; have HB := n1_; clear n0_ n1_
          have p365 : 0 ≤ (x3_2 : Int) := zP (by assumption)
          have q365 : x3_2 < (l0_1.length : Int) := zP (by assumption)
          obtain ⟨ad365, e365, hx365_0⟩ := Kd.at_int HR0_1.out x3_2 p365 q365
          have hw365_0 := hx365_0; cases e365
          replace hx365_0 := (HB.out.cell (zQ w _ hx365_0)).trans hx365_0
          replace p365 := eq_true p365; replace q365 := eq_true q365
          refine start_ (n := 22) (S := fun w' => w'.cell? ⟨gb364, 0, none⟩ = some (.slice A0_0 l0_0.length c0_0) ∧ w'.cell? ⟨gb364, 1, none⟩ = some (.slice (some ad365) l0_1.length c0_1) ∧ w'.cell? (ad365.add (x3_2).toNat) = some (.int .i64 (rd l0_1 x3_2))) (ds := []) (bz 22 0) (by kernel_rfl) rfl rfl ⟨(yG BK364.out 0).trans rfl, (yG BK364.out 1).trans rfl, ((HB.out.cell (zQ w _ hw365_0)).trans hw365_0)⟩ (fun hHeld => ?_); refine with_tabW spec_l07Box.tab6 spec_l07Box.bits6 (fun HT_ HW_ => ?_)
          generalize wr.drew = w20 at BK364 HB hx365_0 hHeld ⊢
          refine qA 0 24 (bz 22 1) HT_ ?_
          refine qA 2 26 (bz 22 5) HT_ ?_
          refine qC 1 25 (bz 22 7) HT_ HW_ hHeld ?_ (hy := by rintro w' ⟨s0, s1, s2⟩; go_simp; with_reducible rfl)
          refine qA 3 27 (bz 22 15) HT_ ?_
          refine qC 4 28 (bz 22 31) HT_ HW_ hHeld ?_ (hy := by rintro w' ⟨s0, s1, s2⟩; go_simp; with_reducible rfl)
          refine one_ (i := 5) (N := some 29) (bz 22 63) rfl rfl (one_of HT_.out (by kernel_rfl)) (by decide) (fun K hK => ?_)
          refine goes_ Try.func92 (by kernel_rfl) rfl #[.int .i64 (rd l0_1 x3_2), .int .i64 1, .int .i64 40] (by rfl) rfl rfl (by (try simp only [zK, zL, zM]); first | done | rfl | (simp only [zN, zO]; rfl)) ?_
          with_reducible refine (spec_l00In.calls (rd l0_1 x3_2) 1 40 false _ A11.out).mono ?_
          rintro e w' ⟨rfl, ⟨nd, rfl⟩⟩
          refine ⟨_, rfl, ?_⟩
          refine hK.out _ _ ⟨(yG BK364.out 0).trans rfl, (yG BK364.out 1).trans rfl, ((HB.out.cell (zQ w _ hw365_0)).trans hw365_0)⟩ (fun hHeld => ?_)
          clear hK K
          refine norm_ (a' := ?_) ?_ ?_
          rotate_left
          · show Act.put _ (some 29) _ = _
            simp only [Act.put, zH, zI, zJ, i64_w, i32_w]
            rfl
          refine qA 6 30 (bz 22 127) HT_ ?_
          refine qA 7 31 (bz 22 255) HT_ ?_
          refine qB 8 32 (bz 22 511) HT_ ?_
          refine qB 9 33 (bz 22 1023) HT_ ?_
          refine qB 10 34 (bz 22 2047) HT_ ?_
          refine qB 11 35 (bz 22 4095) HT_ ?_
          refine qB 12 36 (bz 22 8191) HT_ ?_
          refine qB 13 37 (bz 22 16383) HT_ ?_
          refine qB 14 38 (bz 22 32767) HT_ ?_
          refine qB 15 39 (bz 22 65535) HT_ ?_
          refine qB 16 40 (bz 22 131071) HT_ ?_
          refine qB 17 41 (bz 22 262143) HT_ ?_
          refine qB 18 42 (bz 22 524287) HT_ ?_
          refine qB 19 43 (bz 22 1048575) HT_ ?_
          refine qB 20 44 (bz 22 2097151) HT_ ?_
          refine qA 21 45 (bz 22 4194303) HT_ ?_
          refine done_ (done_of HT_.out (by kernel_rfl)) ?_
          try go_wp2
          go_ret
          exact ⟨by first | rfl | (simp <;> rfl) | (simp [*] <;> rfl), kR1 HB⟩
        · rw [if_neg c10] at H
          exact absurd H (by simp)
       · rw [if_neg c9] at H
         exact absurd H (by simp)
      · rw [if_neg c8] at H
        have c8b0 : decide (x3_2 < (l0_0.length : Int)) = false := zS c8; clear c8; obtain rfl := Option.some.inj H
        obtain ⟨hcz21_0, hcz21_1⟩ := cz2 BK364.out
        obtain ⟨hfz21_0, hfz21_1⟩ := fz2 BK364.out
        go_wp2
        go_ret
        exact ⟨by first | rfl | (simp <;> rfl) | (simp [*] <;> rfl), kR1 HB⟩
/-! ### spec_l07List: function 70 -/
def spec_l07List.l0 : Nat → List (S42) → Int → Option (Bool)
 | 0, _, _ => none
 | k + 1, x0, x3 => if x3 < (x0.length : Int) then (if 0 ≤ x3 then ((spec_l07Box.f k ((rd_T42 x0 x3).f0) ((rd_T42 x0 x3).f1)).bind fun t371 => (if t371 = true then (if 0 < (x0.length : Int) then (if (((rd_T42 x0 x3).f0).length : Int) = (((rd_T42 x0 0).f0).length : Int) then (spec_l07List.l0 k x0 (wrap64 (x3 + 1))) else (some false)) else (none)) else (some false))) else (none)) else (some (decide ((x0.length : Int) ≤ 32)))
def spec_l07List.f (k : Nat) (l0 : List (S42)) : Option (Bool) := spec_l07List.l0 k l0 0
theorem spec_l07List.mono_l : ∀ k, (∀ y0 y1, LeO (spec_l07List.l0 k y0 y1) (spec_l07List.l0 (k + 1) y0 y1))
 | 0 => fun _ _ r h => by simp [spec_l07List.l0] at h
 | k + 1 => by
  have ih0 := spec_l07List.mono_l k
  · intro y0 y1
    unfold spec_l07List.l0
    repeat' (with_reducible first | exact ih0 _ _ | exact spec_l07Box.mono _ _ _ | exact LeO.refl _ | exact LeO.none _ | refine LeO.ite ?_ ?_ | refine LeO.bind ?_ (fun _ => ?_))
theorem spec_l07List.mono : ∀ a0 k, LeO (spec_l07List.f k a0) (spec_l07List.f (k + 1) a0) := by
 intro a0 k
 have ih0 := spec_l07List.mono_l k
 unfold spec_l07List.f
 repeat' (with_reducible first | exact ih0 _ _ | exact spec_l07Box.mono _ _ _ | exact LeO.refl _ | exact LeO.none _ | refine LeO.ite ?_ ?_ | refine LeO.bind ?_ (fun _ => ?_))
def spec_l07List.T4 : Bool × List (List Nat × List Nat) := (true, [([], []), ([], []), ([0, 1], [0, 1]), ([2], [2]), ([3], [3]), ([4], [4]), ([5, 4], [5]), ([6], [6]), ([6], [6]), ([7, 8, 6], [6, 7, 8]), ([9, 6], [6, 9]), ([10, 6], [6, 10]), ([11, 6], [6, 11]), ([6], [6]), ([13, 6], [6, 13]), ([14, 6], [6, 14]), ([15, 6], [6, 15]), ([16, 6], [6, 16]), ([12, 17, 6], [6, 12, 17]), ([6, 18], [6, 18])])
def spec_l07List.B4 : List Nat := [0, 0, 3, 7, 15, 31, 63, 127, 127, 511, 1023, 2047, 4095, 127, 8319, 24703, 57471, 123007, 262143, 524287]
theorem spec_l07List.tab4 : rtab .any (opsOf Try.f70 4) = spec_l07List.T4 := by kernel_rfl
theorem spec_l07List.bits4 : waitsOk spec_l07List.T4.2 spec_l07List.B4 = true := by kernel_rfl
set_option maxHeartbeats 8000000 in
set_option maxRecDepth 100000 in
theorem spec_l07List.calls (k : Nat) (A0 : Option Addr) (c0 : Nat) (l0 : List (S42)) (r : Bool) (w : World) (hr0 : Kd.C k42 w A0 l0.length l0) (hc0 : l0.length ≤ c0) (h : spec_l07List.f k l0 = some r) :
 Calls Try.prog 70 #[.slice A0 l0.length c0] w fun e w' => e = .returned (.bool r) ∧ Below w.heap.size w w' := by
 have hu42 := Try.underlying42
 have HR0 := yD hr0
 have HC0 := yD hc0
 clear hr0 hc0
 have HB := yD (Below.refl w.heap.size w)
 have H : (spec_l07List.l0 k l0 0) = some r := h
 clear h
 have H' := yD H
 clear H; go_enter Try.func70, Try.ntmps70
 go_wp2
 go_loopg [3] k (fun kq v3 w' => ∃ (x3_1 : Int), v3 = .int .i64 x3_1 ∧ Aside0 (spec_l07List.l0 kq l0 x3_1 = some r) ∧ Aside0 (kq ≤ k) ∧ Aside0 (Below w.heap.size w w'))
 case atStart => exact ⟨(0), (by first | rfl | (simp; done) | (simp [*]; done)), H', ⟨Nat.le_refl _⟩, ⟨kR0 HB⟩⟩
 case round =>
  clear H'
  obtain ⟨x3_1, rfl, HA, HK1, HB⟩ := hrel
  cases gk with
  | zero => exact absurd HA.out (by simp [spec_l07List.l0])
  | succ k1 =>
   have H := HA.out; clear HA
   simp only [spec_l07List.l0] at H
   by_cases c2 : x3_1 < (l0.length : Int)
   ·
    rw [if_pos c2] at H
    have c2b0 : decide (x3_1 < (l0.length : Int)) = true := zR c2; clear c2
    by_cases c3 : 0 ≤ x3_1
    ·
     rw [if_pos c3] at H
     have c3b0 : decide (0 ≤ x3_1) = true := zR c3; clear c3
     obtain ⟨t371, A40, H⟩ := zW_ H
     replace H : (if t371 = true then (if 0 < (l0.length : Int) then (if (((rd_T42 l0 x3_1).f0).length : Int) = (((rd_T42 l0 0).f0).length : Int) then (spec_l07List.l0 k1 l0 (wrap64 (x3_1 + 1))) else (some false)) else (none)) else (some false)) = some r := H
     have A4 := yD A40
     clear A40
     by_cases c5 : t371 = true
     ·
      subst c5
      replace H : (if 0 < (l0.length : Int) then (if (((rd_T42 l0 x3_1).f0).length : Int) = (((rd_T42 l0 0).f0).length : Int) then (spec_l07List.l0 k1 l0 (wrap64 (x3_1 + 1))) else (some false)) else (none)) = some r := (by rw [if_pos rfl] at H; exact H)
      by_cases c6 : 0 < (l0.length : Int)
      ·
       rw [if_pos c6] at H
       have c6b0 : decide (0 < (l0.length : Int)) = true := zR c6
       have c6b1 : decide (0 < l0.length) = true := zR (by omega)
       clear c6
       by_cases c7 : (((rd_T42 l0 x3_1).f0).length : Int) = (((rd_T42 l0 0).f0).length : Int)
       ·
        rw [if_pos c7] at H
        have c7b0 : ((((rd_T42 l0 x3_1).f0).length : Int) == (((rd_T42 l0 0).f0).length : Int)) = true := beq_iff_eq.mpr c7
        have c7b1 : ((((rd_T42 l0 x3_1).f0).length : Int) != (((rd_T42 l0 0).f0).length : Int)) = false := bne_eq_false_iff_eq.mpr c7
        have c7b2 : (((rd_T42 l0 x3_1).f0).length == ((rd_T42 l0 0).f0).length) = true := by first | simpa using c7 | (simp at c7 ⊢; omega)
        clear c7
        have H' := yD H
        clear H
        try go_wp2
        have n0_ := yD (yP HB.out)
        clear HB; have HB := n0_; clear n0_
        have p370 : 0 ≤ (x3_1 : Int) := zP (by assumption)
        have q370 : x3_1 < (l0.length : Int) := zP (by assumption)
        obtain ⟨ad370, A370_0, c370_0, A370_1, c370_1, e370, hx370_0, hx370_1, hl370_0, hi370_0, hl370_1, hi370_1⟩ := at_T42 HR0.out x3_1 p370 q370
        have hw370_1 := hx370_1; have hw370_0 := hx370_0; cases e370
        replace hx370_0 := (HB.out.cell (zQ w _ hx370_0)).trans hx370_0
        replace hx370_1 := (HB.out.cell (zQ w _ hx370_1)).trans hx370_1
        have HR370_0 := yD hi370_0
        have HC370_0 := yD hl370_0
        clear hi370_0 hl370_0
        have HR370_1 := yD hi370_1
        have HC370_1 := yD hl370_1
        clear hi370_1 hl370_1; replace p370 := eq_true p370; replace q370 := eq_true q370
        have p372 : 0 ≤ (x3_1 : Int) := zP (by assumption)
        have q372 : x3_1 < (l0.length : Int) := zP (by assumption)
        obtain ⟨ad372, A372_0, c372_0, A372_1, c372_1, e372, hx372_0, hx372_1, hl372_0, hi372_0, hl372_1, hi372_1⟩ := at_T42 HR0.out x3_1 p372 q372
        have hw372_1 := hx372_1; have hw372_0 := hx372_0
        obtain rfl : ad370 = ad372 := (by injection e372)
        replace hx372_0 := (HB.out.cell (zQ w _ hx372_0)).trans hx372_0
        replace hx372_1 := (HB.out.cell (zQ w _ hx372_1)).trans hx372_1
        have HR372_0 := yD hi372_0
        have HC372_0 := yD hl372_0
        clear hi372_0 hl372_0
        have HR372_1 := yD hi372_1
        have HC372_1 := yD hl372_1
        clear hi372_1 hl372_1; replace p372 := eq_true p372; replace q372 := eq_true q372
        have p373 : 0 ≤ (0 : Int) := (by omega)
        have q373 : 0 < (l0.length : Int) := zP (by assumption)
        obtain ⟨ad373, A373_0, c373_0, A373_1, c373_1, e373, hx373_0, hx373_1, hl373_0, hi373_0, hl373_1, hi373_1⟩ := at_T42 HR0.out 0 p373 q373
        have hw373_1 := hx373_1
        (try rw [show ((0 : Int)).toNat = 0 from rfl] at hw373_1)
        (try rw [show 0 * 2 = 0 from rfl] at hw373_1)
        (try rw [Addr.add_zero'] at hw373_1)
        have hw373_0 := hx373_0
        (try rw [show ((0 : Int)).toNat = 0 from rfl] at hw373_0)
        (try rw [show 0 * 2 = 0 from rfl] at hw373_0)
        (try rw [Addr.add_zero'] at hw373_0)
        obtain rfl : ad370 = ad373 := (by injection e373)
        have qi373 : (0 < l0.length) = True := eq_true (by omega)
        (try rw [show ((0 : Int)).toNat = 0 from rfl] at hx373_0)
        (try rw [show 0 * 2 = 0 from rfl] at hx373_0)
        (try rw [Addr.add_zero'] at hx373_0)
        (try rw [show ((0 : Int)).toNat = 0 from rfl] at hx373_1)
        (try rw [show 0 * 2 = 0 from rfl] at hx373_1)
        (try rw [Addr.add_zero'] at hx373_1)
        replace hx373_0 := (HB.out.cell (zQ w _ hx373_0)).trans hx373_0
        replace hx373_1 := (HB.out.cell (zQ w _ hx373_1)).trans hx373_1
        have HR373_0 := yD hi373_0
        have HC373_0 := yD hl373_0
        clear hi373_0 hl373_0
        have HR373_1 := yD hi373_1
        have HC373_1 := yD hl373_1
        clear hi373_1 hl373_1; replace p373 := eq_true p373; replace q373 := eq_true q373
        refine start_ (n := 20) (S := fun w' => w'.cell? (ad370.add ((x3_1).toNat * 2)) = some (.slice A370_0 ((rd_T42 l0 x3_1).f0).length c370_0) ∧ w'.cell? ⟨(ad370.add ((x3_1).toNat * 2)).block, (ad370.add ((x3_1).toNat * 2)).off + 1, none⟩ = some (.slice A370_1 ((rd_T42 l0 x3_1).f1).length c370_1) ∧ w'.cell? (ad370.add ((x3_1).toNat * 2)) = some (.slice A372_0 ((rd_T42 l0 x3_1).f0).length c372_0) ∧ w'.cell? ⟨(ad370.add ((x3_1).toNat * 2)).block, (ad370.add ((x3_1).toNat * 2)).off + 1, none⟩ = some (.slice A372_1 ((rd_T42 l0 x3_1).f1).length c372_1) ∧ w'.cell? ad370 = some (.slice A373_0 ((rd_T42 l0 0).f0).length c373_0) ∧ w'.cell? ⟨ad370.block, ad370.off + 1, none⟩ = some (.slice A373_1 ((rd_T42 l0 0).f1).length c373_1)) (ds := []) (bz 20 0) (by kernel_rfl) rfl rfl ⟨((HB.out.cell (zQ w _ hw370_0)).trans hw370_0), ((HB.out.cell (zQ w _ hw370_1)).trans hw370_1), ((HB.out.cell (zQ w _ hw372_0)).trans hw372_0), ((HB.out.cell (zQ w _ hw372_1)).trans hw372_1), ((HB.out.cell (zQ w _ hw373_0)).trans hw373_0), ((HB.out.cell (zQ w _ hw373_1)).trans hw373_1)⟩ (fun hHeld => ?_); refine with_tabW spec_l07List.tab4 spec_l07List.bits4 (fun HT_ HW_ => ?_)
        generalize wr.drew = w8 at HB HR370_0 HR370_1 HR372_0 HR372_1 HR373_0 HR373_1 hx370_0 hx370_1 hx372_0 hx372_1 hx373_0 hx373_1 hHeld ⊢
        refine qA 0 10 (bz 20 1) HT_ ?_
        refine qA 1 11 (bz 20 3) HT_ ?_
        refine qA 2 12 (bz 20 7) HT_ ?_
        refine qC 3 13 (bz 20 15) HT_ HW_ hHeld ?_ (hy := by rintro w' ⟨s0, s1, s2, s3, s4, s5⟩; go_simp; with_reducible rfl)
        refine one_ (i := 4) (N := some 14) (bz 20 31) rfl rfl (one_of HT_.out (by kernel_rfl)) (by decide) (fun K hK => ?_)
        refine goes_ Try.func108 (by kernel_rfl) rfl #[.agg #[.slice A370_0 ((rd_T42 l0 x3_1).f0).length c370_0, .slice A370_1 ((rd_T42 l0 x3_1).f1).length c370_1]] (by rfl) rfl rfl (by (try simp only [zK, zL, zM]); first | done | rfl | (simp only [zN, zO]; rfl)) ?_
        with_reducible refine (spec_l07Box.calls k1 _ _ ((rd_T42 l0 x3_1).f0) _ _ ((rd_T42 l0 x3_1).f1) true _ ?side1 ?side2 ?side3 ?side4 A4.out).mono ?_
        (case side1 => exact kV (yY HR370_0.out HB.out))
        (case side2 => exact HC370_0.out)
        (case side3 => exact kV (yY HR370_1.out HB.out))
        (case side4 => exact HC370_1.out)
        rintro e w9 ⟨rfl, hb⟩
        refine ⟨_, rfl, ?_⟩
        have n0_ := yD (zC (kB HB) hb)
        clear HB; have HB := n0_; clear n0_; (try clear hb); (try clear hb2); (try clear hk); (try clear hi)
        refine hK.out _ _ ⟨((HB.out.cell (zQ w _ hw370_0)).trans hw370_0), ((HB.out.cell (zQ w _ hw370_1)).trans hw370_1), ((HB.out.cell (zQ w _ hw372_0)).trans hw372_0), ((HB.out.cell (zQ w _ hw372_1)).trans hw372_1), ((HB.out.cell (zQ w _ hw373_0)).trans hw373_0), ((HB.out.cell (zQ w _ hw373_1)).trans hw373_1)⟩ (fun hHeld => ?_)
        clear hK K
        refine norm_ (a' := ?_) ?_ ?_
        rotate_left
        · show Act.put _ (some 14) _ = _
          simp only [Act.put, zH, zI, zJ, i64_w, i32_w]
          rfl
        refine qA 5 15 (bz 20 63) HT_ ?_
        refine qA 6 16 (bz 20 127) HT_ ?_
        refine qA 7 17 (bz 20 255) HT_ ?_
        refine qA 8 18 (bz 20 511) HT_ ?_
        refine qA 9 19 (bz 20 1023) HT_ ?_
        refine qA 10 20 (bz 20 2047) HT_ ?_
        refine qA 13 23 (bz 20 10239) HT_ ?_
        refine qA 14 24 (bz 20 26623) HT_ ?_
        refine qA 15 25 (bz 20 59391) HT_ ?_
        refine qC 11 21 (bz 20 61439) HT_ HW_ hHeld ?_ (hy := by rintro w' ⟨s0, s1, s2, s3, s4, s5⟩; go_simp; with_reducible rfl)
        refine qA 12 22 (bz 20 65535) HT_ ?_
        refine qC 16 26 (bz 20 131071) HT_ HW_ hHeld ?_ (hy := by rintro w' ⟨s0, s1, s2, s3, s4, s5⟩; go_simp; with_reducible rfl)
        refine qA 17 27 (bz 20 262143) HT_ ?_
        refine qA 18 28 (bz 20 524287) HT_ ?_
        refine qA 19 29 (bz 20 1048575) HT_ ?_
        refine done_ (done_of HT_.out (by kernel_rfl)) ?_
        try go_wp2
        go_roundg k1
        case measure => have := HK1.out; omega
        case rel => exact ⟨(wrap64 (x3_1 + 1)), (by first | rfl | (simp; done) | (simp [*]; done)), H', ⟨by have := HK1.out; omega⟩, ⟨kR0 HB⟩⟩
       ·
        rw [if_neg c7] at H
        have c7b0 : ((((rd_T42 l0 x3_1).f0).length : Int) == (((rd_T42 l0 0).f0).length : Int)) = false := beq_eq_false_iff_ne.mpr c7
        have c7b1 : ((((rd_T42 l0 x3_1).f0).length : Int) != (((rd_T42 l0 0).f0).length : Int)) = true := bne_iff_ne.mpr c7
        have c7b2 : (((rd_T42 l0 x3_1).f0).length == ((rd_T42 l0 0).f0).length) = false := by first | simpa using c7 | (simp at c7 ⊢; omega)
        obtain rfl := Option.some.inj H
        try go_wp2
        have n0_ := yD (yP HB.out)
        clear HB; have HB := n0_; clear n0_
        have p370 : 0 ≤ (x3_1 : Int) := zP (by assumption)
        have q370 : x3_1 < (l0.length : Int) := zP (by assumption)
        obtain ⟨ad370, A370_0, c370_0, A370_1, c370_1, e370, hx370_0, hx370_1, hl370_0, hi370_0, hl370_1, hi370_1⟩ := at_T42 HR0.out x3_1 p370 q370
        have hw370_1 := hx370_1; have hw370_0 := hx370_0; cases e370
        replace hx370_0 := (HB.out.cell (zQ w _ hx370_0)).trans hx370_0
        replace hx370_1 := (HB.out.cell (zQ w _ hx370_1)).trans hx370_1
        have HR370_0 := yD hi370_0
        have HC370_0 := yD hl370_0
        clear hi370_0 hl370_0
        have HR370_1 := yD hi370_1
        have HC370_1 := yD hl370_1
        clear hi370_1 hl370_1; replace p370 := eq_true p370; replace q370 := eq_true q370
        have p372 : 0 ≤ (x3_1 : Int) := zP (by assumption)
        have q372 : x3_1 < (l0.length : Int) := zP (by assumption)
        obtain ⟨ad372, A372_0, c372_0, A372_1, c372_1, e372, hx372_0, hx372_1, hl372_0, hi372_0, hl372_1, hi372_1⟩ := at_T42 HR0.out x3_1 p372 q372
        have hw372_1 := hx372_1; have hw372_0 := hx372_0
        obtain rfl : ad370 = ad372 := (by injection e372)
        replace hx372_0 := (HB.out.cell (zQ w _ hx372_0)).trans hx372_0
        replace hx372_1 := (HB.out.cell (zQ w _ hx372_1)).trans hx372_1
        have HR372_0 := yD hi372_0
        have HC372_0 := yD hl372_0
        clear hi372_0 hl372_0
        have HR372_1 := yD hi372_1
        have HC372_1 := yD hl372_1
        clear hi372_1 hl372_1; replace p372 := eq_true p372; replace q372 := eq_true q372
        have p373 : 0 ≤ (0 : Int) := (by omega)
        have q373 : 0 < (l0.length : Int) := zP (by assumption)
        obtain ⟨ad373, A373_0, c373_0, A373_1, c373_1, e373, hx373_0, hx373_1, hl373_0, hi373_0, hl373_1, hi373_1⟩ := at_T42 HR0.out 0 p373 q373
        have hw373_1 := hx373_1
        (try rw [show ((0 : Int)).toNat = 0 from rfl] at hw373_1)
        (try rw [show 0 * 2 = 0 from rfl] at hw373_1)
        (try rw [Addr.add_zero'] at hw373_1)
        have hw373_0 := hx373_0
        (try rw [show ((0 : Int)).toNat = 0 from rfl] at hw373_0)
        (try rw [show 0 * 2 = 0 from rfl] at hw373_0)
        (try rw [Addr.add_zero'] at hw373_0)
        obtain rfl : ad370 = ad373 := (by injection e373)
        have qi373 : (0 < l0.length) = True := eq_true (by omega)
        (try rw [show ((0 : Int)).toNat = 0 from rfl] at hx373_0)
        (try rw [show 0 * 2 = 0 from rfl] at hx373_0)
        (try rw [Addr.add_zero'] at hx373_0)
        (try rw [show ((0 : Int)).toNat = 0 from rfl] at hx373_1)
        (try rw [show 0 * 2 = 0 from rfl] at hx373_1)
        (try rw [Addr.add_zero'] at hx373_1)
        replace hx373_0 := (HB.out.cell (zQ w _ hx373_0)).trans hx373_0
        replace hx373_1 := (HB.out.cell (zQ w _ hx373_1)).trans hx373_1
        have HR373_0 := yD hi373_0
        have HC373_0 := yD hl373_0
        clear hi373_0 hl373_0
        have HR373_1 := yD hi373_1
        have HC373_1 := yD hl373_1
        clear hi373_1 hl373_1; replace p373 := eq_true p373; replace q373 := eq_true q373
        refine start_ (n := 20) (S := fun w' => w'.cell? (ad370.add ((x3_1).toNat * 2)) = some (.slice A370_0 ((rd_T42 l0 x3_1).f0).length c370_0) ∧ w'.cell? ⟨(ad370.add ((x3_1).toNat * 2)).block, (ad370.add ((x3_1).toNat * 2)).off + 1, none⟩ = some (.slice A370_1 ((rd_T42 l0 x3_1).f1).length c370_1) ∧ w'.cell? (ad370.add ((x3_1).toNat * 2)) = some (.slice A372_0 ((rd_T42 l0 x3_1).f0).length c372_0) ∧ w'.cell? ⟨(ad370.add ((x3_1).toNat * 2)).block, (ad370.add ((x3_1).toNat * 2)).off + 1, none⟩ = some (.slice A372_1 ((rd_T42 l0 x3_1).f1).length c372_1) ∧ w'.cell? ad370 = some (.slice A373_0 ((rd_T42 l0 0).f0).length c373_0) ∧ w'.cell? ⟨ad370.block, ad370.off + 1, none⟩ = some (.slice A373_1 ((rd_T42 l0 0).f1).length c373_1)) (ds := []) (bz 20 0) (by kernel_rfl) rfl rfl ⟨((HB.out.cell (zQ w _ hw370_0)).trans hw370_0), ((HB.out.cell (zQ w _ hw370_1)).trans hw370_1), ((HB.out.cell (zQ w _ hw372_0)).trans hw372_0), ((HB.out.cell (zQ w _ hw372_1)).trans hw372_1), ((HB.out.cell (zQ w _ hw373_0)).trans hw373_0), ((HB.out.cell (zQ w _ hw373_1)).trans hw373_1)⟩ (fun hHeld => ?_); refine with_tabW spec_l07List.tab4 spec_l07List.bits4 (fun HT_ HW_ => ?_)
        generalize wr.drew = w10 at HB HR370_0 HR370_1 HR372_0 HR372_1 HR373_0 HR373_1 hx370_0 hx370_1 hx372_0 hx372_1 hx373_0 hx373_1 hHeld ⊢
        refine qA 0 10 (bz 20 1) HT_ ?_
        refine qA 1 11 (bz 20 3) HT_ ?_
        refine qA 2 12 (bz 20 7) HT_ ?_
        refine qC 3 13 (bz 20 15) HT_ HW_ hHeld ?_ (hy := by rintro w' ⟨s0, s1, s2, s3, s4, s5⟩; go_simp; with_reducible rfl)
        refine one_ (i := 4) (N := some 14) (bz 20 31) rfl rfl (one_of HT_.out (by kernel_rfl)) (by decide) (fun K hK => ?_)
        refine goes_ Try.func108 (by kernel_rfl) rfl #[.agg #[.slice A370_0 ((rd_T42 l0 x3_1).f0).length c370_0, .slice A370_1 ((rd_T42 l0 x3_1).f1).length c370_1]] (by rfl) rfl rfl (by (try simp only [zK, zL, zM]); first | done | rfl | (simp only [zN, zO]; rfl)) ?_
        with_reducible refine (spec_l07Box.calls k1 _ _ ((rd_T42 l0 x3_1).f0) _ _ ((rd_T42 l0 x3_1).f1) true _ ?side1 ?side2 ?side3 ?side4 A4.out).mono ?_
        (case side1 => exact kV (yY HR370_0.out HB.out))
        (case side2 => exact HC370_0.out)
        (case side3 => exact kV (yY HR370_1.out HB.out))
        (case side4 => exact HC370_1.out)
        rintro e w11 ⟨rfl, hb⟩
        refine ⟨_, rfl, ?_⟩
        have n0_ := yD (zC (kB HB) hb)
        clear HB; have HB := n0_; clear n0_; (try clear hb); (try clear hb2); (try clear hk); (try clear hi)
        refine hK.out _ _ ⟨((HB.out.cell (zQ w _ hw370_0)).trans hw370_0), ((HB.out.cell (zQ w _ hw370_1)).trans hw370_1), ((HB.out.cell (zQ w _ hw372_0)).trans hw372_0), ((HB.out.cell (zQ w _ hw372_1)).trans hw372_1), ((HB.out.cell (zQ w _ hw373_0)).trans hw373_0), ((HB.out.cell (zQ w _ hw373_1)).trans hw373_1)⟩ (fun hHeld => ?_)
        clear hK K
        refine norm_ (a' := ?_) ?_ ?_
        rotate_left
        · show Act.put _ (some 14) _ = _
          simp only [Act.put, zH, zI, zJ, i64_w, i32_w]
          rfl
        refine qA 5 15 (bz 20 63) HT_ ?_
        refine qA 6 16 (bz 20 127) HT_ ?_
        refine qA 7 17 (bz 20 255) HT_ ?_
        refine qA 8 18 (bz 20 511) HT_ ?_
        refine qA 9 19 (bz 20 1023) HT_ ?_
        refine qA 10 20 (bz 20 2047) HT_ ?_
        refine qA 13 23 (bz 20 10239) HT_ ?_
        refine qA 14 24 (bz 20 26623) HT_ ?_
        refine qA 15 25 (bz 20 59391) HT_ ?_
        refine qC 11 21 (bz 20 61439) HT_ HW_ hHeld ?_ (hy := by rintro w' ⟨s0, s1, s2, s3, s4, s5⟩; go_simp; with_reducible rfl)
        refine qA 12 22 (bz 20 65535) HT_ ?_
        refine qC 16 26 (bz 20 131071) HT_ HW_ hHeld ?_ (hy := by rintro w' ⟨s0, s1, s2, s3, s4, s5⟩; go_simp; with_reducible rfl)
        refine qA 17 27 (bz 20 262143) HT_ ?_
        refine qA 18 28 (bz 20 524287) HT_ ?_
        refine qA 19 29 (bz 20 1048575) HT_ ?_
        refine done_ (done_of HT_.out (by kernel_rfl)) ?_
        try go_wp2
        go_ret
        exact ⟨by first | rfl | (simp <;> rfl) | (simp [*] <;> rfl), kR0 HB⟩
      · rw [if_neg c6] at H
        exact absurd H (by simp)
     ·
      replace c5 := Bool.eq_false_iff.mpr c5
      subst c5
      replace H : (some false) = some r := (by rw [if_neg (show ¬ (false = true) by decide)] at H; exact H); obtain rfl := Option.some.inj H
      try go_wp2
      have n0_ := yD (yP HB.out)
      clear HB; have HB := n0_; clear n0_
      have p370 : 0 ≤ (x3_1 : Int) := zP (by assumption)
      have q370 : x3_1 < (l0.length : Int) := zP (by assumption)
      obtain ⟨ad370, A370_0, c370_0, A370_1, c370_1, e370, hx370_0, hx370_1, hl370_0, hi370_0, hl370_1, hi370_1⟩ := at_T42 HR0.out x3_1 p370 q370
      have hw370_1 := hx370_1; have hw370_0 := hx370_0; cases e370
      replace hx370_0 := (HB.out.cell (zQ w _ hx370_0)).trans hx370_0
      replace hx370_1 := (HB.out.cell (zQ w _ hx370_1)).trans hx370_1
      have HR370_0 := yD hi370_0
      have HC370_0 := yD hl370_0
      clear hi370_0 hl370_0
      have HR370_1 := yD hi370_1
      have HC370_1 := yD hl370_1
      clear hi370_1 hl370_1; replace p370 := eq_true p370; replace q370 := eq_true q370
      refine start_ (n := 20) (S := fun w' => w'.cell? (ad370.add ((x3_1).toNat * 2)) = some (.slice A370_0 ((rd_T42 l0 x3_1).f0).length c370_0) ∧ w'.cell? ⟨(ad370.add ((x3_1).toNat * 2)).block, (ad370.add ((x3_1).toNat * 2)).off + 1, none⟩ = some (.slice A370_1 ((rd_T42 l0 x3_1).f1).length c370_1)) (ds := []) (bz 20 0) (by kernel_rfl) rfl rfl ⟨((HB.out.cell (zQ w _ hw370_0)).trans hw370_0), ((HB.out.cell (zQ w _ hw370_1)).trans hw370_1)⟩ (fun hHeld => ?_); refine with_tabW spec_l07List.tab4 spec_l07List.bits4 (fun HT_ HW_ => ?_)
      generalize wr.drew = w12 at HB HR370_0 HR370_1 hx370_0 hx370_1 hHeld ⊢
      refine qA 0 10 (bz 20 1) HT_ ?_
      refine qA 1 11 (bz 20 3) HT_ ?_
      refine qA 2 12 (bz 20 7) HT_ ?_
      refine qC 3 13 (bz 20 15) HT_ HW_ hHeld ?_ (hy := by rintro w' ⟨s0, s1⟩; go_simp; with_reducible rfl)
      refine one_ (i := 4) (N := some 14) (bz 20 31) rfl rfl (one_of HT_.out (by kernel_rfl)) (by decide) (fun K hK => ?_)
      refine goes_ Try.func108 (by kernel_rfl) rfl #[.agg #[.slice A370_0 ((rd_T42 l0 x3_1).f0).length c370_0, .slice A370_1 ((rd_T42 l0 x3_1).f1).length c370_1]] (by rfl) rfl rfl (by (try simp only [zK, zL, zM]); first | done | rfl | (simp only [zN, zO]; rfl)) ?_
      with_reducible refine (spec_l07Box.calls k1 _ _ ((rd_T42 l0 x3_1).f0) _ _ ((rd_T42 l0 x3_1).f1) false _ ?side1 ?side2 ?side3 ?side4 A4.out).mono ?_
      (case side1 => exact kV (yY HR370_0.out HB.out))
      (case side2 => exact HC370_0.out)
      (case side3 => exact kV (yY HR370_1.out HB.out))
      (case side4 => exact HC370_1.out)
      rintro e w13 ⟨rfl, hb⟩
      refine ⟨_, rfl, ?_⟩
      have n0_ := yD (zC (kB HB) hb)
      clear HB; have HB := n0_; clear n0_; (try clear hb); (try clear hb2); (try clear hk); (try clear hi)
      refine hK.out _ _ ⟨((HB.out.cell (zQ w _ hw370_0)).trans hw370_0), ((HB.out.cell (zQ w _ hw370_1)).trans hw370_1)⟩ (fun hHeld => ?_)
      clear hK K
      refine norm_ (a' := ?_) ?_ ?_
      rotate_left
      · show Act.put _ (some 14) _ = _
        simp only [Act.put, zH, zI, zJ, i64_w, i32_w]
        rfl
      refine qA 5 15 (bz 20 63) HT_ ?_
      refine qA 6 16 (bz 20 127) HT_ ?_
      refine qB 7 17 (bz 20 255) HT_ ?_
      refine qB 8 18 (bz 20 511) HT_ ?_
      refine qB 9 19 (bz 20 1023) HT_ ?_
      refine qB 10 20 (bz 20 2047) HT_ ?_
      refine qB 11 21 (bz 20 4095) HT_ ?_
      refine qB 12 22 (bz 20 8191) HT_ ?_
      refine qB 13 23 (bz 20 16383) HT_ ?_
      refine qB 14 24 (bz 20 32767) HT_ ?_
      refine qB 15 25 (bz 20 65535) HT_ ?_
      refine qB 16 26 (bz 20 131071) HT_ ?_
      refine qB 17 27 (bz 20 262143) HT_ ?_
      refine qB 18 28 (bz 20 524287) HT_ ?_
      refine qA 19 29 (bz 20 1048575) HT_ ?_
      refine done_ (done_of HT_.out (by kernel_rfl)) ?_
      try go_wp2
      go_ret
      exact ⟨by first | rfl | (simp <;> rfl) | (simp [*] <;> rfl), kR0 HB⟩
    · rw [if_neg c3] at H
      exact absurd H (by simp)
   · rw [if_neg c2] at H
     have c2b0 : decide (x3_1 < (l0.length : Int)) = false := zS c2; clear c2; obtain rfl := Option.some.inj H
     go_wp2
     go_ret
     exact ⟨by first | rfl | (simp <;> rfl) | (simp [*] <;> rfl), kR0 HB⟩

/-! ### spec_l07Rank: function 98 -/
def spec_l07Rank.f (l0 : List (S42)) (l1 : List (S42)) : Option (Int) := if (l0.length : Int) > 0 then (if 0 < (l0.length : Int) then (some (((rd_T42 l0 0).f0).length : Int)) else (none)) else (if (l1.length : Int) > 0 then (if 0 < (l1.length : Int) then (some (((rd_T42 l1 0).f0).length : Int)) else (none)) else (some 0))
set_option maxHeartbeats 8000000 in
set_option maxRecDepth 100000 in
theorem spec_l07Rank.calls (A0 : Option Addr) (c0 : Nat) (l0 : List (S42)) (A1 : Option Addr) (c1 : Nat) (l1 : List (S42)) (r : Int) (w : World) (hr0 : Kd.C k42 w A0 l0.length l0) (hc0 : l0.length ≤ c0) (hr1 : Kd.C k42 w A1 l1.length l1) (hc1 : l1.length ≤ c1) (h : spec_l07Rank.f l0 l1 = some r) :
 Calls Try.prog 98 #[.slice A0 l0.length c0, .slice A1 l1.length c1] w fun e w' => e = .returned (.int .i64 r) ∧ Drawn0 w w' := by
 have HR0 := yD hr0
 have HC0 := yD hc0
 clear hr0 hc0
 have HR1 := yD hr1
 have HC1 := yD hc1
 clear hr1 hc1
 have H : (if (l0.length : Int) > 0 then (if 0 < (l0.length : Int) then (some (((rd_T42 l0 0).f0).length : Int)) else (none)) else (if (l1.length : Int) > 0 then (if 0 < (l1.length : Int) then (some (((rd_T42 l1 0).f0).length : Int)) else (none)) else (some 0))) = some r := h
 clear h
 by_cases c3 : (l0.length : Int) > 0
 ·
  rw [if_pos c3] at H
  have c3b0 : decide (0 < (l0.length : Int)) = true := zR c3
  have c3b1 : decide (0 < l0.length) = true := zR (by omega)
  clear c3
  by_cases c4 : 0 < (l0.length : Int)
  ·
   rw [if_pos c4] at H
   have c4b0 : decide (0 < (l0.length : Int)) = true := zR c4
   have c4b1 : decide (0 < l0.length) = true := zR (by omega)
   clear c4; obtain rfl := Option.some.inj H
   have p374 : 0 ≤ (0 : Int) := (by omega)
   have q374 : 0 < (l0.length : Int) := zP (by assumption)
   obtain ⟨ad374, A374_0, c374_0, A374_1, c374_1, e374, hx374_0, hx374_1, hl374_0, hi374_0, hl374_1, hi374_1⟩ := at_T42 HR0.out 0 p374 q374
   cases e374
   have qi374 : (0 < l0.length) = True := eq_true (by omega)
   (try rw [show ((0 : Int)).toNat = 0 from rfl] at hx374_0)
   (try rw [show 0 * 2 = 0 from rfl] at hx374_0)
   (try rw [Addr.add_zero'] at hx374_0)
   (try rw [show ((0 : Int)).toNat = 0 from rfl] at hx374_1)
   (try rw [show 0 * 2 = 0 from rfl] at hx374_1)
   (try rw [Addr.add_zero'] at hx374_1)
   have HR374_0 := yD hi374_0
   have HC374_0 := yD hl374_0
   clear hi374_0 hl374_0
   have HR374_1 := yD hi374_1
   have HC374_1 := yD hl374_1
   clear hi374_1 hl374_1; replace p374 := eq_true p374; replace q374 := eq_true q374; go_enter Try.func98, Try.ntmps98
   go_wp2
   go_ret
   exact ⟨by first | rfl | (simp; done) | (simp [*]; done), by repeat (first | exact Drawn0.refl _ | apply Drawn0.step)⟩
  · rw [if_neg c4] at H
    exact absurd H (by simp)
 ·
  rw [if_neg c3] at H
  have c3b0 : decide (0 < (l0.length : Int)) = false := zS c3
  have c3b1 : decide (0 < l0.length) = false := zS (by omega)
  clear c3
  by_cases c5 : (l1.length : Int) > 0
  ·
   rw [if_pos c5] at H
   have c5b0 : decide (0 < (l1.length : Int)) = true := zR c5
   have c5b1 : decide (0 < l1.length) = true := zR (by omega)
   clear c5
   by_cases c6 : 0 < (l1.length : Int)
   ·
    rw [if_pos c6] at H
    have c6b0 : decide (0 < (l1.length : Int)) = true := zR c6
    have c6b1 : decide (0 < l1.length) = true := zR (by omega)
    clear c6; obtain rfl := Option.some.inj H
    have p375 : 0 ≤ (0 : Int) := (by omega)
    have q375 : 0 < (l1.length : Int) := zP (by assumption)
    obtain ⟨ad375, A375_0, c375_0, A375_1, c375_1, e375, hx375_0, hx375_1, hl375_0, hi375_0, hl375_1, hi375_1⟩ := at_T42 HR1.out 0 p375 q375
    cases e375
    have qi375 : (0 < l1.length) = True := eq_true (by omega)
    (try rw [show ((0 : Int)).toNat = 0 from rfl] at hx375_0)
    (try rw [show 0 * 2 = 0 from rfl] at hx375_0)
    (try rw [Addr.add_zero'] at hx375_0)
    (try rw [show ((0 : Int)).toNat = 0 from rfl] at hx375_1)
    (try rw [show 0 * 2 = 0 from rfl] at hx375_1)
    (try rw [Addr.add_zero'] at hx375_1)
    have HR375_0 := yD hi375_0
    have HC375_0 := yD hl375_0
    clear hi375_0 hl375_0
    have HR375_1 := yD hi375_1
    have HC375_1 := yD hl375_1
    clear hi375_1 hl375_1; replace p375 := eq_true p375; replace q375 := eq_true q375; go_enter Try.func98, Try.ntmps98
    go_wp2
    go_ret
    exact ⟨by first | rfl | (simp; done) | (simp [*]; done), by repeat (first | exact Drawn0.refl _ | apply Drawn0.step)⟩
   · rw [if_neg c6] at H
     exact absurd H (by simp)
  ·
   rw [if_neg c5] at H
   have c5b0 : decide (0 < (l1.length : Int)) = false := zS c5
   have c5b1 : decide (0 < l1.length) = false := zS (by omega)
   clear c5; obtain rfl := Option.some.inj H; go_enter Try.func98, Try.ntmps98
   go_wp2
   go_ret
   exact ⟨by first | rfl | (simp; done) | (simp [*]; done), by repeat (first | exact Drawn0.refl _ | apply Drawn0.step)⟩

/-! ### spec_l07Holds: function 127 -/
def spec_l07Holds.f (a0 : Int) (a1 : Bool) (a2 : Bool) : Option (Bool) := if a0 = 1 then (if a1 = true then (some true) else (some a2)) else (if a0 = 2 then (if a1 = true then (some a2) else (some false)) else (if a1 = true then (some (!a2)) else (some false)))
set_option maxHeartbeats 8000000 in
set_option maxRecDepth 100000 in
theorem spec_l07Holds.calls (a0 : Int) (a1 : Bool) (a2 : Bool) (r : Bool) (w : World) (h : spec_l07Holds.f a0 a1 a2 = some r) :
 Calls Try.prog 127 #[.int .i64 a0, .bool a1, .bool a2] w fun e w' => e = .returned (.bool r) ∧ Drawn0 w w' := by
 have H : (if a0 = 1 then (if a1 = true then (some true) else (some a2)) else (if a0 = 2 then (if a1 = true then (some a2) else (some false)) else (if a1 = true then (some (!a2)) else (some false)))) = some r := h
 clear h
 by_cases c4 : a0 = 1
 ·
  rw [if_pos c4] at H
  have c4b0 : (a0 == 1) = true := beq_iff_eq.mpr c4
  have c4b1 : (a0 != 1) = false := bne_eq_false_iff_eq.mpr c4
  clear c4
  by_cases c5 : a1 = true
  · subst c5
    replace H : (some true) = some r := (by rw [if_pos rfl] at H; exact H); obtain rfl := Option.some.inj H; go_enter Try.func127, Try.ntmps127
    go_wp2
    go_ret
    exact ⟨by first | rfl | (simp; done) | (simp [*]; done), by repeat (first | exact Drawn0.refl _ | apply Drawn0.step)⟩
  · replace c5 := Bool.eq_false_iff.mpr c5
    subst c5
    replace H : (some a2) = some r := (by rw [if_neg (show ¬ (false = true) by decide)] at H; exact H); obtain rfl := Option.some.inj H; go_enter Try.func127, Try.ntmps127
    go_wp2
    go_ret
    exact ⟨by first | rfl | (simp; done) | (simp [*]; done), by repeat (first | exact Drawn0.refl _ | apply Drawn0.step)⟩
 ·
  rw [if_neg c4] at H
  have c4b0 : (a0 == 1) = false := beq_eq_false_iff_ne.mpr c4
  have c4b1 : (a0 != 1) = true := bne_iff_ne.mpr c4
  by_cases c6 : a0 = 2
  ·
   rw [if_pos c6] at H
   have c6b0 : (a0 == 2) = true := beq_iff_eq.mpr c6
   have c6b1 : (a0 != 2) = false := bne_eq_false_iff_eq.mpr c6
   clear c6
   by_cases c7 : a1 = true
   · subst c7
     replace H : (some a2) = some r := (by rw [if_pos rfl] at H; exact H); obtain rfl := Option.some.inj H; go_enter Try.func127, Try.ntmps127
     go_wp2
     go_ret
     exact ⟨by first | rfl | (simp; done) | (simp [*]; done), by repeat (first | exact Drawn0.refl _ | apply Drawn0.step)⟩
   · replace c7 := Bool.eq_false_iff.mpr c7
     subst c7
     replace H : (some false) = some r := (by rw [if_neg (show ¬ (false = true) by decide)] at H; exact H); obtain rfl := Option.some.inj H; go_enter Try.func127, Try.ntmps127
     go_wp2
     go_ret
     exact ⟨by first | rfl | (simp; done) | (simp [*]; done), by repeat (first | exact Drawn0.refl _ | apply Drawn0.step)⟩
  ·
   rw [if_neg c6] at H
   have c6b0 : (a0 == 2) = false := beq_eq_false_iff_ne.mpr c6
   have c6b1 : (a0 != 2) = true := bne_iff_ne.mpr c6
   by_cases c8 : a1 = true
   · subst c8
     replace H : (some (!a2)) = some r := (by rw [if_pos rfl] at H; exact H); obtain rfl := Option.some.inj H; go_enter Try.func127, Try.ntmps127
     go_wp2
     go_ret
     exact ⟨by first | rfl | (simp; done) | (simp [*]; done), by repeat (first | exact Drawn0.refl _ | apply Drawn0.step)⟩
   · replace c8 := Bool.eq_false_iff.mpr c8
     subst c8
     replace H : (some false) = some r := (by rw [if_neg (show ¬ (false = true) by decide)] at H; exact H); obtain rfl := Option.some.inj H; go_enter Try.func127, Try.ntmps127
     go_wp2
     go_ret
     exact ⟨by first | rfl | (simp; done) | (simp [*]; done), by repeat (first | exact Drawn0.refl _ | apply Drawn0.step)⟩
/-! ### spec_l00Put: function 148 -/
mutual
def spec_l00Put.l0 : Nat → List Int → Int → List Int → Bool → Int → Option (List Int)
 | 0, _, _, _, _, _ => none
 | k + 1, x0, x1, x5, x6, x7 => if x7 < (x0.length : Int) then (if x6 = true then (spec_l00Put.j1 k x0 x1 x5 x6 x7 false) else (if 0 ≤ x7 then (spec_l00Put.j1 k x0 x1 x5 x6 x7 (decide ((rd x0 x7) ≥ x1))) else (none))) else (if x6 = true then (some x5) else (if x5.length < 17592186044416 then (some (x5 ++ [x1])) else (none)))
def spec_l00Put.j1 : Nat → List Int → Int → List Int → Bool → Int → Bool → Option (List Int)
 | 0, _, _, _, _, _, _ => none
 | k + 1, x0, x1, x5, x6, x7, x24 => if x24 = true then (if 0 ≤ x7 then (if x7 < (x0.length : Int) then (if (rd x0 x7) > x1 then (if x5.length < 17592186044416 then ((some (x5 ++ [x1] : List Int)).bind fun y384 => (if y384.length < 17592186044416 then (spec_l00Put.l0 k x0 x1 (y384 ++ [rd x0 x7]) true (wrap64 (x7 + 1))) else (none))) else (none)) else (if x5.length < 17592186044416 then (spec_l00Put.l0 k x0 x1 (x5 ++ [rd x0 x7]) true (wrap64 (x7 + 1))) else (none))) else (none)) else (none)) else (if 0 ≤ x7 then (if x7 < (x0.length : Int) then (if x5.length < 17592186044416 then (spec_l00Put.l0 k x0 x1 (x5 ++ [rd x0 x7]) x6 (wrap64 (x7 + 1))) else (none)) else (none)) else (none))
end
def spec_l00Put.f (k : Nat) (l0 : List Int) (a1 : Int) : Option (List Int) := spec_l00Put.l0 k l0 a1 (([] : List Int)) false 0
theorem spec_l00Put.mono_l : ∀ k, (∀ y0 y1 y2 y3 y4, LeO (spec_l00Put.l0 k y0 y1 y2 y3 y4) (spec_l00Put.l0 (k + 1) y0 y1 y2 y3 y4)) ∧ (∀ y0 y1 y2 y3 y4 y5, LeO (spec_l00Put.j1 k y0 y1 y2 y3 y4 y5) (spec_l00Put.j1 (k + 1) y0 y1 y2 y3 y4 y5))
 | 0 => ⟨fun _ _ _ _ _ r h => by simp [spec_l00Put.l0] at h, fun _ _ _ _ _ _ r h => by simp [spec_l00Put.j1] at h⟩
 | k + 1 => by
  obtain ⟨ih0, ih1⟩ := spec_l00Put.mono_l k
  refine ⟨?_, ?_⟩
  · intro y0 y1 y2 y3 y4
    unfold spec_l00Put.l0
    repeat' (with_reducible first | exact ih0 _ _ _ _ _ | exact ih1 _ _ _ _ _ _ | exact LeO.refl _ | exact LeO.none _ | refine LeO.ite ?_ ?_ | refine LeO.bind ?_ (fun _ => ?_))
  · intro y0 y1 y2 y3 y4 y5
    unfold spec_l00Put.j1
    repeat' (with_reducible first | exact ih0 _ _ _ _ _ | exact ih1 _ _ _ _ _ _ | exact LeO.refl _ | exact LeO.none _ | refine LeO.ite ?_ ?_ | refine LeO.bind ?_ (fun _ => ?_))
theorem spec_l00Put.mono : ∀ a0 a1 k, LeO (spec_l00Put.f k a0 a1) (spec_l00Put.f (k + 1) a0 a1) := by
 intro a0 a1 k
 obtain ⟨ih0, ih1⟩ := spec_l00Put.mono_l k
 unfold spec_l00Put.f
 repeat' (with_reducible first | exact ih0 _ _ _ _ _ | exact ih1 _ _ _ _ _ _ | exact LeO.refl _ | exact LeO.none _ | refine LeO.ite ?_ ?_ | refine LeO.bind ?_ (fun _ => ?_))
set_option maxHeartbeats 8000000 in
set_option maxRecDepth 100000 in
theorem spec_l00Put.calls (k : Nat) (A0 : Option Addr) (c0 : Nat) (l0 : List Int) (a1 : Int) (r : List Int) (w : World) (hr0 : Kd.C (Kd.int .i64) w A0 l0.length l0) (hc0 : l0.length ≤ c0) (h : spec_l00Put.f k l0 a1 = some r) :
 Calls Try.prog 148 #[.slice A0 l0.length c0, .int .i64 a1] w fun e w' => ∃ v0_ : Value, e = .returned (v0_) ∧ Kd.R (Kd.int .i64) 2 w' w.heap.size (fun _ => True) v0_ r ∧ Below w.heap.size w w' := by
 have HR0 := yD hr0
 have HC0 := yD hc0
 clear hr0 hc0
 have HB := yD (Below.refl w.heap.size w)
 have H : (spec_l00Put.l0 k l0 a1 (([] : List Int)) false 0) = some r := h
 clear h
 obtain ⟨y376, hy376⟩ : ∃ y_ : List Int, y_ = (([] : List Int)) := ⟨_, rfl⟩
 replace H : (spec_l00Put.l0 k l0 a1 y376 false 0) = some r := by first | (rw [hy376]; with_reducible exact H) | (have H2_ := (Option.bind_some _ _).symm.trans H; rw [hy376]; with_reducible exact H2_) | (have H2_ := (Option.bind_some _ _).symm.trans H; with_reducible exact H2_) | with_reducible exact H | (rw [hy376]; exact H) | exact H
 have Ny376 := yD hy376
 clear hy376
 have H' := yD H
 clear H; go_enter Try.func148, Try.ntmps148
 go_wp2_with (first | ((with_reducible refine gate_dst (N := 8) rfl ?_); refine Kd.R_lit (Kd.int .i64) _ 2 ?hg (N := 8) ?hd (xs := ([] : List Int)) (inner := []) (ok := fun _ => True) (okp := fun _ => True) ?hr ?hp (fun _ hk => hk) trivial (Below.refl _ _) (Nat.le_refl _) (by simp) ?_; (case hd => rfl); (case hg => rfl); (case hr => first | (go_simp; done) | (go_simp; rfl)); (case hp => exact (Reps.none _ _)); intro v377 w3 ho4 hb hg_ hnew_; clear hg_ hnew_; (first | rw [← Ny376.out] at ho4 | (simp only [Int.reduceToNat] at ho4; rw [← Ny376.out] at ho4)); have HO378 := yD (yZ ho4 (below_size (kB HB))); replace HB := yD (zC (kB HB) hb); clear hb ho4))
 (try simp only [Act.put, zH, zI, zJ])
 go_loopg [5, 6, 7] k (fun kq v5 v6 v7 w' => ∃ (x5_1 : List Int) (x6_1 : Bool) (x7_1 : Int), v6 = .bool x6_1 ∧ v7 = .int .i64 x7_1 ∧ Aside0 (spec_l00Put.l0 kq l0 a1 x5_1 x6_1 x7_1 = some r) ∧ Aside0 (kq ≤ k) ∧ Aside0 (Kd.R (Kd.int .i64) 2 w' w.heap.size (fun _ => True) v5 x5_1) ∧ Aside0 (Below w.heap.size w w'))
 case atStart => exact ⟨(y376), (false), (0), (by first | rfl | (simp; done) | (simp [*]; done)), (by first | rfl | (simp; done) | (simp [*]; done)), H', ⟨Nat.le_refl _⟩, ⟨kA HO378⟩, ⟨kR0 HB⟩⟩
 case round =>
  clear H'
  try clear c1
  obtain ⟨x5_1, x6_1, x7_1, rfl, rfl, HA, HK1, HO_5, HB⟩ := hrel
  cases gk with
  | zero => exact absurd HA.out (by simp [spec_l00Put.l0])
  | succ k1 =>
   have H := HA.out; clear HA
   simp only [spec_l00Put.l0] at H
   by_cases c5 : x7_1 < (l0.length : Int)
   ·
    rw [if_pos c5] at H
    have c5b0 : decide (x7_1 < (l0.length : Int)) = true := zR c5; clear c5
    have HC6 := yD H
    clear H
    go_upto_region 6 with (fail)
    go_cut [24] (fun v24 wc => ∃ (kq : Nat) (x24_5 : Bool), v24 = .bool x24_5 ∧ Aside0 (spec_l00Put.j1 kq l0 a1 x5_1 x6_1 x7_1 x24_5 = some r) ∧ Aside0 (kq ≤ k1) ∧ Aside0 (Kd.R (Kd.int .i64) 2 wc w.heap.size (fun _ => True) u5 x5_1) ∧ Aside0 (Below w.heap.size w wc))
    case first =>
     have H := HC6.out; clear HC6
     by_cases c7 : x6_1 = true
     · subst c7
       replace H : (spec_l00Put.j1 k1 l0 a1 x5_1 true x7_1 false) = some r := (by rw [if_pos rfl] at H; exact H)
       have H' := yD H
       clear H
       go_wp2
       go_meet
       case rel => exact ⟨_, (false), (by first | rfl | (simp; done) | (simp [*]; done)), H', ⟨by have := HK1.out; first | omega | exact Nat.le_refl _⟩, ⟨kA HO_5⟩, ⟨kR0 HB⟩⟩
     ·
      replace c7 := Bool.eq_false_iff.mpr c7
      subst c7
      replace H : (if 0 ≤ x7_1 then (spec_l00Put.j1 k1 l0 a1 x5_1 false x7_1 (decide ((rd l0 x7_1) ≥ a1))) else (none)) = some r := (by rw [if_neg (show ¬ (false = true) by decide)] at H; exact H)
      by_cases c8 : 0 ≤ x7_1
      ·
       rw [if_pos c8] at H
       have c8b0 : decide (0 ≤ x7_1) = true := zR c8; clear c8
       (first | rw [c8b0] | (simp only [i64_w, i32_w]; rw [c8b0]) | (simp only [bne] at c8b0; rw [c8b0]) | skip)
       have H' := yD H
       clear H
       have p382 : 0 ≤ (x7_1 : Int) := zP (by assumption)
       have q382 : x7_1 < (l0.length : Int) := zP (by assumption)
       obtain ⟨ad382, e382, hx382_0⟩ := Kd.at_int HR0.out x7_1 p382 q382
       cases e382
       replace hx382_0 := (HB.out.cell (zQ w _ hx382_0)).trans hx382_0
       replace p382 := eq_true p382; replace q382 := eq_true q382
       go_wp2
       go_meet
       case rel => exact ⟨_, (decide ((rd l0 x7_1) ≥ a1)), (by first | rfl | (simp; done) | (simp [*]; done)), H', ⟨by have := HK1.out; first | omega | exact Nat.le_refl _⟩, ⟨kA HO_5⟩, ⟨kR0 HB⟩⟩
      · rw [if_neg c8] at H
        exact absurd H (by simp)
    case rest =>
     clear HC6; try clear c5; try clear c5b0; try clear c7; try clear c8; try clear c8b0; try clear hx382_0; try clear p382; try clear q382
     obtain ⟨kq, x24_5, rfl, HA, HJ5, HO_5, HB⟩ := hcut
     cases kq with
     | zero => exact absurd HA.out (by simp [spec_l00Put.j1])
     | succ kj5 =>
      have H := HA.out; clear HA
      simp only [spec_l00Put.j1] at H
      by_cases c9 : x24_5 = true
      ·
       subst c9
       replace H : (if 0 ≤ x7_1 then (if x7_1 < (l0.length : Int) then (if (rd l0 x7_1) > a1 then (if x5_1.length < 17592186044416 then ((some (x5_1 ++ [a1] : List Int)).bind fun y384 => (if y384.length < 17592186044416 then (spec_l00Put.l0 kj5 l0 a1 (y384 ++ [rd l0 x7_1]) true (wrap64 (x7_1 + 1))) else (none))) else (none)) else (if x5_1.length < 17592186044416 then (spec_l00Put.l0 kj5 l0 a1 (x5_1 ++ [rd l0 x7_1]) true (wrap64 (x7_1 + 1))) else (none))) else (none)) else (none)) = some r := (by rw [if_pos rfl] at H; exact H)
       by_cases c10 : 0 ≤ x7_1
       ·
        rw [if_pos c10] at H
        have c10b0 : decide (0 ≤ x7_1) = true := zR c10; clear c10
        by_cases c11 : x7_1 < (l0.length : Int)
        ·
         rw [if_pos c11] at H
         have c11b0 : decide (x7_1 < (l0.length : Int)) = true := zR c11; clear c11
         by_cases c12 : (rd l0 x7_1) > a1
         ·
          rw [if_pos c12] at H
          have c12b0 : decide (a1 < (rd l0 x7_1)) = true := zR c12; clear c12
          by_cases c13 : x5_1.length < 17592186044416
          ·
           rw [if_pos c13] at H
           have LMc13 := yD c13
           clear c13
           obtain ⟨y384, hy384⟩ : ∃ y_ : List Int, y_ = (x5_1 ++ [a1]) := ⟨_, rfl⟩
           replace H : (if y384.length < 17592186044416 then (spec_l00Put.l0 kj5 l0 a1 (y384 ++ [rd l0 x7_1]) true (wrap64 (x7_1 + 1))) else (none)) = some r := by first | (rw [hy384]; with_reducible exact H) | (have H2_ := (Option.bind_some _ _).symm.trans H; rw [hy384]; with_reducible exact H2_) | (have H2_ := (Option.bind_some _ _).symm.trans H; with_reducible exact H2_) | with_reducible exact H | (rw [hy384]; exact H) | exact H
           have Ny384 := yD hy384
           clear hy384
           by_cases c14 : y384.length < 17592186044416
           ·
            rw [if_pos c14] at H
            have LMc14 := yD c14
            clear c14
            obtain ⟨y388, hy388⟩ : ∃ y_ : List Int, y_ = (y384 ++ [rd l0 x7_1]) := ⟨_, rfl⟩
            replace H : (spec_l00Put.l0 kj5 l0 a1 y388 true (wrap64 (x7_1 + 1))) = some r := by first | (rw [hy388]; with_reducible exact H) | (have H2_ := (Option.bind_some _ _).symm.trans H; rw [hy388]; with_reducible exact H2_) | (have H2_ := (Option.bind_some _ _).symm.trans H; with_reducible exact H2_) | with_reducible exact H | (rw [hy388]; exact H) | exact H
            have Ny388 := yD hy388
            clear hy388
            have H' := yD H
            clear H
            have p383 : 0 ≤ (x7_1 : Int) := zP (by assumption)
            have q383 : x7_1 < (l0.length : Int) := zP (by assumption)
            obtain ⟨ad383, e383, hx383_0⟩ := Kd.at_int HR0.out x7_1 p383 q383
            cases e383
            replace hx383_0 := (HB.out.cell (zQ w _ hx383_0)).trans hx383_0
            replace p383 := eq_true p383; replace q383 := eq_true q383
            go_wp2_with (first | ((with_reducible refine gate_builtin (b := .append) (xs := #[.tmp 31, .tmp 33]) rfl ?_); at_builtin; refine Kd.R_append (Kd.int .i64) (w0 := w) w.heap.size rfl (.tmp 31) (.tmp 33) 36 2 (.int .i64 0) 8 rfl Try.underlying36 info2 rfl (by decide) (by omega) u5 x5_1 a1 [.int .i64 a1] (fun _ => True) (fun _ => False) rfl rfl ?aP (fun _ hk => hk.elim) ?aF ?aO ?aB ?aS ?aL ?_; (case aP => exact rfl); (case aB => exact (kB HB)); (case aF => exact (fun _ _ => trivial)); (case aO => exact (kA HO_5)); (case aS => exact (below_size (kB HB))); (case aL => have := LMc13.out; omega); intro v385 w15 ho hb hg hat; rw [← Ny384.out] at ho; replace HB := yD (hb); have HO386 := yD (ho); clear HO_5; clear ho hb hg hat; have p387 : 0 ≤ (x7_1 : Int) := zP (by assumption); have q387 : x7_1 < (l0.length : Int) := zP (by assumption); obtain ⟨ad387, e387, hx387_0⟩ := Kd.at_int HR0.out x7_1 p387 q387; obtain rfl : ad383 = ad387 := (by injection e387); replace hx387_0 := (HB.out.cell (zQ w _ hx387_0)).trans hx387_0; replace p387 := eq_true p387; replace q387 := eq_true q387) | ((with_reducible refine gate_builtin (b := .append) (xs := #[.tmp 35, .tmp 40]) rfl ?_); at_builtin; refine Kd.R_append (Kd.int .i64) (w0 := w) w.heap.size rfl (.tmp 35) (.tmp 40) 36 2 (.int .i64 0) 8 rfl Try.underlying36 info2 rfl (by decide) (by omega) v385 y384 (rd l0 x7_1) [.int .i64 (rd l0 x7_1)] (fun _ => True) (fun _ => False) rfl rfl ?aP (fun _ hk => hk.elim) ?aF ?aO ?aB ?aS ?aL ?_; (case aP => exact rfl); (case aB => exact (kB HB)); (case aF => exact (fun _ _ => trivial)); (case aO => exact (kA HO386)); (case aS => exact (below_size (kB HB))); (case aL => have := LMc14.out; omega); intro v389 w16 ho hb hg hat; rw [← Ny388.out] at ho; replace HB := yD (hb); have HO390 := yD (ho); clear HO386; clear ho hb hg hat))
            go_roundg kj5
            case measure => have := HK1.out; have := HJ5.out; omega
            case rel => exact ⟨(y388), (true), (wrap64 (x7_1 + 1)), (by first | rfl | (simp; done) | (simp [*]; done)), (by first | rfl | (simp; done) | (simp [*]; done)), H', ⟨by have := HK1.out; have := HJ5.out; omega⟩, ⟨kA HO390⟩, ⟨kR0 HB⟩⟩
           · rw [if_neg c14] at H
             exact absurd H (by simp)
          · rw [if_neg c13] at H
            exact absurd H (by simp)
         ·
          rw [if_neg c12] at H
          have c12b0 : decide (a1 < (rd l0 x7_1)) = false := zS c12; clear c12
          by_cases c17 : x5_1.length < 17592186044416
          ·
           rw [if_pos c17] at H
           have LMc17 := yD c17
           clear c17
           obtain ⟨y392, hy392⟩ : ∃ y_ : List Int, y_ = (x5_1 ++ [rd l0 x7_1]) := ⟨_, rfl⟩
           replace H : (spec_l00Put.l0 kj5 l0 a1 y392 true (wrap64 (x7_1 + 1))) = some r := by first | (rw [hy392]; with_reducible exact H) | (have H2_ := (Option.bind_some _ _).symm.trans H; rw [hy392]; with_reducible exact H2_) | (have H2_ := (Option.bind_some _ _).symm.trans H; with_reducible exact H2_) | with_reducible exact H | (rw [hy392]; exact H) | exact H
           have Ny392 := yD hy392
           clear hy392
           have H' := yD H
           clear H
           have p383 : 0 ≤ (x7_1 : Int) := zP (by assumption)
           have q383 : x7_1 < (l0.length : Int) := zP (by assumption)
           obtain ⟨ad383, e383, hx383_0⟩ := Kd.at_int HR0.out x7_1 p383 q383
           cases e383
           replace hx383_0 := (HB.out.cell (zQ w _ hx383_0)).trans hx383_0
           replace p383 := eq_true p383; replace q383 := eq_true q383
           have p391 : 0 ≤ (x7_1 : Int) := zP (by assumption)
           have q391 : x7_1 < (l0.length : Int) := zP (by assumption)
           obtain ⟨ad391, e391, hx391_0⟩ := Kd.at_int HR0.out x7_1 p391 q391
           obtain rfl : ad383 = ad391 := (by injection e391)
           replace hx391_0 := (HB.out.cell (zQ w _ hx391_0)).trans hx391_0
           replace p391 := eq_true p391; replace q391 := eq_true q391
           go_wp2_with (first | ((with_reducible refine gate_builtin (b := .append) (xs := #[.tmp 35, .tmp 40]) rfl ?_); at_builtin; refine Kd.R_append (Kd.int .i64) (w0 := w) w.heap.size rfl (.tmp 35) (.tmp 40) 36 2 (.int .i64 0) 8 rfl Try.underlying36 info2 rfl (by decide) (by omega) u5 x5_1 (rd l0 x7_1) [.int .i64 (rd l0 x7_1)] (fun _ => True) (fun _ => False) rfl rfl ?aP (fun _ hk => hk.elim) ?aF ?aO ?aB ?aS ?aL ?_; (case aP => exact rfl); (case aB => exact (kB HB)); (case aF => exact (fun _ _ => trivial)); (case aO => exact (kA HO_5)); (case aS => exact (below_size (kB HB))); (case aL => have := LMc17.out; omega); intro v393 w18 ho hb hg hat; rw [← Ny392.out] at ho; replace HB := yD (hb); have HO394 := yD (ho); clear HO_5; clear ho hb hg hat))
           go_roundg kj5
           case measure => have := HK1.out; have := HJ5.out; omega
           case rel => exact ⟨(y392), (true), (wrap64 (x7_1 + 1)), (by first | rfl | (simp; done) | (simp [*]; done)), (by first | rfl | (simp; done) | (simp [*]; done)), H', ⟨by have := HK1.out; have := HJ5.out; omega⟩, ⟨kA HO394⟩, ⟨kR0 HB⟩⟩
          · rw [if_neg c17] at H
            exact absurd H (by simp)
        · rw [if_neg c11] at H
          exact absurd H (by simp)
       · rw [if_neg c10] at H
         exact absurd H (by simp)
      ·
       replace c9 := Bool.eq_false_iff.mpr c9
       subst c9
       replace H : (if 0 ≤ x7_1 then (if x7_1 < (l0.length : Int) then (if x5_1.length < 17592186044416 then (spec_l00Put.l0 kj5 l0 a1 (x5_1 ++ [rd l0 x7_1]) x6_1 (wrap64 (x7_1 + 1))) else (none)) else (none)) else (none)) = some r := (by rw [if_neg (show ¬ (false = true) by decide)] at H; exact H)
       by_cases c19 : 0 ≤ x7_1
       ·
        rw [if_pos c19] at H
        have c19b0 : decide (0 ≤ x7_1) = true := zR c19; clear c19
        by_cases c20 : x7_1 < (l0.length : Int)
        ·
         rw [if_pos c20] at H
         have c20b0 : decide (x7_1 < (l0.length : Int)) = true := zR c20; clear c20
         by_cases c21 : x5_1.length < 17592186044416
         ·
          rw [if_pos c21] at H
          have LMc21 := yD c21
          clear c21
          obtain ⟨y396, hy396⟩ : ∃ y_ : List Int, y_ = (x5_1 ++ [rd l0 x7_1]) := ⟨_, rfl⟩
          replace H : (spec_l00Put.l0 kj5 l0 a1 y396 x6_1 (wrap64 (x7_1 + 1))) = some r := by first | (rw [hy396]; with_reducible exact H) | (have H2_ := (Option.bind_some _ _).symm.trans H; rw [hy396]; with_reducible exact H2_) | (have H2_ := (Option.bind_some _ _).symm.trans H; with_reducible exact H2_) | with_reducible exact H | (rw [hy396]; exact H) | exact H
          have Ny396 := yD hy396
          clear hy396
          have H' := yD H
          clear H
          have p395 : 0 ≤ (x7_1 : Int) := zP (by assumption)
          have q395 : x7_1 < (l0.length : Int) := zP (by assumption)
          obtain ⟨ad395, e395, hx395_0⟩ := Kd.at_int HR0.out x7_1 p395 q395
          cases e395
          replace hx395_0 := (HB.out.cell (zQ w _ hx395_0)).trans hx395_0
          replace p395 := eq_true p395; replace q395 := eq_true q395
          go_wp2_with (first | ((with_reducible refine gate_builtin (b := .append) (xs := #[.tmp 35, .tmp 40]) rfl ?_); at_builtin; refine Kd.R_append (Kd.int .i64) (w0 := w) w.heap.size rfl (.tmp 35) (.tmp 40) 36 2 (.int .i64 0) 8 rfl Try.underlying36 info2 rfl (by decide) (by omega) u5 x5_1 (rd l0 x7_1) [.int .i64 (rd l0 x7_1)] (fun _ => True) (fun _ => False) rfl rfl ?aP (fun _ hk => hk.elim) ?aF ?aO ?aB ?aS ?aL ?_; (case aP => exact rfl); (case aB => exact (kB HB)); (case aF => exact (fun _ _ => trivial)); (case aO => exact (kA HO_5)); (case aS => exact (below_size (kB HB))); (case aL => have := LMc21.out; omega); intro v397 w22 ho hb hg hat; rw [← Ny396.out] at ho; replace HB := yD (hb); have HO398 := yD (ho); clear HO_5; clear ho hb hg hat))
          go_roundg kj5
          case measure => have := HK1.out; have := HJ5.out; omega
          case rel => exact ⟨(y396), (x6_1), (wrap64 (x7_1 + 1)), (by first | rfl | (simp; done) | (simp [*]; done)), (by first | rfl | (simp; done) | (simp [*]; done)), H', ⟨by have := HK1.out; have := HJ5.out; omega⟩, ⟨kA HO398⟩, ⟨kR0 HB⟩⟩
         · rw [if_neg c21] at H
           exact absurd H (by simp)
        · rw [if_neg c20] at H
          exact absurd H (by simp)
       · rw [if_neg c19] at H
         exact absurd H (by simp)
   ·
    rw [if_neg c5] at H
    have c5b0 : decide (x7_1 < (l0.length : Int)) = false := zS c5; clear c5
    by_cases c23 : x6_1 = true
    · subst c23
      replace H : (some x5_1) = some r := (by rw [if_pos rfl] at H; exact H); obtain rfl := Option.some.inj H
      go_wp2
      go_ret
      exact ⟨_, by first | rfl | (simp <;> rfl) | (simp [*] <;> rfl), kA HO_5, kR0 HB⟩
    ·
     replace c23 := Bool.eq_false_iff.mpr c23
     subst c23
     replace H : (if x5_1.length < 17592186044416 then (some (x5_1 ++ [a1])) else (none)) = some r := (by rw [if_neg (show ¬ (false = true) by decide)] at H; exact H)
     by_cases c24 : x5_1.length < 17592186044416
     ·
      rw [if_pos c24] at H
      have LMc24 := yD c24
      clear c24
      obtain ⟨y379, hy379⟩ : ∃ y_ : List Int, y_ = (x5_1 ++ [a1]) := ⟨_, rfl⟩
      replace H : (some y379) = some r := by first | (rw [hy379]; with_reducible exact H) | (have H2_ := (Option.bind_some _ _).symm.trans H; rw [hy379]; with_reducible exact H2_) | (have H2_ := (Option.bind_some _ _).symm.trans H; with_reducible exact H2_) | with_reducible exact H | (rw [hy379]; exact H) | exact H
      have Ny379 := yD hy379
      clear hy379; obtain rfl := Option.some.inj H
      go_wp2_with (first | ((with_reducible refine gate_builtin (b := .append) (xs := #[.tmp 44, .tmp 46]) rfl ?_); at_builtin; refine Kd.R_append (Kd.int .i64) (w0 := w) w.heap.size rfl (.tmp 44) (.tmp 46) 36 2 (.int .i64 0) 8 rfl Try.underlying36 info2 rfl (by decide) (by omega) u5 x5_1 a1 [.int .i64 a1] (fun _ => True) (fun _ => False) rfl rfl ?aP (fun _ hk => hk.elim) ?aF ?aO ?aB ?aS ?aL ?_; (case aP => exact rfl); (case aB => exact (kB HB)); (case aF => exact (fun _ _ => trivial)); (case aO => exact (kA HO_5)); (case aS => exact (below_size (kB HB))); (case aL => have := LMc24.out; omega); intro v380 w25 ho hb hg hat; rw [← Ny379.out] at ho; replace HB := yD (hb); have HO381 := yD (ho); clear HO_5; clear ho hb hg hat))
      go_ret
      exact ⟨_, by first | rfl | (simp <;> rfl) | (simp [*] <;> rfl), kA HO381, kR0 HB⟩
     · rw [if_neg c24] at H
       exact absurd H (by simp)

/-! ### spec_l07Cuts: function 128 -/
def spec_l07Cuts.l0 : Nat → List Int → List (S42) → Int → Option (List Int)
 | 0, _, _, _ => none
 | k + 1, x0, x1, x5 => if x5 < (x1.length : Int) then (if 0 ≤ x5 then (if 0 < (((rd_T42 x1 x5).f0).length : Int) then ((spec_l00Put.f k x0 (rd ((rd_T42 x1 x5).f0) 0)).bind fun t401 => (if 0 < (((rd_T42 x1 x5).f1).length : Int) then ((spec_l00Put.f k t401 (rd ((rd_T42 x1 x5).f1) 0)).bind fun t406 => (spec_l07Cuts.l0 k t406 x1 (wrap64 (x5 + 1)))) else (none))) else (none)) else (none)) else (some x0)
def spec_l07Cuts.f (k : Nat) (l0 : List Int) (l1 : List (S42)) : Option (List Int) := spec_l07Cuts.l0 k l0 l1 0
theorem spec_l07Cuts.mono_l : ∀ k, (∀ y0 y1 y2, LeO (spec_l07Cuts.l0 k y0 y1 y2) (spec_l07Cuts.l0 (k + 1) y0 y1 y2))
 | 0 => fun _ _ _ r h => by simp [spec_l07Cuts.l0] at h
 | k + 1 => by
  have ih0 := spec_l07Cuts.mono_l k
  · intro y0 y1 y2
    unfold spec_l07Cuts.l0
    repeat' (with_reducible first | exact ih0 _ _ _ | exact spec_l00Put.mono _ _ _ | exact LeO.refl _ | exact LeO.none _ | refine LeO.ite ?_ ?_ | refine LeO.bind ?_ (fun _ => ?_))
theorem spec_l07Cuts.mono : ∀ a0 a1 k, LeO (spec_l07Cuts.f k a0 a1) (spec_l07Cuts.f (k + 1) a0 a1) := by
 intro a0 a1 k
 have ih0 := spec_l07Cuts.mono_l k
 unfold spec_l07Cuts.f
 repeat' (with_reducible first | exact ih0 _ _ _ | exact spec_l00Put.mono _ _ _ | exact LeO.refl _ | exact LeO.none _ | refine LeO.ite ?_ ?_ | refine LeO.bind ?_ (fun _ => ?_))
set_option maxHeartbeats 8000000 in
set_option maxRecDepth 100000 in
theorem spec_l07Cuts.calls (k : Nat) (P0_ : Nat → Prop) (A0 : Option Addr) (c0 : Nat) (l0 : List Int) (A1 : Option Addr) (c1 : Nat) (l1 : List (S42)) (r : List Int) (w : World) (hs0 : Kd.V (Kd.int .i64) 2 w w.heap.size (fun k_ => P0_ k_) (.slice A0 l0.length c0) l0) (hr1 : Kd.C k42 w A1 l1.length l1) (hc1 : l1.length ≤ c1) (h : spec_l07Cuts.f k l0 l1 = some r) :
 Calls Try.prog 128 #[.slice A0 l0.length c0, .slice A1 l1.length c1] w fun e w' => ∃ v0_ : Value, e = .returned (v0_) ∧ Kd.V (Kd.int .i64) 2 w' w.heap.size (fun k_ => (P0_ k_ ∨ w.heap.size ≤ k_)) v0_ r ∧ Below w.heap.size w w' := by
 have HO0 := yD (show Kd.V (Kd.int .i64) 2 w w.heap.size (fun k_ => (P0_ k_ ∨ w.heap.size ≤ k_)) (.slice A0 l0.length c0) l0 from Kd.V_mono hs0 (fun k_ hk => .inl hk))
 have HR1 := yD hr1
 have HC1 := yD hc1
 clear hr1 hc1
 have HB := yD (Below.refl w.heap.size w)
 have H : (spec_l07Cuts.l0 k l0 l1 0) = some r := h
 clear h
 have H' := yD H
 clear H; go_enter Try.func128, Try.ntmps128
 go_wp2
 go_loopg [0, 5] k (fun kq v0 v5 w' => ∃ (x0_1 : List Int) (x5_1 : Int), v5 = .int .i64 x5_1 ∧ Aside0 (spec_l07Cuts.l0 kq x0_1 l1 x5_1 = some r) ∧ Aside0 (kq ≤ k) ∧ Aside0 (Kd.V (Kd.int .i64) 2 w' w.heap.size (fun k_ => (P0_ k_ ∨ w.heap.size ≤ k_)) v0 x0_1) ∧ Aside0 (Below w.heap.size w w'))
 case atStart => exact ⟨(l0), (0), (by first | rfl | (simp; done) | (simp [*]; done)), H', ⟨Nat.le_refl _⟩, ⟨kU HO0⟩, ⟨kR0 HB⟩⟩
 case round =>
  clear H'
  try clear c1
  obtain ⟨x0_1, x5_1, rfl, HA, HK1, HO_0, HB⟩ := hrel
  cases gk with
  | zero => exact absurd HA.out (by simp [spec_l07Cuts.l0])
  | succ k1 =>
   have H := HA.out; clear HA
   simp only [spec_l07Cuts.l0] at H
   by_cases c3 : x5_1 < (l1.length : Int)
   ·
    rw [if_pos c3] at H
    have c3b0 : decide (x5_1 < (l1.length : Int)) = true := zR c3; clear c3
    by_cases c4 : 0 ≤ x5_1
    ·
     rw [if_pos c4] at H
     have c4b0 : decide (0 ≤ x5_1) = true := zR c4; clear c4
     by_cases c5 : 0 < (((rd_T42 l1 x5_1).f0).length : Int)
     ·
      rw [if_pos c5] at H
      have c5b0 : decide (0 < (((rd_T42 l1 x5_1).f0).length : Int)) = true := zR c5
      have c5b1 : decide (0 < ((rd_T42 l1 x5_1).f0).length) = true := zR (by omega)
      clear c5
      obtain ⟨t401, A60, H⟩ := zW_ H
      replace H : (if 0 < (((rd_T42 l1 x5_1).f1).length : Int) then ((spec_l00Put.f k1 t401 (rd ((rd_T42 l1 x5_1).f1) 0)).bind fun t406 => (spec_l07Cuts.l0 k1 t406 l1 (wrap64 (x5_1 + 1)))) else (none)) = some r := H
      have A6 := yD A60
      clear A60
      by_cases c7 : 0 < (((rd_T42 l1 x5_1).f1).length : Int)
      ·
       rw [if_pos c7] at H
       have c7b0 : decide (0 < (((rd_T42 l1 x5_1).f1).length : Int)) = true := zR c7
       have c7b1 : decide (0 < ((rd_T42 l1 x5_1).f1).length) = true := zR (by omega)
       clear c7
       obtain ⟨t406, A80, H⟩ := zW_ H
       replace H : (spec_l07Cuts.l0 k1 t406 l1 (wrap64 (x5_1 + 1))) = some r := H
       have A8 := yD A80
       clear A80
       have H' := yD H
       clear H
       have p399 : 0 ≤ (x5_1 : Int) := zP (by assumption)
       have q399 : x5_1 < (l1.length : Int) := zP (by assumption)
       obtain ⟨ad399, A399_0, c399_0, A399_1, c399_1, e399, hx399_0, hx399_1, hl399_0, hi399_0, hl399_1, hi399_1⟩ := at_T42 HR1.out x5_1 p399 q399
       cases e399
       replace hx399_0 := (HB.out.cell (zQ w _ hx399_0)).trans hx399_0
       replace hx399_1 := (HB.out.cell (zQ w _ hx399_1)).trans hx399_1
       have HR399_0 := yD hi399_0
       have HC399_0 := yD hl399_0
       clear hi399_0 hl399_0
       have HR399_1 := yD hi399_1
       have HC399_1 := yD hl399_1
       clear hi399_1 hl399_1; replace p399 := eq_true p399; replace q399 := eq_true q399
       have p400 : 0 ≤ (0 : Int) := (by omega)
       have q400 : 0 < (((rd_T42 l1 x5_1).f0).length : Int) := zP (by assumption)
       obtain ⟨ad400, e400, hx400_0⟩ := Kd.at_int HR399_0.out 0 p400 q400
       cases e400
       have qi400 : (0 < ((rd_T42 l1 x5_1).f0).length) = True := eq_true (by omega)
       (try rw [show ((0 : Int)).toNat = 0 from rfl] at hx400_0)
       (try rw [Addr.add_zero'] at hx400_0)
       replace hx400_0 := (HB.out.cell (zQ w _ hx400_0)).trans hx400_0
       replace p400 := eq_true p400; replace q400 := eq_true q400
       obtain ⟨Ao9, co9, eo9⟩ := Kd.V_slice HO_0.out
       subst eo9
       go_wp2_with (first | ((with_reducible refine gate_callee (f := 148) rfl ?_); refine gL 20 Try.func148 #[.slice Ao9 x0_1.length co9, .int .i64 (rd ((rd_T42 l1 x5_1).f0) 0)] ?_; (with_reducible refine (spec_l00Put.calls k1 _ _ x0_1 (rd ((rd_T42 l1 x5_1).f0) 0) t401 _ ?side1 ?side2 A6.out).mono ?_); (case side1 => exact kV (Kd.V_reads' HO_0.out).2.2); (case side2 => exact (Kd.V_reads' HO_0.out).2.1); rintro e w10 ⟨v402, rfl, ho0, hb⟩; refine ⟨_, rfl, ?_⟩; replace HO_0 := yD (Kd.V_elder' (kU HO_0) (yH ho0) hb); have HO403 := yD (yZ (Kd.R_newM (M := fun k_ => (w.heap.size ≤ k_)) ho0 (below_size (kB HB)) (fun k_ h_ => h_)) (below_size (kB HB))); replace HB := yD (zC (kB HB) hb); clear hb ho0; have p404 : 0 ≤ (x5_1 : Int) := zP (by assumption); have q404 : x5_1 < (l1.length : Int) := zP (by assumption); obtain ⟨ad404, A404_0, c404_0, A404_1, c404_1, e404, hx404_0, hx404_1, hl404_0, hi404_0, hl404_1, hi404_1⟩ := at_T42 HR1.out x5_1 p404 q404; obtain rfl : ad399 = ad404 := (by injection e404); replace hx404_0 := (HB.out.cell (zQ w _ hx404_0)).trans hx404_0; replace hx404_1 := (HB.out.cell (zQ w _ hx404_1)).trans hx404_1; have HR404_0 := yD hi404_0; have HC404_0 := yD hl404_0; clear hi404_0 hl404_0; have HR404_1 := yD hi404_1; have HC404_1 := yD hl404_1; clear hi404_1 hl404_1; replace p404 := eq_true p404; replace q404 := eq_true q404; have p405 : 0 ≤ (0 : Int) := (by omega); have q405 : 0 < (((rd_T42 l1 x5_1).f1).length : Int) := zP (by assumption); obtain ⟨ad405, e405, hx405_0⟩ := Kd.at_int HR404_1.out 0 p405 q405; cases e405; have qi405 : (0 < ((rd_T42 l1 x5_1).f1).length) = True := eq_true (by omega); (try rw [show ((0 : Int)).toNat = 0 from rfl] at hx405_0); (try rw [Addr.add_zero'] at hx405_0); replace hx405_0 := (HB.out.cell (zQ w _ hx405_0)).trans hx405_0; replace p405 := eq_true p405; replace q405 := eq_true q405; obtain ⟨Ao11, co11, eo11⟩ := Kd.R_slice HO403.out; subst eo11) | ((with_reducible refine gate_callee (f := 148) rfl ?_); refine gL 29 Try.func148 #[.slice Ao11 t401.length co11, .int .i64 (rd ((rd_T42 l1 x5_1).f1) 0)] ?_; (with_reducible refine (spec_l00Put.calls k1 _ _ t401 (rd ((rd_T42 l1 x5_1).f1) 0) t406 _ ?side1 ?side2 A8.out).mono ?_); (case side1 => exact kV (zA HO403.out).2.2); (case side2 => exact (zA HO403.out).2.1); rintro e w12 ⟨v407, rfl, ho0, hb⟩; refine ⟨_, rfl, ?_⟩; replace HO_0 := yD (Kd.V_elder' (kU HO_0) (yH ho0) hb); have HO408 := yD (yZ (yJ (Kd.R_newM (M := fun k_ => (w.heap.size ≤ k_)) ho0 (below_size (kB HB)) (fun k_ h_ => h_)) (yK (kA HO403))) (below_size (kB HB))); replace HO403 := yD (Kd.R_elder' (kA HO403) (yH ho0) hb); replace HB := yD (zC (kB HB) hb); clear hb ho0))
       go_roundg k1
       case measure => have := HK1.out; omega
       case rel => exact ⟨(t406), (wrap64 (x5_1 + 1)), (by first | rfl | (simp; done) | (simp [*]; done)), H', ⟨by have := HK1.out; omega⟩, ⟨Kd.V_mono (Kd.R_V (mR HO408 (fun _ hk => hk.1.1))) (fun k_ hk => by first | exact ⟨(.inr (hk.1)), hk.2⟩ | exact (.inr (hk)))⟩, ⟨kR0 HB⟩⟩
      · rw [if_neg c7] at H
        exact absurd H (by simp)
     · rw [if_neg c5] at H
       exact absurd H (by simp)
    · rw [if_neg c4] at H
      exact absurd H (by simp)
   · rw [if_neg c3] at H
     have c3b0 : decide (x5_1 < (l1.length : Int)) = false := zS c3; clear c3; obtain rfl := Option.some.inj H
     go_wp2
     go_ret
     exact ⟨_, by first | rfl | (simp <;> rfl) | (simp [*] <;> rfl), kU HO_0, kR0 HB⟩
/-! ### spec_l07Cross: function 129 -/
def spec_l07Cross.l0 : Nat → List (S42) → Int → List (S42) → Int → Option ((List (S42)))
 | 0, _, _, _, _ => none
 | k + 1, x0, x1, x5, x6 => if x6 < (x0.length : Int) then (if 0 ≤ x6 then (if 0 < (((rd_T42 x0 x6).f0).length : Int) then (if 0 < (((rd_T42 x0 x6).f1).length : Int) then ((spec_l00In.f x1 (rd ((rd_T42 x0 x6).f0) 0) (wrap64 ((rd ((rd_T42 x0 x6).f1) 0) - 1))).bind fun t416 => (if t416 = true then (if 1 ≤ (((rd_T42 x0 x6).f0).length : Int) then (if 1 ≤ (((rd_T42 x0 x6).f1).length : Int) then (if x5.length < 2932031007402 then (spec_l07Cross.l0 k x0 x1 (x5 ++ [(⟨(((rd_T42 x0 x6).f0).drop 1), (((rd_T42 x0 x6).f1).drop 1)⟩ : S42)]) (wrap64 (x6 + 1))) else (none)) else (none)) else (none)) else (spec_l07Cross.l0 k x0 x1 x5 (wrap64 (x6 + 1))))) else (none)) else (none)) else (none)) else (some x5)
def spec_l07Cross.f (k : Nat) (l0 : List (S42)) (a1 : Int) : Option ((List (S42))) := spec_l07Cross.l0 k l0 a1 (([] : List (S42))) 0
theorem spec_l07Cross.mono_l : ∀ k, (∀ y0 y1 y2 y3, LeO (spec_l07Cross.l0 k y0 y1 y2 y3) (spec_l07Cross.l0 (k + 1) y0 y1 y2 y3))
 | 0 => fun _ _ _ _ r h => by simp [spec_l07Cross.l0] at h
 | k + 1 => by
  have ih0 := spec_l07Cross.mono_l k
  · intro y0 y1 y2 y3
    unfold spec_l07Cross.l0
    repeat' (with_reducible first | exact ih0 _ _ _ _ | exact LeO.refl _ | exact LeO.none _ | refine LeO.ite ?_ ?_ | refine LeO.bind ?_ (fun _ => ?_))
theorem spec_l07Cross.mono : ∀ a0 a1 k, LeO (spec_l07Cross.f k a0 a1) (spec_l07Cross.f (k + 1) a0 a1) := by
 intro a0 a1 k
 have ih0 := spec_l07Cross.mono_l k
 unfold spec_l07Cross.f
 repeat' (with_reducible first | exact ih0 _ _ _ _ | exact LeO.refl _ | exact LeO.none _ | refine LeO.ite ?_ ?_ | refine LeO.bind ?_ (fun _ => ?_))
def spec_l07Cross.T5 : Bool × List (List Nat × List Nat) := (true, [([], []), ([], []), ([], []), ([1, 2], [1, 2]), ([3], [3]), ([4], [4]), ([5], [5]), ([6], [6]), ([], []), ([], []), ([8, 9], [8, 9]), ([10], [10]), ([11], [11]), ([12], [12]), ([13], [13]), ([14], [14]), ([0, 7, 15], [0, 7, 15])])
def spec_l07Cross.B5 : List Nat := [0, 0, 0, 6, 14, 30, 62, 126, 0, 0, 768, 1792, 3840, 7936, 16128, 32512, 65535]
theorem spec_l07Cross.tab5 : rtab .any (opsOf Try.f129 5) = spec_l07Cross.T5 := by kernel_rfl
theorem spec_l07Cross.bits5 : waitsOk spec_l07Cross.T5.2 spec_l07Cross.B5 = true := by kernel_rfl
def spec_l07Cross.T6 : Bool × List (List Nat × List Nat) := (true, [([], []), ([], []), ([], []), ([1, 2], [1, 2]), ([3], [3]), ([4], [4]), ([5], [5]), ([], []), ([], []), ([7, 8], [7, 8]), ([9], [9]), ([10], [10]), ([11], [11]), ([6, 12], [6, 12]), ([13], [13]), ([0, 14], [0, 14]), ([15, 15, 0, 1, 2, 3, 4, 5, 6, 7, 8, 9, 10, 11, 12, 13, 14, 15], [0, 15])])
def spec_l07Cross.B6 : List Nat := [0, 0, 0, 6, 14, 30, 62, 0, 0, 384, 896, 1920, 3968, 8190, 16382, 32767, 65535]
theorem spec_l07Cross.tab6 : rtab .any (opsOf Try.f129 6) = spec_l07Cross.T6 := by kernel_rfl
theorem spec_l07Cross.bits6 : waitsOk spec_l07Cross.T6.2 spec_l07Cross.B6 = true := by kernel_rfl
set_option maxHeartbeats 8000000 in
set_option maxRecDepth 100000 in
theorem spec_l07Cross.calls (k : Nat) (P0_ : Nat → Prop) (A0 : Option Addr) (c0 : Nat) (l0 : List (S42)) (a1 : Int) (r : List (S42)) (w : World) (hs0 : Kd.V k42 42 w w.heap.size (fun k_ => P0_ k_) (.slice A0 l0.length c0) l0) (h : spec_l07Cross.f k l0 a1 = some r) :
 Calls Try.prog 129 #[.slice A0 l0.length c0, .int .i64 a1] w fun e w' => ∃ v0_ : Value, e = .returned (v0_) ∧ Kd.V k42 42 w' w.heap.size (fun k_ => (P0_ k_ ∨ w.heap.size ≤ k_)) v0_ r ∧ Below w.heap.size w w' := by
 have hu42 := Try.underlying42
 have HO0 := yD (show Kd.V k42 42 w w.heap.size (fun k_ => (P0_ k_ ∨ w.heap.size ≤ k_)) (.slice A0 l0.length c0) l0 from Kd.V_mono hs0 (fun k_ hk => .inl hk))
 have HB := yD (Below.refl w.heap.size w)
 have H : (spec_l07Cross.l0 k l0 a1 (([] : List (S42))) 0) = some r := h
 clear h
 obtain ⟨y409, hy409⟩ : ∃ y_ : List (S42), y_ = (([] : List (S42))) := ⟨_, rfl⟩
 replace H : (spec_l07Cross.l0 k l0 a1 y409 0) = some r := by first | (rw [hy409]; with_reducible exact H) | (have H2_ := (Option.bind_some _ _).symm.trans H; rw [hy409]; with_reducible exact H2_) | (have H2_ := (Option.bind_some _ _).symm.trans H; with_reducible exact H2_) | with_reducible exact H | (rw [hy409]; exact H) | exact H
 have Ny409 := yD hy409
 clear hy409
 have H' := yD H
 clear H; go_enter Try.func129, Try.ntmps129
 go_wp2_with (first | ((with_reducible refine gate_dst (N := 7) rfl ?_); refine Kd.N_lit k42 _ 42 ?hg (N' := 7) ?hd (xs := ([] : List (S42))) (inner := []) (ok := (fun k_ => (P0_ k_ ∨ w.heap.size ≤ k_))) (okp := (fun k_ => (P0_ k_ ∨ w.heap.size ≤ k_))) ?hr ?hp (fun _ hk => hk) ((show ∀ k_, w.heap.size ≤ k_ → (fun k_ => (P0_ k_ ∨ w.heap.size ≤ k_)) k_ from fun k_ hk => (.inr (Nat.le_trans (below_size (kB HB)) hk))) _ (Nat.le_refl _)) (Below.refl _ _) (Nat.le_refl _) (by simp) ?_; (case hd => rfl); (case hg => rfl); (case hr => first | (go_simp; done) | (go_simp; rfl)); (case hp => exact (Reps.none _ _)); intro v410 w3 ho4 hb hg_ hnew_; clear hg_ hnew_; (first | rw [← Ny409.out] at ho4 | (simp only [Int.reduceToNat] at ho4; rw [← Ny409.out] at ho4)); replace HO0 := yD (Kd.V_elder' (kU HO0) (Kd.N_base ho4) hb); have HO411 := yD (Kd.N_lower ho4 (below_size (kB HB))); replace HB := yD (zC (kB HB) hb); clear hb ho4))
 (try simp only [Act.put, zH, zI, zJ])
 go_loopg [5, 6] k (fun kq v5 v6 w' => ∃ (x5_1 : List (S42)) (x6_1 : Int), v6 = .int .i64 x6_1 ∧ Aside0 (spec_l07Cross.l0 kq l0 a1 x5_1 x6_1 = some r) ∧ Aside0 (kq ≤ k) ∧ Aside0 (Kd.V k42 42 w' w.heap.size (fun k_ => (P0_ k_ ∨ w.heap.size ≤ k_) ∧ oB v5 k_) (.slice A0 l0.length c0) l0) ∧ Aside0 (Kd.N k42 42 w' w.heap.size (fun k_ => (P0_ k_ ∨ w.heap.size ≤ k_)) v5 x5_1) ∧ Aside0 (Below w.heap.size w w'))
 case atStart => exact ⟨(y409), (0), (by first | rfl | (simp; done) | (simp [*]; done)), H', ⟨Nat.le_refl _⟩, ⟨kU HO0⟩, ⟨kQ HO411⟩, ⟨kR0 HB⟩⟩
 case round =>
  clear H'
  try clear c1
  obtain ⟨x5_1, x6_1, rfl, HA, HK1, HO_0, HO_5, HB⟩ := hrel
  cases gk with
  | zero => exact absurd HA.out (by simp [spec_l07Cross.l0])
  | succ k1 =>
   have H := HA.out; clear HA
   simp only [spec_l07Cross.l0] at H
   by_cases c5 : x6_1 < (l0.length : Int)
   ·
    rw [if_pos c5] at H
    have c5b0 : decide (x6_1 < (l0.length : Int)) = true := zR c5; clear c5
    by_cases c6 : 0 ≤ x6_1
    ·
     rw [if_pos c6] at H
     have c6b0 : decide (0 ≤ x6_1) = true := zR c6; clear c6
     by_cases c7 : 0 < (((rd_T42 l0 x6_1).f0).length : Int)
     ·
      rw [if_pos c7] at H
      have c7b0 : decide (0 < (((rd_T42 l0 x6_1).f0).length : Int)) = true := zR c7
      have c7b1 : decide (0 < ((rd_T42 l0 x6_1).f0).length) = true := zR (by omega)
      clear c7
      by_cases c8 : 0 < (((rd_T42 l0 x6_1).f1).length : Int)
      ·
       rw [if_pos c8] at H
       have c8b0 : decide (0 < (((rd_T42 l0 x6_1).f1).length : Int)) = true := zR c8
       have c8b1 : decide (0 < ((rd_T42 l0 x6_1).f1).length) = true := zR (by omega)
       clear c8
       obtain ⟨t416, A90, H⟩ := zW_ H
       replace H : (if t416 = true then (if 1 ≤ (((rd_T42 l0 x6_1).f0).length : Int) then (if 1 ≤ (((rd_T42 l0 x6_1).f1).length : Int) then (if x5_1.length < 2932031007402 then (spec_l07Cross.l0 k1 l0 a1 (x5_1 ++ [(⟨(((rd_T42 l0 x6_1).f0).drop 1), (((rd_T42 l0 x6_1).f1).drop 1)⟩ : S42)]) (wrap64 (x6_1 + 1))) else (none)) else (none)) else (none)) else (spec_l07Cross.l0 k1 l0 a1 x5_1 (wrap64 (x6_1 + 1)))) = some r := H
       have A9 := yD A90
       clear A90
       by_cases c10 : t416 = true
       ·
        subst c10
        replace H : (if 1 ≤ (((rd_T42 l0 x6_1).f0).length : Int) then (if 1 ≤ (((rd_T42 l0 x6_1).f1).length : Int) then (if x5_1.length < 2932031007402 then (spec_l07Cross.l0 k1 l0 a1 (x5_1 ++ [(⟨(((rd_T42 l0 x6_1).f0).drop 1), (((rd_T42 l0 x6_1).f1).drop 1)⟩ : S42)]) (wrap64 (x6_1 + 1))) else (none)) else (none)) else (none)) = some r := (by rw [if_pos rfl] at H; exact H)
        by_cases c11 : 1 ≤ (((rd_T42 l0 x6_1).f0).length : Int)
        ·
         rw [if_pos c11] at H
         have c11b0 := eq_true c11
         have c11b1 : decide (1 ≤ (((rd_T42 l0 x6_1).f0).length : Int)) = true := zR c11; clear c11
         obtain ⟨y418, hy418⟩ : ∃ y_ : List Int, y_ = (((rd_T42 l0 x6_1).f0).drop 1) := ⟨_, rfl⟩
         replace H : (if 1 ≤ (((rd_T42 l0 x6_1).f1).length : Int) then (if x5_1.length < 2932031007402 then (spec_l07Cross.l0 k1 l0 a1 (x5_1 ++ [(⟨y418, (((rd_T42 l0 x6_1).f1).drop 1)⟩ : S42)]) (wrap64 (x6_1 + 1))) else (none)) else (none)) = some r := by first | (rw [hy418]; with_reducible exact H) | (have H2_ := (Option.bind_some _ _).symm.trans H; rw [hy418]; with_reducible exact H2_) | (have H2_ := (Option.bind_some _ _).symm.trans H; with_reducible exact H2_) | with_reducible exact H | (rw [hy418]; exact H) | exact H
         have Ny418 := yD hy418
         clear hy418
         by_cases c12 : 1 ≤ (((rd_T42 l0 x6_1).f1).length : Int)
         ·
          rw [if_pos c12] at H
          have c12b0 := eq_true c12
          have c12b1 : decide (1 ≤ (((rd_T42 l0 x6_1).f1).length : Int)) = true := zR c12; clear c12
          obtain ⟨y424, hy424⟩ : ∃ y_ : List Int, y_ = (((rd_T42 l0 x6_1).f1).drop 1) := ⟨_, rfl⟩
          replace H : (if x5_1.length < 2932031007402 then (spec_l07Cross.l0 k1 l0 a1 (x5_1 ++ [(⟨y418, y424⟩ : S42)]) (wrap64 (x6_1 + 1))) else (none)) = some r := by first | (rw [hy424]; with_reducible exact H) | (have H2_ := (Option.bind_some _ _).symm.trans H; rw [hy424]; with_reducible exact H2_) | (have H2_ := (Option.bind_some _ _).symm.trans H; with_reducible exact H2_) | with_reducible exact H | (rw [hy424]; exact H) | exact H
          have Ny424 := yD hy424
          clear hy424
          by_cases c13 : x5_1.length < 2932031007402
          ·
           rw [if_pos c13] at H
           have LMc13 := yD c13
           clear c13
           obtain ⟨y429, hy429⟩ : ∃ y_ : List (S42), y_ = (x5_1 ++ [(⟨y418, y424⟩ : S42)]) := ⟨_, rfl⟩
           replace H : (spec_l07Cross.l0 k1 l0 a1 y429 (wrap64 (x6_1 + 1))) = some r := by first | (rw [hy429]; with_reducible exact H) | (have H2_ := (Option.bind_some _ _).symm.trans H; rw [hy429]; with_reducible exact H2_) | (have H2_ := (Option.bind_some _ _).symm.trans H; with_reducible exact H2_) | with_reducible exact H | (rw [hy429]; exact H) | exact H
           have Ny429 := yD hy429
           clear hy429
           have H' := yD H
           clear H
           try go_wp2
           have n0_ := yD (Kd.V_drew HO_0.out)
           have n1_ := yD (Kd.N_drew HO_5.out)
           have n2_ := yD (yP HB.out)
           clear HO_0 HO_5 HB; have HO_0 := n0_; have HO_5 := n1_; have HB := n2_; clear n0_ n1_ n2_
           have p412 : 0 ≤ (x6_1 : Int) := zP (by assumption)
           have q412 : x6_1 < (l0.length : Int) := zP (by assumption)
           obtain ⟨ad412, A412_0, c412_0, A412_1, c412_1, e412, hx412_0, hx412_1, hl412_0, hi412_0, hl412_1, hi412_1⟩ := at_T42 (Kd.V_reads' HO_0.out).2.2 x6_1 p412 q412
           cases e412
           obtain ⟨ce412, hce412, hMe412, hcc412⟩ := Kd.V_get HO_0.out z42 x6_1 p412 (by first | exact q412 | exact zP (by assumption) | (have e_ := (Kd.V_reads' HO_0.out).1; omega))
           obtain ⟨ua412_0, uc412_0, ua412_1, uc412_1, rfl, ul412_0, ge412_0, ul412_1, ge412_1⟩ := k42_openF hMe412
           have hv412_0 := hcc412 0 _ rfl
           rw [Nat.add_zero] at hv412_0
           replace hv412_0 := Option.some.inj (hv412_0.symm.trans hx412_0)
           injection hv412_0 with hva_ hvn_ hvc_
           rw [hva_] at ge412_0
           rw [hvc_] at ul412_0
           have HL412_0 := yD (show Kd.V (Kd.int .i64) 2 _ w.heap.size _ _ ((rd_T42 l0 x6_1).f0) from Kd.V_mk ul412_0 ge412_0)
           clear hva_ hvn_ hvc_ ge412_0 ul412_0
           have hv412_1 := hcc412 1 _ rfl
           rw [add_field _ _ 1 (by omega)] at hv412_1
           replace hv412_1 := Option.some.inj (hv412_1.symm.trans hx412_1)
           injection hv412_1 with hva_ hvn_ hvc_
           rw [hva_] at ge412_1
           rw [hvc_] at ul412_1
           have HL412_1 := yD (show Kd.V (Kd.int .i64) 2 _ w.heap.size _ _ ((rd_T42 l0 x6_1).f1) from Kd.V_mk ul412_1 ge412_1)
           clear hva_ hvn_ hvc_ ge412_1 ul412_1 hcc412 hce412
           have HR412_0 := yD hi412_0
           have HC412_0 := yD hl412_0
           clear hi412_0 hl412_0
           have HR412_1 := yD hi412_1
           have HC412_1 := yD hl412_1
           clear hi412_1 hl412_1; replace p412 := eq_true p412; replace q412 := eq_true q412
           have p413 : 0 ≤ (0 : Int) := (by omega)
           have q413 : 0 < (((rd_T42 l0 x6_1).f0).length : Int) := zP (by assumption)
           obtain ⟨ad413, e413, hx413_0⟩ := Kd.at_int (by repeat (first | (with_reducible exact HR412_0.out) | (with_reducible first | refine yV ?_ _ | refine yW ?_ _ | refine yX ?_) | exact HR412_0.out)) 0 p413 q413
           cases e413
           have qi413 : (0 < ((rd_T42 l0 x6_1).f0).length) = True := eq_true (by omega)
           (try rw [show ((0 : Int)).toNat = 0 from rfl] at hx413_0)
           (try rw [Addr.add_zero'] at hx413_0)
           replace p413 := eq_true p413; replace q413 := eq_true q413
           have p414 : 0 ≤ (x6_1 : Int) := zP (by assumption)
           have q414 : x6_1 < (l0.length : Int) := zP (by assumption)
           obtain ⟨ad414, A414_0, c414_0, A414_1, c414_1, e414, hx414_0, hx414_1, hl414_0, hi414_0, hl414_1, hi414_1⟩ := at_T42 (Kd.V_reads' HO_0.out).2.2 x6_1 p414 q414
           obtain rfl : ad412 = ad414 := (by injection e414)
           obtain ⟨ce414, hce414, hMe414, hcc414⟩ := Kd.V_get HO_0.out z42 x6_1 p414 (by first | exact q414 | exact zP (by assumption) | (have e_ := (Kd.V_reads' HO_0.out).1; omega))
           obtain ⟨ua414_0, uc414_0, ua414_1, uc414_1, rfl, ul414_0, ge414_0, ul414_1, ge414_1⟩ := k42_openF hMe414
           have hv414_0 := hcc414 0 _ rfl
           rw [Nat.add_zero] at hv414_0
           replace hv414_0 := Option.some.inj (hv414_0.symm.trans hx414_0)
           injection hv414_0 with hva_ hvn_ hvc_
           rw [hva_] at ge414_0
           rw [hvc_] at ul414_0
           have HL414_0 := yD (show Kd.V (Kd.int .i64) 2 _ w.heap.size _ _ ((rd_T42 l0 x6_1).f0) from Kd.V_mk ul414_0 ge414_0)
           clear hva_ hvn_ hvc_ ge414_0 ul414_0
           have hv414_1 := hcc414 1 _ rfl
           rw [add_field _ _ 1 (by omega)] at hv414_1
           replace hv414_1 := Option.some.inj (hv414_1.symm.trans hx414_1)
           injection hv414_1 with hva_ hvn_ hvc_
           rw [hva_] at ge414_1
           rw [hvc_] at ul414_1
           have HL414_1 := yD (show Kd.V (Kd.int .i64) 2 _ w.heap.size _ _ ((rd_T42 l0 x6_1).f1) from Kd.V_mk ul414_1 ge414_1)
           clear hva_ hvn_ hvc_ ge414_1 ul414_1 hcc414 hce414
           have HR414_0 := yD hi414_0
           have HC414_0 := yD hl414_0
           clear hi414_0 hl414_0
           have HR414_1 := yD hi414_1
           have HC414_1 := yD hl414_1
           clear hi414_1 hl414_1; replace p414 := eq_true p414; replace q414 := eq_true q414
           have ea_ := Option.some.inj (hx412_0.symm.trans hx414_0)
           injection ea_ with ea_ en_ ec_
           subst ea_; subst ec_; clear en_
           have ea_ := Option.some.inj (hx412_1.symm.trans hx414_1)
           injection ea_ with ea_ en_ ec_
           subst ea_; subst ec_; clear en_
           have p415 : 0 ≤ (0 : Int) := (by omega)
           have q415 : 0 < (((rd_T42 l0 x6_1).f1).length : Int) := zP (by assumption)
           obtain ⟨ad415, e415, hx415_0⟩ := Kd.at_int (by repeat (first | (with_reducible exact HR414_1.out) | (with_reducible first | refine yV ?_ _ | refine yW ?_ _ | refine yX ?_) | exact HR414_1.out)) 0 p415 q415
           cases e415
           have qi415 : (0 < ((rd_T42 l0 x6_1).f1).length) = True := eq_true (by omega)
           (try rw [show ((0 : Int)).toNat = 0 from rfl] at hx415_0)
           (try rw [Addr.add_zero'] at hx415_0)
           replace p415 := eq_true p415; replace q415 := eq_true q415
           refine start_ (n := 17) (S := fun w' => w'.cell? (ad412.add ((x6_1).toNat * 2)) = some (.slice (some ad413) ((rd_T42 l0 x6_1).f0).length c412_0) ∧ w'.cell? ⟨(ad412.add ((x6_1).toNat * 2)).block, (ad412.add ((x6_1).toNat * 2)).off + 1, none⟩ = some (.slice (some ad415) ((rd_T42 l0 x6_1).f1).length c412_1) ∧ w'.cell? ad413 = some (.int .i64 (rd ((rd_T42 l0 x6_1).f0) 0)) ∧ w'.cell? (ad412.add ((x6_1).toNat * 2)) = some (.slice (some ad413) ((rd_T42 l0 x6_1).f0).length c412_0) ∧ w'.cell? ⟨(ad412.add ((x6_1).toNat * 2)).block, (ad412.add ((x6_1).toNat * 2)).off + 1, none⟩ = some (.slice (some ad415) ((rd_T42 l0 x6_1).f1).length c412_1) ∧ w'.cell? ad415 = some (.int .i64 (rd ((rd_T42 l0 x6_1).f1) 0))) (ds := []) (bz 17 0) (by kernel_rfl) rfl rfl ⟨hx412_0, hx412_1, hx413_0, hx414_0, hx414_1, hx415_0⟩ (fun hHeld => ?_); refine with_tabW spec_l07Cross.tab5 spec_l07Cross.bits5 (fun HT_ HW_ => ?_)
           generalize wr.drew = w14 at HO_0 HO_5 HB HL412_0 HL412_1 HL414_0 HL414_1 HR412_0 HR412_1 HR414_0 HR414_1 hx412_0 hx412_1 hx413_0 hx414_0 hx414_1 hx415_0 hHeld ⊢
           refine qA 0 14 (bz 17 1) HT_ ?_
           refine qA 1 15 (bz 17 3) HT_ ?_
           refine qA 2 16 (bz 17 7) HT_ ?_
           refine qA 3 17 (bz 17 15) HT_ ?_
           refine qA 4 18 (bz 17 31) HT_ ?_
           refine qA 8 22 (bz 17 287) HT_ ?_
           refine qA 9 23 (bz 17 799) HT_ ?_
           refine qA 10 24 (bz 17 1823) HT_ ?_
           refine qA 11 25 (bz 17 3871) HT_ ?_
           refine qC 5 19 (bz 17 3903) HT_ HW_ hHeld ?_ (hy := by rintro w' ⟨s0, s1, s2, s3, s4, s5⟩; go_simp; with_reducible rfl)
           refine qA 6 20 (bz 17 3967) HT_ ?_
           refine qC 7 21 (bz 17 4095) HT_ HW_ hHeld ?_ (hy := by rintro w' ⟨s0, s1, s2, s3, s4, s5⟩; go_simp; with_reducible rfl)
           refine qC 12 26 (bz 17 8191) HT_ HW_ hHeld ?_ (hy := by rintro w' ⟨s0, s1, s2, s3, s4, s5⟩; go_simp; with_reducible rfl)
           refine qA 13 27 (bz 17 16383) HT_ ?_
           refine qC 14 28 (bz 17 32767) HT_ HW_ hHeld ?_ (hy := by rintro w' ⟨s0, s1, s2, s3, s4, s5⟩; go_simp; with_reducible rfl)
           refine qA 15 29 (bz 17 65535) HT_ ?_
           refine one_ (i := 16) (N := some 30) (bz 17 131071) rfl rfl (one_of HT_.out (by kernel_rfl)) (by decide) (fun K hK => ?_)
           refine goes_ Try.func92 (by kernel_rfl) rfl #[.int .i64 a1, .int .i64 (rd ((rd_T42 l0 x6_1).f0) 0), .int .i64 (wrap64 ((rd ((rd_T42 l0 x6_1).f1) 0) - 1))] (by rfl) rfl rfl (by (try simp only [zK, zL, zM]); first | done | rfl | (simp only [zN, zO]; rfl)) ?_
           with_reducible refine (spec_l00In.calls a1 (rd ((rd_T42 l0 x6_1).f0) 0) (wrap64 ((rd ((rd_T42 l0 x6_1).f1) 0) - 1)) true _ A9.out).mono ?_
           rintro e w' ⟨rfl, ⟨nd, rfl⟩⟩
           refine ⟨_, rfl, ?_⟩
           refine hK.out _ _ ⟨hHeld.1, hHeld.2.1, hHeld.2.2.1, hHeld.2.2.2.1, hHeld.2.2.2.2.1, hHeld.2.2.2.2.2⟩ (fun hHeld => ?_)
           clear hK K
           refine norm_ (a' := ?_) ?_ ?_
           rotate_left
           · show Act.put _ (some 30) _ = _
             simp only [Act.put, zH, zI, zJ, i64_w, i32_w]
             rfl
           refine done_ (done_of HT_.out (by kernel_rfl)) ?_
           try go_wp2
           (try (rw [drewN_self w14]; generalize hq_ : World.drewN w14 _ = w14; have n0_ : Aside0 (Kd.V (Kd.int .i64) 2 w14 w.heap.size (fun k_ => (P0_ k_ ∨ w.heap.size ≤ k_) ∧ oB u5 k_) (.slice (some ad413) ((rd_T42 l0 x6_1).f0).length c412_0) ((rd_T42 l0 x6_1).f0)) := ⟨by rw [← hq_]; exact (kU HL412_0)⟩; have n1_ : Aside0 (Kd.V (Kd.int .i64) 2 w14 w.heap.size (fun k_ => (P0_ k_ ∨ w.heap.size ≤ k_) ∧ oB u5 k_) (.slice (some ad415) ((rd_T42 l0 x6_1).f1).length c412_1) ((rd_T42 l0 x6_1).f1)) := ⟨by rw [← hq_]; exact (kU HL412_1)⟩; have n2_ : Aside0 (Kd.V (Kd.int .i64) 2 w14 w.heap.size (fun k_ => (P0_ k_ ∨ w.heap.size ≤ k_) ∧ oB u5 k_) (.slice (some ad413) ((rd_T42 l0 x6_1).f0).length c412_0) ((rd_T42 l0 x6_1).f0)) := ⟨by rw [← hq_]; exact (kU HL414_0)⟩; have n3_ : Aside0 (Kd.V (Kd.int .i64) 2 w14 w.heap.size (fun k_ => (P0_ k_ ∨ w.heap.size ≤ k_) ∧ oB u5 k_) (.slice (some ad415) ((rd_T42 l0 x6_1).f1).length c412_1) ((rd_T42 l0 x6_1).f1)) := ⟨by rw [← hq_]; exact (kU HL414_1)⟩; have n4_ : Aside0 (Kd.V k42 42 w14 w.heap.size (fun k_ => (P0_ k_ ∨ w.heap.size ≤ k_) ∧ oB u5 k_) (.slice (some ad412) l0.length c0) l0) := ⟨by rw [← hq_]; exact (kU HO_0)⟩; have n5_ : Aside0 (Kd.N k42 42 w14 w.heap.size (fun k_ => (P0_ k_ ∨ w.heap.size ≤ k_)) u5 x5_1) := ⟨by rw [← hq_]; exact (kQ HO_5)⟩; have n6_ : Aside0 (Below w.heap.size w w14) := ⟨by rw [← hq_]; exact (kB HB)⟩; have n7_ : Aside0 (Kd.C (Kd.int .i64) w14 (some ad413) ((rd_T42 l0 x6_1).f0).length ((rd_T42 l0 x6_1).f0)) := ⟨by rw [← hq_]; exact (by repeat (first | (with_reducible exact HR412_0.out) | (with_reducible first | refine yV ?_ _ | refine yW ?_ _ | refine yX ?_) | exact HR412_0.out))⟩; have n8_ : Aside0 (Kd.C (Kd.int .i64) w14 (some ad415) ((rd_T42 l0 x6_1).f1).length ((rd_T42 l0 x6_1).f1)) := ⟨by rw [← hq_]; exact (by repeat (first | (with_reducible exact HR412_1.out) | (with_reducible first | refine yV ?_ _ | refine yW ?_ _ | refine yX ?_) | exact HR412_1.out))⟩; have n9_ : Aside0 (Kd.C (Kd.int .i64) w14 (some ad413) ((rd_T42 l0 x6_1).f0).length ((rd_T42 l0 x6_1).f0)) := ⟨by rw [← hq_]; exact (by repeat (first | (with_reducible exact HR414_0.out) | (with_reducible first | refine yV ?_ _ | refine yW ?_ _ | refine yX ?_) | exact HR414_0.out))⟩; have n10_ : Aside0 (Kd.C (Kd.int .i64) w14 (some ad415) ((rd_T42 l0 x6_1).f1).length ((rd_T42 l0 x6_1).f1)) := ⟨by rw [← hq_]; exact (by repeat (first | (with_reducible exact HR414_1.out) | (with_reducible first | refine yV ?_ _ | refine yW ?_ _ | refine yX ?_) | exact HR414_1.out))⟩; clear HL412_0 HL412_1 HL414_0 HL414_1 HO_0 HO_5 HB HR412_0 HR412_1 HR414_0 HR414_1 hq_; have HL412_0 := n0_; have HL412_1 := n1_; have HL414_0 := n2_; have HL414_1 := n3_; have HO_0 := n4_; have HO_5 := n5_; have HB := n6_; have HR412_0 := n7_; have HR412_1 := n8_; have HR414_0 := n9_; have HR414_1 := n10_; clear n0_ n1_ n2_ n3_ n4_ n5_ n6_ n7_ n8_ n9_ n10_))
           have n0_ := yD (Kd.V_drew HO_0.out)
           have n1_ := yD (Kd.N_drew HO_5.out)
           have n2_ := yD (Kd.V_drew HL412_0.out)
           have n3_ := yD (Kd.V_drew HL412_1.out)
           have n4_ := yD (Kd.V_drew HL414_0.out)
           have n5_ := yD (Kd.V_drew HL414_1.out)
           have n6_ := yD (yX HR412_0.out)
           have n7_ := yD (yX HR412_1.out)
           have n8_ := yD (yX HR414_0.out)
           have n9_ := yD (yX HR414_1.out)
           have n10_ := yD (yP HB.out)
           clear HO_0 HO_5 HL412_0 HL412_1 HL414_0 HL414_1 HR412_0 HR412_1 HR414_0 HR414_1 HB; have HO_0 := n0_; have HO_5 := n1_; have HL412_0 := n2_; have HL412_1 := n3_; have HL414_0 := n4_; have HL414_1 := n5_; have HR412_0 := n6_; have HR412_1 := n7_; have HR414_0 := n8_; have HR414_1 := n9_; have HB := n10_; clear n0_ n1_ n2_ n3_ n4_ n5_ n6_ n7_ n8_ n9_ n10_
           have p417 : 0 ≤ (x6_1 : Int) := zP (by assumption)
           have q417 : x6_1 < (l0.length : Int) := zP (by assumption)
           obtain ⟨ad417, A417_0, c417_0, A417_1, c417_1, e417, hx417_0, hx417_1, hl417_0, hi417_0, hl417_1, hi417_1⟩ := at_T42 (Kd.V_reads' HO_0.out).2.2 x6_1 p417 q417
           obtain rfl : ad412 = ad417 := (by injection e417)
           obtain ⟨ce417, hce417, hMe417, hcc417⟩ := Kd.V_get HO_0.out z42 x6_1 p417 (by first | exact q417 | exact zP (by assumption) | (have e_ := (Kd.V_reads' HO_0.out).1; omega))
           obtain ⟨ua417_0, uc417_0, ua417_1, uc417_1, rfl, ul417_0, ge417_0, ul417_1, ge417_1⟩ := k42_openF hMe417
           have hv417_0 := hcc417 0 _ rfl
           rw [Nat.add_zero] at hv417_0
           replace hv417_0 := Option.some.inj (hv417_0.symm.trans hx417_0)
           injection hv417_0 with hva_ hvn_ hvc_
           rw [hva_] at ge417_0
           rw [hvc_] at ul417_0
           have HL417_0 := yD (show Kd.V (Kd.int .i64) 2 _ w.heap.size _ _ ((rd_T42 l0 x6_1).f0) from Kd.V_mk ul417_0 ge417_0)
           clear hva_ hvn_ hvc_ ge417_0 ul417_0
           have hv417_1 := hcc417 1 _ rfl
           rw [add_field _ _ 1 (by omega)] at hv417_1
           replace hv417_1 := Option.some.inj (hv417_1.symm.trans hx417_1)
           injection hv417_1 with hva_ hvn_ hvc_
           rw [hva_] at ge417_1
           rw [hvc_] at ul417_1
           have HL417_1 := yD (show Kd.V (Kd.int .i64) 2 _ w.heap.size _ _ ((rd_T42 l0 x6_1).f1) from Kd.V_mk ul417_1 ge417_1)
           clear hva_ hvn_ hvc_ ge417_1 ul417_1 hcc417 hce417
           have HR417_0 := yD hi417_0
           have HC417_0 := yD hl417_0
           clear hi417_0 hl417_0
           have HR417_1 := yD hi417_1
           have HC417_1 := yD hl417_1
           clear hi417_1 hl417_1; replace p417 := eq_true p417; replace q417 := eq_true q417
           have q16 : (1 : Int) ≤ ((((rd_T42 l0 x6_1).f0).length : Int) : Int) := zP (by assumption)
           obtain ⟨i016, hi016, _, hsz16, _⟩ := info_parts info2
           have hroom16 : ((rd_T42 l0 x6_1).f0).length ≤ c417_0 := HC417_0.out
           have hC16 : Kd.F (Kd.int .i64) _ _ A417_0 ((rd_T42 l0 x6_1).f0).length ((rd_T42 l0 x6_1).f0) := (Kd.V_at (base := w.heap.size) HL417_0.out).2.2
           have hcut16 := cut_from (P := Try.prog) 36 2 .i64 Try.underlying36 hi016 1 hsz16 A417_0 ((rd_T42 l0 x6_1).f0).length c417_0 1 (by omega) q16
           have hr16 := Kd.F_cut (m := (1 : Int).toNat) (c := c417_0) hC16 (by omega) hroom16
           obtain ⟨A16, hA16⟩ : ∃ A1, A1 = (if c417_0 = (1 : Int).toNat then A417_0 else (A417_0 : Option Addr).map (·.add ((1 : Int).toNat * 1))) := ⟨_, rfl⟩
           obtain ⟨c16, hc16⟩ : ∃ c1, c1 = c417_0 - (1 : Int).toNat := ⟨_, rfl⟩
           have hy16 : y418.length = ((rd_T42 l0 x6_1).f0).length - (1 : Int).toNat := (by rw [Ny418.out, zN] <;> omega)
           rw [show ((rd_T42 l0 x6_1).f0).drop (1 : Int).toNat = y418 from Ny418.out.symm] at hr16
           replace hr16 : Kd.F (Kd.int .i64) _ _ A16 y418.length y418 := (by rw [hA16]; exact hr16)
           rw [← hy16, ← hA16, ← hc16] at hcut16
           have HO422 := yD (show Kd.V (Kd.int .i64) 2 _ w.heap.size _ (.slice A16 y418.length c16) y418 from Kd.V_mk (by rw [hy16, hc16]; exact Nat.sub_le_sub_right hroom16 _) hr16)
           have HC422 := yD (show y418.length ≤ c16 from by rw [hy16, hc16]; exact Nat.sub_le_sub_right hroom16 _)
           clear hr16 hC16 hroom16 hi016 hsz16 hc16
           have KY16 := yD hy16
           have KA16 := yD hA16
           clear hy16 hA16; replace q16 := eq_true q16
           have p423 : 0 ≤ (x6_1 : Int) := zP (by assumption)
           have q423 : x6_1 < (l0.length : Int) := zP (by assumption)
           obtain ⟨ad423, A423_0, c423_0, A423_1, c423_1, e423, hx423_0, hx423_1, hl423_0, hi423_0, hl423_1, hi423_1⟩ := at_T42 (Kd.V_reads' HO_0.out).2.2 x6_1 p423 q423
           obtain rfl : ad412 = ad423 := (by injection e423)
           obtain ⟨ce423, hce423, hMe423, hcc423⟩ := Kd.V_get HO_0.out z42 x6_1 p423 (by first | exact q423 | exact zP (by assumption) | (have e_ := (Kd.V_reads' HO_0.out).1; omega))
           obtain ⟨ua423_0, uc423_0, ua423_1, uc423_1, rfl, ul423_0, ge423_0, ul423_1, ge423_1⟩ := k42_openF hMe423
           have hv423_0 := hcc423 0 _ rfl
           rw [Nat.add_zero] at hv423_0
           replace hv423_0 := Option.some.inj (hv423_0.symm.trans hx423_0)
           injection hv423_0 with hva_ hvn_ hvc_
           rw [hva_] at ge423_0
           rw [hvc_] at ul423_0
           have HL423_0 := yD (show Kd.V (Kd.int .i64) 2 _ w.heap.size _ _ ((rd_T42 l0 x6_1).f0) from Kd.V_mk ul423_0 ge423_0)
           clear hva_ hvn_ hvc_ ge423_0 ul423_0
           have hv423_1 := hcc423 1 _ rfl
           rw [add_field _ _ 1 (by omega)] at hv423_1
           replace hv423_1 := Option.some.inj (hv423_1.symm.trans hx423_1)
           injection hv423_1 with hva_ hvn_ hvc_
           rw [hva_] at ge423_1
           rw [hvc_] at ul423_1
           have HL423_1 := yD (show Kd.V (Kd.int .i64) 2 _ w.heap.size _ _ ((rd_T42 l0 x6_1).f1) from Kd.V_mk ul423_1 ge423_1)
           clear hva_ hvn_ hvc_ ge423_1 ul423_1 hcc423 hce423
           have HR423_0 := yD hi423_0
           have HC423_0 := yD hl423_0
           clear hi423_0 hl423_0
           have HR423_1 := yD hi423_1
           have HC423_1 := yD hl423_1
           clear hi423_1 hl423_1; replace p423 := eq_true p423; replace q423 := eq_true q423
           have ea_ := Option.some.inj (hx417_0.symm.trans hx423_0)
           injection ea_ with ea_ en_ ec_
           subst ea_; subst ec_; clear en_
           have ea_ := Option.some.inj (hx417_1.symm.trans hx423_1)
           injection ea_ with ea_ en_ ec_
           subst ea_; subst ec_; clear en_
           have q17 : (1 : Int) ≤ ((((rd_T42 l0 x6_1).f1).length : Int) : Int) := zP (by assumption)
           obtain ⟨i017, hi017, _, hsz17, _⟩ := info_parts info2
           have hroom17 : ((rd_T42 l0 x6_1).f1).length ≤ c417_1 := HC423_1.out
           have hC17 : Kd.F (Kd.int .i64) _ _ A417_1 ((rd_T42 l0 x6_1).f1).length ((rd_T42 l0 x6_1).f1) := (Kd.V_at (base := w.heap.size) HL423_1.out).2.2
           have hcut17 := cut_from (P := Try.prog) 36 2 .i64 Try.underlying36 hi017 1 hsz17 A417_1 ((rd_T42 l0 x6_1).f1).length c417_1 1 (by omega) q17
           have hr17 := Kd.F_cut (m := (1 : Int).toNat) (c := c417_1) hC17 (by omega) hroom17
           obtain ⟨A17, hA17⟩ : ∃ A1, A1 = (if c417_1 = (1 : Int).toNat then A417_1 else (A417_1 : Option Addr).map (·.add ((1 : Int).toNat * 1))) := ⟨_, rfl⟩
           obtain ⟨c17, hc17⟩ : ∃ c1, c1 = c417_1 - (1 : Int).toNat := ⟨_, rfl⟩
           have hy17 : y424.length = ((rd_T42 l0 x6_1).f1).length - (1 : Int).toNat := (by rw [Ny424.out, zN] <;> omega)
           rw [show ((rd_T42 l0 x6_1).f1).drop (1 : Int).toNat = y424 from Ny424.out.symm] at hr17
           replace hr17 : Kd.F (Kd.int .i64) _ _ A17 y424.length y424 := (by rw [hA17]; exact hr17)
           rw [← hy17, ← hA17, ← hc17] at hcut17
           have HO428 := yD (show Kd.V (Kd.int .i64) 2 _ w.heap.size _ (.slice A17 y424.length c17) y424 from Kd.V_mk (by rw [hy17, hc17]; exact Nat.sub_le_sub_right hroom17 _) hr17)
           have HC428 := yD (show y424.length ≤ c17 from by rw [hy17, hc17]; exact Nat.sub_le_sub_right hroom17 _)
           clear hr17 hC17 hroom17 hi017 hsz17 hc17
           have KY17 := yD hy17
           have KA17 := yD hA17
           clear hy17 hA17; replace q17 := eq_true q17
           refine start_ (n := 17) (S := fun w' => w'.cell? (ad412.add ((x6_1).toNat * 2)) = some (.slice A417_0 ((rd_T42 l0 x6_1).f0).length c417_0) ∧ w'.cell? ⟨(ad412.add ((x6_1).toNat * 2)).block, (ad412.add ((x6_1).toNat * 2)).off + 1, none⟩ = some (.slice A417_1 ((rd_T42 l0 x6_1).f1).length c417_1) ∧ w'.cell? (ad412.add ((x6_1).toNat * 2)) = some (.slice A417_0 ((rd_T42 l0 x6_1).f0).length c417_0) ∧ w'.cell? ⟨(ad412.add ((x6_1).toNat * 2)).block, (ad412.add ((x6_1).toNat * 2)).off + 1, none⟩ = some (.slice A417_1 ((rd_T42 l0 x6_1).f1).length c417_1)) (ds := [14, 15]) (bz 17 0) (by kernel_rfl) rfl rfl ⟨hx417_0, hx417_1, hx423_0, hx423_1⟩ (fun hHeld => ?_); refine with_tabW spec_l07Cross.tab6 spec_l07Cross.bits6 (fun HT_ HW_ => ?_)
           generalize w14.drew = w15 at HO_0 HO_5 HL412_0 HL412_1 HL414_0 HL414_1 HR412_0 HR412_1 HR414_0 HR414_1 HB HL417_0 HL417_1 HL423_0 HL423_1 HO422 HO428 HR417_0 HR417_1 HR423_0 HR423_1 hx417_0 hx417_1 hx423_0 hx423_1 hHeld ⊢
           refine qA 0 31 (bz 17 1) HT_ ?_
           refine qA 1 32 (bz 17 3) HT_ ?_
           refine qA 2 33 (bz 17 7) HT_ ?_
           refine qA 3 34 (bz 17 15) HT_ ?_
           refine qA 4 35 (bz 17 31) HT_ ?_
           refine qA 7 38 (bz 17 159) HT_ ?_
           refine qA 8 39 (bz 17 415) HT_ ?_
           refine qA 9 40 (bz 17 927) HT_ ?_
           refine qA 10 41 (bz 17 1951) HT_ ?_
           refine qC 5 36 (bz 17 1983) HT_ HW_ hHeld ?_ (hy := by rintro w' ⟨s0, s1, s2, s3⟩; go_simp; with_reducible rfl)
           refine qA 6 37 (bz 17 2047) HT_ ?_
           refine qC 11 42 (bz 17 4095) HT_ HW_ hHeld ?_ (hy := by rintro w' ⟨s0, s1, s2, s3⟩; go_simp; with_reducible rfl)
           refine qA 12 43 (bz 17 8191) HT_ ?_
           refine qA 13 44 (bz 17 16383) HT_ ?_
           refine last_ (i := 14) (N := some 45) #[true, true, true, true, true, true, true, true, true, true, true, true, true, true, true, false, false] rfl rfl (one_of HT_.out (by kernel_rfl)) (by decide) (fun K hK => ?_)
           refine value_ (w1 := ?_) (v := ?_) (by rfl) rfl ?_ ?_
           rotate_left 2
           · go_simp
             constructor
             · rfl
             · rfl
           refine hK.out _ _ ?_
           clear hK K
           refine norm_ (a' := ?_) ?_ ?_
           rotate_left
           · show Act.put _ (some 45) _ = _
             simp only [Act.put, zH, zI, zJ, i64_w, i32_w]
             rfl
           refine last_ (i := 15) (N := some 46) #[true, true, true, true, true, true, true, true, true, true, true, true, true, true, true, true, false] rfl rfl (one_of HT_.out (by kernel_rfl)) (by decide) (fun K hK => ?_)
           refine Kd.N_append_step k42 (w0 := w) w.heap.size (by rfl) (.tmp 31) (.tmp 45) 24 42 (.agg #[(.slice none 0 0), (.slice none 0 0)]) 48 rfl Try.underlying24 info42 rfl (by decide) (by omega) u5 x5_1 (⟨y418, y424⟩ : S42) [.slice A16 y418.length c16, .slice A17 y424.length c17] (fun k_ => (P0_ k_ ∨ w.heap.size ≤ k_)) (fun k_ => ((fun k_ => (P0_ k_ ∨ w.heap.size ≤ k_))) k_ ∧ oB u5 k_) rfl rfl ?aP (fun _ hk => hk) ?aF ?aO ?aB ?aS ?aL ?_
           (case aP => exact (k42_mkF _ _ (⟨y418, y424⟩ : S42) (Kd.V_reads' (Kd.V_mono (ok' := (fun k_ => ((fun k_ => (P0_ k_ ∨ w.heap.size ≤ k_))) k_ ∧ oB u5 k_)) (HO422.out) (fun k_ hk => ⟨hk.1, hk.2⟩))).2.1 (Kd.V_F (Kd.V_mono (ok' := (fun k_ => ((fun k_ => (P0_ k_ ∨ w.heap.size ≤ k_))) k_ ∧ oB u5 k_)) (HO422.out) (fun k_ hk => ⟨hk.1, hk.2⟩))) (Kd.V_reads' (Kd.V_mono (ok' := (fun k_ => ((fun k_ => (P0_ k_ ∨ w.heap.size ≤ k_))) k_ ∧ oB u5 k_)) (HO428.out) (fun k_ hk => ⟨hk.1, hk.2⟩))).2.1 (Kd.V_F (Kd.V_mono (ok' := (fun k_ => ((fun k_ => (P0_ k_ ∨ w.heap.size ≤ k_))) k_ ∧ oB u5 k_)) (HO428.out) (fun k_ hk => ⟨hk.1, hk.2⟩)))))
           (case aB => exact (kB HB))
           (case aF => exact (fun k_ hk => (.inr (Nat.le_trans (below_size (kB HB)) hk))))
           (case aO => exact (kQ HO_5))
           (case aS => exact (below_size (kB HB)))
           (case aL => have := LMc13.out; omega)
           intro v430 w18 ho hb hg hat
           rw [← Ny429.out] at ho
           have n0_ := yD (Kd.V_afterv (ok := (fun k_ => (P0_ k_ ∨ w.heap.size ≤ k_))) (kU HO_0) hg hat)
           have n1_ := yD (Kd.V_afterv (ok := (fun k_ => (P0_ k_ ∨ w.heap.size ≤ k_))) (kU HL412_0) hg hat)
           have n2_ := yD (Kd.V_afterv (ok := (fun k_ => (P0_ k_ ∨ w.heap.size ≤ k_))) (kU HL412_1) hg hat)
           have n3_ := yD (Kd.V_afterv (ok := (fun k_ => (P0_ k_ ∨ w.heap.size ≤ k_))) (kU HL414_0) hg hat)
           have n4_ := yD (Kd.V_afterv (ok := (fun k_ => (P0_ k_ ∨ w.heap.size ≤ k_))) (kU HL414_1) hg hat)
           have n5_ := yD (Kd.V_afterv (ok := (fun k_ => (P0_ k_ ∨ w.heap.size ≤ k_))) (kU HL417_0) hg hat)
           have n6_ := yD (Kd.V_afterv (ok := (fun k_ => (P0_ k_ ∨ w.heap.size ≤ k_))) (kU HL417_1) hg hat)
           have n7_ := yD (Kd.V_afterv (ok := (fun k_ => (P0_ k_ ∨ w.heap.size ≤ k_))) (kU HO422) hg hat)
           have n8_ := yD (Kd.V_afterv (ok := (fun k_ => (P0_ k_ ∨ w.heap.size ≤ k_))) (kU HL423_0) hg hat)
           have n9_ := yD (Kd.V_afterv (ok := (fun k_ => (P0_ k_ ∨ w.heap.size ≤ k_))) (kU HL423_1) hg hat)
           have n10_ := yD (Kd.V_afterv (ok := (fun k_ => (P0_ k_ ∨ w.heap.size ≤ k_))) (kU HO428) hg hat)
           have n11_ := yD (hb)
           have n12_ := yD (ho)
           clear HO_0 HL412_0 HL412_1 HL414_0 HL414_1 HL417_0 HL417_1 HO422 HL423_0 HL423_1 HO428 HB HO_5; have HO_0 := n0_; have HL412_0 := n1_; have HL412_1 := n2_; have HL414_0 := n3_; have HL414_1 := n4_; have HL417_0 := n5_; have HL417_1 := n6_; have HO422 := n7_; have HL423_0 := n8_; have HL423_1 := n9_; have HO428 := n10_; have HB := n11_; have HO431 := n12_; clear n0_ n1_ n2_ n3_ n4_ n5_ n6_ n7_ n8_ n9_ n10_ n11_ n12_ ho hb hg hat
           refine hK.out _ _ ?_
           clear hK K
           refine norm_ (a' := ?_) ?_ ?_
           rotate_left
           · show Act.put _ (some 46) _ = _
             simp only [Act.put, zH, zI, zJ, i64_w, i32_w]
             rfl
           refine qA 16 5 (bz 17 131071) HT_ ?_
           refine done_ (done_of HT_.out (by kernel_rfl)) ?_
           try go_wp2
           go_roundg k1
           case measure => have := HK1.out; omega
           case rel => exact ⟨(y429), (wrap64 (x6_1 + 1)), (by first | rfl | (simp; done) | (simp [*]; done)), H', ⟨by have := HK1.out; omega⟩, ⟨kU HO_0⟩, ⟨kQ HO431⟩, ⟨kR0 HB⟩⟩
          · rw [if_neg c13] at H
            exact absurd H (by simp)
         · rw [if_neg c12] at H
           exact absurd H (by simp)
        · rw [if_neg c11] at H
          exact absurd H (by simp)
       ·
        replace c10 := Bool.eq_false_iff.mpr c10
        subst c10
        replace H : (spec_l07Cross.l0 k1 l0 a1 x5_1 (wrap64 (x6_1 + 1))) = some r := (by rw [if_neg (show ¬ (false = true) by decide)] at H; exact H)
        have H' := yD H
        clear H
        try go_wp2
        have n0_ := yD (Kd.V_drew HO_0.out)
        have n1_ := yD (Kd.N_drew HO_5.out)
        have n2_ := yD (yP HB.out)
        clear HO_0 HO_5 HB; have HO_0 := n0_; have HO_5 := n1_; have HB := n2_; clear n0_ n1_ n2_
        have p412 : 0 ≤ (x6_1 : Int) := zP (by assumption)
        have q412 : x6_1 < (l0.length : Int) := zP (by assumption)
        obtain ⟨ad412, A412_0, c412_0, A412_1, c412_1, e412, hx412_0, hx412_1, hl412_0, hi412_0, hl412_1, hi412_1⟩ := at_T42 (Kd.V_reads' HO_0.out).2.2 x6_1 p412 q412
        cases e412
        obtain ⟨ce412, hce412, hMe412, hcc412⟩ := Kd.V_get HO_0.out z42 x6_1 p412 (by first | exact q412 | exact zP (by assumption) | (have e_ := (Kd.V_reads' HO_0.out).1; omega))
        obtain ⟨ua412_0, uc412_0, ua412_1, uc412_1, rfl, ul412_0, ge412_0, ul412_1, ge412_1⟩ := k42_openF hMe412
        have hv412_0 := hcc412 0 _ rfl
        rw [Nat.add_zero] at hv412_0
        replace hv412_0 := Option.some.inj (hv412_0.symm.trans hx412_0)
        injection hv412_0 with hva_ hvn_ hvc_
        rw [hva_] at ge412_0
        rw [hvc_] at ul412_0
        have HL412_0 := yD (show Kd.V (Kd.int .i64) 2 _ w.heap.size _ _ ((rd_T42 l0 x6_1).f0) from Kd.V_mk ul412_0 ge412_0)
        clear hva_ hvn_ hvc_ ge412_0 ul412_0
        have hv412_1 := hcc412 1 _ rfl
        rw [add_field _ _ 1 (by omega)] at hv412_1
        replace hv412_1 := Option.some.inj (hv412_1.symm.trans hx412_1)
        injection hv412_1 with hva_ hvn_ hvc_
        rw [hva_] at ge412_1
        rw [hvc_] at ul412_1
        have HL412_1 := yD (show Kd.V (Kd.int .i64) 2 _ w.heap.size _ _ ((rd_T42 l0 x6_1).f1) from Kd.V_mk ul412_1 ge412_1)
        clear hva_ hvn_ hvc_ ge412_1 ul412_1 hcc412 hce412
        have HR412_0 := yD hi412_0
        have HC412_0 := yD hl412_0
        clear hi412_0 hl412_0
        have HR412_1 := yD hi412_1
        have HC412_1 := yD hl412_1
        clear hi412_1 hl412_1; replace p412 := eq_true p412; replace q412 := eq_true q412
        have p413 : 0 ≤ (0 : Int) := (by omega)
        have q413 : 0 < (((rd_T42 l0 x6_1).f0).length : Int) := zP (by assumption)
        obtain ⟨ad413, e413, hx413_0⟩ := Kd.at_int (by repeat (first | (with_reducible exact HR412_0.out) | (with_reducible first | refine yV ?_ _ | refine yW ?_ _ | refine yX ?_) | exact HR412_0.out)) 0 p413 q413
        cases e413
        have qi413 : (0 < ((rd_T42 l0 x6_1).f0).length) = True := eq_true (by omega)
        (try rw [show ((0 : Int)).toNat = 0 from rfl] at hx413_0)
        (try rw [Addr.add_zero'] at hx413_0)
        replace p413 := eq_true p413; replace q413 := eq_true q413
        have p414 : 0 ≤ (x6_1 : Int) := zP (by assumption)
        have q414 : x6_1 < (l0.length : Int) := zP (by assumption)
        obtain ⟨ad414, A414_0, c414_0, A414_1, c414_1, e414, hx414_0, hx414_1, hl414_0, hi414_0, hl414_1, hi414_1⟩ := at_T42 (Kd.V_reads' HO_0.out).2.2 x6_1 p414 q414
        obtain rfl : ad412 = ad414 := (by injection e414)
        obtain ⟨ce414, hce414, hMe414, hcc414⟩ := Kd.V_get HO_0.out z42 x6_1 p414 (by first | exact q414 | exact zP (by assumption) | (have e_ := (Kd.V_reads' HO_0.out).1; omega))
        obtain ⟨ua414_0, uc414_0, ua414_1, uc414_1, rfl, ul414_0, ge414_0, ul414_1, ge414_1⟩ := k42_openF hMe414
        have hv414_0 := hcc414 0 _ rfl
        rw [Nat.add_zero] at hv414_0
        replace hv414_0 := Option.some.inj (hv414_0.symm.trans hx414_0)
        injection hv414_0 with hva_ hvn_ hvc_
        rw [hva_] at ge414_0
        rw [hvc_] at ul414_0
        have HL414_0 := yD (show Kd.V (Kd.int .i64) 2 _ w.heap.size _ _ ((rd_T42 l0 x6_1).f0) from Kd.V_mk ul414_0 ge414_0)
        clear hva_ hvn_ hvc_ ge414_0 ul414_0
        have hv414_1 := hcc414 1 _ rfl
        rw [add_field _ _ 1 (by omega)] at hv414_1
        replace hv414_1 := Option.some.inj (hv414_1.symm.trans hx414_1)
        injection hv414_1 with hva_ hvn_ hvc_
        rw [hva_] at ge414_1
        rw [hvc_] at ul414_1
        have HL414_1 := yD (show Kd.V (Kd.int .i64) 2 _ w.heap.size _ _ ((rd_T42 l0 x6_1).f1) from Kd.V_mk ul414_1 ge414_1)
        clear hva_ hvn_ hvc_ ge414_1 ul414_1 hcc414 hce414
        have HR414_0 := yD hi414_0
        have HC414_0 := yD hl414_0
        clear hi414_0 hl414_0
        have HR414_1 := yD hi414_1
        have HC414_1 := yD hl414_1
        clear hi414_1 hl414_1; replace p414 := eq_true p414; replace q414 := eq_true q414
        have ea_ := Option.some.inj (hx412_0.symm.trans hx414_0)
        injection ea_ with ea_ en_ ec_
        subst ea_; subst ec_; clear en_
        have ea_ := Option.some.inj (hx412_1.symm.trans hx414_1)
        injection ea_ with ea_ en_ ec_
        subst ea_; subst ec_; clear en_
        have p415 : 0 ≤ (0 : Int) := (by omega)
        have q415 : 0 < (((rd_T42 l0 x6_1).f1).length : Int) := zP (by assumption)
        obtain ⟨ad415, e415, hx415_0⟩ := Kd.at_int (by repeat (first | (with_reducible exact HR414_1.out) | (with_reducible first | refine yV ?_ _ | refine yW ?_ _ | refine yX ?_) | exact HR414_1.out)) 0 p415 q415
        cases e415
        have qi415 : (0 < ((rd_T42 l0 x6_1).f1).length) = True := eq_true (by omega)
        (try rw [show ((0 : Int)).toNat = 0 from rfl] at hx415_0)
        (try rw [Addr.add_zero'] at hx415_0)
        replace p415 := eq_true p415; replace q415 := eq_true q415
        refine start_ (n := 17) (S := fun w' => w'.cell? (ad412.add ((x6_1).toNat * 2)) = some (.slice (some ad413) ((rd_T42 l0 x6_1).f0).length c412_0) ∧ w'.cell? ⟨(ad412.add ((x6_1).toNat * 2)).block, (ad412.add ((x6_1).toNat * 2)).off + 1, none⟩ = some (.slice (some ad415) ((rd_T42 l0 x6_1).f1).length c412_1) ∧ w'.cell? ad413 = some (.int .i64 (rd ((rd_T42 l0 x6_1).f0) 0)) ∧ w'.cell? (ad412.add ((x6_1).toNat * 2)) = some (.slice (some ad413) ((rd_T42 l0 x6_1).f0).length c412_0) ∧ w'.cell? ⟨(ad412.add ((x6_1).toNat * 2)).block, (ad412.add ((x6_1).toNat * 2)).off + 1, none⟩ = some (.slice (some ad415) ((rd_T42 l0 x6_1).f1).length c412_1) ∧ w'.cell? ad415 = some (.int .i64 (rd ((rd_T42 l0 x6_1).f1) 0))) (ds := []) (bz 17 0) (by kernel_rfl) rfl rfl ⟨hx412_0, hx412_1, hx413_0, hx414_0, hx414_1, hx415_0⟩ (fun hHeld => ?_); refine with_tabW spec_l07Cross.tab5 spec_l07Cross.bits5 (fun HT_ HW_ => ?_)
        generalize wr.drew = w19 at HO_0 HO_5 HB HL412_0 HL412_1 HL414_0 HL414_1 HR412_0 HR412_1 HR414_0 HR414_1 hx412_0 hx412_1 hx413_0 hx414_0 hx414_1 hx415_0 hHeld ⊢
        refine qA 0 14 (bz 17 1) HT_ ?_
        refine qA 1 15 (bz 17 3) HT_ ?_
        refine qA 2 16 (bz 17 7) HT_ ?_
        refine qA 3 17 (bz 17 15) HT_ ?_
        refine qA 4 18 (bz 17 31) HT_ ?_
        refine qA 8 22 (bz 17 287) HT_ ?_
        refine qA 9 23 (bz 17 799) HT_ ?_
        refine qA 10 24 (bz 17 1823) HT_ ?_
        refine qA 11 25 (bz 17 3871) HT_ ?_
        refine qC 5 19 (bz 17 3903) HT_ HW_ hHeld ?_ (hy := by rintro w' ⟨s0, s1, s2, s3, s4, s5⟩; go_simp; with_reducible rfl)
        refine qA 6 20 (bz 17 3967) HT_ ?_
        refine qC 7 21 (bz 17 4095) HT_ HW_ hHeld ?_ (hy := by rintro w' ⟨s0, s1, s2, s3, s4, s5⟩; go_simp; with_reducible rfl)
        refine qC 12 26 (bz 17 8191) HT_ HW_ hHeld ?_ (hy := by rintro w' ⟨s0, s1, s2, s3, s4, s5⟩; go_simp; with_reducible rfl)
        refine qA 13 27 (bz 17 16383) HT_ ?_
        refine qC 14 28 (bz 17 32767) HT_ HW_ hHeld ?_ (hy := by rintro w' ⟨s0, s1, s2, s3, s4, s5⟩; go_simp; with_reducible rfl)
        refine qA 15 29 (bz 17 65535) HT_ ?_
        refine one_ (i := 16) (N := some 30) (bz 17 131071) rfl rfl (one_of HT_.out (by kernel_rfl)) (by decide) (fun K hK => ?_)
        refine goes_ Try.func92 (by kernel_rfl) rfl #[.int .i64 a1, .int .i64 (rd ((rd_T42 l0 x6_1).f0) 0), .int .i64 (wrap64 ((rd ((rd_T42 l0 x6_1).f1) 0) - 1))] (by rfl) rfl rfl (by (try simp only [zK, zL, zM]); first | done | rfl | (simp only [zN, zO]; rfl)) ?_
        with_reducible refine (spec_l00In.calls a1 (rd ((rd_T42 l0 x6_1).f0) 0) (wrap64 ((rd ((rd_T42 l0 x6_1).f1) 0) - 1)) false _ A9.out).mono ?_
        rintro e w' ⟨rfl, ⟨nd, rfl⟩⟩
        refine ⟨_, rfl, ?_⟩
        refine hK.out _ _ ⟨hHeld.1, hHeld.2.1, hHeld.2.2.1, hHeld.2.2.2.1, hHeld.2.2.2.2.1, hHeld.2.2.2.2.2⟩ (fun hHeld => ?_)
        clear hK K
        refine norm_ (a' := ?_) ?_ ?_
        rotate_left
        · show Act.put _ (some 30) _ = _
          simp only [Act.put, zH, zI, zJ, i64_w, i32_w]
          rfl
        refine done_ (done_of HT_.out (by kernel_rfl)) ?_
        try go_wp2
        go_roundg k1
        case measure => have := HK1.out; omega
        case rel => exact ⟨(x5_1), (wrap64 (x6_1 + 1)), (by first | rfl | (simp; done) | (simp [*]; done)), H', ⟨by have := HK1.out; omega⟩, ⟨kU HO_0⟩, ⟨kQ HO_5⟩, ⟨kR0 HB⟩⟩
      · rw [if_neg c8] at H
        exact absurd H (by simp)
     · rw [if_neg c7] at H
       exact absurd H (by simp)
    · rw [if_neg c6] at H
      exact absurd H (by simp)
   · rw [if_neg c5] at H
     have c5b0 : decide (x6_1 < (l0.length : Int)) = false := zS c5; clear c5; obtain rfl := Option.some.inj H
     go_wp2
     go_ret
     exact ⟨_, by first | rfl | (simp <;> rfl) | (simp [*] <;> rfl), Kd.N_V (kQ HO_5), kR0 HB⟩
/-! ### spec_l00Same: function 160 -/
def spec_l00Same.l0 : Nat → List Int → List Int → Int → Option (Bool)
 | 0, _, _, _ => none
 | k + 1, x0, x1, x5 => if x5 < (x0.length : Int) then (if 0 ≤ x5 then (if x5 < (x1.length : Int) then (if (rd x0 x5) = (rd x1 x5) then (spec_l00Same.l0 k x0 x1 (wrap64 (x5 + 1))) else (some false)) else (none)) else (none)) else (some true)
def spec_l00Same.f (k : Nat) (l0 : List Int) (l1 : List Int) : Option (Bool) := if (l0.length : Int) = (l1.length : Int) then (spec_l00Same.l0 k l0 l1 0) else (some false)
theorem spec_l00Same.mono_l : ∀ k, (∀ y0 y1 y2, LeO (spec_l00Same.l0 k y0 y1 y2) (spec_l00Same.l0 (k + 1) y0 y1 y2))
 | 0 => fun _ _ _ r h => by simp [spec_l00Same.l0] at h
 | k + 1 => by
  have ih0 := spec_l00Same.mono_l k
  · intro y0 y1 y2
    unfold spec_l00Same.l0
    repeat' (with_reducible first | exact ih0 _ _ _ | exact LeO.refl _ | exact LeO.none _ | refine LeO.ite ?_ ?_ | refine LeO.bind ?_ (fun _ => ?_))
theorem spec_l00Same.mono : ∀ a0 a1 k, LeO (spec_l00Same.f k a0 a1) (spec_l00Same.f (k + 1) a0 a1) := by
 intro a0 a1 k
 have ih0 := spec_l00Same.mono_l k
 unfold spec_l00Same.f
 repeat' (with_reducible first | exact ih0 _ _ _ | exact LeO.refl _ | exact LeO.none _ | refine LeO.ite ?_ ?_ | refine LeO.bind ?_ (fun _ => ?_))
set_option maxHeartbeats 8000000 in
set_option maxRecDepth 100000 in
theorem spec_l00Same.calls (k : Nat) (A0 : Option Addr) (c0 : Nat) (l0 : List Int) (A1 : Option Addr) (c1 : Nat) (l1 : List Int) (r : Bool) (w : World) (hr0 : Kd.C (Kd.int .i64) w A0 l0.length l0) (hc0 : l0.length ≤ c0) (hr1 : Kd.C (Kd.int .i64) w A1 l1.length l1) (hc1 : l1.length ≤ c1) (h : spec_l00Same.f k l0 l1 = some r) :
 Calls Try.prog 160 #[.slice A0 l0.length c0, .slice A1 l1.length c1] w fun e w' => e = .returned (.bool r) ∧ Drawn0 w w' := by
 have HR0 := yD hr0
 have HC0 := yD hc0
 clear hr0 hc0
 have HR1 := yD hr1
 have HC1 := yD hc1
 clear hr1 hc1
 have H : (if (l0.length : Int) = (l1.length : Int) then (spec_l00Same.l0 k l0 l1 0) else (some false)) = some r := h
 clear h
 by_cases c3 : (l0.length : Int) = (l1.length : Int)
 ·
  rw [if_pos c3] at H
  have c3b0 : ((l0.length : Int) == (l1.length : Int)) = true := beq_iff_eq.mpr c3
  have c3b1 : ((l0.length : Int) != (l1.length : Int)) = false := bne_eq_false_iff_eq.mpr c3
  have c3b2 : (l0.length == l1.length) = true := by first | simpa using c3 | (simp at c3 ⊢; omega)
  clear c3
  have H' := yD H
  clear H; go_enter Try.func160, Try.ntmps160
  go_wp2
  repeat (go_quiet (fail); try go_wp2)
  go_loopg [5] k (fun kq v5 w' => ∃ (x5_1 : Int), v5 = .int .i64 x5_1 ∧ Aside0 (spec_l00Same.l0 kq l0 l1 x5_1 = some r) ∧ Aside0 (kq ≤ k) ∧ Drawn0 w w')
  case atStart => exact ⟨(0), (by first | rfl | (simp; done) | (simp [*]; done)), H', ⟨Nat.le_refl _⟩, by repeat (first | exact Drawn0.refl _ | apply Drawn0.step)⟩
  case round =>
   clear H'
   try clear c1; try clear c3; try clear c3b0; try clear c3b1; try clear c3b2
   obtain ⟨x5_1, rfl, HA, HK1, ⟨m1, rfl⟩⟩ := hrel
   cases gk with
   | zero => exact absurd HA.out (by simp [spec_l00Same.l0])
   | succ k1 =>
    have H := HA.out; clear HA
    simp only [spec_l00Same.l0] at H
    by_cases c4 : x5_1 < (l0.length : Int)
    ·
     rw [if_pos c4] at H
     have c4b0 : decide (x5_1 < (l0.length : Int)) = true := zR c4; clear c4
     by_cases c5 : 0 ≤ x5_1
     ·
      rw [if_pos c5] at H
      have c5b0 : decide (0 ≤ x5_1) = true := zR c5; clear c5
      by_cases c6 : x5_1 < (l1.length : Int)
      ·
       rw [if_pos c6] at H
       have c6b0 : decide (x5_1 < (l1.length : Int)) = true := zR c6; clear c6
       by_cases c7 : (rd l0 x5_1) = (rd l1 x5_1)
       ·
        rw [if_pos c7] at H
        have c7b0 : ((rd l0 x5_1) == (rd l1 x5_1)) = true := beq_iff_eq.mpr c7
        have c7b1 : ((rd l0 x5_1) != (rd l1 x5_1)) = false := bne_eq_false_iff_eq.mpr c7
        clear c7
        have H' := yD H
        clear H
        have p432 : 0 ≤ (x5_1 : Int) := zP (by assumption)
        have q432 : x5_1 < (l0.length : Int) := zP (by assumption)
        obtain ⟨ad432, e432, hx432_0⟩ := Kd.at_int HR0.out x5_1 p432 q432
        cases e432; replace p432 := eq_true p432; replace q432 := eq_true q432
        have p433 : 0 ≤ (x5_1 : Int) := zP (by assumption)
        have q433 : x5_1 < (l1.length : Int) := zP (by assumption)
        obtain ⟨ad433, e433, hx433_0⟩ := Kd.at_int HR1.out x5_1 p433 q433
        cases e433; replace p433 := eq_true p433; replace q433 := eq_true q433
        go_wp2
        repeat (go_quiet (fail); try go_wp2)
        go_roundg k1
        case measure => have := HK1.out; omega
        case rel => exact ⟨(wrap64 (x5_1 + 1)), (by first | rfl | (simp; done) | (simp [*]; done)), H', ⟨by have := HK1.out; omega⟩, by repeat (first | exact Drawn0.refl _ | apply Drawn0.step)⟩
       ·
        rw [if_neg c7] at H
        have c7b0 : ((rd l0 x5_1) == (rd l1 x5_1)) = false := beq_eq_false_iff_ne.mpr c7
        have c7b1 : ((rd l0 x5_1) != (rd l1 x5_1)) = true := bne_iff_ne.mpr c7
        obtain rfl := Option.some.inj H
        have p432 : 0 ≤ (x5_1 : Int) := zP (by assumption)
        have q432 : x5_1 < (l0.length : Int) := zP (by assumption)
        obtain ⟨ad432, e432, hx432_0⟩ := Kd.at_int HR0.out x5_1 p432 q432
        cases e432; replace p432 := eq_true p432; replace q432 := eq_true q432
        have p433 : 0 ≤ (x5_1 : Int) := zP (by assumption)
        have q433 : x5_1 < (l1.length : Int) := zP (by assumption)
        obtain ⟨ad433, e433, hx433_0⟩ := Kd.at_int HR1.out x5_1 p433 q433
        cases e433; replace p433 := eq_true p433; replace q433 := eq_true q433
        go_wp2
        repeat (go_quiet (fail); try go_wp2)
        go_ret
        exact ⟨by first | rfl | (simp; done) | (simp [*]; done), by repeat (first | exact Drawn0.refl _ | apply Drawn0.step)⟩
      · rw [if_neg c6] at H
        exact absurd H (by simp)
     · rw [if_neg c5] at H
       exact absurd H (by simp)
    · rw [if_neg c4] at H
      have c4b0 : decide (x5_1 < (l0.length : Int)) = false := zS c4; clear c4; obtain rfl := Option.some.inj H
      go_wp2
      repeat (go_quiet (fail); try go_wp2)
      go_ret
      exact ⟨by first | rfl | (simp; done) | (simp [*]; done), by repeat (first | exact Drawn0.refl _ | apply Drawn0.step)⟩
 ·
  rw [if_neg c3] at H
  have c3b0 : ((l0.length : Int) == (l1.length : Int)) = false := beq_eq_false_iff_ne.mpr c3
  have c3b1 : ((l0.length : Int) != (l1.length : Int)) = true := bne_iff_ne.mpr c3
  have c3b2 : (l0.length == l1.length) = false := by first | simpa using c3 | (simp at c3 ⊢; omega)
  obtain rfl := Option.some.inj H; go_enter Try.func160, Try.ntmps160
  go_wp2
  repeat (go_quiet (fail); try go_wp2)
  go_ret
  exact ⟨by first | rfl | (simp; done) | (simp [*]; done), by repeat (first | exact Drawn0.refl _ | apply Drawn0.step)⟩

/-! ### spec_l07SameBox: function 149 -/
def spec_l07SameBox.f (k : Nat) (l0_0 : List Int) (l0_1 : List Int) (l1_0 : List Int) (l1_1 : List Int) : Option (Bool) := (spec_l00Same.f k l0_0 l1_0).bind fun t436 => (if t436 = true then ((spec_l00Same.f k l0_1 l1_1).bind fun t437 => (some t437)) else (some false))
theorem spec_l07SameBox.mono : ∀ a0 a1 a2 a3 k, LeO (spec_l07SameBox.f k a0 a1 a2 a3) (spec_l07SameBox.f (k + 1) a0 a1 a2 a3) := by
 intro a0 a1 a2 a3 k
 unfold spec_l07SameBox.f
 repeat' (with_reducible first | exact spec_l00Same.mono _ _ _ | exact LeO.refl _ | exact LeO.none _ | refine LeO.ite ?_ ?_ | refine LeO.bind ?_ (fun _ => ?_))
set_option maxHeartbeats 8000000 in
set_option maxRecDepth 100000 in
theorem spec_l07SameBox.calls (k : Nat) (A0_0 : Option Addr) (c0_0 : Nat) (l0_0 : List Int) (A0_1 : Option Addr) (c0_1 : Nat) (l0_1 : List Int) (A1_0 : Option Addr) (c1_0 : Nat) (l1_0 : List Int) (A1_1 : Option Addr) (c1_1 : Nat) (l1_1 : List Int) (r : Bool) (w : World) (hr0_0 : Kd.C (Kd.int .i64) w A0_0 l0_0.length l0_0) (hc0_0 : l0_0.length ≤ c0_0) (hr0_1 : Kd.C (Kd.int .i64) w A0_1 l0_1.length l0_1) (hc0_1 : l0_1.length ≤ c0_1) (hr1_0 : Kd.C (Kd.int .i64) w A1_0 l1_0.length l1_0) (hc1_0 : l1_0.length ≤ c1_0) (hr1_1 : Kd.C (Kd.int .i64) w A1_1 l1_1.length l1_1) (hc1_1 : l1_1.length ≤ c1_1) (h : spec_l07SameBox.f k l0_0 l0_1 l1_0 l1_1 = some r) :
 Calls Try.prog 149 #[.agg #[.slice A0_0 l0_0.length c0_0, .slice A0_1 l0_1.length c0_1], .agg #[.slice A1_0 l1_0.length c1_0, .slice A1_1 l1_1.length c1_1]] w fun e w' => e = .returned (.bool r) ∧ Below w.heap.size w w' := by
 have hu42 := Try.underlying42
 have HR0_0 := yD hr0_0
 have HC0_0 := yD hc0_0
 clear hr0_0 hc0_0
 have HR0_1 := yD hr0_1
 have HC0_1 := yD hc0_1
 clear hr0_1 hc0_1
 have HR1_0 := yD hr1_0
 have HC1_0 := yD hc1_0
 clear hr1_0 hc1_0
 have HR1_1 := yD hr1_1
 have HC1_1 := yD hc1_1
 clear hr1_1 hc1_1
 have HB := yD (Below.refl w.heap.size w)
 have H : ((spec_l00Same.f k l0_0 l1_0).bind fun t436 => (if t436 = true then ((spec_l00Same.f k l0_1 l1_1).bind fun t437 => (some t437)) else (some false))) = some r := h
 clear h
 obtain ⟨t436, A30, H⟩ := zW_ H
 replace H : (if t436 = true then ((spec_l00Same.f k l0_1 l1_1).bind fun t437 => (some t437)) else (some false)) = some r := H
 have A3 := yD A30
 clear A30
 by_cases c4 : t436 = true
 ·
  subst c4
  replace H : ((spec_l00Same.f k l0_1 l1_1).bind fun t437 => (some t437)) = some r := (by rw [if_pos rfl] at H; exact H)
  obtain ⟨t437, A50, H⟩ := zW_ H
  replace H : (some t437) = some r := H
  have A5 := yD A50
  clear A50; obtain rfl := Option.some.inj H; go_enter Try.func149, Try.ntmps149
  go_wp2_with (first | ((with_reducible refine gate_dst (N := 2) rfl ?_); refine box_event ?hg (N := 2) ?hd (cs := #[.slice A0_0 l0_0.length c0_0, .slice A0_1 l0_1.length c0_1]) (t := 42) ?hr ?_; (case hd => rfl); (case hg => rfl); (case hr => first | (go_simp; done) | (go_simp; rfl)); intro gb434 hg w6 hbox hb; have BK434 := yD (hbox); have GW434 := yD ((by rw [hg]; exact (below_size (kB HB)) : w.heap.size ≤ gb434)); have GE434 := yD ((by rw [hg]; exact (below_size (kB HB)) : w.heap.size ≤ gb434)); replace HB := yD (zC (kB HB) hb); clear hb hbox hg) | ((with_reducible refine gate_dst (N := 3) rfl ?_); refine box_event ?hg (N := 3) ?hd (cs := #[.slice A1_0 l1_0.length c1_0, .slice A1_1 l1_1.length c1_1]) (t := 42) ?hr ?_; (case hd => rfl); (case hg => rfl); (case hr => first | (go_simp; done) | (go_simp; rfl)); intro gb435 hg w7 hbox hb; have BK435 := yD (hbox); have GW435 := yD ((by rw [hg]; exact (below_size (kB HB)) : w.heap.size ≤ gb435)); have GE435 := yD ((by rw [hg]; exact (below_size (kB HB)) : w.heap.size ≤ gb435)); replace HB := yD (zC (kB HB) hb); have NB434_435 := yD ((by rw [hg]; exact Nat.ne_of_lt (blk_lt (kN BK434)) : gb434 ≠ gb435)); have NB435_434 := yD ((by rw [hg]; exact Nat.ne_of_gt (blk_lt (kN BK434)) : gb435 ≠ gb434)); replace BK434 := yD (zB (kN BK434) hb); clear hb hbox hg; have hnb8 := NB434_435.out; have hnc8 := NB435_434.out; obtain ⟨hcz9_0, hcz9_1⟩ := cz2 BK434.out; obtain ⟨hfz9_0, hfz9_1⟩ := fz2 BK434.out; obtain ⟨hcz10_0, hcz10_1⟩ := cz2 BK435.out; obtain ⟨hfz10_0, hfz10_1⟩ := fz2 BK435.out) | ((with_reducible refine gate_callee (f := 160) rfl ?_); refine gL 9 Try.func160 #[.slice A0_0 l0_0.length c0_0, .slice A1_0 l1_0.length c1_0] ?_; (with_reducible refine (spec_l00Same.calls k _ _ l0_0 _ _ l1_0 true _ ?side1 ?side2 ?side3 ?side4 A3.out).mono ?_); (case side1 => exact kV (yY HR0_0.out HB.out)); (case side2 => exact HC0_0.out); (case side3 => exact kV (yY HR1_0.out HB.out)); (case side4 => exact HC1_0.out); rintro e w' ⟨rfl, ⟨nd, rfl⟩⟩; refine ⟨_, rfl, ?_⟩) | (go_at_call 160; (with_reducible refine (spec_l00Same.calls k _ _ l0_1 _ _ l1_1 t437 _ ?side1 ?side2 ?side3 ?side4 A5.out).mono ?_); (case side1 => repeat (first | exact (yY HR0_1.out (kB HB)) | (with_reducible first | refine yV ?_ _ | refine yW ?_ _ | refine yX ?_))); (case side2 => exact HC0_1.out); (case side3 => repeat (first | exact (yY HR1_1.out (kB HB)) | (with_reducible first | refine yV ?_ _ | refine yW ?_ _ | refine yX ?_))); (case side4 => exact HC1_1.out); rintro e w' ⟨rfl, ⟨nd, rfl⟩⟩))
  go_ret
  exact ⟨by first | rfl | (simp <;> rfl) | (simp [*] <;> rfl), kR1 HB⟩
 ·
  replace c4 := Bool.eq_false_iff.mpr c4
  subst c4
  replace H : (some false) = some r := (by rw [if_neg (show ¬ (false = true) by decide)] at H; exact H); obtain rfl := Option.some.inj H; go_enter Try.func149, Try.ntmps149
  go_wp2_with (first | ((with_reducible refine gate_dst (N := 2) rfl ?_); refine box_event ?hg (N := 2) ?hd (cs := #[.slice A0_0 l0_0.length c0_0, .slice A0_1 l0_1.length c0_1]) (t := 42) ?hr ?_; (case hd => rfl); (case hg => rfl); (case hr => first | (go_simp; done) | (go_simp; rfl)); intro gb434 hg w11 hbox hb; have BK434 := yD (hbox); have GW434 := yD ((by rw [hg]; exact (below_size (kB HB)) : w.heap.size ≤ gb434)); have GE434 := yD ((by rw [hg]; exact (below_size (kB HB)) : w.heap.size ≤ gb434)); replace HB := yD (zC (kB HB) hb); clear hb hbox hg) | ((with_reducible refine gate_dst (N := 3) rfl ?_); refine box_event ?hg (N := 3) ?hd (cs := #[.slice A1_0 l1_0.length c1_0, .slice A1_1 l1_1.length c1_1]) (t := 42) ?hr ?_; (case hd => rfl); (case hg => rfl); (case hr => first | (go_simp; done) | (go_simp; rfl)); intro gb435 hg w12 hbox hb; have BK435 := yD (hbox); have GW435 := yD ((by rw [hg]; exact (below_size (kB HB)) : w.heap.size ≤ gb435)); have GE435 := yD ((by rw [hg]; exact (below_size (kB HB)) : w.heap.size ≤ gb435)); replace HB := yD (zC (kB HB) hb); have NB434_435 := yD ((by rw [hg]; exact Nat.ne_of_lt (blk_lt (kN BK434)) : gb434 ≠ gb435)); have NB435_434 := yD ((by rw [hg]; exact Nat.ne_of_gt (blk_lt (kN BK434)) : gb435 ≠ gb434)); replace BK434 := yD (zB (kN BK434) hb); clear hb hbox hg; have hnb13 := NB434_435.out; have hnc13 := NB435_434.out; obtain ⟨hcz14_0, hcz14_1⟩ := cz2 BK434.out; obtain ⟨hfz14_0, hfz14_1⟩ := fz2 BK434.out; obtain ⟨hcz15_0, hcz15_1⟩ := cz2 BK435.out; obtain ⟨hfz15_0, hfz15_1⟩ := fz2 BK435.out) | ((with_reducible refine gate_callee (f := 160) rfl ?_); refine gL 9 Try.func160 #[.slice A0_0 l0_0.length c0_0, .slice A1_0 l1_0.length c1_0] ?_; (with_reducible refine (spec_l00Same.calls k _ _ l0_0 _ _ l1_0 false _ ?side1 ?side2 ?side3 ?side4 A3.out).mono ?_); (case side1 => exact kV (yY HR0_0.out HB.out)); (case side2 => exact HC0_0.out); (case side3 => exact kV (yY HR1_0.out HB.out)); (case side4 => exact HC1_0.out); rintro e w' ⟨rfl, ⟨nd, rfl⟩⟩; refine ⟨_, rfl, ?_⟩))
  go_ret
  exact ⟨by first | rfl | (simp <;> rfl) | (simp [*] <;> rfl), kR1 HB⟩

/-! ### spec_l07Same: function 130 -/
def spec_l07Same.l0 : Nat → List (S42) → List (S42) → Int → Option (Bool)
 | 0, _, _, _ => none
 | k + 1, x0, x1, x5 => if x5 < (x0.length : Int) then (if 0 ≤ x5 then (if x5 < (x1.length : Int) then ((spec_l07SameBox.f k ((rd_T42 x0 x5).f0) ((rd_T42 x0 x5).f1) ((rd_T42 x1 x5).f0) ((rd_T42 x1 x5).f1)).bind fun t440 => (if t440 = true then (spec_l07Same.l0 k x0 x1 (wrap64 (x5 + 1))) else (some false))) else (none)) else (none)) else (some true)
def spec_l07Same.f (k : Nat) (l0 : List (S42)) (l1 : List (S42)) : Option (Bool) := if (l0.length : Int) = (l1.length : Int) then (spec_l07Same.l0 k l0 l1 0) else (some false)
theorem spec_l07Same.mono_l : ∀ k, (∀ y0 y1 y2, LeO (spec_l07Same.l0 k y0 y1 y2) (spec_l07Same.l0 (k + 1) y0 y1 y2))
 | 0 => fun _ _ _ r h => by simp [spec_l07Same.l0] at h
 | k + 1 => by
  have ih0 := spec_l07Same.mono_l k
  · intro y0 y1 y2
    unfold spec_l07Same.l0
    repeat' (with_reducible first | exact ih0 _ _ _ | exact spec_l07SameBox.mono _ _ _ _ _ | exact LeO.refl _ | exact LeO.none _ | refine LeO.ite ?_ ?_ | refine LeO.bind ?_ (fun _ => ?_))
theorem spec_l07Same.mono : ∀ a0 a1 k, LeO (spec_l07Same.f k a0 a1) (spec_l07Same.f (k + 1) a0 a1) := by
 intro a0 a1 k
 have ih0 := spec_l07Same.mono_l k
 unfold spec_l07Same.f
 repeat' (with_reducible first | exact ih0 _ _ _ | exact spec_l07SameBox.mono _ _ _ _ _ | exact LeO.refl _ | exact LeO.none _ | refine LeO.ite ?_ ?_ | refine LeO.bind ?_ (fun _ => ?_))
def spec_l07Same.T6 : Bool × List (List Nat × List Nat) := (true, [([], []), ([], []), ([0, 1], [0, 1]), ([2], [2]), ([], []), ([], []), ([4, 5], [4, 5]), ([6], [6]), ([3, 7], [3, 7]), ([8], [8])])
def spec_l07Same.B6 : List Nat := [0, 0, 3, 7, 0, 0, 48, 112, 255, 511]
theorem spec_l07Same.tab6 : rtab .any (opsOf Try.f130 6) = spec_l07Same.T6 := by kernel_rfl
theorem spec_l07Same.bits6 : waitsOk spec_l07Same.T6.2 spec_l07Same.B6 = true := by kernel_rfl
set_option maxHeartbeats 8000000 in
set_option maxRecDepth 100000 in
theorem spec_l07Same.calls (k : Nat) (A0 : Option Addr) (c0 : Nat) (l0 : List (S42)) (A1 : Option Addr) (c1 : Nat) (l1 : List (S42)) (r : Bool) (w : World) (hr0 : Kd.C k42 w A0 l0.length l0) (hc0 : l0.length ≤ c0) (hr1 : Kd.C k42 w A1 l1.length l1) (hc1 : l1.length ≤ c1) (h : spec_l07Same.f k l0 l1 = some r) :
 Calls Try.prog 130 #[.slice A0 l0.length c0, .slice A1 l1.length c1] w fun e w' => e = .returned (.bool r) ∧ Below w.heap.size w w' := by
 have hu42 := Try.underlying42
 have HR0 := yD hr0
 have HC0 := yD hc0
 clear hr0 hc0
 have HR1 := yD hr1
 have HC1 := yD hc1
 clear hr1 hc1
 have HB := yD (Below.refl w.heap.size w)
 have H : (if (l0.length : Int) = (l1.length : Int) then (spec_l07Same.l0 k l0 l1 0) else (some false)) = some r := h
 clear h
 by_cases c3 : (l0.length : Int) = (l1.length : Int)
 ·
  rw [if_pos c3] at H
  have c3b0 : ((l0.length : Int) == (l1.length : Int)) = true := beq_iff_eq.mpr c3
  have c3b1 : ((l0.length : Int) != (l1.length : Int)) = false := bne_eq_false_iff_eq.mpr c3
  have c3b2 : (l0.length == l1.length) = true := by first | simpa using c3 | (simp at c3 ⊢; omega)
  clear c3
  have H' := yD H
  clear H; go_enter Try.func130, Try.ntmps130
  go_wp2
  go_loopg [5] k (fun kq v5 w' => ∃ (x5_1 : Int), v5 = .int .i64 x5_1 ∧ Aside0 (spec_l07Same.l0 kq l0 l1 x5_1 = some r) ∧ Aside0 (kq ≤ k) ∧ Aside0 (Below w.heap.size w w'))
  case atStart => exact ⟨(0), (by first | rfl | (simp; done) | (simp [*]; done)), H', ⟨Nat.le_refl _⟩, ⟨kR0 HB⟩⟩
  case round =>
   clear H'
   try clear c1; try clear c3; try clear c3b0; try clear c3b1; try clear c3b2
   obtain ⟨x5_1, rfl, HA, HK1, HB⟩ := hrel
   cases gk with
   | zero => exact absurd HA.out (by simp [spec_l07Same.l0])
   | succ k1 =>
    have H := HA.out; clear HA
    simp only [spec_l07Same.l0] at H
    by_cases c4 : x5_1 < (l0.length : Int)
    ·
     rw [if_pos c4] at H
     have c4b0 : decide (x5_1 < (l0.length : Int)) = true := zR c4; clear c4
     by_cases c5 : 0 ≤ x5_1
     ·
      rw [if_pos c5] at H
      have c5b0 : decide (0 ≤ x5_1) = true := zR c5; clear c5
      by_cases c6 : x5_1 < (l1.length : Int)
      ·
       rw [if_pos c6] at H
       have c6b0 : decide (x5_1 < (l1.length : Int)) = true := zR c6; clear c6
       obtain ⟨t440, A70, H⟩ := zW_ H
       replace H : (if t440 = true then (spec_l07Same.l0 k1 l0 l1 (wrap64 (x5_1 + 1))) else (some false)) = some r := H
       have A7 := yD A70
       clear A70
       by_cases c8 : t440 = true
       ·
        subst c8
        replace H : (spec_l07Same.l0 k1 l0 l1 (wrap64 (x5_1 + 1))) = some r := (by rw [if_pos rfl] at H; exact H)
        have H' := yD H
        clear H
        try go_wp2
        have n0_ := yD (yP HB.out)
        clear HB; have HB := n0_; clear n0_
        have p438 : 0 ≤ (x5_1 : Int) := zP (by assumption)
        have q438 : x5_1 < (l0.length : Int) := zP (by assumption)
        obtain ⟨ad438, A438_0, c438_0, A438_1, c438_1, e438, hx438_0, hx438_1, hl438_0, hi438_0, hl438_1, hi438_1⟩ := at_T42 HR0.out x5_1 p438 q438
        have hw438_1 := hx438_1; have hw438_0 := hx438_0; cases e438
        replace hx438_0 := (HB.out.cell (zQ w _ hx438_0)).trans hx438_0
        replace hx438_1 := (HB.out.cell (zQ w _ hx438_1)).trans hx438_1
        have HR438_0 := yD hi438_0
        have HC438_0 := yD hl438_0
        clear hi438_0 hl438_0
        have HR438_1 := yD hi438_1
        have HC438_1 := yD hl438_1
        clear hi438_1 hl438_1; replace p438 := eq_true p438; replace q438 := eq_true q438
        have p439 : 0 ≤ (x5_1 : Int) := zP (by assumption)
        have q439 : x5_1 < (l1.length : Int) := zP (by assumption)
        obtain ⟨ad439, A439_0, c439_0, A439_1, c439_1, e439, hx439_0, hx439_1, hl439_0, hi439_0, hl439_1, hi439_1⟩ := at_T42 HR1.out x5_1 p439 q439
        have hw439_1 := hx439_1; have hw439_0 := hx439_0; cases e439
        replace hx439_0 := (HB.out.cell (zQ w _ hx439_0)).trans hx439_0
        replace hx439_1 := (HB.out.cell (zQ w _ hx439_1)).trans hx439_1
        have HR439_0 := yD hi439_0
        have HC439_0 := yD hl439_0
        clear hi439_0 hl439_0
        have HR439_1 := yD hi439_1
        have HC439_1 := yD hl439_1
        clear hi439_1 hl439_1; replace p439 := eq_true p439; replace q439 := eq_true q439
        refine start_ (n := 10) (S := fun w' => w'.cell? (ad438.add ((x5_1).toNat * 2)) = some (.slice A438_0 ((rd_T42 l0 x5_1).f0).length c438_0) ∧ w'.cell? ⟨(ad438.add ((x5_1).toNat * 2)).block, (ad438.add ((x5_1).toNat * 2)).off + 1, none⟩ = some (.slice A438_1 ((rd_T42 l0 x5_1).f1).length c438_1) ∧ w'.cell? (ad439.add ((x5_1).toNat * 2)) = some (.slice A439_0 ((rd_T42 l1 x5_1).f0).length c439_0) ∧ w'.cell? ⟨(ad439.add ((x5_1).toNat * 2)).block, (ad439.add ((x5_1).toNat * 2)).off + 1, none⟩ = some (.slice A439_1 ((rd_T42 l1 x5_1).f1).length c439_1)) (ds := []) (bz 10 0) (by kernel_rfl) rfl rfl ⟨((HB.out.cell (zQ w _ hw438_0)).trans hw438_0), ((HB.out.cell (zQ w _ hw438_1)).trans hw438_1), ((HB.out.cell (zQ w _ hw439_0)).trans hw439_0), ((HB.out.cell (zQ w _ hw439_1)).trans hw439_1)⟩ (fun hHeld => ?_); refine with_tabW spec_l07Same.tab6 spec_l07Same.bits6 (fun HT_ HW_ => ?_)
        generalize wr.drew = w9 at HB HR438_0 HR438_1 HR439_0 HR439_1 hx438_0 hx438_1 hx439_0 hx439_1 hHeld ⊢
        refine qA 0 17 (bz 10 1) HT_ ?_
        refine qA 1 18 (bz 10 3) HT_ ?_
        refine qA 2 19 (bz 10 7) HT_ ?_
        refine qA 4 21 (bz 10 23) HT_ ?_
        refine qA 5 22 (bz 10 55) HT_ ?_
        refine qA 6 23 (bz 10 119) HT_ ?_
        refine qC 3 20 (bz 10 127) HT_ HW_ hHeld ?_ (hy := by rintro w' ⟨s0, s1, s2, s3⟩; go_simp; with_reducible rfl)
        refine qC 7 24 (bz 10 255) HT_ HW_ hHeld ?_ (hy := by rintro w' ⟨s0, s1, s2, s3⟩; go_simp; with_reducible rfl)
        refine one_ (i := 8) (N := some 25) (bz 10 511) rfl rfl (one_of HT_.out (by kernel_rfl)) (by decide) (fun K hK => ?_)
        refine goes_ Try.func149 (by kernel_rfl) rfl #[.agg #[.slice A438_0 ((rd_T42 l0 x5_1).f0).length c438_0, .slice A438_1 ((rd_T42 l0 x5_1).f1).length c438_1], .agg #[.slice A439_0 ((rd_T42 l1 x5_1).f0).length c439_0, .slice A439_1 ((rd_T42 l1 x5_1).f1).length c439_1]] (by rfl) rfl rfl (by (try simp only [zK, zL, zM]); first | done | rfl | (simp only [zN, zO]; rfl)) ?_
        with_reducible refine (spec_l07SameBox.calls k1 _ _ ((rd_T42 l0 x5_1).f0) _ _ ((rd_T42 l0 x5_1).f1) _ _ ((rd_T42 l1 x5_1).f0) _ _ ((rd_T42 l1 x5_1).f1) true _ ?side1 ?side2 ?side3 ?side4 ?side5 ?side6 ?side7 ?side8 A7.out).mono ?_
        (case side1 => exact kV (yY HR438_0.out HB.out))
        (case side2 => exact HC438_0.out)
        (case side3 => exact kV (yY HR438_1.out HB.out))
        (case side4 => exact HC438_1.out)
        (case side5 => exact kV (yY HR439_0.out HB.out))
        (case side6 => exact HC439_0.out)
        (case side7 => exact kV (yY HR439_1.out HB.out))
        (case side8 => exact HC439_1.out)
        rintro e w10 ⟨rfl, hb⟩
        refine ⟨_, rfl, ?_⟩
        have n0_ := yD (zC (kB HB) hb)
        clear HB; have HB := n0_; clear n0_; (try clear hb); (try clear hb2); (try clear hk); (try clear hi)
        refine hK.out _ _ ⟨((HB.out.cell (zQ w _ hw438_0)).trans hw438_0), ((HB.out.cell (zQ w _ hw438_1)).trans hw438_1), ((HB.out.cell (zQ w _ hw439_0)).trans hw439_0), ((HB.out.cell (zQ w _ hw439_1)).trans hw439_1)⟩ (fun hHeld => ?_)
        clear hK K
        refine norm_ (a' := ?_) ?_ ?_
        rotate_left
        · show Act.put _ (some 25) _ = _
          simp only [Act.put, zH, zI, zJ, i64_w, i32_w]
          rfl
        refine qA 9 26 (bz 10 1023) HT_ ?_
        refine done_ (done_of HT_.out (by kernel_rfl)) ?_
        try go_wp2
        go_roundg k1
        case measure => have := HK1.out; omega
        case rel => exact ⟨(wrap64 (x5_1 + 1)), (by first | rfl | (simp; done) | (simp [*]; done)), H', ⟨by have := HK1.out; omega⟩, ⟨kR0 HB⟩⟩
       ·
        replace c8 := Bool.eq_false_iff.mpr c8
        subst c8
        replace H : (some false) = some r := (by rw [if_neg (show ¬ (false = true) by decide)] at H; exact H); obtain rfl := Option.some.inj H
        try go_wp2
        have n0_ := yD (yP HB.out)
        clear HB; have HB := n0_; clear n0_
        have p438 : 0 ≤ (x5_1 : Int) := zP (by assumption)
        have q438 : x5_1 < (l0.length : Int) := zP (by assumption)
        obtain ⟨ad438, A438_0, c438_0, A438_1, c438_1, e438, hx438_0, hx438_1, hl438_0, hi438_0, hl438_1, hi438_1⟩ := at_T42 HR0.out x5_1 p438 q438
        have hw438_1 := hx438_1; have hw438_0 := hx438_0; cases e438
        replace hx438_0 := (HB.out.cell (zQ w _ hx438_0)).trans hx438_0
        replace hx438_1 := (HB.out.cell (zQ w _ hx438_1)).trans hx438_1
        have HR438_0 := yD hi438_0
        have HC438_0 := yD hl438_0
        clear hi438_0 hl438_0
        have HR438_1 := yD hi438_1
        have HC438_1 := yD hl438_1
        clear hi438_1 hl438_1; replace p438 := eq_true p438; replace q438 := eq_true q438
        have p439 : 0 ≤ (x5_1 : Int) := zP (by assumption)
        have q439 : x5_1 < (l1.length : Int) := zP (by assumption)
        obtain ⟨ad439, A439_0, c439_0, A439_1, c439_1, e439, hx439_0, hx439_1, hl439_0, hi439_0, hl439_1, hi439_1⟩ := at_T42 HR1.out x5_1 p439 q439
        have hw439_1 := hx439_1; have hw439_0 := hx439_0; cases e439
        replace hx439_0 := (HB.out.cell (zQ w _ hx439_0)).trans hx439_0
        replace hx439_1 := (HB.out.cell (zQ w _ hx439_1)).trans hx439_1
        have HR439_0 := yD hi439_0
        have HC439_0 := yD hl439_0
        clear hi439_0 hl439_0
        have HR439_1 := yD hi439_1
        have HC439_1 := yD hl439_1
        clear hi439_1 hl439_1; replace p439 := eq_true p439; replace q439 := eq_true q439
        refine start_ (n := 10) (S := fun w' => w'.cell? (ad438.add ((x5_1).toNat * 2)) = some (.slice A438_0 ((rd_T42 l0 x5_1).f0).length c438_0) ∧ w'.cell? ⟨(ad438.add ((x5_1).toNat * 2)).block, (ad438.add ((x5_1).toNat * 2)).off + 1, none⟩ = some (.slice A438_1 ((rd_T42 l0 x5_1).f1).length c438_1) ∧ w'.cell? (ad439.add ((x5_1).toNat * 2)) = some (.slice A439_0 ((rd_T42 l1 x5_1).f0).length c439_0) ∧ w'.cell? ⟨(ad439.add ((x5_1).toNat * 2)).block, (ad439.add ((x5_1).toNat * 2)).off + 1, none⟩ = some (.slice A439_1 ((rd_T42 l1 x5_1).f1).length c439_1)) (ds := []) (bz 10 0) (by kernel_rfl) rfl rfl ⟨((HB.out.cell (zQ w _ hw438_0)).trans hw438_0), ((HB.out.cell (zQ w _ hw438_1)).trans hw438_1), ((HB.out.cell (zQ w _ hw439_0)).trans hw439_0), ((HB.out.cell (zQ w _ hw439_1)).trans hw439_1)⟩ (fun hHeld => ?_); refine with_tabW spec_l07Same.tab6 spec_l07Same.bits6 (fun HT_ HW_ => ?_)
        generalize wr.drew = w11 at HB HR438_0 HR438_1 HR439_0 HR439_1 hx438_0 hx438_1 hx439_0 hx439_1 hHeld ⊢
        refine qA 0 17 (bz 10 1) HT_ ?_
        refine qA 1 18 (bz 10 3) HT_ ?_
        refine qA 2 19 (bz 10 7) HT_ ?_
        refine qA 4 21 (bz 10 23) HT_ ?_
        refine qA 5 22 (bz 10 55) HT_ ?_
        refine qA 6 23 (bz 10 119) HT_ ?_
        refine qC 3 20 (bz 10 127) HT_ HW_ hHeld ?_ (hy := by rintro w' ⟨s0, s1, s2, s3⟩; go_simp; with_reducible rfl)
        refine qC 7 24 (bz 10 255) HT_ HW_ hHeld ?_ (hy := by rintro w' ⟨s0, s1, s2, s3⟩; go_simp; with_reducible rfl)
        refine one_ (i := 8) (N := some 25) (bz 10 511) rfl rfl (one_of HT_.out (by kernel_rfl)) (by decide) (fun K hK => ?_)
        refine goes_ Try.func149 (by kernel_rfl) rfl #[.agg #[.slice A438_0 ((rd_T42 l0 x5_1).f0).length c438_0, .slice A438_1 ((rd_T42 l0 x5_1).f1).length c438_1], .agg #[.slice A439_0 ((rd_T42 l1 x5_1).f0).length c439_0, .slice A439_1 ((rd_T42 l1 x5_1).f1).length c439_1]] (by rfl) rfl rfl (by (try simp only [zK, zL, zM]); first | done | rfl | (simp only [zN, zO]; rfl)) ?_
        with_reducible refine (spec_l07SameBox.calls k1 _ _ ((rd_T42 l0 x5_1).f0) _ _ ((rd_T42 l0 x5_1).f1) _ _ ((rd_T42 l1 x5_1).f0) _ _ ((rd_T42 l1 x5_1).f1) false _ ?side1 ?side2 ?side3 ?side4 ?side5 ?side6 ?side7 ?side8 A7.out).mono ?_
        (case side1 => exact kV (yY HR438_0.out HB.out))
        (case side2 => exact HC438_0.out)
        (case side3 => exact kV (yY HR438_1.out HB.out))
        (case side4 => exact HC438_1.out)
        (case side5 => exact kV (yY HR439_0.out HB.out))
        (case side6 => exact HC439_0.out)
        (case side7 => exact kV (yY HR439_1.out HB.out))
        (case side8 => exact HC439_1.out)
        rintro e w12 ⟨rfl, hb⟩
        refine ⟨_, rfl, ?_⟩
        have n0_ := yD (zC (kB HB) hb)
        clear HB; have HB := n0_; clear n0_; (try clear hb); (try clear hb2); (try clear hk); (try clear hi)
        refine hK.out _ _ ⟨((HB.out.cell (zQ w _ hw438_0)).trans hw438_0), ((HB.out.cell (zQ w _ hw438_1)).trans hw438_1), ((HB.out.cell (zQ w _ hw439_0)).trans hw439_0), ((HB.out.cell (zQ w _ hw439_1)).trans hw439_1)⟩ (fun hHeld => ?_)
        clear hK K
        refine norm_ (a' := ?_) ?_ ?_
        rotate_left
        · show Act.put _ (some 25) _ = _
          simp only [Act.put, zH, zI, zJ, i64_w, i32_w]
          rfl
        refine qA 9 26 (bz 10 1023) HT_ ?_
        refine done_ (done_of HT_.out (by kernel_rfl)) ?_
        try go_wp2
        go_ret
        exact ⟨by first | rfl | (simp <;> rfl) | (simp [*] <;> rfl), kR0 HB⟩
      · rw [if_neg c6] at H
        exact absurd H (by simp)
     · rw [if_neg c5] at H
       exact absurd H (by simp)
    · rw [if_neg c4] at H
      have c4b0 : decide (x5_1 < (l0.length : Int)) = false := zS c4; clear c4; obtain rfl := Option.some.inj H
      go_wp2
      go_ret
      exact ⟨by first | rfl | (simp <;> rfl) | (simp [*] <;> rfl), kR0 HB⟩
 ·
  rw [if_neg c3] at H
  have c3b0 : ((l0.length : Int) == (l1.length : Int)) = false := beq_eq_false_iff_ne.mpr c3
  have c3b1 : ((l0.length : Int) != (l1.length : Int)) = true := bne_iff_ne.mpr c3
  have c3b2 : (l0.length == l1.length) = false := by first | simpa using c3 | (simp at c3 ⊢; omega)
  obtain rfl := Option.some.inj H; go_enter Try.func130, Try.ntmps130
  go_wp2
  go_ret
  exact ⟨by first | rfl | (simp <;> rfl) | (simp [*] <;> rfl), kR0 HB⟩
end Go.Proofs.Ytdiaebjbiddefaa.PFnSlabAlgebra
