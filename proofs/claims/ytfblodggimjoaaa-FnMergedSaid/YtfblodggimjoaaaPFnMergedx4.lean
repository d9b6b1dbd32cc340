/- Each Go function here comes to what the plain function of its name says, where that says something. Made by a program of this session, over the print. -/
import Derived.Test.YtfblodggimjoaaaPFnMergedx0
import Derived.Test.YtfblodggimjoaaaPFnMergedx3
namespace Go.Proofs.Ytfblodggimjoaaa.PFnMerged
open Go.RowKit Go.Proofs.YtfblodggimjoaaaW.PrintWords Go.Proofs.YtfblodggimjoaaaW.PrintLast Go.Proofs.YtfblodggimjoaaaW.PrintMore
attribute [local go_sem] max2_int min2_int max_two min_two max_three min_three max_four min_four   -- for this text's walks alone
set_option linter.unusedVariables false
set_option linter.unusedSimpArgs false

/-! ### spec_ValidPages: function 21 -/
def spec_ValidPages.f (k : Nat) (l0 : List (S79)) : Option (Bool) := (spec_l11Pages.f k l0).bind fun t222 => (some t222)
theorem spec_ValidPages.mono : ∀ a0 k, LeO (spec_ValidPages.f k a0) (spec_ValidPages.f (k + 1) a0) := by
 intro a0 k
 unfold spec_ValidPages.f
 repeat' (with_reducible first | exact spec_l11Pages.mono _ _ | exact LeO.refl _ | exact LeO.none _ | refine LeO.ite ?_ ?_ | refine LeO.bind ?_ (fun _ => ?_))
set_option maxHeartbeats 8000000 in
set_option maxRecDepth 100000 in
theorem spec_ValidPages.calls (k : Nat) (A0 : Option Addr) (c0 : Nat) (l0 : List (S79)) (r : Bool) (w : World) (hr0 : Kd.C k79 w A0 l0.length l0) (hc0 : l0.length ≤ c0) (h : spec_ValidPages.f k l0 = some r) :
 Calls Try.prog 21 #[.slice A0 l0.length c0] w fun e w' => e = .returned (.bool r) ∧ Below w.heap.size w w' := by
 have HR0 := yD hr0
 have HC0 := yD hc0
 clear hr0 hc0
 have HB := yD (Below.refl w.heap.size w)
 have H : ((spec_l11Pages.f k l0).bind fun t222 => (some t222)) = some r := h
 clear h
 obtain ⟨t222, A20, H⟩ := zW_ H
 replace H : (some t222) = some r := H
 have A2 := yD A20
 clear A20; obtain rfl := Option.some.inj H; go_enter Try.func21, Try.ntmps21
 go_wp2_with (first | ((with_reducible refine gate_callee (f := 49) rfl ?_); refine gL 4 Try.func49 #[.slice A0 l0.length c0] ?_; (with_reducible refine (spec_l11Pages.calls k _ _ l0 t222 _ ?side1 ?side2 A2.out).mono ?_); (case side1 => repeat (first | exact HR0.out | (with_reducible first | refine yV ?_ _ | refine yW ?_ _ | refine yX ?_))); (case side2 => exact HC0.out); rintro e w3 ⟨rfl, hb⟩; refine ⟨_, rfl, ?_⟩; replace HB := yD (zC (kB HB) hb); clear hb))
 go_ret
 exact ⟨by first | rfl | (simp <;> rfl) | (simp [*] <;> rfl), kR0 HB⟩

/-! ### impl_within: function 66 -/
def impl_within.f (a0 : Int) (a1 : Int) (a2 : Int) : Option (Bool) := if a0 ≥ a1 then (some (decide (a0 ≤ a2))) else (some false)
set_option maxHeartbeats 8000000 in
set_option maxRecDepth 100000 in
theorem impl_within.calls (a0 : Int) (a1 : Int) (a2 : Int) (r : Bool) (w : World) (h : impl_within.f a0 a1 a2 = some r) :
 Calls Try.prog 66 #[.int .i64 a0, .int .i64 a1, .int .i64 a2] w fun e w' => e = .returned (.bool r) ∧ Drawn0 w w' := by
 have H : (if a0 ≥ a1 then (some (decide (a0 ≤ a2))) else (some false)) = some r := h
 clear h
 by_cases c4 : a0 ≥ a1
 · rw [if_pos c4] at H
   have c4b0 : decide (a1 ≤ a0) = true := zR c4; clear c4; obtain rfl := Option.some.inj H; go_enter Try.func66, Try.ntmps66
   go_wp2
   go_ret
   exact ⟨by first | rfl | (simp; done) | (simp [*]; done), by repeat (first | exact Drawn0.refl _ | apply Drawn0.step)⟩
 ·
  rw [if_neg c4] at H
  have c4b0 : decide (a1 ≤ a0) = false := zS c4; clear c4; obtain rfl := Option.some.inj H; go_enter Try.func66, Try.ntmps66
  go_wp2
  go_ret
  exact ⟨by first | rfl | (simp; done) | (simp [*]; done), by repeat (first | exact Drawn0.refl _ | apply Drawn0.step)⟩

/-! ### impl_isBlock: function 67 -/
def impl_isBlock.f (a0 : ByteArray) : Option (Bool) := some ((a0.size : Int) == 64)
set_option maxHeartbeats 8000000 in
set_option maxRecDepth 100000 in
theorem impl_isBlock.calls (a0 : ByteArray) (r : Bool) (w : World) (h : impl_isBlock.f a0 = some r) :
 Calls Try.prog 67 #[.string a0] w fun e w' => e = .returned (.bool r) ∧ Drawn0 w w' := by
 have H : (some ((a0.size : Int) == 64)) = some r := h
 clear h; obtain rfl := Option.some.inj H; go_enter Try.func67, Try.ntmps67
 go_wp2
 go_ret
 exact ⟨by first | rfl | (simp; done) | (simp [*]; done), by repeat (first | exact Drawn0.refl _ | apply Drawn0.step)⟩

/-! ### impl_ValidPages: function 52 -/
def impl_ValidPages.l0 : Nat → List (S79) → List (S79) → Int → Int → Option (Bool)
 | 0, _, _, _, _ => none
 | k + 1, x0, x5, x6, x7 => if x7 < x6 then (if 0 ≤ x7 then (if x7 < (x5.length : Int) then ((impl_within.f ((rd_T79 x5 x7).f0) 0 255).bind fun t225 => (if t225 = true then (if x7 > 0 then (if 0 ≤ (wrap64 (x7 - 1)) then (if (wrap64 (x7 - 1)) < (x0.length : Int) then (if ((rd_T79 x5 x7).f0) ≤ ((rd_T79 x0 (wrap64 (x7 - 1))).f0) then (some false) else ((impl_isBlock.f ((rd_T79 x5 x7).f1)).bind fun t227 => (if t227 = true then (impl_ValidPages.l0 k x0 x5 x6 (wrap64 (x7 + 1))) else (some false)))) else (none)) else (none)) else ((impl_isBlock.f ((rd_T79 x5 x7).f1)).bind fun t228 => (if t228 = true then (impl_ValidPages.l0 k x0 x5 x6 (wrap64 (x7 + 1))) else (some false)))) else (some false))) else (none)) else (none)) else (some (decide ((x0.length : Int) ≤ 256)))
def impl_ValidPages.f (k : Nat) (l0 : List (S79)) : Option (Bool) := impl_ValidPages.l0 k l0 l0 (l0.length : Int) 0
theorem impl_ValidPages.mono_l : ∀ k, (∀ y0 y1 y2 y3, LeO (impl_ValidPages.l0 k y0 y1 y2 y3) (impl_ValidPages.l0 (k + 1) y0 y1 y2 y3))
 | 0 => fun _ _ _ _ r h => by simp [impl_ValidPages.l0] at h
 | k + 1 => by
  have ih0 := impl_ValidPages.mono_l k
  · intro y0 y1 y2 y3
    unfold impl_ValidPages.l0
    repeat' (with_reducible first | exact ih0 _ _ _ _ | exact LeO.refl _ | exact LeO.none _ | refine LeO.ite ?_ ?_ | refine LeO.bind ?_ (fun _ => ?_))
theorem impl_ValidPages.mono : ∀ a0 k, LeO (impl_ValidPages.f k a0) (impl_ValidPages.f (k + 1) a0) := by
 intro a0 k
 have ih0 := impl_ValidPages.mono_l k
 unfold impl_ValidPages.f
 repeat' (with_reducible first | exact ih0 _ _ _ _ | exact LeO.refl _ | exact LeO.none _ | refine LeO.ite ?_ ?_ | refine LeO.bind ?_ (fun _ => ?_))
set_option maxHeartbeats 8000000 in
set_option maxRecDepth 100000 in
theorem impl_ValidPages.calls (k : Nat) (A0 : Option Addr) (c0 : Nat) (l0 : List (S79)) (r : Bool) (w : World) (hr0 : Kd.C k79 w A0 l0.length l0) (hc0 : l0.length ≤ c0) (h : impl_ValidPages.f k l0 = some r) :
 Calls Try.prog 52 #[.slice A0 l0.length c0] w fun e w' => e = .returned (.bool r) ∧ Below w.heap.size w w' := by
 have hu79 := Try.underlying79
 have HR0 := yD hr0
 have HC0 := yD hc0
 clear hr0 hc0
 have HB := yD (Below.refl w.heap.size w)
 have H : (impl_ValidPages.l0 k l0 l0 (l0.length : Int) 0) = some r := h
 clear h
 have H' := yD H
 clear H; go_enter Try.func52, Try.ntmps52
 go_wp2
 repeat (go_quiet (fail); try go_wp2)
 go_loopg [7] k (fun kq v7 w' => ∃ (x7_1 : Int), v7 = .int .i64 x7_1 ∧ Aside0 (impl_ValidPages.l0 kq l0 l0 (l0.length : Int) x7_1 = some r) ∧ Aside0 (kq ≤ k) ∧ Aside0 (Below w.heap.size w w'))
 case atStart => exact ⟨(0), (by first | rfl | (simp; done) | (simp [*]; done)), H', ⟨Nat.le_refl _⟩, ⟨kR0 HB⟩⟩
 case round =>
  clear H'
  obtain ⟨x7_1, rfl, HA, HK1, HB⟩ := hrel
  cases gk with
  | zero => exact absurd HA.out (by simp [impl_ValidPages.l0])
  | succ k1 =>
   have H := HA.out; clear HA
   simp only [impl_ValidPages.l0] at H
   by_cases c2 : x7_1 < (l0.length : Int)
   ·
    rw [if_pos c2] at H
    have c2b0 : decide (x7_1 < (l0.length : Int)) = true := zR c2; clear c2
    by_cases c3 : 0 ≤ x7_1
    ·
     rw [if_pos c3] at H
     have c3b0 : decide (0 ≤ x7_1) = true := zR c3; clear c3
     by_cases c4 : x7_1 < (l0.length : Int)
     ·
      rw [if_pos c4] at H
      have c4b0 : decide (x7_1 < (l0.length : Int)) = true := zR c4; clear c4
      obtain ⟨t225, A50, H⟩ := zW_ H
      replace H : (if t225 = true then (if x7_1 > 0 then (if 0 ≤ (wrap64 (x7_1 - 1)) then (if (wrap64 (x7_1 - 1)) < (l0.length : Int) then (if ((rd_T79 l0 x7_1).f0) ≤ ((rd_T79 l0 (wrap64 (x7_1 - 1))).f0) then (some false) else ((impl_isBlock.f ((rd_T79 l0 x7_1).f1)).bind fun t227 => (if t227 = true then (impl_ValidPages.l0 k1 l0 l0 (l0.length : Int) (wrap64 (x7_1 + 1))) else (some false)))) else (none)) else (none)) else ((impl_isBlock.f ((rd_T79 l0 x7_1).f1)).bind fun t228 => (if t228 = true then (impl_ValidPages.l0 k1 l0 l0 (l0.length : Int) (wrap64 (x7_1 + 1))) else (some false)))) else (some false)) = some r := H
      have A5 := yD A50
      clear A50
      by_cases c6 : t225 = true
      ·
       subst c6
       replace H : (if x7_1 > 0 then (if 0 ≤ (wrap64 (x7_1 - 1)) then (if (wrap64 (x7_1 - 1)) < (l0.length : Int) then (if ((rd_T79 l0 x7_1).f0) ≤ ((rd_T79 l0 (wrap64 (x7_1 - 1))).f0) then (some false) else ((impl_isBlock.f ((rd_T79 l0 x7_1).f1)).bind fun t227 => (if t227 = true then (impl_ValidPages.l0 k1 l0 l0 (l0.length : Int) (wrap64 (x7_1 + 1))) else (some false)))) else (none)) else (none)) else ((impl_isBlock.f ((rd_T79 l0 x7_1).f1)).bind fun t228 => (if t228 = true then (impl_ValidPages.l0 k1 l0 l0 (l0.length : Int) (wrap64 (x7_1 + 1))) else (some false)))) = some r := (by rw [if_pos rfl] at H; exact H)
       by_cases c7 : x7_1 > 0
       ·
        rw [if_pos c7] at H
        have c7b0 : decide (0 < x7_1) = true := zR c7; clear c7
        obtain ⟨ji8, hji8⟩ : ∃ j_ : Int, (wrap64 (x7_1 - 1)) = j_ := ⟨_, rfl⟩
        replace H : (if 0 ≤ (ji8) then (if (ji8) < (l0.length : Int) then (if ((rd_T79 l0 x7_1).f0) ≤ ((rd_T79 l0 (ji8)).f0) then (some false) else ((impl_isBlock.f ((rd_T79 l0 x7_1).f1)).bind fun t227 => (if t227 = true then (impl_ValidPages.l0 k1 l0 l0 (l0.length : Int) (wrap64 (x7_1 + 1))) else (some false)))) else (none)) else (none)) = some r := by first | (rw [hji8] at H; exact H) | (simp only [hji8] at H ⊢; exact H)
        (try rw [hji8] at A5)
        have hji8w : (IntKind.i64.wrap (x7_1 - 1)) = ji8 := (i64_w _).trans hji8
        by_cases c9 : 0 ≤ (ji8)
        ·
         rw [if_pos c9] at H
         have c9b0 : decide (0 ≤ (ji8)) = true := zR c9; clear c9
         by_cases c10 : (ji8) < (l0.length : Int)
         ·
          rw [if_pos c10] at H
          have c10b0 : decide ((ji8) < (l0.length : Int)) = true := zR c10; clear c10
          by_cases c11 : ((rd_T79 l0 x7_1).f0) ≤ ((rd_T79 l0 (ji8)).f0)
          · rw [if_pos c11] at H
            have c11b0 : decide (((rd_T79 l0 x7_1).f0) ≤ ((rd_T79 l0 (ji8)).f0)) = true := zR c11; clear c11; obtain rfl := Option.some.inj H
            have p223 : 0 ≤ (x7_1 : Int) := zP (by assumption)
            have q223 : x7_1 < (l0.length : Int) := zP (by assumption)
            obtain ⟨ad223, e223, hx223_0, hx223_1⟩ := at_T79 HR0.out x7_1 p223 q223
            cases e223
            replace hx223_0 := (HB.out.cell (zQ w _ hx223_0)).trans hx223_0
            replace hx223_1 := (HB.out.cell (zQ w _ hx223_1)).trans hx223_1
            replace p223 := eq_true p223; replace q223 := eq_true q223
            go_wp2_with (first | ((with_reducible refine gate_dst (N := 4) rfl ?_); refine box_event ?hg (N := 4) ?hd (cs := #[.int .i64 0, .string (⟨#[]⟩ : ByteArray)]) (t := 79) ?hr ?_; (case hd => rfl); (case hg => rfl); (case hr => first | (go_simp; done) | (go_simp; rfl)); intro gb224 hg w12 hbox hb; have BK224 := yD (hbox); have GW224 := yD ((by rw [hg]; exact (below_size (kB HB)) : w.heap.size ≤ gb224)); have GE224 := yD ((by rw [hg]; exact (below_size (kB HB)) : w.heap.size ≤ gb224)); replace HB := yD (zC (kB HB) hb); clear hb hbox hg; obtain ⟨hcz13_0, hcz13_1⟩ := cz2 BK224.out; obtain ⟨hfz13_0, hfz13_1⟩ := fz2 BK224.out) | (go_at_call 66; (with_reducible refine (impl_within.calls ((rd_T79 l0 x7_1).f0) 0 255 true _ A5.out).mono ?_); rintro e w' ⟨rfl, ⟨nd, rfl⟩⟩; (try first | exact ⟨rfl, _, World.drewN_drewN _ _ _⟩ | exact ⟨rfl, _, Eq.trans (World.drewN_drewN _ _ _) (congrArg (World.drewN _) (Nat.add_assoc _ _ _))⟩); have p226 : 0 ≤ ((ji8) : Int) := zP (by assumption); have q226 : (ji8) < (l0.length : Int) := zP (by assumption); obtain ⟨ad226, e226, hx226_0, hx226_1⟩ := at_T79 HR0.out (ji8) p226 q226; obtain rfl : ad223 = ad226 := (by injection e226); have hn226_0 : ad223.block ≠ gb224 := Nat.ne_of_lt (Nat.lt_of_lt_of_le (by have := zQ _ _ hx226_0; first | rwa [add_block] at this | exact this) GW224.out); have hn226_1 : ad223.block ≠ gb224 := Nat.ne_of_lt (Nat.lt_of_lt_of_le (by have := zQ _ _ hx226_0; first | rwa [add_block] at this | exact this) GW224.out); replace hx226_0 := (HB.out.cell (zQ w _ hx226_0)).trans hx226_0; replace hx226_1 := (HB.out.cell (zQ w _ hx226_1)).trans hx226_1; replace hx226_0 := (cell_far (p := ⟨gb224, 0, none⟩) (by first | (rw [add_block]; exact hn226_0) | (show (Addr.add _ _).block ≠ _; rw [add_block]; exact hn226_0) | exact hn226_0) (.int .i64 ((rd_T79 l0 x7_1).f0))).trans hx226_0; replace hx226_1 := (cell_far (p := ⟨gb224, 0, none⟩) (by first | (rw [add_block]; exact hn226_0) | (show (Addr.add _ _).block ≠ _; rw [add_block]; exact hn226_0) | exact hn226_0) (.int .i64 ((rd_T79 l0 x7_1).f0))).trans hx226_1; replace hx226_0 := (cell_far (p := ⟨gb224, 1, none⟩) (by first | (rw [add_block]; exact hn226_1) | (show (Addr.add _ _).block ≠ _; rw [add_block]; exact hn226_1) | exact hn226_1) (.string ((rd_T79 l0 x7_1).f1))).trans hx226_0; replace hx226_1 := (cell_far (p := ⟨gb224, 1, none⟩) (by first | (rw [add_block]; exact hn226_1) | (show (Addr.add _ _).block ≠ _; rw [add_block]; exact hn226_1) | exact hn226_1) (.string ((rd_T79 l0 x7_1).f1))).trans hx226_1; (try have hy226_0 := fun (n_ : Nat) => (show ((((w12.drewN n_).setCell ⟨gb224, 0, none⟩ (.int .i64 ((rd_T79 l0 x7_1).f0))).setCell ⟨gb224, 1, none⟩ (.string ((rd_T79 l0 x7_1).f1)))).cell? _ = some _ from hx226_0)); (try have hy226_1 := fun (n_ : Nat) => (show ((((w12.drewN n_).setCell ⟨gb224, 0, none⟩ (.int .i64 ((rd_T79 l0 x7_1).f0))).setCell ⟨gb224, 1, none⟩ (.string ((rd_T79 l0 x7_1).f1)))).cell? _ = some _ from hx226_1)); clear hn226_0; clear hn226_1; replace p226 := eq_true p226; replace q226 := eq_true q226))
            repeat (go_quiet (first | ((with_reducible refine gate_dst (N := 4) rfl ?_); refine box_event ?hg (N := 4) ?hd (cs := #[.int .i64 0, .string (⟨#[]⟩ : ByteArray)]) (t := 79) ?hr ?_; (case hd => rfl); (case hg => rfl); (case hr => first | (go_simp; done) | (go_simp; rfl)); intro gb224 hg w12 hbox hb; have BK224 := yD (hbox); have GW224 := yD ((by rw [hg]; exact (below_size (kB HB)) : w.heap.size ≤ gb224)); have GE224 := yD ((by rw [hg]; exact (below_size (kB HB)) : w.heap.size ≤ gb224)); replace HB := yD (zC (kB HB) hb); clear hb hbox hg; obtain ⟨hcz13_0, hcz13_1⟩ := cz2 BK224.out; obtain ⟨hfz13_0, hfz13_1⟩ := fz2 BK224.out) | (go_at_call 66; (with_reducible refine (impl_within.calls ((rd_T79 l0 x7_1).f0) 0 255 true _ A5.out).mono ?_); rintro e w' ⟨rfl, ⟨nd, rfl⟩⟩; (try first | exact ⟨rfl, _, World.drewN_drewN _ _ _⟩ | exact ⟨rfl, _, Eq.trans (World.drewN_drewN _ _ _) (congrArg (World.drewN _) (Nat.add_assoc _ _ _))⟩); have p226 : 0 ≤ ((ji8) : Int) := zP (by assumption); have q226 : (ji8) < (l0.length : Int) := zP (by assumption); obtain ⟨ad226, e226, hx226_0, hx226_1⟩ := at_T79 HR0.out (ji8) p226 q226; obtain rfl : ad223 = ad226 := (by injection e226); have hn226_0 : ad223.block ≠ gb224 := Nat.ne_of_lt (Nat.lt_of_lt_of_le (by have := zQ _ _ hx226_0; first | rwa [add_block] at this | exact this) GW224.out); have hn226_1 : ad223.block ≠ gb224 := Nat.ne_of_lt (Nat.lt_of_lt_of_le (by have := zQ _ _ hx226_0; first | rwa [add_block] at this | exact this) GW224.out); replace hx226_0 := (HB.out.cell (zQ w _ hx226_0)).trans hx226_0; replace hx226_1 := (HB.out.cell (zQ w _ hx226_1)).trans hx226_1; replace hx226_0 := (cell_far (p := ⟨gb224, 0, none⟩) (by first | (rw [add_block]; exact hn226_0) | (show (Addr.add _ _).block ≠ _; rw [add_block]; exact hn226_0) | exact hn226_0) (.int .i64 ((rd_T79 l0 x7_1).f0))).trans hx226_0; replace hx226_1 := (cell_far (p := ⟨gb224, 0, none⟩) (by first | (rw [add_block]; exact hn226_0) | (show (Addr.add _ _).block ≠ _; rw [add_block]; exact hn226_0) | exact hn226_0) (.int .i64 ((rd_T79 l0 x7_1).f0))).trans hx226_1; replace hx226_0 := (cell_far (p := ⟨gb224, 1, none⟩) (by first | (rw [add_block]; exact hn226_1) | (show (Addr.add _ _).block ≠ _; rw [add_block]; exact hn226_1) | exact hn226_1) (.string ((rd_T79 l0 x7_1).f1))).trans hx226_0; replace hx226_1 := (cell_far (p := ⟨gb224, 1, none⟩) (by first | (rw [add_block]; exact hn226_1) | (show (Addr.add _ _).block ≠ _; rw [add_block]; exact hn226_1) | exact hn226_1) (.string ((rd_T79 l0 x7_1).f1))).trans hx226_1; (try have hy226_0 := fun (n_ : Nat) => (show ((((w12.drewN n_).setCell ⟨gb224, 0, none⟩ (.int .i64 ((rd_T79 l0 x7_1).f0))).setCell ⟨gb224, 1, none⟩ (.string ((rd_T79 l0 x7_1).f1)))).cell? _ = some _ from hx226_0)); (try have hy226_1 := fun (n_ : Nat) => (show ((((w12.drewN n_).setCell ⟨gb224, 0, none⟩ (.int .i64 ((rd_T79 l0 x7_1).f0))).setCell ⟨gb224, 1, none⟩ (.string ((rd_T79 l0 x7_1).f1)))).cell? _ = some _ from hx226_1)); clear hn226_0; clear hn226_1; replace p226 := eq_true p226; replace q226 := eq_true q226)); try go_wp2_with (first | ((with_reducible refine gate_dst (N := 4) rfl ?_); refine box_event ?hg (N := 4) ?hd (cs := #[.int .i64 0, .string (⟨#[]⟩ : ByteArray)]) (t := 79) ?hr ?_; (case hd => rfl); (case hg => rfl); (case hr => first | (go_simp; done) | (go_simp; rfl)); intro gb224 hg w12 hbox hb; have BK224 := yD (hbox); have GW224 := yD ((by rw [hg]; exact (below_size (kB HB)) : w.heap.size ≤ gb224)); have GE224 := yD ((by rw [hg]; exact (below_size (kB HB)) : w.heap.size ≤ gb224)); replace HB := yD (zC (kB HB) hb); clear hb hbox hg; obtain ⟨hcz13_0, hcz13_1⟩ := cz2 BK224.out; obtain ⟨hfz13_0, hfz13_1⟩ := fz2 BK224.out) | (go_at_call 66; (with_reducible refine (impl_within.calls ((rd_T79 l0 x7_1).f0) 0 255 true _ A5.out).mono ?_); rintro e w' ⟨rfl, ⟨nd, rfl⟩⟩; (try first | exact ⟨rfl, _, World.drewN_drewN _ _ _⟩ | exact ⟨rfl, _, Eq.trans (World.drewN_drewN _ _ _) (congrArg (World.drewN _) (Nat.add_assoc _ _ _))⟩); have p226 : 0 ≤ ((ji8) : Int) := zP (by assumption); have q226 : (ji8) < (l0.length : Int) := zP (by assumption); obtain ⟨ad226, e226, hx226_0, hx226_1⟩ := at_T79 HR0.out (ji8) p226 q226; obtain rfl : ad223 = ad226 := (by injection e226); have hn226_0 : ad223.block ≠ gb224 := Nat.ne_of_lt (Nat.lt_of_lt_of_le (by have := zQ _ _ hx226_0; first | rwa [add_block] at this | exact this) GW224.out); have hn226_1 : ad223.block ≠ gb224 := Nat.ne_of_lt (Nat.lt_of_lt_of_le (by have := zQ _ _ hx226_0; first | rwa [add_block] at this | exact this) GW224.out); replace hx226_0 := (HB.out.cell (zQ w _ hx226_0)).trans hx226_0; replace hx226_1 := (HB.out.cell (zQ w _ hx226_1)).trans hx226_1; replace hx226_0 := (cell_far (p := ⟨gb224, 0, none⟩) (by first | (rw [add_block]; exact hn226_0) | (show (Addr.add _ _).block ≠ _; rw [add_block]; exact hn226_0) | exact hn226_0) (.int .i64 ((rd_T79 l0 x7_1).f0))).trans hx226_0; replace hx226_1 := (cell_far (p := ⟨gb224, 0, none⟩) (by first | (rw [add_block]; exact hn226_0) | (show (Addr.add _ _).block ≠ _; rw [add_block]; exact hn226_0) | exact hn226_0) (.int .i64 ((rd_T79 l0 x7_1).f0))).trans hx226_1; replace hx226_0 := (cell_far (p := ⟨gb224, 1, none⟩) (by first | (rw [add_block]; exact hn226_1) | (show (Addr.add _ _).block ≠ _; rw [add_block]; exact hn226_1) | exact hn226_1) (.string ((rd_T79 l0 x7_1).f1))).trans hx226_0; replace hx226_1 := (cell_far (p := ⟨gb224, 1, none⟩) (by first | (rw [add_block]; exact hn226_1) | (show (Addr.add _ _).block ≠ _; rw [add_block]; exact hn226_1) | exact hn226_1) (.string ((rd_T79 l0 x7_1).f1))).trans hx226_1; (try have hy226_0 := fun (n_ : Nat) => (show ((((w12.drewN n_).setCell ⟨gb224, 0, none⟩ (.int .i64 ((rd_T79 l0 x7_1).f0))).setCell ⟨gb224, 1, none⟩ (.string ((rd_T79 l0 x7_1).f1)))).cell? _ = some _ from hx226_0)); (try have hy226_1 := fun (n_ : Nat) => (show ((((w12.drewN n_).setCell ⟨gb224, 0, none⟩ (.int .i64 ((rd_T79 l0 x7_1).f0))).setCell ⟨gb224, 1, none⟩ (.string ((rd_T79 l0 x7_1).f1)))).cell? _ = some _ from hx226_1)); clear hn226_0; clear hn226_1; replace p226 := eq_true p226; replace q226 := eq_true q226)))
            go_ret
            exact ⟨by first | rfl | (simp [errW_none, errW_some] <;> rfl) | (simp only [← hji8]; first | rfl | (simp [errW_none, errW_some] <;> rfl)) | (simp [*, errW_none, errW_some] <;> rfl), kR1 HB⟩
          ·
           rw [if_neg c11] at H
           have c11b0 : decide (((rd_T79 l0 x7_1).f0) ≤ ((rd_T79 l0 (ji8)).f0)) = false := zS c11; clear c11
           obtain ⟨t227, A140, H⟩ := zW_ H
           replace H : (if t227 = true then (impl_ValidPages.l0 k1 l0 l0 (l0.length : Int) (wrap64 (x7_1 + 1))) else (some false)) = some r := H
           have A14 := yD A140
           clear A140
           by_cases c15 : t227 = true
           ·
            subst c15
            replace H : (impl_ValidPages.l0 k1 l0 l0 (l0.length : Int) (wrap64 (x7_1 + 1))) = some r := (by rw [if_pos rfl] at H; exact H)
            have H' := yD H
            clear H
            have p223 : 0 ≤ (x7_1 : Int) := zP (by assumption)
            have q223 : x7_1 < (l0.length : Int) := zP (by assumption)
            obtain ⟨ad223, e223, hx223_0, hx223_1⟩ := at_T79 HR0.out x7_1 p223 q223
            cases e223
            replace hx223_0 := (HB.out.cell (zQ w _ hx223_0)).trans hx223_0
            replace hx223_1 := (HB.out.cell (zQ w _ hx223_1)).trans hx223_1
            replace p223 := eq_true p223; replace q223 := eq_true q223
            go_wp2_with (first | ((with_reducible refine gate_dst (N := 4) rfl ?_); refine box_event ?hg (N := 4) ?hd (cs := #[.int .i64 0, .string (⟨#[]⟩ : ByteArray)]) (t := 79) ?hr ?_; (case hd => rfl); (case hg => rfl); (case hr => first | (go_simp; done) | (go_simp; rfl)); intro gb224 hg w16 hbox hb; have BK224 := yD (hbox); have GW224 := yD ((by rw [hg]; exact (below_size (kB HB)) : w.heap.size ≤ gb224)); have GE224 := yD ((by rw [hg]; exact (below_size (kB HB)) : w.heap.size ≤ gb224)); replace HB := yD (zC (kB HB) hb); clear hb hbox hg; obtain ⟨hcz17_0, hcz17_1⟩ := cz2 BK224.out; obtain ⟨hfz17_0, hfz17_1⟩ := fz2 BK224.out) | (go_at_call 66; (with_reducible refine (impl_within.calls ((rd_T79 l0 x7_1).f0) 0 255 true _ A5.out).mono ?_); rintro e w' ⟨rfl, ⟨nd, rfl⟩⟩; (try first | exact ⟨rfl, _, World.drewN_drewN _ _ _⟩ | exact ⟨rfl, _, Eq.trans (World.drewN_drewN _ _ _) (congrArg (World.drewN _) (Nat.add_assoc _ _ _))⟩); have p226 : 0 ≤ ((ji8) : Int) := zP (by assumption); have q226 : (ji8) < (l0.length : Int) := zP (by assumption); obtain ⟨ad226, e226, hx226_0, hx226_1⟩ := at_T79 HR0.out (ji8) p226 q226; obtain rfl : ad223 = ad226 := (by injection e226); have hn226_0 : ad223.block ≠ gb224 := Nat.ne_of_lt (Nat.lt_of_lt_of_le (by have := zQ _ _ hx226_0; first | rwa [add_block] at this | exact this) GW224.out); have hn226_1 : ad223.block ≠ gb224 := Nat.ne_of_lt (Nat.lt_of_lt_of_le (by have := zQ _ _ hx226_0; first | rwa [add_block] at this | exact this) GW224.out); replace hx226_0 := (HB.out.cell (zQ w _ hx226_0)).trans hx226_0; replace hx226_1 := (HB.out.cell (zQ w _ hx226_1)).trans hx226_1; replace hx226_0 := (cell_far (p := ⟨gb224, 0, none⟩) (by first | (rw [add_block]; exact hn226_0) | (show (Addr.add _ _).block ≠ _; rw [add_block]; exact hn226_0) | exact hn226_0) (.int .i64 ((rd_T79 l0 x7_1).f0))).trans hx226_0; replace hx226_1 := (cell_far (p := ⟨gb224, 0, none⟩) (by first | (rw [add_block]; exact hn226_0) | (show (Addr.add _ _).block ≠ _; rw [add_block]; exact hn226_0) | exact hn226_0) (.int .i64 ((rd_T79 l0 x7_1).f0))).trans hx226_1; replace hx226_0 := (cell_far (p := ⟨gb224, 1, none⟩) (by first | (rw [add_block]; exact hn226_1) | (show (Addr.add _ _).block ≠ _; rw [add_block]; exact hn226_1) | exact hn226_1) (.string ((rd_T79 l0 x7_1).f1))).trans hx226_0; replace hx226_1 := (cell_far (p := ⟨gb224, 1, none⟩) (by first | (rw [add_block]; exact hn226_1) | (show (Addr.add _ _).block ≠ _; rw [add_block]; exact hn226_1) | exact hn226_1) (.string ((rd_T79 l0 x7_1).f1))).trans hx226_1; (try have hy226_0 := fun (n_ : Nat) => (show ((((w16.drewN n_).setCell ⟨gb224, 0, none⟩ (.int .i64 ((rd_T79 l0 x7_1).f0))).setCell ⟨gb224, 1, none⟩ (.string ((rd_T79 l0 x7_1).f1)))).cell? _ = some _ from hx226_0)); (try have hy226_1 := fun (n_ : Nat) => (show ((((w16.drewN n_).setCell ⟨gb224, 0, none⟩ (.int .i64 ((rd_T79 l0 x7_1).f0))).setCell ⟨gb224, 1, none⟩ (.string ((rd_T79 l0 x7_1).f1)))).cell? _ = some _ from hx226_1)); clear hn226_0; clear hn226_1; replace p226 := eq_true p226; replace q226 := eq_true q226) | (go_at_call 67; (with_reducible refine (impl_isBlock.calls ((rd_T79 l0 x7_1).f1) true _ A14.out).mono ?_); rintro e w' ⟨rfl, ⟨nd, rfl⟩⟩; (try first | exact ⟨rfl, _, World.drewN_drewN _ _ _⟩ | exact ⟨rfl, _, Eq.trans (World.drewN_drewN _ _ _) (congrArg (World.drewN _) (Nat.add_assoc _ _ _))⟩)))
            repeat (go_quiet (first | ((with_reducible refine gate_dst (N := 4) rfl ?_); refine box_event ?hg (N := 4) ?hd (cs := #[.int .i64 0, .string (⟨#[]⟩ : ByteArray)]) (t := 79) ?hr ?_; (case hd => rfl); (case hg => rfl); (case hr => first | (go_simp; done) | (go_simp; rfl)); intro gb224 hg w16 hbox hb; have BK224 := yD (hbox); have GW224 := yD ((by rw [hg]; exact (below_size (kB HB)) : w.heap.size ≤ gb224)); have GE224 := yD ((by rw [hg]; exact (below_size (kB HB)) : w.heap.size ≤ gb224)); replace HB := yD (zC (kB HB) hb); clear hb hbox hg; obtain ⟨hcz17_0, hcz17_1⟩ := cz2 BK224.out; obtain ⟨hfz17_0, hfz17_1⟩ := fz2 BK224.out) | (go_at_call 66; (with_reducible refine (impl_within.calls ((rd_T79 l0 x7_1).f0) 0 255 true _ A5.out).mono ?_); rintro e w' ⟨rfl, ⟨nd, rfl⟩⟩; (try first | exact ⟨rfl, _, World.drewN_drewN _ _ _⟩ | exact ⟨rfl, _, Eq.trans (World.drewN_drewN _ _ _) (congrArg (World.drewN _) (Nat.add_assoc _ _ _))⟩); have p226 : 0 ≤ ((ji8) : Int) := zP (by assumption); have q226 : (ji8) < (l0.length : Int) := zP (by assumption); obtain ⟨ad226, e226, hx226_0, hx226_1⟩ := at_T79 HR0.out (ji8) p226 q226; obtain rfl : ad223 = ad226 := (by injection e226); have hn226_0 : ad223.block ≠ gb224 := Nat.ne_of_lt (Nat.lt_of_lt_of_le (by have := zQ _ _ hx226_0; first | rwa [add_block] at this | exact this) GW224.out); have hn226_1 : ad223.block ≠ gb224 := Nat.ne_of_lt (Nat.lt_of_lt_of_le (by have := zQ _ _ hx226_0; first | rwa [add_block] at this | exact this) GW224.out); replace hx226_0 := (HB.out.cell (zQ w _ hx226_0)).trans hx226_0; replace hx226_1 := (HB.out.cell (zQ w _ hx226_1)).trans hx226_1; replace hx226_0 := (cell_far (p := ⟨gb224, 0, none⟩) (by first | (rw [add_block]; exact hn226_0) | (show (Addr.add _ _).block ≠ _; rw [add_block]; exact hn226_0) | exact hn226_0) (.int .i64 ((rd_T79 l0 x7_1).f0))).trans hx226_0; replace hx226_1 := (cell_far (p := ⟨gb224, 0, none⟩) (by first | (rw [add_block]; exact hn226_0) | (show (Addr.add _ _).block ≠ _; rw [add_block]; exact hn226_0) | exact hn226_0) (.int .i64 ((rd_T79 l0 x7_1).f0))).trans hx226_1; replace hx226_0 := (cell_far (p := ⟨gb224, 1, none⟩) (by first | (rw [add_block]; exact hn226_1) | (show (Addr.add _ _).block ≠ _; rw [add_block]; exact hn226_1) | exact hn226_1) (.string ((rd_T79 l0 x7_1).f1))).trans hx226_0; replace hx226_1 := (cell_far (p := ⟨gb224, 1, none⟩) (by first | (rw [add_block]; exact hn226_1) | (show (Addr.add _ _).block ≠ _; rw [add_block]; exact hn226_1) | exact hn226_1) (.string ((rd_T79 l0 x7_1).f1))).trans hx226_1; (try have hy226_0 := fun (n_ : Nat) => (show ((((w16.drewN n_).setCell ⟨gb224, 0, none⟩ (.int .i64 ((rd_T79 l0 x7_1).f0))).setCell ⟨gb224, 1, none⟩ (.string ((rd_T79 l0 x7_1).f1)))).cell? _ = some _ from hx226_0)); (try have hy226_1 := fun (n_ : Nat) => (show ((((w16.drewN n_).setCell ⟨gb224, 0, none⟩ (.int .i64 ((rd_T79 l0 x7_1).f0))).setCell ⟨gb224, 1, none⟩ (.string ((rd_T79 l0 x7_1).f1)))).cell? _ = some _ from hx226_1)); clear hn226_0; clear hn226_1; replace p226 := eq_true p226; replace q226 := eq_true q226) | (go_at_call 67; (with_reducible refine (impl_isBlock.calls ((rd_T79 l0 x7_1).f1) true _ A14.out).mono ?_); rintro e w' ⟨rfl, ⟨nd, rfl⟩⟩; (try first | exact ⟨rfl, _, World.drewN_drewN _ _ _⟩ | exact ⟨rfl, _, Eq.trans (World.drewN_drewN _ _ _) (congrArg (World.drewN _) (Nat.add_assoc _ _ _))⟩))); try go_wp2_with (first | ((with_reducible refine gate_dst (N := 4) rfl ?_); refine box_event ?hg (N := 4) ?hd (cs := #[.int .i64 0, .string (⟨#[]⟩ : ByteArray)]) (t := 79) ?hr ?_; (case hd => rfl); (case hg => rfl); (case hr => first | (go_simp; done) | (go_simp; rfl)); intro gb224 hg w16 hbox hb; have BK224 := yD (hbox); have GW224 := yD ((by rw [hg]; exact (below_size (kB HB)) : w.heap.size ≤ gb224)); have GE224 := yD ((by rw [hg]; exact (below_size (kB HB)) : w.heap.size ≤ gb224)); replace HB := yD (zC (kB HB) hb); clear hb hbox hg; obtain ⟨hcz17_0, hcz17_1⟩ := cz2 BK224.out; obtain ⟨hfz17_0, hfz17_1⟩ := fz2 BK224.out) | (go_at_call 66; (with_reducible refine (impl_within.calls ((rd_T79 l0 x7_1).f0) 0 255 true _ A5.out).mono ?_); rintro e w' ⟨rfl, ⟨nd, rfl⟩⟩; (try first | exact ⟨rfl, _, World.drewN_drewN _ _ _⟩ | exact ⟨rfl, _, Eq.trans (World.drewN_drewN _ _ _) (congrArg (World.drewN _) (Nat.add_assoc _ _ _))⟩); have p226 : 0 ≤ ((ji8) : Int) := zP (by assumption); have q226 : (ji8) < (l0.length : Int) := zP (by assumption); obtain ⟨ad226, e226, hx226_0, hx226_1⟩ := at_T79 HR0.out (ji8) p226 q226; obtain rfl : ad223 = ad226 := (by injection e226); have hn226_0 : ad223.block ≠ gb224 := Nat.ne_of_lt (Nat.lt_of_lt_of_le (by have := zQ _ _ hx226_0; first | rwa [add_block] at this | exact this) GW224.out); have hn226_1 : ad223.block ≠ gb224 := Nat.ne_of_lt (Nat.lt_of_lt_of_le (by have := zQ _ _ hx226_0; first | rwa [add_block] at this | exact this) GW224.out); replace hx226_0 := (HB.out.cell (zQ w _ hx226_0)).trans hx226_0; replace hx226_1 := (HB.out.cell (zQ w _ hx226_1)).trans hx226_1; replace hx226_0 := (cell_far (p := ⟨gb224, 0, none⟩) (by first | (rw [add_block]; exact hn226_0) | (show (Addr.add _ _).block ≠ _; rw [add_block]; exact hn226_0) | exact hn226_0) (.int .i64 ((rd_T79 l0 x7_1).f0))).trans hx226_0; replace hx226_1 := (cell_far (p := ⟨gb224, 0, none⟩) (by first | (rw [add_block]; exact hn226_0) | (show (Addr.add _ _).block ≠ _; rw [add_block]; exact hn226_0) | exact hn226_0) (.int .i64 ((rd_T79 l0 x7_1).f0))).trans hx226_1; replace hx226_0 := (cell_far (p := ⟨gb224, 1, none⟩) (by first | (rw [add_block]; exact hn226_1) | (show (Addr.add _ _).block ≠ _; rw [add_block]; exact hn226_1) | exact hn226_1) (.string ((rd_T79 l0 x7_1).f1))).trans hx226_0; replace hx226_1 := (cell_far (p := ⟨gb224, 1, none⟩) (by first | (rw [add_block]; exact hn226_1) | (show (Addr.add _ _).block ≠ _; rw [add_block]; exact hn226_1) | exact hn226_1) (.string ((rd_T79 l0 x7_1).f1))).trans hx226_1; (try have hy226_0 := fun (n_ : Nat) => (show ((((w16.drewN n_).setCell ⟨gb224, 0, none⟩ (.int .i64 ((rd_T79 l0 x7_1).f0))).setCell ⟨gb224, 1, none⟩ (.string ((rd_T79 l0 x7_1).f1)))).cell? _ = some _ from hx226_0)); (try have hy226_1 := fun (n_ : Nat) => (show ((((w16.drewN n_).setCell ⟨gb224, 0, none⟩ (.int .i64 ((rd_T79 l0 x7_1).f0))).setCell ⟨gb224, 1, none⟩ (.string ((rd_T79 l0 x7_1).f1)))).cell? _ = some _ from hx226_1)); clear hn226_0; clear hn226_1; replace p226 := eq_true p226; replace q226 := eq_true q226) | (go_at_call 67; (with_reducible refine (impl_isBlock.calls ((rd_T79 l0 x7_1).f1) true _ A14.out).mono ?_); rintro e w' ⟨rfl, ⟨nd, rfl⟩⟩; (try first | exact ⟨rfl, _, World.drewN_drewN _ _ _⟩ | exact ⟨rfl, _, Eq.trans (World.drewN_drewN _ _ _) (congrArg (World.drewN _) (Nat.add_assoc _ _ _))⟩))))
            go_roundg k1
            case measure => have := HK1.out; omega
            case rel => exact ⟨(wrap64 (x7_1 + 1)), (by first | rfl | (simp; done) | (simp [*]; done)), H', ⟨by have := HK1.out; omega⟩, ⟨kR1 HB⟩⟩
           · replace c15 := Bool.eq_false_iff.mpr c15
             subst c15
             replace H : (some false) = some r := (by rw [if_neg (show ¬ (false = true) by decide)] at H; exact H); obtain rfl := Option.some.inj H
             have p223 : 0 ≤ (x7_1 : Int) := zP (by assumption)
             have q223 : x7_1 < (l0.length : Int) := zP (by assumption)
             obtain ⟨ad223, e223, hx223_0, hx223_1⟩ := at_T79 HR0.out x7_1 p223 q223
             cases e223
             replace hx223_0 := (HB.out.cell (zQ w _ hx223_0)).trans hx223_0
             replace hx223_1 := (HB.out.cell (zQ w _ hx223_1)).trans hx223_1
             replace p223 := eq_true p223; replace q223 := eq_true q223
             go_wp2_with (first | ((with_reducible refine gate_dst (N := 4) rfl ?_); refine box_event ?hg (N := 4) ?hd (cs := #[.int .i64 0, .string (⟨#[]⟩ : ByteArray)]) (t := 79) ?hr ?_; (case hd => rfl); (case hg => rfl); (case hr => first | (go_simp; done) | (go_simp; rfl)); intro gb224 hg w18 hbox hb; have BK224 := yD (hbox); have GW224 := yD ((by rw [hg]; exact (below_size (kB HB)) : w.heap.size ≤ gb224)); have GE224 := yD ((by rw [hg]; exact (below_size (kB HB)) : w.heap.size ≤ gb224)); replace HB := yD (zC (kB HB) hb); clear hb hbox hg; obtain ⟨hcz19_0, hcz19_1⟩ := cz2 BK224.out; obtain ⟨hfz19_0, hfz19_1⟩ := fz2 BK224.out) | (go_at_call 66; (with_reducible refine (impl_within.calls ((rd_T79 l0 x7_1).f0) 0 255 true _ A5.out).mono ?_); rintro e w' ⟨rfl, ⟨nd, rfl⟩⟩; (try first | exact ⟨rfl, _, World.drewN_drewN _ _ _⟩ | exact ⟨rfl, _, Eq.trans (World.drewN_drewN _ _ _) (congrArg (World.drewN _) (Nat.add_assoc _ _ _))⟩); have p226 : 0 ≤ ((ji8) : Int) := zP (by assumption); have q226 : (ji8) < (l0.length : Int) := zP (by assumption); obtain ⟨ad226, e226, hx226_0, hx226_1⟩ := at_T79 HR0.out (ji8) p226 q226; obtain rfl : ad223 = ad226 := (by injection e226); have hn226_0 : ad223.block ≠ gb224 := Nat.ne_of_lt (Nat.lt_of_lt_of_le (by have := zQ _ _ hx226_0; first | rwa [add_block] at this | exact this) GW224.out); have hn226_1 : ad223.block ≠ gb224 := Nat.ne_of_lt (Nat.lt_of_lt_of_le (by have := zQ _ _ hx226_0; first | rwa [add_block] at this | exact this) GW224.out); replace hx226_0 := (HB.out.cell (zQ w _ hx226_0)).trans hx226_0; replace hx226_1 := (HB.out.cell (zQ w _ hx226_1)).trans hx226_1; replace hx226_0 := (cell_far (p := ⟨gb224, 0, none⟩) (by first | (rw [add_block]; exact hn226_0) | (show (Addr.add _ _).block ≠ _; rw [add_block]; exact hn226_0) | exact hn226_0) (.int .i64 ((rd_T79 l0 x7_1).f0))).trans hx226_0; replace hx226_1 := (cell_far (p := ⟨gb224, 0, none⟩) (by first | (rw [add_block]; exact hn226_0) | (show (Addr.add _ _).block ≠ _; rw [add_block]; exact hn226_0) | exact hn226_0) (.int .i64 ((rd_T79 l0 x7_1).f0))).trans hx226_1; replace hx226_0 := (cell_far (p := ⟨gb224, 1, none⟩) (by first | (rw [add_block]; exact hn226_1) | (show (Addr.add _ _).block ≠ _; rw [add_block]; exact hn226_1) | exact hn226_1) (.string ((rd_T79 l0 x7_1).f1))).trans hx226_0; replace hx226_1 := (cell_far (p := ⟨gb224, 1, none⟩) (by first | (rw [add_block]; exact hn226_1) | (show (Addr.add _ _).block ≠ _; rw [add_block]; exact hn226_1) | exact hn226_1) (.string ((rd_T79 l0 x7_1).f1))).trans hx226_1; (try have hy226_0 := fun (n_ : Nat) => (show ((((w18.drewN n_).setCell ⟨gb224, 0, none⟩ (.int .i64 ((rd_T79 l0 x7_1).f0))).setCell ⟨gb224, 1, none⟩ (.string ((rd_T79 l0 x7_1).f1)))).cell? _ = some _ from hx226_0)); (try have hy226_1 := fun (n_ : Nat) => (show ((((w18.drewN n_).setCell ⟨gb224, 0, none⟩ (.int .i64 ((rd_T79 l0 x7_1).f0))).setCell ⟨gb224, 1, none⟩ (.string ((rd_T79 l0 x7_1).f1)))).cell? _ = some _ from hx226_1)); clear hn226_0; clear hn226_1; replace p226 := eq_true p226; replace q226 := eq_true q226) | (go_at_call 67; (with_reducible refine (impl_isBlock.calls ((rd_T79 l0 x7_1).f1) false _ A14.out).mono ?_); rintro e w' ⟨rfl, ⟨nd, rfl⟩⟩; (try first | exact ⟨rfl, _, World.drewN_drewN _ _ _⟩ | exact ⟨rfl, _, Eq.trans (World.drewN_drewN _ _ _) (congrArg (World.drewN _) (Nat.add_assoc _ _ _))⟩)))
             repeat (go_quiet (first | ((with_reducible refine gate_dst (N := 4) rfl ?_); refine box_event ?hg (N := 4) ?hd (cs := #[.int .i64 0, .string (⟨#[]⟩ : ByteArray)]) (t := 79) ?hr ?_; (case hd => rfl); (case hg => rfl); (case hr => first | (go_simp; done) | (go_simp; rfl)); intro gb224 hg w18 hbox hb; have BK224 := yD (hbox); have GW224 := yD ((by rw [hg]; exact (below_size (kB HB)) : w.heap.size ≤ gb224)); have GE224 := yD ((by rw [hg]; exact (below_size (kB HB)) : w.heap.size ≤ gb224)); replace HB := yD (zC (kB HB) hb); clear hb hbox hg; obtain ⟨hcz19_0, hcz19_1⟩ := cz2 BK224.out; obtain ⟨hfz19_0, hfz19_1⟩ := fz2 BK224.out) | (go_at_call 66; (with_reducible refine (impl_within.calls ((rd_T79 l0 x7_1).f0) 0 255 true _ A5.out).mono ?_); rintro e w' ⟨rfl, ⟨nd, rfl⟩⟩; (try first | exact ⟨rfl, _, World.drewN_drewN _ _ _⟩ | exact ⟨rfl, _, Eq.trans (World.drewN_drewN _ _ _) (congrArg (World.drewN _) (Nat.add_assoc _ _ _))⟩); have p226 : 0 ≤ ((ji8) : Int) := zP (by assumption); have q226 : (ji8) < (l0.length : Int) := zP (by assumption); obtain ⟨ad226, e226, hx226_0, hx226_1⟩ := at_T79 HR0.out (ji8) p226 q226; obtain rfl : ad223 = ad226 := (by injection e226); have hn226_0 : ad223.block ≠ gb224 := Nat.ne_of_lt (Nat.lt_of_lt_of_le (by have := zQ _ _ hx226_0; first | rwa [add_block] at this | exact this) GW224.out); have hn226_1 : ad223.block ≠ gb224 := Nat.ne_of_lt (Nat.lt_of_lt_of_le (by have := zQ _ _ hx226_0; first | rwa [add_block] at this | exact this) GW224.out); replace hx226_0 := (HB.out.cell (zQ w _ hx226_0)).trans hx226_0; replace hx226_1 := (HB.out.cell (zQ w _ hx226_1)).trans hx226_1; replace hx226_0 := (cell_far (p := ⟨gb224, 0, none⟩) (by first | (rw [add_block]; exact hn226_0) | (show (Addr.add _ _).block ≠ _; rw [add_block]; exact hn226_0) | exact hn226_0) (.int .i64 ((rd_T79 l0 x7_1).f0))).trans hx226_0; replace hx226_1 := (cell_far (p := ⟨gb224, 0, none⟩) (by first | (rw [add_block]; exact hn226_0) | (show (Addr.add _ _).block ≠ _; rw [add_block]; exact hn226_0) | exact hn226_0) (.int .i64 ((rd_T79 l0 x7_1).f0))).trans hx226_1; replace hx226_0 := (cell_far (p := ⟨gb224, 1, none⟩) (by first | (rw [add_block]; exact hn226_1) | (show (Addr.add _ _).block ≠ _; rw [add_block]; exact hn226_1) | exact hn226_1) (.string ((rd_T79 l0 x7_1).f1))).trans hx226_0; replace hx226_1 := (cell_far (p := ⟨gb224, 1, none⟩) (by first | (rw [add_block]; exact hn226_1) | (show (Addr.add _ _).block ≠ _; rw [add_block]; exact hn226_1) | exact hn226_1) (.string ((rd_T79 l0 x7_1).f1))).trans hx226_1; (try have hy226_0 := fun (n_ : Nat) => (show ((((w18.drewN n_).setCell ⟨gb224, 0, none⟩ (.int .i64 ((rd_T79 l0 x7_1).f0))).setCell ⟨gb224, 1, none⟩ (.string ((rd_T79 l0 x7_1).f1)))).cell? _ = some _ from hx226_0)); (try have hy226_1 := fun (n_ : Nat) => (show ((((w18.drewN n_).setCell ⟨gb224, 0, none⟩ (.int .i64 ((rd_T79 l0 x7_1).f0))).setCell ⟨gb224, 1, none⟩ (.string ((rd_T79 l0 x7_1).f1)))).cell? _ = some _ from hx226_1)); clear hn226_0; clear hn226_1; replace p226 := eq_true p226; replace q226 := eq_true q226) | (go_at_call 67; (with_reducible refine (impl_isBlock.calls ((rd_T79 l0 x7_1).f1) false _ A14.out).mono ?_); rintro e w' ⟨rfl, ⟨nd, rfl⟩⟩; (try first | exact ⟨rfl, _, World.drewN_drewN _ _ _⟩ | exact ⟨rfl, _, Eq.trans (World.drewN_drewN _ _ _) (congrArg (World.drewN _) (Nat.add_assoc _ _ _))⟩))); try go_wp2_with (first | ((with_reducible refine gate_dst (N := 4) rfl ?_); refine box_event ?hg (N := 4) ?hd (cs := #[.int .i64 0, .string (⟨#[]⟩ : ByteArray)]) (t := 79) ?hr ?_; (case hd => rfl); (case hg => rfl); (case hr => first | (go_simp; done) | (go_simp; rfl)); intro gb224 hg w18 hbox hb; have BK224 := yD (hbox); have GW224 := yD ((by rw [hg]; exact (below_size (kB HB)) : w.heap.size ≤ gb224)); have GE224 := yD ((by rw [hg]; exact (below_size (kB HB)) : w.heap.size ≤ gb224)); replace HB := yD (zC (kB HB) hb); clear hb hbox hg; obtain ⟨hcz19_0, hcz19_1⟩ := cz2 BK224.out; obtain ⟨hfz19_0, hfz19_1⟩ := fz2 BK224.out) | (go_at_call 66; (with_reducible refine (impl_within.calls ((rd_T79 l0 x7_1).f0) 0 255 true _ A5.out).mono ?_); rintro e w' ⟨rfl, ⟨nd, rfl⟩⟩; (try first | exact ⟨rfl, _, World.drewN_drewN _ _ _⟩ | exact ⟨rfl, _, Eq.trans (World.drewN_drewN _ _ _) (congrArg (World.drewN _) (Nat.add_assoc _ _ _))⟩); have p226 : 0 ≤ ((ji8) : Int) := zP (by assumption); have q226 : (ji8) < (l0.length : Int) := zP (by assumption); obtain ⟨ad226, e226, hx226_0, hx226_1⟩ := at_T79 HR0.out (ji8) p226 q226; obtain rfl : ad223 = ad226 := (by injection e226); have hn226_0 : ad223.block ≠ gb224 := Nat.ne_of_lt (Nat.lt_of_lt_of_le (by have := zQ _ _ hx226_0; first | rwa [add_block] at this | exact this) GW224.out); have hn226_1 : ad223.block ≠ gb224 := Nat.ne_of_lt (Nat.lt_of_lt_of_le (by have := zQ _ _ hx226_0; first | rwa [add_block] at this | exact this) GW224.out); replace hx226_0 := (HB.out.cell (zQ w _ hx226_0)).trans hx226_0; replace hx226_1 := (HB.out.cell (zQ w _ hx226_1)).trans hx226_1; replace hx226_0 := (cell_far (p := ⟨gb224, 0, none⟩) (by first | (rw [add_block]; exact hn226_0) | (show (Addr.add _ _).block ≠ _; rw [add_block]; exact hn226_0) | exact hn226_0) (.int .i64 ((rd_T79 l0 x7_1).f0))).trans hx226_0; replace hx226_1 := (cell_far (p := ⟨gb224, 0, none⟩) (by first | (rw [add_block]; exact hn226_0) | (show (Addr.add _ _).block ≠ _; rw [add_block]; exact hn226_0) | exact hn226_0) (.int .i64 ((rd_T79 l0 x7_1).f0))).trans hx226_1; replace hx226_0 := (cell_far (p := ⟨gb224, 1, none⟩) (by first | (rw [add_block]; exact hn226_1) | (show (Addr.add _ _).block ≠ _; rw [add_block]; exact hn226_1) | exact hn226_1) (.string ((rd_T79 l0 x7_1).f1))).trans hx226_0; replace hx226_1 := (cell_far (p := ⟨gb224, 1, none⟩) (by first | (rw [add_block]; exact hn226_1) | (show (Addr.add _ _).block ≠ _; rw [add_block]; exact hn226_1) | exact hn226_1) (.string ((rd_T79 l0 x7_1).f1))).trans hx226_1; (try have hy226_0 := fun (n_ : Nat) => (show ((((w18.drewN n_).setCell ⟨gb224, 0, none⟩ (.int .i64 ((rd_T79 l0 x7_1).f0))).setCell ⟨gb224, 1, none⟩ (.string ((rd_T79 l0 x7_1).f1)))).cell? _ = some _ from hx226_0)); (try have hy226_1 := fun (n_ : Nat) => (show ((((w18.drewN n_).setCell ⟨gb224, 0, none⟩ (.int .i64 ((rd_T79 l0 x7_1).f0))).setCell ⟨gb224, 1, none⟩ (.string ((rd_T79 l0 x7_1).f1)))).cell? _ = some _ from hx226_1)); clear hn226_0; clear hn226_1; replace p226 := eq_true p226; replace q226 := eq_true q226) | (go_at_call 67; (with_reducible refine (impl_isBlock.calls ((rd_T79 l0 x7_1).f1) false _ A14.out).mono ?_); rintro e w' ⟨rfl, ⟨nd, rfl⟩⟩; (try first | exact ⟨rfl, _, World.drewN_drewN _ _ _⟩ | exact ⟨rfl, _, Eq.trans (World.drewN_drewN _ _ _) (congrArg (World.drewN _) (Nat.add_assoc _ _ _))⟩))))
             go_ret
             exact ⟨by first | rfl | (simp [errW_none, errW_some] <;> rfl) | (simp only [← hji8]; first | rfl | (simp [errW_none, errW_some] <;> rfl)) | (simp [*, errW_none, errW_some] <;> rfl), kR1 HB⟩
         · rw [if_neg c10] at H
           exact absurd H (by simp)
        · rw [if_neg c9] at H
          exact absurd H (by simp)
       ·
        rw [if_neg c7] at H
        have c7b0 : decide (0 < x7_1) = false := zS c7; clear c7
        obtain ⟨t228, A200, H⟩ := zW_ H
        replace H : (if t228 = true then (impl_ValidPages.l0 k1 l0 l0 (l0.length : Int) (wrap64 (x7_1 + 1))) else (some false)) = some r := H
        have A20 := yD A200
        clear A200
        by_cases c21 : t228 = true
        ·
         subst c21
         replace H : (impl_ValidPages.l0 k1 l0 l0 (l0.length : Int) (wrap64 (x7_1 + 1))) = some r := (by rw [if_pos rfl] at H; exact H)
         have H' := yD H
         clear H
         have p223 : 0 ≤ (x7_1 : Int) := zP (by assumption)
         have q223 : x7_1 < (l0.length : Int) := zP (by assumption)
         obtain ⟨ad223, e223, hx223_0, hx223_1⟩ := at_T79 HR0.out x7_1 p223 q223
         cases e223
         replace hx223_0 := (HB.out.cell (zQ w _ hx223_0)).trans hx223_0
         replace hx223_1 := (HB.out.cell (zQ w _ hx223_1)).trans hx223_1
         replace p223 := eq_true p223; replace q223 := eq_true q223
         go_wp2_with (first | ((with_reducible refine gate_dst (N := 4) rfl ?_); refine box_event ?hg (N := 4) ?hd (cs := #[.int .i64 0, .string (⟨#[]⟩ : ByteArray)]) (t := 79) ?hr ?_; (case hd => rfl); (case hg => rfl); (case hr => first | (go_simp; done) | (go_simp; rfl)); intro gb224 hg w22 hbox hb; have BK224 := yD (hbox); have GW224 := yD ((by rw [hg]; exact (below_size (kB HB)) : w.heap.size ≤ gb224)); have GE224 := yD ((by rw [hg]; exact (below_size (kB HB)) : w.heap.size ≤ gb224)); replace HB := yD (zC (kB HB) hb); clear hb hbox hg; obtain ⟨hcz23_0, hcz23_1⟩ := cz2 BK224.out; obtain ⟨hfz23_0, hfz23_1⟩ := fz2 BK224.out) | (go_at_call 66; (with_reducible refine (impl_within.calls ((rd_T79 l0 x7_1).f0) 0 255 true _ A5.out).mono ?_); rintro e w' ⟨rfl, ⟨nd, rfl⟩⟩; (try first | exact ⟨rfl, _, World.drewN_drewN _ _ _⟩ | exact ⟨rfl, _, Eq.trans (World.drewN_drewN _ _ _) (congrArg (World.drewN _) (Nat.add_assoc _ _ _))⟩)) | (go_at_call 67; (with_reducible refine (impl_isBlock.calls ((rd_T79 l0 x7_1).f1) true _ A20.out).mono ?_); rintro e w' ⟨rfl, ⟨nd, rfl⟩⟩; (try first | exact ⟨rfl, _, World.drewN_drewN _ _ _⟩ | exact ⟨rfl, _, Eq.trans (World.drewN_drewN _ _ _) (congrArg (World.drewN _) (Nat.add_assoc _ _ _))⟩)))
         repeat (go_quiet (first | ((with_reducible refine gate_dst (N := 4) rfl ?_); refine box_event ?hg (N := 4) ?hd (cs := #[.int .i64 0, .string (⟨#[]⟩ : ByteArray)]) (t := 79) ?hr ?_; (case hd => rfl); (case hg => rfl); (case hr => first | (go_simp; done) | (go_simp; rfl)); intro gb224 hg w22 hbox hb; have BK224 := yD (hbox); have GW224 := yD ((by rw [hg]; exact (below_size (kB HB)) : w.heap.size ≤ gb224)); have GE224 := yD ((by rw [hg]; exact (below_size (kB HB)) : w.heap.size ≤ gb224)); replace HB := yD (zC (kB HB) hb); clear hb hbox hg; obtain ⟨hcz23_0, hcz23_1⟩ := cz2 BK224.out; obtain ⟨hfz23_0, hfz23_1⟩ := fz2 BK224.out) | (go_at_call 66; (with_reducible refine (impl_within.calls ((rd_T79 l0 x7_1).f0) 0 255 true _ A5.out).mono ?_); rintro e w' ⟨rfl, ⟨nd, rfl⟩⟩; (try first | exact ⟨rfl, _, World.drewN_drewN _ _ _⟩ | exact ⟨rfl, _, Eq.trans (World.drewN_drewN _ _ _) (congrArg (World.drewN _) (Nat.add_assoc _ _ _))⟩)) | (go_at_call 67; (with_reducible refine (impl_isBlock.calls ((rd_T79 l0 x7_1).f1) true _ A20.out).mono ?_); rintro e w' ⟨rfl, ⟨nd, rfl⟩⟩; (try first | exact ⟨rfl, _, World.drewN_drewN _ _ _⟩ | exact ⟨rfl, _, Eq.trans (World.drewN_drewN _ _ _) (congrArg (World.drewN _) (Nat.add_assoc _ _ _))⟩))); try go_wp2_with (first | ((with_reducible refine gate_dst (N := 4) rfl ?_); refine box_event ?hg (N := 4) ?hd (cs := #[.int .i64 0, .string (⟨#[]⟩ : ByteArray)]) (t := 79) ?hr ?_; (case hd => rfl); (case hg => rfl); (case hr => first | (go_simp; done) | (go_simp; rfl)); intro gb224 hg w22 hbox hb; have BK224 := yD (hbox); have GW224 := yD ((by rw [hg]; exact (below_size (kB HB)) : w.heap.size ≤ gb224)); have GE224 := yD ((by rw [hg]; exact (below_size (kB HB)) : w.heap.size ≤ gb224)); replace HB := yD (zC (kB HB) hb); clear hb hbox hg; obtain ⟨hcz23_0, hcz23_1⟩ := cz2 BK224.out; obtain ⟨hfz23_0, hfz23_1⟩ := fz2 BK224.out) | (go_at_call 66; (with_reducible refine (impl_within.calls ((rd_T79 l0 x7_1).f0) 0 255 true _ A5.out).mono ?_); rintro e w' ⟨rfl, ⟨nd, rfl⟩⟩; (try first | exact ⟨rfl, _, World.drewN_drewN _ _ _⟩ | exact ⟨rfl, _, Eq.trans (World.drewN_drewN _ _ _) (congrArg (World.drewN _) (Nat.add_assoc _ _ _))⟩)) | (go_at_call 67; (with_reducible refine (impl_isBlock.calls ((rd_T79 l0 x7_1).f1) true _ A20.out).mono ?_); rintro e w' ⟨rfl, ⟨nd, rfl⟩⟩; (try first | exact ⟨rfl, _, World.drewN_drewN _ _ _⟩ | exact ⟨rfl, _, Eq.trans (World.drewN_drewN _ _ _) (congrArg (World.drewN _) (Nat.add_assoc _ _ _))⟩))))
         go_roundg k1
         case measure => have := HK1.out; omega
         case rel => exact ⟨(wrap64 (x7_1 + 1)), (by first | rfl | (simp; done) | (simp [*]; done)), H', ⟨by have := HK1.out; omega⟩, ⟨kR1 HB⟩⟩
        ·
         replace c21 := Bool.eq_false_iff.mpr c21
         subst c21
         replace H : (some false) = some r := (by rw [if_neg (show ¬ (false = true) by decide)] at H; exact H); obtain rfl := Option.some.inj H
         have p223 : 0 ≤ (x7_1 : Int) := zP (by assumption)
         have q223 : x7_1 < (l0.length : Int) := zP (by assumption)
         obtain ⟨ad223, e223, hx223_0, hx223_1⟩ := at_T79 HR0.out x7_1 p223 q223
         cases e223
         replace hx223_0 := (HB.out.cell (zQ w _ hx223_0)).trans hx223_0
         replace hx223_1 := (HB.out.cell (zQ w _ hx223_1)).trans hx223_1
         replace p223 := eq_true p223; replace q223 := eq_true q223
         go_wp2_with (first | ((with_reducible refine gate_dst (N := 4) rfl ?_); refine box_event ?hg (N := 4) ?hd (cs := #[.int .i64 0, .string (⟨#[]⟩ : ByteArray)]) (t := 79) ?hr ?_; (case hd => rfl); (case hg => rfl); (case hr => first | (go_simp; done) | (go_simp; rfl)); intro gb224 hg w24 hbox hb; have BK224 := yD (hbox); have GW224 := yD ((by rw [hg]; exact (below_size (kB HB)) : w.heap.size ≤ gb224)); have GE224 := yD ((by rw [hg]; exact (below_size (kB HB)) : w.heap.size ≤ gb224)); replace HB := yD (zC (kB HB) hb); clear hb hbox hg; obtain ⟨hcz25_0, hcz25_1⟩ := cz2 BK224.out; obtain ⟨hfz25_0, hfz25_1⟩ := fz2 BK224.out) | (go_at_call 66; (with_reducible refine (impl_within.calls ((rd_T79 l0 x7_1).f0) 0 255 true _ A5.out).mono ?_); rintro e w' ⟨rfl, ⟨nd, rfl⟩⟩; (try first | exact ⟨rfl, _, World.drewN_drewN _ _ _⟩ | exact ⟨rfl, _, Eq.trans (World.drewN_drewN _ _ _) (congrArg (World.drewN _) (Nat.add_assoc _ _ _))⟩)) | (go_at_call 67; (with_reducible refine (impl_isBlock.calls ((rd_T79 l0 x7_1).f1) false _ A20.out).mono ?_); rintro e w' ⟨rfl, ⟨nd, rfl⟩⟩; (try first | exact ⟨rfl, _, World.drewN_drewN _ _ _⟩ | exact ⟨rfl, _, Eq.trans (World.drewN_drewN _ _ _) (congrArg (World.drewN _) (Nat.add_assoc _ _ _))⟩)))
         repeat (go_quiet (first | ((with_reducible refine gate_dst (N := 4) rfl ?_); refine box_event ?hg (N := 4) ?hd (cs := #[.int .i64 0, .string (⟨#[]⟩ : ByteArray)]) (t := 79) ?hr ?_; (case hd => rfl); (case hg => rfl); (case hr => first | (go_simp; done) | (go_simp; rfl)); intro gb224 hg w24 hbox hb; have BK224 := yD (hbox); have GW224 := yD ((by rw [hg]; exact (below_size (kB HB)) : w.heap.size ≤ gb224)); have GE224 := yD ((by rw [hg]; exact (below_size (kB HB)) : w.heap.size ≤ gb224)); replace HB := yD (zC (kB HB) hb); clear hb hbox hg; obtain ⟨hcz25_0, hcz25_1⟩ := cz2 BK224.out; obtain ⟨hfz25_0, hfz25_1⟩ := fz2 BK224.out) | (go_at_call 66; (with_reducible refine (impl_within.calls ((rd_T79 l0 x7_1).f0) 0 255 true _ A5.out).mono ?_); rintro e w' ⟨rfl, ⟨nd, rfl⟩⟩; (try first | exact ⟨rfl, _, World.drewN_drewN _ _ _⟩ | exact ⟨rfl, _, Eq.trans (World.drewN_drewN _ _ _) (congrArg (World.drewN _) (Nat.add_assoc _ _ _))⟩)) | (go_at_call 67; (with_reducible refine (impl_isBlock.calls ((rd_T79 l0 x7_1).f1) false _ A20.out).mono ?_); rintro e w' ⟨rfl, ⟨nd, rfl⟩⟩; (try first | exact ⟨rfl, _, World.drewN_drewN _ _ _⟩ | exact ⟨rfl, _, Eq.trans (World.drewN_drewN _ _ _) (congrArg (World.drewN _) (Nat.add_assoc _ _ _))⟩))); try go_wp2_with (first | ((with_reducible refine gate_dst (N := 4) rfl ?_); refine box_event ?hg (N := 4) ?hd (cs := #[.int .i64 0, .string (⟨#[]⟩ : ByteArray)]) (t := 79) ?hr ?_; (case hd => rfl); (case hg => rfl); (case hr => first | (go_simp; done) | (go_simp; rfl)); intro gb224 hg w24 hbox hb; have BK224 := yD (hbox); have GW224 := yD ((by rw [hg]; exact (below_size (kB HB)) : w.heap.size ≤ gb224)); have GE224 := yD ((by rw [hg]; exact (below_size (kB HB)) : w.heap.size ≤ gb224)); replace HB := yD (zC (kB HB) hb); clear hb hbox hg; obtain ⟨hcz25_0, hcz25_1⟩ := cz2 BK224.out; obtain ⟨hfz25_0, hfz25_1⟩ := fz2 BK224.out) | (go_at_call 66; (with_reducible refine (impl_within.calls ((rd_T79 l0 x7_1).f0) 0 255 true _ A5.out).mono ?_); rintro e w' ⟨rfl, ⟨nd, rfl⟩⟩; (try first | exact ⟨rfl, _, World.drewN_drewN _ _ _⟩ | exact ⟨rfl, _, Eq.trans (World.drewN_drewN _ _ _) (congrArg (World.drewN _) (Nat.add_assoc _ _ _))⟩)) | (go_at_call 67; (with_reducible refine (impl_isBlock.calls ((rd_T79 l0 x7_1).f1) false _ A20.out).mono ?_); rintro e w' ⟨rfl, ⟨nd, rfl⟩⟩; (try first | exact ⟨rfl, _, World.drewN_drewN _ _ _⟩ | exact ⟨rfl, _, Eq.trans (World.drewN_drewN _ _ _) (congrArg (World.drewN _) (Nat.add_assoc _ _ _))⟩))))
         go_ret
         exact ⟨by first | rfl | (simp <;> rfl) | (simp [*] <;> rfl), kR1 HB⟩
      ·
       replace c6 := Bool.eq_false_iff.mpr c6
       subst c6
       replace H : (some false) = some r := (by rw [if_neg (show ¬ (false = true) by decide)] at H; exact H); obtain rfl := Option.some.inj H
       have p223 : 0 ≤ (x7_1 : Int) := zP (by assumption)
       have q223 : x7_1 < (l0.length : Int) := zP (by assumption)
       obtain ⟨ad223, e223, hx223_0, hx223_1⟩ := at_T79 HR0.out x7_1 p223 q223
       cases e223
       replace hx223_0 := (HB.out.cell (zQ w _ hx223_0)).trans hx223_0
       replace hx223_1 := (HB.out.cell (zQ w _ hx223_1)).trans hx223_1
       replace p223 := eq_true p223; replace q223 := eq_true q223
       go_wp2_with (first | ((with_reducible refine gate_dst (N := 4) rfl ?_); refine box_event ?hg (N := 4) ?hd (cs := #[.int .i64 0, .string (⟨#[]⟩ : ByteArray)]) (t := 79) ?hr ?_; (case hd => rfl); (case hg => rfl); (case hr => first | (go_simp; done) | (go_simp; rfl)); intro gb224 hg w26 hbox hb; have BK224 := yD (hbox); have GW224 := yD ((by rw [hg]; exact (below_size (kB HB)) : w.heap.size ≤ gb224)); have GE224 := yD ((by rw [hg]; exact (below_size (kB HB)) : w.heap.size ≤ gb224)); replace HB := yD (zC (kB HB) hb); clear hb hbox hg; obtain ⟨hcz27_0, hcz27_1⟩ := cz2 BK224.out; obtain ⟨hfz27_0, hfz27_1⟩ := fz2 BK224.out) | (go_at_call 66; (with_reducible refine (impl_within.calls ((rd_T79 l0 x7_1).f0) 0 255 false _ A5.out).mono ?_); rintro e w' ⟨rfl, ⟨nd, rfl⟩⟩; (try first | exact ⟨rfl, _, World.drewN_drewN _ _ _⟩ | exact ⟨rfl, _, Eq.trans (World.drewN_drewN _ _ _) (congrArg (World.drewN _) (Nat.add_assoc _ _ _))⟩)))
       repeat (go_quiet (first | ((with_reducible refine gate_dst (N := 4) rfl ?_); refine box_event ?hg (N := 4) ?hd (cs := #[.int .i64 0, .string (⟨#[]⟩ : ByteArray)]) (t := 79) ?hr ?_; (case hd => rfl); (case hg => rfl); (case hr => first | (go_simp; done) | (go_simp; rfl)); intro gb224 hg w26 hbox hb; have BK224 := yD (hbox); have GW224 := yD ((by rw [hg]; exact (below_size (kB HB)) : w.heap.size ≤ gb224)); have GE224 := yD ((by rw [hg]; exact (below_size (kB HB)) : w.heap.size ≤ gb224)); replace HB := yD (zC (kB HB) hb); clear hb hbox hg; obtain ⟨hcz27_0, hcz27_1⟩ := cz2 BK224.out; obtain ⟨hfz27_0, hfz27_1⟩ := fz2 BK224.out) | (go_at_call 66; (with_reducible refine (impl_within.calls ((rd_T79 l0 x7_1).f0) 0 255 false _ A5.out).mono ?_); rintro e w' ⟨rfl, ⟨nd, rfl⟩⟩; (try first | exact ⟨rfl, _, World.drewN_drewN _ _ _⟩ | exact ⟨rfl, _, Eq.trans (World.drewN_drewN _ _ _) (congrArg (World.drewN _) (Nat.add_assoc _ _ _))⟩))); try go_wp2_with (first | ((with_reducible refine gate_dst (N := 4) rfl ?_); refine box_event ?hg (N := 4) ?hd (cs := #[.int .i64 0, .string (⟨#[]⟩ : ByteArray)]) (t := 79) ?hr ?_; (case hd => rfl); (case hg => rfl); (case hr => first | (go_simp; done) | (go_simp; rfl)); intro gb224 hg w26 hbox hb; have BK224 := yD (hbox); have GW224 := yD ((by rw [hg]; exact (below_size (kB HB)) : w.heap.size ≤ gb224)); have GE224 := yD ((by rw [hg]; exact (below_size (kB HB)) : w.heap.size ≤ gb224)); replace HB := yD (zC (kB HB) hb); clear hb hbox hg; obtain ⟨hcz27_0, hcz27_1⟩ := cz2 BK224.out; obtain ⟨hfz27_0, hfz27_1⟩ := fz2 BK224.out) | (go_at_call 66; (with_reducible refine (impl_within.calls ((rd_T79 l0 x7_1).f0) 0 255 false _ A5.out).mono ?_); rintro e w' ⟨rfl, ⟨nd, rfl⟩⟩; (try first | exact ⟨rfl, _, World.drewN_drewN _ _ _⟩ | exact ⟨rfl, _, Eq.trans (World.drewN_drewN _ _ _) (congrArg (World.drewN _) (Nat.add_assoc _ _ _))⟩))))
       go_ret
       exact ⟨by first | rfl | (simp <;> rfl) | (simp [*] <;> rfl), kR1 HB⟩
     · rw [if_neg c4] at H
       exact absurd H (by simp)
    · rw [if_neg c3] at H
      exact absurd H (by simp)
   · rw [if_neg c2] at H
     have c2b0 : decide (x7_1 < (l0.length : Int)) = false := zS c2; clear c2; obtain rfl := Option.some.inj H
     go_wp2
     repeat (go_quiet (fail); try go_wp2)
     go_ret
     exact ⟨by first | rfl | (simp <;> rfl) | (simp [*] <;> rfl), kR0 HB⟩

/-! ### slices_Clone_impl_Page_impl_Page_isnil: function 68 -/
def slices_Clone_impl_Page_impl_Page_isnil.f (l0 : List (S79)) : Option ((List (S79))) := some ([] : List (S79))
set_option maxHeartbeats 8000000 in
set_option maxRecDepth 100000 in
theorem slices_Clone_impl_Page_impl_Page_isnil.calls (c0 : Nat) (l0 : List (S79)) (r : List (S79)) (w : World) (hr0 : Kd.C k79 w none l0.length l0) (hc0 : l0.length ≤ c0) (h : slices_Clone_impl_Page_impl_Page_isnil.f l0 = some r) :
 Calls Try.prog 68 #[.slice none l0.length c0] w fun e w' => ∃ v0_ : Value, e = .returned (v0_) ∧ Kd.R k79 79 w' w.heap.size (fun _ => True) v0_ r ∧ Below w.heap.size w w' := by
 have HR0 := yD hr0
 have HC0 := yD hc0
 clear hr0 hc0
 have HB := yD (Below.refl w.heap.size w)
 have H : (some ([] : List (S79))) = some r := h
 clear h; obtain rfl := Option.some.inj H; have q_ : ∀ (w : World) (a : Option Addr) (n c n' c' : Nat), (binOp .eql 38 (.slice a n c) (.slice none n' c')).run Try.prog w = .ok (.bool a.isNone) w := fun w a n c n' c' => Lib.run_eql_slice_nil w _ _ a n c n' c' Try.underlying38; go_enter Try.func68, Try.ntmps68
 go_wp2
 go_ret
 exact ⟨_, by first | rfl | (simp <;> rfl) | (simp [*] <;> rfl), by first | exact Kd.R_nil _ _ _ _ _ | exact Kd.N_nil _ _ _ _ _ | exact Kd.V_nil _ _ _ _ _ | exact Kd.Q_nil _ _ _ _ _ | exact Kd.S_nil _ _ _ _ _, kR0 HB⟩

/-! ### slices_Clone_impl_Page_impl_Page_nn: function 68 -/
def slices_Clone_impl_Page_impl_Page_nn.f (l0 : List (S79)) : Option ((List (S79))) := (some (([] : List (S79)) : List (S79))).bind fun y229 => (if y229.length + l0.length < 5864062014805 then (some (y229 ++ l0)) else (none))
set_option maxHeartbeats 8000000 in
set_option maxRecDepth 100000 in
theorem slices_Clone_impl_Page_impl_Page_nn.calls (A0 : Addr) (c0 : Nat) (l0 : List (S79)) (r : List (S79)) (w : World) (hr0 : Kd.C k79 w (some A0) l0.length l0) (hc0 : l0.length ≤ c0) (h : slices_Clone_impl_Page_impl_Page_nn.f l0 = some r) :
 Calls Try.prog 68 #[.slice (some A0) l0.length c0] w fun e w' => ∃ v0_ : Value, e = .returned (v0_) ∧ Kd.R k79 79 w' w.heap.size (fun _ => True) v0_ r ∧ Below w.heap.size w w' := by
 have HR0 := yD hr0
 have HC0 := yD hc0
 clear hr0 hc0
 have HB := yD (Below.refl w.heap.size w)
 have H : ((some (([] : List (S79)) : List (S79))).bind fun y229 => (if y229.length + l0.length < 5864062014805 then (some (y229 ++ l0)) else (none))) = some r := h
 clear h
 obtain ⟨y229, hy229⟩ : ∃ y_ : List (S79), y_ = (([] : List (S79))) := ⟨_, rfl⟩
 replace H : (if y229.length + l0.length < 5864062014805 then (some (y229 ++ l0)) else (none)) = some r := by first | (rw [hy229]; with_reducible exact H) | (have H2_ := (Option.bind_some _ _).symm.trans H; rw [hy229]; with_reducible exact H2_) | (have H2_ := (Option.bind_some _ _).symm.trans H; with_reducible exact H2_) | with_reducible exact H | (rw [hy229]; exact H) | exact H
 have Ny229 := yD hy229
 clear hy229
 by_cases c2 : y229.length + l0.length < 5864062014805
 ·
  rw [if_pos c2] at H
  have LMc2 := yD c2
  clear c2
  obtain ⟨y232, hy232⟩ : ∃ y_ : List (S79), y_ = (y229 ++ l0) := ⟨_, rfl⟩
  replace H : (some y232) = some r := by first | (rw [hy232]; with_reducible exact H) | (have H2_ := (Option.bind_some _ _).symm.trans H; rw [hy232]; with_reducible exact H2_) | (have H2_ := (Option.bind_some _ _).symm.trans H; with_reducible exact H2_) | with_reducible exact H | (rw [hy232]; exact H) | exact H
  have Ny232 := yD hy232
  clear hy232; obtain rfl := Option.some.inj H; have q_ : ∀ (w : World) (a : Option Addr) (n c n' c' : Nat), (binOp .eql 38 (.slice a n c) (.slice none n' c')).run Try.prog w = .ok (.bool a.isNone) w := fun w a n c n' c' => Lib.run_eql_slice_nil w _ _ a n c n' c' Try.underlying38; go_enter Try.func68, Try.ntmps68
  go_wp2_with (first | ((with_reducible refine gate_dst (N := 5) rfl ?_); refine Kd.R_lit k79 _ 79 ?hg (N := 5) ?hd (xs := ([] : List (S79))) (inner := []) (ok := fun _ => True) (okp := fun _ => True) ?hr ?hp (fun _ hk => hk) trivial (Below.refl _ _) (Nat.le_refl _) (by simp) ?_; (case hd => rfl); (case hg => rfl); (case hr => first | (go_simp; done) | (go_simp; rfl)); (case hp => exact (Reps.none _ _)); intro v230 w3 ho4 hb hg_ hnew_; clear hg_ hnew_; (first | rw [← Ny229.out] at ho4 | (simp only [Int.reduceToNat] at ho4; rw [← Ny229.out] at ho4)); have HO231 := yD (yZ ho4 (below_size (kB HB))); replace HB := yD (zC (kB HB) hb); clear hb ho4) | ((with_reducible refine gate_builtin (b := .append) (xs := #[.tmp 5, .tmp 6]) rfl ?_); at_builtin; refine Kd.R_append_rows k79 (w0 := w) w.heap.size rfl (.tmp 5) (.tmp 6) 38 79 (.agg #[(.int .i64 0), (.string ⟨#[]⟩)]) 24 rfl Try.underlying38 info79 rfl (by decide) (by omega) v230 y229 l0 _ _ _ (fun _ => True) (fun _ => False) rfl rfl ?aO ?aR (fun _ _ h => h) (fun _ h => h.elim) ?aF ?aB ?aS ?aL ?_; (case aR => exact kV (yY HR0.out HB.out)); (case aB => exact (kB HB)); (case aF => exact (fun _ _ => trivial)); (case aO => exact (kA HO231)); (case aS => exact (below_size (kB HB))); (case aL => have := LMc2.out; omega); intro v233 w5 ho hb hg hat; rw [← Ny232.out] at ho; replace HB := yD (hb); have HO234 := yD (ho); clear HO231; clear ho hb hg hat))
  go_ret
  exact ⟨_, by first | rfl | (simp <;> rfl) | (simp [*] <;> rfl), kA HO234, kR0 HB⟩
 · rw [if_neg c2] at H
   exact absurd H (by simp)

/-! ### slices_Clone_impl_Page_impl_Page: function 68 -/
def slices_Clone_impl_Page_impl_Page.f (l0 : List (S79)) : Option (List (S79)) := slices_Clone_impl_Page_impl_Page_nn.f l0
theorem slices_Clone_impl_Page_impl_Page.calls (A0 : Option Addr) (c0 : Nat) (l0 : List (S79)) (r : List (S79)) (w : World) (hr0 : Kd.C k79 w A0 l0.length l0) (hc0 : l0.length ≤ c0) (h : slices_Clone_impl_Page_impl_Page.f l0 = some r) :
 Calls Try.prog 68 #[.slice A0 l0.length c0] w fun e w' => ∃ v0_ : Value, e = .returned (v0_) ∧ Kd.R k79 79 w' w.heap.size (fun _ => True) v0_ r ∧ Below w.heap.size w w' := by
 cases A0 with
 | some A0 => exact slices_Clone_impl_Page_impl_Page_nn.calls A0 c0 l0 r w hr0 hc0 h
 | none =>
  have hz : l0 = [] := by
   cases l0 with
   | nil => rfl
   | cons x xs => obtain ⟨ad, e, _⟩ := hr0.2.2 (by simp); cases e
  subst hz
  have hr : r = [] := by
   have h' := h
   unfold slices_Clone_impl_Page_impl_Page.f slices_Clone_impl_Page_impl_Page_nn.f at h'
   simp at h'
   exact h'
  subst hr
  exact slices_Clone_impl_Page_impl_Page_isnil.calls c0 [] [] w hr0 hc0 rfl

/-! ### cmp_isNaN_int64: function 86 -/
def cmp_isNaN_int64.f (a0 : Int) : Option (Bool) := some (a0 != a0)
set_option maxHeartbeats 8000000 in
set_option maxRecDepth 100000 in
theorem cmp_isNaN_int64.calls (a0 : Int) (r : Bool) (w : World) (h : cmp_isNaN_int64.f a0 = some r) :
 Calls Try.prog 86 #[.int .i64 a0] w fun e w' => e = .returned (.bool r) ∧ Drawn0 w w' := by
 have H : (some (a0 != a0)) = some r := h
 clear h; obtain rfl := Option.some.inj H; go_enter Try.func86, Try.ntmps86
 go_wp2
 go_ret
 exact ⟨by first | rfl | (simp; done) | (simp [*]; done), by repeat (first | exact Drawn0.refl _ | apply Drawn0.step)⟩

/-! ### cmp_Compare_int64: function 82 -/
def cmp_Compare_int64.f (a0 : Int) (a1 : Int) : Option (Int) := (cmp_isNaN_int64.f a0).bind fun t235 => ((cmp_isNaN_int64.f a1).bind fun t236 => (if t235 = true then (if t236 = true then (some 0) else (some (-1))) else (if t236 = true then (some 1) else (if a0 < a1 then (some (-1)) else (if a0 > a1 then (some 1) else (some 0))))))
set_option maxHeartbeats 8000000 in
set_option maxRecDepth 100000 in
theorem cmp_Compare_int64.calls (a0 : Int) (a1 : Int) (r : Int) (w : World) (h : cmp_Compare_int64.f a0 a1 = some r) :
 Calls Try.prog 82 #[.int .i64 a0, .int .i64 a1] w fun e w' => e = .returned (.int .i64 r) ∧ Drawn0 w w' := by
 have H : ((cmp_isNaN_int64.f a0).bind fun t235 => ((cmp_isNaN_int64.f a1).bind fun t236 => (if t235 = true then (if t236 = true then (some 0) else (some (-1))) else (if t236 = true then (some 1) else (if a0 < a1 then (some (-1)) else (if a0 > a1 then (some 1) else (some 0))))))) = some r := h
 clear h
 obtain ⟨t235, A30, H⟩ := zW_ H
 replace H : ((cmp_isNaN_int64.f a1).bind fun t236 => (if t235 = true then (if t236 = true then (some 0) else (some (-1))) else (if t236 = true then (some 1) else (if a0 < a1 then (some (-1)) else (if a0 > a1 then (some 1) else (some 0)))))) = some r := H
 have A3 := yD A30
 clear A30
 obtain ⟨t236, A40, H⟩ := zW_ H
 replace H : (if t235 = true then (if t236 = true then (some 0) else (some (-1))) else (if t236 = true then (some 1) else (if a0 < a1 then (some (-1)) else (if a0 > a1 then (some 1) else (some 0))))) = some r := H
 have A4 := yD A40
 clear A40
 by_cases c5 : t235 = true
 ·
  subst c5
  replace H : (if t236 = true then (some 0) else (some (-1))) = some r := (by rw [if_pos rfl] at H; exact H)
  by_cases c6 : t236 = true
  · subst c6
    replace H : (some 0) = some r := (by rw [if_pos rfl] at H; exact H); obtain rfl := Option.some.inj H; go_enter Try.func82, Try.ntmps82
    go_wp2_with (first | ((with_reducible refine gate_callee (f := 86) rfl ?_); refine gL 8 Try.func86 #[.int .i64 a0] ?_; (with_reducible refine (cmp_isNaN_int64.calls a0 true _ A3.out).mono ?_); rintro e w' ⟨rfl, ⟨nd, rfl⟩⟩; refine ⟨_, rfl, ?_⟩) | ((with_reducible refine gate_callee (f := 86) rfl ?_); refine gL 10 Try.func86 #[.int .i64 a1] ?_; (with_reducible refine (cmp_isNaN_int64.calls a1 true _ A4.out).mono ?_); rintro e w' ⟨rfl, ⟨nd, rfl⟩⟩; refine ⟨_, rfl, ?_⟩))
    go_ret
    exact ⟨by first | rfl | (simp; done) | (simp [*]; done), by repeat (first | exact Drawn0.refl _ | apply Drawn0.step)⟩
  · replace c6 := Bool.eq_false_iff.mpr c6
    subst c6
    replace H : (some (-1)) = some r := (by rw [if_neg (show ¬ (false = true) by decide)] at H; exact H); obtain rfl := Option.some.inj H; go_enter Try.func82, Try.ntmps82
    go_wp2_with (first | ((with_reducible refine gate_callee (f := 86) rfl ?_); refine gL 8 Try.func86 #[.int .i64 a0] ?_; (with_reducible refine (cmp_isNaN_int64.calls a0 true _ A3.out).mono ?_); rintro e w' ⟨rfl, ⟨nd, rfl⟩⟩; refine ⟨_, rfl, ?_⟩) | ((with_reducible refine gate_callee (f := 86) rfl ?_); refine gL 10 Try.func86 #[.int .i64 a1] ?_; (with_reducible refine (cmp_isNaN_int64.calls a1 false _ A4.out).mono ?_); rintro e w' ⟨rfl, ⟨nd, rfl⟩⟩; refine ⟨_, rfl, ?_⟩))
    go_ret
    exact ⟨by first | rfl | (simp; done) | (simp [*]; done), by repeat (first | exact Drawn0.refl _ | apply Drawn0.step)⟩
 ·
  replace c5 := Bool.eq_false_iff.mpr c5
  subst c5
  replace H : (if t236 = true then (some 1) else (if a0 < a1 then (some (-1)) else (if a0 > a1 then (some 1) else (some 0)))) = some r := (by rw [if_neg (show ¬ (false = true) by decide)] at H; exact H)
  by_cases c7 : t236 = true
  · subst c7
    replace H : (some 1) = some r := (by rw [if_pos rfl] at H; exact H); obtain rfl := Option.some.inj H; go_enter Try.func82, Try.ntmps82
    go_wp2_with (first | ((with_reducible refine gate_callee (f := 86) rfl ?_); refine gL 8 Try.func86 #[.int .i64 a0] ?_; (with_reducible refine (cmp_isNaN_int64.calls a0 false _ A3.out).mono ?_); rintro e w' ⟨rfl, ⟨nd, rfl⟩⟩; refine ⟨_, rfl, ?_⟩) | ((with_reducible refine gate_callee (f := 86) rfl ?_); refine gL 10 Try.func86 #[.int .i64 a1] ?_; (with_reducible refine (cmp_isNaN_int64.calls a1 true _ A4.out).mono ?_); rintro e w' ⟨rfl, ⟨nd, rfl⟩⟩; refine ⟨_, rfl, ?_⟩))
    go_ret
    exact ⟨by first | rfl | (simp; done) | (simp [*]; done), by repeat (first | exact Drawn0.refl _ | apply Drawn0.step)⟩
  ·
   replace c7 := Bool.eq_false_iff.mpr c7
   subst c7
   replace H : (if a0 < a1 then (some (-1)) else (if a0 > a1 then (some 1) else (some 0))) = some r := (by rw [if_neg (show ¬ (false = true) by decide)] at H; exact H)
   by_cases c8 : a0 < a1
   · rw [if_pos c8] at H
     have c8b0 : decide (a0 < a1) = true := zR c8; clear c8; obtain rfl := Option.some.inj H; go_enter Try.func82, Try.ntmps82
     go_wp2_with (first | ((with_reducible refine gate_callee (f := 86) rfl ?_); refine gL 8 Try.func86 #[.int .i64 a0] ?_; (with_reducible refine (cmp_isNaN_int64.calls a0 false _ A3.out).mono ?_); rintro e w' ⟨rfl, ⟨nd, rfl⟩⟩; refine ⟨_, rfl, ?_⟩) | ((with_reducible refine gate_callee (f := 86) rfl ?_); refine gL 10 Try.func86 #[.int .i64 a1] ?_; (with_reducible refine (cmp_isNaN_int64.calls a1 false _ A4.out).mono ?_); rintro e w' ⟨rfl, ⟨nd, rfl⟩⟩; refine ⟨_, rfl, ?_⟩))
     go_ret
     exact ⟨by first | rfl | (simp; done) | (simp [*]; done), by repeat (first | exact Drawn0.refl _ | apply Drawn0.step)⟩
   ·
    rw [if_neg c8] at H
    have c8b0 : decide (a0 < a1) = false := zS c8; clear c8
    by_cases c9 : a0 > a1
    · rw [if_pos c9] at H
      have c9b0 : decide (a1 < a0) = true := zR c9; clear c9; obtain rfl := Option.some.inj H; go_enter Try.func82, Try.ntmps82
      go_wp2_with (first | ((with_reducible refine gate_callee (f := 86) rfl ?_); refine gL 8 Try.func86 #[.int .i64 a0] ?_; (with_reducible refine (cmp_isNaN_int64.calls a0 false _ A3.out).mono ?_); rintro e w' ⟨rfl, ⟨nd, rfl⟩⟩; refine ⟨_, rfl, ?_⟩) | ((with_reducible refine gate_callee (f := 86) rfl ?_); refine gL 10 Try.func86 #[.int .i64 a1] ?_; (with_reducible refine (cmp_isNaN_int64.calls a1 false _ A4.out).mono ?_); rintro e w' ⟨rfl, ⟨nd, rfl⟩⟩; refine ⟨_, rfl, ?_⟩))
      go_ret
      exact ⟨by first | rfl | (simp; done) | (simp [*]; done), by repeat (first | exact Drawn0.refl _ | apply Drawn0.step)⟩
    · rw [if_neg c9] at H
      have c9b0 : decide (a1 < a0) = false := zS c9; clear c9; obtain rfl := Option.some.inj H; go_enter Try.func82, Try.ntmps82
      go_wp2_with (first | ((with_reducible refine gate_callee (f := 86) rfl ?_); refine gL 8 Try.func86 #[.int .i64 a0] ?_; (with_reducible refine (cmp_isNaN_int64.calls a0 false _ A3.out).mono ?_); rintro e w' ⟨rfl, ⟨nd, rfl⟩⟩; refine ⟨_, rfl, ?_⟩) | ((with_reducible refine gate_callee (f := 86) rfl ?_); refine gL 10 Try.func86 #[.int .i64 a1] ?_; (with_reducible refine (cmp_isNaN_int64.calls a1 false _ A4.out).mono ?_); rintro e w' ⟨rfl, ⟨nd, rfl⟩⟩; refine ⟨_, rfl, ?_⟩))
      go_ret
      exact ⟨by first | rfl | (simp; done) | (simp [*]; done), by repeat (first | exact Drawn0.refl _ | apply Drawn0.step)⟩

/-! ### impl_pageAt_1: function 81 -/
def impl_pageAt_1.f (a0_0 : Int) (a0_1 : ByteArray) (a1 : Int) : Option (Int) := (cmp_Compare_int64.f a0_0 a1).bind fun t238 => (some t238)
set_option maxHeartbeats 8000000 in
set_option maxRecDepth 100000 in
theorem impl_pageAt_1.calls (a0_0 : Int) (a0_1 : ByteArray) (a1 : Int) (r : Int) (w : World) (h : impl_pageAt_1.f a0_0 a0_1 a1 = some r) :
 Calls Try.prog 81 #[.agg #[.int .i64 a0_0, .string a0_1], .int .i64 a1] w fun e w' => e = .returned (.int .i64 r) ∧ Below w.heap.size w w' := by
 have hu79 := Try.underlying79
 have HB := yD (Below.refl w.heap.size w)
 have H : ((cmp_Compare_int64.f a0_0 a1).bind fun t238 => (some t238)) = some r := h
 clear h
 obtain ⟨t238, A30, H⟩ := zW_ H
 replace H : (some t238) = some r := H
 have A3 := yD A30
 clear A30; obtain rfl := Option.some.inj H; go_enter Try.func81, Try.ntmps81
 go_wp2_with (first | ((with_reducible refine gate_dst (N := 2) rfl ?_); refine box_event ?hg (N := 2) ?hd (cs := #[.int .i64 a0_0, .string a0_1]) (t := 79) ?hr ?_; (case hd => rfl); (case hg => rfl); (case hr => first | (go_simp; done) | (go_simp; rfl)); intro gb237 hg w4 hbox hb; have BK237 := yD (hbox); have GW237 := yD ((by rw [hg]; exact (below_size (kB HB)) : w.heap.size ≤ gb237)); have GE237 := yD ((by rw [hg]; exact (below_size (kB HB)) : w.heap.size ≤ gb237)); replace HB := yD (zC (kB HB) hb); clear hb hbox hg; obtain ⟨hcz5_0, hcz5_1⟩ := cz2 BK237.out; obtain ⟨hfz5_0, hfz5_1⟩ := fz2 BK237.out) | ((with_reducible refine gate_callee (f := 82) rfl ?_); refine gL 8 Try.func82 #[.int .i64 a0_0, .int .i64 a1] ?_; (with_reducible refine (cmp_Compare_int64.calls a0_0 a1 t238 _ A3.out).mono ?_); rintro e w' ⟨rfl, ⟨nd, rfl⟩⟩; refine ⟨_, rfl, ?_⟩))
 go_ret
 exact ⟨by first | rfl | (simp <;> rfl) | (simp [*] <;> rfl), kR1 HB⟩

/-! ### slices_BinarySearchFunc_impl_pageAt_1: function 80 -/
def slices_BinarySearchFunc_impl_pageAt_1.l0 : Nat → List (S79) → Int → Int → Int → Int → Option (Int × Bool)
 | 0, _, _, _, _, _ => none
 | k + 1, x0, x1, x8, x9, x10 => if x9 < x10 then (if 0 ≤ (wrap64 ((IntKind.u64.wrap (wrap64 (x9 + x10))) / 2)) then (if (wrap64 ((IntKind.u64.wrap (wrap64 (x9 + x10))) / 2)) < (x0.length : Int) then ((impl_pageAt_1.f ((rd_T79 x0 (wrap64 ((IntKind.u64.wrap (wrap64 (x9 + x10))) / 2))).f0) ((rd_T79 x0 (wrap64 ((IntKind.u64.wrap (wrap64 (x9 + x10))) / 2))).f1) x1).bind fun t240 => (if t240 < 0 then (slices_BinarySearchFunc_impl_pageAt_1.l0 k x0 x1 x8 (wrap64 ((wrap64 ((IntKind.u64.wrap (wrap64 (x9 + x10))) / 2)) + 1)) x10) else (slices_BinarySearchFunc_impl_pageAt_1.l0 k x0 x1 x8 x9 (wrap64 ((IntKind.u64.wrap (wrap64 (x9 + x10))) / 2))))) else (none)) else (none)) else (if x9 < x8 then (if 0 ≤ x9 then (if x9 < (x0.length : Int) then ((impl_pageAt_1.f ((rd_T79 x0 x9).f0) ((rd_T79 x0 x9).f1) x1).bind fun t242 => (some (x9, (t242 == 0)))) else (none)) else (none)) else (some (x9, false)))
def slices_BinarySearchFunc_impl_pageAt_1.f (k : Nat) (l0 : List (S79)) (a1 : Int)  : Option (Int × Bool) := slices_BinarySearchFunc_impl_pageAt_1.l0 k l0 a1 (l0.length : Int) 0 (l0.length : Int)
theorem slices_BinarySearchFunc_impl_pageAt_1.mono_l : ∀ k, (∀ y0 y1 y2 y3 y4, LeO (slices_BinarySearchFunc_impl_pageAt_1.l0 k y0 y1 y2 y3 y4) (slices_BinarySearchFunc_impl_pageAt_1.l0 (k + 1) y0 y1 y2 y3 y4))
 | 0 => fun _ _ _ _ _ r h => by simp [slices_BinarySearchFunc_impl_pageAt_1.l0] at h
 | k + 1 => by
  have ih0 := slices_BinarySearchFunc_impl_pageAt_1.mono_l k
  · intro y0 y1 y2 y3 y4
    unfold slices_BinarySearchFunc_impl_pageAt_1.l0
    repeat' (with_reducible first | exact ih0 _ _ _ _ _ | exact LeO.refl _ | exact LeO.none _ | refine LeO.ite ?_ ?_ | refine LeO.bind ?_ (fun _ => ?_))
theorem slices_BinarySearchFunc_impl_pageAt_1.mono : ∀ a0 a1 k, LeO (slices_BinarySearchFunc_impl_pageAt_1.f k a0 a1) (slices_BinarySearchFunc_impl_pageAt_1.f (k + 1) a0 a1) := by
 intro a0 a1 k
 have ih0 := slices_BinarySearchFunc_impl_pageAt_1.mono_l k
 unfold slices_BinarySearchFunc_impl_pageAt_1.f
 repeat' (with_reducible first | exact ih0 _ _ _ _ _ | exact LeO.refl _ | exact LeO.none _ | refine LeO.ite ?_ ?_ | refine LeO.bind ?_ (fun _ => ?_))
set_option maxHeartbeats 8000000 in
set_option maxRecDepth 100000 in
theorem slices_BinarySearchFunc_impl_pageAt_1.calls (k : Nat) (A0 : Option Addr) (c0 : Nat) (l0 : List (S79)) (a1 : Int)  (r1 : Int) (r2 : Bool) (w : World) (hr0 : Kd.C k79 w A0 l0.length l0) (hc0 : l0.length ≤ c0) (h : slices_BinarySearchFunc_impl_pageAt_1.f k l0 a1 = some (r1, r2)) :
 Calls Try.prog 80 #[.slice A0 l0.length c0, .int .i64 a1, .func (.func 81) #[] #[]] w fun e w' => e = .returned (.tuple #[.int .i64 r1, .bool r2]) ∧ Below w.heap.size w w' := by
 have hu79 := Try.underlying79
 have HR0 := yD hr0
 have HC0 := yD hc0
 clear hr0 hc0
 have HB := yD (Below.refl w.heap.size w)
 have H : (slices_BinarySearchFunc_impl_pageAt_1.l0 k l0 a1 (l0.length : Int) 0 (l0.length : Int)) = some (r1, r2) := h
 clear h
 have H' := yD H
 clear H; go_enter Try.func80, Try.ntmps80
 go_wp2
 go_loopg [9, 10] k (fun kq v9 v10 w' => ∃ (x9_1 : Int) (x10_1 : Int), v9 = .int .i64 x9_1 ∧ v10 = .int .i64 x10_1 ∧ Aside0 (slices_BinarySearchFunc_impl_pageAt_1.l0 kq l0 a1 (l0.length : Int) x9_1 x10_1 = some (r1, r2)) ∧ Aside0 (kq ≤ k) ∧ Aside0 (Below w.heap.size w w'))
 case atStart => exact ⟨(0), ((l0.length : Int)), (by first | rfl | (simp; done) | (simp [*]; done)), (by first | rfl | (simp; done) | (simp [*]; done)), H', ⟨Nat.le_refl _⟩, ⟨kR0 HB⟩⟩
 case round =>
  clear H'
  try clear p2
  obtain ⟨x9_1, x10_1, rfl, rfl, HA, HK1, HB⟩ := hrel
  cases gk with
  | zero => exact absurd HA.out (by simp [slices_BinarySearchFunc_impl_pageAt_1.l0])
  | succ k1 =>
   have H := HA.out; clear HA
   simp only [slices_BinarySearchFunc_impl_pageAt_1.l0] at H
   by_cases c4 : x9_1 < x10_1
   ·
    rw [if_pos c4] at H
    have c4b0 : decide (x9_1 < x10_1) = true := zR c4; clear c4
    obtain ⟨ji5, hji5⟩ : ∃ j_ : Int, (wrap64 ((IntKind.u64.wrap (wrap64 (x9_1 + x10_1))) / 2)) = j_ := ⟨_, rfl⟩
    replace H : (if 0 ≤ (ji5) then (if (ji5) < (l0.length : Int) then ((impl_pageAt_1.f ((rd_T79 l0 (ji5)).f0) ((rd_T79 l0 (ji5)).f1) a1).bind fun t240 => (if t240 < 0 then (slices_BinarySearchFunc_impl_pageAt_1.l0 k1 l0 a1 (l0.length : Int) (wrap64 ((ji5) + 1)) x10_1) else (slices_BinarySearchFunc_impl_pageAt_1.l0 k1 l0 a1 (l0.length : Int) x9_1 ji5))) else (none)) else (none)) = some (r1, r2) := by first | (rw [hji5] at H; exact H) | (simp only [hji5] at H ⊢; exact H)
    have hji5w : (IntKind.i64.wrap ((IntKind.u64.wrap (wrap64 (x9_1 + x10_1))) / 2)) = ji5 := (i64_w _).trans hji5
    by_cases c6 : 0 ≤ (ji5)
    ·
     rw [if_pos c6] at H
     have c6b0 : decide (0 ≤ (ji5)) = true := zR c6; clear c6
     by_cases c7 : (ji5) < (l0.length : Int)
     ·
      rw [if_pos c7] at H
      have c7b0 : decide ((ji5) < (l0.length : Int)) = true := zR c7; clear c7
      obtain ⟨t240, A80, H⟩ := zW_ H
      replace H : (if t240 < 0 then (slices_BinarySearchFunc_impl_pageAt_1.l0 k1 l0 a1 (l0.length : Int) (wrap64 ((ji5) + 1)) x10_1) else (slices_BinarySearchFunc_impl_pageAt_1.l0 k1 l0 a1 (l0.length : Int) x9_1 ji5)) = some (r1, r2) := H
      have A8 := yD A80
      clear A80
      by_cases c9 : t240 < 0
      ·
       rw [if_pos c9] at H
       have c9b0 : decide (t240 < 0) = true := zR c9; clear c9
       have H' := yD H
       clear H
       have p239 : 0 ≤ ((ji5) : Int) := zP (by assumption)
       have q239 : (ji5) < (l0.length : Int) := zP (by assumption)
       obtain ⟨ad239, e239, hx239_0, hx239_1⟩ := at_T79 HR0.out (ji5) p239 q239
       cases e239
       replace hx239_0 := (HB.out.cell (zQ w _ hx239_0)).trans hx239_0
       replace hx239_1 := (HB.out.cell (zQ w _ hx239_1)).trans hx239_1
       replace p239 := eq_true p239; replace q239 := eq_true q239
       go_wp2_with (first | (go_at_call 81; (with_reducible refine (impl_pageAt_1.calls ((rd_T79 l0 (ji5)).f0) ((rd_T79 l0 (ji5)).f1) a1 t240 _ A8.out).mono ?_); rintro e w10 ⟨rfl, hb⟩; replace HB := yD (zC (kB HB) hb); clear hb))
       go_roundg k1
       case measure => have := HK1.out; omega
       case rel => exact ⟨(wrap64 ((ji5) + 1)), (x10_1), (by first | rfl | (simp; done) | (simp only [← hji5] <;> (first | rfl | simp)) | (simp [*]; done)), (by first | rfl | (simp; done) | (simp [*]; done)), H', ⟨by have := HK1.out; omega⟩, ⟨kR0 HB⟩⟩
      ·
       rw [if_neg c9] at H
       have c9b0 : decide (t240 < 0) = false := zS c9; clear c9
       have H' := yD H
       clear H
       have p239 : 0 ≤ ((ji5) : Int) := zP (by assumption)
       have q239 : (ji5) < (l0.length : Int) := zP (by assumption)
       obtain ⟨ad239, e239, hx239_0, hx239_1⟩ := at_T79 HR0.out (ji5) p239 q239
       cases e239
       replace hx239_0 := (HB.out.cell (zQ w _ hx239_0)).trans hx239_0
       replace hx239_1 := (HB.out.cell (zQ w _ hx239_1)).trans hx239_1
       replace p239 := eq_true p239; replace q239 := eq_true q239
       go_wp2_with (first | (go_at_call 81; (with_reducible refine (impl_pageAt_1.calls ((rd_T79 l0 (ji5)).f0) ((rd_T79 l0 (ji5)).f1) a1 t240 _ A8.out).mono ?_); rintro e w11 ⟨rfl, hb⟩; replace HB := yD (zC (kB HB) hb); clear hb))
       go_roundg k1
       case measure => have := HK1.out; omega
       case rel => exact ⟨(x9_1), (ji5), (by first | rfl | (simp; done) | (simp [*]; done)), (by first | rfl | (simp; done) | (simp only [← hji5] <;> (first | rfl | simp)) | (simp [*]; done)), H', ⟨by have := HK1.out; omega⟩, ⟨kR0 HB⟩⟩
     · rw [if_neg c7] at H
       exact absurd H (by simp)
    · rw [if_neg c6] at H
      exact absurd H (by simp)
   ·
    rw [if_neg c4] at H
    have c4b0 : decide (x9_1 < x10_1) = false := zS c4; clear c4
    by_cases c12 : x9_1 < (l0.length : Int)
    ·
     rw [if_pos c12] at H
     have c12b0 : decide (x9_1 < (l0.length : Int)) = true := zR c12; clear c12
     by_cases c13 : 0 ≤ x9_1
     ·
      rw [if_pos c13] at H
      have c13b0 : decide (0 ≤ x9_1) = true := zR c13; clear c13
      by_cases c14 : x9_1 < (l0.length : Int)
      ·
       rw [if_pos c14] at H
       have c14b0 : decide (x9_1 < (l0.length : Int)) = true := zR c14; clear c14
       obtain ⟨t242, A150, H⟩ := zW_ H
       replace H : (some (x9_1, (t242 == 0))) = some (r1, r2) := H
       have A15 := yD A150
       clear A150
       simp only [Option.some.injEq, Prod.mk.injEq] at H
       obtain ⟨rfl, rfl⟩ := H
       have p241 : 0 ≤ (x9_1 : Int) := zP (by assumption)
       have q241 : x9_1 < (l0.length : Int) := zP (by assumption)
       obtain ⟨ad241, e241, hx241_0, hx241_1⟩ := at_T79 HR0.out x9_1 p241 q241
       cases e241
       replace hx241_0 := (HB.out.cell (zQ w _ hx241_0)).trans hx241_0
       replace hx241_1 := (HB.out.cell (zQ w _ hx241_1)).trans hx241_1
       replace p241 := eq_true p241; replace q241 := eq_true q241
       go_wp2_with (first | (go_at_call 81; (with_reducible refine (impl_pageAt_1.calls ((rd_T79 l0 x9_1).f0) ((rd_T79 l0 x9_1).f1) a1 t242 _ A15.out).mono ?_); rintro e w16 ⟨rfl, hb⟩; replace HB := yD (zC (kB HB) hb); clear hb))
       go_ret2
       exact ⟨by first | rfl | (simp <;> rfl) | (simp [*] <;> rfl), kR0 HB⟩
      · rw [if_neg c14] at H
        exact absurd H (by simp)
     · rw [if_neg c13] at H
       exact absurd H (by simp)
    · rw [if_neg c12] at H
      have c12b0 : decide (x9_1 < (l0.length : Int)) = false := zS c12; clear c12
      simp only [Option.some.injEq, Prod.mk.injEq] at H
      obtain ⟨rfl, rfl⟩ := H
      go_wp2
      go_ret2
      exact ⟨by first | rfl | (simp <;> rfl) | (simp [*] <;> rfl), kR0 HB⟩

/-! ### impl_pageAt: function 76 -/
def impl_pageAt.f (k : Nat) (l0 : List (S79)) (a1 : Int) : Option (Int × Bool) := (slices_BinarySearchFunc_impl_pageAt_1.f k l0 a1).bind fun bt243 => (some (bt243.1, bt243.2))
theorem impl_pageAt.mono : ∀ a0 a1 k, LeO (impl_pageAt.f k a0 a1) (impl_pageAt.f (k + 1) a0 a1) := by
 intro a0 a1 k
 unfold impl_pageAt.f
 repeat' (with_reducible first | exact slices_BinarySearchFunc_impl_pageAt_1.mono _ _ _ | exact LeO.refl _ | exact LeO.none _ | refine LeO.ite ?_ ?_ | refine LeO.bind ?_ (fun _ => ?_))
set_option maxHeartbeats 8000000 in
set_option maxRecDepth 100000 in
theorem impl_pageAt.calls (k : Nat) (A0 : Option Addr) (c0 : Nat) (l0 : List (S79)) (a1 : Int) (r1 : Int) (r2 : Bool) (w : World) (hr0 : Kd.C k79 w A0 l0.length l0) (hc0 : l0.length ≤ c0) (h : impl_pageAt.f k l0 a1 = some (r1, r2)) :
 Calls Try.prog 76 #[.slice A0 l0.length c0, .int .i64 a1] w fun e w' => e = .returned (.tuple #[.int .i64 r1, .bool r2]) ∧ Below w.heap.size w w' := by
 have HR0 := yD hr0
 have HC0 := yD hc0
 clear hr0 hc0
 have HB := yD (Below.refl w.heap.size w)
 have H : ((slices_BinarySearchFunc_impl_pageAt_1.f k l0 a1).bind fun bt243 => (some (bt243.1, bt243.2))) = some (r1, r2) := h
 clear h
 obtain ⟨⟨t243, t244⟩, A30, H⟩ := zW_ H
 replace H : (some (t243, t244)) = some (r1, r2) := H
 have A3 := yD A30
 clear A30
 simp only [Option.some.injEq, Prod.mk.injEq] at H
 obtain ⟨rfl, rfl⟩ := H
 go_enter Try.func76, Try.ntmps76
 go_wp2_with (first | ((with_reducible refine gate_callee (f := 80) rfl ?_); refine gL 8 Try.func80 #[.slice A0 l0.length c0, .int .i64 a1, .func (.func 81) #[] #[]] ?_; (with_reducible refine (slices_BinarySearchFunc_impl_pageAt_1.calls k _ _ l0 a1  t243 t244 _ ?side1 ?side2 A3.out).mono ?_); (case side1 => repeat (first | exact HR0.out | (with_reducible first | refine yV ?_ _ | refine yW ?_ _ | refine yX ?_))); (case side2 => exact HC0.out); rintro e w4 ⟨rfl, hb⟩; refine ⟨_, rfl, ?_⟩; replace HB := yD (zC (kB HB) hb); clear hb))
 go_ret2
 exact ⟨by first | rfl | (simp <;> rfl) | (simp [*] <;> rfl), kR0 HB⟩

end Go.Proofs.Ytfblodggimjoaaa.PFnMerged
