/- Each Go function here comes to what the plain function of its name says, where that says something. Made by a program of this session, over the print. -/
import Derived.Test.YtdiaebjbiddefaaPFnExactSubtractBoxesx0
import Derived.Test.YtdiaebjbiddefaaPFnExactSubtractBoxesx11
namespace Go.Proofs.Ytdiaebjbiddefaa.PFnExactSubtractBoxes
open Go.RowKit Go.Proofs.YtdiaebjbiddefaaW.PrintWords Go.Proofs.YtdiaebjbiddefaaW.PrintLast Go.Proofs.YtdiaebjbiddefaaW.PrintMore
attribute [local go_sem] max2_int min2_int max_two min_two max_three min_three max_four min_four   -- for this text's walks alone
set_option linter.unusedVariables false
set_option linter.unusedSimpArgs false

/-! ### slices_EqualFunc_impl_sameBox: function 68 -/
def slices_EqualFunc_impl_sameBox.l0 : Nat → List (S42) → List (S42) → Int → Int → Option (Bool)
 | 0, _, _, _, _ => none
 | k + 1, x1, x15, x16, x17 => if x17 < x16 then (if 0 ≤ x17 then (if x17 < (x15.length : Int) then (if x17 < (x1.length : Int) then ((impl_sameBox.f k ((rd_T42 x15 x17).f0) ((rd_T42 x15 x17).f1) ((rd_T42 x1 x17).f0) ((rd_T42 x1 x17).f1)).bind fun t329 => (if t329 = true then (slices_EqualFunc_impl_sameBox.l0 k x1 x15 x16 (wrap64 (x17 + 1))) else (some false))) else (none)) else (none)) else (none)) else (some true)
def slices_EqualFunc_impl_sameBox.f (k : Nat) (l0 : List (S42)) (l1 : List (S42))  : Option (Bool) := if (l0.length : Int) = (l1.length : Int) then (slices_EqualFunc_impl_sameBox.l0 k l1 l0 (l0.length : Int) 0) else (some false)
theorem slices_EqualFunc_impl_sameBox.mono_l : ∀ k, (∀ y0 y1 y2 y3, LeO (slices_EqualFunc_impl_sameBox.l0 k y0 y1 y2 y3) (slices_EqualFunc_impl_sameBox.l0 (k + 1) y0 y1 y2 y3))
 | 0 => fun _ _ _ _ r h => by simp [slices_EqualFunc_impl_sameBox.l0] at h
 | k + 1 => by
  have ih0 := slices_EqualFunc_impl_sameBox.mono_l k
  · intro y0 y1 y2 y3
    unfold slices_EqualFunc_impl_sameBox.l0
    repeat' (with_reducible first | exact ih0 _ _ _ _ | exact impl_sameBox.mono _ _ _ _ _ | exact LeO.refl _ | exact LeO.none _ | refine LeO.ite ?_ ?_ | refine LeO.bind ?_ (fun _ => ?_))
theorem slices_EqualFunc_impl_sameBox.mono : ∀ a0 a1 k, LeO (slices_EqualFunc_impl_sameBox.f k a0 a1) (slices_EqualFunc_impl_sameBox.f (k + 1) a0 a1) := by
 intro a0 a1 k
 have ih0 := slices_EqualFunc_impl_sameBox.mono_l k
 unfold slices_EqualFunc_impl_sameBox.f
 repeat' (with_reducible first | exact ih0 _ _ _ _ | exact impl_sameBox.mono _ _ _ _ _ | exact LeO.refl _ | exact LeO.none _ | refine LeO.ite ?_ ?_ | refine LeO.bind ?_ (fun _ => ?_))
set_option maxHeartbeats 8000000 in
set_option maxRecDepth 100000 in
theorem slices_EqualFunc_impl_sameBox.calls (k : Nat) (A0 : Option Addr) (c0 : Nat) (l0 : List (S42)) (A1 : Option Addr) (c1 : Nat) (l1 : List (S42))  (r : Bool) (w : World) (hr0 : Kd.C k42 w A0 l0.length l0) (hc0 : l0.length ≤ c0) (hr1 : Kd.C k42 w A1 l1.length l1) (hc1 : l1.length ≤ c1) (h : slices_EqualFunc_impl_sameBox.f k l0 l1 = some r) :
 Calls Try.prog 68 #[.slice A0 l0.length c0, .slice A1 l1.length c1, .func (.func 69) #[] #[]] w fun e w' => e = .returned (.bool r) ∧ Below w.heap.size w w' := by
 have hu42 := Try.underlying42
 have HR0 := yD hr0
 have HC0 := yD hc0
 clear hr0 hc0
 have HR1 := yD hr1
 have HC1 := yD hc1
 clear hr1 hc1
 have HB := yD (Below.refl w.heap.size w)
 have H : (if (l0.length : Int) = (l1.length : Int) then (slices_EqualFunc_impl_sameBox.l0 k l1 l0 (l0.length : Int) 0) else (some false)) = some r := h
 clear h
 by_cases c4 : (l0.length : Int) = (l1.length : Int)
 ·
  rw [if_pos c4] at H
  have c4b0 : ((l0.length : Int) == (l1.length : Int)) = true := beq_iff_eq.mpr c4
  have c4b1 : ((l0.length : Int) != (l1.length : Int)) = false := bne_eq_false_iff_eq.mpr c4
  have c4b2 : (l0.length == l1.length) = true := by first | simpa using c4 | (simp at c4 ⊢; omega)
  clear c4
  have H' := yD H
  clear H; go_enter Try.func68, Try.ntmps68
  go_wp2
  go_loopg [17] k (fun kq v17 w' => ∃ (x17_1 : Int), v17 = .int .i64 x17_1 ∧ Aside0 (slices_EqualFunc_impl_sameBox.l0 kq l1 l0 (l0.length : Int) x17_1 = some r) ∧ Aside0 (kq ≤ k) ∧ Aside0 (Below w.heap.size w w'))
  case atStart => exact ⟨(0), (by first | rfl | (simp; done) | (simp [*]; done)), H', ⟨Nat.le_refl _⟩, ⟨kR1 HB⟩⟩
  case round =>
   clear H'
   try clear c1; try clear c4; try clear c4b0; try clear c4b1; try clear c4b2
   obtain ⟨x17_1, rfl, HA, HK1, HB⟩ := hrel
   cases gk with
   | zero => exact absurd HA.out (by simp [slices_EqualFunc_impl_sameBox.l0])
   | succ k1 =>
    have H := HA.out; clear HA
    simp only [slices_EqualFunc_impl_sameBox.l0] at H
    by_cases c5 : x17_1 < (l0.length : Int)
    ·
     rw [if_pos c5] at H
     have c5b0 : decide (x17_1 < (l0.length : Int)) = true := zR c5; clear c5
     by_cases c6 : 0 ≤ x17_1
     ·
      rw [if_pos c6] at H
      have c6b0 : decide (0 ≤ x17_1) = true := zR c6; clear c6
      by_cases c7 : x17_1 < (l0.length : Int)
      ·
       rw [if_pos c7] at H
       have c7b0 : decide (x17_1 < (l0.length : Int)) = true := zR c7; clear c7
       by_cases c8 : x17_1 < (l1.length : Int)
       ·
        rw [if_pos c8] at H
        have c8b0 : decide (x17_1 < (l1.length : Int)) = true := zR c8; clear c8
        obtain ⟨t329, A90, H⟩ := zW_ H
        replace H : (if t329 = true then (slices_EqualFunc_impl_sameBox.l0 k1 l1 l0 (l0.length : Int) (wrap64 (x17_1 + 1))) else (some false)) = some r := H
        have A9 := yD A90
        clear A90
        by_cases c10 : t329 = true
        ·
         subst c10
         replace H : (slices_EqualFunc_impl_sameBox.l0 k1 l1 l0 (l0.length : Int) (wrap64 (x17_1 + 1))) = some r := (by rw [if_pos rfl] at H; exact H)
         have H' := yD H
         clear H
         have p325 : 0 ≤ (x17_1 : Int) := zP (by assumption)
         have q325 : x17_1 < (l0.length : Int) := zP (by assumption)
         obtain ⟨ad325, A325_0, c325_0, A325_1, c325_1, e325, hx325_0, hx325_1, hl325_0, hi325_0, hl325_1, hi325_1⟩ := at_T42 HR0.out x17_1 p325 q325
         cases e325
         replace hx325_0 := (HB.out.cell (zQ w _ hx325_0)).trans hx325_0
         replace hx325_1 := (HB.out.cell (zQ w _ hx325_1)).trans hx325_1
         have HR325_0 := yD hi325_0
         have HC325_0 := yD hl325_0
         clear hi325_0 hl325_0
         have HR325_1 := yD hi325_1
         have HC325_1 := yD hl325_1
         clear hi325_1 hl325_1; replace p325 := eq_true p325; replace q325 := eq_true q325
         go_wp2_with (first | ((with_reducible refine gate_dst (N := 8) rfl ?_); refine box_event ?hg (N := 8) ?hd (cs := #[.slice none 0 0, .slice none 0 0]) (t := 42) ?hr ?_; (case hd => rfl); (case hg => rfl); (case hr => first | (go_simp; done) | (go_simp; rfl)); intro gb326 hg w11 hbox hb; have BK326 := yD (hbox); have GW326 := yD ((by rw [hg]; exact (below_size (kB HB)) : w.heap.size ≤ gb326)); have GE326 := yD ((by rw [hg]; exact (below_size (kB HB)) : w.heap.size ≤ gb326)); replace HB := yD (zC (kB HB) hb); clear hb hbox hg; obtain ⟨hcz12_0, hcz12_1⟩ := cz2 BK326.out; obtain ⟨hfz12_0, hfz12_1⟩ := fz2 BK326.out; have p327 : 0 ≤ (x17_1 : Int) := zP (by assumption); have q327 : x17_1 < (l1.length : Int) := zP (by assumption); obtain ⟨ad327, A327_0, c327_0, A327_1, c327_1, e327, hx327_0, hx327_1, hl327_0, hi327_0, hl327_1, hi327_1⟩ := at_T42 HR1.out x17_1 p327 q327; cases e327; have hn327_0 : ad327.block ≠ gb326 := Nat.ne_of_lt (Nat.lt_of_lt_of_le (by have := zQ _ _ hx327_0; first | rwa [add_block] at this | exact this) GW326.out); have hn327_1 : ad327.block ≠ gb326 := Nat.ne_of_lt (Nat.lt_of_lt_of_le (by have := zQ _ _ hx327_0; first | rwa [add_block] at this | exact this) GW326.out); replace hx327_0 := (HB.out.cell (zQ w _ hx327_0)).trans hx327_0; replace hx327_1 := (HB.out.cell (zQ w _ hx327_1)).trans hx327_1; have HR327_0 := yD hi327_0; have HC327_0 := yD hl327_0; clear hi327_0 hl327_0; have HR327_1 := yD hi327_1; have HC327_1 := yD hl327_1; clear hi327_1 hl327_1; replace hx327_0 := (cell_far (p := ⟨gb326, 0, none⟩) (by first | (rw [add_block]; exact hn327_0) | (show (Addr.add _ _).block ≠ _; rw [add_block]; exact hn327_0) | exact hn327_0) (.slice A325_0 ((rd_T42 l0 x17_1).f0).length c325_0)).trans hx327_0; replace hx327_1 := (cell_far (p := ⟨gb326, 0, none⟩) (by first | (rw [add_block]; exact hn327_0) | (show (Addr.add _ _).block ≠ _; rw [add_block]; exact hn327_0) | exact hn327_0) (.slice A325_0 ((rd_T42 l0 x17_1).f0).length c325_0)).trans hx327_1; replace hx327_0 := (cell_far (p := ⟨gb326, 1, none⟩) (by first | (rw [add_block]; exact hn327_1) | (show (Addr.add _ _).block ≠ _; rw [add_block]; exact hn327_1) | exact hn327_1) (.slice A325_1 ((rd_T42 l0 x17_1).f1).length c325_1)).trans hx327_0; replace hx327_1 := (cell_far (p := ⟨gb326, 1, none⟩) (by first | (rw [add_block]; exact hn327_1) | (show (Addr.add _ _).block ≠ _; rw [add_block]; exact hn327_1) | exact hn327_1) (.slice A325_1 ((rd_T42 l0 x17_1).f1).length c325_1)).trans hx327_1; clear hn327_0; clear hn327_1; replace p327 := eq_true p327; replace q327 := eq_true q327) | ((with_reducible refine gate_dst (N := 9) rfl ?_); refine box_event ?hg (N := 9) ?hd (cs := #[.slice none 0 0, .slice none 0 0]) (t := 42) ?hr ?_; (case hd => rfl); (case hg => rfl); (case hr => first | (go_simp; done) | (go_simp; rfl)); intro gb328 hg w13 hbox hb; have BK328 := yD (hbox); have GW328 := yD ((by rw [hg]; exact (below_size (kB HB)) : w.heap.size ≤ gb328)); have GE328 := yD ((by rw [hg]; exact (below_size (kB HB)) : w.heap.size ≤ gb328)); replace HB := yD (zC (kB HB) hb); have NB326_328 := yD ((by rw [hg]; exact Nat.ne_of_lt (blk_lt (g := gb326) (o := .cells #[.slice A325_0 ((rd_T42 l0 x17_1).f0).length c325_0, .slice A325_1 ((rd_T42 l0 x17_1).f1).length c325_1] 42 (0, 0)) (by (with_reducible repeat (first | refine yM ?_ _ | refine yO ?_ | refine yN ?_ _)); refine blk_put (cs := #[.slice A325_0 ((rd_T42 l0 x17_1).f0).length c325_0, .slice none 0 0]) ?_ 1 _ rfl; (with_reducible repeat (first | refine yM ?_ _ | refine yO ?_ | refine yN ?_ _)); refine blk_put (cs := #[.slice none 0 0, .slice none 0 0]) ?_ 0 _ rfl; (with_reducible repeat (first | refine yM ?_ _ | refine yO ?_ | refine yN ?_ _)); exact BK326.out)) : gb326 ≠ gb328)); have NB328_326 := yD ((by rw [hg]; exact Nat.ne_of_gt (blk_lt (g := gb326) (o := .cells #[.slice A325_0 ((rd_T42 l0 x17_1).f0).length c325_0, .slice A325_1 ((rd_T42 l0 x17_1).f1).length c325_1] 42 (0, 0)) (by (with_reducible repeat (first | refine yM ?_ _ | refine yO ?_ | refine yN ?_ _)); refine blk_put (cs := #[.slice A325_0 ((rd_T42 l0 x17_1).f0).length c325_0, .slice none 0 0]) ?_ 1 _ rfl; (with_reducible repeat (first | refine yM ?_ _ | refine yO ?_ | refine yN ?_ _)); refine blk_put (cs := #[.slice none 0 0, .slice none 0 0]) ?_ 0 _ rfl; (with_reducible repeat (first | refine yM ?_ _ | refine yO ?_ | refine yN ?_ _)); exact BK326.out)) : gb328 ≠ gb326)); replace BK326 := yD (zB (g := gb326) (o := .cells #[.slice A325_0 ((rd_T42 l0 x17_1).f0).length c325_0, .slice A325_1 ((rd_T42 l0 x17_1).f1).length c325_1] 42 (0, 0)) (by (with_reducible repeat (first | refine yM ?_ _ | refine yO ?_ | refine yN ?_ _)); refine blk_put (cs := #[.slice A325_0 ((rd_T42 l0 x17_1).f0).length c325_0, .slice none 0 0]) ?_ 1 _ rfl; (with_reducible repeat (first | refine yM ?_ _ | refine yO ?_ | refine yN ?_ _)); refine blk_put (cs := #[.slice none 0 0, .slice none 0 0]) ?_ 0 _ rfl; (with_reducible repeat (first | refine yM ?_ _ | refine yO ?_ | refine yN ?_ _)); exact BK326.out) hb); clear hb hbox hg; have hnb14 := NB328_326.out; have hnc14 := NB326_328.out; obtain ⟨hcz15_0, hcz15_1⟩ := cz2 BK328.out; obtain ⟨hfz15_0, hfz15_1⟩ := fz2 BK328.out; obtain ⟨hcz16_0, hcz16_1⟩ := cz2 BK326.out; obtain ⟨hfz16_0, hfz16_1⟩ := fz2 BK326.out) | (go_at_call 69; (with_reducible refine (impl_sameBox.calls k1 _ _ ((rd_T42 l0 x17_1).f0) _ _ ((rd_T42 l0 x17_1).f1) _ _ ((rd_T42 l1 x17_1).f0) _ _ ((rd_T42 l1 x17_1).f1) true _ ?side1 ?side2 ?side3 ?side4 ?side5 ?side6 ?side7 ?side8 A9.out).mono ?_); (case side1 => exact yY HR325_0.out (kB HB)); (case side2 => exact HC325_0.out); (case side3 => exact yY HR325_1.out (kB HB)); (case side4 => exact HC325_1.out); (case side5 => exact yY HR327_0.out (kB HB)); (case side6 => exact HC327_0.out); (case side7 => exact yY HR327_1.out (kB HB)); (case side8 => exact HC327_1.out); rintro e w17 ⟨rfl, hb⟩; replace BK326 := yD (zB (g := gb326) (o := .cells #[.slice A325_0 ((rd_T42 l0 x17_1).f0).length c325_0, .slice A325_1 ((rd_T42 l0 x17_1).f1).length c325_1] 42 (0, 0)) (by (with_reducible repeat (first | refine yM ?_ _ | refine yO ?_ | refine yN ?_ _)); refine blk_far ?_ NB326_328.out _; (with_reducible repeat (first | refine yM ?_ _ | refine yO ?_ | refine yN ?_ _)); refine blk_far ?_ NB326_328.out _; (with_reducible repeat (first | refine yM ?_ _ | refine yO ?_ | refine yN ?_ _)); exact BK326.out) hb); replace BK328 := yD (zB (g := gb328) (o := .cells #[.slice A327_0 ((rd_T42 l1 x17_1).f0).length c327_0, .slice A327_1 ((rd_T42 l1 x17_1).f1).length c327_1] 42 (0, 0)) (by (with_reducible repeat (first | refine yM ?_ _ | refine yO ?_ | refine yN ?_ _)); refine blk_put (cs := #[.slice A327_0 ((rd_T42 l1 x17_1).f0).length c327_0, .slice none 0 0]) ?_ 1 _ rfl; (with_reducible repeat (first | refine yM ?_ _ | refine yO ?_ | refine yN ?_ _)); refine blk_put (cs := #[.slice none 0 0, .slice none 0 0]) ?_ 0 _ rfl; (with_reducible repeat (first | refine yM ?_ _ | refine yO ?_ | refine yN ?_ _)); exact BK328.out) hb); replace HB := yD (zC (kB HB) hb); clear hb))
         go_roundg k1
         case measure => have := HK1.out; omega
         case rel => exact ⟨(wrap64 (x17_1 + 1)), (by first | rfl | (simp; done) | (simp [*]; done)), H', ⟨by have := HK1.out; omega⟩, ⟨kR0 HB⟩⟩
        ·
         replace c10 := Bool.eq_false_iff.mpr c10
         subst c10
         replace H : (some false) = some r := (by rw [if_neg (show ¬ (false = true) by decide)] at H; exact H); obtain rfl := Option.some.inj H
         have p325 : 0 ≤ (x17_1 : Int) := zP (by assumption)
         have q325 : x17_1 < (l0.length : Int) := zP (by assumption)
         obtain ⟨ad325, A325_0, c325_0, A325_1, c325_1, e325, hx325_0, hx325_1, hl325_0, hi325_0, hl325_1, hi325_1⟩ := at_T42 HR0.out x17_1 p325 q325
         cases e325
         replace hx325_0 := (HB.out.cell (zQ w _ hx325_0)).trans hx325_0
         replace hx325_1 := (HB.out.cell (zQ w _ hx325_1)).trans hx325_1
         have HR325_0 := yD hi325_0
         have HC325_0 := yD hl325_0
         clear hi325_0 hl325_0
         have HR325_1 := yD hi325_1
         have HC325_1 := yD hl325_1
         clear hi325_1 hl325_1; replace p325 := eq_true p325; replace q325 := eq_true q325
         go_wp2_with (first | ((with_reducible refine gate_dst (N := 8) rfl ?_); refine box_event ?hg (N := 8) ?hd (cs := #[.slice none 0 0, .slice none 0 0]) (t := 42) ?hr ?_; (case hd => rfl); (case hg => rfl); (case hr => first | (go_simp; done) | (go_simp; rfl)); intro gb326 hg w18 hbox hb; have BK326 := yD (hbox); have GW326 := yD ((by rw [hg]; exact (below_size (kB HB)) : w.heap.size ≤ gb326)); have GE326 := yD ((by rw [hg]; exact (below_size (kB HB)) : w.heap.size ≤ gb326)); replace HB := yD (zC (kB HB) hb); clear hb hbox hg; obtain ⟨hcz19_0, hcz19_1⟩ := cz2 BK326.out; obtain ⟨hfz19_0, hfz19_1⟩ := fz2 BK326.out; have p327 : 0 ≤ (x17_1 : Int) := zP (by assumption); have q327 : x17_1 < (l1.length : Int) := zP (by assumption); obtain ⟨ad327, A327_0, c327_0, A327_1, c327_1, e327, hx327_0, hx327_1, hl327_0, hi327_0, hl327_1, hi327_1⟩ := at_T42 HR1.out x17_1 p327 q327; cases e327; have hn327_0 : ad327.block ≠ gb326 := Nat.ne_of_lt (Nat.lt_of_lt_of_le (by have := zQ _ _ hx327_0; first | rwa [add_block] at this | exact this) GW326.out); have hn327_1 : ad327.block ≠ gb326 := Nat.ne_of_lt (Nat.lt_of_lt_of_le (by have := zQ _ _ hx327_0; first | rwa [add_block] at this | exact this) GW326.out); replace hx327_0 := (HB.out.cell (zQ w _ hx327_0)).trans hx327_0; replace hx327_1 := (HB.out.cell (zQ w _ hx327_1)).trans hx327_1; have HR327_0 := yD hi327_0; have HC327_0 := yD hl327_0; clear hi327_0 hl327_0; have HR327_1 := yD hi327_1; have HC327_1 := yD hl327_1; clear hi327_1 hl327_1; replace hx327_0 := (cell_far (p := ⟨gb326, 0, none⟩) (by first | (rw [add_block]; exact hn327_0) | (show (Addr.add _ _).block ≠ _; rw [add_block]; exact hn327_0) | exact hn327_0) (.slice A325_0 ((rd_T42 l0 x17_1).f0).length c325_0)).trans hx327_0; replace hx327_1 := (cell_far (p := ⟨gb326, 0, none⟩) (by first | (rw [add_block]; exact hn327_0) | (show (Addr.add _ _).block ≠ _; rw [add_block]; exact hn327_0) | exact hn327_0) (.slice A325_0 ((rd_T42 l0 x17_1).f0).length c325_0)).trans hx327_1; replace hx327_0 := (cell_far (p := ⟨gb326, 1, none⟩) (by first | (rw [add_block]; exact hn327_1) | (show (Addr.add _ _).block ≠ _; rw [add_block]; exact hn327_1) | exact hn327_1) (.slice A325_1 ((rd_T42 l0 x17_1).f1).length c325_1)).trans hx327_0; replace hx327_1 := (cell_far (p := ⟨gb326, 1, none⟩) (by first | (rw [add_block]; exact hn327_1) | (show (Addr.add _ _).block ≠ _; rw [add_block]; exact hn327_1) | exact hn327_1) (.slice A325_1 ((rd_T42 l0 x17_1).f1).length c325_1)).trans hx327_1; clear hn327_0; clear hn327_1; replace p327 := eq_true p327; replace q327 := eq_true q327) | ((with_reducible refine gate_dst (N := 9) rfl ?_); refine box_event ?hg (N := 9) ?hd (cs := #[.slice none 0 0, .slice none 0 0]) (t := 42) ?hr ?_; (case hd => rfl); (case hg => rfl); (case hr => first | (go_simp; done) | (go_simp; rfl)); intro gb328 hg w20 hbox hb; have BK328 := yD (hbox); have GW328 := yD ((by rw [hg]; exact (below_size (kB HB)) : w.heap.size ≤ gb328)); have GE328 := yD ((by rw [hg]; exact (below_size (kB HB)) : w.heap.size ≤ gb328)); replace HB := yD (zC (kB HB) hb); have NB326_328 := yD ((by rw [hg]; exact Nat.ne_of_lt (blk_lt (g := gb326) (o := .cells #[.slice A325_0 ((rd_T42 l0 x17_1).f0).length c325_0, .slice A325_1 ((rd_T42 l0 x17_1).f1).length c325_1] 42 (0, 0)) (by (with_reducible repeat (first | refine yM ?_ _ | refine yO ?_ | refine yN ?_ _)); refine blk_put (cs := #[.slice A325_0 ((rd_T42 l0 x17_1).f0).length c325_0, .slice none 0 0]) ?_ 1 _ rfl; (with_reducible repeat (first | refine yM ?_ _ | refine yO ?_ | refine yN ?_ _)); refine blk_put (cs := #[.slice none 0 0, .slice none 0 0]) ?_ 0 _ rfl; (with_reducible repeat (first | refine yM ?_ _ | refine yO ?_ | refine yN ?_ _)); exact BK326.out)) : gb326 ≠ gb328)); have NB328_326 := yD ((by rw [hg]; exact Nat.ne_of_gt (blk_lt (g := gb326) (o := .cells #[.slice A325_0 ((rd_T42 l0 x17_1).f0).length c325_0, .slice A325_1 ((rd_T42 l0 x17_1).f1).length c325_1] 42 (0, 0)) (by (with_reducible repeat (first | refine yM ?_ _ | refine yO ?_ | refine yN ?_ _)); refine blk_put (cs := #[.slice A325_0 ((rd_T42 l0 x17_1).f0).length c325_0, .slice none 0 0]) ?_ 1 _ rfl; (with_reducible repeat (first | refine yM ?_ _ | refine yO ?_ | refine yN ?_ _)); refine blk_put (cs := #[.slice none 0 0, .slice none 0 0]) ?_ 0 _ rfl; (with_reducible repeat (first | refine yM ?_ _ | refine yO ?_ | refine yN ?_ _)); exact BK326.out)) : gb328 ≠ gb326)); replace BK326 := yD (zB (g := gb326) (o := .cells #[.slice A325_0 ((rd_T42 l0 x17_1).f0).length c325_0, .slice A325_1 ((rd_T42 l0 x17_1).f1).length c325_1] 42 (0, 0)) (by (with_reducible repeat (first | refine yM ?_ _ | refine yO ?_ | refine yN ?_ _)); refine blk_put (cs := #[.slice A325_0 ((rd_T42 l0 x17_1).f0).length c325_0, .slice none 0 0]) ?_ 1 _ rfl; (with_reducible repeat (first | refine yM ?_ _ | refine yO ?_ | refine yN ?_ _)); refine blk_put (cs := #[.slice none 0 0, .slice none 0 0]) ?_ 0 _ rfl; (with_reducible repeat (first | refine yM ?_ _ | refine yO ?_ | refine yN ?_ _)); exact BK326.out) hb); clear hb hbox hg; have hnb21 := NB328_326.out; have hnc21 := NB326_328.out; obtain ⟨hcz22_0, hcz22_1⟩ := cz2 BK328.out; obtain ⟨hfz22_0, hfz22_1⟩ := fz2 BK328.out; obtain ⟨hcz23_0, hcz23_1⟩ := cz2 BK326.out; obtain ⟨hfz23_0, hfz23_1⟩ := fz2 BK326.out) | (go_at_call 69; (with_reducible refine (impl_sameBox.calls k1 _ _ ((rd_T42 l0 x17_1).f0) _ _ ((rd_T42 l0 x17_1).f1) _ _ ((rd_T42 l1 x17_1).f0) _ _ ((rd_T42 l1 x17_1).f1) false _ ?side1 ?side2 ?side3 ?side4 ?side5 ?side6 ?side7 ?side8 A9.out).mono ?_); (case side1 => exact yY HR325_0.out (kB HB)); (case side2 => exact HC325_0.out); (case side3 => exact yY HR325_1.out (kB HB)); (case side4 => exact HC325_1.out); (case side5 => exact yY HR327_0.out (kB HB)); (case side6 => exact HC327_0.out); (case side7 => exact yY HR327_1.out (kB HB)); (case side8 => exact HC327_1.out); rintro e w24 ⟨rfl, hb⟩; replace BK326 := yD (zB (g := gb326) (o := .cells #[.slice A325_0 ((rd_T42 l0 x17_1).f0).length c325_0, .slice A325_1 ((rd_T42 l0 x17_1).f1).length c325_1] 42 (0, 0)) (by (with_reducible repeat (first | refine yM ?_ _ | refine yO ?_ | refine yN ?_ _)); refine blk_far ?_ NB326_328.out _; (with_reducible repeat (first | refine yM ?_ _ | refine yO ?_ | refine yN ?_ _)); refine blk_far ?_ NB326_328.out _; (with_reducible repeat (first | refine yM ?_ _ | refine yO ?_ | refine yN ?_ _)); exact BK326.out) hb); replace BK328 := yD (zB (g := gb328) (o := .cells #[.slice A327_0 ((rd_T42 l1 x17_1).f0).length c327_0, .slice A327_1 ((rd_T42 l1 x17_1).f1).length c327_1] 42 (0, 0)) (by (with_reducible repeat (first | refine yM ?_ _ | refine yO ?_ | refine yN ?_ _)); refine blk_put (cs := #[.slice A327_0 ((rd_T42 l1 x17_1).f0).length c327_0, .slice none 0 0]) ?_ 1 _ rfl; (with_reducible repeat (first | refine yM ?_ _ | refine yO ?_ | refine yN ?_ _)); refine blk_put (cs := #[.slice none 0 0, .slice none 0 0]) ?_ 0 _ rfl; (with_reducible repeat (first | refine yM ?_ _ | refine yO ?_ | refine yN ?_ _)); exact BK328.out) hb); replace HB := yD (zC (kB HB) hb); clear hb))
         go_ret
         exact ⟨by first | rfl | (simp <;> rfl) | (simp [*] <;> rfl), kR0 HB⟩
       · rw [if_neg c8] at H
         exact absurd H (by simp)
      · rw [if_neg c7] at H
        exact absurd H (by simp)
     · rw [if_neg c6] at H
       exact absurd H (by simp)
    · rw [if_neg c5] at H
      have c5b0 : decide (x17_1 < (l0.length : Int)) = false := zS c5; clear c5; obtain rfl := Option.some.inj H
      go_wp2
      go_ret
      exact ⟨by first | rfl | (simp <;> rfl) | (simp [*] <;> rfl), kR1 HB⟩
 ·
  rw [if_neg c4] at H
  have c4b0 : ((l0.length : Int) == (l1.length : Int)) = false := beq_eq_false_iff_ne.mpr c4
  have c4b1 : ((l0.length : Int) != (l1.length : Int)) = true := bne_iff_ne.mpr c4
  have c4b2 : (l0.length == l1.length) = false := by first | simpa using c4 | (simp at c4 ⊢; omega)
  obtain rfl := Option.some.inj H; go_enter Try.func68, Try.ntmps68
  go_wp2
  go_ret
  exact ⟨by first | rfl | (simp <;> rfl) | (simp [*] <;> rfl), kR1 HB⟩

/-! ### impl_SameBoxes: function 31 -/
def impl_SameBoxes.f (k : Nat) (l0 : List (S42)) (l1 : List (S42)) : Option (Bool) := (slices_EqualFunc_impl_sameBox.f k l0 l1).bind fun t330 => (some t330)
theorem impl_SameBoxes.mono : ∀ a0 a1 k, LeO (impl_SameBoxes.f k a0 a1) (impl_SameBoxes.f (k + 1) a0 a1) := by
 intro a0 a1 k
 unfold impl_SameBoxes.f
 repeat' (with_reducible first | exact slices_EqualFunc_impl_sameBox.mono _ _ _ | exact LeO.refl _ | exact LeO.none _ | refine LeO.ite ?_ ?_ | refine LeO.bind ?_ (fun _ => ?_))
set_option maxHeartbeats 8000000 in
set_option maxRecDepth 100000 in
theorem impl_SameBoxes.calls (k : Nat) (A0 : Option Addr) (c0 : Nat) (l0 : List (S42)) (A1 : Option Addr) (c1 : Nat) (l1 : List (S42)) (r : Bool) (w : World) (hr0 : Kd.C k42 w A0 l0.length l0) (hc0 : l0.length ≤ c0) (hr1 : Kd.C k42 w A1 l1.length l1) (hc1 : l1.length ≤ c1) (h : impl_SameBoxes.f k l0 l1 = some r) :
 Calls Try.prog 31 #[.slice A0 l0.length c0, .slice A1 l1.length c1] w fun e w' => e = .returned (.bool r) ∧ Below w.heap.size w w' := by
 have HR0 := yD hr0
 have HC0 := yD hc0
 clear hr0 hc0
 have HR1 := yD hr1
 have HC1 := yD hc1
 clear hr1 hc1
 have HB := yD (Below.refl w.heap.size w)
 have H : ((slices_EqualFunc_impl_sameBox.f k l0 l1).bind fun t330 => (some t330)) = some r := h
 clear h
 obtain ⟨t330, A30, H⟩ := zW_ H
 replace H : (some t330) = some r := H
 have A3 := yD A30
 clear A30; obtain rfl := Option.some.inj H; go_enter Try.func31, Try.ntmps31
 go_wp2_with (first | ((with_reducible refine gate_callee (f := 68) rfl ?_); refine gL 7 Try.func68 #[.slice A0 l0.length c0, .slice A1 l1.length c1, .func (.func 69) #[] #[]] ?_; (with_reducible refine (slices_EqualFunc_impl_sameBox.calls k _ _ l0 _ _ l1  t330 _ ?side1 ?side2 ?side3 ?side4 A3.out).mono ?_); (case side1 => repeat (first | exact HR0.out | (with_reducible first | refine yV ?_ _ | refine yW ?_ _ | refine yX ?_))); (case side2 => exact HC0.out); (case side3 => repeat (first | exact HR1.out | (with_reducible first | refine yV ?_ _ | refine yW ?_ _ | refine yX ?_))); (case side4 => exact HC1.out); rintro e w4 ⟨rfl, hb⟩; refine ⟨_, rfl, ?_⟩; replace HB := yD (zC (kB HB) hb); clear hb))
 go_ret
 exact ⟨by first | rfl | (simp <;> rfl) | (simp [*] <;> rfl), kR1 HB⟩

/-! ### slices_Grow_nil_900008: function 159 -/
section
open Go.Shelf
def slices_Grow_nil_900008.ren : Go.Shelf.Ren := ⟨fun | 4 => 159 | n => n, fun | 22 => 36 | 25 => 2 | 3 => 3 | 4 => 4 | 9 => 9 | 20 => 20 | 0 => 0 | n => n, fun n => n⟩
theorem slices_Grow_nil_900008.lays : Go.Proofs.Lays8.n4 Try.prog slices_Grow_nil_900008.ren :=
 { mixed := by kernel_rfl, f4 := ⟨Try.f159.name, by decide, Try.func159.trans (congrArg some (by kernel_rfl))⟩, t0 := Try.underlying0, a0 := Try.isAgg0, z0 := Try.sizeOf0, v0 := Try.zeroValue0, t3 := Try.underlying3, a3 := Try.isAgg3, z3 := Try.sizeOf3, v3 := Try.zeroValue3, t4 := Try.underlying4, a4 := Try.isAgg4, z4 := Try.sizeOf4, v4 := Try.zeroValue4, t9 := Try.underlying9, a9 := Try.isAgg9, z9 := Try.sizeOf9, v9 := Try.zeroValue9, t20 := Try.underlying20, a20 := Try.isAgg20, z20 := Try.sizeOf20, v20 := Try.zeroValue20, t22 := Try.underlying36, a22 := Try.isAgg36, z22 := Try.sizeOf36, v22 := Try.zeroValue36 }

def slices_Grow_nil_900008.f (a1 : Int) : Option (List Int) := if 0 ≤ a1 ∧ a1 ≤ 1073741824 then some [] else none
theorem slices_Grow_nil_900008.info : (Try.prog.info? 2).map (fun i => (i.zero, i.size, i.bytes)) = some (some (.int .i64 0), 1, 8) := by kernel_rfl
theorem slices_Grow_nil_900008.calls (a1 : Int) (r : List Int) (w : World) (h : slices_Grow_nil_900008.f a1 = some r) :
 Calls Try.prog 159 #[.slice none 0 0, .int .i64 a1] w fun e w' => ∃ v0_ : Value, e = .returned (v0_) ∧ Kd.R (Kd.int .i64) 2 w' w.heap.size (fun _ => True) v0_ r ∧ Below w.heap.size w w' := by
 unfold slices_Grow_nil_900008.f at h
 split at h
 ·
  rename_i hc
  obtain ⟨h0, h1⟩ := hc
  obtain ⟨c, rfl⟩ : ∃ c : Nat, a1 = (c : Int) := ⟨a1.toNat, by omega⟩
  obtain rfl := Option.some.inj h
  by_cases hc0 : c = 0
  · subst hc0
    refine (Any8.slices_Grow_room slices_Grow_nil_900008.lays none 0 0 0 w (Nat.le_refl _) (by omega) (by omega) (by omega)).mono ?_
    rintro e w' ⟨rfl, rfl⟩
    exact ⟨_, rfl, Kd.R_nil _ _ _ _ _, Below.refl _ _⟩
  ·
   obtain ⟨i0, hi0, hz⟩ := Option.map_eq_some_iff.1 slices_Grow_nil_900008.info
   simp only [Prod.mk.injEq] at hz
   obtain ⟨hz0, hs0, hb0⟩ := hz
   refine (Any8.slices_Grow_grow slices_Grow_nil_900008.lays i0 _ hi0 hz0 (by omega) none 0 0 c [] w (Nat.le_refl _) (by omega) (by rw [hb0]; omega) (by omega) (by simp) (fun _ => rfl) (fun a ha => by cases ha)).mono ?_
   have hG := grownCap_le_maxLen w (0 + c) 0 2 (by unfold maxLen; omega)
   have hg := grownCap_ge w (0 + c) 0 2
   change grownCap w (0 + c) 0 (slices_Grow_nil_900008.ren.t 25) ≤ maxLen at hG
   change 0 + c ≤ grownCap w (0 + c) 0 (slices_Grow_nil_900008.ren.t 25) at hg
   generalize grownCap w (0 + c) 0 (slices_Grow_nil_900008.ren.t 25) = G at hG hg ⊢
   rintro e w' ⟨rfl, rfl⟩
   refine ⟨_, rfl, ⟨fun _ _ => trivial, [], ⟨by simp, .inr ⟨w.heap.size, G, ([] : List Value).toArray ++ Builtin.zeroCells (.int .i64 0 : Value).cells (0 + c - 0) ++ Builtin.zeroCells (.int .i64 0 : Value).cells (G - (0 + c)), rfl, Nat.le_refl _, ?_, Nat.zero_le _, hG, ?_, by simp⟩⟩, Reps.none _ _⟩, below_alloc (below_drew (Below.refl _ _)) _⟩
   · show (w.heap.push _)[w.heap.size]? = _
     rw [Array.getElem?_push_size]
     rfl
   · simp only [Array.size_append, size_zeroCells, List.size_toArray, List.length_nil, Nat.zero_add, Nat.sub_zero, ← Nat.add_mul]
     show _ = G * 1
     have : c + (G - c) = G := by omega
     rw [this]
     rfl
 · cases h
end

/-! ### slices_Concat_int64_int64: function 146 -/
mutual
def slices_Concat_int64_int64.l0 : Nat → List (List Int) → Int → List (List Int) → Int → Int → Option (List Int)
 | 0, _, _, _, _, _ => none
 | k + 1, x0, x3, x9, x10, x11 => if x11 < x10 then (if 0 ≤ x11 then (if x11 < (x9.length : Int) then (if (wrap64 (x3 + ((rd_L1 x9 x11).length : Int))) < 0 then (none) else (slices_Concat_int64_int64.l0 k x0 (wrap64 (x3 + ((rd_L1 x9 x11).length : Int))) x9 x10 (wrap64 (x11 + 1)))) else (none)) else (none)) else ((slices_Grow_nil_900008.f x3).bind fun t332 => (slices_Concat_int64_int64.l1 k t332 x0 (x0.length : Int) 0))
def slices_Concat_int64_int64.l1 : Nat → List Int → List (List Int) → Int → Int → Option (List Int)
 | 0, _, _, _, _ => none
 | k + 1, x6, x25, x26, x27 => if x27 < x26 then (if 0 ≤ x27 then (if x27 < (x25.length : Int) then (if x6.length + (rd_L1 x25 x27).length < 17592186044416 then (slices_Concat_int64_int64.l1 k (x6 ++ (rd_L1 x25 x27)) x25 x26 (wrap64 (x27 + 1))) else (none)) else (none)) else (none)) else (some x6)
end
def slices_Concat_int64_int64.f (k : Nat) (l0 : List (List Int)) : Option (List Int) := slices_Concat_int64_int64.l0 k l0 0 l0 (l0.length : Int) 0
theorem slices_Concat_int64_int64.mono_l : ∀ k, (∀ y0 y1 y2 y3 y4, LeO (slices_Concat_int64_int64.l0 k y0 y1 y2 y3 y4) (slices_Concat_int64_int64.l0 (k + 1) y0 y1 y2 y3 y4)) ∧ (∀ y0 y1 y2 y3, LeO (slices_Concat_int64_int64.l1 k y0 y1 y2 y3) (slices_Concat_int64_int64.l1 (k + 1) y0 y1 y2 y3))
 | 0 => ⟨fun _ _ _ _ _ r h => by simp [slices_Concat_int64_int64.l0] at h, fun _ _ _ _ r h => by simp [slices_Concat_int64_int64.l1] at h⟩
 | k + 1 => by
  obtain ⟨ih0, ih1⟩ := slices_Concat_int64_int64.mono_l k
  refine ⟨?_, ?_⟩
  · intro y0 y1 y2 y3 y4
    unfold slices_Concat_int64_int64.l0
    repeat' (with_reducible first | exact ih0 _ _ _ _ _ | exact ih1 _ _ _ _ | exact LeO.refl _ | exact LeO.none _ | refine LeO.ite ?_ ?_ | refine LeO.bind ?_ (fun _ => ?_))
  · intro y0 y1 y2 y3
    unfold slices_Concat_int64_int64.l1
    repeat' (with_reducible first | exact ih0 _ _ _ _ _ | exact ih1 _ _ _ _ | exact LeO.refl _ | exact LeO.none _ | refine LeO.ite ?_ ?_ | refine LeO.bind ?_ (fun _ => ?_))
theorem slices_Concat_int64_int64.mono : ∀ a0 k, LeO (slices_Concat_int64_int64.f k a0) (slices_Concat_int64_int64.f (k + 1) a0) := by
 intro a0 k
 obtain ⟨ih0, ih1⟩ := slices_Concat_int64_int64.mono_l k
 unfold slices_Concat_int64_int64.f
 repeat' (with_reducible first | exact ih0 _ _ _ _ _ | exact ih1 _ _ _ _ | exact LeO.refl _ | exact LeO.none _ | refine LeO.ite ?_ ?_ | refine LeO.bind ?_ (fun _ => ?_))
set_option maxHeartbeats 8000000 in
set_option maxRecDepth 100000 in
theorem slices_Concat_int64_int64.calls (k : Nat) (A0 : Option Addr) (c0 : Nat) (l0 : List (List Int)) (r : List Int) (w : World) (hr0 : Kd.C (Kd.slice 2 (Kd.int .i64)) w A0 l0.length l0) (hc0 : l0.length ≤ c0) (h : slices_Concat_int64_int64.f k l0 = some r) :
 Calls Try.prog 146 #[.slice A0 l0.length c0] w fun e w' => ∃ v0_ : Value, e = .returned (v0_) ∧ Kd.R (Kd.int .i64) 2 w' w.heap.size (fun _ => True) v0_ r ∧ Below w.heap.size w w' := by
 have HR0 := yD hr0
 have HC0 := yD hc0
 clear hr0 hc0
 have HB := yD (Below.refl w.heap.size w)
 have H : (slices_Concat_int64_int64.l0 k l0 0 l0 (l0.length : Int) 0) = some r := h
 clear h
 have H' := yD H
 clear H; go_enter Try.func146, Try.ntmps146
 go_wp2
 go_loopg [3, 11] k (fun kq v3 v11 w' => ∃ (x3_1 : Int) (x11_1 : Int), v3 = .int .i64 x3_1 ∧ v11 = .int .i64 x11_1 ∧ Aside0 (slices_Concat_int64_int64.l0 kq l0 x3_1 l0 (l0.length : Int) x11_1 = some r) ∧ Aside0 (kq ≤ k) ∧ Aside0 (Below w.heap.size w w'))
 case atStart => exact ⟨(0), (0), (by first | rfl | (simp; done) | (simp [*]; done)), (by first | rfl | (simp; done) | (simp [*]; done)), H', ⟨Nat.le_refl _⟩, ⟨kR1 HB⟩⟩
 case round =>
  clear H'
  try clear c1
  obtain ⟨x3_1, x11_1, rfl, rfl, HA, HK1, HB⟩ := hrel
  cases gk with
  | zero => exact absurd HA.out (by simp [slices_Concat_int64_int64.l0])
  | succ k1 =>
   have H := HA.out; clear HA
   simp only [slices_Concat_int64_int64.l0] at H
   by_cases c2 : x11_1 < (l0.length : Int)
   ·
    rw [if_pos c2] at H
    have c2b0 : decide (x11_1 < (l0.length : Int)) = true := zR c2; clear c2
    by_cases c3 : 0 ≤ x11_1
    ·
     rw [if_pos c3] at H
     have c3b0 : decide (0 ≤ x11_1) = true := zR c3; clear c3
     by_cases c4 : x11_1 < (l0.length : Int)
     ·
      rw [if_pos c4] at H
      have c4b0 : decide (x11_1 < (l0.length : Int)) = true := zR c4; clear c4
      by_cases c5 : (wrap64 (x3_1 + ((rd_L1 l0 x11_1).length : Int))) < 0
      · rw [if_pos c5] at H
        exact absurd H (by simp)
      ·
       rw [if_neg c5] at H
       have c5b0 : decide ((wrap64 (x3_1 + ((rd_L1 l0 x11_1).length : Int))) < 0) = false := zS c5; clear c5
       have H' := yD H
       clear H
       have p331 : 0 ≤ (x11_1 : Int) := zP (by assumption)
       have q331 : x11_1 < (l0.length : Int) := zP (by assumption)
       obtain ⟨ad331, A331_0, c331_0, e331, hx331_0, hl331_0, hi331_0⟩ := at_L1 HR0.out x11_1 p331 q331
       cases e331
       replace hx331_0 := (HB.out.cell (zQ w _ hx331_0)).trans hx331_0
       have HR331_0 := yD hi331_0
       have HC331_0 := yD hl331_0
       clear hi331_0 hl331_0; replace p331 := eq_true p331; replace q331 := eq_true q331
       go_wp2
       go_roundg k1
       case measure => have := HK1.out; omega
       case rel => exact ⟨(wrap64 (x3_1 + ((rd_L1 l0 x11_1).length : Int))), (wrap64 (x11_1 + 1)), (by first | rfl | (simp; done) | (simp [*]; done)), (by first | rfl | (simp; done) | (simp [*]; done)), H', ⟨by have := HK1.out; omega⟩, ⟨kR1 HB⟩⟩
     · rw [if_neg c4] at H
       exact absurd H (by simp)
    · rw [if_neg c3] at H
      exact absurd H (by simp)
   ·
    rw [if_neg c2] at H
    have c2b0 : decide (x11_1 < (l0.length : Int)) = false := zS c2; clear c2
    obtain ⟨t332, A60, H⟩ := zW_ H
    replace H : (slices_Concat_int64_int64.l1 k1 t332 l0 (l0.length : Int) 0) = some r := H
    have A6 := yD A60
    clear A60
    have H' := yD H
    clear H
    go_wp2_with (first | ((with_reducible refine gate_callee (f := 159) rfl ?_); refine gL 24 Try.func159 #[.slice none 0 0, .int .i64 x3_1] ?_; (with_reducible refine (slices_Grow_nil_900008.calls  x3_1 t332 _ A6.out).mono ?_); rintro e w7 ⟨v333, rfl, ho0, hb⟩; refine ⟨_, rfl, ?_⟩; have HO334 := yD (yZ ho0 (below_size (kB HB))); replace HB := yD (zC (kB HB) hb); clear hb ho0))
    (try simp only [Act.put, zH, zI, zJ])
    go_loopg [6, 27] k1 (fun kq v6 v27 w' => ∃ (x6_2 : List Int) (x27_2 : Int), v27 = .int .i64 x27_2 ∧ Aside0 (slices_Concat_int64_int64.l1 kq x6_2 l0 (l0.length : Int) x27_2 = some r) ∧ Aside0 (kq ≤ k1) ∧ Aside0 (Kd.R (Kd.int .i64) 2 w' w.heap.size (fun _ => True) v6 x6_2) ∧ Aside0 (Below w.heap.size w w'))
    case atStart => exact ⟨(t332), (0), (by first | rfl | (simp; done) | (simp [*]; done)), H', ⟨Nat.le_refl _⟩, ⟨kA HO334⟩, ⟨kR1 HB⟩⟩
    case round =>
     clear H'
     try clear c1; try clear c2; try clear c2b0; try clear c3; try clear c3b0; try clear c4; try clear c4b0; try clear c5; try clear c5b0; try clear hx331_0; try clear p331; try clear q331
     obtain ⟨x6_2, x27_2, rfl, HA, HK2, HO_6, HB⟩ := hrel
     cases gk with
     | zero => exact absurd HA.out (by simp [slices_Concat_int64_int64.l1])
     | succ k2 =>
      have H := HA.out; clear HA
      simp only [slices_Concat_int64_int64.l1] at H
      by_cases c8 : x27_2 < (l0.length : Int)
      ·
       rw [if_pos c8] at H
       have c8b0 : decide (x27_2 < (l0.length : Int)) = true := zR c8; clear c8
       by_cases c9 : 0 ≤ x27_2
       ·
        rw [if_pos c9] at H
        have c9b0 : decide (0 ≤ x27_2) = true := zR c9; clear c9
        by_cases c10 : x27_2 < (l0.length : Int)
        ·
         rw [if_pos c10] at H
         have c10b0 : decide (x27_2 < (l0.length : Int)) = true := zR c10; clear c10
         by_cases c11 : x6_2.length + (rd_L1 l0 x27_2).length < 17592186044416
         ·
          rw [if_pos c11] at H
          have LMc11 := yD c11
          clear c11
          obtain ⟨y336, hy336⟩ : ∃ y_ : List Int, y_ = (x6_2 ++ (rd_L1 l0 x27_2)) := ⟨_, rfl⟩
          replace H : (slices_Concat_int64_int64.l1 k2 y336 l0 (l0.length : Int) (wrap64 (x27_2 + 1))) = some r := by first | (rw [hy336]; with_reducible exact H) | (have H2_ := (Option.bind_some _ _).symm.trans H; rw [hy336]; with_reducible exact H2_) | (have H2_ := (Option.bind_some _ _).symm.trans H; with_reducible exact H2_) | with_reducible exact H | (rw [hy336]; exact H) | exact H
          have Ny336 := yD hy336
          clear hy336
          have H' := yD H
          clear H
          have p335 : 0 ≤ (x27_2 : Int) := zP (by assumption)
          have q335 : x27_2 < (l0.length : Int) := zP (by assumption)
          obtain ⟨ad335, A335_0, c335_0, e335, hx335_0, hl335_0, hi335_0⟩ := at_L1 HR0.out x27_2 p335 q335
          cases e335
          replace hx335_0 := (HB.out.cell (zQ w _ hx335_0)).trans hx335_0
          have HR335_0 := yD hi335_0
          have HC335_0 := yD hl335_0
          clear hi335_0 hl335_0; replace p335 := eq_true p335; replace q335 := eq_true q335
          go_wp2_with (first | ((with_reducible refine gate_builtin (b := .append) (xs := #[.tmp 31, .tmp 32]) rfl ?_); at_builtin; refine Kd.R_append_rows (Kd.int .i64) (w0 := w) w.heap.size rfl (.tmp 31) (.tmp 32) 36 2 (.int .i64 0) 8 rfl Try.underlying36 info2 rfl (by decide) (by omega) u6 x6_2 (rd_L1 l0 x27_2) _ _ _ (fun _ => True) (fun _ => False) rfl rfl ?aO ?aR (fun _ _ h => h) (fun _ h => h.elim) ?aF ?aB ?aS ?aL ?_; (case aR => exact kV (yY HR335_0.out HB.out)); (case aB => exact (kB HB)); (case aF => exact (fun _ _ => trivial)); (case aO => exact (kA HO_6)); (case aS => exact (below_size (kB HB))); (case aL => have := LMc11.out; omega); intro v337 w12 ho hb hg hat; rw [← Ny336.out] at ho; replace HB := yD (hb); have HO338 := yD (ho); clear HO_6; clear ho hb hg hat))
          go_roundg k2
          case measure => have := HK1.out; have := HK2.out; omega
          case rel => exact ⟨(y336), (wrap64 (x27_2 + 1)), (by first | rfl | (simp; done) | (simp [*]; done)), H', ⟨by have := HK1.out; have := HK2.out; omega⟩, ⟨kA HO338⟩, ⟨kR1 HB⟩⟩
         · rw [if_neg c11] at H
           exact absurd H (by simp)
        · rw [if_neg c10] at H
          exact absurd H (by simp)
       · rw [if_neg c9] at H
         exact absurd H (by simp)
      · rw [if_neg c8] at H
        have c8b0 : decide (x27_2 < (l0.length : Int)) = false := zS c8; clear c8; obtain rfl := Option.some.inj H
        go_wp2
        go_ret
        exact ⟨_, by first | rfl | (simp <;> rfl) | (simp [*] <;> rfl), kA HO_6, kR1 HB⟩

end Go.Proofs.Ytdiaebjbiddefaa.PFnExactSubtractBoxes
