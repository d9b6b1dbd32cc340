/- Each Go function here comes to what the plain function of its name says, where that says something. Made by a program of this session, over the print. -/
import Derived.Test.YtfblodggimjoaaaPFnExactMergePagesx0
namespace Go.Proofs.Ytfblodggimjoaaa.PFnExactMergePages
open Go.RowKit Go.Proofs.YtfblodggimjoaaaW.PrintWords Go.Proofs.YtfblodggimjoaaaW.PrintLast Go.Proofs.YtfblodggimjoaaaW.PrintMore
attribute [local go_sem] max2_int min2_int max_two min_two max_three min_three max_four min_four   -- for this text's walks alone
set_option linter.unusedVariables false
set_option linter.unusedSimpArgs false

/-! ### laws_szPage: function 48 -/
def laws_szPage.f (a0_0 : Int) (a0_1 : ByteArray) (a1 : Int) : Option (Int) := if (wrap64 (a1 - (a0_1.size : Int))) < 0 then (some (-1)) else (some (wrap64 (a1 - (a0_1.size : Int))))
set_option maxHeartbeats 8000000 in
set_option maxRecDepth 100000 in
theorem laws_szPage.calls (a0_0 : Int) (a0_1 : ByteArray) (a1 : Int) (r : Int) (w : World) (h : laws_szPage.f a0_0 a0_1 a1 = some r) :
 Calls Try.prog 48 #[.agg #[.int .i64 a0_0, .string a0_1], .int .i64 a1] w fun e w' => e = .returned (.int .i64 r) ∧ Below w.heap.size w w' := by
 have hu78 := Try.underlying78
 have HB := yD (Below.refl w.heap.size w)
 have H : (if (wrap64 (a1 - (a0_1.size : Int))) < 0 then (some (-1)) else (some (wrap64 (a1 - (a0_1.size : Int))))) = some r := h
 clear h
 by_cases c3 : (wrap64 (a1 - (a0_1.size : Int))) < 0
 · rw [if_pos c3] at H
   have c3b0 : decide ((wrap64 (a1 - (a0_1.size : Int))) < 0) = true := zR c3; clear c3; obtain rfl := Option.some.inj H; go_enter Try.func48, Try.ntmps48
   go_wp2_with (first | ((with_reducible refine gate_dst (N := 2) rfl ?_); refine box_event ?hg (N := 2) ?hd (cs := #[.int .i64 a0_0, .string a0_1]) (t := 78) ?hr ?_; (case hd => rfl); (case hg => rfl); (case hr => first | (go_simp; done) | (go_simp; rfl)); intro gb101 hg w4 hbox hb; have BK101 := yD (hbox); have GW101 := yD ((by rw [hg]; exact (below_size (kB HB)) : w.heap.size ≤ gb101)); have GE101 := yD ((by rw [hg]; exact (below_size (kB HB)) : w.heap.size ≤ gb101)); replace HB := yD (zC (kB HB) hb); clear hb hbox hg; obtain ⟨hcz5_0, hcz5_1⟩ := cz2 BK101.out; obtain ⟨hfz5_0, hfz5_1⟩ := fz2 BK101.out))
   go_ret
   exact ⟨by first | rfl | (simp <;> rfl) | (simp [*] <;> rfl), kR0 HB⟩
 ·
  rw [if_neg c3] at H
  have c3b0 : decide ((wrap64 (a1 - (a0_1.size : Int))) < 0) = false := zS c3; clear c3; obtain rfl := Option.some.inj H; go_enter Try.func48, Try.ntmps48
  go_wp2_with (first | ((with_reducible refine gate_dst (N := 2) rfl ?_); refine box_event ?hg (N := 2) ?hd (cs := #[.int .i64 a0_0, .string a0_1]) (t := 78) ?hr ?_; (case hd => rfl); (case hg => rfl); (case hr => first | (go_simp; done) | (go_simp; rfl)); intro gb101 hg w6 hbox hb; have BK101 := yD (hbox); have GW101 := yD ((by rw [hg]; exact (below_size (kB HB)) : w.heap.size ≤ gb101)); have GE101 := yD ((by rw [hg]; exact (below_size (kB HB)) : w.heap.size ≤ gb101)); replace HB := yD (zC (kB HB) hb); clear hb hbox hg; obtain ⟨hcz7_0, hcz7_1⟩ := cz2 BK101.out; obtain ⟨hfz7_0, hfz7_1⟩ := fz2 BK101.out))
  go_ret
  exact ⟨by first | rfl | (simp <;> rfl) | (simp [*] <;> rfl), kR0 HB⟩

/-! ### laws_szPageS: function 12 -/
def laws_szPageS.l0 : Nat → List (S78) → Int → Int → Option (Int)
 | 0, _, _, _ => none
 | k + 1, x0, x1, x5 => if x5 < (x0.length : Int) then (if 0 ≤ x5 then ((laws_szPage.f ((rd_T78 x0 x5).f0) ((rd_T78 x0 x5).f1) x1).bind fun t103 => (if t103 < 0 then (some (-1)) else (laws_szPageS.l0 k x0 t103 (wrap64 (x5 + 1))))) else (none)) else (some x1)
def laws_szPageS.f (k : Nat) (l0 : List (S78)) (a1 : Int) : Option (Int) := if (wrap64 (a1 - (l0.length : Int))) < 0 then (some (-1)) else (laws_szPageS.l0 k l0 (wrap64 (a1 - (l0.length : Int))) 0)
theorem laws_szPageS.mono_l : ∀ k, (∀ y0 y1 y2, LeO (laws_szPageS.l0 k y0 y1 y2) (laws_szPageS.l0 (k + 1) y0 y1 y2))
 | 0 => fun _ _ _ r h => by simp [laws_szPageS.l0] at h
 | k + 1 => by
  have ih0 := laws_szPageS.mono_l k
  · intro y0 y1 y2
    unfold laws_szPageS.l0
    repeat' (with_reducible first | exact ih0 _ _ _ | exact LeO.refl _ | exact LeO.none _ | refine LeO.ite ?_ ?_ | refine LeO.bind ?_ (fun _ => ?_))
theorem laws_szPageS.mono : ∀ a0 a1 k, LeO (laws_szPageS.f k a0 a1) (laws_szPageS.f (k + 1) a0 a1) := by
 intro a0 a1 k
 have ih0 := laws_szPageS.mono_l k
 unfold laws_szPageS.f
 repeat' (with_reducible first | exact ih0 _ _ _ | exact LeO.refl _ | exact LeO.none _ | refine LeO.ite ?_ ?_ | refine LeO.bind ?_ (fun _ => ?_))
set_option maxHeartbeats 8000000 in
set_option maxRecDepth 100000 in
theorem laws_szPageS.calls (k : Nat) (A0 : Option Addr) (c0 : Nat) (l0 : List (S78)) (a1 : Int) (r : Int) (w : World) (hr0 : Kd.C k78 w A0 l0.length l0) (hc0 : l0.length ≤ c0) (h : laws_szPageS.f k l0 a1 = some r) :
 Calls Try.prog 12 #[.slice A0 l0.length c0, .int .i64 a1] w fun e w' => e = .returned (.int .i64 r) ∧ Below w.heap.size w w' := by
 have hu78 := Try.underlying78
 have HR0 := yD hr0
 have HC0 := yD hc0
 clear hr0 hc0
 have HB := yD (Below.refl w.heap.size w)
 have H : (if (wrap64 (a1 - (l0.length : Int))) < 0 then (some (-1)) else (laws_szPageS.l0 k l0 (wrap64 (a1 - (l0.length : Int))) 0)) = some r := h
 clear h
 by_cases c3 : (wrap64 (a1 - (l0.length : Int))) < 0
 · rw [if_pos c3] at H
   have c3b0 : decide ((wrap64 (a1 - (l0.length : Int))) < 0) = true := zR c3; clear c3; obtain rfl := Option.some.inj H; go_enter Try.func12, Try.ntmps12
   go_wp2
   go_ret
   exact ⟨by first | rfl | (simp <;> rfl) | (simp [*] <;> rfl), kR1 HB⟩
 ·
  rw [if_neg c3] at H
  have c3b0 : decide ((wrap64 (a1 - (l0.length : Int))) < 0) = false := zS c3; clear c3
  have H' := yD H
  clear H; go_enter Try.func12, Try.ntmps12
  go_wp2
  go_loopg [1, 5] k (fun kq v1 v5 w' => ∃ (x1_1 : Int) (x5_1 : Int), v1 = .int .i64 x1_1 ∧ v5 = .int .i64 x5_1 ∧ Aside0 (laws_szPageS.l0 kq l0 x1_1 x5_1 = some r) ∧ Aside0 (kq ≤ k) ∧ Aside0 (Below w.heap.size w w'))
  case atStart => exact ⟨(wrap64 (a1 - (l0.length : Int))), (0), (by first | rfl | (simp; done) | (simp [*]; done)), (by first | rfl | (simp; done) | (simp [*]; done)), H', ⟨Nat.le_refl _⟩, ⟨kR1 HB⟩⟩
  case round =>
   clear H'
   try clear c1; try clear c3; try clear c3b0
   obtain ⟨x1_1, x5_1, rfl, rfl, HA, HK1, HB⟩ := hrel
   cases gk with
   | zero => exact absurd HA.out (by simp [laws_szPageS.l0])
   | succ k1 =>
    have H := HA.out; clear HA
    simp only [laws_szPageS.l0] at H
    by_cases c4 : x5_1 < (l0.length : Int)
    ·
     rw [if_pos c4] at H
     have c4b0 : decide (x5_1 < (l0.length : Int)) = true := zR c4; clear c4
     by_cases c5 : 0 ≤ x5_1
     ·
      rw [if_pos c5] at H
      have c5b0 : decide (0 ≤ x5_1) = true := zR c5; clear c5
      obtain ⟨t103, A60, H⟩ := zW_ H
      replace H : (if t103 < 0 then (some (-1)) else (laws_szPageS.l0 k1 l0 t103 (wrap64 (x5_1 + 1)))) = some r := H
      have A6 := yD A60
      clear A60
      by_cases c7 : t103 < 0
      ·
       rw [if_pos c7] at H
       have c7b0 : decide (t103 < 0) = true := zR c7; clear c7; obtain rfl := Option.some.inj H
       have p102 : 0 ≤ (x5_1 : Int) := zP (by assumption)
       have q102 : x5_1 < (l0.length : Int) := zP (by assumption)
       obtain ⟨ad102, e102, hx102_0, hx102_1⟩ := at_T78 HR0.out x5_1 p102 q102
       cases e102
       replace hx102_0 := (HB.out.cell (zQ w _ hx102_0)).trans hx102_0
       replace hx102_1 := (HB.out.cell (zQ w _ hx102_1)).trans hx102_1
       replace p102 := eq_true p102; replace q102 := eq_true q102
       go_wp2_with (first | ((with_reducible refine gate_callee (f := 48) rfl ?_); refine gL 23 Try.func48 #[.agg #[.int .i64 ((rd_T78 l0 x5_1).f0), .string ((rd_T78 l0 x5_1).f1)], .int .i64 x1_1] ?_; (with_reducible refine (laws_szPage.calls ((rd_T78 l0 x5_1).f0) ((rd_T78 l0 x5_1).f1) x1_1 t103 _ A6.out).mono ?_); rintro e w8 ⟨rfl, hb⟩; refine ⟨_, rfl, ?_⟩; replace HB := yD (zC (kB HB) hb); clear hb))
       go_ret
       exact ⟨by first | rfl | (simp <;> rfl) | (simp [*] <;> rfl), kR1 HB⟩
      ·
       rw [if_neg c7] at H
       have c7b0 : decide (t103 < 0) = false := zS c7; clear c7
       have H' := yD H
       clear H
       have p102 : 0 ≤ (x5_1 : Int) := zP (by assumption)
       have q102 : x5_1 < (l0.length : Int) := zP (by assumption)
       obtain ⟨ad102, e102, hx102_0, hx102_1⟩ := at_T78 HR0.out x5_1 p102 q102
       cases e102
       replace hx102_0 := (HB.out.cell (zQ w _ hx102_0)).trans hx102_0
       replace hx102_1 := (HB.out.cell (zQ w _ hx102_1)).trans hx102_1
       replace p102 := eq_true p102; replace q102 := eq_true q102
       go_wp2_with (first | ((with_reducible refine gate_callee (f := 48) rfl ?_); refine gL 23 Try.func48 #[.agg #[.int .i64 ((rd_T78 l0 x5_1).f0), .string ((rd_T78 l0 x5_1).f1)], .int .i64 x1_1] ?_; (with_reducible refine (laws_szPage.calls ((rd_T78 l0 x5_1).f0) ((rd_T78 l0 x5_1).f1) x1_1 t103 _ A6.out).mono ?_); rintro e w9 ⟨rfl, hb⟩; refine ⟨_, rfl, ?_⟩; replace HB := yD (zC (kB HB) hb); clear hb))
       go_roundg k1
       case measure => have := HK1.out; omega
       case rel => exact ⟨(t103), (wrap64 (x5_1 + 1)), (by first | rfl | (simp; done) | (simp [*]; done)), (by first | rfl | (simp; done) | (simp [*]; done)), H', ⟨by have := HK1.out; omega⟩, ⟨kR1 HB⟩⟩
     · rw [if_neg c5] at H
       exact absurd H (by simp)
    · rw [if_neg c4] at H
      have c4b0 : decide (x5_1 < (l0.length : Int)) = false := zS c4; clear c4; obtain rfl := Option.some.inj H
      go_wp2
      go_ret
      exact ⟨by first | rfl | (simp <;> rfl) | (simp [*] <;> rfl), kR1 HB⟩

/-! ### laws_toPage: function 51 -/
def laws_toPage.f (a0_0 : Int) (a0_1 : ByteArray) : Option (Int × ByteArray) := some (a0_0, a0_1)
set_option maxHeartbeats 8000000 in
set_option maxRecDepth 100000 in
theorem laws_toPage.calls (a0_0 : Int) (a0_1 : ByteArray) (r1 : Int) (r2 : ByteArray) (w : World) (h : laws_toPage.f a0_0 a0_1 = some (r1, r2)) :
 Calls Try.prog 51 #[.agg #[.int .i64 a0_0, .string a0_1]] w fun e w' => e = .returned (.agg #[.int .i64 r1, .string r2]) ∧ Below w.heap.size w w' := by
 have hu78 := Try.underlying78; have hu79 := Try.underlying79
 have HB := yD (Below.refl w.heap.size w)
 have H : (some (a0_0, a0_1)) = some (r1, r2) := h
 clear h
 simp only [Option.some.injEq, Prod.mk.injEq] at H
 obtain ⟨rfl, rfl⟩ := H
 go_enter Try.func51, Try.ntmps51
 go_wp2_with (first | ((with_reducible refine gate_dst (N := 1) rfl ?_); refine box_event ?hg (N := 1) ?hd (cs := #[.int .i64 a0_0, .string a0_1]) (t := 78) ?hr ?_; (case hd => rfl); (case hg => rfl); (case hr => first | (go_simp; done) | (go_simp; rfl)); intro gb104 hg w2 hbox hb; have BK104 := yD (hbox); have GW104 := yD ((by rw [hg]; exact (below_size (kB HB)) : w.heap.size ≤ gb104)); have GE104 := yD ((by rw [hg]; exact (below_size (kB HB)) : w.heap.size ≤ gb104)); replace HB := yD (zC (kB HB) hb); clear hb hbox hg) | ((with_reducible refine gate_dst (N := 2) rfl ?_); refine box_event ?hg (N := 2) ?hd (cs := #[.int .i64 0, .string (⟨#[]⟩ : ByteArray)]) (t := 79) ?hr ?_; (case hd => rfl); (case hg => rfl); (case hr => first | (go_simp; done) | (go_simp; rfl)); intro gb105 hg w3 hbox hb; have BK105 := yD (hbox); have GW105 := yD ((by rw [hg]; exact (below_size (kB HB)) : w.heap.size ≤ gb105)); have GE105 := yD ((by rw [hg]; exact (below_size (kB HB)) : w.heap.size ≤ gb105)); replace HB := yD (zC (kB HB) hb); have NB104_105 := yD ((by rw [hg]; exact Nat.ne_of_lt (blk_lt (kN BK104)) : gb104 ≠ gb105)); have NB105_104 := yD ((by rw [hg]; exact Nat.ne_of_gt (blk_lt (kN BK104)) : gb105 ≠ gb104)); replace BK104 := yD (zB (kN BK104) hb); clear hb hbox hg) | ((with_reducible refine gate_dst (N := 3) rfl ?_); refine box_event ?hg (N := 3) ?hd (cs := #[.int .i64 0, .string (⟨#[]⟩ : ByteArray)]) (t := 79) ?hr ?_; (case hd => rfl); (case hg => rfl); (case hr => first | (go_simp; done) | (go_simp; rfl)); intro gb106 hg w4 hbox hb; have BK106 := yD (hbox); have GW106 := yD ((by rw [hg]; exact (below_size (kB HB)) : w.heap.size ≤ gb106)); have GE106 := yD ((by rw [hg]; exact (below_size (kB HB)) : w.heap.size ≤ gb106)); replace HB := yD (zC (kB HB) hb); have NB104_106 := yD ((by rw [hg]; exact Nat.ne_of_lt (blk_lt (kN BK104)) : gb104 ≠ gb106)); have NB106_104 := yD ((by rw [hg]; exact Nat.ne_of_gt (blk_lt (kN BK104)) : gb106 ≠ gb104)); replace BK104 := yD (zB (kN BK104) hb); have NB105_106 := yD ((by rw [hg]; exact Nat.ne_of_lt (blk_lt (kN BK105)) : gb105 ≠ gb106)); have NB106_105 := yD ((by rw [hg]; exact Nat.ne_of_gt (blk_lt (kN BK105)) : gb106 ≠ gb105)); replace BK105 := yD (zB (kN BK105) hb); clear hb hbox hg; have hnb5 := NB104_105.out; have hnc5 := NB105_104.out; have hnb6 := NB104_106.out; have hnc6 := NB106_104.out; obtain ⟨hcz7_0, hcz7_1⟩ := cz2 BK104.out; obtain ⟨hfz7_0, hfz7_1⟩ := fz2 BK104.out; have hnb8 := NB106_105.out; have hnc8 := NB105_106.out; obtain ⟨hcz9_0, hcz9_1⟩ := cz2 BK106.out; obtain ⟨hfz9_0, hfz9_1⟩ := fz2 BK106.out; obtain ⟨hcz10_0, hcz10_1⟩ := cz2 BK105.out; obtain ⟨hfz10_0, hfz10_1⟩ := fz2 BK105.out))
 refine bodyPost_ret (results_cell_row rfl _ _ gb105 79 #[.int .i64 a0_0, .string a0_1] (0, 0) _ rfl (by (with_reducible repeat (first | refine yM ?_ _ | refine yO ?_ | refine yN ?_ _)); refine blk_put (cs := #[.int .i64 a0_0, .string (⟨#[]⟩ : ByteArray)]) ?_ 1 _ rfl; (with_reducible repeat (first | refine yM ?_ _ | refine yO ?_ | refine yN ?_ _)); refine blk_put (cs := #[.int .i64 0, .string (⟨#[]⟩ : ByteArray)]) ?_ 0 _ rfl; (with_reducible repeat (first | refine yM ?_ _ | refine yO ?_ | refine yN ?_ _)); refine blk_far ?_ NB105_106.out _; (with_reducible repeat (first | refine yM ?_ _ | refine yO ?_ | refine yN ?_ _)); refine blk_far ?_ NB105_106.out _; (with_reducible repeat (first | refine yM ?_ _ | refine yO ?_ | refine yN ?_ _)); exact BK105.out) Try.underlying79 rfl (by kernel_rfl)) rfl ?_
 exact ⟨by first | rfl | (simp <;> rfl) | (simp [*] <;> rfl), kR0 HB⟩

/-! ### laws_toPageS: function 14 -/
def laws_toPageS.l0 : Nat → List (S78) → List (S79) → Int → Option ((List (S79)))
 | 0, _, _, _ => none
 | k + 1, x0, x3, x4 => if x4 < (x0.length : Int) then (if 0 ≤ x4 then ((laws_toPage.f ((rd_T78 x0 x4).f0) ((rd_T78 x0 x4).f1)).bind fun bt111 => (if x4 < (x3.length : Int) then (laws_toPageS.l0 k x0 (x3.set (x4 : Int).toNat (⟨bt111.1, bt111.2⟩ : S79)) (wrap64 (x4 + 1))) else (none))) else (none)) else (some x3)
def laws_toPageS.f (k : Nat) (l0 : List (S78)) : Option ((List (S79))) := if 0 ≤ (l0.length : Int) then (if ((l0.length : Int) : Int).toNat ≤ 11728124029610 then (laws_toPageS.l0 k l0 (List.replicate ((l0.length : Int) : Int).toNat z79) 0) else (none)) else (none)
theorem laws_toPageS.mono_l : ∀ k, (∀ y0 y1 y2, LeO (laws_toPageS.l0 k y0 y1 y2) (laws_toPageS.l0 (k + 1) y0 y1 y2))
 | 0 => fun _ _ _ r h => by simp [laws_toPageS.l0] at h
 | k + 1 => by
  have ih0 := laws_toPageS.mono_l k
  · intro y0 y1 y2
    unfold laws_toPageS.l0
    repeat' (with_reducible first | exact ih0 _ _ _ | exact LeO.refl _ | exact LeO.none _ | refine LeO.ite ?_ ?_ | refine LeO.bind ?_ (fun _ => ?_))
theorem laws_toPageS.mono : ∀ a0 k, LeO (laws_toPageS.f k a0) (laws_toPageS.f (k + 1) a0) := by
 intro a0 k
 have ih0 := laws_toPageS.mono_l k
 unfold laws_toPageS.f
 repeat' (with_reducible first | exact ih0 _ _ _ | exact LeO.refl _ | exact LeO.none _ | refine LeO.ite ?_ ?_ | refine LeO.bind ?_ (fun _ => ?_))
set_option maxHeartbeats 8000000 in
set_option maxRecDepth 100000 in
theorem laws_toPageS.calls (k : Nat) (A0 : Option Addr) (c0 : Nat) (l0 : List (S78)) (r : List (S79)) (w : World) (hr0 : Kd.C k78 w A0 l0.length l0) (hc0 : l0.length ≤ c0) (h : laws_toPageS.f k l0 = some r) :
 Calls Try.prog 14 #[.slice A0 l0.length c0] w fun e w' => ∃ v0_ : Value, e = .returned (v0_) ∧ Kd.R k79 79 w' w.heap.size (fun _ => True) v0_ r ∧ Below w.heap.size w w' := by
 have hu78 := Try.underlying78; have hu79 := Try.underlying79
 have HR0 := yD hr0
 have HC0 := yD hc0
 clear hr0 hc0
 have HB := yD (Below.refl w.heap.size w)
 have H : (if 0 ≤ (l0.length : Int) then (if ((l0.length : Int) : Int).toNat ≤ 11728124029610 then (laws_toPageS.l0 k l0 (List.replicate ((l0.length : Int) : Int).toNat z79) 0) else (none)) else (none)) = some r := h
 clear h
 by_cases c2 : 0 ≤ (l0.length : Int)
 ·
  rw [if_pos c2] at H
  have c2b0 := eq_true c2
  have c2b1 : decide (0 ≤ (l0.length : Int)) = true := zR c2; clear c2
  by_cases c3 : ((l0.length : Int) : Int).toNat ≤ 11728124029610
  ·
   rw [if_pos c3] at H
   have c3b0 := eq_true c3
   have c3b1 : decide (((l0.length : Int) : Int).toNat ≤ 11728124029610) = true := zR c3
   clear c3
   obtain ⟨y107, hy107⟩ : ∃ y_ : List (S79), y_ = (List.replicate ((l0.length : Int) : Int).toNat z79) := ⟨_, rfl⟩
   replace H : (laws_toPageS.l0 k l0 y107 0) = some r := by first | (rw [hy107]; with_reducible exact H) | (have H2_ := (Option.bind_some _ _).symm.trans H; rw [hy107]; with_reducible exact H2_) | (have H2_ := (Option.bind_some _ _).symm.trans H; with_reducible exact H2_) | with_reducible exact H | (rw [hy107]; exact H) | exact H
   have Ny107 := yD hy107
   clear hy107
   have H' := yD H
   clear H; go_enter Try.func14, Try.ntmps14
   go_wp2_with (first | ((with_reducible refine gate_dst (N := 7) rfl ?_); refine Kd.R_make k79 _ 79 rfl (N := 7) rfl 38 _ _ rfl (l0.length : Int) rfl rfl Try.underlying38 (.agg #[(.int .i64 0), (.string ⟨#[]⟩)]) 24 info79 rfl (by decide) (by omega) z79 (ok := fun _ => True) (okp := fun _ => True) (k79_mkM _ _ _ z79 ) (fun _ hk => hk) trivial (zP (by assumption)) (Nat.le_trans (Nat.mul_le_mul_right _ (zP (by assumption) : (l0.length : Int).toNat ≤ 11728124029610)) (by omega)) (Below.refl _ _) (Nat.le_refl _) ?_; intro v108 w4 ho5 hb hg_ hnew_; clear hg_ hnew_; (first | rw [← Ny107.out] at ho5 | (simp only [Int.reduceToNat] at ho5; rw [← Ny107.out] at ho5)); have HO109 := yD (yZ ho5 (below_size (kB HB))); replace HB := yD (zC (kB HB) hb); clear hb ho5))
   (try simp only [Act.put, zH, zI, zJ])
   go_loopg [4] k (fun kq v4 w' => ∃ (x3_1 : List (S79)) (x4_1 : Int), v4 = .int .i64 x4_1 ∧ Aside0 (laws_toPageS.l0 kq l0 x3_1 x4_1 = some r) ∧ Aside0 (kq ≤ k) ∧ Aside0 (Kd.R k79 79 w' w.heap.size (fun _ => True) v108 x3_1) ∧ Aside0 (Below w.heap.size w w'))
   case atStart => exact ⟨(y107), (0), (by first | rfl | (simp; done) | (simp [*]; done)), H', ⟨Nat.le_refl _⟩, ⟨kA HO109⟩, ⟨kR1 HB⟩⟩
   case round =>
    clear H'
    try clear c1; try clear c2; try clear c2b0; try clear c2b1; try clear c3; try clear c3b0; try clear c3b1
    obtain ⟨x3_1, x4_1, rfl, HA, HK1, HO_3, HB⟩ := hrel
    cases gk with
    | zero => exact absurd HA.out (by simp [laws_toPageS.l0])
    | succ k1 =>
     have H := HA.out; clear HA
     simp only [laws_toPageS.l0] at H
     by_cases c6 : x4_1 < (l0.length : Int)
     ·
      rw [if_pos c6] at H
      have c6b0 : decide (x4_1 < (l0.length : Int)) = true := zR c6; clear c6
      by_cases c7 : 0 ≤ x4_1
      ·
       rw [if_pos c7] at H
       have c7b0 : decide (0 ≤ x4_1) = true := zR c7; clear c7
       obtain ⟨⟨t111, t112⟩, A80, H⟩ := zW_ H
       replace H : (if x4_1 < (x3_1.length : Int) then (laws_toPageS.l0 k1 l0 (x3_1.set (x4_1 : Int).toNat (⟨t111, t112⟩ : S79)) (wrap64 (x4_1 + 1))) else (none)) = some r := H
       have A8 := yD A80
       clear A80
       by_cases c9 : x4_1 < (x3_1.length : Int)
       ·
        rw [if_pos c9] at H
        have c9b0 : decide (x4_1 < (x3_1.length : Int)) = true := zR c9; clear c9
        obtain ⟨y113, hy113⟩ : ∃ y_ : List (S79), y_ = (x3_1.set (x4_1 : Int).toNat (⟨t111, t112⟩ : S79)) := ⟨_, rfl⟩
        replace H : (laws_toPageS.l0 k1 l0 y113 (wrap64 (x4_1 + 1))) = some r := by first | (rw [hy113]; with_reducible exact H) | (have H2_ := (Option.bind_some _ _).symm.trans H; rw [hy113]; with_reducible exact H2_) | (have H2_ := (Option.bind_some _ _).symm.trans H; with_reducible exact H2_) | with_reducible exact H | (rw [hy113]; exact H) | exact H
        have Ny113 := yD hy113
        clear hy113
        have H' := yD H
        clear H
        have p110 : 0 ≤ (x4_1 : Int) := zP (by assumption)
        have q110 : x4_1 < (l0.length : Int) := zP (by assumption)
        obtain ⟨ad110, e110, hx110_0, hx110_1⟩ := at_T78 HR0.out x4_1 p110 q110
        cases e110
        replace hx110_0 := (HB.out.cell (zQ w _ hx110_0)).trans hx110_0
        replace hx110_1 := (HB.out.cell (zQ w _ hx110_1)).trans hx110_1
        replace p110 := eq_true p110; replace q110 := eq_true q110
        go_wp2_with (first | ((with_reducible refine gate_callee (f := 51) rfl ?_); refine gL 20 Try.func51 #[.agg #[.int .i64 ((rd_T78 l0 x4_1).f0), .string ((rd_T78 l0 x4_1).f1)]] ?_; (with_reducible refine (laws_toPage.calls ((rd_T78 l0 x4_1).f0) ((rd_T78 l0 x4_1).f1) t111 t112 _ A8.out).mono ?_); rintro e w11 ⟨rfl, hb⟩; refine ⟨_, rfl, ?_⟩; replace HO_3 := yD (zE (kA HO_3) hb); replace HB := yD (zC (kB HB) hb); clear hb; have p10 : 0 ≤ (x4_1 : Int) := zP (by assumption); have q10 : (x4_1 : Int) < ((x3_1.length : Int) : Int) := zP (by assumption); obtain ⟨go10, co10, eo10, gb10, gl10, cl10, HG10⟩ := Kd.R_form HO_3.out (by omega); (first | cases eo10 | (injection eo10 with ea_ en_ ec_; (first | subst ea_ | (injection ea_ with ea_; subst ea_)); subst ec_; clear en_)); have GB10 := yD gb10; have GG10 := yD HG10; clear gb10 gl10 HG10; obtain ⟨ce10, hcl10, hM10, hcc10, hfr10⟩ := Kd.R_elem HO_3.out z79 (x4_1 : Int) p10 q10; obtain rfl := k79_openM hM10; have hx10_0 : w11.cell? ⟨go10, (x4_1 : Int).toNat * 2, none⟩ = some (.int .i64 ((rd_T79 x3_1 x4_1).f0)) := hcc10 0 _ rfl; have hx10_1 : w11.cell? ⟨go10, (x4_1 : Int).toNat * 2 + 1, none⟩ = some (.string ((rd_T79 x3_1 x4_1).f1)) := hcc10 1 _ rfl; have hf10_0 : w11.frozen? ⟨go10, (x4_1 : Int).toNat * 2, none⟩ = false := hfr10 0; have hf10_1 : w11.frozen? ⟨go10, (x4_1 : Int).toNat * 2 + 1, none⟩ = false := hfr10 1; clear hcl10 hcc10 hfr10 hM10; replace p10 := eq_true p10; replace q10 := eq_true q10; have HX12 := yD (show Kd.R k79 79 w11 w.heap.size (fun _ => True) (.slice (some ⟨go10, 0, none⟩) x3_1.length co10) x3_1 from (kA HO_3)); obtain ⟨ce12, hcl12, hM12, hcc12, hfr12⟩ := Kd.R_elem HX12.out z79 (x4_1 : Int) (zP (by assumption)) (by have h_ : (x4_1 : Int) < ((x3_1.length : Int) : Int) := zP (by assumption); first | exact h_ | (have e_ := (zA HO_3.out).1; omega) | simpa using h_); obtain rfl := k79_openM hM12; have HP12 := Kd.R_seg HX12.out (x4_1 : Int) (zP (by assumption)) (by have h_ : (x4_1 : Int) < ((x3_1.length : Int) : Int) := zP (by assumption); first | exact h_ | (have e_ := (zA HO_3.out).1; omega) | simpa using h_) (seg := [.int .i64 t111, .string t112]) (j := 0) hcl12 hcc12 (show 2 ≤ 2 from by decide) (x' := (⟨t111, t112⟩ : S79)) (k79_mkM _ _ _ (⟨t111, t112⟩ : S79) ) (fun _ hk => hk); have hx12_0 := hcc12 0 _ rfl; (try simp only [show (k79).sz = 2 from rfl, Nat.mul_one, Nat.add_zero] at hx12_0); have hf12_0 := hfr12 0; (try simp only [show (k79).sz = 2 from rfl, Nat.mul_one, Nat.add_zero] at hf12_0); have hx12_1 := hcc12 1 _ rfl; (try simp only [show (k79).sz = 2 from rfl, Nat.mul_one, Nat.add_zero] at hx12_1); have hf12_1 := hfr12 1; (try simp only [show (k79).sz = 2 from rfl, Nat.mul_one, Nat.add_zero] at hf12_1); clear hcl12 hcc12 hfr12 hM12) | ((with_reducible refine gate_store (t := 79) (p := 21) rfl ?_); refine store_event (t := 79) (p := 21) (v := ?vo_w13) (w1 := ((w11.setCell ⟨go10, (x4_1 : Int).toNat * 2, none⟩ (.int .i64 t111)).setCell ⟨go10, (x4_1 : Int).toNat * 2 + 1, none⟩ (.string t112))) ?hg ?ho ?hn ?hr ?_; (case ho => rfl); (case hg => rfl); (case hn => rfl); (case hr => first | (go_simp; done) | (go_simp; rfl)); intro w13 hw; have hg : w11.grownBy w13 (some go10) := (by rw [hw]; exact HP12.2); have hp_ : Kd.R k79 79 w13 w.heap.size (fun _ => True) (.slice (some ⟨go10, 0, none⟩) x3_1.length co10) y113 := (by rw [hw, Ny113.out]; exact HP12.1); clear HP12; replace HO_3 := yD (hp_); replace HB := yD ((by rw [hw]; exact yE (yE (HB.out) GB10.out) GB10.out : Below w.heap.size w w13)); clear hg hw hp_))
        go_roundg k1
        case measure => have := HK1.out; omega
        case rel => exact ⟨(y113), (wrap64 (x4_1 + 1)), (by first | rfl | (simp; done) | (simp [*]; done)), H', ⟨by have := HK1.out; omega⟩, ⟨kA HO_3⟩, ⟨kR1 HB⟩⟩
       · rw [if_neg c9] at H
         exact absurd H (by simp)
      · rw [if_neg c7] at H
        exact absurd H (by simp)
     · rw [if_neg c6] at H
       have c6b0 : decide (x4_1 < (l0.length : Int)) = false := zS c6; clear c6; obtain rfl := Option.some.inj H
       go_wp2
       go_ret
       exact ⟨_, by first | rfl | (simp <;> rfl) | (simp [*] <;> rfl), kA HO_3, kR1 HB⟩
  · rw [if_neg c3] at H
    exact absurd H (by simp)
 · rw [if_neg c2] at H
   exact absurd H (by simp)

/-! ### spec_l00In: function 65 -/
def spec_l00In.f (a0 : Int) (a1 : Int) (a2 : Int) : Option (Bool) := if a0 ≥ a1 then (some (decide (a0 ≤ a2))) else (some false)
set_option maxHeartbeats 8000000 in
set_option maxRecDepth 100000 in
theorem spec_l00In.calls (a0 : Int) (a1 : Int) (a2 : Int) (r : Bool) (w : World) (h : spec_l00In.f a0 a1 a2 = some r) :
 Calls Try.prog 65 #[.int .i64 a0, .int .i64 a1, .int .i64 a2] w fun e w' => e = .returned (.bool r) ∧ Drawn0 w w' := by
 have H : (if a0 ≥ a1 then (some (decide (a0 ≤ a2))) else (some false)) = some r := h
 clear h
 by_cases c4 : a0 ≥ a1
 · rw [if_pos c4] at H
   have c4b0 : decide (a1 ≤ a0) = true := zR c4; clear c4; obtain rfl := Option.some.inj H; go_enter Try.func65, Try.ntmps65
   go_wp2
   go_ret
   exact ⟨by first | rfl | (simp; done) | (simp [*]; done), by repeat (first | exact Drawn0.refl _ | apply Drawn0.step)⟩
 ·
  rw [if_neg c4] at H
  have c4b0 : decide (a1 ≤ a0) = false := zS c4; clear c4; obtain rfl := Option.some.inj H; go_enter Try.func65, Try.ntmps65
  go_wp2
  go_ret
  exact ⟨by first | rfl | (simp; done) | (simp [*]; done), by repeat (first | exact Drawn0.refl _ | apply Drawn0.step)⟩

end Go.Proofs.Ytfblodggimjoaaa.PFnExactMergePages
