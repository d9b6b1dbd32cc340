/- Each Go function here comes to what the plain function of its name says, where that says something. Made by a program of this session, over the print. -/
import Derived.Test.YtfblodggimjoaaaPFnExactMergePagesx0
import Derived.Test.YtfblodggimjoaaaPFnExactMergePagesx4
namespace Go.Proofs.Ytfblodggimjoaaa.PFnExactMergePages
open Go.RowKit Go.Proofs.YtfblodggimjoaaaW.PrintWords Go.Proofs.YtfblodggimjoaaaW.PrintLast Go.Proofs.YtfblodggimjoaaaW.PrintMore
attribute [local go_sem] max2_int min2_int max_two min_two max_three min_three max_four min_four   -- for this text's walks alone
set_option linter.unusedVariables false
set_option linter.unusedSimpArgs false

/-! ### laws_eqPageS: function 16 -/
def laws_eqPageS.l0 : Nat → List (S79) → List (S79) → Int → Option (Bool)
 | 0, _, _, _ => none
 | k + 1, x0, x1, x5 => if x5 < (x0.length : Int) then (if 0 ≤ x5 then (if x5 < (x1.length : Int) then ((laws_eqPage.f ((rd_T79 x0 x5).f0) ((rd_T79 x0 x5).f1) ((rd_T79 x1 x5).f0) ((rd_T79 x1 x5).f1)).bind fun t202 => (if t202 = true then (laws_eqPageS.l0 k x0 x1 (wrap64 (x5 + 1))) else (some false))) else (none)) else (none)) else (some true)
def laws_eqPageS.f (k : Nat) (l0 : List (S79)) (l1 : List (S79)) : Option (Bool) := if (l0.length : Int) = (l1.length : Int) then (laws_eqPageS.l0 k l0 l1 0) else (some false)
theorem laws_eqPageS.mono_l : ∀ k, (∀ y0 y1 y2, LeO (laws_eqPageS.l0 k y0 y1 y2) (laws_eqPageS.l0 (k + 1) y0 y1 y2))
 | 0 => fun _ _ _ r h => by simp [laws_eqPageS.l0] at h
 | k + 1 => by
  have ih0 := laws_eqPageS.mono_l k
  · intro y0 y1 y2
    unfold laws_eqPageS.l0
    repeat' (with_reducible first | exact ih0 _ _ _ | exact LeO.refl _ | exact LeO.none _ | refine LeO.ite ?_ ?_ | refine LeO.bind ?_ (fun _ => ?_))
theorem laws_eqPageS.mono : ∀ a0 a1 k, LeO (laws_eqPageS.f k a0 a1) (laws_eqPageS.f (k + 1) a0 a1) := by
 intro a0 a1 k
 have ih0 := laws_eqPageS.mono_l k
 unfold laws_eqPageS.f
 repeat' (with_reducible first | exact ih0 _ _ _ | exact LeO.refl _ | exact LeO.none _ | refine LeO.ite ?_ ?_ | refine LeO.bind ?_ (fun _ => ?_))
def laws_eqPageS.T6 : Bool × List (List Nat × List Nat) := (true, [([], []), ([], []), ([0, 1], [0, 1]), ([2], [2]), ([], []), ([], []), ([4, 5], [4, 5]), ([6], [6]), ([3, 7], [3, 7]), ([8], [8])])
def laws_eqPageS.B6 : List Nat := [0, 0, 3, 7, 0, 0, 48, 112, 255, 511]
theorem laws_eqPageS.tab6 : rtab .any (opsOf Try.f16 6) = laws_eqPageS.T6 := by kernel_rfl
theorem laws_eqPageS.bits6 : waitsOk laws_eqPageS.T6.2 laws_eqPageS.B6 = true := by kernel_rfl
set_option maxHeartbeats 8000000 in
set_option maxRecDepth 100000 in
theorem laws_eqPageS.calls (k : Nat) (A0 : Option Addr) (c0 : Nat) (l0 : List (S79)) (A1 : Option Addr) (c1 : Nat) (l1 : List (S79)) (r : Bool) (w : World) (hr0 : Kd.C k79 w A0 l0.length l0) (hc0 : l0.length ≤ c0) (hr1 : Kd.C k79 w A1 l1.length l1) (hc1 : l1.length ≤ c1) (h : laws_eqPageS.f k l0 l1 = some r) :
 Calls Try.prog 16 #[.slice A0 l0.length c0, .slice A1 l1.length c1] w fun e w' => e = .returned (.bool r) ∧ Below w.heap.size w w' := by
 have hu79 := Try.underlying79
 have HR0 := yD hr0
 have HC0 := yD hc0
 clear hr0 hc0
 have HR1 := yD hr1
 have HC1 := yD hc1
 clear hr1 hc1
 have HB := yD (Below.refl w.heap.size w)
 have H : (if (l0.length : Int) = (l1.length : Int) then (laws_eqPageS.l0 k l0 l1 0) else (some false)) = some r := h
 clear h
 by_cases c3 : (l0.length : Int) = (l1.length : Int)
 ·
  rw [if_pos c3] at H
  have c3b0 : ((l0.length : Int) == (l1.length : Int)) = true := beq_iff_eq.mpr c3
  have c3b1 : ((l0.length : Int) != (l1.length : Int)) = false := bne_eq_false_iff_eq.mpr c3
  have c3b2 : (l0.length == l1.length) = true := by first | simpa using c3 | (simp at c3 ⊢; omega)
  clear c3
  have H' := yD H
  clear H; go_enter Try.func16, Try.ntmps16
  go_wp2
  go_loopg [5] k (fun kq v5 w' => ∃ (x5_1 : Int), v5 = .int .i64 x5_1 ∧ Aside0 (laws_eqPageS.l0 kq l0 l1 x5_1 = some r) ∧ Aside0 (kq ≤ k) ∧ Aside0 (Below w.heap.size w w'))
  case atStart => exact ⟨(0), (by first | rfl | (simp; done) | (simp [*]; done)), H', ⟨Nat.le_refl _⟩, ⟨kR1 HB⟩⟩
  case round =>
   clear H'
   try clear c1; try clear c3; try clear c3b0; try clear c3b1; try clear c3b2
   obtain ⟨x5_1, rfl, HA, HK1, HB⟩ := hrel
   cases gk with
   | zero => exact absurd HA.out (by simp [laws_eqPageS.l0])
   | succ k1 =>
    have H := HA.out; clear HA
    simp only [laws_eqPageS.l0] at H
    by_cases c4 : x5_1 < (l0.length : Int)
    ·
     rw [if_pos c4] at H
     have c4b0 : decide (x5_1 < (l0.length : Int)) = true := zR c4; clear c4
     by_cases c5 : 0 ≤ x5_1
     ·
      rw [if_pos c5] at H
      have c5b0 : decide (0 ≤ x5_1) = true := zR c5; clear c5
      by_cases c6 : x5_1 < (l1.length : Int)
      ·
       rw [if_pos c6] at H
       have c6b0 : decide (x5_1 < (l1.length : Int)) = true := zR c6; clear c6
       obtain ⟨t202, A70, H⟩ := zW_ H
       replace H : (if t202 = true then (laws_eqPageS.l0 k1 l0 l1 (wrap64 (x5_1 + 1))) else (some false)) = some r := H
       have A7 := yD A70
       clear A70
       by_cases c8 : t202 = true
       ·
        subst c8
        replace H : (laws_eqPageS.l0 k1 l0 l1 (wrap64 (x5_1 + 1))) = some r := (by rw [if_pos rfl] at H; exact H)
        have H' := yD H
        clear H
        try go_wp2
        have n0_ := yD (yP HB.out)
        clear HB; have HB := n0_; clear n0_
        have p200 : 0 ≤ (x5_1 : Int) := zP (by assumption)
        have q200 : x5_1 < (l0.length : Int) := zP (by assumption)
        obtain ⟨ad200, e200, hx200_0, hx200_1⟩ := at_T79 HR0.out x5_1 p200 q200
        have hw200_1 := hx200_1; have hw200_0 := hx200_0; cases e200
        replace hx200_0 := (HB.out.cell (zQ w _ hx200_0)).trans hx200_0
        replace hx200_1 := (HB.out.cell (zQ w _ hx200_1)).trans hx200_1
        replace p200 := eq_true p200; replace q200 := eq_true q200
        have p201 : 0 ≤ (x5_1 : Int) := zP (by assumption)
        have q201 : x5_1 < (l1.length : Int) := zP (by assumption)
        obtain ⟨ad201, e201, hx201_0, hx201_1⟩ := at_T79 HR1.out x5_1 p201 q201
        have hw201_1 := hx201_1; have hw201_0 := hx201_0; cases e201
        replace hx201_0 := (HB.out.cell (zQ w _ hx201_0)).trans hx201_0
        replace hx201_1 := (HB.out.cell (zQ w _ hx201_1)).trans hx201_1
        replace p201 := eq_true p201; replace q201 := eq_true q201
        refine start_ (n := 10) (S := fun w' => w'.cell? (ad200.add ((x5_1).toNat * 2)) = some (.int .i64 ((rd_T79 l0 x5_1).f0)) ∧ w'.cell? ⟨(ad200.add ((x5_1).toNat * 2)).block, (ad200.add ((x5_1).toNat * 2)).off + 1, none⟩ = some (.string ((rd_T79 l0 x5_1).f1)) ∧ w'.cell? (ad201.add ((x5_1).toNat * 2)) = some (.int .i64 ((rd_T79 l1 x5_1).f0)) ∧ w'.cell? ⟨(ad201.add ((x5_1).toNat * 2)).block, (ad201.add ((x5_1).toNat * 2)).off + 1, none⟩ = some (.string ((rd_T79 l1 x5_1).f1))) (ds := []) (bz 10 0) (by kernel_rfl) rfl rfl ⟨((HB.out.cell (zQ w _ hw200_0)).trans hw200_0), ((HB.out.cell (zQ w _ hw200_1)).trans hw200_1), ((HB.out.cell (zQ w _ hw201_0)).trans hw201_0), ((HB.out.cell (zQ w _ hw201_1)).trans hw201_1)⟩ (fun hHeld => ?_); refine with_tabW laws_eqPageS.tab6 laws_eqPageS.bits6 (fun HT_ HW_ => ?_)
        generalize wr.drew = w9 at HB hx200_0 hx200_1 hx201_0 hx201_1 hHeld ⊢
        refine qA 0 17 (bz 10 1) HT_ ?_
        refine qA 1 18 (bz 10 3) HT_ ?_
        refine qA 2 19 (bz 10 7) HT_ ?_
        refine qA 4 21 (bz 10 23) HT_ ?_
        refine qA 5 22 (bz 10 55) HT_ ?_
        refine qA 6 23 (bz 10 119) HT_ ?_
        refine qC 3 20 (bz 10 127) HT_ HW_ hHeld ?_ (hy := by rintro w' ⟨s0, s1, s2, s3⟩; go_simp; with_reducible rfl)
        refine qC 7 24 (bz 10 255) HT_ HW_ hHeld ?_ (hy := by rintro w' ⟨s0, s1, s2, s3⟩; go_simp; with_reducible rfl)
        refine one_ (i := 8) (N := some 25) (bz 10 511) rfl rfl (one_of HT_.out (by kernel_rfl)) (by decide) (fun K hK => ?_)
        refine goes_ Try.func54 (by kernel_rfl) rfl #[.agg #[.int .i64 ((rd_T79 l0 x5_1).f0), .string ((rd_T79 l0 x5_1).f1)], .agg #[.int .i64 ((rd_T79 l1 x5_1).f0), .string ((rd_T79 l1 x5_1).f1)]] (by rfl) rfl rfl (by (try simp only [zK, zL, zM]); first | done | rfl | (simp only [zN, zO]; rfl)) ?_
        with_reducible refine (laws_eqPage.calls ((rd_T79 l0 x5_1).f0) ((rd_T79 l0 x5_1).f1) ((rd_T79 l1 x5_1).f0) ((rd_T79 l1 x5_1).f1) true _ A7.out).mono ?_
        rintro e w10 ⟨rfl, hb⟩
        refine ⟨_, rfl, ?_⟩
        have n0_ := yD (zC (kB HB) hb)
        clear HB; have HB := n0_; clear n0_; (try clear hb); (try clear hb2); (try clear hk); (try clear hi)
        refine hK.out _ _ ⟨((HB.out.cell (zQ w _ hw200_0)).trans hw200_0), ((HB.out.cell (zQ w _ hw200_1)).trans hw200_1), ((HB.out.cell (zQ w _ hw201_0)).trans hw201_0), ((HB.out.cell (zQ w _ hw201_1)).trans hw201_1)⟩ (fun hHeld => ?_)
        clear hK K
        refine norm_ (a' := ?_) ?_ ?_
        rotate_left
        · show Act.put _ (some 25) _ = _
          simp only [Act.put, zH, zI, zJ, i64_w, i32_w]
          rfl
        refine qA 9 26 (bz 10 1023) HT_ ?_
        refine done_ (done_of HT_.out (by kernel_rfl)) ?_
        try go_wp2
        go_roundg k1
        case measure => have := HK1.out; omega
        case rel => exact ⟨(wrap64 (x5_1 + 1)), (by first | rfl | (simp; done) | (simp [*]; done)), H', ⟨by have := HK1.out; omega⟩, ⟨kR1 HB⟩⟩
       ·
        replace c8 := Bool.eq_false_iff.mpr c8
        subst c8
        replace H : (some false) = some r := (by rw [if_neg (show ¬ (false = true) by decide)] at H; exact H); obtain rfl := Option.some.inj H
        try go_wp2
        have n0_ := yD (yP HB.out)
        clear HB; have HB := n0_; clear n0_
        have p200 : 0 ≤ (x5_1 : Int) := zP (by assumption)
        have q200 : x5_1 < (l0.length : Int) := zP (by assumption)
        obtain ⟨ad200, e200, hx200_0, hx200_1⟩ := at_T79 HR0.out x5_1 p200 q200
        have hw200_1 := hx200_1; have hw200_0 := hx200_0; cases e200
        replace hx200_0 := (HB.out.cell (zQ w _ hx200_0)).trans hx200_0
        replace hx200_1 := (HB.out.cell (zQ w _ hx200_1)).trans hx200_1
        replace p200 := eq_true p200; replace q200 := eq_true q200
        have p201 : 0 ≤ (x5_1 : Int) := zP (by assumption)
        have q201 : x5_1 < (l1.length : Int) := zP (by assumption)
        obtain ⟨ad201, e201, hx201_0, hx201_1⟩ := at_T79 HR1.out x5_1 p201 q201
        have hw201_1 := hx201_1; have hw201_0 := hx201_0; cases e201
        replace hx201_0 := (HB.out.cell (zQ w _ hx201_0)).trans hx201_0
        replace hx201_1 := (HB.out.cell (zQ w _ hx201_1)).trans hx201_1
        replace p201 := eq_true p201; replace q201 := eq_true q201
        refine start_ (n := 10) (S := fun w' => w'.cell? (ad200.add ((x5_1).toNat * 2)) = some (.int .i64 ((rd_T79 l0 x5_1).f0)) ∧ w'.cell? ⟨(ad200.add ((x5_1).toNat * 2)).block, (ad200.add ((x5_1).toNat * 2)).off + 1, none⟩ = some (.string ((rd_T79 l0 x5_1).f1)) ∧ w'.cell? (ad201.add ((x5_1).toNat * 2)) = some (.int .i64 ((rd_T79 l1 x5_1).f0)) ∧ w'.cell? ⟨(ad201.add ((x5_1).toNat * 2)).block, (ad201.add ((x5_1).toNat * 2)).off + 1, none⟩ = some (.string ((rd_T79 l1 x5_1).f1))) (ds := []) (bz 10 0) (by kernel_rfl) rfl rfl ⟨((HB.out.cell (zQ w _ hw200_0)).trans hw200_0), ((HB.out.cell (zQ w _ hw200_1)).trans hw200_1), ((HB.out.cell (zQ w _ hw201_0)).trans hw201_0), ((HB.out.cell (zQ w _ hw201_1)).trans hw201_1)⟩ (fun hHeld => ?_); refine with_tabW laws_eqPageS.tab6 laws_eqPageS.bits6 (fun HT_ HW_ => ?_)
        generalize wr.drew = w11 at HB hx200_0 hx200_1 hx201_0 hx201_1 hHeld ⊢
        refine qA 0 17 (bz 10 1) HT_ ?_
        refine qA 1 18 (bz 10 3) HT_ ?_
        refine qA 2 19 (bz 10 7) HT_ ?_
        refine qA 4 21 (bz 10 23) HT_ ?_
        refine qA 5 22 (bz 10 55) HT_ ?_
        refine qA 6 23 (bz 10 119) HT_ ?_
        refine qC 3 20 (bz 10 127) HT_ HW_ hHeld ?_ (hy := by rintro w' ⟨s0, s1, s2, s3⟩; go_simp; with_reducible rfl)
        refine qC 7 24 (bz 10 255) HT_ HW_ hHeld ?_ (hy := by rintro w' ⟨s0, s1, s2, s3⟩; go_simp; with_reducible rfl)
        refine one_ (i := 8) (N := some 25) (bz 10 511) rfl rfl (one_of HT_.out (by kernel_rfl)) (by decide) (fun K hK => ?_)
        refine goes_ Try.func54 (by kernel_rfl) rfl #[.agg #[.int .i64 ((rd_T79 l0 x5_1).f0), .string ((rd_T79 l0 x5_1).f1)], .agg #[.int .i64 ((rd_T79 l1 x5_1).f0), .string ((rd_T79 l1 x5_1).f1)]] (by rfl) rfl rfl (by (try simp only [zK, zL, zM]); first | done | rfl | (simp only [zN, zO]; rfl)) ?_
        with_reducible refine (laws_eqPage.calls ((rd_T79 l0 x5_1).f0) ((rd_T79 l0 x5_1).f1) ((rd_T79 l1 x5_1).f0) ((rd_T79 l1 x5_1).f1) false _ A7.out).mono ?_
        rintro e w12 ⟨rfl, hb⟩
        refine ⟨_, rfl, ?_⟩
        have n0_ := yD (zC (kB HB) hb)
        clear HB; have HB := n0_; clear n0_; (try clear hb); (try clear hb2); (try clear hk); (try clear hi)
        refine hK.out _ _ ⟨((HB.out.cell (zQ w _ hw200_0)).trans hw200_0), ((HB.out.cell (zQ w _ hw200_1)).trans hw200_1), ((HB.out.cell (zQ w _ hw201_0)).trans hw201_0), ((HB.out.cell (zQ w _ hw201_1)).trans hw201_1)⟩ (fun hHeld => ?_)
        clear hK K
        refine norm_ (a' := ?_) ?_ ?_
        rotate_left
        · show Act.put _ (some 25) _ = _
          simp only [Act.put, zH, zI, zJ, i64_w, i32_w]
          rfl
        refine qA 9 26 (bz 10 1023) HT_ ?_
        refine done_ (done_of HT_.out (by kernel_rfl)) ?_
        try go_wp2
        go_ret
        exact ⟨by first | rfl | (simp <;> rfl) | (simp [*] <;> rfl), kR1 HB⟩
      · rw [if_neg c6] at H
        exact absurd H (by simp)
     · rw [if_neg c5] at H
       exact absurd H (by simp)
    · rw [if_neg c4] at H
      have c4b0 : decide (x5_1 < (l0.length : Int)) = false := zS c4; clear c4; obtain rfl := Option.some.inj H
      go_wp2
      go_ret
      exact ⟨by first | rfl | (simp <;> rfl) | (simp [*] <;> rfl), kR1 HB⟩
 ·
  rw [if_neg c3] at H
  have c3b0 : ((l0.length : Int) == (l1.length : Int)) = false := beq_eq_false_iff_ne.mpr c3
  have c3b1 : ((l0.length : Int) != (l1.length : Int)) = true := bne_iff_ne.mpr c3
  have c3b2 : (l0.length == l1.length) = false := by first | simpa using c3 | (simp at c3 ⊢; omega)
  obtain rfl := Option.some.inj H; go_enter Try.func16, Try.ntmps16
  go_wp2
  go_ret
  exact ⟨by first | rfl | (simp <;> rfl) | (simp [*] <;> rfl), kR1 HB⟩

/-! ### laws_markText: function 55 -/
def laws_markText.l0 : Nat → Int → ByteArray → Option (ByteArray)
 | 0, _, _ => none
 | k + 1, x0, x3 => if x0 > 0 then ((some (([(wrap64 (48 + (Int.tmod x0 10))) % 256] : List Int) : List Int)).bind fun y203 => (if (strOfNums y203).size + x3.size ≤ 9223372036854775807 then (laws_markText.l0 k (wrap64 (Int.tdiv x0 10)) ((strOfNums y203) ++ x3)) else (none))) else (if 1 + x3.size ≤ 9223372036854775807 then (some ((⟨#[109]⟩ : ByteArray) ++ x3)) else (none))
def laws_markText.f (k : Nat) (a0 : Int) : Option (ByteArray) := if a0 ≤ 0 then (some (⟨#[109, 48]⟩ : ByteArray)) else (laws_markText.l0 k a0 (⟨#[]⟩ : ByteArray))
theorem laws_markText.mono_l : ∀ k, (∀ y0 y1, LeO (laws_markText.l0 k y0 y1) (laws_markText.l0 (k + 1) y0 y1))
 | 0 => fun _ _ r h => by simp [laws_markText.l0] at h
 | k + 1 => by
  have ih0 := laws_markText.mono_l k
  · intro y0 y1
    unfold laws_markText.l0
    repeat' (with_reducible first | exact ih0 _ _ | exact LeO.refl _ | exact LeO.none _ | refine LeO.ite ?_ ?_ | refine LeO.bind ?_ (fun _ => ?_))
theorem laws_markText.mono : ∀ a0 k, LeO (laws_markText.f k a0) (laws_markText.f (k + 1) a0) := by
 intro a0 k
 have ih0 := laws_markText.mono_l k
 unfold laws_markText.f
 repeat' (with_reducible first | exact ih0 _ _ | exact LeO.refl _ | exact LeO.none _ | refine LeO.ite ?_ ?_ | refine LeO.bind ?_ (fun _ => ?_))
set_option maxHeartbeats 8000000 in
set_option maxRecDepth 100000 in
theorem laws_markText.calls (k : Nat) (a0 : Int) (r : ByteArray) (w : World) (h : laws_markText.f k a0 = some r) :
 Calls Try.prog 55 #[.int .i64 a0] w fun e w' => e = .returned (.string r) ∧ Below w.heap.size w w' := by
 have HB := yD (Below.refl w.heap.size w)
 have H : (if a0 ≤ 0 then (some (⟨#[109, 48]⟩ : ByteArray)) else (laws_markText.l0 k a0 (⟨#[]⟩ : ByteArray))) = some r := h
 clear h
 by_cases c2 : a0 ≤ 0
 · rw [if_pos c2] at H
   have c2b0 : decide (a0 ≤ 0) = true := zR c2; clear c2; obtain rfl := Option.some.inj H; go_enter Try.func55, Try.ntmps55
   go_wp2
   go_ret
   exact ⟨by first | rfl | (simp <;> rfl) | (simp [*] <;> rfl), kR1 HB⟩
 ·
  rw [if_neg c2] at H
  have c2b0 : decide (a0 ≤ 0) = false := zS c2; clear c2
  have H' := yD H
  clear H; go_enter Try.func55, Try.ntmps55
  go_wp2
  go_loopg [0, 3] k (fun kq v0 v3 w' => ∃ (x0_1 : Int) (x3_1 : ByteArray), v0 = .int .i64 x0_1 ∧ v3 = .string x3_1 ∧ Aside0 (laws_markText.l0 kq x0_1 x3_1 = some r) ∧ Aside0 (kq ≤ k) ∧ Aside0 (Below w.heap.size w w'))
  case atStart => exact ⟨(a0), ((⟨#[]⟩ : ByteArray)), (by first | rfl | (simp; done) | (simp [*]; done)), (by first | rfl | (simp; done) | (simp [*]; done)), H', ⟨Nat.le_refl _⟩, ⟨kR1 HB⟩⟩
  case round =>
   clear H'
   try clear c2; try clear c2b0
   obtain ⟨x0_1, x3_1, rfl, rfl, HA, HK1, HB⟩ := hrel
   cases gk with
   | zero => exact absurd HA.out (by simp [laws_markText.l0])
   | succ k1 =>
    have H := HA.out; clear HA
    simp only [laws_markText.l0] at H
    by_cases c3 : x0_1 > 0
    ·
     rw [if_pos c3] at H
     have c3b0 : decide (0 < x0_1) = true := zR c3; clear c3
     obtain ⟨y203, hy203⟩ : ∃ y_ : List Int, y_ = (([(wrap64 (48 + (Int.tmod x0_1 10))) % 256] : List Int)) := ⟨_, rfl⟩
     replace H : (if (strOfNums y203).size + x3_1.size ≤ 9223372036854775807 then (laws_markText.l0 k1 (wrap64 (Int.tdiv x0_1 10)) ((strOfNums y203) ++ x3_1)) else (none)) = some r := by first | (rw [hy203]; with_reducible exact H) | (have H2_ := (Option.bind_some _ _).symm.trans H; rw [hy203]; with_reducible exact H2_) | (have H2_ := (Option.bind_some _ _).symm.trans H; with_reducible exact H2_) | with_reducible exact H | (rw [hy203]; exact H) | exact H
     have Ny203 := yD hy203
     clear hy203
     by_cases c4 : (strOfNums y203).size + x3_1.size ≤ 9223372036854775807
     ·
      rw [if_pos c4] at H
      have c4b0 := eq_true c4
      have c4b1 : decide ((strOfNums y203).size + x3_1.size ≤ 9223372036854775807) = true := zR c4
      try have c4b2 : (9223372036854775807 < (strOfNums y203).size + x3_1.size) = False := eq_false (Nat.not_lt.2 c4)
      have H' := yD H
      clear H
      go_wp2_with (first | ((with_reducible refine gate_dst (N := 12) rfl ?_); refine Kd.R_lit (Kd.int .u8) _ 5 ?hg (N := 12) ?hd (xs := ([(wrap64 (48 + (Int.tmod x0_1 10))) % 256] : List Int)) (inner := [.int .u8 ((wrap64 (48 + (Int.tmod x0_1 10))) % 256)]) (ok := fun _ => True) (okp := fun _ => True) ?hr ?hp (fun _ hk => hk) trivial (Below.refl _ _) (Nat.le_refl _) (by simp) ?_; (case hd => rfl); (case hg => rfl); (case hr => first | (go_simp; done) | (go_simp; rfl)); (case hp => exact (Reps.one (show Kd.M (Kd.int .u8) _ _ _ ((wrap64 (48 + (Int.tmod x0_1 10))) % 256) [.int .u8 ((wrap64 (48 + (Int.tmod x0_1 10))) % 256)] from rfl) (Reps.none _ _))); intro v204 w5 ho6 hb hg_ hnew_; clear hg_ hnew_; (first | rw [← Ny203.out] at ho6 | (simp only [Int.reduceToNat] at ho6; rw [← Ny203.out] at ho6)); have HO205 := yD (yZ ho6 (below_size (kB HB))); replace HB := yD (zC (kB HB) hb); clear hb ho6; have hcv7 := own_string (P := Try.prog) Try.underlying44 Try.underlying5 Try.underlying9 (Kd.own_of_R HO205.out)))
      go_roundg k1
      case measure => have := HK1.out; omega
      case rel => exact ⟨(wrap64 (Int.tdiv x0_1 10)), ((strOfNums y203) ++ x3_1), (by first | rfl | (simp; done) | (simp [*]; done)), (by first | rfl | (simp; done) | (simp [*]; done)), H', ⟨by have := HK1.out; omega⟩, ⟨kR1 HB⟩⟩
     · rw [if_neg c4] at H
       exact absurd H (by simp)
    ·
     rw [if_neg c3] at H
     have c3b0 : decide (0 < x0_1) = false := zS c3; clear c3
     by_cases c8 : 1 + x3_1.size ≤ 9223372036854775807
     · rw [if_pos c8] at H
       have c8b0 := eq_true c8
       have c8b1 : decide (1 + x3_1.size ≤ 9223372036854775807) = true := zR c8
       try have c8b2 : (9223372036854775807 < 1 + x3_1.size) = False := eq_false (Nat.not_lt.2 c8)
       obtain rfl := Option.some.inj H
       go_wp2
       go_ret
       exact ⟨by first | rfl | (simp <;> rfl) | (simp [*] <;> rfl), kR1 HB⟩
     · rw [if_neg c8] at H
       exact absurd H (by simp)

/-! ### laws_markPageS: function 17 -/
def laws_markPageS.l0 : Nat → List (S79) → Int → Int → Option (Int × (List (S79)))
 | 0, _, _, _ => none
 | k + 1, x0, x1, x5 => if x5 < (x0.length : Int) then (if 0 ≤ x5 then ((some (x0.set (x5 : Int).toNat (⟨x1, (rd_T79 x0 x5).f1⟩ : S79) : List (S79))).bind fun y206 => ((laws_markText.f k (wrap64 (x1 + 1))).bind fun t207 => (laws_markPageS.l0 k (y206.set (x5 : Int).toNat (⟨(rd_T79 y206 x5).f0, t207⟩ : S79)) (wrap64 ((wrap64 (x1 + 1)) + 1)) (wrap64 (x5 + 1))))) else (none)) else (some (x1, x0))
def laws_markPageS.f (k : Nat) (l0 : List (S79)) (a1 : Int) : Option (Int × (List (S79))) := laws_markPageS.l0 k l0 a1 0
theorem laws_markPageS.mono_l : ∀ k, (∀ y0 y1 y2, LeO (laws_markPageS.l0 k y0 y1 y2) (laws_markPageS.l0 (k + 1) y0 y1 y2))
 | 0 => fun _ _ _ r h => by simp [laws_markPageS.l0] at h
 | k + 1 => by
  have ih0 := laws_markPageS.mono_l k
  · intro y0 y1 y2
    unfold laws_markPageS.l0
    repeat' (with_reducible first | exact ih0 _ _ _ | exact laws_markText.mono _ _ | exact LeO.refl _ | exact LeO.none _ | refine LeO.ite ?_ ?_ | refine LeO.bind ?_ (fun _ => ?_))
theorem laws_markPageS.mono : ∀ a0 a1 k, LeO (laws_markPageS.f k a0 a1) (laws_markPageS.f (k + 1) a0 a1) := by
 intro a0 a1 k
 have ih0 := laws_markPageS.mono_l k
 unfold laws_markPageS.f
 repeat' (with_reducible first | exact ih0 _ _ _ | exact laws_markText.mono _ _ | exact LeO.refl _ | exact LeO.none _ | refine LeO.ite ?_ ?_ | refine LeO.bind ?_ (fun _ => ?_))
set_option maxHeartbeats 8000000 in
set_option maxRecDepth 100000 in
theorem laws_markPageS.calls (k : Nat) (P0_ : Nat → Prop) (u9000_ : Value) (l0 : List (S79)) (a1 : Int) (r1 : Int) (r2 : List (S79)) (w0 w : World) (hB : Below w0.heap.size w0 w) (ho0 : Kd.R k79 79 w w0.heap.size P0_ u9000_ l0) (h : laws_markPageS.f k l0 a1 = some (r1, r2)) :
 Calls Try.prog 17 #[u9000_, .int .i64 a1] w fun e w' => e = .returned (.int .i64 r1) ∧ Kd.R k79 79 w' w0.heap.size (fun k_ => (P0_ k_ ∨ w.heap.size ≤ k_)) u9000_ r2 ∧ Below w0.heap.size w0 w' ∧ Kept w w' (fun k_ => P0_ k_) := by
 have HO0 := yD (show Kd.R k79 79 w w0.heap.size (fun k_ => (P0_ k_ ∨ w.heap.size ≤ k_)) u9000_ l0 from zF ho0 (fun k_ hk => (.inl hk)))
 have HK := yD (Kept.refl w (fun k_ => P0_ k_))
 have HW0 := yD hB.size
 have HB := yD hB
 clear hB
 have H : (laws_markPageS.l0 k l0 a1 0) = some (r1, r2) := h
 clear h
 have H' := yD H
 clear H; go_enter Try.func17, Try.ntmps17
 go_wp2
 go_loopg [1, 5] k (fun kq v1 v5 w' => ∃ (x0_1 : List (S79)) (x1_1 : Int) (x5_1 : Int), v1 = .int .i64 x1_1 ∧ v5 = .int .i64 x5_1 ∧ Aside0 (laws_markPageS.l0 kq x0_1 x1_1 x5_1 = some (r1, r2)) ∧ Aside0 (kq ≤ k) ∧ Aside0 (Kd.R k79 79 w' w0.heap.size (fun k_ => (P0_ k_ ∨ w.heap.size ≤ k_)) u9000_ x0_1) ∧ Aside0 (Kept w w' (fun k_ => P0_ k_)) ∧ Aside0 (Below w0.heap.size w0 w'))
 case atStart => exact ⟨(l0), (a1), (0), (by first | rfl | (simp; done) | (simp [*]; done)), (by first | rfl | (simp; done) | (simp [*]; done)), H', ⟨Nat.le_refl _⟩, ⟨kA HO0⟩, ⟨kR2 HK⟩, ⟨kR1 HB⟩⟩
 case round =>
  clear H'
  try clear c1
  obtain ⟨x0_1, x1_1, x5_1, rfl, rfl, HA, HK1, HO_0, HK, HB⟩ := hrel
  cases gk with
  | zero => exact absurd HA.out (by simp [laws_markPageS.l0])
  | succ k1 =>
   have H := HA.out; clear HA
   simp only [laws_markPageS.l0] at H
   by_cases c3 : x5_1 < (x0_1.length : Int)
   ·
    rw [if_pos c3] at H
    have c3b0 : decide (x5_1 < (x0_1.length : Int)) = true := zR c3; clear c3
    by_cases c4 : 0 ≤ x5_1
    ·
     rw [if_pos c4] at H
     have c4b0 : decide (0 ≤ x5_1) = true := zR c4; clear c4
     obtain ⟨y206, hy206⟩ : ∃ y_ : List (S79), y_ = (x0_1.set (x5_1 : Int).toNat (⟨x1_1, (rd_T79 x0_1 x5_1).f1⟩ : S79)) := ⟨_, rfl⟩
     replace H : ((laws_markText.f k1 (wrap64 (x1_1 + 1))).bind fun t207 => (laws_markPageS.l0 k1 (y206.set (x5_1 : Int).toNat (⟨(rd_T79 y206 x5_1).f0, t207⟩ : S79)) (wrap64 ((wrap64 (x1_1 + 1)) + 1)) (wrap64 (x5_1 + 1)))) = some (r1, r2) := by first | (rw [hy206]; with_reducible exact H) | (have H2_ := (Option.bind_some _ _).symm.trans H; rw [hy206]; with_reducible exact H2_) | (have H2_ := (Option.bind_some _ _).symm.trans H; with_reducible exact H2_) | with_reducible exact H | (rw [hy206]; exact H) | exact H
     have Ny206 := yD hy206
     clear hy206
     obtain ⟨t207, A60, H⟩ := zW_ H
     replace H : (laws_markPageS.l0 k1 (y206.set (x5_1 : Int).toNat (⟨(rd_T79 y206 x5_1).f0, t207⟩ : S79)) (wrap64 ((wrap64 (x1_1 + 1)) + 1)) (wrap64 (x5_1 + 1))) = some (r1, r2) := H
     have A6 := yD A60
     clear A60
     obtain ⟨y208, hy208⟩ : ∃ y_ : List (S79), y_ = (y206.set (x5_1 : Int).toNat (⟨(rd_T79 y206 x5_1).f0, t207⟩ : S79)) := ⟨_, rfl⟩
     replace H : (laws_markPageS.l0 k1 y208 (wrap64 ((wrap64 (x1_1 + 1)) + 1)) (wrap64 (x5_1 + 1))) = some (r1, r2) := by first | (rw [hy208]; with_reducible exact H) | (have H2_ := (Option.bind_some _ _).symm.trans H; rw [hy208]; with_reducible exact H2_) | (have H2_ := (Option.bind_some _ _).symm.trans H; with_reducible exact H2_) | with_reducible exact H | (rw [hy208]; exact H) | exact H
     have Ny208 := yD hy208
     clear hy208
     have H' := yD H
     clear H
     obtain ⟨Ao8, co8, eo8⟩ := Kd.R_slice HO_0.out
     subst eo8
     have p5 : 0 ≤ (x5_1 : Int) := zP (by assumption)
     have q5 : (x5_1 : Int) < ((x0_1.length : Int) : Int) := zP (by assumption)
     obtain ⟨go5, co5, eo5, gb5, gl5, cl5, HG5⟩ := Kd.R_form HO_0.out (by omega)
     (first | cases eo5 | (injection eo5 with ea_ en_ ec_; (first | subst ea_ | (injection ea_ with ea_; subst ea_)); subst ec_; clear en_))
     have GB5 := yD gb5
     have GG5 := yD HG5
     clear gb5 gl5 HG5
     have HMgo5 := yD (show (P0_ go5 ∨ w.heap.size ≤ go5) from (HO_0.out.1 _ rfl))
     obtain ⟨ce5, hcl5, hM5, hcc5, hfr5⟩ := Kd.R_elem HO_0.out z79 (x5_1 : Int) p5 q5
     obtain rfl := k79_openM hM5
     have hx5_0 : wr.cell? ⟨go5, (x5_1 : Int).toNat * 2, none⟩ = some (.int .i64 ((rd_T79 x0_1 x5_1).f0)) := hcc5 0 _ rfl
     have hx5_1 : wr.cell? ⟨go5, (x5_1 : Int).toNat * 2 + 1, none⟩ = some (.string ((rd_T79 x0_1 x5_1).f1)) := hcc5 1 _ rfl
     have hf5_0 : wr.frozen? ⟨go5, (x5_1 : Int).toNat * 2, none⟩ = false := hfr5 0
     have hf5_1 : wr.frozen? ⟨go5, (x5_1 : Int).toNat * 2 + 1, none⟩ = false := hfr5 1
     clear hcl5 hcc5 hfr5 hM5; replace p5 := eq_true p5; replace q5 := eq_true q5
     have HX9 := yD (show Kd.R k79 79 wr w0.heap.size (fun k_ => (P0_ k_ ∨ w.heap.size ≤ k_)) (.slice (some ⟨go5, 0, none⟩) x0_1.length co8) x0_1 from (kA HO_0))
     obtain ⟨ce9, hcl9, hM9, hcc9, hfr9⟩ := Kd.R_elem HX9.out z79 (x5_1 : Int) (zP (by assumption)) (by have h_ : (x5_1 : Int) < ((x0_1.length : Int) : Int) := zP (by assumption); first | exact h_ | (have e_ := (zA HO_0.out).1; omega) | simpa using h_)
     obtain rfl := k79_openM hM9
     have HP9 := Kd.R_seg HX9.out (x5_1 : Int) (zP (by assumption)) (by have h_ : (x5_1 : Int) < ((x0_1.length : Int) : Int) := zP (by assumption); first | exact h_ | (have e_ := (zA HO_0.out).1; omega) | simpa using h_) (seg := [.int .i64 x1_1]) (j := 0) hcl9 hcc9 (show 1 ≤ 2 from by decide) (x' := (⟨x1_1, (rd_T79 x0_1 x5_1).f1⟩ : S79)) (k79_mkM _ _ _ (⟨x1_1, (rd_T79 x0_1 x5_1).f1⟩ : S79) ) (fun _ hk => hk)
     have hx9_0 := hcc9 0 _ rfl
     (try simp only [show (k79).sz = 2 from rfl, Nat.mul_one, Nat.add_zero] at hx9_0)
     have hf9_0 := hfr9 0
     (try simp only [show (k79).sz = 2 from rfl, Nat.mul_one, Nat.add_zero] at hf9_0)
     clear hcl9 hcc9 hfr9 hM9
     go_wp2_with (first | ((with_reducible refine gate_store (t := 2) (p := 16) rfl ?_); refine store_event (t := 2) (p := 16) (v := ?vo_w10) (w1 := (wr.setCell ⟨go5, (x5_1 : Int).toNat * 2, none⟩ (.int .i64 x1_1))) ?hg ?ho ?hn ?hr ?_; (case ho => rfl); (case hg => rfl); (case hn => rfl); (case hr => first | (go_simp; done) | (go_simp; rfl)); intro w10 hw; have hg : wr.grownBy w10 (some go5) := (by rw [hw]; exact HP9.2); have hp_ : Kd.R k79 79 w10 w0.heap.size (fun k_ => (P0_ k_ ∨ w.heap.size ≤ k_)) (.slice (some ⟨go5, 0, none⟩) x0_1.length co8) y206 := (by rw [hw, Ny206.out]; exact HP9.1); clear HP9; replace HB := yD ((by rw [hw]; exact yE (HB.out) GB5.out : Below w0.heap.size w0 w10)); replace HK := yD (Kept.of_grown (S := (fun k_ => P0_ k_)) hg (kR2 HK) (fun k_ e_ => (HO_0.out.1 k_ e_))); replace HO_0 := yD (hp_); clear hg hw hp_) | ((with_reducible refine gate_callee (f := 55) rfl ?_); refine gL 22 Try.func55 #[.int .i64 (wrap64 (x1_1 + 1))] ?_; (with_reducible refine (laws_markText.calls k1 (wrap64 (x1_1 + 1)) t207 _ A6.out).mono ?_); rintro e w11 ⟨rfl, hb⟩; refine ⟨_, rfl, ?_⟩; replace HO_0 := yD (zE (kA HO_0) hb); replace HK := yD (Kept.below (S := (fun k_ => P0_ k_)) (kR2 HK) hb); replace HB := yD (zC (kB HB) hb); clear hb; have p7 : 0 ≤ (x5_1 : Int) := zP (by assumption); have q7 : (x5_1 : Int) < ((x0_1.length : Int) : Int) := zP (by assumption); obtain ⟨ce7, hcl7, hM7, hcc7, hfr7⟩ := Kd.R_elem HO_0.out z79 (x5_1 : Int) p7 q7; obtain rfl := k79_openM hM7; have hx7_0 : w11.cell? ⟨go5, (x5_1 : Int).toNat * 2, none⟩ = some (.int .i64 ((rd_T79 y206 x5_1).f0)) := hcc7 0 _ rfl; have hx7_1 : w11.cell? ⟨go5, (x5_1 : Int).toNat * 2 + 1, none⟩ = some (.string ((rd_T79 y206 x5_1).f1)) := hcc7 1 _ rfl; have hf7_0 : w11.frozen? ⟨go5, (x5_1 : Int).toNat * 2, none⟩ = false := hfr7 0; have hf7_1 : w11.frozen? ⟨go5, (x5_1 : Int).toNat * 2 + 1, none⟩ = false := hfr7 1; clear hcl7 hcc7 hfr7 hM7; replace p7 := eq_true p7; replace q7 := eq_true q7; have HX12 := yD (show Kd.R k79 79 w11 w0.heap.size (fun k_ => (P0_ k_ ∨ w.heap.size ≤ k_)) (.slice (some ⟨go5, 0, none⟩) x0_1.length co8) y206 from (kA HO_0)); obtain ⟨ce12, hcl12, hM12, hcc12, hfr12⟩ := Kd.R_elem HX12.out z79 (x5_1 : Int) (zP (by assumption)) (by have h_ : (x5_1 : Int) < ((x0_1.length : Int) : Int) := zP (by assumption); first | exact h_ | (have e_ := (zA HO_0.out).1; omega) | simpa using h_); obtain rfl := k79_openM hM12; have HP12 := Kd.R_seg HX12.out (x5_1 : Int) (zP (by assumption)) (by have h_ : (x5_1 : Int) < ((x0_1.length : Int) : Int) := zP (by assumption); first | exact h_ | (have e_ := (zA HO_0.out).1; omega) | simpa using h_) (seg := [.string t207]) (j := 1) hcl12 hcc12 (show 2 ≤ 2 from by decide) (x' := (⟨(rd_T79 y206 x5_1).f0, t207⟩ : S79)) (k79_mkM _ _ _ (⟨(rd_T79 y206 x5_1).f0, t207⟩ : S79) ) (fun _ hk => hk); have hx12_1 := hcc12 1 _ rfl; (try simp only [show (k79).sz = 2 from rfl, Nat.mul_one, Nat.add_zero] at hx12_1); have hf12_1 := hfr12 1; (try simp only [show (k79).sz = 2 from rfl, Nat.mul_one, Nat.add_zero] at hf12_1); clear hcl12 hcc12 hfr12 hM12) | ((with_reducible refine gate_store (t := 9) (p := 24) rfl ?_); refine store_event (t := 9) (p := 24) (v := ?vo_w13) (w1 := (w11.setCell ⟨go5, (x5_1 : Int).toNat * 2 + 1, none⟩ (.string t207))) ?hg ?ho ?hn ?hr ?_; (case ho => rfl); (case hg => rfl); (case hn => rfl); (case hr => first | (go_simp; done) | (go_simp; rfl)); intro w13 hw; have hg : w11.grownBy w13 (some go5) := (by rw [hw]; exact HP12.2); have hp_ : Kd.R k79 79 w13 w0.heap.size (fun k_ => (P0_ k_ ∨ w.heap.size ≤ k_)) (.slice (some ⟨go5, 0, none⟩) x0_1.length co8) y208 := (by rw [hw, Ny208.out]; exact HP12.1); clear HP12; replace HB := yD ((by rw [hw]; exact yE (HB.out) GB5.out : Below w0.heap.size w0 w13)); replace HK := yD (Kept.of_grown (S := (fun k_ => P0_ k_)) hg (kR2 HK) (fun k_ e_ => (HO_0.out.1 k_ e_))); replace HO_0 := yD (hp_); clear hg hw hp_))
     go_roundg k1
     case measure => have := HK1.out; omega
     case rel => exact ⟨(y208), (wrap64 ((wrap64 (x1_1 + 1)) + 1)), (wrap64 (x5_1 + 1)), (by first | rfl | (simp; done) | (simp [*]; done)), (by first | rfl | (simp; done) | (simp [*]; done)), H', ⟨by have := HK1.out; omega⟩, ⟨kA HO_0⟩, ⟨kR2 HK⟩, ⟨kR1 HB⟩⟩
    · rw [if_neg c4] at H
      exact absurd H (by simp)
   ·
    rw [if_neg c3] at H
    have c3b0 : decide (x5_1 < (x0_1.length : Int)) = false := zS c3; clear c3
    simp only [Option.some.injEq, Prod.mk.injEq] at H
    obtain ⟨rfl, rfl⟩ := H
    obtain ⟨Ao14, co14, eo14⟩ := Kd.R_slice HO_0.out
    subst eo14
    go_wp2
    go_ret
    exact ⟨by first | rfl | (simp <;> rfl) | (simp [*] <;> rfl), kA HO_0, kR1 HB, kR2 HK⟩

/-! ### laws_heldPageS: function 18 -/
def laws_heldPageS.l0 : Nat → List (S79) → Int → Int → Option (Int)
 | 0, _, _, _ => none
 | k + 1, x0, x1, x5 => if x5 < (x0.length : Int) then (if 0 ≤ x5 then (if ((rd_T79 x0 x5).f0) = x1 then ((laws_markText.f k (wrap64 (x1 + 1))).bind fun t211 => (if ((rd_T79 x0 x5).f1).toList = t211.toList then (laws_heldPageS.l0 k x0 (wrap64 ((wrap64 (x1 + 1)) + 1)) (wrap64 (x5 + 1))) else (some (-1)))) else (some (-1))) else (none)) else (some x1)
def laws_heldPageS.f (k : Nat) (l0 : List (S79)) (a1 : Int) : Option (Int) := laws_heldPageS.l0 k l0 a1 0
theorem laws_heldPageS.mono_l : ∀ k, (∀ y0 y1 y2, LeO (laws_heldPageS.l0 k y0 y1 y2) (laws_heldPageS.l0 (k + 1) y0 y1 y2))
 | 0 => fun _ _ _ r h => by simp [laws_heldPageS.l0] at h
 | k + 1 => by
  have ih0 := laws_heldPageS.mono_l k
  · intro y0 y1 y2
    unfold laws_heldPageS.l0
    repeat' (with_reducible first | exact ih0 _ _ _ | exact laws_markText.mono _ _ | exact LeO.refl _ | exact LeO.none _ | refine LeO.ite ?_ ?_ | refine LeO.bind ?_ (fun _ => ?_))
theorem laws_heldPageS.mono : ∀ a0 a1 k, LeO (laws_heldPageS.f k a0 a1) (laws_heldPageS.f (k + 1) a0 a1) := by
 intro a0 a1 k
 have ih0 := laws_heldPageS.mono_l k
 unfold laws_heldPageS.f
 repeat' (with_reducible first | exact ih0 _ _ _ | exact laws_markText.mono _ _ | exact LeO.refl _ | exact LeO.none _ | refine LeO.ite ?_ ?_ | refine LeO.bind ?_ (fun _ => ?_))
def laws_heldPageS.T7 : Bool × List (List Nat × List Nat) := (true, [([], []), ([], []), ([0, 1], [0, 1]), ([2], [2]), ([3], [3]), ([], []), ([5], [5]), ([4, 6], [4, 6])])
def laws_heldPageS.B7 : List Nat := [0, 0, 3, 7, 15, 0, 32, 127]
theorem laws_heldPageS.tab7 : rtab .any (opsOf Try.f18 7) = laws_heldPageS.T7 := by kernel_rfl
theorem laws_heldPageS.bits7 : waitsOk laws_heldPageS.T7.2 laws_heldPageS.B7 = true := by kernel_rfl
set_option maxHeartbeats 8000000 in
set_option maxRecDepth 100000 in
theorem laws_heldPageS.calls (k : Nat) (A0 : Option Addr) (c0 : Nat) (l0 : List (S79)) (a1 : Int) (r : Int) (w : World) (hr0 : Kd.C k79 w A0 l0.length l0) (hc0 : l0.length ≤ c0) (h : laws_heldPageS.f k l0 a1 = some r) :
 Calls Try.prog 18 #[.slice A0 l0.length c0, .int .i64 a1] w fun e w' => e = .returned (.int .i64 r) ∧ Below w.heap.size w w' := by
 have HR0 := yD hr0
 have HC0 := yD hc0
 clear hr0 hc0
 have HB := yD (Below.refl w.heap.size w)
 have H : (laws_heldPageS.l0 k l0 a1 0) = some r := h
 clear h
 have H' := yD H
 clear H; go_enter Try.func18, Try.ntmps18
 go_wp2
 go_loopg [1, 5] k (fun kq v1 v5 w' => ∃ (x1_1 : Int) (x5_1 : Int), v1 = .int .i64 x1_1 ∧ v5 = .int .i64 x5_1 ∧ Aside0 (laws_heldPageS.l0 kq l0 x1_1 x5_1 = some r) ∧ Aside0 (kq ≤ k) ∧ Aside0 (Below w.heap.size w w'))
 case atStart => exact ⟨(a1), (0), (by first | rfl | (simp; done) | (simp [*]; done)), (by first | rfl | (simp; done) | (simp [*]; done)), H', ⟨Nat.le_refl _⟩, ⟨kR1 HB⟩⟩
 case round =>
  clear H'
  try clear c1
  obtain ⟨x1_1, x5_1, rfl, rfl, HA, HK1, HB⟩ := hrel
  cases gk with
  | zero => exact absurd HA.out (by simp [laws_heldPageS.l0])
  | succ k1 =>
   have H := HA.out; clear HA
   simp only [laws_heldPageS.l0] at H
   by_cases c3 : x5_1 < (l0.length : Int)
   ·
    rw [if_pos c3] at H
    have c3b0 : decide (x5_1 < (l0.length : Int)) = true := zR c3; clear c3
    by_cases c4 : 0 ≤ x5_1
    ·
     rw [if_pos c4] at H
     have c4b0 : decide (0 ≤ x5_1) = true := zR c4; clear c4
     by_cases c5 : ((rd_T79 l0 x5_1).f0) = x1_1
     ·
      rw [if_pos c5] at H
      have c5b0 : (((rd_T79 l0 x5_1).f0) == x1_1) = true := beq_iff_eq.mpr c5
      have c5b1 : (((rd_T79 l0 x5_1).f0) != x1_1) = false := bne_eq_false_iff_eq.mpr c5
      clear c5
      obtain ⟨t211, A60, H⟩ := zW_ H
      replace H : (if ((rd_T79 l0 x5_1).f1).toList = t211.toList then (laws_heldPageS.l0 k1 l0 (wrap64 ((wrap64 (x1_1 + 1)) + 1)) (wrap64 (x5_1 + 1))) else (some (-1))) = some r := H
      have A6 := yD A60
      clear A60
      by_cases c7 : ((rd_T79 l0 x5_1).f1).toList = t211.toList
      ·
       rw [if_pos c7] at H
       have c7b0 : (((rd_T79 l0 x5_1).f1).toList == t211.toList) = true := beq_iff_eq.mpr c7
       have c7b1 : (((rd_T79 l0 x5_1).f1).toList != t211.toList) = false := bne_eq_false_iff_eq.mpr c7
       clear c7
       have H' := yD H
       clear H
       have p209 : 0 ≤ (x5_1 : Int) := zP (by assumption)
       have q209 : x5_1 < (l0.length : Int) := zP (by assumption)
       obtain ⟨ad209, e209, hx209_0, hx209_1⟩ := at_T79 HR0.out x5_1 p209 q209
       cases e209
       replace hx209_0 := (HB.out.cell (zQ w _ hx209_0)).trans hx209_0
       replace hx209_1 := (HB.out.cell (zQ w _ hx209_1)).trans hx209_1
       replace p209 := eq_true p209; replace q209 := eq_true q209
       try go_wp2
       have n0_ := yD (yP HB.out)
       clear HB; have HB := n0_; clear n0_
       have p210 : 0 ≤ (x5_1 : Int) := zP (by assumption)
       have q210 : x5_1 < (l0.length : Int) := zP (by assumption)
       obtain ⟨ad210, e210, hx210_0, hx210_1⟩ := at_T79 HR0.out x5_1 p210 q210
       have hw210_1 := hx210_1; have hw210_0 := hx210_0
       obtain rfl : ad209 = ad210 := (by injection e210)
       replace hx210_0 := (HB.out.cell (zQ w _ hx210_0)).trans hx210_0
       replace hx210_1 := (HB.out.cell (zQ w _ hx210_1)).trans hx210_1
       replace p210 := eq_true p210; replace q210 := eq_true q210
       refine start_ (n := 8) (S := fun w' => w'.cell? (ad209.add ((x5_1).toNat * 2)) = some (.int .i64 ((rd_T79 l0 x5_1).f0)) ∧ w'.cell? ⟨(ad209.add ((x5_1).toNat * 2)).block, (ad209.add ((x5_1).toNat * 2)).off + 1, none⟩ = some (.string ((rd_T79 l0 x5_1).f1))) (ds := []) (bz 8 0) (by kernel_rfl) rfl rfl ⟨((HB.out.cell (zQ w _ hw210_0)).trans hw210_0), ((HB.out.cell (zQ w _ hw210_1)).trans hw210_1)⟩ (fun hHeld => ?_); refine with_tabW laws_heldPageS.tab7 laws_heldPageS.bits7 (fun HT_ HW_ => ?_)
       generalize wr.drew = w8 at HB hx210_0 hx210_1 hHeld ⊢
       refine qA 0 21 (bz 8 1) HT_ ?_
       refine qA 1 22 (bz 8 3) HT_ ?_
       refine qA 2 23 (bz 8 7) HT_ ?_
       refine qA 3 24 (bz 8 15) HT_ ?_
       refine qA 5 26 (bz 8 47) HT_ ?_
       refine qC 4 25 (bz 8 63) HT_ HW_ hHeld ?_ (hy := by rintro w' ⟨s0, s1⟩; go_simp; with_reducible rfl)
       refine one_ (i := 6) (N := some 27) (bz 8 127) rfl rfl (one_of HT_.out (by kernel_rfl)) (by decide) (fun K hK => ?_)
       refine goes_ Try.func55 (by kernel_rfl) rfl #[.int .i64 (wrap64 (x1_1 + 1))] (by rfl) rfl rfl (by (try simp only [zK, zL, zM]); first | done | rfl | (simp only [zN, zO]; rfl)) ?_
       with_reducible refine (laws_markText.calls k1 (wrap64 (x1_1 + 1)) t211 _ A6.out).mono ?_
       rintro e w9 ⟨rfl, hb⟩
       refine ⟨_, rfl, ?_⟩
       have n0_ := yD (zC (kB HB) hb)
       clear HB; have HB := n0_; clear n0_; (try clear hb); (try clear hb2); (try clear hk); (try clear hi)
       refine hK.out _ _ ⟨((HB.out.cell (zQ w _ hw210_0)).trans hw210_0), ((HB.out.cell (zQ w _ hw210_1)).trans hw210_1)⟩ (fun hHeld => ?_)
       clear hK K
       refine norm_ (a' := ?_) ?_ ?_
       rotate_left
       · show Act.put _ (some 27) _ = _
         simp only [Act.put, zH, zI, zJ, i64_w, i32_w]
         rfl
       refine qA 7 28 (bz 8 255) HT_ ?_
       refine done_ (done_of HT_.out (by kernel_rfl)) ?_
       try go_wp2
       go_roundg k1
       case measure => have := HK1.out; omega
       case rel => exact ⟨(wrap64 ((wrap64 (x1_1 + 1)) + 1)), (wrap64 (x5_1 + 1)), (by first | rfl | (simp; done) | (simp [*]; done)), (by first | rfl | (simp; done) | (simp [*]; done)), H', ⟨by have := HK1.out; omega⟩, ⟨kR1 HB⟩⟩
      ·
       rw [if_neg c7] at H
       have c7b0 : (((rd_T79 l0 x5_1).f1).toList == t211.toList) = false := beq_eq_false_iff_ne.mpr c7
       have c7b1 : (((rd_T79 l0 x5_1).f1).toList != t211.toList) = true := bne_iff_ne.mpr c7
       obtain rfl := Option.some.inj H
       have p209 : 0 ≤ (x5_1 : Int) := zP (by assumption)
       have q209 : x5_1 < (l0.length : Int) := zP (by assumption)
       obtain ⟨ad209, e209, hx209_0, hx209_1⟩ := at_T79 HR0.out x5_1 p209 q209
       cases e209
       replace hx209_0 := (HB.out.cell (zQ w _ hx209_0)).trans hx209_0
       replace hx209_1 := (HB.out.cell (zQ w _ hx209_1)).trans hx209_1
       replace p209 := eq_true p209; replace q209 := eq_true q209
       try go_wp2
       have n0_ := yD (yP HB.out)
       clear HB; have HB := n0_; clear n0_
       have p210 : 0 ≤ (x5_1 : Int) := zP (by assumption)
       have q210 : x5_1 < (l0.length : Int) := zP (by assumption)
       obtain ⟨ad210, e210, hx210_0, hx210_1⟩ := at_T79 HR0.out x5_1 p210 q210
       have hw210_1 := hx210_1; have hw210_0 := hx210_0
       obtain rfl : ad209 = ad210 := (by injection e210)
       replace hx210_0 := (HB.out.cell (zQ w _ hx210_0)).trans hx210_0
       replace hx210_1 := (HB.out.cell (zQ w _ hx210_1)).trans hx210_1
       replace p210 := eq_true p210; replace q210 := eq_true q210
       refine start_ (n := 8) (S := fun w' => w'.cell? (ad209.add ((x5_1).toNat * 2)) = some (.int .i64 ((rd_T79 l0 x5_1).f0)) ∧ w'.cell? ⟨(ad209.add ((x5_1).toNat * 2)).block, (ad209.add ((x5_1).toNat * 2)).off + 1, none⟩ = some (.string ((rd_T79 l0 x5_1).f1))) (ds := []) (bz 8 0) (by kernel_rfl) rfl rfl ⟨((HB.out.cell (zQ w _ hw210_0)).trans hw210_0), ((HB.out.cell (zQ w _ hw210_1)).trans hw210_1)⟩ (fun hHeld => ?_); refine with_tabW laws_heldPageS.tab7 laws_heldPageS.bits7 (fun HT_ HW_ => ?_)
       generalize wr.drew = w10 at HB hx210_0 hx210_1 hHeld ⊢
       refine qA 0 21 (bz 8 1) HT_ ?_
       refine qA 1 22 (bz 8 3) HT_ ?_
       refine qA 2 23 (bz 8 7) HT_ ?_
       refine qA 3 24 (bz 8 15) HT_ ?_
       refine qA 5 26 (bz 8 47) HT_ ?_
       refine qC 4 25 (bz 8 63) HT_ HW_ hHeld ?_ (hy := by rintro w' ⟨s0, s1⟩; go_simp; with_reducible rfl)
       refine one_ (i := 6) (N := some 27) (bz 8 127) rfl rfl (one_of HT_.out (by kernel_rfl)) (by decide) (fun K hK => ?_)
       refine goes_ Try.func55 (by kernel_rfl) rfl #[.int .i64 (wrap64 (x1_1 + 1))] (by rfl) rfl rfl (by (try simp only [zK, zL, zM]); first | done | rfl | (simp only [zN, zO]; rfl)) ?_
       with_reducible refine (laws_markText.calls k1 (wrap64 (x1_1 + 1)) t211 _ A6.out).mono ?_
       rintro e w11 ⟨rfl, hb⟩
       refine ⟨_, rfl, ?_⟩
       have n0_ := yD (zC (kB HB) hb)
       clear HB; have HB := n0_; clear n0_; (try clear hb); (try clear hb2); (try clear hk); (try clear hi)
       refine hK.out _ _ ⟨((HB.out.cell (zQ w _ hw210_0)).trans hw210_0), ((HB.out.cell (zQ w _ hw210_1)).trans hw210_1)⟩ (fun hHeld => ?_)
       clear hK K
       refine norm_ (a' := ?_) ?_ ?_
       rotate_left
       · show Act.put _ (some 27) _ = _
         simp only [Act.put, zH, zI, zJ, i64_w, i32_w]
         rfl
       refine qA 7 28 (bz 8 255) HT_ ?_
       refine done_ (done_of HT_.out (by kernel_rfl)) ?_
       try go_wp2
       go_ret
       exact ⟨by first | rfl | (simp <;> rfl) | (simp [*] <;> rfl), kR1 HB⟩
     ·
      rw [if_neg c5] at H
      have c5b0 : (((rd_T79 l0 x5_1).f0) == x1_1) = false := beq_eq_false_iff_ne.mpr c5
      have c5b1 : (((rd_T79 l0 x5_1).f0) != x1_1) = true := bne_iff_ne.mpr c5
      obtain rfl := Option.some.inj H
      have p209 : 0 ≤ (x5_1 : Int) := zP (by assumption)
      have q209 : x5_1 < (l0.length : Int) := zP (by assumption)
      obtain ⟨ad209, e209, hx209_0, hx209_1⟩ := at_T79 HR0.out x5_1 p209 q209
      cases e209
      replace hx209_0 := (HB.out.cell (zQ w _ hx209_0)).trans hx209_0
      replace hx209_1 := (HB.out.cell (zQ w _ hx209_1)).trans hx209_1
      replace p209 := eq_true p209; replace q209 := eq_true q209
      go_wp2
      go_ret
      exact ⟨by first | rfl | (simp <;> rfl) | (simp [*] <;> rfl), kR1 HB⟩
    · rw [if_neg c4] at H
      exact absurd H (by simp)
   · rw [if_neg c3] at H
     have c3b0 : decide (x5_1 < (l0.length : Int)) = false := zS c3; clear c3; obtain rfl := Option.some.inj H
     go_wp2
     go_ret
     exact ⟨by first | rfl | (simp <;> rfl) | (simp [*] <;> rfl), kR1 HB⟩

end Go.Proofs.Ytfblodggimjoaaa.PFnExactMergePages
