/- Each Go function here comes to what the plain function of its name says, where that says something. Made by a program of this session, over the print. -/
import Derived.Test.YtgpkkplabnliiaaPFnExactCutPowerx0
import Derived.Test.YtgpkkplabnliiaaPFnExactCutPowerx7
namespace Go.Proofs.Ytgpkkplabnliiaa.PFnExactCutPower
open Go.RowKit Go.Proofs.YtgpkkplabnliiaaW.PrintWords Go.Proofs.YtgpkkplabnliiaaW.PrintLast Go.Proofs.YtgpkkplabnliiaaW.PrintMore
attribute [local go_sem] max2_int min2_int max_two min_two max_three min_three max_four min_four   -- for this text's walks alone
set_option linter.unusedVariables false
set_option linter.unusedSimpArgs false

/-! ### laws_heldPutS: function 55 -/
def laws_heldPutS.l0 : Nat → List (S57) → Int → Int → Option (Int)
  | 0, _, _, _ => none
  | k + 1, x0, x1, x5 => if x5 < (x0.length : Int) then (if 0 ≤ x5 then (if ((rd_T57 x0 x5).f0) = x1 then ((laws_markText.f k (wrap64 (x1 + 1))).bind fun t271 => (if ((rd_T57 x0 x5).f1).toList = t271.toList then (laws_heldPutS.l0 k x0 (wrap64 ((wrap64 (x1 + 1)) + 1)) (wrap64 (x5 + 1))) else (some (-1)))) else (some (-1))) else (none)) else (some x1)
def laws_heldPutS.f (k : Nat) (l0 : List (S57)) (a1 : Int) : Option (Int) := laws_heldPutS.l0 k l0 a1 0
theorem laws_heldPutS.mono_l : ∀ k, (∀ y0 y1 y2, LeO (laws_heldPutS.l0 k y0 y1 y2) (laws_heldPutS.l0 (k + 1) y0 y1 y2))
  | 0 => fun _ _ _ r h => by simp [laws_heldPutS.l0] at h
  | k + 1 => by
    have ih0 := laws_heldPutS.mono_l k
    · intro y0 y1 y2
      unfold laws_heldPutS.l0
      repeat' first
      | (with_reducible exact ih0 _ _ _)
      | (with_reducible exact laws_markText.mono _ _)
      | (with_reducible exact LeO.refl _)
      | (with_reducible exact LeO.none _)
      | (with_reducible refine LeO.ite ?_ ?_)
      | (with_reducible refine LeO.bind ?_ (fun _ => ?_))
      | exact ih0 _ _ _
      | exact laws_markText.mono _ _
      | exact LeO.none _
      | refine LeO.ite ?_ ?_
      | refine LeO.bind ?_ (fun _ => ?_)
theorem laws_heldPutS.mono : ∀ a0 a1 k, LeO (laws_heldPutS.f k a0 a1) (laws_heldPutS.f (k + 1) a0 a1) := by
  intro a0 a1 k
  have ih0 := laws_heldPutS.mono_l k
  unfold laws_heldPutS.f
  repeat' first
      | (with_reducible exact ih0 _ _ _)
      | (with_reducible exact laws_markText.mono _ _)
      | (with_reducible exact LeO.refl _)
      | (with_reducible exact LeO.none _)
      | (with_reducible refine LeO.ite ?_ ?_)
      | (with_reducible refine LeO.bind ?_ (fun _ => ?_))
      | exact ih0 _ _ _
      | exact laws_markText.mono _ _
      | exact LeO.none _
      | refine LeO.ite ?_ ?_
      | refine LeO.bind ?_ (fun _ => ?_)
def laws_heldPutS.T7 : Bool × List (List Nat × List Nat) := (true, [([], []), ([], []), ([0, 1], [0, 1]), ([2], [2]), ([3], [3]), ([], []), ([5], [5]), ([4, 6], [4, 6])])
def laws_heldPutS.B7 : List Nat := [0, 0, 3, 7, 15, 0, 32, 127]
theorem laws_heldPutS.tab7 : rtab .any (opsOf Try.f55 7) = laws_heldPutS.T7 := by kernel_rfl
theorem laws_heldPutS.bits7 : waitsOk laws_heldPutS.T7.2 laws_heldPutS.B7 = true := by kernel_rfl
set_option maxHeartbeats 8000000 in
set_option maxRecDepth 100000 in
theorem laws_heldPutS.calls (k : Nat) (A0 : Option Addr) (c0 : Nat) (l0 : List (S57)) (a1 : Int) (r : Int) (w : World) (hr0 : Kd.C k57 w A0 l0.length l0) (hc0 : l0.length ≤ c0) (h : laws_heldPutS.f k l0 a1 = some r) :
    Calls Try.prog 55 #[.slice A0 l0.length c0, .int .i64 a1] w fun e w' => e = .returned (.int .i64 r) ∧ Below w.heap.size w w' := by
  have HR0 := yD hr0
  have HC0 := yD hc0
  clear hr0 hc0
  have HB := yD (Below.refl w.heap.size w)
  have H : (laws_heldPutS.l0 k l0 a1 0) = some r := h
  clear h
  have H' := yD H
  clear H; go_enter Try.func55, Try.ntmps55
  go_wp2
  go_loopg [1, 5] k (fun kq v1 v5 w' => ∃ (x1_1 : Int) (x5_1 : Int), v1 = .int .i64 x1_1 ∧ v5 = .int .i64 x5_1 ∧ Aside0 (laws_heldPutS.l0 kq l0 x1_1 x5_1 = some r) ∧ Aside0 (kq ≤ k) ∧ Aside0 (Below w.heap.size w w'))
  case atStart => exact ⟨(a1), (0), (by first | rfl | (simp; done) | (simp [*]; done)), (by first | rfl | (simp; done) | (simp [*]; done)), H', ⟨Nat.le_refl _⟩, ⟨by repeat (first | (with_reducible first | exact HB.out | apply yQ | apply yL | apply yP) | exact HB.out)⟩⟩
  case round =>
    clear H'
    try clear p2
    obtain ⟨x1_1, x5_1, rfl, rfl, HA, HK1, HB⟩ := hrel
    cases gk with
    | zero => exact absurd HA.out (by simp [laws_heldPutS.l0])
    | succ k1 =>
      have H := HA.out; clear HA
      simp only [laws_heldPutS.l0] at H
      by_cases c3 : x5_1 < (l0.length : Int)
      · rw [if_pos c3] at H
        have c3b0 : decide (x5_1 < (l0.length : Int)) = true := zR c3; clear c3
        by_cases c4 : 0 ≤ x5_1
        · rw [if_pos c4] at H
          have c4b0 : decide (0 ≤ x5_1) = true := zR c4; clear c4
          by_cases c5 : ((rd_T57 l0 x5_1).f0) = x1_1
          · rw [if_pos c5] at H
            have c5b0 : (((rd_T57 l0 x5_1).f0) == x1_1) = true := beq_iff_eq.mpr c5
            have c5b1 : (((rd_T57 l0 x5_1).f0) != x1_1) = false := bne_eq_false_iff_eq.mpr c5
            clear c5
            obtain ⟨t271, A60, H⟩ := zW_ H
            replace H : (if ((rd_T57 l0 x5_1).f1).toList = t271.toList then (laws_heldPutS.l0 k1 l0 (wrap64 ((wrap64 (x1_1 + 1)) + 1)) (wrap64 (x5_1 + 1))) else (some (-1))) = some r := H
            have A6 := yD A60
            clear A60
            by_cases c7 : ((rd_T57 l0 x5_1).f1).toList = t271.toList
            · rw [if_pos c7] at H
              have c7b0 : (((rd_T57 l0 x5_1).f1).toList == t271.toList) = true := beq_iff_eq.mpr c7
              have c7b1 : (((rd_T57 l0 x5_1).f1).toList != t271.toList) = false := bne_eq_false_iff_eq.mpr c7
              clear c7
              have H' := yD H
              clear H
              have p269 : 0 ≤ (x5_1 : Int) := zP (by assumption)
              have q269 : x5_1 < (l0.length : Int) := zP (by assumption)
              obtain ⟨ad269, e269, hx269_0, hx269_1⟩ := at_T57 HR0.out x5_1 p269 q269
              cases e269
              replace hx269_0 := (HB.out.cell (zQ w _ hx269_0)).trans hx269_0
              replace hx269_1 := (HB.out.cell (zQ w _ hx269_1)).trans hx269_1
              replace p269 := eq_true p269; replace q269 := eq_true q269
              try go_wp2
              have n0_ := yD (yP HB.out)
              clear HB; have HB := n0_; clear n0_
              have p270 : 0 ≤ (x5_1 : Int) := zP (by assumption)
              have q270 : x5_1 < (l0.length : Int) := zP (by assumption)
              obtain ⟨ad270, e270, hx270_0, hx270_1⟩ := at_T57 HR0.out x5_1 p270 q270
              have hw270_1 := hx270_1; have hw270_0 := hx270_0
              obtain rfl : ad269 = ad270 := (by injection e270)
              replace hx270_0 := (HB.out.cell (zQ w _ hx270_0)).trans hx270_0
              replace hx270_1 := (HB.out.cell (zQ w _ hx270_1)).trans hx270_1
              replace p270 := eq_true p270; replace q270 := eq_true q270
              refine start_ (n := 8) (S := fun w' => w'.cell? (ad269.add ((x5_1).toNat * 2)) = some (.int .i64 ((rd_T57 l0 x5_1).f0)) ∧ w'.cell? ⟨(ad269.add ((x5_1).toNat * 2)).block, (ad269.add ((x5_1).toNat * 2)).off + 1, none⟩ = some (.string ((rd_T57 l0 x5_1).f1))) (ds := []) (bz 8 0) (by kernel_rfl) rfl rfl ⟨((HB.out.cell (zQ w _ hw270_0)).trans hw270_0), ((HB.out.cell (zQ w _ hw270_1)).trans hw270_1)⟩ (fun hHeld => ?_); refine with_tabW laws_heldPutS.tab7 laws_heldPutS.bits7 (fun HT_ HW_ => ?_)
              generalize wr.drew = w8 at HB hx270_0 hx270_1 hHeld ⊢
              refine qA 0 21 (bz 8 1) HT_ ?_
              refine qA 1 22 (bz 8 3) HT_ ?_
              refine qA 2 23 (bz 8 7) HT_ ?_
              refine qA 3 24 (bz 8 15) HT_ ?_
              refine qA 5 26 (bz 8 47) HT_ ?_
              refine qC 4 25 (bz 8 63) HT_ HW_ hHeld ?_ (hy := by rintro w' ⟨s0, s1⟩; go_simp; with_reducible rfl)
              refine one_ (i := 6) (N := some 27) (bz 8 127) rfl rfl (one_of HT_.out (by kernel_rfl)) (by decide) (fun K hK => ?_)
              refine goes_ Try.func85 (by kernel_rfl) rfl #[.int .i64 (wrap64 (x1_1 + 1))] (by rfl) rfl rfl (by (try simp only [zK, zL, zM]); first | done | rfl | (simp only [zN, zO]; rfl)) ?_
              with_reducible refine (laws_markText.calls k1 (wrap64 (x1_1 + 1)) t271 _ A6.out).mono ?_
              rintro e w9 ⟨rfl, hb⟩
              refine ⟨_, rfl, ?_⟩
              have n0_ := yD (zC (kB HB) hb)
              clear HB; have HB := n0_; clear n0_; (try clear hb); (try clear hb2); (try clear hk); (try clear hi)
              refine hK.out _ _ ⟨((HB.out.cell (zQ w _ hw270_0)).trans hw270_0), ((HB.out.cell (zQ w _ hw270_1)).trans hw270_1)⟩ (fun hHeld => ?_)
              clear hK K
              refine norm_ (a' := ?_) ?_ ?_
              rotate_left
              · show Act.put _ (some 27) _ = _
                simp only [Act.put, zH, zI, zJ, i64_w, i32_w]
                rfl
              refine qA 7 28 (bz 8 255) HT_ ?_
              refine done_ (done_of HT_.out (by kernel_rfl)) ?_
              try go_wp2
              go_roundg k1
              case measure => have := HK1.out; omega
              case rel => exact ⟨(wrap64 ((wrap64 (x1_1 + 1)) + 1)), (wrap64 (x5_1 + 1)), (by first | rfl | (simp; done) | (simp [*]; done)), (by first | rfl | (simp; done) | (simp [*]; done)), H', ⟨by have := HK1.out; omega⟩, ⟨by repeat (first | (with_reducible first | exact HB.out | apply yQ | apply yL | apply yP) | exact HB.out)⟩⟩
            · rw [if_neg c7] at H
              have c7b0 : (((rd_T57 l0 x5_1).f1).toList == t271.toList) = false := beq_eq_false_iff_ne.mpr c7
              have c7b1 : (((rd_T57 l0 x5_1).f1).toList != t271.toList) = true := bne_iff_ne.mpr c7
              obtain rfl := Option.some.inj H
              have p269 : 0 ≤ (x5_1 : Int) := zP (by assumption)
              have q269 : x5_1 < (l0.length : Int) := zP (by assumption)
              obtain ⟨ad269, e269, hx269_0, hx269_1⟩ := at_T57 HR0.out x5_1 p269 q269
              cases e269
              replace hx269_0 := (HB.out.cell (zQ w _ hx269_0)).trans hx269_0
              replace hx269_1 := (HB.out.cell (zQ w _ hx269_1)).trans hx269_1
              replace p269 := eq_true p269; replace q269 := eq_true q269
              try go_wp2
              have n0_ := yD (yP HB.out)
              clear HB; have HB := n0_; clear n0_
              have p270 : 0 ≤ (x5_1 : Int) := zP (by assumption)
              have q270 : x5_1 < (l0.length : Int) := zP (by assumption)
              obtain ⟨ad270, e270, hx270_0, hx270_1⟩ := at_T57 HR0.out x5_1 p270 q270
              have hw270_1 := hx270_1; have hw270_0 := hx270_0
              obtain rfl : ad269 = ad270 := (by injection e270)
              replace hx270_0 := (HB.out.cell (zQ w _ hx270_0)).trans hx270_0
              replace hx270_1 := (HB.out.cell (zQ w _ hx270_1)).trans hx270_1
              replace p270 := eq_true p270; replace q270 := eq_true q270
              refine start_ (n := 8) (S := fun w' => w'.cell? (ad269.add ((x5_1).toNat * 2)) = some (.int .i64 ((rd_T57 l0 x5_1).f0)) ∧ w'.cell? ⟨(ad269.add ((x5_1).toNat * 2)).block, (ad269.add ((x5_1).toNat * 2)).off + 1, none⟩ = some (.string ((rd_T57 l0 x5_1).f1))) (ds := []) (bz 8 0) (by kernel_rfl) rfl rfl ⟨((HB.out.cell (zQ w _ hw270_0)).trans hw270_0), ((HB.out.cell (zQ w _ hw270_1)).trans hw270_1)⟩ (fun hHeld => ?_); refine with_tabW laws_heldPutS.tab7 laws_heldPutS.bits7 (fun HT_ HW_ => ?_)
              generalize wr.drew = w10 at HB hx270_0 hx270_1 hHeld ⊢
              refine qA 0 21 (bz 8 1) HT_ ?_
              refine qA 1 22 (bz 8 3) HT_ ?_
              refine qA 2 23 (bz 8 7) HT_ ?_
              refine qA 3 24 (bz 8 15) HT_ ?_
              refine qA 5 26 (bz 8 47) HT_ ?_
              refine qC 4 25 (bz 8 63) HT_ HW_ hHeld ?_ (hy := by rintro w' ⟨s0, s1⟩; go_simp; with_reducible rfl)
              refine one_ (i := 6) (N := some 27) (bz 8 127) rfl rfl (one_of HT_.out (by kernel_rfl)) (by decide) (fun K hK => ?_)
              refine goes_ Try.func85 (by kernel_rfl) rfl #[.int .i64 (wrap64 (x1_1 + 1))] (by rfl) rfl rfl (by (try simp only [zK, zL, zM]); first | done | rfl | (simp only [zN, zO]; rfl)) ?_
              with_reducible refine (laws_markText.calls k1 (wrap64 (x1_1 + 1)) t271 _ A6.out).mono ?_
              rintro e w11 ⟨rfl, hb⟩
              refine ⟨_, rfl, ?_⟩
              have n0_ := yD (zC (kB HB) hb)
              clear HB; have HB := n0_; clear n0_; (try clear hb); (try clear hb2); (try clear hk); (try clear hi)
              refine hK.out _ _ ⟨((HB.out.cell (zQ w _ hw270_0)).trans hw270_0), ((HB.out.cell (zQ w _ hw270_1)).trans hw270_1)⟩ (fun hHeld => ?_)
              clear hK K
              refine norm_ (a' := ?_) ?_ ?_
              rotate_left
              · show Act.put _ (some 27) _ = _
                simp only [Act.put, zH, zI, zJ, i64_w, i32_w]
                rfl
              refine qA 7 28 (bz 8 255) HT_ ?_
              refine done_ (done_of HT_.out (by kernel_rfl)) ?_
              try go_wp2
              go_ret
              exact ⟨by first | rfl | (simp <;> rfl) | (simp [*] <;> rfl), by repeat (first | (with_reducible first | exact HB.out | apply yQ | apply yL | apply yP) | exact HB.out)⟩
          · rw [if_neg c5] at H
            have c5b0 : (((rd_T57 l0 x5_1).f0) == x1_1) = false := beq_eq_false_iff_ne.mpr c5
            have c5b1 : (((rd_T57 l0 x5_1).f0) != x1_1) = true := bne_iff_ne.mpr c5
            obtain rfl := Option.some.inj H
            have p269 : 0 ≤ (x5_1 : Int) := zP (by assumption)
            have q269 : x5_1 < (l0.length : Int) := zP (by assumption)
            obtain ⟨ad269, e269, hx269_0, hx269_1⟩ := at_T57 HR0.out x5_1 p269 q269
            cases e269
            replace hx269_0 := (HB.out.cell (zQ w _ hx269_0)).trans hx269_0
            replace hx269_1 := (HB.out.cell (zQ w _ hx269_1)).trans hx269_1
            replace p269 := eq_true p269; replace q269 := eq_true q269
            go_wp2
            go_ret
            exact ⟨by first | rfl | (simp <;> rfl) | (simp [*] <;> rfl), by repeat (first | (with_reducible first | exact HB.out | apply yQ | apply yL | apply yP) | exact HB.out)⟩
        · rw [if_neg c4] at H
          exact absurd H (by simp)
      · rw [if_neg c3] at H
        have c3b0 : decide (x5_1 < (l0.length : Int)) = false := zS c3; clear c3; obtain rfl := Option.some.inj H
        go_wp2
        go_ret
        exact ⟨by first | rfl | (simp <;> rfl) | (simp [*] <;> rfl), by repeat (first | (with_reducible first | exact HB.out | apply yQ | apply yL | apply yP) | exact HB.out)⟩

/-! ### laws_heldDisk: function 22 -/
def laws_heldDisk.f (k : Nat) (l0_0 : List ByteArray) (l0_1 : List (S57)) (a0_2 : Int) (a0_3 : Bool) (a1 : Int) : Option (Int) := (laws_heldStringS.f k l0_0 a1).bind fun t273 => (if t273 < 0 then (some (-1)) else ((laws_heldPutS.f k l0_1 t273).bind fun t274 => (if t274 < 0 then (some (-1)) else (some t274))))
theorem laws_heldDisk.mono : ∀ a0 a1 a2 a3 a4 k, LeO (laws_heldDisk.f k a0 a1 a2 a3 a4) (laws_heldDisk.f (k + 1) a0 a1 a2 a3 a4) := by
  intro a0 a1 a2 a3 a4 k
  unfold laws_heldDisk.f
  repeat' first
      | (with_reducible exact laws_heldPutS.mono _ _ _)
      | (with_reducible exact laws_heldStringS.mono _ _ _)
      | (with_reducible exact LeO.refl _)
      | (with_reducible exact LeO.none _)
      | (with_reducible refine LeO.ite ?_ ?_)
      | (with_reducible refine LeO.bind ?_ (fun _ => ?_))
      | exact laws_heldPutS.mono _ _ _
      | exact laws_heldStringS.mono _ _ _
      | exact LeO.none _
      | refine LeO.ite ?_ ?_
      | refine LeO.bind ?_ (fun _ => ?_)
set_option maxHeartbeats 8000000 in
set_option maxRecDepth 100000 in
theorem laws_heldDisk.calls (k : Nat) (A0_0 : Option Addr) (c0_0 : Nat) (l0_0 : List ByteArray) (A0_1 : Option Addr) (c0_1 : Nat) (l0_1 : List (S57)) (a0_2 : Int) (a0_3 : Bool) (a1 : Int) (r : Int) (w : World) (hr0_0 : Kd.C Kd.string w A0_0 l0_0.length l0_0) (hc0_0 : l0_0.length ≤ c0_0) (hr0_1 : Kd.C k57 w A0_1 l0_1.length l0_1) (hc0_1 : l0_1.length ≤ c0_1) (h : laws_heldDisk.f k l0_0 l0_1 a0_2 a0_3 a1 = some r) :
    Calls Try.prog 22 #[.agg #[.slice A0_0 l0_0.length c0_0, .slice A0_1 l0_1.length c0_1, .int .i64 a0_2, .bool a0_3], .int .i64 a1] w fun e w' => e = .returned (.int .i64 r) ∧ Below w.heap.size w w' := by
  have hu44 := Try.underlying44
  have HR0_0 := yD hr0_0
  have HC0_0 := yD hc0_0
  clear hr0_0 hc0_0
  have HR0_1 := yD hr0_1
  have HC0_1 := yD hc0_1
  clear hr0_1 hc0_1
  have HB := yD (Below.refl w.heap.size w)
  have H : ((laws_heldStringS.f k l0_0 a1).bind fun t273 => (if t273 < 0 then (some (-1)) else ((laws_heldPutS.f k l0_1 t273).bind fun t274 => (if t274 < 0 then (some (-1)) else (some t274))))) = some r := h
  clear h
  obtain ⟨t273, A30, H⟩ := zW_ H
  replace H : (if t273 < 0 then (some (-1)) else ((laws_heldPutS.f k l0_1 t273).bind fun t274 => (if t274 < 0 then (some (-1)) else (some t274)))) = some r := H
  have A3 := yD A30
  clear A30
  by_cases c4 : t273 < 0
  · rw [if_pos c4] at H
    have c4b0 : decide (t273 < 0) = true := zR c4; clear c4; obtain rfl := Option.some.inj H; go_enter Try.func22, Try.ntmps22
    go_wp2_with (first | ((with_reducible refine gate_dst (N := 2) rfl ?_); refine box_event ?hg (N := 2) ?hd (cs := #[.slice A0_0 l0_0.length c0_0, .slice A0_1 l0_1.length c0_1, .int .i64 a0_2, .bool a0_3]) (t := 44) ?hr ?_; (case hd => rfl); (case hg => rfl); (case hr => first | (go_simp; done) | (go_simp; rfl)); intro gb272 hg w5 hbox hb; have n0_ := yD (zC (kB HB) hb); have n1_ := yD (hbox); have n2_ := yD ((by rw [hg]; exact (below_size (kB HB)) : w.heap.size ≤ gb272)); have n3_ := yD ((by rw [hg]; exact (below_size (kB HB)) : w.heap.size ≤ gb272)); clear HB; have HB := n0_; have BK272 := n1_; have GW272 := n2_; have GE272 := n3_; clear n0_ n1_ n2_ n3_; clear hb hbox hg; obtain ⟨hcz6_0, hcz6_1, hcz6_2, hcz6_3⟩ := cz4 BK272.out; obtain ⟨hfz6_0, hfz6_1, hfz6_2, hfz6_3⟩ := fz4 BK272.out) | ((with_reducible refine gate_callee (f := 54) rfl ?_); refine goesL_ (some 8) rfl rfl Try.func54 (by kernel_rfl) rfl #[.slice A0_0 l0_0.length c0_0, .int .i64 a1] rfl (by (try simp only [zK, zL, zM]); first | done | rfl | (simp only [zN, zO]; rfl)) ?_; (with_reducible refine (laws_heldStringS.calls k _ _ l0_0 a1 t273 _ ?side1 ?side2 A3.out).mono ?_); (case side1 => exact kV (yY HR0_0.out HB.out)); (case side2 => exact HC0_0.out); rintro e w7 ⟨rfl, hb⟩; refine ⟨_, rfl, ?_⟩; have n0_ := yD (zB (g := gb272) (o := .cells #[.slice A0_0 l0_0.length c0_0, .slice A0_1 l0_1.length c0_1, .int .i64 a0_2, .bool a0_3] 44 (0, 0)) (kM BK272) hb); have n1_ := yD (zC (kB HB) hb); clear BK272; clear HB; have BK272 := n0_; have HB := n1_; clear n0_ n1_; (try clear hb); (try clear hb2); (try clear hk); (try clear hi)))
    go_ret
    exact ⟨by first | rfl | (simp <;> rfl) | (simp [*] <;> rfl), by repeat (first | (with_reducible first | exact HB.out | apply yQ | apply yL | apply yP | refine yE ?_ GE272.out) | exact HB.out)⟩
  · rw [if_neg c4] at H
    have c4b0 : decide (t273 < 0) = false := zS c4; clear c4
    obtain ⟨t274, A80, H⟩ := zW_ H
    replace H : (if t274 < 0 then (some (-1)) else (some t274)) = some r := H
    have A8 := yD A80
    clear A80
    by_cases c9 : t274 < 0
    · rw [if_pos c9] at H
      have c9b0 : decide (t274 < 0) = true := zR c9; clear c9; obtain rfl := Option.some.inj H; go_enter Try.func22, Try.ntmps22
      go_wp2_with (first | ((with_reducible refine gate_dst (N := 2) rfl ?_); refine box_event ?hg (N := 2) ?hd (cs := #[.slice A0_0 l0_0.length c0_0, .slice A0_1 l0_1.length c0_1, .int .i64 a0_2, .bool a0_3]) (t := 44) ?hr ?_; (case hd => rfl); (case hg => rfl); (case hr => first | (go_simp; done) | (go_simp; rfl)); intro gb272 hg w10 hbox hb; have n0_ := yD (zC (kB HB) hb); have n1_ := yD (hbox); have n2_ := yD ((by rw [hg]; exact (below_size (kB HB)) : w.heap.size ≤ gb272)); have n3_ := yD ((by rw [hg]; exact (below_size (kB HB)) : w.heap.size ≤ gb272)); clear HB; have HB := n0_; have BK272 := n1_; have GW272 := n2_; have GE272 := n3_; clear n0_ n1_ n2_ n3_; clear hb hbox hg; obtain ⟨hcz11_0, hcz11_1, hcz11_2, hcz11_3⟩ := cz4 BK272.out; obtain ⟨hfz11_0, hfz11_1, hfz11_2, hfz11_3⟩ := fz4 BK272.out) | ((with_reducible refine gate_callee (f := 54) rfl ?_); refine goesL_ (some 8) rfl rfl Try.func54 (by kernel_rfl) rfl #[.slice A0_0 l0_0.length c0_0, .int .i64 a1] rfl (by (try simp only [zK, zL, zM]); first | done | rfl | (simp only [zN, zO]; rfl)) ?_; (with_reducible refine (laws_heldStringS.calls k _ _ l0_0 a1 t273 _ ?side1 ?side2 A3.out).mono ?_); (case side1 => exact kV (yY HR0_0.out HB.out)); (case side2 => exact HC0_0.out); rintro e w12 ⟨rfl, hb⟩; refine ⟨_, rfl, ?_⟩; have n0_ := yD (zB (g := gb272) (o := .cells #[.slice A0_0 l0_0.length c0_0, .slice A0_1 l0_1.length c0_1, .int .i64 a0_2, .bool a0_3] 44 (0, 0)) (kM BK272) hb); have n1_ := yD (zC (kB HB) hb); clear BK272; clear HB; have BK272 := n0_; have HB := n1_; clear n0_ n1_; (try clear hb); (try clear hb2); (try clear hk); (try clear hi); obtain ⟨hcz13_0, hcz13_1, hcz13_2, hcz13_3⟩ := cz4 BK272.out; obtain ⟨hfz13_0, hfz13_1, hfz13_2, hfz13_3⟩ := fz4 BK272.out) | ((with_reducible refine gate_callee (f := 55) rfl ?_); refine goesL_ (some 14) rfl rfl Try.func55 (by kernel_rfl) rfl #[.slice A0_1 l0_1.length c0_1, .int .i64 t273] rfl (by (try simp only [zK, zL, zM]); first | done | rfl | (simp only [zN, zO]; rfl)) ?_; (with_reducible refine (laws_heldPutS.calls k _ _ l0_1 t273 t274 _ ?side1 ?side2 A8.out).mono ?_); (case side1 => exact kV (yY HR0_1.out HB.out)); (case side2 => exact HC0_1.out); rintro e w14 ⟨rfl, hb⟩; refine ⟨_, rfl, ?_⟩; have n0_ := yD (zB (g := gb272) (o := .cells #[.slice A0_0 l0_0.length c0_0, .slice A0_1 l0_1.length c0_1, .int .i64 a0_2, .bool a0_3] 44 (0, 0)) (kM BK272) hb); have n1_ := yD (zC (kB HB) hb); clear BK272; clear HB; have BK272 := n0_; have HB := n1_; clear n0_ n1_; (try clear hb); (try clear hb2); (try clear hk); (try clear hi)))
      go_ret
      exact ⟨by first | rfl | (simp <;> rfl) | (simp [*] <;> rfl), by repeat (first | (with_reducible first | exact HB.out | apply yQ | apply yL | apply yP | refine yE ?_ GE272.out) | exact HB.out)⟩
    · rw [if_neg c9] at H
      have c9b0 : decide (t274 < 0) = false := zS c9; clear c9; obtain rfl := Option.some.inj H; go_enter Try.func22, Try.ntmps22
      go_wp2_with (first | ((with_reducible refine gate_dst (N := 2) rfl ?_); refine box_event ?hg (N := 2) ?hd (cs := #[.slice A0_0 l0_0.length c0_0, .slice A0_1 l0_1.length c0_1, .int .i64 a0_2, .bool a0_3]) (t := 44) ?hr ?_; (case hd => rfl); (case hg => rfl); (case hr => first | (go_simp; done) | (go_simp; rfl)); intro gb272 hg w15 hbox hb; have n0_ := yD (zC (kB HB) hb); have n1_ := yD (hbox); have n2_ := yD ((by rw [hg]; exact (below_size (kB HB)) : w.heap.size ≤ gb272)); have n3_ := yD ((by rw [hg]; exact (below_size (kB HB)) : w.heap.size ≤ gb272)); clear HB; have HB := n0_; have BK272 := n1_; have GW272 := n2_; have GE272 := n3_; clear n0_ n1_ n2_ n3_; clear hb hbox hg; obtain ⟨hcz16_0, hcz16_1, hcz16_2, hcz16_3⟩ := cz4 BK272.out; obtain ⟨hfz16_0, hfz16_1, hfz16_2, hfz16_3⟩ := fz4 BK272.out) | ((with_reducible refine gate_callee (f := 54) rfl ?_); refine goesL_ (some 8) rfl rfl Try.func54 (by kernel_rfl) rfl #[.slice A0_0 l0_0.length c0_0, .int .i64 a1] rfl (by (try simp only [zK, zL, zM]); first | done | rfl | (simp only [zN, zO]; rfl)) ?_; (with_reducible refine (laws_heldStringS.calls k _ _ l0_0 a1 t273 _ ?side1 ?side2 A3.out).mono ?_); (case side1 => exact kV (yY HR0_0.out HB.out)); (case side2 => exact HC0_0.out); rintro e w17 ⟨rfl, hb⟩; refine ⟨_, rfl, ?_⟩; have n0_ := yD (zB (g := gb272) (o := .cells #[.slice A0_0 l0_0.length c0_0, .slice A0_1 l0_1.length c0_1, .int .i64 a0_2, .bool a0_3] 44 (0, 0)) (kM BK272) hb); have n1_ := yD (zC (kB HB) hb); clear BK272; clear HB; have BK272 := n0_; have HB := n1_; clear n0_ n1_; (try clear hb); (try clear hb2); (try clear hk); (try clear hi); obtain ⟨hcz18_0, hcz18_1, hcz18_2, hcz18_3⟩ := cz4 BK272.out; obtain ⟨hfz18_0, hfz18_1, hfz18_2, hfz18_3⟩ := fz4 BK272.out) | ((with_reducible refine gate_callee (f := 55) rfl ?_); refine goesL_ (some 14) rfl rfl Try.func55 (by kernel_rfl) rfl #[.slice A0_1 l0_1.length c0_1, .int .i64 t273] rfl (by (try simp only [zK, zL, zM]); first | done | rfl | (simp only [zN, zO]; rfl)) ?_; (with_reducible refine (laws_heldPutS.calls k _ _ l0_1 t273 t274 _ ?side1 ?side2 A8.out).mono ?_); (case side1 => exact kV (yY HR0_1.out HB.out)); (case side2 => exact HC0_1.out); rintro e w19 ⟨rfl, hb⟩; refine ⟨_, rfl, ?_⟩; have n0_ := yD (zB (g := gb272) (o := .cells #[.slice A0_0 l0_0.length c0_0, .slice A0_1 l0_1.length c0_1, .int .i64 a0_2, .bool a0_3] 44 (0, 0)) (kM BK272) hb); have n1_ := yD (zC (kB HB) hb); clear BK272; clear HB; have BK272 := n0_; have HB := n1_; clear n0_ n1_; (try clear hb); (try clear hb2); (try clear hk); (try clear hi)))
      go_ret
      exact ⟨by first | rfl | (simp <;> rfl) | (simp [*] <;> rfl), by repeat (first | (with_reducible first | exact HB.out | apply yQ | apply yL | apply yP | refine yE ?_ GE272.out) | exact HB.out)⟩

end Go.Proofs.Ytgpkkplabnliiaa.PFnExactCutPower
