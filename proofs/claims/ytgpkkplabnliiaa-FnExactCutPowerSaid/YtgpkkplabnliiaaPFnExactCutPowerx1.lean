/- Each Go function here comes to what the plain function of its name says, where that says something. Made by a program of this session, over the print. -/
import Derived.Test.YtgpkkplabnliiaaPFnExactCutPowerx0
namespace Go.Proofs.Ytgpkkplabnliiaa.PFnExactCutPower
open Go.RowKit Go.Proofs.YtgpkkplabnliiaaW.PrintWords Go.Proofs.YtgpkkplabnliiaaW.PrintLast Go.Proofs.YtgpkkplabnliiaaW.PrintMore
attribute [local go_sem] max2_int min2_int max_two min_two max_three min_three max_four min_four   -- for this text's walks alone
set_option linter.unusedVariables false
set_option linter.unusedSimpArgs false

/-! ### laws_szStringS: function 41 -/
def laws_szStringS.l0 : Nat → List ByteArray → Int → Int → Option (Int)
  | 0, _, _, _ => none
  | k + 1, x0, x1, x5 => if x5 < (x0.length : Int) then (if 0 ≤ x5 then (if (wrap64 (x1 - ((rdOf ByteArray.empty x0 x5).size : Int))) < 0 then (some (-1)) else (laws_szStringS.l0 k x0 (wrap64 (x1 - ((rdOf ByteArray.empty x0 x5).size : Int))) (wrap64 (x5 + 1)))) else (none)) else (some x1)
def laws_szStringS.f (k : Nat) (l0 : List ByteArray) (a1 : Int) : Option (Int) := if (wrap64 (a1 - (l0.length : Int))) < 0 then (some (-1)) else (laws_szStringS.l0 k l0 (wrap64 (a1 - (l0.length : Int))) 0)
theorem laws_szStringS.mono_l : ∀ k, (∀ y0 y1 y2, LeO (laws_szStringS.l0 k y0 y1 y2) (laws_szStringS.l0 (k + 1) y0 y1 y2))
  | 0 => fun _ _ _ r h => by simp [laws_szStringS.l0] at h
  | k + 1 => by
    have ih0 := laws_szStringS.mono_l k
    · intro y0 y1 y2
      unfold laws_szStringS.l0
      repeat' first
      | (with_reducible exact ih0 _ _ _)
      | (with_reducible exact LeO.refl _)
      | (with_reducible exact LeO.none _)
      | (with_reducible refine LeO.ite ?_ ?_)
      | (with_reducible refine LeO.bind ?_ (fun _ => ?_))
      | exact ih0 _ _ _
      | exact LeO.none _
      | refine LeO.ite ?_ ?_
      | refine LeO.bind ?_ (fun _ => ?_)
theorem laws_szStringS.mono : ∀ a0 a1 k, LeO (laws_szStringS.f k a0 a1) (laws_szStringS.f (k + 1) a0 a1) := by
  intro a0 a1 k
  have ih0 := laws_szStringS.mono_l k
  unfold laws_szStringS.f
  repeat' first
      | (with_reducible exact ih0 _ _ _)
      | (with_reducible exact LeO.refl _)
      | (with_reducible exact LeO.none _)
      | (with_reducible refine LeO.ite ?_ ?_)
      | (with_reducible refine LeO.bind ?_ (fun _ => ?_))
      | exact ih0 _ _ _
      | exact LeO.none _
      | refine LeO.ite ?_ ?_
      | refine LeO.bind ?_ (fun _ => ?_)
set_option maxHeartbeats 8000000 in
set_option maxRecDepth 100000 in
theorem laws_szStringS.calls (k : Nat) (A0 : Option Addr) (c0 : Nat) (l0 : List ByteArray) (a1 : Int) (r : Int) (w : World) (hr0 : Kd.C Kd.string w A0 l0.length l0) (hc0 : l0.length ≤ c0) (h : laws_szStringS.f k l0 a1 = some r) :
    Calls Try.prog 41 #[.slice A0 l0.length c0, .int .i64 a1] w fun e w' => e = .returned (.int .i64 r) ∧ Drawn0 w w' := by
  have HR0 := yD hr0
  have HC0 := yD hc0
  clear hr0 hc0
  have H : (if (wrap64 (a1 - (l0.length : Int))) < 0 then (some (-1)) else (laws_szStringS.l0 k l0 (wrap64 (a1 - (l0.length : Int))) 0)) = some r := h
  clear h
  by_cases c3 : (wrap64 (a1 - (l0.length : Int))) < 0
  · rw [if_pos c3] at H
    have c3b0 : decide ((wrap64 (a1 - (l0.length : Int))) < 0) = true := zR c3; clear c3; obtain rfl := Option.some.inj H; go_enter Try.func41, Try.ntmps41
    go_wp2
    go_ret
    exact ⟨by first | rfl | (simp; done) | (simp [*]; done), by repeat (first | exact Drawn0.refl _ | apply Drawn0.step)⟩
  · rw [if_neg c3] at H
    have c3b0 : decide ((wrap64 (a1 - (l0.length : Int))) < 0) = false := zS c3; clear c3
    have H' := yD H
    clear H; go_enter Try.func41, Try.ntmps41
    go_wp2
    go_loopg [1, 5] k (fun kq v1 v5 w' => ∃ (x1_1 : Int) (x5_1 : Int), v1 = .int .i64 x1_1 ∧ v5 = .int .i64 x5_1 ∧ Aside0 (laws_szStringS.l0 kq l0 x1_1 x5_1 = some r) ∧ Aside0 (kq ≤ k) ∧ Drawn0 w w')
    case atStart => exact ⟨(wrap64 (a1 - (l0.length : Int))), (0), (by first | rfl | (simp; done) | (simp [*]; done)), (by first | rfl | (simp; done) | (simp [*]; done)), H', ⟨Nat.le_refl _⟩, by repeat (first | exact Drawn0.refl _ | apply Drawn0.step)⟩
    case round =>
      clear H'
      try clear p2; try clear c3; try clear c3b0
      obtain ⟨x1_1, x5_1, rfl, rfl, HA, HK1, ⟨m1, rfl⟩⟩ := hrel
      cases gk with
      | zero => exact absurd HA.out (by simp [laws_szStringS.l0])
      | succ k1 =>
        have H := HA.out; clear HA
        simp only [laws_szStringS.l0] at H
        by_cases c4 : x5_1 < (l0.length : Int)
        · rw [if_pos c4] at H
          have c4b0 : decide (x5_1 < (l0.length : Int)) = true := zR c4; clear c4
          by_cases c5 : 0 ≤ x5_1
          · rw [if_pos c5] at H
            have c5b0 : decide (0 ≤ x5_1) = true := zR c5; clear c5
            by_cases c6 : (wrap64 (x1_1 - ((rdOf ByteArray.empty l0 x5_1).size : Int))) < 0
            · rw [if_pos c6] at H
              have c6b0 : decide ((wrap64 (x1_1 - ((rdOf ByteArray.empty l0 x5_1).size : Int))) < 0) = true := zR c6; clear c6; obtain rfl := Option.some.inj H
              have p101 : 0 ≤ (x5_1 : Int) := zP (by assumption)
              have q101 : x5_1 < (l0.length : Int) := zP (by assumption)
              obtain ⟨ad101, e101, hx101_0⟩ := Kd.at_string HR0.out x5_1 p101 q101
              cases e101; replace p101 := eq_true p101; replace q101 := eq_true q101
              go_wp2
              go_ret
              exact ⟨by first | rfl | (simp; done) | (simp [*]; done), by repeat (first | exact Drawn0.refl _ | apply Drawn0.step)⟩
            · rw [if_neg c6] at H
              have c6b0 : decide ((wrap64 (x1_1 - ((rdOf ByteArray.empty l0 x5_1).size : Int))) < 0) = false := zS c6; clear c6
              have H' := yD H
              clear H
              have p101 : 0 ≤ (x5_1 : Int) := zP (by assumption)
              have q101 : x5_1 < (l0.length : Int) := zP (by assumption)
              obtain ⟨ad101, e101, hx101_0⟩ := Kd.at_string HR0.out x5_1 p101 q101
              cases e101; replace p101 := eq_true p101; replace q101 := eq_true q101
              go_wp2
              go_roundg k1
              case measure => have := HK1.out; omega
              case rel => exact ⟨(wrap64 (x1_1 - ((rdOf ByteArray.empty l0 x5_1).size : Int))), (wrap64 (x5_1 + 1)), (by first | rfl | (simp; done) | (simp [*]; done)), (by first | rfl | (simp; done) | (simp [*]; done)), H', ⟨by have := HK1.out; omega⟩, by repeat (first | exact Drawn0.refl _ | apply Drawn0.step)⟩
          · rw [if_neg c5] at H
            exact absurd H (by simp)
        · rw [if_neg c4] at H
          have c4b0 : decide (x5_1 < (l0.length : Int)) = false := zS c4; clear c4; obtain rfl := Option.some.inj H
          go_wp2
          go_ret
          exact ⟨by first | rfl | (simp; done) | (simp [*]; done), by repeat (first | exact Drawn0.refl _ | apply Drawn0.step)⟩

/-! ### laws_szPut: function 74 -/
def laws_szPut.f (a0_0 : Int) (a0_1 : ByteArray) (a1 : Int) : Option (Int) := if (wrap64 (a1 - (a0_1.size : Int))) < 0 then (some (-1)) else (some (wrap64 (a1 - (a0_1.size : Int))))
set_option maxHeartbeats 8000000 in
set_option maxRecDepth 100000 in
theorem laws_szPut.calls (a0_0 : Int) (a0_1 : ByteArray) (a1 : Int) (r : Int) (w : World) (h : laws_szPut.f a0_0 a0_1 a1 = some r) :
    Calls Try.prog 74 #[.agg #[.int .i64 a0_0, .string a0_1], .int .i64 a1] w fun e w' => e = .returned (.int .i64 r) ∧ Below w.heap.size w w' := by
  have hu99 := Try.underlying99
  have HB := yD (Below.refl w.heap.size w)
  have H : (if (wrap64 (a1 - (a0_1.size : Int))) < 0 then (some (-1)) else (some (wrap64 (a1 - (a0_1.size : Int))))) = some r := h
  clear h
  by_cases c3 : (wrap64 (a1 - (a0_1.size : Int))) < 0
  · rw [if_pos c3] at H
    have c3b0 : decide ((wrap64 (a1 - (a0_1.size : Int))) < 0) = true := zR c3; clear c3; obtain rfl := Option.some.inj H; go_enter Try.func74, Try.ntmps74
    go_wp2_with (first | ((with_reducible refine gate_dst (N := 2) rfl ?_); refine box_event ?hg (N := 2) ?hd (cs := #[.int .i64 a0_0, .string a0_1]) (t := 99) ?hr ?_; (case hd => rfl); (case hg => rfl); (case hr => first | (go_simp; done) | (go_simp; rfl)); intro gb102 hg w4 hbox hb; have n0_ := yD (zC (kB HB) hb); have n1_ := yD (hbox); have n2_ := yD ((by rw [hg]; exact (below_size (kB HB)) : w.heap.size ≤ gb102)); have n3_ := yD ((by rw [hg]; exact (below_size (kB HB)) : w.heap.size ≤ gb102)); clear HB; have HB := n0_; have BK102 := n1_; have GW102 := n2_; have GE102 := n3_; clear n0_ n1_ n2_ n3_; clear hb hbox hg; obtain ⟨hcz5_0, hcz5_1⟩ := cz2 BK102.out; obtain ⟨hfz5_0, hfz5_1⟩ := fz2 BK102.out))
    go_ret
    exact ⟨by first | rfl | (simp <;> rfl) | (simp [*] <;> rfl), by repeat (first | (with_reducible first | exact HB.out | apply yQ | apply yL | apply yP | refine yE ?_ GE102.out) | exact HB.out)⟩
  · rw [if_neg c3] at H
    have c3b0 : decide ((wrap64 (a1 - (a0_1.size : Int))) < 0) = false := zS c3; clear c3; obtain rfl := Option.some.inj H; go_enter Try.func74, Try.ntmps74
    go_wp2_with (first | ((with_reducible refine gate_dst (N := 2) rfl ?_); refine box_event ?hg (N := 2) ?hd (cs := #[.int .i64 a0_0, .string a0_1]) (t := 99) ?hr ?_; (case hd => rfl); (case hg => rfl); (case hr => first | (go_simp; done) | (go_simp; rfl)); intro gb102 hg w6 hbox hb; have n0_ := yD (zC (kB HB) hb); have n1_ := yD (hbox); have n2_ := yD ((by rw [hg]; exact (below_size (kB HB)) : w.heap.size ≤ gb102)); have n3_ := yD ((by rw [hg]; exact (below_size (kB HB)) : w.heap.size ≤ gb102)); clear HB; have HB := n0_; have BK102 := n1_; have GW102 := n2_; have GE102 := n3_; clear n0_ n1_ n2_ n3_; clear hb hbox hg; obtain ⟨hcz7_0, hcz7_1⟩ := cz2 BK102.out; obtain ⟨hfz7_0, hfz7_1⟩ := fz2 BK102.out))
    go_ret
    exact ⟨by first | rfl | (simp <;> rfl) | (simp [*] <;> rfl), by repeat (first | (with_reducible first | exact HB.out | apply yQ | apply yL | apply yP | refine yE ?_ GE102.out) | exact HB.out)⟩

/-! ### laws_szPutS: function 42 -/
def laws_szPutS.l0 : Nat → List (S99) → Int → Int → Option (Int)
  | 0, _, _, _ => none
  | k + 1, x0, x1, x5 => if x5 < (x0.length : Int) then (if 0 ≤ x5 then ((laws_szPut.f ((rd_T99 x0 x5).f0) ((rd_T99 x0 x5).f1) x1).bind fun t104 => (if t104 < 0 then (some (-1)) else (laws_szPutS.l0 k x0 t104 (wrap64 (x5 + 1))))) else (none)) else (some x1)
def laws_szPutS.f (k : Nat) (l0 : List (S99)) (a1 : Int) : Option (Int) := if (wrap64 (a1 - (l0.length : Int))) < 0 then (some (-1)) else (laws_szPutS.l0 k l0 (wrap64 (a1 - (l0.length : Int))) 0)
theorem laws_szPutS.mono_l : ∀ k, (∀ y0 y1 y2, LeO (laws_szPutS.l0 k y0 y1 y2) (laws_szPutS.l0 (k + 1) y0 y1 y2))
  | 0 => fun _ _ _ r h => by simp [laws_szPutS.l0] at h
  | k + 1 => by
    have ih0 := laws_szPutS.mono_l k
    · intro y0 y1 y2
      unfold laws_szPutS.l0
      repeat' first
      | (with_reducible exact ih0 _ _ _)
      | (with_reducible exact LeO.refl _)
      | (with_reducible exact LeO.none _)
      | (with_reducible refine LeO.ite ?_ ?_)
      | (with_reducible refine LeO.bind ?_ (fun _ => ?_))
      | exact ih0 _ _ _
      | exact LeO.none _
      | refine LeO.ite ?_ ?_
      | refine LeO.bind ?_ (fun _ => ?_)
theorem laws_szPutS.mono : ∀ a0 a1 k, LeO (laws_szPutS.f k a0 a1) (laws_szPutS.f (k + 1) a0 a1) := by
  intro a0 a1 k
  have ih0 := laws_szPutS.mono_l k
  unfold laws_szPutS.f
  repeat' first
      | (with_reducible exact ih0 _ _ _)
      | (with_reducible exact LeO.refl _)
      | (with_reducible exact LeO.none _)
      | (with_reducible refine LeO.ite ?_ ?_)
      | (with_reducible refine LeO.bind ?_ (fun _ => ?_))
      | exact ih0 _ _ _
      | exact LeO.none _
      | refine LeO.ite ?_ ?_
      | refine LeO.bind ?_ (fun _ => ?_)
set_option maxHeartbeats 8000000 in
set_option maxRecDepth 100000 in
theorem laws_szPutS.calls (k : Nat) (A0 : Option Addr) (c0 : Nat) (l0 : List (S99)) (a1 : Int) (r : Int) (w : World) (hr0 : Kd.C k99 w A0 l0.length l0) (hc0 : l0.length ≤ c0) (h : laws_szPutS.f k l0 a1 = some r) :
    Calls Try.prog 42 #[.slice A0 l0.length c0, .int .i64 a1] w fun e w' => e = .returned (.int .i64 r) ∧ Below w.heap.size w w' := by
  have hu99 := Try.underlying99
  have HR0 := yD hr0
  have HC0 := yD hc0
  clear hr0 hc0
  have HB := yD (Below.refl w.heap.size w)
  have H : (if (wrap64 (a1 - (l0.length : Int))) < 0 then (some (-1)) else (laws_szPutS.l0 k l0 (wrap64 (a1 - (l0.length : Int))) 0)) = some r := h
  clear h
  by_cases c3 : (wrap64 (a1 - (l0.length : Int))) < 0
  · rw [if_pos c3] at H
    have c3b0 : decide ((wrap64 (a1 - (l0.length : Int))) < 0) = true := zR c3; clear c3; obtain rfl := Option.some.inj H; go_enter Try.func42, Try.ntmps42
    go_wp2
    go_ret
    exact ⟨by first | rfl | (simp <;> rfl) | (simp [*] <;> rfl), by repeat (first | (with_reducible first | exact HB.out | apply yQ | apply yL | apply yP) | exact HB.out)⟩
  · rw [if_neg c3] at H
    have c3b0 : decide ((wrap64 (a1 - (l0.length : Int))) < 0) = false := zS c3; clear c3
    have H' := yD H
    clear H; go_enter Try.func42, Try.ntmps42
    go_wp2
    go_loopg [1, 5] k (fun kq v1 v5 w' => ∃ (x1_1 : Int) (x5_1 : Int), v1 = .int .i64 x1_1 ∧ v5 = .int .i64 x5_1 ∧ Aside0 (laws_szPutS.l0 kq l0 x1_1 x5_1 = some r) ∧ Aside0 (kq ≤ k) ∧ Aside0 (Below w.heap.size w w'))
    case atStart => exact ⟨(wrap64 (a1 - (l0.length : Int))), (0), (by first | rfl | (simp; done) | (simp [*]; done)), (by first | rfl | (simp; done) | (simp [*]; done)), H', ⟨Nat.le_refl _⟩, ⟨by repeat (first | (with_reducible first | exact HB.out | apply yQ | apply yL | apply yP) | exact HB.out)⟩⟩
    case round =>
      clear H'
      try clear p2; try clear c3; try clear c3b0
      obtain ⟨x1_1, x5_1, rfl, rfl, HA, HK1, HB⟩ := hrel
      cases gk with
      | zero => exact absurd HA.out (by simp [laws_szPutS.l0])
      | succ k1 =>
        have H := HA.out; clear HA
        simp only [laws_szPutS.l0] at H
        by_cases c4 : x5_1 < (l0.length : Int)
        · rw [if_pos c4] at H
          have c4b0 : decide (x5_1 < (l0.length : Int)) = true := zR c4; clear c4
          by_cases c5 : 0 ≤ x5_1
          · rw [if_pos c5] at H
            have c5b0 : decide (0 ≤ x5_1) = true := zR c5; clear c5
            obtain ⟨t104, A60, H⟩ := zW_ H
            replace H : (if t104 < 0 then (some (-1)) else (laws_szPutS.l0 k1 l0 t104 (wrap64 (x5_1 + 1)))) = some r := H
            have A6 := yD A60
            clear A60
            by_cases c7 : t104 < 0
            · rw [if_pos c7] at H
              have c7b0 : decide (t104 < 0) = true := zR c7; clear c7; obtain rfl := Option.some.inj H
              have p103 : 0 ≤ (x5_1 : Int) := zP (by assumption)
              have q103 : x5_1 < (l0.length : Int) := zP (by assumption)
              obtain ⟨ad103, e103, hx103_0, hx103_1⟩ := at_T99 HR0.out x5_1 p103 q103
              cases e103
              replace hx103_0 := (HB.out.cell (zQ w _ hx103_0)).trans hx103_0
              replace hx103_1 := (HB.out.cell (zQ w _ hx103_1)).trans hx103_1
              replace p103 := eq_true p103; replace q103 := eq_true q103
              go_wp2_with (first | ((with_reducible refine gate_callee (f := 74) rfl ?_); refine goesL_ (some 23) rfl rfl Try.func74 (by kernel_rfl) rfl #[.agg #[.int .i64 ((rd_T99 l0 x5_1).f0), .string ((rd_T99 l0 x5_1).f1)], .int .i64 x1_1] rfl (by (try simp only [zK, zL, zM]); first | done | rfl | (simp only [zN, zO]; rfl)) ?_; (with_reducible refine (laws_szPut.calls ((rd_T99 l0 x5_1).f0) ((rd_T99 l0 x5_1).f1) x1_1 t104 _ A6.out).mono ?_); rintro e w8 ⟨rfl, hb⟩; refine ⟨_, rfl, ?_⟩; have n0_ := yD (zC (kB HB) hb); clear HB; have HB := n0_; clear n0_; (try clear hb); (try clear hb2); (try clear hk); (try clear hi)))
              go_ret
              exact ⟨by first | rfl | (simp <;> rfl) | (simp [*] <;> rfl), by repeat (first | (with_reducible first | exact HB.out | apply yQ | apply yL | apply yP) | exact HB.out)⟩
            · rw [if_neg c7] at H
              have c7b0 : decide (t104 < 0) = false := zS c7; clear c7
              have H' := yD H
              clear H
              have p103 : 0 ≤ (x5_1 : Int) := zP (by assumption)
              have q103 : x5_1 < (l0.length : Int) := zP (by assumption)
              obtain ⟨ad103, e103, hx103_0, hx103_1⟩ := at_T99 HR0.out x5_1 p103 q103
              cases e103
              replace hx103_0 := (HB.out.cell (zQ w _ hx103_0)).trans hx103_0
              replace hx103_1 := (HB.out.cell (zQ w _ hx103_1)).trans hx103_1
              replace p103 := eq_true p103; replace q103 := eq_true q103
              go_wp2_with (first | ((with_reducible refine gate_callee (f := 74) rfl ?_); refine goesL_ (some 23) rfl rfl Try.func74 (by kernel_rfl) rfl #[.agg #[.int .i64 ((rd_T99 l0 x5_1).f0), .string ((rd_T99 l0 x5_1).f1)], .int .i64 x1_1] rfl (by (try simp only [zK, zL, zM]); first | done | rfl | (simp only [zN, zO]; rfl)) ?_; (with_reducible refine (laws_szPut.calls ((rd_T99 l0 x5_1).f0) ((rd_T99 l0 x5_1).f1) x1_1 t104 _ A6.out).mono ?_); rintro e w9 ⟨rfl, hb⟩; refine ⟨_, rfl, ?_⟩; have n0_ := yD (zC (kB HB) hb); clear HB; have HB := n0_; clear n0_; (try clear hb); (try clear hb2); (try clear hk); (try clear hi)))
              go_roundg k1
              case measure => have := HK1.out; omega
              case rel => exact ⟨(t104), (wrap64 (x5_1 + 1)), (by first | rfl | (simp; done) | (simp [*]; done)), (by first | rfl | (simp; done) | (simp [*]; done)), H', ⟨by have := HK1.out; omega⟩, ⟨by repeat (first | (with_reducible first | exact HB.out | apply yQ | apply yL | apply yP) | exact HB.out)⟩⟩
          · rw [if_neg c5] at H
            exact absurd H (by simp)
        · rw [if_neg c4] at H
          have c4b0 : decide (x5_1 < (l0.length : Int)) = false := zS c4; clear c4; obtain rfl := Option.some.inj H
          go_wp2
          go_ret
          exact ⟨by first | rfl | (simp <;> rfl) | (simp [*] <;> rfl), by repeat (first | (with_reducible first | exact HB.out | apply yQ | apply yL | apply yP) | exact HB.out)⟩

/-! ### laws_szDisk: function 13 -/
def laws_szDisk.f (k : Nat) (l0_0 : List ByteArray) (l0_1 : List (S99)) (a0_2 : Int) (a0_3 : Bool) (a1 : Int) : Option (Int) := (laws_szStringS.f k l0_0 a1).bind fun t106 => (if t106 < 0 then (some (-1)) else ((laws_szPutS.f k l0_1 t106).bind fun t107 => (if t107 < 0 then (some (-1)) else (some t107))))
theorem laws_szDisk.mono : ∀ a0 a1 a2 a3 a4 k, LeO (laws_szDisk.f k a0 a1 a2 a3 a4) (laws_szDisk.f (k + 1) a0 a1 a2 a3 a4) := by
  intro a0 a1 a2 a3 a4 k
  unfold laws_szDisk.f
  repeat' first
      | (with_reducible exact laws_szPutS.mono _ _ _)
      | (with_reducible exact laws_szStringS.mono _ _ _)
      | (with_reducible exact LeO.refl _)
      | (with_reducible exact LeO.none _)
      | (with_reducible refine LeO.ite ?_ ?_)
      | (with_reducible refine LeO.bind ?_ (fun _ => ?_))
      | exact laws_szPutS.mono _ _ _
      | exact laws_szStringS.mono _ _ _
      | exact LeO.none _
      | refine LeO.ite ?_ ?_
      | refine LeO.bind ?_ (fun _ => ?_)
set_option maxHeartbeats 8000000 in
set_option maxRecDepth 100000 in
theorem laws_szDisk.calls (k : Nat) (A0_0 : Option Addr) (c0_0 : Nat) (l0_0 : List ByteArray) (A0_1 : Option Addr) (c0_1 : Nat) (l0_1 : List (S99)) (a0_2 : Int) (a0_3 : Bool) (a1 : Int) (r : Int) (w : World) (hr0_0 : Kd.C Kd.string w A0_0 l0_0.length l0_0) (hc0_0 : l0_0.length ≤ c0_0) (hr0_1 : Kd.C k99 w A0_1 l0_1.length l0_1) (hc0_1 : l0_1.length ≤ c0_1) (h : laws_szDisk.f k l0_0 l0_1 a0_2 a0_3 a1 = some r) :
    Calls Try.prog 13 #[.agg #[.slice A0_0 l0_0.length c0_0, .slice A0_1 l0_1.length c0_1, .int .i64 a0_2, .bool a0_3], .int .i64 a1] w fun e w' => e = .returned (.int .i64 r) ∧ Below w.heap.size w w' := by
  have hu39 := Try.underlying39
  have HR0_0 := yD hr0_0
  have HC0_0 := yD hc0_0
  clear hr0_0 hc0_0
  have HR0_1 := yD hr0_1
  have HC0_1 := yD hc0_1
  clear hr0_1 hc0_1
  have HB := yD (Below.refl w.heap.size w)
  have H : ((laws_szStringS.f k l0_0 a1).bind fun t106 => (if t106 < 0 then (some (-1)) else ((laws_szPutS.f k l0_1 t106).bind fun t107 => (if t107 < 0 then (some (-1)) else (some t107))))) = some r := h
  clear h
  obtain ⟨t106, A30, H⟩ := zW_ H
  replace H : (if t106 < 0 then (some (-1)) else ((laws_szPutS.f k l0_1 t106).bind fun t107 => (if t107 < 0 then (some (-1)) else (some t107)))) = some r := H
  have A3 := yD A30
  clear A30
  by_cases c4 : t106 < 0
  · rw [if_pos c4] at H
    have c4b0 : decide (t106 < 0) = true := zR c4; clear c4; obtain rfl := Option.some.inj H; go_enter Try.func13, Try.ntmps13
    go_wp2_with (first | ((with_reducible refine gate_dst (N := 2) rfl ?_); refine box_event ?hg (N := 2) ?hd (cs := #[.slice A0_0 l0_0.length c0_0, .slice A0_1 l0_1.length c0_1, .int .i64 a0_2, .bool a0_3]) (t := 39) ?hr ?_; (case hd => rfl); (case hg => rfl); (case hr => first | (go_simp; done) | (go_simp; rfl)); intro gb105 hg w5 hbox hb; have n0_ := yD (zC (kB HB) hb); have n1_ := yD (hbox); have n2_ := yD ((by rw [hg]; exact (below_size (kB HB)) : w.heap.size ≤ gb105)); have n3_ := yD ((by rw [hg]; exact (below_size (kB HB)) : w.heap.size ≤ gb105)); clear HB; have HB := n0_; have BK105 := n1_; have GW105 := n2_; have GE105 := n3_; clear n0_ n1_ n2_ n3_; clear hb hbox hg; obtain ⟨hcz6_0, hcz6_1, hcz6_2, hcz6_3⟩ := cz4 BK105.out; obtain ⟨hfz6_0, hfz6_1, hfz6_2, hfz6_3⟩ := fz4 BK105.out) | ((with_reducible refine gate_callee (f := 41) rfl ?_); refine goesL_ (some 8) rfl rfl Try.func41 (by kernel_rfl) rfl #[.slice A0_0 l0_0.length c0_0, .int .i64 a1] rfl (by (try simp only [zK, zL, zM]); first | done | rfl | (simp only [zN, zO]; rfl)) ?_; (with_reducible refine (laws_szStringS.calls k _ _ l0_0 a1 t106 _ ?side1 ?side2 A3.out).mono ?_); (case side1 => exact kV (yY HR0_0.out HB.out)); (case side2 => exact HC0_0.out); rintro e w' ⟨rfl, ⟨nd, rfl⟩⟩; refine ⟨_, rfl, ?_⟩))
    go_ret
    exact ⟨by first | rfl | (simp <;> rfl) | (simp [*] <;> rfl), by repeat (first | (with_reducible first | exact HB.out | apply yQ | apply yL | apply yP | refine yE ?_ GE105.out) | exact HB.out)⟩
  · rw [if_neg c4] at H
    have c4b0 : decide (t106 < 0) = false := zS c4; clear c4
    obtain ⟨t107, A70, H⟩ := zW_ H
    replace H : (if t107 < 0 then (some (-1)) else (some t107)) = some r := H
    have A7 := yD A70
    clear A70
    by_cases c8 : t107 < 0
    · rw [if_pos c8] at H
      have c8b0 : decide (t107 < 0) = true := zR c8; clear c8; obtain rfl := Option.some.inj H; go_enter Try.func13, Try.ntmps13
      go_wp2_with (first | ((with_reducible refine gate_dst (N := 2) rfl ?_); refine box_event ?hg (N := 2) ?hd (cs := #[.slice A0_0 l0_0.length c0_0, .slice A0_1 l0_1.length c0_1, .int .i64 a0_2, .bool a0_3]) (t := 39) ?hr ?_; (case hd => rfl); (case hg => rfl); (case hr => first | (go_simp; done) | (go_simp; rfl)); intro gb105 hg w9 hbox hb; have n0_ := yD (zC (kB HB) hb); have n1_ := yD (hbox); have n2_ := yD ((by rw [hg]; exact (below_size (kB HB)) : w.heap.size ≤ gb105)); have n3_ := yD ((by rw [hg]; exact (below_size (kB HB)) : w.heap.size ≤ gb105)); clear HB; have HB := n0_; have BK105 := n1_; have GW105 := n2_; have GE105 := n3_; clear n0_ n1_ n2_ n3_; clear hb hbox hg; obtain ⟨hcz10_0, hcz10_1, hcz10_2, hcz10_3⟩ := cz4 BK105.out; obtain ⟨hfz10_0, hfz10_1, hfz10_2, hfz10_3⟩ := fz4 BK105.out) | ((with_reducible refine gate_callee (f := 41) rfl ?_); refine goesL_ (some 8) rfl rfl Try.func41 (by kernel_rfl) rfl #[.slice A0_0 l0_0.length c0_0, .int .i64 a1] rfl (by (try simp only [zK, zL, zM]); first | done | rfl | (simp only [zN, zO]; rfl)) ?_; (with_reducible refine (laws_szStringS.calls k _ _ l0_0 a1 t106 _ ?side1 ?side2 A3.out).mono ?_); (case side1 => exact kV (yY HR0_0.out HB.out)); (case side2 => exact HC0_0.out); rintro e w' ⟨rfl, ⟨nd, rfl⟩⟩; refine ⟨_, rfl, ?_⟩) | ((with_reducible refine gate_callee (f := 42) rfl ?_); refine goesL_ (some 14) rfl rfl Try.func42 (by kernel_rfl) rfl #[.slice A0_1 l0_1.length c0_1, .int .i64 t106] rfl (by (try simp only [zK, zL, zM]); first | done | rfl | (simp only [zN, zO]; rfl)) ?_; (with_reducible refine (laws_szPutS.calls k _ _ l0_1 t106 t107 _ ?side1 ?side2 A7.out).mono ?_); (case side1 => repeat (first | exact (yY HR0_1.out (kB HB)) | (with_reducible first | refine yV ?_ _ | refine yW ?_ _ | refine yX ?_))); (case side2 => exact HC0_1.out); rintro e w11 ⟨rfl, hb⟩; refine ⟨_, rfl, ?_⟩; have n0_ := yD (zB (g := gb105) (o := .cells #[.slice A0_0 l0_0.length c0_0, .slice A0_1 l0_1.length c0_1, .int .i64 a0_2, .bool a0_3] 39 (0, 0)) (kM BK105) hb); have n1_ := yD (zC (kB HB) hb); clear BK105; clear HB; have BK105 := n0_; have HB := n1_; clear n0_ n1_; (try clear hb); (try clear hb2); (try clear hk); (try clear hi)))
      go_ret
      exact ⟨by first | rfl | (simp <;> rfl) | (simp [*] <;> rfl), by repeat (first | (with_reducible first | exact HB.out | apply yQ | apply yL | apply yP | refine yE ?_ GE105.out) | exact HB.out)⟩
    · rw [if_neg c8] at H
      have c8b0 : decide (t107 < 0) = false := zS c8; clear c8; obtain rfl := Option.some.inj H; go_enter Try.func13, Try.ntmps13
      go_wp2_with (first | ((with_reducible refine gate_dst (N := 2) rfl ?_); refine box_event ?hg (N := 2) ?hd (cs := #[.slice A0_0 l0_0.length c0_0, .slice A0_1 l0_1.length c0_1, .int .i64 a0_2, .bool a0_3]) (t := 39) ?hr ?_; (case hd => rfl); (case hg => rfl); (case hr => first | (go_simp; done) | (go_simp; rfl)); intro gb105 hg w12 hbox hb; have n0_ := yD (zC (kB HB) hb); have n1_ := yD (hbox); have n2_ := yD ((by rw [hg]; exact (below_size (kB HB)) : w.heap.size ≤ gb105)); have n3_ := yD ((by rw [hg]; exact (below_size (kB HB)) : w.heap.size ≤ gb105)); clear HB; have HB := n0_; have BK105 := n1_; have GW105 := n2_; have GE105 := n3_; clear n0_ n1_ n2_ n3_; clear hb hbox hg; obtain ⟨hcz13_0, hcz13_1, hcz13_2, hcz13_3⟩ := cz4 BK105.out; obtain ⟨hfz13_0, hfz13_1, hfz13_2, hfz13_3⟩ := fz4 BK105.out) | ((with_reducible refine gate_callee (f := 41) rfl ?_); refine goesL_ (some 8) rfl rfl Try.func41 (by kernel_rfl) rfl #[.slice A0_0 l0_0.length c0_0, .int .i64 a1] rfl (by (try simp only [zK, zL, zM]); first | done | rfl | (simp only [zN, zO]; rfl)) ?_; (with_reducible refine (laws_szStringS.calls k _ _ l0_0 a1 t106 _ ?side1 ?side2 A3.out).mono ?_); (case side1 => exact kV (yY HR0_0.out HB.out)); (case side2 => exact HC0_0.out); rintro e w' ⟨rfl, ⟨nd, rfl⟩⟩; refine ⟨_, rfl, ?_⟩) | ((with_reducible refine gate_callee (f := 42) rfl ?_); refine goesL_ (some 14) rfl rfl Try.func42 (by kernel_rfl) rfl #[.slice A0_1 l0_1.length c0_1, .int .i64 t106] rfl (by (try simp only [zK, zL, zM]); first | done | rfl | (simp only [zN, zO]; rfl)) ?_; (with_reducible refine (laws_szPutS.calls k _ _ l0_1 t106 t107 _ ?side1 ?side2 A7.out).mono ?_); (case side1 => repeat (first | exact (yY HR0_1.out (kB HB)) | (with_reducible first | refine yV ?_ _ | refine yW ?_ _ | refine yX ?_))); (case side2 => exact HC0_1.out); rintro e w14 ⟨rfl, hb⟩; refine ⟨_, rfl, ?_⟩; have n0_ := yD (zB (g := gb105) (o := .cells #[.slice A0_0 l0_0.length c0_0, .slice A0_1 l0_1.length c0_1, .int .i64 a0_2, .bool a0_3] 39 (0, 0)) (kM BK105) hb); have n1_ := yD (zC (kB HB) hb); clear BK105; clear HB; have BK105 := n0_; have HB := n1_; clear n0_ n1_; (try clear hb); (try clear hb2); (try clear hk); (try clear hi)))
      go_ret
      exact ⟨by first | rfl | (simp <;> rfl) | (simp [*] <;> rfl), by repeat (first | (with_reducible first | exact HB.out | apply yQ | apply yL | apply yP | refine yE ?_ GE105.out) | exact HB.out)⟩

/-! ### laws_toStringS: function 45 -/
def laws_toStringS.l0 : Nat → List ByteArray → List ByteArray → Int → Option (List ByteArray)
  | 0, _, _, _ => none
  | k + 1, x0, x3, x4 => if x4 < (x0.length : Int) then (if 0 ≤ x4 then (if x4 < (x3.length : Int) then (laws_toStringS.l0 k x0 (x3.set (x4 : Int).toNat (rdOf ByteArray.empty x0 x4)) (wrap64 (x4 + 1))) else (none)) else (none)) else (some x3)
def laws_toStringS.f (k : Nat) (l0 : List ByteArray) : Option (List ByteArray) := if 0 ≤ (l0.length : Int) then (if ((l0.length : Int) : Int).toNat ≤ 17592186044416 then (laws_toStringS.l0 k l0 (List.replicate ((l0.length : Int) : Int).toNat (⟨#[]⟩ : ByteArray)) 0) else (none)) else (none)
theorem laws_toStringS.mono_l : ∀ k, (∀ y0 y1 y2, LeO (laws_toStringS.l0 k y0 y1 y2) (laws_toStringS.l0 (k + 1) y0 y1 y2))
  | 0 => fun _ _ _ r h => by simp [laws_toStringS.l0] at h
  | k + 1 => by
    have ih0 := laws_toStringS.mono_l k
    · intro y0 y1 y2
      unfold laws_toStringS.l0
      repeat' first
      | (with_reducible exact ih0 _ _ _)
      | (with_reducible exact LeO.refl _)
      | (with_reducible exact LeO.none _)
      | (with_reducible refine LeO.ite ?_ ?_)
      | (with_reducible refine LeO.bind ?_ (fun _ => ?_))
      | exact ih0 _ _ _
      | exact LeO.none _
      | refine LeO.ite ?_ ?_
      | refine LeO.bind ?_ (fun _ => ?_)
theorem laws_toStringS.mono : ∀ a0 k, LeO (laws_toStringS.f k a0) (laws_toStringS.f (k + 1) a0) := by
  intro a0 k
  have ih0 := laws_toStringS.mono_l k
  unfold laws_toStringS.f
  repeat' first
      | (with_reducible exact ih0 _ _ _)
      | (with_reducible exact LeO.refl _)
      | (with_reducible exact LeO.none _)
      | (with_reducible refine LeO.ite ?_ ?_)
      | (with_reducible refine LeO.bind ?_ (fun _ => ?_))
      | exact ih0 _ _ _
      | exact LeO.none _
      | refine LeO.ite ?_ ?_
      | refine LeO.bind ?_ (fun _ => ?_)
set_option maxHeartbeats 8000000 in
set_option maxRecDepth 100000 in
theorem laws_toStringS.calls (k : Nat) (A0 : Option Addr) (c0 : Nat) (l0 : List ByteArray) (r : List ByteArray) (w : World) (hr0 : Kd.C Kd.string w A0 l0.length l0) (hc0 : l0.length ≤ c0) (h : laws_toStringS.f k l0 = some r) :
    Calls Try.prog 45 #[.slice A0 l0.length c0] w fun e w' => ∃ v0_ : Value, e = .returned (v0_) ∧ Kd.R Kd.string 9 w' w.heap.size (fun _ => True) v0_ r ∧ Below w.heap.size w w' := by
  have HR0 := yD hr0
  have HC0 := yD hc0
  clear hr0 hc0
  have HB := yD (Below.refl w.heap.size w)
  have H : (if 0 ≤ (l0.length : Int) then (if ((l0.length : Int) : Int).toNat ≤ 17592186044416 then (laws_toStringS.l0 k l0 (List.replicate ((l0.length : Int) : Int).toNat (⟨#[]⟩ : ByteArray)) 0) else (none)) else (none)) = some r := h
  clear h
  by_cases c2 : 0 ≤ (l0.length : Int)
  · rw [if_pos c2] at H
    have c2b0 := eq_true c2
    have c2b1 : decide (0 ≤ (l0.length : Int)) = true := zR c2; clear c2
    by_cases c3 : ((l0.length : Int) : Int).toNat ≤ 17592186044416
    · rw [if_pos c3] at H
      have c3b0 := eq_true c3
      have c3b1 : decide (((l0.length : Int) : Int).toNat ≤ 17592186044416) = true := zR c3
      clear c3
      obtain ⟨y108, hy108⟩ : ∃ y_ : List ByteArray, y_ = (List.replicate ((l0.length : Int) : Int).toNat (⟨#[]⟩ : ByteArray)) := ⟨_, rfl⟩
      replace H : (laws_toStringS.l0 k l0 y108 0) = some r := by first | (rw [hy108]; with_reducible exact H) | (have H2_ := (Option.bind_some _ _).symm.trans H; rw [hy108]; with_reducible exact H2_) | (have H2_ := (Option.bind_some _ _).symm.trans H; with_reducible exact H2_) | with_reducible exact H | (rw [hy108]; exact H) | exact H
      have Ny108 := yD hy108
      clear hy108
      have H' := yD H
      clear H; go_enter Try.func45, Try.ntmps45
      go_wp2_with (first | ((with_reducible refine gate_dst (N := 7) rfl ?_); refine Kd.R_make Kd.string _ 9 rfl (N := 7) rfl 36 _ _ rfl (l0.length : Int) rfl rfl Try.underlying36 (.string ⟨#[]⟩) 16 info9 rfl (by decide) (by omega) (⟨#[]⟩ : ByteArray) (ok := fun _ => True) (okp := fun _ => True) rfl (fun _ hk => hk) trivial (zP (by assumption)) (Nat.le_trans (Nat.mul_le_mul_right _ (zP (by assumption) : (l0.length : Int).toNat ≤ 17592186044416)) (by omega)) (Below.refl _ _) (Nat.le_refl _) ?_; intro v109 w4 ho5 hb hg_ hnew_; clear hg_ hnew_; (first | rw [← Ny108.out] at ho5 | (simp only [Int.reduceToNat] at ho5; rw [← Ny108.out] at ho5)); have n0_ := yD (yZ ho5 (below_size (kB HB))); have n1_ := yD (zC (kB HB) hb); clear HB; have HO110 := n0_; have HB := n1_; clear n0_ n1_; clear hb ho5))
      go_loopg [4] k (fun kq v4 w' => ∃ (x3_1 : List ByteArray) (x4_1 : Int), v4 = .int .i64 x4_1 ∧ Aside0 (laws_toStringS.l0 kq l0 x3_1 x4_1 = some r) ∧ Aside0 (kq ≤ k) ∧ Aside0 (Kd.R Kd.string 9 w' w.heap.size (fun _ => True) v109 x3_1) ∧ Aside0 (Below w.heap.size w w'))
      case atStart => exact ⟨(y108), (0), (by first | rfl | (simp; done) | (simp [*]; done)), H', ⟨Nat.le_refl _⟩, ⟨by (with_reducible repeat (first | apply yA | apply yB | apply yC)); exact HO110.out⟩, ⟨by repeat (first | (with_reducible first | exact HB.out | apply yQ | apply yL | apply yP) | exact HB.out)⟩⟩
      case round =>
        clear H'
        try clear c2; try clear c2b0; try clear c2b1; try clear p2; try clear c3; try clear c3b0; try clear c3b1; try clear c4
        obtain ⟨x3_1, x4_1, rfl, HA, HK1, HO_3, HB⟩ := hrel
        cases gk with
        | zero => exact absurd HA.out (by simp [laws_toStringS.l0])
        | succ k1 =>
          have H := HA.out; clear HA
          simp only [laws_toStringS.l0] at H
          by_cases c6 : x4_1 < (l0.length : Int)
          · rw [if_pos c6] at H
            have c6b0 : decide (x4_1 < (l0.length : Int)) = true := zR c6; clear c6
            by_cases c7 : 0 ≤ x4_1
            · rw [if_pos c7] at H
              have c7b0 : decide (0 ≤ x4_1) = true := zR c7; clear c7
              by_cases c8 : x4_1 < (x3_1.length : Int)
              · rw [if_pos c8] at H
                have c8b0 : decide (x4_1 < (x3_1.length : Int)) = true := zR c8; clear c8
                obtain ⟨y112, hy112⟩ : ∃ y_ : List ByteArray, y_ = (x3_1.set (x4_1 : Int).toNat (rdOf ByteArray.empty l0 x4_1)) := ⟨_, rfl⟩
                replace H : (laws_toStringS.l0 k1 l0 y112 (wrap64 (x4_1 + 1))) = some r := by first | (rw [hy112]; with_reducible exact H) | (have H2_ := (Option.bind_some _ _).symm.trans H; rw [hy112]; with_reducible exact H2_) | (have H2_ := (Option.bind_some _ _).symm.trans H; with_reducible exact H2_) | with_reducible exact H | (rw [hy112]; exact H) | exact H
                have Ny112 := yD hy112
                clear hy112
                have H' := yD H
                clear H
                have p111 : 0 ≤ (x4_1 : Int) := zP (by assumption)
                have q111 : x4_1 < (l0.length : Int) := zP (by assumption)
                obtain ⟨ad111, e111, hx111_0⟩ := Kd.at_string HR0.out x4_1 p111 q111
                cases e111
                replace hx111_0 := (HB.out.cell (zQ w _ hx111_0)).trans hx111_0
                replace p111 := eq_true p111; replace q111 := eq_true q111
                have p9 : 0 ≤ (x4_1 : Int) := zP (by assumption)
                have q9 : (x4_1 : Int) < ((x3_1.length : Int) : Int) := zP (by assumption)
                obtain ⟨go9, co9, eo9, gb9, gl9, cl9, HG9⟩ := Kd.R_form HO_3.out (by omega)
                (first | cases eo9 | (injection eo9 with ea_ en_ ec_; (first | subst ea_ | (injection ea_ with ea_; subst ea_)); subst ec_; clear en_))
                have GB9 := yD gb9
                have GG9 := yD HG9
                clear gb9 gl9 HG9
                obtain ⟨hx9_0, hf9_0⟩ := Kd.R_celln (⟨#[]⟩ : ByteArray) HO_3.out (x4_1 : Int) p9 q9
                replace p9 := eq_true p9; replace q9 := eq_true q9
                have HP10 := Kd.R_putg HO_3.out (x4_1 : Int) (rdOf ByteArray.empty l0 x4_1)
                go_wp2_with (first | ((with_reducible refine gate_store (t := 9) (p := 20) rfl ?_); refine store_event (t := 9) (p := 20) (v := ?vo_w11) (w1 := (wr.setCell ⟨go9, (x4_1 : Int).toNat, none⟩ (.string (rdOf ByteArray.empty l0 x4_1)))) ?hg ?ho ?hn ?hr ?_; (case ho => rfl); (case hg => rfl); (case hn => rfl); (case hr => first | (go_simp; done) | (go_simp; rfl)); intro w11 hw; have hg : wr.grownBy w11 (some go9) := (by rw [hw]; exact HP10.2); have hp_ : Kd.R Kd.string 9 w11 w.heap.size (fun _ => True) (.slice (some ⟨go9, 0, none⟩) x3_1.length co9) y112 := (by rw [hw, Ny112.out]; exact HP10.1); clear HP10; have n0_ := yD (hp_); have n1_ := yD ((by rw [hw]; exact yE (HB.out) GB9.out : Below w.heap.size w w11)); clear HO_3; clear HB; have HO_3 := n0_; have HB := n1_; clear n0_ n1_; clear hg hw hp_))
                go_roundg k1
                case measure => have := HK1.out; omega
                case rel => exact ⟨(y112), (wrap64 (x4_1 + 1)), (by first | rfl | (simp; done) | (simp [*]; done)), H', ⟨by have := HK1.out; omega⟩, ⟨by (with_reducible repeat (first | apply yA | apply yB | apply yC)); exact HO_3.out⟩, ⟨by repeat (first | (with_reducible first | exact HB.out | apply yQ | apply yL | apply yP) | exact HB.out)⟩⟩
              · rw [if_neg c8] at H
                exact absurd H (by simp)
            · rw [if_neg c7] at H
              exact absurd H (by simp)
          · rw [if_neg c6] at H
            have c6b0 : decide (x4_1 < (l0.length : Int)) = false := zS c6; clear c6; obtain rfl := Option.some.inj H
            go_wp2
            go_ret
            exact ⟨_, by first | rfl | (simp <;> rfl) | (simp [*] <;> rfl), by (with_reducible repeat (first | apply yA | apply yB | apply yC)); exact HO_3.out, by repeat (first | (with_reducible first | exact HB.out | apply yQ | apply yL | apply yP) | exact HB.out)⟩
    · rw [if_neg c3] at H
      exact absurd H (by simp)
  · rw [if_neg c2] at H
    exact absurd H (by simp)

/-! ### laws_toPut: function 76 -/
def laws_toPut.f (a0_0 : Int) (a0_1 : ByteArray) : Option (Int × ByteArray) := some (a0_0, a0_1)
set_option maxHeartbeats 8000000 in
set_option maxRecDepth 100000 in
theorem laws_toPut.calls (a0_0 : Int) (a0_1 : ByteArray) (r1 : Int) (r2 : ByteArray) (w : World) (h : laws_toPut.f a0_0 a0_1 = some (r1, r2)) :
    Calls Try.prog 76 #[.agg #[.int .i64 a0_0, .string a0_1]] w fun e w' => e = .returned (.agg #[.int .i64 r1, .string r2]) ∧ Below w.heap.size w w' := by
  have hu99 := Try.underlying99; have hu57 := Try.underlying57
  have HB := yD (Below.refl w.heap.size w)
  have H : (some (a0_0, a0_1)) = some (r1, r2) := h
  clear h
  simp only [Option.some.injEq, Prod.mk.injEq] at H
  obtain ⟨rfl, rfl⟩ := H
  go_enter Try.func76, Try.ntmps76
  go_wp2_with (first | ((with_reducible refine gate_dst (N := 1) rfl ?_); refine box_event ?hg (N := 1) ?hd (cs := #[.int .i64 a0_0, .string a0_1]) (t := 99) ?hr ?_; (case hd => rfl); (case hg => rfl); (case hr => first | (go_simp; done) | (go_simp; rfl)); intro gb113 hg w2 hbox hb; have n0_ := yD (zC (kB HB) hb); have n1_ := yD (hbox); have n2_ := yD ((by rw [hg]; exact (below_size (kB HB)) : w.heap.size ≤ gb113)); have n3_ := yD ((by rw [hg]; exact (below_size (kB HB)) : w.heap.size ≤ gb113)); clear HB; have HB := n0_; have BK113 := n1_; have GW113 := n2_; have GE113 := n3_; clear n0_ n1_ n2_ n3_; clear hb hbox hg) | ((with_reducible refine gate_dst (N := 2) rfl ?_); refine box_event ?hg (N := 2) ?hd (cs := #[.int .i64 0, .string (⟨#[]⟩ : ByteArray)]) (t := 57) ?hr ?_; (case hd => rfl); (case hg => rfl); (case hr => first | (go_simp; done) | (go_simp; rfl)); intro gb114 hg w3 hbox hb; have n0_ := yD (zB (g := gb113) (o := .cells #[.int .i64 a0_0, .string a0_1] 99 (0, 0)) (kM BK113) hb); have n1_ := yD (zC (kB HB) hb); have n2_ := yD (hbox); have n3_ := yD ((by rw [hg]; exact (below_size (kB HB)) : w.heap.size ≤ gb114)); have n4_ := yD ((by rw [hg]; exact (below_size (kB HB)) : w.heap.size ≤ gb114)); have n5_ := yD ((by rw [hg]; exact Nat.ne_of_lt (blk_lt (g := gb113) (o := .cells #[.int .i64 a0_0, .string a0_1] 99 (0, 0)) (kM BK113)) : gb113 ≠ gb114)); have n6_ := yD ((by rw [hg]; exact Nat.ne_of_gt (blk_lt (g := gb113) (o := .cells #[.int .i64 a0_0, .string a0_1] 99 (0, 0)) (kM BK113)) : gb114 ≠ gb113)); clear BK113; clear HB; have BK113 := n0_; have HB := n1_; have BK114 := n2_; have GW114 := n3_; have GE114 := n4_; have NB113_114 := n5_; have NB114_113 := n6_; clear n0_ n1_ n2_ n3_ n4_ n5_ n6_; clear hb hbox hg) | ((with_reducible refine gate_dst (N := 3) rfl ?_); refine box_event ?hg (N := 3) ?hd (cs := #[.int .i64 0, .string (⟨#[]⟩ : ByteArray)]) (t := 57) ?hr ?_; (case hd => rfl); (case hg => rfl); (case hr => first | (go_simp; done) | (go_simp; rfl)); intro gb115 hg w4 hbox hb; have n0_ := yD (zB (g := gb113) (o := .cells #[.int .i64 a0_0, .string a0_1] 99 (0, 0)) (kM BK113) hb); have n1_ := yD (zB (g := gb114) (o := .cells #[.int .i64 0, .string (⟨#[]⟩ : ByteArray)] 57 (0, 0)) (kM BK114) hb); have n2_ := yD (zC (kB HB) hb); have n3_ := yD (hbox); have n4_ := yD ((by rw [hg]; exact (below_size (kB HB)) : w.heap.size ≤ gb115)); have n5_ := yD ((by rw [hg]; exact (below_size (kB HB)) : w.heap.size ≤ gb115)); have n6_ := yD ((by rw [hg]; exact Nat.ne_of_lt (blk_lt (g := gb113) (o := .cells #[.int .i64 a0_0, .string a0_1] 99 (0, 0)) (kM BK113)) : gb113 ≠ gb115)); have n7_ := yD ((by rw [hg]; exact Nat.ne_of_gt (blk_lt (g := gb113) (o := .cells #[.int .i64 a0_0, .string a0_1] 99 (0, 0)) (kM BK113)) : gb115 ≠ gb113)); have n8_ := yD ((by rw [hg]; exact Nat.ne_of_lt (blk_lt (g := gb114) (o := .cells #[.int .i64 0, .string (⟨#[]⟩ : ByteArray)] 57 (0, 0)) (kM BK114)) : gb114 ≠ gb115)); have n9_ := yD ((by rw [hg]; exact Nat.ne_of_gt (blk_lt (g := gb114) (o := .cells #[.int .i64 0, .string (⟨#[]⟩ : ByteArray)] 57 (0, 0)) (kM BK114)) : gb115 ≠ gb114)); clear BK113; clear BK114; clear HB; have BK113 := n0_; have BK114 := n1_; have HB := n2_; have BK115 := n3_; have GW115 := n4_; have GE115 := n5_; have NB113_115 := n6_; have NB115_113 := n7_; have NB114_115 := n8_; have NB115_114 := n9_; clear n0_ n1_ n2_ n3_ n4_ n5_ n6_ n7_ n8_ n9_; clear hb hbox hg; have hnb5 := NB113_114.out; have hnc5 := NB114_113.out; have hnb6 := NB113_115.out; have hnc6 := NB115_113.out; obtain ⟨hcz7_0, hcz7_1⟩ := cz2 BK113.out; obtain ⟨hfz7_0, hfz7_1⟩ := fz2 BK113.out; have hnb8 := NB115_114.out; have hnc8 := NB114_115.out; obtain ⟨hcz9_0, hcz9_1⟩ := cz2 BK115.out; obtain ⟨hfz9_0, hfz9_1⟩ := fz2 BK115.out; obtain ⟨hcz10_0, hcz10_1⟩ := cz2 BK114.out; obtain ⟨hfz10_0, hfz10_1⟩ := fz2 BK114.out))
  refine bodyPost_ret (results_cell_row rfl _ _ gb114 57 #[.int .i64 a0_0, .string a0_1] (0, 0) _ rfl (by (with_reducible repeat (first | refine yM ?_ _ | refine yO ?_ | refine yN ?_ _)); refine blk_put (cs := #[.int .i64 a0_0, .string (⟨#[]⟩ : ByteArray)]) ?_ 1 _ rfl; (with_reducible repeat (first | refine yM ?_ _ | refine yO ?_ | refine yN ?_ _)); refine blk_put (cs := #[.int .i64 0, .string (⟨#[]⟩ : ByteArray)]) ?_ 0 _ rfl; (with_reducible repeat (first | refine yM ?_ _ | refine yO ?_ | refine yN ?_ _)); refine blk_far ?_ NB114_115.out _; (with_reducible repeat (first | refine yM ?_ _ | refine yO ?_ | refine yN ?_ _)); refine blk_far ?_ NB114_115.out _; (with_reducible repeat (first | refine yM ?_ _ | refine yO ?_ | refine yN ?_ _)); exact BK114.out) Try.underlying57 rfl (by kernel_rfl)) rfl ?_
  exact ⟨by first | rfl | (simp <;> rfl) | (simp [*] <;> rfl), by repeat (first | (with_reducible first | exact HB.out | apply yQ | apply yL | apply yP | refine yE ?_ GE113.out | refine yE ?_ GE114.out | refine yE ?_ GE115.out) | exact HB.out)⟩

/-! ### laws_toPutS: function 46 -/
def laws_toPutS.l0 : Nat → List (S99) → List (S57) → Int → Option ((List (S57)))
  | 0, _, _, _ => none
  | k + 1, x0, x3, x4 => if x4 < (x0.length : Int) then (if 0 ≤ x4 then ((laws_toPut.f ((rd_T99 x0 x4).f0) ((rd_T99 x0 x4).f1)).bind fun bt120 => (if x4 < (x3.length : Int) then (laws_toPutS.l0 k x0 (x3.set (x4 : Int).toNat (⟨bt120.1, bt120.2⟩ : S57)) (wrap64 (x4 + 1))) else (none))) else (none)) else (some x3)
def laws_toPutS.f (k : Nat) (l0 : List (S99)) : Option ((List (S57))) := if 0 ≤ (l0.length : Int) then (if ((l0.length : Int) : Int).toNat ≤ 11728124029610 then (laws_toPutS.l0 k l0 (List.replicate ((l0.length : Int) : Int).toNat z57) 0) else (none)) else (none)
theorem laws_toPutS.mono_l : ∀ k, (∀ y0 y1 y2, LeO (laws_toPutS.l0 k y0 y1 y2) (laws_toPutS.l0 (k + 1) y0 y1 y2))
  | 0 => fun _ _ _ r h => by simp [laws_toPutS.l0] at h
  | k + 1 => by
    have ih0 := laws_toPutS.mono_l k
    · intro y0 y1 y2
      unfold laws_toPutS.l0
      repeat' first
      | (with_reducible exact ih0 _ _ _)
      | (with_reducible exact LeO.refl _)
      | (with_reducible exact LeO.none _)
      | (with_reducible refine LeO.ite ?_ ?_)
      | (with_reducible refine LeO.bind ?_ (fun _ => ?_))
      | exact ih0 _ _ _
      | exact LeO.none _
      | refine LeO.ite ?_ ?_
      | refine LeO.bind ?_ (fun _ => ?_)
theorem laws_toPutS.mono : ∀ a0 k, LeO (laws_toPutS.f k a0) (laws_toPutS.f (k + 1) a0) := by
  intro a0 k
  have ih0 := laws_toPutS.mono_l k
  unfold laws_toPutS.f
  repeat' first
      | (with_reducible exact ih0 _ _ _)
      | (with_reducible exact LeO.refl _)
      | (with_reducible exact LeO.none _)
      | (with_reducible refine LeO.ite ?_ ?_)
      | (with_reducible refine LeO.bind ?_ (fun _ => ?_))
      | exact ih0 _ _ _
      | exact LeO.none _
      | refine LeO.ite ?_ ?_
      | refine LeO.bind ?_ (fun _ => ?_)
set_option maxHeartbeats 8000000 in
set_option maxRecDepth 100000 in
theorem laws_toPutS.calls (k : Nat) (A0 : Option Addr) (c0 : Nat) (l0 : List (S99)) (r : List (S57)) (w : World) (hr0 : Kd.C k99 w A0 l0.length l0) (hc0 : l0.length ≤ c0) (h : laws_toPutS.f k l0 = some r) :
    Calls Try.prog 46 #[.slice A0 l0.length c0] w fun e w' => ∃ v0_ : Value, e = .returned (v0_) ∧ Kd.R k57 57 w' w.heap.size (fun _ => True) v0_ r ∧ Below w.heap.size w w' := by
  have hu99 := Try.underlying99; have hu57 := Try.underlying57
  have HR0 := yD hr0
  have HC0 := yD hc0
  clear hr0 hc0
  have HB := yD (Below.refl w.heap.size w)
  have H : (if 0 ≤ (l0.length : Int) then (if ((l0.length : Int) : Int).toNat ≤ 11728124029610 then (laws_toPutS.l0 k l0 (List.replicate ((l0.length : Int) : Int).toNat z57) 0) else (none)) else (none)) = some r := h
  clear h
  by_cases c2 : 0 ≤ (l0.length : Int)
  · rw [if_pos c2] at H
    have c2b0 := eq_true c2
    have c2b1 : decide (0 ≤ (l0.length : Int)) = true := zR c2; clear c2
    by_cases c3 : ((l0.length : Int) : Int).toNat ≤ 11728124029610
    · rw [if_pos c3] at H
      have c3b0 := eq_true c3
      have c3b1 : decide (((l0.length : Int) : Int).toNat ≤ 11728124029610) = true := zR c3
      clear c3
      obtain ⟨y116, hy116⟩ : ∃ y_ : List (S57), y_ = (List.replicate ((l0.length : Int) : Int).toNat z57) := ⟨_, rfl⟩
      replace H : (laws_toPutS.l0 k l0 y116 0) = some r := by first | (rw [hy116]; with_reducible exact H) | (have H2_ := (Option.bind_some _ _).symm.trans H; rw [hy116]; with_reducible exact H2_) | (have H2_ := (Option.bind_some _ _).symm.trans H; with_reducible exact H2_) | with_reducible exact H | (rw [hy116]; exact H) | exact H
      have Ny116 := yD hy116
      clear hy116
      have H' := yD H
      clear H; go_enter Try.func46, Try.ntmps46
      go_wp2_with (first | ((with_reducible refine gate_dst (N := 7) rfl ?_); refine Kd.R_make k57 _ 57 rfl (N := 7) rfl 42 _ _ rfl (l0.length : Int) rfl rfl Try.underlying42 (.agg #[(.int .i64 0), (.string ⟨#[]⟩)]) 24 info57 rfl (by decide) (by omega) z57 (ok := fun _ => True) (okp := fun _ => True) (k57_mkM _ _ _ z57 ) (fun _ hk => hk) trivial (zP (by assumption)) (Nat.le_trans (Nat.mul_le_mul_right _ (zP (by assumption) : (l0.length : Int).toNat ≤ 11728124029610)) (by omega)) (Below.refl _ _) (Nat.le_refl _) ?_; intro v117 w4 ho5 hb hg_ hnew_; clear hg_ hnew_; (first | rw [← Ny116.out] at ho5 | (simp only [Int.reduceToNat] at ho5; rw [← Ny116.out] at ho5)); have n0_ := yD (yZ ho5 (below_size (kB HB))); have n1_ := yD (zC (kB HB) hb); clear HB; have HO118 := n0_; have HB := n1_; clear n0_ n1_; clear hb ho5))
      go_loopg [4] k (fun kq v4 w' => ∃ (x3_1 : List (S57)) (x4_1 : Int), v4 = .int .i64 x4_1 ∧ Aside0 (laws_toPutS.l0 kq l0 x3_1 x4_1 = some r) ∧ Aside0 (kq ≤ k) ∧ Aside0 (Kd.R k57 57 w' w.heap.size (fun _ => True) v117 x3_1) ∧ Aside0 (Below w.heap.size w w'))
      case atStart => exact ⟨(y116), (0), (by first | rfl | (simp; done) | (simp [*]; done)), H', ⟨Nat.le_refl _⟩, ⟨by (with_reducible repeat (first | apply yA | apply yB | apply yC)); exact HO118.out⟩, ⟨by repeat (first | (with_reducible first | exact HB.out | apply yQ | apply yL | apply yP) | exact HB.out)⟩⟩
      case round =>
        clear H'
        try clear c2; try clear c2b0; try clear c2b1; try clear p2; try clear c3; try clear c3b0; try clear c3b1; try clear c4
        obtain ⟨x3_1, x4_1, rfl, HA, HK1, HO_3, HB⟩ := hrel
        cases gk with
        | zero => exact absurd HA.out (by simp [laws_toPutS.l0])
        | succ k1 =>
          have H := HA.out; clear HA
          simp only [laws_toPutS.l0] at H
          by_cases c6 : x4_1 < (l0.length : Int)
          · rw [if_pos c6] at H
            have c6b0 : decide (x4_1 < (l0.length : Int)) = true := zR c6; clear c6
            by_cases c7 : 0 ≤ x4_1
            · rw [if_pos c7] at H
              have c7b0 : decide (0 ≤ x4_1) = true := zR c7; clear c7
              obtain ⟨⟨t120, t121⟩, A80, H⟩ := zW_ H
              replace H : (if x4_1 < (x3_1.length : Int) then (laws_toPutS.l0 k1 l0 (x3_1.set (x4_1 : Int).toNat (⟨t120, t121⟩ : S57)) (wrap64 (x4_1 + 1))) else (none)) = some r := H
              have A8 := yD A80
              clear A80
              by_cases c9 : x4_1 < (x3_1.length : Int)
              · rw [if_pos c9] at H
                have c9b0 : decide (x4_1 < (x3_1.length : Int)) = true := zR c9; clear c9
                obtain ⟨y122, hy122⟩ : ∃ y_ : List (S57), y_ = (x3_1.set (x4_1 : Int).toNat (⟨t120, t121⟩ : S57)) := ⟨_, rfl⟩
                replace H : (laws_toPutS.l0 k1 l0 y122 (wrap64 (x4_1 + 1))) = some r := by first | (rw [hy122]; with_reducible exact H) | (have H2_ := (Option.bind_some _ _).symm.trans H; rw [hy122]; with_reducible exact H2_) | (have H2_ := (Option.bind_some _ _).symm.trans H; with_reducible exact H2_) | with_reducible exact H | (rw [hy122]; exact H) | exact H
                have Ny122 := yD hy122
                clear hy122
                have H' := yD H
                clear H
                have p119 : 0 ≤ (x4_1 : Int) := zP (by assumption)
                have q119 : x4_1 < (l0.length : Int) := zP (by assumption)
                obtain ⟨ad119, e119, hx119_0, hx119_1⟩ := at_T99 HR0.out x4_1 p119 q119
                cases e119
                replace hx119_0 := (HB.out.cell (zQ w _ hx119_0)).trans hx119_0
                replace hx119_1 := (HB.out.cell (zQ w _ hx119_1)).trans hx119_1
                replace p119 := eq_true p119; replace q119 := eq_true q119
                go_wp2_with (first | ((with_reducible refine gate_callee (f := 76) rfl ?_); refine goesL_ (some 20) rfl rfl Try.func76 (by kernel_rfl) rfl #[.agg #[.int .i64 ((rd_T99 l0 x4_1).f0), .string ((rd_T99 l0 x4_1).f1)]] rfl (by (try simp only [zK, zL, zM]); first | done | rfl | (simp only [zN, zO]; rfl)) ?_; (with_reducible refine (laws_toPut.calls ((rd_T99 l0 x4_1).f0) ((rd_T99 l0 x4_1).f1) t120 t121 _ A8.out).mono ?_); rintro e w11 ⟨rfl, hb⟩; refine ⟨_, rfl, ?_⟩; have n0_ := yD (zE (kA HO_3) hb); have n1_ := yD (zC (kB HB) hb); clear HO_3; clear HB; have HO_3 := n0_; have HB := n1_; clear n0_ n1_; (try clear hb); (try clear hb2); (try clear hk); (try clear hi); have p10 : 0 ≤ (x4_1 : Int) := zP (by assumption); have q10 : (x4_1 : Int) < ((x3_1.length : Int) : Int) := zP (by assumption); obtain ⟨go10, co10, eo10, gb10, gl10, cl10, HG10⟩ := Kd.R_form HO_3.out (by omega); (first | cases eo10 | (injection eo10 with ea_ en_ ec_; (first | subst ea_ | (injection ea_ with ea_; subst ea_)); subst ec_; clear en_)); have GB10 := yD gb10; have GG10 := yD HG10; clear gb10 gl10 HG10; obtain ⟨ce10, hcl10, hM10, hcc10, hfr10⟩ := Kd.R_elem HO_3.out z57 (x4_1 : Int) p10 q10; obtain rfl := k57_openM hM10; have hx10_0 : w11.cell? ⟨go10, (x4_1 : Int).toNat * 2, none⟩ = some (.int .i64 ((rd_T57 x3_1 x4_1).f0)) := hcc10 0 _ rfl; have hx10_1 : w11.cell? ⟨go10, (x4_1 : Int).toNat * 2 + 1, none⟩ = some (.string ((rd_T57 x3_1 x4_1).f1)) := hcc10 1 _ rfl; have hf10_0 : w11.frozen? ⟨go10, (x4_1 : Int).toNat * 2, none⟩ = false := hfr10 0; have hf10_1 : w11.frozen? ⟨go10, (x4_1 : Int).toNat * 2 + 1, none⟩ = false := hfr10 1; clear hcl10 hcc10 hfr10 hM10; replace p10 := eq_true p10; replace q10 := eq_true q10; have HX12 := yD (show Kd.R k57 57 w11 w.heap.size (fun _ => True) (.slice (some ⟨go10, 0, none⟩) x3_1.length co10) x3_1 from (kA HO_3)); obtain ⟨ce12, hcl12, hM12, hcc12, hfr12⟩ := Kd.R_elem HX12.out z57 (x4_1 : Int) (zP (by assumption)) (by have h_ : (x4_1 : Int) < ((x3_1.length : Int) : Int) := zP (by assumption); first | exact h_ | (have e_ := (zA HO_3.out).1; omega) | simpa using h_); obtain rfl := k57_openM hM12; have HP12 := Kd.R_seg HX12.out (x4_1 : Int) (zP (by assumption)) (by have h_ : (x4_1 : Int) < ((x3_1.length : Int) : Int) := zP (by assumption); first | exact h_ | (have e_ := (zA HO_3.out).1; omega) | simpa using h_) (seg := [.int .i64 t120, .string t121]) (j := 0) hcl12 hcc12 (show 2 ≤ 2 from by decide) (x' := (⟨t120, t121⟩ : S57)) (k57_mkM _ _ _ (⟨t120, t121⟩ : S57) ) (fun _ hk => hk); have hx12_0 := hcc12 0 _ rfl; (try simp only [show (k57).sz = 2 from rfl, Nat.mul_one, Nat.add_zero] at hx12_0); have hf12_0 := hfr12 0; (try simp only [show (k57).sz = 2 from rfl, Nat.mul_one, Nat.add_zero] at hf12_0); have hx12_1 := hcc12 1 _ rfl; (try simp only [show (k57).sz = 2 from rfl, Nat.mul_one, Nat.add_zero] at hx12_1); have hf12_1 := hfr12 1; (try simp only [show (k57).sz = 2 from rfl, Nat.mul_one, Nat.add_zero] at hf12_1); clear hcl12 hcc12 hfr12 hM12) | ((with_reducible refine gate_store (t := 57) (p := 21) rfl ?_); refine store_event (t := 57) (p := 21) (v := ?vo_w13) (w1 := ((w11.setCell ⟨go10, (x4_1 : Int).toNat * 2, none⟩ (.int .i64 t120)).setCell ⟨go10, (x4_1 : Int).toNat * 2 + 1, none⟩ (.string t121))) ?hg ?ho ?hn ?hr ?_; (case ho => rfl); (case hg => rfl); (case hn => rfl); (case hr => first | (go_simp; done) | (go_simp; rfl)); intro w13 hw; have hg : w11.grownBy w13 (some go10) := (by rw [hw]; exact HP12.2); have hp_ : Kd.R k57 57 w13 w.heap.size (fun _ => True) (.slice (some ⟨go10, 0, none⟩) x3_1.length co10) y122 := (by rw [hw, Ny122.out]; exact HP12.1); clear HP12; have n0_ := yD (hp_); have n1_ := yD ((by rw [hw]; exact yE (yE (HB.out) GB10.out) GB10.out : Below w.heap.size w w13)); clear HO_3; clear HB; have HO_3 := n0_; have HB := n1_; clear n0_ n1_; clear hg hw hp_))
                go_roundg k1
                case measure => have := HK1.out; omega
                case rel => exact ⟨(y122), (wrap64 (x4_1 + 1)), (by first | rfl | (simp; done) | (simp [*]; done)), H', ⟨by have := HK1.out; omega⟩, ⟨by (with_reducible repeat (first | apply yA | apply yB | apply yC)); exact HO_3.out⟩, ⟨by repeat (first | (with_reducible first | exact HB.out | apply yQ | apply yL | apply yP) | exact HB.out)⟩⟩
              · rw [if_neg c9] at H
                exact absurd H (by simp)
            · rw [if_neg c7] at H
              exact absurd H (by simp)
          · rw [if_neg c6] at H
            have c6b0 : decide (x4_1 < (l0.length : Int)) = false := zS c6; clear c6; obtain rfl := Option.some.inj H
            go_wp2
            go_ret
            exact ⟨_, by first | rfl | (simp <;> rfl) | (simp [*] <;> rfl), by (with_reducible repeat (first | apply yA | apply yB | apply yC)); exact HO_3.out, by repeat (first | (with_reducible first | exact HB.out | apply yQ | apply yL | apply yP) | exact HB.out)⟩
    · rw [if_neg c3] at H
      exact absurd H (by simp)
  · rw [if_neg c2] at H
    exact absurd H (by simp)

/-! ### laws_toDisk: function 15 -/
def laws_toDisk.f (k : Nat) (l0_0 : List ByteArray) (l0_1 : List (S99)) (a0_2 : Int) (a0_3 : Bool) : Option (List ByteArray × (List (S57)) × Int × Bool) := (laws_toStringS.f k l0_0).bind fun t126 => ((laws_toPutS.f k l0_1).bind fun t129 => (some (t126, t129, a0_2, a0_3)))
theorem laws_toDisk.mono : ∀ a0 a1 a2 a3 k, LeO (laws_toDisk.f k a0 a1 a2 a3) (laws_toDisk.f (k + 1) a0 a1 a2 a3) := by
  intro a0 a1 a2 a3 k
  unfold laws_toDisk.f
  repeat' first
      | (with_reducible exact laws_toPutS.mono _ _)
      | (with_reducible exact laws_toStringS.mono _ _)
      | (with_reducible exact LeO.refl _)
      | (with_reducible exact LeO.none _)
      | (with_reducible refine LeO.ite ?_ ?_)
      | (with_reducible refine LeO.bind ?_ (fun _ => ?_))
      | exact laws_toPutS.mono _ _
      | exact laws_toStringS.mono _ _
      | exact LeO.none _
      | refine LeO.ite ?_ ?_
      | refine LeO.bind ?_ (fun _ => ?_)
set_option maxHeartbeats 8000000 in
set_option maxRecDepth 100000 in
theorem laws_toDisk.calls (k : Nat) (A0_0 : Option Addr) (c0_0 : Nat) (l0_0 : List ByteArray) (A0_1 : Option Addr) (c0_1 : Nat) (l0_1 : List (S99)) (a0_2 : Int) (a0_3 : Bool) (r1 : List ByteArray) (r2 : List (S57)) (r3 : Int) (r4 : Bool) (w : World) (hr0_0 : Kd.C Kd.string w A0_0 l0_0.length l0_0) (hc0_0 : l0_0.length ≤ c0_0) (hr0_1 : Kd.C k99 w A0_1 l0_1.length l0_1) (hc0_1 : l0_1.length ≤ c0_1) (h : laws_toDisk.f k l0_0 l0_1 a0_2 a0_3 = some (r1, r2, r3, r4)) :
    Calls Try.prog 15 #[.agg #[.slice A0_0 l0_0.length c0_0, .slice A0_1 l0_1.length c0_1, .int .i64 a0_2, .bool a0_3]] w fun e w' => ∃ v0_ v1_ : Value, e = .returned (.agg #[v0_, v1_, .int .i64 r3, .bool r4]) ∧ Kd.R Kd.string 9 w' w.heap.size (fun _ => True) v0_ r1 ∧ Kd.R k57 57 w' w.heap.size (fun _ => True) v1_ r2 ∧ Below w.heap.size w w' := by
  have hu39 := Try.underlying39; have hu44 := Try.underlying44
  have HR0_0 := yD hr0_0
  have HC0_0 := yD hc0_0
  clear hr0_0 hc0_0
  have HR0_1 := yD hr0_1
  have HC0_1 := yD hc0_1
  clear hr0_1 hc0_1
  have HB := yD (Below.refl w.heap.size w)
  have H : ((laws_toStringS.f k l0_0).bind fun t126 => ((laws_toPutS.f k l0_1).bind fun t129 => (some (t126, t129, a0_2, a0_3)))) = some (r1, r2, r3, r4) := h
  clear h
  obtain ⟨t126, A20, H⟩ := zW_ H
  replace H : ((laws_toPutS.f k l0_1).bind fun t129 => (some (t126, t129, a0_2, a0_3))) = some (r1, r2, r3, r4) := H
  have A2 := yD A20
  clear A20
  obtain ⟨t129, A30, H⟩ := zW_ H
  replace H : (some (t126, t129, a0_2, a0_3)) = some (r1, r2, r3, r4) := H
  have A3 := yD A30
  clear A30
  simp only [Option.some.injEq, Prod.mk.injEq] at H
  obtain ⟨rfl, rfl, rfl, rfl⟩ := H
  go_enter Try.func15, Try.ntmps15
  go_wp2_with (first | ((with_reducible refine gate_dst (N := 1) rfl ?_); refine box_event ?hg (N := 1) ?hd (cs := #[.slice A0_0 l0_0.length c0_0, .slice A0_1 l0_1.length c0_1, .int .i64 a0_2, .bool a0_3]) (t := 39) ?hr ?_; (case hd => rfl); (case hg => rfl); (case hr => first | (go_simp; done) | (go_simp; rfl)); intro gb123 hg w4 hbox hb; have n0_ := yD (zC (kB HB) hb); have n1_ := yD (hbox); have n2_ := yD ((by rw [hg]; exact (below_size (kB HB)) : w.heap.size ≤ gb123)); have n3_ := yD ((by rw [hg]; exact (below_size (kB HB)) : w.heap.size ≤ gb123)); clear HB; have HB := n0_; have BK123 := n1_; have GW123 := n2_; have GE123 := n3_; clear n0_ n1_ n2_ n3_; clear hb hbox hg) | ((with_reducible refine gate_dst (N := 2) rfl ?_); refine box_event ?hg (N := 2) ?hd (cs := #[.slice none 0 0, .slice none 0 0, .int .i64 0, .bool false]) (t := 44) ?hr ?_; (case hd => rfl); (case hg => rfl); (case hr => first | (go_simp; done) | (go_simp; rfl)); intro gb124 hg w5 hbox hb; have n0_ := yD (zB (g := gb123) (o := .cells #[.slice A0_0 l0_0.length c0_0, .slice A0_1 l0_1.length c0_1, .int .i64 a0_2, .bool a0_3] 39 (0, 0)) (kM BK123) hb); have n1_ := yD (zC (kB HB) hb); have n2_ := yD (hbox); have n3_ := yD ((by rw [hg]; exact (below_size (kB HB)) : w.heap.size ≤ gb124)); have n4_ := yD ((by rw [hg]; exact (below_size (kB HB)) : w.heap.size ≤ gb124)); have n5_ := yD ((by rw [hg]; exact Nat.ne_of_lt (blk_lt (g := gb123) (o := .cells #[.slice A0_0 l0_0.length c0_0, .slice A0_1 l0_1.length c0_1, .int .i64 a0_2, .bool a0_3] 39 (0, 0)) (kM BK123)) : gb123 ≠ gb124)); have n6_ := yD ((by rw [hg]; exact Nat.ne_of_gt (blk_lt (g := gb123) (o := .cells #[.slice A0_0 l0_0.length c0_0, .slice A0_1 l0_1.length c0_1, .int .i64 a0_2, .bool a0_3] 39 (0, 0)) (kM BK123)) : gb124 ≠ gb123)); clear BK123; clear HB; have BK123 := n0_; have HB := n1_; have BK124 := n2_; have GW124 := n3_; have GE124 := n4_; have NB123_124 := n5_; have NB124_123 := n6_; clear n0_ n1_ n2_ n3_ n4_ n5_ n6_; clear hb hbox hg) | ((with_reducible refine gate_dst (N := 3) rfl ?_); refine box_event ?hg (N := 3) ?hd (cs := #[.slice none 0 0, .slice none 0 0, .int .i64 0, .bool false]) (t := 44) ?hr ?_; (case hd => rfl); (case hg => rfl); (case hr => first | (go_simp; done) | (go_simp; rfl)); intro gb125 hg w6 hbox hb; have n0_ := yD (zB (g := gb123) (o := .cells #[.slice A0_0 l0_0.length c0_0, .slice A0_1 l0_1.length c0_1, .int .i64 a0_2, .bool a0_3] 39 (0, 0)) (kM BK123) hb); have n1_ := yD (zB (g := gb124) (o := .cells #[.slice none 0 0, .slice none 0 0, .int .i64 0, .bool false] 44 (0, 0)) (kM BK124) hb); have n2_ := yD (zC (kB HB) hb); have n3_ := yD (hbox); have n4_ := yD ((by rw [hg]; exact (below_size (kB HB)) : w.heap.size ≤ gb125)); have n5_ := yD ((by rw [hg]; exact (below_size (kB HB)) : w.heap.size ≤ gb125)); have n6_ := yD ((by rw [hg]; exact Nat.ne_of_lt (blk_lt (g := gb123) (o := .cells #[.slice A0_0 l0_0.length c0_0, .slice A0_1 l0_1.length c0_1, .int .i64 a0_2, .bool a0_3] 39 (0, 0)) (kM BK123)) : gb123 ≠ gb125)); have n7_ := yD ((by rw [hg]; exact Nat.ne_of_gt (blk_lt (g := gb123) (o := .cells #[.slice A0_0 l0_0.length c0_0, .slice A0_1 l0_1.length c0_1, .int .i64 a0_2, .bool a0_3] 39 (0, 0)) (kM BK123)) : gb125 ≠ gb123)); have n8_ := yD ((by rw [hg]; exact Nat.ne_of_lt (blk_lt (g := gb124) (o := .cells #[.slice none 0 0, .slice none 0 0, .int .i64 0, .bool false] 44 (0, 0)) (kM BK124)) : gb124 ≠ gb125)); have n9_ := yD ((by rw [hg]; exact Nat.ne_of_gt (blk_lt (g := gb124) (o := .cells #[.slice none 0 0, .slice none 0 0, .int .i64 0, .bool false] 44 (0, 0)) (kM BK124)) : gb125 ≠ gb124)); clear BK123; clear BK124; clear HB; have BK123 := n0_; have BK124 := n1_; have HB := n2_; have BK125 := n3_; have GW125 := n4_; have GE125 := n5_; have NB123_125 := n6_; have NB125_123 := n7_; have NB124_125 := n8_; have NB125_124 := n9_; clear n0_ n1_ n2_ n3_ n4_ n5_ n6_ n7_ n8_ n9_; clear hb hbox hg; have hnb7 := NB123_124.out; have hnc7 := NB124_123.out; have hnb8 := NB123_125.out; have hnc8 := NB125_123.out; obtain ⟨hcz9_0, hcz9_1, hcz9_2, hcz9_3⟩ := cz4 BK123.out; obtain ⟨hfz9_0, hfz9_1, hfz9_2, hfz9_3⟩ := fz4 BK123.out) | ((with_reducible refine gate_callee (f := 45) rfl ?_); refine goesL_ (some 6) rfl rfl Try.func45 (by kernel_rfl) rfl #[.slice A0_0 l0_0.length c0_0] rfl (by (try simp only [zK, zL, zM]); first | done | rfl | (simp only [zN, zO]; rfl)) ?_; (with_reducible refine (laws_toStringS.calls k _ _ l0_0 t126 _ ?side1 ?side2 A2.out).mono ?_); (case side1 => exact kV (yY HR0_0.out HB.out)); (case side2 => exact HC0_0.out); rintro e w10 ⟨v127, rfl, ho0, hb⟩; refine ⟨_, rfl, ?_⟩; have n0_ := yD (yZ ho0 (below_size (kB HB))); have n1_ := yD (zB (g := gb123) (o := .cells #[.slice A0_0 l0_0.length c0_0, .slice A0_1 l0_1.length c0_1, .int .i64 a0_2, .bool a0_3] 39 (0, 0)) (kM BK123) hb); have n2_ := yD (zB (g := gb124) (o := .cells #[.slice none 0 0, .slice none 0 0, .int .i64 0, .bool false] 44 (0, 0)) (kM BK124) hb); have n3_ := yD (zB (g := gb125) (o := .cells #[.slice none 0 0, .slice none 0 0, .int .i64 0, .bool false] 44 (0, 0)) (kM BK125) hb); have n4_ := yD (zC (kB HB) hb); clear BK123; clear BK124; clear BK125; clear HB; have HO128 := n0_; have BK123 := n1_; have BK124 := n2_; have BK125 := n3_; have HB := n4_; clear n0_ n1_ n2_ n3_ n4_; (try clear hb); (try clear hb2); (try clear hk); (try clear hi); (try clear ho0); obtain ⟨Ao11, co11, eo11⟩ := Kd.R_slice HO128.out; subst eo11; have hnb12 := NB125_124.out; have hnc12 := NB124_125.out; obtain ⟨hcz13_0, hcz13_1, hcz13_2, hcz13_3⟩ := cz4 BK125.out; obtain ⟨hfz13_0, hfz13_1, hfz13_2, hfz13_3⟩ := fz4 BK125.out; obtain ⟨hcz14_0, hcz14_1, hcz14_2, hcz14_3⟩ := cz4 BK123.out; obtain ⟨hfz14_0, hfz14_1, hfz14_2, hfz14_3⟩ := fz4 BK123.out) | ((with_reducible refine gate_callee (f := 46) rfl ?_); refine goesL_ (some 10) rfl rfl Try.func46 (by kernel_rfl) rfl #[.slice A0_1 l0_1.length c0_1] rfl (by (try simp only [zK, zL, zM]); first | done | rfl | (simp only [zN, zO]; rfl)) ?_; (with_reducible refine (laws_toPutS.calls k _ _ l0_1 t129 _ ?side1 ?side2 A3.out).mono ?_); (case side1 => exact yY HR0_1.out (kB HB)); (case side2 => exact HC0_1.out); rintro e w15 ⟨v130, rfl, ho0, hb⟩; refine ⟨_, rfl, ?_⟩; have n0_ := yD (zE (by (with_reducible repeat (first | apply yA | apply yB | apply yC)); exact (zF (yF (p := ⟨gb125, 0, none⟩) (Kd.R_types HO128.out BK125.out (by decide)) (fun _ hk => hk.2) (.slice Ao11 t126.length co11)) (fun _ h_ => h_.1))) hb); have n1_ := yD (yZ ho0 (below_size (kB HB))); have n2_ := yD (zB (g := gb123) (o := .cells #[.slice A0_0 l0_0.length c0_0, .slice A0_1 l0_1.length c0_1, .int .i64 a0_2, .bool a0_3] 39 (0, 0)) (by (with_reducible repeat (first | refine yM ?_ _ | refine yO ?_ | refine yN ?_ _)); refine blk_far ?_ NB123_125.out _; (with_reducible repeat (first | refine yM ?_ _ | refine yO ?_ | refine yN ?_ _)); exact BK123.out) hb); have n3_ := yD (zB (g := gb124) (o := .cells #[.slice none 0 0, .slice none 0 0, .int .i64 0, .bool false] 44 (0, 0)) (by (with_reducible repeat (first | refine yM ?_ _ | refine yO ?_ | refine yN ?_ _)); refine blk_far ?_ NB124_125.out _; (with_reducible repeat (first | refine yM ?_ _ | refine yO ?_ | refine yN ?_ _)); exact BK124.out) hb); have n4_ := yD (zB (g := gb125) (o := .cells #[.slice Ao11 t126.length co11, .slice none 0 0, .int .i64 0, .bool false] 44 (0, 0)) (by (with_reducible repeat (first | refine yM ?_ _ | refine yO ?_ | refine yN ?_ _)); refine blk_put (cs := #[.slice none 0 0, .slice none 0 0, .int .i64 0, .bool false]) ?_ 0 _ rfl; (with_reducible repeat (first | refine yM ?_ _ | refine yO ?_ | refine yN ?_ _)); exact BK125.out) hb); have n5_ := yD (zC (kB HB) hb); clear HO128; clear BK123; clear BK124; clear BK125; clear HB; have HO128 := n0_; have HO131 := n1_; have BK123 := n2_; have BK124 := n3_; have BK125 := n4_; have HB := n5_; clear n0_ n1_ n2_ n3_ n4_ n5_; (try clear hb); (try clear hb2); (try clear hk); (try clear hi); (try clear ho0); obtain ⟨Ao16, co16, eo16⟩ := Kd.R_slice HO131.out; subst eo16; obtain ⟨hcz17_0, hcz17_1, hcz17_2, hcz17_3⟩ := cz4 BK125.out; obtain ⟨hfz17_0, hfz17_1, hfz17_2, hfz17_3⟩ := fz4 BK125.out; obtain ⟨hcz18_0, hcz18_1, hcz18_2, hcz18_3⟩ := cz4 BK123.out; obtain ⟨hfz18_0, hfz18_1, hfz18_2, hfz18_3⟩ := fz4 BK123.out; obtain ⟨hcz19_0, hcz19_1, hcz19_2, hcz19_3⟩ := cz4 BK124.out; obtain ⟨hfz19_0, hfz19_1, hfz19_2, hfz19_3⟩ := fz4 BK124.out))
  refine bodyPost_ret (results_cell_row rfl _ _ gb124 44 #[.slice Ao11 t126.length co11, .slice Ao16 t129.length co16, .int .i64 a0_2, .bool a0_3] (0, 0) _ rfl (by (with_reducible repeat (first | refine yM ?_ _ | refine yO ?_ | refine yN ?_ _)); refine blk_put (cs := #[.slice Ao11 t126.length co11, .slice Ao16 t129.length co16, .int .i64 a0_2, .bool false]) ?_ 3 _ rfl; (with_reducible repeat (first | refine yM ?_ _ | refine yO ?_ | refine yN ?_ _)); refine blk_put (cs := #[.slice Ao11 t126.length co11, .slice Ao16 t129.length co16, .int .i64 0, .bool false]) ?_ 2 _ rfl; (with_reducible repeat (first | refine yM ?_ _ | refine yO ?_ | refine yN ?_ _)); refine blk_put (cs := #[.slice Ao11 t126.length co11, .slice none 0 0, .int .i64 0, .bool false]) ?_ 1 _ rfl; (with_reducible repeat (first | refine yM ?_ _ | refine yO ?_ | refine yN ?_ _)); refine blk_put (cs := #[.slice none 0 0, .slice none 0 0, .int .i64 0, .bool false]) ?_ 0 _ rfl; (with_reducible repeat (first | refine yM ?_ _ | refine yO ?_ | refine yN ?_ _)); refine blk_far ?_ NB124_125.out _; (with_reducible repeat (first | refine yM ?_ _ | refine yO ?_ | refine yN ?_ _)); refine blk_far ?_ NB124_125.out _; (with_reducible repeat (first | refine yM ?_ _ | refine yO ?_ | refine yN ?_ _)); refine blk_far ?_ NB124_125.out _; (with_reducible repeat (first | refine yM ?_ _ | refine yO ?_ | refine yN ?_ _)); exact BK124.out) Try.underlying44 rfl (by kernel_rfl)) rfl ?_
  exact ⟨_, _, by first | rfl | (simp <;> rfl) | (simp [*] <;> rfl), by (with_reducible repeat (first | apply yA | apply yB | apply yC)); exact zF (yF (p := ⟨gb124, 3, none⟩) (yF (p := ⟨gb124, 2, none⟩) (yF (p := ⟨gb124, 1, none⟩) (yF (p := ⟨gb124, 0, none⟩) (yF (p := ⟨gb125, 3, none⟩) (yF (p := ⟨gb125, 2, none⟩) (yF (p := ⟨gb125, 1, none⟩) (Kd.R_types (Kd.R_types HO128.out BK125.out (by decide)) BK124.out (by decide)) (fun _ hk => hk.1.2) (.slice Ao16 t129.length co16)) (fun _ hk => hk.1.2) (.int .i64 a0_2)) (fun _ hk => hk.1.2) (.bool a0_3)) (fun _ hk => hk.2) (.slice Ao11 t126.length co11)) (fun _ hk => hk.2) (.slice Ao16 t129.length co16)) (fun _ hk => hk.2) (.int .i64 a0_2)) (fun _ hk => hk.2) (.bool a0_3)) (fun _ hk => trivial), by (with_reducible repeat (first | apply yA | apply yB | apply yC)); exact zF (yF (p := ⟨gb124, 3, none⟩) (yF (p := ⟨gb124, 2, none⟩) (yF (p := ⟨gb124, 1, none⟩) (yF (p := ⟨gb124, 0, none⟩) (yF (p := ⟨gb125, 3, none⟩) (yF (p := ⟨gb125, 2, none⟩) (yF (p := ⟨gb125, 1, none⟩) (Kd.R_types (Kd.R_types HO131.out BK125.out (by decide)) BK124.out (by decide)) (fun _ hk => hk.1.2) (.slice Ao16 t129.length co16)) (fun _ hk => hk.1.2) (.int .i64 a0_2)) (fun _ hk => hk.1.2) (.bool a0_3)) (fun _ hk => hk.2) (.slice Ao11 t126.length co11)) (fun _ hk => hk.2) (.slice Ao16 t129.length co16)) (fun _ hk => hk.2) (.int .i64 a0_2)) (fun _ hk => hk.2) (.bool a0_3)) (fun _ hk => trivial), by repeat (first | (with_reducible first | exact HB.out | apply yQ | apply yL | apply yP | refine yE ?_ GE123.out | refine yE ?_ GE124.out | refine yE ?_ GE125.out) | exact HB.out)⟩

/-! ### laws_toBoolS: function 16 -/
def laws_toBoolS.l0 : Nat → List Bool → List Bool → Int → Option (List Bool)
  | 0, _, _, _ => none
  | k + 1, x0, x3, x4 => if x4 < (x0.length : Int) then (if 0 ≤ x4 then (if x4 < (x3.length : Int) then (laws_toBoolS.l0 k x0 (x3.set (x4 : Int).toNat (rdOf false x0 x4)) (wrap64 (x4 + 1))) else (none)) else (none)) else (some x3)
def laws_toBoolS.f (k : Nat) (l0 : List Bool) : Option (List Bool) := if 0 ≤ (l0.length : Int) then (if ((l0.length : Int) : Int).toNat ≤ 281474976710656 then (laws_toBoolS.l0 k l0 (List.replicate ((l0.length : Int) : Int).toNat false) 0) else (none)) else (none)
theorem laws_toBoolS.mono_l : ∀ k, (∀ y0 y1 y2, LeO (laws_toBoolS.l0 k y0 y1 y2) (laws_toBoolS.l0 (k + 1) y0 y1 y2))
  | 0 => fun _ _ _ r h => by simp [laws_toBoolS.l0] at h
  | k + 1 => by
    have ih0 := laws_toBoolS.mono_l k
    · intro y0 y1 y2
      unfold laws_toBoolS.l0
      repeat' first
      | (with_reducible exact ih0 _ _ _)
      | (with_reducible exact LeO.refl _)
      | (with_reducible exact LeO.none _)
      | (with_reducible refine LeO.ite ?_ ?_)
      | (with_reducible refine LeO.bind ?_ (fun _ => ?_))
      | exact ih0 _ _ _
      | exact LeO.none _
      | refine LeO.ite ?_ ?_
      | refine LeO.bind ?_ (fun _ => ?_)
theorem laws_toBoolS.mono : ∀ a0 k, LeO (laws_toBoolS.f k a0) (laws_toBoolS.f (k + 1) a0) := by
  intro a0 k
  have ih0 := laws_toBoolS.mono_l k
  unfold laws_toBoolS.f
  repeat' first
      | (with_reducible exact ih0 _ _ _)
      | (with_reducible exact LeO.refl _)
      | (with_reducible exact LeO.none _)
      | (with_reducible refine LeO.ite ?_ ?_)
      | (with_reducible refine LeO.bind ?_ (fun _ => ?_))
      | exact ih0 _ _ _
      | exact LeO.none _
      | refine LeO.ite ?_ ?_
      | refine LeO.bind ?_ (fun _ => ?_)
set_option maxHeartbeats 8000000 in
set_option maxRecDepth 100000 in
theorem laws_toBoolS.calls (k : Nat) (A0 : Option Addr) (c0 : Nat) (l0 : List Bool) (r : List Bool) (w : World) (hr0 : Kd.C Kd.bool w A0 l0.length l0) (hc0 : l0.length ≤ c0) (h : laws_toBoolS.f k l0 = some r) :
    Calls Try.prog 16 #[.slice A0 l0.length c0] w fun e w' => ∃ v0_ : Value, e = .returned (v0_) ∧ Kd.R Kd.bool 4 w' w.heap.size (fun _ => True) v0_ r ∧ Below w.heap.size w w' := by
  have HR0 := yD hr0
  have HC0 := yD hc0
  clear hr0 hc0
  have HB := yD (Below.refl w.heap.size w)
  have H : (if 0 ≤ (l0.length : Int) then (if ((l0.length : Int) : Int).toNat ≤ 281474976710656 then (laws_toBoolS.l0 k l0 (List.replicate ((l0.length : Int) : Int).toNat false) 0) else (none)) else (none)) = some r := h
  clear h
  by_cases c2 : 0 ≤ (l0.length : Int)
  · rw [if_pos c2] at H
    have c2b0 := eq_true c2
    have c2b1 : decide (0 ≤ (l0.length : Int)) = true := zR c2; clear c2
    by_cases c3 : ((l0.length : Int) : Int).toNat ≤ 281474976710656
    · rw [if_pos c3] at H
      have c3b0 := eq_true c3
      have c3b1 : decide (((l0.length : Int) : Int).toNat ≤ 281474976710656) = true := zR c3
      clear c3
      obtain ⟨y132, hy132⟩ : ∃ y_ : List Bool, y_ = (List.replicate ((l0.length : Int) : Int).toNat false) := ⟨_, rfl⟩
      replace H : (laws_toBoolS.l0 k l0 y132 0) = some r := by first | (rw [hy132]; with_reducible exact H) | (have H2_ := (Option.bind_some _ _).symm.trans H; rw [hy132]; with_reducible exact H2_) | (have H2_ := (Option.bind_some _ _).symm.trans H; with_reducible exact H2_) | with_reducible exact H | (rw [hy132]; exact H) | exact H
      have Ny132 := yD hy132
      clear hy132
      have H' := yD H
      clear H; go_enter Try.func16, Try.ntmps16
      go_wp2_with (first | ((with_reducible refine gate_dst (N := 7) rfl ?_); refine Kd.R_make Kd.bool _ 4 rfl (N := 7) rfl 40 _ _ rfl (l0.length : Int) rfl rfl Try.underlying40 (.bool false) 1 info4 rfl (by decide) (by omega) false (ok := fun _ => True) (okp := fun _ => True) rfl (fun _ hk => hk) trivial (zP (by assumption)) (Nat.le_trans (Nat.mul_le_mul_right _ (zP (by assumption) : (l0.length : Int).toNat ≤ 281474976710656)) (by omega)) (Below.refl _ _) (Nat.le_refl _) ?_; intro v133 w4 ho5 hb hg_ hnew_; clear hg_ hnew_; (first | rw [← Ny132.out] at ho5 | (simp only [Int.reduceToNat] at ho5; rw [← Ny132.out] at ho5)); have n0_ := yD (yZ ho5 (below_size (kB HB))); have n1_ := yD (zC (kB HB) hb); clear HB; have HO134 := n0_; have HB := n1_; clear n0_ n1_; clear hb ho5))
      go_loopg [4] k (fun kq v4 w' => ∃ (x3_1 : List Bool) (x4_1 : Int), v4 = .int .i64 x4_1 ∧ Aside0 (laws_toBoolS.l0 kq l0 x3_1 x4_1 = some r) ∧ Aside0 (kq ≤ k) ∧ Aside0 (Kd.R Kd.bool 4 w' w.heap.size (fun _ => True) v133 x3_1) ∧ Aside0 (Below w.heap.size w w'))
      case atStart => exact ⟨(y132), (0), (by first | rfl | (simp; done) | (simp [*]; done)), H', ⟨Nat.le_refl _⟩, ⟨by (with_reducible repeat (first | apply yA | apply yB | apply yC)); exact HO134.out⟩, ⟨by repeat (first | (with_reducible first | exact HB.out | apply yQ | apply yL | apply yP) | exact HB.out)⟩⟩
      case round =>
        clear H'
        try clear c1; try clear c2; try clear c2b0; try clear c2b1; try clear p2; try clear c3; try clear c3b0; try clear c3b1
        obtain ⟨x3_1, x4_1, rfl, HA, HK1, HO_3, HB⟩ := hrel
        cases gk with
        | zero => exact absurd HA.out (by simp [laws_toBoolS.l0])
        | succ k1 =>
          have H := HA.out; clear HA
          simp only [laws_toBoolS.l0] at H
          by_cases c6 : x4_1 < (l0.length : Int)
          · rw [if_pos c6] at H
            have c6b0 : decide (x4_1 < (l0.length : Int)) = true := zR c6; clear c6
            by_cases c7 : 0 ≤ x4_1
            · rw [if_pos c7] at H
              have c7b0 : decide (0 ≤ x4_1) = true := zR c7; clear c7
              by_cases c8 : x4_1 < (x3_1.length : Int)
              · rw [if_pos c8] at H
                have c8b0 : decide (x4_1 < (x3_1.length : Int)) = true := zR c8; clear c8
                obtain ⟨y136, hy136⟩ : ∃ y_ : List Bool, y_ = (x3_1.set (x4_1 : Int).toNat (rdOf false l0 x4_1)) := ⟨_, rfl⟩
                replace H : (laws_toBoolS.l0 k1 l0 y136 (wrap64 (x4_1 + 1))) = some r := by first | (rw [hy136]; with_reducible exact H) | (have H2_ := (Option.bind_some _ _).symm.trans H; rw [hy136]; with_reducible exact H2_) | (have H2_ := (Option.bind_some _ _).symm.trans H; with_reducible exact H2_) | with_reducible exact H | (rw [hy136]; exact H) | exact H
                have Ny136 := yD hy136
                clear hy136
                have H' := yD H
                clear H
                have p135 : 0 ≤ (x4_1 : Int) := zP (by assumption)
                have q135 : x4_1 < (l0.length : Int) := zP (by assumption)
                obtain ⟨ad135, e135, hx135_0⟩ := Kd.at_bool HR0.out x4_1 p135 q135
                cases e135
                replace hx135_0 := (HB.out.cell (zQ w _ hx135_0)).trans hx135_0
                replace p135 := eq_true p135; replace q135 := eq_true q135
                have p9 : 0 ≤ (x4_1 : Int) := zP (by assumption)
                have q9 : (x4_1 : Int) < ((x3_1.length : Int) : Int) := zP (by assumption)
                obtain ⟨go9, co9, eo9, gb9, gl9, cl9, HG9⟩ := Kd.R_form HO_3.out (by omega)
                (first | cases eo9 | (injection eo9 with ea_ en_ ec_; (first | subst ea_ | (injection ea_ with ea_; subst ea_)); subst ec_; clear en_))
                have GB9 := yD gb9
                have GG9 := yD HG9
                clear gb9 gl9 HG9
                obtain ⟨hx9_0, hf9_0⟩ := Kd.R_celln false HO_3.out (x4_1 : Int) p9 q9
                replace p9 := eq_true p9; replace q9 := eq_true q9
                have HP10 := Kd.R_putg HO_3.out (x4_1 : Int) (rdOf false l0 x4_1)
                go_wp2_with (first | ((with_reducible refine gate_store (t := 4) (p := 20) rfl ?_); refine store_event (t := 4) (p := 20) (v := ?vo_w11) (w1 := (wr.setCell ⟨go9, (x4_1 : Int).toNat, none⟩ (.bool (rdOf false l0 x4_1)))) ?hg ?ho ?hn ?hr ?_; (case ho => rfl); (case hg => rfl); (case hn => rfl); (case hr => first | (go_simp; done) | (go_simp; rfl)); intro w11 hw; have hg : wr.grownBy w11 (some go9) := (by rw [hw]; exact HP10.2); have hp_ : Kd.R Kd.bool 4 w11 w.heap.size (fun _ => True) (.slice (some ⟨go9, 0, none⟩) x3_1.length co9) y136 := (by rw [hw, Ny136.out]; exact HP10.1); clear HP10; have n0_ := yD (hp_); have n1_ := yD ((by rw [hw]; exact yE (HB.out) GB9.out : Below w.heap.size w w11)); clear HO_3; clear HB; have HO_3 := n0_; have HB := n1_; clear n0_ n1_; clear hg hw hp_))
                go_roundg k1
                case measure => have := HK1.out; omega
                case rel => exact ⟨(y136), (wrap64 (x4_1 + 1)), (by first | rfl | (simp; done) | (simp [*]; done)), H', ⟨by have := HK1.out; omega⟩, ⟨by (with_reducible repeat (first | apply yA | apply yB | apply yC)); exact HO_3.out⟩, ⟨by repeat (first | (with_reducible first | exact HB.out | apply yQ | apply yL | apply yP) | exact HB.out)⟩⟩
              · rw [if_neg c8] at H
                exact absurd H (by simp)
            · rw [if_neg c7] at H
              exact absurd H (by simp)
          · rw [if_neg c6] at H
            have c6b0 : decide (x4_1 < (l0.length : Int)) = false := zS c6; clear c6; obtain rfl := Option.some.inj H
            go_wp2
            go_ret
            exact ⟨_, by first | rfl | (simp <;> rfl) | (simp [*] <;> rfl), by (with_reducible repeat (first | apply yA | apply yB | apply yC)); exact HO_3.out, by repeat (first | (with_reducible first | exact HB.out | apply yQ | apply yL | apply yP) | exact HB.out)⟩
    · rw [if_neg c3] at H
      exact absurd H (by simp)
  · rw [if_neg c2] at H
    exact absurd H (by simp)

/-! ### spec_l00In: function 30 -/
def spec_l00In.f (a0 : Int) (a1 : Int) (a2 : Int) : Option (Bool) := if a0 ≥ a1 then (some (decide (a0 ≤ a2))) else (some false)
set_option maxHeartbeats 8000000 in
set_option maxRecDepth 100000 in
theorem spec_l00In.calls (a0 : Int) (a1 : Int) (a2 : Int) (r : Bool) (w : World) (h : spec_l00In.f a0 a1 a2 = some r) :
    Calls Try.prog 30 #[.int .i64 a0, .int .i64 a1, .int .i64 a2] w fun e w' => e = .returned (.bool r) ∧ Drawn0 w w' := by
  have H : (if a0 ≥ a1 then (some (decide (a0 ≤ a2))) else (some false)) = some r := h
  clear h
  by_cases c4 : a0 ≥ a1
  · rw [if_pos c4] at H
    have c4b0 : decide (a1 ≤ a0) = true := zR c4; clear c4; obtain rfl := Option.some.inj H; go_enter Try.func30, Try.ntmps30
    go_wp2
    go_ret
    exact ⟨by first | rfl | (simp; done) | (simp [*]; done), by repeat (first | exact Drawn0.refl _ | apply Drawn0.step)⟩
  · rw [if_neg c4] at H
    have c4b0 : decide (a1 ≤ a0) = false := zS c4; clear c4; obtain rfl := Option.some.inj H; go_enter Try.func30, Try.ntmps30
    go_wp2
    go_ret
    exact ⟨by first | rfl | (simp; done) | (simp [*]; done), by repeat (first | exact Drawn0.refl _ | apply Drawn0.step)⟩

end Go.Proofs.Ytgpkkplabnliiaa.PFnExactCutPower
