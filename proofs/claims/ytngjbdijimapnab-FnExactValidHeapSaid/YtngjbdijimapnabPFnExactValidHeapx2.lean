/- Each Go function here comes to what the plain function of its name says, where that says something. Made by a program of this session, over the print. -/
import Derived.Test.YtngjbdijimapnabPFnExactValidHeapx0
import Derived.Test.YtngjbdijimapnabPFnExactValidHeapx1
namespace Go.Proofs.Ytngjbdijimapnab.PFnExactValidHeap
open Go.RowKit Go.Proofs.YtngjbdijimapnabW.PrintWords Go.Proofs.YtngjbdijimapnabW.PrintLast Go.Proofs.YtngjbdijimapnabW.PrintMore
attribute [local go_sem] max2_int min2_int max_two min_two max_three min_three max_four min_four   -- for this text's walks alone
set_option linter.unusedVariables false
set_option linter.unusedSimpArgs false

/-! ### spec_l16Ok: function 73 -/
mutual
def spec_l16Ok.j0 : Nat → Int → Bool → List ByteArray → Option (Bool)
  | 0, _, _, _ => none
  | k + 1, x3, x22, x118000 => if x22 = true then (some false) else (spec_l16Ok.l0 k x3 0 x118000)
def spec_l16Ok.l0 : Nat → Int → Int → List ByteArray → Option (Bool)
  | 0, _, _, _ => none
  | k + 1, x3, x4, x118000 => if x4 < x3 then (if 0 ≤ x4 then (if x4 < (x118000.length : Int) then (if (rdOf ByteArray.empty x118000 x4).toList = ([] : List UInt8) then (spec_l16Ok.l0 k x3 (wrap64 (x4 + 1)) x118000) else ((spec_IsName.f k (rdOf ByteArray.empty x118000 x4)).bind fun t121 => (if t121 = true then (spec_l16Ok.l0 k x3 (wrap64 (x4 + 1)) x118000) else (some false)))) else (none)) else (none)) else (some true)
end
def spec_l16Ok.f (k : Nat) (l0_0 : List ByteArray) : Option (Bool) := if (l0_0.length : Int) > 30 then (spec_l16Ok.j0 k (l0_0.length : Int) true l0_0) else (if (l0_0.length : Int) > 0 then (if 0 ≤ (wrap64 ((l0_0.length : Int) - 1)) then (if (wrap64 ((l0_0.length : Int) - 1)) < (l0_0.length : Int) then (spec_l16Ok.j0 k (l0_0.length : Int) ((rdOf ByteArray.empty l0_0 (wrap64 ((l0_0.length : Int) - 1))).toList == ([] : List UInt8)) l0_0) else (none)) else (none)) else (spec_l16Ok.j0 k (l0_0.length : Int) false l0_0))
theorem spec_l16Ok.mono_l : ∀ k, (∀ y0 y1 y2, LeO (spec_l16Ok.j0 k y0 y1 y2) (spec_l16Ok.j0 (k + 1) y0 y1 y2)) ∧ (∀ y0 y1 y2, LeO (spec_l16Ok.l0 k y0 y1 y2) (spec_l16Ok.l0 (k + 1) y0 y1 y2))
  | 0 => ⟨fun _ _ _ r h => by simp [spec_l16Ok.j0] at h, fun _ _ _ r h => by simp [spec_l16Ok.l0] at h⟩
  | k + 1 => by
    obtain ⟨ih0, ih1⟩ := spec_l16Ok.mono_l k
    refine ⟨?_, ?_⟩
    · intro y0 y1 y2
      unfold spec_l16Ok.j0
      repeat' first
      | (with_reducible exact ih0 _ _ _)
      | (with_reducible exact ih1 _ _ _)
      | (with_reducible exact spec_IsName.mono _ _)
      | (with_reducible exact LeO.refl _)
      | (with_reducible exact LeO.none _)
      | (with_reducible refine LeO.ite ?_ ?_)
      | (with_reducible refine LeO.bind ?_ (fun _ => ?_))
      | exact ih0 _ _ _
      | exact ih1 _ _ _
      | exact spec_IsName.mono _ _
      | exact LeO.none _
      | refine LeO.ite ?_ ?_
      | refine LeO.bind ?_ (fun _ => ?_)
    · intro y0 y1 y2
      unfold spec_l16Ok.l0
      repeat' first
      | (with_reducible exact ih0 _ _ _)
      | (with_reducible exact ih1 _ _ _)
      | (with_reducible exact spec_IsName.mono _ _)
      | (with_reducible exact LeO.refl _)
      | (with_reducible exact LeO.none _)
      | (with_reducible refine LeO.ite ?_ ?_)
      | (with_reducible refine LeO.bind ?_ (fun _ => ?_))
      | exact ih0 _ _ _
      | exact ih1 _ _ _
      | exact spec_IsName.mono _ _
      | exact LeO.none _
      | refine LeO.ite ?_ ?_
      | refine LeO.bind ?_ (fun _ => ?_)
theorem spec_l16Ok.mono : ∀ a0 k, LeO (spec_l16Ok.f k a0) (spec_l16Ok.f (k + 1) a0) := by
  intro a0 k
  obtain ⟨ih0, ih1⟩ := spec_l16Ok.mono_l k
  unfold spec_l16Ok.f
  repeat' first
      | (with_reducible exact ih0 _ _ _)
      | (with_reducible exact ih1 _ _ _)
      | (with_reducible exact spec_IsName.mono _ _)
      | (with_reducible exact LeO.refl _)
      | (with_reducible exact LeO.none _)
      | (with_reducible refine LeO.ite ?_ ?_)
      | (with_reducible refine LeO.bind ?_ (fun _ => ?_))
      | exact ih0 _ _ _
      | exact ih1 _ _ _
      | exact spec_IsName.mono _ _
      | exact LeO.none _
      | refine LeO.ite ?_ ?_
      | refine LeO.bind ?_ (fun _ => ?_)
set_option maxHeartbeats 8000000 in
set_option maxRecDepth 100000 in
theorem spec_l16Ok.calls (k : Nat) (A0_0 : Option Addr) (c0_0 : Nat) (l0_0 : List ByteArray) (r : Bool) (w : World) (hr0_0 : Kd.C Kd.string w A0_0 l0_0.length l0_0) (hc0_0 : l0_0.length ≤ c0_0) (h : spec_l16Ok.f k l0_0 = some r) :
    Calls Try.prog 73 #[.agg #[.slice A0_0 l0_0.length c0_0]] w fun e w' => e = .returned (.bool r) ∧ Below w.heap.size w w' := by
  have hu42 := Try.underlying42
  have HR0_0 := Aside0.mk hr0_0
  have HC0_0 := Aside0.mk hc0_0
  clear hr0_0 hc0_0
  have HB := Aside0.mk (Below.refl w.heap.size w)
  have H : (if (l0_0.length : Int) > 30 then (spec_l16Ok.j0 k (l0_0.length : Int) true l0_0) else (if (l0_0.length : Int) > 0 then (if 0 ≤ (wrap64 ((l0_0.length : Int) - 1)) then (if (wrap64 ((l0_0.length : Int) - 1)) < (l0_0.length : Int) then (spec_l16Ok.j0 k (l0_0.length : Int) ((rdOf ByteArray.empty l0_0 (wrap64 ((l0_0.length : Int) - 1))).toList == ([] : List UInt8)) l0_0) else (none)) else (none)) else (spec_l16Ok.j0 k (l0_0.length : Int) false l0_0))) = some r := h
  clear h
  have HC2 := Aside0.mk H
  clear H
  go_enter Try.func73, Try.ntmps73
  go_upto_region 2 with (first | ((with_reducible refine gate_dst (N := 1) rfl ?_); refine box_event ?hg (N := 1) ?hd (cs := #[.slice A0_0 l0_0.length c0_0]) (t := 42) ?hr ?_; (case hd => rfl); (case hg => rfl); (case hr => first | (go_simp; done) | (go_simp; rfl)); intro gb117 hg w3 hbox hb; have n0_ := Aside0.mk (below_step (by repeat (first | (with_reducible first | exact HB.out | apply below_alloc | apply pw_below_drewN | apply below_drew1) | exact HB.out)) hb); have n1_ := Aside0.mk (hbox); have n2_ := Aside0.mk ((by rw [hg]; exact (below_size (by repeat (first | (with_reducible first | exact HB.out | apply below_alloc | apply pw_below_drewN | apply below_drew1) | exact HB.out))) : w.heap.size ≤ gb117)); have n3_ := Aside0.mk ((by rw [hg]; exact (below_size (by repeat (first | (with_reducible first | exact HB.out | apply below_alloc | apply pw_below_drewN | apply below_drew1) | exact HB.out))) : w.heap.size ≤ gb117)); clear HB; have HB := n0_; have BK117 := n1_; have GW117 := n2_; have GE117 := n3_; clear n0_ n1_ n2_ n3_; clear hb hbox hg; have hcz4_0 : w3.cell? ⟨gb117, 0, none⟩ = some (.slice A0_0 l0_0.length c0_0) := (blk_cell BK117.out 0).trans rfl; have hfz4_0 := blk_frozen BK117.out 0))
  (try simp only [Act.put, List.setIfInBounds_toArray, List.set_cons_zero, List.set_cons_succ])
  go_cut [22] (fun v22 wc => ∃ (kq : Nat) (x22_1 : Bool), v22 = .bool x22_1 ∧ Aside0 (spec_l16Ok.j0 kq (l0_0.length : Int) x22_1 l0_0 = some r) ∧ Aside0 (kq ≤ k) ∧ Aside0 (wc.heap[gb117]? = some (.cells #[(.slice A0_0 l0_0.length c0_0)] 42 (0, 0))) ∧ Aside0 (Below w.heap.size w wc))
  case first =>
    have H := HC2.out
    clear HC2
    by_cases c5 : (l0_0.length : Int) > 30
    · rw [if_pos c5] at H
      have c5b0 : decide (30 < (l0_0.length : Int)) = true := decide_eq_true c5
      have c5b1 : decide (30 < l0_0.length) = true := decide_eq_true (by omega)
      clear c5
      (first | rw [c5b0] | (simp only [i64_w, i32_w]; rw [c5b0]) | (simp only [bne] at c5b0; rw [c5b0]) | skip)
      have H' := Aside0.mk H
      clear H
      go_wp2
      go_meet
      case rel => exact ⟨_, (true), (by first | rfl | (simp; done) | (simp [*]; done)), H', ⟨by first | omega | exact Nat.le_refl _⟩, ⟨by (with_reducible repeat (first | refine blk_drewN ?_ _ | refine blk_drew ?_ | refine blk_alloc ?_ _)); exact BK117.out⟩, ⟨by repeat (first | (with_reducible first | exact HB.out | apply below_alloc | apply pw_below_drewN | apply below_drew1 | refine below_set ?_ GE117.out) | exact HB.out)⟩⟩
    · rw [if_neg c5] at H
      have c5b0 : decide (30 < (l0_0.length : Int)) = false := decide_eq_false c5
      have c5b1 : decide (30 < l0_0.length) = false := decide_eq_false (by omega)
      clear c5
      (first | rw [c5b0] | (simp only [i64_w, i32_w]; rw [c5b0]) | (simp only [bne] at c5b0; rw [c5b0]) | skip)
      by_cases c6 : (l0_0.length : Int) > 0
      · rw [if_pos c6] at H
        have c6b0 : decide (0 < (l0_0.length : Int)) = true := decide_eq_true c6
        have c6b1 : decide (0 < l0_0.length) = true := decide_eq_true (by omega)
        clear c6
        obtain ⟨ji7, hji7⟩ : ∃ j_ : Int, (wrap64 ((l0_0.length : Int) - 1)) = j_ := ⟨_, rfl⟩
        replace H : (if 0 ≤ (ji7) then (if (ji7) < (l0_0.length : Int) then (spec_l16Ok.j0 k (l0_0.length : Int) ((rdOf ByteArray.empty l0_0 (ji7)).toList == ([] : List UInt8)) l0_0) else (none)) else (none)) = some r := by first | (rw [hji7] at H; exact H) | (simp only [hji7] at H ⊢; exact H)
        have hji7w : (IntKind.i64.wrap ((l0_0.length : Int) - 1)) = ji7 := (i64_w _).trans hji7
        by_cases c8 : 0 ≤ (ji7)
        · rw [if_pos c8] at H
          have c8b0 : decide (0 ≤ (ji7)) = true := decide_eq_true c8
          clear c8
          by_cases c9 : (ji7) < (l0_0.length : Int)
          · rw [if_pos c9] at H
            have c9b0 : decide ((ji7) < (l0_0.length : Int)) = true := decide_eq_true c9
            clear c9
            have H' := Aside0.mk H
            clear H
            have hcz10_0 : w3.cell? ⟨gb117, 0, none⟩ = some (.slice A0_0 l0_0.length c0_0) := (blk_cell BK117.out 0).trans rfl
            have hfz10_0 := blk_frozen BK117.out 0
            have p118 : 0 ≤ ((ji7) : Int) := of_decide_eq_true (by first | (with_reducible assumption) | assumption)
            have q118 : (ji7) < (l0_0.length : Int) := of_decide_eq_true (by first | (with_reducible assumption) | assumption)
            obtain ⟨ad118, e118, hx118_0⟩ := Kd.at_string HR0_0.out (ji7) p118 q118
            cases e118
            replace hx118_0 := (HB.out.cell (World.block_lt_of_cell? w _ hx118_0)).trans hx118_0
            replace p118 := eq_true p118
            replace q118 := eq_true q118
            go_wp2
            go_meet
            case rel => exact ⟨_, (((rdOf ByteArray.empty l0_0 (ji7)).toList == ([] : List UInt8))), (by first | rfl | (simp; done) | (simp only [← hji7] <;> (first | rfl | simp)) | (simp [*]; done)), H', ⟨by first | omega | exact Nat.le_refl _⟩, ⟨by (with_reducible repeat (first | refine blk_drewN ?_ _ | refine blk_drew ?_ | refine blk_alloc ?_ _)); exact BK117.out⟩, ⟨by repeat (first | (with_reducible first | exact HB.out | apply below_alloc | apply pw_below_drewN | apply below_drew1 | refine below_set ?_ GE117.out) | exact HB.out)⟩⟩
          · rw [if_neg c9] at H
            exact absurd H (by simp)
        · rw [if_neg c8] at H
          exact absurd H (by simp)
      · rw [if_neg c6] at H
        have c6b0 : decide (0 < (l0_0.length : Int)) = false := decide_eq_false c6
        have c6b1 : decide (0 < l0_0.length) = false := decide_eq_false (by omega)
        clear c6
        have H' := Aside0.mk H
        clear H
        go_wp2
        go_meet
        case rel => exact ⟨_, (false), (by first | rfl | (simp; done) | (simp [*]; done)), H', ⟨by first | omega | exact Nat.le_refl _⟩, ⟨by (with_reducible repeat (first | refine blk_drewN ?_ _ | refine blk_drew ?_ | refine blk_alloc ?_ _)); exact BK117.out⟩, ⟨by repeat (first | (with_reducible first | exact HB.out | apply below_alloc | apply pw_below_drewN | apply below_drew1 | refine below_set ?_ GE117.out) | exact HB.out)⟩⟩
  case rest =>
    clear HC2
    try clear p1
    try clear q1
    try clear hx1
    try clear p2
    try clear c5
    try clear c5b0
    try clear c5b1
    try clear c6
    try clear c6b0
    try clear c6b1
    try clear p6
    try clear c7
    try clear c8
    try clear c8b0
    try clear c9
    try clear c9b0
    try clear hcz10_0
    try clear hcz4_0
    try clear hfz10_0
    try clear hfz4_0
    try clear hx118_0
    try clear p118
    try clear q118
    obtain ⟨kq, x22_1, rfl, HA, HJ1, BK117, HB⟩ := hcut
    cases kq with
    | zero => exact absurd HA.out (by simp [spec_l16Ok.j0])
    | succ kj1 =>
      have H := HA.out
      clear HA
      simp only [spec_l16Ok.j0] at H
      by_cases c11 : x22_1 = true
      · subst c11
        have H1 : (some false) = some r := by rw [if_pos rfl] at H; exact H
        clear H
        have H := H1
        clear H1
        obtain rfl := Option.some.inj H
        go_wp2
        go_ret
        exact ⟨by first | rfl | (simp [errW_none, errW_some] <;> rfl) | (simp [*, errW_none, errW_some] <;> rfl), by repeat (first | (with_reducible first | exact HB.out | apply below_alloc | apply pw_below_drewN | apply below_drew1 | refine below_set ?_ GE117.out) | exact HB.out)⟩
      · replace c11 := Bool.eq_false_iff.mpr c11
        subst c11
        have H1 : (spec_l16Ok.l0 kj1 (l0_0.length : Int) 0 l0_0) = some r := by rw [if_neg (show ¬ (false = true) by decide)] at H; exact H
        clear H
        have H := H1
        clear H1
        have H' := Aside0.mk H
        clear H
        go_wp2
        go_loopg [4] kj1 (fun kq v4 w' => ∃ (x4_2 : Int), v4 = .int .i64 x4_2 ∧ Aside0 (spec_l16Ok.l0 kq (l0_0.length : Int) x4_2 l0_0 = some r) ∧ Aside0 (kq ≤ kj1) ∧ Aside0 (w'.heap[gb117]? = some (.cells #[(.slice A0_0 l0_0.length c0_0)] 42 (0, 0))) ∧ Aside0 (Below w.heap.size w w'))
        case atStart => exact ⟨(0), (by first | rfl | (simp; done) | (simp [*]; done)), H', ⟨Nat.le_refl _⟩, ⟨by (with_reducible repeat (first | refine blk_drewN ?_ _ | refine blk_drew ?_ | refine blk_alloc ?_ _)); exact BK117.out⟩, ⟨by repeat (first | (with_reducible first | exact HB.out | apply below_alloc | apply pw_below_drewN | apply below_drew1 | refine below_set ?_ GE117.out) | exact HB.out)⟩⟩
        case round =>
          clear H'
          try clear c1
          try clear p1
          try clear q1
          try clear hx1
          try clear p2
          try clear c5
          try clear c5b0
          try clear c5b1
          try clear c6
          try clear c6b0
          try clear c6b1
          try clear p6
          try clear c7
          try clear c8
          try clear c8b0
          try clear c9
          try clear c9b0
          try clear c11
          try clear p11
          try clear q11
          try clear hx11
          try clear hcz10_0
          try clear hcz4_0
          try clear hfz10_0
          try clear hfz4_0
          try clear hx118_0
          try clear p1
          try clear p118
          try clear p2
          try clear p6
          try clear q1
          try clear q118
          obtain ⟨x4_2, rfl, HA, HK2, BK117, HB⟩ := hrel
          cases gk with
          | zero => exact absurd HA.out (by simp [spec_l16Ok.l0])
          | succ k2 =>
            have H := HA.out
            clear HA
            simp only [spec_l16Ok.l0] at H
            by_cases c12 : x4_2 < (l0_0.length : Int)
            · rw [if_pos c12] at H
              have c12b0 : decide (x4_2 < (l0_0.length : Int)) = true := decide_eq_true c12
              clear c12
              by_cases c13 : 0 ≤ x4_2
              · rw [if_pos c13] at H
                have c13b0 : decide (0 ≤ x4_2) = true := decide_eq_true c13
                clear c13
                by_cases c14 : x4_2 < (l0_0.length : Int)
                · rw [if_pos c14] at H
                  have c14b0 : decide (x4_2 < (l0_0.length : Int)) = true := decide_eq_true c14
                  clear c14
                  by_cases c15 : (rdOf ByteArray.empty l0_0 x4_2).toList = ([] : List UInt8)
                  · rw [if_pos c15] at H
                    have c15b0 : ((rdOf ByteArray.empty l0_0 x4_2).toList == ([] : List UInt8)) = true := beq_iff_eq.mpr c15
                    have c15b1 : ((rdOf ByteArray.empty l0_0 x4_2).toList != ([] : List UInt8)) = false := bne_eq_false_iff_eq.mpr c15
                    clear c15
                    have H' := Aside0.mk H
                    clear H
                    have hcz16_0 : wr.cell? ⟨gb117, 0, none⟩ = some (.slice A0_0 l0_0.length c0_0) := (blk_cell BK117.out 0).trans rfl
                    have hfz16_0 := blk_frozen BK117.out 0
                    have p119 : 0 ≤ (x4_2 : Int) := of_decide_eq_true (by first | (with_reducible assumption) | assumption)
                    have q119 : x4_2 < (l0_0.length : Int) := of_decide_eq_true (by first | (with_reducible assumption) | assumption)
                    obtain ⟨ad119, e119, hx119_0⟩ := Kd.at_string HR0_0.out x4_2 p119 q119
                    cases e119
                    replace hx119_0 := (HB.out.cell (World.block_lt_of_cell? w _ hx119_0)).trans hx119_0
                    replace p119 := eq_true p119
                    replace q119 := eq_true q119
                    go_wp2
                    go_roundg k2
                    case measure => have := HJ1.out; have := HK2.out; omega
                    case rel => exact ⟨(wrap64 (x4_2 + 1)), (by first | rfl | (simp; done) | (simp [*]; done)), H', ⟨by have := HJ1.out; have := HK2.out; omega⟩, ⟨by (with_reducible repeat (first | refine blk_drewN ?_ _ | refine blk_drew ?_ | refine blk_alloc ?_ _)); exact BK117.out⟩, ⟨by repeat (first | (with_reducible first | exact HB.out | apply below_alloc | apply pw_below_drewN | apply below_drew1 | refine below_set ?_ GE117.out) | exact HB.out)⟩⟩
                  · rw [if_neg c15] at H
                    have c15b0 : ((rdOf ByteArray.empty l0_0 x4_2).toList == ([] : List UInt8)) = false := beq_eq_false_iff_ne.mpr c15
                    have c15b1 : ((rdOf ByteArray.empty l0_0 x4_2).toList != ([] : List UInt8)) = true := bne_iff_ne.mpr c15
                    replace H := Option.bind_eq_some_iff.mp H
                    obtain ⟨t121, A170, H⟩ := H
                    replace H : (if t121 = true then (spec_l16Ok.l0 k2 (l0_0.length : Int) (wrap64 (x4_2 + 1)) l0_0) else (some false)) = some r := H
                    have A17 := Aside0.mk A170
                    clear A170
                    by_cases c18 : t121 = true
                    · subst c18
                      have H1 : (spec_l16Ok.l0 k2 (l0_0.length : Int) (wrap64 (x4_2 + 1)) l0_0) = some r := by rw [if_pos rfl] at H; exact H
                      clear H
                      have H := H1
                      clear H1
                      have H' := Aside0.mk H
                      clear H
                      have hcz19_0 : wr.cell? ⟨gb117, 0, none⟩ = some (.slice A0_0 l0_0.length c0_0) := (blk_cell BK117.out 0).trans rfl
                      have hfz19_0 := blk_frozen BK117.out 0
                      have p119 : 0 ≤ (x4_2 : Int) := of_decide_eq_true (by first | (with_reducible assumption) | assumption)
                      have q119 : x4_2 < (l0_0.length : Int) := of_decide_eq_true (by first | (with_reducible assumption) | assumption)
                      obtain ⟨ad119, e119, hx119_0⟩ := Kd.at_string HR0_0.out x4_2 p119 q119
                      cases e119
                      replace hx119_0 := (HB.out.cell (World.block_lt_of_cell? w _ hx119_0)).trans hx119_0
                      replace p119 := eq_true p119
                      replace q119 := eq_true q119
                      have p120 : 0 ≤ (x4_2 : Int) := of_decide_eq_true (by first | (with_reducible assumption) | assumption)
                      have q120 : x4_2 < (l0_0.length : Int) := of_decide_eq_true (by first | (with_reducible assumption) | assumption)
                      obtain ⟨ad120, e120, hx120_0⟩ := Kd.at_string HR0_0.out x4_2 p120 q120
                      obtain rfl : ad119 = ad120 := (by injection e120)
                      replace hx120_0 := (HB.out.cell (World.block_lt_of_cell? w _ hx120_0)).trans hx120_0
                      replace p120 := eq_true p120
                      replace q120 := eq_true q120
                      go_wp2_with (first | (go_at_call 110; (with_reducible refine (spec_IsName.calls k2 (rdOf ByteArray.empty l0_0 x4_2) true _ A17.out).mono ?_); rintro e w' ⟨rfl, ⟨nd, rfl⟩⟩))
                      go_roundg k2
                      case measure => have := HJ1.out; have := HK2.out; omega
                      case rel => exact ⟨(wrap64 (x4_2 + 1)), (by first | rfl | (simp; done) | (simp [*]; done)), H', ⟨by have := HJ1.out; have := HK2.out; omega⟩, ⟨by (with_reducible repeat (first | refine blk_drewN ?_ _ | refine blk_drew ?_ | refine blk_alloc ?_ _)); exact BK117.out⟩, ⟨by repeat (first | (with_reducible first | exact HB.out | apply below_alloc | apply pw_below_drewN | apply below_drew1 | refine below_set ?_ GE117.out) | exact HB.out)⟩⟩
                    · replace c18 := Bool.eq_false_iff.mpr c18
                      subst c18
                      have H1 : (some false) = some r := by rw [if_neg (show ¬ (false = true) by decide)] at H; exact H
                      clear H
                      have H := H1
                      clear H1
                      obtain rfl := Option.some.inj H
                      have hcz20_0 : wr.cell? ⟨gb117, 0, none⟩ = some (.slice A0_0 l0_0.length c0_0) := (blk_cell BK117.out 0).trans rfl
                      have hfz20_0 := blk_frozen BK117.out 0
                      have p119 : 0 ≤ (x4_2 : Int) := of_decide_eq_true (by first | (with_reducible assumption) | assumption)
                      have q119 : x4_2 < (l0_0.length : Int) := of_decide_eq_true (by first | (with_reducible assumption) | assumption)
                      obtain ⟨ad119, e119, hx119_0⟩ := Kd.at_string HR0_0.out x4_2 p119 q119
                      cases e119
                      replace hx119_0 := (HB.out.cell (World.block_lt_of_cell? w _ hx119_0)).trans hx119_0
                      replace p119 := eq_true p119
                      replace q119 := eq_true q119
                      have p120 : 0 ≤ (x4_2 : Int) := of_decide_eq_true (by first | (with_reducible assumption) | assumption)
                      have q120 : x4_2 < (l0_0.length : Int) := of_decide_eq_true (by first | (with_reducible assumption) | assumption)
                      obtain ⟨ad120, e120, hx120_0⟩ := Kd.at_string HR0_0.out x4_2 p120 q120
                      obtain rfl : ad119 = ad120 := (by injection e120)
                      replace hx120_0 := (HB.out.cell (World.block_lt_of_cell? w _ hx120_0)).trans hx120_0
                      replace p120 := eq_true p120
                      replace q120 := eq_true q120
                      go_wp2_with (first | (go_at_call 110; (with_reducible refine (spec_IsName.calls k2 (rdOf ByteArray.empty l0_0 x4_2) false _ A17.out).mono ?_); rintro e w' ⟨rfl, ⟨nd, rfl⟩⟩))
                      go_ret
                      exact ⟨by first | rfl | (simp [errW_none, errW_some] <;> rfl) | (simp [*, errW_none, errW_some] <;> rfl), by repeat (first | (with_reducible first | exact HB.out | apply below_alloc | apply pw_below_drewN | apply below_drew1 | refine below_set ?_ GE117.out) | exact HB.out)⟩
                · rw [if_neg c14] at H
                  exact absurd H (by simp)
              · rw [if_neg c13] at H
                exact absurd H (by simp)
            · rw [if_neg c12] at H
              have c12b0 : decide (x4_2 < (l0_0.length : Int)) = false := decide_eq_false c12
              clear c12
              obtain rfl := Option.some.inj H
              go_wp2
              go_ret
              exact ⟨by first | rfl | (simp [errW_none, errW_some] <;> rfl) | (simp [*, errW_none, errW_some] <;> rfl), by repeat (first | (with_reducible first | exact HB.out | apply below_alloc | apply pw_below_drewN | apply below_drew1 | refine below_set ?_ GE117.out) | exact HB.out)⟩

/-! ### spec_ValidHeap: function 31 -/
def spec_ValidHeap.f (k : Nat) (l0_0 : List ByteArray) : Option (Bool) := (spec_l16Ok.f k l0_0).bind fun t123 => (some t123)
theorem spec_ValidHeap.mono : ∀ a0 k, LeO (spec_ValidHeap.f k a0) (spec_ValidHeap.f (k + 1) a0) := by
  intro a0 k
  unfold spec_ValidHeap.f
  repeat' first
      | (with_reducible exact spec_l16Ok.mono _ _)
      | (with_reducible exact LeO.refl _)
      | (with_reducible exact LeO.none _)
      | (with_reducible refine LeO.ite ?_ ?_)
      | (with_reducible refine LeO.bind ?_ (fun _ => ?_))
      | exact spec_l16Ok.mono _ _
      | exact LeO.none _
      | refine LeO.ite ?_ ?_
      | refine LeO.bind ?_ (fun _ => ?_)
set_option maxHeartbeats 8000000 in
set_option maxRecDepth 100000 in
theorem spec_ValidHeap.calls (k : Nat) (A0_0 : Option Addr) (c0_0 : Nat) (l0_0 : List ByteArray) (r : Bool) (w : World) (hr0_0 : Kd.C Kd.string w A0_0 l0_0.length l0_0) (hc0_0 : l0_0.length ≤ c0_0) (h : spec_ValidHeap.f k l0_0 = some r) :
    Calls Try.prog 31 #[.agg #[.slice A0_0 l0_0.length c0_0]] w fun e w' => e = .returned (.bool r) ∧ Below w.heap.size w w' := by
  have hu42 := Try.underlying42
  have HR0_0 := Aside0.mk hr0_0
  have HC0_0 := Aside0.mk hc0_0
  clear hr0_0 hc0_0
  have HB := Aside0.mk (Below.refl w.heap.size w)
  have H : ((spec_l16Ok.f k l0_0).bind fun t123 => (some t123)) = some r := h
  clear h
  replace H := Option.bind_eq_some_iff.mp H
  obtain ⟨t123, A20, H⟩ := H
  replace H : (some t123) = some r := H
  have A2 := Aside0.mk A20
  clear A20
  obtain rfl := Option.some.inj H
  go_enter Try.func31, Try.ntmps31
  go_wp2_with (first | ((with_reducible refine gate_dst (N := 1) rfl ?_); refine box_event ?hg (N := 1) ?hd (cs := #[.slice A0_0 l0_0.length c0_0]) (t := 42) ?hr ?_; (case hd => rfl); (case hg => rfl); (case hr => first | (go_simp; done) | (go_simp; rfl)); intro gb122 hg w3 hbox hb; have n0_ := Aside0.mk (below_step (by repeat (first | (with_reducible first | exact HB.out | apply below_alloc | apply pw_below_drewN | apply below_drew1) | exact HB.out)) hb); have n1_ := Aside0.mk (hbox); have n2_ := Aside0.mk ((by rw [hg]; exact (below_size (by repeat (first | (with_reducible first | exact HB.out | apply below_alloc | apply pw_below_drewN | apply below_drew1) | exact HB.out))) : w.heap.size ≤ gb122)); have n3_ := Aside0.mk ((by rw [hg]; exact (below_size (by repeat (first | (with_reducible first | exact HB.out | apply below_alloc | apply pw_below_drewN | apply below_drew1) | exact HB.out))) : w.heap.size ≤ gb122)); clear HB; have HB := n0_; have BK122 := n1_; have GW122 := n2_; have GE122 := n3_; clear n0_ n1_ n2_ n3_; clear hb hbox hg; have hcz4_0 : w3.cell? ⟨gb122, 0, none⟩ = some (.slice A0_0 l0_0.length c0_0) := (blk_cell BK122.out 0).trans rfl; have hfz4_0 := blk_frozen BK122.out 0) | ((with_reducible refine gate_callee (f := 73) rfl ?_); refine goesL_ (some 4) rfl rfl Try.func73 (by kernel_rfl) rfl #[.agg #[.slice A0_0 l0_0.length c0_0]] rfl (by (try simp only [List.map_toArray, List.map_cons, List.map_nil]); first | done | rfl | (simp only [List.length_drop, List.length_take]; rfl)) ?_; (with_reducible refine (spec_l16Ok.calls k _ _ l0_0 t123 _ ?side1 ?side2 A2.out).mono ?_); (case side1 => repeat (first | exact (Kd.C_below HR0_0.out HB.out) | (with_reducible refine Kd.C_alloc ?_ _) | (with_reducible refine Kd.C_drewN ?_ _) | (with_reducible refine Kd.C_drew ?_))); (case side2 => exact HC0_0.out); rintro e w5 ⟨rfl, hb⟩; refine ⟨_, rfl, ?_⟩; have n0_ := Aside0.mk (blk_below (g := gb122) (o := .cells #[.slice A0_0 l0_0.length c0_0] 42 (0, 0)) (by (with_reducible repeat (first | refine blk_drewN ?_ _ | refine blk_drew ?_ | refine blk_alloc ?_ _)); exact BK122.out) hb); have n1_ := Aside0.mk (below_step (by repeat (first | (with_reducible first | exact HB.out | apply below_alloc | apply pw_below_drewN | apply below_drew1 | refine below_set ?_ GE122.out) | exact HB.out)) hb); clear BK122; clear HB; have BK122 := n0_; have HB := n1_; clear n0_ n1_; (try clear hb); (try clear hb2); (try clear hk); (try clear hi)))
  go_ret
  exact ⟨by first | rfl | (simp [errW_none, errW_some] <;> rfl) | (simp [*, errW_none, errW_some] <;> rfl), by repeat (first | (with_reducible first | exact HB.out | apply below_alloc | apply pw_below_drewN | apply below_drew1 | refine below_set ?_ GE122.out) | exact HB.out)⟩

end Go.Proofs.Ytngjbdijimapnab.PFnExactValidHeap
