/- Each Go function here comes to what the plain function of its name says, where that says something. Made by a program of this session, over the print. -/
import Derived.Test.YtobdoafjlbifpaaPFnExactFormedSelectionx0
import Derived.Test.YtobdoafjlbifpaaPFnExactFormedSelectionx3
namespace Go.Proofs.Ytobdoafjlbifpaa.PFnExactFormedSelection
open Go.RowKit Go.Proofs.YtobdoafjlbifpaaW.PrintWords Go.Proofs.YtobdoafjlbifpaaW.PrintLast Go.Proofs.YtobdoafjlbifpaaW.PrintMore
attribute [local go_sem] max2_int min2_int max_two min_two max_three min_three max_four min_four   -- for this text's walks alone
set_option linter.unusedVariables false
set_option linter.unusedSimpArgs false

/-! ### slices_EqualFunc_slices_Equal_int64_int64: function 30 -/
def slices_EqualFunc_slices_Equal_int64_int64.l0 : Nat → List (List Int) → List (List Int) → Int → Int → Option (Bool)
 | 0, _, _, _, _ => none
 | k + 1, x1, x15, x16, x17 => if x17 < x16 then (if 0 ≤ x17 then (if x17 < (x15.length : Int) then (if x17 < (x1.length : Int) then ((slices_Equal_int64_int64.f k (rd_L1 x15 x17) (rd_L1 x1 x17)).bind fun t188 => (if t188 = true then (slices_EqualFunc_slices_Equal_int64_int64.l0 k x1 x15 x16 (wrap64 (x17 + 1))) else (some false))) else (none)) else (none)) else (none)) else (some true)
def slices_EqualFunc_slices_Equal_int64_int64.f (k : Nat) (l0 : List (List Int)) (l1 : List (List Int))  : Option (Bool) := if (l0.length : Int) = (l1.length : Int) then (slices_EqualFunc_slices_Equal_int64_int64.l0 k l1 l0 (l0.length : Int) 0) else (some false)
theorem slices_EqualFunc_slices_Equal_int64_int64.mono_l : ∀ k, (∀ y0 y1 y2 y3, LeO (slices_EqualFunc_slices_Equal_int64_int64.l0 k y0 y1 y2 y3) (slices_EqualFunc_slices_Equal_int64_int64.l0 (k + 1) y0 y1 y2 y3))
 | 0 => fun _ _ _ _ r h => by simp [slices_EqualFunc_slices_Equal_int64_int64.l0] at h
 | k + 1 => by
  have ih0 := slices_EqualFunc_slices_Equal_int64_int64.mono_l k
  ·
   intro y0 y1 y2 y3
   unfold slices_EqualFunc_slices_Equal_int64_int64.l0
   repeat' first
   | (with_reducible exact ih0 _ _ _ _)
   | (with_reducible exact slices_Equal_int64_int64.mono _ _ _)
   | (with_reducible exact LeO.refl _)
   | (with_reducible exact LeO.none _)
   | (with_reducible refine LeO.ite ?_ ?_)
   | (with_reducible refine LeO.bind ?_ (fun _ => ?_))
   | exact ih0 _ _ _ _
   | exact slices_Equal_int64_int64.mono _ _ _
   | exact LeO.none _
   | refine LeO.ite ?_ ?_
   | refine LeO.bind ?_ (fun _ => ?_)
theorem slices_EqualFunc_slices_Equal_int64_int64.mono : ∀ a0 a1 k, LeO (slices_EqualFunc_slices_Equal_int64_int64.f k a0 a1) (slices_EqualFunc_slices_Equal_int64_int64.f (k + 1) a0 a1) := by
 intro a0 a1 k
 have ih0 := slices_EqualFunc_slices_Equal_int64_int64.mono_l k
 unfold slices_EqualFunc_slices_Equal_int64_int64.f
 repeat' first
   | (with_reducible exact ih0 _ _ _ _)
   | (with_reducible exact slices_Equal_int64_int64.mono _ _ _)
   | (with_reducible exact LeO.refl _)
   | (with_reducible exact LeO.none _)
   | (with_reducible refine LeO.ite ?_ ?_)
   | (with_reducible refine LeO.bind ?_ (fun _ => ?_))
   | exact ih0 _ _ _ _
   | exact slices_Equal_int64_int64.mono _ _ _
   | exact LeO.none _
   | refine LeO.ite ?_ ?_
   | refine LeO.bind ?_ (fun _ => ?_)
set_option maxHeartbeats 8000000 in
set_option maxRecDepth 100000 in
theorem slices_EqualFunc_slices_Equal_int64_int64.calls (k : Nat) (A0 : Option Addr) (c0 : Nat) (l0 : List (List Int)) (A1 : Option Addr) (c1 : Nat) (l1 : List (List Int))  (r : Bool) (w : World) (hr0 : Kd.C (Kd.slice 2 (Kd.int .i64)) w A0 l0.length l0) (hc0 : l0.length ≤ c0) (hr1 : Kd.C (Kd.slice 2 (Kd.int .i64)) w A1 l1.length l1) (hc1 : l1.length ≤ c1) (h : slices_EqualFunc_slices_Equal_int64_int64.f k l0 l1 = some r) :
  Calls Try.prog 30 #[.slice A0 l0.length c0, .slice A1 l1.length c1, .func (.func 32) #[] #[]] w fun e w' => e = .returned (.bool r) ∧ Below w.heap.size w w' := by
 have HR0 := yD hr0
 have HC0 := yD hc0
 clear hr0 hc0
 have HR1 := yD hr1
 have HC1 := yD hc1
 clear hr1 hc1
 have HB := yD (Below.refl w.heap.size w)
 have H : (if (l0.length : Int) = (l1.length : Int) then (slices_EqualFunc_slices_Equal_int64_int64.l0 k l1 l0 (l0.length : Int) 0) else (some false)) = some r := h
 clear h
 by_cases c4 : (l0.length : Int) = (l1.length : Int)
 ·
  rw [if_pos c4] at H
  have c4b0 : ((l0.length : Int) == (l1.length : Int)) = true := beq_iff_eq.mpr c4
  have c4b1 : ((l0.length : Int) != (l1.length : Int)) = false := bne_eq_false_iff_eq.mpr c4
  have c4b2 : (l0.length == l1.length) = true := by first | simpa using c4 | (simp at c4 ⊢; omega)
  clear c4
  have H' := yD H
  clear H; go_enter Try.func30, Try.ntmps30
  go_wp2
  go_loopg [17] k (fun kq v17 w' => ∃ (x17_1 : Int), v17 = .int .i64 x17_1 ∧ Aside0 (slices_EqualFunc_slices_Equal_int64_int64.l0 kq l1 l0 (l0.length : Int) x17_1 = some r) ∧ Aside0 (kq ≤ k) ∧ Aside0 (Below w.heap.size w w'))
  case atStart => exact ⟨(0), (by first | rfl | (simp; done) | (simp [*]; done)), H', ⟨Nat.le_refl _⟩, ⟨by repeat (first | (with_reducible first | exact HB.out | apply yQ | apply yL | apply yP) | exact HB.out)⟩⟩
  case round =>
   clear H'
   try clear c1; try clear p2; try clear c4; try clear c4b0; try clear c4b1; try clear c4b2
   obtain ⟨x17_1, rfl, HA, HK1, HB⟩ := hrel
   cases gk with
   | zero => exact absurd HA.out (by simp [slices_EqualFunc_slices_Equal_int64_int64.l0])
   | succ k1 =>
    have H := HA.out; clear HA
    simp only [slices_EqualFunc_slices_Equal_int64_int64.l0] at H
    by_cases c5 : x17_1 < (l0.length : Int)
    ·
     rw [if_pos c5] at H; have c5b0 : decide (x17_1 < (l0.length : Int)) = true := zR c5; clear c5
     by_cases c6 : 0 ≤ x17_1
     ·
      rw [if_pos c6] at H; have c6b0 : decide (0 ≤ x17_1) = true := zR c6; clear c6
      by_cases c7 : x17_1 < (l0.length : Int)
      ·
       rw [if_pos c7] at H; have c7b0 : decide (x17_1 < (l0.length : Int)) = true := zR c7; clear c7
       by_cases c8 : x17_1 < (l1.length : Int)
       ·
        rw [if_pos c8] at H; have c8b0 : decide (x17_1 < (l1.length : Int)) = true := zR c8; clear c8
        obtain ⟨t188, A90, H⟩ := zW_ H
        replace H : (if t188 = true then (slices_EqualFunc_slices_Equal_int64_int64.l0 k1 l1 l0 (l0.length : Int) (wrap64 (x17_1 + 1))) else (some false)) = some r := H
        have A9 := yD A90
        clear A90
        by_cases c10 : t188 = true
        ·
         subst c10
         have H1 : (slices_EqualFunc_slices_Equal_int64_int64.l0 k1 l1 l0 (l0.length : Int) (wrap64 (x17_1 + 1))) = some r := by rw [if_pos rfl] at H; exact H
         clear H; have H := H1; clear H1
         have H' := yD H
         clear H
         have p186 : 0 ≤ (x17_1 : Int) := zP (by assumption)
         have q186 : x17_1 < (l0.length : Int) := zP (by assumption)
         obtain ⟨ad186, A186_0, c186_0, e186, hx186_0, hl186_0, hi186_0⟩ := at_L1 HR0.out x17_1 p186 q186
         cases e186
         replace hx186_0 := (HB.out.cell (zQ w _ hx186_0)).trans hx186_0
         have HR186_0 := yD hi186_0
         have HC186_0 := yD hl186_0
         clear hi186_0 hl186_0; replace p186 := eq_true p186; replace q186 := eq_true q186
         have p187 : 0 ≤ (x17_1 : Int) := zP (by assumption)
         have q187 : x17_1 < (l1.length : Int) := zP (by assumption)
         obtain ⟨ad187, A187_0, c187_0, e187, hx187_0, hl187_0, hi187_0⟩ := at_L1 HR1.out x17_1 p187 q187
         cases e187
         replace hx187_0 := (HB.out.cell (zQ w _ hx187_0)).trans hx187_0
         have HR187_0 := yD hi187_0
         have HC187_0 := yD hl187_0
         clear hi187_0 hl187_0; replace p187 := eq_true p187; replace q187 := eq_true q187
         go_wp2_with (first | (go_at_call 32; (with_reducible refine (slices_Equal_int64_int64.calls k1 _ _ (rd_L1 l0 x17_1) _ _ (rd_L1 l1 x17_1) true _ ?side1 ?side2 ?side3 ?side4 A9.out).mono ?_); (case side1 => exact yY HR186_0.out HB.out); (case side2 => exact HC186_0.out); (case side3 => exact yY HR187_0.out HB.out); (case side4 => exact HC187_0.out); rintro e w' ⟨rfl, ⟨nd, rfl⟩⟩))
         go_roundg k1
         case measure => have := HK1.out; omega
         case rel => exact ⟨(wrap64 (x17_1 + 1)), (by first | rfl | (simp; done) | (simp [*]; done)), H', ⟨by have := HK1.out; omega⟩, ⟨by repeat (first | (with_reducible first | exact HB.out | apply yQ | apply yL | apply yP) | exact HB.out)⟩⟩
        ·
         replace c10 := Bool.eq_false_iff.mpr c10
         subst c10
         have H1 : (some false) = some r := by rw [if_neg (show ¬ (false = true) by decide)] at H; exact H
         clear H; have H := H1; clear H1; obtain rfl := Option.some.inj H
         have p186 : 0 ≤ (x17_1 : Int) := zP (by assumption)
         have q186 : x17_1 < (l0.length : Int) := zP (by assumption)
         obtain ⟨ad186, A186_0, c186_0, e186, hx186_0, hl186_0, hi186_0⟩ := at_L1 HR0.out x17_1 p186 q186
         cases e186
         replace hx186_0 := (HB.out.cell (zQ w _ hx186_0)).trans hx186_0
         have HR186_0 := yD hi186_0
         have HC186_0 := yD hl186_0
         clear hi186_0 hl186_0; replace p186 := eq_true p186; replace q186 := eq_true q186
         have p187 : 0 ≤ (x17_1 : Int) := zP (by assumption)
         have q187 : x17_1 < (l1.length : Int) := zP (by assumption)
         obtain ⟨ad187, A187_0, c187_0, e187, hx187_0, hl187_0, hi187_0⟩ := at_L1 HR1.out x17_1 p187 q187
         cases e187
         replace hx187_0 := (HB.out.cell (zQ w _ hx187_0)).trans hx187_0
         have HR187_0 := yD hi187_0
         have HC187_0 := yD hl187_0
         clear hi187_0 hl187_0; replace p187 := eq_true p187; replace q187 := eq_true q187
         go_wp2_with (first | (go_at_call 32; (with_reducible refine (slices_Equal_int64_int64.calls k1 _ _ (rd_L1 l0 x17_1) _ _ (rd_L1 l1 x17_1) false _ ?side1 ?side2 ?side3 ?side4 A9.out).mono ?_); (case side1 => exact yY HR186_0.out HB.out); (case side2 => exact HC186_0.out); (case side3 => exact yY HR187_0.out HB.out); (case side4 => exact HC187_0.out); rintro e w' ⟨rfl, ⟨nd, rfl⟩⟩))
         go_ret
         exact ⟨by first | rfl | (simp <;> rfl) | (simp [*] <;> rfl), by repeat (first | (with_reducible first | exact HB.out | apply yQ | apply yL | apply yP) | exact HB.out)⟩
       ·
        rw [if_neg c8] at H
        exact absurd H (by simp)
      ·
       rw [if_neg c7] at H
       exact absurd H (by simp)
     ·
      rw [if_neg c6] at H
      exact absurd H (by simp)
    ·
     rw [if_neg c5] at H; have c5b0 : decide (x17_1 < (l0.length : Int)) = false := zS c5; clear c5; obtain rfl := Option.some.inj H
     go_wp2
     go_ret
     exact ⟨by first | rfl | (simp <;> rfl) | (simp [*] <;> rfl), by repeat (first | (with_reducible first | exact HB.out | apply yQ | apply yL | apply yP) | exact HB.out)⟩
 ·
  rw [if_neg c4] at H
  have c4b0 : ((l0.length : Int) == (l1.length : Int)) = false := beq_eq_false_iff_ne.mpr c4
  have c4b1 : ((l0.length : Int) != (l1.length : Int)) = true := bne_iff_ne.mpr c4
  have c4b2 : (l0.length == l1.length) = false := by first | simpa using c4 | (simp at c4 ⊢; omega)
  obtain rfl := Option.some.inj H; go_enter Try.func30, Try.ntmps30
  go_wp2
  go_ret
  exact ⟨by first | rfl | (simp <;> rfl) | (simp [*] <;> rfl), by repeat (first | (with_reducible first | exact HB.out | apply yQ | apply yL | apply yP) | exact HB.out)⟩

/-! ### impl_samePoint: function 34 -/
def impl_samePoint.f (k : Nat) (l0_0 : List Int) (l1_0 : List Int) : Option (Bool) := (slices_Equal_int64_int64.f k l0_0 l1_0).bind fun t191 => (some t191)
theorem impl_samePoint.mono : ∀ a0 a1 k, LeO (impl_samePoint.f k a0 a1) (impl_samePoint.f (k + 1) a0 a1) := by
 intro a0 a1 k
 unfold impl_samePoint.f
 repeat' first
   | (with_reducible exact slices_Equal_int64_int64.mono _ _ _)
   | (with_reducible exact LeO.refl _)
   | (with_reducible exact LeO.none _)
   | (with_reducible refine LeO.ite ?_ ?_)
   | (with_reducible refine LeO.bind ?_ (fun _ => ?_))
   | exact slices_Equal_int64_int64.mono _ _ _
   | exact LeO.none _
   | refine LeO.ite ?_ ?_
   | refine LeO.bind ?_ (fun _ => ?_)
set_option maxHeartbeats 8000000 in
set_option maxRecDepth 100000 in
theorem impl_samePoint.calls (k : Nat) (A0_0 : Option Addr) (c0_0 : Nat) (l0_0 : List Int) (A1_0 : Option Addr) (c1_0 : Nat) (l1_0 : List Int) (r : Bool) (w : World) (hr0_0 : Kd.C (Kd.int .i64) w A0_0 l0_0.length l0_0) (hc0_0 : l0_0.length ≤ c0_0) (hr1_0 : Kd.C (Kd.int .i64) w A1_0 l1_0.length l1_0) (hc1_0 : l1_0.length ≤ c1_0) (h : impl_samePoint.f k l0_0 l1_0 = some r) :
  Calls Try.prog 34 #[.agg #[.slice A0_0 l0_0.length c0_0], .agg #[.slice A1_0 l1_0.length c1_0]] w fun e w' => e = .returned (.bool r) ∧ Below w.heap.size w w' := by
 have hu48 := Try.underlying48
 have HR0_0 := yD hr0_0
 have HC0_0 := yD hc0_0
 clear hr0_0 hc0_0
 have HR1_0 := yD hr1_0
 have HC1_0 := yD hc1_0
 clear hr1_0 hc1_0
 have HB := yD (Below.refl w.heap.size w)
 have H : ((slices_Equal_int64_int64.f k l0_0 l1_0).bind fun t191 => (some t191)) = some r := h
 clear h
 obtain ⟨t191, A30, H⟩ := zW_ H
 replace H : (some t191) = some r := H
 have A3 := yD A30
 clear A30; obtain rfl := Option.some.inj H; go_enter Try.func34, Try.ntmps34
 go_wp2_with (first | ((with_reducible refine gate_dst (N := 2) rfl ?_); refine box_event ?hg (N := 2) ?hd (cs := #[.slice A0_0 l0_0.length c0_0]) (t := 48) ?hr ?_; (case hd => rfl); (case hg => rfl); (case hr => first | (go_simp; done) | (go_simp; rfl)); intro gb189 hg w4 hbox hb; have n0_ := yD (zC (by exact HB.out) hb); have n1_ := yD (hbox); have n2_ := yD ((by rw [hg]; exact (below_size (by exact HB.out)) : w.heap.size ≤ gb189)); have n3_ := yD ((by rw [hg]; exact (below_size (by exact HB.out)) : w.heap.size ≤ gb189)); clear HB; have HB := n0_; have BK189 := n1_; have GW189 := n2_; have GE189 := n3_; clear n0_ n1_ n2_ n3_; clear hb hbox hg) | ((with_reducible refine gate_dst (N := 3) rfl ?_); refine box_event ?hg (N := 3) ?hd (cs := #[.slice A1_0 l1_0.length c1_0]) (t := 48) ?hr ?_; (case hd => rfl); (case hg => rfl); (case hr => first | (go_simp; done) | (go_simp; rfl)); intro gb190 hg w5 hbox hb; have n0_ := yD (zB (g := gb189) (o := .cells #[.slice A0_0 l0_0.length c0_0] 48 (0, 0)) (by exact BK189.out) hb); have n1_ := yD (zC (by exact HB.out) hb); have n2_ := yD (hbox); have n3_ := yD ((by rw [hg]; exact (below_size (by exact HB.out)) : w.heap.size ≤ gb190)); have n4_ := yD ((by rw [hg]; exact (below_size (by exact HB.out)) : w.heap.size ≤ gb190)); have n5_ := yD ((by rw [hg]; exact Nat.ne_of_lt (blk_lt (g := gb189) (o := .cells #[.slice A0_0 l0_0.length c0_0] 48 (0, 0)) (by exact BK189.out)) : gb189 ≠ gb190)); have n6_ := yD ((by rw [hg]; exact Nat.ne_of_gt (blk_lt (g := gb189) (o := .cells #[.slice A0_0 l0_0.length c0_0] 48 (0, 0)) (by exact BK189.out)) : gb190 ≠ gb189)); clear BK189; clear HB; have BK189 := n0_; have HB := n1_; have BK190 := n2_; have GW190 := n3_; have GE190 := n4_; have NB189_190 := n5_; have NB190_189 := n6_; clear n0_ n1_ n2_ n3_ n4_ n5_ n6_; clear hb hbox hg; have hnb6 := NB189_190.out; have hnc6 := NB190_189.out; have hcz7_0 : w5.cell? ⟨gb189, 0, none⟩ = some (.slice A0_0 l0_0.length c0_0) := (yG BK189.out 0).trans rfl; have hfz7_0 := yR BK189.out 0; have hcz8_0 : w5.cell? ⟨gb190, 0, none⟩ = some (.slice A1_0 l1_0.length c1_0) := (yG BK190.out 0).trans rfl; have hfz8_0 := yR BK190.out 0) | ((with_reducible refine gate_callee (f := 32) rfl ?_); refine goesL_ (some 9) rfl rfl Try.func32 (by kernel_rfl) rfl #[.slice A0_0 l0_0.length c0_0, .slice A1_0 l1_0.length c1_0] rfl (by (try simp only [zK, zL, zM]); first | done | rfl | (simp only [zN, zO]; rfl)) ?_; (with_reducible refine (slices_Equal_int64_int64.calls k _ _ l0_0 _ _ l1_0 t191 _ ?side1 ?side2 ?side3 ?side4 A3.out).mono ?_); (case side1 => exact yY HR0_0.out HB.out); (case side2 => exact HC0_0.out); (case side3 => exact yY HR1_0.out HB.out); (case side4 => exact HC1_0.out); rintro e w' ⟨rfl, ⟨nd, rfl⟩⟩; refine ⟨_, rfl, ?_⟩))
 go_ret
 exact ⟨by first | rfl | (simp <;> rfl) | (simp [*] <;> rfl), by repeat (first | (with_reducible first | exact HB.out | apply yQ | apply yL | apply yP | refine yE ?_ GE189.out | refine yE ?_ GE190.out) | exact HB.out)⟩

/-! ### slices_EqualFunc_impl_samePoint: function 33 -/
def slices_EqualFunc_impl_samePoint.l0 : Nat → List (S48) → List (S48) → Int → Int → Option (Bool)
 | 0, _, _, _, _ => none
 | k + 1, x1, x15, x16, x17 => if x17 < x16 then (if 0 ≤ x17 then (if x17 < (x15.length : Int) then (if x17 < (x1.length : Int) then ((impl_samePoint.f k ((rd_T48 x15 x17).f0) ((rd_T48 x1 x17).f0)).bind fun t196 => (if t196 = true then (slices_EqualFunc_impl_samePoint.l0 k x1 x15 x16 (wrap64 (x17 + 1))) else (some false))) else (none)) else (none)) else (none)) else (some true)
def slices_EqualFunc_impl_samePoint.f (k : Nat) (l0 : List (S48)) (l1 : List (S48))  : Option (Bool) := if (l0.length : Int) = (l1.length : Int) then (slices_EqualFunc_impl_samePoint.l0 k l1 l0 (l0.length : Int) 0) else (some false)
theorem slices_EqualFunc_impl_samePoint.mono_l : ∀ k, (∀ y0 y1 y2 y3, LeO (slices_EqualFunc_impl_samePoint.l0 k y0 y1 y2 y3) (slices_EqualFunc_impl_samePoint.l0 (k + 1) y0 y1 y2 y3))
 | 0 => fun _ _ _ _ r h => by simp [slices_EqualFunc_impl_samePoint.l0] at h
 | k + 1 => by
  have ih0 := slices_EqualFunc_impl_samePoint.mono_l k
  ·
   intro y0 y1 y2 y3
   unfold slices_EqualFunc_impl_samePoint.l0
   repeat' first
   | (with_reducible exact ih0 _ _ _ _)
   | (with_reducible exact impl_samePoint.mono _ _ _)
   | (with_reducible exact LeO.refl _)
   | (with_reducible exact LeO.none _)
   | (with_reducible refine LeO.ite ?_ ?_)
   | (with_reducible refine LeO.bind ?_ (fun _ => ?_))
   | exact ih0 _ _ _ _
   | exact impl_samePoint.mono _ _ _
   | exact LeO.none _
   | refine LeO.ite ?_ ?_
   | refine LeO.bind ?_ (fun _ => ?_)
theorem slices_EqualFunc_impl_samePoint.mono : ∀ a0 a1 k, LeO (slices_EqualFunc_impl_samePoint.f k a0 a1) (slices_EqualFunc_impl_samePoint.f (k + 1) a0 a1) := by
 intro a0 a1 k
 have ih0 := slices_EqualFunc_impl_samePoint.mono_l k
 unfold slices_EqualFunc_impl_samePoint.f
 repeat' first
   | (with_reducible exact ih0 _ _ _ _)
   | (with_reducible exact impl_samePoint.mono _ _ _)
   | (with_reducible exact LeO.refl _)
   | (with_reducible exact LeO.none _)
   | (with_reducible refine LeO.ite ?_ ?_)
   | (with_reducible refine LeO.bind ?_ (fun _ => ?_))
   | exact ih0 _ _ _ _
   | exact impl_samePoint.mono _ _ _
   | exact LeO.none _
   | refine LeO.ite ?_ ?_
   | refine LeO.bind ?_ (fun _ => ?_)
set_option maxHeartbeats 8000000 in
set_option maxRecDepth 100000 in
theorem slices_EqualFunc_impl_samePoint.calls (k : Nat) (A0 : Option Addr) (c0 : Nat) (l0 : List (S48)) (A1 : Option Addr) (c1 : Nat) (l1 : List (S48))  (r : Bool) (w : World) (hr0 : Kd.C k48 w A0 l0.length l0) (hc0 : l0.length ≤ c0) (hr1 : Kd.C k48 w A1 l1.length l1) (hc1 : l1.length ≤ c1) (h : slices_EqualFunc_impl_samePoint.f k l0 l1 = some r) :
  Calls Try.prog 33 #[.slice A0 l0.length c0, .slice A1 l1.length c1, .func (.func 34) #[] #[]] w fun e w' => e = .returned (.bool r) ∧ Below w.heap.size w w' := by
 have hu48 := Try.underlying48
 have HR0 := yD hr0
 have HC0 := yD hc0
 clear hr0 hc0
 have HR1 := yD hr1
 have HC1 := yD hc1
 clear hr1 hc1
 have HB := yD (Below.refl w.heap.size w)
 have H : (if (l0.length : Int) = (l1.length : Int) then (slices_EqualFunc_impl_samePoint.l0 k l1 l0 (l0.length : Int) 0) else (some false)) = some r := h
 clear h
 by_cases c4 : (l0.length : Int) = (l1.length : Int)
 ·
  rw [if_pos c4] at H
  have c4b0 : ((l0.length : Int) == (l1.length : Int)) = true := beq_iff_eq.mpr c4
  have c4b1 : ((l0.length : Int) != (l1.length : Int)) = false := bne_eq_false_iff_eq.mpr c4
  have c4b2 : (l0.length == l1.length) = true := by first | simpa using c4 | (simp at c4 ⊢; omega)
  clear c4
  have H' := yD H
  clear H; go_enter Try.func33, Try.ntmps33
  go_wp2
  go_loopg [17] k (fun kq v17 w' => ∃ (x17_1 : Int), v17 = .int .i64 x17_1 ∧ Aside0 (slices_EqualFunc_impl_samePoint.l0 kq l1 l0 (l0.length : Int) x17_1 = some r) ∧ Aside0 (kq ≤ k) ∧ Aside0 (Below w.heap.size w w'))
  case atStart => exact ⟨(0), (by first | rfl | (simp; done) | (simp [*]; done)), H', ⟨Nat.le_refl _⟩, ⟨by repeat (first | (with_reducible first | exact HB.out | apply yQ | apply yL | apply yP) | exact HB.out)⟩⟩
  case round =>
   clear H'
   try clear c1; try clear p2; try clear c4; try clear c4b0; try clear c4b1; try clear c4b2
   obtain ⟨x17_1, rfl, HA, HK1, HB⟩ := hrel
   cases gk with
   | zero => exact absurd HA.out (by simp [slices_EqualFunc_impl_samePoint.l0])
   | succ k1 =>
    have H := HA.out; clear HA
    simp only [slices_EqualFunc_impl_samePoint.l0] at H
    by_cases c5 : x17_1 < (l0.length : Int)
    ·
     rw [if_pos c5] at H; have c5b0 : decide (x17_1 < (l0.length : Int)) = true := zR c5; clear c5
     by_cases c6 : 0 ≤ x17_1
     ·
      rw [if_pos c6] at H; have c6b0 : decide (0 ≤ x17_1) = true := zR c6; clear c6
      by_cases c7 : x17_1 < (l0.length : Int)
      ·
       rw [if_pos c7] at H; have c7b0 : decide (x17_1 < (l0.length : Int)) = true := zR c7; clear c7
       by_cases c8 : x17_1 < (l1.length : Int)
       ·
        rw [if_pos c8] at H; have c8b0 : decide (x17_1 < (l1.length : Int)) = true := zR c8; clear c8
        obtain ⟨t196, A90, H⟩ := zW_ H
        replace H : (if t196 = true then (slices_EqualFunc_impl_samePoint.l0 k1 l1 l0 (l0.length : Int) (wrap64 (x17_1 + 1))) else (some false)) = some r := H
        have A9 := yD A90
        clear A90
        by_cases c10 : t196 = true
        ·
         subst c10
         have H1 : (slices_EqualFunc_impl_samePoint.l0 k1 l1 l0 (l0.length : Int) (wrap64 (x17_1 + 1))) = some r := by rw [if_pos rfl] at H; exact H
         clear H; have H := H1; clear H1
         have H' := yD H
         clear H
         have p192 : 0 ≤ (x17_1 : Int) := zP (by assumption)
         have q192 : x17_1 < (l0.length : Int) := zP (by assumption)
         obtain ⟨ad192, A192_0, c192_0, e192, hx192_0, hl192_0, hi192_0⟩ := at_T48 HR0.out x17_1 p192 q192
         cases e192
         replace hx192_0 := (HB.out.cell (zQ w _ hx192_0)).trans hx192_0
         have HR192_0 := yD hi192_0
         have HC192_0 := yD hl192_0
         clear hi192_0 hl192_0; replace p192 := eq_true p192; replace q192 := eq_true q192
         go_wp2_with (first | ((with_reducible refine gate_dst (N := 8) rfl ?_); refine box_event ?hg (N := 8) ?hd (cs := #[.slice none 0 0]) (t := 48) ?hr ?_; (case hd => rfl); (case hg => rfl); (case hr => first | (go_simp; done) | (go_simp; rfl)); intro gb193 hg w11 hbox hb; have n0_ := yD (zC (by exact HB.out) hb); have n1_ := yD (hbox); have n2_ := yD ((by rw [hg]; exact (below_size (by exact HB.out)) : w.heap.size ≤ gb193)); have n3_ := yD ((by rw [hg]; exact (below_size (by exact HB.out)) : w.heap.size ≤ gb193)); clear HB; have HB := n0_; have BK193 := n1_; have GW193 := n2_; have GE193 := n3_; clear n0_ n1_ n2_ n3_; clear hb hbox hg; have hcz12_0 : w11.cell? ⟨gb193, 0, none⟩ = some (.slice none 0 0) := (yG BK193.out 0).trans rfl; have hfz12_0 := yR BK193.out 0; have p194 : 0 ≤ (x17_1 : Int) := zP (by assumption); have q194 : x17_1 < (l1.length : Int) := zP (by assumption); obtain ⟨ad194, A194_0, c194_0, e194, hx194_0, hl194_0, hi194_0⟩ := at_T48 HR1.out x17_1 p194 q194; cases e194; have hn194_0 : ad194.block ≠ gb193 := Nat.ne_of_lt (Nat.lt_of_lt_of_le (by have := zQ _ _ hx194_0; first | rwa [add_block] at this | exact this) GW193.out); replace hx194_0 := (HB.out.cell (zQ w _ hx194_0)).trans hx194_0; have HR194_0 := yD hi194_0; have HC194_0 := yD hl194_0; clear hi194_0 hl194_0; replace hx194_0 := (cell_far (p := ⟨gb193, 0, none⟩) (by first | (rw [add_block]; exact hn194_0) | (show (Addr.add _ _).block ≠ _; rw [add_block]; exact hn194_0) | exact hn194_0) (.slice A192_0 ((rd_T48 l0 x17_1).f0).length c192_0)).trans hx194_0; clear hn194_0; replace p194 := eq_true p194; replace q194 := eq_true q194) | ((with_reducible refine gate_dst (N := 9) rfl ?_); refine box_event ?hg (N := 9) ?hd (cs := #[.slice none 0 0]) (t := 48) ?hr ?_; (case hd => rfl); (case hg => rfl); (case hr => first | (go_simp; done) | (go_simp; rfl)); intro gb195 hg w13 hbox hb; have n0_ := yD (zB (g := gb193) (o := .cells #[.slice A192_0 ((rd_T48 l0 x17_1).f0).length c192_0] 48 (0, 0)) (by (with_reducible repeat (first | refine yM ?_ _ | refine yO ?_ | refine yN ?_ _)); refine blk_put (cs := #[.slice none 0 0]) ?_ 0 _ rfl; (with_reducible repeat (first | refine yM ?_ _ | refine yO ?_ | refine yN ?_ _)); exact BK193.out) hb); have n1_ := yD (zC (by refine yE ?_ GE193.out; exact HB.out) hb); have n2_ := yD (hbox); have n3_ := yD ((by rw [hg]; exact (below_size (by refine yE ?_ GE193.out; exact HB.out)) : w.heap.size ≤ gb195)); have n4_ := yD ((by rw [hg]; exact (below_size (by refine yE ?_ GE193.out; exact HB.out)) : w.heap.size ≤ gb195)); have n5_ := yD ((by rw [hg]; exact Nat.ne_of_lt (blk_lt (g := gb193) (o := .cells #[.slice A192_0 ((rd_T48 l0 x17_1).f0).length c192_0] 48 (0, 0)) (by (with_reducible repeat (first | refine yM ?_ _ | refine yO ?_ | refine yN ?_ _)); refine blk_put (cs := #[.slice none 0 0]) ?_ 0 _ rfl; (with_reducible repeat (first | refine yM ?_ _ | refine yO ?_ | refine yN ?_ _)); exact BK193.out)) : gb193 ≠ gb195)); have n6_ := yD ((by rw [hg]; exact Nat.ne_of_gt (blk_lt (g := gb193) (o := .cells #[.slice A192_0 ((rd_T48 l0 x17_1).f0).length c192_0] 48 (0, 0)) (by (with_reducible repeat (first | refine yM ?_ _ | refine yO ?_ | refine yN ?_ _)); refine blk_put (cs := #[.slice none 0 0]) ?_ 0 _ rfl; (with_reducible repeat (first | refine yM ?_ _ | refine yO ?_ | refine yN ?_ _)); exact BK193.out)) : gb195 ≠ gb193)); clear BK193; clear HB; have BK193 := n0_; have HB := n1_; have BK195 := n2_; have GW195 := n3_; have GE195 := n4_; have NB193_195 := n5_; have NB195_193 := n6_; clear n0_ n1_ n2_ n3_ n4_ n5_ n6_; clear hb hbox hg; have hnb14 := NB195_193.out; have hnc14 := NB193_195.out; have hcz15_0 : w13.cell? ⟨gb195, 0, none⟩ = some (.slice none 0 0) := (yG BK195.out 0).trans rfl; have hfz15_0 := yR BK195.out 0; have hcz16_0 : w13.cell? ⟨gb193, 0, none⟩ = some (.slice A192_0 ((rd_T48 l0 x17_1).f0).length c192_0) := (yG BK193.out 0).trans rfl; have hfz16_0 := yR BK193.out 0) | (go_at_call 34; (with_reducible refine (impl_samePoint.calls k1 _ _ ((rd_T48 l0 x17_1).f0) _ _ ((rd_T48 l1 x17_1).f0) true _ ?side1 ?side2 ?side3 ?side4 A9.out).mono ?_); (case side1 => exact yY HR192_0.out (by refine yE ?_ GE195.out; exact HB.out)); (case side2 => exact HC192_0.out); (case side3 => exact yY HR194_0.out (by refine yE ?_ GE195.out; exact HB.out)); (case side4 => exact HC194_0.out); rintro e w17 ⟨rfl, hb⟩; have n0_ := yD (zB (g := gb193) (o := .cells #[.slice A192_0 ((rd_T48 l0 x17_1).f0).length c192_0] 48 (0, 0)) (by (with_reducible repeat (first | refine yM ?_ _ | refine yO ?_ | refine yN ?_ _)); refine blk_far ?_ NB193_195.out _; (with_reducible repeat (first | refine yM ?_ _ | refine yO ?_ | refine yN ?_ _)); exact BK193.out) hb); have n1_ := yD (zB (g := gb195) (o := .cells #[.slice A194_0 ((rd_T48 l1 x17_1).f0).length c194_0] 48 (0, 0)) (by (with_reducible repeat (first | refine yM ?_ _ | refine yO ?_ | refine yN ?_ _)); refine blk_put (cs := #[.slice none 0 0]) ?_ 0 _ rfl; (with_reducible repeat (first | refine yM ?_ _ | refine yO ?_ | refine yN ?_ _)); exact BK195.out) hb); have n2_ := yD (zC (by refine yE ?_ GE195.out; exact HB.out) hb); clear BK193; clear BK195; clear HB; have BK193 := n0_; have BK195 := n1_; have HB := n2_; clear n0_ n1_ n2_; (try clear hb); (try clear hb2); (try clear hk); (try clear hi)))
         go_roundg k1
         case measure => have := HK1.out; omega
         case rel => exact ⟨(wrap64 (x17_1 + 1)), (by first | rfl | (simp; done) | (simp [*]; done)), H', ⟨by have := HK1.out; omega⟩, ⟨by repeat (first | (with_reducible first | exact HB.out | apply yQ | apply yL | apply yP | refine yE ?_ GE193.out | refine yE ?_ GE195.out) | exact HB.out)⟩⟩
        ·
         replace c10 := Bool.eq_false_iff.mpr c10
         subst c10
         have H1 : (some false) = some r := by rw [if_neg (show ¬ (false = true) by decide)] at H; exact H
         clear H; have H := H1; clear H1; obtain rfl := Option.some.inj H
         have p192 : 0 ≤ (x17_1 : Int) := zP (by assumption)
         have q192 : x17_1 < (l0.length : Int) := zP (by assumption)
         obtain ⟨ad192, A192_0, c192_0, e192, hx192_0, hl192_0, hi192_0⟩ := at_T48 HR0.out x17_1 p192 q192
         cases e192
         replace hx192_0 := (HB.out.cell (zQ w _ hx192_0)).trans hx192_0
         have HR192_0 := yD hi192_0
         have HC192_0 := yD hl192_0
         clear hi192_0 hl192_0; replace p192 := eq_true p192; replace q192 := eq_true q192
         go_wp2_with (first | ((with_reducible refine gate_dst (N := 8) rfl ?_); refine box_event ?hg (N := 8) ?hd (cs := #[.slice none 0 0]) (t := 48) ?hr ?_; (case hd => rfl); (case hg => rfl); (case hr => first | (go_simp; done) | (go_simp; rfl)); intro gb193 hg w18 hbox hb; have n0_ := yD (zC (by exact HB.out) hb); have n1_ := yD (hbox); have n2_ := yD ((by rw [hg]; exact (below_size (by exact HB.out)) : w.heap.size ≤ gb193)); have n3_ := yD ((by rw [hg]; exact (below_size (by exact HB.out)) : w.heap.size ≤ gb193)); clear HB; have HB := n0_; have BK193 := n1_; have GW193 := n2_; have GE193 := n3_; clear n0_ n1_ n2_ n3_; clear hb hbox hg; have hcz19_0 : w18.cell? ⟨gb193, 0, none⟩ = some (.slice none 0 0) := (yG BK193.out 0).trans rfl; have hfz19_0 := yR BK193.out 0; have p194 : 0 ≤ (x17_1 : Int) := zP (by assumption); have q194 : x17_1 < (l1.length : Int) := zP (by assumption); obtain ⟨ad194, A194_0, c194_0, e194, hx194_0, hl194_0, hi194_0⟩ := at_T48 HR1.out x17_1 p194 q194; cases e194; have hn194_0 : ad194.block ≠ gb193 := Nat.ne_of_lt (Nat.lt_of_lt_of_le (by have := zQ _ _ hx194_0; first | rwa [add_block] at this | exact this) GW193.out); replace hx194_0 := (HB.out.cell (zQ w _ hx194_0)).trans hx194_0; have HR194_0 := yD hi194_0; have HC194_0 := yD hl194_0; clear hi194_0 hl194_0; replace hx194_0 := (cell_far (p := ⟨gb193, 0, none⟩) (by first | (rw [add_block]; exact hn194_0) | (show (Addr.add _ _).block ≠ _; rw [add_block]; exact hn194_0) | exact hn194_0) (.slice A192_0 ((rd_T48 l0 x17_1).f0).length c192_0)).trans hx194_0; clear hn194_0; replace p194 := eq_true p194; replace q194 := eq_true q194) | ((with_reducible refine gate_dst (N := 9) rfl ?_); refine box_event ?hg (N := 9) ?hd (cs := #[.slice none 0 0]) (t := 48) ?hr ?_; (case hd => rfl); (case hg => rfl); (case hr => first | (go_simp; done) | (go_simp; rfl)); intro gb195 hg w20 hbox hb; have n0_ := yD (zB (g := gb193) (o := .cells #[.slice A192_0 ((rd_T48 l0 x17_1).f0).length c192_0] 48 (0, 0)) (by (with_reducible repeat (first | refine yM ?_ _ | refine yO ?_ | refine yN ?_ _)); refine blk_put (cs := #[.slice none 0 0]) ?_ 0 _ rfl; (with_reducible repeat (first | refine yM ?_ _ | refine yO ?_ | refine yN ?_ _)); exact BK193.out) hb); have n1_ := yD (zC (by refine yE ?_ GE193.out; exact HB.out) hb); have n2_ := yD (hbox); have n3_ := yD ((by rw [hg]; exact (below_size (by refine yE ?_ GE193.out; exact HB.out)) : w.heap.size ≤ gb195)); have n4_ := yD ((by rw [hg]; exact (below_size (by refine yE ?_ GE193.out; exact HB.out)) : w.heap.size ≤ gb195)); have n5_ := yD ((by rw [hg]; exact Nat.ne_of_lt (blk_lt (g := gb193) (o := .cells #[.slice A192_0 ((rd_T48 l0 x17_1).f0).length c192_0] 48 (0, 0)) (by (with_reducible repeat (first | refine yM ?_ _ | refine yO ?_ | refine yN ?_ _)); refine blk_put (cs := #[.slice none 0 0]) ?_ 0 _ rfl; (with_reducible repeat (first | refine yM ?_ _ | refine yO ?_ | refine yN ?_ _)); exact BK193.out)) : gb193 ≠ gb195)); have n6_ := yD ((by rw [hg]; exact Nat.ne_of_gt (blk_lt (g := gb193) (o := .cells #[.slice A192_0 ((rd_T48 l0 x17_1).f0).length c192_0] 48 (0, 0)) (by (with_reducible repeat (first | refine yM ?_ _ | refine yO ?_ | refine yN ?_ _)); refine blk_put (cs := #[.slice none 0 0]) ?_ 0 _ rfl; (with_reducible repeat (first | refine yM ?_ _ | refine yO ?_ | refine yN ?_ _)); exact BK193.out)) : gb195 ≠ gb193)); clear BK193; clear HB; have BK193 := n0_; have HB := n1_; have BK195 := n2_; have GW195 := n3_; have GE195 := n4_; have NB193_195 := n5_; have NB195_193 := n6_; clear n0_ n1_ n2_ n3_ n4_ n5_ n6_; clear hb hbox hg; have hnb21 := NB195_193.out; have hnc21 := NB193_195.out; have hcz22_0 : w20.cell? ⟨gb195, 0, none⟩ = some (.slice none 0 0) := (yG BK195.out 0).trans rfl; have hfz22_0 := yR BK195.out 0; have hcz23_0 : w20.cell? ⟨gb193, 0, none⟩ = some (.slice A192_0 ((rd_T48 l0 x17_1).f0).length c192_0) := (yG BK193.out 0).trans rfl; have hfz23_0 := yR BK193.out 0) | (go_at_call 34; (with_reducible refine (impl_samePoint.calls k1 _ _ ((rd_T48 l0 x17_1).f0) _ _ ((rd_T48 l1 x17_1).f0) false _ ?side1 ?side2 ?side3 ?side4 A9.out).mono ?_); (case side1 => exact yY HR192_0.out (by refine yE ?_ GE195.out; exact HB.out)); (case side2 => exact HC192_0.out); (case side3 => exact yY HR194_0.out (by refine yE ?_ GE195.out; exact HB.out)); (case side4 => exact HC194_0.out); rintro e w24 ⟨rfl, hb⟩; have n0_ := yD (zB (g := gb193) (o := .cells #[.slice A192_0 ((rd_T48 l0 x17_1).f0).length c192_0] 48 (0, 0)) (by (with_reducible repeat (first | refine yM ?_ _ | refine yO ?_ | refine yN ?_ _)); refine blk_far ?_ NB193_195.out _; (with_reducible repeat (first | refine yM ?_ _ | refine yO ?_ | refine yN ?_ _)); exact BK193.out) hb); have n1_ := yD (zB (g := gb195) (o := .cells #[.slice A194_0 ((rd_T48 l1 x17_1).f0).length c194_0] 48 (0, 0)) (by (with_reducible repeat (first | refine yM ?_ _ | refine yO ?_ | refine yN ?_ _)); refine blk_put (cs := #[.slice none 0 0]) ?_ 0 _ rfl; (with_reducible repeat (first | refine yM ?_ _ | refine yO ?_ | refine yN ?_ _)); exact BK195.out) hb); have n2_ := yD (zC (by refine yE ?_ GE195.out; exact HB.out) hb); clear BK193; clear BK195; clear HB; have BK193 := n0_; have BK195 := n1_; have HB := n2_; clear n0_ n1_ n2_; (try clear hb); (try clear hb2); (try clear hk); (try clear hi)))
         go_ret
         exact ⟨by first | rfl | (simp <;> rfl) | (simp [*] <;> rfl), by repeat (first | (with_reducible first | exact HB.out | apply yQ | apply yL | apply yP | refine yE ?_ GE193.out | refine yE ?_ GE195.out) | exact HB.out)⟩
       ·
        rw [if_neg c8] at H
        exact absurd H (by simp)
      ·
       rw [if_neg c7] at H
       exact absurd H (by simp)
     ·
      rw [if_neg c6] at H
      exact absurd H (by simp)
    ·
     rw [if_neg c5] at H; have c5b0 : decide (x17_1 < (l0.length : Int)) = false := zS c5; clear c5; obtain rfl := Option.some.inj H
     go_wp2
     go_ret
     exact ⟨by first | rfl | (simp <;> rfl) | (simp [*] <;> rfl), by repeat (first | (with_reducible first | exact HB.out | apply yQ | apply yL | apply yP) | exact HB.out)⟩
 ·
  rw [if_neg c4] at H
  have c4b0 : ((l0.length : Int) == (l1.length : Int)) = false := beq_eq_false_iff_ne.mpr c4
  have c4b1 : ((l0.length : Int) != (l1.length : Int)) = true := bne_iff_ne.mpr c4
  have c4b2 : (l0.length == l1.length) = false := by first | simpa using c4 | (simp at c4 ⊢; omega)
  obtain rfl := Option.some.inj H; go_enter Try.func33, Try.ntmps33
  go_wp2
  go_ret
  exact ⟨by first | rfl | (simp <;> rfl) | (simp [*] <;> rfl), by repeat (first | (with_reducible first | exact HB.out | apply yQ | apply yL | apply yP) | exact HB.out)⟩

end Go.Proofs.Ytobdoafjlbifpaa.PFnExactFormedSelection
