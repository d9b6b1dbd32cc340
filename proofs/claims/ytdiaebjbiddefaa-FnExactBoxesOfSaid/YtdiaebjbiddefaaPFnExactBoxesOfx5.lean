/- Each function here comes to its plain form. It holds without a condition. -/
import Derived.Test.YtdiaebjbiddefaaPFnExactBoxesOfx0
import Derived.Test.YtdiaebjbiddefaaPFnExactBoxesOfx3
import Derived.Test.YtdiaebjbiddefaaPFnExactBoxesOfx4
namespace Go.Proofs.Ytdiaebjbiddefaa.PFnExactBoxesOf
open Go.RowKit Go.Proofs.YtdiaebjbiddefaaW.PrintWords Go.Proofs.YtdiaebjbiddefaaW.PrintLast Go.Proofs.YtdiaebjbiddefaaW.PrintMore
attribute [local go_sem] max2_int min2_int max_two min_two max_three min_three max_four min_four   -- for this text's walks alone
set_option linter.unusedVariables false
set_option linter.unusedSimpArgs false
set_option maxHeartbeats 8000000
set_option maxRecDepth 100000

/-! ### impl_Selection_slabIndices: function 118 -/
mutual
def impl_Selection_slabIndices.l0 : Nat → List Int → List Int → Int → Int → Int → List Int → List Int → List Int → List Int → List (S110) → Option (List Int)
 | 0, _, _, _, _, _, _, _, _, _, _ => none
 | k + 1, x5, x14, x15, x16, x496000, x496001, x496002, x496003, x496004, x496005 => if x16 < x15 then (if 0 ≤ x16 then (if x16 < (x14.length : Int) then (impl_Selection_slabIndices.l1 k x16 (rd x14 x16) ([] : List Int) x14 x15 x16 x5 (x5.length : Int) 0 x496000 x496001 x496002 x496003 x496004 x496005) else (none)) else (none)) else (some x5)
def impl_Selection_slabIndices.l1 : Nat → Int → Int → List Int → List Int → Int → Int → List Int → Int → Int → Int → List Int → List Int → List Int → List Int → List (S110) → Option (List Int)
 | 0, _, _, _, _, _, _, _, _, _, _, _, _, _, _, _ => none
 | k + 1, x6, x7, x8, x14, x15, x16, x21, x22, x23, x496000, x496001, x496002, x496003, x496004, x496005 => if x23 < x22 then (if 0 ≤ x23 then (if x23 < (x21.length : Int) then ((impl_Selection_coordinates.f k x496000 x496001 x496002 x496003 x496004 x496005 x6).bind fun t501 => (impl_Selection_slabIndices.l2 k x6 x7 x8 (rd x21 x23) x14 x15 x16 x21 x22 x23 t501 (t501.length : Int) 0 x496000 x496001 x496002 x496003 x496004 x496005)) else (none)) else (none)) else (impl_Selection_slabIndices.l0 k x8 x14 x15 (wrap64 (x16 + 1)) x496000 x496001 x496002 x496003 x496004 x496005)
def impl_Selection_slabIndices.l2 : Nat → Int → Int → List Int → Int → List Int → Int → Int → List Int → Int → Int → List Int → Int → Int → Int → List Int → List Int → List Int → List Int → List (S110) → Option (List Int)
 | 0, _, _, _, _, _, _, _, _, _, _, _, _, _, _, _, _, _, _, _ => none
 | k + 1, x6, x7, x8, x10, x14, x15, x16, x21, x22, x23, x29, x30, x31, x496000, x496001, x496002, x496003, x496004, x496005 => if x31 < x30 then (if 0 ≤ x31 then (if x31 < (x29.length : Int) then (if x8.length < 17592186044416 then (impl_Selection_slabIndices.l2 k x6 x7 (x8 ++ [wrap64 ((wrap64 (x10 * x7)) + (rd x29 x31))]) x10 x14 x15 x16 x21 x22 x23 x29 x30 (wrap64 (x31 + 1)) x496000 x496001 x496002 x496003 x496004 x496005) else (none)) else (none)) else (none)) else (impl_Selection_slabIndices.l1 k x6 x7 x8 x14 x15 x16 x21 x22 (wrap64 (x23 + 1)) x496000 x496001 x496002 x496003 x496004 x496005)
end
def impl_Selection_slabIndices.f (k : Nat) (a0_0 : Int) (l0_1 : List Int) (l0_2 : List Int) (l0_3 : List Int) (l0_4 : List Int) (l0_5 : List (S110)) (l1 : List Int) : Option (List Int) := impl_Selection_slabIndices.l0 k (([0] : List Int)) l1 (l1.length : Int) 0 a0_0 l0_1 l0_2 l0_3 l0_4 l0_5
theorem impl_Selection_slabIndices.calls (k : Nat) (a0_0 : Int) (A0_1 : Option Addr) (c0_1 : Nat) (l0_1 : List Int) (A0_2 : Option Addr) (c0_2 : Nat) (l0_2 : List Int) (A0_3 : Option Addr) (c0_3 : Nat) (l0_3 : List Int) (A0_4 : Option Addr) (c0_4 : Nat) (l0_4 : List Int) (A0_5 : Option Addr) (c0_5 : Nat) (l0_5 : List (S110)) (A1 : Option Addr) (c1 : Nat) (l1 : List Int) (r : List Int) (w : World) (C0_1 : Cm (Kd.int .i64) w A0_1 c0_1 l0_1) (C0_2 : Cm (Kd.int .i64) w A0_2 c0_2 l0_2) (C0_3 : Cm (Kd.int .i64) w A0_3 c0_3 l0_3) (C0_4 : Cm (Kd.int .i64) w A0_4 c0_4 l0_4) (C0_5 : Cm k110 w A0_5 c0_5 l0_5) (C1 : Cm (Kd.int .i64) w A1 c1 l1) (h : impl_Selection_slabIndices.f k a0_0 l0_1 l0_2 l0_3 l0_4 l0_5 l1 = some r) :
 Calls Try.prog 118 #[.agg #[.int .i64 a0_0, .slice A0_1 l0_1.length c0_1, .slice A0_2 l0_2.length c0_2, .slice A0_3 l0_3.length c0_3, .slice A0_4 l0_4.length c0_4, .slice A0_5 l0_5.length c0_5], .slice A1 l1.length c1] w fun e w' => ∃ v0_ : Value, e = .returned (v0_) ∧ Kd.R (Kd.int .i64) 2 w' w.heap.size (fun _ => True) v0_ r ∧ Below w.heap.size w w' := by
 have hu55 := Try.underlying55
 have HB := yD (Below.refl w.heap.size w)
 have H : (impl_Selection_slabIndices.l0 k (([0] : List Int)) l1 (l1.length : Int) 0 a0_0 l0_1 l0_2 l0_3 l0_4 l0_5) = some r := h
 clear h
 generalize hy496 : ((([0] : List Int)) : List Int) = y496 at H
 have Ny496 := yD hy496.symm
 clear hy496
 have H' := yD H
 clear H; go_enter Try.func118, Try.ntmps118
 go_wp2_with (first | ((with_reducible refine gate_dst (N := 2) rfl ?_); refine bF (N := 2) (cs := #[.int .i64 a0_0, .slice A0_1 l0_1.length c0_1, .slice A0_2 l0_2.length c0_2, .slice A0_3 l0_3.length c0_3, .slice A0_4 l0_4.length c0_4, .slice A0_5 l0_5.length c0_5]) (t := 55) HB ?_; intro gb495 w3 BK495 GW495 HB) | ((with_reducible refine gate_dst (N := 13) rfl ?_); refine Kd.R_lit (Kd.int .i64) _ 2 ?hg (N := 13) ?hd (xs := ([0] : List Int)) (inner := [.int .i64 0]) (ok := fun _ => True) (okp := fun _ => True) ?hr ?hp (fun _ hk => hk) trivial (Below.refl _ _) (Nat.le_refl _) (by simp) ?_; (case hd => rfl); (case hg => rfl); (case hr => first | (go_simp; done) | (go_simp; rfl)); (case hp => exact (Reps.one (show Kd.M (Kd.int .i64) _ _ _ 0 [.int .i64 0] from rfl) (Reps.none _ _))); intro v497 w4 ho5 hb hg_ hnew_; clear hg_ hnew_; (first | rw [← Ny496.out] at ho5 | (simp only [Int.reduceToNat] at ho5; rw [← Ny496.out] at ho5)); have HO498 := yD (yZ ho5 (below_size (kB HB))); replace BK495 := zY BK495 hb; replace HB := zX HB hb; clear hb ho5))
 (try simp only [Act.put, zH, zI, zJ])
 go_loopg [5, 16] k (fun kq v5 v16 w' => ∃ (x5_1 : List Int) (x16_1 : Int), v16 = .int .i64 x16_1 ∧ Aside0 (impl_Selection_slabIndices.l0 kq x5_1 l1 (l1.length : Int) x16_1 a0_0 l0_1 l0_2 l0_3 l0_4 l0_5 = some r) ∧ Aside0 (kq ≤ k) ∧ Aside0 (Kd.R (Kd.int .i64) 2 w' w.heap.size (fun _ => True) v5 x5_1) ∧ Aside0 (w'.heap[gb495]? = some (.cells #[.int .i64 a0_0, (.slice A0_1 l0_1.length c0_1), (.slice A0_2 l0_2.length c0_2), (.slice A0_3 l0_3.length c0_3), (.slice A0_4 l0_4.length c0_4), (.slice A0_5 l0_5.length c0_5)] 55 (0, 0))) ∧ Aside0 (Below w.heap.size w w'))
 case atStart => exact ⟨(y496), (0), kF, H', ⟨Nat.le_refl _⟩, ⟨kA HO498⟩, ⟨kM BK495⟩, ⟨kR0 HB⟩⟩
 case round =>
  clear H'
  obtain ⟨x5_1, x16_1, rfl, HA, HK1, HO_5, BK495, HB⟩ := hrel
  cases gk with
  | zero => exact absurd HA.out (by simp [impl_Selection_slabIndices.l0])
  | succ k1 =>
   have H := HA.out; clear HA
   simp only [impl_Selection_slabIndices.l0] at H
   replace H := sG H; rcases H with ⟨c6b0, H⟩ | ⟨c6b0, H⟩
   · obtain rfl := sJ H
     go_wp2
     go_ret
     exact ⟨_, kE, kA HO_5, kR0 HB⟩
   replace ⟨c7b0, H⟩ := sE H
   replace ⟨c8b0, H⟩ := sE H
   have H' := yD H
   clear H
   obtain ⟨p499, q499, ad499, e499, hx499_0⟩ := sI (Kd.at_int C1.r x16_1)
   cases e499
   replace hx499_0 := kD HB hx499_0
   obtain ⟨Ao9, co9, eo9⟩ := Kd.R_slice HO_5.out
   subst eo9
   go_wp2
   go_loopg [8, 23] k1 (fun kq v8 v23 w' => ∃ (x8_2 : List Int) (x23_2 : Int), v23 = .int .i64 x23_2 ∧ Aside0 (impl_Selection_slabIndices.l1 kq x16_1 (rd l1 x16_1) x8_2 l1 (l1.length : Int) x16_1 x5_1 (x5_1.length : Int) x23_2 a0_0 l0_1 l0_2 l0_3 l0_4 l0_5 = some r) ∧ Aside0 (kq ≤ k1) ∧ Aside0 (Kd.R (Kd.int .i64) 2 w' w.heap.size (fun k_ => oB (.slice Ao9 x5_1.length co9) k_) v8 x8_2) ∧ Aside0 (Kd.R (Kd.int .i64) 2 w' w.heap.size (fun k_ => oB v8 k_) (.slice Ao9 x5_1.length co9) x5_1) ∧ Aside0 (w'.heap[gb495]? = some (.cells #[.int .i64 a0_0, (.slice A0_1 l0_1.length c0_1), (.slice A0_2 l0_2.length c0_2), (.slice A0_3 l0_3.length c0_3), (.slice A0_4 l0_4.length c0_4), (.slice A0_5 l0_5.length c0_5)] 55 (0, 0))) ∧ Aside0 (Below w.heap.size w w'))
   case atStart => exact ⟨(([] : List Int)), (0), kF, H', ⟨Nat.le_refl _⟩, ⟨by first | exact Kd.R_nil _ _ _ _ _ | exact Kd.N_nil _ _ _ _ _ | exact Kd.V_nil _ _ _ _ _ | exact Kd.Q_nil _ _ _ _ _ | exact Kd.S_nil _ _ _ _ _⟩, ⟨mR HO_5 (fun _ hk => (by simp [oB, Value.ownBlock]))⟩, ⟨kM BK495⟩, ⟨kR0 HB⟩⟩
   case round =>
    clear H'
    obtain ⟨x8_2, x23_2, rfl, HA, HK2, HO_8, HO_21, BK495, HB⟩ := hrel
    cases gk with
    | zero => exact absurd HA.out (by simp [impl_Selection_slabIndices.l1])
    | succ k2 =>
     have H := HA.out; clear HA
     simp only [impl_Selection_slabIndices.l1] at H
     replace H := sG H; rcases H with ⟨c10b0, H⟩ | ⟨c10b0, H⟩
     ·
      have H' := yD H
      clear H
      go_wp2
      go_roundg k2
      case measure => have := HK1.out; have := HK2.out; omega
      case rel => exact ⟨(x8_2), (wrap64 (x16_1 + 1)), kF, H', ⟨by have := HK1.out; have := HK2.out; omega⟩, ⟨mR HO_8 (fun _ hk => trivial)⟩, ⟨kM BK495⟩, ⟨kR0 HB⟩⟩
     replace ⟨c11b0, H⟩ := sE H
     replace ⟨c12b0, H⟩ := sE H
     replace ⟨t501, A13, H⟩ := sV H
     have H' := yD H
     clear H
     obtain ⟨p500, q500, ad500, e500, hx500_0⟩ := sI (Kd.at_int (zA HO_21.out).2.2 x23_2)
     cases e500
     have := cf6_ BK495.out
     go_wp2_with (first | ((with_reducible refine gate_callee (f := 144) rfl ?_); refine gL 29 Try.func144 _ ((impl_Selection_coordinates.calls k2 a0_0 _ _ l0_1 _ _ l0_2 _ _ l0_3 _ _ l0_4 _ _ l0_5 x16_1 t501 _ (C0_1.b HB) (C0_2.b HB) (C0_3.b HB) (C0_4.b HB) (C0_5.b HB) A13.out).mono ?_); rintro e w15 ⟨v502, rfl, ho0, hb⟩; refine ⟨_, rfl, ?_⟩; have HO503 := yD (yZ (yJ (yJ ho0 (yK (kA HO_8))) (yK (kA HO_21))) (below_size (kB HB))); replace HO_8 := yD (Kd.R_elder' (kA HO_8) (yH ho0) hb); replace HO_21 := yD (Kd.R_elder' (kA HO_21) (yH ho0) hb); replace BK495 := zY BK495 hb; replace HB := zX HB hb; clear hb ho0; obtain ⟨Ao16, co16, eo16⟩ := Kd.R_slice HO503.out; subst eo16))
     (try simp only [Act.put, zH, zI, zJ])
     go_loopg [8, 31] k2 (fun kq v8 v31 w' => ∃ (x8_3 : List Int) (x31_3 : Int), v31 = .int .i64 x31_3 ∧ Aside0 (impl_Selection_slabIndices.l2 kq x16_1 (rd l1 x16_1) x8_3 (rd x5_1 x23_2) l1 (l1.length : Int) x16_1 x5_1 (x5_1.length : Int) x23_2 t501 (t501.length : Int) x31_3 a0_0 l0_1 l0_2 l0_3 l0_4 l0_5 = some r) ∧ Aside0 (kq ≤ k2) ∧ Aside0 (Kd.R (Kd.int .i64) 2 w' w.heap.size (fun k_ => some k_ ≠ ((.slice (some ad500) x5_1.length co9) : Value).ownBlock ∧ oB (.slice Ao16 t501.length co16) k_) v8 x8_3) ∧ Aside0 (Kd.R (Kd.int .i64) 2 w' w.heap.size (fun k_ => oB v8 k_ ∧ oB (.slice Ao16 t501.length co16) k_) (.slice (some ad500) x5_1.length co9) x5_1) ∧ Aside0 (Kd.R (Kd.int .i64) 2 w' w.heap.size (fun k_ => oB v8 k_ ∧ some k_ ≠ ((.slice (some ad500) x5_1.length co9) : Value).ownBlock) (.slice Ao16 t501.length co16) t501) ∧ Aside0 (w'.heap[gb495]? = some (.cells #[.int .i64 a0_0, (.slice A0_1 l0_1.length c0_1), (.slice A0_2 l0_2.length c0_2), (.slice A0_3 l0_3.length c0_3), (.slice A0_4 l0_4.length c0_4), (.slice A0_5 l0_5.length c0_5)] 55 (0, 0))) ∧ Aside0 (Below w.heap.size w w'))
     case atStart => exact ⟨(x8_2), (0), kF, H', ⟨Nat.le_refl _⟩, ⟨kA HO_8⟩, ⟨kA HO_21⟩, ⟨mR HO503 (fun _ hk => ⟨hk.1.2, hk.2⟩)⟩, ⟨kM BK495⟩, ⟨kR0 HB⟩⟩
     case round =>
      clear H'
      obtain ⟨x8_3, x31_3, rfl, HA, HK3, HO_8, HO_21, HO_29, BK495, HB⟩ := hrel
      cases gk with
      | zero => exact absurd HA.out (by simp [impl_Selection_slabIndices.l2])
      | succ k3 =>
       have H := HA.out; clear HA
       simp only [impl_Selection_slabIndices.l2] at H
       replace H := sG H; rcases H with ⟨c17b0, H⟩ | ⟨c17b0, H⟩
       ·
        have H' := yD H
        clear H
        go_wp2
        go_roundg k3
        case measure => have := HK1.out; have := HK2.out; have := HK3.out; omega
        case rel => exact ⟨(x8_3), (wrap64 (x23_2 + 1)), kF, H', ⟨by have := HK1.out; have := HK2.out; have := HK3.out; omega⟩, ⟨mR HO_8 (fun _ hk => hk.1)⟩, ⟨mR HO_21 (fun _ hk => hk.1)⟩, ⟨kM BK495⟩, ⟨kR0 HB⟩⟩
       replace ⟨c18b0, H⟩ := sE H
       replace ⟨c19b0, H⟩ := sE H
       replace ⟨LMc20, H⟩ := sM H
       generalize hy505 : ((x8_3 ++ [wrap64 ((wrap64 ((rd x5_1 x23_2) * (rd l1 x16_1))) + (rd t501 x31_3))]) : List Int) = y505 at H
       have Ny505 := yD hy505.symm
       clear hy505
       have H' := yD H
       clear H
       obtain ⟨p504, q504, ad504, e504, hx504_0⟩ := sI (Kd.at_int (zA HO_29.out).2.2 x31_3)
       cases e504
       go_wp2_with (first | ((with_reducible refine gate_builtin (b := .append) (xs := #[.tmp 35, .tmp 41]) rfl ?_); at_builtin; refine Kd.R_append (Kd.int .i64) (w0 := w) w.heap.size rfl (.tmp 35) (.tmp 41) 36 2 (.int .i64 0) 8 rfl Try.underlying36 info2 rfl (by decide) (by omega) u8 x8_3 (wrap64 ((wrap64 ((rd x5_1 x23_2) * (rd l1 x16_1))) + (rd t501 x31_3))) [.int .i64 (wrap64 ((wrap64 ((rd x5_1 x23_2) * (rd l1 x16_1))) + (rd t501 x31_3)))] (fun k_ => oB (.slice (some ad500) x5_1.length co9) k_ ∧ oB (.slice (some ad504) t501.length co16) k_) (fun _ => False) rfl rfl ?aP (fun _ hk => hk.elim) ?aF ?aO ?aB ?aS ?aL ?_; (case aP => exact rfl); (case aB => exact (kB HB)); (case aF => exact (fun k_ hk => ⟨Kd.fresh' (yK (kA HO_21)) k_ hk, Kd.fresh' (yK (kA HO_29)) k_ hk⟩)); (case aO => exact (kA HO_8)); (case aS => exact (below_size (kB HB))); (case aL => have := LMc20.out; omega); intro v506 w21 ho hb hg hat; rw [← Ny505.out] at ho; replace HO_21 := yD (Kd.R_after (ok := (fun k_ => oB (.slice (some ad504) t501.length co16) k_)) (mR HO_21 (fun _ hk => ⟨hk.2, hk.1⟩)) hg hat); replace HO_29 := yD (Kd.R_after (ok := (fun k_ => oB (.slice (some ad500) x5_1.length co9) k_)) (mR HO_29 (fun _ hk => ⟨hk.2, hk.1⟩)) hg hat); replace BK495 := yD (blk_grown (g := gb495) (o := .cells #[.int .i64 a0_0, .slice A0_1 l0_1.length c0_1, .slice A0_2 l0_2.length c0_2, .slice A0_3 l0_3.length c0_3, .slice A0_4 l0_4.length c0_4, .slice A0_5 l0_5.length c0_5] 55 (0, 0)) (kM BK495) hg (Kd.R_ne HO_8.out BK495.out (by decide))); replace HB := yD (hb); have HO507 := yD (ho); clear HO_8; clear ho hb hg hat))
       go_roundg k3
       case measure => have := HK1.out; have := HK2.out; have := HK3.out; omega
       case rel => exact ⟨(y505), (wrap64 (x31_3 + 1)), kF, H', ⟨by have := HK1.out; have := HK2.out; have := HK3.out; omega⟩, ⟨kA HO507⟩, ⟨mR HO_21 (fun _ hk => ⟨hk.2, hk.1⟩)⟩, ⟨mR HO_29 (fun _ hk => ⟨hk.2, hk.1⟩)⟩, ⟨kM BK495⟩, ⟨kR0 HB⟩⟩

/-! ### impl_indexOf: function 119 -/
def impl_indexOf.l0 : Nat → List Int → Int → List Int → Int → Int → Option (Int)
 | 0, _, _, _, _, _ => none
 | k + 1, x0, x5, x8, x9, x10 => if x10 < x9 then (if 0 ≤ x10 then (if x10 < (x8.length : Int) then (if x10 < (x0.length : Int) then (impl_indexOf.l0 k x0 (wrap64 ((wrap64 (x5 * (rd x0 x10))) + (rd x8 x10))) x8 x9 (wrap64 (x10 + 1))) else (none)) else (none)) else (none)) else (some x5)
def impl_indexOf.f (k : Nat) (l0 : List Int) (l1 : List Int) : Option (Int) := impl_indexOf.l0 k l0 0 l1 (l1.length : Int) 0
theorem impl_indexOf.calls (k : Nat) (A0 : Option Addr) (c0 : Nat) (l0 : List Int) (A1 : Option Addr) (c1 : Nat) (l1 : List Int) (r : Int) (w : World) (C0 : Cm (Kd.int .i64) w A0 c0 l0) (C1 : Cm (Kd.int .i64) w A1 c1 l1) (h : impl_indexOf.f k l0 l1 = some r) :
 Calls Try.prog 119 #[.slice A0 l0.length c0, .slice A1 l1.length c1] w fun e w' => e = .returned (.int .i64 r) ∧ Drawn0 w w' := by
 have H : (impl_indexOf.l0 k l0 0 l1 (l1.length : Int) 0) = some r := h
 clear h
 have H' := yD H
 clear H; go_enter Try.func119, Try.ntmps119
 go_wp2
 go_loopg [5, 10] k (fun kq v5 v10 w' => ∃ (x5_1 : Int) (x10_1 : Int), v5 = .int .i64 x5_1 ∧ v10 = .int .i64 x10_1 ∧ Aside0 (impl_indexOf.l0 kq l0 x5_1 l1 (l1.length : Int) x10_1 = some r) ∧ Aside0 (kq ≤ k) ∧ Drawn0 w w')
 case atStart => exact ⟨(0), (0), kF, kF, H', ⟨Nat.le_refl _⟩, by repeat (first | exact Drawn0.refl _ | apply Drawn0.step)⟩
 case round =>
  clear H'
  obtain ⟨x5_1, x10_1, rfl, rfl, HA, HK1, ⟨m1, rfl⟩⟩ := hrel
  cases gk with
  | zero => exact absurd HA.out (by simp [impl_indexOf.l0])
  | succ k1 =>
   have H := HA.out; clear HA
   simp only [impl_indexOf.l0] at H
   replace H := sG H; rcases H with ⟨c3b0, H⟩ | ⟨c3b0, H⟩
   · obtain rfl := sJ H
     go_wp2
     go_ret
     exact ⟨by first | rfl | (simp; done) | (simp [*]; done), by repeat (first | exact Drawn0.refl _ | apply Drawn0.step)⟩
   replace ⟨c4b0, H⟩ := sE H
   replace ⟨c5b0, H⟩ := sE H
   replace ⟨c6b0, H⟩ := sE H
   have H' := yD H
   clear H
   obtain ⟨p508, q508, ad508, e508, hx508_0⟩ := sI (Kd.at_int C1.r x10_1)
   cases e508
   obtain ⟨p509, q509, ad509, e509, hx509_0⟩ := sI (Kd.at_int C0.r x10_1)
   cases e509
   go_wp2
   go_roundg k1
   case measure => have := HK1.out; omega
   case rel => exact ⟨(wrap64 ((wrap64 (x5_1 * (rd l0 x10_1))) + (rd l1 x10_1))), (wrap64 (x10_1 + 1)), kF, kF, H', ⟨by have := HK1.out; omega⟩, by repeat (first | exact Drawn0.refl _ | apply Drawn0.step)⟩

/-! ### impl_Selection_indices: function 81 -/
mutual
def impl_Selection_indices.l0 : Nat → List Int → Int → Int → Option (List Int)
 | 0, _, _, _ => none
 | k + 1, x5, x14, x15 => if x15 < x14 then (if x5.length < 17592186044416 then (impl_Selection_indices.l0 k (x5 ++ [x15]) x14 (wrap64 (x15 + 1))) else (none)) else (some x5)
def impl_Selection_indices.l1 : Nat → List Int → List Int → List (S110) → Int → Int → Option (List Int)
 | 0, _, _, _, _, _ => none
 | k + 1, x1, x5, x31, x32, x33 => if x33 < x32 then (if 0 ≤ x33 then (if x33 < (x31.length : Int) then ((impl_indexOf.f k x1 ((rd_T110 x31 x33).f0)).bind fun t520 => (if x5.length < 17592186044416 then (impl_Selection_indices.l1 k x1 (x5 ++ [t520]) x31 x32 (wrap64 (x33 + 1))) else (none))) else (none)) else (none)) else (some x5)
end
def impl_Selection_indices.f (k : Nat) (a0_0 : Int) (l0_1 : List Int) (l0_2 : List Int) (l0_3 : List Int) (l0_4 : List Int) (l0_5 : List (S110)) (l1 : List Int) : Option (List Int) := if a0_0 = 1 then ((impl_product.f k l1).bind fun t511 => (impl_Selection_indices.l0 k ([] : List Int) t511 0)) else (if a0_0 = 3 then ((impl_Selection_slabIndices.f k a0_0 l0_1 l0_2 l0_3 l0_4 l0_5 l1).bind fun t515 => (some t515)) else (if a0_0 = 4 then (impl_Selection_indices.l1 k l1 ([] : List Int) l0_5 (l0_5.length : Int) 0) else (some ([] : List Int))))
theorem impl_Selection_indices.calls (k : Nat) (a0_0 : Int) (A0_1 : Option Addr) (c0_1 : Nat) (l0_1 : List Int) (A0_2 : Option Addr) (c0_2 : Nat) (l0_2 : List Int) (A0_3 : Option Addr) (c0_3 : Nat) (l0_3 : List Int) (A0_4 : Option Addr) (c0_4 : Nat) (l0_4 : List Int) (A0_5 : Option Addr) (c0_5 : Nat) (l0_5 : List (S110)) (A1 : Option Addr) (c1 : Nat) (l1 : List Int) (r : List Int) (w : World) (C0_1 : Cm (Kd.int .i64) w A0_1 c0_1 l0_1) (C0_2 : Cm (Kd.int .i64) w A0_2 c0_2 l0_2) (C0_3 : Cm (Kd.int .i64) w A0_3 c0_3 l0_3) (C0_4 : Cm (Kd.int .i64) w A0_4 c0_4 l0_4) (C0_5 : Cm k110 w A0_5 c0_5 l0_5) (C1 : Cm (Kd.int .i64) w A1 c1 l1) (h : impl_Selection_indices.f k a0_0 l0_1 l0_2 l0_3 l0_4 l0_5 l1 = some r) :
 Calls Try.prog 81 #[.agg #[.int .i64 a0_0, .slice A0_1 l0_1.length c0_1, .slice A0_2 l0_2.length c0_2, .slice A0_3 l0_3.length c0_3, .slice A0_4 l0_4.length c0_4, .slice A0_5 l0_5.length c0_5], .slice A1 l1.length c1] w fun e w' => ∃ v0_ : Value, e = .returned (v0_) ∧ Kd.R (Kd.int .i64) 2 w' w.heap.size (fun _ => True) v0_ r ∧ Below w.heap.size w w' := by
 have hu55 := Try.underlying55; have hu110 := Try.underlying110
 have HB := yD (Below.refl w.heap.size w)
 have H : (if a0_0 = 1 then ((impl_product.f k l1).bind fun t511 => (impl_Selection_indices.l0 k ([] : List Int) t511 0)) else (if a0_0 = 3 then ((impl_Selection_slabIndices.f k a0_0 l0_1 l0_2 l0_3 l0_4 l0_5 l1).bind fun t515 => (some t515)) else (if a0_0 = 4 then (impl_Selection_indices.l1 k l1 ([] : List Int) l0_5 (l0_5.length : Int) 0) else (some ([] : List Int))))) = some r := h
 clear h
 replace H := sQ H; rcases H with ⟨-, c3b0, c3b1, H⟩ | ⟨c3, c3b0, c3b1, H⟩
 ·
  replace ⟨t511, A4, H⟩ := sV H
  have H' := yD H
  clear H; go_enter Try.func81, Try.ntmps81
  go_wp2_with (first | ((with_reducible refine gate_dst (N := 2) rfl ?_); refine bF (N := 2) (cs := #[.int .i64 a0_0, .slice A0_1 l0_1.length c0_1, .slice A0_2 l0_2.length c0_2, .slice A0_3 l0_3.length c0_3, .slice A0_4 l0_4.length c0_4, .slice A0_5 l0_5.length c0_5]) (t := 55) HB ?_; intro gb510 w5 BK510 GW510 HB; have := cf6_ BK510.out) | ((with_reducible refine gate_callee (f := 117) rfl ?_); refine gL 14 Try.func117 _ (dm (impl_product.calls k _ _ l1 t511 _ (C1.b HB) A4.out) fun nd => ?_)))
  (try simp only [Act.put, zH, zI, zJ])
  go_loopg [5, 15] k (fun kq v5 v15 w' => ∃ (x5_1 : List Int) (x15_1 : Int), v15 = .int .i64 x15_1 ∧ Aside0 (impl_Selection_indices.l0 kq x5_1 t511 x15_1 = some r) ∧ Aside0 (kq ≤ k) ∧ Aside0 (Kd.R (Kd.int .i64) 2 w' w.heap.size (fun _ => True) v5 x5_1) ∧ Aside0 (w'.heap[gb510]? = some (.cells #[.int .i64 a0_0, (.slice A0_1 l0_1.length c0_1), (.slice A0_2 l0_2.length c0_2), (.slice A0_3 l0_3.length c0_3), (.slice A0_4 l0_4.length c0_4), (.slice A0_5 l0_5.length c0_5)] 55 (0, 0))) ∧ Aside0 (Below w.heap.size w w'))
  case atStart => exact ⟨(([] : List Int)), (0), kF, H', ⟨Nat.le_refl _⟩, ⟨by first | exact Kd.R_nil _ _ _ _ _ | exact Kd.N_nil _ _ _ _ _ | exact Kd.V_nil _ _ _ _ _ | exact Kd.Q_nil _ _ _ _ _ | exact Kd.S_nil _ _ _ _ _⟩, ⟨kM BK510⟩, ⟨kR0 HB⟩⟩
  case round =>
   clear H'
   obtain ⟨x5_1, x15_1, rfl, HA, HK1, HO_5, BK510, HB⟩ := hrel
   cases gk with
   | zero => exact absurd HA.out (by simp [impl_Selection_indices.l0])
   | succ k1 =>
    have H := HA.out; clear HA
    simp only [impl_Selection_indices.l0] at H
    replace H := sG H; rcases H with ⟨c7b0, H⟩ | ⟨c7b0, H⟩
    · obtain rfl := sJ H
      go_wp2
      go_ret
      exact ⟨_, kE, kA HO_5, kR0 HB⟩
    replace ⟨LMc8, H⟩ := sM H
    generalize hy512 : ((x5_1 ++ [x15_1]) : List Int) = y512 at H
    have Ny512 := yD hy512.symm
    clear hy512
    have H' := yD H
    clear H
    go_wp2_with (first | ((with_reducible refine gate_builtin (b := .append) (xs := #[.tmp 18, .tmp 20]) rfl ?_); at_builtin; refine Kd.R_append (Kd.int .i64) (w0 := w) w.heap.size rfl (.tmp 18) (.tmp 20) 36 2 (.int .i64 0) 8 rfl Try.underlying36 info2 rfl (by decide) (by omega) u5 x5_1 x15_1 [.int .i64 x15_1] (fun _ => True) (fun _ => False) rfl rfl ?aP (fun _ hk => hk.elim) ?aF ?aO ?aB ?aS ?aL ?_; (case aP => exact rfl); (case aB => exact (kB HB)); (case aF => exact (fun _ _ => trivial)); (case aO => exact (kA HO_5)); (case aS => exact (below_size (kB HB))); (case aL => have := LMc8.out; omega); intro v513 w9 ho hb hg hat; rw [← Ny512.out] at ho; replace BK510 := yD (blk_grown (g := gb510) (o := .cells #[.int .i64 a0_0, .slice A0_1 l0_1.length c0_1, .slice A0_2 l0_2.length c0_2, .slice A0_3 l0_3.length c0_3, .slice A0_4 l0_4.length c0_4, .slice A0_5 l0_5.length c0_5] 55 (0, 0)) (kM BK510) hg (Kd.R_ne HO_5.out BK510.out (by decide))); replace HB := yD (hb); have HO514 := yD (ho); clear HO_5; clear ho hb hg hat))
    go_roundg k1
    case measure => have := HK1.out; omega
    case rel => exact ⟨(y512), (wrap64 (x15_1 + 1)), kF, H', ⟨by have := HK1.out; omega⟩, ⟨kA HO514⟩, ⟨kM BK510⟩, ⟨kR0 HB⟩⟩
 replace H := sQ H; rcases H with ⟨-, c10b0, c10b1, H⟩ | ⟨c10, c10b0, c10b1, H⟩
 ·
  replace ⟨t515, A11, H⟩ := sV H
  obtain rfl := sJ H; go_enter Try.func81, Try.ntmps81
  go_wp2_with (first | ((with_reducible refine gate_dst (N := 2) rfl ?_); refine bF (N := 2) (cs := #[.int .i64 a0_0, .slice A0_1 l0_1.length c0_1, .slice A0_2 l0_2.length c0_2, .slice A0_3 l0_3.length c0_3, .slice A0_4 l0_4.length c0_4, .slice A0_5 l0_5.length c0_5]) (t := 55) HB ?_; intro gb510 w12 BK510 GW510 HB; have := cf6_ BK510.out) | ((with_reducible refine gate_callee (f := 118) rfl ?_); refine gL 27 Try.func118 _ ((impl_Selection_slabIndices.calls k a0_0 _ _ l0_1 _ _ l0_2 _ _ l0_3 _ _ l0_4 _ _ l0_5 _ _ l1 t515 _ (C0_1.b HB) (C0_2.b HB) (C0_3.b HB) (C0_4.b HB) (C0_5.b HB) (C1.b HB) A11.out).mono ?_); rintro e w14 ⟨v516, rfl, ho0, hb⟩; refine ⟨_, rfl, ?_⟩; have HO517 := yD (yZ ho0 (below_size (kB HB))); replace BK510 := zY BK510 hb; replace HB := zX HB hb; clear hb ho0))
  go_ret
  exact ⟨_, kE, kA HO517, kR0 HB⟩
 replace H := sP H; rcases H with ⟨c15, c15b0, c15b1, H⟩ | ⟨-, c15b0, c15b1, H⟩
 ·
  obtain rfl := sJ H; go_enter Try.func81, Try.ntmps81
  go_wp2_with (first | ((with_reducible refine gate_dst (N := 2) rfl ?_); refine bF (N := 2) (cs := #[.int .i64 a0_0, .slice A0_1 l0_1.length c0_1, .slice A0_2 l0_2.length c0_2, .slice A0_3 l0_3.length c0_3, .slice A0_4 l0_4.length c0_4, .slice A0_5 l0_5.length c0_5]) (t := 55) HB ?_; intro gb510 w27 BK510 GW510 HB; have := cf6_ BK510.out))
  go_ret
  exact ⟨_, kE, by first | exact Kd.R_nil _ _ _ _ _ | exact Kd.N_nil _ _ _ _ _ | exact Kd.V_nil _ _ _ _ _ | exact Kd.Q_nil _ _ _ _ _ | exact Kd.S_nil _ _ _ _ _, kR0 HB⟩
 have H' := yD H
 clear H; go_enter Try.func81, Try.ntmps81
 go_wp2_with (first | ((with_reducible refine gate_dst (N := 2) rfl ?_); refine bF (N := 2) (cs := #[.int .i64 a0_0, .slice A0_1 l0_1.length c0_1, .slice A0_2 l0_2.length c0_2, .slice A0_3 l0_3.length c0_3, .slice A0_4 l0_4.length c0_4, .slice A0_5 l0_5.length c0_5]) (t := 55) HB ?_; intro gb510 w16 BK510 GW510 HB; have := cf6_ BK510.out))
 (try simp only [Act.put, zH, zI, zJ])
 go_loopg [5, 33] k (fun kq v5 v33 w' => ∃ (x5_1 : List Int) (x33_1 : Int), v33 = .int .i64 x33_1 ∧ Aside0 (impl_Selection_indices.l1 kq l1 x5_1 l0_5 (l0_5.length : Int) x33_1 = some r) ∧ Aside0 (kq ≤ k) ∧ Aside0 (Kd.R (Kd.int .i64) 2 w' w.heap.size (fun _ => True) v5 x5_1) ∧ Aside0 (w'.heap[gb510]? = some (.cells #[.int .i64 a0_0, (.slice A0_1 l0_1.length c0_1), (.slice A0_2 l0_2.length c0_2), (.slice A0_3 l0_3.length c0_3), (.slice A0_4 l0_4.length c0_4), (.slice A0_5 l0_5.length c0_5)] 55 (0, 0))) ∧ Aside0 (Below w.heap.size w w'))
 case atStart => exact ⟨(([] : List Int)), (0), kF, H', ⟨Nat.le_refl _⟩, ⟨by first | exact Kd.R_nil _ _ _ _ _ | exact Kd.N_nil _ _ _ _ _ | exact Kd.V_nil _ _ _ _ _ | exact Kd.Q_nil _ _ _ _ _ | exact Kd.S_nil _ _ _ _ _⟩, ⟨kM BK510⟩, ⟨kR0 HB⟩⟩
 case round =>
  clear H'
  obtain ⟨x5_1, x33_1, rfl, HA, HK1, HO_5, BK510, HB⟩ := hrel
  cases gk with
  | zero => exact absurd HA.out (by simp [impl_Selection_indices.l1])
  | succ k1 =>
   have H := HA.out; clear HA
   simp only [impl_Selection_indices.l1] at H
   replace H := sG H; rcases H with ⟨c18b0, H⟩ | ⟨c18b0, H⟩
   · obtain rfl := sJ H
     go_wp2
     go_ret
     exact ⟨_, kE, kA HO_5, kR0 HB⟩
   replace ⟨c19b0, H⟩ := sE H
   replace ⟨c20b0, H⟩ := sE H
   replace ⟨t520, A21, H⟩ := sV H
   replace ⟨LMc22, H⟩ := sM H
   generalize hy521 : ((x5_1 ++ [t520]) : List Int) = y521 at H
   have Ny521 := yD hy521.symm
   clear hy521
   have H' := yD H
   clear H
   obtain ⟨p518, q518, ad518, A518_0, c518_0, e518, hx518_0, HC518_0, HR518_0⟩ := sI (at_T110 C0_5.r x33_1)
   cases e518
   replace hx518_0 := kD HB hx518_0
   go_wp2_with (first | ((with_reducible refine gate_dst (N := 8) rfl ?_); refine bE (N := 8) (cs := #[.slice none 0 0]) (t := 110) ?_; intro gb519 hg w23 hbox hb; replace HO_5 := yD (zE (kA HO_5) hb); have BK519 := yD (hbox); have GW519 := sW hg HB; replace HB := zX HB hb; have NB510_519 := yD ((by rw [hg]; exact Nat.ne_of_lt (blk_lt (kN BK510)) : gb510 ≠ gb519)); have NB519_510 := yD ((by rw [hg]; exact Nat.ne_of_gt (blk_lt (kN BK510)) : gb519 ≠ gb510)); replace BK510 := zY BK510 hb; clear hb hbox hg; have hnb24 := NB519_510.out; have hnc24 := NB510_519.out; have hcz25_0 : w23.cell? ⟨gb519, 0, none⟩ = some (.slice none 0 0) := (yG BK519.out 0).trans rfl; have hfz25_0 := yR BK519.out 0) | ((with_reducible refine gate_callee (f := 119) rfl ?_); refine gL 41 Try.func119 _ (dm (impl_indexOf.calls k1 _ _ l1 _ _ ((rd_T110 l0_5 x33_1).f0) t520 _ (C1.b HB) (cB HR518_0 HC518_0 HB) A21.out) fun nd => ?_)) | ((with_reducible refine gate_builtin (b := .append) (xs := #[.tmp 37, .tmp 42]) rfl ?_); at_builtin; refine Kd.R_append (Kd.int .i64) (w0 := w) w.heap.size rfl (.tmp 37) (.tmp 42) 36 2 (.int .i64 0) 8 rfl Try.underlying36 info2 rfl (by decide) (by omega) u5 x5_1 t520 [.int .i64 t520] (fun _ => True) (fun _ => False) rfl (by first | (go_simp; done) | (go_simp; rfl)) ?aP (fun _ hk => hk.elim) ?aF ?aO ?aB ?aS ?aL ?_; (case aP => exact rfl); (case aB => exact (kB HB)); (case aF => exact (fun _ _ => trivial)); (case aO => exact (by (with_reducible repeat (first | apply yA | apply yB | apply yC)); exact zF (yS_ (Kd.R_types HO_5.out BK519.out (by decide))) (fun _ hk => trivial))); (case aS => exact (below_size (kB HB))); (case aL => have := LMc22.out; omega); intro v522 w26 ho hb hg hat; rw [← Ny521.out] at ho; replace BK510 := yD (blk_grown (g := gb510) (o := .cells #[.int .i64 a0_0, .slice A0_1 l0_1.length c0_1, .slice A0_2 l0_2.length c0_2, .slice A0_3 l0_3.length c0_3, .slice A0_4 l0_4.length c0_4, .slice (some ad518) l0_5.length c0_5] 55 (0, 0)) (by (with_reducible repeat (first | refine yM ?_ _ | refine yO ?_ | refine yN ?_ _)); refine blk_far ?_ NB510_519.out _; (with_reducible repeat (first | refine yM ?_ _ | refine yO ?_ | refine yN ?_ _)); exact BK510.out) hg (Kd.R_ne HO_5.out BK510.out (by decide))); replace BK519 := yD (blk_grown (g := gb519) (o := .cells #[.slice A518_0 ((rd_T110 l0_5 x33_1).f0).length c518_0] 110 (0, 0)) (by (with_reducible repeat (first | refine yM ?_ _ | refine yO ?_ | refine yN ?_ _)); refine blk_put (cs := #[.slice none 0 0]) ?_ 0 _ rfl; (with_reducible repeat (first | refine yM ?_ _ | refine yO ?_ | refine yN ?_ _)); exact BK519.out) hg (Kd.R_ne HO_5.out BK519.out (by decide))); replace HB := yD (hb); have HO523 := yD (ho); clear HO_5; clear ho hb hg hat))
   go_roundg k1
   case measure => have := HK1.out; omega
   case rel => exact ⟨(y521), (wrap64 (x33_1 + 1)), kF, H', ⟨by have := HK1.out; omega⟩, ⟨kA HO523⟩, ⟨kM BK510⟩, ⟨kR0 HB⟩⟩

/-! ### impl_coordsOf: function 85 -/
section
attribute [local go_sem] Oper.semAt_some
abbrev impl_coordsOf.ez (zs : List Int) (j : Fin zs.length) : Array Value := #[.int .i64 ((zs.length : Int) - 1 - (j.val : Int)), .int .i64 (zs[zs.length - 1 - j.val]?.getD 0)]
def impl_coordsOf.upto (zs : List Int) (k : Nat) : List (Fin zs.length) := (List.finRange zs.length).take k
theorem impl_coordsOf.upto_succ (zs : List Int) (k : Nat) (h : k < zs.length) : impl_coordsOf.upto zs (k + 1) = impl_coordsOf.upto zs k ++ [⟨k, h⟩] := by
 unfold impl_coordsOf.upto
 rw [List.take_succ_eq_append_getElem (by simpa using h)]
 simp
theorem impl_coordsOf.upto_length (zs : List Int) (k : Nat) (h : k ≤ zs.length) : (impl_coordsOf.upto zs k).length = k := by simp [impl_coordsOf.upto, h]
/-- What a round keeps: what lay below n₀, and the block Bs, where it is cells. -/
def impl_coordsOf.Kp (n₀ Bs : Nat) (W W' : World) : Prop := Below n₀ W W' ∧ ∀ cs t fr, W.heap[Bs]? = some (.cells cs t fr) → W'.heap[Bs]? = some (.cells cs t fr)
set_option maxRecDepth 100000 in
set_option maxHeartbeats 2000000 in
theorem impl_coordsOf.back1 (F : Fence) (n : Nat) (h8 : F.fn 145) (hro : F.round = none) (hn : 1 ≤ n) (l Bs n₀ cap : Nat) (A : Option Addr) (zs : List Int) (hreach : zs.length ≤ 1048576) (J Jx : List (Fin zs.length) → World → Prop)
 (hY : ∀ pre x W, J pre W → pre.length < zs.length → YieldAt F (n - 1) Try.prog l (impl_coordsOf.ez zs x) W fun e W' =>
  (e = .returned (.bool true) ∧ J (pre ++ [x]) W' ∧ impl_coordsOf.Kp n₀ Bs W W') ∨ (e = .returned (.bool false) ∧ Jx (pre ++ [x]) W'))
 (W : World) (hBs : W.heap[Bs]? = some (.cells #[.slice A zs.length cap] 36 (0, 0))) (hc : ∀ j, j < zs.length → ∃ ad : Addr, A = some ad ∧ W.cell? (ad.add j) = some (.int .i64 (zs[j]?.getD 0)) ∧ ad.block < n₀) (h0 : J [] W) :
 CallsIn F n Try.prog 145 #[.func (.yield l) #[] #[], .pointer (some ⟨Bs, 0, none⟩)] W fun e W' => (∃ v, e = .returned v) ∧
  ((∃ ys, ys = impl_coordsOf.upto zs zs.length ∧ J ys W') ∨ (∃ pre, (∃ k, k ≤ zs.length ∧ pre = impl_coordsOf.upto zs k) ∧ Jx pre W')) := by
 have hbx : ∀ W' : World, W'.heap[Bs]? = some (.cells #[.slice A zs.length cap] 36 (0, 0)) → W'.cell? ⟨Bs, 0, none⟩ = some (.slice A zs.length cap) := fun W' h => by simp [World.cell?, h]
 have hb0 := hbx W hBs
 refine callsIn_of_wp Try.func145 rfl h8 ?_ hro
 simp only [Try.ntmps145, List.size_toArray, List.length_cons, List.length_nil, Nat.reduceAdd, Nat.reduceSub, Array.replicate_succ, Array.replicate_zero, List.push_toArray, List.append_toArray, List.nil_append, List.cons_append]
 gi_wp2
 gi_loopw [3] (fun i wr => ∃ k : Nat, k ≤ zs.length ∧ i = .int .i64 ((zs.length : Int) - 1 - k) ∧ J (impl_coordsOf.upto zs k) wr ∧ impl_coordsOf.Kp n₀ Bs W wr)
  (fun i _ => (intOf i + 1).toNat)
 case atStart => exact ⟨0, Nat.zero_le _, by simp, by simpa [impl_coordsOf.upto] using h0, Below.refl _ _, fun _ _ _ h => h⟩
 case round =>
  obtain ⟨k, hk, rfl, hJs, hnx⟩ := hrel
  have hb1 := hbx wr (hnx.2 _ _ _ hBs)
  by_cases hlt : k < zs.length
  ·
   obtain ⟨ad, rfl, had, hadb⟩ := hc (zs.length - 1 - k) (by omega)
   have hcx := (hnx.1.cell (p := ad.add (zs.length - 1 - k)) (by unfold Addr.add; split <;> exact hadb)).trans had
   obtain ⟨fn, tmps, assign, body, hy, hR⟩ := hY _ ⟨k, hlt⟩ wr hJs (by rw [impl_coordsOf.upto_length _ _ hk]; exact hlt)
   dsimp only [impl_coordsOf.ez] at hy
   have hge : (0 : Int) ≤ (zs.length : Int) - 1 - k := by omega
   have hlt2 : (zs.length : Int) - 1 - k < zs.length := by omega
   have htn : ((zs.length : Int) - 1 - k).toNat = zs.length - 1 - k := by omega
   gi_wp2
   refine hR.mono ?_
   rintro e W3 (⟨rfl, hJ3, hk3⟩ | ⟨rfl, hJx3⟩)
   · gi_wp2
     go_roundw
     case rel => exact ⟨k + 1, by omega, by first | rfl | (congr 1; omega) | (simp; omega), by rw [impl_coordsOf.upto_succ _ _ hlt]; exact hJ3, hnx.1.trans hk3.1, fun cs t fr h => hk3.2 _ _ _ (hnx.2 _ _ _ h)⟩
     case measure => simp [intOf]; omega
   · gi_wp2
     refine bodyPost_ret (results_none rfl _ _ _) rfl ?_
     exact ⟨⟨_, rfl⟩, .inr ⟨_, ⟨k + 1, by omega, (impl_coordsOf.upto_succ _ _ hlt).symm⟩, hJx3⟩⟩
  · obtain rfl : k = zs.length := by omega
    gi_wp2
    go_end0
    exact ⟨⟨_, rfl⟩, .inl ⟨_, rfl, hJs⟩⟩
set_option maxRecDepth 100000 in
set_option maxHeartbeats 1000000 in
theorem impl_coordsOf.back (F : Fence) (n : Nat) (h6 : F.fn 122) (hro : F.round = none) (a : Option Addr) (len cap : Nat) (w : World) :
 CallsIn F n Try.prog 122 #[.slice a len cap] w fun e w' => e = .returned (.func (.func 145) #[] #[.pointer (some ⟨w.heap.size, 0, none⟩)]) ∧ w' = w.alloc (.cells #[.slice a len cap] 36) := by
 refine callsIn_of_wp Try.func122 rfl h6 ?_ hro
 simp only [Try.ntmps122, List.size_toArray, List.length_cons, List.length_nil, Nat.reduceAdd, Nat.reduceSub, Array.replicate_succ, Array.replicate_zero, List.push_toArray, List.append_toArray, List.nil_append, List.cons_append]
 gi_wp2
 go_ret
 exact ⟨rfl, rfl⟩
theorem impl_coordsOf.stops (F : Fence) (n : Nat) (h8 : F.fn 145) (hro : F.round = none) (hn : 1 ≤ n) (Bs n₀ cap : Nat) (A : Option Addr) (zs : List Int) (hreach : zs.length ≤ 1048576) (w : World) (hBs : w.heap[Bs]? = some (.cells #[.slice A zs.length cap] 36 (0, 0))) (hn₀ : n₀ ≤ w.heap.size)
 (hc : ∀ j, j < zs.length → ∃ ad : Addr, A = some ad ∧ w.cell? (ad.add j) = some (.int .i64 (zs[j]?.getD 0)) ∧ ad.block < n₀) :
 SeqStopsK F n Try.prog 145 #[.pointer (some ⟨Bs, 0, none⟩)] (impl_coordsOf.ez zs) (impl_coordsOf.Kp n₀ Bs) (fun ys => ys = impl_coordsOf.upto zs zs.length) (fun pre => ∃ k, k ≤ zs.length ∧ pre = impl_coordsOf.upto zs k) zs.length w := fun l J Jx W hW _ _ hY h0 =>
 impl_coordsOf.back1 F n h8 hro hn l Bs n₀ cap A zs hreach J Jx hY W ((hW.block Bs (Array.getElem?_eq_some_iff.1 hBs).1).trans hBs) (fun j hj => by
  obtain ⟨ad, h1, h2, h3⟩ := hc j hj
  exact ⟨ad, h1, (hW.cell (p := ad.add j) (by unfold Addr.add; split <;> exact Nat.lt_of_lt_of_le h3 hn₀)).trans h2, h3⟩) h0
theorem impl_coordsOf.Kp_t {n₀ Bs : Nat} {A B C : World} (h : impl_coordsOf.Kp n₀ Bs A B) (h' : impl_coordsOf.Kp n₀ Bs B C) : impl_coordsOf.Kp n₀ Bs A C := ⟨h.1.trans h'.1, fun cs t fr e => h'.2 _ _ _ (h.2 _ _ _ e)⟩
theorem impl_coordsOf.Kp_b {n₀ Bs : Nat} {w : World} (hn : n₀ ≤ w.heap.size) (W : World) (l : Nat) (o o' : Obj) (hl : w.heap.size ≤ l) (ho : W.heap[l]? = some o) (hc : o.isCells = false) (hw : o.isWalk = false) : impl_coordsOf.Kp n₀ Bs W (W.putObj l o') :=
 ⟨belowK_b hn W l o o' hl ho hc hw, fun cs t fr e => by
  have hne : Bs ≠ l := by
   rintro rfl
   rw [e] at ho
   injection ho with ho
   subst ho
   cases hc
  exact (World.putObj_heap_other hne).trans e⟩
def impl_coordsOf.step (zs : List Int) (st : Int × List Int) (j : Nat) : Int × List Int := (wrap64 (Int.tdiv st.1 (zs[zs.length - 1 - j]?.getD 0)), st.2.set (zs.length - 1 - j) (Int.tmod st.1 (zs[zs.length - 1 - j]?.getD 0)))
def impl_coordsOf.run (zs : List Int) (a : Int) (pre : List Nat) : Int × List Int := pre.foldl (impl_coordsOf.step zs) (a, List.replicate zs.length 0)
theorem impl_coordsOf.run_length (zs : List Int) (a : Int) (pre : List Nat) : (impl_coordsOf.run zs a pre).2.length = zs.length := by
 unfold impl_coordsOf.run
 suffices h : ∀ (st : Int × List Int), st.2.length = zs.length → (pre.foldl (impl_coordsOf.step zs) st).2.length = zs.length from h _ (by simp)
 induction pre with
 | nil => intro st h; exact h
 | cons x pre ih => intro st h; exact ih _ (by simp [impl_coordsOf.step, h])
theorem impl_coordsOf.run_snoc (zs : List Int) (a : Int) (pre : List Nat) (j : Nat) : impl_coordsOf.run zs a (pre ++ [j]) = impl_coordsOf.step zs (impl_coordsOf.run zs a pre) j := by simp [impl_coordsOf.run]
def impl_coordsOf.f (l0 : List Int) (a1 : Int) : Option (List Int) := if l0.length ≤ 1048576 ∧ ∀ x ∈ l0, x ≠ 0 then some (impl_coordsOf.run l0 a1 (List.range l0.length)).2 else none
theorem impl_coordsOf.info : (Try.prog.info? 2).map (fun i => (i.zero, i.size, i.bytes)) = some (some (.int .i64 0), 1, 8) := by kernel_rfl
theorem impl_coordsOf.made (n : Nat) : madeCells #[Value.int .i64 0] n = ((List.replicate n 0).map (Value.int .i64)).toArray := by
 apply Array.ext
 · simp [madeCells]
 · intro i h1 h2
   simp [madeCells, Nat.mod_one]
/-- The row g holds xs. -/
def impl_coordsOf.Row (g : Nat) (xs : List Int) (W : World) : Prop := W.heap[g]? = some (.cells (xs.map (Value.int .i64)).toArray 2 (0, 0))
theorem impl_coordsOf.Row.set {g : Nat} {xs : List Int} {W : World} (h : impl_coordsOf.Row g xs W) (i : Nat) (x : Int) : impl_coordsOf.Row g (xs.set i x) (W.setCell ⟨g, i, none⟩ (.int .i64 x)) := by
 unfold impl_coordsOf.Row at h ⊢
 rw [setCell_eq_setRow W g i _ 2 (0, 0) _ h, setRow_heap W g _ _ 2 (0, 0) h]
 simp [List.map_set]
theorem impl_coordsOf.Row.kept {g : Nat} {xs : List Int} {W W' : World} {row : Option Nat} (h : impl_coordsOf.Row g xs W) (hg : W.grownBy W' row) (hne : some g ≠ row) : impl_coordsOf.Row g xs W' :=
 (hg.block g (Array.getElem?_eq_some_iff.1 h).1 hne).trans h
theorem impl_coordsOf.ko_drew (W : World) : KeepsOthers W W.drew := ⟨Nat.le_refl _, fun _ _ h _ => h⟩
theorem impl_coordsOf.cells_ne {W : World} {row : Option Nat} {B k : Nat} {cs : Array Value} {t : TypeId} {fr : Nat × Nat} (h : W.heap[k]? = some (.cells cs t fr)) (hr : ∀ r, row = some r → B ≤ r ∧ ∃ o : Obj, W.heap[r]? = some o ∧ o.isCells = false) : some k ≠ row := by
 rintro rfl
 obtain ⟨_, o, ho, hc⟩ := hr k rfl
 rw [h] at ho
 injection ho with ho
 subst ho
 cases hc
set_option maxRecDepth 100000 in
set_option maxHeartbeats 4000000 in
theorem impl_coordsOf.main (F : Fence) (n : Nat) (h3 : F.fn 85) (h5 : F.fn 122) (h7 : F.fn 145) (hro : F.round = none) (hn : 3 ≤ n) (A0 : Option Addr) (c0 : Nat) (l0 : List Int) (a1 : Int) (w : World) (hr0 : Kd.C (Kd.int .i64) w A0 l0.length l0) (hlen : l0.length ≤ 1048576) (hnz : ∀ x ∈ l0, x ≠ 0) :
 CallsIn F n Try.prog 85 #[.slice A0 l0.length c0, .int .i64 a1] w fun e w' => ∃ v0_ : Value, e = .returned (v0_) ∧ Kd.R (Kd.int .i64) 2 w' w.heap.size (fun _ => True) v0_ (impl_coordsOf.run l0 a1 (List.range l0.length)).2 ∧ Below w.heap.size w w' := by
 have hc : ∀ j, j < l0.length → ∃ ad : Addr, A0 = some ad ∧ w.cell? (ad.add j) = some (.int .i64 (l0[j]?.getD 0)) ∧ ad.block < w.heap.size := fun j hj => by
  obtain ⟨ad, h1, h2⟩ := Kd.at_int hr0 (j : Int) (by omega) (by omega)
  rw [Int.toNat_natCast] at h2
  refine ⟨ad, h1, by rw [h2]; simp [rd], ?_⟩
  have h3 := World.block_lt_of_cell? w _ h2
  unfold Addr.add at h3
  split at h3 <;> exact h3
 clear hr0
 obtain ⟨i0, hi, hz⟩ := Option.map_eq_some_iff.1 impl_coordsOf.info
 simp only [Prod.mk.injEq] at hz
 obtain ⟨hz0, hz1, hz2⟩ := hz
 have hmk := run_make (P := Try.prog) (w.alloc (.cells #[.int .i64 a1] 2)) 36 2 i0 (.int .i64 0) Try.underlying36 hi hz0 .i64 .i64 (l0.length : Int) (l0.length : Int) (by omega) (by omega) (by rw [hz2]; omega) (by omega)
 rw [hz1, Int.toNat_natCast, Nat.mul_one, show (Value.int .i64 0).cells = #[Value.int .i64 0] from rfl, impl_coordsOf.made, World.size_alloc] at hmk
 have h1 : 1 ≤ n := by omega
 have hrep : ((List.replicate l0.length 0).map (Value.int .i64)).toArray = Array.replicate l0.length (Value.int .i64 0) := by simp
 rw [hrep] at hmk
 refine callsIn_of_wp_marks Try.func85 rfl h3 ?_ hro
 simp only [Try.ntmps85, List.size_toArray, List.length_cons, List.length_nil, Nat.reduceAdd, Nat.reduceSub, Array.replicate_succ, Array.replicate_zero, List.push_toArray, List.append_toArray, List.nil_append, List.cons_append]
 gi_wp2_with (gi_at_call 122; refine (impl_coordsOf.back F (n - 1) h5 hro _ _ _ _).mono ?_; rintro e w' ⟨rfl, rfl⟩)
 obtain ⟨W4, hW4⟩ : ∃ W4, ((((w.alloc (Obj.cells #[Value.int IntKind.i64 a1] 2)).alloc (Obj.cells (Array.replicate l0.length (Value.int IntKind.i64 0)) 2)).alloc (Obj.cells #[Value.slice (some { block := w.heap.size + 1, off := 0 }) l0.length l0.length] 36)).alloc (Obj.cells #[Value.slice A0 l0.length c0] 36)) = W4 := ⟨_, rfl⟩
 have hsz : W4.heap.size = w.heap.size + 4 := by rw [← hW4]; simp
 have e0 : Boxed W4 w.heap.size 2 (.int .i64 a1) := by rw [← hW4]; exact (((Boxed.new w 2 _).alloc _).alloc _).alloc _
 have e1 : impl_coordsOf.Row (w.heap.size + 1) (List.replicate l0.length 0) W4 := by
  unfold impl_coordsOf.Row
  rw [← hW4, hrep]
  have h := World.alloc_heap_new (w.alloc (Obj.cells #[Value.int IntKind.i64 a1] 2)) (Obj.cells (Array.replicate l0.length (Value.int IntKind.i64 0)) 2)
  rw [World.size_alloc] at h
  exact (Below.heap_alloc _ _ _ (by simp)).trans ((Below.heap_alloc _ _ _ (by simp)).trans h)
 have e2 : Boxed W4 (w.heap.size + 1 + 1) 36 (.slice (some ⟨w.heap.size + 1, 0, none⟩) l0.length l0.length) := by
  rw [← hW4]
  have h := Boxed.new ((w.alloc (Obj.cells #[Value.int IntKind.i64 a1] 2)).alloc (Obj.cells (Array.replicate l0.length (Value.int IntKind.i64 0)) 2)) 36 (.slice (some ⟨w.heap.size + 1, 0, none⟩) l0.length l0.length)
  rw [World.size_alloc, World.size_alloc] at h
  exact h.alloc _
 have e3 : W4.heap[w.heap.size + 1 + 1 + 1]? = some (.cells #[.slice A0 l0.length c0] 36 (0, 0)) := by
  rw [← hW4]
  have h := World.alloc_heap_new (((w.alloc (Obj.cells #[Value.int IntKind.i64 a1] 2)).alloc (Obj.cells (Array.replicate l0.length (Value.int IntKind.i64 0)) 2)).alloc (Obj.cells #[Value.slice (some { block := w.heap.size + 1, off := 0 }) l0.length l0.length] 36)) (Obj.cells #[Value.slice A0 l0.length c0] 36)
  rw [World.size_alloc, World.size_alloc, World.size_alloc] at h
  exact h
 have eB : Below w.heap.size w W4 := by rw [← hW4]; exact ((((Below.refl _ w).alloc (Nat.le_refl _) _).alloc (by simp) _).alloc (by simp; omega) _).alloc (by simp; omega) _
 rw [hW4]
 clear hmk hW4
 refine wpIn_rangeFunc_ownG hro h1 (gf := 145) (lb := #[.pointer (some ⟨w.heap.size + 1 + 1 + 1, 0, none⟩)]) rfl h7 (enters_of Try.func145 (by kernel_rfl) rfl)
  (impl_coordsOf.stops F (n - 1) h7 hro (by omega) (w.heap.size + 1 + 1 + 1) w.heap.size c0 A0 l0 hlen W4 e3 (by omega) (fun j hj => by
   obtain ⟨ad, q1, q2, q3⟩ := hc j hj
   exact ⟨ad, q1, (eB.cell (p := ad.add j) (by unfold Addr.add; split <;> exact q3)).trans q2, q3⟩)) impl_coordsOf.Kp_t (impl_coordsOf.Kp_b (by omega)) (Below.refl _ _) (fun _ => rfl)
  (fun pre W => Boxed W w.heap.size 2 (.int .i64 (impl_coordsOf.run l0 a1 (pre.map (·.val))).1) ∧ impl_coordsOf.Row (w.heap.size + 1) (impl_coordsOf.run l0 a1 (pre.map (·.val))).2 W ∧ Boxed W (w.heap.size + 1 + 1) 36 (.slice (some ⟨w.heap.size + 1, 0, none⟩) l0.length l0.length) ∧ Below w.heap.size w W)
  (fun _ _ _ => False)
  (fun s A B row hs hg hr => ⟨hs.1.kept hg (impl_coordsOf.cells_ne hs.1 hr), hs.2.1.kept hg (impl_coordsOf.cells_ne hs.2.1 hr), hs.2.2.1.kept hg (impl_coordsOf.cells_ne hs.2.2.1 hr), hs.2.2.2.grown hg hs.2.2.2.size (fun k e => by have := (hr k e).1; omega)⟩)
  (fun _ _ _ _ _ hs _ _ => hs)
  ⟨e0, e1, e2, eB⟩
  (fun x => { tmps := #[.slice A0 l0.length c0, .int .i64 a1, undef, .pointer (some ⟨w.heap.size, 0, none⟩), .slice none 0 0, .pointer (some ⟨w.heap.size + 1 + 1, 0, none⟩), .int .i64 ((l0.length : Int) - 1 - (x.val : Int)), .int .i64 (l0[l0.length - 1 - x.val]?.getD 0), .slice A0 l0.length c0, .int .i64 l0.length, .slice (some ⟨w.heap.size + 1, 0, none⟩) l0.length l0.length, .slice A0 l0.length c0, .func (.func 145) #[] #[.pointer (some ⟨w.heap.size + 1 + 1 + 1, 0, none⟩)], .int .i64 ((l0.length : Int) - 1 - (x.val : Int)), .int .i64 (l0[l0.length - 1 - x.val]?.getD 0), undef, undef, undef, undef, undef, undef, undef, undef, undef, undef], defers := [] }) ?assign ?body ?done ?stop
 case assign =>
  intro l x W K hK
  gi_wp2
  exact hK
 case body =>
  rintro l pre x W ⟨hb0, hrow, hb2, hB⟩ _
  have hx := x.isLt
  have hlen2 := impl_coordsOf.run_length l0 a1 (pre.map (·.val))
  have hst : impl_coordsOf.run l0 a1 ((pre ++ [x]).map (·.val)) = impl_coordsOf.step l0 (impl_coordsOf.run l0 a1 (pre.map (·.val))) x.val := by rw [List.map_append]; exact impl_coordsOf.run_snoc _ _ _ _
  obtain ⟨st, hst0⟩ : ∃ st, impl_coordsOf.run l0 a1 (pre.map (·.val)) = st := ⟨_, rfl⟩
  rw [hst0] at hb0 hrow hlen2 hst
  have hd : l0[l0.length - 1 - x.val]?.getD 0 ≠ 0 := by
   rw [List.getElem?_eq_getElem (by omega)]
   exact hnz _ (List.getElem_mem _)
  have hge : (0 : Int) ≤ (l0.length : Int) - 1 - (x.val : Int) := by omega
  have hlt : (l0.length : Int) - 1 - (x.val : Int) < l0.length := by omega
  have htn : ((l0.length : Int) - 1 - (x.val : Int)).toNat = l0.length - 1 - x.val := by omega
  unfold impl_coordsOf.step at hst
  generalize l0[l0.length - 1 - x.val]?.getD 0 = dv at hd hst ⊢
  have c0_ := hb0.cell
  have f0_ := hb0.frozen
  have c2_ := hb2.cell
  have cg_ : W.cell? ⟨w.heap.size + 1, l0.length - 1 - x.val, none⟩ = some (.int .i64 (st.2.getD (l0.length - 1 - x.val) 0)) := by
   have h := hrow
   unfold impl_coordsOf.Row at h
   simp [World.cell?, h, List.getElem?_eq_getElem (show l0.length - 1 - x.val < st.2.length by omega)]
  have fg_ : W.frozen? ⟨w.heap.size + 1, l0.length - 1 - x.val, none⟩ = false := by
   have h := hrow
   unfold impl_coordsOf.Row at h
   simp [World.frozen?, h]
  have HF : Aside0 (ownPostG W4.heap.size (impl_coordsOf.Kp w.heap.size (w.heap.size + 1 + 1 + 1)) (fun pre W => Boxed W w.heap.size 2 (.int .i64 (impl_coordsOf.run l0 a1 (pre.map (·.val))).1) ∧ impl_coordsOf.Row (w.heap.size + 1) (impl_coordsOf.run l0 a1 (pre.map (·.val))).2 W ∧ Boxed W (w.heap.size + 1 + 1) 36 (.slice (some ⟨w.heap.size + 1, 0, none⟩) l0.length l0.length) ∧ Below w.heap.size w W)
   (fun _ _ _ => False) (pre ++ [x]) W .normal { tmps := #[], defers := [] } ((W.setCell ⟨w.heap.size + 1, l0.length - 1 - x.val, none⟩ (.int .i64 (Int.tmod st.1 dv))).setCell ⟨w.heap.size, 0, none⟩ (.int .i64 (wrap64 (Int.tdiv st.1 dv)))).drew) := by
   constructor
   refine ⟨(((KeepsOthers.setCell W _ _).trans (KeepsOthers.setCell _ _ _)).trans (impl_coordsOf.ko_drew _)).from _, ⟨(((Below.refl w.heap.size W).setCell (p := ⟨w.heap.size + 1, l0.length - 1 - x.val, none⟩) (Nat.le_succ _) _).setCell (p := ⟨w.heap.size, 0, none⟩) (Nat.le_refl _) _).drew, fun cs t fr h => ?_⟩, ?_, ?_, ?_, ((hB.setCell (p := ⟨w.heap.size + 1, l0.length - 1 - x.val, none⟩) (Nat.le_succ _) _).setCell (p := ⟨w.heap.size, 0, none⟩) (Nat.le_refl _) _).drew⟩
   · exact (Below.heap_setCell _ ⟨w.heap.size, 0, none⟩ _ _ (by show w.heap.size + 1 + 1 + 1 ≠ w.heap.size; omega)).trans ((Below.heap_setCell W ⟨w.heap.size + 1, l0.length - 1 - x.val, none⟩ _ _ (by show w.heap.size + 1 + 1 + 1 ≠ w.heap.size + 1; omega)).trans h)
   · rw [hst]
     have h : Boxed (W.setCell ⟨w.heap.size + 1, l0.length - 1 - x.val, none⟩ (.int .i64 (Int.tmod st.1 dv))) w.heap.size 2 (.int .i64 st.1) := (Below.heap_setCell W ⟨w.heap.size + 1, l0.length - 1 - x.val, none⟩ _ _ (by show w.heap.size ≠ w.heap.size + 1; omega)).trans hb0
     exact h.set _
   · rw [hst]
     exact (Below.heap_setCell _ ⟨w.heap.size, 0, none⟩ _ _ (by show w.heap.size + 1 ≠ w.heap.size; omega)).trans (hrow.set _ _)
   · exact (Below.heap_setCell _ ⟨w.heap.size, 0, none⟩ _ _ (by show w.heap.size + 1 + 1 ≠ w.heap.size; omega)).trans ((Below.heap_setCell W ⟨w.heap.size + 1, l0.length - 1 - x.val, none⟩ _ _ (by show w.heap.size + 1 + 1 ≠ w.heap.size + 1; omega)).trans hb2)
  clear hb0 hrow hb2 hB hst
  gi_wp2
  gi_region
  gi_wp2
  all_goals exact HF.out
 case done =>
  rintro D ys W hD rfl ⟨hb0, hrow, hb2, hB⟩ hK
  have hc2 := hb2.cell
  have hall : (impl_coordsOf.upto l0 l0.length).map (·.val) = List.range l0.length := by
   unfold impl_coordsOf.upto
   rw [List.take_of_length_le (by simp)]
   apply List.ext_getElem <;> simp
  rw [hall] at hrow
  have hlen2 := impl_coordsOf.run_length l0 a1 (List.range l0.length)
  gi_wp2
  refine ⟨by simp, .inl ⟨_, _, rfl, run_takeDeferred hK, ?_⟩⟩
  have hrow' := hrow.kept (grownBy_putObj' W D (.deferred none)) (impl_coordsOf.cells_ne (B := 0) hrow (fun r e => by cases e; exact ⟨Nat.zero_le _, _, hK, rfl⟩))
  refine ⟨_, results_tmp rfl _ _ _, _, rfl, Kd.R_of_own (enc := Value.int .i64) (h1 := fun _ => rfl) ?_ (fun _ _ => trivial), hB.trans (belowK_b (w := w) (Nat.le_refl _) W D _ _ (by omega) hK rfl rfl)⟩
  refine ⟨by simp [encs], .inr ⟨w.heap.size + 1, l0.length, _, by rw [hlen2]; rfl, Nat.le_succ _, hrow', by omega, by unfold maxLen; omega, by simp; omega, ?_⟩⟩
  rw [Nat.mul_one, List.take_of_length_le (by simp)]
  simp [encs]
 case stop =>
  rintro D c pre W _ _ h _
  exact h.elim
theorem impl_coordsOf.calls (A0 : Option Addr) (c0 : Nat) (l0 : List Int) (a1 : Int) (r : List Int) (w : World) (C0 : Cm (Kd.int .i64) w A0 c0 l0) (h : impl_coordsOf.f l0 a1 = some r) :
 Calls Try.prog 85 #[.slice A0 l0.length c0, .int .i64 a1] w fun e w' => ∃ v0_ : Value, e = .returned (v0_) ∧ Kd.R (Kd.int .i64) 2 w' w.heap.size (fun _ => True) v0_ r ∧ Below w.heap.size w w' := by
 have HR0 := yD C0.r; have HC0 := yD C0.h
 unfold impl_coordsOf.f at h
 split at h
 · rename_i hc
   obtain rfl := Option.some.inj h
   exact callsIn_wide.1 (impl_coordsOf.main Fence.wide 3 trivial trivial trivial rfl (by omega) A0 c0 l0 a1 w C0.r hc.1 hc.2)
 · cases h
end

/-! ### slices_Clone_int64_int64_isnil: function 74 -/
def slices_Clone_int64_int64_isnil.f (l0 : List Int) : Option (List Int) := some ([] : List Int)
theorem slices_Clone_int64_int64_isnil.calls (c0 : Nat) (l0 : List Int) (r : List Int) (w : World) (hr0 : Kd.C (Kd.int .i64) w none l0.length l0) (hc0 : l0.length ≤ c0) (h : slices_Clone_int64_int64_isnil.f l0 = some r) :
 Calls Try.prog 74 #[.slice none l0.length c0] w fun e w' => ∃ v0_ : Value, e = .returned (v0_) ∧ Kd.R (Kd.int .i64) 2 w' w.heap.size (fun _ => True) v0_ r ∧ Below w.heap.size w w' := by
 have HR0 := yD hr0
 have HC0 := yD hc0
 clear hr0 hc0
 have HB := yD (Below.refl w.heap.size w)
 have H : (some ([] : List Int)) = some r := h
 clear h; obtain rfl := sJ H; have q_ : ∀ (w : World) (a : Option Addr) (n c n' c' : Nat), (binOp .eql 36 (.slice a n c) (.slice none n' c')).run Try.prog w = .ok (.bool a.isNone) w := fun w a n c n' c' => Lib.run_eql_slice_nil w _ _ a n c n' c' Try.underlying36; go_enter Try.func74, Try.ntmps74
 go_wp2
 go_ret
 exact ⟨_, kE, by first | exact Kd.R_nil _ _ _ _ _ | exact Kd.N_nil _ _ _ _ _ | exact Kd.V_nil _ _ _ _ _ | exact Kd.Q_nil _ _ _ _ _ | exact Kd.S_nil _ _ _ _ _, kR1 HB⟩
/-! ### slices_Clone_int64_int64_nn: function 74 -/
def slices_Clone_int64_int64_nn.f (l0 : List Int) : Option (List Int) := (some (([] : List Int) : List Int)).bind fun y524 => (if y524.length + l0.length < 17592186044416 then (some (y524 ++ l0)) else (none))
theorem slices_Clone_int64_int64_nn.calls (A0 : Addr) (c0 : Nat) (l0 : List Int) (r : List Int) (w : World) (hr0 : Kd.C (Kd.int .i64) w (some A0) l0.length l0) (hc0 : l0.length ≤ c0) (h : slices_Clone_int64_int64_nn.f l0 = some r) :
 Calls Try.prog 74 #[.slice (some A0) l0.length c0] w fun e w' => ∃ v0_ : Value, e = .returned (v0_) ∧ Kd.R (Kd.int .i64) 2 w' w.heap.size (fun _ => True) v0_ r ∧ Below w.heap.size w w' := by
 have HR0 := yD hr0
 have HC0 := yD hc0
 clear hr0 hc0
 have HB := yD (Below.refl w.heap.size w)
 have H : ((some (([] : List Int) : List Int)).bind fun y524 => (if y524.length + l0.length < 17592186044416 then (some (y524 ++ l0)) else (none))) = some r := h
 clear h
 obtain ⟨y524, hy524⟩ : ∃ y_ : List Int, y_ = (([] : List Int)) := ⟨_, rfl⟩
 replace H : (if y524.length + l0.length < 17592186044416 then (some (y524 ++ l0)) else (none)) = some r := by first | (rw [hy524]; with_reducible exact H) | (have H2_ := (Option.bind_some _ _).symm.trans H; rw [hy524]; with_reducible exact H2_) | (have H2_ := (Option.bind_some _ _).symm.trans H; with_reducible exact H2_) | with_reducible exact H | (rw [hy524]; exact H) | exact H
 have Ny524 := yD hy524
 clear hy524
 replace ⟨LMc2, H⟩ := sM H
 obtain ⟨y527, hy527⟩ : ∃ y_ : List Int, y_ = (y524 ++ l0) := ⟨_, rfl⟩
 replace H : (some y527) = some r := by first | (rw [hy527]; with_reducible exact H) | (have H2_ := (Option.bind_some _ _).symm.trans H; rw [hy527]; with_reducible exact H2_) | (have H2_ := (Option.bind_some _ _).symm.trans H; with_reducible exact H2_) | with_reducible exact H | (rw [hy527]; exact H) | exact H
 have Ny527 := yD hy527
 clear hy527; obtain rfl := sJ H; have q_ : ∀ (w : World) (a : Option Addr) (n c n' c' : Nat), (binOp .eql 36 (.slice a n c) (.slice none n' c')).run Try.prog w = .ok (.bool a.isNone) w := fun w a n c n' c' => Lib.run_eql_slice_nil w _ _ a n c n' c' Try.underlying36; go_enter Try.func74, Try.ntmps74
 go_wp2_with (first | ((with_reducible refine gate_dst (N := 5) rfl ?_); refine Kd.R_lit (Kd.int .i64) _ 2 ?hg (N := 5) ?hd (xs := ([] : List Int)) (inner := []) (ok := fun _ => True) (okp := fun _ => True) ?hr ?hp (fun _ hk => hk) trivial (Below.refl _ _) (Nat.le_refl _) (by simp) ?_; (case hd => rfl); (case hg => rfl); (case hr => first | (go_simp; done) | (go_simp; rfl)); (case hp => exact (Reps.none _ _)); intro v525 w3 ho4 hb hg_ hnew_; clear hg_ hnew_; (first | rw [← Ny524.out] at ho4 | (simp only [Int.reduceToNat] at ho4; rw [← Ny524.out] at ho4)); have HO526 := yD (yZ ho4 (below_size (kB HB))); replace HB := zX HB hb; clear hb ho4) | ((with_reducible refine gate_builtin (b := .append) (xs := #[.tmp 5, .tmp 6]) rfl ?_); at_builtin; refine Kd.R_append_rows (Kd.int .i64) (w0 := w) w.heap.size rfl (.tmp 5) (.tmp 6) 36 2 (.int .i64 0) 8 rfl Try.underlying36 info2 rfl (by decide) (by omega) v525 y524 l0 _ _ _ (fun _ => True) (fun _ => False) rfl rfl ?aO ?aR (fun _ _ h => h) (fun _ h => h.elim) ?aF ?aB ?aS ?aL ?_; (case aR => exact kV (yY HR0.out HB.out)); (case aB => exact (kB HB)); (case aF => exact (fun _ _ => trivial)); (case aO => exact (kA HO526)); (case aS => exact (below_size (kB HB))); (case aL => have := LMc2.out; omega); intro v528 w5 ho hb hg hat; rw [← Ny527.out] at ho; replace HB := yD (hb); have HO529 := yD (ho); clear HO526; clear ho hb hg hat))
 go_ret
 exact ⟨_, kE, kA HO529, kR1 HB⟩

/-! ### slices_Clone_int64_int64: function 74 -/
def slices_Clone_int64_int64.f (l0 : List Int) : Option (List Int) := slices_Clone_int64_int64_nn.f l0
theorem slices_Clone_int64_int64.calls (A0 : Option Addr) (c0 : Nat) (l0 : List Int) (r : List Int) (w : World) (C0 : Cm (Kd.int .i64) w A0 c0 l0) (h : slices_Clone_int64_int64.f l0 = some r) :
 Calls Try.prog 74 #[.slice A0 l0.length c0] w fun e w' => ∃ v0_ : Value, e = .returned (v0_) ∧ Kd.R (Kd.int .i64) 2 w' w.heap.size (fun _ => True) v0_ r ∧ Below w.heap.size w w' := by
 have HR0 := yD C0.r; have HC0 := yD C0.h
 cases A0 with
 | some A0 => exact slices_Clone_int64_int64_nn.calls A0 c0 l0 r w C0.r C0.h h
 | none =>
  have hz : l0 = [] := by
   cases l0 with
   | nil => rfl
   | cons x xs => obtain ⟨ad, e, _⟩ := C0.r.2.2 (by simp); cases e
  subst hz
  have hr : r = [] := by
   have h' := h
   unfold slices_Clone_int64_int64.f slices_Clone_int64_int64_nn.f at h'
   simp at h'
   exact h'
  subst hr
  exact slices_Clone_int64_int64_isnil.calls c0 [] [] w C0.r C0.h rfl

/-! ### impl_either: function 57 -/
def impl_either.f (a0 : Bool) (a1 : Bool) : Option (Bool) := if a0 = true then (some true) else (some a1)
theorem impl_either.calls (a0 : Bool) (a1 : Bool) (r : Bool) (w : World) (h : impl_either.f a0 a1 = some r) :
 Calls Try.prog 57 #[.bool a0, .bool a1] w fun e w' => e = .returned (.bool r) ∧ Drawn0 w w' := by
 have H : (if a0 = true then (some true) else (some a1)) = some r := h
 clear h
 replace H := sS H; rcases H with ⟨rfl, H⟩ | ⟨rfl, H⟩
 ·
  obtain rfl := sJ H; go_enter Try.func57, Try.ntmps57
  go_wp2
  go_ret
  exact ⟨by first | rfl | (simp; done) | (simp [*]; done), by repeat (first | exact Drawn0.refl _ | apply Drawn0.step)⟩
 obtain rfl := sJ H; go_enter Try.func57, Try.ntmps57
 go_wp2
 go_ret
 exact ⟨by first | rfl | (simp; done) | (simp [*]; done), by repeat (first | exact Drawn0.refl _ | apply Drawn0.step)⟩

/-! ### impl_section: function 123 -/
def impl_section.l0 : Nat → Int → List (S42) → List (S42) → Int → Int → Option ((List (S42)))
 | 0, _, _, _, _, _ => none
 | k + 1, x1, x5, x8, x9, x10 => if x10 < x9 then (if 0 ≤ x10 then (if x10 < (x8.length : Int) then (if 0 < (((rd_T42 x8 x10).f0).length : Int) then (if 0 < (((rd_T42 x8 x10).f1).length : Int) then ((impl_within.f x1 (rd ((rd_T42 x8 x10).f0) 0) (wrap64 ((rd ((rd_T42 x8 x10).f1) 0) - 1))).bind fun t534 => (if t534 = true then (if 1 ≤ (((rd_T42 x8 x10).f0).length : Int) then (if 1 ≤ (((rd_T42 x8 x10).f1).length : Int) then (if x5.length < 2932031007402 then (impl_section.l0 k x1 (x5 ++ [(⟨(((rd_T42 x8 x10).f0).drop 1), (((rd_T42 x8 x10).f1).drop 1)⟩ : S42)]) x8 x9 (wrap64 (x10 + 1))) else (none)) else (none)) else (none)) else (impl_section.l0 k x1 x5 x8 x9 (wrap64 (x10 + 1))))) else (none)) else (none)) else (none)) else (none)) else (some x5)
def impl_section.f (k : Nat) (l0 : List (S42)) (a1 : Int) : Option ((List (S42))) := impl_section.l0 k a1 ([] : List (S42)) l0 (l0.length : Int) 0
def impl_section.T5 : Bool × List (List Nat × List Nat) := (true, [([], []), ([], []), ([1], [1]), ([2], [2]), ([3], [3]), ([], []), ([5], [5]), ([6], [6]), ([7], [7]), ([8], [8]), ([0, 4, 9], [0, 4, 9])])
def impl_section.B5 : List Nat := [0, 0, 2, 6, 14, 0, 32, 96, 224, 480, 1023]
theorem impl_section.tab5 : rtab .any (opsOf Try.f123 5) = impl_section.T5 := by kernel_rfl
theorem impl_section.bits5 : waitsOk impl_section.T5.2 impl_section.B5 = true := by kernel_rfl
def impl_section.T6 : Bool × List (List Nat × List Nat) := (true, [([], []), ([], []), ([1], [1]), ([2], [2]), ([], []), ([4], [4]), ([5], [5]), ([3, 6], [3, 6]), ([7], [7]), ([0, 8], [0, 8]), ([9, 9, 0, 1, 2, 3, 4, 5, 6, 7, 8, 9], [0, 9])])
def impl_section.B6 : List Nat := [0, 0, 2, 6, 0, 16, 48, 126, 254, 511, 1023]
theorem impl_section.tab6 : rtab .any (opsOf Try.f123 6) = impl_section.T6 := by kernel_rfl
theorem impl_section.bits6 : waitsOk impl_section.T6.2 impl_section.B6 = true := by kernel_rfl
theorem impl_section.calls (k : Nat) (P0_ : Nat → Prop) (A0 : Option Addr) (c0 : Nat) (l0 : List (S42)) (a1 : Int) (r : List (S42)) (w : World) (hs0 : Kd.V k42 42 w w.heap.size (fun k_ => P0_ k_) (.slice A0 l0.length c0) l0) (h : impl_section.f k l0 a1 = some r) :
 Calls Try.prog 123 #[.slice A0 l0.length c0, .int .i64 a1] w fun e w' => ∃ v0_ : Value, e = .returned (v0_) ∧ Kd.V k42 42 w' w.heap.size (fun k_ => (P0_ k_ ∨ w.heap.size ≤ k_)) v0_ r ∧ Below w.heap.size w w' := by
 have hu42 := Try.underlying42
 have HO0 := yD (show Kd.V k42 42 w w.heap.size (fun k_ => (P0_ k_ ∨ w.heap.size ≤ k_)) (.slice A0 l0.length c0) l0 from Kd.V_mono hs0 (fun k_ hk => .inl hk))
 have HB := yD (Below.refl w.heap.size w)
 have H : (impl_section.l0 k a1 ([] : List (S42)) l0 (l0.length : Int) 0) = some r := h
 clear h
 have H' := yD H
 clear H; go_enter Try.func123, Try.ntmps123
 go_wp2
 go_loopg [5, 10] k (fun kq v5 v10 w' => ∃ (x5_1 : List (S42)) (x10_1 : Int), v10 = .int .i64 x10_1 ∧ Aside0 (impl_section.l0 kq a1 x5_1 l0 (l0.length : Int) x10_1 = some r) ∧ Aside0 (kq ≤ k) ∧ Aside0 (Kd.N k42 42 w' w.heap.size (fun k_ => (P0_ k_ ∨ w.heap.size ≤ k_)) v5 x5_1) ∧ Aside0 (Kd.V k42 42 w' w.heap.size (fun k_ => (P0_ k_ ∨ w.heap.size ≤ k_) ∧ oB v5 k_) (.slice A0 l0.length c0) l0) ∧ Aside0 (Below w.heap.size w w'))
 case atStart => exact ⟨(([] : List (S42))), (0), kF, H', ⟨Nat.le_refl _⟩, ⟨by first | exact Kd.S_nil _ _ _ _ _ | exact Kd.N_nil _ _ _ _ _ | exact Kd.V_nil _ _ _ _ _ | exact Kd.Q_nil _ _ _ _ _ | exact Kd.R_nil _ _ _ _ _⟩, ⟨mV HO0 (fun _ hk => ⟨hk, (by simp [oB, Value.ownBlock])⟩)⟩, ⟨kR1 HB⟩⟩
 case round =>
  clear H'
  obtain ⟨x5_1, x10_1, rfl, HA, HK1, HO_5, HO_8, HB⟩ := hrel
  cases gk with
  | zero => exact absurd HA.out (by simp [impl_section.l0])
  | succ k1 =>
   have H := HA.out; clear HA
   simp only [impl_section.l0] at H
   replace H := sG H; rcases H with ⟨c3b0, H⟩ | ⟨c3b0, H⟩
   · obtain rfl := sJ H
     go_wp2
     go_ret
     exact ⟨_, kE, Kd.N_V (kQ HO_5), kR1 HB⟩
   replace ⟨c4b0, H⟩ := sE H
   replace ⟨c5b0, H⟩ := sE H
   replace ⟨c6, H⟩ := sD H
   have c6b0 : decide (0 < (((rd_T42 l0 x10_1).f0).length : Int)) = true := zR c6
   have c6b1 : decide (0 < ((rd_T42 l0 x10_1).f0).length) = true := zR (by omega)
   clear c6
   replace ⟨c7, H⟩ := sD H
   have c7b0 : decide (0 < (((rd_T42 l0 x10_1).f1).length : Int)) = true := zR c7
   have c7b1 : decide (0 < ((rd_T42 l0 x10_1).f1).length) = true := zR (by omega)
   clear c7
   replace ⟨t534, A8, H⟩ := sV H
   replace H := sS H; rcases H with ⟨rfl, H⟩ | ⟨rfl, H⟩
   ·
    have H' := yD H
    clear H
    have p530 : 0 ≤ (x10_1 : Int) := zP (by assumption)
    have q530 : x10_1 < (l0.length : Int) := zP (by assumption)
    obtain ⟨ad530, A530_0, c530_0, A530_1, c530_1, e530, hx530_0, hx530_1, HC530_0, HR530_0, HC530_1, HR530_1⟩ := at_T42 (Kd.V_reads' HO_8.out).2.2 x10_1 p530 q530
    cases e530
    obtain ⟨ce530, hce530, hMe530, hcc530⟩ := Kd.V_get HO_8.out z42 x10_1 p530 (by first | exact q530 | exact zP (by assumption) | (have e_ := (Kd.V_reads' HO_8.out).1; omega))
    obtain ⟨ua530_0, uc530_0, ua530_1, uc530_1, rfl, ul530_0, ge530_0, ul530_1, ge530_1⟩ := k42_openF hMe530
    have hv530_0 := hcc530 0 _ rfl
    rw [Nat.add_zero] at hv530_0
    replace hv530_0 := Option.some.inj (hv530_0.symm.trans hx530_0)
    injection hv530_0 with hva_ hvn_ hvc_
    rw [hva_] at ge530_0
    rw [hvc_] at ul530_0
    have HL530_0 := yD (show Kd.V (Kd.int .i64) 2 _ w.heap.size _ _ ((rd_T42 l0 x10_1).f0) from Kd.V_mk ul530_0 ge530_0)
    clear hva_ hvn_ hvc_ ge530_0 ul530_0
    have hv530_1 := hcc530 1 _ rfl
    rw [add_field _ _ 1 (by omega)] at hv530_1
    replace hv530_1 := Option.some.inj (hv530_1.symm.trans hx530_1)
    injection hv530_1 with hva_ hvn_ hvc_
    rw [hva_] at ge530_1
    rw [hvc_] at ul530_1
    have HL530_1 := yD (show Kd.V (Kd.int .i64) 2 _ w.heap.size _ _ ((rd_T42 l0 x10_1).f1) from Kd.V_mk ul530_1 ge530_1)
    clear hva_ hvn_ hvc_ ge530_1 ul530_1 hcc530 hce530
    replace p530 := eq_true p530; replace q530 := eq_true q530
    try go_wp2_with (first | ((with_reducible refine gate_dst (N := 7) rfl ?_); refine bE (N := 7) (cs := #[.slice none 0 0, .slice none 0 0]) (t := 42) ?_; intro gb531 hg w21 hbox hb; replace HO_5 := yD (Kd.N_below (Kd.N_elderB (kQ HO_5) gb531 (Nat.le_of_eq hg.symm)) hb); replace HO_8 := yD (Kd.V_below (Kd.V_elderB (kU HO_8) gb531 (Nat.le_of_eq hg.symm)) hb); replace HL530_0 := yD (Kd.V_below (Kd.V_elderB (kU HL530_0) gb531 (Nat.le_of_eq hg.symm)) hb); replace HL530_1 := yD (Kd.V_below (Kd.V_elderB (kU HL530_1) gb531 (Nat.le_of_eq hg.symm)) hb); replace HR530_0 := yD (yY (by repeat (first | (with_reducible exact HR530_0.out) | (with_reducible first | refine yV ?_ _ | refine yW ?_ _ | refine yX ?_) | exact HR530_0.out)) hb); replace HR530_1 := yD (yY (by repeat (first | (with_reducible exact HR530_1.out) | (with_reducible first | refine yV ?_ _ | refine yW ?_ _ | refine yX ?_) | exact HR530_1.out)) hb); have BK531 := yD (hbox); have GW531 := sW hg HB; replace HB := zX HB hb; clear hb hbox hg; have := cf2_ BK531.out))
    have n0_ : Aside0 (Kd.N k42 42 ((w21.setCell ⟨gb531, 0, none⟩ (.slice A530_0 ((rd_T42 l0 x10_1).f0).length c530_0)).setCell ⟨gb531, 1, none⟩ (.slice A530_1 ((rd_T42 l0 x10_1).f1).length c530_1)) w.heap.size (fun k_ => (P0_ k_ ∨ w.heap.size ≤ k_) ∧ k_ ≠ gb531) u5 x5_1) := ⟨by (with_reducible repeat (first | apply Kd.N_alloc | apply Kd.N_drewN | apply Kd.N_drew)); exact Kd.N_mono (Kd.N_far (p := ⟨gb531, 1, none⟩) (Kd.N_far (p := ⟨gb531, 0, none⟩) (Kd.N_mono HO_5.out (fun k_ hk => (⟨hk, hk.2⟩ : _ ∧ k_ ≠ gb531))) (fun _ hk => hk.2) (.slice A530_0 ((rd_T42 l0 x10_1).f0).length c530_0)) (fun _ hk => hk.2) (.slice A530_1 ((rd_T42 l0 x10_1).f1).length c530_1)) (fun _ hk => ⟨hk.1.1, hk.1.2⟩)⟩
    have n1_ : Aside0 (Kd.V k42 42 ((w21.setCell ⟨gb531, 0, none⟩ (.slice A530_0 ((rd_T42 l0 x10_1).f0).length c530_0)).setCell ⟨gb531, 1, none⟩ (.slice A530_1 ((rd_T42 l0 x10_1).f1).length c530_1)) w.heap.size (fun k_ => (P0_ k_ ∨ w.heap.size ≤ k_) ∧ oB u5 k_ ∧ k_ ≠ gb531) (.slice (some ad530) l0.length c0) l0) := ⟨by (with_reducible repeat (first | apply Kd.V_alloc | apply Kd.V_drewN | apply Kd.V_drew)); exact Kd.V_mono (Kd.V_far (p := ⟨gb531, 1, none⟩) (Kd.V_far (p := ⟨gb531, 0, none⟩) (Kd.V_mono HO_8.out (fun k_ hk => (⟨hk, hk.2⟩ : _ ∧ k_ ≠ gb531))) (fun _ hk => hk.2) (.slice A530_0 ((rd_T42 l0 x10_1).f0).length c530_0)) (fun _ hk => hk.2) (.slice A530_1 ((rd_T42 l0 x10_1).f1).length c530_1)) (fun _ hk => ⟨hk.1.1.1, ⟨hk.1.1.2, hk.1.2⟩⟩)⟩
    have n2_ : Aside0 (Kd.V (Kd.int .i64) 2 ((w21.setCell ⟨gb531, 0, none⟩ (.slice A530_0 ((rd_T42 l0 x10_1).f0).length c530_0)).setCell ⟨gb531, 1, none⟩ (.slice A530_1 ((rd_T42 l0 x10_1).f1).length c530_1)) w.heap.size (fun k_ => (P0_ k_ ∨ w.heap.size ≤ k_) ∧ oB u5 k_ ∧ k_ ≠ gb531) (.slice A530_0 ((rd_T42 l0 x10_1).f0).length c530_0) ((rd_T42 l0 x10_1).f0)) := ⟨by (with_reducible repeat (first | apply Kd.V_alloc | apply Kd.V_drewN | apply Kd.V_drew)); exact Kd.V_mono (Kd.V_far (p := ⟨gb531, 1, none⟩) (Kd.V_far (p := ⟨gb531, 0, none⟩) (Kd.V_mono HL530_0.out (fun k_ hk => (⟨hk, hk.2⟩ : _ ∧ k_ ≠ gb531))) (fun _ hk => hk.2) (.slice A530_0 ((rd_T42 l0 x10_1).f0).length c530_0)) (fun _ hk => hk.2) (.slice A530_1 ((rd_T42 l0 x10_1).f1).length c530_1)) (fun _ hk => ⟨hk.1.1.1, ⟨hk.1.1.2, hk.1.2⟩⟩)⟩
    have n3_ : Aside0 (Kd.V (Kd.int .i64) 2 ((w21.setCell ⟨gb531, 0, none⟩ (.slice A530_0 ((rd_T42 l0 x10_1).f0).length c530_0)).setCell ⟨gb531, 1, none⟩ (.slice A530_1 ((rd_T42 l0 x10_1).f1).length c530_1)) w.heap.size (fun k_ => (P0_ k_ ∨ w.heap.size ≤ k_) ∧ oB u5 k_ ∧ k_ ≠ gb531) (.slice A530_1 ((rd_T42 l0 x10_1).f1).length c530_1) ((rd_T42 l0 x10_1).f1)) := ⟨by (with_reducible repeat (first | apply Kd.V_alloc | apply Kd.V_drewN | apply Kd.V_drew)); exact Kd.V_mono (Kd.V_far (p := ⟨gb531, 1, none⟩) (Kd.V_far (p := ⟨gb531, 0, none⟩) (Kd.V_mono HL530_1.out (fun k_ hk => (⟨hk, hk.2⟩ : _ ∧ k_ ≠ gb531))) (fun _ hk => hk.2) (.slice A530_0 ((rd_T42 l0 x10_1).f0).length c530_0)) (fun _ hk => hk.2) (.slice A530_1 ((rd_T42 l0 x10_1).f1).length c530_1)) (fun _ hk => ⟨hk.1.1.1, ⟨hk.1.1.2, hk.1.2⟩⟩)⟩
    have n4_ : Aside0 (((w21.setCell ⟨gb531, 0, none⟩ (.slice A530_0 ((rd_T42 l0 x10_1).f0).length c530_0)).setCell ⟨gb531, 1, none⟩ (.slice A530_1 ((rd_T42 l0 x10_1).f1).length c530_1)).heap[gb531]? = some (.cells #[.slice A530_0 ((rd_T42 l0 x10_1).f0).length c530_0, .slice A530_1 ((rd_T42 l0 x10_1).f1).length c530_1] 42 (0, 0))) := ⟨by (with_reducible repeat (first | refine yM ?_ _ | refine yO ?_ | refine yN ?_ _)); exact bA2_ BK531.out⟩
    have n5_ : Aside0 (Below w.heap.size w ((w21.setCell ⟨gb531, 0, none⟩ (.slice A530_0 ((rd_T42 l0 x10_1).f0).length c530_0)).setCell ⟨gb531, 1, none⟩ (.slice A530_1 ((rd_T42 l0 x10_1).f1).length c530_1))) := ⟨kR0 HB⟩
    generalize ((w21.setCell ⟨gb531, 0, none⟩ (.slice A530_0 ((rd_T42 l0 x10_1).f0).length c530_0)).setCell ⟨gb531, 1, none⟩ (.slice A530_1 ((rd_T42 l0 x10_1).f1).length c530_1)) = w23 at n0_ n1_ n2_ n3_ n4_ n5_ ⊢
    have HO_5 := n0_; have HO_8 := n1_; have HL530_0 := n2_; have HL530_1 := n3_; have BK531 := n4_; have HB := n5_; clear n0_ n1_ n2_ n3_ n4_ n5_
    replace HO_5 := yD (Kd.N_drew HO_5.out); replace HO_8 := yD (Kd.V_drew HO_8.out); replace HL530_0 := yD (Kd.V_drew HL530_0.out); replace HL530_1 := yD (Kd.V_drew HL530_1.out); replace BK531 := yD (yO BK531.out); replace HB := yD (yP HB.out)
    have p532 : 0 ≤ (0 : Int) := (by omega)
    have q532 : 0 < (((rd_T42 l0 x10_1).f0).length : Int) := zP (by assumption)
    obtain ⟨ad532, e532, hx532_0⟩ := Kd.at_int ((Kd.V_reads' HL530_0.out).2.2) 0 p532 q532
    cases e532
    have qi532 : (0 < ((rd_T42 l0 x10_1).f0).length) = True := eq_true (by omega)
    (try rw [show ((0 : Int)).toNat = 0 from rfl] at hx532_0)
    (try rw [Addr.add_zero'] at hx532_0)
    replace p532 := eq_true p532; replace q532 := eq_true q532
    have p533 : 0 ≤ (0 : Int) := (by omega)
    have q533 : 0 < (((rd_T42 l0 x10_1).f1).length : Int) := zP (by assumption)
    obtain ⟨ad533, e533, hx533_0⟩ := Kd.at_int ((Kd.V_reads' HL530_1.out).2.2) 0 p533 q533
    cases e533
    have qi533 : (0 < ((rd_T42 l0 x10_1).f1).length) = True := eq_true (by omega)
    (try rw [show ((0 : Int)).toNat = 0 from rfl] at hx533_0)
    (try rw [Addr.add_zero'] at hx533_0)
    replace p533 := eq_true p533; replace q533 := eq_true q533
    refine s0 (m := 11) (S := fun w' => cl w' gb531 0 (.slice (some ad532) ((rd_T42 l0 x10_1).f0).length c530_0) ∧ cl w' gb531 1 (.slice (some ad533) ((rd_T42 l0 x10_1).f1).length c530_1) ∧ w'.cell? ad532 = some (.int .i64 (rd ((rd_T42 l0 x10_1).f0) 0)) ∧ w'.cell? ad533 = some (.int .i64 (rd ((rd_T42 l0 x10_1).f1) 0))) impl_section.tab5 impl_section.bits5 (ca2_ BK531.out ⟨hx532_0, hx533_0⟩) fun hHeld HT_ HW_ => ?_
    generalize w23.drew = w24 at HO_5 HO_8 HL530_0 HL530_1 BK531 HB hx532_0 hx533_0 hHeld ⊢
    refine qa 11 0 1 ?_; refine qa 11 1 3 ?_; refine qa 11 5 35 ?_; refine qc 11 2 39 hHeld ?_; refine qa 11 3 47 ?_; refine qc 11 4 63 hHeld ?_; refine qc 11 6 127 hHeld ?_; refine qa 11 7 255 ?_; refine qc 11 8 511 hHeld ?_; refine qa 11 9 1023 ?_
    refine qo 11 10 2047 (some 24) fun K hK => ?_
    refine qg Try.func106 _ (dm (impl_within.calls a1 (rd ((rd_T42 l0 x10_1).f0) 0) (wrap64 ((rd ((rd_T42 l0 x10_1).f1) 0) - 1)) false _ A8.out) fun nd => ?_)
    refine hK.out _ _ (ca2_ BK531.out ⟨hHeld.2.2.1, hHeld.2.2.2⟩) (fun hHeld => ?_)
    clear hK K
    refine nZ 24 ?_
    refine qd ?_
    try go_wp2
    go_roundg k1
    case measure => have := HK1.out; omega
    case rel => exact ⟨(x5_1), (wrap64 (x10_1 + 1)), kF, H', ⟨by have := HK1.out; omega⟩, ⟨mN HO_5 (fun _ hk => hk.1)⟩, ⟨mV HO_8 (fun _ hk => ⟨hk.1, hk.2.1⟩)⟩, ⟨kR0 HB⟩⟩
   replace ⟨c10, H⟩ := sD H
   have c10b0 := eq_true c10
   have c10b1 : decide (1 ≤ (((rd_T42 l0 x10_1).f0).length : Int)) = true := zR c10; clear c10
   generalize hy535 : ((((rd_T42 l0 x10_1).f0).drop 1) : List Int) = y535 at H
   have Ny535 := yD hy535.symm
   clear hy535
   replace ⟨c11, H⟩ := sD H
   have c11b0 := eq_true c11
   have c11b1 : decide (1 ≤ (((rd_T42 l0 x10_1).f1).length : Int)) = true := zR c11; clear c11
   generalize hy540 : ((((rd_T42 l0 x10_1).f1).drop 1) : List Int) = y540 at H
   have Ny540 := yD hy540.symm
   clear hy540
   replace ⟨LMc12, H⟩ := sM H
   generalize hy545 : ((x5_1 ++ [(⟨y535, y540⟩ : S42)]) : List (S42)) = y545 at H
   have Ny545 := yD hy545.symm
   clear hy545
   have H' := yD H
   clear H
   have p530 : 0 ≤ (x10_1 : Int) := zP (by assumption)
   have q530 : x10_1 < (l0.length : Int) := zP (by assumption)
   obtain ⟨ad530, A530_0, c530_0, A530_1, c530_1, e530, hx530_0, hx530_1, HC530_0, HR530_0, HC530_1, HR530_1⟩ := at_T42 (Kd.V_reads' HO_8.out).2.2 x10_1 p530 q530
   cases e530
   obtain ⟨ce530, hce530, hMe530, hcc530⟩ := Kd.V_get HO_8.out z42 x10_1 p530 (by first | exact q530 | exact zP (by assumption) | (have e_ := (Kd.V_reads' HO_8.out).1; omega))
   obtain ⟨ua530_0, uc530_0, ua530_1, uc530_1, rfl, ul530_0, ge530_0, ul530_1, ge530_1⟩ := k42_openF hMe530
   have hv530_0 := hcc530 0 _ rfl
   rw [Nat.add_zero] at hv530_0
   replace hv530_0 := Option.some.inj (hv530_0.symm.trans hx530_0)
   injection hv530_0 with hva_ hvn_ hvc_
   rw [hva_] at ge530_0
   rw [hvc_] at ul530_0
   have HL530_0 := yD (show Kd.V (Kd.int .i64) 2 _ w.heap.size _ _ ((rd_T42 l0 x10_1).f0) from Kd.V_mk ul530_0 ge530_0)
   clear hva_ hvn_ hvc_ ge530_0 ul530_0
   have hv530_1 := hcc530 1 _ rfl
   rw [add_field _ _ 1 (by omega)] at hv530_1
   replace hv530_1 := Option.some.inj (hv530_1.symm.trans hx530_1)
   injection hv530_1 with hva_ hvn_ hvc_
   rw [hva_] at ge530_1
   rw [hvc_] at ul530_1
   have HL530_1 := yD (show Kd.V (Kd.int .i64) 2 _ w.heap.size _ _ ((rd_T42 l0 x10_1).f1) from Kd.V_mk ul530_1 ge530_1)
   clear hva_ hvn_ hvc_ ge530_1 ul530_1 hcc530 hce530
   replace p530 := eq_true p530; replace q530 := eq_true q530
   try go_wp2_with (first | ((with_reducible refine gate_dst (N := 7) rfl ?_); refine bE (N := 7) (cs := #[.slice none 0 0, .slice none 0 0]) (t := 42) ?_; intro gb531 hg w13 hbox hb; replace HO_5 := yD (Kd.N_below (Kd.N_elderB (kQ HO_5) gb531 (Nat.le_of_eq hg.symm)) hb); replace HO_8 := yD (Kd.V_below (Kd.V_elderB (kU HO_8) gb531 (Nat.le_of_eq hg.symm)) hb); replace HL530_0 := yD (Kd.V_below (Kd.V_elderB (kU HL530_0) gb531 (Nat.le_of_eq hg.symm)) hb); replace HL530_1 := yD (Kd.V_below (Kd.V_elderB (kU HL530_1) gb531 (Nat.le_of_eq hg.symm)) hb); replace HR530_0 := yD (yY (by repeat (first | (with_reducible exact HR530_0.out) | (with_reducible first | refine yV ?_ _ | refine yW ?_ _ | refine yX ?_) | exact HR530_0.out)) hb); replace HR530_1 := yD (yY (by repeat (first | (with_reducible exact HR530_1.out) | (with_reducible first | refine yV ?_ _ | refine yW ?_ _ | refine yX ?_) | exact HR530_1.out)) hb); have BK531 := yD (hbox); have GW531 := sW hg HB; replace HB := zX HB hb; clear hb hbox hg; have := cf2_ BK531.out))
   have n0_ : Aside0 (Kd.N k42 42 ((w13.setCell ⟨gb531, 0, none⟩ (.slice A530_0 ((rd_T42 l0 x10_1).f0).length c530_0)).setCell ⟨gb531, 1, none⟩ (.slice A530_1 ((rd_T42 l0 x10_1).f1).length c530_1)) w.heap.size (fun k_ => (P0_ k_ ∨ w.heap.size ≤ k_) ∧ k_ ≠ gb531) u5 x5_1) := ⟨by (with_reducible repeat (first | apply Kd.N_alloc | apply Kd.N_drewN | apply Kd.N_drew)); exact Kd.N_mono (Kd.N_far (p := ⟨gb531, 1, none⟩) (Kd.N_far (p := ⟨gb531, 0, none⟩) (Kd.N_mono HO_5.out (fun k_ hk => (⟨hk, hk.2⟩ : _ ∧ k_ ≠ gb531))) (fun _ hk => hk.2) (.slice A530_0 ((rd_T42 l0 x10_1).f0).length c530_0)) (fun _ hk => hk.2) (.slice A530_1 ((rd_T42 l0 x10_1).f1).length c530_1)) (fun _ hk => ⟨hk.1.1, hk.1.2⟩)⟩
   have n1_ : Aside0 (Kd.V k42 42 ((w13.setCell ⟨gb531, 0, none⟩ (.slice A530_0 ((rd_T42 l0 x10_1).f0).length c530_0)).setCell ⟨gb531, 1, none⟩ (.slice A530_1 ((rd_T42 l0 x10_1).f1).length c530_1)) w.heap.size (fun k_ => (P0_ k_ ∨ w.heap.size ≤ k_) ∧ oB u5 k_ ∧ k_ ≠ gb531) (.slice (some ad530) l0.length c0) l0) := ⟨by (with_reducible repeat (first | apply Kd.V_alloc | apply Kd.V_drewN | apply Kd.V_drew)); exact Kd.V_mono (Kd.V_far (p := ⟨gb531, 1, none⟩) (Kd.V_far (p := ⟨gb531, 0, none⟩) (Kd.V_mono HO_8.out (fun k_ hk => (⟨hk, hk.2⟩ : _ ∧ k_ ≠ gb531))) (fun _ hk => hk.2) (.slice A530_0 ((rd_T42 l0 x10_1).f0).length c530_0)) (fun _ hk => hk.2) (.slice A530_1 ((rd_T42 l0 x10_1).f1).length c530_1)) (fun _ hk => ⟨hk.1.1.1, ⟨hk.1.1.2, hk.1.2⟩⟩)⟩
   have n2_ : Aside0 (Kd.V (Kd.int .i64) 2 ((w13.setCell ⟨gb531, 0, none⟩ (.slice A530_0 ((rd_T42 l0 x10_1).f0).length c530_0)).setCell ⟨gb531, 1, none⟩ (.slice A530_1 ((rd_T42 l0 x10_1).f1).length c530_1)) w.heap.size (fun k_ => (P0_ k_ ∨ w.heap.size ≤ k_) ∧ oB u5 k_ ∧ k_ ≠ gb531) (.slice A530_0 ((rd_T42 l0 x10_1).f0).length c530_0) ((rd_T42 l0 x10_1).f0)) := ⟨by (with_reducible repeat (first | apply Kd.V_alloc | apply Kd.V_drewN | apply Kd.V_drew)); exact Kd.V_mono (Kd.V_far (p := ⟨gb531, 1, none⟩) (Kd.V_far (p := ⟨gb531, 0, none⟩) (Kd.V_mono HL530_0.out (fun k_ hk => (⟨hk, hk.2⟩ : _ ∧ k_ ≠ gb531))) (fun _ hk => hk.2) (.slice A530_0 ((rd_T42 l0 x10_1).f0).length c530_0)) (fun _ hk => hk.2) (.slice A530_1 ((rd_T42 l0 x10_1).f1).length c530_1)) (fun _ hk => ⟨hk.1.1.1, ⟨hk.1.1.2, hk.1.2⟩⟩)⟩
   have n3_ : Aside0 (Kd.V (Kd.int .i64) 2 ((w13.setCell ⟨gb531, 0, none⟩ (.slice A530_0 ((rd_T42 l0 x10_1).f0).length c530_0)).setCell ⟨gb531, 1, none⟩ (.slice A530_1 ((rd_T42 l0 x10_1).f1).length c530_1)) w.heap.size (fun k_ => (P0_ k_ ∨ w.heap.size ≤ k_) ∧ oB u5 k_ ∧ k_ ≠ gb531) (.slice A530_1 ((rd_T42 l0 x10_1).f1).length c530_1) ((rd_T42 l0 x10_1).f1)) := ⟨by (with_reducible repeat (first | apply Kd.V_alloc | apply Kd.V_drewN | apply Kd.V_drew)); exact Kd.V_mono (Kd.V_far (p := ⟨gb531, 1, none⟩) (Kd.V_far (p := ⟨gb531, 0, none⟩) (Kd.V_mono HL530_1.out (fun k_ hk => (⟨hk, hk.2⟩ : _ ∧ k_ ≠ gb531))) (fun _ hk => hk.2) (.slice A530_0 ((rd_T42 l0 x10_1).f0).length c530_0)) (fun _ hk => hk.2) (.slice A530_1 ((rd_T42 l0 x10_1).f1).length c530_1)) (fun _ hk => ⟨hk.1.1.1, ⟨hk.1.1.2, hk.1.2⟩⟩)⟩
   have n4_ : Aside0 (((w13.setCell ⟨gb531, 0, none⟩ (.slice A530_0 ((rd_T42 l0 x10_1).f0).length c530_0)).setCell ⟨gb531, 1, none⟩ (.slice A530_1 ((rd_T42 l0 x10_1).f1).length c530_1)).heap[gb531]? = some (.cells #[.slice A530_0 ((rd_T42 l0 x10_1).f0).length c530_0, .slice A530_1 ((rd_T42 l0 x10_1).f1).length c530_1] 42 (0, 0))) := ⟨by (with_reducible repeat (first | refine yM ?_ _ | refine yO ?_ | refine yN ?_ _)); exact bA2_ BK531.out⟩
   have n5_ : Aside0 (Below w.heap.size w ((w13.setCell ⟨gb531, 0, none⟩ (.slice A530_0 ((rd_T42 l0 x10_1).f0).length c530_0)).setCell ⟨gb531, 1, none⟩ (.slice A530_1 ((rd_T42 l0 x10_1).f1).length c530_1))) := ⟨kR0 HB⟩
   generalize ((w13.setCell ⟨gb531, 0, none⟩ (.slice A530_0 ((rd_T42 l0 x10_1).f0).length c530_0)).setCell ⟨gb531, 1, none⟩ (.slice A530_1 ((rd_T42 l0 x10_1).f1).length c530_1)) = w15 at n0_ n1_ n2_ n3_ n4_ n5_ ⊢
   have HO_5 := n0_; have HO_8 := n1_; have HL530_0 := n2_; have HL530_1 := n3_; have BK531 := n4_; have HB := n5_; clear n0_ n1_ n2_ n3_ n4_ n5_
   replace HO_5 := yD (Kd.N_drew HO_5.out); replace HO_8 := yD (Kd.V_drew HO_8.out); replace HL530_0 := yD (Kd.V_drew HL530_0.out); replace HL530_1 := yD (Kd.V_drew HL530_1.out); replace BK531 := yD (yO BK531.out); replace HB := yD (yP HB.out)
   have p532 : 0 ≤ (0 : Int) := (by omega)
   have q532 : 0 < (((rd_T42 l0 x10_1).f0).length : Int) := zP (by assumption)
   obtain ⟨ad532, e532, hx532_0⟩ := Kd.at_int ((Kd.V_reads' HL530_0.out).2.2) 0 p532 q532
   cases e532
   have qi532 : (0 < ((rd_T42 l0 x10_1).f0).length) = True := eq_true (by omega)
   (try rw [show ((0 : Int)).toNat = 0 from rfl] at hx532_0)
   (try rw [Addr.add_zero'] at hx532_0)
   replace p532 := eq_true p532; replace q532 := eq_true q532
   have p533 : 0 ≤ (0 : Int) := (by omega)
   have q533 : 0 < (((rd_T42 l0 x10_1).f1).length : Int) := zP (by assumption)
   obtain ⟨ad533, e533, hx533_0⟩ := Kd.at_int ((Kd.V_reads' HL530_1.out).2.2) 0 p533 q533
   cases e533
   have qi533 : (0 < ((rd_T42 l0 x10_1).f1).length) = True := eq_true (by omega)
   (try rw [show ((0 : Int)).toNat = 0 from rfl] at hx533_0)
   (try rw [Addr.add_zero'] at hx533_0)
   replace p533 := eq_true p533; replace q533 := eq_true q533
   refine s0 (m := 11) (S := fun w' => cl w' gb531 0 (.slice (some ad532) ((rd_T42 l0 x10_1).f0).length c530_0) ∧ cl w' gb531 1 (.slice (some ad533) ((rd_T42 l0 x10_1).f1).length c530_1) ∧ w'.cell? ad532 = some (.int .i64 (rd ((rd_T42 l0 x10_1).f0) 0)) ∧ w'.cell? ad533 = some (.int .i64 (rd ((rd_T42 l0 x10_1).f1) 0))) impl_section.tab5 impl_section.bits5 (ca2_ BK531.out ⟨hx532_0, hx533_0⟩) fun hHeld HT_ HW_ => ?_
   generalize w15.drew = w16 at HO_5 HO_8 HL530_0 HL530_1 BK531 HB hx532_0 hx533_0 hHeld ⊢
   refine qa 11 0 1 ?_; refine qa 11 1 3 ?_; refine qa 11 5 35 ?_; refine qc 11 2 39 hHeld ?_; refine qa 11 3 47 ?_; refine qc 11 4 63 hHeld ?_; refine qc 11 6 127 hHeld ?_; refine qa 11 7 255 ?_; refine qc 11 8 511 hHeld ?_; refine qa 11 9 1023 ?_
   refine qo 11 10 2047 (some 24) fun K hK => ?_
   refine qg Try.func106 _ (dm (impl_within.calls a1 (rd ((rd_T42 l0 x10_1).f0) 0) (wrap64 ((rd ((rd_T42 l0 x10_1).f1) 0) - 1)) true _ A8.out) fun nd => ?_)
   refine hK.out _ _ (ca2_ BK531.out ⟨hHeld.2.2.1, hHeld.2.2.2⟩) (fun hHeld => ?_)
   clear hK K
   refine nZ 24 ?_
   refine qd ?_
   try go_wp2
   (try (rw [drewN_self w16]; generalize hq_ : World.drewN w16 _ = w16; have n0_ : Aside0 (Kd.V (Kd.int .i64) 2 w16 w.heap.size (fun k_ => (P0_ k_ ∨ w.heap.size ≤ k_) ∧ oB u5 k_ ∧ k_ ≠ gb531) (.slice (some ad532) ((rd_T42 l0 x10_1).f0).length c530_0) ((rd_T42 l0 x10_1).f0)) := ⟨by rw [← hq_]; exact (kU HL530_0)⟩; have n1_ : Aside0 (Kd.V (Kd.int .i64) 2 w16 w.heap.size (fun k_ => (P0_ k_ ∨ w.heap.size ≤ k_) ∧ oB u5 k_ ∧ k_ ≠ gb531) (.slice (some ad533) ((rd_T42 l0 x10_1).f1).length c530_1) ((rd_T42 l0 x10_1).f1)) := ⟨by rw [← hq_]; exact (kU HL530_1)⟩; have n2_ : Aside0 (Kd.N k42 42 w16 w.heap.size (fun k_ => (P0_ k_ ∨ w.heap.size ≤ k_) ∧ k_ ≠ gb531) u5 x5_1) := ⟨by rw [← hq_]; exact (kQ HO_5)⟩; have n3_ : Aside0 (Kd.V k42 42 w16 w.heap.size (fun k_ => (P0_ k_ ∨ w.heap.size ≤ k_) ∧ oB u5 k_ ∧ k_ ≠ gb531) (.slice (some ad530) l0.length c0) l0) := ⟨by rw [← hq_]; exact (kU HO_8)⟩; have n4_ : Aside0 (w16.heap[gb531]? = some (.cells #[.slice (some ad532) ((rd_T42 l0 x10_1).f0).length c530_0, .slice (some ad533) ((rd_T42 l0 x10_1).f1).length c530_1] 42 (0, 0))) := ⟨by rw [← hq_]; exact (kM BK531)⟩; have n5_ : Aside0 (Below w.heap.size w w16) := ⟨by rw [← hq_]; exact (kB HB)⟩; clear HL530_0 HL530_1 HO_5 HO_8 BK531 HB hq_; have HL530_0 := n0_; have HL530_1 := n1_; have HO_5 := n2_; have HO_8 := n3_; have BK531 := n4_; have HB := n5_; clear n0_ n1_ n2_ n3_ n4_ n5_))
   replace HO_5 := yD (Kd.N_drew HO_5.out); replace HO_8 := yD (Kd.V_drew HO_8.out); replace HL530_0 := yD (Kd.V_drew HL530_0.out); replace HL530_1 := yD (Kd.V_drew HL530_1.out); replace BK531 := yD (yO BK531.out); replace HB := yD (yP HB.out)
   have q18 : (1 : Int) ≤ ((((rd_T42 l0 x10_1).f0).length : Int) : Int) := zP (by assumption)
   obtain ⟨i018, hi018, _, hsz18, _⟩ := info_parts info2
   have hroom18 : ((rd_T42 l0 x10_1).f0).length ≤ c530_0 := HC530_0.out
   have hC18 : Kd.F (Kd.int .i64) _ _ (some ad532) ((rd_T42 l0 x10_1).f0).length ((rd_T42 l0 x10_1).f0) := (Kd.V_at (base := w.heap.size) HL530_0.out).2.2
   have hcut18 := cut_from (P := Try.prog) 36 2 .i64 Try.underlying36 hi018 1 hsz18 (some ad532) ((rd_T42 l0 x10_1).f0).length c530_0 1 (by omega) q18
   have hr18 := Kd.F_cut (m := (1 : Int).toNat) (c := c530_0) hC18 (by omega) hroom18
   obtain ⟨A18, hA18⟩ : ∃ A1, A1 = (if c530_0 = (1 : Int).toNat then (some ad532) else ((some ad532) : Option Addr).map (·.add ((1 : Int).toNat * 1))) := ⟨_, rfl⟩
   obtain ⟨c18, hc18⟩ : ∃ c1, c1 = c530_0 - (1 : Int).toNat := ⟨_, rfl⟩
   have hy18 : y535.length = ((rd_T42 l0 x10_1).f0).length - (1 : Int).toNat := (by rw [Ny535.out, zN] <;> omega)
   rw [show ((rd_T42 l0 x10_1).f0).drop (1 : Int).toNat = y535 from Ny535.out.symm] at hr18
   replace hr18 : Kd.F (Kd.int .i64) _ _ A18 y535.length y535 := (by rw [hA18]; exact hr18)
   rw [← hy18, ← hA18, ← hc18] at hcut18
   have HO539 := yD (show Kd.V (Kd.int .i64) 2 _ w.heap.size _ (.slice A18 y535.length c18) y535 from Kd.V_mk (by rw [hy18, hc18]; exact Nat.sub_le_sub_right hroom18 _) hr18)
   have HC539 := yD (show y535.length ≤ c18 from by rw [hy18, hc18]; exact Nat.sub_le_sub_right hroom18 _)
   clear hr18 hC18 hroom18 hi018 hsz18 hc18
   have KY18 := yD hy18
   have KA18 := yD hA18
   clear hy18 hA18; replace q18 := eq_true q18
   have q19 : (1 : Int) ≤ ((((rd_T42 l0 x10_1).f1).length : Int) : Int) := zP (by assumption)
   obtain ⟨i019, hi019, _, hsz19, _⟩ := info_parts info2
   have hroom19 : ((rd_T42 l0 x10_1).f1).length ≤ c530_1 := HC530_1.out
   have hC19 : Kd.F (Kd.int .i64) _ _ (some ad533) ((rd_T42 l0 x10_1).f1).length ((rd_T42 l0 x10_1).f1) := (Kd.V_at (base := w.heap.size) HL530_1.out).2.2
   have hcut19 := cut_from (P := Try.prog) 36 2 .i64 Try.underlying36 hi019 1 hsz19 (some ad533) ((rd_T42 l0 x10_1).f1).length c530_1 1 (by omega) q19
   have hr19 := Kd.F_cut (m := (1 : Int).toNat) (c := c530_1) hC19 (by omega) hroom19
   obtain ⟨A19, hA19⟩ : ∃ A1, A1 = (if c530_1 = (1 : Int).toNat then (some ad533) else ((some ad533) : Option Addr).map (·.add ((1 : Int).toNat * 1))) := ⟨_, rfl⟩
   obtain ⟨c19, hc19⟩ : ∃ c1, c1 = c530_1 - (1 : Int).toNat := ⟨_, rfl⟩
   have hy19 : y540.length = ((rd_T42 l0 x10_1).f1).length - (1 : Int).toNat := (by rw [Ny540.out, zN] <;> omega)
   rw [show ((rd_T42 l0 x10_1).f1).drop (1 : Int).toNat = y540 from Ny540.out.symm] at hr19
   replace hr19 : Kd.F (Kd.int .i64) _ _ A19 y540.length y540 := (by rw [hA19]; exact hr19)
   rw [← hy19, ← hA19, ← hc19] at hcut19
   have HO544 := yD (show Kd.V (Kd.int .i64) 2 _ w.heap.size _ (.slice A19 y540.length c19) y540 from Kd.V_mk (by rw [hy19, hc19]; exact Nat.sub_le_sub_right hroom19 _) hr19)
   have HC544 := yD (show y540.length ≤ c19 from by rw [hy19, hc19]; exact Nat.sub_le_sub_right hroom19 _)
   clear hr19 hC19 hroom19 hi019 hsz19 hc19
   have KY19 := yD hy19
   have KA19 := yD hA19
   clear hy19 hA19; replace q19 := eq_true q19
   refine s0 (m := 11) (S := fun w' => cl w' gb531 0 (.slice (some ad532) ((rd_T42 l0 x10_1).f0).length c530_0) ∧ cl w' gb531 1 (.slice (some ad533) ((rd_T42 l0 x10_1).f1).length c530_1)) impl_section.tab6 impl_section.bits6 (cz2 BK531.out) fun hHeld HT_ HW_ => ?_
   generalize w16.drew = w17 at HO_5 HO_8 HL530_0 HL530_1 BK531 HB HO539 HO544 hHeld ⊢
   refine qa 11 0 1 ?_; refine qa 11 1 3 ?_; refine qa 11 4 19 ?_; refine qc 11 2 23 hHeld ?_; refine qa 11 3 31 ?_; refine qc 11 5 63 hHeld ?_; refine qa 11 6 127 ?_; refine qa 11 7 255 ?_
   refine qo 11 8 511 (some 33) fun K hK => ?_
   refine value_ (w1 := ?_) (v := ?_) (by rfl) rfl ?_ ?_
   rotate_left 2
   · go_simp
     constructor
     · rfl
     · rfl
   refine hK.out _ _ (cz2 (yN BK531.out _)) (fun hHeld => ?_)
   clear hK K
   refine nZ 33 ?_
   refine qo 11 9 1023 (some 34) fun K hK => ?_
   refine Kd.N_append_step k42 (w0 := w) w.heap.size (by rfl) (.tmp 25) (.tmp 33) 24 42 (.agg #[(.slice none 0 0), (.slice none 0 0)]) 48 rfl Try.underlying24 info42 rfl (by decide) (by omega) u5 x5_1 (⟨y535, y540⟩ : S42) [.slice A18 y535.length c18, .slice A19 y540.length c19] (fun k_ => (P0_ k_ ∨ w.heap.size ≤ k_) ∧ k_ ≠ gb531) (fun k_ => ((fun k_ => (P0_ k_ ∨ w.heap.size ≤ k_) ∧ k_ ≠ gb531)) k_ ∧ oB u5 k_) rfl rfl ?aP (fun _ hk => hk) ?aF ?aO ?aB ?aS ?aL ?_
   (case aP => exact (k42_mkF _ _ (⟨y535, y540⟩ : S42) (Kd.V_reads' (Kd.V_mono (ok' := (fun k_ => ((fun k_ => (P0_ k_ ∨ w.heap.size ≤ k_) ∧ k_ ≠ gb531)) k_ ∧ oB u5 k_)) (HO539.out) (fun k_ hk => ⟨⟨hk.1, hk.2.2⟩, hk.2.1⟩))).2.1 (Kd.V_F (Kd.V_mono (ok' := (fun k_ => ((fun k_ => (P0_ k_ ∨ w.heap.size ≤ k_) ∧ k_ ≠ gb531)) k_ ∧ oB u5 k_)) (HO539.out) (fun k_ hk => ⟨⟨hk.1, hk.2.2⟩, hk.2.1⟩))) (Kd.V_reads' (Kd.V_mono (ok' := (fun k_ => ((fun k_ => (P0_ k_ ∨ w.heap.size ≤ k_) ∧ k_ ≠ gb531)) k_ ∧ oB u5 k_)) (HO544.out) (fun k_ hk => ⟨⟨hk.1, hk.2.2⟩, hk.2.1⟩))).2.1 (Kd.V_F (Kd.V_mono (ok' := (fun k_ => ((fun k_ => (P0_ k_ ∨ w.heap.size ≤ k_) ∧ k_ ≠ gb531)) k_ ∧ oB u5 k_)) (HO544.out) (fun k_ hk => ⟨⟨hk.1, hk.2.2⟩, hk.2.1⟩)))))
   (case aB => exact (kB HB))
   (case aF => exact (fun k_ hk => ⟨(.inr (Nat.le_trans (below_size (kB HB)) hk)), Kd.freshB (g := gb531) (o := .cells #[.slice (some ad532) ((rd_T42 l0 x10_1).f0).length c530_0, .slice (some ad533) ((rd_T42 l0 x10_1).f1).length c530_1] 42 (0, 0)) (kM BK531) k_ hk⟩))
   (case aO => exact (kQ HO_5))
   (case aS => exact (below_size (kB HB)))
   (case aL => have := LMc12.out; omega)
   intro v546 w20 ho hb hg hat
   rw [← Ny545.out] at ho
   have n0_ := yD (Kd.V_afterv (ok := (fun k_ => (P0_ k_ ∨ w.heap.size ≤ k_) ∧ k_ ≠ gb531)) (mV HO_8 (fun _ hk => ⟨⟨hk.1, hk.2.2⟩, hk.2.1⟩)) hg hat)
   have n1_ := yD (Kd.V_afterv (ok := (fun k_ => (P0_ k_ ∨ w.heap.size ≤ k_) ∧ k_ ≠ gb531)) (mV HL530_0 (fun _ hk => ⟨⟨hk.1, hk.2.2⟩, hk.2.1⟩)) hg hat)
   have n2_ := yD (Kd.V_afterv (ok := (fun k_ => (P0_ k_ ∨ w.heap.size ≤ k_) ∧ k_ ≠ gb531)) (mV HL530_1 (fun _ hk => ⟨⟨hk.1, hk.2.2⟩, hk.2.1⟩)) hg hat)
   have n3_ := yD (blk_grown (g := gb531) (o := .cells #[.slice (some ad532) ((rd_T42 l0 x10_1).f0).length c530_0, .slice (some ad533) ((rd_T42 l0 x10_1).f1).length c530_1] 42 (0, 0)) (kM BK531) hg (Kd.N_away HO_5.out (fun _ hk => hk.2)))
   have n4_ := yD (Kd.V_afterv (ok := (fun k_ => (P0_ k_ ∨ w.heap.size ≤ k_) ∧ k_ ≠ gb531)) (mV HO539 (fun _ hk => ⟨⟨hk.1, hk.2.2⟩, hk.2.1⟩)) hg hat)
   have n5_ := yD (Kd.V_afterv (ok := (fun k_ => (P0_ k_ ∨ w.heap.size ≤ k_) ∧ k_ ≠ gb531)) (mV HO544 (fun _ hk => ⟨⟨hk.1, hk.2.2⟩, hk.2.1⟩)) hg hat)
   have n6_ := yD (hb)
   have n7_ := yD (ho)
   clear HO_8 HL530_0 HL530_1 BK531 HO539 HO544 HB HO_5; have HO_8 := n0_; have HL530_0 := n1_; have HL530_1 := n2_; have BK531 := n3_; have HO539 := n4_; have HO544 := n5_; have HB := n6_; have HO547 := n7_; clear n0_ n1_ n2_ n3_ n4_ n5_ n6_ n7_ ho hb hg hat
   refine hK.out _ _ (cz2 BK531.out) (fun hHeld => ?_)
   clear hK K
   refine nZ 34 ?_
   refine qa 11 10 2047 ?_
   refine qd ?_
   try go_wp2
   go_roundg k1
   case measure => have := HK1.out; omega
   case rel => exact ⟨(y545), (wrap64 (x10_1 + 1)), kF, H', ⟨by have := HK1.out; omega⟩, ⟨mN HO547 (fun _ hk => hk.1)⟩, ⟨mV HO_8 (fun _ hk => ⟨hk.1.1, hk.2⟩)⟩, ⟨kR0 HB⟩⟩

/-! ### impl_sameBox: function 69 -/
def impl_sameBox.f (k : Nat) (l0_0 : List Int) (l0_1 : List Int) (l1_0 : List Int) (l1_1 : List Int) : Option (Bool) := (slices_Equal_int64_int64.f k l0_0 l1_0).bind fun t550 => (if t550 = true then ((slices_Equal_int64_int64.f k l0_1 l1_1).bind fun t551 => (some t551)) else (some false))
theorem impl_sameBox.calls (k : Nat) (A0_0 : Option Addr) (c0_0 : Nat) (l0_0 : List Int) (A0_1 : Option Addr) (c0_1 : Nat) (l0_1 : List Int) (A1_0 : Option Addr) (c1_0 : Nat) (l1_0 : List Int) (A1_1 : Option Addr) (c1_1 : Nat) (l1_1 : List Int) (r : Bool) (w : World) (C0_0 : Cm (Kd.int .i64) w A0_0 c0_0 l0_0) (C0_1 : Cm (Kd.int .i64) w A0_1 c0_1 l0_1) (C1_0 : Cm (Kd.int .i64) w A1_0 c1_0 l1_0) (C1_1 : Cm (Kd.int .i64) w A1_1 c1_1 l1_1) (h : impl_sameBox.f k l0_0 l0_1 l1_0 l1_1 = some r) :
 Calls Try.prog 69 #[.agg #[.slice A0_0 l0_0.length c0_0, .slice A0_1 l0_1.length c0_1], .agg #[.slice A1_0 l1_0.length c1_0, .slice A1_1 l1_1.length c1_1]] w fun e w' => e = .returned (.bool r) ∧ Below w.heap.size w w' := by
 have hu42 := Try.underlying42
 have HB := yD (Below.refl w.heap.size w)
 have H : ((slices_Equal_int64_int64.f k l0_0 l1_0).bind fun t550 => (if t550 = true then ((slices_Equal_int64_int64.f k l0_1 l1_1).bind fun t551 => (some t551)) else (some false))) = some r := h
 clear h
 replace ⟨t550, A3, H⟩ := sV H
 replace H := sS H; rcases H with ⟨rfl, H⟩ | ⟨rfl, H⟩
 ·
  obtain rfl := sJ H; go_enter Try.func69, Try.ntmps69
  go_wp2_with (first | ((with_reducible refine gate_dst (N := 2) rfl ?_); refine bF (N := 2) (cs := #[.slice A0_0 l0_0.length c0_0, .slice A0_1 l0_1.length c0_1]) (t := 42) HB ?_; intro gb548 w11 BK548 GW548 HB) | ((with_reducible refine gate_dst (N := 3) rfl ?_); refine bE (N := 3) (cs := #[.slice A1_0 l1_0.length c1_0, .slice A1_1 l1_1.length c1_1]) (t := 42) ?_; intro gb549 hg w12 hbox hb; have BK549 := yD (hbox); have GW549 := sW hg HB; replace HB := zX HB hb; have NB548_549 := yD ((by rw [hg]; exact Nat.ne_of_lt (blk_lt (kN BK548)) : gb548 ≠ gb549)); have NB549_548 := yD ((by rw [hg]; exact Nat.ne_of_gt (blk_lt (kN BK548)) : gb549 ≠ gb548)); replace BK548 := zY BK548 hb; clear hb hbox hg; have hnb13 := NB548_549.out; have hnc13 := NB549_548.out; have := cf2_ BK548.out; have := cf2_ BK549.out) | ((with_reducible refine gate_callee (f := 107) rfl ?_); refine gL 9 Try.func107 _ (dm (slices_Equal_int64_int64.calls k _ _ l0_0 _ _ l1_0 false _ (C0_0.b HB) (C1_0.b HB) A3.out) fun nd => ?_)))
  go_ret
  exact ⟨kE, kR0 HB⟩
 replace ⟨t551, A5, H⟩ := sV H
 obtain rfl := sJ H; go_enter Try.func69, Try.ntmps69
 go_wp2_with (first | ((with_reducible refine gate_dst (N := 2) rfl ?_); refine bF (N := 2) (cs := #[.slice A0_0 l0_0.length c0_0, .slice A0_1 l0_1.length c0_1]) (t := 42) HB ?_; intro gb548 w6 BK548 GW548 HB) | ((with_reducible refine gate_dst (N := 3) rfl ?_); refine bE (N := 3) (cs := #[.slice A1_0 l1_0.length c1_0, .slice A1_1 l1_1.length c1_1]) (t := 42) ?_; intro gb549 hg w7 hbox hb; have BK549 := yD (hbox); have GW549 := sW hg HB; replace HB := zX HB hb; have NB548_549 := yD ((by rw [hg]; exact Nat.ne_of_lt (blk_lt (kN BK548)) : gb548 ≠ gb549)); have NB549_548 := yD ((by rw [hg]; exact Nat.ne_of_gt (blk_lt (kN BK548)) : gb549 ≠ gb548)); replace BK548 := zY BK548 hb; clear hb hbox hg; have hnb8 := NB548_549.out; have hnc8 := NB549_548.out; have := cf2_ BK548.out; have := cf2_ BK549.out) | ((with_reducible refine gate_callee (f := 107) rfl ?_); refine gL 9 Try.func107 _ (dm (slices_Equal_int64_int64.calls k _ _ l0_0 _ _ l1_0 true _ (C0_0.b HB) (C1_0.b HB) A3.out) fun nd => ?_)) | (go_at_call 107; (with_reducible refine (slices_Equal_int64_int64.calls k _ _ l0_1 _ _ l1_1 t551 _ (C0_1.b HB) (C1_1.b HB) A5.out).mono ?_); rintro e w' ⟨rfl, ⟨nd, rfl⟩⟩))
 go_ret
 exact ⟨kE, kR0 HB⟩
/-! ### slices_EqualFunc_impl_sameBox: function 68 -/
def slices_EqualFunc_impl_sameBox.l0 : Nat → List (S42) → List (S42) → Int → Int → Option (Bool)
 | 0, _, _, _, _ => none
 | k + 1, x1, x15, x16, x17 => if x17 < x16 then (if 0 ≤ x17 then (if x17 < (x15.length : Int) then (if x17 < (x1.length : Int) then ((impl_sameBox.f k ((rd_T42 x15 x17).f0) ((rd_T42 x15 x17).f1) ((rd_T42 x1 x17).f0) ((rd_T42 x1 x17).f1)).bind fun t556 => (if t556 = true then (slices_EqualFunc_impl_sameBox.l0 k x1 x15 x16 (wrap64 (x17 + 1))) else (some false))) else (none)) else (none)) else (none)) else (some true)
def slices_EqualFunc_impl_sameBox.f (k : Nat) (l0 : List (S42)) (l1 : List (S42))  : Option (Bool) := if (l0.length : Int) = (l1.length : Int) then (slices_EqualFunc_impl_sameBox.l0 k l1 l0 (l0.length : Int) 0) else (some false)
theorem slices_EqualFunc_impl_sameBox.calls (k : Nat) (A0 : Option Addr) (c0 : Nat) (l0 : List (S42)) (A1 : Option Addr) (c1 : Nat) (l1 : List (S42))  (r : Bool) (w : World) (C0 : Cm k42 w A0 c0 l0) (C1 : Cm k42 w A1 c1 l1) (h : slices_EqualFunc_impl_sameBox.f k l0 l1 = some r) :
 Calls Try.prog 68 #[.slice A0 l0.length c0, .slice A1 l1.length c1, .func (.func 69) #[] #[]] w fun e w' => e = .returned (.bool r) ∧ Below w.heap.size w w' := by
 have hu42 := Try.underlying42
 have HB := yD (Below.refl w.heap.size w)
 have H : (if (l0.length : Int) = (l1.length : Int) then (slices_EqualFunc_impl_sameBox.l0 k l1 l0 (l0.length : Int) 0) else (some false)) = some r := h
 clear h
 replace H := sP H; rcases H with ⟨c4, c4b0, c4b1, H⟩ | ⟨c4, c4b0, c4b1, H⟩
 ·
  have c4b2 : (l0.length == l1.length) = false := by first | simpa using c4 | (simp at c4 ⊢; omega)
  obtain rfl := sJ H; go_enter Try.func68, Try.ntmps68
  go_wp2
  go_ret
  exact ⟨kE, kR1 HB⟩
 have c4b2 : (l0.length == l1.length) = true := by first | simpa using c4 | (simp at c4 ⊢; omega)
 clear c4
 have H' := yD H
 clear H; go_enter Try.func68, Try.ntmps68
 go_wp2
 go_loopg [17] k (fun kq v17 w' => ∃ (x17_1 : Int), v17 = .int .i64 x17_1 ∧ Aside0 (slices_EqualFunc_impl_sameBox.l0 kq l1 l0 (l0.length : Int) x17_1 = some r) ∧ Aside0 (kq ≤ k) ∧ Aside0 (Below w.heap.size w w'))
 case atStart => exact ⟨(0), kF, H', ⟨Nat.le_refl _⟩, ⟨kR1 HB⟩⟩
 case round =>
  clear H'
  obtain ⟨x17_1, rfl, HA, HK1, HB⟩ := hrel
  cases gk with
  | zero => exact absurd HA.out (by simp [slices_EqualFunc_impl_sameBox.l0])
  | succ k1 =>
   have H := HA.out; clear HA
   simp only [slices_EqualFunc_impl_sameBox.l0] at H
   replace H := sG H; rcases H with ⟨c5b0, H⟩ | ⟨c5b0, H⟩
   · obtain rfl := sJ H
     go_wp2
     go_ret
     exact ⟨kE, kR1 HB⟩
   replace ⟨c6b0, H⟩ := sE H
   replace ⟨c7b0, H⟩ := sE H
   replace ⟨c8b0, H⟩ := sE H
   replace ⟨t556, A9, H⟩ := sV H
   replace H := sS H; rcases H with ⟨rfl, H⟩ | ⟨rfl, H⟩
   ·
    obtain rfl := sJ H
    obtain ⟨p552, q552, ad552, A552_0, c552_0, A552_1, c552_1, e552, hx552_0, hx552_1, HC552_0, HR552_0, HC552_1, HR552_1⟩ := sI (at_T42 C0.r x17_1)
    cases e552
    replace hx552_0 := kD HB hx552_0
    replace hx552_1 := kD HB hx552_1
    go_wp2_with (first | ((with_reducible refine gate_dst (N := 8) rfl ?_); refine bF (N := 8) (cs := #[.slice none 0 0, .slice none 0 0]) (t := 42) HB ?_; intro gb553 w18 BK553 GW553 HB; have := cf2_ BK553.out; have p554 : 0 ≤ (x17_1 : Int) := zP (by assumption); have q554 : x17_1 < (l1.length : Int) := zP (by assumption); obtain ⟨ad554, A554_0, c554_0, A554_1, c554_1, e554, hx554_0, hx554_1, HC554_0, HR554_0, HC554_1, HR554_1⟩ := at_T42 C1.r x17_1 p554 q554; cases e554; have hn554_0 : ad554.block ≠ gb553 := Nat.ne_of_lt (Nat.lt_of_lt_of_le (by have := zQ _ _ hx554_0; first | rwa [add_block] at this | exact this) GW553.out); have hn554_1 : ad554.block ≠ gb553 := Nat.ne_of_lt (Nat.lt_of_lt_of_le (by have := zQ _ _ hx554_0; first | rwa [add_block] at this | exact this) GW553.out); replace hx554_0 := kD HB hx554_0; replace hx554_1 := kD HB hx554_1; replace hx554_0 := (cell_far (p := ⟨gb553, 0, none⟩) (by first | (rw [add_block]; exact hn554_0) | (show (Addr.add _ _).block ≠ _; rw [add_block]; exact hn554_0) | exact hn554_0) (.slice A552_0 ((rd_T42 l0 x17_1).f0).length c552_0)).trans hx554_0; replace hx554_1 := (cell_far (p := ⟨gb553, 0, none⟩) (by first | (rw [add_block]; exact hn554_0) | (show (Addr.add _ _).block ≠ _; rw [add_block]; exact hn554_0) | exact hn554_0) (.slice A552_0 ((rd_T42 l0 x17_1).f0).length c552_0)).trans hx554_1; replace hx554_0 := (cell_far (p := ⟨gb553, 1, none⟩) (by first | (rw [add_block]; exact hn554_1) | (show (Addr.add _ _).block ≠ _; rw [add_block]; exact hn554_1) | exact hn554_1) (.slice A552_1 ((rd_T42 l0 x17_1).f1).length c552_1)).trans hx554_0; replace hx554_1 := (cell_far (p := ⟨gb553, 1, none⟩) (by first | (rw [add_block]; exact hn554_1) | (show (Addr.add _ _).block ≠ _; rw [add_block]; exact hn554_1) | exact hn554_1) (.slice A552_1 ((rd_T42 l0 x17_1).f1).length c552_1)).trans hx554_1; clear hn554_0; clear hn554_1; replace p554 := eq_true p554; replace q554 := eq_true q554) | ((with_reducible refine gate_dst (N := 9) rfl ?_); refine bE (N := 9) (cs := #[.slice none 0 0, .slice none 0 0]) (t := 42) ?_; intro gb555 hg w20 hbox hb; have BK555 := yD (hbox); have GW555 := sW hg HB; replace HB := zX HB hb; have NB553_555 := yD ((by rw [hg]; exact Nat.ne_of_lt (blk_lt (g := gb553) (o := .cells #[.slice A552_0 ((rd_T42 l0 x17_1).f0).length c552_0, .slice A552_1 ((rd_T42 l0 x17_1).f1).length c552_1] 42 (0, 0)) (by (with_reducible repeat (first | refine yM ?_ _ | refine yO ?_ | refine yN ?_ _)); exact bA2_ BK553.out)) : gb553 ≠ gb555)); have NB555_553 := yD ((by rw [hg]; exact Nat.ne_of_gt (blk_lt (g := gb553) (o := .cells #[.slice A552_0 ((rd_T42 l0 x17_1).f0).length c552_0, .slice A552_1 ((rd_T42 l0 x17_1).f1).length c552_1] 42 (0, 0)) (by (with_reducible repeat (first | refine yM ?_ _ | refine yO ?_ | refine yN ?_ _)); exact bA2_ BK553.out)) : gb555 ≠ gb553)); replace BK553 := yD (zB (g := gb553) (o := .cells #[.slice A552_0 ((rd_T42 l0 x17_1).f0).length c552_0, .slice A552_1 ((rd_T42 l0 x17_1).f1).length c552_1] 42 (0, 0)) (by (with_reducible repeat (first | refine yM ?_ _ | refine yO ?_ | refine yN ?_ _)); exact bA2_ BK553.out) hb); clear hb hbox hg; have hnb21 := NB555_553.out; have hnc21 := NB553_555.out; have := cf2_ BK555.out; have := cf2_ BK553.out) | (go_at_call 69; (with_reducible refine (impl_sameBox.calls k1 _ _ ((rd_T42 l0 x17_1).f0) _ _ ((rd_T42 l0 x17_1).f1) _ _ ((rd_T42 l1 x17_1).f0) _ _ ((rd_T42 l1 x17_1).f1) false _ (cB HR552_0 HC552_0 HB) (cB HR552_1 HC552_1 HB) (cB HR554_0 HC554_0 HB) (cB HR554_1 HC554_1 HB) A9.out).mono ?_); rintro e w24 ⟨rfl, hb⟩; replace BK553 := yD (zB (g := gb553) (o := .cells #[.slice A552_0 ((rd_T42 l0 x17_1).f0).length c552_0, .slice A552_1 ((rd_T42 l0 x17_1).f1).length c552_1] 42 (0, 0)) (by (with_reducible repeat (first | refine yM ?_ _ | refine yO ?_ | refine yN ?_ _)); refine blk_far ?_ NB553_555.out _; (with_reducible repeat (first | refine yM ?_ _ | refine yO ?_ | refine yN ?_ _)); refine blk_far ?_ NB553_555.out _; (with_reducible repeat (first | refine yM ?_ _ | refine yO ?_ | refine yN ?_ _)); exact BK553.out) hb); replace BK555 := yD (zB (g := gb555) (o := .cells #[.slice A554_0 ((rd_T42 l1 x17_1).f0).length c554_0, .slice A554_1 ((rd_T42 l1 x17_1).f1).length c554_1] 42 (0, 0)) (by (with_reducible repeat (first | refine yM ?_ _ | refine yO ?_ | refine yN ?_ _)); exact bA2_ BK555.out) hb); replace HB := zX HB hb; clear hb))
    go_ret
    exact ⟨kE, kR0 HB⟩
   have H' := yD H
   clear H
   obtain ⟨p552, q552, ad552, A552_0, c552_0, A552_1, c552_1, e552, hx552_0, hx552_1, HC552_0, HR552_0, HC552_1, HR552_1⟩ := sI (at_T42 C0.r x17_1)
   cases e552
   replace hx552_0 := kD HB hx552_0
   replace hx552_1 := kD HB hx552_1
   go_wp2_with (first | ((with_reducible refine gate_dst (N := 8) rfl ?_); refine bF (N := 8) (cs := #[.slice none 0 0, .slice none 0 0]) (t := 42) HB ?_; intro gb553 w11 BK553 GW553 HB; have := cf2_ BK553.out; have p554 : 0 ≤ (x17_1 : Int) := zP (by assumption); have q554 : x17_1 < (l1.length : Int) := zP (by assumption); obtain ⟨ad554, A554_0, c554_0, A554_1, c554_1, e554, hx554_0, hx554_1, HC554_0, HR554_0, HC554_1, HR554_1⟩ := at_T42 C1.r x17_1 p554 q554; cases e554; have hn554_0 : ad554.block ≠ gb553 := Nat.ne_of_lt (Nat.lt_of_lt_of_le (by have := zQ _ _ hx554_0; first | rwa [add_block] at this | exact this) GW553.out); have hn554_1 : ad554.block ≠ gb553 := Nat.ne_of_lt (Nat.lt_of_lt_of_le (by have := zQ _ _ hx554_0; first | rwa [add_block] at this | exact this) GW553.out); replace hx554_0 := kD HB hx554_0; replace hx554_1 := kD HB hx554_1; replace hx554_0 := (cell_far (p := ⟨gb553, 0, none⟩) (by first | (rw [add_block]; exact hn554_0) | (show (Addr.add _ _).block ≠ _; rw [add_block]; exact hn554_0) | exact hn554_0) (.slice A552_0 ((rd_T42 l0 x17_1).f0).length c552_0)).trans hx554_0; replace hx554_1 := (cell_far (p := ⟨gb553, 0, none⟩) (by first | (rw [add_block]; exact hn554_0) | (show (Addr.add _ _).block ≠ _; rw [add_block]; exact hn554_0) | exact hn554_0) (.slice A552_0 ((rd_T42 l0 x17_1).f0).length c552_0)).trans hx554_1; replace hx554_0 := (cell_far (p := ⟨gb553, 1, none⟩) (by first | (rw [add_block]; exact hn554_1) | (show (Addr.add _ _).block ≠ _; rw [add_block]; exact hn554_1) | exact hn554_1) (.slice A552_1 ((rd_T42 l0 x17_1).f1).length c552_1)).trans hx554_0; replace hx554_1 := (cell_far (p := ⟨gb553, 1, none⟩) (by first | (rw [add_block]; exact hn554_1) | (show (Addr.add _ _).block ≠ _; rw [add_block]; exact hn554_1) | exact hn554_1) (.slice A552_1 ((rd_T42 l0 x17_1).f1).length c552_1)).trans hx554_1; clear hn554_0; clear hn554_1; replace p554 := eq_true p554; replace q554 := eq_true q554) | ((with_reducible refine gate_dst (N := 9) rfl ?_); refine bE (N := 9) (cs := #[.slice none 0 0, .slice none 0 0]) (t := 42) ?_; intro gb555 hg w13 hbox hb; have BK555 := yD (hbox); have GW555 := sW hg HB; replace HB := zX HB hb; have NB553_555 := yD ((by rw [hg]; exact Nat.ne_of_lt (blk_lt (g := gb553) (o := .cells #[.slice A552_0 ((rd_T42 l0 x17_1).f0).length c552_0, .slice A552_1 ((rd_T42 l0 x17_1).f1).length c552_1] 42 (0, 0)) (by (with_reducible repeat (first | refine yM ?_ _ | refine yO ?_ | refine yN ?_ _)); exact bA2_ BK553.out)) : gb553 ≠ gb555)); have NB555_553 := yD ((by rw [hg]; exact Nat.ne_of_gt (blk_lt (g := gb553) (o := .cells #[.slice A552_0 ((rd_T42 l0 x17_1).f0).length c552_0, .slice A552_1 ((rd_T42 l0 x17_1).f1).length c552_1] 42 (0, 0)) (by (with_reducible repeat (first | refine yM ?_ _ | refine yO ?_ | refine yN ?_ _)); exact bA2_ BK553.out)) : gb555 ≠ gb553)); replace BK553 := yD (zB (g := gb553) (o := .cells #[.slice A552_0 ((rd_T42 l0 x17_1).f0).length c552_0, .slice A552_1 ((rd_T42 l0 x17_1).f1).length c552_1] 42 (0, 0)) (by (with_reducible repeat (first | refine yM ?_ _ | refine yO ?_ | refine yN ?_ _)); exact bA2_ BK553.out) hb); clear hb hbox hg; have hnb14 := NB555_553.out; have hnc14 := NB553_555.out; have := cf2_ BK555.out; have := cf2_ BK553.out) | (go_at_call 69; (with_reducible refine (impl_sameBox.calls k1 _ _ ((rd_T42 l0 x17_1).f0) _ _ ((rd_T42 l0 x17_1).f1) _ _ ((rd_T42 l1 x17_1).f0) _ _ ((rd_T42 l1 x17_1).f1) true _ (cB HR552_0 HC552_0 HB) (cB HR552_1 HC552_1 HB) (cB HR554_0 HC554_0 HB) (cB HR554_1 HC554_1 HB) A9.out).mono ?_); rintro e w17 ⟨rfl, hb⟩; replace BK553 := yD (zB (g := gb553) (o := .cells #[.slice A552_0 ((rd_T42 l0 x17_1).f0).length c552_0, .slice A552_1 ((rd_T42 l0 x17_1).f1).length c552_1] 42 (0, 0)) (by (with_reducible repeat (first | refine yM ?_ _ | refine yO ?_ | refine yN ?_ _)); refine blk_far ?_ NB553_555.out _; (with_reducible repeat (first | refine yM ?_ _ | refine yO ?_ | refine yN ?_ _)); refine blk_far ?_ NB553_555.out _; (with_reducible repeat (first | refine yM ?_ _ | refine yO ?_ | refine yN ?_ _)); exact BK553.out) hb); replace BK555 := yD (zB (g := gb555) (o := .cells #[.slice A554_0 ((rd_T42 l1 x17_1).f0).length c554_0, .slice A554_1 ((rd_T42 l1 x17_1).f1).length c554_1] 42 (0, 0)) (by (with_reducible repeat (first | refine yM ?_ _ | refine yO ?_ | refine yN ?_ _)); exact bA2_ BK555.out) hb); replace HB := zX HB hb; clear hb))
   go_roundg k1
   case measure => have := HK1.out; omega
   case rel => exact ⟨(wrap64 (x17_1 + 1)), kF, H', ⟨by have := HK1.out; omega⟩, ⟨kR0 HB⟩⟩

/-! ### impl_SameBoxes: function 31 -/
def impl_SameBoxes.f (k : Nat) (l0 : List (S42)) (l1 : List (S42)) : Option (Bool) := (slices_EqualFunc_impl_sameBox.f k l0 l1).bind fun t557 => (some t557)
theorem impl_SameBoxes.calls (k : Nat) (A0 : Option Addr) (c0 : Nat) (l0 : List (S42)) (A1 : Option Addr) (c1 : Nat) (l1 : List (S42)) (r : Bool) (w : World) (C0 : Cm k42 w A0 c0 l0) (C1 : Cm k42 w A1 c1 l1) (h : impl_SameBoxes.f k l0 l1 = some r) :
 Calls Try.prog 31 #[.slice A0 l0.length c0, .slice A1 l1.length c1] w fun e w' => e = .returned (.bool r) ∧ Below w.heap.size w w' := by
 have HB := yD (Below.refl w.heap.size w)
 have H : ((slices_EqualFunc_impl_sameBox.f k l0 l1).bind fun t557 => (some t557)) = some r := h
 clear h
 replace ⟨t557, A3, H⟩ := sV H
 obtain rfl := sJ H; go_enter Try.func31, Try.ntmps31
 go_wp2_with (first | ((with_reducible refine gate_callee (f := 68) rfl ?_); refine gL 7 Try.func68 _ ((slices_EqualFunc_impl_sameBox.calls k _ _ l0 _ _ l1 t557 _ ?z1 ?z3 A3.out).mono ?_); (case z1 => exact ⟨(by repeat (first | exact C0.r | (with_reducible first | refine yV ?_ _ | refine yW ?_ _ | refine yX ?_))), C0.h⟩); (case z3 => exact ⟨(by repeat (first | exact C1.r | (with_reducible first | refine yV ?_ _ | refine yW ?_ _ | refine yX ?_))), C1.h⟩); rintro e w4 ⟨rfl, hb⟩; refine ⟨_, rfl, ?_⟩; replace HB := zX HB hb; clear hb))
 go_ret
 exact ⟨kE, kR1 HB⟩

/-! ### slices_Grow_nil: function 159 -/
section
open Go.Shelf
def slices_Grow_nil.ren : Go.Shelf.Ren := ⟨fun | 4 => 159 | n => n, fun | 22 => 36 | 25 => 2 | 3 => 3 | 4 => 4 | 9 => 9 | 20 => 20 | 0 => 0 | n => n, fun n => n⟩
theorem slices_Grow_nil.lays : Go.Proofs.Lays8.n4 Try.prog slices_Grow_nil.ren :=
 { mixed := by kernel_rfl, f4 := ⟨Try.f159.name, by decide, Try.func159.trans (congrArg some (by kernel_rfl))⟩, t0 := Try.underlying0, a0 := Try.isAgg0, z0 := Try.sizeOf0, v0 := Try.zeroValue0, t3 := Try.underlying3, a3 := Try.isAgg3, z3 := Try.sizeOf3, v3 := Try.zeroValue3, t4 := Try.underlying4, a4 := Try.isAgg4, z4 := Try.sizeOf4, v4 := Try.zeroValue4, t9 := Try.underlying9, a9 := Try.isAgg9, z9 := Try.sizeOf9, v9 := Try.zeroValue9, t20 := Try.underlying20, a20 := Try.isAgg20, z20 := Try.sizeOf20, v20 := Try.zeroValue20, t22 := Try.underlying36, a22 := Try.isAgg36, z22 := Try.sizeOf36, v22 := Try.zeroValue36 }

def slices_Grow_nil.f (a1 : Int) : Option (List Int) := if 0 ≤ a1 ∧ a1 ≤ 1073741824 then some [] else none
theorem slices_Grow_nil.info : (Try.prog.info? 2).map (fun i => (i.zero, i.size, i.bytes)) = some (some (.int .i64 0), 1, 8) := by kernel_rfl
theorem slices_Grow_nil.calls (a1 : Int) (r : List Int) (w : World) (h : slices_Grow_nil.f a1 = some r) :
 Calls Try.prog 159 #[.slice none 0 0, .int .i64 a1] w fun e w' => ∃ v0_ : Value, e = .returned (v0_) ∧ Kd.R (Kd.int .i64) 2 w' w.heap.size (fun _ => True) v0_ r ∧ Below w.heap.size w w' := by
 unfold slices_Grow_nil.f at h
 split at h
 ·
  rename_i hc
  obtain ⟨h0, h1⟩ := hc
  obtain ⟨c, rfl⟩ : ∃ c : Nat, a1 = (c : Int) := ⟨a1.toNat, by omega⟩
  obtain rfl := Option.some.inj h
  by_cases hc0 : c = 0
  · subst hc0
    refine (Any8.slices_Grow_room slices_Grow_nil.lays none 0 0 0 w (Nat.le_refl _) (by omega) (by omega) (by omega)).mono ?_
    rintro e w' ⟨rfl, rfl⟩
    exact ⟨_, rfl, Kd.R_nil _ _ _ _ _, Below.refl _ _⟩
  ·
   obtain ⟨i0, hi0, hz⟩ := Option.map_eq_some_iff.1 slices_Grow_nil.info
   simp only [Prod.mk.injEq] at hz
   obtain ⟨hz0, hs0, hb0⟩ := hz
   refine (Any8.slices_Grow_grow slices_Grow_nil.lays i0 _ hi0 hz0 (by omega) none 0 0 c [] w (Nat.le_refl _) (by omega) (by rw [hb0]; omega) (by omega) (by simp) (fun _ => rfl) (fun a ha => by cases ha)).mono ?_
   have hG := grownCap_le_maxLen w (0 + c) 0 2 (by unfold maxLen; omega)
   have hg := grownCap_ge w (0 + c) 0 2
   change grownCap w (0 + c) 0 (slices_Grow_nil.ren.t 25) ≤ maxLen at hG
   change 0 + c ≤ grownCap w (0 + c) 0 (slices_Grow_nil.ren.t 25) at hg
   generalize grownCap w (0 + c) 0 (slices_Grow_nil.ren.t 25) = G at hG hg ⊢
   rintro e w' ⟨rfl, rfl⟩
   refine ⟨_, rfl, ⟨fun _ _ => trivial, [], ⟨by simp, .inr ⟨w.heap.size, G, ([] : List Value).toArray ++ Builtin.zeroCells (.int .i64 0 : Value).cells (0 + c - 0) ++ Builtin.zeroCells (.int .i64 0 : Value).cells (G - (0 + c)), rfl, Nat.le_refl _, ?_, Nat.zero_le _, hG, ?_, by simp⟩⟩, Reps.none _ _⟩, below_alloc (below_drew (Below.refl _ _)) _⟩
   · show (w.heap.push _)[w.heap.size]? = _
     rw [Array.getElem?_push_size]
     rfl
   · simp only [Array.size_append, size_zeroCells, List.size_toArray, List.length_nil, Nat.zero_add, Nat.sub_zero, ← Nat.add_mul]
     show _ = G * 1
     have : c + (G - c) = G := by omega
     rw [this]
     rfl
 · cases h
end

/-! ### slices_Concat_int64_int64: function 146 -/
mutual
def slices_Concat_int64_int64.l0 : Nat → List (List Int) → Int → List (List Int) → Int → Int → Option (List Int)
 | 0, _, _, _, _, _ => none
 | k + 1, x0, x3, x9, x10, x11 => if x11 < x10 then (if 0 ≤ x11 then (if x11 < (x9.length : Int) then (if (wrap64 (x3 + ((rd_L1 x9 x11).length : Int))) < 0 then (none) else (slices_Concat_int64_int64.l0 k x0 (wrap64 (x3 + ((rd_L1 x9 x11).length : Int))) x9 x10 (wrap64 (x11 + 1)))) else (none)) else (none)) else ((slices_Grow_nil.f x3).bind fun t559 => (slices_Concat_int64_int64.l1 k t559 x0 (x0.length : Int) 0))
def slices_Concat_int64_int64.l1 : Nat → List Int → List (List Int) → Int → Int → Option (List Int)
 | 0, _, _, _, _ => none
 | k + 1, x6, x25, x26, x27 => if x27 < x26 then (if 0 ≤ x27 then (if x27 < (x25.length : Int) then (if x6.length + (rd_L1 x25 x27).length < 17592186044416 then (slices_Concat_int64_int64.l1 k (x6 ++ (rd_L1 x25 x27)) x25 x26 (wrap64 (x27 + 1))) else (none)) else (none)) else (none)) else (some x6)
end
def slices_Concat_int64_int64.f (k : Nat) (l0 : List (List Int)) : Option (List Int) := slices_Concat_int64_int64.l0 k l0 0 l0 (l0.length : Int) 0
theorem slices_Concat_int64_int64.calls (k : Nat) (A0 : Option Addr) (c0 : Nat) (l0 : List (List Int)) (r : List Int) (w : World) (C0 : Cm (Kd.slice 2 (Kd.int .i64)) w A0 c0 l0) (h : slices_Concat_int64_int64.f k l0 = some r) :
 Calls Try.prog 146 #[.slice A0 l0.length c0] w fun e w' => ∃ v0_ : Value, e = .returned (v0_) ∧ Kd.R (Kd.int .i64) 2 w' w.heap.size (fun _ => True) v0_ r ∧ Below w.heap.size w w' := by
 have HB := yD (Below.refl w.heap.size w)
 have H : (slices_Concat_int64_int64.l0 k l0 0 l0 (l0.length : Int) 0) = some r := h
 clear h
 have H' := yD H
 clear H; go_enter Try.func146, Try.ntmps146
 go_wp2
 go_loopg [3, 11] k (fun kq v3 v11 w' => ∃ (x3_1 : Int) (x11_1 : Int), v3 = .int .i64 x3_1 ∧ v11 = .int .i64 x11_1 ∧ Aside0 (slices_Concat_int64_int64.l0 kq l0 x3_1 l0 (l0.length : Int) x11_1 = some r) ∧ Aside0 (kq ≤ k) ∧ Aside0 (Below w.heap.size w w'))
 case atStart => exact ⟨(0), (0), kF, kF, H', ⟨Nat.le_refl _⟩, ⟨kR1 HB⟩⟩
 case round =>
  clear H'
  obtain ⟨x3_1, x11_1, rfl, rfl, HA, HK1, HB⟩ := hrel
  cases gk with
  | zero => exact absurd HA.out (by simp [slices_Concat_int64_int64.l0])
  | succ k1 =>
   have H := HA.out; clear HA
   simp only [slices_Concat_int64_int64.l0] at H
   replace H := sF H; rcases H with ⟨c2b0, H⟩ | ⟨c2b0, H⟩
   ·
    replace ⟨c3b0, H⟩ := sE H
    replace ⟨c4b0, H⟩ := sE H
    by_cases c5 : (wrap64 (x3_1 + ((rd_L1 l0 x11_1).length : Int))) < 0
    · rw [if_pos c5] at H
      exact absurd H (by simp)
    ·
     rw [if_neg c5] at H
     have c5b0 : decide ((wrap64 (x3_1 + ((rd_L1 l0 x11_1).length : Int))) < 0) = false := zS c5; clear c5
     have H' := yD H
     clear H
     obtain ⟨p558, q558, ad558, A558_0, c558_0, e558, hx558_0, HC558_0, HR558_0⟩ := sI (at_L1 C0.r x11_1)
     cases e558
     replace hx558_0 := kD HB hx558_0
     go_wp2
     go_roundg k1
     case measure => have := HK1.out; omega
     case rel => exact ⟨(wrap64 (x3_1 + ((rd_L1 l0 x11_1).length : Int))), (wrap64 (x11_1 + 1)), kF, kF, H', ⟨by have := HK1.out; omega⟩, ⟨kR1 HB⟩⟩
   replace ⟨t559, A6, H⟩ := sV H
   have H' := yD H
   clear H
   go_wp2_with (first | ((with_reducible refine gate_callee (f := 159) rfl ?_); refine gL 24 Try.func159 _ ((slices_Grow_nil.calls  x3_1 t559 _ A6.out).mono ?_); rintro e w7 ⟨v560, rfl, ho0, hb⟩; refine ⟨_, rfl, ?_⟩; have HO561 := yD (yZ ho0 (below_size (kB HB))); replace HB := zX HB hb; clear hb ho0))
   (try simp only [Act.put, zH, zI, zJ])
   go_loopg [6, 27] k1 (fun kq v6 v27 w' => ∃ (x6_2 : List Int) (x27_2 : Int), v27 = .int .i64 x27_2 ∧ Aside0 (slices_Concat_int64_int64.l1 kq x6_2 l0 (l0.length : Int) x27_2 = some r) ∧ Aside0 (kq ≤ k1) ∧ Aside0 (Kd.R (Kd.int .i64) 2 w' w.heap.size (fun _ => True) v6 x6_2) ∧ Aside0 (Below w.heap.size w w'))
   case atStart => exact ⟨(t559), (0), kF, H', ⟨Nat.le_refl _⟩, ⟨kA HO561⟩, ⟨kR1 HB⟩⟩
   case round =>
    clear H'
    obtain ⟨x6_2, x27_2, rfl, HA, HK2, HO_6, HB⟩ := hrel
    cases gk with
    | zero => exact absurd HA.out (by simp [slices_Concat_int64_int64.l1])
    | succ k2 =>
     have H := HA.out; clear HA
     simp only [slices_Concat_int64_int64.l1] at H
     replace H := sG H; rcases H with ⟨c8b0, H⟩ | ⟨c8b0, H⟩
     · obtain rfl := sJ H
       go_wp2
       go_ret
       exact ⟨_, kE, kA HO_6, kR1 HB⟩
     replace ⟨c9b0, H⟩ := sE H
     replace ⟨c10b0, H⟩ := sE H
     replace ⟨LMc11, H⟩ := sM H
     generalize hy563 : ((x6_2 ++ (rd_L1 l0 x27_2)) : List Int) = y563 at H
     have Ny563 := yD hy563.symm
     clear hy563
     have H' := yD H
     clear H
     obtain ⟨p562, q562, ad562, A562_0, c562_0, e562, hx562_0, HC562_0, HR562_0⟩ := sI (at_L1 C0.r x27_2)
     cases e562
     replace hx562_0 := kD HB hx562_0
     go_wp2_with (first | ((with_reducible refine gate_builtin (b := .append) (xs := #[.tmp 31, .tmp 32]) rfl ?_); at_builtin; refine Kd.R_append_rows (Kd.int .i64) (w0 := w) w.heap.size rfl (.tmp 31) (.tmp 32) 36 2 (.int .i64 0) 8 rfl Try.underlying36 info2 rfl (by decide) (by omega) u6 x6_2 (rd_L1 l0 x27_2) _ _ _ (fun _ => True) (fun _ => False) rfl rfl ?aO ?aR (fun _ _ h => h) (fun _ h => h.elim) ?aF ?aB ?aS ?aL ?_; (case aR => exact kV (yY HR562_0.out HB.out)); (case aB => exact (kB HB)); (case aF => exact (fun _ _ => trivial)); (case aO => exact (kA HO_6)); (case aS => exact (below_size (kB HB))); (case aL => have := LMc11.out; omega); intro v564 w12 ho hb hg hat; rw [← Ny563.out] at ho; replace HB := yD (hb); have HO565 := yD (ho); clear HO_6; clear ho hb hg hat))
     go_roundg k2
     case measure => have := HK1.out; have := HK2.out; omega
     case rel => exact ⟨(y563), (wrap64 (x27_2 + 1)), kF, H', ⟨by have := HK1.out; have := HK2.out; omega⟩, ⟨kA HO565⟩, ⟨kR1 HB⟩⟩
end Go.Proofs.Ytdiaebjbiddefaa.PFnExactBoxesOf
