/- Each function here comes to its plain form. It holds without a condition. -/
import Derived.Test.YtkkdkeogplgkfaaPFnSelectedBoxesx0
import Derived.Test.YtkkdkeogplgkfaaPFnSelectedBoxesx1
import Derived.Test.YtkkdkeogplgkfaaPFnSelectedBoxesx5
namespace Go.Proofs.Ytkkdkeogplgkfaa.PFnSelectedBoxes
open Go.RowKit Go.Proofs.YtkkdkeogplgkfaaW.PrintWords Go.Proofs.YtkkdkeogplgkfaaW.PrintLast Go.Proofs.YtkkdkeogplgkfaaW.PrintMore
attribute [local go_sem] max2_int min2_int max_two min_two max_three min_three max_four min_four
set_option linter.unusedVariables false
set_option linter.unusedSimpArgs false
set_option maxHeartbeats 8000000
set_option maxRecDepth 100000
mutual
def bV.l0 : Nat → Int → List Int → Int → Int → List Int → List Int → List Int → List Int → List (S68) → Option (List Int)
 | 0, _, _, _, _, _, _, _, _, _ => none
 | k + 1, x1, x5, x6, x538000, x538001, x538002, x538003, x538004, x538005 => if 0 ≤ x1 then (if x1 < (x538003.length : Int) then (if x6 < (rd x538003 x1) then (bV.l1 k x1 x5 x6 0 x538000 x538001 x538002 x538003 x538004 x538005) else (some x5)) else (none)) else (none)
def bV.l1 : Nat → Int → List Int → Int → Int → Int → List Int → List Int → List Int → List Int → List (S68) → Option (List Int)
 | 0, _, _, _, _, _, _, _, _, _, _ => none
 | k + 1, x1, x5, x6, x7, x538000, x538001, x538002, x538003, x538004, x538005 => if 0 ≤ x1 then (if x1 < (x538004.length : Int) then (if x7 < (rd x538004 x1) then (if x1 < (x538001.length : Int) then (if x1 < (x538002.length : Int) then (if x5.length < 17592186044416 then (bV.l1 k x1 (x5 ++ [wrap64 ((wrap64 ((rd x538001 x1) + (wrap64 (x6 * (rd x538002 x1))))) + x7)]) x6 (wrap64 (x7 + 1)) x538000 x538001 x538002 x538003 x538004 x538005) else (none)) else (none)) else (none)) else (bV.l0 k x1 x5 (wrap64 (x6 + 1)) x538000 x538001 x538002 x538003 x538004 x538005)) else (none)) else (none)
end
def bV.f (k : Nat) (a0_0 : Int) (l0_1 l0_2 : List Int) (l0_3 l0_4 : List Int) (l0_5 : List (S68)) (a1 : Int) : Option (List Int) := bV.l0 k a1 (([] : List Int)) 0 a0_0 l0_1 l0_2 l0_3 l0_4 l0_5
def bV.T8 : Bool × List (List Nat × List Nat) := (true, [([], []), ([], []), ([1], [1]), ([], []), ([2, 3], [2, 3]), ([4], [4]), ([], []), ([], []), ([7], [7]), ([], []), ([8, 9], [8, 9]), ([10], [10]), ([6, 11], [6, 11]), ([5, 12], [5, 12]), ([], []), ([13, 14], [13, 14]), ([15], [15]), ([0, 16], [0, 16]), ([17, 17, 0, 1, 2, 3, 4, 5, 6, 7, 8, 9, 10, 11, 12, 13, 14, 15, 16, 17], [0, 17])])
def bV.B8 : List Nat := [0, 0, 2, 0, 14, 30, 0, 0, 128, 0, 896, 1920, 4032, 8190, 0, 32766, 65534, 131071, 262143]
theorem bV.tab8 : rtab .any (opsOf Try.f60 8) = bV.T8 := by kernel_rfl
theorem bV.bits8 : waitsOk bV.T8.2 bV.B8 = true := by kernel_rfl
theorem bV.calls (k : Nat) (a0_0 : Int) (A0_1 : Option Addr) (c0_1 : Nat) (l0_1 : List Int) (A0_2 : Option Addr) (c0_2 : Nat) (l0_2 : List Int) (A0_3 : Option Addr) (c0_3 : Nat) (l0_3 : List Int) (A0_4 : Option Addr) (c0_4 : Nat) (l0_4 : List Int) (A0_5 : Option Addr) (c0_5 : Nat) (l0_5 : List (S68)) (a1 : Int) (r : List Int) (w : World) (C0_1 : Cm (Kd.int .i64) w A0_1 c0_1 l0_1) (C0_2 : Cm (Kd.int .i64) w A0_2 c0_2 l0_2) (C0_3 : Cm (Kd.int .i64) w A0_3 c0_3 l0_3) (C0_4 : Cm (Kd.int .i64) w A0_4 c0_4 l0_4) (C0_5 : Cm k68 w A0_5 c0_5 l0_5) (h : bV.f k a0_0 l0_1 l0_2 l0_3 l0_4 l0_5 a1 = some r) :
 Calls Try.prog 60 #[.agg #[.int .i64 a0_0, .slice A0_1 l0_1.length c0_1, .slice A0_2 l0_2.length c0_2, .slice A0_3 l0_3.length c0_3, .slice A0_4 l0_4.length c0_4, .slice A0_5 l0_5.length c0_5], .int .i64 a1] w fun e w' => ∃ v0_ : Value, e = .returned (v0_) ∧ Kd.R (Kd.int .i64) 2 w' w.heap.size (fun _ => True) v0_ r ∧ Below w.heap.size w w' := by
 have hu26 := Try.underlying26
 have HB := yD (Below.refl w.heap.size w)
 unfold bV.f at h
 have H := h
 clear h
 obtain ⟨y538, hy538⟩ : ∃ y_ : List Int, y_ = (([] : List Int)) := ⟨_, rfl⟩
 replace H : (bV.l0 k a1 y538 0 a0_0 l0_1 l0_2 l0_3 l0_4 l0_5) = some r := by first | (rw [hy538]; with_reducible exact H) | (have H2_ := (Option.bind_some _ _).symm.trans H; rw [hy538]; with_reducible exact H2_) | (have H2_ := (Option.bind_some _ _).symm.trans H; with_reducible exact H2_) | with_reducible exact H | (rw [hy538]; exact H) | exact H
 have Ny538 := yD hy538
 clear hy538
 have H' := yD H
 clear H; go_enter Try.func60, Try.ntmps60
 go_wp2_with (first | (refine gD 2 ?_; refine bF (N := 2) (cs := #[.int .i64 a0_0, .slice A0_1 l0_1.length c0_1, .slice A0_2 l0_2.length c0_2, .slice A0_3 l0_3.length c0_3, .slice A0_4 l0_4.length c0_4, .slice A0_5 l0_5.length c0_5]) (t := 26) HB ?_; intro gb537 w3 BK537 GW537 HB) | (refine gD 8 ?_; refine Kd.R_lit (Kd.int .i64) _ 2 ?hg (N := 8) ?hd (xs := ([] : List Int)) (inner := []) (ok := fun _ => True) (okp := fun _ => True) ?hr ?hp (fun _ hk => hk) trivial (Below.refl _ _) (Nat.le_refl _) (by simp) ?_; (case hd => rfl); (case hg => rfl); (case hr => first | (go_simp; done) | (go_simp; rfl)); (case hp => exact (cW.none _ _)); intro v539 w4 ho5 hb hg_ hnew_; clear hg_ hnew_; (first | rw [← Ny538.out] at ho5 | (simp only [Int.reduceToNat] at ho5; rw [← Ny538.out] at ho5)); have HO540 := yD (yZ ho5 (aD (kB HB))); replace BK537 := zY BK537 hb; replace HB := zX HB hb; clear hb ho5))
 (try simp only [Act.put, zH, zI, zJ])
 go_loopg [5, 6] k (fun kq v5 v6 w' => ∃ (x5_1 : List Int) (x6_1 : Int), v6 = .int .i64 x6_1 ∧ aC (bV.l0 kq a1 x5_1 x6_1 a0_0 l0_1 l0_2 l0_3 l0_4 l0_5 = some r) ∧ aC (kq ≤ k) ∧ aC (Kd.R (Kd.int .i64) 2 w' w.heap.size (fun _ => True) v5 x5_1) ∧ aC (w'.heap[gb537]? = some (.cells #[.int .i64 a0_0, (.slice A0_1 l0_1.length c0_1), (.slice A0_2 l0_2.length c0_2), (.slice A0_3 l0_3.length c0_3), (.slice A0_4 l0_4.length c0_4), (.slice A0_5 l0_5.length c0_5)] 26 (0, 0))) ∧ aC (Below w.heap.size w w'))
 case atStart => exact ⟨(y538), (0), kF, H', ⟨Nat.le_refl _⟩, ⟨kA HO540⟩, ⟨kM BK537⟩, ⟨kR1 HB⟩⟩
 case round =>
  clear H'
  obtain ⟨x5_1, x6_1, rfl, HA, HK1, HO_5, BK537, HB⟩ := hrel
  cases gk with
  | zero => exact absurd HA.out (by simp [bV.l0])
  | succ k1 =>
   have H := HA.out; clear HA
   simp only [bV.l0] at H
   replace ⟨c6b0, H⟩ := sE H
   replace ⟨c7b0, H⟩ := sE H
   replace H := sG H; rcases H with ⟨c8b0, H⟩ | ⟨c8b0, H⟩
   ·
    obtain rfl := sJ H
    have := cf6_ BK537.out
    obtain ⟨p541, q541, ad541, e541, hx541_0⟩ := sI (Kd.aX C0_3.r a1)
    cases e541
    replace hx541_0 := kD HB hx541_0
    go_wp2
    go_ret
    exact ⟨_, kE, kA HO_5, kR1 HB⟩
   have H' := yD H
   clear H
   have := cf6_ BK537.out
   obtain ⟨p541, q541, ad541, e541, hx541_0⟩ := sI (Kd.aX C0_3.r a1)
   cases e541
   replace hx541_0 := kD HB hx541_0
   go_wp2
   go_loopg [5, 7] k1 (fun kq v5 v7 w' => ∃ (x5_2 : List Int) (x7_2 : Int), v7 = .int .i64 x7_2 ∧ aC (bV.l1 kq a1 x5_2 x6_1 x7_2 a0_0 l0_1 l0_2 l0_3 l0_4 l0_5 = some r) ∧ aC (kq ≤ k1) ∧ aC (Kd.R (Kd.int .i64) 2 w' w.heap.size (fun _ => True) v5 x5_2) ∧ aC (w'.heap[gb537]? = some (.cells #[.int .i64 a0_0, (.slice A0_1 l0_1.length c0_1), (.slice A0_2 l0_2.length c0_2), (.slice (some ad541) l0_3.length c0_3), (.slice A0_4 l0_4.length c0_4), (.slice A0_5 l0_5.length c0_5)] 26 (0, 0))) ∧ aC (Below w.heap.size w w'))
   case atStart => exact ⟨(x5_1), (0), kF, H', ⟨Nat.le_refl _⟩, ⟨kA HO_5⟩, ⟨kM BK537⟩, ⟨kR1 HB⟩⟩
   case round =>
    clear H'
    obtain ⟨x5_2, x7_2, rfl, HA, HK2, HO_5, BK537, HB⟩ := hrel
    cases gk with
    | zero => exact absurd HA.out (by simp [bV.l1])
    | succ k2 =>
     have H := HA.out; clear HA
     simp only [bV.l1] at H
     replace ⟨c10b0, H⟩ := sE H
     replace ⟨c11b0, H⟩ := sE H
     replace H := sG H; rcases H with ⟨c12b0, H⟩ | ⟨c12b0, H⟩
     ·
      have H' := yD H
      clear H
      have := cf6_ BK537.out
      obtain ⟨p542, q542, ad542, e542, hx542_0⟩ := sI (Kd.aX C0_4.r a1)
      cases e542
      replace hx542_0 := kD HB hx542_0
      go_wp2
      go_roundg k2
      case measure => have := HK1.out; have := HK2.out; omega
      case rel => exact ⟨(x5_2), (wrap64 (x6_1 + 1)), kF, H', ⟨by have := HK1.out; have := HK2.out; omega⟩, ⟨kA HO_5⟩, ⟨kM BK537⟩, ⟨kR1 HB⟩⟩
     replace ⟨c13b0, H⟩ := sE H
     replace ⟨c14b0, H⟩ := sE H
     replace ⟨LMc15, H⟩ := sM H
     generalize hy545 : ((x5_2 ++ [wrap64 ((wrap64 ((rd l0_1 a1) + (wrap64 (x6_1 * (rd l0_2 a1))))) + x7_2)]) : List Int) = y545 at H
     have Ny545 := yD hy545.symm
     clear hy545
     have H' := yD H
     clear H
     have := cf6_ BK537.out
     obtain ⟨p542, q542, ad542, e542, hx542_0⟩ := sI (Kd.aX C0_4.r a1)
     cases e542
     replace hx542_0 := kD HB hx542_0
     try go_wp2
     replace HO_5 := yD (yC HO_5.out); replace BK537 := yD (yO BK537.out); replace HB := yD (yP HB.out)
     obtain ⟨p543, q543, ad543, e543, hx543_0⟩ := sI (Kd.aX C0_1.r a1)
     have hw543_0 := hx543_0; cases e543
     replace hx543_0 := kD HB hx543_0
     obtain ⟨p544, q544, ad544, e544, hx544_0⟩ := sI (Kd.aX C0_2.r a1)
     have hw544_0 := hx544_0; cases e544
     replace hx544_0 := kD HB hx544_0
     refine s0 (m := 19) (S := fun w' => cl w' gb537 0 (.int .i64 a0_0) ∧ cl w' gb537 1 (.slice (some ad543) l0_1.length c0_1) ∧ cl w' gb537 2 (.slice (some ad544) l0_2.length c0_2) ∧ cl w' gb537 3 (.slice (some ad541) l0_3.length c0_3) ∧ cl w' gb537 4 (.slice (some ad542) l0_4.length c0_4) ∧ cl w' gb537 5 (.slice A0_5 l0_5.length c0_5) ∧ w'.cell? (ad543.add (a1).toNat) = some (.int .i64 (rd l0_1 a1)) ∧ w'.cell? (ad544.add (a1).toNat) = some (.int .i64 (rd l0_2 a1))) bV.tab8 bV.bits8 (ca6_ BK537.out ⟨(kC HB hw543_0), (kC HB hw544_0)⟩) fun hHeld HT_ HW_ => ?_
     generalize wr.drew = w17 at HO_5 BK537 HB hx543_0 hx544_0 hHeld ⊢
     refine qa 19 0 1 ?_; refine qa 19 1 3 ?_; refine qa 19 3 11 ?_; refine qa 19 6 75 ?_; refine qa 19 7 203 ?_; refine qa 19 9 715 ?_; refine qa 19 14 17099 ?_; refine qc 19 2 17103 hHeld ?_; refine qa 19 4 17119 ?_; refine qc 19 5 17151 hHeld ?_; refine qc 19 8 17407 hHeld ?_; refine qa 19 10 18431 ?_; refine qc 19 11 20479 hHeld ?_; refine qa 19 12 24575 ?_; refine qa 19 13 32767 ?_; refine qa 19 15 65535 ?_
     refine qo 19 16 131071 (some 43) fun K hK => ?_
     refine value_ (w1 := ?_) (v := ?_) (by rfl) rfl ?_ ?_
     rotate_left 2
     · go_simp
       constructor
       · rfl
       · rfl
     refine hK.out _ _ (ca6_ (yN BK537.out _) ⟨(World.cell?_alloc_lt _ _ _ (zQ _ _ (kC HB hw543_0))).trans (kC HB hw543_0), (World.cell?_alloc_lt _ _ _ (zQ _ _ (kC HB hw544_0))).trans (kC HB hw544_0)⟩) (fun hHeld => ?_)
     clear hK K
     refine nZ 43 ?_
     refine qo 19 17 262143 (some 44) fun K hK => ?_
     refine Kd.R_append_step (Kd.int .i64) (w0 := w) w.heap.size (by rfl) (.tmp 27) (.tmp 43) 23 2 (.int .i64 0) 8 rfl Try.underlying23 info2 rfl (by decide) (by omega) u5 x5_2 (wrap64 ((wrap64 ((rd l0_1 a1) + (wrap64 (x6_1 * (rd l0_2 a1))))) + x7_2)) [.int .i64 (wrap64 ((wrap64 ((rd l0_1 a1) + (wrap64 (x6_1 * (rd l0_2 a1))))) + x7_2))] (fun _ => True) (fun _ => False) rfl rfl ?aP (fun _ hk => hk.elim) ?aF ?aO ?aB ?aS ?aL ?_
     (case aP => exact rfl)
     (case aB => exact (kB HB))
     (case aF => exact (fun _ _ => trivial))
     (case aO => exact (kA HO_5))
     (case aS => exact (aD (kB HB)))
     (case aL => have := LMc15.out; omega)
     intro v546 w18 ho hb hg hat
     rw [← Ny545.out] at ho
     have n0_ := yD (blk_grown (g := gb537) (o := .cells #[.int .i64 a0_0, .slice (some ad543) l0_1.length c0_1, .slice (some ad544) l0_2.length c0_2, .slice (some ad541) l0_3.length c0_3, .slice (some ad542) l0_4.length c0_4, .slice A0_5 l0_5.length c0_5] 26 (0, 0)) (kM BK537) hg (Kd.R_ne HO_5.out BK537.out (by decide)))
     have n1_ := yD (hb)
     have n2_ := yD (ho)
     clear BK537 HB HO_5; have BK537 := n0_; have HB := n1_; have HO547 := n2_; clear n0_ n1_ n2_ ho hb hg hat
     refine hK.out _ _ (ca6_ BK537.out ⟨(kC HB hw543_0), (kC HB hw544_0)⟩) (fun hHeld => ?_)
     clear hK K
     refine nZ 44 ?_
     refine qa 19 18 524287 ?_
     refine qd ?_
     try go_wp2
     go_roundg k2
     case measure => have := HK1.out; have := HK2.out; omega
     case rel => exact ⟨(y545), (wrap64 (x7_2 + 1)), kF, H', ⟨by have := HK1.out; have := HK2.out; omega⟩, ⟨kA HO547⟩, ⟨kM BK537⟩, ⟨kR1 HB⟩⟩
mutual
def aH.l0 : Nat → List Int → List Int → Int → Option (List Int)
 | 0, _, _, _ => none
 | k + 1, x0, x5, x6 => (cE.f k x0).bind fun t552 => (if x6 < t552 then (if x5.length < 17592186044416 then (aH.l0 k x0 (x5 ++ [x6]) (wrap64 (x6 + 1))) else (none)) else (some x5))
def aH.l1 : Nat → List Int → List Int → Int → Int → List Int → List Int → List Int → List Int → List (S68) → Option (List Int)
 | 0, _, _, _, _, _, _, _, _, _ => none
 | k + 1, x0, x5, x7, x549000, x549001, x549002, x549003, x549004, x549005 => if x7 < (x549005.length : Int) then (if 0 ≤ x7 then ((spec_l05Index.f k x0 ((bU x549005 x7).f0)).bind fun t557 => (if x5.length < 17592186044416 then (aH.l1 k x0 (x5 ++ [t557]) (wrap64 (x7 + 1)) x549000 x549001 x549002 x549003 x549004 x549005) else (none))) else (none)) else (some x5)
def aH.l2 : Nat → List Int → List Int → Int → Int → List Int → List Int → List Int → List Int → List (S68) → Option (List Int)
 | 0, _, _, _, _, _, _, _, _, _ => none
 | k + 1, x0, x5, x8, x549000, x549001, x549002, x549003, x549004, x549005 => if x8 < (x0.length : Int) then ((bV.f k x549000 x549001 x549002 x549003 x549004 x549005 x8).bind fun t564 => (aH.l3 k x0 x5 x8 t564 (([] : List Int)) 0 x549000 x549001 x549002 x549003 x549004 x549005)) else (some x5)
def aH.l3 : Nat → List Int → List Int → Int → List Int → List Int → Int → Int → List Int → List Int → List Int → List Int → List (S68) → Option (List Int)
 | 0, _, _, _, _, _, _, _, _, _, _, _, _ => none
 | k + 1, x0, x5, x8, x9, x10, x11, x549000, x549001, x549002, x549003, x549004, x549005 => if x11 < (x5.length : Int) then (aH.l4 k x0 x5 x8 x9 x10 x11 0 x549000 x549001 x549002 x549003 x549004 x549005) else (aH.l2 k x0 x10 (wrap64 (x8 + 1)) x549000 x549001 x549002 x549003 x549004 x549005)
def aH.l4 : Nat → List Int → List Int → Int → List Int → List Int → Int → Int → Int → List Int → List Int → List Int → List Int → List (S68) → Option (List Int)
 | 0, _, _, _, _, _, _, _, _, _, _, _, _, _ => none
 | k + 1, x0, x5, x8, x9, x10, x11, x12, x549000, x549001, x549002, x549003, x549004, x549005 => if x12 < (x9.length : Int) then (if 0 ≤ x11 then (if x11 < (x5.length : Int) then (if 0 ≤ x8 then (if x8 < (x0.length : Int) then (if 0 ≤ x12 then (if x10.length < 17592186044416 then (aH.l4 k x0 x5 x8 x9 (x10 ++ [wrap64 ((wrap64 ((rd x5 x11) * (rd x0 x8))) + (rd x9 x12))]) x11 (wrap64 (x12 + 1)) x549000 x549001 x549002 x549003 x549004 x549005) else (none)) else (none)) else (none)) else (none)) else (none)) else (none)) else (aH.l3 k x0 x5 x8 x9 x10 (wrap64 (x11 + 1)) x549000 x549001 x549002 x549003 x549004 x549005)
end
def aH.f (k : Nat) (l0 : List Int) (a1_0 : Int) (l1_1 l1_2 : List Int) (l1_3 l1_4 : List Int) (l1_5 : List (S68)) : Option (List Int) := (some (([] : List Int) : List Int)).bind fun y549 => (if a1_0 = 1 then (aH.l0 k l0 y549 0) else (if a1_0 = 4 then (aH.l1 k l0 y549 0 a1_0 l1_1 l1_2 l1_3 l1_4 l1_5) else (if a1_0 = 3 then (if y549.length < 17592186044416 then (aH.l2 k l0 (y549 ++ [0]) 0 a1_0 l1_1 l1_2 l1_3 l1_4 l1_5) else (none)) else (some y549))))
def aH.T26 : Bool × List (List Nat × List Nat) := (true, [([], []), ([], []), ([], []), ([1, 2], [1, 2]), ([3], [3]), ([], []), ([], []), ([5, 6], [5, 6]), ([7], [7]), ([4, 8], [4, 8]), ([], []), ([], []), ([10, 11], [10, 11]), ([12], [12]), ([9, 13], [9, 13]), ([14], [14]), ([0, 15], [0, 15]), ([16, 16, 0, 1, 2, 3, 4, 5, 6, 7, 8, 9, 10, 11, 12, 13, 14, 15, 16], [0, 16])])
def aH.B26 : List Nat := [0, 0, 0, 6, 14, 0, 0, 96, 224, 510, 0, 0, 3072, 7168, 16382, 32766, 65535, 131071]
theorem aH.tab26 : rtab .any (opsOf Try.f33 26) = aH.T26 := by kernel_rfl
theorem aH.bits26 : waitsOk aH.T26.2 aH.B26 = true := by kernel_rfl
theorem aH.calls (k : Nat) (A0 : Option Addr) (c0 : Nat) (l0 : List Int) (a1_0 : Int) (A1_1 : Option Addr) (c1_1 : Nat) (l1_1 : List Int) (A1_2 : Option Addr) (c1_2 : Nat) (l1_2 : List Int) (A1_3 : Option Addr) (c1_3 : Nat) (l1_3 : List Int) (A1_4 : Option Addr) (c1_4 : Nat) (l1_4 : List Int) (A1_5 : Option Addr) (c1_5 : Nat) (l1_5 : List (S68)) (r : List Int) (w : World) (C0 : Cm (Kd.int .i64) w A0 c0 l0) (C1_1 : Cm (Kd.int .i64) w A1_1 c1_1 l1_1) (C1_2 : Cm (Kd.int .i64) w A1_2 c1_2 l1_2) (C1_3 : Cm (Kd.int .i64) w A1_3 c1_3 l1_3) (C1_4 : Cm (Kd.int .i64) w A1_4 c1_4 l1_4) (C1_5 : Cm k68 w A1_5 c1_5 l1_5) (h : aH.f k l0 a1_0 l1_1 l1_2 l1_3 l1_4 l1_5 = some r) :
 Calls Try.prog 33 #[.slice A0 l0.length c0, .agg #[.int .i64 a1_0, .slice A1_1 l1_1.length c1_1, .slice A1_2 l1_2.length c1_2, .slice A1_3 l1_3.length c1_3, .slice A1_4 l1_4.length c1_4, .slice A1_5 l1_5.length c1_5]] w fun e w' => ∃ v0_ : Value, e = .returned (v0_) ∧ Kd.R (Kd.int .i64) 2 w' w.heap.size (fun _ => True) v0_ r ∧ Below w.heap.size w w' := by
 have hu26 := Try.underlying26
 have HB := yD (Below.refl w.heap.size w)
 unfold aH.f at h
 have H := h
 clear h
 obtain ⟨y549, hy549⟩ : ∃ y_ : List Int, y_ = (([] : List Int)) := ⟨_, rfl⟩
 replace H : (if a1_0 = 1 then (aH.l0 k l0 y549 0) else (if a1_0 = 4 then (aH.l1 k l0 y549 0 a1_0 l1_1 l1_2 l1_3 l1_4 l1_5) else (if a1_0 = 3 then (if y549.length < 17592186044416 then (aH.l2 k l0 (y549 ++ [0]) 0 a1_0 l1_1 l1_2 l1_3 l1_4 l1_5) else (none)) else (some y549)))) = some r := by first | (rw [hy549]; with_reducible exact H) | (have H2_ := (Option.bind_some _ _).symm.trans H; rw [hy549]; with_reducible exact H2_) | (have H2_ := (Option.bind_some _ _).symm.trans H; with_reducible exact H2_) | with_reducible exact H | (rw [hy549]; exact H) | exact H
 have Ny549 := yD hy549
 clear hy549
 replace H := sQ H; rcases H with ⟨-, c3b0, c3b1, H⟩ | ⟨c3, c3b0, c3b1, H⟩
 ·
  have H' := yD H
  clear H; go_enter Try.func33, Try.ntmps33
  go_wp2_with (first | (refine gD 3 ?_; refine bF (N := 3) (cs := #[.int .i64 a1_0, .slice A1_1 l1_1.length c1_1, .slice A1_2 l1_2.length c1_2, .slice A1_3 l1_3.length c1_3, .slice A1_4 l1_4.length c1_4, .slice A1_5 l1_5.length c1_5]) (t := 26) HB ?_; intro gb548 w4 BK548 GW548 HB) | (refine gD 13 ?_; refine Kd.R_lit (Kd.int .i64) _ 2 ?hg (N := 13) ?hd (xs := ([] : List Int)) (inner := []) (ok := fun _ => True) (okp := fun _ => True) ?hr ?hp (fun _ hk => hk) trivial (Below.refl _ _) (Nat.le_refl _) (by simp) ?_; (case hd => rfl); (case hg => rfl); (case hr => first | (go_simp; done) | (go_simp; rfl)); (case hp => exact (cW.none _ _)); intro v550 w5 ho6 hb hg_ hnew_; clear hg_ hnew_; (first | rw [← Ny549.out] at ho6 | (simp only [Int.reduceToNat] at ho6; rw [← Ny549.out] at ho6)); have HO551 := yD (yZ ho6 (aD (kB HB))); replace BK548 := zY BK548 hb; replace HB := zX HB hb; clear hb ho6; have := cf6_ BK548.out))
  (try simp only [Act.put, zH, zI, zJ])
  go_loopg [5, 6] k (fun kq v5 v6 w' => ∃ (x5_1 : List Int) (x6_1 : Int), v6 = .int .i64 x6_1 ∧ aC (aH.l0 kq l0 x5_1 x6_1 = some r) ∧ aC (kq ≤ k) ∧ aC (Kd.R (Kd.int .i64) 2 w' w.heap.size (fun _ => True) v5 x5_1) ∧ aC (w'.heap[gb548]? = some (.cells #[.int .i64 a1_0, (.slice A1_1 l1_1.length c1_1), (.slice A1_2 l1_2.length c1_2), (.slice A1_3 l1_3.length c1_3), (.slice A1_4 l1_4.length c1_4), (.slice A1_5 l1_5.length c1_5)] 26 (0, 0))) ∧ aC (Below w.heap.size w w'))
  case atStart => exact ⟨(y549), (0), kF, H', ⟨Nat.le_refl _⟩, ⟨kA HO551⟩, ⟨kM BK548⟩, ⟨kR1 HB⟩⟩
  case round =>
   clear H'
   obtain ⟨x5_1, x6_1, rfl, HA, HK1, HO_5, BK548, HB⟩ := hrel
   cases gk with
   | zero => exact absurd HA.out (by simp [aH.l0])
   | succ k1 =>
    have H := HA.out; clear HA
    simp only [aH.l0] at H
    replace ⟨t552, A8, H⟩ := sV H
    replace H := sG H; rcases H with ⟨c9b0, H⟩ | ⟨c9b0, H⟩
    · obtain rfl := sJ H
      go_wp2_with (first | (refine gC 28 ?_; refine gL 20 Try.func28 _ (dm (cE.calls k1 _ _ l0 t552 _ (C0.b HB) A8.out) fun nd => ?_)))
      go_ret
      exact ⟨_, kE, kA HO_5, kR1 HB⟩
    replace ⟨LMc10, H⟩ := sM H
    generalize hy553 : ((x5_1 ++ [x6_1]) : List Int) = y553 at H
    have Ny553 := yD hy553.symm
    clear hy553
    have H' := yD H
    clear H
    go_wp2_with (first | (refine gC 28 ?_; refine gL 20 Try.func28 _ (dm (cE.calls k1 _ _ l0 t552 _ (C0.b HB) A8.out) fun nd => ?_)) | ((with_reducible refine gate_builtin (b := .append) (xs := #[.tmp 24, .tmp 26]) rfl ?_); at_builtin; refine Kd.R_append (Kd.int .i64) (w0 := w) w.heap.size rfl (.tmp 24) (.tmp 26) 23 2 (.int .i64 0) 8 rfl Try.underlying23 info2 rfl (by decide) (by omega) u5 x5_1 x6_1 [.int .i64 x6_1] (fun _ => True) (fun _ => False) rfl rfl ?aP (fun _ hk => hk.elim) ?aF ?aO ?aB ?aS ?aL ?_; (case aP => exact rfl); (case aB => exact (kB HB)); (case aF => exact (fun _ _ => trivial)); (case aO => exact (kA HO_5)); (case aS => exact (aD (kB HB))); (case aL => have := LMc10.out; omega); intro v554 w11 ho hb hg hat; rw [← Ny553.out] at ho; replace BK548 := yD (blk_grown (g := gb548) (o := .cells #[.int .i64 a1_0, .slice A1_1 l1_1.length c1_1, .slice A1_2 l1_2.length c1_2, .slice A1_3 l1_3.length c1_3, .slice A1_4 l1_4.length c1_4, .slice A1_5 l1_5.length c1_5] 26 (0, 0)) (kM BK548) hg (Kd.R_ne HO_5.out BK548.out (by decide))); replace HB := yD (hb); have HO555 := yD (ho); clear HO_5; clear ho hb hg hat))
    go_roundg k1
    case measure => have := HK1.out; omega
    case rel => exact ⟨(y553), (wrap64 (x6_1 + 1)), kF, H', ⟨by have := HK1.out; omega⟩, ⟨kA HO555⟩, ⟨kM BK548⟩, ⟨kR1 HB⟩⟩
 replace H := sQ H; rcases H with ⟨-, c12b0, c12b1, H⟩ | ⟨c12, c12b0, c12b1, H⟩
 ·
  have H' := yD H
  clear H; go_enter Try.func33, Try.ntmps33
  go_wp2_with (first | (refine gD 3 ?_; refine bF (N := 3) (cs := #[.int .i64 a1_0, .slice A1_1 l1_1.length c1_1, .slice A1_2 l1_2.length c1_2, .slice A1_3 l1_3.length c1_3, .slice A1_4 l1_4.length c1_4, .slice A1_5 l1_5.length c1_5]) (t := 26) HB ?_; intro gb548 w13 BK548 GW548 HB) | (refine gD 13 ?_; refine Kd.R_lit (Kd.int .i64) _ 2 ?hg (N := 13) ?hd (xs := ([] : List Int)) (inner := []) (ok := fun _ => True) (okp := fun _ => True) ?hr ?hp (fun _ hk => hk) trivial (Below.refl _ _) (Nat.le_refl _) (by simp) ?_; (case hd => rfl); (case hg => rfl); (case hr => first | (go_simp; done) | (go_simp; rfl)); (case hp => exact (cW.none _ _)); intro v550 w14 ho15 hb hg_ hnew_; clear hg_ hnew_; (first | rw [← Ny549.out] at ho15 | (simp only [Int.reduceToNat] at ho15; rw [← Ny549.out] at ho15)); have HO551 := yD (yZ ho15 (aD (kB HB))); replace BK548 := zY BK548 hb; replace HB := zX HB hb; clear hb ho15; have := cf6_ BK548.out))
  (try simp only [Act.put, zH, zI, zJ])
  go_loopg [5, 7] k (fun kq v5 v7 w' => ∃ (x5_1 : List Int) (x7_1 : Int), v7 = .int .i64 x7_1 ∧ aC (aH.l1 kq l0 x5_1 x7_1 a1_0 l1_1 l1_2 l1_3 l1_4 l1_5 = some r) ∧ aC (kq ≤ k) ∧ aC (Kd.R (Kd.int .i64) 2 w' w.heap.size (fun _ => True) v5 x5_1) ∧ aC (w'.heap[gb548]? = some (.cells #[.int .i64 a1_0, (.slice A1_1 l1_1.length c1_1), (.slice A1_2 l1_2.length c1_2), (.slice A1_3 l1_3.length c1_3), (.slice A1_4 l1_4.length c1_4), (.slice A1_5 l1_5.length c1_5)] 26 (0, 0))) ∧ aC (Below w.heap.size w w'))
  case atStart => exact ⟨(y549), (0), kF, H', ⟨Nat.le_refl _⟩, ⟨kA HO551⟩, ⟨kM BK548⟩, ⟨kR1 HB⟩⟩
  case round =>
   clear H'
   obtain ⟨x5_1, x7_1, rfl, HA, HK1, HO_5, BK548, HB⟩ := hrel
   cases gk with
   | zero => exact absurd HA.out (by simp [aH.l1])
   | succ k1 =>
    have H := HA.out; clear HA
    simp only [aH.l1] at H
    replace H := sG H; rcases H with ⟨c17b0, H⟩ | ⟨c17b0, H⟩
    ·
     obtain rfl := sJ H
     have := cf6_ BK548.out
     go_wp2
     go_ret
     exact ⟨_, kE, kA HO_5, kR1 HB⟩
    replace ⟨c18b0, H⟩ := sE H
    replace ⟨t557, A19, H⟩ := sV H
    replace ⟨LMc20, H⟩ := sM H
    generalize hy558 : ((x5_1 ++ [t557]) : List Int) = y558 at H
    have Ny558 := yD hy558.symm
    clear hy558
    have H' := yD H
    clear H
    have := cf6_ BK548.out
    obtain ⟨p556, q556, ad556, A556_0, c556_0, e556, hx556_0, HC556_0, HR556_0⟩ := sI (at_T68 C1_5.r x7_1)
    cases e556
    replace hx556_0 := kD HB hx556_0
    go_wp2_with (first | (refine gC 34 ?_; refine gL 45 Try.func34 _ (dm (spec_l05Index.calls k1 _ _ l0 _ _ ((bU l1_5 x7_1).f0) t557 _ (C0.b HB) (cB HR556_0 HC556_0 HB) A19.out) fun nd => ?_)) | ((with_reducible refine gate_builtin (b := .append) (xs := #[.tmp 37, .tmp 46]) rfl ?_); at_builtin; refine Kd.R_append (Kd.int .i64) (w0 := w) w.heap.size rfl (.tmp 37) (.tmp 46) 23 2 (.int .i64 0) 8 rfl Try.underlying23 info2 rfl (by decide) (by omega) u5 x5_1 t557 [.int .i64 t557] (fun _ => True) (fun _ => False) rfl rfl ?aP (fun _ hk => hk.elim) ?aF ?aO ?aB ?aS ?aL ?_; (case aP => exact rfl); (case aB => exact (kB HB)); (case aF => exact (fun _ _ => trivial)); (case aO => exact (kA HO_5)); (case aS => exact (aD (kB HB))); (case aL => have := LMc20.out; omega); intro v559 w22 ho hb hg hat; rw [← Ny558.out] at ho; replace BK548 := yD (blk_grown (g := gb548) (o := .cells #[.int .i64 a1_0, .slice A1_1 l1_1.length c1_1, .slice A1_2 l1_2.length c1_2, .slice A1_3 l1_3.length c1_3, .slice A1_4 l1_4.length c1_4, .slice (some ad556) l1_5.length c1_5] 26 (0, 0)) (kM BK548) hg (Kd.R_ne HO_5.out BK548.out (by decide))); replace HB := yD (hb); have HO560 := yD (ho); clear HO_5; clear ho hb hg hat))
    go_roundg k1
    case measure => have := HK1.out; omega
    case rel => exact ⟨(y558), (wrap64 (x7_1 + 1)), kF, H', ⟨by have := HK1.out; omega⟩, ⟨kA HO560⟩, ⟨kM BK548⟩, ⟨kR1 HB⟩⟩
 replace H := sP H; rcases H with ⟨c24, c24b0, c24b1, H⟩ | ⟨-, c24b0, c24b1, H⟩
 ·
  obtain rfl := sJ H; go_enter Try.func33, Try.ntmps33
  go_wp2_with (first | (refine gD 3 ?_; refine bF (N := 3) (cs := #[.int .i64 a1_0, .slice A1_1 l1_1.length c1_1, .slice A1_2 l1_2.length c1_2, .slice A1_3 l1_3.length c1_3, .slice A1_4 l1_4.length c1_4, .slice A1_5 l1_5.length c1_5]) (t := 26) HB ?_; intro gb548 w51 BK548 GW548 HB) | (refine gD 13 ?_; refine Kd.R_lit (Kd.int .i64) _ 2 ?hg (N := 13) ?hd (xs := ([] : List Int)) (inner := []) (ok := fun _ => True) (okp := fun _ => True) ?hr ?hp (fun _ hk => hk) trivial (Below.refl _ _) (Nat.le_refl _) (by simp) ?_; (case hd => rfl); (case hg => rfl); (case hr => first | (go_simp; done) | (go_simp; rfl)); (case hp => exact (cW.none _ _)); intro v550 w52 ho53 hb hg_ hnew_; clear hg_ hnew_; (first | rw [← Ny549.out] at ho53 | (simp only [Int.reduceToNat] at ho53; rw [← Ny549.out] at ho53)); have HO551 := yD (yZ ho53 (aD (kB HB))); replace BK548 := zY BK548 hb; replace HB := zX HB hb; clear hb ho53; have := cf6_ BK548.out))
  go_ret
  exact ⟨_, kE, kA HO551, kR1 HB⟩
 replace ⟨LMc25, H⟩ := sM H
 generalize hy561 : ((y549 ++ [0]) : List Int) = y561 at H
 have Ny561 := yD hy561.symm
 clear hy561
 have H' := yD H
 clear H; go_enter Try.func33, Try.ntmps33
 go_wp2_with (first | (refine gD 3 ?_; refine bF (N := 3) (cs := #[.int .i64 a1_0, .slice A1_1 l1_1.length c1_1, .slice A1_2 l1_2.length c1_2, .slice A1_3 l1_3.length c1_3, .slice A1_4 l1_4.length c1_4, .slice A1_5 l1_5.length c1_5]) (t := 26) HB ?_; intro gb548 w26 BK548 GW548 HB) | (refine gD 13 ?_; refine Kd.R_lit (Kd.int .i64) _ 2 ?hg (N := 13) ?hd (xs := ([] : List Int)) (inner := []) (ok := fun _ => True) (okp := fun _ => True) ?hr ?hp (fun _ hk => hk) trivial (Below.refl _ _) (Nat.le_refl _) (by simp) ?_; (case hd => rfl); (case hg => rfl); (case hr => first | (go_simp; done) | (go_simp; rfl)); (case hp => exact (cW.none _ _)); intro v550 w27 ho28 hb hg_ hnew_; clear hg_ hnew_; (first | rw [← Ny549.out] at ho28 | (simp only [Int.reduceToNat] at ho28; rw [← Ny549.out] at ho28)); have HO551 := yD (yZ ho28 (aD (kB HB))); replace BK548 := zY BK548 hb; replace HB := zX HB hb; clear hb ho28; have := cf6_ BK548.out) | ((with_reducible refine gate_builtin (b := .append) (xs := #[.tmp 50, .tmp 51]) rfl ?_); at_builtin; refine Kd.R_append (Kd.int .i64) (w0 := w) w.heap.size rfl (.tmp 50) (.tmp 51) 23 2 (.int .i64 0) 8 rfl Try.underlying23 info2 rfl (by decide) (by omega) v550 y549 0 [.int .i64 0] (fun _ => True) (fun _ => False) rfl rfl ?aP (fun _ hk => hk.elim) ?aF ?aO ?aB ?aS ?aL ?_; (case aP => exact rfl); (case aB => exact (kB HB)); (case aF => exact (fun _ _ => trivial)); (case aO => exact (kA HO551)); (case aS => exact (aD (kB HB))); (case aL => have := LMc25.out; omega); intro v562 w30 ho hb hg hat; rw [← Ny561.out] at ho; replace BK548 := yD (blk_grown (g := gb548) (o := .cells #[.int .i64 a1_0, .slice A1_1 l1_1.length c1_1, .slice A1_2 l1_2.length c1_2, .slice A1_3 l1_3.length c1_3, .slice A1_4 l1_4.length c1_4, .slice A1_5 l1_5.length c1_5] 26 (0, 0)) (kM BK548) hg (Kd.R_ne HO551.out BK548.out (by decide))); replace HB := yD (hb); have HO563 := yD (ho); clear HO551; clear ho hb hg hat))
 (try simp only [Act.put, zH, zI, zJ])
 go_loopg [5, 8] k (fun kq v5 v8 w' => ∃ (x5_1 : List Int) (x8_1 : Int), v8 = .int .i64 x8_1 ∧ aC (aH.l2 kq l0 x5_1 x8_1 a1_0 l1_1 l1_2 l1_3 l1_4 l1_5 = some r) ∧ aC (kq ≤ k) ∧ aC (Kd.R (Kd.int .i64) 2 w' w.heap.size (fun _ => True) v5 x5_1) ∧ aC (w'.heap[gb548]? = some (.cells #[.int .i64 a1_0, (.slice A1_1 l1_1.length c1_1), (.slice A1_2 l1_2.length c1_2), (.slice A1_3 l1_3.length c1_3), (.slice A1_4 l1_4.length c1_4), (.slice A1_5 l1_5.length c1_5)] 26 (0, 0))) ∧ aC (Below w.heap.size w w'))
 case atStart => exact ⟨(y561), (0), kF, H', ⟨Nat.le_refl _⟩, ⟨kA HO563⟩, ⟨kM BK548⟩, ⟨kR1 HB⟩⟩
 case round =>
  clear H'
  obtain ⟨x5_1, x8_1, rfl, HA, HK1, HO_5, BK548, HB⟩ := hrel
  cases gk with
  | zero => exact absurd HA.out (by simp [aH.l2])
  | succ k1 =>
   have H := HA.out; clear HA
   simp only [aH.l2] at H
   replace H := sG H; rcases H with ⟨c31b0, H⟩ | ⟨c31b0, H⟩
   · obtain rfl := sJ H
     go_wp2
     go_ret
     exact ⟨_, kE, kA HO_5, kR1 HB⟩
   replace ⟨t564, A32, H⟩ := sV H
   obtain ⟨y567, hy567⟩ : ∃ y_ : List Int, y_ = (([] : List Int)) := ⟨_, rfl⟩
   replace H : (aH.l3 k1 l0 x5_1 x8_1 t564 y567 0 a1_0 l1_1 l1_2 l1_3 l1_4 l1_5) = some r := by first | (rw [hy567]; with_reducible exact H) | (have H2_ := (Option.bind_some _ _).symm.trans H; rw [hy567]; with_reducible exact H2_) | (have H2_ := (Option.bind_some _ _).symm.trans H; with_reducible exact H2_) | with_reducible exact H | (rw [hy567]; exact H) | exact H
   have Ny567 := yD hy567
   clear hy567
   have H' := yD H
   clear H
   have := cf6_ BK548.out
   go_wp2_with (first | (refine gC 60 ?_; refine gL 61 Try.func60 _ (dv (bV.calls k1 a1_0 _ _ l1_1 _ _ l1_2 _ _ l1_3 _ _ l1_4 _ _ l1_5 x8_1 t564 _ (C1_1.b HB) (C1_2.b HB) (C1_3.b HB) (C1_4.b HB) (C1_5.b HB) A32.out) fun v565 w34 ho0 hb => ?_); have HO566 := yD (yZ (yJ ho0 (yK (kA HO_5))) (aD (kB HB))); replace HO_5 := yD (Kd.R_elder' (kA HO_5) (yH ho0) hb); replace BK548 := zY BK548 hb; replace HB := zX HB hb; clear hb ho0) | (refine gD 62 ?_; refine Kd.R_lit (Kd.int .i64) _ 2 ?hg (N := 62) ?hd (xs := ([] : List Int)) (inner := []) (ok := fun _ => True) (okp := fun _ => True) ?hr ?hp (fun _ hk => hk) trivial (Below.refl _ _) (Nat.le_refl _) (by simp) ?_; (case hd => rfl); (case hg => rfl); (case hr => first | (go_simp; done) | (go_simp; rfl)); (case hp => exact (cW.none _ _)); intro v568 w35 ho36 hb hg_ hnew_; clear hg_ hnew_; (first | rw [← Ny567.out] at ho36 | (simp only [Int.reduceToNat] at ho36; rw [← Ny567.out] at ho36)); have HO569 := yD (yZ (yJ (yJ ho36 (yK (kA HO_5))) (yK (kA HO566))) (aD (kB HB))); replace HO_5 := yD (Kd.R_elder' (kA HO_5) (yH ho36) hb); replace HO566 := yD (Kd.R_elder' (kA HO566) (yH ho36) hb); replace BK548 := zY BK548 hb; replace HB := zX HB hb; clear hb ho36))
   (try simp only [Act.put, zH, zI, zJ])
   go_loopg [10, 11] k1 (fun kq v10 v11 w' => ∃ (x10_2 : List Int) (x11_2 : Int), v11 = .int .i64 x11_2 ∧ aC (aH.l3 kq l0 x5_1 x8_1 t564 x10_2 x11_2 a1_0 l1_1 l1_2 l1_3 l1_4 l1_5 = some r) ∧ aC (kq ≤ k1) ∧ aC (Kd.R (Kd.int .i64) 2 w' w.heap.size (fun k_ => oB v565 k_ ∧ oB v10 k_) u5 x5_1) ∧ aC (Kd.R (Kd.int .i64) 2 w' w.heap.size (fun k_ => oB u5 k_ ∧ oB v10 k_) v565 t564) ∧ aC (Kd.R (Kd.int .i64) 2 w' w.heap.size (fun k_ => oB u5 k_ ∧ oB v565 k_) v10 x10_2) ∧ aC (w'.heap[gb548]? = some (.cells #[.int .i64 a1_0, (.slice A1_1 l1_1.length c1_1), (.slice A1_2 l1_2.length c1_2), (.slice A1_3 l1_3.length c1_3), (.slice A1_4 l1_4.length c1_4), (.slice A1_5 l1_5.length c1_5)] 26 (0, 0))) ∧ aC (Below w.heap.size w w'))
   case atStart => exact ⟨(y567), (0), kF, H', ⟨Nat.le_refl _⟩, ⟨mR HO_5 (fun _ hk => ⟨hk.1.2, hk.2⟩)⟩, ⟨mR HO566 (fun _ hk => ⟨hk.1.2, hk.2⟩)⟩, ⟨mR HO569 (fun _ hk => ⟨hk.1.2, hk.2⟩)⟩, ⟨kM BK548⟩, ⟨kR1 HB⟩⟩
   case round =>
    clear H'
    obtain ⟨x10_2, x11_2, rfl, HA, HK2, HO_5, HO_9, HO_10, BK548, HB⟩ := hrel
    cases gk with
    | zero => exact absurd HA.out (by simp [aH.l3])
    | succ k2 =>
     have H := HA.out; clear HA
     simp only [aH.l3] at H
     replace H := sG H; rcases H with ⟨c37b0, H⟩ | ⟨c37b0, H⟩
     ·
      have H' := yD H
      clear H
      obtain ⟨Ao50, co50, eo50⟩ := Kd.bS HO_5.out
      subst eo50
      go_wp2
      go_roundg k2
      case measure => have := HK1.out; have := HK2.out; omega
      case rel => exact ⟨(x10_2), (wrap64 (x8_1 + 1)), kF, H', ⟨by have := HK1.out; have := HK2.out; omega⟩, ⟨mR HO_10 (fun _ hk => trivial)⟩, ⟨kM BK548⟩, ⟨kR1 HB⟩⟩
     have H' := yD H
     clear H
     obtain ⟨Ao38, co38, eo38⟩ := Kd.bS HO_5.out
     subst eo38
     go_wp2
     go_loopg [10, 12] k2 (fun kq v10 v12 w' => ∃ (x10_3 : List Int) (x12_3 : Int), v12 = .int .i64 x12_3 ∧ aC (aH.l4 kq l0 x5_1 x8_1 t564 x10_3 x11_2 x12_3 a1_0 l1_1 l1_2 l1_3 l1_4 l1_5 = some r) ∧ aC (kq ≤ k2) ∧ aC (Kd.R (Kd.int .i64) 2 w' w.heap.size (fun k_ => oB v565 k_ ∧ oB v10 k_) (.slice Ao38 x5_1.length co38) x5_1) ∧ aC (Kd.R (Kd.int .i64) 2 w' w.heap.size (fun k_ => oB (.slice Ao38 x5_1.length co38) k_ ∧ oB v10 k_) v565 t564) ∧ aC (Kd.R (Kd.int .i64) 2 w' w.heap.size (fun k_ => oB (.slice Ao38 x5_1.length co38) k_ ∧ oB v565 k_) v10 x10_3) ∧ aC (w'.heap[gb548]? = some (.cells #[.int .i64 a1_0, (.slice A1_1 l1_1.length c1_1), (.slice A1_2 l1_2.length c1_2), (.slice A1_3 l1_3.length c1_3), (.slice A1_4 l1_4.length c1_4), (.slice A1_5 l1_5.length c1_5)] 26 (0, 0))) ∧ aC (Below w.heap.size w w'))
     case atStart => exact ⟨(x10_2), (0), kF, H', ⟨Nat.le_refl _⟩, ⟨kA HO_5⟩, ⟨kA HO_9⟩, ⟨kA HO_10⟩, ⟨kM BK548⟩, ⟨kR1 HB⟩⟩
     case round =>
      clear H'
      obtain ⟨x10_3, x12_3, rfl, HA, HK3, HO_5, HO_9, HO_10, BK548, HB⟩ := hrel
      cases gk with
      | zero => exact absurd HA.out (by simp [aH.l4])
      | succ k3 =>
       have H := HA.out; clear HA
       simp only [aH.l4] at H
       replace H := sG H; rcases H with ⟨c39b0, H⟩ | ⟨c39b0, H⟩
       ·
        have H' := yD H
        clear H
        obtain ⟨Ao49, co49, eo49⟩ := Kd.bS HO_9.out
        subst eo49
        go_wp2
        go_roundg k3
        case measure => have := HK1.out; have := HK2.out; have := HK3.out; omega
        case rel => exact ⟨(x10_3), (wrap64 (x11_2 + 1)), kF, H', ⟨by have := HK1.out; have := HK2.out; have := HK3.out; omega⟩, ⟨kA HO_5⟩, ⟨kA HO_9⟩, ⟨kA HO_10⟩, ⟨kM BK548⟩, ⟨kR1 HB⟩⟩
       replace ⟨c40b0, H⟩ := sE H
       replace ⟨c41b0, H⟩ := sE H
       replace ⟨c42b0, H⟩ := sE H
       replace ⟨c43b0, H⟩ := sE H
       replace ⟨c44b0, H⟩ := sE H
       replace ⟨LMc45, H⟩ := sM H
       generalize hy573 : ((x10_3 ++ [wrap64 ((wrap64 ((rd x5_1 x11_2) * (rd l0 x8_1))) + (rd t564 x12_3))]) : List Int) = y573 at H
       have Ny573 := yD hy573.symm
       clear hy573
       have H' := yD H
       clear H
       obtain ⟨Ao46, co46, eo46⟩ := Kd.bS HO_9.out
       subst eo46
       try go_wp2
       replace HO_5 := yD (yC HO_5.out); replace HO_9 := yD (yC HO_9.out); replace HO_10 := yD (yC HO_10.out); replace BK548 := yD (yO BK548.out); replace HB := yD (yP HB.out)
       obtain ⟨p570, q570, ad570, e570, hx570_0⟩ := sI (Kd.aX (zA HO_5.out).2.2 x11_2)
       cases e570
       obtain ⟨p571, q571, ad571, e571, hx571_0⟩ := sI (Kd.aX C0.r x8_1)
       have hw571_0 := hx571_0; cases e571
       replace hx571_0 := kD HB hx571_0
       obtain ⟨p572, q572, ad572, e572, hx572_0⟩ := sI (Kd.aX (zA HO_9.out).2.2 x12_3)
       cases e572
       refine start_ (n := 18) (S := fun w' => w'.cell? (ad570.add (x11_2).toNat) = some (.int .i64 (rd x5_1 x11_2)) ∧ w'.cell? (ad571.add (x8_1).toNat) = some (.int .i64 (rd l0 x8_1)) ∧ w'.cell? (ad572.add (x12_3).toNat) = some (.int .i64 (rd t564 x12_3))) (ds := [15, 16]) (bz 18 0) (by kernel_rfl) rfl rfl ⟨hx570_0, (kC HB hw571_0), hx572_0⟩ (fun hHeld => ?_); refine with_tabW aH.tab26 aH.bits26 (fun HT_ HW_ => ?_)
       generalize wr.drew = w47 at HO_5 HO_9 HO_10 BK548 HB hx570_0 hx571_0 hx572_0 hHeld ⊢
       refine qa 18 0 1 ?_; refine qa 18 1 3 ?_; refine qa 18 2 7 ?_; refine qa 18 3 15 ?_; refine qa 18 5 47 ?_; refine qa 18 6 111 ?_; refine qa 18 7 239 ?_; refine qa 18 10 1263 ?_; refine qa 18 11 3311 ?_; refine qa 18 12 7407 ?_; refine qc 18 4 7423 hHeld ?_; refine qc 18 8 7679 hHeld ?_; refine qa 18 9 8191 ?_; refine qc 18 13 16383 hHeld ?_; refine qa 18 14 32767 ?_
       refine last_ (i := 15) (N := some 90) #[true, true, true, true, true, true, true, true, true, true, true, true, true, true, true, true, false, false] rfl rfl (one_of HT_.out (by kernel_rfl)) (by decide) (fun K hK => ?_)
       refine value_ (w1 := ?_) (v := ?_) (by rfl) rfl ?_ ?_
       rotate_left 2
       · go_simp
         constructor
         · rfl
         · rfl
       refine hK.out _ _ ?_
       clear hK K
       refine nZ 90 ?_
       refine last_ (i := 16) (N := some 91) #[true, true, true, true, true, true, true, true, true, true, true, true, true, true, true, true, true, false] rfl rfl (one_of HT_.out (by kernel_rfl)) (by decide) (fun K hK => ?_)
       refine Kd.R_append_step (Kd.int .i64) (w0 := w) w.heap.size (by rfl) (.tmp 75) (.tmp 90) 23 2 (.int .i64 0) 8 rfl Try.underlying23 info2 rfl (by decide) (by omega) u10 x10_3 (wrap64 ((wrap64 ((rd x5_1 x11_2) * (rd l0 x8_1))) + (rd t564 x12_3))) [.int .i64 (wrap64 ((wrap64 ((rd x5_1 x11_2) * (rd l0 x8_1))) + (rd t564 x12_3)))] (fun k_ => oB (.slice (some ad570) x5_1.length co38) k_ ∧ oB (.slice (some ad572) t564.length co46) k_) (fun _ => False) rfl rfl ?aP (fun _ hk => hk.elim) ?aF ?aO ?aB ?aS ?aL ?_
       (case aP => exact rfl)
       (case aB => exact (kB HB))
       (case aF => exact (fun k_ hk => ⟨Kd.cQ (yK (kA HO_5)) k_ hk, Kd.cQ (yK (kA HO_9)) k_ hk⟩))
       (case aO => exact (kA HO_10))
       (case aS => exact (aD (kB HB)))
       (case aL => have := LMc45.out; omega)
       intro v574 w48 ho hb hg hat
       rw [← Ny573.out] at ho
       have n0_ := yD (Kd.R_after (ok := (fun k_ => oB (.slice (some ad572) t564.length co46) k_)) (kA HO_5) hg hat)
       have n1_ := yD (Kd.R_after (ok := (fun k_ => oB (.slice (some ad570) x5_1.length co38) k_)) (kA HO_9) hg hat)
       have n2_ := yD (blk_grown (g := gb548) (o := .cells #[.int .i64 a1_0, .slice A1_1 l1_1.length c1_1, .slice A1_2 l1_2.length c1_2, .slice A1_3 l1_3.length c1_3, .slice A1_4 l1_4.length c1_4, .slice A1_5 l1_5.length c1_5] 26 (0, 0)) (kM BK548) hg (Kd.R_ne HO_10.out BK548.out (by decide)))
       have n3_ := yD (hb)
       have n4_ := yD (ho)
       clear HO_5 HO_9 BK548 HB HO_10; have HO_5 := n0_; have HO_9 := n1_; have BK548 := n2_; have HB := n3_; have HO575 := n4_; clear n0_ n1_ n2_ n3_ n4_ ho hb hg hat
       refine hK.out _ _ ?_
       clear hK K
       refine nZ 91 ?_
       refine qa 18 17 262143 ?_
       refine qd ?_
       try go_wp2
       go_roundg k3
       case measure => have := HK1.out; have := HK2.out; have := HK3.out; omega
       case rel => exact ⟨(y573), (wrap64 (x12_3 + 1)), kF, H', ⟨by have := HK1.out; have := HK2.out; have := HK3.out; omega⟩, ⟨kA HO_5⟩, ⟨kA HO_9⟩, ⟨kA HO575⟩, ⟨kM BK548⟩, ⟨kR1 HB⟩⟩
def spec_l05Coords.l0 : Nat → List Int → Int → List Int → Int → Option (List Int)
 | 0, _, _, _, _ => none
 | k + 1, x0, x1, x5, x6 => if x6 ≥ 0 then (if 0 ≤ x6 then (if x6 < (x0.length : Int) then (if (rd x0 x6) = 0 then (none) else (if x6 < (x5.length : Int) then (spec_l05Coords.l0 k x0 (wrap64 (Int.tdiv x1 (rd x0 x6))) (x5.set (x6 : Int).toNat (Int.tmod x1 (rd x0 x6))) (wrap64 (x6 - 1))) else (none))) else (none)) else (none)) else (some x5)
def spec_l05Coords.f (k : Nat) (l0 : List Int) (a1 : Int) : Option (List Int) := if 0 ≤ (l0.length : Int) then (if ((l0.length : Int) : Int).toNat ≤ 35184372088832 then (spec_l05Coords.l0 k l0 a1 (List.replicate ((l0.length : Int) : Int).toNat 0) (wrap64 ((l0.length : Int) - 1))) else (none)) else (none)
theorem spec_l05Coords.calls (k : Nat) (A0 : Option Addr) (c0 : Nat) (l0 : List Int) (a1 : Int) (r : List Int) (w : World) (C0 : Cm (Kd.int .i64) w A0 c0 l0) (h : spec_l05Coords.f k l0 a1 = some r) :
 Calls Try.prog 30 #[.slice A0 l0.length c0, .int .i64 a1] w fun e w' => ∃ v0_ : Value, e = .returned (v0_) ∧ Kd.R (Kd.int .i64) 2 w' w.heap.size (fun _ => True) v0_ r ∧ Below w.heap.size w w' := by
 have HB := yD (Below.refl w.heap.size w)
 unfold spec_l05Coords.f at h
 have H := h
 clear h
 replace ⟨c3, H⟩ := sD H
 have c3b0 := eq_true c3
 have c3b1 : decide (0 ≤ (l0.length : Int)) = true := zR c3; clear c3
 replace ⟨c4, H⟩ := sD H
 have c4b0 := eq_true c4
 have c4b1 : decide (((l0.length : Int) : Int).toNat ≤ 35184372088832) = true := zR c4
 clear c4
 generalize hy576 : ((List.replicate ((l0.length : Int) : Int).toNat 0) : List Int) = y576 at H
 have Ny576 := yD hy576.symm
 clear hy576
 have H' := yD H
 clear H; go_enter Try.func30, Try.ntmps30
 go_wp2_with (first | (refine gD 9 ?_; refine Kd.R_make (Kd.int .i64) _ 2 rfl (N := 9) rfl 23 _ _ rfl (l0.length : Int) rfl rfl Try.underlying23 (.int .i64 0) 8 info2 rfl (by decide) (by omega) 0 (ok := fun _ => True) (okp := fun _ => True) rfl (fun _ hk => hk) trivial (zP (by assumption)) (Nat.le_trans (Nat.mul_le_mul_right _ (zP (by assumption) : (l0.length : Int).toNat ≤ 35184372088832)) (by omega)) (Below.refl _ _) (Nat.le_refl _) ?_; intro v577 w5 ho6 hb hg_ hnew_; clear hg_ hnew_; (first | rw [← Ny576.out] at ho6 | (simp only [Int.reduceToNat] at ho6; rw [← Ny576.out] at ho6)); have HO578 := yD (yZ ho6 (aD (kB HB))); replace HB := zX HB hb; clear hb ho6))
 (try simp only [Act.put, zH, zI, zJ])
 go_loopg [1, 6] k (fun kq v1 v6 w' => ∃ (x1_1 : Int) (x5_1 : List Int) (x6_1 : Int), v1 = .int .i64 x1_1 ∧ v6 = .int .i64 x6_1 ∧ aC (spec_l05Coords.l0 kq l0 x1_1 x5_1 x6_1 = some r) ∧ aC (kq ≤ k) ∧ aC (Kd.R (Kd.int .i64) 2 w' w.heap.size (fun _ => True) v577 x5_1) ∧ aC (Below w.heap.size w w'))
 case atStart => exact ⟨(a1), (y576), (wrap64 ((l0.length : Int) - 1)), kF, kF, H', ⟨Nat.le_refl _⟩, ⟨kA HO578⟩, ⟨kR0 HB⟩⟩
 case round =>
  clear H'
  obtain ⟨x1_1, x5_1, x6_1, rfl, rfl, HA, HK1, HO_5, HB⟩ := hrel
  cases gk with
  | zero => exact absurd HA.out (by simp [spec_l05Coords.l0])
  | succ k1 =>
   have H := HA.out; clear HA
   simp only [spec_l05Coords.l0] at H
   replace H := sC H; rcases H with ⟨c7, H⟩ | ⟨c7, H⟩
   · have c7b0 : decide (0 ≤ x6_1) = false := zS c7; clear c7; obtain rfl := sJ H
     go_wp2
     go_ret
     exact ⟨_, kE, kA HO_5, kR0 HB⟩
   have c7b0 : decide (0 ≤ x6_1) = true := zR c7; clear c7
   replace ⟨c8b0, H⟩ := sE H
   replace ⟨c9b0, H⟩ := sE H
   by_cases c10 : (rd l0 x6_1) = 0
   · rw [if_pos c10] at H
     exact absurd H (by simp)
   ·
    rw [if_neg c10] at H
    have c10b0 : ((rd l0 x6_1) == 0) = false := beq_eq_false_iff_ne.mpr c10
    have c10b1 : ((rd l0 x6_1) != 0) = true := bne_iff_ne.mpr c10
    replace ⟨c11b0, H⟩ := sE H
    generalize hy580 : ((x5_1.set (x6_1 : Int).toNat (Int.tmod x1_1 (rd l0 x6_1))) : List Int) = y580 at H
    have Ny580 := yD hy580.symm
    clear hy580
    have H' := yD H
    clear H
    obtain ⟨p579, q579, ad579, e579, hx579_0⟩ := sI (Kd.aX C0.r x6_1)
    cases e579
    replace hx579_0 := kD HB hx579_0
    have p12 : 0 ≤ (x6_1 : Int) := zP (by assumption)
    have q12 : (x6_1 : Int) < ((x5_1.length : Int) : Int) := zP (by assumption)
    obtain ⟨go12, co12, eo12, gb12, gl12, cl12, HG12⟩ := Kd.R_form HO_5.out (by omega)
    (first | cases eo12 | (injection eo12 with ea_ en_ ec_; (first | subst ea_ | (injection ea_ with ea_; subst ea_)); subst ec_; clear en_))
    have GB12 := yD gb12
    have GG12 := yD HG12
    clear gb12 gl12 HG12
    obtain ⟨hx12_0, hf12_0⟩ := Kd.R_celln 0 HO_5.out (x6_1 : Int) p12 q12
    replace p12 := eq_true p12; replace q12 := eq_true q12
    have HP13 := Kd.R_putg HO_5.out (x6_1 : Int) (Int.tmod x1_1 (rd l0 x6_1))
    go_wp2_with (first | ((with_reducible refine gate_store (t := 2) (p := 25) rfl ?_); refine store_event (t := 2) (p := 25) (v := ?vo_w14) (w1 := (wr.setCell ⟨go12, (x6_1 : Int).toNat, none⟩ (.int .i64 (Int.tmod x1_1 (rd l0 x6_1))))) ?hg ?ho ?hn ?hr ?_; (case ho => rfl); (case hg => rfl); (case hn => rfl); (case hr => first | (go_simp; done) | (go_simp; rfl)); intro w14 hw; have hg : wr.grownBy w14 (some go12) := (by rw [hw]; exact HP13.2); have hp_ : Kd.R (Kd.int .i64) 2 w14 w.heap.size (fun _ => True) (.slice (some ⟨go12, 0, none⟩) x5_1.length co12) y580 := (by rw [hw, Ny580.out]; exact HP13.1); clear HP13; replace HO_5 := yD (hp_); replace HB := yD ((by rw [hw]; exact yE (HB.out) GB12.out : Below w.heap.size w w14)); clear hg hw hp_; have p581 : 0 ≤ (x6_1 : Int) := zP (by assumption); have q581 : x6_1 < (l0.length : Int) := zP (by assumption); obtain ⟨ad581, e581, hx581_0⟩ := Kd.aX C0.r x6_1 p581 q581; obtain rfl : ad579 = ad581 := (by injection e581); replace hx581_0 := kD HB hx581_0; replace p581 := eq_true p581; replace q581 := eq_true q581))
    go_roundg k1
    case measure => have := HK1.out; omega
    case rel => exact ⟨(wrap64 (Int.tdiv x1_1 (rd l0 x6_1))), (y580), (wrap64 (x6_1 - 1)), kF, kF, H', ⟨by have := HK1.out; omega⟩, ⟨kA HO_5⟩, ⟨kR0 HB⟩⟩
mutual
def cO.l0 : Nat → List Int → List Int → List (S33) → Int → Option ((List (S33)))
 | 0, _, _, _, _ => none
 | k + 1, x0, x1, x5, x6 => if x6 < (x1.length : Int) then (if 0 ≤ x6 then ((spec_l05Coords.f k x0 (rd x1 x6)).bind fun t586 => ((spec_l00Own.f t586).bind fun t589 => (cO.l1 k x0 x1 x5 x6 t586 t589 0))) else (none)) else (some x5)
def cO.l1 : Nat → List Int → List Int → List (S33) → Int → List Int → List Int → Int → Option ((List (S33)))
 | 0, _, _, _, _, _, _, _ => none
 | k + 1, x0, x1, x5, x6, x7, x8, x9 => if x9 < (x8.length : Int) then (if 0 ≤ x9 then (cO.l1 k x0 x1 x5 x6 x7 (x8.set (x9 : Int).toNat (wrap64 ((rd x8 x9) + 1))) (wrap64 (x9 + 1))) else (none)) else (if x5.length < 2932031007402 then (cO.l0 k x0 x1 (x5 ++ [(⟨x7, x8⟩ : S33)]) (wrap64 (x6 + 1))) else (none))
end
def cO.f (k : Nat) (l0 l1 : List Int) : Option ((List (S33))) := cO.l0 k l0 l1 (([] : List (S33))) 0
theorem cO.calls (k : Nat) (A0 : Option Addr) (c0 : Nat) (l0 : List Int) (A1 : Option Addr) (c1 : Nat) (l1 : List Int) (r : List (S33)) (w : World) (C0 : Cm (Kd.int .i64) w A0 c0 l0) (C1 : Cm (Kd.int .i64) w A1 c1 l1) (h : cO.f k l0 l1 = some r) :
 Calls Try.prog 57 #[.slice A0 l0.length c0, .slice A1 l1.length c1] w fun e w' => ∃ v0_ : Value, e = .returned (v0_) ∧ Kd.S k33 33 w' w.heap.size (fun _ => True) v0_ r ∧ Below w.heap.size w w' := by
 have hu33 := Try.underlying33
 have HB := yD (Below.refl w.heap.size w)
 unfold cO.f at h
 have H := h
 clear h
 obtain ⟨y582, hy582⟩ : ∃ y_ : List (S33), y_ = (([] : List (S33))) := ⟨_, rfl⟩
 replace H : (cO.l0 k l0 l1 y582 0) = some r := by first | (rw [hy582]; with_reducible exact H) | (have H2_ := (Option.bind_some _ _).symm.trans H; rw [hy582]; with_reducible exact H2_) | (have H2_ := (Option.bind_some _ _).symm.trans H; with_reducible exact H2_) | with_reducible exact H | (rw [hy582]; exact H) | exact H
 have Ny582 := yD hy582
 clear hy582
 have H' := yD H
 clear H; go_enter Try.func57, Try.ntmps57
 go_wp2_with (first | (refine gD 10 ?_; refine Kd.S_lit k33 _ 33 ?hg (N := 10) ?hd (xs := ([] : List (S33))) (inner := []) (ok := fun _ => True) (okp := fun _ => True) ?hr ?hp (fun _ hk => hk) trivial (Below.refl _ _) (Nat.le_refl _) (by simp) ?_; (case hd => rfl); (case hg => rfl); (case hr => first | (go_simp; done) | (go_simp; rfl)); (case hp => exact (cW.none _ _)); intro v583 w3 ho4 hb hg_ hnew_; clear hg_ hnew_; (first | rw [← Ny582.out] at ho4 | (simp only [Int.reduceToNat] at ho4; rw [← Ny582.out] at ho4)); have HO584 := yD (zG ho4 (aD (kB HB))); replace HB := zX HB hb; clear hb ho4))
 (try simp only [Act.put, zH, zI, zJ])
 go_loopg [5, 6] k (fun kq v5 v6 w' => ∃ (x5_1 : List (S33)) (x6_1 : Int), v6 = .int .i64 x6_1 ∧ aC (cO.l0 kq l0 l1 x5_1 x6_1 = some r) ∧ aC (kq ≤ k) ∧ aC (Kd.S k33 33 w' w.heap.size (fun _ => True) v5 x5_1) ∧ aC (Below w.heap.size w w'))
 case atStart => exact ⟨(y582), (0), kF, H', ⟨Nat.le_refl _⟩, ⟨kS HO584⟩, ⟨kR0 HB⟩⟩
 case round =>
  clear H'
  obtain ⟨x5_1, x6_1, rfl, HA, HK1, HO_5, HB⟩ := hrel
  cases gk with
  | zero => exact absurd HA.out (by simp [cO.l0])
  | succ k1 =>
   have H := HA.out; clear HA
   simp only [cO.l0] at H
   replace H := sG H; rcases H with ⟨c5b0, H⟩ | ⟨c5b0, H⟩
   · obtain rfl := sJ H
     go_wp2
     go_ret
     exact ⟨_, kE, kS HO_5, kR0 HB⟩
   replace ⟨c6b0, H⟩ := sE H
   replace ⟨t586, A7, H⟩ := sV H
   replace ⟨t589, A8, H⟩ := sV H
   have H' := yD H
   clear H
   obtain ⟨p585, q585, ad585, e585, hx585_0⟩ := sI (Kd.aX C1.r x6_1)
   cases e585
   replace hx585_0 := kD HB hx585_0
   go_wp2_with (first | (refine gC 30 ?_; refine gL 22 Try.func30 _ (dv (spec_l05Coords.calls k1 _ _ l0 (rd l1 x6_1) t586 _ (C0.b HB) A7.out) fun v587 w9 ho0 hb => ?_); replace HO_5 := yD (Kd.S_elder' (kS HO_5) (yH ho0) hb); have HO588 := yD (yZ ho0 (aD (kB HB))); replace HB := zX HB hb; clear hb ho0; obtain ⟨Ao10, co10, eo10⟩ := Kd.bS HO588.out; subst eo10) | (refine gC 55 ?_; refine gL 24 Try.func55 _ (dv (spec_l00Own.calls _ _ t586 t589 _ ?z1 A8.out) fun v590 w11 ho0 hb => ?_); (case z1 => exact ⟨kV (zA HO588.out).2.2, (zA HO588.out).2.1⟩); replace HO_5 := yD (Kd.S_elder' (kS HO_5) (yH ho0) hb); have HO591 := yD (yZ (yJ ho0 (yK (kA HO588))) (aD (kB HB))); replace HO588 := yD (Kd.R_elder' (kA HO588) (yH ho0) hb); replace HB := zX HB hb; clear hb ho0))
   (try simp only [Act.put, zH, zI, zJ])
   go_loopg [9] k1 (fun kq v9 w' => ∃ (x8_2 : List Int) (x9_2 : Int), v9 = .int .i64 x9_2 ∧ aC (cO.l1 kq l0 l1 x5_1 x6_1 t586 x8_2 x9_2 = some r) ∧ aC (kq ≤ k1) ∧ aC (Kd.S k33 33 w' w.heap.size (fun k_ => oB (.slice Ao10 t586.length co10) k_ ∧ oB v590 k_) u5 x5_1) ∧ aC (Kd.R (Kd.int .i64) 2 w' w.heap.size (fun k_ => oB v590 k_) (.slice Ao10 t586.length co10) t586) ∧ aC (Kd.R (Kd.int .i64) 2 w' w.heap.size (fun k_ => oB (.slice Ao10 t586.length co10) k_) v590 x8_2) ∧ aC (Below w.heap.size w w'))
   case atStart => exact ⟨(t589), (0), kF, H', ⟨Nat.le_refl _⟩, ⟨mS HO_5 (fun _ hk => ⟨hk.1.2, hk.2⟩)⟩, ⟨mR HO588 (fun _ hk => hk.2)⟩, ⟨mR HO591 (fun _ hk => hk.2)⟩, ⟨kR0 HB⟩⟩
   case round =>
    clear H'
    obtain ⟨x8_2, x9_2, rfl, HA, HK2, HO_5, HO_7, HO_8, HB⟩ := hrel
    cases gk with
    | zero => exact absurd HA.out (by simp [cO.l1])
    | succ k2 =>
     have H := HA.out; clear HA
     simp only [cO.l1] at H
     replace H := sG H; rcases H with ⟨c12b0, H⟩ | ⟨c12b0, H⟩
     ·
      replace ⟨LMc18, H⟩ := sM H
      generalize hy594 : ((x5_1 ++ [(⟨t586, x8_2⟩ : S33)]) : List (S33)) = y594 at H
      have Ny594 := yD hy594.symm
      clear hy594
      have H' := yD H
      clear H
      obtain ⟨Ao19, co19, eo19⟩ := Kd.bS HO_8.out
      subst eo19
      go_wp2_with (first | ((with_reducible refine gate_builtin (b := .append) (xs := #[.tmp 37, .tmp 41]) rfl ?_); at_builtin; refine Kd.S_append k33 (w0 := w) w.heap.size rfl (.tmp 37) (.tmp 41) 29 33 (.agg #[(.slice none 0 0), (.slice none 0 0)]) 48 rfl Try.underlying29 info33 rfl (by decide) (by omega) u5 x5_1 (⟨t586, x8_2⟩ : S33) [.slice Ao10 t586.length co10, .slice Ao19 x8_2.length co19] (fun _ => True) (fun k_ => some k_ = (.slice Ao10 t586.length co10 : Value).ownBlock ∨ some k_ = (.slice Ao19 x8_2.length co19 : Value).ownBlock) rfl rfl ?aP (fun k_ hk_ => hk_.elim (fun h_ => ((zF (ok' := fun k_ => ((fun _ => True)) k_ ∧ oB u5 k_) (Kd.cH (HO_7.out) (Kd.S_typed HO_5.out) (by decide)) (fun k_ hk => ⟨trivial, hk.2⟩))).1 k_ h_.symm) (fun h_ => ((zF (ok' := fun k_ => ((fun _ => True)) k_ ∧ oB u5 k_) (Kd.cH (HO_8.out) (Kd.S_typed HO_5.out) (by decide)) (fun k_ hk => ⟨trivial, hk.2⟩))).1 k_ h_.symm)) ?aF ?aO ?aB ?aS ?aL ?_; (case aP => exact k33_mkM _ _ _ (⟨t586, x8_2⟩ : S33) (zF (Kd.R_tight rfl (zF (ok' := fun k_ => ((fun _ => True)) k_ ∧ oB u5 k_) (Kd.cH (HO_7.out) (Kd.S_typed HO_5.out) (by decide)) (fun k_ hk => ⟨trivial, hk.2⟩))) (fun _ h_ => Or.inl h_)) (zF (Kd.R_tight rfl (zF (ok' := fun k_ => ((fun _ => True)) k_ ∧ oB u5 k_) (Kd.cH (HO_8.out) (Kd.S_typed HO_5.out) (by decide)) (fun k_ hk => ⟨trivial, hk.2⟩))) (fun _ h_ => Or.inr (h_)))); (case aB => exact (kB HB)); (case aF => exact (fun _ _ => trivial)); (case aO => exact (mS HO_5 (fun k_ hk => ⟨trivial, fun e_ => e_.elim (fun h_ => hk.1 h_) (fun h_ => hk.2 h_)⟩))); (case aS => exact (aD (kB HB))); (case aL => have := LMc18.out; omega); intro v595 w20 ho hb hg hat; rw [← Ny594.out] at ho; replace HB := yD (hb); have HO596 := yD (ho); clear HO_5 HO_7 HO_8; clear ho hb hg hat))
      go_roundg k2
      case measure => have := HK1.out; have := HK2.out; omega
      case rel => exact ⟨(y594), (wrap64 (x6_1 + 1)), kF, H', ⟨by have := HK1.out; have := HK2.out; omega⟩, ⟨kS HO596⟩, ⟨kR0 HB⟩⟩
     replace ⟨c13b0, H⟩ := sE H
     generalize hy593 : ((x8_2.set (x9_2 : Int).toNat (wrap64 ((rd x8_2 x9_2) + 1))) : List Int) = y593 at H
     have Ny593 := yD hy593.symm
     clear hy593
     have H' := yD H
     clear H
     obtain ⟨Ao15, co15, eo15⟩ := Kd.bS HO_8.out
     subst eo15
     obtain ⟨p592, q592, ad592, e592, hx592_0⟩ := sI (Kd.aX (zA HO_8.out).2.2 x9_2)
     cases e592
     have p14 : 0 ≤ (x9_2 : Int) := zP (by assumption)
     have q14 : (x9_2 : Int) < ((x8_2.length : Int) : Int) := zP (by assumption)
     obtain ⟨go14, co14, eo14, gb14, gl14, cl14, HG14⟩ := Kd.R_form HO_8.out (by omega)
     (first | cases eo14 | (injection eo14 with ea_ en_ ec_; (first | subst ea_ | (injection ea_ with ea_; subst ea_)); subst ec_; clear en_))
     have GB14 := yD gb14
     have GG14 := yD HG14
     clear gb14 gl14 HG14
     (first | simp only [add_plain] at hx592_0 | skip)
     obtain ⟨hx14_0, hf14_0⟩ := Kd.R_celln 0 HO_8.out (x9_2 : Int) p14 q14
     replace p14 := eq_true p14; replace q14 := eq_true q14
     have HP16 := Kd.R_putg HO_8.out (x9_2 : Int) (wrap64 ((rd x8_2 x9_2) + 1))
     go_wp2_with (first | ((with_reducible refine gate_store (t := 2) (p := 36) rfl ?_); refine store_event (t := 2) (p := 36) (v := ?vo_w17) (w1 := (wr.setCell ⟨go14, (x9_2 : Int).toNat, none⟩ (.int .i64 (wrap64 ((rd x8_2 x9_2) + 1))))) ?hg ?ho ?hn ?hr ?_; (case ho => rfl); (case hg => rfl); (case hn => rfl); (case hr => first | (go_simp; done) | (go_simp; rfl)); intro w17 hw; have hg : wr.grownBy w17 (some go14) := (by rw [hw]; exact HP16.2); have hp_ : Kd.R (Kd.int .i64) 2 w17 w.heap.size (fun k_ => oB (.slice Ao10 t586.length co10) k_) (.slice (some ⟨go14, 0, none⟩) x8_2.length co15) y593 := (by rw [hw, Ny593.out]; exact HP16.1); clear HP16; replace HO_5 := yD (Kd.S_after (v := (.slice (some ⟨go14, 0, none⟩) x8_2.length co15)) (v1 := (.slice (some ⟨go14, 0, none⟩) x8_2.length co15)) (ok := (fun k_ => oB (.slice Ao10 t586.length co10) k_)) (kS HO_5) hg (.inl rfl)); replace HO_7 := yD (Kd.R_after (v := (.slice (some ⟨go14, 0, none⟩) x8_2.length co15)) (v1 := (.slice (some ⟨go14, 0, none⟩) x8_2.length co15)) (ok := (fun _ => True)) (mR HO_7 (fun _ hk => ⟨trivial, hk⟩)) hg (.inl rfl)); replace HO_8 := yD (hp_); replace HB := yD ((by rw [hw]; exact yE (HB.out) GB14.out : Below w.heap.size w w17)); clear hg hw hp_))
     go_roundg k2
     case measure => have := HK1.out; have := HK2.out; omega
     case rel => exact ⟨(y593), (wrap64 (x9_2 + 1)), kF, H', ⟨by have := HK1.out; have := HK2.out; omega⟩, ⟨kS HO_5⟩, ⟨mR HO_7 (fun _ hk => hk.2)⟩, ⟨kA HO_8⟩, ⟨kR0 HB⟩⟩
def spec_l07Holds.f (a0 : Int) (a1 a2 : Bool) : Option (Bool) := if a0 = 1 then (if a1 = true then (some true) else (some a2)) else (if a0 = 2 then (if a1 = true then (some a2) else (some false)) else (if a1 = true then (some (!a2)) else (some false)))
theorem spec_l07Holds.calls (a0 : Int) (a1 : Bool) (a2 : Bool) (r : Bool) (w : World) (h : spec_l07Holds.f a0 a1 a2 = some r) :
 Calls Try.prog 82 #[.int .i64 a0, .bool a1, .bool a2] w fun e w' => e = .returned (.bool r) ∧ aT w w' := by
 unfold spec_l07Holds.f at h
 have H := h
 clear h
 replace H := sQ H; rcases H with ⟨-, c4b0, c4b1, H⟩ | ⟨c4, c4b0, c4b1, H⟩
 ·
  replace H := sS H; rcases H with ⟨rfl, H⟩ | ⟨rfl, H⟩
  ·
   obtain rfl := sJ H; go_enter Try.func82, Try.ntmps82
   go_wp2
   go_ret
   exact ⟨by first | rfl | (simp; done) | (simp [*]; done), by repeat (first | exact aT.refl _ | apply aT.step)⟩
  obtain rfl := sJ H; go_enter Try.func82, Try.ntmps82
  go_wp2
  go_ret
  exact ⟨by first | rfl | (simp; done) | (simp [*]; done), by repeat (first | exact aT.refl _ | apply aT.step)⟩
 replace H := sP H; rcases H with ⟨c6, c6b0, c6b1, H⟩ | ⟨-, c6b0, c6b1, H⟩
 ·
  replace H := sS H; rcases H with ⟨rfl, H⟩ | ⟨rfl, H⟩
  ·
   obtain rfl := sJ H; go_enter Try.func82, Try.ntmps82
   go_wp2
   go_ret
   exact ⟨by first | rfl | (simp; done) | (simp [*]; done), by repeat (first | exact aT.refl _ | apply aT.step)⟩
  obtain rfl := sJ H; go_enter Try.func82, Try.ntmps82
  go_wp2
  go_ret
  exact ⟨by first | rfl | (simp; done) | (simp [*]; done), by repeat (first | exact aT.refl _ | apply aT.step)⟩
 replace H := sS H; rcases H with ⟨rfl, H⟩ | ⟨rfl, H⟩
 ·
  obtain rfl := sJ H; go_enter Try.func82, Try.ntmps82
  go_wp2
  go_ret
  exact ⟨by first | rfl | (simp; done) | (simp [*]; done), by repeat (first | exact aT.refl _ | apply aT.step)⟩
 obtain rfl := sJ H; go_enter Try.func82, Try.ntmps82
 go_wp2
 go_ret
 exact ⟨by first | rfl | (simp; done) | (simp [*]; done), by repeat (first | exact aT.refl _ | apply aT.step)⟩
mutual
def spec_l00Put.l0 : Nat → List Int → Int → List Int → Bool → Int → Option (List Int)
 | 0, _, _, _, _, _ => none
 | k + 1, x0, x1, x5, x6, x7 => if x7 < (x0.length : Int) then (if x6 = true then (spec_l00Put.j1 k x0 x1 x5 x6 x7 false) else (if 0 ≤ x7 then (spec_l00Put.j1 k x0 x1 x5 x6 x7 (decide ((rd x0 x7) ≥ x1))) else (none))) else (if x6 = true then (some x5) else (if x5.length < 17592186044416 then (some (x5 ++ [x1])) else (none)))
def spec_l00Put.j1 : Nat → List Int → Int → List Int → Bool → Int → Bool → Option (List Int)
 | 0, _, _, _, _, _, _ => none
 | k + 1, x0, x1, x5, x6, x7, x24 => if x24 = true then (if 0 ≤ x7 then (if x7 < (x0.length : Int) then (if (rd x0 x7) > x1 then (if x5.length < 17592186044416 then ((some (x5 ++ [x1] : List Int)).bind fun y605 => (if y605.length < 17592186044416 then (spec_l00Put.l0 k x0 x1 (y605 ++ [rd x0 x7]) true (wrap64 (x7 + 1))) else (none))) else (none)) else (if x5.length < 17592186044416 then (spec_l00Put.l0 k x0 x1 (x5 ++ [rd x0 x7]) true (wrap64 (x7 + 1))) else (none))) else (none)) else (none)) else (if 0 ≤ x7 then (if x7 < (x0.length : Int) then (if x5.length < 17592186044416 then (spec_l00Put.l0 k x0 x1 (x5 ++ [rd x0 x7]) x6 (wrap64 (x7 + 1))) else (none)) else (none)) else (none))
end
def spec_l00Put.f (k : Nat) (l0 : List Int) (a1 : Int) : Option (List Int) := spec_l00Put.l0 k l0 a1 (([] : List Int)) false 0
theorem spec_l00Put.calls (k : Nat) (A0 : Option Addr) (c0 : Nat) (l0 : List Int) (a1 : Int) (r : List Int) (w : World) (C0 : Cm (Kd.int .i64) w A0 c0 l0) (h : spec_l00Put.f k l0 a1 = some r) :
 Calls Try.prog 96 #[.slice A0 l0.length c0, .int .i64 a1] w fun e w' => ∃ v0_ : Value, e = .returned (v0_) ∧ Kd.R (Kd.int .i64) 2 w' w.heap.size (fun _ => True) v0_ r ∧ Below w.heap.size w w' := by
 have HB := yD (Below.refl w.heap.size w)
 unfold spec_l00Put.f at h
 have H := h
 clear h
 obtain ⟨y597, hy597⟩ : ∃ y_ : List Int, y_ = (([] : List Int)) := ⟨_, rfl⟩
 replace H : (spec_l00Put.l0 k l0 a1 y597 false 0) = some r := by first | (rw [hy597]; with_reducible exact H) | (have H2_ := (Option.bind_some _ _).symm.trans H; rw [hy597]; with_reducible exact H2_) | (have H2_ := (Option.bind_some _ _).symm.trans H; with_reducible exact H2_) | with_reducible exact H | (rw [hy597]; exact H) | exact H
 have Ny597 := yD hy597
 clear hy597
 have H' := yD H
 clear H; go_enter Try.func96, Try.ntmps96
 go_wp2_with (first | (refine gD 8 ?_; refine Kd.R_lit (Kd.int .i64) _ 2 ?hg (N := 8) ?hd (xs := ([] : List Int)) (inner := []) (ok := fun _ => True) (okp := fun _ => True) ?hr ?hp (fun _ hk => hk) trivial (Below.refl _ _) (Nat.le_refl _) (by simp) ?_; (case hd => rfl); (case hg => rfl); (case hr => first | (go_simp; done) | (go_simp; rfl)); (case hp => exact (cW.none _ _)); intro v598 w3 ho4 hb hg_ hnew_; clear hg_ hnew_; (first | rw [← Ny597.out] at ho4 | (simp only [Int.reduceToNat] at ho4; rw [← Ny597.out] at ho4)); have HO599 := yD (yZ ho4 (aD (kB HB))); replace HB := zX HB hb; clear hb ho4))
 (try simp only [Act.put, zH, zI, zJ])
 go_loopg [5, 6, 7] k (fun kq v5 v6 v7 w' => ∃ (x5_1 : List Int) (x6_1 : Bool) (x7_1 : Int), v6 = .bool x6_1 ∧ v7 = .int .i64 x7_1 ∧ aC (spec_l00Put.l0 kq l0 a1 x5_1 x6_1 x7_1 = some r) ∧ aC (kq ≤ k) ∧ aC (Kd.R (Kd.int .i64) 2 w' w.heap.size (fun _ => True) v5 x5_1) ∧ aC (Below w.heap.size w w'))
 case atStart => exact ⟨(y597), (false), (0), kF, kF, H', ⟨Nat.le_refl _⟩, ⟨kA HO599⟩, ⟨kR0 HB⟩⟩
 case round =>
  clear H'
  obtain ⟨x5_1, x6_1, x7_1, rfl, rfl, HA, HK1, HO_5, HB⟩ := hrel
  cases gk with
  | zero => exact absurd HA.out (by simp [spec_l00Put.l0])
  | succ k1 =>
   have H := HA.out; clear HA
   simp only [spec_l00Put.l0] at H
   replace H := sG H; rcases H with ⟨c5b0, H⟩ | ⟨c5b0, H⟩
   ·
    replace H := sT H; rcases H with ⟨rfl, H⟩ | ⟨rfl, H⟩
    ·
     obtain rfl := sJ H
     go_wp2
     go_ret
     exact ⟨_, kE, kA HO_5, kR0 HB⟩
    replace ⟨LMc24, H⟩ := sM H
    obtain ⟨y600, hy600⟩ : ∃ y_ : List Int, y_ = (x5_1 ++ [a1]) := ⟨_, rfl⟩
    replace H : (some y600) = some r := by first | (rw [hy600]; with_reducible exact H) | (have H2_ := (Option.bind_some _ _).symm.trans H; rw [hy600]; with_reducible exact H2_) | (have H2_ := (Option.bind_some _ _).symm.trans H; with_reducible exact H2_) | with_reducible exact H | (rw [hy600]; exact H) | exact H
    have Ny600 := yD hy600
    clear hy600; obtain rfl := sJ H
    go_wp2_with (first | ((with_reducible refine gate_builtin (b := .append) (xs := #[.tmp 44, .tmp 46]) rfl ?_); at_builtin; refine Kd.R_append (Kd.int .i64) (w0 := w) w.heap.size rfl (.tmp 44) (.tmp 46) 23 2 (.int .i64 0) 8 rfl Try.underlying23 info2 rfl (by decide) (by omega) u5 x5_1 a1 [.int .i64 a1] (fun _ => True) (fun _ => False) rfl rfl ?aP (fun _ hk => hk.elim) ?aF ?aO ?aB ?aS ?aL ?_; (case aP => exact rfl); (case aB => exact (kB HB)); (case aF => exact (fun _ _ => trivial)); (case aO => exact (kA HO_5)); (case aS => exact (aD (kB HB))); (case aL => have := LMc24.out; omega); intro v601 w25 ho hb hg hat; rw [← Ny600.out] at ho; replace HB := yD (hb); have HO602 := yD (ho); clear HO_5; clear ho hb hg hat))
    go_ret
    exact ⟨_, kE, kA HO602, kR0 HB⟩
   have HC6 := yD H
   clear H
   go_upto_region 6 with (fail)
   go_cut [24] (fun v24 wc => ∃ (kq : Nat) (x24_5 : Bool), v24 = .bool x24_5 ∧ aC (spec_l00Put.j1 kq l0 a1 x5_1 x6_1 x7_1 x24_5 = some r) ∧ aC (kq ≤ k1) ∧ aC (Kd.R (Kd.int .i64) 2 wc w.heap.size (fun _ => True) u5 x5_1) ∧ aC (Below w.heap.size w wc))
   case first =>
    have H := HC6.out; clear HC6
    replace H := sT H; rcases H with ⟨rfl, H⟩ | ⟨rfl, H⟩
    ·
     have H' := yD H
     clear H
     go_wp2
     go_meet
     case rel => exact ⟨_, (false), kF, H', ⟨by have := HK1.out; first | omega | exact Nat.le_refl _⟩, ⟨kA HO_5⟩, ⟨kR0 HB⟩⟩
    replace ⟨c8b0, H⟩ := sE H
    (first | rw [c8b0] | (simp only [i64_w, i32_w]; rw [c8b0]) | (simp only [bne] at c8b0; rw [c8b0]) | skip)
    have H' := yD H
    clear H
    obtain ⟨p603, q603, ad603, e603, hx603_0⟩ := sI (Kd.aX C0.r x7_1)
    cases e603
    replace hx603_0 := kD HB hx603_0
    go_wp2
    go_meet
    case rel => exact ⟨_, (decide ((rd l0 x7_1) ≥ a1)), kF, H', ⟨by have := HK1.out; first | omega | exact Nat.le_refl _⟩, ⟨kA HO_5⟩, ⟨kR0 HB⟩⟩
   case rest =>
    clear HC6
    obtain ⟨kq, x24_5, rfl, HA, HJ5, HO_5, HB⟩ := hcut
    cases kq with
    | zero => exact absurd HA.out (by simp [spec_l00Put.j1])
    | succ kj5 =>
     have H := HA.out; clear HA
     simp only [spec_l00Put.j1] at H
     replace H := sS H; rcases H with ⟨rfl, H⟩ | ⟨rfl, H⟩
     ·
      replace ⟨c19b0, H⟩ := sE H
      replace ⟨c20b0, H⟩ := sE H
      replace ⟨LMc21, H⟩ := sM H
      generalize hy617 : ((x5_1 ++ [rd l0 x7_1]) : List Int) = y617 at H
      have Ny617 := yD hy617.symm
      clear hy617
      have H' := yD H
      clear H
      obtain ⟨p616, q616, ad616, e616, hx616_0⟩ := sI (Kd.aX C0.r x7_1)
      cases e616
      replace hx616_0 := kD HB hx616_0
      go_wp2_with (first | ((with_reducible refine gate_builtin (b := .append) (xs := #[.tmp 35, .tmp 40]) rfl ?_); at_builtin; refine Kd.R_append (Kd.int .i64) (w0 := w) w.heap.size rfl (.tmp 35) (.tmp 40) 23 2 (.int .i64 0) 8 rfl Try.underlying23 info2 rfl (by decide) (by omega) u5 x5_1 (rd l0 x7_1) [.int .i64 (rd l0 x7_1)] (fun _ => True) (fun _ => False) rfl rfl ?aP (fun _ hk => hk.elim) ?aF ?aO ?aB ?aS ?aL ?_; (case aP => exact rfl); (case aB => exact (kB HB)); (case aF => exact (fun _ _ => trivial)); (case aO => exact (kA HO_5)); (case aS => exact (aD (kB HB))); (case aL => have := LMc21.out; omega); intro v618 w22 ho hb hg hat; rw [← Ny617.out] at ho; replace HB := yD (hb); have HO619 := yD (ho); clear HO_5; clear ho hb hg hat))
      go_roundg kj5
      case measure => have := HK1.out; have := HJ5.out; omega
      case rel => exact ⟨(y617), (x6_1), (wrap64 (x7_1 + 1)), kF, kF, H', ⟨by have := HK1.out; have := HJ5.out; omega⟩, ⟨kA HO619⟩, ⟨kR0 HB⟩⟩
     replace ⟨c10b0, H⟩ := sE H
     replace ⟨c11b0, H⟩ := sE H
     replace H := sC H; rcases H with ⟨c12, H⟩ | ⟨c12, H⟩
     ·
      have c12b0 : decide (a1 < (rd l0 x7_1)) = false := zS c12; clear c12
      replace ⟨LMc17, H⟩ := sM H
      generalize hy613 : ((x5_1 ++ [rd l0 x7_1]) : List Int) = y613 at H
      have Ny613 := yD hy613.symm
      clear hy613
      have H' := yD H
      clear H
      obtain ⟨p604, q604, ad604, e604, hx604_0⟩ := sI (Kd.aX C0.r x7_1)
      cases e604
      replace hx604_0 := kD HB hx604_0
      obtain ⟨p612, q612, ad612, e612, hx612_0⟩ := sI (Kd.aX C0.r x7_1)
      obtain rfl : ad604 = ad612 := (by injection e612)
      replace hx612_0 := kD HB hx612_0
      go_wp2_with (first | ((with_reducible refine gate_builtin (b := .append) (xs := #[.tmp 35, .tmp 40]) rfl ?_); at_builtin; refine Kd.R_append (Kd.int .i64) (w0 := w) w.heap.size rfl (.tmp 35) (.tmp 40) 23 2 (.int .i64 0) 8 rfl Try.underlying23 info2 rfl (by decide) (by omega) u5 x5_1 (rd l0 x7_1) [.int .i64 (rd l0 x7_1)] (fun _ => True) (fun _ => False) rfl rfl ?aP (fun _ hk => hk.elim) ?aF ?aO ?aB ?aS ?aL ?_; (case aP => exact rfl); (case aB => exact (kB HB)); (case aF => exact (fun _ _ => trivial)); (case aO => exact (kA HO_5)); (case aS => exact (aD (kB HB))); (case aL => have := LMc17.out; omega); intro v614 w18 ho hb hg hat; rw [← Ny613.out] at ho; replace HB := yD (hb); have HO615 := yD (ho); clear HO_5; clear ho hb hg hat))
      go_roundg kj5
      case measure => have := HK1.out; have := HJ5.out; omega
      case rel => exact ⟨(y613), (true), (wrap64 (x7_1 + 1)), kF, kF, H', ⟨by have := HK1.out; have := HJ5.out; omega⟩, ⟨kA HO615⟩, ⟨kR0 HB⟩⟩
     have c12b0 : decide (a1 < (rd l0 x7_1)) = true := zR c12; clear c12
     replace ⟨LMc13, H⟩ := sM H
     generalize hy605 : ((x5_1 ++ [a1]) : List Int) = y605 at H
     have Ny605 := yD hy605.symm
     clear hy605
     replace ⟨LMc14, H⟩ := sM H
     generalize hy609 : ((y605 ++ [rd l0 x7_1]) : List Int) = y609 at H
     have Ny609 := yD hy609.symm
     clear hy609
     have H' := yD H
     clear H
     obtain ⟨p604, q604, ad604, e604, hx604_0⟩ := sI (Kd.aX C0.r x7_1)
     cases e604
     replace hx604_0 := kD HB hx604_0
     go_wp2_with (first | ((with_reducible refine gate_builtin (b := .append) (xs := #[.tmp 31, .tmp 33]) rfl ?_); at_builtin; refine Kd.R_append (Kd.int .i64) (w0 := w) w.heap.size rfl (.tmp 31) (.tmp 33) 23 2 (.int .i64 0) 8 rfl Try.underlying23 info2 rfl (by decide) (by omega) u5 x5_1 a1 [.int .i64 a1] (fun _ => True) (fun _ => False) rfl rfl ?aP (fun _ hk => hk.elim) ?aF ?aO ?aB ?aS ?aL ?_; (case aP => exact rfl); (case aB => exact (kB HB)); (case aF => exact (fun _ _ => trivial)); (case aO => exact (kA HO_5)); (case aS => exact (aD (kB HB))); (case aL => have := LMc13.out; omega); intro v606 w15 ho hb hg hat; rw [← Ny605.out] at ho; replace HB := yD (hb); have HO607 := yD (ho); clear HO_5; clear ho hb hg hat; have p608 : 0 ≤ (x7_1 : Int) := zP (by assumption); have q608 : x7_1 < (l0.length : Int) := zP (by assumption); obtain ⟨ad608, e608, hx608_0⟩ := Kd.aX C0.r x7_1 p608 q608; obtain rfl : ad604 = ad608 := (by injection e608); replace hx608_0 := kD HB hx608_0; replace p608 := eq_true p608; replace q608 := eq_true q608) | ((with_reducible refine gate_builtin (b := .append) (xs := #[.tmp 35, .tmp 40]) rfl ?_); at_builtin; refine Kd.R_append (Kd.int .i64) (w0 := w) w.heap.size rfl (.tmp 35) (.tmp 40) 23 2 (.int .i64 0) 8 rfl Try.underlying23 info2 rfl (by decide) (by omega) v606 y605 (rd l0 x7_1) [.int .i64 (rd l0 x7_1)] (fun _ => True) (fun _ => False) rfl rfl ?aP (fun _ hk => hk.elim) ?aF ?aO ?aB ?aS ?aL ?_; (case aP => exact rfl); (case aB => exact (kB HB)); (case aF => exact (fun _ _ => trivial)); (case aO => exact (kA HO607)); (case aS => exact (aD (kB HB))); (case aL => have := LMc14.out; omega); intro v610 w16 ho hb hg hat; rw [← Ny609.out] at ho; replace HB := yD (hb); have HO611 := yD (ho); clear HO607; clear ho hb hg hat))
     go_roundg kj5
     case measure => have := HK1.out; have := HJ5.out; omega
     case rel => exact ⟨(y609), (true), (wrap64 (x7_1 + 1)), kF, kF, H', ⟨by have := HK1.out; have := HJ5.out; omega⟩, ⟨kA HO611⟩, ⟨kR0 HB⟩⟩
def spec_l07Cuts.l0 : Nat → List Int → List (S33) → Int → Option (List Int)
 | 0, _, _, _ => none
 | k + 1, x0, x1, x5 => if x5 < (x1.length : Int) then (if 0 ≤ x5 then (if 0 < (((aA x1 x5).f0).length : Int) then ((spec_l00Put.f k x0 (rd ((aA x1 x5).f0) 0)).bind fun t622 => (if 0 < (((aA x1 x5).f1).length : Int) then ((spec_l00Put.f k t622 (rd ((aA x1 x5).f1) 0)).bind fun t627 => (spec_l07Cuts.l0 k t627 x1 (wrap64 (x5 + 1)))) else (none))) else (none)) else (none)) else (some x0)
def spec_l07Cuts.f (k : Nat) (l0 : List Int) (l1 : List (S33)) : Option (List Int) := spec_l07Cuts.l0 k l0 l1 0
theorem spec_l07Cuts.calls (k : Nat) (P0_ : Nat → Prop) (A0 : Option Addr) (c0 : Nat) (l0 : List Int) (A1 : Option Addr) (c1 : Nat) (l1 : List (S33)) (r : List Int) (w : World) (hs0 : Kd.V (Kd.int .i64) 2 w w.heap.size (fun k_ => P0_ k_) (.slice A0 l0.length c0) l0) (C1 : Cm k33 w A1 c1 l1) (h : spec_l07Cuts.f k l0 l1 = some r) :
 Calls Try.prog 83 #[.slice A0 l0.length c0, .slice A1 l1.length c1] w fun e w' => ∃ v0_ : Value, e = .returned (v0_) ∧ Kd.V (Kd.int .i64) 2 w' w.heap.size (fun k_ => (P0_ k_ ∨ w.heap.size ≤ k_)) v0_ r ∧ Below w.heap.size w w' := by
 have HO0 := yD (show Kd.V (Kd.int .i64) 2 w w.heap.size (fun k_ => (P0_ k_ ∨ w.heap.size ≤ k_)) (.slice A0 l0.length c0) l0 from Kd.V_mono hs0 (fun k_ hk => .inl hk))
 have HB := yD (Below.refl w.heap.size w)
 unfold spec_l07Cuts.f at h
 have H := h
 clear h
 have H' := yD H
 clear H; go_enter Try.func83, Try.ntmps83
 go_wp2
 go_loopg [0, 5] k (fun kq v0 v5 w' => ∃ (x0_1 : List Int) (x5_1 : Int), v5 = .int .i64 x5_1 ∧ aC (spec_l07Cuts.l0 kq x0_1 l1 x5_1 = some r) ∧ aC (kq ≤ k) ∧ aC (Kd.V (Kd.int .i64) 2 w' w.heap.size (fun k_ => (P0_ k_ ∨ w.heap.size ≤ k_)) v0 x0_1) ∧ aC (Below w.heap.size w w'))
 case atStart => exact ⟨(l0), (0), kF, H', ⟨Nat.le_refl _⟩, ⟨kU HO0⟩, ⟨kR0 HB⟩⟩
 case round =>
  clear H'
  obtain ⟨x0_1, x5_1, rfl, HA, HK1, HO_0, HB⟩ := hrel
  cases gk with
  | zero => exact absurd HA.out (by simp [spec_l07Cuts.l0])
  | succ k1 =>
   have H := HA.out; clear HA
   simp only [spec_l07Cuts.l0] at H
   replace H := sG H; rcases H with ⟨c3b0, H⟩ | ⟨c3b0, H⟩
   · obtain rfl := sJ H
     go_wp2
     go_ret
     exact ⟨_, kE, kU HO_0, kR0 HB⟩
   replace ⟨c4b0, H⟩ := sE H
   replace ⟨c5, H⟩ := sD H
   have c5b0 : decide (0 < (((aA l1 x5_1).f0).length : Int)) = true := zR c5
   have c5b1 : decide (0 < ((aA l1 x5_1).f0).length) = true := zR (by omega)
   clear c5
   replace ⟨t622, A6, H⟩ := sV H
   replace ⟨c7, H⟩ := sD H
   have c7b0 : decide (0 < (((aA l1 x5_1).f1).length : Int)) = true := zR c7
   have c7b1 : decide (0 < ((aA l1 x5_1).f1).length) = true := zR (by omega)
   clear c7
   replace ⟨t627, A8, H⟩ := sV H
   have H' := yD H
   clear H
   obtain ⟨p620, q620, ad620, A620_0, c620_0, A620_1, c620_1, e620, hx620_0, hx620_1, HC620_0, HR620_0, HC620_1, HR620_1⟩ := sI (at_T33 C1.r x5_1)
   cases e620
   replace hx620_0 := kD HB hx620_0
   replace hx620_1 := kD HB hx620_1
   have p621 : 0 ≤ (0 : Int) := (by omega)
   have q621 : 0 < (((aA l1 x5_1).f0).length : Int) := zP (by assumption)
   obtain ⟨ad621, e621, hx621_0⟩ := Kd.aX HR620_0.out 0 p621 q621
   cases e621
   have qi621 : (0 < ((aA l1 x5_1).f0).length) = True := eq_true (by omega)
   (try rw [show ((0 : Int)).toNat = 0 from rfl] at hx621_0)
   (try rw [Addr.add_zero'] at hx621_0)
   replace hx621_0 := kD HB hx621_0
   replace p621 := eq_true p621; replace q621 := eq_true q621
   obtain ⟨Ao9, co9, eo9⟩ := Kd.V_slice HO_0.out
   subst eo9
   go_wp2_with (first | (refine gC 96 ?_; refine gL 20 Try.func96 _ (dv (spec_l00Put.calls k1 _ _ x0_1 (rd ((aA l1 x5_1).f0) 0) t622 _ ?z1 A6.out) fun v623 w10 ho0 hb => ?_); (case z1 => exact ⟨kV (Kd.cV HO_0.out).2.2, (Kd.cV HO_0.out).2.1⟩); replace HO_0 := yD (Kd.bR (kU HO_0) (yH ho0) hb); have HO624 := yD (yZ (Kd.R_newM (M := fun k_ => (w.heap.size ≤ k_)) ho0 (aD (kB HB)) (fun k_ h_ => h_)) (aD (kB HB))); replace HB := zX HB hb; clear hb ho0; have p625 : 0 ≤ (x5_1 : Int) := zP (by assumption); have q625 : x5_1 < (l1.length : Int) := zP (by assumption); obtain ⟨ad625, A625_0, c625_0, A625_1, c625_1, e625, hx625_0, hx625_1, HC625_0, HR625_0, HC625_1, HR625_1⟩ := at_T33 C1.r x5_1 p625 q625; obtain rfl : ad620 = ad625 := (by injection e625); replace hx625_0 := kD HB hx625_0; replace hx625_1 := kD HB hx625_1; replace p625 := eq_true p625; replace q625 := eq_true q625; have p626 : 0 ≤ (0 : Int) := (by omega); have q626 : 0 < (((aA l1 x5_1).f1).length : Int) := zP (by assumption); obtain ⟨ad626, e626, hx626_0⟩ := Kd.aX HR625_1.out 0 p626 q626; cases e626; have qi626 : (0 < ((aA l1 x5_1).f1).length) = True := eq_true (by omega); (try rw [show ((0 : Int)).toNat = 0 from rfl] at hx626_0); (try rw [Addr.add_zero'] at hx626_0); replace hx626_0 := kD HB hx626_0; replace p626 := eq_true p626; replace q626 := eq_true q626; obtain ⟨Ao11, co11, eo11⟩ := Kd.bS HO624.out; subst eo11) | (refine gC 96 ?_; refine gL 29 Try.func96 _ (dv (spec_l00Put.calls k1 _ _ t622 (rd ((aA l1 x5_1).f1) 0) t627 _ ?z1 A8.out) fun v628 w12 ho0 hb => ?_); (case z1 => exact ⟨kV (zA HO624.out).2.2, (zA HO624.out).2.1⟩); replace HO_0 := yD (Kd.bR (kU HO_0) (yH ho0) hb); have HO629 := yD (yZ (yJ (Kd.R_newM (M := fun k_ => (w.heap.size ≤ k_)) ho0 (aD (kB HB)) (fun k_ h_ => h_)) (yK (kA HO624))) (aD (kB HB))); replace HO624 := yD (Kd.R_elder' (kA HO624) (yH ho0) hb); replace HB := zX HB hb; clear hb ho0))
   go_roundg k1
   case measure => have := HK1.out; omega
   case rel => exact ⟨(t627), (wrap64 (x5_1 + 1)), kF, H', ⟨by have := HK1.out; omega⟩, ⟨Kd.V_mono (Kd.R_V (mR HO629 (fun _ hk => hk.1.1))) (fun k_ hk => by first | exact ⟨(.inr (hk.1)), hk.2⟩ | exact (.inr (hk)))⟩, ⟨kR0 HB⟩⟩
def bN.l0 : Nat → List (S33) → Int → List (S33) → Int → Option ((List (S33)))
 | 0, _, _, _, _ => none
 | k + 1, x0, x1, x5, x6 => if x6 < (x0.length : Int) then (if 0 ≤ x6 then (if 0 < (((aA x0 x6).f0).length : Int) then (if 0 < (((aA x0 x6).f1).length : Int) then ((bO.f x1 (rd ((aA x0 x6).f0) 0) (wrap64 ((rd ((aA x0 x6).f1) 0) - 1))).bind fun t637 => (if t637 = true then (if 1 ≤ (((aA x0 x6).f0).length : Int) then (if 1 ≤ (((aA x0 x6).f1).length : Int) then (if x5.length < 2932031007402 then (bN.l0 k x0 x1 (x5 ++ [(⟨(((aA x0 x6).f0).drop 1), (((aA x0 x6).f1).drop 1)⟩ : S33)]) (wrap64 (x6 + 1))) else (none)) else (none)) else (none)) else (bN.l0 k x0 x1 x5 (wrap64 (x6 + 1))))) else (none)) else (none)) else (none)) else (some x5)
def bN.f (k : Nat) (l0 : List (S33)) (a1 : Int) : Option ((List (S33))) := bN.l0 k l0 a1 (([] : List (S33))) 0
def bN.T5 : Bool × List (List Nat × List Nat) := (true, [([], []), ([], []), ([], []), ([1, 2], [1, 2]), ([3], [3]), ([4], [4]), ([5], [5]), ([6], [6]), ([], []), ([], []), ([8, 9], [8, 9]), ([10], [10]), ([11], [11]), ([12], [12]), ([13], [13]), ([14], [14]), ([0, 7, 15], [0, 7, 15])])
def bN.B5 : List Nat := [0, 0, 0, 6, 14, 30, 62, 126, 0, 0, 768, 1792, 3840, 7936, 16128, 32512, 65535]
theorem bN.tab5 : rtab .any (opsOf Try.f84 5) = bN.T5 := by kernel_rfl
theorem bN.bits5 : waitsOk bN.T5.2 bN.B5 = true := by kernel_rfl
def bN.T6 : Bool × List (List Nat × List Nat) := (true, [([], []), ([], []), ([], []), ([1, 2], [1, 2]), ([3], [3]), ([4], [4]), ([5], [5]), ([], []), ([], []), ([7, 8], [7, 8]), ([9], [9]), ([10], [10]), ([11], [11]), ([6, 12], [6, 12]), ([13], [13]), ([0, 14], [0, 14]), ([15, 15, 0, 1, 2, 3, 4, 5, 6, 7, 8, 9, 10, 11, 12, 13, 14, 15], [0, 15])])
def bN.B6 : List Nat := [0, 0, 0, 6, 14, 30, 62, 0, 0, 384, 896, 1920, 3968, 8190, 16382, 32767, 65535]
theorem bN.tab6 : rtab .any (opsOf Try.f84 6) = bN.T6 := by kernel_rfl
theorem bN.bits6 : waitsOk bN.T6.2 bN.B6 = true := by kernel_rfl
theorem bN.calls (k : Nat) (P0_ : Nat → Prop) (A0 : Option Addr) (c0 : Nat) (l0 : List (S33)) (a1 : Int) (r : List (S33)) (w : World) (hs0 : Kd.V k33 33 w w.heap.size (fun k_ => P0_ k_) (.slice A0 l0.length c0) l0) (h : bN.f k l0 a1 = some r) :
 Calls Try.prog 84 #[.slice A0 l0.length c0, .int .i64 a1] w fun e w' => ∃ v0_ : Value, e = .returned (v0_) ∧ Kd.V k33 33 w' w.heap.size (fun k_ => (P0_ k_ ∨ w.heap.size ≤ k_)) v0_ r ∧ Below w.heap.size w w' := by
 have hu33 := Try.underlying33
 have HO0 := yD (show Kd.V k33 33 w w.heap.size (fun k_ => (P0_ k_ ∨ w.heap.size ≤ k_)) (.slice A0 l0.length c0) l0 from Kd.V_mono hs0 (fun k_ hk => .inl hk))
 have HB := yD (Below.refl w.heap.size w)
 unfold bN.f at h
 have H := h
 clear h
 obtain ⟨y630, hy630⟩ : ∃ y_ : List (S33), y_ = (([] : List (S33))) := ⟨_, rfl⟩
 replace H : (bN.l0 k l0 a1 y630 0) = some r := by first | (rw [hy630]; with_reducible exact H) | (have H2_ := (Option.bind_some _ _).symm.trans H; rw [hy630]; with_reducible exact H2_) | (have H2_ := (Option.bind_some _ _).symm.trans H; with_reducible exact H2_) | with_reducible exact H | (rw [hy630]; exact H) | exact H
 have Ny630 := yD hy630
 clear hy630
 have H' := yD H
 clear H; go_enter Try.func84, Try.ntmps84
 go_wp2_with (first | (refine gD 7 ?_; refine Kd.N_lit k33 _ 33 ?hg (N' := 7) ?hd (xs := ([] : List (S33))) (inner := []) (ok := (fun k_ => (P0_ k_ ∨ w.heap.size ≤ k_))) (okp := (fun k_ => (P0_ k_ ∨ w.heap.size ≤ k_))) ?hr ?hp (fun _ hk => hk) ((show ∀ k_, w.heap.size ≤ k_ → (fun k_ => (P0_ k_ ∨ w.heap.size ≤ k_)) k_ from fun k_ hk => (.inr (Nat.le_trans (aD (kB HB)) hk))) _ (Nat.le_refl _)) (Below.refl _ _) (Nat.le_refl _) (by simp) ?_; (case hd => rfl); (case hg => rfl); (case hr => first | (go_simp; done) | (go_simp; rfl)); (case hp => exact (cW.none _ _)); intro v631 w3 ho4 hb hg_ hnew_; clear hg_ hnew_; (first | rw [← Ny630.out] at ho4 | (simp only [Int.reduceToNat] at ho4; rw [← Ny630.out] at ho4)); replace HO0 := yD (Kd.bR (kU HO0) (Kd.N_base ho4) hb); have HO632 := yD (Kd.N_lower ho4 (aD (kB HB))); replace HB := zX HB hb; clear hb ho4))
 (try simp only [Act.put, zH, zI, zJ])
 go_loopg [5, 6] k (fun kq v5 v6 w' => ∃ (x5_1 : List (S33)) (x6_1 : Int), v6 = .int .i64 x6_1 ∧ aC (bN.l0 kq l0 a1 x5_1 x6_1 = some r) ∧ aC (kq ≤ k) ∧ aC (Kd.V k33 33 w' w.heap.size (fun k_ => (P0_ k_ ∨ w.heap.size ≤ k_) ∧ oB v5 k_) (.slice A0 l0.length c0) l0) ∧ aC (Kd.N k33 33 w' w.heap.size (fun k_ => (P0_ k_ ∨ w.heap.size ≤ k_)) v5 x5_1) ∧ aC (Below w.heap.size w w'))
 case atStart => exact ⟨(y630), (0), kF, H', ⟨Nat.le_refl _⟩, ⟨kU HO0⟩, ⟨kQ HO632⟩, ⟨kR0 HB⟩⟩
 case round =>
  clear H'
  obtain ⟨x5_1, x6_1, rfl, HA, HK1, HO_0, HO_5, HB⟩ := hrel
  cases gk with
  | zero => exact absurd HA.out (by simp [bN.l0])
  | succ k1 =>
   have H := HA.out; clear HA
   simp only [bN.l0] at H
   replace H := sG H; rcases H with ⟨c5b0, H⟩ | ⟨c5b0, H⟩
   · obtain rfl := sJ H
     go_wp2
     go_ret
     exact ⟨_, kE, Kd.N_V (kQ HO_5), kR0 HB⟩
   replace ⟨c6b0, H⟩ := sE H
   replace ⟨c7, H⟩ := sD H
   have c7b0 : decide (0 < (((aA l0 x6_1).f0).length : Int)) = true := zR c7
   have c7b1 : decide (0 < ((aA l0 x6_1).f0).length) = true := zR (by omega)
   clear c7
   replace ⟨c8, H⟩ := sD H
   have c8b0 : decide (0 < (((aA l0 x6_1).f1).length : Int)) = true := zR c8
   have c8b1 : decide (0 < ((aA l0 x6_1).f1).length) = true := zR (by omega)
   clear c8
   replace ⟨t637, A9, H⟩ := sV H
   replace H := sS H; rcases H with ⟨rfl, H⟩ | ⟨rfl, H⟩
   ·
    have H' := yD H
    clear H
    try go_wp2
    replace HO_0 := yD (Kd.V_drew HO_0.out); replace HO_5 := yD (Kd.N_drew HO_5.out); replace HB := yD (yP HB.out)
    have p633 : 0 ≤ (x6_1 : Int) := zP (by assumption)
    have q633 : x6_1 < (l0.length : Int) := zP (by assumption)
    obtain ⟨ad633, A633_0, c633_0, A633_1, c633_1, e633, hx633_0, hx633_1, HC633_0, HR633_0, HC633_1, HR633_1⟩ := at_T33 (Kd.cV HO_0.out).2.2 x6_1 p633 q633
    cases e633
    obtain ⟨ce633, hce633, hMe633, hcc633⟩ := Kd.V_get HO_0.out z33 x6_1 p633 (by first | exact q633 | exact zP (by assumption) | (have e_ := (Kd.cV HO_0.out).1; omega))
    obtain ⟨ua633_0, uc633_0, ua633_1, uc633_1, rfl, ul633_0, ge633_0, ul633_1, ge633_1⟩ := k33_openF hMe633
    have hv633_0 := hcc633 0 _ rfl
    rw [Nat.add_zero] at hv633_0
    replace hv633_0 := Option.some.inj (hv633_0.symm.trans hx633_0)
    injection hv633_0 with hva_ hvn_ hvc_
    rw [hva_] at ge633_0
    rw [hvc_] at ul633_0
    have HL633_0 := yD (show Kd.V (Kd.int .i64) 2 _ w.heap.size _ _ ((aA l0 x6_1).f0) from Kd.V_mk ul633_0 ge633_0)
    clear hva_ hvn_ hvc_ ge633_0 ul633_0
    have hv633_1 := hcc633 1 _ rfl
    rw [add_field _ _ 1 (by omega)] at hv633_1
    replace hv633_1 := Option.some.inj (hv633_1.symm.trans hx633_1)
    injection hv633_1 with hva_ hvn_ hvc_
    rw [hva_] at ge633_1
    rw [hvc_] at ul633_1
    have HL633_1 := yD (show Kd.V (Kd.int .i64) 2 _ w.heap.size _ _ ((aA l0 x6_1).f1) from Kd.V_mk ul633_1 ge633_1)
    clear hva_ hvn_ hvc_ ge633_1 ul633_1 hcc633 hce633
    replace p633 := eq_true p633; replace q633 := eq_true q633
    have p634 : 0 ≤ (0 : Int) := (by omega)
    have q634 : 0 < (((aA l0 x6_1).f0).length : Int) := zP (by assumption)
    obtain ⟨ad634, e634, hx634_0⟩ := Kd.aX (by repeat (first | (with_reducible exact HR633_0.out) | (with_reducible first | refine yV ?_ _ | refine yW ?_ _ | refine yX ?_) | exact HR633_0.out)) 0 p634 q634
    cases e634
    have qi634 : (0 < ((aA l0 x6_1).f0).length) = True := eq_true (by omega)
    (try rw [show ((0 : Int)).toNat = 0 from rfl] at hx634_0)
    (try rw [Addr.add_zero'] at hx634_0)
    replace p634 := eq_true p634; replace q634 := eq_true q634
    have p635 : 0 ≤ (x6_1 : Int) := zP (by assumption)
    have q635 : x6_1 < (l0.length : Int) := zP (by assumption)
    obtain ⟨ad635, A635_0, c635_0, A635_1, c635_1, e635, hx635_0, hx635_1, HC635_0, HR635_0, HC635_1, HR635_1⟩ := at_T33 (Kd.cV HO_0.out).2.2 x6_1 p635 q635
    obtain rfl : ad633 = ad635 := (by injection e635)
    obtain ⟨ce635, hce635, hMe635, hcc635⟩ := Kd.V_get HO_0.out z33 x6_1 p635 (by first | exact q635 | exact zP (by assumption) | (have e_ := (Kd.cV HO_0.out).1; omega))
    obtain ⟨ua635_0, uc635_0, ua635_1, uc635_1, rfl, ul635_0, ge635_0, ul635_1, ge635_1⟩ := k33_openF hMe635
    have hv635_0 := hcc635 0 _ rfl
    rw [Nat.add_zero] at hv635_0
    replace hv635_0 := Option.some.inj (hv635_0.symm.trans hx635_0)
    injection hv635_0 with hva_ hvn_ hvc_
    rw [hva_] at ge635_0
    rw [hvc_] at ul635_0
    have HL635_0 := yD (show Kd.V (Kd.int .i64) 2 _ w.heap.size _ _ ((aA l0 x6_1).f0) from Kd.V_mk ul635_0 ge635_0)
    clear hva_ hvn_ hvc_ ge635_0 ul635_0
    have hv635_1 := hcc635 1 _ rfl
    rw [add_field _ _ 1 (by omega)] at hv635_1
    replace hv635_1 := Option.some.inj (hv635_1.symm.trans hx635_1)
    injection hv635_1 with hva_ hvn_ hvc_
    rw [hva_] at ge635_1
    rw [hvc_] at ul635_1
    have HL635_1 := yD (show Kd.V (Kd.int .i64) 2 _ w.heap.size _ _ ((aA l0 x6_1).f1) from Kd.V_mk ul635_1 ge635_1)
    clear hva_ hvn_ hvc_ ge635_1 ul635_1 hcc635 hce635
    replace p635 := eq_true p635; replace q635 := eq_true q635
    have ea_ := Option.some.inj (hx633_0.symm.trans hx635_0)
    injection ea_ with ea_ en_ ec_
    subst ea_; subst ec_; clear en_
    have ea_ := Option.some.inj (hx633_1.symm.trans hx635_1)
    injection ea_ with ea_ en_ ec_
    subst ea_; subst ec_; clear en_
    have p636 : 0 ≤ (0 : Int) := (by omega)
    have q636 : 0 < (((aA l0 x6_1).f1).length : Int) := zP (by assumption)
    obtain ⟨ad636, e636, hx636_0⟩ := Kd.aX (by repeat (first | (with_reducible exact HR635_1.out) | (with_reducible first | refine yV ?_ _ | refine yW ?_ _ | refine yX ?_) | exact HR635_1.out)) 0 p636 q636
    cases e636
    have qi636 : (0 < ((aA l0 x6_1).f1).length) = True := eq_true (by omega)
    (try rw [show ((0 : Int)).toNat = 0 from rfl] at hx636_0)
    (try rw [Addr.add_zero'] at hx636_0)
    replace p636 := eq_true p636; replace q636 := eq_true q636
    refine s0 (m := 17) (S := fun w' => w'.cell? (ad633.add ((x6_1).toNat * 2)) = some (.slice (some ad634) ((aA l0 x6_1).f0).length c633_0) ∧ w'.cell? ⟨(ad633.add ((x6_1).toNat * 2)).block, (ad633.add ((x6_1).toNat * 2)).off + 1, none⟩ = some (.slice (some ad636) ((aA l0 x6_1).f1).length c633_1) ∧ w'.cell? ad634 = some (.int .i64 (rd ((aA l0 x6_1).f0) 0)) ∧ w'.cell? (ad633.add ((x6_1).toNat * 2)) = some (.slice (some ad634) ((aA l0 x6_1).f0).length c633_0) ∧ w'.cell? ⟨(ad633.add ((x6_1).toNat * 2)).block, (ad633.add ((x6_1).toNat * 2)).off + 1, none⟩ = some (.slice (some ad636) ((aA l0 x6_1).f1).length c633_1) ∧ w'.cell? ad636 = some (.int .i64 (rd ((aA l0 x6_1).f1) 0))) bN.tab5 bN.bits5 ⟨hx633_0, hx633_1, hx634_0, hx635_0, hx635_1, hx636_0⟩ fun hHeld HT_ HW_ => ?_
    generalize wr.drew = w19 at HO_0 HO_5 HB HL633_0 HL633_1 HL635_0 HL635_1 HR633_0 HR633_1 HR635_0 HR635_1 hx633_0 hx633_1 hx634_0 hx635_0 hx635_1 hx636_0 hHeld ⊢
    refine qa 17 0 1 ?_; refine qa 17 1 3 ?_; refine qa 17 2 7 ?_; refine qa 17 3 15 ?_; refine qa 17 4 31 ?_; refine qa 17 8 287 ?_; refine qa 17 9 799 ?_; refine qa 17 10 1823 ?_; refine qa 17 11 3871 ?_; refine qc 17 5 3903 hHeld ?_; refine qa 17 6 3967 ?_; refine qc 17 7 4095 hHeld ?_; refine qc 17 12 8191 hHeld ?_; refine qa 17 13 16383 ?_; refine qc 17 14 32767 hHeld ?_; refine qa 17 15 65535 ?_
    refine qo 17 16 131071 (some 30) fun K hK => ?_
    refine qg Try.func29 _ (dm (bO.calls a1 (rd ((aA l0 x6_1).f0) 0) (wrap64 ((rd ((aA l0 x6_1).f1) 0) - 1)) false _ A9.out) fun nd => ?_)
    refine hK.out _ _ ⟨hHeld.1, hHeld.2.1, hHeld.2.2.1, hHeld.2.2.2.1, hHeld.2.2.2.2.1, hHeld.2.2.2.2.2⟩ (fun hHeld => ?_)
    clear hK K
    refine nZ 30 ?_
    refine qd ?_
    try go_wp2
    go_roundg k1
    case measure => have := HK1.out; omega
    case rel => exact ⟨(x5_1), (wrap64 (x6_1 + 1)), kF, H', ⟨by have := HK1.out; omega⟩, ⟨kU HO_0⟩, ⟨kQ HO_5⟩, ⟨kR0 HB⟩⟩
   replace ⟨c11, H⟩ := sD H
   have c11b0 := eq_true c11
   have c11b1 : decide (1 ≤ (((aA l0 x6_1).f0).length : Int)) = true := zR c11; clear c11
   generalize hy639 : ((((aA l0 x6_1).f0).drop 1) : List Int) = y639 at H
   have Ny639 := yD hy639.symm
   clear hy639
   replace ⟨c12, H⟩ := sD H
   have c12b0 := eq_true c12
   have c12b1 : decide (1 ≤ (((aA l0 x6_1).f1).length : Int)) = true := zR c12; clear c12
   generalize hy645 : ((((aA l0 x6_1).f1).drop 1) : List Int) = y645 at H
   have Ny645 := yD hy645.symm
   clear hy645
   replace ⟨LMc13, H⟩ := sM H
   generalize hy650 : ((x5_1 ++ [(⟨y639, y645⟩ : S33)]) : List (S33)) = y650 at H
   have Ny650 := yD hy650.symm
   clear hy650
   have H' := yD H
   clear H
   try go_wp2
   replace HO_0 := yD (Kd.V_drew HO_0.out); replace HO_5 := yD (Kd.N_drew HO_5.out); replace HB := yD (yP HB.out)
   have p633 : 0 ≤ (x6_1 : Int) := zP (by assumption)
   have q633 : x6_1 < (l0.length : Int) := zP (by assumption)
   obtain ⟨ad633, A633_0, c633_0, A633_1, c633_1, e633, hx633_0, hx633_1, HC633_0, HR633_0, HC633_1, HR633_1⟩ := at_T33 (Kd.cV HO_0.out).2.2 x6_1 p633 q633
   cases e633
   obtain ⟨ce633, hce633, hMe633, hcc633⟩ := Kd.V_get HO_0.out z33 x6_1 p633 (by first | exact q633 | exact zP (by assumption) | (have e_ := (Kd.cV HO_0.out).1; omega))
   obtain ⟨ua633_0, uc633_0, ua633_1, uc633_1, rfl, ul633_0, ge633_0, ul633_1, ge633_1⟩ := k33_openF hMe633
   have hv633_0 := hcc633 0 _ rfl
   rw [Nat.add_zero] at hv633_0
   replace hv633_0 := Option.some.inj (hv633_0.symm.trans hx633_0)
   injection hv633_0 with hva_ hvn_ hvc_
   rw [hva_] at ge633_0
   rw [hvc_] at ul633_0
   have HL633_0 := yD (show Kd.V (Kd.int .i64) 2 _ w.heap.size _ _ ((aA l0 x6_1).f0) from Kd.V_mk ul633_0 ge633_0)
   clear hva_ hvn_ hvc_ ge633_0 ul633_0
   have hv633_1 := hcc633 1 _ rfl
   rw [add_field _ _ 1 (by omega)] at hv633_1
   replace hv633_1 := Option.some.inj (hv633_1.symm.trans hx633_1)
   injection hv633_1 with hva_ hvn_ hvc_
   rw [hva_] at ge633_1
   rw [hvc_] at ul633_1
   have HL633_1 := yD (show Kd.V (Kd.int .i64) 2 _ w.heap.size _ _ ((aA l0 x6_1).f1) from Kd.V_mk ul633_1 ge633_1)
   clear hva_ hvn_ hvc_ ge633_1 ul633_1 hcc633 hce633
   replace p633 := eq_true p633; replace q633 := eq_true q633
   have p634 : 0 ≤ (0 : Int) := (by omega)
   have q634 : 0 < (((aA l0 x6_1).f0).length : Int) := zP (by assumption)
   obtain ⟨ad634, e634, hx634_0⟩ := Kd.aX (by repeat (first | (with_reducible exact HR633_0.out) | (with_reducible first | refine yV ?_ _ | refine yW ?_ _ | refine yX ?_) | exact HR633_0.out)) 0 p634 q634
   cases e634
   have qi634 : (0 < ((aA l0 x6_1).f0).length) = True := eq_true (by omega)
   (try rw [show ((0 : Int)).toNat = 0 from rfl] at hx634_0)
   (try rw [Addr.add_zero'] at hx634_0)
   replace p634 := eq_true p634; replace q634 := eq_true q634
   have p635 : 0 ≤ (x6_1 : Int) := zP (by assumption)
   have q635 : x6_1 < (l0.length : Int) := zP (by assumption)
   obtain ⟨ad635, A635_0, c635_0, A635_1, c635_1, e635, hx635_0, hx635_1, HC635_0, HR635_0, HC635_1, HR635_1⟩ := at_T33 (Kd.cV HO_0.out).2.2 x6_1 p635 q635
   obtain rfl : ad633 = ad635 := (by injection e635)
   obtain ⟨ce635, hce635, hMe635, hcc635⟩ := Kd.V_get HO_0.out z33 x6_1 p635 (by first | exact q635 | exact zP (by assumption) | (have e_ := (Kd.cV HO_0.out).1; omega))
   obtain ⟨ua635_0, uc635_0, ua635_1, uc635_1, rfl, ul635_0, ge635_0, ul635_1, ge635_1⟩ := k33_openF hMe635
   have hv635_0 := hcc635 0 _ rfl
   rw [Nat.add_zero] at hv635_0
   replace hv635_0 := Option.some.inj (hv635_0.symm.trans hx635_0)
   injection hv635_0 with hva_ hvn_ hvc_
   rw [hva_] at ge635_0
   rw [hvc_] at ul635_0
   have HL635_0 := yD (show Kd.V (Kd.int .i64) 2 _ w.heap.size _ _ ((aA l0 x6_1).f0) from Kd.V_mk ul635_0 ge635_0)
   clear hva_ hvn_ hvc_ ge635_0 ul635_0
   have hv635_1 := hcc635 1 _ rfl
   rw [add_field _ _ 1 (by omega)] at hv635_1
   replace hv635_1 := Option.some.inj (hv635_1.symm.trans hx635_1)
   injection hv635_1 with hva_ hvn_ hvc_
   rw [hva_] at ge635_1
   rw [hvc_] at ul635_1
   have HL635_1 := yD (show Kd.V (Kd.int .i64) 2 _ w.heap.size _ _ ((aA l0 x6_1).f1) from Kd.V_mk ul635_1 ge635_1)
   clear hva_ hvn_ hvc_ ge635_1 ul635_1 hcc635 hce635
   replace p635 := eq_true p635; replace q635 := eq_true q635
   have ea_ := Option.some.inj (hx633_0.symm.trans hx635_0)
   injection ea_ with ea_ en_ ec_
   subst ea_; subst ec_; clear en_
   have ea_ := Option.some.inj (hx633_1.symm.trans hx635_1)
   injection ea_ with ea_ en_ ec_
   subst ea_; subst ec_; clear en_
   have p636 : 0 ≤ (0 : Int) := (by omega)
   have q636 : 0 < (((aA l0 x6_1).f1).length : Int) := zP (by assumption)
   obtain ⟨ad636, e636, hx636_0⟩ := Kd.aX (by repeat (first | (with_reducible exact HR635_1.out) | (with_reducible first | refine yV ?_ _ | refine yW ?_ _ | refine yX ?_) | exact HR635_1.out)) 0 p636 q636
   cases e636
   have qi636 : (0 < ((aA l0 x6_1).f1).length) = True := eq_true (by omega)
   (try rw [show ((0 : Int)).toNat = 0 from rfl] at hx636_0)
   (try rw [Addr.add_zero'] at hx636_0)
   replace p636 := eq_true p636; replace q636 := eq_true q636
   refine s0 (m := 17) (S := fun w' => w'.cell? (ad633.add ((x6_1).toNat * 2)) = some (.slice (some ad634) ((aA l0 x6_1).f0).length c633_0) ∧ w'.cell? ⟨(ad633.add ((x6_1).toNat * 2)).block, (ad633.add ((x6_1).toNat * 2)).off + 1, none⟩ = some (.slice (some ad636) ((aA l0 x6_1).f1).length c633_1) ∧ w'.cell? ad634 = some (.int .i64 (rd ((aA l0 x6_1).f0) 0)) ∧ w'.cell? (ad633.add ((x6_1).toNat * 2)) = some (.slice (some ad634) ((aA l0 x6_1).f0).length c633_0) ∧ w'.cell? ⟨(ad633.add ((x6_1).toNat * 2)).block, (ad633.add ((x6_1).toNat * 2)).off + 1, none⟩ = some (.slice (some ad636) ((aA l0 x6_1).f1).length c633_1) ∧ w'.cell? ad636 = some (.int .i64 (rd ((aA l0 x6_1).f1) 0))) bN.tab5 bN.bits5 ⟨hx633_0, hx633_1, hx634_0, hx635_0, hx635_1, hx636_0⟩ fun hHeld HT_ HW_ => ?_
   generalize wr.drew = w14 at HO_0 HO_5 HB HL633_0 HL633_1 HL635_0 HL635_1 HR633_0 HR633_1 HR635_0 HR635_1 hx633_0 hx633_1 hx634_0 hx635_0 hx635_1 hx636_0 hHeld ⊢
   refine qa 17 0 1 ?_; refine qa 17 1 3 ?_; refine qa 17 2 7 ?_; refine qa 17 3 15 ?_; refine qa 17 4 31 ?_; refine qa 17 8 287 ?_; refine qa 17 9 799 ?_; refine qa 17 10 1823 ?_; refine qa 17 11 3871 ?_; refine qc 17 5 3903 hHeld ?_; refine qa 17 6 3967 ?_; refine qc 17 7 4095 hHeld ?_; refine qc 17 12 8191 hHeld ?_; refine qa 17 13 16383 ?_; refine qc 17 14 32767 hHeld ?_; refine qa 17 15 65535 ?_
   refine qo 17 16 131071 (some 30) fun K hK => ?_
   refine qg Try.func29 _ (dm (bO.calls a1 (rd ((aA l0 x6_1).f0) 0) (wrap64 ((rd ((aA l0 x6_1).f1) 0) - 1)) true _ A9.out) fun nd => ?_)
   refine hK.out _ _ ⟨hHeld.1, hHeld.2.1, hHeld.2.2.1, hHeld.2.2.2.1, hHeld.2.2.2.2.1, hHeld.2.2.2.2.2⟩ (fun hHeld => ?_)
   clear hK K
   refine nZ 30 ?_
   refine qd ?_
   try go_wp2
   (try (rw [drewN_self w14]; generalize hq_ : World.drewN w14 _ = w14; have n0_ : aC (Kd.V (Kd.int .i64) 2 w14 w.heap.size (fun k_ => (P0_ k_ ∨ w.heap.size ≤ k_) ∧ oB u5 k_) (.slice (some ad634) ((aA l0 x6_1).f0).length c633_0) ((aA l0 x6_1).f0)) := ⟨by rw [← hq_]; exact (kU HL633_0)⟩; have n1_ : aC (Kd.V (Kd.int .i64) 2 w14 w.heap.size (fun k_ => (P0_ k_ ∨ w.heap.size ≤ k_) ∧ oB u5 k_) (.slice (some ad636) ((aA l0 x6_1).f1).length c633_1) ((aA l0 x6_1).f1)) := ⟨by rw [← hq_]; exact (kU HL633_1)⟩; have n2_ : aC (Kd.V (Kd.int .i64) 2 w14 w.heap.size (fun k_ => (P0_ k_ ∨ w.heap.size ≤ k_) ∧ oB u5 k_) (.slice (some ad634) ((aA l0 x6_1).f0).length c633_0) ((aA l0 x6_1).f0)) := ⟨by rw [← hq_]; exact (kU HL635_0)⟩; have n3_ : aC (Kd.V (Kd.int .i64) 2 w14 w.heap.size (fun k_ => (P0_ k_ ∨ w.heap.size ≤ k_) ∧ oB u5 k_) (.slice (some ad636) ((aA l0 x6_1).f1).length c633_1) ((aA l0 x6_1).f1)) := ⟨by rw [← hq_]; exact (kU HL635_1)⟩; have n4_ : aC (Kd.V k33 33 w14 w.heap.size (fun k_ => (P0_ k_ ∨ w.heap.size ≤ k_) ∧ oB u5 k_) (.slice (some ad633) l0.length c0) l0) := ⟨by rw [← hq_]; exact (kU HO_0)⟩; have n5_ : aC (Kd.N k33 33 w14 w.heap.size (fun k_ => (P0_ k_ ∨ w.heap.size ≤ k_)) u5 x5_1) := ⟨by rw [← hq_]; exact (kQ HO_5)⟩; have n6_ : aC (Below w.heap.size w w14) := ⟨by rw [← hq_]; exact (kB HB)⟩; have n7_ : aC (Kd.C (Kd.int .i64) w14 (some ad634) ((aA l0 x6_1).f0).length ((aA l0 x6_1).f0)) := ⟨by rw [← hq_]; exact (by repeat (first | (with_reducible exact HR633_0.out) | (with_reducible first | refine yV ?_ _ | refine yW ?_ _ | refine yX ?_) | exact HR633_0.out))⟩; have n8_ : aC (Kd.C (Kd.int .i64) w14 (some ad636) ((aA l0 x6_1).f1).length ((aA l0 x6_1).f1)) := ⟨by rw [← hq_]; exact (by repeat (first | (with_reducible exact HR633_1.out) | (with_reducible first | refine yV ?_ _ | refine yW ?_ _ | refine yX ?_) | exact HR633_1.out))⟩; have n9_ : aC (Kd.C (Kd.int .i64) w14 (some ad634) ((aA l0 x6_1).f0).length ((aA l0 x6_1).f0)) := ⟨by rw [← hq_]; exact (by repeat (first | (with_reducible exact HR635_0.out) | (with_reducible first | refine yV ?_ _ | refine yW ?_ _ | refine yX ?_) | exact HR635_0.out))⟩; have n10_ : aC (Kd.C (Kd.int .i64) w14 (some ad636) ((aA l0 x6_1).f1).length ((aA l0 x6_1).f1)) := ⟨by rw [← hq_]; exact (by repeat (first | (with_reducible exact HR635_1.out) | (with_reducible first | refine yV ?_ _ | refine yW ?_ _ | refine yX ?_) | exact HR635_1.out))⟩; clear HL633_0 HL633_1 HL635_0 HL635_1 HO_0 HO_5 HB HR633_0 HR633_1 HR635_0 HR635_1 hq_; have HL633_0 := n0_; have HL633_1 := n1_; have HL635_0 := n2_; have HL635_1 := n3_; have HO_0 := n4_; have HO_5 := n5_; have HB := n6_; have HR633_0 := n7_; have HR633_1 := n8_; have HR635_0 := n9_; have HR635_1 := n10_; clear n0_ n1_ n2_ n3_ n4_ n5_ n6_ n7_ n8_ n9_ n10_))
   replace HO_0 := yD (Kd.V_drew HO_0.out); replace HO_5 := yD (Kd.N_drew HO_5.out); replace HL633_0 := yD (Kd.V_drew HL633_0.out); replace HL633_1 := yD (Kd.V_drew HL633_1.out); replace HL635_0 := yD (Kd.V_drew HL635_0.out); replace HL635_1 := yD (Kd.V_drew HL635_1.out); replace HR633_0 := yD (yX HR633_0.out); replace HR633_1 := yD (yX HR633_1.out); replace HR635_0 := yD (yX HR635_0.out); replace HR635_1 := yD (yX HR635_1.out); replace HB := yD (yP HB.out)
   have p638 : 0 ≤ (x6_1 : Int) := zP (by assumption)
   have q638 : x6_1 < (l0.length : Int) := zP (by assumption)
   obtain ⟨ad638, A638_0, c638_0, A638_1, c638_1, e638, hx638_0, hx638_1, HC638_0, HR638_0, HC638_1, HR638_1⟩ := at_T33 (Kd.cV HO_0.out).2.2 x6_1 p638 q638
   obtain rfl : ad633 = ad638 := (by injection e638)
   obtain ⟨ce638, hce638, hMe638, hcc638⟩ := Kd.V_get HO_0.out z33 x6_1 p638 (by first | exact q638 | exact zP (by assumption) | (have e_ := (Kd.cV HO_0.out).1; omega))
   obtain ⟨ua638_0, uc638_0, ua638_1, uc638_1, rfl, ul638_0, ge638_0, ul638_1, ge638_1⟩ := k33_openF hMe638
   have hv638_0 := hcc638 0 _ rfl
   rw [Nat.add_zero] at hv638_0
   replace hv638_0 := Option.some.inj (hv638_0.symm.trans hx638_0)
   injection hv638_0 with hva_ hvn_ hvc_
   rw [hva_] at ge638_0
   rw [hvc_] at ul638_0
   have HL638_0 := yD (show Kd.V (Kd.int .i64) 2 _ w.heap.size _ _ ((aA l0 x6_1).f0) from Kd.V_mk ul638_0 ge638_0)
   clear hva_ hvn_ hvc_ ge638_0 ul638_0
   have hv638_1 := hcc638 1 _ rfl
   rw [add_field _ _ 1 (by omega)] at hv638_1
   replace hv638_1 := Option.some.inj (hv638_1.symm.trans hx638_1)
   injection hv638_1 with hva_ hvn_ hvc_
   rw [hva_] at ge638_1
   rw [hvc_] at ul638_1
   have HL638_1 := yD (show Kd.V (Kd.int .i64) 2 _ w.heap.size _ _ ((aA l0 x6_1).f1) from Kd.V_mk ul638_1 ge638_1)
   clear hva_ hvn_ hvc_ ge638_1 ul638_1 hcc638 hce638
   replace p638 := eq_true p638; replace q638 := eq_true q638
   have q16 : (1 : Int) ≤ ((((aA l0 x6_1).f0).length : Int) : Int) := zP (by assumption)
   obtain ⟨i016, hi016, _, hsz16, _⟩ := info_parts info2
   have hroom16 : ((aA l0 x6_1).f0).length ≤ c638_0 := HC638_0.out
   have hC16 : Kd.F (Kd.int .i64) _ _ A638_0 ((aA l0 x6_1).f0).length ((aA l0 x6_1).f0) := (Kd.V_at (base := w.heap.size) HL638_0.out).2.2
   have hcut16 := cut_from (P := Try.prog) 23 2 .i64 Try.underlying23 hi016 1 hsz16 A638_0 ((aA l0 x6_1).f0).length c638_0 1 (by omega) q16
   have hr16 := Kd.F_cut (m := (1 : Int).toNat) (c := c638_0) hC16 (by omega) hroom16
   obtain ⟨A16, hA16⟩ : ∃ A1, A1 = (if c638_0 = (1 : Int).toNat then A638_0 else (A638_0 : Option Addr).map (·.add ((1 : Int).toNat * 1))) := ⟨_, rfl⟩
   obtain ⟨c16, hc16⟩ : ∃ c1, c1 = c638_0 - (1 : Int).toNat := ⟨_, rfl⟩
   have hy16 : y639.length = ((aA l0 x6_1).f0).length - (1 : Int).toNat := (by rw [Ny639.out, zN] <;> omega)
   rw [show ((aA l0 x6_1).f0).drop (1 : Int).toNat = y639 from Ny639.out.symm] at hr16
   replace hr16 : Kd.F (Kd.int .i64) _ _ A16 y639.length y639 := (by rw [hA16]; exact hr16)
   rw [← hy16, ← hA16, ← hc16] at hcut16
   have HO643 := yD (show Kd.V (Kd.int .i64) 2 _ w.heap.size _ (.slice A16 y639.length c16) y639 from Kd.V_mk (by rw [hy16, hc16]; exact Nat.sub_le_sub_right hroom16 _) hr16)
   have HC643 := yD (show y639.length ≤ c16 from by rw [hy16, hc16]; exact Nat.sub_le_sub_right hroom16 _)
   clear hr16 hC16 hroom16 hi016 hsz16 hc16
   have KY16 := yD hy16
   have KA16 := yD hA16
   clear hy16 hA16; replace q16 := eq_true q16
   have p644 : 0 ≤ (x6_1 : Int) := zP (by assumption)
   have q644 : x6_1 < (l0.length : Int) := zP (by assumption)
   obtain ⟨ad644, A644_0, c644_0, A644_1, c644_1, e644, hx644_0, hx644_1, HC644_0, HR644_0, HC644_1, HR644_1⟩ := at_T33 (Kd.cV HO_0.out).2.2 x6_1 p644 q644
   obtain rfl : ad633 = ad644 := (by injection e644)
   obtain ⟨ce644, hce644, hMe644, hcc644⟩ := Kd.V_get HO_0.out z33 x6_1 p644 (by first | exact q644 | exact zP (by assumption) | (have e_ := (Kd.cV HO_0.out).1; omega))
   obtain ⟨ua644_0, uc644_0, ua644_1, uc644_1, rfl, ul644_0, ge644_0, ul644_1, ge644_1⟩ := k33_openF hMe644
   have hv644_0 := hcc644 0 _ rfl
   rw [Nat.add_zero] at hv644_0
   replace hv644_0 := Option.some.inj (hv644_0.symm.trans hx644_0)
   injection hv644_0 with hva_ hvn_ hvc_
   rw [hva_] at ge644_0
   rw [hvc_] at ul644_0
   have HL644_0 := yD (show Kd.V (Kd.int .i64) 2 _ w.heap.size _ _ ((aA l0 x6_1).f0) from Kd.V_mk ul644_0 ge644_0)
   clear hva_ hvn_ hvc_ ge644_0 ul644_0
   have hv644_1 := hcc644 1 _ rfl
   rw [add_field _ _ 1 (by omega)] at hv644_1
   replace hv644_1 := Option.some.inj (hv644_1.symm.trans hx644_1)
   injection hv644_1 with hva_ hvn_ hvc_
   rw [hva_] at ge644_1
   rw [hvc_] at ul644_1
   have HL644_1 := yD (show Kd.V (Kd.int .i64) 2 _ w.heap.size _ _ ((aA l0 x6_1).f1) from Kd.V_mk ul644_1 ge644_1)
   clear hva_ hvn_ hvc_ ge644_1 ul644_1 hcc644 hce644
   replace p644 := eq_true p644; replace q644 := eq_true q644
   have ea_ := Option.some.inj (hx638_0.symm.trans hx644_0)
   injection ea_ with ea_ en_ ec_
   subst ea_; subst ec_; clear en_
   have ea_ := Option.some.inj (hx638_1.symm.trans hx644_1)
   injection ea_ with ea_ en_ ec_
   subst ea_; subst ec_; clear en_
   have q17 : (1 : Int) ≤ ((((aA l0 x6_1).f1).length : Int) : Int) := zP (by assumption)
   obtain ⟨i017, hi017, _, hsz17, _⟩ := info_parts info2
   have hroom17 : ((aA l0 x6_1).f1).length ≤ c638_1 := HC644_1.out
   have hC17 : Kd.F (Kd.int .i64) _ _ A638_1 ((aA l0 x6_1).f1).length ((aA l0 x6_1).f1) := (Kd.V_at (base := w.heap.size) HL644_1.out).2.2
   have hcut17 := cut_from (P := Try.prog) 23 2 .i64 Try.underlying23 hi017 1 hsz17 A638_1 ((aA l0 x6_1).f1).length c638_1 1 (by omega) q17
   have hr17 := Kd.F_cut (m := (1 : Int).toNat) (c := c638_1) hC17 (by omega) hroom17
   obtain ⟨A17, hA17⟩ : ∃ A1, A1 = (if c638_1 = (1 : Int).toNat then A638_1 else (A638_1 : Option Addr).map (·.add ((1 : Int).toNat * 1))) := ⟨_, rfl⟩
   obtain ⟨c17, hc17⟩ : ∃ c1, c1 = c638_1 - (1 : Int).toNat := ⟨_, rfl⟩
   have hy17 : y645.length = ((aA l0 x6_1).f1).length - (1 : Int).toNat := (by rw [Ny645.out, zN] <;> omega)
   rw [show ((aA l0 x6_1).f1).drop (1 : Int).toNat = y645 from Ny645.out.symm] at hr17
   replace hr17 : Kd.F (Kd.int .i64) _ _ A17 y645.length y645 := (by rw [hA17]; exact hr17)
   rw [← hy17, ← hA17, ← hc17] at hcut17
   have HO649 := yD (show Kd.V (Kd.int .i64) 2 _ w.heap.size _ (.slice A17 y645.length c17) y645 from Kd.V_mk (by rw [hy17, hc17]; exact Nat.sub_le_sub_right hroom17 _) hr17)
   have HC649 := yD (show y645.length ≤ c17 from by rw [hy17, hc17]; exact Nat.sub_le_sub_right hroom17 _)
   clear hr17 hC17 hroom17 hi017 hsz17 hc17
   have KY17 := yD hy17
   have KA17 := yD hA17
   clear hy17 hA17; replace q17 := eq_true q17
   refine start_ (n := 17) (S := fun w' => w'.cell? (ad633.add ((x6_1).toNat * 2)) = some (.slice A638_0 ((aA l0 x6_1).f0).length c638_0) ∧ w'.cell? ⟨(ad633.add ((x6_1).toNat * 2)).block, (ad633.add ((x6_1).toNat * 2)).off + 1, none⟩ = some (.slice A638_1 ((aA l0 x6_1).f1).length c638_1) ∧ w'.cell? (ad633.add ((x6_1).toNat * 2)) = some (.slice A638_0 ((aA l0 x6_1).f0).length c638_0) ∧ w'.cell? ⟨(ad633.add ((x6_1).toNat * 2)).block, (ad633.add ((x6_1).toNat * 2)).off + 1, none⟩ = some (.slice A638_1 ((aA l0 x6_1).f1).length c638_1)) (ds := [14, 15]) (bz 17 0) (by kernel_rfl) rfl rfl ⟨hx638_0, hx638_1, hx644_0, hx644_1⟩ (fun hHeld => ?_); refine with_tabW bN.tab6 bN.bits6 (fun HT_ HW_ => ?_)
   generalize w14.drew = w15 at HO_0 HO_5 HL633_0 HL633_1 HL635_0 HL635_1 HR633_0 HR633_1 HR635_0 HR635_1 HB HL638_0 HL638_1 HL644_0 HL644_1 HO643 HO649 HR638_0 HR638_1 HR644_0 HR644_1 hx638_0 hx638_1 hx644_0 hx644_1 hHeld ⊢
   refine qa 17 0 1 ?_; refine qa 17 1 3 ?_; refine qa 17 2 7 ?_; refine qa 17 3 15 ?_; refine qa 17 4 31 ?_; refine qa 17 7 159 ?_; refine qa 17 8 415 ?_; refine qa 17 9 927 ?_; refine qa 17 10 1951 ?_; refine qc 17 5 1983 hHeld ?_; refine qa 17 6 2047 ?_; refine qc 17 11 4095 hHeld ?_; refine qa 17 12 8191 ?_; refine qa 17 13 16383 ?_
   refine last_ (i := 14) (N := some 45) #[true, true, true, true, true, true, true, true, true, true, true, true, true, true, true, false, false] rfl rfl (one_of HT_.out (by kernel_rfl)) (by decide) (fun K hK => ?_)
   refine value_ (w1 := ?_) (v := ?_) (by rfl) rfl ?_ ?_
   rotate_left 2
   · go_simp
     constructor
     · rfl
     · rfl
   refine hK.out _ _ ?_
   clear hK K
   refine nZ 45 ?_
   refine last_ (i := 15) (N := some 46) #[true, true, true, true, true, true, true, true, true, true, true, true, true, true, true, true, false] rfl rfl (one_of HT_.out (by kernel_rfl)) (by decide) (fun K hK => ?_)
   refine Kd.N_append_step k33 (w0 := w) w.heap.size (by rfl) (.tmp 31) (.tmp 45) 29 33 (.agg #[(.slice none 0 0), (.slice none 0 0)]) 48 rfl Try.underlying29 info33 rfl (by decide) (by omega) u5 x5_1 (⟨y639, y645⟩ : S33) [.slice A16 y639.length c16, .slice A17 y645.length c17] (fun k_ => (P0_ k_ ∨ w.heap.size ≤ k_)) (fun k_ => ((fun k_ => (P0_ k_ ∨ w.heap.size ≤ k_))) k_ ∧ oB u5 k_) rfl rfl ?aP (fun _ hk => hk) ?aF ?aO ?aB ?aS ?aL ?_
   (case aP => exact (k33_mkF _ _ (⟨y639, y645⟩ : S33) (Kd.cV (Kd.V_mono (ok' := (fun k_ => ((fun k_ => (P0_ k_ ∨ w.heap.size ≤ k_))) k_ ∧ oB u5 k_)) (HO643.out) (fun k_ hk => ⟨hk.1, hk.2⟩))).2.1 (Kd.V_F (Kd.V_mono (ok' := (fun k_ => ((fun k_ => (P0_ k_ ∨ w.heap.size ≤ k_))) k_ ∧ oB u5 k_)) (HO643.out) (fun k_ hk => ⟨hk.1, hk.2⟩))) (Kd.cV (Kd.V_mono (ok' := (fun k_ => ((fun k_ => (P0_ k_ ∨ w.heap.size ≤ k_))) k_ ∧ oB u5 k_)) (HO649.out) (fun k_ hk => ⟨hk.1, hk.2⟩))).2.1 (Kd.V_F (Kd.V_mono (ok' := (fun k_ => ((fun k_ => (P0_ k_ ∨ w.heap.size ≤ k_))) k_ ∧ oB u5 k_)) (HO649.out) (fun k_ hk => ⟨hk.1, hk.2⟩)))))
   (case aB => exact (kB HB))
   (case aF => exact (fun k_ hk => (.inr (Nat.le_trans (aD (kB HB)) hk))))
   (case aO => exact (kQ HO_5))
   (case aS => exact (aD (kB HB)))
   (case aL => have := LMc13.out; omega)
   intro v651 w18 ho hb hg hat
   rw [← Ny650.out] at ho
   have n0_ := yD (Kd.V_afterv (ok := (fun k_ => (P0_ k_ ∨ w.heap.size ≤ k_))) (kU HO_0) hg hat)
   have n1_ := yD (Kd.V_afterv (ok := (fun k_ => (P0_ k_ ∨ w.heap.size ≤ k_))) (kU HL633_0) hg hat)
   have n2_ := yD (Kd.V_afterv (ok := (fun k_ => (P0_ k_ ∨ w.heap.size ≤ k_))) (kU HL633_1) hg hat)
   have n3_ := yD (Kd.V_afterv (ok := (fun k_ => (P0_ k_ ∨ w.heap.size ≤ k_))) (kU HL635_0) hg hat)
   have n4_ := yD (Kd.V_afterv (ok := (fun k_ => (P0_ k_ ∨ w.heap.size ≤ k_))) (kU HL635_1) hg hat)
   have n5_ := yD (Kd.V_afterv (ok := (fun k_ => (P0_ k_ ∨ w.heap.size ≤ k_))) (kU HL638_0) hg hat)
   have n6_ := yD (Kd.V_afterv (ok := (fun k_ => (P0_ k_ ∨ w.heap.size ≤ k_))) (kU HL638_1) hg hat)
   have n7_ := yD (Kd.V_afterv (ok := (fun k_ => (P0_ k_ ∨ w.heap.size ≤ k_))) (kU HO643) hg hat)
   have n8_ := yD (Kd.V_afterv (ok := (fun k_ => (P0_ k_ ∨ w.heap.size ≤ k_))) (kU HL644_0) hg hat)
   have n9_ := yD (Kd.V_afterv (ok := (fun k_ => (P0_ k_ ∨ w.heap.size ≤ k_))) (kU HL644_1) hg hat)
   have n10_ := yD (Kd.V_afterv (ok := (fun k_ => (P0_ k_ ∨ w.heap.size ≤ k_))) (kU HO649) hg hat)
   have n11_ := yD (hb)
   have n12_ := yD (ho)
   clear HO_0 HL633_0 HL633_1 HL635_0 HL635_1 HL638_0 HL638_1 HO643 HL644_0 HL644_1 HO649 HB HO_5; have HO_0 := n0_; have HL633_0 := n1_; have HL633_1 := n2_; have HL635_0 := n3_; have HL635_1 := n4_; have HL638_0 := n5_; have HL638_1 := n6_; have HO643 := n7_; have HL644_0 := n8_; have HL644_1 := n9_; have HO649 := n10_; have HB := n11_; have HO652 := n12_; clear n0_ n1_ n2_ n3_ n4_ n5_ n6_ n7_ n8_ n9_ n10_ n11_ n12_ ho hb hg hat
   refine hK.out _ _ ?_
   clear hK K
   refine nZ 46 ?_
   refine qa 17 16 131071 ?_
   refine qd ?_
   try go_wp2
   go_roundg k1
   case measure => have := HK1.out; omega
   case rel => exact ⟨(y650), (wrap64 (x6_1 + 1)), kF, H', ⟨by have := HK1.out; omega⟩, ⟨kU HO_0⟩, ⟨kQ HO652⟩, ⟨kR0 HB⟩⟩
def spec_l00Same.l0 : Nat → List Int → List Int → Int → Option (Bool)
 | 0, _, _, _ => none
 | k + 1, x0, x1, x5 => if x5 < (x0.length : Int) then (if 0 ≤ x5 then (if x5 < (x1.length : Int) then (if (rd x0 x5) = (rd x1 x5) then (spec_l00Same.l0 k x0 x1 (wrap64 (x5 + 1))) else (some false)) else (none)) else (none)) else (some true)
def spec_l00Same.f (k : Nat) (l0 l1 : List Int) : Option (Bool) := if (l0.length : Int) = (l1.length : Int) then (spec_l00Same.l0 k l0 l1 0) else (some false)
theorem spec_l00Same.calls (k : Nat) (A0 : Option Addr) (c0 : Nat) (l0 : List Int) (A1 : Option Addr) (c1 : Nat) (l1 : List Int) (r : Bool) (w : World) (C0 : Cm (Kd.int .i64) w A0 c0 l0) (C1 : Cm (Kd.int .i64) w A1 c1 l1) (h : spec_l00Same.f k l0 l1 = some r) :
 Calls Try.prog 99 #[.slice A0 l0.length c0, .slice A1 l1.length c1] w fun e w' => e = .returned (.bool r) ∧ aT w w' := by
 unfold spec_l00Same.f at h
 have H := h
 clear h
 replace H := sP H; rcases H with ⟨c3, c3b0, c3b1, H⟩ | ⟨c3, c3b0, c3b1, H⟩
 ·
  have c3b2 : (l0.length == l1.length) = false := by first | simpa using c3 | (simp at c3 ⊢; omega)
  obtain rfl := sJ H; go_enter Try.func99, Try.ntmps99
  go_wp2
  repeat (go_quiet (fail); try go_wp2)
  go_ret
  exact ⟨by first | rfl | (simp; done) | (simp [*]; done), by repeat (first | exact aT.refl _ | apply aT.step)⟩
 have c3b2 : (l0.length == l1.length) = true := by first | simpa using c3 | (simp at c3 ⊢; omega)
 clear c3
 have H' := yD H
 clear H; go_enter Try.func99, Try.ntmps99
 go_wp2
 repeat (go_quiet (fail); try go_wp2)
 go_loopg [5] k (fun kq v5 w' => ∃ (x5_1 : Int), v5 = .int .i64 x5_1 ∧ aC (spec_l00Same.l0 kq l0 l1 x5_1 = some r) ∧ aC (kq ≤ k) ∧ aT w w')
 case atStart => exact ⟨(0), kF, H', ⟨Nat.le_refl _⟩, by repeat (first | exact aT.refl _ | apply aT.step)⟩
 case round =>
  clear H'
  obtain ⟨x5_1, rfl, HA, HK1, ⟨m1, rfl⟩⟩ := hrel
  cases gk with
  | zero => exact absurd HA.out (by simp [spec_l00Same.l0])
  | succ k1 =>
   have H := HA.out; clear HA
   simp only [spec_l00Same.l0] at H
   replace H := sG H; rcases H with ⟨c4b0, H⟩ | ⟨c4b0, H⟩
   ·
    obtain rfl := sJ H
    go_wp2
    repeat (go_quiet (fail); try go_wp2)
    go_ret
    exact ⟨by first | rfl | (simp; done) | (simp [*]; done), by repeat (first | exact aT.refl _ | apply aT.step)⟩
   replace ⟨c5b0, H⟩ := sE H
   replace ⟨c6b0, H⟩ := sE H
   replace H := sP H; rcases H with ⟨c7, c7b0, c7b1, H⟩ | ⟨-, c7b0, c7b1, H⟩
   ·
    obtain rfl := sJ H
    obtain ⟨p653, q653, ad653, e653, hx653_0⟩ := sI (Kd.aX C0.r x5_1)
    cases e653
    obtain ⟨p654, q654, ad654, e654, hx654_0⟩ := sI (Kd.aX C1.r x5_1)
    cases e654
    go_wp2
    repeat (go_quiet (fail); try go_wp2)
    go_ret
    exact ⟨by first | rfl | (simp; done) | (simp [*]; done), by repeat (first | exact aT.refl _ | apply aT.step)⟩
   have H' := yD H
   clear H
   obtain ⟨p653, q653, ad653, e653, hx653_0⟩ := sI (Kd.aX C0.r x5_1)
   cases e653
   obtain ⟨p654, q654, ad654, e654, hx654_0⟩ := sI (Kd.aX C1.r x5_1)
   cases e654
   go_wp2
   repeat (go_quiet (fail); try go_wp2)
   go_roundg k1
   case measure => have := HK1.out; omega
   case rel => exact ⟨(wrap64 (x5_1 + 1)), kF, H', ⟨by have := HK1.out; omega⟩, by repeat (first | exact aT.refl _ | apply aT.step)⟩
def spec_l07SameBox.f (k : Nat) (l0_0 l0_1 : List Int) (l1_0 l1_1 : List Int) : Option (Bool) := (spec_l00Same.f k l0_0 l1_0).bind fun t657 => (if t657 = true then ((spec_l00Same.f k l0_1 l1_1).bind fun t658 => (some t658)) else (some false))
theorem spec_l07SameBox.calls (k : Nat) (A0_0 : Option Addr) (c0_0 : Nat) (l0_0 : List Int) (A0_1 : Option Addr) (c0_1 : Nat) (l0_1 : List Int) (A1_0 : Option Addr) (c1_0 : Nat) (l1_0 : List Int) (A1_1 : Option Addr) (c1_1 : Nat) (l1_1 : List Int) (r : Bool) (w : World) (C0_0 : Cm (Kd.int .i64) w A0_0 c0_0 l0_0) (C0_1 : Cm (Kd.int .i64) w A0_1 c0_1 l0_1) (C1_0 : Cm (Kd.int .i64) w A1_0 c1_0 l1_0) (C1_1 : Cm (Kd.int .i64) w A1_1 c1_1 l1_1) (h : spec_l07SameBox.f k l0_0 l0_1 l1_0 l1_1 = some r) :
 Calls Try.prog 97 #[.agg #[.slice A0_0 l0_0.length c0_0, .slice A0_1 l0_1.length c0_1], .agg #[.slice A1_0 l1_0.length c1_0, .slice A1_1 l1_1.length c1_1]] w fun e w' => e = .returned (.bool r) ∧ Below w.heap.size w w' := by
 have hu33 := Try.underlying33
 have HB := yD (Below.refl w.heap.size w)
 unfold spec_l07SameBox.f at h
 have H := h
 clear h
 replace ⟨t657, A3, H⟩ := sV H
 replace H := sS H; rcases H with ⟨rfl, H⟩ | ⟨rfl, H⟩
 ·
  obtain rfl := sJ H; go_enter Try.func97, Try.ntmps97
  go_wp2_with (first | (refine gD 2 ?_; refine bF (N := 2) (cs := #[.slice A0_0 l0_0.length c0_0, .slice A0_1 l0_1.length c0_1]) (t := 33) HB ?_; intro gb655 w11 BK655 GW655 HB) | (refine gD 3 ?_; refine bE (N := 3) (cs := #[.slice A1_0 l1_0.length c1_0, .slice A1_1 l1_1.length c1_1]) (t := 33) ?_; intro gb656 hg w12 hbox hb; have BK656 := yD (hbox); have GW656 := sW hg HB; replace HB := zX HB hb; have NB655_656 := yD ((by rw [hg]; exact Nat.ne_of_lt (cT (kN BK655)) : gb655 ≠ gb656)); have NB656_655 := yD ((by rw [hg]; exact Nat.ne_of_gt (cT (kN BK655)) : gb656 ≠ gb655)); replace BK655 := zY BK655 hb; clear hb hbox hg; have hnb13 := NB655_656.out; have hnc13 := NB656_655.out; have := cf2_ BK655.out; have := cf2_ BK656.out) | (refine gC 99 ?_; refine gL 9 Try.func99 _ (dm (spec_l00Same.calls k _ _ l0_0 _ _ l1_0 false _ (C0_0.b HB) (C1_0.b HB) A3.out) fun nd => ?_)))
  go_ret
  exact ⟨kE, kR1 HB⟩
 replace ⟨t658, A5, H⟩ := sV H
 obtain rfl := sJ H; go_enter Try.func97, Try.ntmps97
 go_wp2_with (first | (refine gD 2 ?_; refine bF (N := 2) (cs := #[.slice A0_0 l0_0.length c0_0, .slice A0_1 l0_1.length c0_1]) (t := 33) HB ?_; intro gb655 w6 BK655 GW655 HB) | (refine gD 3 ?_; refine bE (N := 3) (cs := #[.slice A1_0 l1_0.length c1_0, .slice A1_1 l1_1.length c1_1]) (t := 33) ?_; intro gb656 hg w7 hbox hb; have BK656 := yD (hbox); have GW656 := sW hg HB; replace HB := zX HB hb; have NB655_656 := yD ((by rw [hg]; exact Nat.ne_of_lt (cT (kN BK655)) : gb655 ≠ gb656)); have NB656_655 := yD ((by rw [hg]; exact Nat.ne_of_gt (cT (kN BK655)) : gb656 ≠ gb655)); replace BK655 := zY BK655 hb; clear hb hbox hg; have hnb8 := NB655_656.out; have hnc8 := NB656_655.out; have := cf2_ BK655.out; have := cf2_ BK656.out) | (refine gC 99 ?_; refine gL 9 Try.func99 _ (dm (spec_l00Same.calls k _ _ l0_0 _ _ l1_0 true _ (C0_0.b HB) (C1_0.b HB) A3.out) fun nd => ?_)) | (go_at_call 99; (with_reducible refine (spec_l00Same.calls k _ _ l0_1 _ _ l1_1 t658 _ (C0_1.b HB) (C1_1.b HB) A5.out).mono ?_); rintro e w' ⟨rfl, ⟨nd, rfl⟩⟩))
 go_ret
 exact ⟨kE, kR1 HB⟩
def cX.l0 : Nat → List (S33) → List (S33) → Int → Option (Bool)
 | 0, _, _, _ => none
 | k + 1, x0, x1, x5 => if x5 < (x0.length : Int) then (if 0 ≤ x5 then (if x5 < (x1.length : Int) then ((spec_l07SameBox.f k ((aA x0 x5).f0) ((aA x0 x5).f1) ((aA x1 x5).f0) ((aA x1 x5).f1)).bind fun t661 => (if t661 = true then (cX.l0 k x0 x1 (wrap64 (x5 + 1))) else (some false))) else (none)) else (none)) else (some true)
def cX.f (k : Nat) (l0 l1 : List (S33)) : Option (Bool) := if (l0.length : Int) = (l1.length : Int) then (cX.l0 k l0 l1 0) else (some false)
def cX.T6 : Bool × List (List Nat × List Nat) := (true, [([], []), ([], []), ([0, 1], [0, 1]), ([2], [2]), ([], []), ([], []), ([4, 5], [4, 5]), ([6], [6]), ([3, 7], [3, 7]), ([8], [8])])
def cX.B6 : List Nat := [0, 0, 3, 7, 0, 0, 48, 112, 255, 511]
theorem cX.tab6 : rtab .any (opsOf Try.f85 6) = cX.T6 := by kernel_rfl
theorem cX.bits6 : waitsOk cX.T6.2 cX.B6 = true := by kernel_rfl
theorem cX.calls (k : Nat) (A0 : Option Addr) (c0 : Nat) (l0 : List (S33)) (A1 : Option Addr) (c1 : Nat) (l1 : List (S33)) (r : Bool) (w : World) (C0 : Cm k33 w A0 c0 l0) (C1 : Cm k33 w A1 c1 l1) (h : cX.f k l0 l1 = some r) :
 Calls Try.prog 85 #[.slice A0 l0.length c0, .slice A1 l1.length c1] w fun e w' => e = .returned (.bool r) ∧ Below w.heap.size w w' := by
 have hu33 := Try.underlying33
 have HB := yD (Below.refl w.heap.size w)
 unfold cX.f at h
 have H := h
 clear h
 replace H := sP H; rcases H with ⟨c3, c3b0, c3b1, H⟩ | ⟨c3, c3b0, c3b1, H⟩
 ·
  have c3b2 : (l0.length == l1.length) = false := by first | simpa using c3 | (simp at c3 ⊢; omega)
  obtain rfl := sJ H; go_enter Try.func85, Try.ntmps85
  go_wp2
  go_ret
  exact ⟨kE, kR0 HB⟩
 have c3b2 : (l0.length == l1.length) = true := by first | simpa using c3 | (simp at c3 ⊢; omega)
 clear c3
 have H' := yD H
 clear H; go_enter Try.func85, Try.ntmps85
 go_wp2
 go_loopg [5] k (fun kq v5 w' => ∃ (x5_1 : Int), v5 = .int .i64 x5_1 ∧ aC (cX.l0 kq l0 l1 x5_1 = some r) ∧ aC (kq ≤ k) ∧ aC (Below w.heap.size w w'))
 case atStart => exact ⟨(0), kF, H', ⟨Nat.le_refl _⟩, ⟨kR0 HB⟩⟩
 case round =>
  clear H'
  obtain ⟨x5_1, rfl, HA, HK1, HB⟩ := hrel
  cases gk with
  | zero => exact absurd HA.out (by simp [cX.l0])
  | succ k1 =>
   have H := HA.out; clear HA
   simp only [cX.l0] at H
   replace H := sG H; rcases H with ⟨c4b0, H⟩ | ⟨c4b0, H⟩
   · obtain rfl := sJ H
     go_wp2
     go_ret
     exact ⟨kE, kR0 HB⟩
   replace ⟨c5b0, H⟩ := sE H
   replace ⟨c6b0, H⟩ := sE H
   replace ⟨t661, A7, H⟩ := sV H
   replace H := sS H; rcases H with ⟨rfl, H⟩ | ⟨rfl, H⟩
   ·
    obtain rfl := sJ H
    try go_wp2
    replace HB := yD (yP HB.out)
    obtain ⟨p659, q659, ad659, A659_0, c659_0, A659_1, c659_1, e659, hx659_0, hx659_1, HC659_0, HR659_0, HC659_1, HR659_1⟩ := sI (at_T33 C0.r x5_1)
    have hw659_1 := hx659_1; have hw659_0 := hx659_0; cases e659
    replace hx659_0 := kD HB hx659_0
    replace hx659_1 := kD HB hx659_1
    obtain ⟨p660, q660, ad660, A660_0, c660_0, A660_1, c660_1, e660, hx660_0, hx660_1, HC660_0, HR660_0, HC660_1, HR660_1⟩ := sI (at_T33 C1.r x5_1)
    have hw660_1 := hx660_1; have hw660_0 := hx660_0; cases e660
    replace hx660_0 := kD HB hx660_0
    replace hx660_1 := kD HB hx660_1
    refine s0 (m := 10) (S := fun w' => w'.cell? (ad659.add ((x5_1).toNat * 2)) = some (.slice A659_0 ((aA l0 x5_1).f0).length c659_0) ∧ w'.cell? ⟨(ad659.add ((x5_1).toNat * 2)).block, (ad659.add ((x5_1).toNat * 2)).off + 1, none⟩ = some (.slice A659_1 ((aA l0 x5_1).f1).length c659_1) ∧ w'.cell? (ad660.add ((x5_1).toNat * 2)) = some (.slice A660_0 ((aA l1 x5_1).f0).length c660_0) ∧ w'.cell? ⟨(ad660.add ((x5_1).toNat * 2)).block, (ad660.add ((x5_1).toNat * 2)).off + 1, none⟩ = some (.slice A660_1 ((aA l1 x5_1).f1).length c660_1)) cX.tab6 cX.bits6 ⟨(kC HB hw659_0), (kC HB hw659_1), (kC HB hw660_0), (kC HB hw660_1)⟩ fun hHeld HT_ HW_ => ?_
    generalize wr.drew = w11 at HB HR659_0 HR659_1 HR660_0 HR660_1 hx659_0 hx659_1 hx660_0 hx660_1 hHeld ⊢
    refine qa 10 0 1 ?_; refine qa 10 1 3 ?_; refine qa 10 2 7 ?_; refine qa 10 4 23 ?_; refine qa 10 5 55 ?_; refine qa 10 6 119 ?_; refine qc 10 3 127 hHeld ?_; refine qc 10 7 255 hHeld ?_
    refine qo 10 8 511 (some 25) fun K hK => ?_
    refine qg Try.func97 _ (dn (spec_l07SameBox.calls k1 _ _ ((aA l0 x5_1).f0) _ _ ((aA l0 x5_1).f1) _ _ ((aA l1 x5_1).f0) _ _ ((aA l1 x5_1).f1) false _ (cB HR659_0 HC659_0 HB) (cB HR659_1 HC659_1 HB) (cB HR660_0 HC660_0 HB) (cB HR660_1 HC660_1 HB) A7.out) fun w12 hb => ?_)
    replace HB := zX HB hb
    refine hK.out _ _ ⟨(kC HB hw659_0), (kC HB hw659_1), (kC HB hw660_0), (kC HB hw660_1)⟩ (fun hHeld => ?_)
    clear hK K
    refine nZ 25 ?_
    refine qa 10 9 1023 ?_
    refine qd ?_
    try go_wp2
    go_ret
    exact ⟨kE, kR0 HB⟩
   have H' := yD H
   clear H
   try go_wp2
   replace HB := yD (yP HB.out)
   obtain ⟨p659, q659, ad659, A659_0, c659_0, A659_1, c659_1, e659, hx659_0, hx659_1, HC659_0, HR659_0, HC659_1, HR659_1⟩ := sI (at_T33 C0.r x5_1)
   have hw659_1 := hx659_1; have hw659_0 := hx659_0; cases e659
   replace hx659_0 := kD HB hx659_0
   replace hx659_1 := kD HB hx659_1
   obtain ⟨p660, q660, ad660, A660_0, c660_0, A660_1, c660_1, e660, hx660_0, hx660_1, HC660_0, HR660_0, HC660_1, HR660_1⟩ := sI (at_T33 C1.r x5_1)
   have hw660_1 := hx660_1; have hw660_0 := hx660_0; cases e660
   replace hx660_0 := kD HB hx660_0
   replace hx660_1 := kD HB hx660_1
   refine s0 (m := 10) (S := fun w' => w'.cell? (ad659.add ((x5_1).toNat * 2)) = some (.slice A659_0 ((aA l0 x5_1).f0).length c659_0) ∧ w'.cell? ⟨(ad659.add ((x5_1).toNat * 2)).block, (ad659.add ((x5_1).toNat * 2)).off + 1, none⟩ = some (.slice A659_1 ((aA l0 x5_1).f1).length c659_1) ∧ w'.cell? (ad660.add ((x5_1).toNat * 2)) = some (.slice A660_0 ((aA l1 x5_1).f0).length c660_0) ∧ w'.cell? ⟨(ad660.add ((x5_1).toNat * 2)).block, (ad660.add ((x5_1).toNat * 2)).off + 1, none⟩ = some (.slice A660_1 ((aA l1 x5_1).f1).length c660_1)) cX.tab6 cX.bits6 ⟨(kC HB hw659_0), (kC HB hw659_1), (kC HB hw660_0), (kC HB hw660_1)⟩ fun hHeld HT_ HW_ => ?_
   generalize wr.drew = w9 at HB HR659_0 HR659_1 HR660_0 HR660_1 hx659_0 hx659_1 hx660_0 hx660_1 hHeld ⊢
   refine qa 10 0 1 ?_; refine qa 10 1 3 ?_; refine qa 10 2 7 ?_; refine qa 10 4 23 ?_; refine qa 10 5 55 ?_; refine qa 10 6 119 ?_; refine qc 10 3 127 hHeld ?_; refine qc 10 7 255 hHeld ?_
   refine qo 10 8 511 (some 25) fun K hK => ?_
   refine qg Try.func97 _ (dn (spec_l07SameBox.calls k1 _ _ ((aA l0 x5_1).f0) _ _ ((aA l0 x5_1).f1) _ _ ((aA l1 x5_1).f0) _ _ ((aA l1 x5_1).f1) true _ (cB HR659_0 HC659_0 HB) (cB HR659_1 HC659_1 HB) (cB HR660_0 HC660_0 HB) (cB HR660_1 HC660_1 HB) A7.out) fun w10 hb => ?_)
   replace HB := zX HB hb
   refine hK.out _ _ ⟨(kC HB hw659_0), (kC HB hw659_1), (kC HB hw660_0), (kC HB hw660_1)⟩ (fun hHeld => ?_)
   clear hK K
   refine nZ 25 ?_
   refine qa 10 9 1023 ?_
   refine qd ?_
   try go_wp2
   go_roundg k1
   case measure => have := HK1.out; omega
   case rel => exact ⟨(wrap64 (x5_1 + 1)), kF, H', ⟨by have := HK1.out; omega⟩, ⟨kR0 HB⟩⟩
end Go.Proofs.Ytkkdkeogplgkfaa.PFnSelectedBoxes
