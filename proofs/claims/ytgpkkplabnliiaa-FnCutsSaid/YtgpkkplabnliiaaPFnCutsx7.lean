/- Each Go function here comes to what the plain function of its name says, where that says something. Made by a program of this session, over the print. -/
import Derived.Test.YtgpkkplabnliiaaPFnCutsx0
import Derived.Test.YtgpkkplabnliiaaPFnCutsx5
import Derived.Test.YtgpkkplabnliiaaPFnCutsx6
namespace Go.Proofs.Ytgpkkplabnliiaa.PFnCuts
open Go.RowKit Go.Proofs.YtgpkkplabnliiaaW.PrintWords Go.Proofs.YtgpkkplabnliiaaW.PrintLast Go.Proofs.YtgpkkplabnliiaaW.PrintMore
attribute [local go_sem] max2_int min2_int max_two min_two max_three min_three max_four min_four   -- for this text's walks alone
set_option linter.unusedVariables false
set_option linter.unusedSimpArgs false

/-! ### impl_CutPower: function 17 -/
def impl_CutPower.f (k : Nat) (l0_0 : List ByteArray) (l0_1 : List (S57)) (a0_2 : Int) (a0_3 : Bool) (l1 : List Bool) (a2 : Int) (a3 : Int) : Option (List ByteArray × (List (S57)) × Int × Bool × Int) := (impl_ValidDisk.f k l0_0 l0_1 a0_2 a0_3).bind fun t361 => (if t361 = true then ((impl_Disk_cutOk.f l0_0 l0_1 a0_2 a0_3 l1 a2 a3).bind fun t362 => (if t362 = true then ((impl_Disk_afterCut.f k l0_0 l0_1 a0_2 a0_3 l1 a2 a3).bind fun bt363 => (some (bt363.1, bt363.2.1, bt363.2.2.1, bt363.2.2.2, 0))) else (some (([] : List ByteArray), ([] : List (S57)), 0, false, 2)))) else (some (([] : List ByteArray), ([] : List (S57)), 0, false, 1)))
theorem impl_CutPower.mono : ∀ a0 a1 a2 a3 a4 a5 a6 k, LeO (impl_CutPower.f k a0 a1 a2 a3 a4 a5 a6) (impl_CutPower.f (k + 1) a0 a1 a2 a3 a4 a5 a6) := by
  intro a0 a1 a2 a3 a4 a5 a6 k
  unfold impl_CutPower.f
  repeat' first
      | (with_reducible exact impl_Disk_afterCut.mono _ _ _ _ _ _ _ _)
      | (with_reducible exact impl_ValidDisk.mono _ _ _ _ _)
      | (with_reducible exact LeO.refl _)
      | (with_reducible exact LeO.none _)
      | (with_reducible refine LeO.ite ?_ ?_)
      | (with_reducible refine LeO.bind ?_ (fun _ => ?_))
      | exact impl_Disk_afterCut.mono _ _ _ _ _ _ _ _
      | exact impl_ValidDisk.mono _ _ _ _ _
      | exact LeO.none _
      | refine LeO.ite ?_ ?_
      | refine LeO.bind ?_ (fun _ => ?_)
set_option maxHeartbeats 8000000 in
set_option maxRecDepth 100000 in
theorem impl_CutPower.calls (k : Nat) (A0_0 : Option Addr) (c0_0 : Nat) (l0_0 : List ByteArray) (A0_1 : Option Addr) (c0_1 : Nat) (l0_1 : List (S57)) (a0_2 : Int) (a0_3 : Bool) (A1 : Option Addr) (c1 : Nat) (l1 : List Bool) (a2 : Int) (a3 : Int) (r1 : List ByteArray) (r2 : List (S57)) (r3 : Int) (r4 : Bool) (r5 : Int) (w : World) (hr0_0 : Kd.C Kd.string w A0_0 l0_0.length l0_0) (hc0_0 : l0_0.length ≤ c0_0) (hr0_1 : Kd.C k57 w A0_1 l0_1.length l0_1) (hc0_1 : l0_1.length ≤ c0_1) (hr1 : Kd.C Kd.bool w A1 l1.length l1) (hc1 : l1.length ≤ c1) (h : impl_CutPower.f k l0_0 l0_1 a0_2 a0_3 l1 a2 a3 = some (r1, r2, r3, r4, r5)) :
    Calls Try.prog 17 #[.agg #[.slice A0_0 l0_0.length c0_0, .slice A0_1 l0_1.length c0_1, .int .i64 a0_2, .bool a0_3], .slice A1 l1.length c1, .int .i64 a2, .int .i64 a3] w fun e w' => ∃ v0_ v1_ : Value, e = .returned (.tuple #[.agg #[v0_, v1_, .int .i64 r3, .bool r4], .int .i64 r5]) ∧ Kd.R Kd.string 9 w' w.heap.size (fun _ => True) v0_ r1 ∧ Kd.R k57 57 w' w.heap.size (fun _ => True) v1_ r2 ∧ Below w.heap.size w w' := by
  have hu44 := Try.underlying44
  have HR0_0 := yD hr0_0
  have HC0_0 := yD hc0_0
  clear hr0_0 hc0_0
  have HR0_1 := yD hr0_1
  have HC0_1 := yD hc0_1
  clear hr0_1 hc0_1
  have HR1 := yD hr1
  have HC1 := yD hc1
  clear hr1 hc1
  have HB := yD (Below.refl w.heap.size w)
  have H : ((impl_ValidDisk.f k l0_0 l0_1 a0_2 a0_3).bind fun t361 => (if t361 = true then ((impl_Disk_cutOk.f l0_0 l0_1 a0_2 a0_3 l1 a2 a3).bind fun t362 => (if t362 = true then ((impl_Disk_afterCut.f k l0_0 l0_1 a0_2 a0_3 l1 a2 a3).bind fun bt363 => (some (bt363.1, bt363.2.1, bt363.2.2.1, bt363.2.2.2, 0))) else (some (([] : List ByteArray), ([] : List (S57)), 0, false, 2)))) else (some (([] : List ByteArray), ([] : List (S57)), 0, false, 1)))) = some (r1, r2, r3, r4, r5) := h
  clear h
  obtain ⟨t361, A50, H⟩ := zW_ H
  replace H : (if t361 = true then ((impl_Disk_cutOk.f l0_0 l0_1 a0_2 a0_3 l1 a2 a3).bind fun t362 => (if t362 = true then ((impl_Disk_afterCut.f k l0_0 l0_1 a0_2 a0_3 l1 a2 a3).bind fun bt363 => (some (bt363.1, bt363.2.1, bt363.2.2.1, bt363.2.2.2, 0))) else (some (([] : List ByteArray), ([] : List (S57)), 0, false, 2)))) else (some (([] : List ByteArray), ([] : List (S57)), 0, false, 1))) = some (r1, r2, r3, r4, r5) := H
  have A5 := yD A50
  clear A50
  by_cases c6 : t361 = true
  · subst c6
    have H1 : ((impl_Disk_cutOk.f l0_0 l0_1 a0_2 a0_3 l1 a2 a3).bind fun t362 => (if t362 = true then ((impl_Disk_afterCut.f k l0_0 l0_1 a0_2 a0_3 l1 a2 a3).bind fun bt363 => (some (bt363.1, bt363.2.1, bt363.2.2.1, bt363.2.2.2, 0))) else (some (([] : List ByteArray), ([] : List (S57)), 0, false, 2)))) = some (r1, r2, r3, r4, r5) := by rw [if_pos rfl] at H; exact H
    clear H; have H := H1; clear H1
    obtain ⟨t362, A70, H⟩ := zW_ H
    replace H : (if t362 = true then ((impl_Disk_afterCut.f k l0_0 l0_1 a0_2 a0_3 l1 a2 a3).bind fun bt363 => (some (bt363.1, bt363.2.1, bt363.2.2.1, bt363.2.2.2, 0))) else (some (([] : List ByteArray), ([] : List (S57)), 0, false, 2))) = some (r1, r2, r3, r4, r5) := H
    have A7 := yD A70
    clear A70
    by_cases c8 : t362 = true
    · subst c8
      have H1 : ((impl_Disk_afterCut.f k l0_0 l0_1 a0_2 a0_3 l1 a2 a3).bind fun bt363 => (some (bt363.1, bt363.2.1, bt363.2.2.1, bt363.2.2.2, 0))) = some (r1, r2, r3, r4, r5) := by rw [if_pos rfl] at H; exact H
      clear H; have H := H1; clear H1
      obtain ⟨⟨t363, t366, t369, t370⟩, A90, H⟩ := zW_ H
      replace H : (some (t363, t366, t369, t370, 0)) = some (r1, r2, r3, r4, r5) := H
      have A9 := yD A90
      clear A90
      simp only [Option.some.injEq, Prod.mk.injEq] at H
      obtain ⟨rfl, rfl, rfl, rfl, rfl⟩ := H
      go_enter Try.func17, Try.ntmps17
      go_wp2_with (first | ((with_reducible refine gate_dst (N := 4) rfl ?_); refine box_event ?hg (N := 4) ?hd (cs := #[.slice A0_0 l0_0.length c0_0, .slice A0_1 l0_1.length c0_1, .int .i64 a0_2, .bool a0_3]) (t := 44) ?hr ?_; (case hd => rfl); (case hg => rfl); (case hr => first | (go_simp; done) | (go_simp; rfl)); intro gb359 hg w10 hbox hb; have n0_ := yD (zC (kB HB) hb); have n1_ := yD (hbox); have n2_ := yD ((by rw [hg]; exact (below_size (kB HB)) : w.heap.size ≤ gb359)); have n3_ := yD ((by rw [hg]; exact (below_size (kB HB)) : w.heap.size ≤ gb359)); clear HB; have HB := n0_; have BK359 := n1_; have GW359 := n2_; have GE359 := n3_; clear n0_ n1_ n2_ n3_; clear hb hbox hg) | ((with_reducible refine gate_dst (N := 8) rfl ?_); refine box_event ?hg (N := 8) ?hd (cs := #[.slice none 0 0, .slice none 0 0, .int .i64 0, .bool false]) (t := 44) ?hr ?_; (case hd => rfl); (case hg => rfl); (case hr => first | (go_simp; done) | (go_simp; rfl)); intro gb360 hg w11 hbox hb; have n0_ := yD (zB (g := gb359) (o := .cells #[.slice A0_0 l0_0.length c0_0, .slice A0_1 l0_1.length c0_1, .int .i64 a0_2, .bool a0_3] 44 (0, 0)) (kM BK359) hb); have n1_ := yD (zC (kB HB) hb); have n2_ := yD (hbox); have n3_ := yD ((by rw [hg]; exact (below_size (kB HB)) : w.heap.size ≤ gb360)); have n4_ := yD ((by rw [hg]; exact (below_size (kB HB)) : w.heap.size ≤ gb360)); have n5_ := yD ((by rw [hg]; exact Nat.ne_of_lt (blk_lt (g := gb359) (o := .cells #[.slice A0_0 l0_0.length c0_0, .slice A0_1 l0_1.length c0_1, .int .i64 a0_2, .bool a0_3] 44 (0, 0)) (kM BK359)) : gb359 ≠ gb360)); have n6_ := yD ((by rw [hg]; exact Nat.ne_of_gt (blk_lt (g := gb359) (o := .cells #[.slice A0_0 l0_0.length c0_0, .slice A0_1 l0_1.length c0_1, .int .i64 a0_2, .bool a0_3] 44 (0, 0)) (kM BK359)) : gb360 ≠ gb359)); clear BK359; clear HB; have BK359 := n0_; have HB := n1_; have BK360 := n2_; have GW360 := n3_; have GE360 := n4_; have NB359_360 := n5_; have NB360_359 := n6_; clear n0_ n1_ n2_ n3_ n4_ n5_ n6_; clear hb hbox hg; have hnb12 := NB359_360.out; have hnc12 := NB360_359.out; obtain ⟨hcz13_0, hcz13_1, hcz13_2, hcz13_3⟩ := cz4 BK359.out; obtain ⟨hfz13_0, hfz13_1, hfz13_2, hfz13_3⟩ := fz4 BK359.out) | ((with_reducible refine gate_callee (f := 47) rfl ?_); refine goesL_ (some 12) rfl rfl Try.func47 (by kernel_rfl) rfl #[.agg #[.slice A0_0 l0_0.length c0_0, .slice A0_1 l0_1.length c0_1, .int .i64 a0_2, .bool a0_3]] rfl (by (try simp only [zK, zL, zM]); first | done | rfl | (simp only [zN, zO]; rfl)) ?_; (with_reducible refine (impl_ValidDisk.calls k _ _ l0_0 _ _ l0_1 a0_2 a0_3 true _ ?side1 ?side2 ?side3 ?side4 A5.out).mono ?_); (case side1 => exact kV (yY HR0_0.out HB.out)); (case side2 => exact HC0_0.out); (case side3 => exact kV (yY HR0_1.out HB.out)); (case side4 => exact HC0_1.out); rintro e w14 ⟨rfl, hb⟩; refine ⟨_, rfl, ?_⟩; have n0_ := yD (zB (g := gb359) (o := .cells #[.slice A0_0 l0_0.length c0_0, .slice A0_1 l0_1.length c0_1, .int .i64 a0_2, .bool a0_3] 44 (0, 0)) (kM BK359) hb); have n1_ := yD (zB (g := gb360) (o := .cells #[.slice none 0 0, .slice none 0 0, .int .i64 0, .bool false] 44 (0, 0)) (kM BK360) hb); have n2_ := yD (zC (kB HB) hb); clear BK359; clear BK360; clear HB; have BK359 := n0_; have BK360 := n1_; have HB := n2_; clear n0_ n1_ n2_; (try clear hb); (try clear hb2); (try clear hk); (try clear hi); obtain ⟨hcz15_0, hcz15_1, hcz15_2, hcz15_3⟩ := cz4 BK359.out; obtain ⟨hfz15_0, hfz15_1, hfz15_2, hfz15_3⟩ := fz4 BK359.out) | ((with_reducible refine gate_callee (f := 48) rfl ?_); refine goesL_ (some 20) rfl rfl Try.func48 (by kernel_rfl) rfl #[.agg #[.slice A0_0 l0_0.length c0_0, .slice A0_1 l0_1.length c0_1, .int .i64 a0_2, .bool a0_3], .slice A1 l1.length c1, .int .i64 a2, .int .i64 a3] rfl (by (try simp only [zK, zL, zM]); first | done | rfl | (simp only [zN, zO]; rfl)) ?_; (with_reducible refine (impl_Disk_cutOk.calls _ _ l0_0 _ _ l0_1 a0_2 a0_3 _ _ l1 a2 a3 true _ ?side1 ?side2 ?side3 ?side4 ?side5 ?side6 A7.out).mono ?_); (case side1 => exact kV (yY HR0_0.out HB.out)); (case side2 => exact HC0_0.out); (case side3 => exact kV (yY HR0_1.out HB.out)); (case side4 => exact HC0_1.out); (case side5 => exact kV (yY HR1.out HB.out)); (case side6 => exact HC1.out); rintro e w16 ⟨rfl, hb⟩; refine ⟨_, rfl, ?_⟩; have n0_ := yD (zB (g := gb359) (o := .cells #[.slice A0_0 l0_0.length c0_0, .slice A0_1 l0_1.length c0_1, .int .i64 a0_2, .bool a0_3] 44 (0, 0)) (kM BK359) hb); have n1_ := yD (zB (g := gb360) (o := .cells #[.slice none 0 0, .slice none 0 0, .int .i64 0, .bool false] 44 (0, 0)) (kM BK360) hb); have n2_ := yD (zC (kB HB) hb); clear BK359; clear BK360; clear HB; have BK359 := n0_; have BK360 := n1_; have HB := n2_; clear n0_ n1_ n2_; (try clear hb); (try clear hb2); (try clear hk); (try clear hi); obtain ⟨hcz17_0, hcz17_1, hcz17_2, hcz17_3⟩ := cz4 BK359.out; obtain ⟨hfz17_0, hfz17_1, hfz17_2, hfz17_3⟩ := fz4 BK359.out) | ((with_reducible refine gate_callee (f := 49) rfl ?_); refine goesL_ (some 27) rfl rfl Try.func49 (by kernel_rfl) rfl #[.agg #[.slice A0_0 l0_0.length c0_0, .slice A0_1 l0_1.length c0_1, .int .i64 a0_2, .bool a0_3], .slice A1 l1.length c1, .int .i64 a2, .int .i64 a3] rfl (by (try simp only [zK, zL, zM]); first | done | rfl | (simp only [zN, zO]; rfl)) ?_; (with_reducible refine (impl_Disk_afterCut.calls k _ _ l0_0 _ _ l0_1 a0_2 a0_3 _ _ l1 a2 a3 t363 t366 t369 t370 _ ?side1 ?side2 ?side3 ?side4 ?side5 ?side6 A9.out).mono ?_); (case side1 => exact kV (yY HR0_0.out HB.out)); (case side2 => exact HC0_0.out); (case side3 => exact kV (yY HR0_1.out HB.out)); (case side4 => exact HC0_1.out); (case side5 => exact kV (yY HR1.out HB.out)); (case side6 => exact HC1.out); rintro e w18 ⟨v364, v367, rfl, ho0, ho1, hb⟩; refine ⟨_, rfl, ?_⟩; have n0_ := yD (yZ ho0 (below_size (kB HB))); have n1_ := yD (yZ ho1 (below_size (kB HB))); have n2_ := yD (zB (g := gb359) (o := .cells #[.slice A0_0 l0_0.length c0_0, .slice A0_1 l0_1.length c0_1, .int .i64 a0_2, .bool a0_3] 44 (0, 0)) (kM BK359) hb); have n3_ := yD (zB (g := gb360) (o := .cells #[.slice none 0 0, .slice none 0 0, .int .i64 0, .bool false] 44 (0, 0)) (kM BK360) hb); have n4_ := yD (zC (kB HB) hb); clear BK359; clear BK360; clear HB; have HO365 := n0_; have HO368 := n1_; have BK359 := n2_; have BK360 := n3_; have HB := n4_; clear n0_ n1_ n2_ n3_ n4_; (try clear hb); (try clear hb2); (try clear hk); (try clear hi); (try clear ho0); (try clear ho1); obtain ⟨Ao19, co19, eo19⟩ := Kd.R_slice HO365.out; subst eo19; obtain ⟨hcz20_0, hcz20_1, hcz20_2, hcz20_3⟩ := cz4 BK360.out; obtain ⟨hfz20_0, hfz20_1, hfz20_2, hfz20_3⟩ := fz4 BK360.out; obtain ⟨Ao21, co21, eo21⟩ := Kd.R_slice HO368.out; subst eo21))
      refine bodyPost_ret (results_ct rfl _ _ gb360 44 #[.slice Ao19 t363.length co19, .slice Ao21 t366.length co21, .int .i64 t369, .bool t370] (0, 0) _ rfl (by (with_reducible repeat (first | refine yM ?_ _ | refine yO ?_ | refine yN ?_ _)); refine blk_put (cs := #[.slice Ao19 t363.length co19, .slice Ao21 t366.length co21, .int .i64 t369, .bool false]) ?_ 3 _ rfl; (with_reducible repeat (first | refine yM ?_ _ | refine yO ?_ | refine yN ?_ _)); refine blk_put (cs := #[.slice Ao19 t363.length co19, .slice Ao21 t366.length co21, .int .i64 0, .bool false]) ?_ 2 _ rfl; (with_reducible repeat (first | refine yM ?_ _ | refine yO ?_ | refine yN ?_ _)); refine blk_put (cs := #[.slice Ao19 t363.length co19, .slice none 0 0, .int .i64 0, .bool false]) ?_ 1 _ rfl; (with_reducible repeat (first | refine yM ?_ _ | refine yO ?_ | refine yN ?_ _)); refine blk_put (cs := #[.slice none 0 0, .slice none 0 0, .int .i64 0, .bool false]) ?_ 0 _ rfl; (with_reducible repeat (first | refine yM ?_ _ | refine yO ?_ | refine yN ?_ _)); exact BK360.out) Try.underlying44 rfl (by kernel_rfl)) rfl ?_
      exact ⟨_, _, by first | rfl | (simp <;> rfl) | (simp [*] <;> rfl), by (with_reducible repeat (first | apply yA | apply yB | apply yC)); exact zF (yF (p := ⟨gb360, 3, none⟩) (yF (p := ⟨gb360, 2, none⟩) (yF (p := ⟨gb360, 1, none⟩) (yF (p := ⟨gb360, 0, none⟩) (Kd.R_types HO365.out BK360.out (by decide)) (fun _ hk => hk.2) (.slice Ao19 t363.length co19)) (fun _ hk => hk.2) (.slice Ao21 t366.length co21)) (fun _ hk => hk.2) (.int .i64 t369)) (fun _ hk => hk.2) (.bool t370)) (fun _ hk => trivial), by (with_reducible repeat (first | apply yA | apply yB | apply yC)); exact zF (yF (p := ⟨gb360, 3, none⟩) (yF (p := ⟨gb360, 2, none⟩) (yF (p := ⟨gb360, 1, none⟩) (yF (p := ⟨gb360, 0, none⟩) (Kd.R_types HO368.out BK360.out (by decide)) (fun _ hk => hk.2) (.slice Ao19 t363.length co19)) (fun _ hk => hk.2) (.slice Ao21 t366.length co21)) (fun _ hk => hk.2) (.int .i64 t369)) (fun _ hk => hk.2) (.bool t370)) (fun _ hk => trivial), kR1 HB⟩
    · replace c8 := Bool.eq_false_iff.mpr c8
      subst c8
      have H1 : (some (([] : List ByteArray), ([] : List (S57)), 0, false, 2)) = some (r1, r2, r3, r4, r5) := by rw [if_neg (show ¬ (false = true) by decide)] at H; exact H
      clear H; have H := H1; clear H1
      simp only [Option.some.injEq, Prod.mk.injEq] at H
      obtain ⟨rfl, rfl, rfl, rfl, rfl⟩ := H
      go_enter Try.func17, Try.ntmps17
      go_wp2_with (first | ((with_reducible refine gate_dst (N := 4) rfl ?_); refine box_event ?hg (N := 4) ?hd (cs := #[.slice A0_0 l0_0.length c0_0, .slice A0_1 l0_1.length c0_1, .int .i64 a0_2, .bool a0_3]) (t := 44) ?hr ?_; (case hd => rfl); (case hg => rfl); (case hr => first | (go_simp; done) | (go_simp; rfl)); intro gb359 hg w22 hbox hb; have n0_ := yD (zC (kB HB) hb); have n1_ := yD (hbox); have n2_ := yD ((by rw [hg]; exact (below_size (kB HB)) : w.heap.size ≤ gb359)); have n3_ := yD ((by rw [hg]; exact (below_size (kB HB)) : w.heap.size ≤ gb359)); clear HB; have HB := n0_; have BK359 := n1_; have GW359 := n2_; have GE359 := n3_; clear n0_ n1_ n2_ n3_; clear hb hbox hg) | ((with_reducible refine gate_dst (N := 8) rfl ?_); refine box_event ?hg (N := 8) ?hd (cs := #[.slice none 0 0, .slice none 0 0, .int .i64 0, .bool false]) (t := 44) ?hr ?_; (case hd => rfl); (case hg => rfl); (case hr => first | (go_simp; done) | (go_simp; rfl)); intro gb360 hg w23 hbox hb; have n0_ := yD (zB (g := gb359) (o := .cells #[.slice A0_0 l0_0.length c0_0, .slice A0_1 l0_1.length c0_1, .int .i64 a0_2, .bool a0_3] 44 (0, 0)) (kM BK359) hb); have n1_ := yD (zC (kB HB) hb); have n2_ := yD (hbox); have n3_ := yD ((by rw [hg]; exact (below_size (kB HB)) : w.heap.size ≤ gb360)); have n4_ := yD ((by rw [hg]; exact (below_size (kB HB)) : w.heap.size ≤ gb360)); have n5_ := yD ((by rw [hg]; exact Nat.ne_of_lt (blk_lt (g := gb359) (o := .cells #[.slice A0_0 l0_0.length c0_0, .slice A0_1 l0_1.length c0_1, .int .i64 a0_2, .bool a0_3] 44 (0, 0)) (kM BK359)) : gb359 ≠ gb360)); have n6_ := yD ((by rw [hg]; exact Nat.ne_of_gt (blk_lt (g := gb359) (o := .cells #[.slice A0_0 l0_0.length c0_0, .slice A0_1 l0_1.length c0_1, .int .i64 a0_2, .bool a0_3] 44 (0, 0)) (kM BK359)) : gb360 ≠ gb359)); clear BK359; clear HB; have BK359 := n0_; have HB := n1_; have BK360 := n2_; have GW360 := n3_; have GE360 := n4_; have NB359_360 := n5_; have NB360_359 := n6_; clear n0_ n1_ n2_ n3_ n4_ n5_ n6_; clear hb hbox hg; have hnb24 := NB359_360.out; have hnc24 := NB360_359.out; obtain ⟨hcz25_0, hcz25_1, hcz25_2, hcz25_3⟩ := cz4 BK359.out; obtain ⟨hfz25_0, hfz25_1, hfz25_2, hfz25_3⟩ := fz4 BK359.out) | ((with_reducible refine gate_callee (f := 47) rfl ?_); refine goesL_ (some 12) rfl rfl Try.func47 (by kernel_rfl) rfl #[.agg #[.slice A0_0 l0_0.length c0_0, .slice A0_1 l0_1.length c0_1, .int .i64 a0_2, .bool a0_3]] rfl (by (try simp only [zK, zL, zM]); first | done | rfl | (simp only [zN, zO]; rfl)) ?_; (with_reducible refine (impl_ValidDisk.calls k _ _ l0_0 _ _ l0_1 a0_2 a0_3 true _ ?side1 ?side2 ?side3 ?side4 A5.out).mono ?_); (case side1 => exact kV (yY HR0_0.out HB.out)); (case side2 => exact HC0_0.out); (case side3 => exact kV (yY HR0_1.out HB.out)); (case side4 => exact HC0_1.out); rintro e w26 ⟨rfl, hb⟩; refine ⟨_, rfl, ?_⟩; have n0_ := yD (zB (g := gb359) (o := .cells #[.slice A0_0 l0_0.length c0_0, .slice A0_1 l0_1.length c0_1, .int .i64 a0_2, .bool a0_3] 44 (0, 0)) (kM BK359) hb); have n1_ := yD (zB (g := gb360) (o := .cells #[.slice none 0 0, .slice none 0 0, .int .i64 0, .bool false] 44 (0, 0)) (kM BK360) hb); have n2_ := yD (zC (kB HB) hb); clear BK359; clear BK360; clear HB; have BK359 := n0_; have BK360 := n1_; have HB := n2_; clear n0_ n1_ n2_; (try clear hb); (try clear hb2); (try clear hk); (try clear hi); obtain ⟨hcz27_0, hcz27_1, hcz27_2, hcz27_3⟩ := cz4 BK359.out; obtain ⟨hfz27_0, hfz27_1, hfz27_2, hfz27_3⟩ := fz4 BK359.out) | ((with_reducible refine gate_callee (f := 48) rfl ?_); refine goesL_ (some 20) rfl rfl Try.func48 (by kernel_rfl) rfl #[.agg #[.slice A0_0 l0_0.length c0_0, .slice A0_1 l0_1.length c0_1, .int .i64 a0_2, .bool a0_3], .slice A1 l1.length c1, .int .i64 a2, .int .i64 a3] rfl (by (try simp only [zK, zL, zM]); first | done | rfl | (simp only [zN, zO]; rfl)) ?_; (with_reducible refine (impl_Disk_cutOk.calls _ _ l0_0 _ _ l0_1 a0_2 a0_3 _ _ l1 a2 a3 false _ ?side1 ?side2 ?side3 ?side4 ?side5 ?side6 A7.out).mono ?_); (case side1 => exact kV (yY HR0_0.out HB.out)); (case side2 => exact HC0_0.out); (case side3 => exact kV (yY HR0_1.out HB.out)); (case side4 => exact HC0_1.out); (case side5 => exact kV (yY HR1.out HB.out)); (case side6 => exact HC1.out); rintro e w28 ⟨rfl, hb⟩; refine ⟨_, rfl, ?_⟩; have n0_ := yD (zB (g := gb359) (o := .cells #[.slice A0_0 l0_0.length c0_0, .slice A0_1 l0_1.length c0_1, .int .i64 a0_2, .bool a0_3] 44 (0, 0)) (kM BK359) hb); have n1_ := yD (zB (g := gb360) (o := .cells #[.slice none 0 0, .slice none 0 0, .int .i64 0, .bool false] 44 (0, 0)) (kM BK360) hb); have n2_ := yD (zC (kB HB) hb); clear BK359; clear BK360; clear HB; have BK359 := n0_; have BK360 := n1_; have HB := n2_; clear n0_ n1_ n2_; (try clear hb); (try clear hb2); (try clear hk); (try clear hi); obtain ⟨hcz29_0, hcz29_1, hcz29_2, hcz29_3⟩ := cz4 BK360.out; obtain ⟨hfz29_0, hfz29_1, hfz29_2, hfz29_3⟩ := fz4 BK360.out))
      refine bodyPost_ret (results_ct rfl _ _ gb360 44 #[.slice none 0 0, .slice none 0 0, .int .i64 0, .bool false] (0, 0) _ rfl (by (with_reducible repeat (first | refine yM ?_ _ | refine yO ?_ | refine yN ?_ _)); refine blk_put (cs := #[.slice none 0 0, .slice none 0 0, .int .i64 0, .bool false]) ?_ 3 _ rfl; (with_reducible repeat (first | refine yM ?_ _ | refine yO ?_ | refine yN ?_ _)); refine blk_put (cs := #[.slice none 0 0, .slice none 0 0, .int .i64 0, .bool false]) ?_ 2 _ rfl; (with_reducible repeat (first | refine yM ?_ _ | refine yO ?_ | refine yN ?_ _)); refine blk_put (cs := #[.slice none 0 0, .slice none 0 0, .int .i64 0, .bool false]) ?_ 1 _ rfl; (with_reducible repeat (first | refine yM ?_ _ | refine yO ?_ | refine yN ?_ _)); refine blk_put (cs := #[.slice none 0 0, .slice none 0 0, .int .i64 0, .bool false]) ?_ 0 _ rfl; (with_reducible repeat (first | refine yM ?_ _ | refine yO ?_ | refine yN ?_ _)); exact BK360.out) Try.underlying44 rfl (by kernel_rfl)) rfl ?_
      exact ⟨_, _, by first | rfl | (simp <;> rfl) | (simp [*] <;> rfl), by first | exact Kd.R_nil _ _ _ _ _ | exact Kd.N_nil _ _ _ _ _ | exact Kd.V_nil _ _ _ _ _ | exact Kd.Q_nil _ _ _ _ _ | exact Kd.S_nil _ _ _ _ _, by first | exact Kd.R_nil _ _ _ _ _ | exact Kd.N_nil _ _ _ _ _ | exact Kd.V_nil _ _ _ _ _ | exact Kd.Q_nil _ _ _ _ _ | exact Kd.S_nil _ _ _ _ _, kR1 HB⟩
  · replace c6 := Bool.eq_false_iff.mpr c6
    subst c6
    have H1 : (some (([] : List ByteArray), ([] : List (S57)), 0, false, 1)) = some (r1, r2, r3, r4, r5) := by rw [if_neg (show ¬ (false = true) by decide)] at H; exact H
    clear H; have H := H1; clear H1
    simp only [Option.some.injEq, Prod.mk.injEq] at H
    obtain ⟨rfl, rfl, rfl, rfl, rfl⟩ := H
    go_enter Try.func17, Try.ntmps17
    go_wp2_with (first | ((with_reducible refine gate_dst (N := 4) rfl ?_); refine box_event ?hg (N := 4) ?hd (cs := #[.slice A0_0 l0_0.length c0_0, .slice A0_1 l0_1.length c0_1, .int .i64 a0_2, .bool a0_3]) (t := 44) ?hr ?_; (case hd => rfl); (case hg => rfl); (case hr => first | (go_simp; done) | (go_simp; rfl)); intro gb359 hg w30 hbox hb; have n0_ := yD (zC (kB HB) hb); have n1_ := yD (hbox); have n2_ := yD ((by rw [hg]; exact (below_size (kB HB)) : w.heap.size ≤ gb359)); have n3_ := yD ((by rw [hg]; exact (below_size (kB HB)) : w.heap.size ≤ gb359)); clear HB; have HB := n0_; have BK359 := n1_; have GW359 := n2_; have GE359 := n3_; clear n0_ n1_ n2_ n3_; clear hb hbox hg) | ((with_reducible refine gate_dst (N := 8) rfl ?_); refine box_event ?hg (N := 8) ?hd (cs := #[.slice none 0 0, .slice none 0 0, .int .i64 0, .bool false]) (t := 44) ?hr ?_; (case hd => rfl); (case hg => rfl); (case hr => first | (go_simp; done) | (go_simp; rfl)); intro gb360 hg w31 hbox hb; have n0_ := yD (zB (g := gb359) (o := .cells #[.slice A0_0 l0_0.length c0_0, .slice A0_1 l0_1.length c0_1, .int .i64 a0_2, .bool a0_3] 44 (0, 0)) (kM BK359) hb); have n1_ := yD (zC (kB HB) hb); have n2_ := yD (hbox); have n3_ := yD ((by rw [hg]; exact (below_size (kB HB)) : w.heap.size ≤ gb360)); have n4_ := yD ((by rw [hg]; exact (below_size (kB HB)) : w.heap.size ≤ gb360)); have n5_ := yD ((by rw [hg]; exact Nat.ne_of_lt (blk_lt (g := gb359) (o := .cells #[.slice A0_0 l0_0.length c0_0, .slice A0_1 l0_1.length c0_1, .int .i64 a0_2, .bool a0_3] 44 (0, 0)) (kM BK359)) : gb359 ≠ gb360)); have n6_ := yD ((by rw [hg]; exact Nat.ne_of_gt (blk_lt (g := gb359) (o := .cells #[.slice A0_0 l0_0.length c0_0, .slice A0_1 l0_1.length c0_1, .int .i64 a0_2, .bool a0_3] 44 (0, 0)) (kM BK359)) : gb360 ≠ gb359)); clear BK359; clear HB; have BK359 := n0_; have HB := n1_; have BK360 := n2_; have GW360 := n3_; have GE360 := n4_; have NB359_360 := n5_; have NB360_359 := n6_; clear n0_ n1_ n2_ n3_ n4_ n5_ n6_; clear hb hbox hg; have hnb32 := NB359_360.out; have hnc32 := NB360_359.out; obtain ⟨hcz33_0, hcz33_1, hcz33_2, hcz33_3⟩ := cz4 BK359.out; obtain ⟨hfz33_0, hfz33_1, hfz33_2, hfz33_3⟩ := fz4 BK359.out) | ((with_reducible refine gate_callee (f := 47) rfl ?_); refine goesL_ (some 12) rfl rfl Try.func47 (by kernel_rfl) rfl #[.agg #[.slice A0_0 l0_0.length c0_0, .slice A0_1 l0_1.length c0_1, .int .i64 a0_2, .bool a0_3]] rfl (by (try simp only [zK, zL, zM]); first | done | rfl | (simp only [zN, zO]; rfl)) ?_; (with_reducible refine (impl_ValidDisk.calls k _ _ l0_0 _ _ l0_1 a0_2 a0_3 false _ ?side1 ?side2 ?side3 ?side4 A5.out).mono ?_); (case side1 => exact kV (yY HR0_0.out HB.out)); (case side2 => exact HC0_0.out); (case side3 => exact kV (yY HR0_1.out HB.out)); (case side4 => exact HC0_1.out); rintro e w34 ⟨rfl, hb⟩; refine ⟨_, rfl, ?_⟩; have n0_ := yD (zB (g := gb359) (o := .cells #[.slice A0_0 l0_0.length c0_0, .slice A0_1 l0_1.length c0_1, .int .i64 a0_2, .bool a0_3] 44 (0, 0)) (kM BK359) hb); have n1_ := yD (zB (g := gb360) (o := .cells #[.slice none 0 0, .slice none 0 0, .int .i64 0, .bool false] 44 (0, 0)) (kM BK360) hb); have n2_ := yD (zC (kB HB) hb); clear BK359; clear BK360; clear HB; have BK359 := n0_; have BK360 := n1_; have HB := n2_; clear n0_ n1_ n2_; (try clear hb); (try clear hb2); (try clear hk); (try clear hi); obtain ⟨hcz35_0, hcz35_1, hcz35_2, hcz35_3⟩ := cz4 BK360.out; obtain ⟨hfz35_0, hfz35_1, hfz35_2, hfz35_3⟩ := fz4 BK360.out))
    refine bodyPost_ret (results_ct rfl _ _ gb360 44 #[.slice none 0 0, .slice none 0 0, .int .i64 0, .bool false] (0, 0) _ rfl (by (with_reducible repeat (first | refine yM ?_ _ | refine yO ?_ | refine yN ?_ _)); refine blk_put (cs := #[.slice none 0 0, .slice none 0 0, .int .i64 0, .bool false]) ?_ 3 _ rfl; (with_reducible repeat (first | refine yM ?_ _ | refine yO ?_ | refine yN ?_ _)); refine blk_put (cs := #[.slice none 0 0, .slice none 0 0, .int .i64 0, .bool false]) ?_ 2 _ rfl; (with_reducible repeat (first | refine yM ?_ _ | refine yO ?_ | refine yN ?_ _)); refine blk_put (cs := #[.slice none 0 0, .slice none 0 0, .int .i64 0, .bool false]) ?_ 1 _ rfl; (with_reducible repeat (first | refine yM ?_ _ | refine yO ?_ | refine yN ?_ _)); refine blk_put (cs := #[.slice none 0 0, .slice none 0 0, .int .i64 0, .bool false]) ?_ 0 _ rfl; (with_reducible repeat (first | refine yM ?_ _ | refine yO ?_ | refine yN ?_ _)); exact BK360.out) Try.underlying44 rfl (by kernel_rfl)) rfl ?_
    exact ⟨_, _, by first | rfl | (simp <;> rfl) | (simp [*] <;> rfl), by first | exact Kd.R_nil _ _ _ _ _ | exact Kd.N_nil _ _ _ _ _ | exact Kd.V_nil _ _ _ _ _ | exact Kd.Q_nil _ _ _ _ _ | exact Kd.S_nil _ _ _ _ _, by first | exact Kd.R_nil _ _ _ _ _ | exact Kd.N_nil _ _ _ _ _ | exact Kd.V_nil _ _ _ _ _ | exact Kd.Q_nil _ _ _ _ _ | exact Kd.S_nil _ _ _ _ _, kR1 HB⟩

/-! ### spec_l00In: function 30 -/
def spec_l00In.f (a0 : Int) (a1 : Int) (a2 : Int) : Option (Bool) := if a0 ≥ a1 then (some (decide (a0 ≤ a2))) else (some false)
set_option maxHeartbeats 8000000 in
set_option maxRecDepth 100000 in
theorem spec_l00In.calls (a0 : Int) (a1 : Int) (a2 : Int) (r : Bool) (w : World) (h : spec_l00In.f a0 a1 a2 = some r) :
    Calls Try.prog 30 #[.int .i64 a0, .int .i64 a1, .int .i64 a2] w fun e w' => e = .returned (.bool r) ∧ Drawn0 w w' := by
  have H : (if a0 ≥ a1 then (some (decide (a0 ≤ a2))) else (some false)) = some r := h
  clear h
  by_cases c4 : a0 ≥ a1
  · rw [if_pos c4] at H
    have c4b0 : decide (a1 ≤ a0) = true := zR c4; clear c4; obtain rfl := Option.some.inj H; go_enter Try.func30, Try.ntmps30
    go_wp2
    go_ret
    exact ⟨by first | rfl | (simp; done) | (simp [*]; done), by repeat (first | exact Drawn0.refl _ | apply Drawn0.step)⟩
  · rw [if_neg c4] at H
    have c4b0 : decide (a1 ≤ a0) = false := zS c4; clear c4; obtain rfl := Option.some.inj H; go_enter Try.func30, Try.ntmps30
    go_wp2
    go_ret
    exact ⟨by first | rfl | (simp; done) | (simp [*]; done), by repeat (first | exact Drawn0.refl _ | apply Drawn0.step)⟩

/-! ### spec_l09Ok_c44: function 43 -/
mutual
def spec_l09Ok_c44.j0 : Nat → Int → Bool → List ByteArray → List (S57) → Int → Bool → Option (Bool)
  | 0, _, _, _, _, _, _ => none
  | k + 1, x3, x29, x41000, x41001, x41002, x41003 => if x29 = true then (some false) else (spec_l09Ok_c44.l0 k x3 0 x41000 x41001 x41002 x41003)
def spec_l09Ok_c44.l0 : Nat → Int → Int → List ByteArray → List (S57) → Int → Bool → Option (Bool)
  | 0, _, _, _, _, _, _ => none
  | k + 1, x3, x4, x41000, x41001, x41002, x41003 => if x4 < (x41000.length : Int) then (if 0 ≤ x4 then (if ((rdOf ByteArray.empty x41000 x4).size : Int) = 64 then (spec_l09Ok_c44.l0 k x3 (wrap64 (x4 + 1)) x41000 x41001 x41002 x41003) else (some false)) else (none)) else (spec_l09Ok_c44.l1 k x3 0 x41000 x41001 x41002 x41003)
def spec_l09Ok_c44.l1 : Nat → Int → Int → List ByteArray → List (S57) → Int → Bool → Option (Bool)
  | 0, _, _, _, _, _, _ => none
  | k + 1, x3, x5, x41000, x41001, x41002, x41003 => if x5 < (x41001.length : Int) then (if 0 ≤ x5 then ((spec_l00In.f ((rd_T57 x41001 x5).f0) 0 (wrap64 (x3 - 1))).bind fun t375 => (if t375 = true then (if (((rd_T57 x41001 x5).f1).size : Int) = 64 then (spec_l09Ok_c44.l1 k x3 (wrap64 (x5 + 1)) x41000 x41001 x41002 x41003) else (some false)) else (some false))) else (none)) else (some true)
end
def spec_l09Ok_c44.f (k : Nat) (l0_0 : List ByteArray) (l0_1 : List (S57)) (a0_2 : Int) (a0_3 : Bool) : Option (Bool) := (spec_l00In.f (l0_0.length : Int) 16 256).bind fun t371 => (if t371 = true then (if (l0_1.length : Int) > 600 then (spec_l09Ok_c44.j0 k (l0_0.length : Int) true l0_0 l0_1 a0_2 a0_3) else ((spec_l00In.f a0_2 (-1) 100000).bind fun t372 => (spec_l09Ok_c44.j0 k (l0_0.length : Int) (!t372) l0_0 l0_1 a0_2 a0_3))) else (spec_l09Ok_c44.j0 k (l0_0.length : Int) true l0_0 l0_1 a0_2 a0_3))
theorem spec_l09Ok_c44.mono_l : ∀ k, (∀ y0 y1 y2 y3 y4 y5, LeO (spec_l09Ok_c44.j0 k y0 y1 y2 y3 y4 y5) (spec_l09Ok_c44.j0 (k + 1) y0 y1 y2 y3 y4 y5)) ∧ (∀ y0 y1 y2 y3 y4 y5, LeO (spec_l09Ok_c44.l0 k y0 y1 y2 y3 y4 y5) (spec_l09Ok_c44.l0 (k + 1) y0 y1 y2 y3 y4 y5)) ∧ (∀ y0 y1 y2 y3 y4 y5, LeO (spec_l09Ok_c44.l1 k y0 y1 y2 y3 y4 y5) (spec_l09Ok_c44.l1 (k + 1) y0 y1 y2 y3 y4 y5))
  | 0 => ⟨fun _ _ _ _ _ _ r h => by simp [spec_l09Ok_c44.j0] at h, fun _ _ _ _ _ _ r h => by simp [spec_l09Ok_c44.l0] at h, fun _ _ _ _ _ _ r h => by simp [spec_l09Ok_c44.l1] at h⟩
  | k + 1 => by
    obtain ⟨ih0, ih1, ih2⟩ := spec_l09Ok_c44.mono_l k
    refine ⟨?_, ?_, ?_⟩
    · intro y0 y1 y2 y3 y4 y5
      unfold spec_l09Ok_c44.j0
      repeat' first
      | (with_reducible exact ih0 _ _ _ _ _ _)
      | (with_reducible exact ih1 _ _ _ _ _ _)
      | (with_reducible exact ih2 _ _ _ _ _ _)
      | (with_reducible exact LeO.refl _)
      | (with_reducible exact LeO.none _)
      | (with_reducible refine LeO.ite ?_ ?_)
      | (with_reducible refine LeO.bind ?_ (fun _ => ?_))
      | exact ih0 _ _ _ _ _ _
      | exact ih1 _ _ _ _ _ _
      | exact ih2 _ _ _ _ _ _
      | exact LeO.none _
      | refine LeO.ite ?_ ?_
      | refine LeO.bind ?_ (fun _ => ?_)
    · intro y0 y1 y2 y3 y4 y5
      unfold spec_l09Ok_c44.l0
      repeat' first
      | (with_reducible exact ih0 _ _ _ _ _ _)
      | (with_reducible exact ih1 _ _ _ _ _ _)
      | (with_reducible exact ih2 _ _ _ _ _ _)
      | (with_reducible exact LeO.refl _)
      | (with_reducible exact LeO.none _)
      | (with_reducible refine LeO.ite ?_ ?_)
      | (with_reducible refine LeO.bind ?_ (fun _ => ?_))
      | exact ih0 _ _ _ _ _ _
      | exact ih1 _ _ _ _ _ _
      | exact ih2 _ _ _ _ _ _
      | exact LeO.none _
      | refine LeO.ite ?_ ?_
      | refine LeO.bind ?_ (fun _ => ?_)
    · intro y0 y1 y2 y3 y4 y5
      unfold spec_l09Ok_c44.l1
      repeat' first
      | (with_reducible exact ih0 _ _ _ _ _ _)
      | (with_reducible exact ih1 _ _ _ _ _ _)
      | (with_reducible exact ih2 _ _ _ _ _ _)
      | (with_reducible exact LeO.refl _)
      | (with_reducible exact LeO.none _)
      | (with_reducible refine LeO.ite ?_ ?_)
      | (with_reducible refine LeO.bind ?_ (fun _ => ?_))
      | exact ih0 _ _ _ _ _ _
      | exact ih1 _ _ _ _ _ _
      | exact ih2 _ _ _ _ _ _
      | exact LeO.none _
      | refine LeO.ite ?_ ?_
      | refine LeO.bind ?_ (fun _ => ?_)
theorem spec_l09Ok_c44.mono : ∀ a0 a1 a2 a3 k, LeO (spec_l09Ok_c44.f k a0 a1 a2 a3) (spec_l09Ok_c44.f (k + 1) a0 a1 a2 a3) := by
  intro a0 a1 a2 a3 k
  obtain ⟨ih0, ih1, ih2⟩ := spec_l09Ok_c44.mono_l k
  unfold spec_l09Ok_c44.f
  repeat' first
      | (with_reducible exact ih0 _ _ _ _ _ _)
      | (with_reducible exact ih1 _ _ _ _ _ _)
      | (with_reducible exact ih2 _ _ _ _ _ _)
      | (with_reducible exact LeO.refl _)
      | (with_reducible exact LeO.none _)
      | (with_reducible refine LeO.ite ?_ ?_)
      | (with_reducible refine LeO.bind ?_ (fun _ => ?_))
      | exact ih0 _ _ _ _ _ _
      | exact ih1 _ _ _ _ _ _
      | exact ih2 _ _ _ _ _ _
      | exact LeO.none _
      | refine LeO.ite ?_ ?_
      | refine LeO.bind ?_ (fun _ => ?_)
set_option maxHeartbeats 8000000 in
set_option maxRecDepth 100000 in
theorem spec_l09Ok_c44.calls (k : Nat) (g0_0 : Nat) (A0_0 : Option Addr) (c0_0 : Nat) (l0_0 : List ByteArray) (A0_1 : Option Addr) (c0_1 : Nat) (l0_1 : List (S57)) (a0_2 : Int) (a0_3 : Bool) (r : Bool) (w : World) (hr0_0 : Kd.C Kd.string w A0_0 l0_0.length l0_0) (hc0_0 : l0_0.length ≤ c0_0) (hr0_1 : Kd.C k57 w A0_1 l0_1.length l0_1) (hc0_1 : l0_1.length ≤ c0_1) (hb0_0 : w.heap[g0_0]? = some (.cells #[.slice A0_0 l0_0.length c0_0, .slice A0_1 l0_1.length c0_1, .int .i64 a0_2, .bool a0_3] 44 (0, 0))) (h : spec_l09Ok_c44.f k l0_0 l0_1 a0_2 a0_3 = some r) :
    Calls Try.prog 43 #[.pointer (some ⟨g0_0, 0, none⟩)] w fun e w' => e = .returned (.bool r) ∧ Below w.heap.size w w' := by
  have HR0_0 := yD hr0_0
  have HC0_0 := yD hc0_0
  clear hr0_0 hc0_0
  have HR0_1 := yD hr0_1
  have HC0_1 := yD hc0_1
  clear hr0_1 hc0_1
  have BK40 := yD hb0_0
  clear hb0_0
  have HB := yD (Below.refl w.heap.size w)
  have H : ((spec_l00In.f (l0_0.length : Int) 16 256).bind fun t371 => (if t371 = true then (if (l0_1.length : Int) > 600 then (spec_l09Ok_c44.j0 k (l0_0.length : Int) true l0_0 l0_1 a0_2 a0_3) else ((spec_l00In.f a0_2 (-1) 100000).bind fun t372 => (spec_l09Ok_c44.j0 k (l0_0.length : Int) (!t372) l0_0 l0_1 a0_2 a0_3))) else (spec_l09Ok_c44.j0 k (l0_0.length : Int) true l0_0 l0_1 a0_2 a0_3))) = some r := h
  clear h
  have HC2 := yD H
  clear H
  obtain ⟨hcz3_0, hcz3_1, hcz3_2, hcz3_3⟩ := cz4 BK40.out
  obtain ⟨hfz3_0, hfz3_1, hfz3_2, hfz3_3⟩ := fz4 BK40.out
  go_enter Try.func43, Try.ntmps43
  go_upto_region 2 with (fail)
  go_cut [29] (fun v29 wc => ∃ (kq : Nat) (x29_1 : Bool), v29 = .bool x29_1 ∧ Aside0 (spec_l09Ok_c44.j0 kq (l0_0.length : Int) x29_1 l0_0 l0_1 a0_2 a0_3 = some r) ∧ Aside0 (kq ≤ k) ∧ Aside0 (wc.heap[g0_0]? = some (.cells #[(.slice A0_0 l0_0.length c0_0), (.slice A0_1 l0_1.length c0_1), .int .i64 a0_2, .bool a0_3] 44 (0, 0))) ∧ Aside0 (Below w.heap.size w wc))
  case first =>
    have H := HC2.out; clear HC2
    obtain ⟨t371, A40, H⟩ := zW_ H
    replace H : (if t371 = true then (if (l0_1.length : Int) > 600 then (spec_l09Ok_c44.j0 k (l0_0.length : Int) true l0_0 l0_1 a0_2 a0_3) else ((spec_l00In.f a0_2 (-1) 100000).bind fun t372 => (spec_l09Ok_c44.j0 k (l0_0.length : Int) (!t372) l0_0 l0_1 a0_2 a0_3))) else (spec_l09Ok_c44.j0 k (l0_0.length : Int) true l0_0 l0_1 a0_2 a0_3)) = some r := H
    have A4 := yD A40
    clear A40
    by_cases c5 : t371 = true
    · subst c5
      have H1 : (if (l0_1.length : Int) > 600 then (spec_l09Ok_c44.j0 k (l0_0.length : Int) true l0_0 l0_1 a0_2 a0_3) else ((spec_l00In.f a0_2 (-1) 100000).bind fun t372 => (spec_l09Ok_c44.j0 k (l0_0.length : Int) (!t372) l0_0 l0_1 a0_2 a0_3))) = some r := by rw [if_pos rfl] at H; exact H
      clear H; have H := H1; clear H1
      by_cases c6 : (l0_1.length : Int) > 600
      · rw [if_pos c6] at H
        have c6b0 : decide (600 < (l0_1.length : Int)) = true := zR c6
        have c6b1 : decide (600 < l0_1.length) = true := zR (by omega)
        clear c6
        (first | rw [c6b0] | (simp only [i64_w, i32_w]; rw [c6b0]) | (simp only [bne] at c6b0; rw [c6b0]) | skip)
        have H' := yD H
        clear H
        go_wp2_with (first | ((with_reducible refine gate_callee (f := 30) rfl ?_); refine goesL_ (some 12) rfl rfl Try.func30 (by kernel_rfl) rfl #[.int .i64 (l0_0.length : Int), .int .i64 16, .int .i64 256] rfl (by (try simp only [zK, zL, zM]); first | done | rfl | (simp only [zN, zO]; rfl)) ?_; (with_reducible refine (spec_l00In.calls (l0_0.length : Int) 16 256 true _ A4.out).mono ?_); rintro e w' ⟨rfl, ⟨nd, rfl⟩⟩; refine ⟨_, rfl, ?_⟩; obtain ⟨hcz7_0, hcz7_1, hcz7_2, hcz7_3⟩ := cz4 BK40.out; obtain ⟨hfz7_0, hfz7_1, hfz7_2, hfz7_3⟩ := fz4 BK40.out))
        go_meet
        case rel => exact ⟨_, (true), (by first | rfl | (simp; done) | (simp [*]; done)), H', ⟨by first | omega | exact Nat.le_refl _⟩, ⟨by (with_reducible repeat (first | refine yM ?_ _ | refine yO ?_ | refine yN ?_ _)); exact BK40.out⟩, ⟨kR1 HB⟩⟩
      · rw [if_neg c6] at H
        have c6b0 : decide (600 < (l0_1.length : Int)) = false := zS c6
        have c6b1 : decide (600 < l0_1.length) = false := zS (by omega)
        clear c6
        (first | rw [c6b0] | (simp only [i64_w, i32_w]; rw [c6b0]) | (simp only [bne] at c6b0; rw [c6b0]) | skip)
        obtain ⟨t372, A80, H⟩ := zW_ H
        replace H : (spec_l09Ok_c44.j0 k (l0_0.length : Int) (!t372) l0_0 l0_1 a0_2 a0_3) = some r := H
        have A8 := yD A80
        clear A80
        have H' := yD H
        clear H
        go_wp2_with (first | ((with_reducible refine gate_callee (f := 30) rfl ?_); refine goesL_ (some 12) rfl rfl Try.func30 (by kernel_rfl) rfl #[.int .i64 (l0_0.length : Int), .int .i64 16, .int .i64 256] rfl (by (try simp only [zK, zL, zM]); first | done | rfl | (simp only [zN, zO]; rfl)) ?_; (with_reducible refine (spec_l00In.calls (l0_0.length : Int) 16 256 true _ A4.out).mono ?_); rintro e w' ⟨rfl, ⟨nd, rfl⟩⟩; refine ⟨_, rfl, ?_⟩; obtain ⟨hcz9_0, hcz9_1, hcz9_2, hcz9_3⟩ := cz4 BK40.out; obtain ⟨hfz9_0, hfz9_1, hfz9_2, hfz9_3⟩ := fz4 BK40.out) | (go_at_call 30; (with_reducible refine (spec_l00In.calls a0_2 (-1) 100000 t372 _ A8.out).mono ?_); rintro e w' ⟨rfl, ⟨nd, rfl⟩⟩))
        go_meet
        case rel => exact ⟨_, (!t372), (by first | rfl | (simp; done) | (simp [*]; done)), H', ⟨by first | omega | exact Nat.le_refl _⟩, ⟨by (with_reducible repeat (first | refine yM ?_ _ | refine yO ?_ | refine yN ?_ _)); exact BK40.out⟩, ⟨kR1 HB⟩⟩
    · replace c5 := Bool.eq_false_iff.mpr c5
      subst c5
      have H1 : (spec_l09Ok_c44.j0 k (l0_0.length : Int) true l0_0 l0_1 a0_2 a0_3) = some r := by rw [if_neg (show ¬ (false = true) by decide)] at H; exact H
      clear H; have H := H1; clear H1
      have H' := yD H
      clear H
      go_wp2_with (first | ((with_reducible refine gate_callee (f := 30) rfl ?_); refine goesL_ (some 12) rfl rfl Try.func30 (by kernel_rfl) rfl #[.int .i64 (l0_0.length : Int), .int .i64 16, .int .i64 256] rfl (by (try simp only [zK, zL, zM]); first | done | rfl | (simp only [zN, zO]; rfl)) ?_; (with_reducible refine (spec_l00In.calls (l0_0.length : Int) 16 256 false _ A4.out).mono ?_); rintro e w' ⟨rfl, ⟨nd, rfl⟩⟩; refine ⟨_, rfl, ?_⟩))
      go_meet
      case rel => exact ⟨_, (true), (by first | rfl | (simp; done) | (simp [*]; done)), H', ⟨by first | omega | exact Nat.le_refl _⟩, ⟨by (with_reducible repeat (first | refine yM ?_ _ | refine yO ?_ | refine yN ?_ _)); exact BK40.out⟩, ⟨kR1 HB⟩⟩
  case rest =>
    clear HC2; try clear p2; try clear c3; try clear c4; try clear c5; try clear c6; try clear c6b0; try clear c6b1; try clear c9; try clear hcz3_0; try clear hcz3_1; try clear hcz3_2; try clear hcz3_3; try clear hcz7_0; try clear hcz7_1; try clear hcz7_2; try clear hcz7_3; try clear hcz9_0; try clear hcz9_1; try clear hcz9_2; try clear hcz9_3; try clear hfz3_0; try clear hfz3_1; try clear hfz3_2; try clear hfz3_3; try clear hfz7_0; try clear hfz7_1; try clear hfz7_2; try clear hfz7_3; try clear hfz9_0; try clear hfz9_1; try clear hfz9_2; try clear hfz9_3
    obtain ⟨kq, x29_1, rfl, HA, HJ1, BK40, HB⟩ := hcut
    cases kq with
    | zero => exact absurd HA.out (by simp [spec_l09Ok_c44.j0])
    | succ kj1 =>
      have H := HA.out; clear HA
      simp only [spec_l09Ok_c44.j0] at H
      by_cases c10 : x29_1 = true
      · subst c10
        have H1 : (some false) = some r := by rw [if_pos rfl] at H; exact H
        clear H; have H := H1; clear H1; obtain rfl := Option.some.inj H
        go_wp2
        go_ret
        exact ⟨by first | rfl | (simp <;> rfl) | (simp [*] <;> rfl), kR1 HB⟩
      · replace c10 := Bool.eq_false_iff.mpr c10
        subst c10
        have H1 : (spec_l09Ok_c44.l0 kj1 (l0_0.length : Int) 0 l0_0 l0_1 a0_2 a0_3) = some r := by rw [if_neg (show ¬ (false = true) by decide)] at H; exact H
        clear H; have H := H1; clear H1
        have H' := yD H
        clear H
        go_wp2
        go_loopg [4] kj1 (fun kq v4 w' => ∃ (x4_2 : Int), v4 = .int .i64 x4_2 ∧ Aside0 (spec_l09Ok_c44.l0 kq (l0_0.length : Int) x4_2 l0_0 l0_1 a0_2 a0_3 = some r) ∧ Aside0 (kq ≤ kj1) ∧ Aside0 (w'.heap[g0_0]? = some (.cells #[(.slice A0_0 l0_0.length c0_0), (.slice A0_1 l0_1.length c0_1), .int .i64 a0_2, .bool a0_3] 44 (0, 0))) ∧ Aside0 (Below w.heap.size w w'))
        case atStart => exact ⟨(0), (by first | rfl | (simp; done) | (simp [*]; done)), H', ⟨Nat.le_refl _⟩, ⟨by (with_reducible repeat (first | refine yM ?_ _ | refine yO ?_ | refine yN ?_ _)); exact BK40.out⟩, ⟨kR1 HB⟩⟩
        case round =>
          clear H'
          try clear c1; try clear p2; try clear c3; try clear c4; try clear c5; try clear c6; try clear c6b0; try clear c6b1; try clear c9; try clear c10; try clear hcz3_0; try clear hcz3_1; try clear hcz3_2; try clear hcz3_3; try clear hcz7_0; try clear hcz7_1; try clear hcz7_2; try clear hcz7_3; try clear hcz9_0; try clear hcz9_1; try clear hcz9_2; try clear hcz9_3; try clear hfz3_0; try clear hfz3_1; try clear hfz3_2; try clear hfz3_3; try clear hfz7_0; try clear hfz7_1; try clear hfz7_2; try clear hfz7_3; try clear hfz9_0; try clear hfz9_1; try clear hfz9_2; try clear hfz9_3; try clear p2
          obtain ⟨x4_2, rfl, HA, HK2, BK40, HB⟩ := hrel
          cases gk with
          | zero => exact absurd HA.out (by simp [spec_l09Ok_c44.l0])
          | succ k2 =>
            have H := HA.out; clear HA
            simp only [spec_l09Ok_c44.l0] at H
            by_cases c11 : x4_2 < (l0_0.length : Int)
            · rw [if_pos c11] at H
              have c11b0 : decide (x4_2 < (l0_0.length : Int)) = true := zR c11; clear c11
              by_cases c12 : 0 ≤ x4_2
              · rw [if_pos c12] at H
                have c12b0 : decide (0 ≤ x4_2) = true := zR c12; clear c12
                by_cases c13 : ((rdOf ByteArray.empty l0_0 x4_2).size : Int) = 64
                · rw [if_pos c13] at H
                  have c13b0 : (((rdOf ByteArray.empty l0_0 x4_2).size : Int) == 64) = true := beq_iff_eq.mpr c13
                  have c13b1 : (((rdOf ByteArray.empty l0_0 x4_2).size : Int) != 64) = false := bne_eq_false_iff_eq.mpr c13
                  clear c13
                  have H' := yD H
                  clear H
                  obtain ⟨hcz14_0, hcz14_1, hcz14_2, hcz14_3⟩ := cz4 BK40.out
                  obtain ⟨hfz14_0, hfz14_1, hfz14_2, hfz14_3⟩ := fz4 BK40.out
                  have p373 : 0 ≤ (x4_2 : Int) := zP (by assumption)
                  have q373 : x4_2 < (l0_0.length : Int) := zP (by assumption)
                  obtain ⟨ad373, e373, hx373_0⟩ := Kd.at_string HR0_0.out x4_2 p373 q373
                  cases e373
                  replace hx373_0 := (HB.out.cell (zQ w _ hx373_0)).trans hx373_0
                  replace p373 := eq_true p373; replace q373 := eq_true q373
                  go_wp2
                  go_roundg k2
                  case measure => have := HJ1.out; have := HK2.out; omega
                  case rel => exact ⟨(wrap64 (x4_2 + 1)), (by first | rfl | (simp; done) | (simp [*]; done)), H', ⟨by have := HJ1.out; have := HK2.out; omega⟩, ⟨by (with_reducible repeat (first | refine yM ?_ _ | refine yO ?_ | refine yN ?_ _)); exact BK40.out⟩, ⟨kR1 HB⟩⟩
                · rw [if_neg c13] at H
                  have c13b0 : (((rdOf ByteArray.empty l0_0 x4_2).size : Int) == 64) = false := beq_eq_false_iff_ne.mpr c13
                  have c13b1 : (((rdOf ByteArray.empty l0_0 x4_2).size : Int) != 64) = true := bne_iff_ne.mpr c13
                  obtain rfl := Option.some.inj H
                  obtain ⟨hcz15_0, hcz15_1, hcz15_2, hcz15_3⟩ := cz4 BK40.out
                  obtain ⟨hfz15_0, hfz15_1, hfz15_2, hfz15_3⟩ := fz4 BK40.out
                  have p373 : 0 ≤ (x4_2 : Int) := zP (by assumption)
                  have q373 : x4_2 < (l0_0.length : Int) := zP (by assumption)
                  obtain ⟨ad373, e373, hx373_0⟩ := Kd.at_string HR0_0.out x4_2 p373 q373
                  cases e373
                  replace hx373_0 := (HB.out.cell (zQ w _ hx373_0)).trans hx373_0
                  replace p373 := eq_true p373; replace q373 := eq_true q373
                  go_wp2
                  go_ret
                  exact ⟨by first | rfl | (simp <;> rfl) | (simp [*] <;> rfl), kR1 HB⟩
              · rw [if_neg c12] at H
                exact absurd H (by simp)
            · rw [if_neg c11] at H
              have c11b0 : decide (x4_2 < (l0_0.length : Int)) = false := zS c11; clear c11
              have H' := yD H
              clear H
              obtain ⟨hcz16_0, hcz16_1, hcz16_2, hcz16_3⟩ := cz4 BK40.out
              obtain ⟨hfz16_0, hfz16_1, hfz16_2, hfz16_3⟩ := fz4 BK40.out
              go_wp2
              go_loopg [5] k2 (fun kq v5 w' => ∃ (x5_3 : Int), v5 = .int .i64 x5_3 ∧ Aside0 (spec_l09Ok_c44.l1 kq (l0_0.length : Int) x5_3 l0_0 l0_1 a0_2 a0_3 = some r) ∧ Aside0 (kq ≤ k2) ∧ Aside0 (w'.heap[g0_0]? = some (.cells #[(.slice A0_0 l0_0.length c0_0), (.slice A0_1 l0_1.length c0_1), .int .i64 a0_2, .bool a0_3] 44 (0, 0))) ∧ Aside0 (Below w.heap.size w w'))
              case atStart => exact ⟨(0), (by first | rfl | (simp; done) | (simp [*]; done)), H', ⟨Nat.le_refl _⟩, ⟨by (with_reducible repeat (first | refine yM ?_ _ | refine yO ?_ | refine yN ?_ _)); exact BK40.out⟩, ⟨kR1 HB⟩⟩
              case round =>
                clear H'
                try clear c1; try clear p2; try clear c3; try clear p3; try clear q3; try clear hx3; try clear c4; try clear c5; try clear c6; try clear c6b0; try clear c6b1; try clear p6; try clear c9; try clear c10; try clear c11; try clear c11b0; try clear c12; try clear c12b0; try clear c13; try clear c13b0; try clear c13b1; try clear hcz14_0; try clear hcz14_1; try clear hcz14_2; try clear hcz14_3; try clear hcz15_0; try clear hcz15_1; try clear hcz15_2; try clear hcz15_3; try clear hcz16_0; try clear hcz16_1; try clear hcz16_2; try clear hcz16_3; try clear hcz3_0; try clear hcz3_1; try clear hcz3_2; try clear hcz3_3; try clear hcz7_0; try clear hcz7_1; try clear hcz7_2; try clear hcz7_3; try clear hcz9_0; try clear hcz9_1; try clear hcz9_2; try clear hcz9_3; try clear hfz14_0; try clear hfz14_1; try clear hfz14_2; try clear hfz14_3; try clear hfz15_0; try clear hfz15_1; try clear hfz15_2; try clear hfz15_3; try clear hfz16_0; try clear hfz16_1; try clear hfz16_2; try clear hfz16_3; try clear hfz3_0; try clear hfz3_1; try clear hfz3_2; try clear hfz3_3; try clear hfz7_0; try clear hfz7_1; try clear hfz7_2; try clear hfz7_3; try clear hfz9_0; try clear hfz9_1; try clear hfz9_2; try clear hfz9_3; try clear hx373_0; try clear p2; try clear p373; try clear q373
                obtain ⟨x5_3, rfl, HA, HK3, BK40, HB⟩ := hrel
                cases gk with
                | zero => exact absurd HA.out (by simp [spec_l09Ok_c44.l1])
                | succ k3 =>
                  have H := HA.out; clear HA
                  simp only [spec_l09Ok_c44.l1] at H
                  by_cases c17 : x5_3 < (l0_1.length : Int)
                  · rw [if_pos c17] at H
                    have c17b0 : decide (x5_3 < (l0_1.length : Int)) = true := zR c17; clear c17
                    by_cases c18 : 0 ≤ x5_3
                    · rw [if_pos c18] at H
                      have c18b0 : decide (0 ≤ x5_3) = true := zR c18; clear c18
                      obtain ⟨t375, A190, H⟩ := zW_ H
                      replace H : (if t375 = true then (if (((rd_T57 l0_1 x5_3).f1).size : Int) = 64 then (spec_l09Ok_c44.l1 k3 (l0_0.length : Int) (wrap64 (x5_3 + 1)) l0_0 l0_1 a0_2 a0_3) else (some false)) else (some false)) = some r := H
                      have A19 := yD A190
                      clear A190
                      by_cases c20 : t375 = true
                      · subst c20
                        have H1 : (if (((rd_T57 l0_1 x5_3).f1).size : Int) = 64 then (spec_l09Ok_c44.l1 k3 (l0_0.length : Int) (wrap64 (x5_3 + 1)) l0_0 l0_1 a0_2 a0_3) else (some false)) = some r := by rw [if_pos rfl] at H; exact H
                        clear H; have H := H1; clear H1
                        by_cases c21 : (((rd_T57 l0_1 x5_3).f1).size : Int) = 64
                        · rw [if_pos c21] at H
                          have c21b0 : ((((rd_T57 l0_1 x5_3).f1).size : Int) == 64) = true := beq_iff_eq.mpr c21
                          have c21b1 : ((((rd_T57 l0_1 x5_3).f1).size : Int) != 64) = false := bne_eq_false_iff_eq.mpr c21
                          clear c21
                          have H' := yD H
                          clear H
                          obtain ⟨hcz22_0, hcz22_1, hcz22_2, hcz22_3⟩ := cz4 BK40.out
                          obtain ⟨hfz22_0, hfz22_1, hfz22_2, hfz22_3⟩ := fz4 BK40.out
                          have p374 : 0 ≤ (x5_3 : Int) := zP (by assumption)
                          have q374 : x5_3 < (l0_1.length : Int) := zP (by assumption)
                          obtain ⟨ad374, e374, hx374_0, hx374_1⟩ := at_T57 HR0_1.out x5_3 p374 q374
                          cases e374
                          replace hx374_0 := (HB.out.cell (zQ w _ hx374_0)).trans hx374_0
                          replace hx374_1 := (HB.out.cell (zQ w _ hx374_1)).trans hx374_1
                          replace p374 := eq_true p374; replace q374 := eq_true q374
                          go_wp2_with (first | ((with_reducible refine gate_callee (f := 30) rfl ?_); refine goesL_ (some 67) rfl rfl Try.func30 (by kernel_rfl) rfl #[.int .i64 ((rd_T57 l0_1 x5_3).f0), .int .i64 0, .int .i64 (wrap64 ((l0_0.length : Int) - 1))] rfl (by (try simp only [zK, zL, zM]); first | done | rfl | (simp only [zN, zO]; rfl)) ?_; (with_reducible refine (spec_l00In.calls ((rd_T57 l0_1 x5_3).f0) 0 (wrap64 ((l0_0.length : Int) - 1)) true _ A19.out).mono ?_); rintro e w' ⟨rfl, ⟨nd, rfl⟩⟩; refine ⟨_, rfl, ?_⟩; have p376 : 0 ≤ (x5_3 : Int) := zP (by assumption); have q376 : x5_3 < (l0_1.length : Int) := zP (by assumption); obtain ⟨ad376, e376, hx376_0, hx376_1⟩ := at_T57 HR0_1.out x5_3 p376 q376; obtain rfl : ad374 = ad376 := (by injection e376); replace hx376_0 := (HB.out.cell (zQ w _ hx376_0)).trans hx376_0; replace hx376_1 := (HB.out.cell (zQ w _ hx376_1)).trans hx376_1; replace p376 := eq_true p376; replace q376 := eq_true q376))
                          go_roundg k3
                          case measure => have := HJ1.out; have := HK2.out; have := HK3.out; omega
                          case rel => exact ⟨(wrap64 (x5_3 + 1)), (by first | rfl | (simp; done) | (simp [*]; done)), H', ⟨by have := HJ1.out; have := HK2.out; have := HK3.out; omega⟩, ⟨by (with_reducible repeat (first | refine yM ?_ _ | refine yO ?_ | refine yN ?_ _)); exact BK40.out⟩, ⟨kR1 HB⟩⟩
                        · rw [if_neg c21] at H
                          have c21b0 : ((((rd_T57 l0_1 x5_3).f1).size : Int) == 64) = false := beq_eq_false_iff_ne.mpr c21
                          have c21b1 : ((((rd_T57 l0_1 x5_3).f1).size : Int) != 64) = true := bne_iff_ne.mpr c21
                          obtain rfl := Option.some.inj H
                          obtain ⟨hcz23_0, hcz23_1, hcz23_2, hcz23_3⟩ := cz4 BK40.out
                          obtain ⟨hfz23_0, hfz23_1, hfz23_2, hfz23_3⟩ := fz4 BK40.out
                          have p374 : 0 ≤ (x5_3 : Int) := zP (by assumption)
                          have q374 : x5_3 < (l0_1.length : Int) := zP (by assumption)
                          obtain ⟨ad374, e374, hx374_0, hx374_1⟩ := at_T57 HR0_1.out x5_3 p374 q374
                          cases e374
                          replace hx374_0 := (HB.out.cell (zQ w _ hx374_0)).trans hx374_0
                          replace hx374_1 := (HB.out.cell (zQ w _ hx374_1)).trans hx374_1
                          replace p374 := eq_true p374; replace q374 := eq_true q374
                          go_wp2_with (first | ((with_reducible refine gate_callee (f := 30) rfl ?_); refine goesL_ (some 67) rfl rfl Try.func30 (by kernel_rfl) rfl #[.int .i64 ((rd_T57 l0_1 x5_3).f0), .int .i64 0, .int .i64 (wrap64 ((l0_0.length : Int) - 1))] rfl (by (try simp only [zK, zL, zM]); first | done | rfl | (simp only [zN, zO]; rfl)) ?_; (with_reducible refine (spec_l00In.calls ((rd_T57 l0_1 x5_3).f0) 0 (wrap64 ((l0_0.length : Int) - 1)) true _ A19.out).mono ?_); rintro e w' ⟨rfl, ⟨nd, rfl⟩⟩; refine ⟨_, rfl, ?_⟩; have p376 : 0 ≤ (x5_3 : Int) := zP (by assumption); have q376 : x5_3 < (l0_1.length : Int) := zP (by assumption); obtain ⟨ad376, e376, hx376_0, hx376_1⟩ := at_T57 HR0_1.out x5_3 p376 q376; obtain rfl : ad374 = ad376 := (by injection e376); replace hx376_0 := (HB.out.cell (zQ w _ hx376_0)).trans hx376_0; replace hx376_1 := (HB.out.cell (zQ w _ hx376_1)).trans hx376_1; replace p376 := eq_true p376; replace q376 := eq_true q376))
                          go_ret
                          exact ⟨by first | rfl | (simp <;> rfl) | (simp [*] <;> rfl), kR1 HB⟩
                      · replace c20 := Bool.eq_false_iff.mpr c20
                        subst c20
                        have H1 : (some false) = some r := by rw [if_neg (show ¬ (false = true) by decide)] at H; exact H
                        clear H; have H := H1; clear H1; obtain rfl := Option.some.inj H
                        obtain ⟨hcz24_0, hcz24_1, hcz24_2, hcz24_3⟩ := cz4 BK40.out
                        obtain ⟨hfz24_0, hfz24_1, hfz24_2, hfz24_3⟩ := fz4 BK40.out
                        have p374 : 0 ≤ (x5_3 : Int) := zP (by assumption)
                        have q374 : x5_3 < (l0_1.length : Int) := zP (by assumption)
                        obtain ⟨ad374, e374, hx374_0, hx374_1⟩ := at_T57 HR0_1.out x5_3 p374 q374
                        cases e374
                        replace hx374_0 := (HB.out.cell (zQ w _ hx374_0)).trans hx374_0
                        replace hx374_1 := (HB.out.cell (zQ w _ hx374_1)).trans hx374_1
                        replace p374 := eq_true p374; replace q374 := eq_true q374
                        go_wp2_with (first | ((with_reducible refine gate_callee (f := 30) rfl ?_); refine goesL_ (some 67) rfl rfl Try.func30 (by kernel_rfl) rfl #[.int .i64 ((rd_T57 l0_1 x5_3).f0), .int .i64 0, .int .i64 (wrap64 ((l0_0.length : Int) - 1))] rfl (by (try simp only [zK, zL, zM]); first | done | rfl | (simp only [zN, zO]; rfl)) ?_; (with_reducible refine (spec_l00In.calls ((rd_T57 l0_1 x5_3).f0) 0 (wrap64 ((l0_0.length : Int) - 1)) false _ A19.out).mono ?_); rintro e w' ⟨rfl, ⟨nd, rfl⟩⟩; refine ⟨_, rfl, ?_⟩))
                        go_ret
                        exact ⟨by first | rfl | (simp <;> rfl) | (simp [*] <;> rfl), kR1 HB⟩
                    · rw [if_neg c18] at H
                      exact absurd H (by simp)
                  · rw [if_neg c17] at H
                    have c17b0 : decide (x5_3 < (l0_1.length : Int)) = false := zS c17; clear c17; obtain rfl := Option.some.inj H
                    obtain ⟨hcz25_0, hcz25_1, hcz25_2, hcz25_3⟩ := cz4 BK40.out
                    obtain ⟨hfz25_0, hfz25_1, hfz25_2, hfz25_3⟩ := fz4 BK40.out
                    go_wp2
                    go_ret
                    exact ⟨by first | rfl | (simp <;> rfl) | (simp [*] <;> rfl), kR1 HB⟩

/-! ### spec_l09Own_c44: function 75 -/
def spec_l09Own_c44.f (l0_0 : List ByteArray) (l0_1 : List (S57)) (a0_2 : Int) (a0_3 : Bool) : Option (List ByteArray × (List (S57)) × Int × Bool) := (some (([] : List ByteArray) : List ByteArray)).bind fun y378 => (if y378.length + l0_0.length < 8796093022208 then ((some (([] : List (S57)) : List (S57))).bind fun y384 => (if y384.length + l0_1.length < 5864062014805 then (some ((y378 ++ l0_0), (y384 ++ l0_1), a0_2, a0_3)) else (none))) else (none))
def spec_l09Own_c44.T1 : Bool × List (List Nat × List Nat) := (true, [([], []), ([], []), ([1], [1]), ([2], [2]), ([3], [3]), ([0, 4], [0, 4]), ([], []), ([], []), ([7], [7]), ([8], [8]), ([9], [9]), ([6, 10, 5], [6, 10]), ([], []), ([12], [12]), ([13], [13]), ([14], [14]), ([], []), ([16], [16]), ([17], [17]), ([18], [18]), ([5, 11, 15, 19], [5, 11, 15, 19]), ([20, 11, 0, 1, 2, 3, 4, 5, 6, 7, 8, 9, 10, 11, 12, 13, 14, 15, 16, 17, 18, 19, 20], [20])])
def spec_l09Own_c44.B1 : List Nat := [0, 0, 2, 6, 14, 31, 0, 0, 128, 384, 896, 2047, 0, 4096, 12288, 28672, 0, 65536, 196608, 458752, 1048575, 2097151]
theorem spec_l09Own_c44.tab1 : rtab .any (opsOf Try.f75 1) = spec_l09Own_c44.T1 := by kernel_rfl
theorem spec_l09Own_c44.bits1 : waitsOk spec_l09Own_c44.T1.2 spec_l09Own_c44.B1 = true := by kernel_rfl
set_option maxHeartbeats 8000000 in
set_option maxRecDepth 100000 in
theorem spec_l09Own_c44.calls (g0_0 : Nat) (A0_0 : Option Addr) (c0_0 : Nat) (l0_0 : List ByteArray) (A0_1 : Option Addr) (c0_1 : Nat) (l0_1 : List (S57)) (a0_2 : Int) (a0_3 : Bool) (r1 : List ByteArray) (r2 : List (S57)) (r3 : Int) (r4 : Bool) (w : World) (hr0_0 : Kd.C Kd.string w A0_0 l0_0.length l0_0) (hc0_0 : l0_0.length ≤ c0_0) (hr0_1 : Kd.C k57 w A0_1 l0_1.length l0_1) (hc0_1 : l0_1.length ≤ c0_1) (hb0_0 : w.heap[g0_0]? = some (.cells #[.slice A0_0 l0_0.length c0_0, .slice A0_1 l0_1.length c0_1, .int .i64 a0_2, .bool a0_3] 44 (0, 0))) (h : spec_l09Own_c44.f l0_0 l0_1 a0_2 a0_3 = some (r1, r2, r3, r4)) :
    Calls Try.prog 75 #[.pointer (some ⟨g0_0, 0, none⟩)] w fun e w' => ∃ v0_ v1_ : Value, e = .returned (.agg #[v0_, v1_, .int .i64 r3, .bool r4]) ∧ Kd.R Kd.string 9 w' w.heap.size (fun _ => True) v0_ r1 ∧ Kd.R k57 57 w' w.heap.size (fun _ => True) v1_ r2 ∧ Below w.heap.size w w' := by
  have hu44 := Try.underlying44
  have HR0_0 := yD hr0_0
  have HC0_0 := yD hc0_0
  clear hr0_0 hc0_0
  have HR0_1 := yD hr0_1
  have HC0_1 := yD hc0_1
  clear hr0_1 hc0_1
  have BK40 := yD hb0_0
  clear hb0_0
  have HB := yD (Below.refl w.heap.size w)
  have H : ((some (([] : List ByteArray) : List ByteArray)).bind fun y378 => (if y378.length + l0_0.length < 8796093022208 then ((some (([] : List (S57)) : List (S57))).bind fun y384 => (if y384.length + l0_1.length < 5864062014805 then (some ((y378 ++ l0_0), (y384 ++ l0_1), a0_2, a0_3)) else (none))) else (none))) = some (r1, r2, r3, r4) := h
  clear h
  obtain ⟨y378, hy378⟩ : ∃ y_ : List ByteArray, y_ = (([] : List ByteArray)) := ⟨_, rfl⟩
  replace H : (if y378.length + l0_0.length < 8796093022208 then ((some (([] : List (S57)) : List (S57))).bind fun y384 => (if y384.length + l0_1.length < 5864062014805 then (some ((y378 ++ l0_0), (y384 ++ l0_1), a0_2, a0_3)) else (none))) else (none)) = some (r1, r2, r3, r4) := by first | (rw [hy378]; with_reducible exact H) | (have H2_ := (Option.bind_some _ _).symm.trans H; rw [hy378]; with_reducible exact H2_) | (have H2_ := (Option.bind_some _ _).symm.trans H; with_reducible exact H2_) | with_reducible exact H | (rw [hy378]; exact H) | exact H
  have Ny378 := yD hy378
  clear hy378
  by_cases c2 : y378.length + l0_0.length < 8796093022208
  · rw [if_pos c2] at H
    have LMc2 := yD c2
    clear c2
    obtain ⟨y381, hy381⟩ : ∃ y_ : List ByteArray, y_ = (y378 ++ l0_0) := ⟨_, rfl⟩
    replace H : ((some (([] : List (S57)) : List (S57))).bind fun y384 => (if y384.length + l0_1.length < 5864062014805 then (some (y381, (y384 ++ l0_1), a0_2, a0_3)) else (none))) = some (r1, r2, r3, r4) := by first | (rw [hy381]; with_reducible exact H) | (have H2_ := (Option.bind_some _ _).symm.trans H; rw [hy381]; with_reducible exact H2_) | (have H2_ := (Option.bind_some _ _).symm.trans H; with_reducible exact H2_) | with_reducible exact H | (rw [hy381]; exact H) | exact H
    have Ny381 := yD hy381
    clear hy381
    obtain ⟨y384, hy384⟩ : ∃ y_ : List (S57), y_ = (([] : List (S57))) := ⟨_, rfl⟩
    replace H : (if y384.length + l0_1.length < 5864062014805 then (some (y381, (y384 ++ l0_1), a0_2, a0_3)) else (none)) = some (r1, r2, r3, r4) := by first | (rw [hy384]; with_reducible exact H) | (have H2_ := (Option.bind_some _ _).symm.trans H; rw [hy384]; with_reducible exact H2_) | (have H2_ := (Option.bind_some _ _).symm.trans H; with_reducible exact H2_) | with_reducible exact H | (rw [hy384]; exact H) | exact H
    have Ny384 := yD hy384
    clear hy384
    by_cases c3 : y384.length + l0_1.length < 5864062014805
    · rw [if_pos c3] at H
      have LMc3 := yD c3
      clear c3
      obtain ⟨y387, hy387⟩ : ∃ y_ : List (S57), y_ = (y384 ++ l0_1) := ⟨_, rfl⟩
      replace H : (some (y381, y387, a0_2, a0_3)) = some (r1, r2, r3, r4) := by first | (rw [hy387]; with_reducible exact H) | (have H2_ := (Option.bind_some _ _).symm.trans H; rw [hy387]; with_reducible exact H2_) | (have H2_ := (Option.bind_some _ _).symm.trans H; with_reducible exact H2_) | with_reducible exact H | (rw [hy387]; exact H) | exact H
      have Ny387 := yD hy387
      clear hy387
      simp only [Option.some.injEq, Prod.mk.injEq] at H
      obtain ⟨rfl, rfl, rfl, rfl⟩ := H
      go_enter Try.func75, Try.ntmps75
      try go_wp2_with (first | ((with_reducible refine gate_dst (N := 2) rfl ?_); refine box_event ?hg (N := 2) ?hd (cs := #[.slice none 0 0, .slice none 0 0, .int .i64 0, .bool false]) (t := 44) ?hr ?_; (case hd => rfl); (case hg => rfl); (case hr => first | (go_simp; done) | (go_simp; rfl)); intro gb377 hg w4 hbox hb; have n0_ := yD (zB (g := g0_0) (o := .cells #[.slice A0_0 l0_0.length c0_0, .slice A0_1 l0_1.length c0_1, .int .i64 a0_2, .bool a0_3] 44 (0, 0)) (kM BK40) hb); have n1_ := yD (zC (kB HB) hb); have n2_ := yD (hbox); have n3_ := yD ((by rw [hg]; exact (below_size (kB HB)) : w.heap.size ≤ gb377)); have n4_ := yD ((by rw [hg]; exact (below_size (kB HB)) : w.heap.size ≤ gb377)); have n5_ := yD ((by rw [hg]; exact Nat.ne_of_lt (blk_lt (g := g0_0) (o := .cells #[.slice A0_0 l0_0.length c0_0, .slice A0_1 l0_1.length c0_1, .int .i64 a0_2, .bool a0_3] 44 (0, 0)) (kM BK40)) : g0_0 ≠ gb377)); have n6_ := yD ((by rw [hg]; exact Nat.ne_of_gt (blk_lt (g := g0_0) (o := .cells #[.slice A0_0 l0_0.length c0_0, .slice A0_1 l0_1.length c0_1, .int .i64 a0_2, .bool a0_3] 44 (0, 0)) (kM BK40)) : gb377 ≠ g0_0)); clear BK40; clear HB; have BK40 := n0_; have HB := n1_; have BK377 := n2_; have GW377 := n3_; have GE377 := n4_; have NB40_377 := n5_; have NB377_40 := n6_; clear n0_ n1_ n2_ n3_ n4_ n5_ n6_; clear hb hbox hg))
      have n0_ := yD (yO BK40.out)
      have n1_ := yD (yO BK377.out)
      have n2_ := yD (yP HB.out)
      clear BK40 BK377 HB; have BK40 := n0_; have BK377 := n1_; have HB := n2_; clear n0_ n1_ n2_
      refine start_ (n := 22) (S := fun w' => w'.cell? ⟨g0_0, 0, none⟩ = some (.slice A0_0 l0_0.length c0_0) ∧ w'.cell? ⟨g0_0, 1, none⟩ = some (.slice A0_1 l0_1.length c0_1) ∧ w'.cell? ⟨g0_0, 2, none⟩ = some (.int .i64 a0_2) ∧ w'.cell? ⟨g0_0, 3, none⟩ = some (.bool a0_3)) (ds := []) (bz 22 0) (by kernel_rfl) rfl rfl ⟨(yG BK40.out 0).trans rfl, (yG BK40.out 1).trans rfl, (yG BK40.out 2).trans rfl, (yG BK40.out 3).trans rfl⟩ (fun hHeld => ?_); refine with_tabW spec_l09Own_c44.tab1 spec_l09Own_c44.bits1 (fun HT_ HW_ => ?_)
      generalize w4.drew = w5 at BK40 BK377 HB hHeld ⊢
      refine qA 1 4 (bz 22 2) HT_ ?_
      refine qA 2 5 (bz 22 6) HT_ ?_
      refine qA 3 6 (bz 22 14) HT_ ?_
      refine qA 7 10 (bz 22 142) HT_ ?_
      refine qA 8 11 (bz 22 398) HT_ ?_
      refine qA 9 12 (bz 22 910) HT_ ?_
      refine qA 12 15 (bz 22 5006) HT_ ?_
      refine qA 13 16 (bz 22 13198) HT_ ?_
      refine qA 14 17 (bz 22 29582) HT_ ?_
      refine qA 16 19 (bz 22 95118) HT_ ?_
      refine qA 17 20 (bz 22 226190) HT_ ?_
      refine qA 18 21 (bz 22 488334) HT_ ?_
      refine qC 4 7 (bz 22 488350) HT_ HW_ hHeld ?_ (hy := by rintro w' ⟨s0, s1, s2, s3⟩; go_simp; with_reducible rfl)
      refine qC 10 13 (bz 22 489374) HT_ HW_ hHeld ?_ (hy := by rintro w' ⟨s0, s1, s2, s3⟩; go_simp; with_reducible rfl)
      refine qC 15 18 (bz 22 522142) HT_ HW_ hHeld ?_ (hy := by rintro w' ⟨s0, s1, s2, s3⟩; go_simp; with_reducible rfl)
      refine qC 19 22 (bz 22 1046430) HT_ HW_ hHeld ?_ (hy := by rintro w' ⟨s0, s1, s2, s3⟩; go_simp; with_reducible rfl)
      refine join_ (σ := Value × Value × Value) 3 #[true, true, true, true, true, true, true, true, true, true, true, false, true, true, true, true, true, true, true, true, false, false] (fun s_ => [(3, s_.1), (8, s_.2.1), (9, s_.2.2)]) (fun s_ w' => (w'.cell? ⟨g0_0, 0, none⟩ = some (.slice A0_0 l0_0.length c0_0) ∧ w'.cell? ⟨g0_0, 1, none⟩ = some (.slice A0_1 l0_1.length c0_1) ∧ w'.cell? ⟨g0_0, 2, none⟩ = some (.int .i64 a0_2) ∧ w'.cell? ⟨g0_0, 3, none⟩ = some (.bool a0_3)) ∧ (Kd.R Kd.string 9 w' w.heap.size (fun _ => True) s_.2.1 y381) ∧ (Kd.R k57 57 w' w.heap.size (fun _ => True) s_.2.2 y384) ∧ (w'.heap[gb377]? = some (.cells #[.slice none 0 0, .slice none 0 0, .int .i64 0, .bool false] 44 (0, 0))) ∧ (w'.heap[g0_0]? = some (.cells #[.slice A0_0 l0_0.length c0_0, .slice A0_1 l0_1.length c0_1, .int .i64 a0_2, .bool a0_3] 44 (0, 0))) ∧ (Below w.heap.size w w')) ?_ ?_
      rotate_left
      · intro hCont
        refine two_ (i := 0) (j := 6) (Ni := some 3) (Nj := some 9) #[true, true, true, true, true, false, false, true, true, true, true, false, true, true, true, true, true, true, true, true, false, false] #[false, true, true, true, true, false, true, true, true, true, true, false, true, true, true, true, true, true, true, true, false, false] rfl rfl rfl rfl (two_of HT_.out (by kernel_rfl)) (by decide) (by decide) (fun K hK => ?_) (fun K hK => ?_)
        · skip
          refine Kd.R_lit_step Kd.string _ 9 ?hg (N := 3) ?hd (xs := ([] : List ByteArray)) (inner := []) (ok := fun _ => True) (okp := fun _ => True) ?hr ?hp (fun _ hk => hk) trivial (Below.refl _ _) (Nat.le_refl _) (by simp) ?_; (case hd => rfl); (case hg => rfl); (case hr => first | (go_simp; done) | (go_simp; rfl)); (case hp => exact (Reps.none _ _))
          intro v379 w6 ho7 hb hg_ hnew_
          clear hg_ hnew_
          (first | rw [← Ny378.out] at ho7 | (simp only [Int.reduceToNat] at ho7; rw [← Ny378.out] at ho7))
          have n0_ := yD (yZ ho7 (below_size (kB HB)))
          have n1_ := yD (zB (g := g0_0) (o := .cells #[.slice A0_0 l0_0.length c0_0, .slice A0_1 l0_1.length c0_1, .int .i64 a0_2, .bool a0_3] 44 (0, 0)) (kM BK40) hb)
          have n2_ := yD (zB (g := gb377) (o := .cells #[.slice none 0 0, .slice none 0 0, .int .i64 0, .bool false] 44 (0, 0)) (kM BK377) hb)
          have n3_ := yD (zC (kB HB) hb)
          clear BK40 BK377 HB; have HO380 := n0_; have BK40 := n1_; have BK377 := n2_; have HB := n3_; clear n0_ n1_ n2_ n3_ hb ho7
          refine hK.out _ _ ⟨(yG BK40.out 0).trans rfl, (yG BK40.out 1).trans rfl, (yG BK40.out 2).trans rfl, (yG BK40.out 3).trans rfl⟩ (fun hHeld => ?_)
          clear hK K
          refine norm_ (a' := ?_) ?_ ?_
          rotate_left
          · show Act.put _ (some 3) _ = _
            simp only [Act.put, zH, zI, zJ, i64_w, i32_w]
            rfl
          refine two_ (i := 5) (j := 6) (Ni := some 8) (Nj := some 9) #[true, true, true, true, true, true, false, true, true, true, true, false, true, true, true, true, true, true, true, true, false, false] #[true, true, true, true, true, false, true, true, true, true, true, false, true, true, true, true, true, true, true, true, false, false] rfl rfl rfl rfl (two_of HT_.out (by kernel_rfl)) (by decide) (by decide) (fun K hK => ?_) (fun K hK => ?_)
          · skip
            refine Kd.R_append_rows_step Kd.string (w0 := w) w.heap.size (by rfl) (.tmp 3) (.tmp 7) 36 9 (.string ⟨#[]⟩) 16 rfl Try.underlying36 info9 rfl (by decide) (by omega) v379 y378 l0_0 _ _ _ (fun _ => True) (fun _ => False) rfl rfl ?aO ?aR (fun _ _ h => h) (fun _ h => h.elim) ?aF ?aB ?aS ?aL ?_
            (case aR => exact kV (yY HR0_0.out HB.out))
            (case aB => exact (kB HB))
            (case aF => exact (fun _ _ => trivial))
            (case aO => exact (kA HO380))
            (case aS => exact (below_size (kB HB)))
            (case aL => have := LMc2.out; omega)
            intro v382 w8 ho hb hg hat
            rw [← Ny381.out] at ho
            have n0_ := yD (blk_grown (g := g0_0) (o := .cells #[.slice A0_0 l0_0.length c0_0, .slice A0_1 l0_1.length c0_1, .int .i64 a0_2, .bool a0_3] 44 (0, 0)) (kM BK40) hg (Kd.R_ne HO380.out BK40.out (by decide)))
            have n1_ := yD (blk_grown (g := gb377) (o := .cells #[.slice none 0 0, .slice none 0 0, .int .i64 0, .bool false] 44 (0, 0)) (kM BK377) hg (Kd.R_ne HO380.out BK377.out (by decide)))
            have n2_ := yD (hb)
            have n3_ := yD (ho)
            clear BK40 BK377 HB HO380; have BK40 := n0_; have BK377 := n1_; have HB := n2_; have HO383 := n3_; clear n0_ n1_ n2_ n3_ ho hb hg hat
            refine hK.out _ _ ⟨(yG BK40.out 0).trans rfl, (yG BK40.out 1).trans rfl, (yG BK40.out 2).trans rfl, (yG BK40.out 3).trans rfl⟩ (fun hHeld => ?_)
            clear hK K
            refine norm_ (a' := ?_) ?_ ?_
            rotate_left
            · show Act.put _ (some 8) _ = _
              simp only [Act.put, zH, zI, zJ, i64_w, i32_w]
              rfl
            refine one_ (i := 6) (N := some 9) (bz 22 1046527) rfl rfl (one_of HT_.out (by kernel_rfl)) (by decide) (fun K hK => ?_)
            refine Kd.R_lit_step k57 _ 57 ?hg (N := 9) ?hd (xs := ([] : List (S57))) (inner := []) (ok := fun _ => True) (okp := fun _ => True) ?hr ?hp (fun _ hk => hk) trivial (Below.refl _ _) (Nat.le_refl _) (by simp) ?_; (case hd => rfl); (case hg => rfl); (case hr => first | (go_simp; done) | (go_simp; rfl)); (case hp => exact (Reps.none _ _))
            intro v385 w9 ho10 hb hg_ hnew_
            clear hg_ hnew_
            (first | rw [← Ny384.out] at ho10 | (simp only [Int.reduceToNat] at ho10; rw [← Ny384.out] at ho10))
            have n0_ := yD (zE (kA HO383) hb)
            have n1_ := yD (yZ ho10 (below_size (kB HB)))
            have n2_ := yD (zB (g := g0_0) (o := .cells #[.slice A0_0 l0_0.length c0_0, .slice A0_1 l0_1.length c0_1, .int .i64 a0_2, .bool a0_3] 44 (0, 0)) (kM BK40) hb)
            have n3_ := yD (zB (g := gb377) (o := .cells #[.slice none 0 0, .slice none 0 0, .int .i64 0, .bool false] 44 (0, 0)) (kM BK377) hb)
            have n4_ := yD (zC (kB HB) hb)
            clear HO383 BK40 BK377 HB; have HO383 := n0_; have HO386 := n1_; have BK40 := n2_; have BK377 := n3_; have HB := n4_; clear n0_ n1_ n2_ n3_ n4_ hb ho10
            refine hK.out _ _ ⟨(yG BK40.out 0).trans rfl, (yG BK40.out 1).trans rfl, (yG BK40.out 2).trans rfl, (yG BK40.out 3).trans rfl⟩ (fun hHeld => ?_)
            clear hK K
            refine norm_ (a' := ?_) ?_ ?_
            rotate_left
            · show Act.put _ (some 9) _ = _
              simp only [Act.put, zH, zI, zJ, i64_w, i32_w]
              rfl
            exact norm_ (by simp only [putAll, Act.put, zH, zI, zJ]) (hCont (v379, v382, v385) _ ⟨hHeld, (kA HO383), (kA HO386), (kM BK377), (kM BK40), (kB HB)⟩)
          · skip
            refine Kd.R_lit_step k57 _ 57 ?hg (N := 9) ?hd (xs := ([] : List (S57))) (inner := []) (ok := fun _ => True) (okp := fun _ => True) ?hr ?hp (fun _ hk => hk) trivial (Below.refl _ _) (Nat.le_refl _) (by simp) ?_; (case hd => rfl); (case hg => rfl); (case hr => first | (go_simp; done) | (go_simp; rfl)); (case hp => exact (Reps.none _ _))
            intro v385 w8 ho9 hb hg_ hnew_
            clear hg_ hnew_
            (first | rw [← Ny384.out] at ho9 | (simp only [Int.reduceToNat] at ho9; rw [← Ny384.out] at ho9))
            have n0_ := yD (zE (kA HO380) hb)
            have n1_ := yD (yZ ho9 (below_size (kB HB)))
            have n2_ := yD (zB (g := g0_0) (o := .cells #[.slice A0_0 l0_0.length c0_0, .slice A0_1 l0_1.length c0_1, .int .i64 a0_2, .bool a0_3] 44 (0, 0)) (kM BK40) hb)
            have n3_ := yD (zB (g := gb377) (o := .cells #[.slice none 0 0, .slice none 0 0, .int .i64 0, .bool false] 44 (0, 0)) (kM BK377) hb)
            have n4_ := yD (zC (kB HB) hb)
            clear HO380 BK40 BK377 HB; have HO380 := n0_; have HO386 := n1_; have BK40 := n2_; have BK377 := n3_; have HB := n4_; clear n0_ n1_ n2_ n3_ n4_ hb ho9
            refine hK.out _ _ ⟨(yG BK40.out 0).trans rfl, (yG BK40.out 1).trans rfl, (yG BK40.out 2).trans rfl, (yG BK40.out 3).trans rfl⟩ (fun hHeld => ?_)
            clear hK K
            refine norm_ (a' := ?_) ?_ ?_
            rotate_left
            · show Act.put _ (some 9) _ = _
              simp only [Act.put, zH, zI, zJ, i64_w, i32_w]
              rfl
            refine one_ (i := 5) (N := some 8) (bz 22 1046527) rfl rfl (one_of HT_.out (by kernel_rfl)) (by decide) (fun K hK => ?_)
            refine Kd.R_append_rows_step Kd.string (w0 := w) w.heap.size (by rfl) (.tmp 3) (.tmp 7) 36 9 (.string ⟨#[]⟩) 16 rfl Try.underlying36 info9 rfl (by decide) (by omega) v379 y378 l0_0 _ _ _ (fun _ => True) (fun _ => False) rfl rfl ?aO ?aR (fun _ _ h => h) (fun _ h => h.elim) ?aF ?aB ?aS ?aL ?_
            (case aR => exact kV (yY HR0_0.out HB.out))
            (case aB => exact (kB HB))
            (case aF => exact (fun _ _ => trivial))
            (case aO => exact (kA HO380))
            (case aS => exact (below_size (kB HB)))
            (case aL => have := LMc2.out; omega)
            intro v382 w10 ho hb hg hat
            rw [← Ny381.out] at ho
            have n0_ := yD (blk_grown (g := g0_0) (o := .cells #[.slice A0_0 l0_0.length c0_0, .slice A0_1 l0_1.length c0_1, .int .i64 a0_2, .bool a0_3] 44 (0, 0)) (kM BK40) hg (Kd.R_ne HO380.out BK40.out (by decide)))
            have n1_ := yD (blk_grown (g := gb377) (o := .cells #[.slice none 0 0, .slice none 0 0, .int .i64 0, .bool false] 44 (0, 0)) (kM BK377) hg (Kd.R_ne HO380.out BK377.out (by decide)))
            have n2_ := yD (Kd.R_over' (kA HO386) (Kd.R_typed (kA HO380)) (by decide) hg)
            have n3_ := yD (hb)
            have n4_ := yD (ho)
            clear BK40 BK377 HO386 HB HO380; have BK40 := n0_; have BK377 := n1_; have HO386 := n2_; have HB := n3_; have HO383 := n4_; clear n0_ n1_ n2_ n3_ n4_ ho hb hg hat
            refine hK.out _ _ ⟨(yG BK40.out 0).trans rfl, (yG BK40.out 1).trans rfl, (yG BK40.out 2).trans rfl, (yG BK40.out 3).trans rfl⟩ (fun hHeld => ?_)
            clear hK K
            refine norm_ (a' := ?_) ?_ ?_
            rotate_left
            · show Act.put _ (some 8) _ = _
              simp only [Act.put, zH, zI, zJ, i64_w, i32_w]
              rfl
            exact norm_ (by simp only [putAll, Act.put, zH, zI, zJ]) (hCont (v379, v382, v385) _ ⟨hHeld, (kA HO383), (kA HO386), (kM BK377), (kM BK40), (kB HB)⟩)
        · skip
          refine Kd.R_lit_step k57 _ 57 ?hg (N := 9) ?hd (xs := ([] : List (S57))) (inner := []) (ok := fun _ => True) (okp := fun _ => True) ?hr ?hp (fun _ hk => hk) trivial (Below.refl _ _) (Nat.le_refl _) (by simp) ?_; (case hd => rfl); (case hg => rfl); (case hr => first | (go_simp; done) | (go_simp; rfl)); (case hp => exact (Reps.none _ _))
          intro v385 w6 ho7 hb hg_ hnew_
          clear hg_ hnew_
          (first | rw [← Ny384.out] at ho7 | (simp only [Int.reduceToNat] at ho7; rw [← Ny384.out] at ho7))
          have n0_ := yD (yZ ho7 (below_size (kB HB)))
          have n1_ := yD (zB (g := g0_0) (o := .cells #[.slice A0_0 l0_0.length c0_0, .slice A0_1 l0_1.length c0_1, .int .i64 a0_2, .bool a0_3] 44 (0, 0)) (kM BK40) hb)
          have n2_ := yD (zB (g := gb377) (o := .cells #[.slice none 0 0, .slice none 0 0, .int .i64 0, .bool false] 44 (0, 0)) (kM BK377) hb)
          have n3_ := yD (zC (kB HB) hb)
          clear BK40 BK377 HB; have HO386 := n0_; have BK40 := n1_; have BK377 := n2_; have HB := n3_; clear n0_ n1_ n2_ n3_ hb ho7
          refine hK.out _ _ ⟨(yG BK40.out 0).trans rfl, (yG BK40.out 1).trans rfl, (yG BK40.out 2).trans rfl, (yG BK40.out 3).trans rfl⟩ (fun hHeld => ?_)
          clear hK K
          refine norm_ (a' := ?_) ?_ ?_
          rotate_left
          · show Act.put _ (some 9) _ = _
            simp only [Act.put, zH, zI, zJ, i64_w, i32_w]
            rfl
          refine one_ (i := 0) (N := some 3) (bz 22 1046495) rfl rfl (one_of HT_.out (by kernel_rfl)) (by decide) (fun K hK => ?_)
          refine Kd.R_lit_step Kd.string _ 9 ?hg (N := 3) ?hd (xs := ([] : List ByteArray)) (inner := []) (ok := fun _ => True) (okp := fun _ => True) ?hr ?hp (fun _ hk => hk) trivial (Below.refl _ _) (Nat.le_refl _) (by simp) ?_; (case hd => rfl); (case hg => rfl); (case hr => first | (go_simp; done) | (go_simp; rfl)); (case hp => exact (Reps.none _ _))
          intro v379 w8 ho9 hb hg_ hnew_
          clear hg_ hnew_
          (first | rw [← Ny378.out] at ho9 | (simp only [Int.reduceToNat] at ho9; rw [← Ny378.out] at ho9))
          have n0_ := yD (zE (kA HO386) hb)
          have n1_ := yD (yZ ho9 (below_size (kB HB)))
          have n2_ := yD (zB (g := g0_0) (o := .cells #[.slice A0_0 l0_0.length c0_0, .slice A0_1 l0_1.length c0_1, .int .i64 a0_2, .bool a0_3] 44 (0, 0)) (kM BK40) hb)
          have n3_ := yD (zB (g := gb377) (o := .cells #[.slice none 0 0, .slice none 0 0, .int .i64 0, .bool false] 44 (0, 0)) (kM BK377) hb)
          have n4_ := yD (zC (kB HB) hb)
          clear HO386 BK40 BK377 HB; have HO386 := n0_; have HO380 := n1_; have BK40 := n2_; have BK377 := n3_; have HB := n4_; clear n0_ n1_ n2_ n3_ n4_ hb ho9
          refine hK.out _ _ ⟨(yG BK40.out 0).trans rfl, (yG BK40.out 1).trans rfl, (yG BK40.out 2).trans rfl, (yG BK40.out 3).trans rfl⟩ (fun hHeld => ?_)
          clear hK K
          refine norm_ (a' := ?_) ?_ ?_
          rotate_left
          · show Act.put _ (some 3) _ = _
            simp only [Act.put, zH, zI, zJ, i64_w, i32_w]
            rfl
          refine one_ (i := 5) (N := some 8) (bz 22 1046527) rfl rfl (one_of HT_.out (by kernel_rfl)) (by decide) (fun K hK => ?_)
          refine Kd.R_append_rows_step Kd.string (w0 := w) w.heap.size (by rfl) (.tmp 3) (.tmp 7) 36 9 (.string ⟨#[]⟩) 16 rfl Try.underlying36 info9 rfl (by decide) (by omega) v379 y378 l0_0 _ _ _ (fun _ => True) (fun _ => False) rfl rfl ?aO ?aR (fun _ _ h => h) (fun _ h => h.elim) ?aF ?aB ?aS ?aL ?_
          (case aR => exact kV (yY HR0_0.out HB.out))
          (case aB => exact (kB HB))
          (case aF => exact (fun _ _ => trivial))
          (case aO => exact (kA HO380))
          (case aS => exact (below_size (kB HB)))
          (case aL => have := LMc2.out; omega)
          intro v382 w10 ho hb hg hat
          rw [← Ny381.out] at ho
          have n0_ := yD (blk_grown (g := g0_0) (o := .cells #[.slice A0_0 l0_0.length c0_0, .slice A0_1 l0_1.length c0_1, .int .i64 a0_2, .bool a0_3] 44 (0, 0)) (kM BK40) hg (Kd.R_ne HO380.out BK40.out (by decide)))
          have n1_ := yD (blk_grown (g := gb377) (o := .cells #[.slice none 0 0, .slice none 0 0, .int .i64 0, .bool false] 44 (0, 0)) (kM BK377) hg (Kd.R_ne HO380.out BK377.out (by decide)))
          have n2_ := yD (Kd.R_over' (kA HO386) (Kd.R_typed (kA HO380)) (by decide) hg)
          have n3_ := yD (hb)
          have n4_ := yD (ho)
          clear BK40 BK377 HO386 HB HO380; have BK40 := n0_; have BK377 := n1_; have HO386 := n2_; have HB := n3_; have HO383 := n4_; clear n0_ n1_ n2_ n3_ n4_ ho hb hg hat
          refine hK.out _ _ ⟨(yG BK40.out 0).trans rfl, (yG BK40.out 1).trans rfl, (yG BK40.out 2).trans rfl, (yG BK40.out 3).trans rfl⟩ (fun hHeld => ?_)
          clear hK K
          refine norm_ (a' := ?_) ?_ ?_
          rotate_left
          · show Act.put _ (some 8) _ = _
            simp only [Act.put, zH, zI, zJ, i64_w, i32_w]
            rfl
          exact norm_ (by simp only [putAll, Act.put, zH, zI, zJ]) (hCont (v379, v382, v385) _ ⟨hHeld, (kA HO383), (kA HO386), (kM BK377), (kM BK40), (kB HB)⟩)
      rintro ⟨v379, v382, v385⟩ w11 ⟨hS_, h0_, h1_, h2_, h3_, h4_⟩
      have n0_ : Aside0 (Kd.R Kd.string 9 w11 w.heap.size (fun _ => True) v382 y381) := ⟨h0_⟩
      have n1_ : Aside0 (Kd.R k57 57 w11 w.heap.size (fun _ => True) v385 y384) := ⟨h1_⟩
      have n2_ : Aside0 (w11.heap[gb377]? = some (.cells #[.slice none 0 0, .slice none 0 0, .int .i64 0, .bool false] 44 (0, 0))) := ⟨h2_⟩
      have n3_ : Aside0 (w11.heap[g0_0]? = some (.cells #[.slice A0_0 l0_0.length c0_0, .slice A0_1 l0_1.length c0_1, .int .i64 a0_2, .bool a0_3] 44 (0, 0))) := ⟨h3_⟩
      have n4_ : Aside0 (Below w.heap.size w w11) := ⟨h4_⟩
      clear BK40 BK377 HB h0_ h1_ h2_ h3_ h4_; have HO383 := n0_; have HO386 := n1_; have BK377 := n2_; have BK40 := n3_; have HB := n4_; clear n0_ n1_ n2_ n3_ n4_
      have hHeld : w11.cell? ⟨g0_0, 0, none⟩ = some (.slice A0_0 l0_0.length c0_0) ∧ w11.cell? ⟨g0_0, 1, none⟩ = some (.slice A0_1 l0_1.length c0_1) ∧ w11.cell? ⟨g0_0, 2, none⟩ = some (.int .i64 a0_2) ∧ w11.cell? ⟨g0_0, 3, none⟩ = some (.bool a0_3) := hS_
      refine norm_ (a' := ?_) ?_ ?_
      rotate_left
      · simp only [putAll, Act.put, zH, zI, zJ]
        rfl
      refine one_ (i := 11) (N := some 14) (bz 22 1048575) rfl rfl (one_of HT_.out (by kernel_rfl)) (by decide) (fun K hK => ?_)
      refine Kd.R_append_rows_step k57 (w0 := w) w.heap.size (by rfl) (.tmp 9) (.tmp 13) 42 57 (.agg #[(.int .i64 0), (.string ⟨#[]⟩)]) 24 rfl Try.underlying42 info57 rfl (by decide) (by omega) v385 y384 l0_1 _ _ _ (fun _ => True) (fun _ => False) rfl rfl ?aO ?aR (fun _ _ h => h) (fun _ h => h.elim) ?aF ?aB ?aS ?aL ?_
      (case aR => exact kV (yY HR0_1.out HB.out))
      (case aB => exact (kB HB))
      (case aF => exact (fun _ _ => trivial))
      (case aO => exact (kA HO386))
      (case aS => exact (below_size (kB HB)))
      (case aL => have := LMc3.out; omega)
      intro v388 w12 ho hb hg hat
      rw [← Ny387.out] at ho
      have n0_ := yD (blk_grown (g := g0_0) (o := .cells #[.slice A0_0 l0_0.length c0_0, .slice A0_1 l0_1.length c0_1, .int .i64 a0_2, .bool a0_3] 44 (0, 0)) (kM BK40) hg (Kd.R_ne HO386.out BK40.out (by decide)))
      have n1_ := yD (blk_grown (g := gb377) (o := .cells #[.slice none 0 0, .slice none 0 0, .int .i64 0, .bool false] 44 (0, 0)) (kM BK377) hg (Kd.R_ne HO386.out BK377.out (by decide)))
      have n2_ := yD (Kd.R_over' (kA HO383) (Kd.R_typed (kA HO386)) (by decide) hg)
      have n3_ := yD (hb)
      have n4_ := yD (ho)
      clear BK40 BK377 HO383 HB HO386; have BK40 := n0_; have BK377 := n1_; have HO383 := n2_; have HB := n3_; have HO389 := n4_; clear n0_ n1_ n2_ n3_ n4_ ho hb hg hat
      obtain ⟨Ao13, co13, eo13⟩ := Kd.R_slice HO389.out
      (first | subst eo13 | (injection eo13 with f1_ f2_ f3_; have f4_ := f1_.symm; have f5_ := f3_.symm; clear f1_ f2_ f3_; subst f4_; subst f5_))
      obtain ⟨Ao14, co14, eo14⟩ := Kd.R_slice HO383.out
      (first | subst eo14 | (injection eo14 with f1_ f2_ f3_; have f4_ := f1_.symm; have f5_ := f3_.symm; clear f1_ f2_ f3_; subst f4_; subst f5_))
      refine hK.out _ _ ⟨(yG BK40.out 0).trans rfl, (yG BK40.out 1).trans rfl, (yG BK40.out 2).trans rfl, (yG BK40.out 3).trans rfl⟩ (fun hHeld => ?_)
      clear hK K
      refine norm_ (a' := ?_) ?_ ?_
      rotate_left
      · show Act.put _ (some 14) _ = _
        simp only [Act.put, zH, zI, zJ, i64_w, i32_w]
        rfl
      refine qA 20 23 (bz 22 2097151) HT_ ?_
      refine one_ (i := 21) (N := none) (bz 22 4194303) rfl rfl (one_of HT_.out (by kernel_rfl)) (by decide) (fun K hK => ?_)
      have hs15 : w12.cell? ⟨gb377, 0, none⟩ = some (.slice none 0 0) := (yG BK377.out 0).trans rfl
      have hfs15 := yR BK377.out 0
      have hns15_0 := NB40_377.out; have hms15_0 := NB377_40.out
      have hs16 : w12.cell? ⟨gb377, 1, none⟩ = some (.slice none 0 0) := (yG BK377.out 1).trans rfl
      have hfs16 := yR BK377.out 1
      have hns16_0 := NB40_377.out; have hms16_0 := NB377_40.out
      have hs17 : w12.cell? ⟨gb377, 2, none⟩ = some (.int .i64 0) := (yG BK377.out 2).trans rfl
      have hfs17 := yR BK377.out 2
      have hns17_0 := NB40_377.out; have hms17_0 := NB377_40.out
      have hs18 : w12.cell? ⟨gb377, 3, none⟩ = some (.bool false) := (yG BK377.out 3).trans rfl
      have hfs18 := yR BK377.out 3
      have hns18_0 := NB40_377.out; have hms18_0 := NB377_40.out
      refine skip_ (w1 := ?_) (by rfl) rfl ?_ ?_
      rotate_left
      · go_simp
        rfl
      refine hK.out _ _ ⟨((cell_far (p := ⟨gb377, _, none⟩) NB40_377.out _).trans (((cell_far (p := ⟨gb377, _, none⟩) NB40_377.out _).trans (((cell_far (p := ⟨gb377, _, none⟩) NB40_377.out _).trans (((cell_far (p := ⟨gb377, _, none⟩) NB40_377.out _).trans (hHeld.1)))))))), ((cell_far (p := ⟨gb377, _, none⟩) NB40_377.out _).trans (((cell_far (p := ⟨gb377, _, none⟩) NB40_377.out _).trans (((cell_far (p := ⟨gb377, _, none⟩) NB40_377.out _).trans (((cell_far (p := ⟨gb377, _, none⟩) NB40_377.out _).trans (hHeld.2.1)))))))), ((cell_far (p := ⟨gb377, _, none⟩) NB40_377.out _).trans (((cell_far (p := ⟨gb377, _, none⟩) NB40_377.out _).trans (((cell_far (p := ⟨gb377, _, none⟩) NB40_377.out _).trans (((cell_far (p := ⟨gb377, _, none⟩) NB40_377.out _).trans (hHeld.2.2.1)))))))), ((cell_far (p := ⟨gb377, _, none⟩) NB40_377.out _).trans (((cell_far (p := ⟨gb377, _, none⟩) NB40_377.out _).trans (((cell_far (p := ⟨gb377, _, none⟩) NB40_377.out _).trans (((cell_far (p := ⟨gb377, _, none⟩) NB40_377.out _).trans (hHeld.2.2.2))))))))⟩ (fun hHeld => ?_)
      clear hK K
      refine done_ (done_of HT_.out (by kernel_rfl)) ?_
      try go_wp2
      refine bodyPost_ret (results_cell_row rfl _ _ gb377 44 #[.slice Ao14 y381.length co14, .slice Ao13 y387.length co13, .int .i64 a0_2, .bool a0_3] (0, 0) _ rfl (by (with_reducible repeat (first | refine yM ?_ _ | refine yO ?_ | refine yN ?_ _)); refine blk_put (cs := #[.slice Ao14 y381.length co14, .slice Ao13 y387.length co13, .int .i64 a0_2, .bool false]) ?_ 3 _ rfl; (with_reducible repeat (first | refine yM ?_ _ | refine yO ?_ | refine yN ?_ _)); refine blk_put (cs := #[.slice Ao14 y381.length co14, .slice Ao13 y387.length co13, .int .i64 0, .bool false]) ?_ 2 _ rfl; (with_reducible repeat (first | refine yM ?_ _ | refine yO ?_ | refine yN ?_ _)); refine blk_put (cs := #[.slice Ao14 y381.length co14, .slice none 0 0, .int .i64 0, .bool false]) ?_ 1 _ rfl; (with_reducible repeat (first | refine yM ?_ _ | refine yO ?_ | refine yN ?_ _)); refine blk_put (cs := #[.slice none 0 0, .slice none 0 0, .int .i64 0, .bool false]) ?_ 0 _ rfl; (with_reducible repeat (first | refine yM ?_ _ | refine yO ?_ | refine yN ?_ _)); exact BK377.out) Try.underlying44 rfl (by kernel_rfl)) rfl ?_
      exact ⟨_, _, by first | rfl | (simp <;> rfl) | (simp [*] <;> rfl), by (with_reducible repeat (first | apply yA | apply yB | apply yC)); exact zF (yF (p := ⟨gb377, 3, none⟩) (yF (p := ⟨gb377, 2, none⟩) (yF (p := ⟨gb377, 1, none⟩) (yF (p := ⟨gb377, 0, none⟩) (Kd.R_types HO383.out BK377.out (by decide)) (fun _ hk => hk.2) (.slice Ao14 y381.length co14)) (fun _ hk => hk.2) (.slice Ao13 y387.length co13)) (fun _ hk => hk.2) (.int .i64 a0_2)) (fun _ hk => hk.2) (.bool a0_3)) (fun _ hk => trivial), by (with_reducible repeat (first | apply yA | apply yB | apply yC)); exact zF (yF (p := ⟨gb377, 3, none⟩) (yF (p := ⟨gb377, 2, none⟩) (yF (p := ⟨gb377, 1, none⟩) (yF (p := ⟨gb377, 0, none⟩) (Kd.R_types HO389.out BK377.out (by decide)) (fun _ hk => hk.2) (.slice Ao14 y381.length co14)) (fun _ hk => hk.2) (.slice Ao13 y387.length co13)) (fun _ hk => hk.2) (.int .i64 a0_2)) (fun _ hk => hk.2) (.bool a0_3)) (fun _ hk => trivial), kR1 HB⟩
    · rw [if_neg c3] at H
      exact absurd H (by simp)
  · rw [if_neg c2] at H
    exact absurd H (by simp)

end Go.Proofs.Ytgpkkplabnliiaa.PFnCuts
