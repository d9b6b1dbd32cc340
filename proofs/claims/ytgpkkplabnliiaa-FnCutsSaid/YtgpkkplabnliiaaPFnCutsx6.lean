/- Each Go function here comes to what the plain function of its name says, where that says something. Made by a program of this session, over the print. -/
import Derived.Test.YtgpkkplabnliiaaPFnCutsx0
import Derived.Test.YtgpkkplabnliiaaPFnCutsx5
namespace Go.Proofs.Ytgpkkplabnliiaa.PFnCuts
open Go.RowKit Go.Proofs.YtgpkkplabnliiaaW.PrintWords Go.Proofs.YtgpkkplabnliiaaW.PrintLast Go.Proofs.YtgpkkplabnliiaaW.PrintMore
attribute [local go_sem] max2_int min2_int max_two min_two max_three min_three max_four min_four   -- for this text's walks alone
set_option linter.unusedVariables false
set_option linter.unusedSimpArgs false

/-! ### impl_Disk_afterCut: function 49 -/
def impl_Disk_afterCut.l0 : Nat → List Bool → Int → Int → List (S57) → Int → Int → List ByteArray → Int → Bool → Option (List ByteArray × (List (S57)) × Int × Bool)
  | 0, _, _, _, _, _, _, _, _, _ => none
  | k + 1, x1, x2, x3, x18, x19, x20, x350000, x350002, x350003 => if x20 < x19 then (if 0 ≤ x20 then (if x20 < (x18.length : Int) then (if x20 = x2 then (if 0 ≤ x3 then (if x3 ≤ (((rd_T57 x18 x20).f1).size : Int) then (if 0 ≤ ((rd_T57 x18 x20).f0) then (if ((rd_T57 x18 x20).f0) < (x350000.length : Int) then (if x3 ≤ ((rdOf ByteArray.empty x350000 ((rd_T57 x18 x20).f0)).size : Int) then (if (((rd_T57 x18 x20).f1).extract 0 (x3 : Int).toNat).size + ((rdOf ByteArray.empty x350000 ((rd_T57 x18 x20).f0)).extract (x3 : Int).toNat (rdOf ByteArray.empty x350000 ((rd_T57 x18 x20).f0)).size).size ≤ 9223372036854775807 then (impl_Disk_afterCut.l0 k x1 x2 x3 x18 x19 (wrap64 (x20 + 1)) (x350000.set (((rd_T57 x18 x20).f0) : Int).toNat ((((rd_T57 x18 x20).f1).extract 0 (x3 : Int).toNat) ++ ((rdOf ByteArray.empty x350000 ((rd_T57 x18 x20).f0)).extract (x3 : Int).toNat (rdOf ByteArray.empty x350000 ((rd_T57 x18 x20).f0)).size))) x350002 x350003) else (none)) else (none)) else (none)) else (none)) else (none)) else (none)) else (if x20 < (x1.length : Int) then (if rdOf false x1 x20 = true then (if 0 ≤ 64 then (if 64 ≤ (((rd_T57 x18 x20).f1).size : Int) then (if 0 ≤ ((rd_T57 x18 x20).f0) then (if ((rd_T57 x18 x20).f0) < (x350000.length : Int) then (if 64 ≤ ((rdOf ByteArray.empty x350000 ((rd_T57 x18 x20).f0)).size : Int) then (if (((rd_T57 x18 x20).f1).extract 0 64).size + ((rdOf ByteArray.empty x350000 ((rd_T57 x18 x20).f0)).extract 64 (rdOf ByteArray.empty x350000 ((rd_T57 x18 x20).f0)).size).size ≤ 9223372036854775807 then (impl_Disk_afterCut.l0 k x1 x2 x3 x18 x19 (wrap64 (x20 + 1)) (x350000.set (((rd_T57 x18 x20).f0) : Int).toNat ((((rd_T57 x18 x20).f1).extract 0 64) ++ ((rdOf ByteArray.empty x350000 ((rd_T57 x18 x20).f0)).extract 64 (rdOf ByteArray.empty x350000 ((rd_T57 x18 x20).f0)).size))) x350002 x350003) else (none)) else (none)) else (none)) else (none)) else (none)) else (none)) else (if 0 ≤ 0 then (if 0 ≤ (((rd_T57 x18 x20).f1).size : Int) then (if 0 ≤ ((rd_T57 x18 x20).f0) then (if ((rd_T57 x18 x20).f0) < (x350000.length : Int) then (if 0 ≤ ((rdOf ByteArray.empty x350000 ((rd_T57 x18 x20).f0)).size : Int) then (if (((rd_T57 x18 x20).f1).extract 0 0).size + ((rdOf ByteArray.empty x350000 ((rd_T57 x18 x20).f0)).extract 0 (rdOf ByteArray.empty x350000 ((rd_T57 x18 x20).f0)).size).size ≤ 9223372036854775807 then (impl_Disk_afterCut.l0 k x1 x2 x3 x18 x19 (wrap64 (x20 + 1)) (x350000.set (((rd_T57 x18 x20).f0) : Int).toNat ((((rd_T57 x18 x20).f1).extract 0 0) ++ ((rdOf ByteArray.empty x350000 ((rd_T57 x18 x20).f0)).extract 0 (rdOf ByteArray.empty x350000 ((rd_T57 x18 x20).f0)).size))) x350002 x350003) else (none)) else (none)) else (none)) else (none)) else (none)) else (none))) else (none))) else (none)) else (none)) else (some (x350000, ([] : List (S57)), x350002, x350003))
def impl_Disk_afterCut.f (k : Nat) (l0_0 : List ByteArray) (l0_1 : List (S57)) (a0_2 : Int) (a0_3 : Bool) (l1 : List Bool) (a2 : Int) (a3 : Int) : Option (List ByteArray × (List (S57)) × Int × Bool) := (slices_Clone_string_string.f l0_0).bind fun t346 => (impl_Disk_afterCut.l0 k l1 a2 a3 l0_1 (l0_1.length : Int) 0 t346 (-1) false)
theorem impl_Disk_afterCut.mono_l : ∀ k, (∀ y0 y1 y2 y3 y4 y5 y6 y7 y8, LeO (impl_Disk_afterCut.l0 k y0 y1 y2 y3 y4 y5 y6 y7 y8) (impl_Disk_afterCut.l0 (k + 1) y0 y1 y2 y3 y4 y5 y6 y7 y8))
  | 0 => fun _ _ _ _ _ _ _ _ _ r h => by simp [impl_Disk_afterCut.l0] at h
  | k + 1 => by
    have ih0 := impl_Disk_afterCut.mono_l k
    · intro y0 y1 y2 y3 y4 y5 y6 y7 y8
      unfold impl_Disk_afterCut.l0
      repeat' first
      | (with_reducible exact ih0 _ _ _ _ _ _ _ _ _)
      | (with_reducible exact LeO.refl _)
      | (with_reducible exact LeO.none _)
      | (with_reducible refine LeO.ite ?_ ?_)
      | (with_reducible refine LeO.bind ?_ (fun _ => ?_))
      | exact ih0 _ _ _ _ _ _ _ _ _
      | exact LeO.none _
      | refine LeO.ite ?_ ?_
      | refine LeO.bind ?_ (fun _ => ?_)
theorem impl_Disk_afterCut.mono : ∀ a0 a1 a2 a3 a4 a5 a6 k, LeO (impl_Disk_afterCut.f k a0 a1 a2 a3 a4 a5 a6) (impl_Disk_afterCut.f (k + 1) a0 a1 a2 a3 a4 a5 a6) := by
  intro a0 a1 a2 a3 a4 a5 a6 k
  have ih0 := impl_Disk_afterCut.mono_l k
  unfold impl_Disk_afterCut.f
  repeat' first
      | (with_reducible exact ih0 _ _ _ _ _ _ _ _ _)
      | (with_reducible exact LeO.refl _)
      | (with_reducible exact LeO.none _)
      | (with_reducible refine LeO.ite ?_ ?_)
      | (with_reducible refine LeO.bind ?_ (fun _ => ?_))
      | exact ih0 _ _ _ _ _ _ _ _ _
      | exact LeO.none _
      | refine LeO.ite ?_ ?_
      | refine LeO.bind ?_ (fun _ => ?_)
def impl_Disk_afterCut.T10 : Bool × List (List Nat × List Nat) := (true, [([], []), ([0], [0]), ([], []), ([2], [2]), ([], []), ([4], [4]), ([], []), ([5, 6], [5, 6]), ([], []), ([8], [8]), ([], []), ([10], [10]), ([9, 11], [9, 11]), ([12], [12]), ([], []), ([13, 14], [13, 14]), ([7, 15], [7, 15]), ([1, 3, 0, 1, 2, 3, 4, 5, 6, 7, 8, 9, 10, 11, 12, 13, 14, 15, 16], [1, 3]), ([17, 16, 0, 1, 2, 3, 4, 5, 6, 7, 8, 9, 10, 11, 12, 13, 14, 15, 16], [16, 17])])
def impl_Disk_afterCut.B10 : List Nat := [0, 1, 0, 4, 0, 16, 0, 112, 0, 256, 0, 1024, 3840, 7936, 0, 32512, 65520, 131071, 262143]
theorem impl_Disk_afterCut.tab10 : rtab .any (opsOf Try.f49 10) = impl_Disk_afterCut.T10 := by kernel_rfl
theorem impl_Disk_afterCut.bits10 : waitsOk impl_Disk_afterCut.T10.2 impl_Disk_afterCut.B10 = true := by kernel_rfl
set_option maxHeartbeats 8000000 in
set_option maxRecDepth 100000 in
theorem impl_Disk_afterCut.calls (k : Nat) (A0_0 : Option Addr) (c0_0 : Nat) (l0_0 : List ByteArray) (A0_1 : Option Addr) (c0_1 : Nat) (l0_1 : List (S57)) (a0_2 : Int) (a0_3 : Bool) (A1 : Option Addr) (c1 : Nat) (l1 : List Bool) (a2 : Int) (a3 : Int) (r1 : List ByteArray) (r2 : List (S57)) (r3 : Int) (r4 : Bool) (w : World) (hr0_0 : Kd.C Kd.string w A0_0 l0_0.length l0_0) (hc0_0 : l0_0.length ≤ c0_0) (hr0_1 : Kd.C k57 w A0_1 l0_1.length l0_1) (hc0_1 : l0_1.length ≤ c0_1) (hr1 : Kd.C Kd.bool w A1 l1.length l1) (hc1 : l1.length ≤ c1) (h : impl_Disk_afterCut.f k l0_0 l0_1 a0_2 a0_3 l1 a2 a3 = some (r1, r2, r3, r4)) :
    Calls Try.prog 49 #[.agg #[.slice A0_0 l0_0.length c0_0, .slice A0_1 l0_1.length c0_1, .int .i64 a0_2, .bool a0_3], .slice A1 l1.length c1, .int .i64 a2, .int .i64 a3] w fun e w' => ∃ v0_ v1_ : Value, e = .returned (.agg #[v0_, v1_, .int .i64 r3, .bool r4]) ∧ Kd.R Kd.string 9 w' w.heap.size (fun _ => True) v0_ r1 ∧ Kd.R k57 57 w' w.heap.size (fun _ => True) v1_ r2 ∧ Below w.heap.size w w' := by
  have hu44 := Try.underlying44; have hu57 := Try.underlying57
  have HR0_0 := yD hr0_0
  have HC0_0 := yD hc0_0
  clear hr0_0 hc0_0
  have HR0_1 := yD hr0_1
  have HC0_1 := yD hc0_1
  clear hr0_1 hc0_1
  have HR1 := yD hr1
  have HC1 := yD hc1
  clear hr1 hc1
  have HB := yD (Below.refl w.heap.size w)
  have H : ((slices_Clone_string_string.f l0_0).bind fun t346 => (impl_Disk_afterCut.l0 k l1 a2 a3 l0_1 (l0_1.length : Int) 0 t346 (-1) false)) = some (r1, r2, r3, r4) := h
  clear h
  obtain ⟨t346, A50, H⟩ := zW_ H
  replace H : (impl_Disk_afterCut.l0 k l1 a2 a3 l0_1 (l0_1.length : Int) 0 t346 (-1) false) = some (r1, r2, r3, r4) := H
  have A5 := yD A50
  clear A50
  have H' := yD H
  clear H; go_enter Try.func49, Try.ntmps49
  go_wp2_with (first | ((with_reducible refine gate_dst (N := 4) rfl ?_); refine box_event ?hg (N := 4) ?hd (cs := #[.slice A0_0 l0_0.length c0_0, .slice A0_1 l0_1.length c0_1, .int .i64 a0_2, .bool a0_3]) (t := 44) ?hr ?_; (case hd => rfl); (case hg => rfl); (case hr => first | (go_simp; done) | (go_simp; rfl)); intro gb344 hg w6 hbox hb; have n0_ := yD (zC (kB HB) hb); have n1_ := yD (hbox); have n2_ := yD ((by rw [hg]; exact (below_size (kB HB)) : w.heap.size ≤ gb344)); have n3_ := yD ((by rw [hg]; exact (below_size (kB HB)) : w.heap.size ≤ gb344)); clear HB; have HB := n0_; have BK344 := n1_; have GW344 := n2_; have GE344 := n3_; clear n0_ n1_ n2_ n3_; clear hb hbox hg) | ((with_reducible refine gate_dst (N := 8) rfl ?_); refine box_event ?hg (N := 8) ?hd (cs := #[.slice none 0 0, .slice none 0 0, .int .i64 0, .bool false]) (t := 44) ?hr ?_; (case hd => rfl); (case hg => rfl); (case hr => first | (go_simp; done) | (go_simp; rfl)); intro gb345 hg w7 hbox hb; have n0_ := yD (zB (g := gb344) (o := .cells #[.slice A0_0 l0_0.length c0_0, .slice A0_1 l0_1.length c0_1, .int .i64 a0_2, .bool a0_3] 44 (0, 0)) (kM BK344) hb); have n1_ := yD (zC (kB HB) hb); have n2_ := yD (hbox); have n3_ := yD ((by rw [hg]; exact (below_size (kB HB)) : w.heap.size ≤ gb345)); have n4_ := yD ((by rw [hg]; exact (below_size (kB HB)) : w.heap.size ≤ gb345)); have n5_ := yD ((by rw [hg]; exact Nat.ne_of_lt (blk_lt (g := gb344) (o := .cells #[.slice A0_0 l0_0.length c0_0, .slice A0_1 l0_1.length c0_1, .int .i64 a0_2, .bool a0_3] 44 (0, 0)) (kM BK344)) : gb344 ≠ gb345)); have n6_ := yD ((by rw [hg]; exact Nat.ne_of_gt (blk_lt (g := gb344) (o := .cells #[.slice A0_0 l0_0.length c0_0, .slice A0_1 l0_1.length c0_1, .int .i64 a0_2, .bool a0_3] 44 (0, 0)) (kM BK344)) : gb345 ≠ gb344)); clear BK344; clear HB; have BK344 := n0_; have HB := n1_; have BK345 := n2_; have GW345 := n3_; have GE345 := n4_; have NB344_345 := n5_; have NB345_344 := n6_; clear n0_ n1_ n2_ n3_ n4_ n5_ n6_; clear hb hbox hg; have hnb8 := NB344_345.out; have hnc8 := NB345_344.out; obtain ⟨hcz9_0, hcz9_1, hcz9_2, hcz9_3⟩ := cz4 BK344.out; obtain ⟨hfz9_0, hfz9_1, hfz9_2, hfz9_3⟩ := fz4 BK344.out) | ((with_reducible refine gate_callee (f := 83) rfl ?_); refine goesL_ (some 15) rfl rfl Try.func83 (by kernel_rfl) rfl #[.slice A0_0 l0_0.length c0_0] rfl (by (try simp only [zK, zL, zM]); first | done | rfl | (simp only [zN, zO]; rfl)) ?_; (with_reducible refine (slices_Clone_string_string.calls _ _ l0_0 t346 _ ?side1 ?side2 A5.out).mono ?_); (case side1 => exact kV (yY HR0_0.out HB.out)); (case side2 => exact HC0_0.out); rintro e w10 ⟨v347, rfl, ho0, hb⟩; refine ⟨_, rfl, ?_⟩; have n0_ := yD (yZ ho0 (below_size (kB HB))); have n1_ := yD (zB (g := gb344) (o := .cells #[.slice A0_0 l0_0.length c0_0, .slice A0_1 l0_1.length c0_1, .int .i64 a0_2, .bool a0_3] 44 (0, 0)) (kM BK344) hb); have n2_ := yD (zB (g := gb345) (o := .cells #[.slice none 0 0, .slice none 0 0, .int .i64 0, .bool false] 44 (0, 0)) (kM BK345) hb); have n3_ := yD (zC (kB HB) hb); clear BK344; clear BK345; clear HB; have HO348 := n0_; have BK344 := n1_; have BK345 := n2_; have HB := n3_; clear n0_ n1_ n2_ n3_; (try clear hb); (try clear hb2); (try clear hk); (try clear hi); (try clear ho0); obtain ⟨Ao11, co11, eo11⟩ := Kd.R_slice HO348.out; subst eo11) | ((with_reducible refine gate_dst (N := 9) rfl ?_); refine box_event ?hg (N := 9) ?hd (cs := #[.slice none 0 0, .slice none 0 0, .int .i64 0, .bool false]) (t := 44) ?hr ?_; (case hd => rfl); (case hg => rfl); (case hr => first | (go_simp; done) | (go_simp; rfl)); intro gb349 hg w12 hbox hb; have n0_ := yD (zE (kA HO348) hb); have n1_ := yD (zB (g := gb344) (o := .cells #[.slice A0_0 l0_0.length c0_0, .slice A0_1 l0_1.length c0_1, .int .i64 a0_2, .bool a0_3] 44 (0, 0)) (kM BK344) hb); have n2_ := yD (zB (g := gb345) (o := .cells #[.slice none 0 0, .slice none 0 0, .int .i64 0, .bool false] 44 (0, 0)) (kM BK345) hb); have n3_ := yD (zC (kB HB) hb); have n4_ := yD (hbox); have n5_ := yD ((by rw [hg]; exact (below_size (kB HB)) : w.heap.size ≤ gb349)); have n6_ := yD ((by rw [hg]; exact (below_size (kB HB)) : w.heap.size ≤ gb349)); have n7_ := yD ((by rw [hg]; exact Nat.ne_of_lt (blk_lt (g := gb344) (o := .cells #[.slice A0_0 l0_0.length c0_0, .slice A0_1 l0_1.length c0_1, .int .i64 a0_2, .bool a0_3] 44 (0, 0)) (kM BK344)) : gb344 ≠ gb349)); have n8_ := yD ((by rw [hg]; exact Nat.ne_of_gt (blk_lt (g := gb344) (o := .cells #[.slice A0_0 l0_0.length c0_0, .slice A0_1 l0_1.length c0_1, .int .i64 a0_2, .bool a0_3] 44 (0, 0)) (kM BK344)) : gb349 ≠ gb344)); have n9_ := yD ((by rw [hg]; exact Nat.ne_of_lt (blk_lt (g := gb345) (o := .cells #[.slice none 0 0, .slice none 0 0, .int .i64 0, .bool false] 44 (0, 0)) (kM BK345)) : gb345 ≠ gb349)); have n10_ := yD ((by rw [hg]; exact Nat.ne_of_gt (blk_lt (g := gb345) (o := .cells #[.slice none 0 0, .slice none 0 0, .int .i64 0, .bool false] 44 (0, 0)) (kM BK345)) : gb349 ≠ gb345)); clear HO348; clear BK344; clear BK345; clear HB; have HO348 := n0_; have BK344 := n1_; have BK345 := n2_; have HB := n3_; have BK349 := n4_; have GW349 := n5_; have GE349 := n6_; have NB344_349 := n7_; have NB349_344 := n8_; have NB345_349 := n9_; have NB349_345 := n10_; clear n0_ n1_ n2_ n3_ n4_ n5_ n6_ n7_ n8_ n9_ n10_; clear hb hbox hg; have hnb13 := NB349_344.out; have hnc13 := NB344_349.out; have hnb14 := NB349_345.out; have hnc14 := NB345_349.out; obtain ⟨hcz15_0, hcz15_1, hcz15_2, hcz15_3⟩ := cz4 BK349.out; obtain ⟨hfz15_0, hfz15_1, hfz15_2, hfz15_3⟩ := fz4 BK349.out; obtain ⟨hcz16_0, hcz16_1, hcz16_2, hcz16_3⟩ := cz4 BK344.out; obtain ⟨hfz16_0, hfz16_1, hfz16_2, hfz16_3⟩ := fz4 BK344.out))
  go_loopg [20] k (fun kq v20 w' => ∃ (x20_1 : Int) (x350000_1 : List ByteArray) (u350000 : Value), v20 = .int .i64 x20_1 ∧ Aside0 (impl_Disk_afterCut.l0 kq l1 a2 a3 l0_1 (l0_1.length : Int) x20_1 x350000_1 (-1) false = some (r1, r2, r3, r4)) ∧ Aside0 (kq ≤ k) ∧ Aside0 (Kd.R Kd.string 9 w' w.heap.size (fun _ => True) u350000 x350000_1) ∧ Aside0 (w'.heap[gb344]? = some (.cells #[(.slice A0_0 l0_0.length c0_0), (.slice A0_1 l0_1.length c0_1), .int .i64 a0_2, .bool a0_3] 44 (0, 0))) ∧ Aside0 (w'.heap[gb345]? = some (.cells #[(.slice none 0 0), (.slice none 0 0), .int .i64 0, .bool false] 44 (0, 0))) ∧ Aside0 (w'.heap[gb349]? = some (.cells #[u350000, (.slice none 0 0), .int .i64 (-1), .bool false] 44 (0, 0))) ∧ Aside0 (Below w.heap.size w w'))
  case atStart => exact ⟨(0), (t346), (.slice Ao11 t346.length co11), (by first | rfl | (simp; done) | (simp [*]; done)), H', ⟨Nat.le_refl _⟩, ⟨by (with_reducible repeat (first | apply yA | apply yB | apply yC)); exact zF (yF (p := ⟨gb349, 3, none⟩) (yF (p := ⟨gb349, 2, none⟩) (yF (p := ⟨gb349, 1, none⟩) (yF (p := ⟨gb349, 0, none⟩) (Kd.R_types HO348.out BK349.out (by decide)) (fun _ hk => hk.2) (.slice Ao11 t346.length co11)) (fun _ hk => hk.2) (.slice none 0 0)) (fun _ hk => hk.2) (.int .i64 (-1))) (fun _ hk => hk.2) (.bool false)) (fun _ hk => trivial)⟩, ⟨by (with_reducible repeat (first | refine yM ?_ _ | refine yO ?_ | refine yN ?_ _)); refine blk_far ?_ NB344_349.out _; (with_reducible repeat (first | refine yM ?_ _ | refine yO ?_ | refine yN ?_ _)); refine blk_far ?_ NB344_349.out _; (with_reducible repeat (first | refine yM ?_ _ | refine yO ?_ | refine yN ?_ _)); refine blk_far ?_ NB344_349.out _; (with_reducible repeat (first | refine yM ?_ _ | refine yO ?_ | refine yN ?_ _)); refine blk_far ?_ NB344_349.out _; (with_reducible repeat (first | refine yM ?_ _ | refine yO ?_ | refine yN ?_ _)); exact BK344.out⟩, ⟨by (with_reducible repeat (first | refine yM ?_ _ | refine yO ?_ | refine yN ?_ _)); refine blk_far ?_ NB345_349.out _; (with_reducible repeat (first | refine yM ?_ _ | refine yO ?_ | refine yN ?_ _)); refine blk_far ?_ NB345_349.out _; (with_reducible repeat (first | refine yM ?_ _ | refine yO ?_ | refine yN ?_ _)); refine blk_far ?_ NB345_349.out _; (with_reducible repeat (first | refine yM ?_ _ | refine yO ?_ | refine yN ?_ _)); refine blk_far ?_ NB345_349.out _; (with_reducible repeat (first | refine yM ?_ _ | refine yO ?_ | refine yN ?_ _)); exact BK345.out⟩, ⟨by (with_reducible repeat (first | refine yM ?_ _ | refine yO ?_ | refine yN ?_ _)); refine blk_put (cs := #[.slice Ao11 t346.length co11, .slice none 0 0, .int .i64 (-1), .bool false]) ?_ 3 _ rfl; (with_reducible repeat (first | refine yM ?_ _ | refine yO ?_ | refine yN ?_ _)); refine blk_put (cs := #[.slice Ao11 t346.length co11, .slice none 0 0, .int .i64 0, .bool false]) ?_ 2 _ rfl; (with_reducible repeat (first | refine yM ?_ _ | refine yO ?_ | refine yN ?_ _)); refine blk_put (cs := #[.slice Ao11 t346.length co11, .slice none 0 0, .int .i64 0, .bool false]) ?_ 1 _ rfl; (with_reducible repeat (first | refine yM ?_ _ | refine yO ?_ | refine yN ?_ _)); refine blk_put (cs := #[.slice none 0 0, .slice none 0 0, .int .i64 0, .bool false]) ?_ 0 _ rfl; (with_reducible repeat (first | refine yM ?_ _ | refine yO ?_ | refine yN ?_ _)); exact BK349.out⟩, ⟨kR1 HB⟩⟩
  case round =>
    clear H'
    try clear c1; try clear p2; try clear c4; try clear c8; try clear c13; try clear c14; try clear hcz15_0; try clear hcz15_1; try clear hcz15_2; try clear hcz15_3; try clear hcz16_0; try clear hcz16_1; try clear hcz16_2; try clear hcz16_3; try clear hcz9_0; try clear hcz9_1; try clear hcz9_2; try clear hcz9_3; try clear hfz15_0; try clear hfz15_1; try clear hfz15_2; try clear hfz15_3; try clear hfz16_0; try clear hfz16_1; try clear hfz16_2; try clear hfz16_3; try clear hfz9_0; try clear hfz9_1; try clear hfz9_2; try clear hfz9_3
    obtain ⟨x20_1, x350000_1, u350000, rfl, HA, HK1, HO_350000, BK344, BK345, BK349, HB⟩ := hrel
    cases gk with
    | zero => exact absurd HA.out (by simp [impl_Disk_afterCut.l0])
    | succ k1 =>
      have H := HA.out; clear HA
      simp only [impl_Disk_afterCut.l0] at H
      by_cases c17 : x20_1 < (l0_1.length : Int)
      · rw [if_pos c17] at H
        have c17b0 : decide (x20_1 < (l0_1.length : Int)) = true := zR c17; clear c17
        by_cases c18 : 0 ≤ x20_1
        · rw [if_pos c18] at H
          have c18b0 : decide (0 ≤ x20_1) = true := zR c18; clear c18
          by_cases c19 : x20_1 < (l0_1.length : Int)
          · rw [if_pos c19] at H
            have c19b0 : decide (x20_1 < (l0_1.length : Int)) = true := zR c19; clear c19
            by_cases c20 : x20_1 = a2
            · rw [if_pos c20] at H
              have c20b0 : (x20_1 == a2) = true := beq_iff_eq.mpr c20
              have c20b1 : (x20_1 != a2) = false := bne_eq_false_iff_eq.mpr c20
              clear c20
              by_cases c21 : 0 ≤ a3
              · rw [if_pos c21] at H
                have c21b0 := eq_true c21
                have c21b1 : decide (0 ≤ a3) = true := zR c21; clear c21
                by_cases c22 : a3 ≤ (((rd_T57 l0_1 x20_1).f1).size : Int)
                · rw [if_pos c22] at H
                  have c22b0 := eq_true c22
                  have c22b1 : decide (a3 ≤ (((rd_T57 l0_1 x20_1).f1).size : Int)) = true := zR c22; clear c22
                  by_cases c23 : 0 ≤ ((rd_T57 l0_1 x20_1).f0)
                  · rw [if_pos c23] at H
                    have c23b0 : decide (0 ≤ ((rd_T57 l0_1 x20_1).f0)) = true := zR c23; clear c23
                    by_cases c24 : ((rd_T57 l0_1 x20_1).f0) < (x350000_1.length : Int)
                    · rw [if_pos c24] at H
                      have c24b0 : decide (((rd_T57 l0_1 x20_1).f0) < (x350000_1.length : Int)) = true := zR c24; clear c24
                      have c25b0 := eq_true (zP (by assumption) : 0 ≤ a3)
                      by_cases c26 : a3 ≤ ((rdOf ByteArray.empty x350000_1 ((rd_T57 l0_1 x20_1).f0)).size : Int)
                      · rw [if_pos c26] at H
                        have c26b0 := eq_true c26
                        have c26b1 : decide (a3 ≤ ((rdOf ByteArray.empty x350000_1 ((rd_T57 l0_1 x20_1).f0)).size : Int)) = true := zR c26; clear c26
                        by_cases c27 : (((rd_T57 l0_1 x20_1).f1).extract 0 (a3 : Int).toNat).size + ((rdOf ByteArray.empty x350000_1 ((rd_T57 l0_1 x20_1).f0)).extract (a3 : Int).toNat (rdOf ByteArray.empty x350000_1 ((rd_T57 l0_1 x20_1).f0)).size).size ≤ 9223372036854775807
                        · rw [if_pos c27] at H
                          have c27b0 := eq_true c27
                          have c27b1 : decide ((((rd_T57 l0_1 x20_1).f1).extract 0 (a3 : Int).toNat).size + ((rdOf ByteArray.empty x350000_1 ((rd_T57 l0_1 x20_1).f0)).extract (a3 : Int).toNat (rdOf ByteArray.empty x350000_1 ((rd_T57 l0_1 x20_1).f0)).size).size ≤ 9223372036854775807) = true := zR c27
                          try have c27b2 : (9223372036854775807 < (((rd_T57 l0_1 x20_1).f1).extract 0 (a3 : Int).toNat).size + ((rdOf ByteArray.empty x350000_1 ((rd_T57 l0_1 x20_1).f0)).extract (a3 : Int).toNat (rdOf ByteArray.empty x350000_1 ((rd_T57 l0_1 x20_1).f0)).size).size) = False := eq_false (Nat.not_lt.2 c27)
                          obtain ⟨y353, hy353⟩ : ∃ y_ : List ByteArray, y_ = (x350000_1.set (((rd_T57 l0_1 x20_1).f0) : Int).toNat ((((rd_T57 l0_1 x20_1).f1).extract 0 (a3 : Int).toNat) ++ ((rdOf ByteArray.empty x350000_1 ((rd_T57 l0_1 x20_1).f0)).extract (a3 : Int).toNat (rdOf ByteArray.empty x350000_1 ((rd_T57 l0_1 x20_1).f0)).size))) := ⟨_, rfl⟩
                          replace H : (impl_Disk_afterCut.l0 k1 l1 a2 a3 l0_1 (l0_1.length : Int) (wrap64 (x20_1 + 1)) y353 (-1) false) = some (r1, r2, r3, r4) := by first | (rw [hy353]; with_reducible exact H) | (have H2_ := (Option.bind_some _ _).symm.trans H; rw [hy353]; with_reducible exact H2_) | (have H2_ := (Option.bind_some _ _).symm.trans H; with_reducible exact H2_) | with_reducible exact H | (rw [hy353]; exact H) | exact H
                          have Ny353 := yD hy353
                          clear hy353
                          have H' := yD H
                          clear H
                          have p350 : 0 ≤ (x20_1 : Int) := zP (by assumption)
                          have q350 : x20_1 < (l0_1.length : Int) := zP (by assumption)
                          obtain ⟨ad350, e350, hx350_0, hx350_1⟩ := at_T57 HR0_1.out x20_1 p350 q350
                          cases e350
                          replace hx350_0 := (HB.out.cell (zQ w _ hx350_0)).trans hx350_0
                          replace hx350_1 := (HB.out.cell (zQ w _ hx350_1)).trans hx350_1
                          replace p350 := eq_true p350; replace q350 := eq_true q350
                          try go_wp2_with (first | ((with_reducible refine gate_dst (N := 11) rfl ?_); refine box_event ?hg (N := 11) ?hd (cs := #[.int .i64 0, .string (⟨#[]⟩ : ByteArray)]) (t := 57) ?hr ?_; (case hd => rfl); (case hg => rfl); (case hr => first | (go_simp; done) | (go_simp; rfl)); intro gb351 hg w29 hbox hb; have n0_ := yD (zE (kA HO_350000) hb); have n1_ := yD (zB (g := gb344) (o := .cells #[.slice A0_0 l0_0.length c0_0, .slice (some ad350) l0_1.length c0_1, .int .i64 a0_2, .bool a0_3] 44 (0, 0)) (kM BK344) hb); have n2_ := yD (zB (g := gb345) (o := .cells #[.slice none 0 0, .slice none 0 0, .int .i64 0, .bool false] 44 (0, 0)) (kM BK345) hb); have n3_ := yD (zB (g := gb349) (o := .cells #[u350000, .slice none 0 0, .int .i64 (-1), .bool false] 44 (0, 0)) (kM BK349) hb); have n4_ := yD (zC (kB HB) hb); have n5_ := yD (hbox); have n6_ := yD ((by rw [hg]; exact (below_size (kB HB)) : w.heap.size ≤ gb351)); have n7_ := yD ((by rw [hg]; exact (below_size (kB HB)) : w.heap.size ≤ gb351)); have n8_ := yD ((by rw [hg]; exact Nat.ne_of_lt (blk_lt (g := gb344) (o := .cells #[.slice A0_0 l0_0.length c0_0, .slice (some ad350) l0_1.length c0_1, .int .i64 a0_2, .bool a0_3] 44 (0, 0)) (kM BK344)) : gb344 ≠ gb351)); have n9_ := yD ((by rw [hg]; exact Nat.ne_of_gt (blk_lt (g := gb344) (o := .cells #[.slice A0_0 l0_0.length c0_0, .slice (some ad350) l0_1.length c0_1, .int .i64 a0_2, .bool a0_3] 44 (0, 0)) (kM BK344)) : gb351 ≠ gb344)); have n10_ := yD ((by rw [hg]; exact Nat.ne_of_lt (blk_lt (g := gb345) (o := .cells #[.slice none 0 0, .slice none 0 0, .int .i64 0, .bool false] 44 (0, 0)) (kM BK345)) : gb345 ≠ gb351)); have n11_ := yD ((by rw [hg]; exact Nat.ne_of_gt (blk_lt (g := gb345) (o := .cells #[.slice none 0 0, .slice none 0 0, .int .i64 0, .bool false] 44 (0, 0)) (kM BK345)) : gb351 ≠ gb345)); have n12_ := yD ((by rw [hg]; exact Nat.ne_of_lt (blk_lt (g := gb349) (o := .cells #[u350000, .slice none 0 0, .int .i64 (-1), .bool false] 44 (0, 0)) (kM BK349)) : gb349 ≠ gb351)); have n13_ := yD ((by rw [hg]; exact Nat.ne_of_gt (blk_lt (g := gb349) (o := .cells #[u350000, .slice none 0 0, .int .i64 (-1), .bool false] 44 (0, 0)) (kM BK349)) : gb351 ≠ gb349)); clear HO_350000; clear BK344; clear BK345; clear BK349; clear HB; have HO_350000 := n0_; have BK344 := n1_; have BK345 := n2_; have BK349 := n3_; have HB := n4_; have BK351 := n5_; have GW351 := n6_; have GE351 := n7_; have NB344_351 := n8_; have NB351_344 := n9_; have NB345_351 := n10_; have NB351_345 := n11_; have NB349_351 := n12_; have NB351_349 := n13_; clear n0_ n1_ n2_ n3_ n4_ n5_ n6_ n7_ n8_ n9_ n10_ n11_ n12_ n13_; clear hb hbox hg; have hnb30 := NB351_344.out; have hnc30 := NB344_351.out; have hnb31 := NB351_345.out; have hnc31 := NB345_351.out; have hnb32 := NB351_349.out; have hnc32 := NB349_351.out; obtain ⟨hcz33_0, hcz33_1⟩ := cz2 BK351.out; obtain ⟨hfz33_0, hfz33_1⟩ := fz2 BK351.out))
                          have n0_ : Aside0 (Kd.R Kd.string 9 ((w29.setCell ⟨gb351, 0, none⟩ (.int .i64 ((rd_T57 l0_1 x20_1).f0))).setCell ⟨gb351, 1, none⟩ (.string ((rd_T57 l0_1 x20_1).f1))) w.heap.size (fun _ => True) u350000 x350000_1) := ⟨by (with_reducible repeat (first | apply yA | apply yB | apply yC)); exact zF (yF (p := ⟨gb351, 1, none⟩) (yF (p := ⟨gb351, 0, none⟩) (Kd.R_types HO_350000.out BK351.out (by decide)) (fun _ hk => hk.2) (.int .i64 ((rd_T57 l0_1 x20_1).f0))) (fun _ hk => hk.2) (.string ((rd_T57 l0_1 x20_1).f1))) (fun _ hk => trivial)⟩
                          have n1_ : Aside0 (((w29.setCell ⟨gb351, 0, none⟩ (.int .i64 ((rd_T57 l0_1 x20_1).f0))).setCell ⟨gb351, 1, none⟩ (.string ((rd_T57 l0_1 x20_1).f1))).heap[gb344]? = some (.cells #[.slice A0_0 l0_0.length c0_0, .slice (some ad350) l0_1.length c0_1, .int .i64 a0_2, .bool a0_3] 44 (0, 0))) := ⟨by (with_reducible repeat (first | refine yM ?_ _ | refine yO ?_ | refine yN ?_ _)); refine blk_far ?_ NB344_351.out _; (with_reducible repeat (first | refine yM ?_ _ | refine yO ?_ | refine yN ?_ _)); refine blk_far ?_ NB344_351.out _; (with_reducible repeat (first | refine yM ?_ _ | refine yO ?_ | refine yN ?_ _)); exact BK344.out⟩
                          have n2_ : Aside0 (((w29.setCell ⟨gb351, 0, none⟩ (.int .i64 ((rd_T57 l0_1 x20_1).f0))).setCell ⟨gb351, 1, none⟩ (.string ((rd_T57 l0_1 x20_1).f1))).heap[gb345]? = some (.cells #[.slice none 0 0, .slice none 0 0, .int .i64 0, .bool false] 44 (0, 0))) := ⟨by (with_reducible repeat (first | refine yM ?_ _ | refine yO ?_ | refine yN ?_ _)); refine blk_far ?_ NB345_351.out _; (with_reducible repeat (first | refine yM ?_ _ | refine yO ?_ | refine yN ?_ _)); refine blk_far ?_ NB345_351.out _; (with_reducible repeat (first | refine yM ?_ _ | refine yO ?_ | refine yN ?_ _)); exact BK345.out⟩
                          have n3_ : Aside0 (((w29.setCell ⟨gb351, 0, none⟩ (.int .i64 ((rd_T57 l0_1 x20_1).f0))).setCell ⟨gb351, 1, none⟩ (.string ((rd_T57 l0_1 x20_1).f1))).heap[gb349]? = some (.cells #[u350000, .slice none 0 0, .int .i64 (-1), .bool false] 44 (0, 0))) := ⟨by (with_reducible repeat (first | refine yM ?_ _ | refine yO ?_ | refine yN ?_ _)); refine blk_far ?_ NB349_351.out _; (with_reducible repeat (first | refine yM ?_ _ | refine yO ?_ | refine yN ?_ _)); refine blk_far ?_ NB349_351.out _; (with_reducible repeat (first | refine yM ?_ _ | refine yO ?_ | refine yN ?_ _)); exact BK349.out⟩
                          have n4_ : Aside0 (((w29.setCell ⟨gb351, 0, none⟩ (.int .i64 ((rd_T57 l0_1 x20_1).f0))).setCell ⟨gb351, 1, none⟩ (.string ((rd_T57 l0_1 x20_1).f1))).heap[gb351]? = some (.cells #[.int .i64 ((rd_T57 l0_1 x20_1).f0), .string ((rd_T57 l0_1 x20_1).f1)] 57 (0, 0))) := ⟨by (with_reducible repeat (first | refine yM ?_ _ | refine yO ?_ | refine yN ?_ _)); refine blk_put (cs := #[.int .i64 ((rd_T57 l0_1 x20_1).f0), .string (⟨#[]⟩ : ByteArray)]) ?_ 1 _ rfl; (with_reducible repeat (first | refine yM ?_ _ | refine yO ?_ | refine yN ?_ _)); refine blk_put (cs := #[.int .i64 0, .string (⟨#[]⟩ : ByteArray)]) ?_ 0 _ rfl; (with_reducible repeat (first | refine yM ?_ _ | refine yO ?_ | refine yN ?_ _)); exact BK351.out⟩
                          have n5_ : Aside0 (Below w.heap.size w ((w29.setCell ⟨gb351, 0, none⟩ (.int .i64 ((rd_T57 l0_1 x20_1).f0))).setCell ⟨gb351, 1, none⟩ (.string ((rd_T57 l0_1 x20_1).f1)))) := ⟨kR1 HB⟩
                          (try clear HO_350000); (try clear BK344); (try clear BK345); (try clear BK349); (try clear BK351); (try clear HB)
                          generalize ((w29.setCell ⟨gb351, 0, none⟩ (.int .i64 ((rd_T57 l0_1 x20_1).f0))).setCell ⟨gb351, 1, none⟩ (.string ((rd_T57 l0_1 x20_1).f1))) = w34 at n0_ n1_ n2_ n3_ n4_ n5_ ⊢
                          have HO_350000 := n0_; have BK344 := n1_; have BK345 := n2_; have BK349 := n3_; have BK351 := n4_; have HB := n5_; clear n0_ n1_ n2_ n3_ n4_ n5_
                          have n0_ := yD (yC HO_350000.out)
                          have n1_ := yD (yO BK344.out)
                          have n2_ := yD (yO BK345.out)
                          have n3_ := yD (yO BK349.out)
                          have n4_ := yD (yO BK351.out)
                          have n5_ := yD (yP HB.out)
                          clear HO_350000 BK344 BK345 BK349 BK351 HB; have HO_350000 := n0_; have BK344 := n1_; have BK345 := n2_; have BK349 := n3_; have BK351 := n4_; have HB := n5_; clear n0_ n1_ n2_ n3_ n4_ n5_
                          obtain ⟨Ao36, co36, eo36⟩ := Kd.R_slice HO_350000.out
                          (first | subst eo36 | (injection eo36 with f1_ f2_ f3_; have f4_ := f1_.symm; have f5_ := f3_.symm; clear f1_ f2_ f3_; subst f4_; subst f5_))
                          have p352 : 0 ≤ (((rd_T57 l0_1 x20_1).f0) : Int) := zP (by assumption)
                          have q352 : ((rd_T57 l0_1 x20_1).f0) < (x350000_1.length : Int) := zP (by assumption)
                          obtain ⟨ad352, e352, hx352_0⟩ := Kd.at_string (zA HO_350000.out).2.2 ((rd_T57 l0_1 x20_1).f0) p352 q352
                          cases e352; replace p352 := eq_true p352; replace q352 := eq_true q352
                          have p28 : 0 ≤ (((rd_T57 l0_1 x20_1).f0) : Int) := zP (by assumption)
                          have q28 : (((rd_T57 l0_1 x20_1).f0) : Int) < ((x350000_1.length : Int) : Int) := zP (by assumption)
                          obtain ⟨go28, co28, eo28, gb28, gl28, cl28, HG28⟩ := Kd.R_form HO_350000.out (by omega)
                          (first | cases eo28 | (injection eo28 with ea_ en_ ec_; (first | subst ea_ | (injection ea_ with ea_; subst ea_)); subst ec_; clear en_))
                          have GB28 := yD gb28
                          have GG28 := yD HG28
                          clear gb28 gl28 HG28
                          (first | simp only [add_plain] at hx352_0 | skip)
                          obtain ⟨hx28_0, hf28_0⟩ := Kd.R_celln (⟨#[]⟩ : ByteArray) HO_350000.out (((rd_T57 l0_1 x20_1).f0) : Int) p28 q28
                          replace p28 := eq_true p28; replace q28 := eq_true q28
                          have HP37 := Kd.R_putn HO_350000.out (((rd_T57 l0_1 x20_1).f0) : Int) ((((rd_T57 l0_1 x20_1).f1).extract 0 (a3 : Int).toNat) ++ ((rdOf ByteArray.empty x350000_1 ((rd_T57 l0_1 x20_1).f0)).extract (a3 : Int).toNat (rdOf ByteArray.empty x350000_1 ((rd_T57 l0_1 x20_1).f0)).size))
                          rw [← Ny353.out] at HP37
                          have HQ37 := yD HP37
                          clear HP37
                          refine start_ (n := 19) (S := fun w' => w'.cell? ⟨gb349, 0, none⟩ = some (.slice (some ⟨go28, 0, none⟩) x350000_1.length co36) ∧ w'.cell? ⟨gb349, 1, none⟩ = some (.slice none 0 0) ∧ w'.cell? ⟨gb349, 2, none⟩ = some (.int .i64 (-1)) ∧ w'.cell? ⟨gb349, 3, none⟩ = some (.bool false) ∧ w'.cell? ⟨gb351, 0, none⟩ = some (.int .i64 ((rd_T57 l0_1 x20_1).f0)) ∧ w'.cell? ⟨gb351, 1, none⟩ = some (.string ((rd_T57 l0_1 x20_1).f1)) ∧ w'.cell? ⟨go28, (((rd_T57 l0_1 x20_1).f0)).toNat, none⟩ = some (.string (rdOf ByteArray.empty x350000_1 ((rd_T57 l0_1 x20_1).f0)))) (ds := [18]) (bz 19 0) (by kernel_rfl) rfl rfl ⟨(yG BK349.out 0).trans rfl, (yG BK349.out 1).trans rfl, (yG BK349.out 2).trans rfl, (yG BK349.out 3).trans rfl, (yG BK351.out 0).trans rfl, (yG BK351.out 1).trans rfl, hx352_0⟩ (fun hHeld => ?_); refine with_tabW impl_Disk_afterCut.tab10 impl_Disk_afterCut.bits10 (fun HT_ HW_ => ?_)
                          generalize w34.drew = w35 at HO_350000 BK344 BK345 BK349 BK351 HB GG28 HQ37 hf28_0 hx28_0 hx352_0 hHeld ⊢
                          refine qA 0 35 (bz 19 1) HT_ ?_
                          refine qA 2 37 (bz 19 5) HT_ ?_
                          refine qA 4 39 (bz 19 21) HT_ ?_
                          refine qA 6 41 (bz 19 85) HT_ ?_
                          refine qA 8 43 (bz 19 341) HT_ ?_
                          refine qA 10 45 (bz 19 1365) HT_ ?_
                          refine qA 14 49 (bz 19 17749) HT_ ?_
                          refine qC 1 36 (bz 19 17751) HT_ HW_ hHeld ?_ (hy := by rintro w' ⟨s0, s1, s2, s3, s4, s5, s6⟩; go_simp; with_reducible rfl)
                          refine qC 3 38 (bz 19 17759) HT_ HW_ hHeld ?_ (hy := by rintro w' ⟨s0, s1, s2, s3, s4, s5, s6⟩; go_simp; with_reducible rfl)
                          refine qC 5 40 (bz 19 17791) HT_ HW_ hHeld ?_ (hy := by rintro w' ⟨s0, s1, s2, s3, s4, s5, s6⟩; go_simp; with_reducible rfl)
                          refine qA 7 42 (bz 19 17919) HT_ ?_
                          refine qC 9 44 (bz 19 18431) HT_ HW_ hHeld ?_ (hy := by rintro w' ⟨s0, s1, s2, s3, s4, s5, s6⟩; go_simp; with_reducible rfl)
                          refine qC 11 46 (bz 19 20479) HT_ HW_ hHeld ?_ (hy := by rintro w' ⟨s0, s1, s2, s3, s4, s5, s6⟩; go_simp; with_reducible rfl)
                          refine qA 12 47 (bz 19 24575) HT_ ?_
                          refine qC 13 48 (bz 19 32767) HT_ HW_ hHeld ?_ (hy := by rintro w' ⟨s0, s1, s2, s3, s4, s5, s6⟩; go_simp; with_reducible rfl)
                          refine qA 15 50 (bz 19 65535) HT_ ?_
                          have u0_ : 0 ≤ a3 := zP (by assumption)
                          have u1_ : a3 ≤ (((rd_T57 l0_1 x20_1).f1).size : Int) := zP (by assumption)
                          have u2_ : a3 ≤ ((rdOf ByteArray.empty x350000_1 ((rd_T57 l0_1 x20_1).f0)).size : Int) := zP (by assumption)
                          have hcat_ : (9223372036854775807 < (rdOf ByteArray.empty x350000_1 ((rd_T57 l0_1 x20_1).f0)).size) = False := eq_false (by have h1 := of_eq_true c27b0; simp only [ByteArray.size_extract] at h1; omega)
                          refine qA 16 51 (bz 19 131071) HT_ ?_
                          refine qA 17 52 (bz 19 262143) HT_ ?_
                          refine last_ (i := 18) (N := none) #[true, true, true, true, true, true, true, true, true, true, true, true, true, true, true, true, true, true, true] rfl rfl (one_of HT_.out (by kernel_rfl)) (by decide) (fun K hK => ?_)
                          refine skip_ (w1 := ?_) (by rfl) rfl ?_ ?_
                          rotate_left
                          · go_simp
                            rfl
                          refine hK.out _ _ ?_
                          clear hK K
                          refine done_ (done_of HT_.out (by kernel_rfl)) ?_
                          try go_wp2
                          go_roundg k1
                          case measure => have := HK1.out; omega
                          case rel => exact ⟨(wrap64 (x20_1 + 1)), (y353), (.slice (some ⟨go28, 0, none⟩) x350000_1.length co36), (by first | rfl | (simp; done) | (simp [*]; done)), H', ⟨by have := HK1.out; omega⟩, ⟨by (with_reducible repeat (first | apply yA | apply yB | apply yC)); exact HQ37.out⟩, ⟨by (with_reducible repeat (first | refine yM ?_ _ | refine yO ?_ | refine yN ?_ _)); refine blk_far ?_ (by have h_ := Kd.R_ne HO_350000.out BK344.out (by decide); intro e_; exact h_ (by rw [e_]; rfl)) _; (with_reducible repeat (first | refine yM ?_ _ | refine yO ?_ | refine yN ?_ _)); exact BK344.out⟩, ⟨by (with_reducible repeat (first | refine yM ?_ _ | refine yO ?_ | refine yN ?_ _)); refine blk_far ?_ (by have h_ := Kd.R_ne HO_350000.out BK345.out (by decide); intro e_; exact h_ (by rw [e_]; rfl)) _; (with_reducible repeat (first | refine yM ?_ _ | refine yO ?_ | refine yN ?_ _)); exact BK345.out⟩, ⟨by (with_reducible repeat (first | refine yM ?_ _ | refine yO ?_ | refine yN ?_ _)); refine blk_far ?_ (by have h_ := Kd.R_ne HO_350000.out BK349.out (by decide); intro e_; exact h_ (by rw [e_]; rfl)) _; (with_reducible repeat (first | refine yM ?_ _ | refine yO ?_ | refine yN ?_ _)); exact BK349.out⟩, ⟨by repeat (first | (with_reducible first | exact HB.out | apply yQ | apply yL | apply yP | refine yE ?_ GB28.out | refine yE ?_ GE344.out | refine yE ?_ GE345.out | refine yE ?_ GE349.out | refine yE ?_ GE351.out) | exact HB.out)⟩⟩
                        · rw [if_neg c27] at H
                          exact absurd H (by simp)
                      · rw [if_neg c26] at H
                        exact absurd H (by simp)
                    · rw [if_neg c24] at H
                      exact absurd H (by simp)
                  · rw [if_neg c23] at H
                    exact absurd H (by simp)
                · rw [if_neg c22] at H
                  exact absurd H (by simp)
              · rw [if_neg c21] at H
                exact absurd H (by simp)
            · rw [if_neg c20] at H
              have c20b0 : (x20_1 == a2) = false := beq_eq_false_iff_ne.mpr c20
              have c20b1 : (x20_1 != a2) = true := bne_iff_ne.mpr c20
              by_cases c38 : x20_1 < (l1.length : Int)
              · rw [if_pos c38] at H
                have c38b0 : decide (x20_1 < (l1.length : Int)) = true := zR c38; clear c38
                obtain ⟨bq39, hbq39⟩ : ∃ b_ : Bool, b_ = (rdOf false l1 x20_1) := ⟨_, rfl⟩
                replace H : (if bq39 = true then (if 0 ≤ 64 then (if 64 ≤ (((rd_T57 l0_1 x20_1).f1).size : Int) then (if 0 ≤ ((rd_T57 l0_1 x20_1).f0) then (if ((rd_T57 l0_1 x20_1).f0) < (x350000_1.length : Int) then (if 64 ≤ ((rdOf ByteArray.empty x350000_1 ((rd_T57 l0_1 x20_1).f0)).size : Int) then (if (((rd_T57 l0_1 x20_1).f1).extract 0 64).size + ((rdOf ByteArray.empty x350000_1 ((rd_T57 l0_1 x20_1).f0)).extract 64 (rdOf ByteArray.empty x350000_1 ((rd_T57 l0_1 x20_1).f0)).size).size ≤ 9223372036854775807 then (impl_Disk_afterCut.l0 k1 l1 a2 a3 l0_1 (l0_1.length : Int) (wrap64 (x20_1 + 1)) (x350000_1.set (((rd_T57 l0_1 x20_1).f0) : Int).toNat ((((rd_T57 l0_1 x20_1).f1).extract 0 64) ++ ((rdOf ByteArray.empty x350000_1 ((rd_T57 l0_1 x20_1).f0)).extract 64 (rdOf ByteArray.empty x350000_1 ((rd_T57 l0_1 x20_1).f0)).size))) (-1) false) else (none)) else (none)) else (none)) else (none)) else (none)) else (none)) else (if 0 ≤ 0 then (if 0 ≤ (((rd_T57 l0_1 x20_1).f1).size : Int) then (if 0 ≤ ((rd_T57 l0_1 x20_1).f0) then (if ((rd_T57 l0_1 x20_1).f0) < (x350000_1.length : Int) then (if 0 ≤ ((rdOf ByteArray.empty x350000_1 ((rd_T57 l0_1 x20_1).f0)).size : Int) then (if (((rd_T57 l0_1 x20_1).f1).extract 0 0).size + ((rdOf ByteArray.empty x350000_1 ((rd_T57 l0_1 x20_1).f0)).extract 0 (rdOf ByteArray.empty x350000_1 ((rd_T57 l0_1 x20_1).f0)).size).size ≤ 9223372036854775807 then (impl_Disk_afterCut.l0 k1 l1 a2 a3 l0_1 (l0_1.length : Int) (wrap64 (x20_1 + 1)) (x350000_1.set (((rd_T57 l0_1 x20_1).f0) : Int).toNat ((((rd_T57 l0_1 x20_1).f1).extract 0 0) ++ ((rdOf ByteArray.empty x350000_1 ((rd_T57 l0_1 x20_1).f0)).extract 0 (rdOf ByteArray.empty x350000_1 ((rd_T57 l0_1 x20_1).f0)).size))) (-1) false) else (none)) else (none)) else (none)) else (none)) else (none)) else (none))) = some (r1, r2, r3, r4) := by rw [← hbq39] at H; exact H
                have Nbq39 := yD hbq39
                clear hbq39
                by_cases c40 : bq39 = true
                · subst c40
                  have H1 : (if 0 ≤ 64 then (if 64 ≤ (((rd_T57 l0_1 x20_1).f1).size : Int) then (if 0 ≤ ((rd_T57 l0_1 x20_1).f0) then (if ((rd_T57 l0_1 x20_1).f0) < (x350000_1.length : Int) then (if 64 ≤ ((rdOf ByteArray.empty x350000_1 ((rd_T57 l0_1 x20_1).f0)).size : Int) then (if (((rd_T57 l0_1 x20_1).f1).extract 0 64).size + ((rdOf ByteArray.empty x350000_1 ((rd_T57 l0_1 x20_1).f0)).extract 64 (rdOf ByteArray.empty x350000_1 ((rd_T57 l0_1 x20_1).f0)).size).size ≤ 9223372036854775807 then (impl_Disk_afterCut.l0 k1 l1 a2 a3 l0_1 (l0_1.length : Int) (wrap64 (x20_1 + 1)) (x350000_1.set (((rd_T57 l0_1 x20_1).f0) : Int).toNat ((((rd_T57 l0_1 x20_1).f1).extract 0 64) ++ ((rdOf ByteArray.empty x350000_1 ((rd_T57 l0_1 x20_1).f0)).extract 64 (rdOf ByteArray.empty x350000_1 ((rd_T57 l0_1 x20_1).f0)).size))) (-1) false) else (none)) else (none)) else (none)) else (none)) else (none)) else (none)) = some (r1, r2, r3, r4) := by rw [if_pos rfl] at H; exact H
                  clear H; have H := H1; clear H1
                  by_cases c41 : 0 ≤ 64
                  · rw [if_pos c41] at H
                    have c41b0 := eq_true c41
                    have c41b1 : decide (0 ≤ 64) = true := zR c41; clear c41
                    by_cases c42 : 64 ≤ (((rd_T57 l0_1 x20_1).f1).size : Int)
                    · rw [if_pos c42] at H
                      have c42b0 := eq_true c42
                      have c42b1 : decide (64 ≤ (((rd_T57 l0_1 x20_1).f1).size : Int)) = true := zR c42; clear c42
                      by_cases c43 : 0 ≤ ((rd_T57 l0_1 x20_1).f0)
                      · rw [if_pos c43] at H
                        have c43b0 : decide (0 ≤ ((rd_T57 l0_1 x20_1).f0)) = true := zR c43; clear c43
                        by_cases c44 : ((rd_T57 l0_1 x20_1).f0) < (x350000_1.length : Int)
                        · rw [if_pos c44] at H
                          have c44b0 : decide (((rd_T57 l0_1 x20_1).f0) < (x350000_1.length : Int)) = true := zR c44; clear c44
                          by_cases c45 : 64 ≤ ((rdOf ByteArray.empty x350000_1 ((rd_T57 l0_1 x20_1).f0)).size : Int)
                          · rw [if_pos c45] at H
                            have c45b0 := eq_true c45
                            have c45b1 : decide (64 ≤ ((rdOf ByteArray.empty x350000_1 ((rd_T57 l0_1 x20_1).f0)).size : Int)) = true := zR c45; clear c45
                            by_cases c46 : (((rd_T57 l0_1 x20_1).f1).extract 0 64).size + ((rdOf ByteArray.empty x350000_1 ((rd_T57 l0_1 x20_1).f0)).extract 64 (rdOf ByteArray.empty x350000_1 ((rd_T57 l0_1 x20_1).f0)).size).size ≤ 9223372036854775807
                            · rw [if_pos c46] at H
                              have c46b0 := eq_true c46
                              have c46b1 : decide ((((rd_T57 l0_1 x20_1).f1).extract 0 64).size + ((rdOf ByteArray.empty x350000_1 ((rd_T57 l0_1 x20_1).f0)).extract 64 (rdOf ByteArray.empty x350000_1 ((rd_T57 l0_1 x20_1).f0)).size).size ≤ 9223372036854775807) = true := zR c46
                              try have c46b2 : (9223372036854775807 < (((rd_T57 l0_1 x20_1).f1).extract 0 64).size + ((rdOf ByteArray.empty x350000_1 ((rd_T57 l0_1 x20_1).f0)).extract 64 (rdOf ByteArray.empty x350000_1 ((rd_T57 l0_1 x20_1).f0)).size).size) = False := eq_false (Nat.not_lt.2 c46)
                              obtain ⟨y356, hy356⟩ : ∃ y_ : List ByteArray, y_ = (x350000_1.set (((rd_T57 l0_1 x20_1).f0) : Int).toNat ((((rd_T57 l0_1 x20_1).f1).extract 0 64) ++ ((rdOf ByteArray.empty x350000_1 ((rd_T57 l0_1 x20_1).f0)).extract 64 (rdOf ByteArray.empty x350000_1 ((rd_T57 l0_1 x20_1).f0)).size))) := ⟨_, rfl⟩
                              replace H : (impl_Disk_afterCut.l0 k1 l1 a2 a3 l0_1 (l0_1.length : Int) (wrap64 (x20_1 + 1)) y356 (-1) false) = some (r1, r2, r3, r4) := by first | (rw [hy356]; with_reducible exact H) | (have H2_ := (Option.bind_some _ _).symm.trans H; rw [hy356]; with_reducible exact H2_) | (have H2_ := (Option.bind_some _ _).symm.trans H; with_reducible exact H2_) | with_reducible exact H | (rw [hy356]; exact H) | exact H
                              have Ny356 := yD hy356
                              clear hy356
                              have H' := yD H
                              clear H
                              have p350 : 0 ≤ (x20_1 : Int) := zP (by assumption)
                              have q350 : x20_1 < (l0_1.length : Int) := zP (by assumption)
                              obtain ⟨ad350, e350, hx350_0, hx350_1⟩ := at_T57 HR0_1.out x20_1 p350 q350
                              cases e350
                              replace hx350_0 := (HB.out.cell (zQ w _ hx350_0)).trans hx350_0
                              replace hx350_1 := (HB.out.cell (zQ w _ hx350_1)).trans hx350_1
                              replace p350 := eq_true p350; replace q350 := eq_true q350
                              try go_wp2_with (first | ((with_reducible refine gate_dst (N := 11) rfl ?_); refine box_event ?hg (N := 11) ?hd (cs := #[.int .i64 0, .string (⟨#[]⟩ : ByteArray)]) (t := 57) ?hr ?_; (case hd => rfl); (case hg => rfl); (case hr => first | (go_simp; done) | (go_simp; rfl)); intro gb351 hg w48 hbox hb; have n0_ := yD (zE (kA HO_350000) hb); have n1_ := yD (zB (g := gb344) (o := .cells #[.slice A0_0 l0_0.length c0_0, .slice (some ad350) l0_1.length c0_1, .int .i64 a0_2, .bool a0_3] 44 (0, 0)) (kM BK344) hb); have n2_ := yD (zB (g := gb345) (o := .cells #[.slice none 0 0, .slice none 0 0, .int .i64 0, .bool false] 44 (0, 0)) (kM BK345) hb); have n3_ := yD (zB (g := gb349) (o := .cells #[u350000, .slice none 0 0, .int .i64 (-1), .bool false] 44 (0, 0)) (kM BK349) hb); have n4_ := yD (zC (kB HB) hb); have n5_ := yD (hbox); have n6_ := yD ((by rw [hg]; exact (below_size (kB HB)) : w.heap.size ≤ gb351)); have n7_ := yD ((by rw [hg]; exact (below_size (kB HB)) : w.heap.size ≤ gb351)); have n8_ := yD ((by rw [hg]; exact Nat.ne_of_lt (blk_lt (g := gb344) (o := .cells #[.slice A0_0 l0_0.length c0_0, .slice (some ad350) l0_1.length c0_1, .int .i64 a0_2, .bool a0_3] 44 (0, 0)) (kM BK344)) : gb344 ≠ gb351)); have n9_ := yD ((by rw [hg]; exact Nat.ne_of_gt (blk_lt (g := gb344) (o := .cells #[.slice A0_0 l0_0.length c0_0, .slice (some ad350) l0_1.length c0_1, .int .i64 a0_2, .bool a0_3] 44 (0, 0)) (kM BK344)) : gb351 ≠ gb344)); have n10_ := yD ((by rw [hg]; exact Nat.ne_of_lt (blk_lt (g := gb345) (o := .cells #[.slice none 0 0, .slice none 0 0, .int .i64 0, .bool false] 44 (0, 0)) (kM BK345)) : gb345 ≠ gb351)); have n11_ := yD ((by rw [hg]; exact Nat.ne_of_gt (blk_lt (g := gb345) (o := .cells #[.slice none 0 0, .slice none 0 0, .int .i64 0, .bool false] 44 (0, 0)) (kM BK345)) : gb351 ≠ gb345)); have n12_ := yD ((by rw [hg]; exact Nat.ne_of_lt (blk_lt (g := gb349) (o := .cells #[u350000, .slice none 0 0, .int .i64 (-1), .bool false] 44 (0, 0)) (kM BK349)) : gb349 ≠ gb351)); have n13_ := yD ((by rw [hg]; exact Nat.ne_of_gt (blk_lt (g := gb349) (o := .cells #[u350000, .slice none 0 0, .int .i64 (-1), .bool false] 44 (0, 0)) (kM BK349)) : gb351 ≠ gb349)); clear HO_350000; clear BK344; clear BK345; clear BK349; clear HB; have HO_350000 := n0_; have BK344 := n1_; have BK345 := n2_; have BK349 := n3_; have HB := n4_; have BK351 := n5_; have GW351 := n6_; have GE351 := n7_; have NB344_351 := n8_; have NB351_344 := n9_; have NB345_351 := n10_; have NB351_345 := n11_; have NB349_351 := n12_; have NB351_349 := n13_; clear n0_ n1_ n2_ n3_ n4_ n5_ n6_ n7_ n8_ n9_ n10_ n11_ n12_ n13_; clear hb hbox hg; have hnb49 := NB351_344.out; have hnc49 := NB344_351.out; have hnb50 := NB351_345.out; have hnc50 := NB345_351.out; have hnb51 := NB351_349.out; have hnc51 := NB349_351.out; obtain ⟨hcz52_0, hcz52_1⟩ := cz2 BK351.out; obtain ⟨hfz52_0, hfz52_1⟩ := fz2 BK351.out; have p354 : 0 ≤ (x20_1 : Int) := zP (by assumption); have q354 : x20_1 < (l1.length : Int) := zP (by assumption); obtain ⟨ad354, e354, hx354_0⟩ := Kd.at_bool HR1.out x20_1 p354 q354; (try rw [← Nbq39.out] at hx354_0); cases e354; have hn354_0 : ad354.block ≠ gb351 := Nat.ne_of_lt (Nat.lt_of_lt_of_le (by have := zQ _ _ hx354_0; first | rwa [add_block] at this | exact this) GW351.out); have hn354_1 : ad354.block ≠ gb351 := Nat.ne_of_lt (Nat.lt_of_lt_of_le (by have := zQ _ _ hx354_0; first | rwa [add_block] at this | exact this) GW351.out); replace hx354_0 := (HB.out.cell (zQ w _ hx354_0)).trans hx354_0; replace hx354_0 := (cell_far (p := ⟨gb351, 0, none⟩) (by first | (rw [add_block]; exact hn354_0) | (show (Addr.add _ _).block ≠ _; rw [add_block]; exact hn354_0) | exact hn354_0) (.int .i64 ((rd_T57 l0_1 x20_1).f0))).trans hx354_0; replace hx354_0 := (cell_far (p := ⟨gb351, 1, none⟩) (by first | (rw [add_block]; exact hn354_1) | (show (Addr.add _ _).block ≠ _; rw [add_block]; exact hn354_1) | exact hn354_1) (.string ((rd_T57 l0_1 x20_1).f1))).trans hx354_0; clear hn354_0; clear hn354_1; replace p354 := eq_true p354; replace q354 := eq_true q354))
                              have n0_ : Aside0 (Kd.R Kd.string 9 ((w48.setCell ⟨gb351, 0, none⟩ (.int .i64 ((rd_T57 l0_1 x20_1).f0))).setCell ⟨gb351, 1, none⟩ (.string ((rd_T57 l0_1 x20_1).f1))) w.heap.size (fun _ => True) u350000 x350000_1) := ⟨by (with_reducible repeat (first | apply yA | apply yB | apply yC)); exact zF (yF (p := ⟨gb351, 1, none⟩) (yF (p := ⟨gb351, 0, none⟩) (Kd.R_types HO_350000.out BK351.out (by decide)) (fun _ hk => hk.2) (.int .i64 ((rd_T57 l0_1 x20_1).f0))) (fun _ hk => hk.2) (.string ((rd_T57 l0_1 x20_1).f1))) (fun _ hk => trivial)⟩
                              have n1_ : Aside0 (((w48.setCell ⟨gb351, 0, none⟩ (.int .i64 ((rd_T57 l0_1 x20_1).f0))).setCell ⟨gb351, 1, none⟩ (.string ((rd_T57 l0_1 x20_1).f1))).heap[gb344]? = some (.cells #[.slice A0_0 l0_0.length c0_0, .slice (some ad350) l0_1.length c0_1, .int .i64 a0_2, .bool a0_3] 44 (0, 0))) := ⟨by (with_reducible repeat (first | refine yM ?_ _ | refine yO ?_ | refine yN ?_ _)); refine blk_far ?_ NB344_351.out _; (with_reducible repeat (first | refine yM ?_ _ | refine yO ?_ | refine yN ?_ _)); refine blk_far ?_ NB344_351.out _; (with_reducible repeat (first | refine yM ?_ _ | refine yO ?_ | refine yN ?_ _)); exact BK344.out⟩
                              have n2_ : Aside0 (((w48.setCell ⟨gb351, 0, none⟩ (.int .i64 ((rd_T57 l0_1 x20_1).f0))).setCell ⟨gb351, 1, none⟩ (.string ((rd_T57 l0_1 x20_1).f1))).heap[gb345]? = some (.cells #[.slice none 0 0, .slice none 0 0, .int .i64 0, .bool false] 44 (0, 0))) := ⟨by (with_reducible repeat (first | refine yM ?_ _ | refine yO ?_ | refine yN ?_ _)); refine blk_far ?_ NB345_351.out _; (with_reducible repeat (first | refine yM ?_ _ | refine yO ?_ | refine yN ?_ _)); refine blk_far ?_ NB345_351.out _; (with_reducible repeat (first | refine yM ?_ _ | refine yO ?_ | refine yN ?_ _)); exact BK345.out⟩
                              have n3_ : Aside0 (((w48.setCell ⟨gb351, 0, none⟩ (.int .i64 ((rd_T57 l0_1 x20_1).f0))).setCell ⟨gb351, 1, none⟩ (.string ((rd_T57 l0_1 x20_1).f1))).heap[gb349]? = some (.cells #[u350000, .slice none 0 0, .int .i64 (-1), .bool false] 44 (0, 0))) := ⟨by (with_reducible repeat (first | refine yM ?_ _ | refine yO ?_ | refine yN ?_ _)); refine blk_far ?_ NB349_351.out _; (with_reducible repeat (first | refine yM ?_ _ | refine yO ?_ | refine yN ?_ _)); refine blk_far ?_ NB349_351.out _; (with_reducible repeat (first | refine yM ?_ _ | refine yO ?_ | refine yN ?_ _)); exact BK349.out⟩
                              have n4_ : Aside0 (((w48.setCell ⟨gb351, 0, none⟩ (.int .i64 ((rd_T57 l0_1 x20_1).f0))).setCell ⟨gb351, 1, none⟩ (.string ((rd_T57 l0_1 x20_1).f1))).heap[gb351]? = some (.cells #[.int .i64 ((rd_T57 l0_1 x20_1).f0), .string ((rd_T57 l0_1 x20_1).f1)] 57 (0, 0))) := ⟨by (with_reducible repeat (first | refine yM ?_ _ | refine yO ?_ | refine yN ?_ _)); refine blk_put (cs := #[.int .i64 ((rd_T57 l0_1 x20_1).f0), .string (⟨#[]⟩ : ByteArray)]) ?_ 1 _ rfl; (with_reducible repeat (first | refine yM ?_ _ | refine yO ?_ | refine yN ?_ _)); refine blk_put (cs := #[.int .i64 0, .string (⟨#[]⟩ : ByteArray)]) ?_ 0 _ rfl; (with_reducible repeat (first | refine yM ?_ _ | refine yO ?_ | refine yN ?_ _)); exact BK351.out⟩
                              have n5_ : Aside0 (Below w.heap.size w ((w48.setCell ⟨gb351, 0, none⟩ (.int .i64 ((rd_T57 l0_1 x20_1).f0))).setCell ⟨gb351, 1, none⟩ (.string ((rd_T57 l0_1 x20_1).f1)))) := ⟨kR1 HB⟩
                              (try clear HO_350000); (try clear BK344); (try clear BK345); (try clear BK349); (try clear BK351); (try clear HB)
                              generalize ((w48.setCell ⟨gb351, 0, none⟩ (.int .i64 ((rd_T57 l0_1 x20_1).f0))).setCell ⟨gb351, 1, none⟩ (.string ((rd_T57 l0_1 x20_1).f1))) = w53 at n0_ n1_ n2_ n3_ n4_ n5_ ⊢
                              have HO_350000 := n0_; have BK344 := n1_; have BK345 := n2_; have BK349 := n3_; have BK351 := n4_; have HB := n5_; clear n0_ n1_ n2_ n3_ n4_ n5_
                              have n0_ := yD (yC HO_350000.out)
                              have n1_ := yD (yO BK344.out)
                              have n2_ := yD (yO BK345.out)
                              have n3_ := yD (yO BK349.out)
                              have n4_ := yD (yO BK351.out)
                              have n5_ := yD (yP HB.out)
                              clear HO_350000 BK344 BK345 BK349 BK351 HB; have HO_350000 := n0_; have BK344 := n1_; have BK345 := n2_; have BK349 := n3_; have BK351 := n4_; have HB := n5_; clear n0_ n1_ n2_ n3_ n4_ n5_
                              obtain ⟨Ao55, co55, eo55⟩ := Kd.R_slice HO_350000.out
                              (first | subst eo55 | (injection eo55 with f1_ f2_ f3_; have f4_ := f1_.symm; have f5_ := f3_.symm; clear f1_ f2_ f3_; subst f4_; subst f5_))
                              have p355 : 0 ≤ (((rd_T57 l0_1 x20_1).f0) : Int) := zP (by assumption)
                              have q355 : ((rd_T57 l0_1 x20_1).f0) < (x350000_1.length : Int) := zP (by assumption)
                              obtain ⟨ad355, e355, hx355_0⟩ := Kd.at_string (zA HO_350000.out).2.2 ((rd_T57 l0_1 x20_1).f0) p355 q355
                              cases e355; replace p355 := eq_true p355; replace q355 := eq_true q355
                              have p47 : 0 ≤ (((rd_T57 l0_1 x20_1).f0) : Int) := zP (by assumption)
                              have q47 : (((rd_T57 l0_1 x20_1).f0) : Int) < ((x350000_1.length : Int) : Int) := zP (by assumption)
                              obtain ⟨go47, co47, eo47, gb47, gl47, cl47, HG47⟩ := Kd.R_form HO_350000.out (by omega)
                              (first | cases eo47 | (injection eo47 with ea_ en_ ec_; (first | subst ea_ | (injection ea_ with ea_; subst ea_)); subst ec_; clear en_))
                              have GB47 := yD gb47
                              have GG47 := yD HG47
                              clear gb47 gl47 HG47
                              (first | simp only [add_plain] at hx355_0 | skip)
                              obtain ⟨hx47_0, hf47_0⟩ := Kd.R_celln (⟨#[]⟩ : ByteArray) HO_350000.out (((rd_T57 l0_1 x20_1).f0) : Int) p47 q47
                              replace p47 := eq_true p47; replace q47 := eq_true q47
                              have HP56 := Kd.R_putn HO_350000.out (((rd_T57 l0_1 x20_1).f0) : Int) ((((rd_T57 l0_1 x20_1).f1).extract 0 64) ++ ((rdOf ByteArray.empty x350000_1 ((rd_T57 l0_1 x20_1).f0)).extract 64 (rdOf ByteArray.empty x350000_1 ((rd_T57 l0_1 x20_1).f0)).size))
                              rw [← Ny356.out] at HP56
                              have HQ56 := yD HP56
                              clear HP56
                              refine start_ (n := 19) (S := fun w' => w'.cell? ⟨gb349, 0, none⟩ = some (.slice (some ⟨go47, 0, none⟩) x350000_1.length co55) ∧ w'.cell? ⟨gb349, 1, none⟩ = some (.slice none 0 0) ∧ w'.cell? ⟨gb349, 2, none⟩ = some (.int .i64 (-1)) ∧ w'.cell? ⟨gb349, 3, none⟩ = some (.bool false) ∧ w'.cell? ⟨gb351, 0, none⟩ = some (.int .i64 ((rd_T57 l0_1 x20_1).f0)) ∧ w'.cell? ⟨gb351, 1, none⟩ = some (.string ((rd_T57 l0_1 x20_1).f1)) ∧ w'.cell? ⟨go47, (((rd_T57 l0_1 x20_1).f0)).toNat, none⟩ = some (.string (rdOf ByteArray.empty x350000_1 ((rd_T57 l0_1 x20_1).f0)))) (ds := [18]) (bz 19 0) (by kernel_rfl) rfl rfl ⟨(yG BK349.out 0).trans rfl, (yG BK349.out 1).trans rfl, (yG BK349.out 2).trans rfl, (yG BK349.out 3).trans rfl, (yG BK351.out 0).trans rfl, (yG BK351.out 1).trans rfl, hx355_0⟩ (fun hHeld => ?_); refine with_tabW impl_Disk_afterCut.tab10 impl_Disk_afterCut.bits10 (fun HT_ HW_ => ?_)
                              generalize w53.drew = w54 at HO_350000 BK344 BK345 BK349 BK351 HB GG47 HQ56 hf47_0 hx355_0 hx47_0 hHeld ⊢
                              refine qA 0 35 (bz 19 1) HT_ ?_
                              refine qA 2 37 (bz 19 5) HT_ ?_
                              refine qA 4 39 (bz 19 21) HT_ ?_
                              refine qA 6 41 (bz 19 85) HT_ ?_
                              refine qA 8 43 (bz 19 341) HT_ ?_
                              refine qA 10 45 (bz 19 1365) HT_ ?_
                              refine qA 14 49 (bz 19 17749) HT_ ?_
                              refine qC 1 36 (bz 19 17751) HT_ HW_ hHeld ?_ (hy := by rintro w' ⟨s0, s1, s2, s3, s4, s5, s6⟩; go_simp; with_reducible rfl)
                              refine qC 3 38 (bz 19 17759) HT_ HW_ hHeld ?_ (hy := by rintro w' ⟨s0, s1, s2, s3, s4, s5, s6⟩; go_simp; with_reducible rfl)
                              refine qC 5 40 (bz 19 17791) HT_ HW_ hHeld ?_ (hy := by rintro w' ⟨s0, s1, s2, s3, s4, s5, s6⟩; go_simp; with_reducible rfl)
                              refine qA 7 42 (bz 19 17919) HT_ ?_
                              refine qC 9 44 (bz 19 18431) HT_ HW_ hHeld ?_ (hy := by rintro w' ⟨s0, s1, s2, s3, s4, s5, s6⟩; go_simp; with_reducible rfl)
                              refine qC 11 46 (bz 19 20479) HT_ HW_ hHeld ?_ (hy := by rintro w' ⟨s0, s1, s2, s3, s4, s5, s6⟩; go_simp; with_reducible rfl)
                              refine qA 12 47 (bz 19 24575) HT_ ?_
                              refine qC 13 48 (bz 19 32767) HT_ HW_ hHeld ?_ (hy := by rintro w' ⟨s0, s1, s2, s3, s4, s5, s6⟩; go_simp; with_reducible rfl)
                              refine qA 15 50 (bz 19 65535) HT_ ?_
                              (try have u0_ : ((64 : Int) ≤ (((rd_T57 l0_1 x20_1).f1).size : Int)) := zP (by assumption))
                              (try have u1_ : ((64 : Int) ≤ ((rdOf ByteArray.empty x350000_1 ((rd_T57 l0_1 x20_1).f0)).size : Int)) := zP (by assumption))
                              (try have hcat0_ : (9223372036854775807 < min 64 ((rd_T57 l0_1 x20_1).f1).size + ((rdOf ByteArray.empty x350000_1 ((rd_T57 l0_1 x20_1).f0)).size - 64)) = False := eq_false (by have h1 := of_eq_true c46b0; simp only [ByteArray.size_extract] at h1; omega))
                              (try have hcat1_ : (9223372036854775807 < 64 + ((rdOf ByteArray.empty x350000_1 ((rd_T57 l0_1 x20_1).f0)).size - 64)) = False := eq_false (by have h1 := of_eq_true c46b0; simp only [ByteArray.size_extract] at h1; omega))
                              (try have hcat2_ : (9223372036854775807 < (rdOf ByteArray.empty x350000_1 ((rd_T57 l0_1 x20_1).f0)).size) = False := eq_false (by have h1 := of_eq_true c46b0; simp only [ByteArray.size_extract] at h1; omega))
                              refine qA 16 51 (bz 19 131071) HT_ ?_
                              refine qA 17 52 (bz 19 262143) HT_ ?_
                              refine last_ (i := 18) (N := none) #[true, true, true, true, true, true, true, true, true, true, true, true, true, true, true, true, true, true, true] rfl rfl (one_of HT_.out (by kernel_rfl)) (by decide) (fun K hK => ?_)
                              refine skip_ (w1 := ?_) (by rfl) rfl ?_ ?_
                              rotate_left
                              · go_simp
                                rfl
                              refine hK.out _ _ ?_
                              clear hK K
                              refine done_ (done_of HT_.out (by kernel_rfl)) ?_
                              try go_wp2
                              go_roundg k1
                              case measure => have := HK1.out; omega
                              case rel => exact ⟨(wrap64 (x20_1 + 1)), (y356), (.slice (some ⟨go47, 0, none⟩) x350000_1.length co55), (by first | rfl | (simp; done) | (simp [*]; done)), H', ⟨by have := HK1.out; omega⟩, ⟨by (with_reducible repeat (first | apply yA | apply yB | apply yC)); exact HQ56.out⟩, ⟨by (with_reducible repeat (first | refine yM ?_ _ | refine yO ?_ | refine yN ?_ _)); refine blk_far ?_ (by have h_ := Kd.R_ne HO_350000.out BK344.out (by decide); intro e_; exact h_ (by rw [e_]; rfl)) _; (with_reducible repeat (first | refine yM ?_ _ | refine yO ?_ | refine yN ?_ _)); exact BK344.out⟩, ⟨by (with_reducible repeat (first | refine yM ?_ _ | refine yO ?_ | refine yN ?_ _)); refine blk_far ?_ (by have h_ := Kd.R_ne HO_350000.out BK345.out (by decide); intro e_; exact h_ (by rw [e_]; rfl)) _; (with_reducible repeat (first | refine yM ?_ _ | refine yO ?_ | refine yN ?_ _)); exact BK345.out⟩, ⟨by (with_reducible repeat (first | refine yM ?_ _ | refine yO ?_ | refine yN ?_ _)); refine blk_far ?_ (by have h_ := Kd.R_ne HO_350000.out BK349.out (by decide); intro e_; exact h_ (by rw [e_]; rfl)) _; (with_reducible repeat (first | refine yM ?_ _ | refine yO ?_ | refine yN ?_ _)); exact BK349.out⟩, ⟨by repeat (first | (with_reducible first | exact HB.out | apply yQ | apply yL | apply yP | refine yE ?_ GB47.out | refine yE ?_ GE344.out | refine yE ?_ GE345.out | refine yE ?_ GE349.out | refine yE ?_ GE351.out) | exact HB.out)⟩⟩
                            · rw [if_neg c46] at H
                              exact absurd H (by simp)
                          · rw [if_neg c45] at H
                            exact absurd H (by simp)
                        · rw [if_neg c44] at H
                          exact absurd H (by simp)
                      · rw [if_neg c43] at H
                        exact absurd H (by simp)
                    · rw [if_neg c42] at H
                      exact absurd H (by simp)
                  · rw [if_neg c41] at H
                    exact absurd H (by simp)
                · replace c40 := Bool.eq_false_iff.mpr c40
                  subst c40
                  have H1 : (if 0 ≤ 0 then (if 0 ≤ (((rd_T57 l0_1 x20_1).f1).size : Int) then (if 0 ≤ ((rd_T57 l0_1 x20_1).f0) then (if ((rd_T57 l0_1 x20_1).f0) < (x350000_1.length : Int) then (if 0 ≤ ((rdOf ByteArray.empty x350000_1 ((rd_T57 l0_1 x20_1).f0)).size : Int) then (if (((rd_T57 l0_1 x20_1).f1).extract 0 0).size + ((rdOf ByteArray.empty x350000_1 ((rd_T57 l0_1 x20_1).f0)).extract 0 (rdOf ByteArray.empty x350000_1 ((rd_T57 l0_1 x20_1).f0)).size).size ≤ 9223372036854775807 then (impl_Disk_afterCut.l0 k1 l1 a2 a3 l0_1 (l0_1.length : Int) (wrap64 (x20_1 + 1)) (x350000_1.set (((rd_T57 l0_1 x20_1).f0) : Int).toNat ((((rd_T57 l0_1 x20_1).f1).extract 0 0) ++ ((rdOf ByteArray.empty x350000_1 ((rd_T57 l0_1 x20_1).f0)).extract 0 (rdOf ByteArray.empty x350000_1 ((rd_T57 l0_1 x20_1).f0)).size))) (-1) false) else (none)) else (none)) else (none)) else (none)) else (none)) else (none)) = some (r1, r2, r3, r4) := by rw [if_neg (show ¬ (false = true) by decide)] at H; exact H
                  clear H; have H := H1; clear H1
                  by_cases c57 : 0 ≤ 0
                  · rw [if_pos c57] at H
                    have c57b0 := eq_true c57
                    have c57b1 : decide (0 ≤ 0) = true := zR c57; clear c57
                    by_cases c58 : 0 ≤ (((rd_T57 l0_1 x20_1).f1).size : Int)
                    · rw [if_pos c58] at H
                      have c58b0 := eq_true c58
                      have c58b1 : decide (0 ≤ (((rd_T57 l0_1 x20_1).f1).size : Int)) = true := zR c58; clear c58
                      by_cases c59 : 0 ≤ ((rd_T57 l0_1 x20_1).f0)
                      · rw [if_pos c59] at H
                        have c59b0 : decide (0 ≤ ((rd_T57 l0_1 x20_1).f0)) = true := zR c59; clear c59
                        by_cases c60 : ((rd_T57 l0_1 x20_1).f0) < (x350000_1.length : Int)
                        · rw [if_pos c60] at H
                          have c60b0 : decide (((rd_T57 l0_1 x20_1).f0) < (x350000_1.length : Int)) = true := zR c60; clear c60
                          by_cases c61 : 0 ≤ ((rdOf ByteArray.empty x350000_1 ((rd_T57 l0_1 x20_1).f0)).size : Int)
                          · rw [if_pos c61] at H
                            have c61b0 := eq_true c61
                            have c61b1 : decide (0 ≤ ((rdOf ByteArray.empty x350000_1 ((rd_T57 l0_1 x20_1).f0)).size : Int)) = true := zR c61; clear c61
                            by_cases c62 : (((rd_T57 l0_1 x20_1).f1).extract 0 0).size + ((rdOf ByteArray.empty x350000_1 ((rd_T57 l0_1 x20_1).f0)).extract 0 (rdOf ByteArray.empty x350000_1 ((rd_T57 l0_1 x20_1).f0)).size).size ≤ 9223372036854775807
                            · rw [if_pos c62] at H
                              have c62b0 := eq_true c62
                              have c62b1 : decide ((((rd_T57 l0_1 x20_1).f1).extract 0 0).size + ((rdOf ByteArray.empty x350000_1 ((rd_T57 l0_1 x20_1).f0)).extract 0 (rdOf ByteArray.empty x350000_1 ((rd_T57 l0_1 x20_1).f0)).size).size ≤ 9223372036854775807) = true := zR c62
                              try have c62b2 : (9223372036854775807 < (((rd_T57 l0_1 x20_1).f1).extract 0 0).size + ((rdOf ByteArray.empty x350000_1 ((rd_T57 l0_1 x20_1).f0)).extract 0 (rdOf ByteArray.empty x350000_1 ((rd_T57 l0_1 x20_1).f0)).size).size) = False := eq_false (Nat.not_lt.2 c62)
                              obtain ⟨y358, hy358⟩ : ∃ y_ : List ByteArray, y_ = (x350000_1.set (((rd_T57 l0_1 x20_1).f0) : Int).toNat ((((rd_T57 l0_1 x20_1).f1).extract 0 0) ++ ((rdOf ByteArray.empty x350000_1 ((rd_T57 l0_1 x20_1).f0)).extract 0 (rdOf ByteArray.empty x350000_1 ((rd_T57 l0_1 x20_1).f0)).size))) := ⟨_, rfl⟩
                              replace H : (impl_Disk_afterCut.l0 k1 l1 a2 a3 l0_1 (l0_1.length : Int) (wrap64 (x20_1 + 1)) y358 (-1) false) = some (r1, r2, r3, r4) := by first | (rw [hy358]; with_reducible exact H) | (have H2_ := (Option.bind_some _ _).symm.trans H; rw [hy358]; with_reducible exact H2_) | (have H2_ := (Option.bind_some _ _).symm.trans H; with_reducible exact H2_) | with_reducible exact H | (rw [hy358]; exact H) | exact H
                              have Ny358 := yD hy358
                              clear hy358
                              have H' := yD H
                              clear H
                              have p350 : 0 ≤ (x20_1 : Int) := zP (by assumption)
                              have q350 : x20_1 < (l0_1.length : Int) := zP (by assumption)
                              obtain ⟨ad350, e350, hx350_0, hx350_1⟩ := at_T57 HR0_1.out x20_1 p350 q350
                              cases e350
                              replace hx350_0 := (HB.out.cell (zQ w _ hx350_0)).trans hx350_0
                              replace hx350_1 := (HB.out.cell (zQ w _ hx350_1)).trans hx350_1
                              replace p350 := eq_true p350; replace q350 := eq_true q350
                              try go_wp2_with (first | ((with_reducible refine gate_dst (N := 11) rfl ?_); refine box_event ?hg (N := 11) ?hd (cs := #[.int .i64 0, .string (⟨#[]⟩ : ByteArray)]) (t := 57) ?hr ?_; (case hd => rfl); (case hg => rfl); (case hr => first | (go_simp; done) | (go_simp; rfl)); intro gb351 hg w64 hbox hb; have n0_ := yD (zE (kA HO_350000) hb); have n1_ := yD (zB (g := gb344) (o := .cells #[.slice A0_0 l0_0.length c0_0, .slice (some ad350) l0_1.length c0_1, .int .i64 a0_2, .bool a0_3] 44 (0, 0)) (kM BK344) hb); have n2_ := yD (zB (g := gb345) (o := .cells #[.slice none 0 0, .slice none 0 0, .int .i64 0, .bool false] 44 (0, 0)) (kM BK345) hb); have n3_ := yD (zB (g := gb349) (o := .cells #[u350000, .slice none 0 0, .int .i64 (-1), .bool false] 44 (0, 0)) (kM BK349) hb); have n4_ := yD (zC (kB HB) hb); have n5_ := yD (hbox); have n6_ := yD ((by rw [hg]; exact (below_size (kB HB)) : w.heap.size ≤ gb351)); have n7_ := yD ((by rw [hg]; exact (below_size (kB HB)) : w.heap.size ≤ gb351)); have n8_ := yD ((by rw [hg]; exact Nat.ne_of_lt (blk_lt (g := gb344) (o := .cells #[.slice A0_0 l0_0.length c0_0, .slice (some ad350) l0_1.length c0_1, .int .i64 a0_2, .bool a0_3] 44 (0, 0)) (kM BK344)) : gb344 ≠ gb351)); have n9_ := yD ((by rw [hg]; exact Nat.ne_of_gt (blk_lt (g := gb344) (o := .cells #[.slice A0_0 l0_0.length c0_0, .slice (some ad350) l0_1.length c0_1, .int .i64 a0_2, .bool a0_3] 44 (0, 0)) (kM BK344)) : gb351 ≠ gb344)); have n10_ := yD ((by rw [hg]; exact Nat.ne_of_lt (blk_lt (g := gb345) (o := .cells #[.slice none 0 0, .slice none 0 0, .int .i64 0, .bool false] 44 (0, 0)) (kM BK345)) : gb345 ≠ gb351)); have n11_ := yD ((by rw [hg]; exact Nat.ne_of_gt (blk_lt (g := gb345) (o := .cells #[.slice none 0 0, .slice none 0 0, .int .i64 0, .bool false] 44 (0, 0)) (kM BK345)) : gb351 ≠ gb345)); have n12_ := yD ((by rw [hg]; exact Nat.ne_of_lt (blk_lt (g := gb349) (o := .cells #[u350000, .slice none 0 0, .int .i64 (-1), .bool false] 44 (0, 0)) (kM BK349)) : gb349 ≠ gb351)); have n13_ := yD ((by rw [hg]; exact Nat.ne_of_gt (blk_lt (g := gb349) (o := .cells #[u350000, .slice none 0 0, .int .i64 (-1), .bool false] 44 (0, 0)) (kM BK349)) : gb351 ≠ gb349)); clear HO_350000; clear BK344; clear BK345; clear BK349; clear HB; have HO_350000 := n0_; have BK344 := n1_; have BK345 := n2_; have BK349 := n3_; have HB := n4_; have BK351 := n5_; have GW351 := n6_; have GE351 := n7_; have NB344_351 := n8_; have NB351_344 := n9_; have NB345_351 := n10_; have NB351_345 := n11_; have NB349_351 := n12_; have NB351_349 := n13_; clear n0_ n1_ n2_ n3_ n4_ n5_ n6_ n7_ n8_ n9_ n10_ n11_ n12_ n13_; clear hb hbox hg; have hnb65 := NB351_344.out; have hnc65 := NB344_351.out; have hnb66 := NB351_345.out; have hnc66 := NB345_351.out; have hnb67 := NB351_349.out; have hnc67 := NB349_351.out; obtain ⟨hcz68_0, hcz68_1⟩ := cz2 BK351.out; obtain ⟨hfz68_0, hfz68_1⟩ := fz2 BK351.out; have p354 : 0 ≤ (x20_1 : Int) := zP (by assumption); have q354 : x20_1 < (l1.length : Int) := zP (by assumption); obtain ⟨ad354, e354, hx354_0⟩ := Kd.at_bool HR1.out x20_1 p354 q354; (try rw [← Nbq39.out] at hx354_0); cases e354; have hn354_0 : ad354.block ≠ gb351 := Nat.ne_of_lt (Nat.lt_of_lt_of_le (by have := zQ _ _ hx354_0; first | rwa [add_block] at this | exact this) GW351.out); have hn354_1 : ad354.block ≠ gb351 := Nat.ne_of_lt (Nat.lt_of_lt_of_le (by have := zQ _ _ hx354_0; first | rwa [add_block] at this | exact this) GW351.out); replace hx354_0 := (HB.out.cell (zQ w _ hx354_0)).trans hx354_0; replace hx354_0 := (cell_far (p := ⟨gb351, 0, none⟩) (by first | (rw [add_block]; exact hn354_0) | (show (Addr.add _ _).block ≠ _; rw [add_block]; exact hn354_0) | exact hn354_0) (.int .i64 ((rd_T57 l0_1 x20_1).f0))).trans hx354_0; replace hx354_0 := (cell_far (p := ⟨gb351, 1, none⟩) (by first | (rw [add_block]; exact hn354_1) | (show (Addr.add _ _).block ≠ _; rw [add_block]; exact hn354_1) | exact hn354_1) (.string ((rd_T57 l0_1 x20_1).f1))).trans hx354_0; clear hn354_0; clear hn354_1; replace p354 := eq_true p354; replace q354 := eq_true q354))
                              have n0_ : Aside0 (Kd.R Kd.string 9 ((w64.setCell ⟨gb351, 0, none⟩ (.int .i64 ((rd_T57 l0_1 x20_1).f0))).setCell ⟨gb351, 1, none⟩ (.string ((rd_T57 l0_1 x20_1).f1))) w.heap.size (fun _ => True) u350000 x350000_1) := ⟨by (with_reducible repeat (first | apply yA | apply yB | apply yC)); exact zF (yF (p := ⟨gb351, 1, none⟩) (yF (p := ⟨gb351, 0, none⟩) (Kd.R_types HO_350000.out BK351.out (by decide)) (fun _ hk => hk.2) (.int .i64 ((rd_T57 l0_1 x20_1).f0))) (fun _ hk => hk.2) (.string ((rd_T57 l0_1 x20_1).f1))) (fun _ hk => trivial)⟩
                              have n1_ : Aside0 (((w64.setCell ⟨gb351, 0, none⟩ (.int .i64 ((rd_T57 l0_1 x20_1).f0))).setCell ⟨gb351, 1, none⟩ (.string ((rd_T57 l0_1 x20_1).f1))).heap[gb344]? = some (.cells #[.slice A0_0 l0_0.length c0_0, .slice (some ad350) l0_1.length c0_1, .int .i64 a0_2, .bool a0_3] 44 (0, 0))) := ⟨by (with_reducible repeat (first | refine yM ?_ _ | refine yO ?_ | refine yN ?_ _)); refine blk_far ?_ NB344_351.out _; (with_reducible repeat (first | refine yM ?_ _ | refine yO ?_ | refine yN ?_ _)); refine blk_far ?_ NB344_351.out _; (with_reducible repeat (first | refine yM ?_ _ | refine yO ?_ | refine yN ?_ _)); exact BK344.out⟩
                              have n2_ : Aside0 (((w64.setCell ⟨gb351, 0, none⟩ (.int .i64 ((rd_T57 l0_1 x20_1).f0))).setCell ⟨gb351, 1, none⟩ (.string ((rd_T57 l0_1 x20_1).f1))).heap[gb345]? = some (.cells #[.slice none 0 0, .slice none 0 0, .int .i64 0, .bool false] 44 (0, 0))) := ⟨by (with_reducible repeat (first | refine yM ?_ _ | refine yO ?_ | refine yN ?_ _)); refine blk_far ?_ NB345_351.out _; (with_reducible repeat (first | refine yM ?_ _ | refine yO ?_ | refine yN ?_ _)); refine blk_far ?_ NB345_351.out _; (with_reducible repeat (first | refine yM ?_ _ | refine yO ?_ | refine yN ?_ _)); exact BK345.out⟩
                              have n3_ : Aside0 (((w64.setCell ⟨gb351, 0, none⟩ (.int .i64 ((rd_T57 l0_1 x20_1).f0))).setCell ⟨gb351, 1, none⟩ (.string ((rd_T57 l0_1 x20_1).f1))).heap[gb349]? = some (.cells #[u350000, .slice none 0 0, .int .i64 (-1), .bool false] 44 (0, 0))) := ⟨by (with_reducible repeat (first | refine yM ?_ _ | refine yO ?_ | refine yN ?_ _)); refine blk_far ?_ NB349_351.out _; (with_reducible repeat (first | refine yM ?_ _ | refine yO ?_ | refine yN ?_ _)); refine blk_far ?_ NB349_351.out _; (with_reducible repeat (first | refine yM ?_ _ | refine yO ?_ | refine yN ?_ _)); exact BK349.out⟩
                              have n4_ : Aside0 (((w64.setCell ⟨gb351, 0, none⟩ (.int .i64 ((rd_T57 l0_1 x20_1).f0))).setCell ⟨gb351, 1, none⟩ (.string ((rd_T57 l0_1 x20_1).f1))).heap[gb351]? = some (.cells #[.int .i64 ((rd_T57 l0_1 x20_1).f0), .string ((rd_T57 l0_1 x20_1).f1)] 57 (0, 0))) := ⟨by (with_reducible repeat (first | refine yM ?_ _ | refine yO ?_ | refine yN ?_ _)); refine blk_put (cs := #[.int .i64 ((rd_T57 l0_1 x20_1).f0), .string (⟨#[]⟩ : ByteArray)]) ?_ 1 _ rfl; (with_reducible repeat (first | refine yM ?_ _ | refine yO ?_ | refine yN ?_ _)); refine blk_put (cs := #[.int .i64 0, .string (⟨#[]⟩ : ByteArray)]) ?_ 0 _ rfl; (with_reducible repeat (first | refine yM ?_ _ | refine yO ?_ | refine yN ?_ _)); exact BK351.out⟩
                              have n5_ : Aside0 (Below w.heap.size w ((w64.setCell ⟨gb351, 0, none⟩ (.int .i64 ((rd_T57 l0_1 x20_1).f0))).setCell ⟨gb351, 1, none⟩ (.string ((rd_T57 l0_1 x20_1).f1)))) := ⟨kR1 HB⟩
                              (try clear HO_350000); (try clear BK344); (try clear BK345); (try clear BK349); (try clear BK351); (try clear HB)
                              generalize ((w64.setCell ⟨gb351, 0, none⟩ (.int .i64 ((rd_T57 l0_1 x20_1).f0))).setCell ⟨gb351, 1, none⟩ (.string ((rd_T57 l0_1 x20_1).f1))) = w69 at n0_ n1_ n2_ n3_ n4_ n5_ ⊢
                              have HO_350000 := n0_; have BK344 := n1_; have BK345 := n2_; have BK349 := n3_; have BK351 := n4_; have HB := n5_; clear n0_ n1_ n2_ n3_ n4_ n5_
                              have n0_ := yD (yC HO_350000.out)
                              have n1_ := yD (yO BK344.out)
                              have n2_ := yD (yO BK345.out)
                              have n3_ := yD (yO BK349.out)
                              have n4_ := yD (yO BK351.out)
                              have n5_ := yD (yP HB.out)
                              clear HO_350000 BK344 BK345 BK349 BK351 HB; have HO_350000 := n0_; have BK344 := n1_; have BK345 := n2_; have BK349 := n3_; have BK351 := n4_; have HB := n5_; clear n0_ n1_ n2_ n3_ n4_ n5_
                              obtain ⟨Ao71, co71, eo71⟩ := Kd.R_slice HO_350000.out
                              (first | subst eo71 | (injection eo71 with f1_ f2_ f3_; have f4_ := f1_.symm; have f5_ := f3_.symm; clear f1_ f2_ f3_; subst f4_; subst f5_))
                              have p357 : 0 ≤ (((rd_T57 l0_1 x20_1).f0) : Int) := zP (by assumption)
                              have q357 : ((rd_T57 l0_1 x20_1).f0) < (x350000_1.length : Int) := zP (by assumption)
                              obtain ⟨ad357, e357, hx357_0⟩ := Kd.at_string (zA HO_350000.out).2.2 ((rd_T57 l0_1 x20_1).f0) p357 q357
                              cases e357; replace p357 := eq_true p357; replace q357 := eq_true q357
                              have p63 : 0 ≤ (((rd_T57 l0_1 x20_1).f0) : Int) := zP (by assumption)
                              have q63 : (((rd_T57 l0_1 x20_1).f0) : Int) < ((x350000_1.length : Int) : Int) := zP (by assumption)
                              obtain ⟨go63, co63, eo63, gb63, gl63, cl63, HG63⟩ := Kd.R_form HO_350000.out (by omega)
                              (first | cases eo63 | (injection eo63 with ea_ en_ ec_; (first | subst ea_ | (injection ea_ with ea_; subst ea_)); subst ec_; clear en_))
                              have GB63 := yD gb63
                              have GG63 := yD HG63
                              clear gb63 gl63 HG63
                              (first | simp only [add_plain] at hx357_0 | skip)
                              obtain ⟨hx63_0, hf63_0⟩ := Kd.R_celln (⟨#[]⟩ : ByteArray) HO_350000.out (((rd_T57 l0_1 x20_1).f0) : Int) p63 q63
                              replace p63 := eq_true p63; replace q63 := eq_true q63
                              have HP72 := Kd.R_putn HO_350000.out (((rd_T57 l0_1 x20_1).f0) : Int) ((((rd_T57 l0_1 x20_1).f1).extract 0 0) ++ ((rdOf ByteArray.empty x350000_1 ((rd_T57 l0_1 x20_1).f0)).extract 0 (rdOf ByteArray.empty x350000_1 ((rd_T57 l0_1 x20_1).f0)).size))
                              rw [← Ny358.out] at HP72
                              have HQ72 := yD HP72
                              have e0_ : (((rd_T57 l0_1 x20_1).f1).extract 0 0) ++ ((rdOf ByteArray.empty x350000_1 ((rd_T57 l0_1 x20_1).f0)).extract 0 (rdOf ByteArray.empty x350000_1 ((rd_T57 l0_1 x20_1).f0)).size) = (rdOf ByteArray.empty x350000_1 ((rd_T57 l0_1 x20_1).f0)) := by simp
                              rw [e0_] at HQ72
                              clear HP72
                              refine start_ (n := 19) (S := fun w' => w'.cell? ⟨gb349, 0, none⟩ = some (.slice (some ⟨go63, 0, none⟩) x350000_1.length co71) ∧ w'.cell? ⟨gb349, 1, none⟩ = some (.slice none 0 0) ∧ w'.cell? ⟨gb349, 2, none⟩ = some (.int .i64 (-1)) ∧ w'.cell? ⟨gb349, 3, none⟩ = some (.bool false) ∧ w'.cell? ⟨gb351, 0, none⟩ = some (.int .i64 ((rd_T57 l0_1 x20_1).f0)) ∧ w'.cell? ⟨gb351, 1, none⟩ = some (.string ((rd_T57 l0_1 x20_1).f1)) ∧ w'.cell? ⟨go63, (((rd_T57 l0_1 x20_1).f0)).toNat, none⟩ = some (.string (rdOf ByteArray.empty x350000_1 ((rd_T57 l0_1 x20_1).f0)))) (ds := [18]) (bz 19 0) (by kernel_rfl) rfl rfl ⟨(yG BK349.out 0).trans rfl, (yG BK349.out 1).trans rfl, (yG BK349.out 2).trans rfl, (yG BK349.out 3).trans rfl, (yG BK351.out 0).trans rfl, (yG BK351.out 1).trans rfl, hx357_0⟩ (fun hHeld => ?_); refine with_tabW impl_Disk_afterCut.tab10 impl_Disk_afterCut.bits10 (fun HT_ HW_ => ?_)
                              generalize w69.drew = w70 at HO_350000 BK344 BK345 BK349 BK351 HB GG63 HQ72 hf63_0 hx357_0 hx63_0 hHeld ⊢
                              refine qA 0 35 (bz 19 1) HT_ ?_
                              refine qA 2 37 (bz 19 5) HT_ ?_
                              refine qA 4 39 (bz 19 21) HT_ ?_
                              refine qA 6 41 (bz 19 85) HT_ ?_
                              refine qA 8 43 (bz 19 341) HT_ ?_
                              refine qA 10 45 (bz 19 1365) HT_ ?_
                              refine qA 14 49 (bz 19 17749) HT_ ?_
                              refine qC 1 36 (bz 19 17751) HT_ HW_ hHeld ?_ (hy := by rintro w' ⟨s0, s1, s2, s3, s4, s5, s6⟩; go_simp; with_reducible rfl)
                              refine qC 3 38 (bz 19 17759) HT_ HW_ hHeld ?_ (hy := by rintro w' ⟨s0, s1, s2, s3, s4, s5, s6⟩; go_simp; with_reducible rfl)
                              refine qC 5 40 (bz 19 17791) HT_ HW_ hHeld ?_ (hy := by rintro w' ⟨s0, s1, s2, s3, s4, s5, s6⟩; go_simp; with_reducible rfl)
                              refine qA 7 42 (bz 19 17919) HT_ ?_
                              refine qC 9 44 (bz 19 18431) HT_ HW_ hHeld ?_ (hy := by rintro w' ⟨s0, s1, s2, s3, s4, s5, s6⟩; go_simp; with_reducible rfl)
                              refine qC 11 46 (bz 19 20479) HT_ HW_ hHeld ?_ (hy := by rintro w' ⟨s0, s1, s2, s3, s4, s5, s6⟩; go_simp; with_reducible rfl)
                              refine qA 12 47 (bz 19 24575) HT_ ?_
                              refine qC 13 48 (bz 19 32767) HT_ HW_ hHeld ?_ (hy := by rintro w' ⟨s0, s1, s2, s3, s4, s5, s6⟩; go_simp; with_reducible rfl)
                              refine qA 15 50 (bz 19 65535) HT_ ?_
                              (try have u0_ : ((64 : Int) ≤ (((rd_T57 l0_1 x20_1).f1).size : Int)) := zP (by assumption))
                              (try have u1_ : ((64 : Int) ≤ ((rdOf ByteArray.empty x350000_1 ((rd_T57 l0_1 x20_1).f0)).size : Int)) := zP (by assumption))
                              (try have hcat0_ : (9223372036854775807 < min 64 ((rd_T57 l0_1 x20_1).f1).size + ((rdOf ByteArray.empty x350000_1 ((rd_T57 l0_1 x20_1).f0)).size - 64)) = False := eq_false (by have h1 := of_eq_true c62b0; simp only [ByteArray.size_extract] at h1; omega))
                              (try have hcat1_ : (9223372036854775807 < 64 + ((rdOf ByteArray.empty x350000_1 ((rd_T57 l0_1 x20_1).f0)).size - 64)) = False := eq_false (by have h1 := of_eq_true c62b0; simp only [ByteArray.size_extract] at h1; omega))
                              (try have hcat2_ : (9223372036854775807 < (rdOf ByteArray.empty x350000_1 ((rd_T57 l0_1 x20_1).f0)).size) = False := eq_false (by have h1 := of_eq_true c62b0; simp only [ByteArray.size_extract] at h1; omega))
                              refine qA 16 51 (bz 19 131071) HT_ ?_
                              refine qA 17 52 (bz 19 262143) HT_ ?_
                              refine last_ (i := 18) (N := none) #[true, true, true, true, true, true, true, true, true, true, true, true, true, true, true, true, true, true, true] rfl rfl (one_of HT_.out (by kernel_rfl)) (by decide) (fun K hK => ?_)
                              refine skip_ (w1 := ?_) (by rfl) rfl ?_ ?_
                              rotate_left
                              · go_simp
                                rfl
                              refine hK.out _ _ ?_
                              clear hK K
                              refine done_ (done_of HT_.out (by kernel_rfl)) ?_
                              try go_wp2
                              go_roundg k1
                              case measure => have := HK1.out; omega
                              case rel => exact ⟨(wrap64 (x20_1 + 1)), (y358), (.slice (some ⟨go63, 0, none⟩) x350000_1.length co71), (by first | rfl | (simp; done) | (simp [*]; done)), H', ⟨by have := HK1.out; omega⟩, ⟨by (with_reducible repeat (first | apply yA | apply yB | apply yC)); exact HQ72.out⟩, ⟨by (with_reducible repeat (first | refine yM ?_ _ | refine yO ?_ | refine yN ?_ _)); refine blk_far ?_ (by have h_ := Kd.R_ne HO_350000.out BK344.out (by decide); intro e_; exact h_ (by rw [e_]; rfl)) _; (with_reducible repeat (first | refine yM ?_ _ | refine yO ?_ | refine yN ?_ _)); exact BK344.out⟩, ⟨by (with_reducible repeat (first | refine yM ?_ _ | refine yO ?_ | refine yN ?_ _)); refine blk_far ?_ (by have h_ := Kd.R_ne HO_350000.out BK345.out (by decide); intro e_; exact h_ (by rw [e_]; rfl)) _; (with_reducible repeat (first | refine yM ?_ _ | refine yO ?_ | refine yN ?_ _)); exact BK345.out⟩, ⟨by (with_reducible repeat (first | refine yM ?_ _ | refine yO ?_ | refine yN ?_ _)); refine blk_far ?_ (by have h_ := Kd.R_ne HO_350000.out BK349.out (by decide); intro e_; exact h_ (by rw [e_]; rfl)) _; (with_reducible repeat (first | refine yM ?_ _ | refine yO ?_ | refine yN ?_ _)); exact BK349.out⟩, ⟨by repeat (first | (with_reducible first | exact HB.out | apply yQ | apply yL | apply yP | refine yE ?_ GB63.out | refine yE ?_ GE344.out | refine yE ?_ GE345.out | refine yE ?_ GE349.out | refine yE ?_ GE351.out) | exact HB.out)⟩⟩
                            · rw [if_neg c62] at H
                              exact absurd H (by simp)
                          · rw [if_neg c61] at H
                            exact absurd H (by simp)
                        · rw [if_neg c60] at H
                          exact absurd H (by simp)
                      · rw [if_neg c59] at H
                        exact absurd H (by simp)
                    · rw [if_neg c58] at H
                      exact absurd H (by simp)
                  · rw [if_neg c57] at H
                    exact absurd H (by simp)
              · rw [if_neg c38] at H
                exact absurd H (by simp)
          · rw [if_neg c19] at H
            exact absurd H (by simp)
        · rw [if_neg c18] at H
          exact absurd H (by simp)
      · rw [if_neg c17] at H
        have c17b0 : decide (x20_1 < (l0_1.length : Int)) = false := zS c17; clear c17
        simp only [Option.some.injEq, Prod.mk.injEq] at H
        obtain ⟨rfl, rfl, rfl, rfl⟩ := H
        have hnb73 := NB349_344.out; have hnc73 := NB344_349.out; have hnb74 := NB349_345.out; have hnc74 := NB345_349.out
        obtain ⟨hcz75_0, hcz75_1, hcz75_2, hcz75_3⟩ := cz4 BK349.out
        obtain ⟨hfz75_0, hfz75_1, hfz75_2, hfz75_3⟩ := fz4 BK349.out
        obtain ⟨Ao76, co76, eo76⟩ := Kd.R_slice HO_350000.out
        subst eo76; have hnb77 := NB345_344.out; have hnc77 := NB344_345.out
        obtain ⟨hcz78_0, hcz78_1, hcz78_2, hcz78_3⟩ := cz4 BK345.out
        obtain ⟨hfz78_0, hfz78_1, hfz78_2, hfz78_3⟩ := fz4 BK345.out
        go_wp2
        refine bodyPost_ret (results_cell_row rfl _ _ gb345 44 #[.slice Ao76 x350000_1.length co76, .slice none 0 0, .int .i64 (-1), .bool false] (0, 0) _ rfl (by (with_reducible repeat (first | refine yM ?_ _ | refine yO ?_ | refine yN ?_ _)); refine blk_put (cs := #[.slice Ao76 x350000_1.length co76, .slice none 0 0, .int .i64 (-1), .bool false]) ?_ 3 _ rfl; (with_reducible repeat (first | refine yM ?_ _ | refine yO ?_ | refine yN ?_ _)); refine blk_put (cs := #[.slice Ao76 x350000_1.length co76, .slice none 0 0, .int .i64 0, .bool false]) ?_ 2 _ rfl; (with_reducible repeat (first | refine yM ?_ _ | refine yO ?_ | refine yN ?_ _)); refine blk_put (cs := #[.slice Ao76 x350000_1.length co76, .slice none 0 0, .int .i64 0, .bool false]) ?_ 1 _ rfl; (with_reducible repeat (first | refine yM ?_ _ | refine yO ?_ | refine yN ?_ _)); refine blk_put (cs := #[.slice none 0 0, .slice none 0 0, .int .i64 0, .bool false]) ?_ 0 _ rfl; (with_reducible repeat (first | refine yM ?_ _ | refine yO ?_ | refine yN ?_ _)); exact BK345.out) Try.underlying44 rfl (by kernel_rfl)) rfl ?_
        exact ⟨_, _, by first | rfl | (simp <;> rfl) | (simp [*] <;> rfl), by (with_reducible repeat (first | apply yA | apply yB | apply yC)); exact zF (yF (p := ⟨gb345, 3, none⟩) (yF (p := ⟨gb345, 2, none⟩) (yF (p := ⟨gb345, 1, none⟩) (yF (p := ⟨gb345, 0, none⟩) (Kd.R_types HO_350000.out BK345.out (by decide)) (fun _ hk => hk.2) (.slice Ao76 x350000_1.length co76)) (fun _ hk => hk.2) (.slice none 0 0)) (fun _ hk => hk.2) (.int .i64 (-1))) (fun _ hk => hk.2) (.bool false)) (fun _ hk => trivial), by first | exact Kd.R_nil _ _ _ _ _ | exact Kd.N_nil _ _ _ _ _ | exact Kd.V_nil _ _ _ _ _ | exact Kd.Q_nil _ _ _ _ _ | exact Kd.S_nil _ _ _ _ _, kR1 HB⟩

end Go.Proofs.Ytgpkkplabnliiaa.PFnCuts
