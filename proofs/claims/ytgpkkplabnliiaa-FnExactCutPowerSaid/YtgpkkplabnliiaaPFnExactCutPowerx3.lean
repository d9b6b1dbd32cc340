/- Each Go function here comes to what the plain function of its name says, where that says something. Made by a program of this session, over the print. -/
import Derived.Test.YtgpkkplabnliiaaPFnExactCutPowerx0
import Derived.Test.YtgpkkplabnliiaaPFnExactCutPowerx1
import Derived.Test.YtgpkkplabnliiaaPFnExactCutPowerx2
namespace Go.Proofs.Ytgpkkplabnliiaa.PFnExactCutPower
open Go.RowKit Go.Proofs.YtgpkkplabnliiaaW.PrintWords Go.Proofs.YtgpkkplabnliiaaW.PrintLast Go.Proofs.YtgpkkplabnliiaaW.PrintMore
attribute [local go_sem] max2_int min2_int max_two min_two max_three min_three max_four min_four   -- for this text's walks alone
set_option linter.unusedVariables false
set_option linter.unusedSimpArgs false

/-! ### spec_l09Cut_c44: function 44 -/
def spec_l09Cut_c44.l0 : Nat → List Bool → Int → Int → Int → List ByteArray → List (S57) → Int → Bool → List ByteArray → List (S57) → Int → Bool → Option (List ByteArray × (List (S57)) × Int × Bool)
  | 0, _, _, _, _, _, _, _, _, _, _, _, _ => none
  | k + 1, x1, x2, x3, x10, x41000, x41001, x41002, x41003, x166000, x166001, x166002, x166003 => if x10 < (x41001.length : Int) then (if 0 ≤ x10 then (if x10 = x2 then (if 0 ≤ x3 then (if x3 ≤ (((rd_T57 x41001 x10).f1).size : Int) then (if 0 ≤ ((rd_T57 x41001 x10).f0) then (if ((rd_T57 x41001 x10).f0) < (x166000.length : Int) then (if x3 ≤ ((rdOf ByteArray.empty x166000 ((rd_T57 x41001 x10).f0)).size : Int) then (if (((rd_T57 x41001 x10).f1).extract 0 (x3 : Int).toNat).size + ((rdOf ByteArray.empty x166000 ((rd_T57 x41001 x10).f0)).extract (x3 : Int).toNat (rdOf ByteArray.empty x166000 ((rd_T57 x41001 x10).f0)).size).size ≤ 9223372036854775807 then (spec_l09Cut_c44.l0 k x1 x2 x3 (wrap64 (x10 + 1)) x41000 x41001 x41002 x41003 (x166000.set (((rd_T57 x41001 x10).f0) : Int).toNat ((((rd_T57 x41001 x10).f1).extract 0 (x3 : Int).toNat) ++ ((rdOf ByteArray.empty x166000 ((rd_T57 x41001 x10).f0)).extract (x3 : Int).toNat (rdOf ByteArray.empty x166000 ((rd_T57 x41001 x10).f0)).size))) x166001 x166002 x166003) else (none)) else (none)) else (none)) else (none)) else (none)) else (none)) else (if x10 < (x1.length : Int) then (if rdOf false x1 x10 = true then (if 0 ≤ ((rd_T57 x41001 x10).f0) then (if ((rd_T57 x41001 x10).f0) < (x166000.length : Int) then (spec_l09Cut_c44.l0 k x1 x2 x3 (wrap64 (x10 + 1)) x41000 x41001 x41002 x41003 (x166000.set (((rd_T57 x41001 x10).f0) : Int).toNat ((rd_T57 x41001 x10).f1)) x166001 x166002 x166003) else (none)) else (none)) else (spec_l09Cut_c44.l0 k x1 x2 x3 (wrap64 (x10 + 1)) x41000 x41001 x41002 x41003 x166000 x166001 x166002 x166003)) else (none))) else (none)) else (some (x166000, (([] : List (S57))), (-1), false))
def spec_l09Cut_c44.f (k : Nat) (l0_0 : List ByteArray) (l0_1 : List (S57)) (a0_2 : Int) (a0_3 : Bool) (l1 : List Bool) (a2 : Int) (a3 : Int) : Option (List ByteArray × (List (S57)) × Int × Bool) := (spec_l09Own_c44.f l0_0 l0_1 a0_2 a0_3).bind fun bt157 => (spec_l09Cut_c44.l0 k l1 a2 a3 0 l0_0 l0_1 a0_2 a0_3 bt157.1 bt157.2.1 bt157.2.2.1 bt157.2.2.2)
theorem spec_l09Cut_c44.mono_l : ∀ k, (∀ y0 y1 y2 y3 y4 y5 y6 y7 y8 y9 y10 y11, LeO (spec_l09Cut_c44.l0 k y0 y1 y2 y3 y4 y5 y6 y7 y8 y9 y10 y11) (spec_l09Cut_c44.l0 (k + 1) y0 y1 y2 y3 y4 y5 y6 y7 y8 y9 y10 y11))
  | 0 => fun _ _ _ _ _ _ _ _ _ _ _ _ r h => by simp [spec_l09Cut_c44.l0] at h
  | k + 1 => by
    have ih0 := spec_l09Cut_c44.mono_l k
    · intro y0 y1 y2 y3 y4 y5 y6 y7 y8 y9 y10 y11
      unfold spec_l09Cut_c44.l0
      repeat' first
      | (with_reducible exact ih0 _ _ _ _ _ _ _ _ _ _ _ _)
      | (with_reducible exact LeO.refl _)
      | (with_reducible exact LeO.none _)
      | (with_reducible refine LeO.ite ?_ ?_)
      | (with_reducible refine LeO.bind ?_ (fun _ => ?_))
      | exact ih0 _ _ _ _ _ _ _ _ _ _ _ _
      | exact LeO.none _
      | refine LeO.ite ?_ ?_
      | refine LeO.bind ?_ (fun _ => ?_)
theorem spec_l09Cut_c44.mono : ∀ a0 a1 a2 a3 a4 a5 a6 k, LeO (spec_l09Cut_c44.f k a0 a1 a2 a3 a4 a5 a6) (spec_l09Cut_c44.f (k + 1) a0 a1 a2 a3 a4 a5 a6) := by
  intro a0 a1 a2 a3 a4 a5 a6 k
  have ih0 := spec_l09Cut_c44.mono_l k
  unfold spec_l09Cut_c44.f
  repeat' first
      | (with_reducible exact ih0 _ _ _ _ _ _ _ _ _ _ _ _)
      | (with_reducible exact LeO.refl _)
      | (with_reducible exact LeO.none _)
      | (with_reducible refine LeO.ite ?_ ?_)
      | (with_reducible refine LeO.bind ?_ (fun _ => ?_))
      | exact ih0 _ _ _ _ _ _ _ _ _ _ _ _
      | exact LeO.none _
      | refine LeO.ite ?_ ?_
      | refine LeO.bind ?_ (fun _ => ?_)
def spec_l09Cut_c44.T7 : Bool × List (List Nat × List Nat) := (true, [([], []), ([0], [0]), ([], []), ([2], [2]), ([], []), ([4], [4]), ([], []), ([5, 6], [5, 6]), ([], []), ([8], [8]), ([], []), ([10], [10]), ([9, 11], [9, 11]), ([12], [12]), ([], []), ([13, 14], [13, 14]), ([7, 15], [7, 15]), ([1, 3, 0, 1, 2, 3, 4, 5, 6, 7, 8, 9, 10, 11, 12, 13, 14, 15, 16], [1, 3]), ([17, 16, 0, 1, 2, 3, 4, 5, 6, 7, 8, 9, 10, 11, 12, 13, 14, 15, 16], [16, 17])])
def spec_l09Cut_c44.B7 : List Nat := [0, 1, 0, 4, 0, 16, 0, 112, 0, 256, 0, 1024, 3840, 7936, 0, 32512, 65520, 131071, 262143]
theorem spec_l09Cut_c44.tab7 : rtab .any (opsOf Try.f44 7) = spec_l09Cut_c44.T7 := by kernel_rfl
theorem spec_l09Cut_c44.bits7 : waitsOk spec_l09Cut_c44.T7.2 spec_l09Cut_c44.B7 = true := by kernel_rfl
set_option maxHeartbeats 8000000 in
set_option maxRecDepth 100000 in
theorem spec_l09Cut_c44.calls (k : Nat) (g0_0 : Nat) (A0_0 : Option Addr) (c0_0 : Nat) (l0_0 : List ByteArray) (A0_1 : Option Addr) (c0_1 : Nat) (l0_1 : List (S57)) (a0_2 : Int) (a0_3 : Bool) (A1 : Option Addr) (c1 : Nat) (l1 : List Bool) (a2 : Int) (a3 : Int) (r1 : List ByteArray) (r2 : List (S57)) (r3 : Int) (r4 : Bool) (w : World) (hr0_0 : Kd.C Kd.string w A0_0 l0_0.length l0_0) (hc0_0 : l0_0.length ≤ c0_0) (hr0_1 : Kd.C k57 w A0_1 l0_1.length l0_1) (hc0_1 : l0_1.length ≤ c0_1) (hr1 : Kd.C Kd.bool w A1 l1.length l1) (hc1 : l1.length ≤ c1) (hb0_0 : w.heap[g0_0]? = some (.cells #[.slice A0_0 l0_0.length c0_0, .slice A0_1 l0_1.length c0_1, .int .i64 a0_2, .bool a0_3] 44 (0, 0))) (h : spec_l09Cut_c44.f k l0_0 l0_1 a0_2 a0_3 l1 a2 a3 = some (r1, r2, r3, r4)) :
    Calls Try.prog 44 #[.pointer (some ⟨g0_0, 0, none⟩), .slice A1 l1.length c1, .int .i64 a2, .int .i64 a3] w fun e w' => ∃ v0_ v1_ : Value, e = .returned (.agg #[v0_, v1_, .int .i64 r3, .bool r4]) ∧ Kd.R Kd.string 9 w' w.heap.size (fun _ => True) v0_ r1 ∧ Kd.R k57 57 w' w.heap.size (fun _ => True) v1_ r2 ∧ Below w.heap.size w w' := by
  have hu44 := Try.underlying44; have hu57 := Try.underlying57
  have HR0_0 := yD hr0_0
  have HC0_0 := yD hc0_0
  clear hr0_0 hc0_0
  have HR0_1 := yD hr0_1
  have HC0_1 := yD hc0_1
  clear hr0_1 hc0_1
  have HR1 := yD hr1
  have HC1 := yD hc1
  clear hr1 hc1
  have BK40 := yD hb0_0
  clear hb0_0
  have HB := yD (Below.refl w.heap.size w)
  have H : ((spec_l09Own_c44.f l0_0 l0_1 a0_2 a0_3).bind fun bt157 => (spec_l09Cut_c44.l0 k l1 a2 a3 0 l0_0 l0_1 a0_2 a0_3 bt157.1 bt157.2.1 bt157.2.2.1 bt157.2.2.2)) = some (r1, r2, r3, r4) := h
  clear h
  obtain ⟨⟨t157, t160, t163, t164⟩, A50, H⟩ := zW_ H
  replace H : (spec_l09Cut_c44.l0 k l1 a2 a3 0 l0_0 l0_1 a0_2 a0_3 t157 t160 t163 t164) = some (r1, r2, r3, r4) := H
  have A5 := yD A50
  clear A50
  have H' := yD H
  clear H; go_enter Try.func44, Try.ntmps44
  go_wp2_with (first | ((with_reducible refine gate_dst (N := 8) rfl ?_); refine box_event ?hg (N := 8) ?hd (cs := #[.slice none 0 0, .slice none 0 0, .int .i64 0, .bool false]) (t := 44) ?hr ?_; (case hd => rfl); (case hg => rfl); (case hr => first | (go_simp; done) | (go_simp; rfl)); intro gb156 hg w6 hbox hb; have n0_ := yD (zB (g := g0_0) (o := .cells #[.slice A0_0 l0_0.length c0_0, .slice A0_1 l0_1.length c0_1, .int .i64 a0_2, .bool a0_3] 44 (0, 0)) (kM BK40) hb); have n1_ := yD (zC (kB HB) hb); have n2_ := yD (hbox); have n3_ := yD ((by rw [hg]; exact (below_size (kB HB)) : w.heap.size ≤ gb156)); have n4_ := yD ((by rw [hg]; exact (below_size (kB HB)) : w.heap.size ≤ gb156)); have n5_ := yD ((by rw [hg]; exact Nat.ne_of_lt (blk_lt (g := g0_0) (o := .cells #[.slice A0_0 l0_0.length c0_0, .slice A0_1 l0_1.length c0_1, .int .i64 a0_2, .bool a0_3] 44 (0, 0)) (kM BK40)) : g0_0 ≠ gb156)); have n6_ := yD ((by rw [hg]; exact Nat.ne_of_gt (blk_lt (g := g0_0) (o := .cells #[.slice A0_0 l0_0.length c0_0, .slice A0_1 l0_1.length c0_1, .int .i64 a0_2, .bool a0_3] 44 (0, 0)) (kM BK40)) : gb156 ≠ g0_0)); clear BK40; clear HB; have BK40 := n0_; have HB := n1_; have BK156 := n2_; have GW156 := n3_; have GE156 := n4_; have NB40_156 := n5_; have NB156_40 := n6_; clear n0_ n1_ n2_ n3_ n4_ n5_ n6_; clear hb hbox hg) | ((with_reducible refine gate_callee (f := 75) rfl ?_); refine goesL_ (some 13) rfl rfl Try.func75 (by kernel_rfl) rfl #[.pointer (some ⟨g0_0, 0, none⟩)] rfl (by (try simp only [zK, zL, zM]); first | done | rfl | (simp only [zN, zO]; rfl)) ?_; (with_reducible refine (spec_l09Own_c44.calls g0_0 A0_0 c0_0 l0_0 A0_1 c0_1 l0_1 a0_2 a0_3 t157 t160 t163 t164 _ ?side1 ?side2 ?side3 ?side4 ?side5 A5.out).mono ?_); (case side1 => exact kV (yY HR0_0.out HB.out)); (case side2 => exact HC0_0.out); (case side3 => exact kV (yY HR0_1.out HB.out)); (case side4 => exact HC0_1.out); (case side5 => (with_reducible repeat (first | refine yM ?_ _ | refine yO ?_ | refine yN ?_ _)); exact BK40.out); rintro e w7 ⟨v158, v161, rfl, ho0, ho1, hb⟩; refine ⟨_, rfl, ?_⟩; have n0_ := yD (yZ ho0 (below_size (kB HB))); have n1_ := yD (yZ ho1 (below_size (kB HB))); have n2_ := yD (zB (g := g0_0) (o := .cells #[.slice A0_0 l0_0.length c0_0, .slice A0_1 l0_1.length c0_1, .int .i64 a0_2, .bool a0_3] 44 (0, 0)) (kM BK40) hb); have n3_ := yD (zB (g := gb156) (o := .cells #[.slice none 0 0, .slice none 0 0, .int .i64 0, .bool false] 44 (0, 0)) (kM BK156) hb); have n4_ := yD (zC (kB HB) hb); clear BK40; clear BK156; clear HB; have HO159 := n0_; have HO162 := n1_; have BK40 := n2_; have BK156 := n3_; have HB := n4_; clear n0_ n1_ n2_ n3_ n4_; (try clear hb); (try clear hb2); (try clear hk); (try clear hi); (try clear ho0); (try clear ho1)) | ((with_reducible refine gate_dst (N := 9) rfl ?_); refine box_event ?hg (N := 9) ?hd (cs := #[.slice none 0 0, .slice none 0 0, .int .i64 0, .bool false]) (t := 44) ?hr ?_; (case hd => rfl); (case hg => rfl); (case hr => first | (go_simp; done) | (go_simp; rfl)); intro gb165 hg w8 hbox hb; have n0_ := yD (zE (kA HO159) hb); have n1_ := yD (zE (kA HO162) hb); have n2_ := yD (zB (g := g0_0) (o := .cells #[.slice A0_0 l0_0.length c0_0, .slice A0_1 l0_1.length c0_1, .int .i64 a0_2, .bool a0_3] 44 (0, 0)) (kM BK40) hb); have n3_ := yD (zB (g := gb156) (o := .cells #[.slice none 0 0, .slice none 0 0, .int .i64 0, .bool false] 44 (0, 0)) (kM BK156) hb); have n4_ := yD (zC (kB HB) hb); have n5_ := yD (hbox); have n6_ := yD ((by rw [hg]; exact (below_size (kB HB)) : w.heap.size ≤ gb165)); have n7_ := yD ((by rw [hg]; exact (below_size (kB HB)) : w.heap.size ≤ gb165)); have n8_ := yD ((by rw [hg]; exact Nat.ne_of_lt (blk_lt (g := g0_0) (o := .cells #[.slice A0_0 l0_0.length c0_0, .slice A0_1 l0_1.length c0_1, .int .i64 a0_2, .bool a0_3] 44 (0, 0)) (kM BK40)) : g0_0 ≠ gb165)); have n9_ := yD ((by rw [hg]; exact Nat.ne_of_gt (blk_lt (g := g0_0) (o := .cells #[.slice A0_0 l0_0.length c0_0, .slice A0_1 l0_1.length c0_1, .int .i64 a0_2, .bool a0_3] 44 (0, 0)) (kM BK40)) : gb165 ≠ g0_0)); have n10_ := yD ((by rw [hg]; exact Nat.ne_of_lt (blk_lt (g := gb156) (o := .cells #[.slice none 0 0, .slice none 0 0, .int .i64 0, .bool false] 44 (0, 0)) (kM BK156)) : gb156 ≠ gb165)); have n11_ := yD ((by rw [hg]; exact Nat.ne_of_gt (blk_lt (g := gb156) (o := .cells #[.slice none 0 0, .slice none 0 0, .int .i64 0, .bool false] 44 (0, 0)) (kM BK156)) : gb165 ≠ gb156)); clear HO159; clear HO162; clear BK40; clear BK156; clear HB; have HO159 := n0_; have HO162 := n1_; have BK40 := n2_; have BK156 := n3_; have HB := n4_; have BK165 := n5_; have GW165 := n6_; have GE165 := n7_; have NB40_165 := n8_; have NB165_40 := n9_; have NB156_165 := n10_; have NB165_156 := n11_; clear n0_ n1_ n2_ n3_ n4_ n5_ n6_ n7_ n8_ n9_ n10_ n11_; clear hb hbox hg; obtain ⟨Ao9, co9, eo9⟩ := Kd.R_slice HO159.out; subst eo9; have hnb10 := NB165_40.out; have hnc10 := NB40_165.out; have hnb11 := NB165_156.out; have hnc11 := NB156_165.out; obtain ⟨hcz12_0, hcz12_1, hcz12_2, hcz12_3⟩ := cz4 BK165.out; obtain ⟨hfz12_0, hfz12_1, hfz12_2, hfz12_3⟩ := fz4 BK165.out; obtain ⟨Ao13, co13, eo13⟩ := Kd.R_slice HO162.out; subst eo13))
  go_loopg [10] k (fun kq v10 w' => ∃ (x10_1 : Int) (x166000_1 : List ByteArray) (u166000 : Value), v10 = .int .i64 x10_1 ∧ Aside0 (spec_l09Cut_c44.l0 kq l1 a2 a3 x10_1 l0_0 l0_1 a0_2 a0_3 x166000_1 t160 t163 t164 = some (r1, r2, r3, r4)) ∧ Aside0 (kq ≤ k) ∧ Aside0 (Kd.R Kd.string 9 w' w.heap.size (fun _ => True) u166000 x166000_1) ∧ Aside0 (Kd.R k57 57 w' w.heap.size (fun _ => True) (.slice Ao13 t160.length co13) t160) ∧ Aside0 (w'.heap[g0_0]? = some (.cells #[(.slice A0_0 l0_0.length c0_0), (.slice A0_1 l0_1.length c0_1), .int .i64 a0_2, .bool a0_3] 44 (0, 0))) ∧ Aside0 (w'.heap[gb156]? = some (.cells #[(.slice none 0 0), (.slice none 0 0), .int .i64 0, .bool false] 44 (0, 0))) ∧ Aside0 (w'.heap[gb165]? = some (.cells #[u166000, (.slice Ao13 t160.length co13), .int .i64 t163, .bool t164] 44 (0, 0))) ∧ Aside0 (Below w.heap.size w w'))
  case atStart => exact ⟨(0), (t157), (.slice Ao9 t157.length co9), (by first | rfl | (simp; done) | (simp [*]; done)), H', ⟨Nat.le_refl _⟩, ⟨by (with_reducible repeat (first | apply yA | apply yB | apply yC)); exact zF (yF (p := ⟨gb165, 3, none⟩) (yF (p := ⟨gb165, 2, none⟩) (yF (p := ⟨gb165, 1, none⟩) (yF (p := ⟨gb165, 0, none⟩) (Kd.R_types HO159.out BK165.out (by decide)) (fun _ hk => hk.2) (.slice Ao9 t157.length co9)) (fun _ hk => hk.2) (.slice Ao13 t160.length co13)) (fun _ hk => hk.2) (.int .i64 t163)) (fun _ hk => hk.2) (.bool t164)) (fun _ hk => trivial)⟩, ⟨by (with_reducible repeat (first | apply yA | apply yB | apply yC)); exact zF (yF (p := ⟨gb165, 3, none⟩) (yF (p := ⟨gb165, 2, none⟩) (yF (p := ⟨gb165, 1, none⟩) (yF (p := ⟨gb165, 0, none⟩) (Kd.R_types HO162.out BK165.out (by decide)) (fun _ hk => hk.2) (.slice Ao9 t157.length co9)) (fun _ hk => hk.2) (.slice Ao13 t160.length co13)) (fun _ hk => hk.2) (.int .i64 t163)) (fun _ hk => hk.2) (.bool t164)) (fun _ hk => trivial)⟩, ⟨by (with_reducible repeat (first | refine yM ?_ _ | refine yO ?_ | refine yN ?_ _)); refine blk_far ?_ NB40_165.out _; (with_reducible repeat (first | refine yM ?_ _ | refine yO ?_ | refine yN ?_ _)); refine blk_far ?_ NB40_165.out _; (with_reducible repeat (first | refine yM ?_ _ | refine yO ?_ | refine yN ?_ _)); refine blk_far ?_ NB40_165.out _; (with_reducible repeat (first | refine yM ?_ _ | refine yO ?_ | refine yN ?_ _)); refine blk_far ?_ NB40_165.out _; (with_reducible repeat (first | refine yM ?_ _ | refine yO ?_ | refine yN ?_ _)); exact BK40.out⟩, ⟨by (with_reducible repeat (first | refine yM ?_ _ | refine yO ?_ | refine yN ?_ _)); refine blk_far ?_ NB156_165.out _; (with_reducible repeat (first | refine yM ?_ _ | refine yO ?_ | refine yN ?_ _)); refine blk_far ?_ NB156_165.out _; (with_reducible repeat (first | refine yM ?_ _ | refine yO ?_ | refine yN ?_ _)); refine blk_far ?_ NB156_165.out _; (with_reducible repeat (first | refine yM ?_ _ | refine yO ?_ | refine yN ?_ _)); refine blk_far ?_ NB156_165.out _; (with_reducible repeat (first | refine yM ?_ _ | refine yO ?_ | refine yN ?_ _)); exact BK156.out⟩, ⟨by (with_reducible repeat (first | refine yM ?_ _ | refine yO ?_ | refine yN ?_ _)); refine blk_put (cs := #[.slice Ao9 t157.length co9, .slice Ao13 t160.length co13, .int .i64 t163, .bool false]) ?_ 3 _ rfl; (with_reducible repeat (first | refine yM ?_ _ | refine yO ?_ | refine yN ?_ _)); refine blk_put (cs := #[.slice Ao9 t157.length co9, .slice Ao13 t160.length co13, .int .i64 0, .bool false]) ?_ 2 _ rfl; (with_reducible repeat (first | refine yM ?_ _ | refine yO ?_ | refine yN ?_ _)); refine blk_put (cs := #[.slice Ao9 t157.length co9, .slice none 0 0, .int .i64 0, .bool false]) ?_ 1 _ rfl; (with_reducible repeat (first | refine yM ?_ _ | refine yO ?_ | refine yN ?_ _)); refine blk_put (cs := #[.slice none 0 0, .slice none 0 0, .int .i64 0, .bool false]) ?_ 0 _ rfl; (with_reducible repeat (first | refine yM ?_ _ | refine yO ?_ | refine yN ?_ _)); exact BK165.out⟩, ⟨by repeat (first | (with_reducible first | exact HB.out | apply yQ | apply yL | apply yP | refine yE ?_ GE40.out | refine yE ?_ GE156.out | refine yE ?_ GE165.out) | exact HB.out)⟩⟩
  case round =>
    clear H'
    try clear c1; try clear p2; try clear c4; try clear c9; try clear c10; try clear c11; try clear hcz12_0; try clear hcz12_1; try clear hcz12_2; try clear hcz12_3; try clear hfz12_0; try clear hfz12_1; try clear hfz12_2; try clear hfz12_3
    obtain ⟨x10_1, x166000_1, u166000, rfl, HA, HK1, HO_166000, HO_166001, BK40, BK156, BK165, HB⟩ := hrel
    cases gk with
    | zero => exact absurd HA.out (by simp [spec_l09Cut_c44.l0])
    | succ k1 =>
      have H := HA.out; clear HA
      simp only [spec_l09Cut_c44.l0] at H
      by_cases c14 : x10_1 < (l0_1.length : Int)
      · rw [if_pos c14] at H
        have c14b0 : decide (x10_1 < (l0_1.length : Int)) = true := zR c14; clear c14
        by_cases c15 : 0 ≤ x10_1
        · rw [if_pos c15] at H
          have c15b0 : decide (0 ≤ x10_1) = true := zR c15; clear c15
          by_cases c16 : x10_1 = a2
          · rw [if_pos c16] at H
            have c16b0 : (x10_1 == a2) = true := beq_iff_eq.mpr c16
            have c16b1 : (x10_1 != a2) = false := bne_eq_false_iff_eq.mpr c16
            clear c16
            by_cases c17 : 0 ≤ a3
            · rw [if_pos c17] at H
              have c17b0 := eq_true c17
              have c17b1 : decide (0 ≤ a3) = true := zR c17; clear c17
              by_cases c18 : a3 ≤ (((rd_T57 l0_1 x10_1).f1).size : Int)
              · rw [if_pos c18] at H
                have c18b0 := eq_true c18
                have c18b1 : decide (a3 ≤ (((rd_T57 l0_1 x10_1).f1).size : Int)) = true := zR c18; clear c18
                by_cases c19 : 0 ≤ ((rd_T57 l0_1 x10_1).f0)
                · rw [if_pos c19] at H
                  have c19b0 : decide (0 ≤ ((rd_T57 l0_1 x10_1).f0)) = true := zR c19; clear c19
                  by_cases c20 : ((rd_T57 l0_1 x10_1).f0) < (x166000_1.length : Int)
                  · rw [if_pos c20] at H
                    have c20b0 : decide (((rd_T57 l0_1 x10_1).f0) < (x166000_1.length : Int)) = true := zR c20; clear c20
                    have c21b0 := eq_true (zP (by assumption) : 0 ≤ a3)
                    by_cases c22 : a3 ≤ ((rdOf ByteArray.empty x166000_1 ((rd_T57 l0_1 x10_1).f0)).size : Int)
                    · rw [if_pos c22] at H
                      have c22b0 := eq_true c22
                      have c22b1 : decide (a3 ≤ ((rdOf ByteArray.empty x166000_1 ((rd_T57 l0_1 x10_1).f0)).size : Int)) = true := zR c22; clear c22
                      by_cases c23 : (((rd_T57 l0_1 x10_1).f1).extract 0 (a3 : Int).toNat).size + ((rdOf ByteArray.empty x166000_1 ((rd_T57 l0_1 x10_1).f0)).extract (a3 : Int).toNat (rdOf ByteArray.empty x166000_1 ((rd_T57 l0_1 x10_1).f0)).size).size ≤ 9223372036854775807
                      · rw [if_pos c23] at H
                        have c23b0 := eq_true c23
                        have c23b1 : decide ((((rd_T57 l0_1 x10_1).f1).extract 0 (a3 : Int).toNat).size + ((rdOf ByteArray.empty x166000_1 ((rd_T57 l0_1 x10_1).f0)).extract (a3 : Int).toNat (rdOf ByteArray.empty x166000_1 ((rd_T57 l0_1 x10_1).f0)).size).size ≤ 9223372036854775807) = true := zR c23
                        try have c23b2 : (9223372036854775807 < (((rd_T57 l0_1 x10_1).f1).extract 0 (a3 : Int).toNat).size + ((rdOf ByteArray.empty x166000_1 ((rd_T57 l0_1 x10_1).f0)).extract (a3 : Int).toNat (rdOf ByteArray.empty x166000_1 ((rd_T57 l0_1 x10_1).f0)).size).size) = False := eq_false (Nat.not_lt.2 c23)
                        obtain ⟨y172, hy172⟩ : ∃ y_ : List ByteArray, y_ = (x166000_1.set (((rd_T57 l0_1 x10_1).f0) : Int).toNat ((((rd_T57 l0_1 x10_1).f1).extract 0 (a3 : Int).toNat) ++ ((rdOf ByteArray.empty x166000_1 ((rd_T57 l0_1 x10_1).f0)).extract (a3 : Int).toNat (rdOf ByteArray.empty x166000_1 ((rd_T57 l0_1 x10_1).f0)).size))) := ⟨_, rfl⟩
                        replace H : (spec_l09Cut_c44.l0 k1 l1 a2 a3 (wrap64 (x10_1 + 1)) l0_0 l0_1 a0_2 a0_3 y172 t160 t163 t164) = some (r1, r2, r3, r4) := by first | (rw [hy172]; with_reducible exact H) | (have H2_ := (Option.bind_some _ _).symm.trans H; rw [hy172]; with_reducible exact H2_) | (have H2_ := (Option.bind_some _ _).symm.trans H; with_reducible exact H2_) | with_reducible exact H | (rw [hy172]; exact H) | exact H
                        have Ny172 := yD hy172
                        clear hy172
                        have H' := yD H
                        clear H; have hnb25 := NB40_156.out; have hnc25 := NB156_40.out; have hnb26 := NB40_165.out; have hnc26 := NB165_40.out
                        obtain ⟨hcz27_0, hcz27_1, hcz27_2, hcz27_3⟩ := cz4 BK40.out
                        obtain ⟨hfz27_0, hfz27_1, hfz27_2, hfz27_3⟩ := fz4 BK40.out
                        have p169 : 0 ≤ (x10_1 : Int) := zP (by assumption)
                        have q169 : x10_1 < (l0_1.length : Int) := zP (by assumption)
                        obtain ⟨ad169, e169, hx169_0, hx169_1⟩ := at_T57 HR0_1.out x10_1 p169 q169
                        cases e169
                        replace hx169_0 := (HB.out.cell (zQ w _ hx169_0)).trans hx169_0
                        replace hx169_1 := (HB.out.cell (zQ w _ hx169_1)).trans hx169_1
                        replace p169 := eq_true p169; replace q169 := eq_true q169
                        try go_wp2_with (first | ((with_reducible refine gate_dst (N := 11) rfl ?_); refine box_event ?hg (N := 11) ?hd (cs := #[.int .i64 0, .string (⟨#[]⟩ : ByteArray)]) (t := 57) ?hr ?_; (case hd => rfl); (case hg => rfl); (case hr => first | (go_simp; done) | (go_simp; rfl)); intro gb170 hg w28 hbox hb; have n0_ := yD (zE (kA HO_166000) hb); have n1_ := yD (zE (Kd.R_elderB (kA HO_166001) gb170 (Nat.le_of_eq hg.symm)) hb); have n2_ := yD (zB (g := g0_0) (o := .cells #[.slice A0_0 l0_0.length c0_0, .slice (some ad169) l0_1.length c0_1, .int .i64 a0_2, .bool a0_3] 44 (0, 0)) (kM BK40) hb); have n3_ := yD (zB (g := gb156) (o := .cells #[.slice none 0 0, .slice none 0 0, .int .i64 0, .bool false] 44 (0, 0)) (kM BK156) hb); have n4_ := yD (zB (g := gb165) (o := .cells #[u166000, .slice Ao13 t160.length co13, .int .i64 t163, .bool t164] 44 (0, 0)) (kM BK165) hb); have n5_ := yD (zC (kB HB) hb); have n6_ := yD (hbox); have n7_ := yD ((by rw [hg]; exact (below_size (kB HB)) : w.heap.size ≤ gb170)); have n8_ := yD ((by rw [hg]; exact (below_size (kB HB)) : w.heap.size ≤ gb170)); have n9_ := yD ((by rw [hg]; exact Nat.ne_of_lt (blk_lt (g := g0_0) (o := .cells #[.slice A0_0 l0_0.length c0_0, .slice (some ad169) l0_1.length c0_1, .int .i64 a0_2, .bool a0_3] 44 (0, 0)) (kM BK40)) : g0_0 ≠ gb170)); have n10_ := yD ((by rw [hg]; exact Nat.ne_of_gt (blk_lt (g := g0_0) (o := .cells #[.slice A0_0 l0_0.length c0_0, .slice (some ad169) l0_1.length c0_1, .int .i64 a0_2, .bool a0_3] 44 (0, 0)) (kM BK40)) : gb170 ≠ g0_0)); have n11_ := yD ((by rw [hg]; exact Nat.ne_of_lt (blk_lt (g := gb156) (o := .cells #[.slice none 0 0, .slice none 0 0, .int .i64 0, .bool false] 44 (0, 0)) (kM BK156)) : gb156 ≠ gb170)); have n12_ := yD ((by rw [hg]; exact Nat.ne_of_gt (blk_lt (g := gb156) (o := .cells #[.slice none 0 0, .slice none 0 0, .int .i64 0, .bool false] 44 (0, 0)) (kM BK156)) : gb170 ≠ gb156)); have n13_ := yD ((by rw [hg]; exact Nat.ne_of_lt (blk_lt (g := gb165) (o := .cells #[u166000, .slice Ao13 t160.length co13, .int .i64 t163, .bool t164] 44 (0, 0)) (kM BK165)) : gb165 ≠ gb170)); have n14_ := yD ((by rw [hg]; exact Nat.ne_of_gt (blk_lt (g := gb165) (o := .cells #[u166000, .slice Ao13 t160.length co13, .int .i64 t163, .bool t164] 44 (0, 0)) (kM BK165)) : gb170 ≠ gb165)); clear HO_166000; clear HO_166001; clear BK40; clear BK156; clear BK165; clear HB; have HO_166000 := n0_; have HO_166001 := n1_; have BK40 := n2_; have BK156 := n3_; have BK165 := n4_; have HB := n5_; have BK170 := n6_; have GW170 := n7_; have GE170 := n8_; have NB40_170 := n9_; have NB170_40 := n10_; have NB156_170 := n11_; have NB170_156 := n12_; have NB165_170 := n13_; have NB170_165 := n14_; clear n0_ n1_ n2_ n3_ n4_ n5_ n6_ n7_ n8_ n9_ n10_ n11_ n12_ n13_ n14_; clear hb hbox hg; have hnb29 := NB170_40.out; have hnc29 := NB40_170.out; have hnb30 := NB170_156.out; have hnc30 := NB156_170.out; have hnb31 := NB170_165.out; have hnc31 := NB165_170.out; obtain ⟨hcz32_0, hcz32_1⟩ := cz2 BK170.out; obtain ⟨hfz32_0, hfz32_1⟩ := fz2 BK170.out))
                        have n0_ : Aside0 (Kd.R Kd.string 9 ((w28.setCell ⟨gb170, 0, none⟩ (.int .i64 ((rd_T57 l0_1 x10_1).f0))).setCell ⟨gb170, 1, none⟩ (.string ((rd_T57 l0_1 x10_1).f1))) w.heap.size (fun _ => True) u166000 x166000_1) := ⟨by (with_reducible repeat (first | apply yA | apply yB | apply yC)); exact zF (yF (p := ⟨gb170, 1, none⟩) (yF (p := ⟨gb170, 0, none⟩) (Kd.R_types HO_166000.out BK170.out (by decide)) (fun _ hk => hk.2) (.int .i64 ((rd_T57 l0_1 x10_1).f0))) (fun _ hk => hk.2) (.string ((rd_T57 l0_1 x10_1).f1))) (fun _ hk => trivial)⟩
                        have n1_ : Aside0 (Kd.R k57 57 ((w28.setCell ⟨gb170, 0, none⟩ (.int .i64 ((rd_T57 l0_1 x10_1).f0))).setCell ⟨gb170, 1, none⟩ (.string ((rd_T57 l0_1 x10_1).f1))) w.heap.size (fun k_ => k_ ≠ gb170) (.slice Ao13 t160.length co13) t160) := ⟨by (with_reducible repeat (first | apply yA | apply yB | apply yC)); exact zF (yF (p := ⟨gb170, 1, none⟩) (yF (p := ⟨gb170, 0, none⟩) (zF HO_166001.out (fun k_ hk => (⟨hk, hk.2⟩ : _ ∧ k_ ≠ gb170))) (fun _ hk => hk.2) (.int .i64 ((rd_T57 l0_1 x10_1).f0))) (fun _ hk => hk.2) (.string ((rd_T57 l0_1 x10_1).f1))) (fun _ hk => hk.1.2)⟩
                        have n2_ : Aside0 (((w28.setCell ⟨gb170, 0, none⟩ (.int .i64 ((rd_T57 l0_1 x10_1).f0))).setCell ⟨gb170, 1, none⟩ (.string ((rd_T57 l0_1 x10_1).f1))).heap[g0_0]? = some (.cells #[.slice A0_0 l0_0.length c0_0, .slice (some ad169) l0_1.length c0_1, .int .i64 a0_2, .bool a0_3] 44 (0, 0))) := ⟨by (with_reducible repeat (first | refine yM ?_ _ | refine yO ?_ | refine yN ?_ _)); refine blk_far ?_ NB40_170.out _; (with_reducible repeat (first | refine yM ?_ _ | refine yO ?_ | refine yN ?_ _)); refine blk_far ?_ NB40_170.out _; (with_reducible repeat (first | refine yM ?_ _ | refine yO ?_ | refine yN ?_ _)); exact BK40.out⟩
                        have n3_ : Aside0 (((w28.setCell ⟨gb170, 0, none⟩ (.int .i64 ((rd_T57 l0_1 x10_1).f0))).setCell ⟨gb170, 1, none⟩ (.string ((rd_T57 l0_1 x10_1).f1))).heap[gb156]? = some (.cells #[.slice none 0 0, .slice none 0 0, .int .i64 0, .bool false] 44 (0, 0))) := ⟨by (with_reducible repeat (first | refine yM ?_ _ | refine yO ?_ | refine yN ?_ _)); refine blk_far ?_ NB156_170.out _; (with_reducible repeat (first | refine yM ?_ _ | refine yO ?_ | refine yN ?_ _)); refine blk_far ?_ NB156_170.out _; (with_reducible repeat (first | refine yM ?_ _ | refine yO ?_ | refine yN ?_ _)); exact BK156.out⟩
                        have n4_ : Aside0 (((w28.setCell ⟨gb170, 0, none⟩ (.int .i64 ((rd_T57 l0_1 x10_1).f0))).setCell ⟨gb170, 1, none⟩ (.string ((rd_T57 l0_1 x10_1).f1))).heap[gb165]? = some (.cells #[u166000, .slice Ao13 t160.length co13, .int .i64 t163, .bool t164] 44 (0, 0))) := ⟨by (with_reducible repeat (first | refine yM ?_ _ | refine yO ?_ | refine yN ?_ _)); refine blk_far ?_ NB165_170.out _; (with_reducible repeat (first | refine yM ?_ _ | refine yO ?_ | refine yN ?_ _)); refine blk_far ?_ NB165_170.out _; (with_reducible repeat (first | refine yM ?_ _ | refine yO ?_ | refine yN ?_ _)); exact BK165.out⟩
                        have n5_ : Aside0 (((w28.setCell ⟨gb170, 0, none⟩ (.int .i64 ((rd_T57 l0_1 x10_1).f0))).setCell ⟨gb170, 1, none⟩ (.string ((rd_T57 l0_1 x10_1).f1))).heap[gb170]? = some (.cells #[.int .i64 ((rd_T57 l0_1 x10_1).f0), .string ((rd_T57 l0_1 x10_1).f1)] 57 (0, 0))) := ⟨by (with_reducible repeat (first | refine yM ?_ _ | refine yO ?_ | refine yN ?_ _)); refine blk_put (cs := #[.int .i64 ((rd_T57 l0_1 x10_1).f0), .string (⟨#[]⟩ : ByteArray)]) ?_ 1 _ rfl; (with_reducible repeat (first | refine yM ?_ _ | refine yO ?_ | refine yN ?_ _)); refine blk_put (cs := #[.int .i64 0, .string (⟨#[]⟩ : ByteArray)]) ?_ 0 _ rfl; (with_reducible repeat (first | refine yM ?_ _ | refine yO ?_ | refine yN ?_ _)); exact BK170.out⟩
                        have n6_ : Aside0 (Below w.heap.size w ((w28.setCell ⟨gb170, 0, none⟩ (.int .i64 ((rd_T57 l0_1 x10_1).f0))).setCell ⟨gb170, 1, none⟩ (.string ((rd_T57 l0_1 x10_1).f1)))) := ⟨by repeat (first | (with_reducible first | exact HB.out | apply yQ | apply yL | apply yP | refine yE ?_ GE40.out | refine yE ?_ GE156.out | refine yE ?_ GE165.out | refine yE ?_ GE170.out) | exact HB.out)⟩
                        (try clear HO_166000); (try clear HO_166001); (try clear BK40); (try clear BK156); (try clear BK165); (try clear BK170); (try clear HB)
                        generalize ((w28.setCell ⟨gb170, 0, none⟩ (.int .i64 ((rd_T57 l0_1 x10_1).f0))).setCell ⟨gb170, 1, none⟩ (.string ((rd_T57 l0_1 x10_1).f1))) = w33 at n0_ n1_ n2_ n3_ n4_ n5_ n6_ ⊢
                        have HO_166000 := n0_; have HO_166001 := n1_; have BK40 := n2_; have BK156 := n3_; have BK165 := n4_; have BK170 := n5_; have HB := n6_; clear n0_ n1_ n2_ n3_ n4_ n5_ n6_
                        have n0_ := yD (yC HO_166000.out)
                        have n1_ := yD (yC HO_166001.out)
                        have n2_ := yD (yO BK40.out)
                        have n3_ := yD (yO BK156.out)
                        have n4_ := yD (yO BK165.out)
                        have n5_ := yD (yO BK170.out)
                        have n6_ := yD (yP HB.out)
                        clear HO_166000 HO_166001 BK40 BK156 BK165 BK170 HB; have HO_166000 := n0_; have HO_166001 := n1_; have BK40 := n2_; have BK156 := n3_; have BK165 := n4_; have BK170 := n5_; have HB := n6_; clear n0_ n1_ n2_ n3_ n4_ n5_ n6_
                        obtain ⟨Ao35, co35, eo35⟩ := Kd.R_slice HO_166000.out
                        (first | subst eo35 | (injection eo35 with f1_ f2_ f3_; have f4_ := f1_.symm; have f5_ := f3_.symm; clear f1_ f2_ f3_; subst f4_; subst f5_))
                        have p171 : 0 ≤ (((rd_T57 l0_1 x10_1).f0) : Int) := zP (by assumption)
                        have q171 : ((rd_T57 l0_1 x10_1).f0) < (x166000_1.length : Int) := zP (by assumption)
                        obtain ⟨ad171, e171, hx171_0⟩ := Kd.at_string (zA HO_166000.out).2.2 ((rd_T57 l0_1 x10_1).f0) p171 q171
                        cases e171; replace p171 := eq_true p171; replace q171 := eq_true q171
                        have p24 : 0 ≤ (((rd_T57 l0_1 x10_1).f0) : Int) := zP (by assumption)
                        have q24 : (((rd_T57 l0_1 x10_1).f0) : Int) < ((x166000_1.length : Int) : Int) := zP (by assumption)
                        obtain ⟨go24, co24, eo24, gb24, gl24, cl24, HG24⟩ := Kd.R_form HO_166000.out (by omega)
                        (first | cases eo24 | (injection eo24 with ea_ en_ ec_; (first | subst ea_ | (injection ea_ with ea_; subst ea_)); subst ec_; clear en_))
                        have GB24 := yD gb24
                        have GG24 := yD HG24
                        clear gb24 gl24 HG24
                        (first | simp only [add_plain] at hx171_0 | skip)
                        obtain ⟨hx24_0, hf24_0⟩ := Kd.R_celln (⟨#[]⟩ : ByteArray) HO_166000.out (((rd_T57 l0_1 x10_1).f0) : Int) p24 q24
                        replace p24 := eq_true p24; replace q24 := eq_true q24
                        have HP36 := Kd.R_putn HO_166000.out (((rd_T57 l0_1 x10_1).f0) : Int) ((((rd_T57 l0_1 x10_1).f1).extract 0 (a3 : Int).toNat) ++ ((rdOf ByteArray.empty x166000_1 ((rd_T57 l0_1 x10_1).f0)).extract (a3 : Int).toNat (rdOf ByteArray.empty x166000_1 ((rd_T57 l0_1 x10_1).f0)).size))
                        rw [← Ny172.out] at HP36
                        have HQ36 := yD HP36
                        clear HP36
                        refine start_ (n := 19) (S := fun w' => w'.cell? ⟨gb165, 0, none⟩ = some (.slice (some ⟨go24, 0, none⟩) x166000_1.length co35) ∧ w'.cell? ⟨gb165, 1, none⟩ = some (.slice Ao13 t160.length co13) ∧ w'.cell? ⟨gb165, 2, none⟩ = some (.int .i64 t163) ∧ w'.cell? ⟨gb165, 3, none⟩ = some (.bool t164) ∧ w'.cell? ⟨gb170, 0, none⟩ = some (.int .i64 ((rd_T57 l0_1 x10_1).f0)) ∧ w'.cell? ⟨gb170, 1, none⟩ = some (.string ((rd_T57 l0_1 x10_1).f1)) ∧ w'.cell? ⟨go24, (((rd_T57 l0_1 x10_1).f0)).toNat, none⟩ = some (.string (rdOf ByteArray.empty x166000_1 ((rd_T57 l0_1 x10_1).f0)))) (ds := [18]) (bz 19 0) (by kernel_rfl) rfl rfl ⟨(yG BK165.out 0).trans rfl, (yG BK165.out 1).trans rfl, (yG BK165.out 2).trans rfl, (yG BK165.out 3).trans rfl, (yG BK170.out 0).trans rfl, (yG BK170.out 1).trans rfl, hx171_0⟩ (fun hHeld => ?_); refine with_tabW spec_l09Cut_c44.tab7 spec_l09Cut_c44.bits7 (fun HT_ HW_ => ?_)
                        generalize w33.drew = w34 at HO_166000 HO_166001 BK40 BK156 BK165 BK170 HB GG24 HQ36 hf24_0 hx171_0 hx24_0 hHeld ⊢
                        refine qA 0 34 (bz 19 1) HT_ ?_
                        refine qA 2 36 (bz 19 5) HT_ ?_
                        refine qA 4 38 (bz 19 21) HT_ ?_
                        refine qA 6 40 (bz 19 85) HT_ ?_
                        refine qA 8 42 (bz 19 341) HT_ ?_
                        refine qA 10 44 (bz 19 1365) HT_ ?_
                        refine qA 14 48 (bz 19 17749) HT_ ?_
                        refine qC 1 35 (bz 19 17751) HT_ HW_ hHeld ?_ (hy := by rintro w' ⟨s0, s1, s2, s3, s4, s5, s6⟩; go_simp; with_reducible rfl)
                        refine qC 3 37 (bz 19 17759) HT_ HW_ hHeld ?_ (hy := by rintro w' ⟨s0, s1, s2, s3, s4, s5, s6⟩; go_simp; with_reducible rfl)
                        refine qC 5 39 (bz 19 17791) HT_ HW_ hHeld ?_ (hy := by rintro w' ⟨s0, s1, s2, s3, s4, s5, s6⟩; go_simp; with_reducible rfl)
                        refine qA 7 41 (bz 19 17919) HT_ ?_
                        refine qC 9 43 (bz 19 18431) HT_ HW_ hHeld ?_ (hy := by rintro w' ⟨s0, s1, s2, s3, s4, s5, s6⟩; go_simp; with_reducible rfl)
                        refine qC 11 45 (bz 19 20479) HT_ HW_ hHeld ?_ (hy := by rintro w' ⟨s0, s1, s2, s3, s4, s5, s6⟩; go_simp; with_reducible rfl)
                        refine qA 12 46 (bz 19 24575) HT_ ?_
                        refine qC 13 47 (bz 19 32767) HT_ HW_ hHeld ?_ (hy := by rintro w' ⟨s0, s1, s2, s3, s4, s5, s6⟩; go_simp; with_reducible rfl)
                        refine qA 15 49 (bz 19 65535) HT_ ?_
                        have u0_ : 0 ≤ a3 := zP (by assumption)
                        have u1_ : a3 ≤ (((rd_T57 l0_1 x10_1).f1).size : Int) := zP (by assumption)
                        have u2_ : a3 ≤ ((rdOf ByteArray.empty x166000_1 ((rd_T57 l0_1 x10_1).f0)).size : Int) := zP (by assumption)
                        have hcat_ : (9223372036854775807 < (rdOf ByteArray.empty x166000_1 ((rd_T57 l0_1 x10_1).f0)).size) = False := eq_false (by have h1 := of_eq_true c23b0; simp only [ByteArray.size_extract] at h1; omega)
                        refine qA 16 50 (bz 19 131071) HT_ ?_
                        refine qA 17 51 (bz 19 262143) HT_ ?_
                        refine last_ (i := 18) (N := none) #[true, true, true, true, true, true, true, true, true, true, true, true, true, true, true, true, true, true, true] rfl rfl (one_of HT_.out (by kernel_rfl)) (by decide) (fun K hK => ?_)
                        refine skip_ (w1 := ?_) (by rfl) rfl ?_ ?_
                        rotate_left
                        · go_simp
                          rfl
                        refine hK.out _ _ ?_
                        clear hK K
                        refine done_ (done_of HT_.out (by kernel_rfl)) ?_
                        try go_wp2
                        go_roundg k1
                        case measure => have := HK1.out; omega
                        case rel => exact ⟨(wrap64 (x10_1 + 1)), (y172), (.slice (some ⟨go24, 0, none⟩) x166000_1.length co35), (by first | rfl | (simp; done) | (simp [*]; done)), H', ⟨by have := HK1.out; omega⟩, ⟨by (with_reducible repeat (first | apply yA | apply yB | apply yC)); exact HQ36.out⟩, ⟨by (with_reducible repeat (first | apply yA | apply yB | apply yC)); exact zF (yF (p := ⟨go24, (((rd_T57 l0_1 x10_1).f0) : Int).toNat, none⟩) (Kd.R_types HO_166001.out GG24.out (by decide)) (fun _ hk => hk.2) (.string ((((rd_T57 l0_1 x10_1).f1).extract 0 (a3 : Int).toNat) ++ ((rdOf ByteArray.empty x166000_1 ((rd_T57 l0_1 x10_1).f0)).extract (a3 : Int).toNat (rdOf ByteArray.empty x166000_1 ((rd_T57 l0_1 x10_1).f0)).size)))) (fun _ hk => trivial)⟩, ⟨by (with_reducible repeat (first | refine yM ?_ _ | refine yO ?_ | refine yN ?_ _)); refine blk_far ?_ (by have h_ := Kd.R_ne HO_166000.out BK40.out (by decide); intro e_; exact h_ (by rw [e_]; rfl)) _; (with_reducible repeat (first | refine yM ?_ _ | refine yO ?_ | refine yN ?_ _)); exact BK40.out⟩, ⟨by (with_reducible repeat (first | refine yM ?_ _ | refine yO ?_ | refine yN ?_ _)); refine blk_far ?_ (by have h_ := Kd.R_ne HO_166000.out BK156.out (by decide); intro e_; exact h_ (by rw [e_]; rfl)) _; (with_reducible repeat (first | refine yM ?_ _ | refine yO ?_ | refine yN ?_ _)); exact BK156.out⟩, ⟨by (with_reducible repeat (first | refine yM ?_ _ | refine yO ?_ | refine yN ?_ _)); refine blk_far ?_ (by have h_ := Kd.R_ne HO_166000.out BK165.out (by decide); intro e_; exact h_ (by rw [e_]; rfl)) _; (with_reducible repeat (first | refine yM ?_ _ | refine yO ?_ | refine yN ?_ _)); exact BK165.out⟩, ⟨by repeat (first | (with_reducible first | exact HB.out | apply yQ | apply yL | apply yP | refine yE ?_ GB24.out | refine yE ?_ GE40.out | refine yE ?_ GE156.out | refine yE ?_ GE165.out | refine yE ?_ GE170.out) | exact HB.out)⟩⟩
                      · rw [if_neg c23] at H
                        exact absurd H (by simp)
                    · rw [if_neg c22] at H
                      exact absurd H (by simp)
                  · rw [if_neg c20] at H
                    exact absurd H (by simp)
                · rw [if_neg c19] at H
                  exact absurd H (by simp)
              · rw [if_neg c18] at H
                exact absurd H (by simp)
            · rw [if_neg c17] at H
              exact absurd H (by simp)
          · rw [if_neg c16] at H
            have c16b0 : (x10_1 == a2) = false := beq_eq_false_iff_ne.mpr c16
            have c16b1 : (x10_1 != a2) = true := bne_iff_ne.mpr c16
            by_cases c37 : x10_1 < (l1.length : Int)
            · rw [if_pos c37] at H
              have c37b0 : decide (x10_1 < (l1.length : Int)) = true := zR c37; clear c37
              obtain ⟨bq38, hbq38⟩ : ∃ b_ : Bool, b_ = (rdOf false l1 x10_1) := ⟨_, rfl⟩
              replace H : (if bq38 = true then (if 0 ≤ ((rd_T57 l0_1 x10_1).f0) then (if ((rd_T57 l0_1 x10_1).f0) < (x166000_1.length : Int) then (spec_l09Cut_c44.l0 k1 l1 a2 a3 (wrap64 (x10_1 + 1)) l0_0 l0_1 a0_2 a0_3 (x166000_1.set (((rd_T57 l0_1 x10_1).f0) : Int).toNat ((rd_T57 l0_1 x10_1).f1)) t160 t163 t164) else (none)) else (none)) else (spec_l09Cut_c44.l0 k1 l1 a2 a3 (wrap64 (x10_1 + 1)) l0_0 l0_1 a0_2 a0_3 x166000_1 t160 t163 t164)) = some (r1, r2, r3, r4) := by rw [← hbq38] at H; exact H
              have Nbq38 := yD hbq38
              clear hbq38
              by_cases c39 : bq38 = true
              · subst c39
                have H1 : (if 0 ≤ ((rd_T57 l0_1 x10_1).f0) then (if ((rd_T57 l0_1 x10_1).f0) < (x166000_1.length : Int) then (spec_l09Cut_c44.l0 k1 l1 a2 a3 (wrap64 (x10_1 + 1)) l0_0 l0_1 a0_2 a0_3 (x166000_1.set (((rd_T57 l0_1 x10_1).f0) : Int).toNat ((rd_T57 l0_1 x10_1).f1)) t160 t163 t164) else (none)) else (none)) = some (r1, r2, r3, r4) := by rw [if_pos rfl] at H; exact H
                clear H; have H := H1; clear H1
                by_cases c40 : 0 ≤ ((rd_T57 l0_1 x10_1).f0)
                · rw [if_pos c40] at H
                  have c40b0 : decide (0 ≤ ((rd_T57 l0_1 x10_1).f0)) = true := zR c40; clear c40
                  by_cases c41 : ((rd_T57 l0_1 x10_1).f0) < (x166000_1.length : Int)
                  · rw [if_pos c41] at H
                    have c41b0 : decide (((rd_T57 l0_1 x10_1).f0) < (x166000_1.length : Int)) = true := zR c41; clear c41
                    obtain ⟨y174, hy174⟩ : ∃ y_ : List ByteArray, y_ = (x166000_1.set (((rd_T57 l0_1 x10_1).f0) : Int).toNat ((rd_T57 l0_1 x10_1).f1)) := ⟨_, rfl⟩
                    replace H : (spec_l09Cut_c44.l0 k1 l1 a2 a3 (wrap64 (x10_1 + 1)) l0_0 l0_1 a0_2 a0_3 y174 t160 t163 t164) = some (r1, r2, r3, r4) := by first | (rw [hy174]; with_reducible exact H) | (have H2_ := (Option.bind_some _ _).symm.trans H; rw [hy174]; with_reducible exact H2_) | (have H2_ := (Option.bind_some _ _).symm.trans H; with_reducible exact H2_) | with_reducible exact H | (rw [hy174]; exact H) | exact H
                    have Ny174 := yD hy174
                    clear hy174
                    have H' := yD H
                    clear H; have hnb43 := NB40_156.out; have hnc43 := NB156_40.out; have hnb44 := NB40_165.out; have hnc44 := NB165_40.out
                    obtain ⟨hcz45_0, hcz45_1, hcz45_2, hcz45_3⟩ := cz4 BK40.out
                    obtain ⟨hfz45_0, hfz45_1, hfz45_2, hfz45_3⟩ := fz4 BK40.out
                    have p169 : 0 ≤ (x10_1 : Int) := zP (by assumption)
                    have q169 : x10_1 < (l0_1.length : Int) := zP (by assumption)
                    obtain ⟨ad169, e169, hx169_0, hx169_1⟩ := at_T57 HR0_1.out x10_1 p169 q169
                    cases e169
                    replace hx169_0 := (HB.out.cell (zQ w _ hx169_0)).trans hx169_0
                    replace hx169_1 := (HB.out.cell (zQ w _ hx169_1)).trans hx169_1
                    replace p169 := eq_true p169; replace q169 := eq_true q169
                    go_wp2_with (first | ((with_reducible refine gate_dst (N := 11) rfl ?_); refine box_event ?hg (N := 11) ?hd (cs := #[.int .i64 0, .string (⟨#[]⟩ : ByteArray)]) (t := 57) ?hr ?_; (case hd => rfl); (case hg => rfl); (case hr => first | (go_simp; done) | (go_simp; rfl)); intro gb170 hg w46 hbox hb; have n0_ := yD (zE (kA HO_166000) hb); have n1_ := yD (zE (Kd.R_elderB (kA HO_166001) gb170 (Nat.le_of_eq hg.symm)) hb); have n2_ := yD (zB (g := g0_0) (o := .cells #[.slice A0_0 l0_0.length c0_0, .slice (some ad169) l0_1.length c0_1, .int .i64 a0_2, .bool a0_3] 44 (0, 0)) (kM BK40) hb); have n3_ := yD (zB (g := gb156) (o := .cells #[.slice none 0 0, .slice none 0 0, .int .i64 0, .bool false] 44 (0, 0)) (kM BK156) hb); have n4_ := yD (zB (g := gb165) (o := .cells #[u166000, .slice Ao13 t160.length co13, .int .i64 t163, .bool t164] 44 (0, 0)) (kM BK165) hb); have n5_ := yD (zC (kB HB) hb); have n6_ := yD (hbox); have n7_ := yD ((by rw [hg]; exact (below_size (kB HB)) : w.heap.size ≤ gb170)); have n8_ := yD ((by rw [hg]; exact (below_size (kB HB)) : w.heap.size ≤ gb170)); have n9_ := yD ((by rw [hg]; exact Nat.ne_of_lt (blk_lt (g := g0_0) (o := .cells #[.slice A0_0 l0_0.length c0_0, .slice (some ad169) l0_1.length c0_1, .int .i64 a0_2, .bool a0_3] 44 (0, 0)) (kM BK40)) : g0_0 ≠ gb170)); have n10_ := yD ((by rw [hg]; exact Nat.ne_of_gt (blk_lt (g := g0_0) (o := .cells #[.slice A0_0 l0_0.length c0_0, .slice (some ad169) l0_1.length c0_1, .int .i64 a0_2, .bool a0_3] 44 (0, 0)) (kM BK40)) : gb170 ≠ g0_0)); have n11_ := yD ((by rw [hg]; exact Nat.ne_of_lt (blk_lt (g := gb156) (o := .cells #[.slice none 0 0, .slice none 0 0, .int .i64 0, .bool false] 44 (0, 0)) (kM BK156)) : gb156 ≠ gb170)); have n12_ := yD ((by rw [hg]; exact Nat.ne_of_gt (blk_lt (g := gb156) (o := .cells #[.slice none 0 0, .slice none 0 0, .int .i64 0, .bool false] 44 (0, 0)) (kM BK156)) : gb170 ≠ gb156)); have n13_ := yD ((by rw [hg]; exact Nat.ne_of_lt (blk_lt (g := gb165) (o := .cells #[u166000, .slice Ao13 t160.length co13, .int .i64 t163, .bool t164] 44 (0, 0)) (kM BK165)) : gb165 ≠ gb170)); have n14_ := yD ((by rw [hg]; exact Nat.ne_of_gt (blk_lt (g := gb165) (o := .cells #[u166000, .slice Ao13 t160.length co13, .int .i64 t163, .bool t164] 44 (0, 0)) (kM BK165)) : gb170 ≠ gb165)); clear HO_166000; clear HO_166001; clear BK40; clear BK156; clear BK165; clear HB; have HO_166000 := n0_; have HO_166001 := n1_; have BK40 := n2_; have BK156 := n3_; have BK165 := n4_; have HB := n5_; have BK170 := n6_; have GW170 := n7_; have GE170 := n8_; have NB40_170 := n9_; have NB170_40 := n10_; have NB156_170 := n11_; have NB170_156 := n12_; have NB165_170 := n13_; have NB170_165 := n14_; clear n0_ n1_ n2_ n3_ n4_ n5_ n6_ n7_ n8_ n9_ n10_ n11_ n12_ n13_ n14_; clear hb hbox hg; have hnb47 := NB170_40.out; have hnc47 := NB40_170.out; have hnb48 := NB170_156.out; have hnc48 := NB156_170.out; have hnb49 := NB170_165.out; have hnc49 := NB165_170.out; obtain ⟨hcz50_0, hcz50_1⟩ := cz2 BK170.out; obtain ⟨hfz50_0, hfz50_1⟩ := fz2 BK170.out) | ((with_reducible refine gate_store (t := 57) (p := 11) rfl ?_); refine store_event (t := 57) (p := 11) (v := ?vo_w51) (w1 := ((w46.setCell ⟨gb170, 0, none⟩ (.int .i64 ((rd_T57 l0_1 x10_1).f0))).setCell ⟨gb170, 1, none⟩ (.string ((rd_T57 l0_1 x10_1).f1)))) ?hg ?ho ?hn ?hr ?_; (case ho => rfl); (case hg => rfl); (case hn => rfl); (case hr => first | (go_simp; done) | (go_simp; rfl)); intro w51 hw; have n0_ : Aside0 (Kd.R Kd.string 9 w51 w.heap.size (fun _ => True) u166000 x166000_1) := ⟨(by rw [hw]; exact (by (with_reducible repeat (first | apply yA | apply yB | apply yC)); exact zF (yF (p := ⟨gb170, 1, none⟩) (yF (p := ⟨gb170, 0, none⟩) (Kd.R_types HO_166000.out BK170.out (by decide)) (fun _ hk => hk.2) (.int .i64 ((rd_T57 l0_1 x10_1).f0))) (fun _ hk => hk.2) (.string ((rd_T57 l0_1 x10_1).f1))) (fun _ hk => trivial)))⟩; have n1_ : Aside0 (Kd.R k57 57 w51 w.heap.size (fun k_ => k_ ≠ gb170) (.slice Ao13 t160.length co13) t160) := ⟨(by rw [hw]; exact (by (with_reducible repeat (first | apply yA | apply yB | apply yC)); exact zF (yF (p := ⟨gb170, 1, none⟩) (yF (p := ⟨gb170, 0, none⟩) (zF HO_166001.out (fun k_ hk => (⟨hk, hk.2⟩ : _ ∧ k_ ≠ gb170))) (fun _ hk => hk.2) (.int .i64 ((rd_T57 l0_1 x10_1).f0))) (fun _ hk => hk.2) (.string ((rd_T57 l0_1 x10_1).f1))) (fun _ hk => hk.1.2)))⟩; have n2_ : Aside0 (w51.heap[g0_0]? = some (.cells #[.slice A0_0 l0_0.length c0_0, .slice (some ad169) l0_1.length c0_1, .int .i64 a0_2, .bool a0_3] 44 (0, 0))) := ⟨(by rw [hw]; exact (by (with_reducible repeat (first | refine yM ?_ _ | refine yO ?_ | refine yN ?_ _)); refine blk_far ?_ NB40_170.out _; (with_reducible repeat (first | refine yM ?_ _ | refine yO ?_ | refine yN ?_ _)); refine blk_far ?_ NB40_170.out _; (with_reducible repeat (first | refine yM ?_ _ | refine yO ?_ | refine yN ?_ _)); exact BK40.out))⟩; have n3_ : Aside0 (w51.heap[gb156]? = some (.cells #[.slice none 0 0, .slice none 0 0, .int .i64 0, .bool false] 44 (0, 0))) := ⟨(by rw [hw]; exact (by (with_reducible repeat (first | refine yM ?_ _ | refine yO ?_ | refine yN ?_ _)); refine blk_far ?_ NB156_170.out _; (with_reducible repeat (first | refine yM ?_ _ | refine yO ?_ | refine yN ?_ _)); refine blk_far ?_ NB156_170.out _; (with_reducible repeat (first | refine yM ?_ _ | refine yO ?_ | refine yN ?_ _)); exact BK156.out))⟩; have n4_ : Aside0 (w51.heap[gb165]? = some (.cells #[u166000, .slice Ao13 t160.length co13, .int .i64 t163, .bool t164] 44 (0, 0))) := ⟨(by rw [hw]; exact (by (with_reducible repeat (first | refine yM ?_ _ | refine yO ?_ | refine yN ?_ _)); refine blk_far ?_ NB165_170.out _; (with_reducible repeat (first | refine yM ?_ _ | refine yO ?_ | refine yN ?_ _)); refine blk_far ?_ NB165_170.out _; (with_reducible repeat (first | refine yM ?_ _ | refine yO ?_ | refine yN ?_ _)); exact BK165.out))⟩; have n5_ : Aside0 (w51.heap[gb170]? = some (.cells #[.int .i64 ((rd_T57 l0_1 x10_1).f0), .string ((rd_T57 l0_1 x10_1).f1)] 57 (0, 0))) := ⟨(by rw [hw]; exact (by (with_reducible repeat (first | refine yM ?_ _ | refine yO ?_ | refine yN ?_ _)); refine blk_put (cs := #[.int .i64 ((rd_T57 l0_1 x10_1).f0), .string (⟨#[]⟩ : ByteArray)]) ?_ 1 _ rfl; (with_reducible repeat (first | refine yM ?_ _ | refine yO ?_ | refine yN ?_ _)); refine blk_put (cs := #[.int .i64 0, .string (⟨#[]⟩ : ByteArray)]) ?_ 0 _ rfl; (with_reducible repeat (first | refine yM ?_ _ | refine yO ?_ | refine yN ?_ _)); exact BK170.out))⟩; have n6_ : Aside0 (Below w.heap.size w w51) := ⟨(by rw [hw]; exact (kB HB))⟩; clear hw; clear HO_166000; clear HO_166001; clear BK40; clear BK156; clear BK165; clear BK170; clear HB; have HO_166000 := n0_; have HO_166001 := n1_; have BK40 := n2_; have BK156 := n3_; have BK165 := n4_; have BK170 := n5_; have HB := n6_; clear n0_ n1_ n2_ n3_ n4_ n5_ n6_; have p173 : 0 ≤ (x10_1 : Int) := zP (by assumption); have q173 : x10_1 < (l1.length : Int) := zP (by assumption); obtain ⟨ad173, e173, hx173_0⟩ := Kd.at_bool HR1.out x10_1 p173 q173; (try rw [← Nbq38.out] at hx173_0); cases e173; replace hx173_0 := (HB.out.cell (zQ w _ hx173_0)).trans hx173_0; replace p173 := eq_true p173; replace q173 := eq_true q173; have hnb52 := NB165_156.out; have hnc52 := NB156_165.out; obtain ⟨hcz53_0, hcz53_1, hcz53_2, hcz53_3⟩ := cz4 BK165.out; obtain ⟨hfz53_0, hfz53_1, hfz53_2, hfz53_3⟩ := fz4 BK165.out; obtain ⟨hcz54_0, hcz54_1⟩ := cz2 BK170.out; obtain ⟨hfz54_0, hfz54_1⟩ := fz2 BK170.out; have p42 : 0 ≤ (((rd_T57 l0_1 x10_1).f0) : Int) := zP (by assumption); have q42 : (((rd_T57 l0_1 x10_1).f0) : Int) < ((x166000_1.length : Int) : Int) := zP (by assumption); obtain ⟨go42, co42, eo42, gb42, gl42, cl42, HG42⟩ := Kd.R_form HO_166000.out (by omega); (first | cases eo42 | (injection eo42 with ea_ en_ ec_; (first | subst ea_ | (injection ea_ with ea_; subst ea_)); subst ec_; clear en_)); have GB42 := yD gb42; have GG42 := yD HG42; clear gb42 gl42 HG42; obtain ⟨hx42_0, hf42_0⟩ := Kd.R_celln (⟨#[]⟩ : ByteArray) HO_166000.out (((rd_T57 l0_1 x10_1).f0) : Int) p42 q42; replace p42 := eq_true p42; replace q42 := eq_true q42; obtain ⟨hy55_, hz55_⟩ := Kd.R_celln (⟨#[]⟩ : ByteArray) HO_166000.out (((rd_T57 l0_1 x10_1).f0) : Int) (zP (by assumption)) (zP (by assumption)); have HP55 := Kd.R_putg HO_166000.out (((rd_T57 l0_1 x10_1).f0) : Int) ((rd_T57 l0_1 x10_1).f1)) | ((with_reducible refine gate_store (t := 9) (p := 63) rfl ?_); refine store_event (t := 9) (p := 63) (v := ?vo_w56) (w1 := (w51.setCell ⟨go42, (((rd_T57 l0_1 x10_1).f0) : Int).toNat, none⟩ (.string ((rd_T57 l0_1 x10_1).f1)))) ?hg ?ho ?hn ?hr ?_; (case ho => rfl); (case hg => rfl); (case hn => rfl); (case hr => first | (go_simp; done) | (go_simp; rfl)); intro w56 hw; have hg : w51.grownBy w56 (some go42) := (by rw [hw]; exact HP55.2); have hp_ : Kd.R Kd.string 9 w56 w.heap.size (fun _ => True) (.slice (some ⟨go42, 0, none⟩) x166000_1.length co42) y174 := (by rw [hw, Ny174.out]; exact HP55.1); clear HP55; have n0_ := yD (hp_); have n1_ := yD (Kd.R_over' (v := (.slice (some ⟨go42, 0, none⟩) x166000_1.length co42)) (kA HO_166001) (Kd.R_typed HO_166000.out) (by decide) hg); have n2_ := yD (blk_grown (g := g0_0) (o := .cells #[.slice A0_0 l0_0.length c0_0, .slice (some ad169) l0_1.length c0_1, .int .i64 a0_2, .bool a0_3] 44 (0, 0)) (kM BK40) hg (Kd.R_ne HO_166000.out BK40.out (by decide))); have n3_ := yD (blk_grown (g := gb156) (o := .cells #[.slice none 0 0, .slice none 0 0, .int .i64 0, .bool false] 44 (0, 0)) (kM BK156) hg (Kd.R_ne HO_166000.out BK156.out (by decide))); have n4_ := yD (blk_grown (g := gb165) (o := .cells #[.slice (some ⟨go42, 0, none⟩) x166000_1.length co42, .slice Ao13 t160.length co13, .int .i64 t163, .bool t164] 44 (0, 0)) (kM BK165) hg (Kd.R_ne HO_166000.out BK165.out (by decide))); have n5_ := yD (blk_grown (g := gb170) (o := .cells #[.int .i64 ((rd_T57 l0_1 x10_1).f0), .string ((rd_T57 l0_1 x10_1).f1)] 57 (0, 0)) (kM BK170) hg (Kd.R_ne HO_166000.out BK170.out (by decide))); have n6_ := yD ((by rw [hw]; exact yE (HB.out) GB42.out : Below w.heap.size w w56)); clear HO_166000; clear HO_166001; clear BK40; clear BK156; clear BK165; clear BK170; clear HB; have HO_166000 := n0_; have HO_166001 := n1_; have BK40 := n2_; have BK156 := n3_; have BK165 := n4_; have BK170 := n5_; have HB := n6_; clear n0_ n1_ n2_ n3_ n4_ n5_ n6_; clear hg hw hp_))
                    go_roundg k1
                    case measure => have := HK1.out; omega
                    case rel => exact ⟨(wrap64 (x10_1 + 1)), (y174), (.slice (some ⟨go42, 0, none⟩) x166000_1.length co42), (by first | rfl | (simp; done) | (simp [*]; done)), H', ⟨by have := HK1.out; omega⟩, ⟨by (with_reducible repeat (first | apply yA | apply yB | apply yC)); exact HO_166000.out⟩, ⟨by (with_reducible repeat (first | apply yA | apply yB | apply yC)); exact zF HO_166001.out (fun _ hk => trivial)⟩, ⟨by (with_reducible repeat (first | refine yM ?_ _ | refine yO ?_ | refine yN ?_ _)); exact BK40.out⟩, ⟨by (with_reducible repeat (first | refine yM ?_ _ | refine yO ?_ | refine yN ?_ _)); exact BK156.out⟩, ⟨by (with_reducible repeat (first | refine yM ?_ _ | refine yO ?_ | refine yN ?_ _)); exact BK165.out⟩, ⟨by repeat (first | (with_reducible first | exact HB.out | apply yQ | apply yL | apply yP | refine yE ?_ GE40.out | refine yE ?_ GE156.out | refine yE ?_ GE165.out | refine yE ?_ GE170.out) | exact HB.out)⟩⟩
                  · rw [if_neg c41] at H
                    exact absurd H (by simp)
                · rw [if_neg c40] at H
                  exact absurd H (by simp)
              · replace c39 := Bool.eq_false_iff.mpr c39
                subst c39
                have H1 : (spec_l09Cut_c44.l0 k1 l1 a2 a3 (wrap64 (x10_1 + 1)) l0_0 l0_1 a0_2 a0_3 x166000_1 t160 t163 t164) = some (r1, r2, r3, r4) := by rw [if_neg (show ¬ (false = true) by decide)] at H; exact H
                clear H; have H := H1; clear H1
                have H' := yD H
                clear H; have hnb57 := NB40_156.out; have hnc57 := NB156_40.out; have hnb58 := NB40_165.out; have hnc58 := NB165_40.out
                obtain ⟨hcz59_0, hcz59_1, hcz59_2, hcz59_3⟩ := cz4 BK40.out
                obtain ⟨hfz59_0, hfz59_1, hfz59_2, hfz59_3⟩ := fz4 BK40.out
                have p169 : 0 ≤ (x10_1 : Int) := zP (by assumption)
                have q169 : x10_1 < (l0_1.length : Int) := zP (by assumption)
                obtain ⟨ad169, e169, hx169_0, hx169_1⟩ := at_T57 HR0_1.out x10_1 p169 q169
                cases e169
                replace hx169_0 := (HB.out.cell (zQ w _ hx169_0)).trans hx169_0
                replace hx169_1 := (HB.out.cell (zQ w _ hx169_1)).trans hx169_1
                replace p169 := eq_true p169; replace q169 := eq_true q169
                go_wp2_with (first | ((with_reducible refine gate_dst (N := 11) rfl ?_); refine box_event ?hg (N := 11) ?hd (cs := #[.int .i64 0, .string (⟨#[]⟩ : ByteArray)]) (t := 57) ?hr ?_; (case hd => rfl); (case hg => rfl); (case hr => first | (go_simp; done) | (go_simp; rfl)); intro gb170 hg w60 hbox hb; have n0_ := yD (zE (kA HO_166000) hb); have n1_ := yD (zE (Kd.R_elderB (kA HO_166001) gb170 (Nat.le_of_eq hg.symm)) hb); have n2_ := yD (zB (g := g0_0) (o := .cells #[.slice A0_0 l0_0.length c0_0, .slice (some ad169) l0_1.length c0_1, .int .i64 a0_2, .bool a0_3] 44 (0, 0)) (kM BK40) hb); have n3_ := yD (zB (g := gb156) (o := .cells #[.slice none 0 0, .slice none 0 0, .int .i64 0, .bool false] 44 (0, 0)) (kM BK156) hb); have n4_ := yD (zB (g := gb165) (o := .cells #[u166000, .slice Ao13 t160.length co13, .int .i64 t163, .bool t164] 44 (0, 0)) (kM BK165) hb); have n5_ := yD (zC (kB HB) hb); have n6_ := yD (hbox); have n7_ := yD ((by rw [hg]; exact (below_size (kB HB)) : w.heap.size ≤ gb170)); have n8_ := yD ((by rw [hg]; exact (below_size (kB HB)) : w.heap.size ≤ gb170)); have n9_ := yD ((by rw [hg]; exact Nat.ne_of_lt (blk_lt (g := g0_0) (o := .cells #[.slice A0_0 l0_0.length c0_0, .slice (some ad169) l0_1.length c0_1, .int .i64 a0_2, .bool a0_3] 44 (0, 0)) (kM BK40)) : g0_0 ≠ gb170)); have n10_ := yD ((by rw [hg]; exact Nat.ne_of_gt (blk_lt (g := g0_0) (o := .cells #[.slice A0_0 l0_0.length c0_0, .slice (some ad169) l0_1.length c0_1, .int .i64 a0_2, .bool a0_3] 44 (0, 0)) (kM BK40)) : gb170 ≠ g0_0)); have n11_ := yD ((by rw [hg]; exact Nat.ne_of_lt (blk_lt (g := gb156) (o := .cells #[.slice none 0 0, .slice none 0 0, .int .i64 0, .bool false] 44 (0, 0)) (kM BK156)) : gb156 ≠ gb170)); have n12_ := yD ((by rw [hg]; exact Nat.ne_of_gt (blk_lt (g := gb156) (o := .cells #[.slice none 0 0, .slice none 0 0, .int .i64 0, .bool false] 44 (0, 0)) (kM BK156)) : gb170 ≠ gb156)); have n13_ := yD ((by rw [hg]; exact Nat.ne_of_lt (blk_lt (g := gb165) (o := .cells #[u166000, .slice Ao13 t160.length co13, .int .i64 t163, .bool t164] 44 (0, 0)) (kM BK165)) : gb165 ≠ gb170)); have n14_ := yD ((by rw [hg]; exact Nat.ne_of_gt (blk_lt (g := gb165) (o := .cells #[u166000, .slice Ao13 t160.length co13, .int .i64 t163, .bool t164] 44 (0, 0)) (kM BK165)) : gb170 ≠ gb165)); clear HO_166000; clear HO_166001; clear BK40; clear BK156; clear BK165; clear HB; have HO_166000 := n0_; have HO_166001 := n1_; have BK40 := n2_; have BK156 := n3_; have BK165 := n4_; have HB := n5_; have BK170 := n6_; have GW170 := n7_; have GE170 := n8_; have NB40_170 := n9_; have NB170_40 := n10_; have NB156_170 := n11_; have NB170_156 := n12_; have NB165_170 := n13_; have NB170_165 := n14_; clear n0_ n1_ n2_ n3_ n4_ n5_ n6_ n7_ n8_ n9_ n10_ n11_ n12_ n13_ n14_; clear hb hbox hg; have hnb61 := NB170_40.out; have hnc61 := NB40_170.out; have hnb62 := NB170_156.out; have hnc62 := NB156_170.out; have hnb63 := NB170_165.out; have hnc63 := NB165_170.out; obtain ⟨hcz64_0, hcz64_1⟩ := cz2 BK170.out; obtain ⟨hfz64_0, hfz64_1⟩ := fz2 BK170.out; have p173 : 0 ≤ (x10_1 : Int) := zP (by assumption); have q173 : x10_1 < (l1.length : Int) := zP (by assumption); obtain ⟨ad173, e173, hx173_0⟩ := Kd.at_bool HR1.out x10_1 p173 q173; (try rw [← Nbq38.out] at hx173_0); cases e173; have hn173_0 : ad173.block ≠ gb170 := Nat.ne_of_lt (Nat.lt_of_lt_of_le (by have := zQ _ _ hx173_0; first | rwa [add_block] at this | exact this) GW170.out); have hn173_1 : ad173.block ≠ gb170 := Nat.ne_of_lt (Nat.lt_of_lt_of_le (by have := zQ _ _ hx173_0; first | rwa [add_block] at this | exact this) GW170.out); replace hx173_0 := (HB.out.cell (zQ w _ hx173_0)).trans hx173_0; replace hx173_0 := (cell_far (p := ⟨gb170, 0, none⟩) (by first | (rw [add_block]; exact hn173_0) | (show (Addr.add _ _).block ≠ _; rw [add_block]; exact hn173_0) | exact hn173_0) (.int .i64 ((rd_T57 l0_1 x10_1).f0))).trans hx173_0; replace hx173_0 := (cell_far (p := ⟨gb170, 1, none⟩) (by first | (rw [add_block]; exact hn173_1) | (show (Addr.add _ _).block ≠ _; rw [add_block]; exact hn173_1) | exact hn173_1) (.string ((rd_T57 l0_1 x10_1).f1))).trans hx173_0; clear hn173_0; clear hn173_1; replace p173 := eq_true p173; replace q173 := eq_true q173))
                go_roundg k1
                case measure => have := HK1.out; omega
                case rel => exact ⟨(wrap64 (x10_1 + 1)), (x166000_1), (u166000), (by first | rfl | (simp; done) | (simp [*]; done)), H', ⟨by have := HK1.out; omega⟩, ⟨by (with_reducible repeat (first | apply yA | apply yB | apply yC)); exact zF (yF (p := ⟨gb170, 1, none⟩) (yF (p := ⟨gb170, 0, none⟩) (Kd.R_types HO_166000.out BK170.out (by decide)) (fun _ hk => hk.2) (.int .i64 ((rd_T57 l0_1 x10_1).f0))) (fun _ hk => hk.2) (.string ((rd_T57 l0_1 x10_1).f1))) (fun _ hk => trivial)⟩, ⟨by (with_reducible repeat (first | apply yA | apply yB | apply yC)); exact zF (yF (p := ⟨gb170, 1, none⟩) (yF (p := ⟨gb170, 0, none⟩) (zF HO_166001.out (fun k_ hk => (⟨hk, hk.2⟩ : _ ∧ k_ ≠ gb170))) (fun _ hk => hk.2) (.int .i64 ((rd_T57 l0_1 x10_1).f0))) (fun _ hk => hk.2) (.string ((rd_T57 l0_1 x10_1).f1))) (fun _ hk => trivial)⟩, ⟨by (with_reducible repeat (first | refine yM ?_ _ | refine yO ?_ | refine yN ?_ _)); refine blk_far ?_ NB40_170.out _; (with_reducible repeat (first | refine yM ?_ _ | refine yO ?_ | refine yN ?_ _)); refine blk_far ?_ NB40_170.out _; (with_reducible repeat (first | refine yM ?_ _ | refine yO ?_ | refine yN ?_ _)); exact BK40.out⟩, ⟨by (with_reducible repeat (first | refine yM ?_ _ | refine yO ?_ | refine yN ?_ _)); refine blk_far ?_ NB156_170.out _; (with_reducible repeat (first | refine yM ?_ _ | refine yO ?_ | refine yN ?_ _)); refine blk_far ?_ NB156_170.out _; (with_reducible repeat (first | refine yM ?_ _ | refine yO ?_ | refine yN ?_ _)); exact BK156.out⟩, ⟨by (with_reducible repeat (first | refine yM ?_ _ | refine yO ?_ | refine yN ?_ _)); refine blk_far ?_ NB165_170.out _; (with_reducible repeat (first | refine yM ?_ _ | refine yO ?_ | refine yN ?_ _)); refine blk_far ?_ NB165_170.out _; (with_reducible repeat (first | refine yM ?_ _ | refine yO ?_ | refine yN ?_ _)); exact BK165.out⟩, ⟨by repeat (first | (with_reducible first | exact HB.out | apply yQ | apply yL | apply yP | refine yE ?_ GE40.out | refine yE ?_ GE156.out | refine yE ?_ GE165.out | refine yE ?_ GE170.out) | exact HB.out)⟩⟩
            · rw [if_neg c37] at H
              exact absurd H (by simp)
        · rw [if_neg c15] at H
          exact absurd H (by simp)
      · rw [if_neg c14] at H
        have c14b0 : decide (x10_1 < (l0_1.length : Int)) = false := zS c14; clear c14
        obtain ⟨y166, hy166⟩ : ∃ y_ : List (S57), y_ = (([] : List (S57))) := ⟨_, rfl⟩
        replace H : (some (x166000_1, y166, (-1), false)) = some (r1, r2, r3, r4) := by first | (rw [hy166]; with_reducible exact H) | (have H2_ := (Option.bind_some _ _).symm.trans H; rw [hy166]; with_reducible exact H2_) | (have H2_ := (Option.bind_some _ _).symm.trans H; with_reducible exact H2_) | with_reducible exact H | (rw [hy166]; exact H) | exact H
        have Ny166 := yD hy166
        clear hy166
        simp only [Option.some.injEq, Prod.mk.injEq] at H
        obtain ⟨rfl, rfl, rfl, rfl⟩ := H
        have hnb65 := NB40_156.out; have hnc65 := NB156_40.out; have hnb66 := NB40_165.out; have hnc66 := NB165_40.out
        obtain ⟨hcz67_0, hcz67_1, hcz67_2, hcz67_3⟩ := cz4 BK40.out
        obtain ⟨hfz67_0, hfz67_1, hfz67_2, hfz67_3⟩ := fz4 BK40.out
        go_wp2_with (first | ((with_reducible refine gate_dst (N := 64) rfl ?_); refine Kd.R_lit k57 _ 57 ?hg (N := 64) ?hd (xs := ([] : List (S57))) (inner := []) (ok := fun _ => True) (okp := fun _ => True) ?hr ?hp (fun _ hk => hk) trivial (Below.refl _ _) (Nat.le_refl _) (by simp) ?_; (case hd => rfl); (case hg => rfl); (case hr => first | (go_simp; done) | (go_simp; rfl)); (case hp => exact (Reps.none _ _)); intro v167 w68 ho69 hb hg_ hnew_; clear hg_ hnew_; (first | rw [← Ny166.out] at ho69 | (simp only [Int.reduceToNat] at ho69; rw [← Ny166.out] at ho69)); have n0_ := yD (zE (kA HO_166000) hb); have n1_ := yD (Kd.R_elder' (kA HO_166001) (yH ho69) hb); have n2_ := yD (yZ (yJ ho69 (yK (kA HO_166001))) (below_size (kB HB))); have n3_ := yD (zB (g := g0_0) (o := .cells #[.slice A0_0 l0_0.length c0_0, .slice A0_1 l0_1.length c0_1, .int .i64 a0_2, .bool a0_3] 44 (0, 0)) (kM BK40) hb); have n4_ := yD (zB (g := gb156) (o := .cells #[.slice none 0 0, .slice none 0 0, .int .i64 0, .bool false] 44 (0, 0)) (kM BK156) hb); have n5_ := yD (zB (g := gb165) (o := .cells #[u166000, .slice Ao13 t160.length co13, .int .i64 t163, .bool t164] 44 (0, 0)) (kM BK165) hb); have n6_ := yD (zC (kB HB) hb); clear HO_166000; clear HO_166001; clear BK40; clear BK156; clear BK165; clear HB; have HO_166000 := n0_; have HO_166001 := n1_; have HO168 := n2_; have BK40 := n3_; have BK156 := n4_; have BK165 := n5_; have HB := n6_; clear n0_ n1_ n2_ n3_ n4_ n5_ n6_; clear hb ho69; obtain ⟨Ao70, co70, eo70⟩ := Kd.R_slice HO168.out; subst eo70; have hnb71 := NB165_156.out; have hnc71 := NB156_165.out; obtain ⟨hcz72_0, hcz72_1, hcz72_2, hcz72_3⟩ := cz4 BK165.out; obtain ⟨hfz72_0, hfz72_1, hfz72_2, hfz72_3⟩ := fz4 BK165.out; obtain ⟨Ao73, co73, eo73⟩ := Kd.R_slice HO_166000.out; subst eo73; obtain ⟨hcz74_0, hcz74_1, hcz74_2, hcz74_3⟩ := cz4 BK156.out; obtain ⟨hfz74_0, hfz74_1, hfz74_2, hfz74_3⟩ := fz4 BK156.out))
        refine bodyPost_ret (results_cell_row rfl _ _ gb156 44 #[.slice Ao73 x166000_1.length co73, .slice Ao70 y166.length co70, .int .i64 (-1), .bool false] (0, 0) _ rfl (by (with_reducible repeat (first | refine yM ?_ _ | refine yO ?_ | refine yN ?_ _)); refine blk_put (cs := #[.slice Ao73 x166000_1.length co73, .slice Ao70 y166.length co70, .int .i64 (-1), .bool false]) ?_ 3 _ rfl; (with_reducible repeat (first | refine yM ?_ _ | refine yO ?_ | refine yN ?_ _)); refine blk_put (cs := #[.slice Ao73 x166000_1.length co73, .slice Ao70 y166.length co70, .int .i64 0, .bool false]) ?_ 2 _ rfl; (with_reducible repeat (first | refine yM ?_ _ | refine yO ?_ | refine yN ?_ _)); refine blk_put (cs := #[.slice Ao73 x166000_1.length co73, .slice none 0 0, .int .i64 0, .bool false]) ?_ 1 _ rfl; (with_reducible repeat (first | refine yM ?_ _ | refine yO ?_ | refine yN ?_ _)); refine blk_put (cs := #[.slice none 0 0, .slice none 0 0, .int .i64 0, .bool false]) ?_ 0 _ rfl; (with_reducible repeat (first | refine yM ?_ _ | refine yO ?_ | refine yN ?_ _)); refine blk_far ?_ NB156_165.out _; (with_reducible repeat (first | refine yM ?_ _ | refine yO ?_ | refine yN ?_ _)); refine blk_far ?_ NB156_165.out _; (with_reducible repeat (first | refine yM ?_ _ | refine yO ?_ | refine yN ?_ _)); refine blk_far ?_ NB156_165.out _; (with_reducible repeat (first | refine yM ?_ _ | refine yO ?_ | refine yN ?_ _)); exact BK156.out) Try.underlying44 rfl (by kernel_rfl)) rfl ?_
        exact ⟨_, _, by first | rfl | (simp <;> rfl) | (simp [*] <;> rfl), by (with_reducible repeat (first | apply yA | apply yB | apply yC)); exact zF (yF (p := ⟨gb156, 3, none⟩) (yF (p := ⟨gb156, 2, none⟩) (yF (p := ⟨gb156, 1, none⟩) (yF (p := ⟨gb156, 0, none⟩) (yF (p := ⟨gb165, 3, none⟩) (yF (p := ⟨gb165, 2, none⟩) (yF (p := ⟨gb165, 1, none⟩) (Kd.R_types (Kd.R_types HO_166000.out BK165.out (by decide)) BK156.out (by decide)) (fun _ hk => hk.1.2) (.slice Ao70 y166.length co70)) (fun _ hk => hk.1.2) (.int .i64 (-1))) (fun _ hk => hk.1.2) (.bool false)) (fun _ hk => hk.2) (.slice Ao73 x166000_1.length co73)) (fun _ hk => hk.2) (.slice Ao70 y166.length co70)) (fun _ hk => hk.2) (.int .i64 (-1))) (fun _ hk => hk.2) (.bool false)) (fun _ hk => trivial), by (with_reducible repeat (first | apply yA | apply yB | apply yC)); exact zF (yF (p := ⟨gb156, 3, none⟩) (yF (p := ⟨gb156, 2, none⟩) (yF (p := ⟨gb156, 1, none⟩) (yF (p := ⟨gb156, 0, none⟩) (yF (p := ⟨gb165, 3, none⟩) (yF (p := ⟨gb165, 2, none⟩) (yF (p := ⟨gb165, 1, none⟩) (Kd.R_types (Kd.R_types HO168.out BK165.out (by decide)) BK156.out (by decide)) (fun _ hk => hk.1.2) (.slice Ao70 y166.length co70)) (fun _ hk => hk.1.2) (.int .i64 (-1))) (fun _ hk => hk.1.2) (.bool false)) (fun _ hk => hk.2) (.slice Ao73 x166000_1.length co73)) (fun _ hk => hk.2) (.slice Ao70 y166.length co70)) (fun _ hk => hk.2) (.int .i64 (-1))) (fun _ hk => hk.2) (.bool false)) (fun _ hk => trivial), by repeat (first | (with_reducible first | exact HB.out | apply yQ | apply yL | apply yP | refine yE ?_ GE40.out | refine yE ?_ GE156.out | refine yE ?_ GE165.out) | exact HB.out)⟩

/-! ### spec_CutPower: function 14 -/
def spec_CutPower.f (k : Nat) (l0_0 : List ByteArray) (l0_1 : List (S57)) (a0_2 : Int) (a0_3 : Bool) (l1 : List Bool) (a2 : Int) (a3 : Int) : Option (List ByteArray × (List (S57)) × Int × Bool × Int) := (spec_l09Ok_c44.f k l0_0 l0_1 a0_2 a0_3).bind fun t177 => (if t177 = true then (if (l1.length : Int) = (l0_1.length : Int) then ((spec_l00In.f a2 (-1) (wrap64 ((l0_1.length : Int) - 1))).bind fun t178 => (if t178 = true then ((spec_l00In.f a3 0 64).bind fun t179 => (if t179 = true then ((spec_l09Cut_c44.f k l0_0 l0_1 a0_2 a0_3 l1 a2 a3).bind fun bt180 => (some (bt180.1, bt180.2.1, bt180.2.2.1, bt180.2.2.2, 0))) else (some (([] : List ByteArray), ([] : List (S57)), 0, false, 2)))) else (some (([] : List ByteArray), ([] : List (S57)), 0, false, 2)))) else (some (([] : List ByteArray), ([] : List (S57)), 0, false, 2))) else (some (([] : List ByteArray), ([] : List (S57)), 0, false, 1)))
theorem spec_CutPower.mono : ∀ a0 a1 a2 a3 a4 a5 a6 k, LeO (spec_CutPower.f k a0 a1 a2 a3 a4 a5 a6) (spec_CutPower.f (k + 1) a0 a1 a2 a3 a4 a5 a6) := by
  intro a0 a1 a2 a3 a4 a5 a6 k
  unfold spec_CutPower.f
  repeat' first
      | (with_reducible exact spec_l09Cut_c44.mono _ _ _ _ _ _ _ _)
      | (with_reducible exact spec_l09Ok_c44.mono _ _ _ _ _)
      | (with_reducible exact LeO.refl _)
      | (with_reducible exact LeO.none _)
      | (with_reducible refine LeO.ite ?_ ?_)
      | (with_reducible refine LeO.bind ?_ (fun _ => ?_))
      | exact spec_l09Cut_c44.mono _ _ _ _ _ _ _ _
      | exact spec_l09Ok_c44.mono _ _ _ _ _
      | exact LeO.none _
      | refine LeO.ite ?_ ?_
      | refine LeO.bind ?_ (fun _ => ?_)
set_option maxHeartbeats 8000000 in
set_option maxRecDepth 100000 in
theorem spec_CutPower.calls (k : Nat) (A0_0 : Option Addr) (c0_0 : Nat) (l0_0 : List ByteArray) (A0_1 : Option Addr) (c0_1 : Nat) (l0_1 : List (S57)) (a0_2 : Int) (a0_3 : Bool) (A1 : Option Addr) (c1 : Nat) (l1 : List Bool) (a2 : Int) (a3 : Int) (r1 : List ByteArray) (r2 : List (S57)) (r3 : Int) (r4 : Bool) (r5 : Int) (w : World) (hr0_0 : Kd.C Kd.string w A0_0 l0_0.length l0_0) (hc0_0 : l0_0.length ≤ c0_0) (hr0_1 : Kd.C k57 w A0_1 l0_1.length l0_1) (hc0_1 : l0_1.length ≤ c0_1) (hr1 : Kd.C Kd.bool w A1 l1.length l1) (hc1 : l1.length ≤ c1) (h : spec_CutPower.f k l0_0 l0_1 a0_2 a0_3 l1 a2 a3 = some (r1, r2, r3, r4, r5)) :
    Calls Try.prog 14 #[.agg #[.slice A0_0 l0_0.length c0_0, .slice A0_1 l0_1.length c0_1, .int .i64 a0_2, .bool a0_3], .slice A1 l1.length c1, .int .i64 a2, .int .i64 a3] w fun e w' => ∃ v0_ v1_ : Value, e = .returned (.tuple #[.agg #[v0_, v1_, .int .i64 r3, .bool r4], .int .i64 r5]) ∧ Kd.R Kd.string 9 w' w.heap.size (fun _ => True) v0_ r1 ∧ Kd.R k57 57 w' w.heap.size (fun _ => True) v1_ r2 ∧ Below w.heap.size w w' := by
  have hu44 := Try.underlying44
  have HR0_0 := yD hr0_0
  have HC0_0 := yD hc0_0
  clear hr0_0 hc0_0
  have HR0_1 := yD hr0_1
  have HC0_1 := yD hc0_1
  clear hr0_1 hc0_1
  have HR1 := yD hr1
  have HC1 := yD hc1
  clear hr1 hc1
  have HB := yD (Below.refl w.heap.size w)
  have H : ((spec_l09Ok_c44.f k l0_0 l0_1 a0_2 a0_3).bind fun t177 => (if t177 = true then (if (l1.length : Int) = (l0_1.length : Int) then ((spec_l00In.f a2 (-1) (wrap64 ((l0_1.length : Int) - 1))).bind fun t178 => (if t178 = true then ((spec_l00In.f a3 0 64).bind fun t179 => (if t179 = true then ((spec_l09Cut_c44.f k l0_0 l0_1 a0_2 a0_3 l1 a2 a3).bind fun bt180 => (some (bt180.1, bt180.2.1, bt180.2.2.1, bt180.2.2.2, 0))) else (some (([] : List ByteArray), ([] : List (S57)), 0, false, 2)))) else (some (([] : List ByteArray), ([] : List (S57)), 0, false, 2)))) else (some (([] : List ByteArray), ([] : List (S57)), 0, false, 2))) else (some (([] : List ByteArray), ([] : List (S57)), 0, false, 1)))) = some (r1, r2, r3, r4, r5) := h
  clear h
  obtain ⟨t177, A50, H⟩ := zW_ H
  replace H : (if t177 = true then (if (l1.length : Int) = (l0_1.length : Int) then ((spec_l00In.f a2 (-1) (wrap64 ((l0_1.length : Int) - 1))).bind fun t178 => (if t178 = true then ((spec_l00In.f a3 0 64).bind fun t179 => (if t179 = true then ((spec_l09Cut_c44.f k l0_0 l0_1 a0_2 a0_3 l1 a2 a3).bind fun bt180 => (some (bt180.1, bt180.2.1, bt180.2.2.1, bt180.2.2.2, 0))) else (some (([] : List ByteArray), ([] : List (S57)), 0, false, 2)))) else (some (([] : List ByteArray), ([] : List (S57)), 0, false, 2)))) else (some (([] : List ByteArray), ([] : List (S57)), 0, false, 2))) else (some (([] : List ByteArray), ([] : List (S57)), 0, false, 1))) = some (r1, r2, r3, r4, r5) := H
  have A5 := yD A50
  clear A50
  by_cases c6 : t177 = true
  · subst c6
    have H1 : (if (l1.length : Int) = (l0_1.length : Int) then ((spec_l00In.f a2 (-1) (wrap64 ((l0_1.length : Int) - 1))).bind fun t178 => (if t178 = true then ((spec_l00In.f a3 0 64).bind fun t179 => (if t179 = true then ((spec_l09Cut_c44.f k l0_0 l0_1 a0_2 a0_3 l1 a2 a3).bind fun bt180 => (some (bt180.1, bt180.2.1, bt180.2.2.1, bt180.2.2.2, 0))) else (some (([] : List ByteArray), ([] : List (S57)), 0, false, 2)))) else (some (([] : List ByteArray), ([] : List (S57)), 0, false, 2)))) else (some (([] : List ByteArray), ([] : List (S57)), 0, false, 2))) = some (r1, r2, r3, r4, r5) := by rw [if_pos rfl] at H; exact H
    clear H; have H := H1; clear H1
    by_cases c7 : (l1.length : Int) = (l0_1.length : Int)
    · rw [if_pos c7] at H
      have c7b0 : ((l1.length : Int) == (l0_1.length : Int)) = true := beq_iff_eq.mpr c7
      have c7b1 : ((l1.length : Int) != (l0_1.length : Int)) = false := bne_eq_false_iff_eq.mpr c7
      have c7b2 : (l1.length == l0_1.length) = true := by first | simpa using c7 | (simp at c7 ⊢; omega)
      clear c7
      obtain ⟨t178, A80, H⟩ := zW_ H
      replace H : (if t178 = true then ((spec_l00In.f a3 0 64).bind fun t179 => (if t179 = true then ((spec_l09Cut_c44.f k l0_0 l0_1 a0_2 a0_3 l1 a2 a3).bind fun bt180 => (some (bt180.1, bt180.2.1, bt180.2.2.1, bt180.2.2.2, 0))) else (some (([] : List ByteArray), ([] : List (S57)), 0, false, 2)))) else (some (([] : List ByteArray), ([] : List (S57)), 0, false, 2))) = some (r1, r2, r3, r4, r5) := H
      have A8 := yD A80
      clear A80
      by_cases c9 : t178 = true
      · subst c9
        have H1 : ((spec_l00In.f a3 0 64).bind fun t179 => (if t179 = true then ((spec_l09Cut_c44.f k l0_0 l0_1 a0_2 a0_3 l1 a2 a3).bind fun bt180 => (some (bt180.1, bt180.2.1, bt180.2.2.1, bt180.2.2.2, 0))) else (some (([] : List ByteArray), ([] : List (S57)), 0, false, 2)))) = some (r1, r2, r3, r4, r5) := by rw [if_pos rfl] at H; exact H
        clear H; have H := H1; clear H1
        obtain ⟨t179, A100, H⟩ := zW_ H
        replace H : (if t179 = true then ((spec_l09Cut_c44.f k l0_0 l0_1 a0_2 a0_3 l1 a2 a3).bind fun bt180 => (some (bt180.1, bt180.2.1, bt180.2.2.1, bt180.2.2.2, 0))) else (some (([] : List ByteArray), ([] : List (S57)), 0, false, 2))) = some (r1, r2, r3, r4, r5) := H
        have A10 := yD A100
        clear A100
        by_cases c11 : t179 = true
        · subst c11
          have H1 : ((spec_l09Cut_c44.f k l0_0 l0_1 a0_2 a0_3 l1 a2 a3).bind fun bt180 => (some (bt180.1, bt180.2.1, bt180.2.2.1, bt180.2.2.2, 0))) = some (r1, r2, r3, r4, r5) := by rw [if_pos rfl] at H; exact H
          clear H; have H := H1; clear H1
          obtain ⟨⟨t180, t183, t186, t187⟩, A120, H⟩ := zW_ H
          replace H : (some (t180, t183, t186, t187, 0)) = some (r1, r2, r3, r4, r5) := H
          have A12 := yD A120
          clear A120
          simp only [Option.some.injEq, Prod.mk.injEq] at H
          obtain ⟨rfl, rfl, rfl, rfl, rfl⟩ := H
          go_enter Try.func14, Try.ntmps14
          go_wp2_with (first | ((with_reducible refine gate_dst (N := 4) rfl ?_); (try (refine gate_guard (by rfl) ?_; dsimp only)); refine box_event ?hg (N := 4) ?hd (cs := #[.slice A0_0 l0_0.length c0_0, .slice A0_1 l0_1.length c0_1, .int .i64 a0_2, .bool a0_3]) (t := 44) ?hr ?_; (case hd => rfl); (case hg => rfl); (case hr => first | (go_simp; done) | (go_simp; rfl)); intro gb175 hg w13 hbox hb; have n0_ := yD (zC (kB HB) hb); have n1_ := yD (hbox); have n2_ := yD ((by rw [hg]; exact (below_size (kB HB)) : w.heap.size ≤ gb175)); have n3_ := yD ((by rw [hg]; exact (below_size (kB HB)) : w.heap.size ≤ gb175)); clear HB; have HB := n0_; have BK175 := n1_; have GW175 := n2_; have GE175 := n3_; clear n0_ n1_ n2_ n3_; clear hb hbox hg) | ((with_reducible refine gate_dst (N := 8) rfl ?_); (try (refine gate_guard (by rfl) ?_; dsimp only)); refine box_event ?hg (N := 8) ?hd (cs := #[.slice none 0 0, .slice none 0 0, .int .i64 0, .bool false]) (t := 44) ?hr ?_; (case hd => rfl); (case hg => rfl); (case hr => first | (go_simp; done) | (go_simp; rfl)); intro gb176 hg w14 hbox hb; have n0_ := yD (zB (g := gb175) (o := .cells #[.slice A0_0 l0_0.length c0_0, .slice A0_1 l0_1.length c0_1, .int .i64 a0_2, .bool a0_3] 44 (0, 0)) (kM BK175) hb); have n1_ := yD (zC (kB HB) hb); have n2_ := yD (hbox); have n3_ := yD ((by rw [hg]; exact (below_size (kB HB)) : w.heap.size ≤ gb176)); have n4_ := yD ((by rw [hg]; exact (below_size (kB HB)) : w.heap.size ≤ gb176)); have n5_ := yD ((by rw [hg]; exact Nat.ne_of_lt (blk_lt (g := gb175) (o := .cells #[.slice A0_0 l0_0.length c0_0, .slice A0_1 l0_1.length c0_1, .int .i64 a0_2, .bool a0_3] 44 (0, 0)) (kM BK175)) : gb175 ≠ gb176)); have n6_ := yD ((by rw [hg]; exact Nat.ne_of_gt (blk_lt (g := gb175) (o := .cells #[.slice A0_0 l0_0.length c0_0, .slice A0_1 l0_1.length c0_1, .int .i64 a0_2, .bool a0_3] 44 (0, 0)) (kM BK175)) : gb176 ≠ gb175)); clear BK175; clear HB; have BK175 := n0_; have HB := n1_; have BK176 := n2_; have GW176 := n3_; have GE176 := n4_; have NB175_176 := n5_; have NB176_175 := n6_; clear n0_ n1_ n2_ n3_ n4_ n5_ n6_; clear hb hbox hg) | ((with_reducible refine gate_callee (f := 43) rfl ?_); refine goesL_ (some 10) rfl rfl Try.func43 (by kernel_rfl) rfl #[.pointer (some ⟨gb175, 0, none⟩)] rfl (by (try simp only [zK, zL, zM]); first | done | rfl | (simp only [zN, zO]; rfl)) ?_; (with_reducible refine (spec_l09Ok_c44.calls k gb175 A0_0 c0_0 l0_0 A0_1 c0_1 l0_1 a0_2 a0_3 true _ ?side1 ?side2 ?side3 ?side4 ?side5 A5.out).mono ?_); (case side1 => exact kV (yY HR0_0.out HB.out)); (case side2 => exact HC0_0.out); (case side3 => exact kV (yY HR0_1.out HB.out)); (case side4 => exact HC0_1.out); (case side5 => (with_reducible repeat (first | refine yM ?_ _ | refine yO ?_ | refine yN ?_ _)); exact BK175.out); rintro e w15 ⟨rfl, hb⟩; refine ⟨_, rfl, ?_⟩; have n0_ := yD (zB (g := gb175) (o := .cells #[.slice A0_0 l0_0.length c0_0, .slice A0_1 l0_1.length c0_1, .int .i64 a0_2, .bool a0_3] 44 (0, 0)) (kM BK175) hb); have n1_ := yD (zB (g := gb176) (o := .cells #[.slice none 0 0, .slice none 0 0, .int .i64 0, .bool false] 44 (0, 0)) (kM BK176) hb); have n2_ := yD (zC (kB HB) hb); clear BK175; clear BK176; clear HB; have BK175 := n0_; have BK176 := n1_; have HB := n2_; clear n0_ n1_ n2_; (try clear hb); (try clear hb2); (try clear hk); (try clear hi); have hnb16 := NB175_176.out; have hnc16 := NB176_175.out; obtain ⟨hcz17_0, hcz17_1, hcz17_2, hcz17_3⟩ := cz4 BK175.out; obtain ⟨hfz17_0, hfz17_1, hfz17_2, hfz17_3⟩ := fz4 BK175.out) | (go_at_call 30; (with_reducible refine (spec_l00In.calls a2 (-1) (wrap64 ((l0_1.length : Int) - 1)) true _ A8.out).mono ?_); rintro e w' ⟨rfl, ⟨nd, rfl⟩⟩; (try (rw [drewN_self w15]; generalize hq_ : World.drewN w15 _ = w15; have n0_ : Aside0 (w15.heap[gb175]? = some (.cells #[.slice A0_0 l0_0.length c0_0, .slice A0_1 l0_1.length c0_1, .int .i64 a0_2, .bool a0_3] 44 (0, 0))) := ⟨by rw [← hq_]; exact (kM BK175)⟩; have n1_ : Aside0 (w15.heap[gb176]? = some (.cells #[.slice none 0 0, .slice none 0 0, .int .i64 0, .bool false] 44 (0, 0))) := ⟨by rw [← hq_]; exact (kM BK176)⟩; have n2_ : Aside0 (Below w.heap.size w w15) := ⟨by rw [← hq_]; exact (kB HB)⟩; clear BK175 BK176 HB hq_; have BK175 := n0_; have BK176 := n1_; have HB := n2_; clear n0_ n1_ n2_))) | (go_at_call 30; (with_reducible refine (spec_l00In.calls a3 0 64 true _ A10.out).mono ?_); rintro e w' ⟨rfl, ⟨nd, rfl⟩⟩; (try (rw [drewN_self w15]; generalize hq_ : World.drewN w15 _ = w15; have n0_ : Aside0 (w15.heap[gb175]? = some (.cells #[.slice A0_0 l0_0.length c0_0, .slice A0_1 l0_1.length c0_1, .int .i64 a0_2, .bool a0_3] 44 (0, 0))) := ⟨by rw [← hq_]; exact (kM BK175)⟩; have n1_ : Aside0 (w15.heap[gb176]? = some (.cells #[.slice none 0 0, .slice none 0 0, .int .i64 0, .bool false] 44 (0, 0))) := ⟨by rw [← hq_]; exact (kM BK176)⟩; have n2_ : Aside0 (Below w.heap.size w w15) := ⟨by rw [← hq_]; exact (kB HB)⟩; clear BK175 BK176 HB hq_; have BK175 := n0_; have BK176 := n1_; have HB := n2_; clear n0_ n1_ n2_))) | ((with_reducible refine gate_callee (f := 44) rfl ?_); refine goesL_ (some 37) rfl rfl Try.func44 (by kernel_rfl) rfl #[.pointer (some ⟨gb175, 0, none⟩), .slice A1 l1.length c1, .int .i64 a2, .int .i64 a3] rfl (by (try simp only [zK, zL, zM]); first | done | rfl | (simp only [zN, zO]; rfl)) ?_; (with_reducible refine (spec_l09Cut_c44.calls k gb175 A0_0 c0_0 l0_0 A0_1 c0_1 l0_1 a0_2 a0_3 _ _ l1 a2 a3 t180 t183 t186 t187 _ ?side1 ?side2 ?side3 ?side4 ?side5 ?side6 ?side7 A12.out).mono ?_); (case side1 => exact kV (yY HR0_0.out HB.out)); (case side2 => exact HC0_0.out); (case side3 => exact kV (yY HR0_1.out HB.out)); (case side4 => exact HC0_1.out); (case side5 => exact kV (yY HR1.out HB.out)); (case side6 => exact HC1.out); (case side7 => (with_reducible repeat (first | refine yM ?_ _ | refine yO ?_ | refine yN ?_ _)); exact BK175.out); rintro e w18 ⟨v181, v184, rfl, ho0, ho1, hb⟩; refine ⟨_, rfl, ?_⟩; have n0_ := yD (yZ ho0 (below_size (kB HB))); have n1_ := yD (yZ ho1 (below_size (kB HB))); have n2_ := yD (zB (g := gb175) (o := .cells #[.slice A0_0 l0_0.length c0_0, .slice A0_1 l0_1.length c0_1, .int .i64 a0_2, .bool a0_3] 44 (0, 0)) (kM BK175) hb); have n3_ := yD (zB (g := gb176) (o := .cells #[.slice none 0 0, .slice none 0 0, .int .i64 0, .bool false] 44 (0, 0)) (kM BK176) hb); have n4_ := yD (zC (kB HB) hb); clear BK175; clear BK176; clear HB; have HO182 := n0_; have HO185 := n1_; have BK175 := n2_; have BK176 := n3_; have HB := n4_; clear n0_ n1_ n2_ n3_ n4_; (try clear hb); (try clear hb2); (try clear hk); (try clear hi); (try clear ho0); (try clear ho1); obtain ⟨Ao19, co19, eo19⟩ := Kd.R_slice HO182.out; subst eo19; obtain ⟨hcz20_0, hcz20_1, hcz20_2, hcz20_3⟩ := cz4 BK176.out; obtain ⟨hfz20_0, hfz20_1, hfz20_2, hfz20_3⟩ := fz4 BK176.out; obtain ⟨Ao21, co21, eo21⟩ := Kd.R_slice HO185.out; subst eo21))
          refine bodyPost_ret (results_ct rfl _ _ gb176 44 #[.slice Ao19 t180.length co19, .slice Ao21 t183.length co21, .int .i64 t186, .bool t187] (0, 0) _ rfl (by (with_reducible repeat (first | refine yM ?_ _ | refine yO ?_ | refine yN ?_ _)); refine blk_put (cs := #[.slice Ao19 t180.length co19, .slice Ao21 t183.length co21, .int .i64 t186, .bool false]) ?_ 3 _ rfl; (with_reducible repeat (first | refine yM ?_ _ | refine yO ?_ | refine yN ?_ _)); refine blk_put (cs := #[.slice Ao19 t180.length co19, .slice Ao21 t183.length co21, .int .i64 0, .bool false]) ?_ 2 _ rfl; (with_reducible repeat (first | refine yM ?_ _ | refine yO ?_ | refine yN ?_ _)); refine blk_put (cs := #[.slice Ao19 t180.length co19, .slice none 0 0, .int .i64 0, .bool false]) ?_ 1 _ rfl; (with_reducible repeat (first | refine yM ?_ _ | refine yO ?_ | refine yN ?_ _)); refine blk_put (cs := #[.slice none 0 0, .slice none 0 0, .int .i64 0, .bool false]) ?_ 0 _ rfl; (with_reducible repeat (first | refine yM ?_ _ | refine yO ?_ | refine yN ?_ _)); exact BK176.out) Try.underlying44 rfl (by kernel_rfl)) rfl ?_
          exact ⟨_, _, by first | rfl | (simp <;> rfl) | (simp [*] <;> rfl), by (with_reducible repeat (first | apply yA | apply yB | apply yC)); exact zF (yF (p := ⟨gb176, 3, none⟩) (yF (p := ⟨gb176, 2, none⟩) (yF (p := ⟨gb176, 1, none⟩) (yF (p := ⟨gb176, 0, none⟩) (Kd.R_types HO182.out BK176.out (by decide)) (fun _ hk => hk.2) (.slice Ao19 t180.length co19)) (fun _ hk => hk.2) (.slice Ao21 t183.length co21)) (fun _ hk => hk.2) (.int .i64 t186)) (fun _ hk => hk.2) (.bool t187)) (fun _ hk => trivial), by (with_reducible repeat (first | apply yA | apply yB | apply yC)); exact zF (yF (p := ⟨gb176, 3, none⟩) (yF (p := ⟨gb176, 2, none⟩) (yF (p := ⟨gb176, 1, none⟩) (yF (p := ⟨gb176, 0, none⟩) (Kd.R_types HO185.out BK176.out (by decide)) (fun _ hk => hk.2) (.slice Ao19 t180.length co19)) (fun _ hk => hk.2) (.slice Ao21 t183.length co21)) (fun _ hk => hk.2) (.int .i64 t186)) (fun _ hk => hk.2) (.bool t187)) (fun _ hk => trivial), by repeat (first | (with_reducible first | exact HB.out | apply yQ | apply yL | apply yP | refine yE ?_ GE175.out | refine yE ?_ GE176.out) | exact HB.out)⟩
        · replace c11 := Bool.eq_false_iff.mpr c11
          subst c11
          have H1 : (some (([] : List ByteArray), ([] : List (S57)), 0, false, 2)) = some (r1, r2, r3, r4, r5) := by rw [if_neg (show ¬ (false = true) by decide)] at H; exact H
          clear H; have H := H1; clear H1
          simp only [Option.some.injEq, Prod.mk.injEq] at H
          obtain ⟨rfl, rfl, rfl, rfl, rfl⟩ := H
          go_enter Try.func14, Try.ntmps14
          go_wp2_with (first | ((with_reducible refine gate_dst (N := 4) rfl ?_); (try (refine gate_guard (by rfl) ?_; dsimp only)); refine box_event ?hg (N := 4) ?hd (cs := #[.slice A0_0 l0_0.length c0_0, .slice A0_1 l0_1.length c0_1, .int .i64 a0_2, .bool a0_3]) (t := 44) ?hr ?_; (case hd => rfl); (case hg => rfl); (case hr => first | (go_simp; done) | (go_simp; rfl)); intro gb175 hg w22 hbox hb; have n0_ := yD (zC (kB HB) hb); have n1_ := yD (hbox); have n2_ := yD ((by rw [hg]; exact (below_size (kB HB)) : w.heap.size ≤ gb175)); have n3_ := yD ((by rw [hg]; exact (below_size (kB HB)) : w.heap.size ≤ gb175)); clear HB; have HB := n0_; have BK175 := n1_; have GW175 := n2_; have GE175 := n3_; clear n0_ n1_ n2_ n3_; clear hb hbox hg) | ((with_reducible refine gate_dst (N := 8) rfl ?_); (try (refine gate_guard (by rfl) ?_; dsimp only)); refine box_event ?hg (N := 8) ?hd (cs := #[.slice none 0 0, .slice none 0 0, .int .i64 0, .bool false]) (t := 44) ?hr ?_; (case hd => rfl); (case hg => rfl); (case hr => first | (go_simp; done) | (go_simp; rfl)); intro gb176 hg w23 hbox hb; have n0_ := yD (zB (g := gb175) (o := .cells #[.slice A0_0 l0_0.length c0_0, .slice A0_1 l0_1.length c0_1, .int .i64 a0_2, .bool a0_3] 44 (0, 0)) (kM BK175) hb); have n1_ := yD (zC (kB HB) hb); have n2_ := yD (hbox); have n3_ := yD ((by rw [hg]; exact (below_size (kB HB)) : w.heap.size ≤ gb176)); have n4_ := yD ((by rw [hg]; exact (below_size (kB HB)) : w.heap.size ≤ gb176)); have n5_ := yD ((by rw [hg]; exact Nat.ne_of_lt (blk_lt (g := gb175) (o := .cells #[.slice A0_0 l0_0.length c0_0, .slice A0_1 l0_1.length c0_1, .int .i64 a0_2, .bool a0_3] 44 (0, 0)) (kM BK175)) : gb175 ≠ gb176)); have n6_ := yD ((by rw [hg]; exact Nat.ne_of_gt (blk_lt (g := gb175) (o := .cells #[.slice A0_0 l0_0.length c0_0, .slice A0_1 l0_1.length c0_1, .int .i64 a0_2, .bool a0_3] 44 (0, 0)) (kM BK175)) : gb176 ≠ gb175)); clear BK175; clear HB; have BK175 := n0_; have HB := n1_; have BK176 := n2_; have GW176 := n3_; have GE176 := n4_; have NB175_176 := n5_; have NB176_175 := n6_; clear n0_ n1_ n2_ n3_ n4_ n5_ n6_; clear hb hbox hg) | ((with_reducible refine gate_callee (f := 43) rfl ?_); refine goesL_ (some 10) rfl rfl Try.func43 (by kernel_rfl) rfl #[.pointer (some ⟨gb175, 0, none⟩)] rfl (by (try simp only [zK, zL, zM]); first | done | rfl | (simp only [zN, zO]; rfl)) ?_; (with_reducible refine (spec_l09Ok_c44.calls k gb175 A0_0 c0_0 l0_0 A0_1 c0_1 l0_1 a0_2 a0_3 true _ ?side1 ?side2 ?side3 ?side4 ?side5 A5.out).mono ?_); (case side1 => exact kV (yY HR0_0.out HB.out)); (case side2 => exact HC0_0.out); (case side3 => exact kV (yY HR0_1.out HB.out)); (case side4 => exact HC0_1.out); (case side5 => (with_reducible repeat (first | refine yM ?_ _ | refine yO ?_ | refine yN ?_ _)); exact BK175.out); rintro e w24 ⟨rfl, hb⟩; refine ⟨_, rfl, ?_⟩; have n0_ := yD (zB (g := gb175) (o := .cells #[.slice A0_0 l0_0.length c0_0, .slice A0_1 l0_1.length c0_1, .int .i64 a0_2, .bool a0_3] 44 (0, 0)) (kM BK175) hb); have n1_ := yD (zB (g := gb176) (o := .cells #[.slice none 0 0, .slice none 0 0, .int .i64 0, .bool false] 44 (0, 0)) (kM BK176) hb); have n2_ := yD (zC (kB HB) hb); clear BK175; clear BK176; clear HB; have BK175 := n0_; have BK176 := n1_; have HB := n2_; clear n0_ n1_ n2_; (try clear hb); (try clear hb2); (try clear hk); (try clear hi); have hnb25 := NB175_176.out; have hnc25 := NB176_175.out; obtain ⟨hcz26_0, hcz26_1, hcz26_2, hcz26_3⟩ := cz4 BK175.out; obtain ⟨hfz26_0, hfz26_1, hfz26_2, hfz26_3⟩ := fz4 BK175.out) | (go_at_call 30; (with_reducible refine (spec_l00In.calls a2 (-1) (wrap64 ((l0_1.length : Int) - 1)) true _ A8.out).mono ?_); rintro e w' ⟨rfl, ⟨nd, rfl⟩⟩; (try (rw [drewN_self w24]; generalize hq_ : World.drewN w24 _ = w24; have n0_ : Aside0 (w24.heap[gb175]? = some (.cells #[.slice A0_0 l0_0.length c0_0, .slice A0_1 l0_1.length c0_1, .int .i64 a0_2, .bool a0_3] 44 (0, 0))) := ⟨by rw [← hq_]; exact (kM BK175)⟩; have n1_ : Aside0 (w24.heap[gb176]? = some (.cells #[.slice none 0 0, .slice none 0 0, .int .i64 0, .bool false] 44 (0, 0))) := ⟨by rw [← hq_]; exact (kM BK176)⟩; have n2_ : Aside0 (Below w.heap.size w w24) := ⟨by rw [← hq_]; exact (kB HB)⟩; clear BK175 BK176 HB hq_; have BK175 := n0_; have BK176 := n1_; have HB := n2_; clear n0_ n1_ n2_))) | (go_at_call 30; (with_reducible refine (spec_l00In.calls a3 0 64 false _ A10.out).mono ?_); rintro e w' ⟨rfl, ⟨nd, rfl⟩⟩; (try (rw [drewN_self w24]; generalize hq_ : World.drewN w24 _ = w24; have n0_ : Aside0 (w24.heap[gb175]? = some (.cells #[.slice A0_0 l0_0.length c0_0, .slice A0_1 l0_1.length c0_1, .int .i64 a0_2, .bool a0_3] 44 (0, 0))) := ⟨by rw [← hq_]; exact (kM BK175)⟩; have n1_ : Aside0 (w24.heap[gb176]? = some (.cells #[.slice none 0 0, .slice none 0 0, .int .i64 0, .bool false] 44 (0, 0))) := ⟨by rw [← hq_]; exact (kM BK176)⟩; have n2_ : Aside0 (Below w.heap.size w w24) := ⟨by rw [← hq_]; exact (kB HB)⟩; clear BK175 BK176 HB hq_; have BK175 := n0_; have BK176 := n1_; have HB := n2_; clear n0_ n1_ n2_)); obtain ⟨hcz27_0, hcz27_1, hcz27_2, hcz27_3⟩ := cz4 BK176.out; obtain ⟨hfz27_0, hfz27_1, hfz27_2, hfz27_3⟩ := fz4 BK176.out))
          refine bodyPost_ret (results_ct rfl _ _ gb176 44 #[.slice none 0 0, .slice none 0 0, .int .i64 0, .bool false] (0, 0) _ rfl (by (with_reducible repeat (first | refine yM ?_ _ | refine yO ?_ | refine yN ?_ _)); refine blk_put (cs := #[.slice none 0 0, .slice none 0 0, .int .i64 0, .bool false]) ?_ 3 _ rfl; (with_reducible repeat (first | refine yM ?_ _ | refine yO ?_ | refine yN ?_ _)); refine blk_put (cs := #[.slice none 0 0, .slice none 0 0, .int .i64 0, .bool false]) ?_ 2 _ rfl; (with_reducible repeat (first | refine yM ?_ _ | refine yO ?_ | refine yN ?_ _)); refine blk_put (cs := #[.slice none 0 0, .slice none 0 0, .int .i64 0, .bool false]) ?_ 1 _ rfl; (with_reducible repeat (first | refine yM ?_ _ | refine yO ?_ | refine yN ?_ _)); refine blk_put (cs := #[.slice none 0 0, .slice none 0 0, .int .i64 0, .bool false]) ?_ 0 _ rfl; (with_reducible repeat (first | refine yM ?_ _ | refine yO ?_ | refine yN ?_ _)); exact BK176.out) Try.underlying44 rfl (by kernel_rfl)) rfl ?_
          exact ⟨_, _, by first | rfl | (simp <;> rfl) | (simp [*] <;> rfl), by first | exact Kd.R_nil _ _ _ _ _ | exact Kd.N_nil _ _ _ _ _ | exact Kd.V_nil _ _ _ _ _ | exact Kd.Q_nil _ _ _ _ _ | exact Kd.S_nil _ _ _ _ _, by first | exact Kd.R_nil _ _ _ _ _ | exact Kd.N_nil _ _ _ _ _ | exact Kd.V_nil _ _ _ _ _ | exact Kd.Q_nil _ _ _ _ _ | exact Kd.S_nil _ _ _ _ _, by repeat (first | (with_reducible first | exact HB.out | apply yQ | apply yL | apply yP | refine yE ?_ GE175.out | refine yE ?_ GE176.out) | exact HB.out)⟩
      · replace c9 := Bool.eq_false_iff.mpr c9
        subst c9
        have H1 : (some (([] : List ByteArray), ([] : List (S57)), 0, false, 2)) = some (r1, r2, r3, r4, r5) := by rw [if_neg (show ¬ (false = true) by decide)] at H; exact H
        clear H; have H := H1; clear H1
        simp only [Option.some.injEq, Prod.mk.injEq] at H
        obtain ⟨rfl, rfl, rfl, rfl, rfl⟩ := H
        go_enter Try.func14, Try.ntmps14
        go_wp2_with (first | ((with_reducible refine gate_dst (N := 4) rfl ?_); (try (refine gate_guard (by rfl) ?_; dsimp only)); refine box_event ?hg (N := 4) ?hd (cs := #[.slice A0_0 l0_0.length c0_0, .slice A0_1 l0_1.length c0_1, .int .i64 a0_2, .bool a0_3]) (t := 44) ?hr ?_; (case hd => rfl); (case hg => rfl); (case hr => first | (go_simp; done) | (go_simp; rfl)); intro gb175 hg w28 hbox hb; have n0_ := yD (zC (kB HB) hb); have n1_ := yD (hbox); have n2_ := yD ((by rw [hg]; exact (below_size (kB HB)) : w.heap.size ≤ gb175)); have n3_ := yD ((by rw [hg]; exact (below_size (kB HB)) : w.heap.size ≤ gb175)); clear HB; have HB := n0_; have BK175 := n1_; have GW175 := n2_; have GE175 := n3_; clear n0_ n1_ n2_ n3_; clear hb hbox hg) | ((with_reducible refine gate_dst (N := 8) rfl ?_); (try (refine gate_guard (by rfl) ?_; dsimp only)); refine box_event ?hg (N := 8) ?hd (cs := #[.slice none 0 0, .slice none 0 0, .int .i64 0, .bool false]) (t := 44) ?hr ?_; (case hd => rfl); (case hg => rfl); (case hr => first | (go_simp; done) | (go_simp; rfl)); intro gb176 hg w29 hbox hb; have n0_ := yD (zB (g := gb175) (o := .cells #[.slice A0_0 l0_0.length c0_0, .slice A0_1 l0_1.length c0_1, .int .i64 a0_2, .bool a0_3] 44 (0, 0)) (kM BK175) hb); have n1_ := yD (zC (kB HB) hb); have n2_ := yD (hbox); have n3_ := yD ((by rw [hg]; exact (below_size (kB HB)) : w.heap.size ≤ gb176)); have n4_ := yD ((by rw [hg]; exact (below_size (kB HB)) : w.heap.size ≤ gb176)); have n5_ := yD ((by rw [hg]; exact Nat.ne_of_lt (blk_lt (g := gb175) (o := .cells #[.slice A0_0 l0_0.length c0_0, .slice A0_1 l0_1.length c0_1, .int .i64 a0_2, .bool a0_3] 44 (0, 0)) (kM BK175)) : gb175 ≠ gb176)); have n6_ := yD ((by rw [hg]; exact Nat.ne_of_gt (blk_lt (g := gb175) (o := .cells #[.slice A0_0 l0_0.length c0_0, .slice A0_1 l0_1.length c0_1, .int .i64 a0_2, .bool a0_3] 44 (0, 0)) (kM BK175)) : gb176 ≠ gb175)); clear BK175; clear HB; have BK175 := n0_; have HB := n1_; have BK176 := n2_; have GW176 := n3_; have GE176 := n4_; have NB175_176 := n5_; have NB176_175 := n6_; clear n0_ n1_ n2_ n3_ n4_ n5_ n6_; clear hb hbox hg) | ((with_reducible refine gate_callee (f := 43) rfl ?_); refine goesL_ (some 10) rfl rfl Try.func43 (by kernel_rfl) rfl #[.pointer (some ⟨gb175, 0, none⟩)] rfl (by (try simp only [zK, zL, zM]); first | done | rfl | (simp only [zN, zO]; rfl)) ?_; (with_reducible refine (spec_l09Ok_c44.calls k gb175 A0_0 c0_0 l0_0 A0_1 c0_1 l0_1 a0_2 a0_3 true _ ?side1 ?side2 ?side3 ?side4 ?side5 A5.out).mono ?_); (case side1 => exact kV (yY HR0_0.out HB.out)); (case side2 => exact HC0_0.out); (case side3 => exact kV (yY HR0_1.out HB.out)); (case side4 => exact HC0_1.out); (case side5 => (with_reducible repeat (first | refine yM ?_ _ | refine yO ?_ | refine yN ?_ _)); exact BK175.out); rintro e w30 ⟨rfl, hb⟩; refine ⟨_, rfl, ?_⟩; have n0_ := yD (zB (g := gb175) (o := .cells #[.slice A0_0 l0_0.length c0_0, .slice A0_1 l0_1.length c0_1, .int .i64 a0_2, .bool a0_3] 44 (0, 0)) (kM BK175) hb); have n1_ := yD (zB (g := gb176) (o := .cells #[.slice none 0 0, .slice none 0 0, .int .i64 0, .bool false] 44 (0, 0)) (kM BK176) hb); have n2_ := yD (zC (kB HB) hb); clear BK175; clear BK176; clear HB; have BK175 := n0_; have BK176 := n1_; have HB := n2_; clear n0_ n1_ n2_; (try clear hb); (try clear hb2); (try clear hk); (try clear hi); have hnb31 := NB175_176.out; have hnc31 := NB176_175.out; obtain ⟨hcz32_0, hcz32_1, hcz32_2, hcz32_3⟩ := cz4 BK175.out; obtain ⟨hfz32_0, hfz32_1, hfz32_2, hfz32_3⟩ := fz4 BK175.out) | (go_at_call 30; (with_reducible refine (spec_l00In.calls a2 (-1) (wrap64 ((l0_1.length : Int) - 1)) false _ A8.out).mono ?_); rintro e w' ⟨rfl, ⟨nd, rfl⟩⟩; (try (rw [drewN_self w30]; generalize hq_ : World.drewN w30 _ = w30; have n0_ : Aside0 (w30.heap[gb175]? = some (.cells #[.slice A0_0 l0_0.length c0_0, .slice A0_1 l0_1.length c0_1, .int .i64 a0_2, .bool a0_3] 44 (0, 0))) := ⟨by rw [← hq_]; exact (kM BK175)⟩; have n1_ : Aside0 (w30.heap[gb176]? = some (.cells #[.slice none 0 0, .slice none 0 0, .int .i64 0, .bool false] 44 (0, 0))) := ⟨by rw [← hq_]; exact (kM BK176)⟩; have n2_ : Aside0 (Below w.heap.size w w30) := ⟨by rw [← hq_]; exact (kB HB)⟩; clear BK175 BK176 HB hq_; have BK175 := n0_; have BK176 := n1_; have HB := n2_; clear n0_ n1_ n2_)); obtain ⟨hcz33_0, hcz33_1, hcz33_2, hcz33_3⟩ := cz4 BK176.out; obtain ⟨hfz33_0, hfz33_1, hfz33_2, hfz33_3⟩ := fz4 BK176.out))
        refine bodyPost_ret (results_ct rfl _ _ gb176 44 #[.slice none 0 0, .slice none 0 0, .int .i64 0, .bool false] (0, 0) _ rfl (by (with_reducible repeat (first | refine yM ?_ _ | refine yO ?_ | refine yN ?_ _)); refine blk_put (cs := #[.slice none 0 0, .slice none 0 0, .int .i64 0, .bool false]) ?_ 3 _ rfl; (with_reducible repeat (first | refine yM ?_ _ | refine yO ?_ | refine yN ?_ _)); refine blk_put (cs := #[.slice none 0 0, .slice none 0 0, .int .i64 0, .bool false]) ?_ 2 _ rfl; (with_reducible repeat (first | refine yM ?_ _ | refine yO ?_ | refine yN ?_ _)); refine blk_put (cs := #[.slice none 0 0, .slice none 0 0, .int .i64 0, .bool false]) ?_ 1 _ rfl; (with_reducible repeat (first | refine yM ?_ _ | refine yO ?_ | refine yN ?_ _)); refine blk_put (cs := #[.slice none 0 0, .slice none 0 0, .int .i64 0, .bool false]) ?_ 0 _ rfl; (with_reducible repeat (first | refine yM ?_ _ | refine yO ?_ | refine yN ?_ _)); exact BK176.out) Try.underlying44 rfl (by kernel_rfl)) rfl ?_
        exact ⟨_, _, by first | rfl | (simp <;> rfl) | (simp [*] <;> rfl), by first | exact Kd.R_nil _ _ _ _ _ | exact Kd.N_nil _ _ _ _ _ | exact Kd.V_nil _ _ _ _ _ | exact Kd.Q_nil _ _ _ _ _ | exact Kd.S_nil _ _ _ _ _, by first | exact Kd.R_nil _ _ _ _ _ | exact Kd.N_nil _ _ _ _ _ | exact Kd.V_nil _ _ _ _ _ | exact Kd.Q_nil _ _ _ _ _ | exact Kd.S_nil _ _ _ _ _, by repeat (first | (with_reducible first | exact HB.out | apply yQ | apply yL | apply yP | refine yE ?_ GE175.out | refine yE ?_ GE176.out) | exact HB.out)⟩
    · rw [if_neg c7] at H
      have c7b0 : ((l1.length : Int) == (l0_1.length : Int)) = false := beq_eq_false_iff_ne.mpr c7
      have c7b1 : ((l1.length : Int) != (l0_1.length : Int)) = true := bne_iff_ne.mpr c7
      have c7b2 : (l1.length == l0_1.length) = false := by first | simpa using c7 | (simp at c7 ⊢; omega)
      simp only [Option.some.injEq, Prod.mk.injEq] at H
      obtain ⟨rfl, rfl, rfl, rfl, rfl⟩ := H
      go_enter Try.func14, Try.ntmps14
      go_wp2_with (first | ((with_reducible refine gate_dst (N := 4) rfl ?_); (try (refine gate_guard (by rfl) ?_; dsimp only)); refine box_event ?hg (N := 4) ?hd (cs := #[.slice A0_0 l0_0.length c0_0, .slice A0_1 l0_1.length c0_1, .int .i64 a0_2, .bool a0_3]) (t := 44) ?hr ?_; (case hd => rfl); (case hg => rfl); (case hr => first | (go_simp; done) | (go_simp; rfl)); intro gb175 hg w34 hbox hb; have n0_ := yD (zC (kB HB) hb); have n1_ := yD (hbox); have n2_ := yD ((by rw [hg]; exact (below_size (kB HB)) : w.heap.size ≤ gb175)); have n3_ := yD ((by rw [hg]; exact (below_size (kB HB)) : w.heap.size ≤ gb175)); clear HB; have HB := n0_; have BK175 := n1_; have GW175 := n2_; have GE175 := n3_; clear n0_ n1_ n2_ n3_; clear hb hbox hg) | ((with_reducible refine gate_dst (N := 8) rfl ?_); (try (refine gate_guard (by rfl) ?_; dsimp only)); refine box_event ?hg (N := 8) ?hd (cs := #[.slice none 0 0, .slice none 0 0, .int .i64 0, .bool false]) (t := 44) ?hr ?_; (case hd => rfl); (case hg => rfl); (case hr => first | (go_simp; done) | (go_simp; rfl)); intro gb176 hg w35 hbox hb; have n0_ := yD (zB (g := gb175) (o := .cells #[.slice A0_0 l0_0.length c0_0, .slice A0_1 l0_1.length c0_1, .int .i64 a0_2, .bool a0_3] 44 (0, 0)) (kM BK175) hb); have n1_ := yD (zC (kB HB) hb); have n2_ := yD (hbox); have n3_ := yD ((by rw [hg]; exact (below_size (kB HB)) : w.heap.size ≤ gb176)); have n4_ := yD ((by rw [hg]; exact (below_size (kB HB)) : w.heap.size ≤ gb176)); have n5_ := yD ((by rw [hg]; exact Nat.ne_of_lt (blk_lt (g := gb175) (o := .cells #[.slice A0_0 l0_0.length c0_0, .slice A0_1 l0_1.length c0_1, .int .i64 a0_2, .bool a0_3] 44 (0, 0)) (kM BK175)) : gb175 ≠ gb176)); have n6_ := yD ((by rw [hg]; exact Nat.ne_of_gt (blk_lt (g := gb175) (o := .cells #[.slice A0_0 l0_0.length c0_0, .slice A0_1 l0_1.length c0_1, .int .i64 a0_2, .bool a0_3] 44 (0, 0)) (kM BK175)) : gb176 ≠ gb175)); clear BK175; clear HB; have BK175 := n0_; have HB := n1_; have BK176 := n2_; have GW176 := n3_; have GE176 := n4_; have NB175_176 := n5_; have NB176_175 := n6_; clear n0_ n1_ n2_ n3_ n4_ n5_ n6_; clear hb hbox hg) | ((with_reducible refine gate_callee (f := 43) rfl ?_); refine goesL_ (some 10) rfl rfl Try.func43 (by kernel_rfl) rfl #[.pointer (some ⟨gb175, 0, none⟩)] rfl (by (try simp only [zK, zL, zM]); first | done | rfl | (simp only [zN, zO]; rfl)) ?_; (with_reducible refine (spec_l09Ok_c44.calls k gb175 A0_0 c0_0 l0_0 A0_1 c0_1 l0_1 a0_2 a0_3 true _ ?side1 ?side2 ?side3 ?side4 ?side5 A5.out).mono ?_); (case side1 => exact kV (yY HR0_0.out HB.out)); (case side2 => exact HC0_0.out); (case side3 => exact kV (yY HR0_1.out HB.out)); (case side4 => exact HC0_1.out); (case side5 => (with_reducible repeat (first | refine yM ?_ _ | refine yO ?_ | refine yN ?_ _)); exact BK175.out); rintro e w36 ⟨rfl, hb⟩; refine ⟨_, rfl, ?_⟩; have n0_ := yD (zB (g := gb175) (o := .cells #[.slice A0_0 l0_0.length c0_0, .slice A0_1 l0_1.length c0_1, .int .i64 a0_2, .bool a0_3] 44 (0, 0)) (kM BK175) hb); have n1_ := yD (zB (g := gb176) (o := .cells #[.slice none 0 0, .slice none 0 0, .int .i64 0, .bool false] 44 (0, 0)) (kM BK176) hb); have n2_ := yD (zC (kB HB) hb); clear BK175; clear BK176; clear HB; have BK175 := n0_; have BK176 := n1_; have HB := n2_; clear n0_ n1_ n2_; (try clear hb); (try clear hb2); (try clear hk); (try clear hi); have hnb37 := NB175_176.out; have hnc37 := NB176_175.out; obtain ⟨hcz38_0, hcz38_1, hcz38_2, hcz38_3⟩ := cz4 BK175.out; obtain ⟨hfz38_0, hfz38_1, hfz38_2, hfz38_3⟩ := fz4 BK175.out; obtain ⟨hcz39_0, hcz39_1, hcz39_2, hcz39_3⟩ := cz4 BK176.out; obtain ⟨hfz39_0, hfz39_1, hfz39_2, hfz39_3⟩ := fz4 BK176.out))
      refine bodyPost_ret (results_ct rfl _ _ gb176 44 #[.slice none 0 0, .slice none 0 0, .int .i64 0, .bool false] (0, 0) _ rfl (by (with_reducible repeat (first | refine yM ?_ _ | refine yO ?_ | refine yN ?_ _)); refine blk_put (cs := #[.slice none 0 0, .slice none 0 0, .int .i64 0, .bool false]) ?_ 3 _ rfl; (with_reducible repeat (first | refine yM ?_ _ | refine yO ?_ | refine yN ?_ _)); refine blk_put (cs := #[.slice none 0 0, .slice none 0 0, .int .i64 0, .bool false]) ?_ 2 _ rfl; (with_reducible repeat (first | refine yM ?_ _ | refine yO ?_ | refine yN ?_ _)); refine blk_put (cs := #[.slice none 0 0, .slice none 0 0, .int .i64 0, .bool false]) ?_ 1 _ rfl; (with_reducible repeat (first | refine yM ?_ _ | refine yO ?_ | refine yN ?_ _)); refine blk_put (cs := #[.slice none 0 0, .slice none 0 0, .int .i64 0, .bool false]) ?_ 0 _ rfl; (with_reducible repeat (first | refine yM ?_ _ | refine yO ?_ | refine yN ?_ _)); exact BK176.out) Try.underlying44 rfl (by kernel_rfl)) rfl ?_
      exact ⟨_, _, by first | rfl | (simp <;> rfl) | (simp [*] <;> rfl), by first | exact Kd.R_nil _ _ _ _ _ | exact Kd.N_nil _ _ _ _ _ | exact Kd.V_nil _ _ _ _ _ | exact Kd.Q_nil _ _ _ _ _ | exact Kd.S_nil _ _ _ _ _, by first | exact Kd.R_nil _ _ _ _ _ | exact Kd.N_nil _ _ _ _ _ | exact Kd.V_nil _ _ _ _ _ | exact Kd.Q_nil _ _ _ _ _ | exact Kd.S_nil _ _ _ _ _, by repeat (first | (with_reducible first | exact HB.out | apply yQ | apply yL | apply yP | refine yE ?_ GE175.out | refine yE ?_ GE176.out) | exact HB.out)⟩
  · replace c6 := Bool.eq_false_iff.mpr c6
    subst c6
    have H1 : (some (([] : List ByteArray), ([] : List (S57)), 0, false, 1)) = some (r1, r2, r3, r4, r5) := by rw [if_neg (show ¬ (false = true) by decide)] at H; exact H
    clear H; have H := H1; clear H1
    simp only [Option.some.injEq, Prod.mk.injEq] at H
    obtain ⟨rfl, rfl, rfl, rfl, rfl⟩ := H
    go_enter Try.func14, Try.ntmps14
    go_wp2_with (first | ((with_reducible refine gate_dst (N := 4) rfl ?_); (try (refine gate_guard (by rfl) ?_; dsimp only)); refine box_event ?hg (N := 4) ?hd (cs := #[.slice A0_0 l0_0.length c0_0, .slice A0_1 l0_1.length c0_1, .int .i64 a0_2, .bool a0_3]) (t := 44) ?hr ?_; (case hd => rfl); (case hg => rfl); (case hr => first | (go_simp; done) | (go_simp; rfl)); intro gb175 hg w40 hbox hb; have n0_ := yD (zC (kB HB) hb); have n1_ := yD (hbox); have n2_ := yD ((by rw [hg]; exact (below_size (kB HB)) : w.heap.size ≤ gb175)); have n3_ := yD ((by rw [hg]; exact (below_size (kB HB)) : w.heap.size ≤ gb175)); clear HB; have HB := n0_; have BK175 := n1_; have GW175 := n2_; have GE175 := n3_; clear n0_ n1_ n2_ n3_; clear hb hbox hg) | ((with_reducible refine gate_dst (N := 8) rfl ?_); (try (refine gate_guard (by rfl) ?_; dsimp only)); refine box_event ?hg (N := 8) ?hd (cs := #[.slice none 0 0, .slice none 0 0, .int .i64 0, .bool false]) (t := 44) ?hr ?_; (case hd => rfl); (case hg => rfl); (case hr => first | (go_simp; done) | (go_simp; rfl)); intro gb176 hg w41 hbox hb; have n0_ := yD (zB (g := gb175) (o := .cells #[.slice A0_0 l0_0.length c0_0, .slice A0_1 l0_1.length c0_1, .int .i64 a0_2, .bool a0_3] 44 (0, 0)) (kM BK175) hb); have n1_ := yD (zC (kB HB) hb); have n2_ := yD (hbox); have n3_ := yD ((by rw [hg]; exact (below_size (kB HB)) : w.heap.size ≤ gb176)); have n4_ := yD ((by rw [hg]; exact (below_size (kB HB)) : w.heap.size ≤ gb176)); have n5_ := yD ((by rw [hg]; exact Nat.ne_of_lt (blk_lt (g := gb175) (o := .cells #[.slice A0_0 l0_0.length c0_0, .slice A0_1 l0_1.length c0_1, .int .i64 a0_2, .bool a0_3] 44 (0, 0)) (kM BK175)) : gb175 ≠ gb176)); have n6_ := yD ((by rw [hg]; exact Nat.ne_of_gt (blk_lt (g := gb175) (o := .cells #[.slice A0_0 l0_0.length c0_0, .slice A0_1 l0_1.length c0_1, .int .i64 a0_2, .bool a0_3] 44 (0, 0)) (kM BK175)) : gb176 ≠ gb175)); clear BK175; clear HB; have BK175 := n0_; have HB := n1_; have BK176 := n2_; have GW176 := n3_; have GE176 := n4_; have NB175_176 := n5_; have NB176_175 := n6_; clear n0_ n1_ n2_ n3_ n4_ n5_ n6_; clear hb hbox hg) | ((with_reducible refine gate_callee (f := 43) rfl ?_); refine goesL_ (some 10) rfl rfl Try.func43 (by kernel_rfl) rfl #[.pointer (some ⟨gb175, 0, none⟩)] rfl (by (try simp only [zK, zL, zM]); first | done | rfl | (simp only [zN, zO]; rfl)) ?_; (with_reducible refine (spec_l09Ok_c44.calls k gb175 A0_0 c0_0 l0_0 A0_1 c0_1 l0_1 a0_2 a0_3 false _ ?side1 ?side2 ?side3 ?side4 ?side5 A5.out).mono ?_); (case side1 => exact kV (yY HR0_0.out HB.out)); (case side2 => exact HC0_0.out); (case side3 => exact kV (yY HR0_1.out HB.out)); (case side4 => exact HC0_1.out); (case side5 => (with_reducible repeat (first | refine yM ?_ _ | refine yO ?_ | refine yN ?_ _)); exact BK175.out); rintro e w42 ⟨rfl, hb⟩; refine ⟨_, rfl, ?_⟩; have n0_ := yD (zB (g := gb175) (o := .cells #[.slice A0_0 l0_0.length c0_0, .slice A0_1 l0_1.length c0_1, .int .i64 a0_2, .bool a0_3] 44 (0, 0)) (kM BK175) hb); have n1_ := yD (zB (g := gb176) (o := .cells #[.slice none 0 0, .slice none 0 0, .int .i64 0, .bool false] 44 (0, 0)) (kM BK176) hb); have n2_ := yD (zC (kB HB) hb); clear BK175; clear BK176; clear HB; have BK175 := n0_; have BK176 := n1_; have HB := n2_; clear n0_ n1_ n2_; (try clear hb); (try clear hb2); (try clear hk); (try clear hi); have hnb43 := NB176_175.out; have hnc43 := NB175_176.out; obtain ⟨hcz44_0, hcz44_1, hcz44_2, hcz44_3⟩ := cz4 BK176.out; obtain ⟨hfz44_0, hfz44_1, hfz44_2, hfz44_3⟩ := fz4 BK176.out))
    refine bodyPost_ret (results_ct rfl _ _ gb176 44 #[.slice none 0 0, .slice none 0 0, .int .i64 0, .bool false] (0, 0) _ rfl (by (with_reducible repeat (first | refine yM ?_ _ | refine yO ?_ | refine yN ?_ _)); refine blk_put (cs := #[.slice none 0 0, .slice none 0 0, .int .i64 0, .bool false]) ?_ 3 _ rfl; (with_reducible repeat (first | refine yM ?_ _ | refine yO ?_ | refine yN ?_ _)); refine blk_put (cs := #[.slice none 0 0, .slice none 0 0, .int .i64 0, .bool false]) ?_ 2 _ rfl; (with_reducible repeat (first | refine yM ?_ _ | refine yO ?_ | refine yN ?_ _)); refine blk_put (cs := #[.slice none 0 0, .slice none 0 0, .int .i64 0, .bool false]) ?_ 1 _ rfl; (with_reducible repeat (first | refine yM ?_ _ | refine yO ?_ | refine yN ?_ _)); refine blk_put (cs := #[.slice none 0 0, .slice none 0 0, .int .i64 0, .bool false]) ?_ 0 _ rfl; (with_reducible repeat (first | refine yM ?_ _ | refine yO ?_ | refine yN ?_ _)); exact BK176.out) Try.underlying44 rfl (by kernel_rfl)) rfl ?_
    exact ⟨_, _, by first | rfl | (simp <;> rfl) | (simp [*] <;> rfl), by first | exact Kd.R_nil _ _ _ _ _ | exact Kd.N_nil _ _ _ _ _ | exact Kd.V_nil _ _ _ _ _ | exact Kd.Q_nil _ _ _ _ _ | exact Kd.S_nil _ _ _ _ _, by first | exact Kd.R_nil _ _ _ _ _ | exact Kd.N_nil _ _ _ _ _ | exact Kd.V_nil _ _ _ _ _ | exact Kd.Q_nil _ _ _ _ _ | exact Kd.S_nil _ _ _ _ _, by repeat (first | (with_reducible first | exact HB.out | apply yQ | apply yL | apply yP | refine yE ?_ GE175.out | refine yE ?_ GE176.out) | exact HB.out)⟩

/-! ### impl_within: function 70 -/
def impl_within.f (a0 : Int) (a1 : Int) (a2 : Int) : Option (Bool) := if a0 ≥ a1 then (some (decide (a0 ≤ a2))) else (some false)
set_option maxHeartbeats 8000000 in
set_option maxRecDepth 100000 in
theorem impl_within.calls (a0 : Int) (a1 : Int) (a2 : Int) (r : Bool) (w : World) (h : impl_within.f a0 a1 a2 = some r) :
    Calls Try.prog 70 #[.int .i64 a0, .int .i64 a1, .int .i64 a2] w fun e w' => e = .returned (.bool r) ∧ Drawn0 w w' := by
  have H : (if a0 ≥ a1 then (some (decide (a0 ≤ a2))) else (some false)) = some r := h
  clear h
  by_cases c4 : a0 ≥ a1
  · rw [if_pos c4] at H
    have c4b0 : decide (a1 ≤ a0) = true := zR c4; clear c4; obtain rfl := Option.some.inj H; go_enter Try.func70, Try.ntmps70
    go_wp2
    go_ret
    exact ⟨by first | rfl | (simp; done) | (simp [*]; done), by repeat (first | exact Drawn0.refl _ | apply Drawn0.step)⟩
  · rw [if_neg c4] at H
    have c4b0 : decide (a1 ≤ a0) = false := zS c4; clear c4; obtain rfl := Option.some.inj H; go_enter Try.func70, Try.ntmps70
    go_wp2
    go_ret
    exact ⟨by first | rfl | (simp; done) | (simp [*]; done), by repeat (first | exact Drawn0.refl _ | apply Drawn0.step)⟩

/-! ### impl_isBlock: function 79 -/
def impl_isBlock.f (a0 : ByteArray) : Option (Bool) := some ((a0.size : Int) == 64)
set_option maxHeartbeats 8000000 in
set_option maxRecDepth 100000 in
theorem impl_isBlock.calls (a0 : ByteArray) (r : Bool) (w : World) (h : impl_isBlock.f a0 = some r) :
    Calls Try.prog 79 #[.string a0] w fun e w' => e = .returned (.bool r) ∧ Drawn0 w w' := by
  have H : (some ((a0.size : Int) == 64)) = some r := h
  clear h; obtain rfl := Option.some.inj H; go_enter Try.func79, Try.ntmps79
  go_wp2
  go_ret
  exact ⟨by first | rfl | (simp; done) | (simp [*]; done), by repeat (first | exact Drawn0.refl _ | apply Drawn0.step)⟩

/-! ### impl_ValidDisk_1: function 78 -/
def impl_ValidDisk_1.f (a0 : ByteArray) : Option (Bool) := (impl_isBlock.f a0).bind fun t188 => (some (!t188))
set_option maxHeartbeats 8000000 in
set_option maxRecDepth 100000 in
theorem impl_ValidDisk_1.calls (a0 : ByteArray) (r : Bool) (w : World) (h : impl_ValidDisk_1.f a0 = some r) :
    Calls Try.prog 78 #[.string a0] w fun e w' => e = .returned (.bool r) ∧ Drawn0 w w' := by
  have H : ((impl_isBlock.f a0).bind fun t188 => (some (!t188))) = some r := h
  clear h
  obtain ⟨t188, A20, H⟩ := zW_ H
  replace H : (some (!t188)) = some r := H
  have A2 := yD A20
  clear A20; obtain rfl := Option.some.inj H; go_enter Try.func78, Try.ntmps78
  go_wp2_with (first | ((with_reducible refine gate_callee (f := 79) rfl ?_); refine goesL_ (some 4) rfl rfl Try.func79 (by kernel_rfl) rfl #[.string a0] rfl (by (try simp only [zK, zL, zM]); first | done | rfl | (simp only [zN, zO]; rfl)) ?_; (with_reducible refine (impl_isBlock.calls a0 t188 _ A2.out).mono ?_); rintro e w' ⟨rfl, ⟨nd, rfl⟩⟩; refine ⟨_, rfl, ?_⟩))
  go_ret
  exact ⟨by first | rfl | (simp; done) | (simp [*]; done), by repeat (first | exact Drawn0.refl _ | apply Drawn0.step)⟩

/-! ### slices_IndexFunc_impl_ValidDisk_1: function 100 -/
def slices_IndexFunc_impl_ValidDisk_1.l0 : Nat → List ByteArray → Int → Int → Option (Int)
  | 0, _, _, _ => none
  | k + 1, x0, x7, x8 => if x8 < x7 then (if 0 ≤ x8 then (if x8 < (x0.length : Int) then ((impl_ValidDisk_1.f (rdOf ByteArray.empty x0 x8)).bind fun t190 => (if t190 = true then (some x8) else (slices_IndexFunc_impl_ValidDisk_1.l0 k x0 x7 (wrap64 (x8 + 1))))) else (none)) else (none)) else (some (-1))
def slices_IndexFunc_impl_ValidDisk_1.f (k : Nat) (l0 : List ByteArray)  : Option (Int) := slices_IndexFunc_impl_ValidDisk_1.l0 k l0 (l0.length : Int) 0
theorem slices_IndexFunc_impl_ValidDisk_1.mono_l : ∀ k, (∀ y0 y1 y2, LeO (slices_IndexFunc_impl_ValidDisk_1.l0 k y0 y1 y2) (slices_IndexFunc_impl_ValidDisk_1.l0 (k + 1) y0 y1 y2))
  | 0 => fun _ _ _ r h => by simp [slices_IndexFunc_impl_ValidDisk_1.l0] at h
  | k + 1 => by
    have ih0 := slices_IndexFunc_impl_ValidDisk_1.mono_l k
    · intro y0 y1 y2
      unfold slices_IndexFunc_impl_ValidDisk_1.l0
      repeat' first
      | (with_reducible exact ih0 _ _ _)
      | (with_reducible exact LeO.refl _)
      | (with_reducible exact LeO.none _)
      | (with_reducible refine LeO.ite ?_ ?_)
      | (with_reducible refine LeO.bind ?_ (fun _ => ?_))
      | exact ih0 _ _ _
      | exact LeO.none _
      | refine LeO.ite ?_ ?_
      | refine LeO.bind ?_ (fun _ => ?_)
theorem slices_IndexFunc_impl_ValidDisk_1.mono : ∀ a0 k, LeO (slices_IndexFunc_impl_ValidDisk_1.f k a0) (slices_IndexFunc_impl_ValidDisk_1.f (k + 1) a0) := by
  intro a0 k
  have ih0 := slices_IndexFunc_impl_ValidDisk_1.mono_l k
  unfold slices_IndexFunc_impl_ValidDisk_1.f
  repeat' first
      | (with_reducible exact ih0 _ _ _)
      | (with_reducible exact LeO.refl _)
      | (with_reducible exact LeO.none _)
      | (with_reducible refine LeO.ite ?_ ?_)
      | (with_reducible refine LeO.bind ?_ (fun _ => ?_))
      | exact ih0 _ _ _
      | exact LeO.none _
      | refine LeO.ite ?_ ?_
      | refine LeO.bind ?_ (fun _ => ?_)
set_option maxHeartbeats 8000000 in
set_option maxRecDepth 100000 in
theorem slices_IndexFunc_impl_ValidDisk_1.calls (k : Nat) (A0 : Option Addr) (c0 : Nat) (l0 : List ByteArray)  (r : Int) (w : World) (hr0 : Kd.C Kd.string w A0 l0.length l0) (hc0 : l0.length ≤ c0) (h : slices_IndexFunc_impl_ValidDisk_1.f k l0 = some r) :
    Calls Try.prog 100 #[.slice A0 l0.length c0, .func (.func 78) #[] #[]] w fun e w' => e = .returned (.int .i64 r) ∧ Below w.heap.size w w' := by
  have HR0 := yD hr0
  have HC0 := yD hc0
  clear hr0 hc0
  have HB := yD (Below.refl w.heap.size w)
  have H : (slices_IndexFunc_impl_ValidDisk_1.l0 k l0 (l0.length : Int) 0) = some r := h
  clear h
  have H' := yD H
  clear H; go_enter Try.func100, Try.ntmps100
  go_wp2
  go_loopg [8] k (fun kq v8 w' => ∃ (x8_1 : Int), v8 = .int .i64 x8_1 ∧ Aside0 (slices_IndexFunc_impl_ValidDisk_1.l0 kq l0 (l0.length : Int) x8_1 = some r) ∧ Aside0 (kq ≤ k) ∧ Aside0 (Below w.heap.size w w'))
  case atStart => exact ⟨(0), (by first | rfl | (simp; done) | (simp [*]; done)), H', ⟨Nat.le_refl _⟩, ⟨by repeat (first | (with_reducible first | exact HB.out | apply yQ | apply yL | apply yP) | exact HB.out)⟩⟩
  case round =>
    clear H'
    try clear p2
    obtain ⟨x8_1, rfl, HA, HK1, HB⟩ := hrel
    cases gk with
    | zero => exact absurd HA.out (by simp [slices_IndexFunc_impl_ValidDisk_1.l0])
    | succ k1 =>
      have H := HA.out; clear HA
      simp only [slices_IndexFunc_impl_ValidDisk_1.l0] at H
      by_cases c3 : x8_1 < (l0.length : Int)
      · rw [if_pos c3] at H
        have c3b0 : decide (x8_1 < (l0.length : Int)) = true := zR c3; clear c3
        by_cases c4 : 0 ≤ x8_1
        · rw [if_pos c4] at H
          have c4b0 : decide (0 ≤ x8_1) = true := zR c4; clear c4
          by_cases c5 : x8_1 < (l0.length : Int)
          · rw [if_pos c5] at H
            have c5b0 : decide (x8_1 < (l0.length : Int)) = true := zR c5; clear c5
            obtain ⟨t190, A60, H⟩ := zW_ H
            replace H : (if t190 = true then (some x8_1) else (slices_IndexFunc_impl_ValidDisk_1.l0 k1 l0 (l0.length : Int) (wrap64 (x8_1 + 1)))) = some r := H
            have A6 := yD A60
            clear A60
            by_cases c7 : t190 = true
            · subst c7
              have H1 : (some x8_1) = some r := by rw [if_pos rfl] at H; exact H
              clear H; have H := H1; clear H1; obtain rfl := Option.some.inj H
              have p189 : 0 ≤ (x8_1 : Int) := zP (by assumption)
              have q189 : x8_1 < (l0.length : Int) := zP (by assumption)
              obtain ⟨ad189, e189, hx189_0⟩ := Kd.at_string HR0.out x8_1 p189 q189
              cases e189
              replace hx189_0 := (HB.out.cell (zQ w _ hx189_0)).trans hx189_0
              replace p189 := eq_true p189; replace q189 := eq_true q189
              go_wp2_with (first | (go_at_call 78; (with_reducible refine (impl_ValidDisk_1.calls (rdOf ByteArray.empty l0 x8_1) true _ A6.out).mono ?_); rintro e w' ⟨rfl, ⟨nd, rfl⟩⟩))
              go_ret
              exact ⟨by first | rfl | (simp <;> rfl) | (simp [*] <;> rfl), by repeat (first | (with_reducible first | exact HB.out | apply yQ | apply yL | apply yP) | exact HB.out)⟩
            · replace c7 := Bool.eq_false_iff.mpr c7
              subst c7
              have H1 : (slices_IndexFunc_impl_ValidDisk_1.l0 k1 l0 (l0.length : Int) (wrap64 (x8_1 + 1))) = some r := by rw [if_neg (show ¬ (false = true) by decide)] at H; exact H
              clear H; have H := H1; clear H1
              have H' := yD H
              clear H
              have p189 : 0 ≤ (x8_1 : Int) := zP (by assumption)
              have q189 : x8_1 < (l0.length : Int) := zP (by assumption)
              obtain ⟨ad189, e189, hx189_0⟩ := Kd.at_string HR0.out x8_1 p189 q189
              cases e189
              replace hx189_0 := (HB.out.cell (zQ w _ hx189_0)).trans hx189_0
              replace p189 := eq_true p189; replace q189 := eq_true q189
              go_wp2_with (first | (go_at_call 78; (with_reducible refine (impl_ValidDisk_1.calls (rdOf ByteArray.empty l0 x8_1) false _ A6.out).mono ?_); rintro e w' ⟨rfl, ⟨nd, rfl⟩⟩))
              go_roundg k1
              case measure => have := HK1.out; omega
              case rel => exact ⟨(wrap64 (x8_1 + 1)), (by first | rfl | (simp; done) | (simp [*]; done)), H', ⟨by have := HK1.out; omega⟩, ⟨by repeat (first | (with_reducible first | exact HB.out | apply yQ | apply yL | apply yP) | exact HB.out)⟩⟩
          · rw [if_neg c5] at H
            exact absurd H (by simp)
        · rw [if_neg c4] at H
          exact absurd H (by simp)
      · rw [if_neg c3] at H
        have c3b0 : decide (x8_1 < (l0.length : Int)) = false := zS c3; clear c3; obtain rfl := Option.some.inj H
        go_wp2
        go_ret
        exact ⟨by first | rfl | (simp <;> rfl) | (simp [*] <;> rfl), by repeat (first | (with_reducible first | exact HB.out | apply yQ | apply yL | apply yP) | exact HB.out)⟩

/-! ### slices_ContainsFunc_impl_ValidDisk_1: function 77 -/
def slices_ContainsFunc_impl_ValidDisk_1.f (k : Nat) (l0 : List ByteArray)  : Option (Bool) := (slices_IndexFunc_impl_ValidDisk_1.f k l0).bind fun t191 => (some (decide (t191 ≥ 0)))
theorem slices_ContainsFunc_impl_ValidDisk_1.mono : ∀ a0 k, LeO (slices_ContainsFunc_impl_ValidDisk_1.f k a0) (slices_ContainsFunc_impl_ValidDisk_1.f (k + 1) a0) := by
  intro a0 k
  unfold slices_ContainsFunc_impl_ValidDisk_1.f
  repeat' first
      | (with_reducible exact slices_IndexFunc_impl_ValidDisk_1.mono _ _)
      | (with_reducible exact LeO.refl _)
      | (with_reducible exact LeO.none _)
      | (with_reducible refine LeO.ite ?_ ?_)
      | (with_reducible refine LeO.bind ?_ (fun _ => ?_))
      | exact slices_IndexFunc_impl_ValidDisk_1.mono _ _
      | exact LeO.none _
      | refine LeO.ite ?_ ?_
      | refine LeO.bind ?_ (fun _ => ?_)
set_option maxHeartbeats 8000000 in
set_option maxRecDepth 100000 in
theorem slices_ContainsFunc_impl_ValidDisk_1.calls (k : Nat) (A0 : Option Addr) (c0 : Nat) (l0 : List ByteArray)  (r : Bool) (w : World) (hr0 : Kd.C Kd.string w A0 l0.length l0) (hc0 : l0.length ≤ c0) (h : slices_ContainsFunc_impl_ValidDisk_1.f k l0 = some r) :
    Calls Try.prog 77 #[.slice A0 l0.length c0, .func (.func 78) #[] #[]] w fun e w' => e = .returned (.bool r) ∧ Below w.heap.size w w' := by
  have HR0 := yD hr0
  have HC0 := yD hc0
  clear hr0 hc0
  have HB := yD (Below.refl w.heap.size w)
  have H : ((slices_IndexFunc_impl_ValidDisk_1.f k l0).bind fun t191 => (some (decide (t191 ≥ 0)))) = some r := h
  clear h
  obtain ⟨t191, A30, H⟩ := zW_ H
  replace H : (some (decide (t191 ≥ 0))) = some r := H
  have A3 := yD A30
  clear A30; obtain rfl := Option.some.inj H; go_enter Try.func77, Try.ntmps77
  go_wp2_with (first | ((with_reducible refine gate_callee (f := 100) rfl ?_); refine goesL_ (some 7) rfl rfl Try.func100 (by kernel_rfl) rfl #[.slice A0 l0.length c0, .func (.func 78) #[] #[]] rfl (by (try simp only [zK, zL, zM]); first | done | rfl | (simp only [zN, zO]; rfl)) ?_; (with_reducible refine (slices_IndexFunc_impl_ValidDisk_1.calls k _ _ l0  t191 _ ?side1 ?side2 A3.out).mono ?_); (case side1 => repeat (first | exact HR0.out | (with_reducible first | refine yV ?_ _ | refine yW ?_ _ | refine yX ?_))); (case side2 => exact HC0.out); rintro e w4 ⟨rfl, hb⟩; refine ⟨_, rfl, ?_⟩; have n0_ := yD (zC (kB HB) hb); clear HB; have HB := n0_; clear n0_; (try clear hb); (try clear hb2); (try clear hk); (try clear hi)))
  go_ret
  exact ⟨by first | rfl | (simp <;> rfl) | (simp [*] <;> rfl), by repeat (first | (with_reducible first | exact HB.out | apply yQ | apply yL | apply yP) | exact HB.out)⟩

/-! ### impl_isIndex: function 82 -/
def impl_isIndex.f (a0 : Int) (a1 : Int) : Option (Bool) := (impl_within.f a0 0 (wrap64 (a1 - 1))).bind fun t192 => (some t192)
set_option maxHeartbeats 8000000 in
set_option maxRecDepth 100000 in
theorem impl_isIndex.calls (a0 : Int) (a1 : Int) (r : Bool) (w : World) (h : impl_isIndex.f a0 a1 = some r) :
    Calls Try.prog 82 #[.int .i64 a0, .int .i64 a1] w fun e w' => e = .returned (.bool r) ∧ Drawn0 w w' := by
  have H : ((impl_within.f a0 0 (wrap64 (a1 - 1))).bind fun t192 => (some t192)) = some r := h
  clear h
  obtain ⟨t192, A30, H⟩ := zW_ H
  replace H : (some t192) = some r := H
  have A3 := yD A30
  clear A30; obtain rfl := Option.some.inj H; go_enter Try.func82, Try.ntmps82
  go_wp2_with (first | ((with_reducible refine gate_callee (f := 70) rfl ?_); refine goesL_ (some 8) rfl rfl Try.func70 (by kernel_rfl) rfl #[.int .i64 a0, .int .i64 0, .int .i64 (wrap64 (a1 - 1))] rfl (by (try simp only [zK, zL, zM]); first | done | rfl | (simp only [zN, zO]; rfl)) ?_; (with_reducible refine (impl_within.calls a0 0 (wrap64 (a1 - 1)) t192 _ A3.out).mono ?_); rintro e w' ⟨rfl, ⟨nd, rfl⟩⟩; refine ⟨_, rfl, ?_⟩))
  go_ret
  exact ⟨by first | rfl | (simp; done) | (simp [*]; done), by repeat (first | exact Drawn0.refl _ | apply Drawn0.step)⟩

/-! ### impl_ValidDisk_2: function 81 -/
def impl_ValidDisk_2.f (a0_0 : Int) (a0_1 : ByteArray) (l1_0 : List ByteArray) (l1_1 : List (S57)) (a1_2 : Int) (a1_3 : Bool) : Option (Bool) := (impl_isIndex.f a0_0 (l1_0.length : Int)).bind fun t194 => (if t194 = true then ((impl_isBlock.f a0_1).bind fun t195 => (some (!t195))) else (some true))
set_option maxHeartbeats 8000000 in
set_option maxRecDepth 100000 in
theorem impl_ValidDisk_2.calls (a0_0 : Int) (a0_1 : ByteArray) (g1_0 : Nat) (A1_0 : Option Addr) (c1_0 : Nat) (l1_0 : List ByteArray) (A1_1 : Option Addr) (c1_1 : Nat) (l1_1 : List (S57)) (a1_2 : Int) (a1_3 : Bool) (r : Bool) (w : World) (hr1_0 : Kd.C Kd.string w A1_0 l1_0.length l1_0) (hc1_0 : l1_0.length ≤ c1_0) (hr1_1 : Kd.C k57 w A1_1 l1_1.length l1_1) (hc1_1 : l1_1.length ≤ c1_1) (hb1_0 : w.heap[g1_0]? = some (.cells #[.slice A1_0 l1_0.length c1_0, .slice A1_1 l1_1.length c1_1, .int .i64 a1_2, .bool a1_3] 44 (0, 0))) (h : impl_ValidDisk_2.f a0_0 a0_1 l1_0 l1_1 a1_2 a1_3 = some r) :
    Calls Try.prog 81 #[.agg #[.int .i64 a0_0, .string a0_1], .pointer (some ⟨g1_0, 0, none⟩)] w fun e w' => e = .returned (.bool r) ∧ Below w.heap.size w w' := by
  have hu57 := Try.underlying57
  have HR1_0 := yD hr1_0
  have HC1_0 := yD hc1_0
  clear hr1_0 hc1_0
  have HR1_1 := yD hr1_1
  have HC1_1 := yD hc1_1
  clear hr1_1 hc1_1
  have BK48 := yD hb1_0
  clear hb1_0
  have HB := yD (Below.refl w.heap.size w)
  have H : ((impl_isIndex.f a0_0 (l1_0.length : Int)).bind fun t194 => (if t194 = true then ((impl_isBlock.f a0_1).bind fun t195 => (some (!t195))) else (some true))) = some r := h
  clear h
  obtain ⟨t194, A30, H⟩ := zW_ H
  replace H : (if t194 = true then ((impl_isBlock.f a0_1).bind fun t195 => (some (!t195))) else (some true)) = some r := H
  have A3 := yD A30
  clear A30
  by_cases c4 : t194 = true
  · subst c4
    have H1 : ((impl_isBlock.f a0_1).bind fun t195 => (some (!t195))) = some r := by rw [if_pos rfl] at H; exact H
    clear H; have H := H1; clear H1
    obtain ⟨t195, A50, H⟩ := zW_ H
    replace H : (some (!t195)) = some r := H
    have A5 := yD A50
    clear A50; obtain rfl := Option.some.inj H; go_enter Try.func81, Try.ntmps81
    go_wp2_with (first | ((with_reducible refine gate_dst (N := 2) rfl ?_); refine box_event ?hg (N := 2) ?hd (cs := #[.int .i64 a0_0, .string a0_1]) (t := 57) ?hr ?_; (case hd => rfl); (case hg => rfl); (case hr => first | (go_simp; done) | (go_simp; rfl)); intro gb193 hg w6 hbox hb; have n0_ := yD (zB (g := g1_0) (o := .cells #[.slice A1_0 l1_0.length c1_0, .slice A1_1 l1_1.length c1_1, .int .i64 a1_2, .bool a1_3] 44 (0, 0)) (kM BK48) hb); have n1_ := yD (zC (kB HB) hb); have n2_ := yD (hbox); have n3_ := yD ((by rw [hg]; exact (below_size (kB HB)) : w.heap.size ≤ gb193)); have n4_ := yD ((by rw [hg]; exact (below_size (kB HB)) : w.heap.size ≤ gb193)); have n5_ := yD ((by rw [hg]; exact Nat.ne_of_lt (blk_lt (g := g1_0) (o := .cells #[.slice A1_0 l1_0.length c1_0, .slice A1_1 l1_1.length c1_1, .int .i64 a1_2, .bool a1_3] 44 (0, 0)) (kM BK48)) : g1_0 ≠ gb193)); have n6_ := yD ((by rw [hg]; exact Nat.ne_of_gt (blk_lt (g := g1_0) (o := .cells #[.slice A1_0 l1_0.length c1_0, .slice A1_1 l1_1.length c1_1, .int .i64 a1_2, .bool a1_3] 44 (0, 0)) (kM BK48)) : gb193 ≠ g1_0)); clear BK48; clear HB; have BK48 := n0_; have HB := n1_; have BK193 := n2_; have GW193 := n3_; have GE193 := n4_; have NB48_193 := n5_; have NB193_48 := n6_; clear n0_ n1_ n2_ n3_ n4_ n5_ n6_; clear hb hbox hg; have hnb7 := NB193_48.out; have hnc7 := NB48_193.out; obtain ⟨hcz8_0, hcz8_1⟩ := cz2 BK193.out; obtain ⟨hfz8_0, hfz8_1⟩ := fz2 BK193.out; obtain ⟨hcz9_0, hcz9_1, hcz9_2, hcz9_3⟩ := cz4 BK48.out; obtain ⟨hfz9_0, hfz9_1, hfz9_2, hfz9_3⟩ := fz4 BK48.out) | ((with_reducible refine gate_callee (f := 82) rfl ?_); refine goesL_ (some 9) rfl rfl Try.func82 (by kernel_rfl) rfl #[.int .i64 a0_0, .int .i64 (l1_0.length : Int)] rfl (by (try simp only [zK, zL, zM]); first | done | rfl | (simp only [zN, zO]; rfl)) ?_; (with_reducible refine (impl_isIndex.calls a0_0 (l1_0.length : Int) true _ A3.out).mono ?_); rintro e w' ⟨rfl, ⟨nd, rfl⟩⟩; refine ⟨_, rfl, ?_⟩) | (go_at_call 79; (with_reducible refine (impl_isBlock.calls a0_1 t195 _ A5.out).mono ?_); rintro e w' ⟨rfl, ⟨nd, rfl⟩⟩))
    go_ret
    exact ⟨by first | rfl | (simp <;> rfl) | (simp [*] <;> rfl), by repeat (first | (with_reducible first | exact HB.out | apply yQ | apply yL | apply yP | refine yE ?_ GE48.out | refine yE ?_ GE193.out) | exact HB.out)⟩
  · replace c4 := Bool.eq_false_iff.mpr c4
    subst c4
    have H1 : (some true) = some r := by rw [if_neg (show ¬ (false = true) by decide)] at H; exact H
    clear H; have H := H1; clear H1; obtain rfl := Option.some.inj H; go_enter Try.func81, Try.ntmps81
    go_wp2_with (first | ((with_reducible refine gate_dst (N := 2) rfl ?_); refine box_event ?hg (N := 2) ?hd (cs := #[.int .i64 a0_0, .string a0_1]) (t := 57) ?hr ?_; (case hd => rfl); (case hg => rfl); (case hr => first | (go_simp; done) | (go_simp; rfl)); intro gb193 hg w10 hbox hb; have n0_ := yD (zB (g := g1_0) (o := .cells #[.slice A1_0 l1_0.length c1_0, .slice A1_1 l1_1.length c1_1, .int .i64 a1_2, .bool a1_3] 44 (0, 0)) (kM BK48) hb); have n1_ := yD (zC (kB HB) hb); have n2_ := yD (hbox); have n3_ := yD ((by rw [hg]; exact (below_size (kB HB)) : w.heap.size ≤ gb193)); have n4_ := yD ((by rw [hg]; exact (below_size (kB HB)) : w.heap.size ≤ gb193)); have n5_ := yD ((by rw [hg]; exact Nat.ne_of_lt (blk_lt (g := g1_0) (o := .cells #[.slice A1_0 l1_0.length c1_0, .slice A1_1 l1_1.length c1_1, .int .i64 a1_2, .bool a1_3] 44 (0, 0)) (kM BK48)) : g1_0 ≠ gb193)); have n6_ := yD ((by rw [hg]; exact Nat.ne_of_gt (blk_lt (g := g1_0) (o := .cells #[.slice A1_0 l1_0.length c1_0, .slice A1_1 l1_1.length c1_1, .int .i64 a1_2, .bool a1_3] 44 (0, 0)) (kM BK48)) : gb193 ≠ g1_0)); clear BK48; clear HB; have BK48 := n0_; have HB := n1_; have BK193 := n2_; have GW193 := n3_; have GE193 := n4_; have NB48_193 := n5_; have NB193_48 := n6_; clear n0_ n1_ n2_ n3_ n4_ n5_ n6_; clear hb hbox hg; have hnb11 := NB193_48.out; have hnc11 := NB48_193.out; obtain ⟨hcz12_0, hcz12_1⟩ := cz2 BK193.out; obtain ⟨hfz12_0, hfz12_1⟩ := fz2 BK193.out; obtain ⟨hcz13_0, hcz13_1, hcz13_2, hcz13_3⟩ := cz4 BK48.out; obtain ⟨hfz13_0, hfz13_1, hfz13_2, hfz13_3⟩ := fz4 BK48.out) | ((with_reducible refine gate_callee (f := 82) rfl ?_); refine goesL_ (some 9) rfl rfl Try.func82 (by kernel_rfl) rfl #[.int .i64 a0_0, .int .i64 (l1_0.length : Int)] rfl (by (try simp only [zK, zL, zM]); first | done | rfl | (simp only [zN, zO]; rfl)) ?_; (with_reducible refine (impl_isIndex.calls a0_0 (l1_0.length : Int) false _ A3.out).mono ?_); rintro e w' ⟨rfl, ⟨nd, rfl⟩⟩; refine ⟨_, rfl, ?_⟩))
    go_ret
    exact ⟨by first | rfl | (simp <;> rfl) | (simp [*] <;> rfl), by repeat (first | (with_reducible first | exact HB.out | apply yQ | apply yL | apply yP | refine yE ?_ GE48.out | refine yE ?_ GE193.out) | exact HB.out)⟩

end Go.Proofs.Ytgpkkplabnliiaa.PFnExactCutPower
