/- Each Go function here comes to what the plain function of its name says, where that says something. Made by a program of this session, over the print. -/
import Derived.Test.YtehldidejgpifaaPFnExactNewDiskx0
import Derived.Test.YtehldidejgpifaaPFnExactNewDiskx1
import Derived.Test.YtehldidejgpifaaPFnExactNewDiskx2
import Derived.Test.YtehldidejgpifaaPFnExactNewDiskx3
namespace Go.Proofs.Ytehldidejgpifaa.PFnExactNewDisk
open Go.RowKit Go.Proofs.YtehldidejgpifaaW.PrintWords Go.Proofs.YtehldidejgpifaaW.PrintLast Go.Proofs.YtehldidejgpifaaW.PrintMore
attribute [local go_sem] max2_int min2_int max_two min_two max_three min_three max_four min_four   -- for this text's walks alone
set_option linter.unusedVariables false
set_option linter.unusedSimpArgs false

/-! ### laws_FnExactNewDisk: function 6 -/
mutual
def laws_FnExactNewDisk.j0 : Nat → Int → Int → Bool → List ByteArray → List (S131) → Int → Bool → List ByteArray → List (S131) → Int → Bool → Option (Bool)
  | 0, _, _, _, _, _, _, _, _, _, _, _ => none
  | k + 1, x0, x4, x29, x172000, x172001, x172002, x172003, x182000, x182001, x182002, x182003 => if x29 = true then (some false) else ((laws_markDisk.f k x182000 x182001 x182002 x182003 1).bind fun bt183 => ((laws_heldDisk.f k bt183.2.1 bt183.2.2 x182002 x182003 1).bind fun t186 => (if t186 < 0 then (some false) else (if t186 = bt183.1 then ((impl_NewDisk.f x0).bind fun bt187 => ((laws_eqDisk.f k bt187.1 bt187.2.1 bt187.2.2.1 bt187.2.2.2.1 x172000 x172001 x172002 x172003).bind fun t197 => (if t197 = true then (laws_FnExactNewDisk.j1 k bt183.1 (bt187.2.2.2.2 != x4) bt183.2.1 bt183.2.2 x182002 x182003) else (laws_FnExactNewDisk.j1 k bt183.1 true bt183.2.1 bt183.2.2 x182002 x182003)))) else (some false)))))
def laws_FnExactNewDisk.j1 : Nat → Int → Bool → List ByteArray → List (S131) → Int → Bool → Option (Bool)
  | 0, _, _, _, _, _, _ => none
  | k + 1, x7, x54, x182000, x182001, x182002, x182003 => if x54 = true then (some false) else ((laws_heldDisk.f k x182000 x182001 x182002 x182003 1).bind fun t198 => (if t198 < 0 then (some false) else (if t198 = x7 then (some true) else (some false))))
end
def laws_FnExactNewDisk.f (k : Nat) (a0 : Int) : Option (Bool) := (spec_NewDisk.f k a0).bind fun bt162 => ((impl_NewDisk.f a0).bind fun bt172 => ((laws_eqDisk.f k bt172.1 bt172.2.1 bt172.2.2.1 bt172.2.2.2.1 bt162.1 bt162.2.1 bt162.2.2.1 bt162.2.2.2.1).bind fun t182 => (if t182 = true then (laws_FnExactNewDisk.j0 k a0 bt162.2.2.2.2 (bt172.2.2.2.2 != bt162.2.2.2.2) bt162.1 bt162.2.1 bt162.2.2.1 bt162.2.2.2.1 bt172.1 bt172.2.1 bt172.2.2.1 bt172.2.2.2.1) else (laws_FnExactNewDisk.j0 k a0 bt162.2.2.2.2 true bt162.1 bt162.2.1 bt162.2.2.1 bt162.2.2.2.1 bt172.1 bt172.2.1 bt172.2.2.1 bt172.2.2.2.1))))
theorem laws_FnExactNewDisk.mono_l : ∀ k, (∀ y0 y1 y2 y3 y4 y5 y6 y7 y8 y9 y10, LeO (laws_FnExactNewDisk.j0 k y0 y1 y2 y3 y4 y5 y6 y7 y8 y9 y10) (laws_FnExactNewDisk.j0 (k + 1) y0 y1 y2 y3 y4 y5 y6 y7 y8 y9 y10)) ∧ (∀ y0 y1 y2 y3 y4 y5, LeO (laws_FnExactNewDisk.j1 k y0 y1 y2 y3 y4 y5) (laws_FnExactNewDisk.j1 (k + 1) y0 y1 y2 y3 y4 y5))
  | 0 => ⟨fun _ _ _ _ _ _ _ _ _ _ _ r h => by simp [laws_FnExactNewDisk.j0] at h, fun _ _ _ _ _ _ r h => by simp [laws_FnExactNewDisk.j1] at h⟩
  | k + 1 => by
    obtain ⟨ih0, ih1⟩ := laws_FnExactNewDisk.mono_l k
    refine ⟨?_, ?_⟩
    · intro y0 y1 y2 y3 y4 y5 y6 y7 y8 y9 y10
      unfold laws_FnExactNewDisk.j0
      repeat' first
      | (with_reducible exact ih0 _ _ _ _ _ _ _ _ _ _ _)
      | (with_reducible exact ih1 _ _ _ _ _ _)
      | (with_reducible exact laws_eqDisk.mono _ _ _ _ _ _ _ _ _)
      | (with_reducible exact laws_heldDisk.mono _ _ _ _ _ _)
      | (with_reducible exact laws_markDisk.mono _ _ _ _ _ _)
      | (with_reducible exact spec_NewDisk.mono _ _)
      | (with_reducible exact LeO.refl _)
      | (with_reducible exact LeO.none _)
      | (with_reducible refine LeO.ite ?_ ?_)
      | (with_reducible refine LeO.bind ?_ (fun _ => ?_))
      | exact ih0 _ _ _ _ _ _ _ _ _ _ _
      | exact ih1 _ _ _ _ _ _
      | exact laws_eqDisk.mono _ _ _ _ _ _ _ _ _
      | exact laws_heldDisk.mono _ _ _ _ _ _
      | exact laws_markDisk.mono _ _ _ _ _ _
      | exact spec_NewDisk.mono _ _
      | exact LeO.none _
      | refine LeO.ite ?_ ?_
      | refine LeO.bind ?_ (fun _ => ?_)
    · intro y0 y1 y2 y3 y4 y5
      unfold laws_FnExactNewDisk.j1
      repeat' first
      | (with_reducible exact ih0 _ _ _ _ _ _ _ _ _ _ _)
      | (with_reducible exact ih1 _ _ _ _ _ _)
      | (with_reducible exact laws_eqDisk.mono _ _ _ _ _ _ _ _ _)
      | (with_reducible exact laws_heldDisk.mono _ _ _ _ _ _)
      | (with_reducible exact laws_markDisk.mono _ _ _ _ _ _)
      | (with_reducible exact spec_NewDisk.mono _ _)
      | (with_reducible exact LeO.refl _)
      | (with_reducible exact LeO.none _)
      | (with_reducible refine LeO.ite ?_ ?_)
      | (with_reducible refine LeO.bind ?_ (fun _ => ?_))
      | exact ih0 _ _ _ _ _ _ _ _ _ _ _
      | exact ih1 _ _ _ _ _ _
      | exact laws_eqDisk.mono _ _ _ _ _ _ _ _ _
      | exact laws_heldDisk.mono _ _ _ _ _ _
      | exact laws_markDisk.mono _ _ _ _ _ _
      | exact spec_NewDisk.mono _ _
      | exact LeO.none _
      | refine LeO.ite ?_ ?_
      | refine LeO.bind ?_ (fun _ => ?_)
theorem laws_FnExactNewDisk.mono : ∀ a0 k, LeO (laws_FnExactNewDisk.f k a0) (laws_FnExactNewDisk.f (k + 1) a0) := by
  intro a0 k
  obtain ⟨ih0, ih1⟩ := laws_FnExactNewDisk.mono_l k
  unfold laws_FnExactNewDisk.f
  repeat' first
      | (with_reducible exact ih0 _ _ _ _ _ _ _ _ _ _ _)
      | (with_reducible exact ih1 _ _ _ _ _ _)
      | (with_reducible exact laws_eqDisk.mono _ _ _ _ _ _ _ _ _)
      | (with_reducible exact laws_heldDisk.mono _ _ _ _ _ _)
      | (with_reducible exact laws_markDisk.mono _ _ _ _ _ _)
      | (with_reducible exact spec_NewDisk.mono _ _)
      | (with_reducible exact LeO.refl _)
      | (with_reducible exact LeO.none _)
      | (with_reducible refine LeO.ite ?_ ?_)
      | (with_reducible refine LeO.bind ?_ (fun _ => ?_))
      | exact ih0 _ _ _ _ _ _ _ _ _ _ _
      | exact ih1 _ _ _ _ _ _
      | exact laws_eqDisk.mono _ _ _ _ _ _ _ _ _
      | exact laws_heldDisk.mono _ _ _ _ _ _
      | exact laws_markDisk.mono _ _ _ _ _ _
      | exact spec_NewDisk.mono _ _
      | exact LeO.none _
      | refine LeO.ite ?_ ?_
      | refine LeO.bind ?_ (fun _ => ?_)
set_option maxHeartbeats 8000000 in
set_option maxRecDepth 100000 in
theorem laws_FnExactNewDisk.calls (k : Nat) (a0 : Int) (r : Bool) (w : World) (h : laws_FnExactNewDisk.f k a0 = some r) :
    Calls Try.prog 6 #[.int .i64 a0] w fun e w' => e = .returned (.bool r) ∧ Below w.heap.size w w' := by
  have hu36 := Try.underlying36
  have HB := Aside0.mk (Below.refl w.heap.size w)
  have H : ((spec_NewDisk.f k a0).bind fun bt162 => ((impl_NewDisk.f a0).bind fun bt172 => ((laws_eqDisk.f k bt172.1 bt172.2.1 bt172.2.2.1 bt172.2.2.2.1 bt162.1 bt162.2.1 bt162.2.2.1 bt162.2.2.2.1).bind fun t182 => (if t182 = true then (laws_FnExactNewDisk.j0 k a0 bt162.2.2.2.2 (bt172.2.2.2.2 != bt162.2.2.2.2) bt162.1 bt162.2.1 bt162.2.2.1 bt162.2.2.2.1 bt172.1 bt172.2.1 bt172.2.2.1 bt172.2.2.2.1) else (laws_FnExactNewDisk.j0 k a0 bt162.2.2.2.2 true bt162.1 bt162.2.1 bt162.2.2.1 bt162.2.2.2.1 bt172.1 bt172.2.1 bt172.2.2.1 bt172.2.2.2.1))))) = some r := h
  clear h
  replace H := Option.bind_eq_some_iff.mp H
  obtain ⟨⟨t162, t165, t168, t169, t170⟩, A20, H⟩ := H
  replace H : ((impl_NewDisk.f a0).bind fun bt172 => ((laws_eqDisk.f k bt172.1 bt172.2.1 bt172.2.2.1 bt172.2.2.2.1 t162 t165 t168 t169).bind fun t182 => (if t182 = true then (laws_FnExactNewDisk.j0 k a0 t170 (bt172.2.2.2.2 != t170) t162 t165 t168 t169 bt172.1 bt172.2.1 bt172.2.2.1 bt172.2.2.2.1) else (laws_FnExactNewDisk.j0 k a0 t170 true t162 t165 t168 t169 bt172.1 bt172.2.1 bt172.2.2.1 bt172.2.2.2.1)))) = some r := H
  have A2 := Aside0.mk A20
  clear A20
  replace H := Option.bind_eq_some_iff.mp H
  obtain ⟨⟨t172, t175, t178, t179, t180⟩, A30, H⟩ := H
  replace H : ((laws_eqDisk.f k t172 t175 t178 t179 t162 t165 t168 t169).bind fun t182 => (if t182 = true then (laws_FnExactNewDisk.j0 k a0 t170 (t180 != t170) t162 t165 t168 t169 t172 t175 t178 t179) else (laws_FnExactNewDisk.j0 k a0 t170 true t162 t165 t168 t169 t172 t175 t178 t179))) = some r := H
  have A3 := Aside0.mk A30
  clear A30
  have HC4 := Aside0.mk H
  clear H
  go_enter Try.func6, Try.ntmps6
  go_upto_region 3 with (first | ((with_reducible refine gate_callee (f := 21) rfl ?_); refine goesL_ (some 13) rfl rfl Try.func21 (by kernel_rfl) rfl #[.int .i64 a0] rfl (by (try simp only [List.map_toArray, List.map_cons, List.map_nil]); first | done | rfl | (simp only [List.length_drop, List.length_take]; rfl)) ?_; (with_reducible refine (spec_NewDisk.calls k a0 t162 t165 t168 t169 t170 _ A2.out).mono ?_); rintro e w5 ⟨v163, v166, rfl, ho0, ho1, hb⟩; refine ⟨_, rfl, ?_⟩; have n0_ := Aside0.mk (Kd.R_lower ho0 (below_size (by repeat (first | (with_reducible first | exact HB.out | apply below_alloc | apply pw_below_drewN | apply below_drew1) | exact HB.out)))); have n1_ := Aside0.mk (Kd.R_lower ho1 (below_size (by repeat (first | (with_reducible first | exact HB.out | apply below_alloc | apply pw_below_drewN | apply below_drew1) | exact HB.out)))); have n2_ := Aside0.mk (below_step (by repeat (first | (with_reducible first | exact HB.out | apply below_alloc | apply pw_below_drewN | apply below_drew1) | exact HB.out)) hb); clear HB; have HO164 := n0_; have HO167 := n1_; have HB := n2_; clear n0_ n1_ n2_; (try clear hb); (try clear hb2); (try clear hk); (try clear hi); (try clear ho0); (try clear ho1)) | ((with_reducible refine gate_dst (N := 3) rfl ?_); refine box_event ?hg (N := 3) ?hd (cs := #[.slice none 0 0, .slice none 0 0, .int .i64 0, .bool false]) (t := 36) ?hr ?_; (case hd => rfl); (case hg => rfl); (case hr => first | (go_simp; done) | (go_simp; rfl)); intro gb171 hg w6 hbox hb; have n0_ := Aside0.mk (Kd.R_below (by (with_reducible repeat (first | apply Kd.R_alloc | apply Kd.R_drewN | apply Kd.R_drew)); exact HO164.out) hb); have n1_ := Aside0.mk (Kd.R_below (by (with_reducible repeat (first | apply Kd.R_alloc | apply Kd.R_drewN | apply Kd.R_drew)); exact HO167.out) hb); have n2_ := Aside0.mk (below_step (by repeat (first | (with_reducible first | exact HB.out | apply below_alloc | apply pw_below_drewN | apply below_drew1) | exact HB.out)) hb); have n3_ := Aside0.mk (hbox); have n4_ := Aside0.mk ((by rw [hg]; exact (below_size (by repeat (first | (with_reducible first | exact HB.out | apply below_alloc | apply pw_below_drewN | apply below_drew1) | exact HB.out))) : w.heap.size ≤ gb171)); have n5_ := Aside0.mk ((by rw [hg]; exact (below_size (by repeat (first | (with_reducible first | exact HB.out | apply below_alloc | apply pw_below_drewN | apply below_drew1) | exact HB.out))) : w.heap.size ≤ gb171)); clear HO164; clear HO167; clear HB; have HO164 := n0_; have HO167 := n1_; have HB := n2_; have BK171 := n3_; have GW171 := n4_; have GE171 := n5_; clear n0_ n1_ n2_ n3_ n4_ n5_; clear hb hbox hg; obtain ⟨Ao7, co7, eo7⟩ := Kd.R_slice HO164.out; subst eo7; have hcz8_0 : w6.cell? ⟨gb171, 0, none⟩ = some (.slice none 0 0) := (blk_cell BK171.out 0).trans rfl; have hcz8_1 : w6.cell? ⟨gb171, 1, none⟩ = some (.slice none 0 0) := (blk_cell BK171.out 1).trans rfl; have hcz8_2 : w6.cell? ⟨gb171, 2, none⟩ = some (.int .i64 0) := (blk_cell BK171.out 2).trans rfl; have hcz8_3 : w6.cell? ⟨gb171, 3, none⟩ = some (.bool false) := (blk_cell BK171.out 3).trans rfl; have hfz8_0 := blk_frozen BK171.out 0; have hfz8_1 := blk_frozen BK171.out 1; have hfz8_2 := blk_frozen BK171.out 2; have hfz8_3 := blk_frozen BK171.out 3; obtain ⟨Ao9, co9, eo9⟩ := Kd.R_slice HO167.out; subst eo9) | ((with_reducible refine gate_callee (f := 22) rfl ?_); refine goesL_ (some 18) rfl rfl Try.func22 (by kernel_rfl) rfl #[.int .i64 a0] rfl (by (try simp only [List.map_toArray, List.map_cons, List.map_nil]); first | done | rfl | (simp only [List.length_drop, List.length_take]; rfl)) ?_; (with_reducible refine (impl_NewDisk.calls a0 t172 t175 t178 t179 t180 _ A3.out).mono ?_); rintro e w10 ⟨v173, v176, rfl, ho0, ho1, hb⟩; refine ⟨_, rfl, ?_⟩; have n0_ := Aside0.mk (Kd.R_elder' (by (with_reducible repeat (first | apply Kd.R_alloc | apply Kd.R_drewN | apply Kd.R_drew)); exact (Kd.R_mono (Kd.R_far (p := ⟨gb171, 3, none⟩) (Kd.R_far (p := ⟨gb171, 2, none⟩) (Kd.R_far (p := ⟨gb171, 1, none⟩) (Kd.R_far (p := ⟨gb171, 0, none⟩) (Kd.R_types HO164.out BK171.out (by decide)) (fun _ hk => hk.2) (.slice Ao7 t162.length co7)) (fun _ hk => hk.2) (.slice Ao9 t165.length co9)) (fun _ hk => hk.2) (.int .i64 t168)) (fun _ hk => hk.2) (.bool t169)) (fun _ h_ => h_.1))) (Kd.R_base ho0) hb); have n1_ := Aside0.mk (Kd.R_elder' (by (with_reducible repeat (first | apply Kd.R_alloc | apply Kd.R_drewN | apply Kd.R_drew)); exact (Kd.R_mono (Kd.R_far (p := ⟨gb171, 3, none⟩) (Kd.R_far (p := ⟨gb171, 2, none⟩) (Kd.R_far (p := ⟨gb171, 1, none⟩) (Kd.R_far (p := ⟨gb171, 0, none⟩) (Kd.R_types HO167.out BK171.out (by decide)) (fun _ hk => hk.2) (.slice Ao7 t162.length co7)) (fun _ hk => hk.2) (.slice Ao9 t165.length co9)) (fun _ hk => hk.2) (.int .i64 t168)) (fun _ hk => hk.2) (.bool t169)) (fun _ h_ => h_.1))) (Kd.R_base ho1) hb); have n2_ := Aside0.mk (Kd.R_lower (Kd.R_new' ho0 (Kd.R_lt (by (with_reducible repeat (first | apply Kd.R_alloc | apply Kd.R_drewN | apply Kd.R_drew)); exact (Kd.R_mono (Kd.R_far (p := ⟨gb171, 3, none⟩) (Kd.R_far (p := ⟨gb171, 2, none⟩) (Kd.R_far (p := ⟨gb171, 1, none⟩) (Kd.R_far (p := ⟨gb171, 0, none⟩) (Kd.R_types HO164.out BK171.out (by decide)) (fun _ hk => hk.2) (.slice Ao7 t162.length co7)) (fun _ hk => hk.2) (.slice Ao9 t165.length co9)) (fun _ hk => hk.2) (.int .i64 t168)) (fun _ hk => hk.2) (.bool t169)) (fun _ h_ => h_.1))))) (below_size (by repeat (first | (with_reducible first | exact HB.out | apply below_alloc | apply pw_below_drewN | apply below_drew1 | refine below_set ?_ GE171.out) | exact HB.out)))); have n3_ := Aside0.mk (Kd.R_lower (Kd.R_new' ho1 (Kd.R_lt (by (with_reducible repeat (first | apply Kd.R_alloc | apply Kd.R_drewN | apply Kd.R_drew)); exact (Kd.R_mono (Kd.R_far (p := ⟨gb171, 3, none⟩) (Kd.R_far (p := ⟨gb171, 2, none⟩) (Kd.R_far (p := ⟨gb171, 1, none⟩) (Kd.R_far (p := ⟨gb171, 0, none⟩) (Kd.R_types HO167.out BK171.out (by decide)) (fun _ hk => hk.2) (.slice Ao7 t162.length co7)) (fun _ hk => hk.2) (.slice Ao9 t165.length co9)) (fun _ hk => hk.2) (.int .i64 t168)) (fun _ hk => hk.2) (.bool t169)) (fun _ h_ => h_.1))))) (below_size (by repeat (first | (with_reducible first | exact HB.out | apply below_alloc | apply pw_below_drewN | apply below_drew1 | refine below_set ?_ GE171.out) | exact HB.out)))); have n4_ := Aside0.mk (blk_below (g := gb171) (o := .cells #[.slice Ao7 t162.length co7, .slice Ao9 t165.length co9, .int .i64 t168, .bool t169] 36 (0, 0)) (by (with_reducible repeat (first | refine blk_drewN ?_ _ | refine blk_drew ?_ | refine blk_alloc ?_ _)); refine blk_put (cs := #[.slice Ao7 t162.length co7, .slice Ao9 t165.length co9, .int .i64 t168, .bool false]) ?_ 3 _ rfl; (with_reducible repeat (first | refine blk_drewN ?_ _ | refine blk_drew ?_ | refine blk_alloc ?_ _)); refine blk_put (cs := #[.slice Ao7 t162.length co7, .slice Ao9 t165.length co9, .int .i64 0, .bool false]) ?_ 2 _ rfl; (with_reducible repeat (first | refine blk_drewN ?_ _ | refine blk_drew ?_ | refine blk_alloc ?_ _)); refine blk_put (cs := #[.slice Ao7 t162.length co7, .slice none 0 0, .int .i64 0, .bool false]) ?_ 1 _ rfl; (with_reducible repeat (first | refine blk_drewN ?_ _ | refine blk_drew ?_ | refine blk_alloc ?_ _)); refine blk_put (cs := #[.slice none 0 0, .slice none 0 0, .int .i64 0, .bool false]) ?_ 0 _ rfl; (with_reducible repeat (first | refine blk_drewN ?_ _ | refine blk_drew ?_ | refine blk_alloc ?_ _)); exact BK171.out) hb); have n5_ := Aside0.mk (below_step (by repeat (first | (with_reducible first | exact HB.out | apply below_alloc | apply pw_below_drewN | apply below_drew1 | refine below_set ?_ GE171.out) | exact HB.out)) hb); clear HO164; clear HO167; clear BK171; clear HB; have HO164 := n0_; have HO167 := n1_; have HO174 := n2_; have HO177 := n3_; have BK171 := n4_; have HB := n5_; clear n0_ n1_ n2_ n3_ n4_ n5_; (try clear hb); (try clear hb2); (try clear hk); (try clear hi); (try clear ho0); (try clear ho1)) | ((with_reducible refine gate_dst (N := 5) rfl ?_); refine box_event ?hg (N := 5) ?hd (cs := #[.slice none 0 0, .slice none 0 0, .int .i64 0, .bool false]) (t := 36) ?hr ?_; (case hd => rfl); (case hg => rfl); (case hr => first | (go_simp; done) | (go_simp; rfl)); intro gb181 hg w11 hbox hb; have n0_ := Aside0.mk (Kd.R_below (by (with_reducible repeat (first | apply Kd.R_alloc | apply Kd.R_drewN | apply Kd.R_drew)); exact HO164.out) hb); have n1_ := Aside0.mk (Kd.R_below (by (with_reducible repeat (first | apply Kd.R_alloc | apply Kd.R_drewN | apply Kd.R_drew)); exact HO167.out) hb); have n2_ := Aside0.mk (Kd.R_below (by (with_reducible repeat (first | apply Kd.R_alloc | apply Kd.R_drewN | apply Kd.R_drew)); exact HO174.out) hb); have n3_ := Aside0.mk (Kd.R_below (by (with_reducible repeat (first | apply Kd.R_alloc | apply Kd.R_drewN | apply Kd.R_drew)); exact HO177.out) hb); have n4_ := Aside0.mk (blk_below (g := gb171) (o := .cells #[.slice Ao7 t162.length co7, .slice Ao9 t165.length co9, .int .i64 t168, .bool t169] 36 (0, 0)) (by (with_reducible repeat (first | refine blk_drewN ?_ _ | refine blk_drew ?_ | refine blk_alloc ?_ _)); exact BK171.out) hb); have n5_ := Aside0.mk (below_step (by repeat (first | (with_reducible first | exact HB.out | apply below_alloc | apply pw_below_drewN | apply below_drew1 | refine below_set ?_ GE171.out) | exact HB.out)) hb); have n6_ := Aside0.mk (hbox); have n7_ := Aside0.mk ((by rw [hg]; exact (below_size (by repeat (first | (with_reducible first | exact HB.out | apply below_alloc | apply pw_below_drewN | apply below_drew1 | refine below_set ?_ GE171.out) | exact HB.out))) : w.heap.size ≤ gb181)); have n8_ := Aside0.mk ((by rw [hg]; exact (below_size (by repeat (first | (with_reducible first | exact HB.out | apply below_alloc | apply pw_below_drewN | apply below_drew1 | refine below_set ?_ GE171.out) | exact HB.out))) : w.heap.size ≤ gb181)); have n9_ := Aside0.mk ((by rw [hg]; exact Nat.ne_of_lt (blk_lt (g := gb171) (o := .cells #[.slice Ao7 t162.length co7, .slice Ao9 t165.length co9, .int .i64 t168, .bool t169] 36 (0, 0)) (by (with_reducible repeat (first | refine blk_drewN ?_ _ | refine blk_drew ?_ | refine blk_alloc ?_ _)); exact BK171.out)) : gb171 ≠ gb181)); have n10_ := Aside0.mk ((by rw [hg]; exact Nat.ne_of_gt (blk_lt (g := gb171) (o := .cells #[.slice Ao7 t162.length co7, .slice Ao9 t165.length co9, .int .i64 t168, .bool t169] 36 (0, 0)) (by (with_reducible repeat (first | refine blk_drewN ?_ _ | refine blk_drew ?_ | refine blk_alloc ?_ _)); exact BK171.out)) : gb181 ≠ gb171)); clear HO164; clear HO167; clear HO174; clear HO177; clear BK171; clear HB; have HO164 := n0_; have HO167 := n1_; have HO174 := n2_; have HO177 := n3_; have BK171 := n4_; have HB := n5_; have BK181 := n6_; have GW181 := n7_; have GE181 := n8_; have NB171_181 := n9_; have NB181_171 := n10_; clear n0_ n1_ n2_ n3_ n4_ n5_ n6_ n7_ n8_ n9_ n10_; clear hb hbox hg; obtain ⟨Ao12, co12, eo12⟩ := Kd.R_slice HO174.out; subst eo12; have hnb13 := NB181_171.out; have hnc13 := NB171_181.out; have hcz14_0 : w11.cell? ⟨gb181, 0, none⟩ = some (.slice none 0 0) := (blk_cell BK181.out 0).trans rfl; have hcz14_1 : w11.cell? ⟨gb181, 1, none⟩ = some (.slice none 0 0) := (blk_cell BK181.out 1).trans rfl; have hcz14_2 : w11.cell? ⟨gb181, 2, none⟩ = some (.int .i64 0) := (blk_cell BK181.out 2).trans rfl; have hcz14_3 : w11.cell? ⟨gb181, 3, none⟩ = some (.bool false) := (blk_cell BK181.out 3).trans rfl; have hfz14_0 := blk_frozen BK181.out 0; have hfz14_1 := blk_frozen BK181.out 1; have hfz14_2 := blk_frozen BK181.out 2; have hfz14_3 := blk_frozen BK181.out 3; obtain ⟨Ao15, co15, eo15⟩ := Kd.R_slice HO177.out; subst eo15))
  (try simp only [Act.put, List.setIfInBounds_toArray, List.set_cons_zero, List.set_cons_succ])
  go_cut [29] (fun v29 wc => ∃ (kq : Nat) (x29_3 : Bool), v29 = .bool x29_3 ∧ Aside0 (laws_FnExactNewDisk.j0 kq a0 t170 x29_3 t162 t165 t168 t169 t172 t175 t178 t179 = some r) ∧ Aside0 (kq ≤ k) ∧ Aside0 (Kd.R Kd.string 9 wc w.heap.size (fun k_ => some k_ ≠ ((.slice Ao12 t172.length co12) : Value).ownBlock) (.slice Ao7 t162.length co7) t162) ∧ Aside0 (Kd.R k131 131 wc w.heap.size (fun k_ => some k_ ≠ ((.slice Ao15 t175.length co15) : Value).ownBlock) (.slice Ao9 t165.length co9) t165) ∧ Aside0 (Kd.R Kd.string 9 wc w.heap.size (fun k_ => some k_ ≠ ((.slice Ao7 t162.length co7) : Value).ownBlock) (.slice Ao12 t172.length co12) t172) ∧ Aside0 (Kd.R k131 131 wc w.heap.size (fun k_ => some k_ ≠ ((.slice Ao9 t165.length co9) : Value).ownBlock) (.slice Ao15 t175.length co15) t175) ∧ Aside0 (wc.heap[gb171]? = some (.cells #[(.slice Ao7 t162.length co7), (.slice Ao9 t165.length co9), .int .i64 t168, .bool t169] 36 (0, 0))) ∧ Aside0 (wc.heap[gb181]? = some (.cells #[(.slice Ao12 t172.length co12), (.slice Ao15 t175.length co15), .int .i64 t178, .bool t179] 36 (0, 0))) ∧ Aside0 (Below w.heap.size w wc))
  case first =>
    have H := HC4.out
    clear HC4
    replace H := Option.bind_eq_some_iff.mp H
    obtain ⟨t182, A160, H⟩ := H
    replace H : (if t182 = true then (laws_FnExactNewDisk.j0 k a0 t170 (t180 != t170) t162 t165 t168 t169 t172 t175 t178 t179) else (laws_FnExactNewDisk.j0 k a0 t170 true t162 t165 t168 t169 t172 t175 t178 t179)) = some r := H
    have A16 := Aside0.mk A160
    clear A160
    by_cases c17 : t182 = true
    · subst c17
      have H1 : (laws_FnExactNewDisk.j0 k a0 t170 (t180 != t170) t162 t165 t168 t169 t172 t175 t178 t179) = some r := by rw [if_pos rfl] at H; exact H
      clear H
      have H := H1
      clear H1
      have H' := Aside0.mk H
      clear H
      have hnb18 := NB181_171.out
      have hnc18 := NB171_181.out
      have hcz19_0 : w11.cell? ⟨gb181, 0, none⟩ = some (.slice none 0 0) := (blk_cell BK181.out 0).trans rfl
      have hcz19_1 : w11.cell? ⟨gb181, 1, none⟩ = some (.slice none 0 0) := (blk_cell BK181.out 1).trans rfl
      have hcz19_2 : w11.cell? ⟨gb181, 2, none⟩ = some (.int .i64 0) := (blk_cell BK181.out 2).trans rfl
      have hcz19_3 : w11.cell? ⟨gb181, 3, none⟩ = some (.bool false) := (blk_cell BK181.out 3).trans rfl
      have hfz19_0 := blk_frozen BK181.out 0
      have hfz19_1 := blk_frozen BK181.out 1
      have hfz19_2 := blk_frozen BK181.out 2
      have hfz19_3 := blk_frozen BK181.out 3
      have hcz20_0 : w11.cell? ⟨gb171, 0, none⟩ = some (.slice Ao7 t162.length co7) := (blk_cell BK171.out 0).trans rfl
      have hcz20_1 : w11.cell? ⟨gb171, 1, none⟩ = some (.slice Ao9 t165.length co9) := (blk_cell BK171.out 1).trans rfl
      have hcz20_2 : w11.cell? ⟨gb171, 2, none⟩ = some (.int .i64 t168) := (blk_cell BK171.out 2).trans rfl
      have hcz20_3 : w11.cell? ⟨gb171, 3, none⟩ = some (.bool t169) := (blk_cell BK171.out 3).trans rfl
      have hfz20_0 := blk_frozen BK171.out 0
      have hfz20_1 := blk_frozen BK171.out 1
      have hfz20_2 := blk_frozen BK171.out 2
      have hfz20_3 := blk_frozen BK171.out 3
      go_wp2_with (first | ((with_reducible refine gate_callee (f := 23) rfl ?_); refine goesL_ (some 23) rfl rfl Try.func23 (by kernel_rfl) rfl #[.agg #[.slice Ao12 t172.length co12, .slice Ao15 t175.length co15, .int .i64 t178, .bool t179], .agg #[.slice Ao7 t162.length co7, .slice Ao9 t165.length co9, .int .i64 t168, .bool t169]] rfl (by (try simp only [List.map_toArray, List.map_cons, List.map_nil]); first | done | rfl | (simp only [List.length_drop, List.length_take]; rfl)) ?_; (with_reducible refine (laws_eqDisk.calls k _ _ t172 _ _ t175 t178 t179 _ _ t162 _ _ t165 t168 t169 true _ ?side1 ?side2 ?side3 ?side4 ?side5 ?side6 ?side7 ?side8 A16.out).mono ?_); (case side1 => refine (Kd.R_reads' (e := 9) (base := w.heap.size) (ok := fun k_ => (True ∧ some k_ ≠ (.slice Ao7 t162.length co7 : Value).ownBlock)) (n := t172.length) (c := co12) ?_).2.2; exact (by (with_reducible repeat (first | apply Kd.R_alloc | apply Kd.R_drewN | apply Kd.R_drew)); exact (Kd.R_mono (Kd.R_far (p := ⟨gb181, 3, none⟩) (Kd.R_far (p := ⟨gb181, 2, none⟩) (Kd.R_far (p := ⟨gb181, 1, none⟩) (Kd.R_far (p := ⟨gb181, 0, none⟩) (Kd.R_types HO174.out BK181.out (by decide)) (fun _ hk => hk.2) (.slice Ao12 t172.length co12)) (fun _ hk => hk.2) (.slice Ao15 t175.length co15)) (fun _ hk => hk.2) (.int .i64 t178)) (fun _ hk => hk.2) (.bool t179)) (fun _ h_ => h_.1)))); (case side2 => exact (Kd.R_reads' HO174.out).2.1); (case side3 => refine (Kd.R_reads' (e := 131) (base := w.heap.size) (ok := fun k_ => (True ∧ some k_ ≠ (.slice Ao9 t165.length co9 : Value).ownBlock)) (n := t175.length) (c := co15) ?_).2.2; exact (by (with_reducible repeat (first | apply Kd.R_alloc | apply Kd.R_drewN | apply Kd.R_drew)); exact (Kd.R_mono (Kd.R_far (p := ⟨gb181, 3, none⟩) (Kd.R_far (p := ⟨gb181, 2, none⟩) (Kd.R_far (p := ⟨gb181, 1, none⟩) (Kd.R_far (p := ⟨gb181, 0, none⟩) (Kd.R_types HO177.out BK181.out (by decide)) (fun _ hk => hk.2) (.slice Ao12 t172.length co12)) (fun _ hk => hk.2) (.slice Ao15 t175.length co15)) (fun _ hk => hk.2) (.int .i64 t178)) (fun _ hk => hk.2) (.bool t179)) (fun _ h_ => h_.1)))); (case side4 => exact (Kd.R_reads' HO177.out).2.1); (case side5 => refine (Kd.R_reads' (e := 9) (base := w.heap.size) (ok := fun k_ => (True ∧ some k_ ≠ (.slice Ao12 t172.length co12 : Value).ownBlock)) (n := t162.length) (c := co7) ?_).2.2; exact (by (with_reducible repeat (first | apply Kd.R_alloc | apply Kd.R_drewN | apply Kd.R_drew)); exact (Kd.R_mono (Kd.R_far (p := ⟨gb181, 3, none⟩) (Kd.R_far (p := ⟨gb181, 2, none⟩) (Kd.R_far (p := ⟨gb181, 1, none⟩) (Kd.R_far (p := ⟨gb181, 0, none⟩) (Kd.R_types HO164.out BK181.out (by decide)) (fun _ hk => hk.2) (.slice Ao12 t172.length co12)) (fun _ hk => hk.2) (.slice Ao15 t175.length co15)) (fun _ hk => hk.2) (.int .i64 t178)) (fun _ hk => hk.2) (.bool t179)) (fun _ h_ => h_.1)))); (case side6 => exact (Kd.R_reads' HO164.out).2.1); (case side7 => refine (Kd.R_reads' (e := 131) (base := w.heap.size) (ok := fun k_ => (True ∧ some k_ ≠ (.slice Ao15 t175.length co15 : Value).ownBlock)) (n := t165.length) (c := co9) ?_).2.2; exact (by (with_reducible repeat (first | apply Kd.R_alloc | apply Kd.R_drewN | apply Kd.R_drew)); exact (Kd.R_mono (Kd.R_far (p := ⟨gb181, 3, none⟩) (Kd.R_far (p := ⟨gb181, 2, none⟩) (Kd.R_far (p := ⟨gb181, 1, none⟩) (Kd.R_far (p := ⟨gb181, 0, none⟩) (Kd.R_types HO167.out BK181.out (by decide)) (fun _ hk => hk.2) (.slice Ao12 t172.length co12)) (fun _ hk => hk.2) (.slice Ao15 t175.length co15)) (fun _ hk => hk.2) (.int .i64 t178)) (fun _ hk => hk.2) (.bool t179)) (fun _ h_ => h_.1)))); (case side8 => exact (Kd.R_reads' HO167.out).2.1); rintro e w21 ⟨rfl, hb⟩; refine ⟨_, rfl, ?_⟩; have n0_ := Aside0.mk (Kd.R_below (by (with_reducible repeat (first | apply Kd.R_alloc | apply Kd.R_drewN | apply Kd.R_drew)); exact (Kd.R_mono (Kd.R_far (p := ⟨gb181, 3, none⟩) (Kd.R_far (p := ⟨gb181, 2, none⟩) (Kd.R_far (p := ⟨gb181, 1, none⟩) (Kd.R_far (p := ⟨gb181, 0, none⟩) (Kd.R_types HO164.out BK181.out (by decide)) (fun _ hk => hk.2) (.slice Ao12 t172.length co12)) (fun _ hk => hk.2) (.slice Ao15 t175.length co15)) (fun _ hk => hk.2) (.int .i64 t178)) (fun _ hk => hk.2) (.bool t179)) (fun _ h_ => h_.1))) hb); have n1_ := Aside0.mk (Kd.R_below (by (with_reducible repeat (first | apply Kd.R_alloc | apply Kd.R_drewN | apply Kd.R_drew)); exact (Kd.R_mono (Kd.R_far (p := ⟨gb181, 3, none⟩) (Kd.R_far (p := ⟨gb181, 2, none⟩) (Kd.R_far (p := ⟨gb181, 1, none⟩) (Kd.R_far (p := ⟨gb181, 0, none⟩) (Kd.R_types HO167.out BK181.out (by decide)) (fun _ hk => hk.2) (.slice Ao12 t172.length co12)) (fun _ hk => hk.2) (.slice Ao15 t175.length co15)) (fun _ hk => hk.2) (.int .i64 t178)) (fun _ hk => hk.2) (.bool t179)) (fun _ h_ => h_.1))) hb); have n2_ := Aside0.mk (Kd.R_below (by (with_reducible repeat (first | apply Kd.R_alloc | apply Kd.R_drewN | apply Kd.R_drew)); exact (Kd.R_mono (Kd.R_far (p := ⟨gb181, 3, none⟩) (Kd.R_far (p := ⟨gb181, 2, none⟩) (Kd.R_far (p := ⟨gb181, 1, none⟩) (Kd.R_far (p := ⟨gb181, 0, none⟩) (Kd.R_types HO174.out BK181.out (by decide)) (fun _ hk => hk.2) (.slice Ao12 t172.length co12)) (fun _ hk => hk.2) (.slice Ao15 t175.length co15)) (fun _ hk => hk.2) (.int .i64 t178)) (fun _ hk => hk.2) (.bool t179)) (fun _ h_ => h_.1))) hb); have n3_ := Aside0.mk (Kd.R_below (by (with_reducible repeat (first | apply Kd.R_alloc | apply Kd.R_drewN | apply Kd.R_drew)); exact (Kd.R_mono (Kd.R_far (p := ⟨gb181, 3, none⟩) (Kd.R_far (p := ⟨gb181, 2, none⟩) (Kd.R_far (p := ⟨gb181, 1, none⟩) (Kd.R_far (p := ⟨gb181, 0, none⟩) (Kd.R_types HO177.out BK181.out (by decide)) (fun _ hk => hk.2) (.slice Ao12 t172.length co12)) (fun _ hk => hk.2) (.slice Ao15 t175.length co15)) (fun _ hk => hk.2) (.int .i64 t178)) (fun _ hk => hk.2) (.bool t179)) (fun _ h_ => h_.1))) hb); have n4_ := Aside0.mk (blk_below (g := gb171) (o := .cells #[.slice Ao7 t162.length co7, .slice Ao9 t165.length co9, .int .i64 t168, .bool t169] 36 (0, 0)) (by (with_reducible repeat (first | refine blk_drewN ?_ _ | refine blk_drew ?_ | refine blk_alloc ?_ _)); refine blk_far ?_ NB171_181.out _; (with_reducible repeat (first | refine blk_drewN ?_ _ | refine blk_drew ?_ | refine blk_alloc ?_ _)); refine blk_far ?_ NB171_181.out _; (with_reducible repeat (first | refine blk_drewN ?_ _ | refine blk_drew ?_ | refine blk_alloc ?_ _)); refine blk_far ?_ NB171_181.out _; (with_reducible repeat (first | refine blk_drewN ?_ _ | refine blk_drew ?_ | refine blk_alloc ?_ _)); refine blk_far ?_ NB171_181.out _; (with_reducible repeat (first | refine blk_drewN ?_ _ | refine blk_drew ?_ | refine blk_alloc ?_ _)); exact BK171.out) hb); have n5_ := Aside0.mk (blk_below (g := gb181) (o := .cells #[.slice Ao12 t172.length co12, .slice Ao15 t175.length co15, .int .i64 t178, .bool t179] 36 (0, 0)) (by (with_reducible repeat (first | refine blk_drewN ?_ _ | refine blk_drew ?_ | refine blk_alloc ?_ _)); refine blk_put (cs := #[.slice Ao12 t172.length co12, .slice Ao15 t175.length co15, .int .i64 t178, .bool false]) ?_ 3 _ rfl; (with_reducible repeat (first | refine blk_drewN ?_ _ | refine blk_drew ?_ | refine blk_alloc ?_ _)); refine blk_put (cs := #[.slice Ao12 t172.length co12, .slice Ao15 t175.length co15, .int .i64 0, .bool false]) ?_ 2 _ rfl; (with_reducible repeat (first | refine blk_drewN ?_ _ | refine blk_drew ?_ | refine blk_alloc ?_ _)); refine blk_put (cs := #[.slice Ao12 t172.length co12, .slice none 0 0, .int .i64 0, .bool false]) ?_ 1 _ rfl; (with_reducible repeat (first | refine blk_drewN ?_ _ | refine blk_drew ?_ | refine blk_alloc ?_ _)); refine blk_put (cs := #[.slice none 0 0, .slice none 0 0, .int .i64 0, .bool false]) ?_ 0 _ rfl; (with_reducible repeat (first | refine blk_drewN ?_ _ | refine blk_drew ?_ | refine blk_alloc ?_ _)); exact BK181.out) hb); have n6_ := Aside0.mk (below_step (by repeat (first | (with_reducible first | exact HB.out | apply below_alloc | apply pw_below_drewN | apply below_drew1 | refine below_set ?_ GE171.out | refine below_set ?_ GE181.out) | exact HB.out)) hb); clear HO164; clear HO167; clear HO174; clear HO177; clear BK171; clear BK181; clear HB; have HO164 := n0_; have HO167 := n1_; have HO174 := n2_; have HO177 := n3_; have BK171 := n4_; have BK181 := n5_; have HB := n6_; clear n0_ n1_ n2_ n3_ n4_ n5_ n6_; (try clear hb); (try clear hb2); (try clear hk); (try clear hi)))
      go_meet
      case rel => exact ⟨_, ((t180 != t170)), (by first | rfl | (simp; done) | (simp [*]; done)), H', ⟨by first | omega | exact Nat.le_refl _⟩, ⟨by (with_reducible repeat (first | apply Kd.R_alloc | apply Kd.R_drewN | apply Kd.R_drew)); exact Kd.R_mono HO164.out (fun _ hk => hk.2)⟩, ⟨by (with_reducible repeat (first | apply Kd.R_alloc | apply Kd.R_drewN | apply Kd.R_drew)); exact Kd.R_mono HO167.out (fun _ hk => hk.2)⟩, ⟨by (with_reducible repeat (first | apply Kd.R_alloc | apply Kd.R_drewN | apply Kd.R_drew)); exact Kd.R_mono HO174.out (fun _ hk => hk.2)⟩, ⟨by (with_reducible repeat (first | apply Kd.R_alloc | apply Kd.R_drewN | apply Kd.R_drew)); exact Kd.R_mono HO177.out (fun _ hk => hk.2)⟩, ⟨by (with_reducible repeat (first | refine blk_drewN ?_ _ | refine blk_drew ?_ | refine blk_alloc ?_ _)); exact BK171.out⟩, ⟨by (with_reducible repeat (first | refine blk_drewN ?_ _ | refine blk_drew ?_ | refine blk_alloc ?_ _)); exact BK181.out⟩, ⟨by repeat (first | (with_reducible first | exact HB.out | apply below_alloc | apply pw_below_drewN | apply below_drew1 | refine below_set ?_ GE171.out | refine below_set ?_ GE181.out) | exact HB.out)⟩⟩
    · replace c17 := Bool.eq_false_iff.mpr c17
      subst c17
      have H1 : (laws_FnExactNewDisk.j0 k a0 t170 true t162 t165 t168 t169 t172 t175 t178 t179) = some r := by rw [if_neg (show ¬ (false = true) by decide)] at H; exact H
      clear H
      have H := H1
      clear H1
      have H' := Aside0.mk H
      clear H
      have hnb22 := NB181_171.out
      have hnc22 := NB171_181.out
      have hcz23_0 : w11.cell? ⟨gb181, 0, none⟩ = some (.slice none 0 0) := (blk_cell BK181.out 0).trans rfl
      have hcz23_1 : w11.cell? ⟨gb181, 1, none⟩ = some (.slice none 0 0) := (blk_cell BK181.out 1).trans rfl
      have hcz23_2 : w11.cell? ⟨gb181, 2, none⟩ = some (.int .i64 0) := (blk_cell BK181.out 2).trans rfl
      have hcz23_3 : w11.cell? ⟨gb181, 3, none⟩ = some (.bool false) := (blk_cell BK181.out 3).trans rfl
      have hfz23_0 := blk_frozen BK181.out 0
      have hfz23_1 := blk_frozen BK181.out 1
      have hfz23_2 := blk_frozen BK181.out 2
      have hfz23_3 := blk_frozen BK181.out 3
      have hcz24_0 : w11.cell? ⟨gb171, 0, none⟩ = some (.slice Ao7 t162.length co7) := (blk_cell BK171.out 0).trans rfl
      have hcz24_1 : w11.cell? ⟨gb171, 1, none⟩ = some (.slice Ao9 t165.length co9) := (blk_cell BK171.out 1).trans rfl
      have hcz24_2 : w11.cell? ⟨gb171, 2, none⟩ = some (.int .i64 t168) := (blk_cell BK171.out 2).trans rfl
      have hcz24_3 : w11.cell? ⟨gb171, 3, none⟩ = some (.bool t169) := (blk_cell BK171.out 3).trans rfl
      have hfz24_0 := blk_frozen BK171.out 0
      have hfz24_1 := blk_frozen BK171.out 1
      have hfz24_2 := blk_frozen BK171.out 2
      have hfz24_3 := blk_frozen BK171.out 3
      go_wp2_with (first | ((with_reducible refine gate_callee (f := 23) rfl ?_); refine goesL_ (some 23) rfl rfl Try.func23 (by kernel_rfl) rfl #[.agg #[.slice Ao12 t172.length co12, .slice Ao15 t175.length co15, .int .i64 t178, .bool t179], .agg #[.slice Ao7 t162.length co7, .slice Ao9 t165.length co9, .int .i64 t168, .bool t169]] rfl (by (try simp only [List.map_toArray, List.map_cons, List.map_nil]); first | done | rfl | (simp only [List.length_drop, List.length_take]; rfl)) ?_; (with_reducible refine (laws_eqDisk.calls k _ _ t172 _ _ t175 t178 t179 _ _ t162 _ _ t165 t168 t169 false _ ?side1 ?side2 ?side3 ?side4 ?side5 ?side6 ?side7 ?side8 A16.out).mono ?_); (case side1 => refine (Kd.R_reads' (e := 9) (base := w.heap.size) (ok := fun k_ => (True ∧ some k_ ≠ (.slice Ao7 t162.length co7 : Value).ownBlock)) (n := t172.length) (c := co12) ?_).2.2; exact (by (with_reducible repeat (first | apply Kd.R_alloc | apply Kd.R_drewN | apply Kd.R_drew)); exact (Kd.R_mono (Kd.R_far (p := ⟨gb181, 3, none⟩) (Kd.R_far (p := ⟨gb181, 2, none⟩) (Kd.R_far (p := ⟨gb181, 1, none⟩) (Kd.R_far (p := ⟨gb181, 0, none⟩) (Kd.R_types HO174.out BK181.out (by decide)) (fun _ hk => hk.2) (.slice Ao12 t172.length co12)) (fun _ hk => hk.2) (.slice Ao15 t175.length co15)) (fun _ hk => hk.2) (.int .i64 t178)) (fun _ hk => hk.2) (.bool t179)) (fun _ h_ => h_.1)))); (case side2 => exact (Kd.R_reads' HO174.out).2.1); (case side3 => refine (Kd.R_reads' (e := 131) (base := w.heap.size) (ok := fun k_ => (True ∧ some k_ ≠ (.slice Ao9 t165.length co9 : Value).ownBlock)) (n := t175.length) (c := co15) ?_).2.2; exact (by (with_reducible repeat (first | apply Kd.R_alloc | apply Kd.R_drewN | apply Kd.R_drew)); exact (Kd.R_mono (Kd.R_far (p := ⟨gb181, 3, none⟩) (Kd.R_far (p := ⟨gb181, 2, none⟩) (Kd.R_far (p := ⟨gb181, 1, none⟩) (Kd.R_far (p := ⟨gb181, 0, none⟩) (Kd.R_types HO177.out BK181.out (by decide)) (fun _ hk => hk.2) (.slice Ao12 t172.length co12)) (fun _ hk => hk.2) (.slice Ao15 t175.length co15)) (fun _ hk => hk.2) (.int .i64 t178)) (fun _ hk => hk.2) (.bool t179)) (fun _ h_ => h_.1)))); (case side4 => exact (Kd.R_reads' HO177.out).2.1); (case side5 => refine (Kd.R_reads' (e := 9) (base := w.heap.size) (ok := fun k_ => (True ∧ some k_ ≠ (.slice Ao12 t172.length co12 : Value).ownBlock)) (n := t162.length) (c := co7) ?_).2.2; exact (by (with_reducible repeat (first | apply Kd.R_alloc | apply Kd.R_drewN | apply Kd.R_drew)); exact (Kd.R_mono (Kd.R_far (p := ⟨gb181, 3, none⟩) (Kd.R_far (p := ⟨gb181, 2, none⟩) (Kd.R_far (p := ⟨gb181, 1, none⟩) (Kd.R_far (p := ⟨gb181, 0, none⟩) (Kd.R_types HO164.out BK181.out (by decide)) (fun _ hk => hk.2) (.slice Ao12 t172.length co12)) (fun _ hk => hk.2) (.slice Ao15 t175.length co15)) (fun _ hk => hk.2) (.int .i64 t178)) (fun _ hk => hk.2) (.bool t179)) (fun _ h_ => h_.1)))); (case side6 => exact (Kd.R_reads' HO164.out).2.1); (case side7 => refine (Kd.R_reads' (e := 131) (base := w.heap.size) (ok := fun k_ => (True ∧ some k_ ≠ (.slice Ao15 t175.length co15 : Value).ownBlock)) (n := t165.length) (c := co9) ?_).2.2; exact (by (with_reducible repeat (first | apply Kd.R_alloc | apply Kd.R_drewN | apply Kd.R_drew)); exact (Kd.R_mono (Kd.R_far (p := ⟨gb181, 3, none⟩) (Kd.R_far (p := ⟨gb181, 2, none⟩) (Kd.R_far (p := ⟨gb181, 1, none⟩) (Kd.R_far (p := ⟨gb181, 0, none⟩) (Kd.R_types HO167.out BK181.out (by decide)) (fun _ hk => hk.2) (.slice Ao12 t172.length co12)) (fun _ hk => hk.2) (.slice Ao15 t175.length co15)) (fun _ hk => hk.2) (.int .i64 t178)) (fun _ hk => hk.2) (.bool t179)) (fun _ h_ => h_.1)))); (case side8 => exact (Kd.R_reads' HO167.out).2.1); rintro e w25 ⟨rfl, hb⟩; refine ⟨_, rfl, ?_⟩; have n0_ := Aside0.mk (Kd.R_below (by (with_reducible repeat (first | apply Kd.R_alloc | apply Kd.R_drewN | apply Kd.R_drew)); exact (Kd.R_mono (Kd.R_far (p := ⟨gb181, 3, none⟩) (Kd.R_far (p := ⟨gb181, 2, none⟩) (Kd.R_far (p := ⟨gb181, 1, none⟩) (Kd.R_far (p := ⟨gb181, 0, none⟩) (Kd.R_types HO164.out BK181.out (by decide)) (fun _ hk => hk.2) (.slice Ao12 t172.length co12)) (fun _ hk => hk.2) (.slice Ao15 t175.length co15)) (fun _ hk => hk.2) (.int .i64 t178)) (fun _ hk => hk.2) (.bool t179)) (fun _ h_ => h_.1))) hb); have n1_ := Aside0.mk (Kd.R_below (by (with_reducible repeat (first | apply Kd.R_alloc | apply Kd.R_drewN | apply Kd.R_drew)); exact (Kd.R_mono (Kd.R_far (p := ⟨gb181, 3, none⟩) (Kd.R_far (p := ⟨gb181, 2, none⟩) (Kd.R_far (p := ⟨gb181, 1, none⟩) (Kd.R_far (p := ⟨gb181, 0, none⟩) (Kd.R_types HO167.out BK181.out (by decide)) (fun _ hk => hk.2) (.slice Ao12 t172.length co12)) (fun _ hk => hk.2) (.slice Ao15 t175.length co15)) (fun _ hk => hk.2) (.int .i64 t178)) (fun _ hk => hk.2) (.bool t179)) (fun _ h_ => h_.1))) hb); have n2_ := Aside0.mk (Kd.R_below (by (with_reducible repeat (first | apply Kd.R_alloc | apply Kd.R_drewN | apply Kd.R_drew)); exact (Kd.R_mono (Kd.R_far (p := ⟨gb181, 3, none⟩) (Kd.R_far (p := ⟨gb181, 2, none⟩) (Kd.R_far (p := ⟨gb181, 1, none⟩) (Kd.R_far (p := ⟨gb181, 0, none⟩) (Kd.R_types HO174.out BK181.out (by decide)) (fun _ hk => hk.2) (.slice Ao12 t172.length co12)) (fun _ hk => hk.2) (.slice Ao15 t175.length co15)) (fun _ hk => hk.2) (.int .i64 t178)) (fun _ hk => hk.2) (.bool t179)) (fun _ h_ => h_.1))) hb); have n3_ := Aside0.mk (Kd.R_below (by (with_reducible repeat (first | apply Kd.R_alloc | apply Kd.R_drewN | apply Kd.R_drew)); exact (Kd.R_mono (Kd.R_far (p := ⟨gb181, 3, none⟩) (Kd.R_far (p := ⟨gb181, 2, none⟩) (Kd.R_far (p := ⟨gb181, 1, none⟩) (Kd.R_far (p := ⟨gb181, 0, none⟩) (Kd.R_types HO177.out BK181.out (by decide)) (fun _ hk => hk.2) (.slice Ao12 t172.length co12)) (fun _ hk => hk.2) (.slice Ao15 t175.length co15)) (fun _ hk => hk.2) (.int .i64 t178)) (fun _ hk => hk.2) (.bool t179)) (fun _ h_ => h_.1))) hb); have n4_ := Aside0.mk (blk_below (g := gb171) (o := .cells #[.slice Ao7 t162.length co7, .slice Ao9 t165.length co9, .int .i64 t168, .bool t169] 36 (0, 0)) (by (with_reducible repeat (first | refine blk_drewN ?_ _ | refine blk_drew ?_ | refine blk_alloc ?_ _)); refine blk_far ?_ NB171_181.out _; (with_reducible repeat (first | refine blk_drewN ?_ _ | refine blk_drew ?_ | refine blk_alloc ?_ _)); refine blk_far ?_ NB171_181.out _; (with_reducible repeat (first | refine blk_drewN ?_ _ | refine blk_drew ?_ | refine blk_alloc ?_ _)); refine blk_far ?_ NB171_181.out _; (with_reducible repeat (first | refine blk_drewN ?_ _ | refine blk_drew ?_ | refine blk_alloc ?_ _)); refine blk_far ?_ NB171_181.out _; (with_reducible repeat (first | refine blk_drewN ?_ _ | refine blk_drew ?_ | refine blk_alloc ?_ _)); exact BK171.out) hb); have n5_ := Aside0.mk (blk_below (g := gb181) (o := .cells #[.slice Ao12 t172.length co12, .slice Ao15 t175.length co15, .int .i64 t178, .bool t179] 36 (0, 0)) (by (with_reducible repeat (first | refine blk_drewN ?_ _ | refine blk_drew ?_ | refine blk_alloc ?_ _)); refine blk_put (cs := #[.slice Ao12 t172.length co12, .slice Ao15 t175.length co15, .int .i64 t178, .bool false]) ?_ 3 _ rfl; (with_reducible repeat (first | refine blk_drewN ?_ _ | refine blk_drew ?_ | refine blk_alloc ?_ _)); refine blk_put (cs := #[.slice Ao12 t172.length co12, .slice Ao15 t175.length co15, .int .i64 0, .bool false]) ?_ 2 _ rfl; (with_reducible repeat (first | refine blk_drewN ?_ _ | refine blk_drew ?_ | refine blk_alloc ?_ _)); refine blk_put (cs := #[.slice Ao12 t172.length co12, .slice none 0 0, .int .i64 0, .bool false]) ?_ 1 _ rfl; (with_reducible repeat (first | refine blk_drewN ?_ _ | refine blk_drew ?_ | refine blk_alloc ?_ _)); refine blk_put (cs := #[.slice none 0 0, .slice none 0 0, .int .i64 0, .bool false]) ?_ 0 _ rfl; (with_reducible repeat (first | refine blk_drewN ?_ _ | refine blk_drew ?_ | refine blk_alloc ?_ _)); exact BK181.out) hb); have n6_ := Aside0.mk (below_step (by repeat (first | (with_reducible first | exact HB.out | apply below_alloc | apply pw_below_drewN | apply below_drew1 | refine below_set ?_ GE171.out | refine below_set ?_ GE181.out) | exact HB.out)) hb); clear HO164; clear HO167; clear HO174; clear HO177; clear BK171; clear BK181; clear HB; have HO164 := n0_; have HO167 := n1_; have HO174 := n2_; have HO177 := n3_; have BK171 := n4_; have BK181 := n5_; have HB := n6_; clear n0_ n1_ n2_ n3_ n4_ n5_ n6_; (try clear hb); (try clear hb2); (try clear hk); (try clear hi)))
      go_meet
      case rel => exact ⟨_, (true), (by first | rfl | (simp; done) | (simp [*]; done)), H', ⟨by first | omega | exact Nat.le_refl _⟩, ⟨by (with_reducible repeat (first | apply Kd.R_alloc | apply Kd.R_drewN | apply Kd.R_drew)); exact Kd.R_mono HO164.out (fun _ hk => hk.2)⟩, ⟨by (with_reducible repeat (first | apply Kd.R_alloc | apply Kd.R_drewN | apply Kd.R_drew)); exact Kd.R_mono HO167.out (fun _ hk => hk.2)⟩, ⟨by (with_reducible repeat (first | apply Kd.R_alloc | apply Kd.R_drewN | apply Kd.R_drew)); exact Kd.R_mono HO174.out (fun _ hk => hk.2)⟩, ⟨by (with_reducible repeat (first | apply Kd.R_alloc | apply Kd.R_drewN | apply Kd.R_drew)); exact Kd.R_mono HO177.out (fun _ hk => hk.2)⟩, ⟨by (with_reducible repeat (first | refine blk_drewN ?_ _ | refine blk_drew ?_ | refine blk_alloc ?_ _)); exact BK171.out⟩, ⟨by (with_reducible repeat (first | refine blk_drewN ?_ _ | refine blk_drew ?_ | refine blk_alloc ?_ _)); exact BK181.out⟩, ⟨by repeat (first | (with_reducible first | exact HB.out | apply below_alloc | apply pw_below_drewN | apply below_drew1 | refine below_set ?_ GE171.out | refine below_set ?_ GE181.out) | exact HB.out)⟩⟩
  case rest =>
    clear HC4
    try clear c1
    try clear c2
    try clear p2
    try clear c6
    try clear c13
    try clear c17
    try clear c18
    try clear c21
    try clear c22
    try clear c23
    try clear hcz14_0
    try clear hcz14_1
    try clear hcz14_2
    try clear hcz14_3
    try clear hcz19_0
    try clear hcz19_1
    try clear hcz19_2
    try clear hcz19_3
    try clear hcz20_0
    try clear hcz20_1
    try clear hcz20_2
    try clear hcz20_3
    try clear hcz23_0
    try clear hcz23_1
    try clear hcz23_2
    try clear hcz23_3
    try clear hcz24_0
    try clear hcz24_1
    try clear hcz24_2
    try clear hcz24_3
    try clear hcz8_0
    try clear hcz8_1
    try clear hcz8_2
    try clear hcz8_3
    try clear hfz14_0
    try clear hfz14_1
    try clear hfz14_2
    try clear hfz14_3
    try clear hfz19_0
    try clear hfz19_1
    try clear hfz19_2
    try clear hfz19_3
    try clear hfz20_0
    try clear hfz20_1
    try clear hfz20_2
    try clear hfz20_3
    try clear hfz23_0
    try clear hfz23_1
    try clear hfz23_2
    try clear hfz23_3
    try clear hfz24_0
    try clear hfz24_1
    try clear hfz24_2
    try clear hfz24_3
    try clear hfz8_0
    try clear hfz8_1
    try clear hfz8_2
    try clear hfz8_3
    obtain ⟨kq, x29_3, rfl, HA, HJ3, HO_172000, HO_172001, HO_182000, HO_182001, BK171, BK181, HB⟩ := hcut
    cases kq with
    | zero => exact absurd HA.out (by simp [laws_FnExactNewDisk.j0])
    | succ kj3 =>
      have H := HA.out
      clear HA
      simp only [laws_FnExactNewDisk.j0] at H
      by_cases c26 : x29_3 = true
      · subst c26
        have H1 : (some false) = some r := by rw [if_pos rfl] at H; exact H
        clear H
        have H := H1
        clear H1
        obtain rfl := Option.some.inj H
        go_wp2
        go_ret
        exact ⟨by first | rfl | (simp [errW_none, errW_some] <;> rfl) | (simp [*, errW_none, errW_some] <;> rfl), by repeat (first | (with_reducible first | exact HB.out | apply below_alloc | apply pw_below_drewN | apply below_drew1 | refine below_set ?_ GE171.out | refine below_set ?_ GE181.out) | exact HB.out)⟩
      · replace c26 := Bool.eq_false_iff.mpr c26
        subst c26
        have H1 : ((laws_markDisk.f kj3 t172 t175 t178 t179 1).bind fun bt183 => ((laws_heldDisk.f kj3 bt183.2.1 bt183.2.2 t178 t179 1).bind fun t186 => (if t186 < 0 then (some false) else (if t186 = bt183.1 then ((impl_NewDisk.f a0).bind fun bt187 => ((laws_eqDisk.f kj3 bt187.1 bt187.2.1 bt187.2.2.1 bt187.2.2.2.1 t162 t165 t168 t169).bind fun t197 => (if t197 = true then (laws_FnExactNewDisk.j1 kj3 bt183.1 (bt187.2.2.2.2 != t170) bt183.2.1 bt183.2.2 t178 t179) else (laws_FnExactNewDisk.j1 kj3 bt183.1 true bt183.2.1 bt183.2.2 t178 t179)))) else (some false))))) = some r := by rw [if_neg (show ¬ (false = true) by decide)] at H; exact H
        clear H
        have H := H1
        clear H1
        replace H := Option.bind_eq_some_iff.mp H
        obtain ⟨⟨t183, t184, t185⟩, A270, H⟩ := H
        replace H : ((laws_heldDisk.f kj3 t184 t185 t178 t179 1).bind fun t186 => (if t186 < 0 then (some false) else (if t186 = t183 then ((impl_NewDisk.f a0).bind fun bt187 => ((laws_eqDisk.f kj3 bt187.1 bt187.2.1 bt187.2.2.1 bt187.2.2.2.1 t162 t165 t168 t169).bind fun t197 => (if t197 = true then (laws_FnExactNewDisk.j1 kj3 t183 (bt187.2.2.2.2 != t170) t184 t185 t178 t179) else (laws_FnExactNewDisk.j1 kj3 t183 true t184 t185 t178 t179)))) else (some false)))) = some r := H
        have A27 := Aside0.mk A270
        clear A270
        replace H := Option.bind_eq_some_iff.mp H
        obtain ⟨t186, A280, H⟩ := H
        replace H : (if t186 < 0 then (some false) else (if t186 = t183 then ((impl_NewDisk.f a0).bind fun bt187 => ((laws_eqDisk.f kj3 bt187.1 bt187.2.1 bt187.2.2.1 bt187.2.2.2.1 t162 t165 t168 t169).bind fun t197 => (if t197 = true then (laws_FnExactNewDisk.j1 kj3 t183 (bt187.2.2.2.2 != t170) t184 t185 t178 t179) else (laws_FnExactNewDisk.j1 kj3 t183 true t184 t185 t178 t179)))) else (some false))) = some r := H
        have A28 := Aside0.mk A280
        clear A280
        by_cases c29 : t186 < 0
        · rw [if_pos c29] at H
          have c29b0 : decide (t186 < 0) = true := decide_eq_true c29
          clear c29
          obtain rfl := Option.some.inj H
          have hnb30 := NB181_171.out
          have hnc30 := NB171_181.out
          have hcz31_0 : wc.cell? ⟨gb181, 0, none⟩ = some (.slice Ao12 t172.length co12) := (blk_cell BK181.out 0).trans rfl
          have hcz31_1 : wc.cell? ⟨gb181, 1, none⟩ = some (.slice Ao15 t175.length co15) := (blk_cell BK181.out 1).trans rfl
          have hcz31_2 : wc.cell? ⟨gb181, 2, none⟩ = some (.int .i64 t178) := (blk_cell BK181.out 2).trans rfl
          have hcz31_3 : wc.cell? ⟨gb181, 3, none⟩ = some (.bool t179) := (blk_cell BK181.out 3).trans rfl
          have hfz31_0 := blk_frozen BK181.out 0
          have hfz31_1 := blk_frozen BK181.out 1
          have hfz31_2 := blk_frozen BK181.out 2
          have hfz31_3 := blk_frozen BK181.out 3
          go_wp2_with (first | ((with_reducible refine gate_callee (f := 24) rfl ?_); refine goesL_ (some 32) rfl rfl Try.func24 (by kernel_rfl) rfl #[.agg #[.slice Ao12 t172.length co12, .slice Ao15 t175.length co15, .int .i64 t178, .bool t179], .int .i64 1] rfl (by (try simp only [List.map_toArray, List.map_cons, List.map_nil]); first | done | rfl | (simp only [List.length_drop, List.length_take]; rfl)) ?_; (with_reducible refine (laws_markDisk.calls kj3 (fun k_ => some k_ = (.slice Ao12 t172.length co12 : Value).ownBlock) (.slice Ao12 t172.length co12) t172 (fun k_ => some k_ = (.slice Ao15 t175.length co15 : Value).ownBlock) (.slice Ao15 t175.length co15) t175 t178 t179 1 t183 t184 t185 w _ ?side1 ?side2 ?side3 A27.out).mono ?_); (case side1 => repeat (first | (with_reducible first | exact HB.out | apply below_alloc | apply pw_below_drewN | apply below_drew1 | refine below_set ?_ GE171.out | refine below_set ?_ GE181.out) | exact HB.out)); (case side2 => exact Kd.R_tight rfl HO_182000.out); (case side3 => exact Kd.R_tight rfl HO_182001.out); rintro e w32 ⟨rfl, hy0, hy1, hb, hkp⟩; refine ⟨_, rfl, ?_⟩; have n0_ := Aside0.mk (Kd.R_mono (ok' := fun k_ => some k_ ≠ (.slice Ao12 t172.length co12 : Value).ownBlock) (Kd.R_keptB ((Kd.R_apart' HO_172000.out (Kd.R_typed HO_182001.out) (by decide))) hkp (fun k_ hk_ hs_ => Or.elim hs_ (fun e_ => (hk_.1) e_) (fun e_ => (hk_.2) e_))) (fun k_ hk_ => hk_.1.1)); have n1_ := Aside0.mk (Kd.R_mono (ok' := fun k_ => some k_ ≠ (.slice Ao15 t175.length co15 : Value).ownBlock) (Kd.R_keptB ((Kd.R_apart' HO_172001.out (Kd.R_typed HO_182000.out) (by decide))) hkp (fun k_ hk_ hs_ => Or.elim hs_ (fun e_ => (hk_.2) e_) (fun e_ => (hk_.1) e_))) (fun k_ hk_ => hk_.1.1)); have n2_ := Aside0.mk (Kd.R_reok rfl hy0 (fun k_ e_ => HO_182000.out.1 k_ e_)); have n3_ := Aside0.mk (Kd.R_reok rfl hy1 (fun k_ e_ => HO_182001.out.1 k_ e_)); have n4_ := Aside0.mk (blk_kept (by (with_reducible repeat (first | refine blk_drewN ?_ _ | refine blk_drew ?_ | refine blk_alloc ?_ _)); exact BK171.out) hkp (fun hs_ => Or.elim hs_ (fun e_ => (fun e_ => (Kd.R_ne HO_182000.out BK171.out (by decide)) e_) e_) (fun e_ => (fun e_ => (Kd.R_ne HO_182001.out BK171.out (by decide)) e_) e_))); have n5_ := Aside0.mk (blk_kept (by (with_reducible repeat (first | refine blk_drewN ?_ _ | refine blk_drew ?_ | refine blk_alloc ?_ _)); exact BK181.out) hkp (fun hs_ => Or.elim hs_ (fun e_ => (fun e_ => (Kd.R_ne HO_182000.out BK181.out (by decide)) e_) e_) (fun e_ => (fun e_ => (Kd.R_ne HO_182001.out BK181.out (by decide)) e_) e_))); have n6_ := Aside0.mk (hb); clear HO_172000; clear HO_172001; clear HO_182000; clear HO_182001; clear BK171; clear BK181; clear HB; have HO_172000 := n0_; have HO_172001 := n1_; have HO_182000 := n2_; have HO_182001 := n3_; have BK171 := n4_; have BK181 := n5_; have HB := n6_; clear n0_ n1_ n2_ n3_ n4_ n5_ n6_; (try clear hb); (try clear hkp); (try clear hy0); (try clear hy1); have hcz33_0 : w32.cell? ⟨gb181, 0, none⟩ = some (.slice Ao12 t172.length co12) := (blk_cell BK181.out 0).trans rfl; have hcz33_1 : w32.cell? ⟨gb181, 1, none⟩ = some (.slice Ao15 t175.length co15) := (blk_cell BK181.out 1).trans rfl; have hcz33_2 : w32.cell? ⟨gb181, 2, none⟩ = some (.int .i64 t178) := (blk_cell BK181.out 2).trans rfl; have hcz33_3 : w32.cell? ⟨gb181, 3, none⟩ = some (.bool t179) := (blk_cell BK181.out 3).trans rfl; have hfz33_0 := blk_frozen BK181.out 0; have hfz33_1 := blk_frozen BK181.out 1; have hfz33_2 := blk_frozen BK181.out 2; have hfz33_3 := blk_frozen BK181.out 3) | ((with_reducible refine gate_callee (f := 25) rfl ?_); refine goesL_ (some 35) rfl rfl Try.func25 (by kernel_rfl) rfl #[.agg #[.slice Ao12 t184.length co12, .slice Ao15 t185.length co15, .int .i64 t178, .bool t179], .int .i64 1] rfl (by (try simp only [List.map_toArray, List.map_cons, List.map_nil]); first | done | (rw [show t184.length = t172.length from (Kd.R_reads' HO_182000.out).1.symm, show t185.length = t175.length from (Kd.R_reads' HO_182001.out).1.symm] <;> rfl) | rfl | (simp only [List.length_drop, List.length_take]; rfl)) ?_; (with_reducible refine (laws_heldDisk.calls kj3 _ _ t184 _ _ t185 t178 t179 1 t186 _ ?side1 ?side2 ?side3 ?side4 A28.out).mono ?_); (case side1 => repeat (first | exact (Kd.R_reads' HO_182000.out).2.2 | (with_reducible refine Kd.C_alloc ?_ _) | (with_reducible refine Kd.C_drewN ?_ _) | (with_reducible refine Kd.C_drew ?_))); (case side2 => rw [show t184.length = t172.length from (Kd.R_reads' HO_182000.out).1.symm]; exact (Kd.R_reads' HO_182000.out).2.1); (case side3 => repeat (first | exact (Kd.R_reads' HO_182001.out).2.2 | (with_reducible refine Kd.C_alloc ?_ _) | (with_reducible refine Kd.C_drewN ?_ _) | (with_reducible refine Kd.C_drew ?_))); (case side4 => rw [show t185.length = t175.length from (Kd.R_reads' HO_182001.out).1.symm]; exact (Kd.R_reads' HO_182001.out).2.1); rintro e w34 ⟨rfl, hb⟩; refine ⟨_, rfl, ?_⟩; have n0_ := Aside0.mk (Kd.R_below (by (with_reducible repeat (first | apply Kd.R_alloc | apply Kd.R_drewN | apply Kd.R_drew)); exact HO_172000.out) hb); have n1_ := Aside0.mk (Kd.R_below (by (with_reducible repeat (first | apply Kd.R_alloc | apply Kd.R_drewN | apply Kd.R_drew)); exact HO_172001.out) hb); have n2_ := Aside0.mk (Kd.R_below (by (with_reducible repeat (first | apply Kd.R_alloc | apply Kd.R_drewN | apply Kd.R_drew)); exact HO_182000.out) hb); have n3_ := Aside0.mk (Kd.R_below (by (with_reducible repeat (first | apply Kd.R_alloc | apply Kd.R_drewN | apply Kd.R_drew)); exact HO_182001.out) hb); have n4_ := Aside0.mk (blk_below (g := gb171) (o := .cells #[.slice Ao7 t162.length co7, .slice Ao9 t165.length co9, .int .i64 t168, .bool t169] 36 (0, 0)) (by (with_reducible repeat (first | refine blk_drewN ?_ _ | refine blk_drew ?_ | refine blk_alloc ?_ _)); exact BK171.out) hb); have n5_ := Aside0.mk (blk_below (g := gb181) (o := .cells #[.slice Ao12 t172.length co12, .slice Ao15 t175.length co15, .int .i64 t178, .bool t179] 36 (0, 0)) (by (with_reducible repeat (first | refine blk_drewN ?_ _ | refine blk_drew ?_ | refine blk_alloc ?_ _)); exact BK181.out) hb); have n6_ := Aside0.mk (below_step (by repeat (first | (with_reducible first | exact HB.out | apply below_alloc | apply pw_below_drewN | apply below_drew1 | refine below_set ?_ GE171.out | refine below_set ?_ GE181.out) | exact HB.out)) hb); clear HO_172000; clear HO_172001; clear HO_182000; clear HO_182001; clear BK171; clear BK181; clear HB; have HO_172000 := n0_; have HO_172001 := n1_; have HO_182000 := n2_; have HO_182001 := n3_; have BK171 := n4_; have BK181 := n5_; have HB := n6_; clear n0_ n1_ n2_ n3_ n4_ n5_ n6_; (try clear hb); (try clear hb2); (try clear hk); (try clear hi)))
          go_ret
          exact ⟨by first | rfl | (simp [errW_none, errW_some] <;> rfl) | (simp [*, errW_none, errW_some] <;> rfl), by repeat (first | (with_reducible first | exact HB.out | apply below_alloc | apply pw_below_drewN | apply below_drew1 | refine below_set ?_ GE171.out | refine below_set ?_ GE181.out) | exact HB.out)⟩
        · rw [if_neg c29] at H
          have c29b0 : decide (t186 < 0) = false := decide_eq_false c29
          clear c29
          by_cases c35 : t186 = t183
          · rw [if_pos c35] at H
            have c35b0 : (t186 == t183) = true := beq_iff_eq.mpr c35
            have c35b1 : (t186 != t183) = false := bne_eq_false_iff_eq.mpr c35
            clear c35
            replace H := Option.bind_eq_some_iff.mp H
            obtain ⟨⟨t187, t190, t193, t194, t195⟩, A360, H⟩ := H
            replace H : ((laws_eqDisk.f kj3 t187 t190 t193 t194 t162 t165 t168 t169).bind fun t197 => (if t197 = true then (laws_FnExactNewDisk.j1 kj3 t183 (t195 != t170) t184 t185 t178 t179) else (laws_FnExactNewDisk.j1 kj3 t183 true t184 t185 t178 t179))) = some r := H
            have A36 := Aside0.mk A360
            clear A360
            have HC37 := Aside0.mk H
            clear H
            have hnb38 := NB181_171.out
            have hnc38 := NB171_181.out
            have hcz39_0 : wc.cell? ⟨gb181, 0, none⟩ = some (.slice Ao12 t172.length co12) := (blk_cell BK181.out 0).trans rfl
            have hcz39_1 : wc.cell? ⟨gb181, 1, none⟩ = some (.slice Ao15 t175.length co15) := (blk_cell BK181.out 1).trans rfl
            have hcz39_2 : wc.cell? ⟨gb181, 2, none⟩ = some (.int .i64 t178) := (blk_cell BK181.out 2).trans rfl
            have hcz39_3 : wc.cell? ⟨gb181, 3, none⟩ = some (.bool t179) := (blk_cell BK181.out 3).trans rfl
            have hfz39_0 := blk_frozen BK181.out 0
            have hfz39_1 := blk_frozen BK181.out 1
            have hfz39_2 := blk_frozen BK181.out 2
            have hfz39_3 := blk_frozen BK181.out 3
            go_upto_region 14 with (first | ((with_reducible refine gate_callee (f := 24) rfl ?_); refine goesL_ (some 32) rfl rfl Try.func24 (by kernel_rfl) rfl #[.agg #[.slice Ao12 t172.length co12, .slice Ao15 t175.length co15, .int .i64 t178, .bool t179], .int .i64 1] rfl (by (try simp only [List.map_toArray, List.map_cons, List.map_nil]); first | done | rfl | (simp only [List.length_drop, List.length_take]; rfl)) ?_; (with_reducible refine (laws_markDisk.calls kj3 (fun k_ => some k_ = (.slice Ao12 t172.length co12 : Value).ownBlock) (.slice Ao12 t172.length co12) t172 (fun k_ => some k_ = (.slice Ao15 t175.length co15 : Value).ownBlock) (.slice Ao15 t175.length co15) t175 t178 t179 1 t183 t184 t185 w _ ?side1 ?side2 ?side3 A27.out).mono ?_); (case side1 => repeat (first | (with_reducible first | exact HB.out | apply below_alloc | apply pw_below_drewN | apply below_drew1 | refine below_set ?_ GE171.out | refine below_set ?_ GE181.out) | exact HB.out)); (case side2 => exact Kd.R_tight rfl HO_182000.out); (case side3 => exact Kd.R_tight rfl HO_182001.out); rintro e w40 ⟨rfl, hy0, hy1, hb, hkp⟩; refine ⟨_, rfl, ?_⟩; have n0_ := Aside0.mk (Kd.R_mono (ok' := fun k_ => some k_ ≠ (.slice Ao12 t172.length co12 : Value).ownBlock) (Kd.R_keptB ((Kd.R_apart' HO_172000.out (Kd.R_typed HO_182001.out) (by decide))) hkp (fun k_ hk_ hs_ => Or.elim hs_ (fun e_ => (hk_.1) e_) (fun e_ => (hk_.2) e_))) (fun k_ hk_ => hk_.1.1)); have n1_ := Aside0.mk (Kd.R_mono (ok' := fun k_ => some k_ ≠ (.slice Ao15 t175.length co15 : Value).ownBlock) (Kd.R_keptB ((Kd.R_apart' HO_172001.out (Kd.R_typed HO_182000.out) (by decide))) hkp (fun k_ hk_ hs_ => Or.elim hs_ (fun e_ => (hk_.2) e_) (fun e_ => (hk_.1) e_))) (fun k_ hk_ => hk_.1.1)); have n2_ := Aside0.mk (Kd.R_reok rfl hy0 (fun k_ e_ => HO_182000.out.1 k_ e_)); have n3_ := Aside0.mk (Kd.R_reok rfl hy1 (fun k_ e_ => HO_182001.out.1 k_ e_)); have n4_ := Aside0.mk (blk_kept (by (with_reducible repeat (first | refine blk_drewN ?_ _ | refine blk_drew ?_ | refine blk_alloc ?_ _)); exact BK171.out) hkp (fun hs_ => Or.elim hs_ (fun e_ => (fun e_ => (Kd.R_ne HO_182000.out BK171.out (by decide)) e_) e_) (fun e_ => (fun e_ => (Kd.R_ne HO_182001.out BK171.out (by decide)) e_) e_))); have n5_ := Aside0.mk (blk_kept (by (with_reducible repeat (first | refine blk_drewN ?_ _ | refine blk_drew ?_ | refine blk_alloc ?_ _)); exact BK181.out) hkp (fun hs_ => Or.elim hs_ (fun e_ => (fun e_ => (Kd.R_ne HO_182000.out BK181.out (by decide)) e_) e_) (fun e_ => (fun e_ => (Kd.R_ne HO_182001.out BK181.out (by decide)) e_) e_))); have n6_ := Aside0.mk (hb); clear HO_172000; clear HO_172001; clear HO_182000; clear HO_182001; clear BK171; clear BK181; clear HB; have HO_172000 := n0_; have HO_172001 := n1_; have HO_182000 := n2_; have HO_182001 := n3_; have BK171 := n4_; have BK181 := n5_; have HB := n6_; clear n0_ n1_ n2_ n3_ n4_ n5_ n6_; (try clear hb); (try clear hkp); (try clear hy0); (try clear hy1); have hcz41_0 : w40.cell? ⟨gb181, 0, none⟩ = some (.slice Ao12 t172.length co12) := (blk_cell BK181.out 0).trans rfl; have hcz41_1 : w40.cell? ⟨gb181, 1, none⟩ = some (.slice Ao15 t175.length co15) := (blk_cell BK181.out 1).trans rfl; have hcz41_2 : w40.cell? ⟨gb181, 2, none⟩ = some (.int .i64 t178) := (blk_cell BK181.out 2).trans rfl; have hcz41_3 : w40.cell? ⟨gb181, 3, none⟩ = some (.bool t179) := (blk_cell BK181.out 3).trans rfl; have hfz41_0 := blk_frozen BK181.out 0; have hfz41_1 := blk_frozen BK181.out 1; have hfz41_2 := blk_frozen BK181.out 2; have hfz41_3 := blk_frozen BK181.out 3) | ((with_reducible refine gate_callee (f := 25) rfl ?_); refine goesL_ (some 35) rfl rfl Try.func25 (by kernel_rfl) rfl #[.agg #[.slice Ao12 t184.length co12, .slice Ao15 t185.length co15, .int .i64 t178, .bool t179], .int .i64 1] rfl (by (try simp only [List.map_toArray, List.map_cons, List.map_nil]); first | done | (rw [show t184.length = t172.length from (Kd.R_reads' HO_182000.out).1.symm, show t185.length = t175.length from (Kd.R_reads' HO_182001.out).1.symm] <;> rfl) | rfl | (simp only [List.length_drop, List.length_take]; rfl)) ?_; (with_reducible refine (laws_heldDisk.calls kj3 _ _ t184 _ _ t185 t178 t179 1 t186 _ ?side1 ?side2 ?side3 ?side4 A28.out).mono ?_); (case side1 => repeat (first | exact (Kd.R_reads' HO_182000.out).2.2 | (with_reducible refine Kd.C_alloc ?_ _) | (with_reducible refine Kd.C_drewN ?_ _) | (with_reducible refine Kd.C_drew ?_))); (case side2 => rw [show t184.length = t172.length from (Kd.R_reads' HO_182000.out).1.symm]; exact (Kd.R_reads' HO_182000.out).2.1); (case side3 => repeat (first | exact (Kd.R_reads' HO_182001.out).2.2 | (with_reducible refine Kd.C_alloc ?_ _) | (with_reducible refine Kd.C_drewN ?_ _) | (with_reducible refine Kd.C_drew ?_))); (case side4 => rw [show t185.length = t175.length from (Kd.R_reads' HO_182001.out).1.symm]; exact (Kd.R_reads' HO_182001.out).2.1); rintro e w42 ⟨rfl, hb⟩; refine ⟨_, rfl, ?_⟩; have n0_ := Aside0.mk (Kd.R_below (by (with_reducible repeat (first | apply Kd.R_alloc | apply Kd.R_drewN | apply Kd.R_drew)); exact HO_172000.out) hb); have n1_ := Aside0.mk (Kd.R_below (by (with_reducible repeat (first | apply Kd.R_alloc | apply Kd.R_drewN | apply Kd.R_drew)); exact HO_172001.out) hb); have n2_ := Aside0.mk (Kd.R_below (by (with_reducible repeat (first | apply Kd.R_alloc | apply Kd.R_drewN | apply Kd.R_drew)); exact HO_182000.out) hb); have n3_ := Aside0.mk (Kd.R_below (by (with_reducible repeat (first | apply Kd.R_alloc | apply Kd.R_drewN | apply Kd.R_drew)); exact HO_182001.out) hb); have n4_ := Aside0.mk (blk_below (g := gb171) (o := .cells #[.slice Ao7 t162.length co7, .slice Ao9 t165.length co9, .int .i64 t168, .bool t169] 36 (0, 0)) (by (with_reducible repeat (first | refine blk_drewN ?_ _ | refine blk_drew ?_ | refine blk_alloc ?_ _)); exact BK171.out) hb); have n5_ := Aside0.mk (blk_below (g := gb181) (o := .cells #[.slice Ao12 t172.length co12, .slice Ao15 t175.length co15, .int .i64 t178, .bool t179] 36 (0, 0)) (by (with_reducible repeat (first | refine blk_drewN ?_ _ | refine blk_drew ?_ | refine blk_alloc ?_ _)); exact BK181.out) hb); have n6_ := Aside0.mk (below_step (by repeat (first | (with_reducible first | exact HB.out | apply below_alloc | apply pw_below_drewN | apply below_drew1 | refine below_set ?_ GE171.out | refine below_set ?_ GE181.out) | exact HB.out)) hb); clear HO_172000; clear HO_172001; clear HO_182000; clear HO_182001; clear BK171; clear BK181; clear HB; have HO_172000 := n0_; have HO_172001 := n1_; have HO_182000 := n2_; have HO_182001 := n3_; have BK171 := n4_; have BK181 := n5_; have HB := n6_; clear n0_ n1_ n2_ n3_ n4_ n5_ n6_; (try clear hb); (try clear hb2); (try clear hk); (try clear hi)) | ((with_reducible refine gate_callee (f := 22) rfl ?_); refine goesL_ (some 43) rfl rfl Try.func22 (by kernel_rfl) rfl #[.int .i64 a0] rfl (by (try simp only [List.map_toArray, List.map_cons, List.map_nil]); first | done | rfl | (simp only [List.length_drop, List.length_take]; rfl)) ?_; (with_reducible refine (impl_NewDisk.calls a0 t187 t190 t193 t194 t195 _ A36.out).mono ?_); rintro e w43 ⟨v188, v191, rfl, ho0, ho1, hb⟩; refine ⟨_, rfl, ?_⟩; have n0_ := Aside0.mk (Kd.R_elder' (by (with_reducible repeat (first | apply Kd.R_alloc | apply Kd.R_drewN | apply Kd.R_drew)); exact HO_172000.out) (Kd.R_base ho0) hb); have n1_ := Aside0.mk (Kd.R_elder' (by (with_reducible repeat (first | apply Kd.R_alloc | apply Kd.R_drewN | apply Kd.R_drew)); exact HO_172001.out) (Kd.R_base ho1) hb); have n2_ := Aside0.mk (Kd.R_elder' (by (with_reducible repeat (first | apply Kd.R_alloc | apply Kd.R_drewN | apply Kd.R_drew)); exact HO_182000.out) (Kd.R_base ho0) hb); have n3_ := Aside0.mk (Kd.R_elder' (by (with_reducible repeat (first | apply Kd.R_alloc | apply Kd.R_drewN | apply Kd.R_drew)); exact HO_182001.out) (Kd.R_base ho1) hb); have n4_ := Aside0.mk (Kd.R_lower (Kd.R_new' (Kd.R_new' ho0 (Kd.R_lt (by (with_reducible repeat (first | apply Kd.R_alloc | apply Kd.R_drewN | apply Kd.R_drew)); exact HO_172000.out))) (Kd.R_lt (by (with_reducible repeat (first | apply Kd.R_alloc | apply Kd.R_drewN | apply Kd.R_drew)); exact HO_182000.out))) (below_size (by repeat (first | (with_reducible first | exact HB.out | apply below_alloc | apply pw_below_drewN | apply below_drew1 | refine below_set ?_ GE171.out | refine below_set ?_ GE181.out) | exact HB.out)))); have n5_ := Aside0.mk (Kd.R_lower (Kd.R_new' (Kd.R_new' ho1 (Kd.R_lt (by (with_reducible repeat (first | apply Kd.R_alloc | apply Kd.R_drewN | apply Kd.R_drew)); exact HO_172001.out))) (Kd.R_lt (by (with_reducible repeat (first | apply Kd.R_alloc | apply Kd.R_drewN | apply Kd.R_drew)); exact HO_182001.out))) (below_size (by repeat (first | (with_reducible first | exact HB.out | apply below_alloc | apply pw_below_drewN | apply below_drew1 | refine below_set ?_ GE171.out | refine below_set ?_ GE181.out) | exact HB.out)))); have n6_ := Aside0.mk (blk_below (g := gb171) (o := .cells #[.slice Ao7 t162.length co7, .slice Ao9 t165.length co9, .int .i64 t168, .bool t169] 36 (0, 0)) (by (with_reducible repeat (first | refine blk_drewN ?_ _ | refine blk_drew ?_ | refine blk_alloc ?_ _)); exact BK171.out) hb); have n7_ := Aside0.mk (blk_below (g := gb181) (o := .cells #[.slice Ao12 t172.length co12, .slice Ao15 t175.length co15, .int .i64 t178, .bool t179] 36 (0, 0)) (by (with_reducible repeat (first | refine blk_drewN ?_ _ | refine blk_drew ?_ | refine blk_alloc ?_ _)); exact BK181.out) hb); have n8_ := Aside0.mk (below_step (by repeat (first | (with_reducible first | exact HB.out | apply below_alloc | apply pw_below_drewN | apply below_drew1 | refine below_set ?_ GE171.out | refine below_set ?_ GE181.out) | exact HB.out)) hb); clear HO_172000; clear HO_172001; clear HO_182000; clear HO_182001; clear BK171; clear BK181; clear HB; have HO_172000 := n0_; have HO_172001 := n1_; have HO_182000 := n2_; have HO_182001 := n3_; have HO189 := n4_; have HO192 := n5_; have BK171 := n6_; have BK181 := n7_; have HB := n8_; clear n0_ n1_ n2_ n3_ n4_ n5_ n6_ n7_ n8_; (try clear hb); (try clear hb2); (try clear hk); (try clear hi); (try clear ho0); (try clear ho1)) | ((with_reducible refine gate_dst (N := 9) rfl ?_); refine box_event ?hg (N := 9) ?hd (cs := #[.slice none 0 0, .slice none 0 0, .int .i64 0, .bool false]) (t := 36) ?hr ?_; (case hd => rfl); (case hg => rfl); (case hr => first | (go_simp; done) | (go_simp; rfl)); intro gb196 hg w44 hbox hb; have n0_ := Aside0.mk (Kd.R_below (by (with_reducible repeat (first | apply Kd.R_alloc | apply Kd.R_drewN | apply Kd.R_drew)); exact HO_172000.out) hb); have n1_ := Aside0.mk (Kd.R_below (by (with_reducible repeat (first | apply Kd.R_alloc | apply Kd.R_drewN | apply Kd.R_drew)); exact HO_172001.out) hb); have n2_ := Aside0.mk (Kd.R_below (by (with_reducible repeat (first | apply Kd.R_alloc | apply Kd.R_drewN | apply Kd.R_drew)); exact HO_182000.out) hb); have n3_ := Aside0.mk (Kd.R_below (by (with_reducible repeat (first | apply Kd.R_alloc | apply Kd.R_drewN | apply Kd.R_drew)); exact HO_182001.out) hb); have n4_ := Aside0.mk (Kd.R_below (by (with_reducible repeat (first | apply Kd.R_alloc | apply Kd.R_drewN | apply Kd.R_drew)); exact HO189.out) hb); have n5_ := Aside0.mk (Kd.R_below (by (with_reducible repeat (first | apply Kd.R_alloc | apply Kd.R_drewN | apply Kd.R_drew)); exact HO192.out) hb); have n6_ := Aside0.mk (blk_below (g := gb171) (o := .cells #[.slice Ao7 t162.length co7, .slice Ao9 t165.length co9, .int .i64 t168, .bool t169] 36 (0, 0)) (by (with_reducible repeat (first | refine blk_drewN ?_ _ | refine blk_drew ?_ | refine blk_alloc ?_ _)); exact BK171.out) hb); have n7_ := Aside0.mk (blk_below (g := gb181) (o := .cells #[.slice Ao12 t172.length co12, .slice Ao15 t175.length co15, .int .i64 t178, .bool t179] 36 (0, 0)) (by (with_reducible repeat (first | refine blk_drewN ?_ _ | refine blk_drew ?_ | refine blk_alloc ?_ _)); exact BK181.out) hb); have n8_ := Aside0.mk (below_step (by repeat (first | (with_reducible first | exact HB.out | apply below_alloc | apply pw_below_drewN | apply below_drew1 | refine below_set ?_ GE171.out | refine below_set ?_ GE181.out) | exact HB.out)) hb); have n9_ := Aside0.mk (hbox); have n10_ := Aside0.mk ((by rw [hg]; exact (below_size (by repeat (first | (with_reducible first | exact HB.out | apply below_alloc | apply pw_below_drewN | apply below_drew1 | refine below_set ?_ GE171.out | refine below_set ?_ GE181.out) | exact HB.out))) : w.heap.size ≤ gb196)); have n11_ := Aside0.mk ((by rw [hg]; exact (below_size (by repeat (first | (with_reducible first | exact HB.out | apply below_alloc | apply pw_below_drewN | apply below_drew1 | refine below_set ?_ GE171.out | refine below_set ?_ GE181.out) | exact HB.out))) : w.heap.size ≤ gb196)); have n12_ := Aside0.mk ((by rw [hg]; exact Nat.ne_of_lt (blk_lt (g := gb171) (o := .cells #[.slice Ao7 t162.length co7, .slice Ao9 t165.length co9, .int .i64 t168, .bool t169] 36 (0, 0)) (by (with_reducible repeat (first | refine blk_drewN ?_ _ | refine blk_drew ?_ | refine blk_alloc ?_ _)); exact BK171.out)) : gb171 ≠ gb196)); have n13_ := Aside0.mk ((by rw [hg]; exact Nat.ne_of_gt (blk_lt (g := gb171) (o := .cells #[.slice Ao7 t162.length co7, .slice Ao9 t165.length co9, .int .i64 t168, .bool t169] 36 (0, 0)) (by (with_reducible repeat (first | refine blk_drewN ?_ _ | refine blk_drew ?_ | refine blk_alloc ?_ _)); exact BK171.out)) : gb196 ≠ gb171)); have n14_ := Aside0.mk ((by rw [hg]; exact Nat.ne_of_lt (blk_lt (g := gb181) (o := .cells #[.slice Ao12 t172.length co12, .slice Ao15 t175.length co15, .int .i64 t178, .bool t179] 36 (0, 0)) (by (with_reducible repeat (first | refine blk_drewN ?_ _ | refine blk_drew ?_ | refine blk_alloc ?_ _)); exact BK181.out)) : gb181 ≠ gb196)); have n15_ := Aside0.mk ((by rw [hg]; exact Nat.ne_of_gt (blk_lt (g := gb181) (o := .cells #[.slice Ao12 t172.length co12, .slice Ao15 t175.length co15, .int .i64 t178, .bool t179] 36 (0, 0)) (by (with_reducible repeat (first | refine blk_drewN ?_ _ | refine blk_drew ?_ | refine blk_alloc ?_ _)); exact BK181.out)) : gb196 ≠ gb181)); clear HO_172000; clear HO_172001; clear HO_182000; clear HO_182001; clear HO189; clear HO192; clear BK171; clear BK181; clear HB; have HO_172000 := n0_; have HO_172001 := n1_; have HO_182000 := n2_; have HO_182001 := n3_; have HO189 := n4_; have HO192 := n5_; have BK171 := n6_; have BK181 := n7_; have HB := n8_; have BK196 := n9_; have GW196 := n10_; have GE196 := n11_; have NB171_196 := n12_; have NB196_171 := n13_; have NB181_196 := n14_; have NB196_181 := n15_; clear n0_ n1_ n2_ n3_ n4_ n5_ n6_ n7_ n8_ n9_ n10_ n11_ n12_ n13_ n14_ n15_; clear hb hbox hg; obtain ⟨Ao45, co45, eo45⟩ := Kd.R_slice HO189.out; subst eo45; have hnb46 := NB196_171.out; have hnc46 := NB171_196.out; have hnb47 := NB196_181.out; have hnc47 := NB181_196.out; have hcz48_0 : w44.cell? ⟨gb196, 0, none⟩ = some (.slice none 0 0) := (blk_cell BK196.out 0).trans rfl; have hcz48_1 : w44.cell? ⟨gb196, 1, none⟩ = some (.slice none 0 0) := (blk_cell BK196.out 1).trans rfl; have hcz48_2 : w44.cell? ⟨gb196, 2, none⟩ = some (.int .i64 0) := (blk_cell BK196.out 2).trans rfl; have hcz48_3 : w44.cell? ⟨gb196, 3, none⟩ = some (.bool false) := (blk_cell BK196.out 3).trans rfl; have hfz48_0 := blk_frozen BK196.out 0; have hfz48_1 := blk_frozen BK196.out 1; have hfz48_2 := blk_frozen BK196.out 2; have hfz48_3 := blk_frozen BK196.out 3; obtain ⟨Ao49, co49, eo49⟩ := Kd.R_slice HO192.out; subst eo49))
            (try simp only [Act.put, List.setIfInBounds_toArray, List.set_cons_zero, List.set_cons_succ])
            go_cut [54] (fun v54 wc => ∃ (kq : Nat) (x54_36 : Bool), v54 = .bool x54_36 ∧ Aside0 (laws_FnExactNewDisk.j1 kq t183 x54_36 t184 t185 t178 t179 = some r) ∧ Aside0 (kq ≤ kj3) ∧ Aside0 (Kd.R Kd.string 9 wc w.heap.size (fun k_ => some k_ ≠ ((.slice Ao12 t172.length co12) : Value).ownBlock ∧ some k_ ≠ ((.slice Ao45 t187.length co45) : Value).ownBlock) (.slice Ao7 t162.length co7) t162) ∧ Aside0 (Kd.R k131 131 wc w.heap.size (fun k_ => some k_ ≠ ((.slice Ao15 t175.length co15) : Value).ownBlock ∧ some k_ ≠ ((.slice Ao49 t190.length co49) : Value).ownBlock) (.slice Ao9 t165.length co9) t165) ∧ Aside0 (Kd.R Kd.string 9 wc w.heap.size (fun k_ => some k_ ≠ ((.slice Ao7 t162.length co7) : Value).ownBlock ∧ some k_ ≠ ((.slice Ao45 t187.length co45) : Value).ownBlock) (.slice Ao12 t172.length co12) t184) ∧ Aside0 (Kd.R k131 131 wc w.heap.size (fun k_ => some k_ ≠ ((.slice Ao9 t165.length co9) : Value).ownBlock ∧ some k_ ≠ ((.slice Ao49 t190.length co49) : Value).ownBlock) (.slice Ao15 t175.length co15) t185) ∧ Aside0 (Kd.R Kd.string 9 wc w.heap.size (fun k_ => some k_ ≠ ((.slice Ao7 t162.length co7) : Value).ownBlock ∧ some k_ ≠ ((.slice Ao12 t172.length co12) : Value).ownBlock) (.slice Ao45 t187.length co45) t187) ∧ Aside0 (Kd.R k131 131 wc w.heap.size (fun k_ => some k_ ≠ ((.slice Ao9 t165.length co9) : Value).ownBlock ∧ some k_ ≠ ((.slice Ao15 t175.length co15) : Value).ownBlock) (.slice Ao49 t190.length co49) t190) ∧ Aside0 (wc.heap[gb171]? = some (.cells #[(.slice Ao7 t162.length co7), (.slice Ao9 t165.length co9), .int .i64 t168, .bool t169] 36 (0, 0))) ∧ Aside0 (wc.heap[gb181]? = some (.cells #[(.slice Ao12 t172.length co12), (.slice Ao15 t175.length co15), .int .i64 t178, .bool t179] 36 (0, 0))) ∧ Aside0 (wc.heap[gb196]? = some (.cells #[(.slice Ao45 t187.length co45), (.slice Ao49 t190.length co49), .int .i64 t193, .bool t194] 36 (0, 0))) ∧ Aside0 (Below w.heap.size w wc))
            case first =>
              have H := HC37.out
              clear HC37
              replace H := Option.bind_eq_some_iff.mp H
              obtain ⟨t197, A500, H⟩ := H
              replace H : (if t197 = true then (laws_FnExactNewDisk.j1 kj3 t183 (t195 != t170) t184 t185 t178 t179) else (laws_FnExactNewDisk.j1 kj3 t183 true t184 t185 t178 t179)) = some r := H
              have A50 := Aside0.mk A500
              clear A500
              by_cases c51 : t197 = true
              · subst c51
                have H1 : (laws_FnExactNewDisk.j1 kj3 t183 (t195 != t170) t184 t185 t178 t179) = some r := by rw [if_pos rfl] at H; exact H
                clear H
                have H := H1
                clear H1
                have H' := Aside0.mk H
                clear H
                have hnb52 := NB196_171.out
                have hnc52 := NB171_196.out
                have hnb53 := NB196_181.out
                have hnc53 := NB181_196.out
                have hcz54_0 : w44.cell? ⟨gb196, 0, none⟩ = some (.slice none 0 0) := (blk_cell BK196.out 0).trans rfl
                have hcz54_1 : w44.cell? ⟨gb196, 1, none⟩ = some (.slice none 0 0) := (blk_cell BK196.out 1).trans rfl
                have hcz54_2 : w44.cell? ⟨gb196, 2, none⟩ = some (.int .i64 0) := (blk_cell BK196.out 2).trans rfl
                have hcz54_3 : w44.cell? ⟨gb196, 3, none⟩ = some (.bool false) := (blk_cell BK196.out 3).trans rfl
                have hfz54_0 := blk_frozen BK196.out 0
                have hfz54_1 := blk_frozen BK196.out 1
                have hfz54_2 := blk_frozen BK196.out 2
                have hfz54_3 := blk_frozen BK196.out 3
                have hnb55 := NB171_181.out
                have hnc55 := NB181_171.out
                have hcz56_0 : w44.cell? ⟨gb171, 0, none⟩ = some (.slice Ao7 t162.length co7) := (blk_cell BK171.out 0).trans rfl
                have hcz56_1 : w44.cell? ⟨gb171, 1, none⟩ = some (.slice Ao9 t165.length co9) := (blk_cell BK171.out 1).trans rfl
                have hcz56_2 : w44.cell? ⟨gb171, 2, none⟩ = some (.int .i64 t168) := (blk_cell BK171.out 2).trans rfl
                have hcz56_3 : w44.cell? ⟨gb171, 3, none⟩ = some (.bool t169) := (blk_cell BK171.out 3).trans rfl
                have hfz56_0 := blk_frozen BK171.out 0
                have hfz56_1 := blk_frozen BK171.out 1
                have hfz56_2 := blk_frozen BK171.out 2
                have hfz56_3 := blk_frozen BK171.out 3
                go_wp2_with (first | ((with_reducible refine gate_callee (f := 23) rfl ?_); refine goesL_ (some 48) rfl rfl Try.func23 (by kernel_rfl) rfl #[.agg #[.slice Ao45 t187.length co45, .slice Ao49 t190.length co49, .int .i64 t193, .bool t194], .agg #[.slice Ao7 t162.length co7, .slice Ao9 t165.length co9, .int .i64 t168, .bool t169]] rfl (by (try simp only [List.map_toArray, List.map_cons, List.map_nil]); first | done | rfl | (simp only [List.length_drop, List.length_take]; rfl)) ?_; (with_reducible refine (laws_eqDisk.calls kj3 _ _ t187 _ _ t190 t193 t194 _ _ t162 _ _ t165 t168 t169 true _ ?side1 ?side2 ?side3 ?side4 ?side5 ?side6 ?side7 ?side8 A50.out).mono ?_); (case side1 => refine (Kd.R_reads' (e := 9) (base := w.heap.size) (ok := fun k_ => ((True ∧ some k_ ≠ (.slice Ao7 t162.length co7 : Value).ownBlock) ∧ some k_ ≠ (.slice Ao12 t172.length co12 : Value).ownBlock)) (n := t187.length) (c := co45) ?_).2.2; exact (by (with_reducible repeat (first | apply Kd.R_alloc | apply Kd.R_drewN | apply Kd.R_drew)); exact (Kd.R_mono (Kd.R_far (p := ⟨gb196, 3, none⟩) (Kd.R_far (p := ⟨gb196, 2, none⟩) (Kd.R_far (p := ⟨gb196, 1, none⟩) (Kd.R_far (p := ⟨gb196, 0, none⟩) (Kd.R_types HO189.out BK196.out (by decide)) (fun _ hk => hk.2) (.slice Ao45 t187.length co45)) (fun _ hk => hk.2) (.slice Ao49 t190.length co49)) (fun _ hk => hk.2) (.int .i64 t193)) (fun _ hk => hk.2) (.bool t194)) (fun _ h_ => h_.1)))); (case side2 => exact (Kd.R_reads' HO189.out).2.1); (case side3 => refine (Kd.R_reads' (e := 131) (base := w.heap.size) (ok := fun k_ => ((True ∧ some k_ ≠ (.slice Ao9 t165.length co9 : Value).ownBlock) ∧ some k_ ≠ (.slice Ao15 t175.length co15 : Value).ownBlock)) (n := t190.length) (c := co49) ?_).2.2; exact (by (with_reducible repeat (first | apply Kd.R_alloc | apply Kd.R_drewN | apply Kd.R_drew)); exact (Kd.R_mono (Kd.R_far (p := ⟨gb196, 3, none⟩) (Kd.R_far (p := ⟨gb196, 2, none⟩) (Kd.R_far (p := ⟨gb196, 1, none⟩) (Kd.R_far (p := ⟨gb196, 0, none⟩) (Kd.R_types HO192.out BK196.out (by decide)) (fun _ hk => hk.2) (.slice Ao45 t187.length co45)) (fun _ hk => hk.2) (.slice Ao49 t190.length co49)) (fun _ hk => hk.2) (.int .i64 t193)) (fun _ hk => hk.2) (.bool t194)) (fun _ h_ => h_.1)))); (case side4 => exact (Kd.R_reads' HO192.out).2.1); (case side5 => refine (Kd.R_reads' (e := 9) (base := w.heap.size) (ok := fun k_ => (some k_ ≠ (.slice Ao12 t172.length co12 : Value).ownBlock ∧ some k_ ≠ (.slice Ao45 t187.length co45 : Value).ownBlock)) (n := t162.length) (c := co7) ?_).2.2; exact (by (with_reducible repeat (first | apply Kd.R_alloc | apply Kd.R_drewN | apply Kd.R_drew)); exact (Kd.R_mono (Kd.R_far (p := ⟨gb196, 3, none⟩) (Kd.R_far (p := ⟨gb196, 2, none⟩) (Kd.R_far (p := ⟨gb196, 1, none⟩) (Kd.R_far (p := ⟨gb196, 0, none⟩) (Kd.R_types HO_172000.out BK196.out (by decide)) (fun _ hk => hk.2) (.slice Ao45 t187.length co45)) (fun _ hk => hk.2) (.slice Ao49 t190.length co49)) (fun _ hk => hk.2) (.int .i64 t193)) (fun _ hk => hk.2) (.bool t194)) (fun _ h_ => h_.1)))); (case side6 => exact (Kd.R_reads' HO_172000.out).2.1); (case side7 => refine (Kd.R_reads' (e := 131) (base := w.heap.size) (ok := fun k_ => (some k_ ≠ (.slice Ao15 t175.length co15 : Value).ownBlock ∧ some k_ ≠ (.slice Ao49 t190.length co49 : Value).ownBlock)) (n := t165.length) (c := co9) ?_).2.2; exact (by (with_reducible repeat (first | apply Kd.R_alloc | apply Kd.R_drewN | apply Kd.R_drew)); exact (Kd.R_mono (Kd.R_far (p := ⟨gb196, 3, none⟩) (Kd.R_far (p := ⟨gb196, 2, none⟩) (Kd.R_far (p := ⟨gb196, 1, none⟩) (Kd.R_far (p := ⟨gb196, 0, none⟩) (Kd.R_types HO_172001.out BK196.out (by decide)) (fun _ hk => hk.2) (.slice Ao45 t187.length co45)) (fun _ hk => hk.2) (.slice Ao49 t190.length co49)) (fun _ hk => hk.2) (.int .i64 t193)) (fun _ hk => hk.2) (.bool t194)) (fun _ h_ => h_.1)))); (case side8 => exact (Kd.R_reads' HO_172001.out).2.1); rintro e w57 ⟨rfl, hb⟩; refine ⟨_, rfl, ?_⟩; have n0_ := Aside0.mk (Kd.R_below (by (with_reducible repeat (first | apply Kd.R_alloc | apply Kd.R_drewN | apply Kd.R_drew)); exact (Kd.R_mono (Kd.R_far (p := ⟨gb196, 3, none⟩) (Kd.R_far (p := ⟨gb196, 2, none⟩) (Kd.R_far (p := ⟨gb196, 1, none⟩) (Kd.R_far (p := ⟨gb196, 0, none⟩) (Kd.R_types HO_172000.out BK196.out (by decide)) (fun _ hk => hk.2) (.slice Ao45 t187.length co45)) (fun _ hk => hk.2) (.slice Ao49 t190.length co49)) (fun _ hk => hk.2) (.int .i64 t193)) (fun _ hk => hk.2) (.bool t194)) (fun _ h_ => h_.1))) hb); have n1_ := Aside0.mk (Kd.R_below (by (with_reducible repeat (first | apply Kd.R_alloc | apply Kd.R_drewN | apply Kd.R_drew)); exact (Kd.R_mono (Kd.R_far (p := ⟨gb196, 3, none⟩) (Kd.R_far (p := ⟨gb196, 2, none⟩) (Kd.R_far (p := ⟨gb196, 1, none⟩) (Kd.R_far (p := ⟨gb196, 0, none⟩) (Kd.R_types HO_172001.out BK196.out (by decide)) (fun _ hk => hk.2) (.slice Ao45 t187.length co45)) (fun _ hk => hk.2) (.slice Ao49 t190.length co49)) (fun _ hk => hk.2) (.int .i64 t193)) (fun _ hk => hk.2) (.bool t194)) (fun _ h_ => h_.1))) hb); have n2_ := Aside0.mk (Kd.R_below (by (with_reducible repeat (first | apply Kd.R_alloc | apply Kd.R_drewN | apply Kd.R_drew)); exact (Kd.R_mono (Kd.R_far (p := ⟨gb196, 3, none⟩) (Kd.R_far (p := ⟨gb196, 2, none⟩) (Kd.R_far (p := ⟨gb196, 1, none⟩) (Kd.R_far (p := ⟨gb196, 0, none⟩) (Kd.R_types HO_182000.out BK196.out (by decide)) (fun _ hk => hk.2) (.slice Ao45 t187.length co45)) (fun _ hk => hk.2) (.slice Ao49 t190.length co49)) (fun _ hk => hk.2) (.int .i64 t193)) (fun _ hk => hk.2) (.bool t194)) (fun _ h_ => h_.1))) hb); have n3_ := Aside0.mk (Kd.R_below (by (with_reducible repeat (first | apply Kd.R_alloc | apply Kd.R_drewN | apply Kd.R_drew)); exact (Kd.R_mono (Kd.R_far (p := ⟨gb196, 3, none⟩) (Kd.R_far (p := ⟨gb196, 2, none⟩) (Kd.R_far (p := ⟨gb196, 1, none⟩) (Kd.R_far (p := ⟨gb196, 0, none⟩) (Kd.R_types HO_182001.out BK196.out (by decide)) (fun _ hk => hk.2) (.slice Ao45 t187.length co45)) (fun _ hk => hk.2) (.slice Ao49 t190.length co49)) (fun _ hk => hk.2) (.int .i64 t193)) (fun _ hk => hk.2) (.bool t194)) (fun _ h_ => h_.1))) hb); have n4_ := Aside0.mk (Kd.R_below (by (with_reducible repeat (first | apply Kd.R_alloc | apply Kd.R_drewN | apply Kd.R_drew)); exact (Kd.R_mono (Kd.R_far (p := ⟨gb196, 3, none⟩) (Kd.R_far (p := ⟨gb196, 2, none⟩) (Kd.R_far (p := ⟨gb196, 1, none⟩) (Kd.R_far (p := ⟨gb196, 0, none⟩) (Kd.R_types HO189.out BK196.out (by decide)) (fun _ hk => hk.2) (.slice Ao45 t187.length co45)) (fun _ hk => hk.2) (.slice Ao49 t190.length co49)) (fun _ hk => hk.2) (.int .i64 t193)) (fun _ hk => hk.2) (.bool t194)) (fun _ h_ => h_.1))) hb); have n5_ := Aside0.mk (Kd.R_below (by (with_reducible repeat (first | apply Kd.R_alloc | apply Kd.R_drewN | apply Kd.R_drew)); exact (Kd.R_mono (Kd.R_far (p := ⟨gb196, 3, none⟩) (Kd.R_far (p := ⟨gb196, 2, none⟩) (Kd.R_far (p := ⟨gb196, 1, none⟩) (Kd.R_far (p := ⟨gb196, 0, none⟩) (Kd.R_types HO192.out BK196.out (by decide)) (fun _ hk => hk.2) (.slice Ao45 t187.length co45)) (fun _ hk => hk.2) (.slice Ao49 t190.length co49)) (fun _ hk => hk.2) (.int .i64 t193)) (fun _ hk => hk.2) (.bool t194)) (fun _ h_ => h_.1))) hb); have n6_ := Aside0.mk (blk_below (g := gb171) (o := .cells #[.slice Ao7 t162.length co7, .slice Ao9 t165.length co9, .int .i64 t168, .bool t169] 36 (0, 0)) (by (with_reducible repeat (first | refine blk_drewN ?_ _ | refine blk_drew ?_ | refine blk_alloc ?_ _)); refine blk_far ?_ NB171_196.out _; (with_reducible repeat (first | refine blk_drewN ?_ _ | refine blk_drew ?_ | refine blk_alloc ?_ _)); refine blk_far ?_ NB171_196.out _; (with_reducible repeat (first | refine blk_drewN ?_ _ | refine blk_drew ?_ | refine blk_alloc ?_ _)); refine blk_far ?_ NB171_196.out _; (with_reducible repeat (first | refine blk_drewN ?_ _ | refine blk_drew ?_ | refine blk_alloc ?_ _)); refine blk_far ?_ NB171_196.out _; (with_reducible repeat (first | refine blk_drewN ?_ _ | refine blk_drew ?_ | refine blk_alloc ?_ _)); exact BK171.out) hb); have n7_ := Aside0.mk (blk_below (g := gb181) (o := .cells #[.slice Ao12 t172.length co12, .slice Ao15 t175.length co15, .int .i64 t178, .bool t179] 36 (0, 0)) (by (with_reducible repeat (first | refine blk_drewN ?_ _ | refine blk_drew ?_ | refine blk_alloc ?_ _)); refine blk_far ?_ NB181_196.out _; (with_reducible repeat (first | refine blk_drewN ?_ _ | refine blk_drew ?_ | refine blk_alloc ?_ _)); refine blk_far ?_ NB181_196.out _; (with_reducible repeat (first | refine blk_drewN ?_ _ | refine blk_drew ?_ | refine blk_alloc ?_ _)); refine blk_far ?_ NB181_196.out _; (with_reducible repeat (first | refine blk_drewN ?_ _ | refine blk_drew ?_ | refine blk_alloc ?_ _)); refine blk_far ?_ NB181_196.out _; (with_reducible repeat (first | refine blk_drewN ?_ _ | refine blk_drew ?_ | refine blk_alloc ?_ _)); exact BK181.out) hb); have n8_ := Aside0.mk (blk_below (g := gb196) (o := .cells #[.slice Ao45 t187.length co45, .slice Ao49 t190.length co49, .int .i64 t193, .bool t194] 36 (0, 0)) (by (with_reducible repeat (first | refine blk_drewN ?_ _ | refine blk_drew ?_ | refine blk_alloc ?_ _)); refine blk_put (cs := #[.slice Ao45 t187.length co45, .slice Ao49 t190.length co49, .int .i64 t193, .bool false]) ?_ 3 _ rfl; (with_reducible repeat (first | refine blk_drewN ?_ _ | refine blk_drew ?_ | refine blk_alloc ?_ _)); refine blk_put (cs := #[.slice Ao45 t187.length co45, .slice Ao49 t190.length co49, .int .i64 0, .bool false]) ?_ 2 _ rfl; (with_reducible repeat (first | refine blk_drewN ?_ _ | refine blk_drew ?_ | refine blk_alloc ?_ _)); refine blk_put (cs := #[.slice Ao45 t187.length co45, .slice none 0 0, .int .i64 0, .bool false]) ?_ 1 _ rfl; (with_reducible repeat (first | refine blk_drewN ?_ _ | refine blk_drew ?_ | refine blk_alloc ?_ _)); refine blk_put (cs := #[.slice none 0 0, .slice none 0 0, .int .i64 0, .bool false]) ?_ 0 _ rfl; (with_reducible repeat (first | refine blk_drewN ?_ _ | refine blk_drew ?_ | refine blk_alloc ?_ _)); exact BK196.out) hb); have n9_ := Aside0.mk (below_step (by repeat (first | (with_reducible first | exact HB.out | apply below_alloc | apply pw_below_drewN | apply below_drew1 | refine below_set ?_ GE171.out | refine below_set ?_ GE181.out | refine below_set ?_ GE196.out) | exact HB.out)) hb); clear HO_172000; clear HO_172001; clear HO_182000; clear HO_182001; clear HO189; clear HO192; clear BK171; clear BK181; clear BK196; clear HB; have HO_172000 := n0_; have HO_172001 := n1_; have HO_182000 := n2_; have HO_182001 := n3_; have HO189 := n4_; have HO192 := n5_; have BK171 := n6_; have BK181 := n7_; have BK196 := n8_; have HB := n9_; clear n0_ n1_ n2_ n3_ n4_ n5_ n6_ n7_ n8_ n9_; (try clear hb); (try clear hb2); (try clear hk); (try clear hi)))
                go_meet
                case rel => exact ⟨_, ((t195 != t170)), (by first | rfl | (simp; done) | (simp [*]; done)), H', ⟨by have := HJ3.out; first | omega | exact Nat.le_refl _⟩, ⟨by (with_reducible repeat (first | apply Kd.R_alloc | apply Kd.R_drewN | apply Kd.R_drew)); exact HO_172000.out⟩, ⟨by (with_reducible repeat (first | apply Kd.R_alloc | apply Kd.R_drewN | apply Kd.R_drew)); exact HO_172001.out⟩, ⟨by (with_reducible repeat (first | apply Kd.R_alloc | apply Kd.R_drewN | apply Kd.R_drew)); exact HO_182000.out⟩, ⟨by (with_reducible repeat (first | apply Kd.R_alloc | apply Kd.R_drewN | apply Kd.R_drew)); exact HO_182001.out⟩, ⟨by (with_reducible repeat (first | apply Kd.R_alloc | apply Kd.R_drewN | apply Kd.R_drew)); exact Kd.R_mono HO189.out (fun _ hk => ⟨hk.1.2, hk.2⟩)⟩, ⟨by (with_reducible repeat (first | apply Kd.R_alloc | apply Kd.R_drewN | apply Kd.R_drew)); exact Kd.R_mono HO192.out (fun _ hk => ⟨hk.1.2, hk.2⟩)⟩, ⟨by (with_reducible repeat (first | refine blk_drewN ?_ _ | refine blk_drew ?_ | refine blk_alloc ?_ _)); exact BK171.out⟩, ⟨by (with_reducible repeat (first | refine blk_drewN ?_ _ | refine blk_drew ?_ | refine blk_alloc ?_ _)); exact BK181.out⟩, ⟨by (with_reducible repeat (first | refine blk_drewN ?_ _ | refine blk_drew ?_ | refine blk_alloc ?_ _)); exact BK196.out⟩, ⟨by repeat (first | (with_reducible first | exact HB.out | apply below_alloc | apply pw_below_drewN | apply below_drew1 | refine below_set ?_ GE171.out | refine below_set ?_ GE181.out | refine below_set ?_ GE196.out) | exact HB.out)⟩⟩
              · replace c51 := Bool.eq_false_iff.mpr c51
                subst c51
                have H1 : (laws_FnExactNewDisk.j1 kj3 t183 true t184 t185 t178 t179) = some r := by rw [if_neg (show ¬ (false = true) by decide)] at H; exact H
                clear H
                have H := H1
                clear H1
                have H' := Aside0.mk H
                clear H
                have hnb58 := NB196_171.out
                have hnc58 := NB171_196.out
                have hnb59 := NB196_181.out
                have hnc59 := NB181_196.out
                have hcz60_0 : w44.cell? ⟨gb196, 0, none⟩ = some (.slice none 0 0) := (blk_cell BK196.out 0).trans rfl
                have hcz60_1 : w44.cell? ⟨gb196, 1, none⟩ = some (.slice none 0 0) := (blk_cell BK196.out 1).trans rfl
                have hcz60_2 : w44.cell? ⟨gb196, 2, none⟩ = some (.int .i64 0) := (blk_cell BK196.out 2).trans rfl
                have hcz60_3 : w44.cell? ⟨gb196, 3, none⟩ = some (.bool false) := (blk_cell BK196.out 3).trans rfl
                have hfz60_0 := blk_frozen BK196.out 0
                have hfz60_1 := blk_frozen BK196.out 1
                have hfz60_2 := blk_frozen BK196.out 2
                have hfz60_3 := blk_frozen BK196.out 3
                have hnb61 := NB171_181.out
                have hnc61 := NB181_171.out
                have hcz62_0 : w44.cell? ⟨gb171, 0, none⟩ = some (.slice Ao7 t162.length co7) := (blk_cell BK171.out 0).trans rfl
                have hcz62_1 : w44.cell? ⟨gb171, 1, none⟩ = some (.slice Ao9 t165.length co9) := (blk_cell BK171.out 1).trans rfl
                have hcz62_2 : w44.cell? ⟨gb171, 2, none⟩ = some (.int .i64 t168) := (blk_cell BK171.out 2).trans rfl
                have hcz62_3 : w44.cell? ⟨gb171, 3, none⟩ = some (.bool t169) := (blk_cell BK171.out 3).trans rfl
                have hfz62_0 := blk_frozen BK171.out 0
                have hfz62_1 := blk_frozen BK171.out 1
                have hfz62_2 := blk_frozen BK171.out 2
                have hfz62_3 := blk_frozen BK171.out 3
                go_wp2_with (first | ((with_reducible refine gate_callee (f := 23) rfl ?_); refine goesL_ (some 48) rfl rfl Try.func23 (by kernel_rfl) rfl #[.agg #[.slice Ao45 t187.length co45, .slice Ao49 t190.length co49, .int .i64 t193, .bool t194], .agg #[.slice Ao7 t162.length co7, .slice Ao9 t165.length co9, .int .i64 t168, .bool t169]] rfl (by (try simp only [List.map_toArray, List.map_cons, List.map_nil]); first | done | rfl | (simp only [List.length_drop, List.length_take]; rfl)) ?_; (with_reducible refine (laws_eqDisk.calls kj3 _ _ t187 _ _ t190 t193 t194 _ _ t162 _ _ t165 t168 t169 false _ ?side1 ?side2 ?side3 ?side4 ?side5 ?side6 ?side7 ?side8 A50.out).mono ?_); (case side1 => refine (Kd.R_reads' (e := 9) (base := w.heap.size) (ok := fun k_ => ((True ∧ some k_ ≠ (.slice Ao7 t162.length co7 : Value).ownBlock) ∧ some k_ ≠ (.slice Ao12 t172.length co12 : Value).ownBlock)) (n := t187.length) (c := co45) ?_).2.2; exact (by (with_reducible repeat (first | apply Kd.R_alloc | apply Kd.R_drewN | apply Kd.R_drew)); exact (Kd.R_mono (Kd.R_far (p := ⟨gb196, 3, none⟩) (Kd.R_far (p := ⟨gb196, 2, none⟩) (Kd.R_far (p := ⟨gb196, 1, none⟩) (Kd.R_far (p := ⟨gb196, 0, none⟩) (Kd.R_types HO189.out BK196.out (by decide)) (fun _ hk => hk.2) (.slice Ao45 t187.length co45)) (fun _ hk => hk.2) (.slice Ao49 t190.length co49)) (fun _ hk => hk.2) (.int .i64 t193)) (fun _ hk => hk.2) (.bool t194)) (fun _ h_ => h_.1)))); (case side2 => exact (Kd.R_reads' HO189.out).2.1); (case side3 => refine (Kd.R_reads' (e := 131) (base := w.heap.size) (ok := fun k_ => ((True ∧ some k_ ≠ (.slice Ao9 t165.length co9 : Value).ownBlock) ∧ some k_ ≠ (.slice Ao15 t175.length co15 : Value).ownBlock)) (n := t190.length) (c := co49) ?_).2.2; exact (by (with_reducible repeat (first | apply Kd.R_alloc | apply Kd.R_drewN | apply Kd.R_drew)); exact (Kd.R_mono (Kd.R_far (p := ⟨gb196, 3, none⟩) (Kd.R_far (p := ⟨gb196, 2, none⟩) (Kd.R_far (p := ⟨gb196, 1, none⟩) (Kd.R_far (p := ⟨gb196, 0, none⟩) (Kd.R_types HO192.out BK196.out (by decide)) (fun _ hk => hk.2) (.slice Ao45 t187.length co45)) (fun _ hk => hk.2) (.slice Ao49 t190.length co49)) (fun _ hk => hk.2) (.int .i64 t193)) (fun _ hk => hk.2) (.bool t194)) (fun _ h_ => h_.1)))); (case side4 => exact (Kd.R_reads' HO192.out).2.1); (case side5 => refine (Kd.R_reads' (e := 9) (base := w.heap.size) (ok := fun k_ => (some k_ ≠ (.slice Ao12 t172.length co12 : Value).ownBlock ∧ some k_ ≠ (.slice Ao45 t187.length co45 : Value).ownBlock)) (n := t162.length) (c := co7) ?_).2.2; exact (by (with_reducible repeat (first | apply Kd.R_alloc | apply Kd.R_drewN | apply Kd.R_drew)); exact (Kd.R_mono (Kd.R_far (p := ⟨gb196, 3, none⟩) (Kd.R_far (p := ⟨gb196, 2, none⟩) (Kd.R_far (p := ⟨gb196, 1, none⟩) (Kd.R_far (p := ⟨gb196, 0, none⟩) (Kd.R_types HO_172000.out BK196.out (by decide)) (fun _ hk => hk.2) (.slice Ao45 t187.length co45)) (fun _ hk => hk.2) (.slice Ao49 t190.length co49)) (fun _ hk => hk.2) (.int .i64 t193)) (fun _ hk => hk.2) (.bool t194)) (fun _ h_ => h_.1)))); (case side6 => exact (Kd.R_reads' HO_172000.out).2.1); (case side7 => refine (Kd.R_reads' (e := 131) (base := w.heap.size) (ok := fun k_ => (some k_ ≠ (.slice Ao15 t175.length co15 : Value).ownBlock ∧ some k_ ≠ (.slice Ao49 t190.length co49 : Value).ownBlock)) (n := t165.length) (c := co9) ?_).2.2; exact (by (with_reducible repeat (first | apply Kd.R_alloc | apply Kd.R_drewN | apply Kd.R_drew)); exact (Kd.R_mono (Kd.R_far (p := ⟨gb196, 3, none⟩) (Kd.R_far (p := ⟨gb196, 2, none⟩) (Kd.R_far (p := ⟨gb196, 1, none⟩) (Kd.R_far (p := ⟨gb196, 0, none⟩) (Kd.R_types HO_172001.out BK196.out (by decide)) (fun _ hk => hk.2) (.slice Ao45 t187.length co45)) (fun _ hk => hk.2) (.slice Ao49 t190.length co49)) (fun _ hk => hk.2) (.int .i64 t193)) (fun _ hk => hk.2) (.bool t194)) (fun _ h_ => h_.1)))); (case side8 => exact (Kd.R_reads' HO_172001.out).2.1); rintro e w63 ⟨rfl, hb⟩; refine ⟨_, rfl, ?_⟩; have n0_ := Aside0.mk (Kd.R_below (by (with_reducible repeat (first | apply Kd.R_alloc | apply Kd.R_drewN | apply Kd.R_drew)); exact (Kd.R_mono (Kd.R_far (p := ⟨gb196, 3, none⟩) (Kd.R_far (p := ⟨gb196, 2, none⟩) (Kd.R_far (p := ⟨gb196, 1, none⟩) (Kd.R_far (p := ⟨gb196, 0, none⟩) (Kd.R_types HO_172000.out BK196.out (by decide)) (fun _ hk => hk.2) (.slice Ao45 t187.length co45)) (fun _ hk => hk.2) (.slice Ao49 t190.length co49)) (fun _ hk => hk.2) (.int .i64 t193)) (fun _ hk => hk.2) (.bool t194)) (fun _ h_ => h_.1))) hb); have n1_ := Aside0.mk (Kd.R_below (by (with_reducible repeat (first | apply Kd.R_alloc | apply Kd.R_drewN | apply Kd.R_drew)); exact (Kd.R_mono (Kd.R_far (p := ⟨gb196, 3, none⟩) (Kd.R_far (p := ⟨gb196, 2, none⟩) (Kd.R_far (p := ⟨gb196, 1, none⟩) (Kd.R_far (p := ⟨gb196, 0, none⟩) (Kd.R_types HO_172001.out BK196.out (by decide)) (fun _ hk => hk.2) (.slice Ao45 t187.length co45)) (fun _ hk => hk.2) (.slice Ao49 t190.length co49)) (fun _ hk => hk.2) (.int .i64 t193)) (fun _ hk => hk.2) (.bool t194)) (fun _ h_ => h_.1))) hb); have n2_ := Aside0.mk (Kd.R_below (by (with_reducible repeat (first | apply Kd.R_alloc | apply Kd.R_drewN | apply Kd.R_drew)); exact (Kd.R_mono (Kd.R_far (p := ⟨gb196, 3, none⟩) (Kd.R_far (p := ⟨gb196, 2, none⟩) (Kd.R_far (p := ⟨gb196, 1, none⟩) (Kd.R_far (p := ⟨gb196, 0, none⟩) (Kd.R_types HO_182000.out BK196.out (by decide)) (fun _ hk => hk.2) (.slice Ao45 t187.length co45)) (fun _ hk => hk.2) (.slice Ao49 t190.length co49)) (fun _ hk => hk.2) (.int .i64 t193)) (fun _ hk => hk.2) (.bool t194)) (fun _ h_ => h_.1))) hb); have n3_ := Aside0.mk (Kd.R_below (by (with_reducible repeat (first | apply Kd.R_alloc | apply Kd.R_drewN | apply Kd.R_drew)); exact (Kd.R_mono (Kd.R_far (p := ⟨gb196, 3, none⟩) (Kd.R_far (p := ⟨gb196, 2, none⟩) (Kd.R_far (p := ⟨gb196, 1, none⟩) (Kd.R_far (p := ⟨gb196, 0, none⟩) (Kd.R_types HO_182001.out BK196.out (by decide)) (fun _ hk => hk.2) (.slice Ao45 t187.length co45)) (fun _ hk => hk.2) (.slice Ao49 t190.length co49)) (fun _ hk => hk.2) (.int .i64 t193)) (fun _ hk => hk.2) (.bool t194)) (fun _ h_ => h_.1))) hb); have n4_ := Aside0.mk (Kd.R_below (by (with_reducible repeat (first | apply Kd.R_alloc | apply Kd.R_drewN | apply Kd.R_drew)); exact (Kd.R_mono (Kd.R_far (p := ⟨gb196, 3, none⟩) (Kd.R_far (p := ⟨gb196, 2, none⟩) (Kd.R_far (p := ⟨gb196, 1, none⟩) (Kd.R_far (p := ⟨gb196, 0, none⟩) (Kd.R_types HO189.out BK196.out (by decide)) (fun _ hk => hk.2) (.slice Ao45 t187.length co45)) (fun _ hk => hk.2) (.slice Ao49 t190.length co49)) (fun _ hk => hk.2) (.int .i64 t193)) (fun _ hk => hk.2) (.bool t194)) (fun _ h_ => h_.1))) hb); have n5_ := Aside0.mk (Kd.R_below (by (with_reducible repeat (first | apply Kd.R_alloc | apply Kd.R_drewN | apply Kd.R_drew)); exact (Kd.R_mono (Kd.R_far (p := ⟨gb196, 3, none⟩) (Kd.R_far (p := ⟨gb196, 2, none⟩) (Kd.R_far (p := ⟨gb196, 1, none⟩) (Kd.R_far (p := ⟨gb196, 0, none⟩) (Kd.R_types HO192.out BK196.out (by decide)) (fun _ hk => hk.2) (.slice Ao45 t187.length co45)) (fun _ hk => hk.2) (.slice Ao49 t190.length co49)) (fun _ hk => hk.2) (.int .i64 t193)) (fun _ hk => hk.2) (.bool t194)) (fun _ h_ => h_.1))) hb); have n6_ := Aside0.mk (blk_below (g := gb171) (o := .cells #[.slice Ao7 t162.length co7, .slice Ao9 t165.length co9, .int .i64 t168, .bool t169] 36 (0, 0)) (by (with_reducible repeat (first | refine blk_drewN ?_ _ | refine blk_drew ?_ | refine blk_alloc ?_ _)); refine blk_far ?_ NB171_196.out _; (with_reducible repeat (first | refine blk_drewN ?_ _ | refine blk_drew ?_ | refine blk_alloc ?_ _)); refine blk_far ?_ NB171_196.out _; (with_reducible repeat (first | refine blk_drewN ?_ _ | refine blk_drew ?_ | refine blk_alloc ?_ _)); refine blk_far ?_ NB171_196.out _; (with_reducible repeat (first | refine blk_drewN ?_ _ | refine blk_drew ?_ | refine blk_alloc ?_ _)); refine blk_far ?_ NB171_196.out _; (with_reducible repeat (first | refine blk_drewN ?_ _ | refine blk_drew ?_ | refine blk_alloc ?_ _)); exact BK171.out) hb); have n7_ := Aside0.mk (blk_below (g := gb181) (o := .cells #[.slice Ao12 t172.length co12, .slice Ao15 t175.length co15, .int .i64 t178, .bool t179] 36 (0, 0)) (by (with_reducible repeat (first | refine blk_drewN ?_ _ | refine blk_drew ?_ | refine blk_alloc ?_ _)); refine blk_far ?_ NB181_196.out _; (with_reducible repeat (first | refine blk_drewN ?_ _ | refine blk_drew ?_ | refine blk_alloc ?_ _)); refine blk_far ?_ NB181_196.out _; (with_reducible repeat (first | refine blk_drewN ?_ _ | refine blk_drew ?_ | refine blk_alloc ?_ _)); refine blk_far ?_ NB181_196.out _; (with_reducible repeat (first | refine blk_drewN ?_ _ | refine blk_drew ?_ | refine blk_alloc ?_ _)); refine blk_far ?_ NB181_196.out _; (with_reducible repeat (first | refine blk_drewN ?_ _ | refine blk_drew ?_ | refine blk_alloc ?_ _)); exact BK181.out) hb); have n8_ := Aside0.mk (blk_below (g := gb196) (o := .cells #[.slice Ao45 t187.length co45, .slice Ao49 t190.length co49, .int .i64 t193, .bool t194] 36 (0, 0)) (by (with_reducible repeat (first | refine blk_drewN ?_ _ | refine blk_drew ?_ | refine blk_alloc ?_ _)); refine blk_put (cs := #[.slice Ao45 t187.length co45, .slice Ao49 t190.length co49, .int .i64 t193, .bool false]) ?_ 3 _ rfl; (with_reducible repeat (first | refine blk_drewN ?_ _ | refine blk_drew ?_ | refine blk_alloc ?_ _)); refine blk_put (cs := #[.slice Ao45 t187.length co45, .slice Ao49 t190.length co49, .int .i64 0, .bool false]) ?_ 2 _ rfl; (with_reducible repeat (first | refine blk_drewN ?_ _ | refine blk_drew ?_ | refine blk_alloc ?_ _)); refine blk_put (cs := #[.slice Ao45 t187.length co45, .slice none 0 0, .int .i64 0, .bool false]) ?_ 1 _ rfl; (with_reducible repeat (first | refine blk_drewN ?_ _ | refine blk_drew ?_ | refine blk_alloc ?_ _)); refine blk_put (cs := #[.slice none 0 0, .slice none 0 0, .int .i64 0, .bool false]) ?_ 0 _ rfl; (with_reducible repeat (first | refine blk_drewN ?_ _ | refine blk_drew ?_ | refine blk_alloc ?_ _)); exact BK196.out) hb); have n9_ := Aside0.mk (below_step (by repeat (first | (with_reducible first | exact HB.out | apply below_alloc | apply pw_below_drewN | apply below_drew1 | refine below_set ?_ GE171.out | refine below_set ?_ GE181.out | refine below_set ?_ GE196.out) | exact HB.out)) hb); clear HO_172000; clear HO_172001; clear HO_182000; clear HO_182001; clear HO189; clear HO192; clear BK171; clear BK181; clear BK196; clear HB; have HO_172000 := n0_; have HO_172001 := n1_; have HO_182000 := n2_; have HO_182001 := n3_; have HO189 := n4_; have HO192 := n5_; have BK171 := n6_; have BK181 := n7_; have BK196 := n8_; have HB := n9_; clear n0_ n1_ n2_ n3_ n4_ n5_ n6_ n7_ n8_ n9_; (try clear hb); (try clear hb2); (try clear hk); (try clear hi)))
                go_meet
                case rel => exact ⟨_, (true), (by first | rfl | (simp; done) | (simp [*]; done)), H', ⟨by have := HJ3.out; first | omega | exact Nat.le_refl _⟩, ⟨by (with_reducible repeat (first | apply Kd.R_alloc | apply Kd.R_drewN | apply Kd.R_drew)); exact HO_172000.out⟩, ⟨by (with_reducible repeat (first | apply Kd.R_alloc | apply Kd.R_drewN | apply Kd.R_drew)); exact HO_172001.out⟩, ⟨by (with_reducible repeat (first | apply Kd.R_alloc | apply Kd.R_drewN | apply Kd.R_drew)); exact HO_182000.out⟩, ⟨by (with_reducible repeat (first | apply Kd.R_alloc | apply Kd.R_drewN | apply Kd.R_drew)); exact HO_182001.out⟩, ⟨by (with_reducible repeat (first | apply Kd.R_alloc | apply Kd.R_drewN | apply Kd.R_drew)); exact Kd.R_mono HO189.out (fun _ hk => ⟨hk.1.2, hk.2⟩)⟩, ⟨by (with_reducible repeat (first | apply Kd.R_alloc | apply Kd.R_drewN | apply Kd.R_drew)); exact Kd.R_mono HO192.out (fun _ hk => ⟨hk.1.2, hk.2⟩)⟩, ⟨by (with_reducible repeat (first | refine blk_drewN ?_ _ | refine blk_drew ?_ | refine blk_alloc ?_ _)); exact BK171.out⟩, ⟨by (with_reducible repeat (first | refine blk_drewN ?_ _ | refine blk_drew ?_ | refine blk_alloc ?_ _)); exact BK181.out⟩, ⟨by (with_reducible repeat (first | refine blk_drewN ?_ _ | refine blk_drew ?_ | refine blk_alloc ?_ _)); exact BK196.out⟩, ⟨by repeat (first | (with_reducible first | exact HB.out | apply below_alloc | apply pw_below_drewN | apply below_drew1 | refine below_set ?_ GE171.out | refine below_set ?_ GE181.out | refine below_set ?_ GE196.out) | exact HB.out)⟩⟩
            case rest =>
              clear HC37
              try clear c1
              try clear c2
              try clear p2
              try clear c3
              try clear c4
              try clear c5
              try clear c6
              try clear c13
              try clear c17
              try clear c18
              try clear c21
              try clear c22
              try clear c23
              try clear c24
              try clear c25
              try clear c26
              try clear c29
              try clear c29b0
              try clear c30
              try clear c35
              try clear c35b0
              try clear c35b1
              try clear c38
              try clear c46
              try clear c47
              try clear c51
              try clear c52
              try clear c53
              try clear c55
              try clear c58
              try clear c59
              try clear c61
              try clear hcz14_0
              try clear hcz14_1
              try clear hcz14_2
              try clear hcz14_3
              try clear hcz19_0
              try clear hcz19_1
              try clear hcz19_2
              try clear hcz19_3
              try clear hcz20_0
              try clear hcz20_1
              try clear hcz20_2
              try clear hcz20_3
              try clear hcz23_0
              try clear hcz23_1
              try clear hcz23_2
              try clear hcz23_3
              try clear hcz24_0
              try clear hcz24_1
              try clear hcz24_2
              try clear hcz24_3
              try clear hcz31_0
              try clear hcz31_1
              try clear hcz31_2
              try clear hcz31_3
              try clear hcz33_0
              try clear hcz33_1
              try clear hcz33_2
              try clear hcz33_3
              try clear hcz39_0
              try clear hcz39_1
              try clear hcz39_2
              try clear hcz39_3
              try clear hcz41_0
              try clear hcz41_1
              try clear hcz41_2
              try clear hcz41_3
              try clear hcz48_0
              try clear hcz48_1
              try clear hcz48_2
              try clear hcz48_3
              try clear hcz54_0
              try clear hcz54_1
              try clear hcz54_2
              try clear hcz54_3
              try clear hcz56_0
              try clear hcz56_1
              try clear hcz56_2
              try clear hcz56_3
              try clear hcz60_0
              try clear hcz60_1
              try clear hcz60_2
              try clear hcz60_3
              try clear hcz62_0
              try clear hcz62_1
              try clear hcz62_2
              try clear hcz62_3
              try clear hcz8_0
              try clear hcz8_1
              try clear hcz8_2
              try clear hcz8_3
              try clear hfz14_0
              try clear hfz14_1
              try clear hfz14_2
              try clear hfz14_3
              try clear hfz19_0
              try clear hfz19_1
              try clear hfz19_2
              try clear hfz19_3
              try clear hfz20_0
              try clear hfz20_1
              try clear hfz20_2
              try clear hfz20_3
              try clear hfz23_0
              try clear hfz23_1
              try clear hfz23_2
              try clear hfz23_3
              try clear hfz24_0
              try clear hfz24_1
              try clear hfz24_2
              try clear hfz24_3
              try clear hfz31_0
              try clear hfz31_1
              try clear hfz31_2
              try clear hfz31_3
              try clear hfz33_0
              try clear hfz33_1
              try clear hfz33_2
              try clear hfz33_3
              try clear hfz39_0
              try clear hfz39_1
              try clear hfz39_2
              try clear hfz39_3
              try clear hfz41_0
              try clear hfz41_1
              try clear hfz41_2
              try clear hfz41_3
              try clear hfz48_0
              try clear hfz48_1
              try clear hfz48_2
              try clear hfz48_3
              try clear hfz54_0
              try clear hfz54_1
              try clear hfz54_2
              try clear hfz54_3
              try clear hfz56_0
              try clear hfz56_1
              try clear hfz56_2
              try clear hfz56_3
              try clear hfz60_0
              try clear hfz60_1
              try clear hfz60_2
              try clear hfz60_3
              try clear hfz62_0
              try clear hfz62_1
              try clear hfz62_2
              try clear hfz62_3
              try clear hfz8_0
              try clear hfz8_1
              try clear hfz8_2
              try clear hfz8_3
              try clear p2
              obtain ⟨kq, x54_36, rfl, HA, HJ36, HO_172000, HO_172001, HO_182000, HO_182001, HO_197000, HO_197001, BK171, BK181, BK196, HB⟩ := hcut
              have hl182000_36 := (Kd.R_reads' HO_182000.out).1
              rw [hl182000_36] at HO_182000
              (try simp only [hl182000_36])
              (try simp only [hl182000_36] at BK171)
              (try simp only [hl182000_36] at BK181)
              (try simp only [hl182000_36] at BK196)
              (try simp only [hl182000_36] at HO_172000)
              (try simp only [hl182000_36] at HO_172001)
              (try simp only [hl182000_36] at HO_182001)
              (try simp only [hl182000_36] at HO_197000)
              (try simp only [hl182000_36] at HO_197001)
              have hl182001_36 := (Kd.R_reads' HO_182001.out).1
              rw [hl182001_36] at HO_182001
              (try simp only [hl182001_36])
              (try simp only [hl182001_36] at BK171)
              (try simp only [hl182001_36] at BK181)
              (try simp only [hl182001_36] at BK196)
              (try simp only [hl182001_36] at HO_172000)
              (try simp only [hl182001_36] at HO_172001)
              (try simp only [hl182001_36] at HO_182000)
              (try simp only [hl182001_36] at HO_197000)
              (try simp only [hl182001_36] at HO_197001)
              cases kq with
              | zero => exact absurd HA.out (by simp [laws_FnExactNewDisk.j1])
              | succ kj36 =>
                have H := HA.out
                clear HA
                simp only [laws_FnExactNewDisk.j1] at H
                by_cases c64 : x54_36 = true
                · subst c64
                  have H1 : (some false) = some r := by rw [if_pos rfl] at H; exact H
                  clear H
                  have H := H1
                  clear H1
                  obtain rfl := Option.some.inj H
                  go_wp2
                  go_ret
                  exact ⟨by first | rfl | (simp [errW_none, errW_some] <;> rfl) | (simp [*, errW_none, errW_some] <;> rfl), by repeat (first | (with_reducible first | exact HB.out | apply below_alloc | apply pw_below_drewN | apply below_drew1 | refine below_set ?_ GE171.out | refine below_set ?_ GE181.out | refine below_set ?_ GE196.out) | exact HB.out)⟩
                · replace c64 := Bool.eq_false_iff.mpr c64
                  subst c64
                  have H1 : ((laws_heldDisk.f kj36 t184 t185 t178 t179 1).bind fun t198 => (if t198 < 0 then (some false) else (if t198 = t183 then (some true) else (some false)))) = some r := by rw [if_neg (show ¬ (false = true) by decide)] at H; exact H
                  clear H
                  have H := H1
                  clear H1
                  replace H := Option.bind_eq_some_iff.mp H
                  obtain ⟨t198, A650, H⟩ := H
                  replace H : (if t198 < 0 then (some false) else (if t198 = t183 then (some true) else (some false))) = some r := H
                  have A65 := Aside0.mk A650
                  clear A650
                  by_cases c66 : t198 < 0
                  · rw [if_pos c66] at H
                    have c66b0 : decide (t198 < 0) = true := decide_eq_true c66
                    (try (have c66b0h := c66b0; simp only [hl182000_36, hl182001_36] at c66b0h))
                    clear c66
                    obtain rfl := Option.some.inj H
                    have hnb67 := NB181_171.out
                    have hnc67 := NB171_181.out
                    have hnb68 := NB181_196.out
                    have hnc68 := NB196_181.out
                    have hcz69_0 : wc.cell? ⟨gb181, 0, none⟩ = some (.slice Ao12 t184.length co12) := (blk_cell BK181.out 0).trans rfl
                    have hcz69_1 : wc.cell? ⟨gb181, 1, none⟩ = some (.slice Ao15 t185.length co15) := (blk_cell BK181.out 1).trans rfl
                    have hcz69_2 : wc.cell? ⟨gb181, 2, none⟩ = some (.int .i64 t178) := (blk_cell BK181.out 2).trans rfl
                    have hcz69_3 : wc.cell? ⟨gb181, 3, none⟩ = some (.bool t179) := (blk_cell BK181.out 3).trans rfl
                    have hfz69_0 := blk_frozen BK181.out 0
                    have hfz69_1 := blk_frozen BK181.out 1
                    have hfz69_2 := blk_frozen BK181.out 2
                    have hfz69_3 := blk_frozen BK181.out 3
                    go_wp2_with (first | ((with_reducible refine gate_callee (f := 25) rfl ?_); refine goesL_ (some 57) rfl rfl Try.func25 (by kernel_rfl) rfl #[.agg #[.slice Ao12 t184.length co12, .slice Ao15 t185.length co15, .int .i64 t178, .bool t179], .int .i64 1] rfl (by (try simp only [List.map_toArray, List.map_cons, List.map_nil]); first | done | rfl | (simp only [List.length_drop, List.length_take]; rfl)) ?_; (with_reducible refine (laws_heldDisk.calls kj36 _ _ t184 _ _ t185 t178 t179 1 t198 _ ?side1 ?side2 ?side3 ?side4 A65.out).mono ?_); (case side1 => repeat (first | exact (Kd.R_reads' HO_182000.out).2.2 | (with_reducible refine Kd.C_alloc ?_ _) | (with_reducible refine Kd.C_drewN ?_ _) | (with_reducible refine Kd.C_drew ?_))); (case side2 => exact (Kd.R_reads' HO_182000.out).2.1); (case side3 => repeat (first | exact (Kd.R_reads' HO_182001.out).2.2 | (with_reducible refine Kd.C_alloc ?_ _) | (with_reducible refine Kd.C_drewN ?_ _) | (with_reducible refine Kd.C_drew ?_))); (case side4 => exact (Kd.R_reads' HO_182001.out).2.1); rintro e w70 ⟨rfl, hb⟩; refine ⟨_, rfl, ?_⟩; have n0_ := Aside0.mk (Kd.R_below (by (with_reducible repeat (first | apply Kd.R_alloc | apply Kd.R_drewN | apply Kd.R_drew)); exact HO_172000.out) hb); have n1_ := Aside0.mk (Kd.R_below (by (with_reducible repeat (first | apply Kd.R_alloc | apply Kd.R_drewN | apply Kd.R_drew)); exact HO_172001.out) hb); have n2_ := Aside0.mk (Kd.R_below (by (with_reducible repeat (first | apply Kd.R_alloc | apply Kd.R_drewN | apply Kd.R_drew)); exact HO_182000.out) hb); have n3_ := Aside0.mk (Kd.R_below (by (with_reducible repeat (first | apply Kd.R_alloc | apply Kd.R_drewN | apply Kd.R_drew)); exact HO_182001.out) hb); have n4_ := Aside0.mk (Kd.R_below (by (with_reducible repeat (first | apply Kd.R_alloc | apply Kd.R_drewN | apply Kd.R_drew)); exact HO_197000.out) hb); have n5_ := Aside0.mk (Kd.R_below (by (with_reducible repeat (first | apply Kd.R_alloc | apply Kd.R_drewN | apply Kd.R_drew)); exact HO_197001.out) hb); have n6_ := Aside0.mk (blk_below (g := gb171) (o := .cells #[.slice Ao7 t162.length co7, .slice Ao9 t165.length co9, .int .i64 t168, .bool t169] 36 (0, 0)) (by (with_reducible repeat (first | refine blk_drewN ?_ _ | refine blk_drew ?_ | refine blk_alloc ?_ _)); exact BK171.out) hb); have n7_ := Aside0.mk (blk_below (g := gb181) (o := .cells #[.slice Ao12 t184.length co12, .slice Ao15 t185.length co15, .int .i64 t178, .bool t179] 36 (0, 0)) (by (with_reducible repeat (first | refine blk_drewN ?_ _ | refine blk_drew ?_ | refine blk_alloc ?_ _)); exact BK181.out) hb); have n8_ := Aside0.mk (blk_below (g := gb196) (o := .cells #[.slice Ao45 t187.length co45, .slice Ao49 t190.length co49, .int .i64 t193, .bool t194] 36 (0, 0)) (by (with_reducible repeat (first | refine blk_drewN ?_ _ | refine blk_drew ?_ | refine blk_alloc ?_ _)); exact BK196.out) hb); have n9_ := Aside0.mk (below_step (by repeat (first | (with_reducible first | exact HB.out | apply below_alloc | apply pw_below_drewN | apply below_drew1 | refine below_set ?_ GE171.out | refine below_set ?_ GE181.out | refine below_set ?_ GE196.out) | exact HB.out)) hb); clear HO_172000; clear HO_172001; clear HO_182000; clear HO_182001; clear HO_197000; clear HO_197001; clear BK171; clear BK181; clear BK196; clear HB; have HO_172000 := n0_; have HO_172001 := n1_; have HO_182000 := n2_; have HO_182001 := n3_; have HO_197000 := n4_; have HO_197001 := n5_; have BK171 := n6_; have BK181 := n7_; have BK196 := n8_; have HB := n9_; clear n0_ n1_ n2_ n3_ n4_ n5_ n6_ n7_ n8_ n9_; (try clear hb); (try clear hb2); (try clear hk); (try clear hi)))
                    go_ret
                    exact ⟨by first | rfl | (simp [errW_none, errW_some] <;> rfl) | (simp [*, errW_none, errW_some] <;> rfl), by repeat (first | (with_reducible first | exact HB.out | apply below_alloc | apply pw_below_drewN | apply below_drew1 | refine below_set ?_ GE171.out | refine below_set ?_ GE181.out | refine below_set ?_ GE196.out) | exact HB.out)⟩
                  · rw [if_neg c66] at H
                    have c66b0 : decide (t198 < 0) = false := decide_eq_false c66
                    (try (have c66b0h := c66b0; simp only [hl182000_36, hl182001_36] at c66b0h))
                    clear c66
                    by_cases c71 : t198 = t183
                    · rw [if_pos c71] at H
                      have c71b0 : (t198 == t183) = true := beq_iff_eq.mpr c71
                      (try (have c71b0h := c71b0; simp only [hl182000_36, hl182001_36] at c71b0h))
                      have c71b1 : (t198 != t183) = false := bne_eq_false_iff_eq.mpr c71
                      (try (have c71b1h := c71b1; simp only [hl182000_36, hl182001_36] at c71b1h))
                      clear c71
                      obtain rfl := Option.some.inj H
                      have hnb72 := NB181_171.out
                      have hnc72 := NB171_181.out
                      have hnb73 := NB181_196.out
                      have hnc73 := NB196_181.out
                      have hcz74_0 : wc.cell? ⟨gb181, 0, none⟩ = some (.slice Ao12 t184.length co12) := (blk_cell BK181.out 0).trans rfl
                      have hcz74_1 : wc.cell? ⟨gb181, 1, none⟩ = some (.slice Ao15 t185.length co15) := (blk_cell BK181.out 1).trans rfl
                      have hcz74_2 : wc.cell? ⟨gb181, 2, none⟩ = some (.int .i64 t178) := (blk_cell BK181.out 2).trans rfl
                      have hcz74_3 : wc.cell? ⟨gb181, 3, none⟩ = some (.bool t179) := (blk_cell BK181.out 3).trans rfl
                      have hfz74_0 := blk_frozen BK181.out 0
                      have hfz74_1 := blk_frozen BK181.out 1
                      have hfz74_2 := blk_frozen BK181.out 2
                      have hfz74_3 := blk_frozen BK181.out 3
                      go_wp2_with (first | ((with_reducible refine gate_callee (f := 25) rfl ?_); refine goesL_ (some 57) rfl rfl Try.func25 (by kernel_rfl) rfl #[.agg #[.slice Ao12 t184.length co12, .slice Ao15 t185.length co15, .int .i64 t178, .bool t179], .int .i64 1] rfl (by (try simp only [List.map_toArray, List.map_cons, List.map_nil]); first | done | rfl | (simp only [List.length_drop, List.length_take]; rfl)) ?_; (with_reducible refine (laws_heldDisk.calls kj36 _ _ t184 _ _ t185 t178 t179 1 t198 _ ?side1 ?side2 ?side3 ?side4 A65.out).mono ?_); (case side1 => repeat (first | exact (Kd.R_reads' HO_182000.out).2.2 | (with_reducible refine Kd.C_alloc ?_ _) | (with_reducible refine Kd.C_drewN ?_ _) | (with_reducible refine Kd.C_drew ?_))); (case side2 => exact (Kd.R_reads' HO_182000.out).2.1); (case side3 => repeat (first | exact (Kd.R_reads' HO_182001.out).2.2 | (with_reducible refine Kd.C_alloc ?_ _) | (with_reducible refine Kd.C_drewN ?_ _) | (with_reducible refine Kd.C_drew ?_))); (case side4 => exact (Kd.R_reads' HO_182001.out).2.1); rintro e w75 ⟨rfl, hb⟩; refine ⟨_, rfl, ?_⟩; have n0_ := Aside0.mk (Kd.R_below (by (with_reducible repeat (first | apply Kd.R_alloc | apply Kd.R_drewN | apply Kd.R_drew)); exact HO_172000.out) hb); have n1_ := Aside0.mk (Kd.R_below (by (with_reducible repeat (first | apply Kd.R_alloc | apply Kd.R_drewN | apply Kd.R_drew)); exact HO_172001.out) hb); have n2_ := Aside0.mk (Kd.R_below (by (with_reducible repeat (first | apply Kd.R_alloc | apply Kd.R_drewN | apply Kd.R_drew)); exact HO_182000.out) hb); have n3_ := Aside0.mk (Kd.R_below (by (with_reducible repeat (first | apply Kd.R_alloc | apply Kd.R_drewN | apply Kd.R_drew)); exact HO_182001.out) hb); have n4_ := Aside0.mk (Kd.R_below (by (with_reducible repeat (first | apply Kd.R_alloc | apply Kd.R_drewN | apply Kd.R_drew)); exact HO_197000.out) hb); have n5_ := Aside0.mk (Kd.R_below (by (with_reducible repeat (first | apply Kd.R_alloc | apply Kd.R_drewN | apply Kd.R_drew)); exact HO_197001.out) hb); have n6_ := Aside0.mk (blk_below (g := gb171) (o := .cells #[.slice Ao7 t162.length co7, .slice Ao9 t165.length co9, .int .i64 t168, .bool t169] 36 (0, 0)) (by (with_reducible repeat (first | refine blk_drewN ?_ _ | refine blk_drew ?_ | refine blk_alloc ?_ _)); exact BK171.out) hb); have n7_ := Aside0.mk (blk_below (g := gb181) (o := .cells #[.slice Ao12 t184.length co12, .slice Ao15 t185.length co15, .int .i64 t178, .bool t179] 36 (0, 0)) (by (with_reducible repeat (first | refine blk_drewN ?_ _ | refine blk_drew ?_ | refine blk_alloc ?_ _)); exact BK181.out) hb); have n8_ := Aside0.mk (blk_below (g := gb196) (o := .cells #[.slice Ao45 t187.length co45, .slice Ao49 t190.length co49, .int .i64 t193, .bool t194] 36 (0, 0)) (by (with_reducible repeat (first | refine blk_drewN ?_ _ | refine blk_drew ?_ | refine blk_alloc ?_ _)); exact BK196.out) hb); have n9_ := Aside0.mk (below_step (by repeat (first | (with_reducible first | exact HB.out | apply below_alloc | apply pw_below_drewN | apply below_drew1 | refine below_set ?_ GE171.out | refine below_set ?_ GE181.out | refine below_set ?_ GE196.out) | exact HB.out)) hb); clear HO_172000; clear HO_172001; clear HO_182000; clear HO_182001; clear HO_197000; clear HO_197001; clear BK171; clear BK181; clear BK196; clear HB; have HO_172000 := n0_; have HO_172001 := n1_; have HO_182000 := n2_; have HO_182001 := n3_; have HO_197000 := n4_; have HO_197001 := n5_; have BK171 := n6_; have BK181 := n7_; have BK196 := n8_; have HB := n9_; clear n0_ n1_ n2_ n3_ n4_ n5_ n6_ n7_ n8_ n9_; (try clear hb); (try clear hb2); (try clear hk); (try clear hi)))
                      go_ret
                      exact ⟨by first | rfl | (simp [errW_none, errW_some] <;> rfl) | (simp [*, errW_none, errW_some] <;> rfl), by repeat (first | (with_reducible first | exact HB.out | apply below_alloc | apply pw_below_drewN | apply below_drew1 | refine below_set ?_ GE171.out | refine below_set ?_ GE181.out | refine below_set ?_ GE196.out) | exact HB.out)⟩
                    · rw [if_neg c71] at H
                      have c71b0 : (t198 == t183) = false := beq_eq_false_iff_ne.mpr c71
                      (try (have c71b0h := c71b0; simp only [hl182000_36, hl182001_36] at c71b0h))
                      have c71b1 : (t198 != t183) = true := bne_iff_ne.mpr c71
                      (try (have c71b1h := c71b1; simp only [hl182000_36, hl182001_36] at c71b1h))
                      obtain rfl := Option.some.inj H
                      have hnb76 := NB181_171.out
                      have hnc76 := NB171_181.out
                      have hnb77 := NB181_196.out
                      have hnc77 := NB196_181.out
                      have hcz78_0 : wc.cell? ⟨gb181, 0, none⟩ = some (.slice Ao12 t184.length co12) := (blk_cell BK181.out 0).trans rfl
                      have hcz78_1 : wc.cell? ⟨gb181, 1, none⟩ = some (.slice Ao15 t185.length co15) := (blk_cell BK181.out 1).trans rfl
                      have hcz78_2 : wc.cell? ⟨gb181, 2, none⟩ = some (.int .i64 t178) := (blk_cell BK181.out 2).trans rfl
                      have hcz78_3 : wc.cell? ⟨gb181, 3, none⟩ = some (.bool t179) := (blk_cell BK181.out 3).trans rfl
                      have hfz78_0 := blk_frozen BK181.out 0
                      have hfz78_1 := blk_frozen BK181.out 1
                      have hfz78_2 := blk_frozen BK181.out 2
                      have hfz78_3 := blk_frozen BK181.out 3
                      go_wp2_with (first | ((with_reducible refine gate_callee (f := 25) rfl ?_); refine goesL_ (some 57) rfl rfl Try.func25 (by kernel_rfl) rfl #[.agg #[.slice Ao12 t184.length co12, .slice Ao15 t185.length co15, .int .i64 t178, .bool t179], .int .i64 1] rfl (by (try simp only [List.map_toArray, List.map_cons, List.map_nil]); first | done | rfl | (simp only [List.length_drop, List.length_take]; rfl)) ?_; (with_reducible refine (laws_heldDisk.calls kj36 _ _ t184 _ _ t185 t178 t179 1 t198 _ ?side1 ?side2 ?side3 ?side4 A65.out).mono ?_); (case side1 => repeat (first | exact (Kd.R_reads' HO_182000.out).2.2 | (with_reducible refine Kd.C_alloc ?_ _) | (with_reducible refine Kd.C_drewN ?_ _) | (with_reducible refine Kd.C_drew ?_))); (case side2 => exact (Kd.R_reads' HO_182000.out).2.1); (case side3 => repeat (first | exact (Kd.R_reads' HO_182001.out).2.2 | (with_reducible refine Kd.C_alloc ?_ _) | (with_reducible refine Kd.C_drewN ?_ _) | (with_reducible refine Kd.C_drew ?_))); (case side4 => exact (Kd.R_reads' HO_182001.out).2.1); rintro e w79 ⟨rfl, hb⟩; refine ⟨_, rfl, ?_⟩; have n0_ := Aside0.mk (Kd.R_below (by (with_reducible repeat (first | apply Kd.R_alloc | apply Kd.R_drewN | apply Kd.R_drew)); exact HO_172000.out) hb); have n1_ := Aside0.mk (Kd.R_below (by (with_reducible repeat (first | apply Kd.R_alloc | apply Kd.R_drewN | apply Kd.R_drew)); exact HO_172001.out) hb); have n2_ := Aside0.mk (Kd.R_below (by (with_reducible repeat (first | apply Kd.R_alloc | apply Kd.R_drewN | apply Kd.R_drew)); exact HO_182000.out) hb); have n3_ := Aside0.mk (Kd.R_below (by (with_reducible repeat (first | apply Kd.R_alloc | apply Kd.R_drewN | apply Kd.R_drew)); exact HO_182001.out) hb); have n4_ := Aside0.mk (Kd.R_below (by (with_reducible repeat (first | apply Kd.R_alloc | apply Kd.R_drewN | apply Kd.R_drew)); exact HO_197000.out) hb); have n5_ := Aside0.mk (Kd.R_below (by (with_reducible repeat (first | apply Kd.R_alloc | apply Kd.R_drewN | apply Kd.R_drew)); exact HO_197001.out) hb); have n6_ := Aside0.mk (blk_below (g := gb171) (o := .cells #[.slice Ao7 t162.length co7, .slice Ao9 t165.length co9, .int .i64 t168, .bool t169] 36 (0, 0)) (by (with_reducible repeat (first | refine blk_drewN ?_ _ | refine blk_drew ?_ | refine blk_alloc ?_ _)); exact BK171.out) hb); have n7_ := Aside0.mk (blk_below (g := gb181) (o := .cells #[.slice Ao12 t184.length co12, .slice Ao15 t185.length co15, .int .i64 t178, .bool t179] 36 (0, 0)) (by (with_reducible repeat (first | refine blk_drewN ?_ _ | refine blk_drew ?_ | refine blk_alloc ?_ _)); exact BK181.out) hb); have n8_ := Aside0.mk (blk_below (g := gb196) (o := .cells #[.slice Ao45 t187.length co45, .slice Ao49 t190.length co49, .int .i64 t193, .bool t194] 36 (0, 0)) (by (with_reducible repeat (first | refine blk_drewN ?_ _ | refine blk_drew ?_ | refine blk_alloc ?_ _)); exact BK196.out) hb); have n9_ := Aside0.mk (below_step (by repeat (first | (with_reducible first | exact HB.out | apply below_alloc | apply pw_below_drewN | apply below_drew1 | refine below_set ?_ GE171.out | refine below_set ?_ GE181.out | refine below_set ?_ GE196.out) | exact HB.out)) hb); clear HO_172000; clear HO_172001; clear HO_182000; clear HO_182001; clear HO_197000; clear HO_197001; clear BK171; clear BK181; clear BK196; clear HB; have HO_172000 := n0_; have HO_172001 := n1_; have HO_182000 := n2_; have HO_182001 := n3_; have HO_197000 := n4_; have HO_197001 := n5_; have BK171 := n6_; have BK181 := n7_; have BK196 := n8_; have HB := n9_; clear n0_ n1_ n2_ n3_ n4_ n5_ n6_ n7_ n8_ n9_; (try clear hb); (try clear hb2); (try clear hk); (try clear hi)))
                      go_ret
                      exact ⟨by first | rfl | (simp [errW_none, errW_some] <;> rfl) | (simp [*, errW_none, errW_some] <;> rfl), by repeat (first | (with_reducible first | exact HB.out | apply below_alloc | apply pw_below_drewN | apply below_drew1 | refine below_set ?_ GE171.out | refine below_set ?_ GE181.out | refine below_set ?_ GE196.out) | exact HB.out)⟩
          · rw [if_neg c35] at H
            have c35b0 : (t186 == t183) = false := beq_eq_false_iff_ne.mpr c35
            have c35b1 : (t186 != t183) = true := bne_iff_ne.mpr c35
            obtain rfl := Option.some.inj H
            have hnb80 := NB181_171.out
            have hnc80 := NB171_181.out
            have hcz81_0 : wc.cell? ⟨gb181, 0, none⟩ = some (.slice Ao12 t172.length co12) := (blk_cell BK181.out 0).trans rfl
            have hcz81_1 : wc.cell? ⟨gb181, 1, none⟩ = some (.slice Ao15 t175.length co15) := (blk_cell BK181.out 1).trans rfl
            have hcz81_2 : wc.cell? ⟨gb181, 2, none⟩ = some (.int .i64 t178) := (blk_cell BK181.out 2).trans rfl
            have hcz81_3 : wc.cell? ⟨gb181, 3, none⟩ = some (.bool t179) := (blk_cell BK181.out 3).trans rfl
            have hfz81_0 := blk_frozen BK181.out 0
            have hfz81_1 := blk_frozen BK181.out 1
            have hfz81_2 := blk_frozen BK181.out 2
            have hfz81_3 := blk_frozen BK181.out 3
            go_wp2_with (first | ((with_reducible refine gate_callee (f := 24) rfl ?_); refine goesL_ (some 32) rfl rfl Try.func24 (by kernel_rfl) rfl #[.agg #[.slice Ao12 t172.length co12, .slice Ao15 t175.length co15, .int .i64 t178, .bool t179], .int .i64 1] rfl (by (try simp only [List.map_toArray, List.map_cons, List.map_nil]); first | done | rfl | (simp only [List.length_drop, List.length_take]; rfl)) ?_; (with_reducible refine (laws_markDisk.calls kj3 (fun k_ => some k_ = (.slice Ao12 t172.length co12 : Value).ownBlock) (.slice Ao12 t172.length co12) t172 (fun k_ => some k_ = (.slice Ao15 t175.length co15 : Value).ownBlock) (.slice Ao15 t175.length co15) t175 t178 t179 1 t183 t184 t185 w _ ?side1 ?side2 ?side3 A27.out).mono ?_); (case side1 => repeat (first | (with_reducible first | exact HB.out | apply below_alloc | apply pw_below_drewN | apply below_drew1 | refine below_set ?_ GE171.out | refine below_set ?_ GE181.out) | exact HB.out)); (case side2 => exact Kd.R_tight rfl HO_182000.out); (case side3 => exact Kd.R_tight rfl HO_182001.out); rintro e w82 ⟨rfl, hy0, hy1, hb, hkp⟩; refine ⟨_, rfl, ?_⟩; have n0_ := Aside0.mk (Kd.R_mono (ok' := fun k_ => some k_ ≠ (.slice Ao12 t172.length co12 : Value).ownBlock) (Kd.R_keptB ((Kd.R_apart' HO_172000.out (Kd.R_typed HO_182001.out) (by decide))) hkp (fun k_ hk_ hs_ => Or.elim hs_ (fun e_ => (hk_.1) e_) (fun e_ => (hk_.2) e_))) (fun k_ hk_ => hk_.1.1)); have n1_ := Aside0.mk (Kd.R_mono (ok' := fun k_ => some k_ ≠ (.slice Ao15 t175.length co15 : Value).ownBlock) (Kd.R_keptB ((Kd.R_apart' HO_172001.out (Kd.R_typed HO_182000.out) (by decide))) hkp (fun k_ hk_ hs_ => Or.elim hs_ (fun e_ => (hk_.2) e_) (fun e_ => (hk_.1) e_))) (fun k_ hk_ => hk_.1.1)); have n2_ := Aside0.mk (Kd.R_reok rfl hy0 (fun k_ e_ => HO_182000.out.1 k_ e_)); have n3_ := Aside0.mk (Kd.R_reok rfl hy1 (fun k_ e_ => HO_182001.out.1 k_ e_)); have n4_ := Aside0.mk (blk_kept (by (with_reducible repeat (first | refine blk_drewN ?_ _ | refine blk_drew ?_ | refine blk_alloc ?_ _)); exact BK171.out) hkp (fun hs_ => Or.elim hs_ (fun e_ => (fun e_ => (Kd.R_ne HO_182000.out BK171.out (by decide)) e_) e_) (fun e_ => (fun e_ => (Kd.R_ne HO_182001.out BK171.out (by decide)) e_) e_))); have n5_ := Aside0.mk (blk_kept (by (with_reducible repeat (first | refine blk_drewN ?_ _ | refine blk_drew ?_ | refine blk_alloc ?_ _)); exact BK181.out) hkp (fun hs_ => Or.elim hs_ (fun e_ => (fun e_ => (Kd.R_ne HO_182000.out BK181.out (by decide)) e_) e_) (fun e_ => (fun e_ => (Kd.R_ne HO_182001.out BK181.out (by decide)) e_) e_))); have n6_ := Aside0.mk (hb); clear HO_172000; clear HO_172001; clear HO_182000; clear HO_182001; clear BK171; clear BK181; clear HB; have HO_172000 := n0_; have HO_172001 := n1_; have HO_182000 := n2_; have HO_182001 := n3_; have BK171 := n4_; have BK181 := n5_; have HB := n6_; clear n0_ n1_ n2_ n3_ n4_ n5_ n6_; (try clear hb); (try clear hkp); (try clear hy0); (try clear hy1); have hcz83_0 : w82.cell? ⟨gb181, 0, none⟩ = some (.slice Ao12 t172.length co12) := (blk_cell BK181.out 0).trans rfl; have hcz83_1 : w82.cell? ⟨gb181, 1, none⟩ = some (.slice Ao15 t175.length co15) := (blk_cell BK181.out 1).trans rfl; have hcz83_2 : w82.cell? ⟨gb181, 2, none⟩ = some (.int .i64 t178) := (blk_cell BK181.out 2).trans rfl; have hcz83_3 : w82.cell? ⟨gb181, 3, none⟩ = some (.bool t179) := (blk_cell BK181.out 3).trans rfl; have hfz83_0 := blk_frozen BK181.out 0; have hfz83_1 := blk_frozen BK181.out 1; have hfz83_2 := blk_frozen BK181.out 2; have hfz83_3 := blk_frozen BK181.out 3) | ((with_reducible refine gate_callee (f := 25) rfl ?_); refine goesL_ (some 35) rfl rfl Try.func25 (by kernel_rfl) rfl #[.agg #[.slice Ao12 t184.length co12, .slice Ao15 t185.length co15, .int .i64 t178, .bool t179], .int .i64 1] rfl (by (try simp only [List.map_toArray, List.map_cons, List.map_nil]); first | done | (rw [show t184.length = t172.length from (Kd.R_reads' HO_182000.out).1.symm, show t185.length = t175.length from (Kd.R_reads' HO_182001.out).1.symm] <;> rfl) | rfl | (simp only [List.length_drop, List.length_take]; rfl)) ?_; (with_reducible refine (laws_heldDisk.calls kj3 _ _ t184 _ _ t185 t178 t179 1 t186 _ ?side1 ?side2 ?side3 ?side4 A28.out).mono ?_); (case side1 => repeat (first | exact (Kd.R_reads' HO_182000.out).2.2 | (with_reducible refine Kd.C_alloc ?_ _) | (with_reducible refine Kd.C_drewN ?_ _) | (with_reducible refine Kd.C_drew ?_))); (case side2 => rw [show t184.length = t172.length from (Kd.R_reads' HO_182000.out).1.symm]; exact (Kd.R_reads' HO_182000.out).2.1); (case side3 => repeat (first | exact (Kd.R_reads' HO_182001.out).2.2 | (with_reducible refine Kd.C_alloc ?_ _) | (with_reducible refine Kd.C_drewN ?_ _) | (with_reducible refine Kd.C_drew ?_))); (case side4 => rw [show t185.length = t175.length from (Kd.R_reads' HO_182001.out).1.symm]; exact (Kd.R_reads' HO_182001.out).2.1); rintro e w84 ⟨rfl, hb⟩; refine ⟨_, rfl, ?_⟩; have n0_ := Aside0.mk (Kd.R_below (by (with_reducible repeat (first | apply Kd.R_alloc | apply Kd.R_drewN | apply Kd.R_drew)); exact HO_172000.out) hb); have n1_ := Aside0.mk (Kd.R_below (by (with_reducible repeat (first | apply Kd.R_alloc | apply Kd.R_drewN | apply Kd.R_drew)); exact HO_172001.out) hb); have n2_ := Aside0.mk (Kd.R_below (by (with_reducible repeat (first | apply Kd.R_alloc | apply Kd.R_drewN | apply Kd.R_drew)); exact HO_182000.out) hb); have n3_ := Aside0.mk (Kd.R_below (by (with_reducible repeat (first | apply Kd.R_alloc | apply Kd.R_drewN | apply Kd.R_drew)); exact HO_182001.out) hb); have n4_ := Aside0.mk (blk_below (g := gb171) (o := .cells #[.slice Ao7 t162.length co7, .slice Ao9 t165.length co9, .int .i64 t168, .bool t169] 36 (0, 0)) (by (with_reducible repeat (first | refine blk_drewN ?_ _ | refine blk_drew ?_ | refine blk_alloc ?_ _)); exact BK171.out) hb); have n5_ := Aside0.mk (blk_below (g := gb181) (o := .cells #[.slice Ao12 t172.length co12, .slice Ao15 t175.length co15, .int .i64 t178, .bool t179] 36 (0, 0)) (by (with_reducible repeat (first | refine blk_drewN ?_ _ | refine blk_drew ?_ | refine blk_alloc ?_ _)); exact BK181.out) hb); have n6_ := Aside0.mk (below_step (by repeat (first | (with_reducible first | exact HB.out | apply below_alloc | apply pw_below_drewN | apply below_drew1 | refine below_set ?_ GE171.out | refine below_set ?_ GE181.out) | exact HB.out)) hb); clear HO_172000; clear HO_172001; clear HO_182000; clear HO_182001; clear BK171; clear BK181; clear HB; have HO_172000 := n0_; have HO_172001 := n1_; have HO_182000 := n2_; have HO_182001 := n3_; have BK171 := n4_; have BK181 := n5_; have HB := n6_; clear n0_ n1_ n2_ n3_ n4_ n5_ n6_; (try clear hb); (try clear hb2); (try clear hk); (try clear hi)))
            go_ret
            exact ⟨by first | rfl | (simp [errW_none, errW_some] <;> rfl) | (simp [*, errW_none, errW_some] <;> rfl), by repeat (first | (with_reducible first | exact HB.out | apply below_alloc | apply pw_below_drewN | apply below_drew1 | refine below_set ?_ GE171.out | refine below_set ?_ GE181.out) | exact HB.out)⟩

/-- THE ONE PURE STATEMENT of laws_FnExactNewDisk: yours. -/
def laws_FnExactNewDisk.Pure : Prop := ∀ (a0 : Int), (Lit.int .i64 a0).wf = true → ∃ k, laws_FnExactNewDisk.f k a0 = some true
theorem laws_FnExactNewDisk.walk (P : laws_FnExactNewDisk.Pure) (a0 : Int) (w : World) (w0 : (Lit.int .i64 a0).wf = true) :
    Calls Try.prog 6 #[.int .i64 a0] w fun e w' => e = .returned (.bool true) ∧ Below w.heap.size w w' := by
  obtain ⟨k, h⟩ := P a0 w0
  refine (laws_FnExactNewDisk.calls k a0 true w h).mono ?_
  rintro e w' ⟨rfl, hd⟩
  exact ⟨rfl, hd⟩

end Go.Proofs.Ytehldidejgpifaa.PFnExactNewDisk
