/- Each Go function here comes to what the plain function of its name says, where that says something. Made by a program of this session, over the print. -/
import Derived.Test.YtfblodggimjoaaaPFnExactSameTypex0
import Derived.Test.YtfblodggimjoaaaPFnExactSameTypex1
namespace Go.Proofs.Ytfblodggimjoaaa.PFnExactSameType
open Go.RowKit Go.Proofs.YtfblodggimjoaaaW.PrintWords Go.Proofs.YtfblodggimjoaaaW.PrintLast Go.Proofs.YtfblodggimjoaaaW.PrintMore
attribute [local go_sem] max2_int min2_int max_two min_two max_three min_three max_four min_four   -- for this text's walks alone
set_option linter.unusedVariables false
set_option linter.unusedSimpArgs false

/-! ### laws_toType: function 9 -/
def laws_toType.f : Nat → Int → Int → Bool → Bool → List ByteArray → List Int → List (S91) → List (S27) → Int → Option (Int × Int × Bool × Bool × List ByteArray × List Int × (List (S64)) × (List (S33)) × Int)
 | 0, _, _, _, _, _, _, _, _, _ => none
 | k + 1, a0_0, a0_1, a0_2, a0_3, l0_4, l0_5, l0_6, l0_7, a0_8 => (laws_toStringS.f k l0_4).bind fun t295 => ((laws_toInt64S.f k l0_5).bind fun t298 => ((laws_toMemberS.f (laws_toType.f k) k l0_6).bind fun t301 => ((laws_toTypeS.f (laws_toType.f k) k l0_7).bind fun t304 => (some (a0_0, a0_1, a0_2, a0_3, t295, t298, t301, t304, a0_8)))))
set_option maxHeartbeats 8000000 in
set_option maxRecDepth 100000 in
theorem laws_toType.calls (k : Nat) : ∀ (a0_0 : Int) (a0_1 : Int) (a0_2 : Bool) (a0_3 : Bool) (A0_4 : Option Addr) (c0_4 : Nat) (l0_4 : List ByteArray) (A0_5 : Option Addr) (c0_5 : Nat) (l0_5 : List Int) (A0_6 : Option Addr) (c0_6 : Nat) (l0_6 : List (S91)) (A0_7 : Option Addr) (c0_7 : Nat) (l0_7 : List (S27)) (a0_8 : Int) (r1 : Int) (r2 : Int) (r3 : Bool) (r4 : Bool) (r5 : List ByteArray) (r6 : List Int) (r7 : List (S64)) (r8 : List (S33)) (r9 : Int) (w : World) (hr0_4 : Kd.C Kd.string w A0_4 l0_4.length l0_4) (hc0_4 : l0_4.length ≤ c0_4) (hr0_5 : Kd.C (Kd.int .i64) w A0_5 l0_5.length l0_5) (hc0_5 : l0_5.length ≤ c0_5) (hr0_6 : Kd.C k91 w A0_6 l0_6.length l0_6) (hc0_6 : l0_6.length ≤ c0_6) (hr0_7 : Kd.C k27 w A0_7 l0_7.length l0_7) (hc0_7 : l0_7.length ≤ c0_7) (h : laws_toType.f k a0_0 a0_1 a0_2 a0_3 l0_4 l0_5 l0_6 l0_7 a0_8 = some (r1, r2, r3, r4, r5, r6, r7, r8, r9)),
 Calls Try.prog 9 #[.agg #[.int .i64 a0_0, .int .i64 a0_1, .bool a0_2, .bool a0_3, .slice A0_4 l0_4.length c0_4, .slice A0_5 l0_5.length c0_5, .slice A0_6 l0_6.length c0_6, .slice A0_7 l0_7.length c0_7, .int .i64 a0_8]] w fun e w' => ∃ v4_ v5_ v6_ v7_ : Value, e = .returned (.agg #[.int .i64 r1, .int .i64 r2, .bool r3, .bool r4, v4_, v5_, v6_, v7_, .int .i64 r9]) ∧ Kd.R Kd.string 9 w' w.heap.size (fun _ => True) v4_ r5 ∧ Kd.R (Kd.int .i64) 2 w' w.heap.size (fun _ => True) v5_ r6 ∧ Kd.R k64 64 w' w.heap.size (fun k_ => some k_ ≠ (v4_ : Value).ownBlock ∧ some k_ ≠ (v5_ : Value).ownBlock ∧ some k_ ≠ (v7_ : Value).ownBlock) v6_ r7 ∧ Kd.R k33 33 w' w.heap.size (fun k_ => some k_ ≠ (v4_ : Value).ownBlock ∧ some k_ ≠ (v5_ : Value).ownBlock ∧ some k_ ≠ (v6_ : Value).ownBlock) v7_ r8 ∧ Below w.heap.size w w' := by
 induction k using Nat.strongRecOn with
 | _ k ih =>
 intro a0_0 a0_1 a0_2 a0_3 A0_4 c0_4 l0_4 A0_5 c0_5 l0_5 A0_6 c0_6 l0_6 A0_7 c0_7 l0_7 a0_8 r1 r2 r3 r4 r5 r6 r7 r8 r9 w hr0_4 hc0_4 hr0_5 hc0_5 hr0_6 hc0_6 hr0_7 hc0_7 h
 cases k with
 | zero => exact absurd h (by simp [laws_toType.f])
 | succ k =>
 simp only [laws_toType.f] at h
 have hu27 := Try.underlying27; have hu33 := Try.underlying33
 have HR0_4 := yD hr0_4
 have HC0_4 := yD hc0_4
 clear hr0_4 hc0_4
 have HR0_5 := yD hr0_5
 have HC0_5 := yD hc0_5
 clear hr0_5 hc0_5
 have HR0_6 := yD hr0_6
 have HC0_6 := yD hc0_6
 clear hr0_6 hc0_6
 have HR0_7 := yD hr0_7
 have HC0_7 := yD hc0_7
 clear hr0_7 hc0_7
 have HB := yD (Below.refl w.heap.size w)
 have H : ((laws_toStringS.f k l0_4).bind fun t295 => ((laws_toInt64S.f k l0_5).bind fun t298 => ((laws_toMemberS.f (laws_toType.f k) k l0_6).bind fun t301 => ((laws_toTypeS.f (laws_toType.f k) k l0_7).bind fun t304 => (some (a0_0, a0_1, a0_2, a0_3, t295, t298, t301, t304, a0_8)))))) = some (r1, r2, r3, r4, r5, r6, r7, r8, r9) := h
 clear h
 obtain ⟨t295, A20, H⟩ := zW_ H
 replace H : ((laws_toInt64S.f k l0_5).bind fun t298 => ((laws_toMemberS.f (laws_toType.f k) k l0_6).bind fun t301 => ((laws_toTypeS.f (laws_toType.f k) k l0_7).bind fun t304 => (some (a0_0, a0_1, a0_2, a0_3, t295, t298, t301, t304, a0_8))))) = some (r1, r2, r3, r4, r5, r6, r7, r8, r9) := H
 have A2 := yD A20
 clear A20
 obtain ⟨t298, A30, H⟩ := zW_ H
 replace H : ((laws_toMemberS.f (laws_toType.f k) k l0_6).bind fun t301 => ((laws_toTypeS.f (laws_toType.f k) k l0_7).bind fun t304 => (some (a0_0, a0_1, a0_2, a0_3, t295, t298, t301, t304, a0_8)))) = some (r1, r2, r3, r4, r5, r6, r7, r8, r9) := H
 have A3 := yD A30
 clear A30
 obtain ⟨t301, A40, H⟩ := zW_ H
 replace H : ((laws_toTypeS.f (laws_toType.f k) k l0_7).bind fun t304 => (some (a0_0, a0_1, a0_2, a0_3, t295, t298, t301, t304, a0_8))) = some (r1, r2, r3, r4, r5, r6, r7, r8, r9) := H
 have A4 := yD A40
 clear A40
 obtain ⟨t304, A50, H⟩ := zW_ H
 replace H : (some (a0_0, a0_1, a0_2, a0_3, t295, t298, t301, t304, a0_8)) = some (r1, r2, r3, r4, r5, r6, r7, r8, r9) := H
 have A5 := yD A50
 clear A50
 simp only [Option.some.injEq, Prod.mk.injEq] at H
 obtain ⟨rfl, rfl, rfl, rfl, rfl, rfl, rfl, rfl, rfl⟩ := H
 go_enter Try.func9, Try.ntmps9
 go_wp2_with (first | ((with_reducible refine gate_dst (N := 1) rfl ?_); refine box_event ?hg (N := 1) ?hd (cs := #[.int .i64 a0_0, .int .i64 a0_1, .bool a0_2, .bool a0_3, .slice A0_4 l0_4.length c0_4, .slice A0_5 l0_5.length c0_5, .slice A0_6 l0_6.length c0_6, .slice A0_7 l0_7.length c0_7, .int .i64 a0_8]) (t := 27) ?hr ?_; (case hd => rfl); (case hg => rfl); (case hr => first | (go_simp; done) | (go_simp; rfl)); intro gb292 hg w6 hbox hb; have BK292 := yD (hbox); have GW292 := yD ((by rw [hg]; exact (below_size (kB HB)) : w.heap.size ≤ gb292)); have GE292 := yD ((by rw [hg]; exact (below_size (kB HB)) : w.heap.size ≤ gb292)); replace HB := yD (zC (kB HB) hb); clear hb hbox hg) | ((with_reducible refine gate_dst (N := 2) rfl ?_); refine box_event ?hg (N := 2) ?hd (cs := #[.int .i64 0, .int .i64 0, .bool false, .bool false, .slice none 0 0, .slice none 0 0, .slice none 0 0, .slice none 0 0, .int .i64 0]) (t := 33) ?hr ?_; (case hd => rfl); (case hg => rfl); (case hr => first | (go_simp; done) | (go_simp; rfl)); intro gb293 hg w7 hbox hb; have BK293 := yD (hbox); have GW293 := yD ((by rw [hg]; exact (below_size (kB HB)) : w.heap.size ≤ gb293)); have GE293 := yD ((by rw [hg]; exact (below_size (kB HB)) : w.heap.size ≤ gb293)); replace HB := yD (zC (kB HB) hb); have NB292_293 := yD ((by rw [hg]; exact Nat.ne_of_lt (blk_lt (kN BK292)) : gb292 ≠ gb293)); have NB293_292 := yD ((by rw [hg]; exact Nat.ne_of_gt (blk_lt (kN BK292)) : gb293 ≠ gb292)); replace BK292 := yD (zB (kN BK292) hb); clear hb hbox hg) | ((with_reducible refine gate_dst (N := 3) rfl ?_); refine box_event ?hg (N := 3) ?hd (cs := #[.int .i64 0, .int .i64 0, .bool false, .bool false, .slice none 0 0, .slice none 0 0, .slice none 0 0, .slice none 0 0, .int .i64 0]) (t := 33) ?hr ?_; (case hd => rfl); (case hg => rfl); (case hr => first | (go_simp; done) | (go_simp; rfl)); intro gb294 hg w8 hbox hb; have BK294 := yD (hbox); have GW294 := yD ((by rw [hg]; exact (below_size (kB HB)) : w.heap.size ≤ gb294)); have GE294 := yD ((by rw [hg]; exact (below_size (kB HB)) : w.heap.size ≤ gb294)); replace HB := yD (zC (kB HB) hb); have NB292_294 := yD ((by rw [hg]; exact Nat.ne_of_lt (blk_lt (kN BK292)) : gb292 ≠ gb294)); have NB294_292 := yD ((by rw [hg]; exact Nat.ne_of_gt (blk_lt (kN BK292)) : gb294 ≠ gb292)); replace BK292 := yD (zB (kN BK292) hb); have NB293_294 := yD ((by rw [hg]; exact Nat.ne_of_lt (blk_lt (kN BK293)) : gb293 ≠ gb294)); have NB294_293 := yD ((by rw [hg]; exact Nat.ne_of_gt (blk_lt (kN BK293)) : gb294 ≠ gb293)); replace BK293 := yD (zB (kN BK293) hb); clear hb hbox hg; have hnb9 := NB292_293.out; have hnc9 := NB293_292.out; have hnb10 := NB292_294.out; have hnc10 := NB294_292.out; obtain ⟨hcz11_0, hcz11_1, hcz11_2, hcz11_3, hcz11_4, hcz11_5, hcz11_6, hcz11_7, hcz11_8⟩ := cz9 BK292.out; obtain ⟨hfz11_0, hfz11_1, hfz11_2, hfz11_3, hfz11_4, hfz11_5, hfz11_6, hfz11_7, hfz11_8⟩ := fz9 BK292.out; have hnb12 := NB294_293.out; have hnc12 := NB293_294.out; obtain ⟨hcz13_0, hcz13_1, hcz13_2, hcz13_3, hcz13_4, hcz13_5, hcz13_6, hcz13_7, hcz13_8⟩ := cz9 BK294.out; obtain ⟨hfz13_0, hfz13_1, hfz13_2, hfz13_3, hfz13_4, hfz13_5, hfz13_6, hfz13_7, hfz13_8⟩ := fz9 BK294.out) | ((with_reducible refine gate_callee (f := 35) rfl ?_); refine gL 18 Try.func35 #[.slice A0_4 l0_4.length c0_4] ?_; (with_reducible refine (laws_toStringS.calls k _ _ l0_4 t295 _ ?side1 ?side2 A2.out).mono ?_); (case side1 => exact yY HR0_4.out (kB HB)); (case side2 => exact HC0_4.out); rintro e w14 ⟨v296, rfl, ho0, hb⟩; refine ⟨_, rfl, ?_⟩; have HO297 := yD (yZ ho0 (below_size (kB HB))); replace BK292 := yD (zB (g := gb292) (o := .cells #[.int .i64 a0_0, .int .i64 a0_1, .bool a0_2, .bool a0_3, .slice A0_4 l0_4.length c0_4, .slice A0_5 l0_5.length c0_5, .slice A0_6 l0_6.length c0_6, .slice A0_7 l0_7.length c0_7, .int .i64 a0_8] 27 (0, 0)) (by (with_reducible repeat (first | refine yM ?_ _ | refine yO ?_ | refine yN ?_ _)); refine blk_far ?_ NB292_294.out _; (with_reducible repeat (first | refine yM ?_ _ | refine yO ?_ | refine yN ?_ _)); refine blk_far ?_ NB292_294.out _; (with_reducible repeat (first | refine yM ?_ _ | refine yO ?_ | refine yN ?_ _)); refine blk_far ?_ NB292_294.out _; (with_reducible repeat (first | refine yM ?_ _ | refine yO ?_ | refine yN ?_ _)); refine blk_far ?_ NB292_294.out _; (with_reducible repeat (first | refine yM ?_ _ | refine yO ?_ | refine yN ?_ _)); exact BK292.out) hb); replace BK293 := yD (zB (g := gb293) (o := .cells #[.int .i64 0, .int .i64 0, .bool false, .bool false, .slice none 0 0, .slice none 0 0, .slice none 0 0, .slice none 0 0, .int .i64 0] 33 (0, 0)) (by (with_reducible repeat (first | refine yM ?_ _ | refine yO ?_ | refine yN ?_ _)); refine blk_far ?_ NB293_294.out _; (with_reducible repeat (first | refine yM ?_ _ | refine yO ?_ | refine yN ?_ _)); refine blk_far ?_ NB293_294.out _; (with_reducible repeat (first | refine yM ?_ _ | refine yO ?_ | refine yN ?_ _)); refine blk_far ?_ NB293_294.out _; (with_reducible repeat (first | refine yM ?_ _ | refine yO ?_ | refine yN ?_ _)); refine blk_far ?_ NB293_294.out _; (with_reducible repeat (first | refine yM ?_ _ | refine yO ?_ | refine yN ?_ _)); exact BK293.out) hb); replace BK294 := yD (zB (g := gb294) (o := .cells #[.int .i64 a0_0, .int .i64 a0_1, .bool a0_2, .bool a0_3, .slice none 0 0, .slice none 0 0, .slice none 0 0, .slice none 0 0, .int .i64 0] 33 (0, 0)) (by (with_reducible repeat (first | refine yM ?_ _ | refine yO ?_ | refine yN ?_ _)); refine blk_put (cs := #[.int .i64 a0_0, .int .i64 a0_1, .bool a0_2, .bool false, .slice none 0 0, .slice none 0 0, .slice none 0 0, .slice none 0 0, .int .i64 0]) ?_ 3 _ rfl; (with_reducible repeat (first | refine yM ?_ _ | refine yO ?_ | refine yN ?_ _)); refine blk_put (cs := #[.int .i64 a0_0, .int .i64 a0_1, .bool false, .bool false, .slice none 0 0, .slice none 0 0, .slice none 0 0, .slice none 0 0, .int .i64 0]) ?_ 2 _ rfl; (with_reducible repeat (first | refine yM ?_ _ | refine yO ?_ | refine yN ?_ _)); refine blk_put (cs := #[.int .i64 a0_0, .int .i64 0, .bool false, .bool false, .slice none 0 0, .slice none 0 0, .slice none 0 0, .slice none 0 0, .int .i64 0]) ?_ 1 _ rfl; (with_reducible repeat (first | refine yM ?_ _ | refine yO ?_ | refine yN ?_ _)); refine blk_put (cs := #[.int .i64 0, .int .i64 0, .bool false, .bool false, .slice none 0 0, .slice none 0 0, .slice none 0 0, .slice none 0 0, .int .i64 0]) ?_ 0 _ rfl; (with_reducible repeat (first | refine yM ?_ _ | refine yO ?_ | refine yN ?_ _)); exact BK294.out) hb); replace HB := yD (zC (kB HB) hb); clear hb ho0; obtain ⟨Ao15, co15, eo15⟩ := Kd.R_slice HO297.out; subst eo15; obtain ⟨hcz16_0, hcz16_1, hcz16_2, hcz16_3, hcz16_4, hcz16_5, hcz16_6, hcz16_7, hcz16_8⟩ := cz9 BK294.out; obtain ⟨hfz16_0, hfz16_1, hfz16_2, hfz16_3, hfz16_4, hfz16_5, hfz16_6, hfz16_7, hfz16_8⟩ := fz9 BK294.out; obtain ⟨hcz17_0, hcz17_1, hcz17_2, hcz17_3, hcz17_4, hcz17_5, hcz17_6, hcz17_7, hcz17_8⟩ := cz9 BK292.out; obtain ⟨hfz17_0, hfz17_1, hfz17_2, hfz17_3, hfz17_4, hfz17_5, hfz17_6, hfz17_7, hfz17_8⟩ := fz9 BK292.out) | ((with_reducible refine gate_callee (f := 36) rfl ?_); refine gL 22 Try.func36 #[.slice A0_5 l0_5.length c0_5] ?_; (with_reducible refine (laws_toInt64S.calls k _ _ l0_5 t298 _ ?side1 ?side2 A3.out).mono ?_); (case side1 => exact yY HR0_5.out (kB HB)); (case side2 => exact HC0_5.out); rintro e w18 ⟨v299, rfl, ho0, hb⟩; refine ⟨_, rfl, ?_⟩; replace HO297 := yD (zE (by (with_reducible repeat (first | apply yA | apply yB | apply yC)); exact (zF (yF (p := ⟨gb294, 4, none⟩) (Kd.R_types HO297.out BK294.out (by decide)) (fun _ hk => hk.2) (.slice Ao15 t295.length co15)) (fun _ h_ => h_.1))) hb); have HO300 := yD (yZ ho0 (below_size (kB HB))); replace BK292 := yD (zB (g := gb292) (o := .cells #[.int .i64 a0_0, .int .i64 a0_1, .bool a0_2, .bool a0_3, .slice A0_4 l0_4.length c0_4, .slice A0_5 l0_5.length c0_5, .slice A0_6 l0_6.length c0_6, .slice A0_7 l0_7.length c0_7, .int .i64 a0_8] 27 (0, 0)) (by (with_reducible repeat (first | refine yM ?_ _ | refine yO ?_ | refine yN ?_ _)); refine blk_far ?_ NB292_294.out _; (with_reducible repeat (first | refine yM ?_ _ | refine yO ?_ | refine yN ?_ _)); exact BK292.out) hb); replace BK293 := yD (zB (g := gb293) (o := .cells #[.int .i64 0, .int .i64 0, .bool false, .bool false, .slice none 0 0, .slice none 0 0, .slice none 0 0, .slice none 0 0, .int .i64 0] 33 (0, 0)) (by (with_reducible repeat (first | refine yM ?_ _ | refine yO ?_ | refine yN ?_ _)); refine blk_far ?_ NB293_294.out _; (with_reducible repeat (first | refine yM ?_ _ | refine yO ?_ | refine yN ?_ _)); exact BK293.out) hb); replace BK294 := yD (zB (g := gb294) (o := .cells #[.int .i64 a0_0, .int .i64 a0_1, .bool a0_2, .bool a0_3, .slice Ao15 t295.length co15, .slice none 0 0, .slice none 0 0, .slice none 0 0, .int .i64 0] 33 (0, 0)) (by (with_reducible repeat (first | refine yM ?_ _ | refine yO ?_ | refine yN ?_ _)); refine blk_put (cs := #[.int .i64 a0_0, .int .i64 a0_1, .bool a0_2, .bool a0_3, .slice none 0 0, .slice none 0 0, .slice none 0 0, .slice none 0 0, .int .i64 0]) ?_ 4 _ rfl; (with_reducible repeat (first | refine yM ?_ _ | refine yO ?_ | refine yN ?_ _)); exact BK294.out) hb); replace HB := yD (zC (kB HB) hb); clear hb ho0; obtain ⟨Ao19, co19, eo19⟩ := Kd.R_slice HO300.out; subst eo19; obtain ⟨hcz20_0, hcz20_1, hcz20_2, hcz20_3, hcz20_4, hcz20_5, hcz20_6, hcz20_7, hcz20_8⟩ := cz9 BK294.out; obtain ⟨hfz20_0, hfz20_1, hfz20_2, hfz20_3, hfz20_4, hfz20_5, hfz20_6, hfz20_7, hfz20_8⟩ := fz9 BK294.out; obtain ⟨hcz21_0, hcz21_1, hcz21_2, hcz21_3, hcz21_4, hcz21_5, hcz21_6, hcz21_7, hcz21_8⟩ := cz9 BK292.out; obtain ⟨hfz21_0, hfz21_1, hfz21_2, hfz21_3, hfz21_4, hfz21_5, hfz21_6, hfz21_7, hfz21_8⟩ := fz9 BK292.out) | ((with_reducible refine gate_callee (f := 37) rfl ?_); refine gL 26 Try.func37 #[.slice A0_6 l0_6.length c0_6] ?_; (with_reducible refine (laws_toMemberS.calls (laws_toType.f k) (ih k (by omega)) k _ _ l0_6 t301 _ ?side1 ?side2 A4.out).mono ?_); (case side1 => exact yY HR0_6.out (kB HB)); (case side2 => exact HC0_6.out); rintro e w22 ⟨v302, rfl, ho0, hb⟩; refine ⟨_, rfl, ?_⟩; have HO303 := yD (yZ (Kd.R_newB (Kd.R_newB (yJ (yJ ho0 (yK (by (with_reducible repeat (first | apply yA | apply yB | apply yC)); exact (zF (yF (p := ⟨gb294, 5, none⟩) (Kd.R_types HO297.out BK294.out (by decide)) (fun _ hk => hk.2) (.slice Ao19 t298.length co19)) (fun _ h_ => h_.1))))) (yK (by (with_reducible repeat (first | apply yA | apply yB | apply yC)); exact (zF (yF (p := ⟨gb294, 5, none⟩) (Kd.R_types HO300.out BK294.out (by decide)) (fun _ hk => hk.2) (.slice Ao19 t298.length co19)) (fun _ h_ => h_.1))))) (g := gb293) (o := .cells #[.int .i64 0, .int .i64 0, .bool false, .bool false, .slice none 0 0, .slice none 0 0, .slice none 0 0, .slice none 0 0, .int .i64 0] 33 (0, 0)) (by (with_reducible repeat (first | refine yM ?_ _ | refine yO ?_ | refine yN ?_ _)); refine blk_far ?_ NB293_294.out _; (with_reducible repeat (first | refine yM ?_ _ | refine yO ?_ | refine yN ?_ _)); exact BK293.out)) (g := gb294) (o := .cells #[.int .i64 a0_0, .int .i64 a0_1, .bool a0_2, .bool a0_3, .slice Ao15 t295.length co15, .slice Ao19 t298.length co19, .slice none 0 0, .slice none 0 0, .int .i64 0] 33 (0, 0)) (by (with_reducible repeat (first | refine yM ?_ _ | refine yO ?_ | refine yN ?_ _)); refine blk_put (cs := #[.int .i64 a0_0, .int .i64 a0_1, .bool a0_2, .bool a0_3, .slice Ao15 t295.length co15, .slice none 0 0, .slice none 0 0, .slice none 0 0, .int .i64 0]) ?_ 5 _ rfl; (with_reducible repeat (first | refine yM ?_ _ | refine yO ?_ | refine yN ?_ _)); exact BK294.out)) (below_size (kB HB))); replace HO297 := yD (zE (by (with_reducible repeat (first | apply yA | apply yB | apply yC)); exact (zF (yF (p := ⟨gb294, 5, none⟩) (Kd.R_types HO297.out BK294.out (by decide)) (fun _ hk => hk.2) (.slice Ao19 t298.length co19)) (fun _ h_ => h_.1))) hb); replace HO300 := yD (zE (by (with_reducible repeat (first | apply yA | apply yB | apply yC)); exact (zF (yF (p := ⟨gb294, 5, none⟩) (Kd.R_types HO300.out BK294.out (by decide)) (fun _ hk => hk.2) (.slice Ao19 t298.length co19)) (fun _ h_ => h_.1))) hb); replace BK292 := yD (zB (g := gb292) (o := .cells #[.int .i64 a0_0, .int .i64 a0_1, .bool a0_2, .bool a0_3, .slice A0_4 l0_4.length c0_4, .slice A0_5 l0_5.length c0_5, .slice A0_6 l0_6.length c0_6, .slice A0_7 l0_7.length c0_7, .int .i64 a0_8] 27 (0, 0)) (by (with_reducible repeat (first | refine yM ?_ _ | refine yO ?_ | refine yN ?_ _)); refine blk_far ?_ NB292_294.out _; (with_reducible repeat (first | refine yM ?_ _ | refine yO ?_ | refine yN ?_ _)); exact BK292.out) hb); replace BK293 := yD (zB (g := gb293) (o := .cells #[.int .i64 0, .int .i64 0, .bool false, .bool false, .slice none 0 0, .slice none 0 0, .slice none 0 0, .slice none 0 0, .int .i64 0] 33 (0, 0)) (by (with_reducible repeat (first | refine yM ?_ _ | refine yO ?_ | refine yN ?_ _)); refine blk_far ?_ NB293_294.out _; (with_reducible repeat (first | refine yM ?_ _ | refine yO ?_ | refine yN ?_ _)); exact BK293.out) hb); replace BK294 := yD (zB (g := gb294) (o := .cells #[.int .i64 a0_0, .int .i64 a0_1, .bool a0_2, .bool a0_3, .slice Ao15 t295.length co15, .slice Ao19 t298.length co19, .slice none 0 0, .slice none 0 0, .int .i64 0] 33 (0, 0)) (by (with_reducible repeat (first | refine yM ?_ _ | refine yO ?_ | refine yN ?_ _)); refine blk_put (cs := #[.int .i64 a0_0, .int .i64 a0_1, .bool a0_2, .bool a0_3, .slice Ao15 t295.length co15, .slice none 0 0, .slice none 0 0, .slice none 0 0, .int .i64 0]) ?_ 5 _ rfl; (with_reducible repeat (first | refine yM ?_ _ | refine yO ?_ | refine yN ?_ _)); exact BK294.out) hb); replace HB := yD (zC (kB HB) hb); clear hb ho0; obtain ⟨Ao23, co23, eo23⟩ := Kd.R_slice HO303.out; subst eo23; obtain ⟨hcz24_0, hcz24_1, hcz24_2, hcz24_3, hcz24_4, hcz24_5, hcz24_6, hcz24_7, hcz24_8⟩ := cz9 BK294.out; obtain ⟨hfz24_0, hfz24_1, hfz24_2, hfz24_3, hfz24_4, hfz24_5, hfz24_6, hfz24_7, hfz24_8⟩ := fz9 BK294.out; obtain ⟨hcz25_0, hcz25_1, hcz25_2, hcz25_3, hcz25_4, hcz25_5, hcz25_6, hcz25_7, hcz25_8⟩ := cz9 BK292.out; obtain ⟨hfz25_0, hfz25_1, hfz25_2, hfz25_3, hfz25_4, hfz25_5, hfz25_6, hfz25_7, hfz25_8⟩ := fz9 BK292.out) | ((with_reducible refine gate_callee (f := 38) rfl ?_); refine gL 30 Try.func38 #[.slice A0_7 l0_7.length c0_7] ?_; (with_reducible refine (laws_toTypeS.calls (laws_toType.f k) (ih k (by omega)) k _ _ l0_7 t304 _ ?side1 ?side2 A5.out).mono ?_); (case side1 => exact yY HR0_7.out (kB HB)); (case side2 => exact HC0_7.out); rintro e w26 ⟨v305, rfl, ho0, hb⟩; refine ⟨_, rfl, ?_⟩; have HO306 := yD (yZ (Kd.R_newB (Kd.R_newB (yJ (yJ (yJ ho0 (yK (by (with_reducible repeat (first | apply yA | apply yB | apply yC)); exact (zF (yF (p := ⟨gb294, 6, none⟩) (Kd.R_types HO297.out BK294.out (by decide)) (fun _ hk => hk.2) (.slice Ao23 t301.length co23)) (fun _ h_ => h_.1))))) (yK (by (with_reducible repeat (first | apply yA | apply yB | apply yC)); exact (zF (yF (p := ⟨gb294, 6, none⟩) (Kd.R_types HO300.out BK294.out (by decide)) (fun _ hk => hk.2) (.slice Ao23 t301.length co23)) (fun _ h_ => h_.1))))) (yK (by (with_reducible repeat (first | apply yA | apply yB | apply yC)); exact (zF (yF (p := ⟨gb294, 6, none⟩) (zF HO303.out (fun k_ hk => (⟨hk, hk.2⟩ : _ ∧ k_ ≠ gb294))) (fun _ hk => hk.2) (.slice Ao23 t301.length co23)) (fun _ h_ => h_.1))))) (g := gb293) (o := .cells #[.int .i64 0, .int .i64 0, .bool false, .bool false, .slice none 0 0, .slice none 0 0, .slice none 0 0, .slice none 0 0, .int .i64 0] 33 (0, 0)) (by (with_reducible repeat (first | refine yM ?_ _ | refine yO ?_ | refine yN ?_ _)); refine blk_far ?_ NB293_294.out _; (with_reducible repeat (first | refine yM ?_ _ | refine yO ?_ | refine yN ?_ _)); exact BK293.out)) (g := gb294) (o := .cells #[.int .i64 a0_0, .int .i64 a0_1, .bool a0_2, .bool a0_3, .slice Ao15 t295.length co15, .slice Ao19 t298.length co19, .slice Ao23 t301.length co23, .slice none 0 0, .int .i64 0] 33 (0, 0)) (by (with_reducible repeat (first | refine yM ?_ _ | refine yO ?_ | refine yN ?_ _)); refine blk_put (cs := #[.int .i64 a0_0, .int .i64 a0_1, .bool a0_2, .bool a0_3, .slice Ao15 t295.length co15, .slice Ao19 t298.length co19, .slice none 0 0, .slice none 0 0, .int .i64 0]) ?_ 6 _ rfl; (with_reducible repeat (first | refine yM ?_ _ | refine yO ?_ | refine yN ?_ _)); exact BK294.out)) (below_size (kB HB))); replace HO297 := yD (zE (by (with_reducible repeat (first | apply yA | apply yB | apply yC)); exact (zF (yF (p := ⟨gb294, 6, none⟩) (Kd.R_types HO297.out BK294.out (by decide)) (fun _ hk => hk.2) (.slice Ao23 t301.length co23)) (fun _ h_ => h_.1))) hb); replace HO300 := yD (zE (by (with_reducible repeat (first | apply yA | apply yB | apply yC)); exact (zF (yF (p := ⟨gb294, 6, none⟩) (Kd.R_types HO300.out BK294.out (by decide)) (fun _ hk => hk.2) (.slice Ao23 t301.length co23)) (fun _ h_ => h_.1))) hb); replace HO303 := yD (Kd.R_elder' (by (with_reducible repeat (first | apply yA | apply yB | apply yC)); exact (zF (yF (p := ⟨gb294, 6, none⟩) (zF HO303.out (fun k_ hk => (⟨hk, hk.2⟩ : _ ∧ k_ ≠ gb294))) (fun _ hk => hk.2) (.slice Ao23 t301.length co23)) (fun _ h_ => h_.1))) (yH ho0) hb); replace BK292 := yD (zB (g := gb292) (o := .cells #[.int .i64 a0_0, .int .i64 a0_1, .bool a0_2, .bool a0_3, .slice A0_4 l0_4.length c0_4, .slice A0_5 l0_5.length c0_5, .slice A0_6 l0_6.length c0_6, .slice A0_7 l0_7.length c0_7, .int .i64 a0_8] 27 (0, 0)) (by (with_reducible repeat (first | refine yM ?_ _ | refine yO ?_ | refine yN ?_ _)); refine blk_far ?_ NB292_294.out _; (with_reducible repeat (first | refine yM ?_ _ | refine yO ?_ | refine yN ?_ _)); exact BK292.out) hb); replace BK293 := yD (zB (g := gb293) (o := .cells #[.int .i64 0, .int .i64 0, .bool false, .bool false, .slice none 0 0, .slice none 0 0, .slice none 0 0, .slice none 0 0, .int .i64 0] 33 (0, 0)) (by (with_reducible repeat (first | refine yM ?_ _ | refine yO ?_ | refine yN ?_ _)); refine blk_far ?_ NB293_294.out _; (with_reducible repeat (first | refine yM ?_ _ | refine yO ?_ | refine yN ?_ _)); exact BK293.out) hb); replace BK294 := yD (zB (g := gb294) (o := .cells #[.int .i64 a0_0, .int .i64 a0_1, .bool a0_2, .bool a0_3, .slice Ao15 t295.length co15, .slice Ao19 t298.length co19, .slice Ao23 t301.length co23, .slice none 0 0, .int .i64 0] 33 (0, 0)) (by (with_reducible repeat (first | refine yM ?_ _ | refine yO ?_ | refine yN ?_ _)); refine blk_put (cs := #[.int .i64 a0_0, .int .i64 a0_1, .bool a0_2, .bool a0_3, .slice Ao15 t295.length co15, .slice Ao19 t298.length co19, .slice none 0 0, .slice none 0 0, .int .i64 0]) ?_ 6 _ rfl; (with_reducible repeat (first | refine yM ?_ _ | refine yO ?_ | refine yN ?_ _)); exact BK294.out) hb); replace HB := yD (zC (kB HB) hb); clear hb ho0; obtain ⟨Ao27, co27, eo27⟩ := Kd.R_slice HO306.out; subst eo27; obtain ⟨hcz28_0, hcz28_1, hcz28_2, hcz28_3, hcz28_4, hcz28_5, hcz28_6, hcz28_7, hcz28_8⟩ := cz9 BK294.out; obtain ⟨hfz28_0, hfz28_1, hfz28_2, hfz28_3, hfz28_4, hfz28_5, hfz28_6, hfz28_7, hfz28_8⟩ := fz9 BK294.out; obtain ⟨hcz29_0, hcz29_1, hcz29_2, hcz29_3, hcz29_4, hcz29_5, hcz29_6, hcz29_7, hcz29_8⟩ := cz9 BK292.out; obtain ⟨hfz29_0, hfz29_1, hfz29_2, hfz29_3, hfz29_4, hfz29_5, hfz29_6, hfz29_7, hfz29_8⟩ := fz9 BK292.out; obtain ⟨hcz30_0, hcz30_1, hcz30_2, hcz30_3, hcz30_4, hcz30_5, hcz30_6, hcz30_7, hcz30_8⟩ := cz9 BK293.out; obtain ⟨hfz30_0, hfz30_1, hfz30_2, hfz30_3, hfz30_4, hfz30_5, hfz30_6, hfz30_7, hfz30_8⟩ := fz9 BK293.out))
 refine bodyPost_ret (results_cell_row rfl _ _ gb293 33 #[.int .i64 a0_0, .int .i64 a0_1, .bool a0_2, .bool a0_3, .slice Ao15 t295.length co15, .slice Ao19 t298.length co19, .slice Ao23 t301.length co23, .slice Ao27 t304.length co27, .int .i64 a0_8] (0, 0) _ rfl (by (with_reducible repeat (first | refine yM ?_ _ | refine yO ?_ | refine yN ?_ _)); refine blk_put (cs := #[.int .i64 a0_0, .int .i64 a0_1, .bool a0_2, .bool a0_3, .slice Ao15 t295.length co15, .slice Ao19 t298.length co19, .slice Ao23 t301.length co23, .slice Ao27 t304.length co27, .int .i64 0]) ?_ 8 _ rfl; (with_reducible repeat (first | refine yM ?_ _ | refine yO ?_ | refine yN ?_ _)); refine blk_put (cs := #[.int .i64 a0_0, .int .i64 a0_1, .bool a0_2, .bool a0_3, .slice Ao15 t295.length co15, .slice Ao19 t298.length co19, .slice Ao23 t301.length co23, .slice none 0 0, .int .i64 0]) ?_ 7 _ rfl; (with_reducible repeat (first | refine yM ?_ _ | refine yO ?_ | refine yN ?_ _)); refine blk_put (cs := #[.int .i64 a0_0, .int .i64 a0_1, .bool a0_2, .bool a0_3, .slice Ao15 t295.length co15, .slice Ao19 t298.length co19, .slice none 0 0, .slice none 0 0, .int .i64 0]) ?_ 6 _ rfl; (with_reducible repeat (first | refine yM ?_ _ | refine yO ?_ | refine yN ?_ _)); refine blk_put (cs := #[.int .i64 a0_0, .int .i64 a0_1, .bool a0_2, .bool a0_3, .slice Ao15 t295.length co15, .slice none 0 0, .slice none 0 0, .slice none 0 0, .int .i64 0]) ?_ 5 _ rfl; (with_reducible repeat (first | refine yM ?_ _ | refine yO ?_ | refine yN ?_ _)); refine blk_put (cs := #[.int .i64 a0_0, .int .i64 a0_1, .bool a0_2, .bool a0_3, .slice none 0 0, .slice none 0 0, .slice none 0 0, .slice none 0 0, .int .i64 0]) ?_ 4 _ rfl; (with_reducible repeat (first | refine yM ?_ _ | refine yO ?_ | refine yN ?_ _)); refine blk_put (cs := #[.int .i64 a0_0, .int .i64 a0_1, .bool a0_2, .bool false, .slice none 0 0, .slice none 0 0, .slice none 0 0, .slice none 0 0, .int .i64 0]) ?_ 3 _ rfl; (with_reducible repeat (first | refine yM ?_ _ | refine yO ?_ | refine yN ?_ _)); refine blk_put (cs := #[.int .i64 a0_0, .int .i64 a0_1, .bool false, .bool false, .slice none 0 0, .slice none 0 0, .slice none 0 0, .slice none 0 0, .int .i64 0]) ?_ 2 _ rfl; (with_reducible repeat (first | refine yM ?_ _ | refine yO ?_ | refine yN ?_ _)); refine blk_put (cs := #[.int .i64 a0_0, .int .i64 0, .bool false, .bool false, .slice none 0 0, .slice none 0 0, .slice none 0 0, .slice none 0 0, .int .i64 0]) ?_ 1 _ rfl; (with_reducible repeat (first | refine yM ?_ _ | refine yO ?_ | refine yN ?_ _)); refine blk_put (cs := #[.int .i64 0, .int .i64 0, .bool false, .bool false, .slice none 0 0, .slice none 0 0, .slice none 0 0, .slice none 0 0, .int .i64 0]) ?_ 0 _ rfl; (with_reducible repeat (first | refine yM ?_ _ | refine yO ?_ | refine yN ?_ _)); refine blk_far ?_ NB293_294.out _; (with_reducible repeat (first | refine yM ?_ _ | refine yO ?_ | refine yN ?_ _)); refine blk_far ?_ NB293_294.out _; (with_reducible repeat (first | refine yM ?_ _ | refine yO ?_ | refine yN ?_ _)); exact BK293.out) Try.underlying33 rfl (by kernel_rfl)) rfl ?_
 exact ⟨_, _, _, _, by first | rfl | (simp <;> rfl) | (simp [*] <;> rfl), by (with_reducible repeat (first | apply yA | apply yB | apply yC)); exact zF (yF (p := ⟨gb293, 8, none⟩) (yF (p := ⟨gb293, 7, none⟩) (yF (p := ⟨gb293, 6, none⟩) (yF (p := ⟨gb293, 5, none⟩) (yF (p := ⟨gb293, 4, none⟩) (yF (p := ⟨gb293, 3, none⟩) (yF (p := ⟨gb293, 2, none⟩) (yF (p := ⟨gb293, 1, none⟩) (yF (p := ⟨gb293, 0, none⟩) (yF (p := ⟨gb294, 8, none⟩) (yF (p := ⟨gb294, 7, none⟩) (Kd.R_types (Kd.R_types HO297.out BK294.out (by decide)) BK293.out (by decide)) (fun _ hk => hk.1.2) (.slice Ao27 t304.length co27)) (fun _ hk => hk.1.2) (.int .i64 a0_8)) (fun _ hk => hk.2) (.int .i64 a0_0)) (fun _ hk => hk.2) (.int .i64 a0_1)) (fun _ hk => hk.2) (.bool a0_2)) (fun _ hk => hk.2) (.bool a0_3)) (fun _ hk => hk.2) (.slice Ao15 t295.length co15)) (fun _ hk => hk.2) (.slice Ao19 t298.length co19)) (fun _ hk => hk.2) (.slice Ao23 t301.length co23)) (fun _ hk => hk.2) (.slice Ao27 t304.length co27)) (fun _ hk => hk.2) (.int .i64 a0_8)) (fun _ hk => trivial), by (with_reducible repeat (first | apply yA | apply yB | apply yC)); exact zF (yF (p := ⟨gb293, 8, none⟩) (yF (p := ⟨gb293, 7, none⟩) (yF (p := ⟨gb293, 6, none⟩) (yF (p := ⟨gb293, 5, none⟩) (yF (p := ⟨gb293, 4, none⟩) (yF (p := ⟨gb293, 3, none⟩) (yF (p := ⟨gb293, 2, none⟩) (yF (p := ⟨gb293, 1, none⟩) (yF (p := ⟨gb293, 0, none⟩) (yF (p := ⟨gb294, 8, none⟩) (yF (p := ⟨gb294, 7, none⟩) (Kd.R_types (Kd.R_types HO300.out BK294.out (by decide)) BK293.out (by decide)) (fun _ hk => hk.1.2) (.slice Ao27 t304.length co27)) (fun _ hk => hk.1.2) (.int .i64 a0_8)) (fun _ hk => hk.2) (.int .i64 a0_0)) (fun _ hk => hk.2) (.int .i64 a0_1)) (fun _ hk => hk.2) (.bool a0_2)) (fun _ hk => hk.2) (.bool a0_3)) (fun _ hk => hk.2) (.slice Ao15 t295.length co15)) (fun _ hk => hk.2) (.slice Ao19 t298.length co19)) (fun _ hk => hk.2) (.slice Ao23 t301.length co23)) (fun _ hk => hk.2) (.slice Ao27 t304.length co27)) (fun _ hk => hk.2) (.int .i64 a0_8)) (fun _ hk => trivial), by (with_reducible repeat (first | apply yA | apply yB | apply yC)); exact zF (yF (p := ⟨gb293, 8, none⟩) (yF (p := ⟨gb293, 7, none⟩) (yF (p := ⟨gb293, 6, none⟩) (yF (p := ⟨gb293, 5, none⟩) (yF (p := ⟨gb293, 4, none⟩) (yF (p := ⟨gb293, 3, none⟩) (yF (p := ⟨gb293, 2, none⟩) (yF (p := ⟨gb293, 1, none⟩) (yF (p := ⟨gb293, 0, none⟩) (yF (p := ⟨gb294, 8, none⟩) (yF (p := ⟨gb294, 7, none⟩) (zF (zF HO303.out (fun k_ hk => (⟨hk, hk.1.2⟩ : _ ∧ k_ ≠ gb294))) (fun k_ hk => (⟨hk, hk.1.1.1.2⟩ : _ ∧ k_ ≠ gb293))) (fun _ hk => hk.1.2) (.slice Ao27 t304.length co27)) (fun _ hk => hk.1.2) (.int .i64 a0_8)) (fun _ hk => hk.2) (.int .i64 a0_0)) (fun _ hk => hk.2) (.int .i64 a0_1)) (fun _ hk => hk.2) (.bool a0_2)) (fun _ hk => hk.2) (.bool a0_3)) (fun _ hk => hk.2) (.slice Ao15 t295.length co15)) (fun _ hk => hk.2) (.slice Ao19 t298.length co19)) (fun _ hk => hk.2) (.slice Ao23 t301.length co23)) (fun _ hk => hk.2) (.slice Ao27 t304.length co27)) (fun _ hk => hk.2) (.int .i64 a0_8)) (fun _ hk => ⟨hk.1.1.1.1.1.1.2, ⟨hk.1.1.1.1.1.2, hk.1.1.2⟩⟩), by (with_reducible repeat (first | apply yA | apply yB | apply yC)); exact zF (yF (p := ⟨gb293, 8, none⟩) (yF (p := ⟨gb293, 7, none⟩) (yF (p := ⟨gb293, 6, none⟩) (yF (p := ⟨gb293, 5, none⟩) (yF (p := ⟨gb293, 4, none⟩) (yF (p := ⟨gb293, 3, none⟩) (yF (p := ⟨gb293, 2, none⟩) (yF (p := ⟨gb293, 1, none⟩) (yF (p := ⟨gb293, 0, none⟩) (yF (p := ⟨gb294, 8, none⟩) (yF (p := ⟨gb294, 7, none⟩) (zF (zF HO306.out (fun k_ hk => (⟨hk, hk.2⟩ : _ ∧ k_ ≠ gb294))) (fun k_ hk => (⟨hk, hk.1.1.2⟩ : _ ∧ k_ ≠ gb293))) (fun _ hk => hk.1.2) (.slice Ao27 t304.length co27)) (fun _ hk => hk.1.2) (.int .i64 a0_8)) (fun _ hk => hk.2) (.int .i64 a0_0)) (fun _ hk => hk.2) (.int .i64 a0_1)) (fun _ hk => hk.2) (.bool a0_2)) (fun _ hk => hk.2) (.bool a0_3)) (fun _ hk => hk.2) (.slice Ao15 t295.length co15)) (fun _ hk => hk.2) (.slice Ao19 t298.length co19)) (fun _ hk => hk.2) (.slice Ao23 t301.length co23)) (fun _ hk => hk.2) (.slice Ao27 t304.length co27)) (fun _ hk => hk.2) (.int .i64 a0_8)) (fun _ hk => ⟨hk.1.1.1.1.1.1.2, ⟨hk.1.1.1.1.1.2, hk.1.1.1.1.2⟩⟩), kR0 HB⟩

/-! ### spec_l02Texts: function 33 -/
def spec_l02Texts.l0 : Nat → List ByteArray → List ByteArray → Int → Option (Bool)
 | 0, _, _, _ => none
 | k + 1, x0, x1, x5 => if x5 < (x0.length : Int) then (if 0 ≤ x5 then (if x5 < (x1.length : Int) then (if (rdOf ByteArray.empty x0 x5).toList = (rdOf ByteArray.empty x1 x5).toList then (spec_l02Texts.l0 k x0 x1 (wrap64 (x5 + 1))) else (some false)) else (none)) else (none)) else (some true)
def spec_l02Texts.f (k : Nat) (l0 : List ByteArray) (l1 : List ByteArray) : Option (Bool) := if (l0.length : Int) = (l1.length : Int) then (spec_l02Texts.l0 k l0 l1 0) else (some false)
set_option maxHeartbeats 8000000 in
set_option maxRecDepth 100000 in
theorem spec_l02Texts.calls (k : Nat) (A0 : Option Addr) (c0 : Nat) (l0 : List ByteArray) (A1 : Option Addr) (c1 : Nat) (l1 : List ByteArray) (r : Bool) (w : World) (hr0 : Kd.C Kd.string w A0 l0.length l0) (hc0 : l0.length ≤ c0) (hr1 : Kd.C Kd.string w A1 l1.length l1) (hc1 : l1.length ≤ c1) (h : spec_l02Texts.f k l0 l1 = some r) :
 Calls Try.prog 33 #[.slice A0 l0.length c0, .slice A1 l1.length c1] w fun e w' => e = .returned (.bool r) ∧ Drawn0 w w' := by
 have HR0 := yD hr0
 have HC0 := yD hc0
 clear hr0 hc0
 have HR1 := yD hr1
 have HC1 := yD hc1
 clear hr1 hc1
 have H : (if (l0.length : Int) = (l1.length : Int) then (spec_l02Texts.l0 k l0 l1 0) else (some false)) = some r := h
 clear h
 by_cases c3 : (l0.length : Int) = (l1.length : Int)
 ·
  rw [if_pos c3] at H
  have c3b0 : ((l0.length : Int) == (l1.length : Int)) = true := beq_iff_eq.mpr c3
  have c3b1 : ((l0.length : Int) != (l1.length : Int)) = false := bne_eq_false_iff_eq.mpr c3
  have c3b2 : (l0.length == l1.length) = true := by first | simpa using c3 | (simp at c3 ⊢; omega)
  clear c3
  have H' := yD H
  clear H; go_enter Try.func33, Try.ntmps33
  go_wp2
  repeat (go_quiet (fail); try go_wp2)
  go_loopg [5] k (fun kq v5 w' => ∃ (x5_1 : Int), v5 = .int .i64 x5_1 ∧ Aside0 (spec_l02Texts.l0 kq l0 l1 x5_1 = some r) ∧ Aside0 (kq ≤ k) ∧ Drawn0 w w')
  case atStart => exact ⟨(0), (by first | rfl | (simp; done) | (simp [*]; done)), H', ⟨Nat.le_refl _⟩, by repeat (first | exact Drawn0.refl _ | apply Drawn0.step)⟩
  case round =>
   clear H'
   try clear c1; try clear c3; try clear c3b0; try clear c3b1; try clear c3b2
   obtain ⟨x5_1, rfl, HA, HK1, ⟨m1, rfl⟩⟩ := hrel
   cases gk with
   | zero => exact absurd HA.out (by simp [spec_l02Texts.l0])
   | succ k1 =>
    have H := HA.out; clear HA
    simp only [spec_l02Texts.l0] at H
    by_cases c4 : x5_1 < (l0.length : Int)
    ·
     rw [if_pos c4] at H
     have c4b0 : decide (x5_1 < (l0.length : Int)) = true := zR c4; clear c4
     by_cases c5 : 0 ≤ x5_1
     ·
      rw [if_pos c5] at H
      have c5b0 : decide (0 ≤ x5_1) = true := zR c5; clear c5
      by_cases c6 : x5_1 < (l1.length : Int)
      ·
       rw [if_pos c6] at H
       have c6b0 : decide (x5_1 < (l1.length : Int)) = true := zR c6; clear c6
       by_cases c7 : (rdOf ByteArray.empty l0 x5_1).toList = (rdOf ByteArray.empty l1 x5_1).toList
       ·
        rw [if_pos c7] at H
        have c7b0 : ((rdOf ByteArray.empty l0 x5_1).toList == (rdOf ByteArray.empty l1 x5_1).toList) = true := beq_iff_eq.mpr c7
        have c7b1 : ((rdOf ByteArray.empty l0 x5_1).toList != (rdOf ByteArray.empty l1 x5_1).toList) = false := bne_eq_false_iff_eq.mpr c7
        clear c7
        have H' := yD H
        clear H
        have p307 : 0 ≤ (x5_1 : Int) := zP (by assumption)
        have q307 : x5_1 < (l0.length : Int) := zP (by assumption)
        obtain ⟨ad307, e307, hx307_0⟩ := Kd.at_string HR0.out x5_1 p307 q307
        cases e307; replace p307 := eq_true p307; replace q307 := eq_true q307
        have p308 : 0 ≤ (x5_1 : Int) := zP (by assumption)
        have q308 : x5_1 < (l1.length : Int) := zP (by assumption)
        obtain ⟨ad308, e308, hx308_0⟩ := Kd.at_string HR1.out x5_1 p308 q308
        cases e308; replace p308 := eq_true p308; replace q308 := eq_true q308
        go_wp2
        repeat (go_quiet (fail); try go_wp2)
        go_roundg k1
        case measure => have := HK1.out; omega
        case rel => exact ⟨(wrap64 (x5_1 + 1)), (by first | rfl | (simp; done) | (simp [*]; done)), H', ⟨by have := HK1.out; omega⟩, by repeat (first | exact Drawn0.refl _ | apply Drawn0.step)⟩
       ·
        rw [if_neg c7] at H
        have c7b0 : ((rdOf ByteArray.empty l0 x5_1).toList == (rdOf ByteArray.empty l1 x5_1).toList) = false := beq_eq_false_iff_ne.mpr c7
        have c7b1 : ((rdOf ByteArray.empty l0 x5_1).toList != (rdOf ByteArray.empty l1 x5_1).toList) = true := bne_iff_ne.mpr c7
        obtain rfl := Option.some.inj H
        have p307 : 0 ≤ (x5_1 : Int) := zP (by assumption)
        have q307 : x5_1 < (l0.length : Int) := zP (by assumption)
        obtain ⟨ad307, e307, hx307_0⟩ := Kd.at_string HR0.out x5_1 p307 q307
        cases e307; replace p307 := eq_true p307; replace q307 := eq_true q307
        have p308 : 0 ≤ (x5_1 : Int) := zP (by assumption)
        have q308 : x5_1 < (l1.length : Int) := zP (by assumption)
        obtain ⟨ad308, e308, hx308_0⟩ := Kd.at_string HR1.out x5_1 p308 q308
        cases e308; replace p308 := eq_true p308; replace q308 := eq_true q308
        go_wp2
        repeat (go_quiet (fail); try go_wp2)
        go_ret
        exact ⟨by first | rfl | (simp; done) | (simp [*]; done), by repeat (first | exact Drawn0.refl _ | apply Drawn0.step)⟩
      · rw [if_neg c6] at H
        exact absurd H (by simp)
     · rw [if_neg c5] at H
       exact absurd H (by simp)
    · rw [if_neg c4] at H
      have c4b0 : decide (x5_1 < (l0.length : Int)) = false := zS c4; clear c4; obtain rfl := Option.some.inj H
      go_wp2
      repeat (go_quiet (fail); try go_wp2)
      go_ret
      exact ⟨by first | rfl | (simp; done) | (simp [*]; done), by repeat (first | exact Drawn0.refl _ | apply Drawn0.step)⟩
 ·
  rw [if_neg c3] at H
  have c3b0 : ((l0.length : Int) == (l1.length : Int)) = false := beq_eq_false_iff_ne.mpr c3
  have c3b1 : ((l0.length : Int) != (l1.length : Int)) = true := bne_iff_ne.mpr c3
  have c3b2 : (l0.length == l1.length) = false := by first | simpa using c3 | (simp at c3 ⊢; omega)
  obtain rfl := Option.some.inj H; go_enter Try.func33, Try.ntmps33
  go_wp2
  repeat (go_quiet (fail); try go_wp2)
  go_ret
  exact ⟨by first | rfl | (simp; done) | (simp [*]; done), by repeat (first | exact Drawn0.refl _ | apply Drawn0.step)⟩

/-! ### spec_l02Ints: function 34 -/
def spec_l02Ints.l0 : Nat → List Int → List Int → Int → Option (Bool)
 | 0, _, _, _ => none
 | k + 1, x0, x1, x5 => if x5 < (x0.length : Int) then (if 0 ≤ x5 then (if x5 < (x1.length : Int) then (if (rd x0 x5) = (rd x1 x5) then (spec_l02Ints.l0 k x0 x1 (wrap64 (x5 + 1))) else (some false)) else (none)) else (none)) else (some true)
def spec_l02Ints.f (k : Nat) (l0 : List Int) (l1 : List Int) : Option (Bool) := if (l0.length : Int) = (l1.length : Int) then (spec_l02Ints.l0 k l0 l1 0) else (some false)
set_option maxHeartbeats 8000000 in
set_option maxRecDepth 100000 in
theorem spec_l02Ints.calls (k : Nat) (A0 : Option Addr) (c0 : Nat) (l0 : List Int) (A1 : Option Addr) (c1 : Nat) (l1 : List Int) (r : Bool) (w : World) (hr0 : Kd.C (Kd.int .i64) w A0 l0.length l0) (hc0 : l0.length ≤ c0) (hr1 : Kd.C (Kd.int .i64) w A1 l1.length l1) (hc1 : l1.length ≤ c1) (h : spec_l02Ints.f k l0 l1 = some r) :
 Calls Try.prog 34 #[.slice A0 l0.length c0, .slice A1 l1.length c1] w fun e w' => e = .returned (.bool r) ∧ Drawn0 w w' := by
 have HR0 := yD hr0
 have HC0 := yD hc0
 clear hr0 hc0
 have HR1 := yD hr1
 have HC1 := yD hc1
 clear hr1 hc1
 have H : (if (l0.length : Int) = (l1.length : Int) then (spec_l02Ints.l0 k l0 l1 0) else (some false)) = some r := h
 clear h
 by_cases c3 : (l0.length : Int) = (l1.length : Int)
 ·
  rw [if_pos c3] at H
  have c3b0 : ((l0.length : Int) == (l1.length : Int)) = true := beq_iff_eq.mpr c3
  have c3b1 : ((l0.length : Int) != (l1.length : Int)) = false := bne_eq_false_iff_eq.mpr c3
  have c3b2 : (l0.length == l1.length) = true := by first | simpa using c3 | (simp at c3 ⊢; omega)
  clear c3
  have H' := yD H
  clear H; go_enter Try.func34, Try.ntmps34
  go_wp2
  repeat (go_quiet (fail); try go_wp2)
  go_loopg [5] k (fun kq v5 w' => ∃ (x5_1 : Int), v5 = .int .i64 x5_1 ∧ Aside0 (spec_l02Ints.l0 kq l0 l1 x5_1 = some r) ∧ Aside0 (kq ≤ k) ∧ Drawn0 w w')
  case atStart => exact ⟨(0), (by first | rfl | (simp; done) | (simp [*]; done)), H', ⟨Nat.le_refl _⟩, by repeat (first | exact Drawn0.refl _ | apply Drawn0.step)⟩
  case round =>
   clear H'
   try clear c1; try clear c3; try clear c3b0; try clear c3b1; try clear c3b2
   obtain ⟨x5_1, rfl, HA, HK1, ⟨m1, rfl⟩⟩ := hrel
   cases gk with
   | zero => exact absurd HA.out (by simp [spec_l02Ints.l0])
   | succ k1 =>
    have H := HA.out; clear HA
    simp only [spec_l02Ints.l0] at H
    by_cases c4 : x5_1 < (l0.length : Int)
    ·
     rw [if_pos c4] at H
     have c4b0 : decide (x5_1 < (l0.length : Int)) = true := zR c4; clear c4
     by_cases c5 : 0 ≤ x5_1
     ·
      rw [if_pos c5] at H
      have c5b0 : decide (0 ≤ x5_1) = true := zR c5; clear c5
      by_cases c6 : x5_1 < (l1.length : Int)
      ·
       rw [if_pos c6] at H
       have c6b0 : decide (x5_1 < (l1.length : Int)) = true := zR c6; clear c6
       by_cases c7 : (rd l0 x5_1) = (rd l1 x5_1)
       ·
        rw [if_pos c7] at H
        have c7b0 : ((rd l0 x5_1) == (rd l1 x5_1)) = true := beq_iff_eq.mpr c7
        have c7b1 : ((rd l0 x5_1) != (rd l1 x5_1)) = false := bne_eq_false_iff_eq.mpr c7
        clear c7
        have H' := yD H
        clear H
        have p309 : 0 ≤ (x5_1 : Int) := zP (by assumption)
        have q309 : x5_1 < (l0.length : Int) := zP (by assumption)
        obtain ⟨ad309, e309, hx309_0⟩ := Kd.at_int HR0.out x5_1 p309 q309
        cases e309; replace p309 := eq_true p309; replace q309 := eq_true q309
        have p310 : 0 ≤ (x5_1 : Int) := zP (by assumption)
        have q310 : x5_1 < (l1.length : Int) := zP (by assumption)
        obtain ⟨ad310, e310, hx310_0⟩ := Kd.at_int HR1.out x5_1 p310 q310
        cases e310; replace p310 := eq_true p310; replace q310 := eq_true q310
        go_wp2
        repeat (go_quiet (fail); try go_wp2)
        go_roundg k1
        case measure => have := HK1.out; omega
        case rel => exact ⟨(wrap64 (x5_1 + 1)), (by first | rfl | (simp; done) | (simp [*]; done)), H', ⟨by have := HK1.out; omega⟩, by repeat (first | exact Drawn0.refl _ | apply Drawn0.step)⟩
       ·
        rw [if_neg c7] at H
        have c7b0 : ((rd l0 x5_1) == (rd l1 x5_1)) = false := beq_eq_false_iff_ne.mpr c7
        have c7b1 : ((rd l0 x5_1) != (rd l1 x5_1)) = true := bne_iff_ne.mpr c7
        obtain rfl := Option.some.inj H
        have p309 : 0 ≤ (x5_1 : Int) := zP (by assumption)
        have q309 : x5_1 < (l0.length : Int) := zP (by assumption)
        obtain ⟨ad309, e309, hx309_0⟩ := Kd.at_int HR0.out x5_1 p309 q309
        cases e309; replace p309 := eq_true p309; replace q309 := eq_true q309
        have p310 : 0 ≤ (x5_1 : Int) := zP (by assumption)
        have q310 : x5_1 < (l1.length : Int) := zP (by assumption)
        obtain ⟨ad310, e310, hx310_0⟩ := Kd.at_int HR1.out x5_1 p310 q310
        cases e310; replace p310 := eq_true p310; replace q310 := eq_true q310
        go_wp2
        repeat (go_quiet (fail); try go_wp2)
        go_ret
        exact ⟨by first | rfl | (simp; done) | (simp [*]; done), by repeat (first | exact Drawn0.refl _ | apply Drawn0.step)⟩
      · rw [if_neg c6] at H
        exact absurd H (by simp)
     · rw [if_neg c5] at H
       exact absurd H (by simp)
    · rw [if_neg c4] at H
      have c4b0 : decide (x5_1 < (l0.length : Int)) = false := zS c4; clear c4; obtain rfl := Option.some.inj H
      go_wp2
      repeat (go_quiet (fail); try go_wp2)
      go_ret
      exact ⟨by first | rfl | (simp; done) | (simp [*]; done), by repeat (first | exact Drawn0.refl _ | apply Drawn0.step)⟩
 ·
  rw [if_neg c3] at H
  have c3b0 : ((l0.length : Int) == (l1.length : Int)) = false := beq_eq_false_iff_ne.mpr c3
  have c3b1 : ((l0.length : Int) != (l1.length : Int)) = true := bne_iff_ne.mpr c3
  have c3b2 : (l0.length == l1.length) = false := by first | simpa using c3 | (simp at c3 ⊢; omega)
  obtain rfl := Option.some.inj H; go_enter Try.func34, Try.ntmps34
  go_wp2
  repeat (go_quiet (fail); try go_wp2)
  go_ret
  exact ⟨by first | rfl | (simp; done) | (simp [*]; done), by repeat (first | exact Drawn0.refl _ | apply Drawn0.step)⟩

end Go.Proofs.Ytfblodggimjoaaa.PFnExactSameType
