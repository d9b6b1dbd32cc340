/- Each function here comes to its plain form. It holds without a condition. -/
import Derived.Test.YtdiaebjbiddefaaPFnExactBoxesOfx0
import Derived.Test.YtdiaebjbiddefaaPFnExactBoxesOfx1
import Derived.Test.YtdiaebjbiddefaaPFnExactBoxesOfx3
import Derived.Test.YtdiaebjbiddefaaPFnExactBoxesOfx7
namespace Go.Proofs.Ytdiaebjbiddefaa.PFnExactBoxesOf
open Go.RowKit Go.Proofs.YtdiaebjbiddefaaW.PrintWords Go.Proofs.YtdiaebjbiddefaaW.PrintLast Go.Proofs.YtdiaebjbiddefaaW.PrintMore
attribute [local go_sem] max2_int min2_int max_two min_two max_three min_three max_four min_four   -- for this text's walks alone
set_option linter.unusedVariables false
set_option linter.unusedSimpArgs false
set_option maxHeartbeats 8000000
set_option maxRecDepth 100000

/-! ### laws_FnExactBoxesOf: function 11 -/
mutual
def laws_FnExactBoxesOf.j0 : Nat → List Int → List (S42) → Int → List Int → List (S42) → Int → Bool → Int → List Int → List Int → List Int → List Int → List (S107) → Int → List Int → List Int → List Int → List Int → List (S110) → Option (Bool)
 | 0, _, _, _, _, _, _, _, _, _, _, _, _, _, _, _, _, _, _, _ => none
 | k + 1, x0, x6, x7, x8, x10, x11, x51, x672000, x672001, x672002, x672003, x672004, x672005, x716000, x716001, x716002, x716003, x716004, x716005 => if x51 = true then (some false) else ((laws_toInt64S.f k x0).bind fun t721 => ((laws_eqInt64S.f k x8 t721).bind fun t724 => (if t724 = true then ((laws_toSelection.f k x672000 x672001 x672002 x672003 x672004 x672005).bind fun bt725 => ((laws_eqSelection.f k x716000 x716001 x716002 x716003 x716004 x716005 bt725.1 bt725.2.1 bt725.2.2.1 bt725.2.2.2.1 bt725.2.2.2.2.1 bt725.2.2.2.2.2).bind fun t741 => (if t741 = true then ((laws_markInt64S.f k x8 1).bind fun bt742 => ((laws_markSelection.f k x716000 x716001 x716002 x716003 x716004 x716005 bt742.1).bind fun bt744 => (if bt744.1 < 0 then (laws_FnExactBoxesOf.j1 k x0 x6 x7 x10 true x672000 x672001 x672002 x672003 x672004 x672005) else ((laws_eqBoxS.f k x10 x6).bind fun t749 => (if t749 = true then (laws_FnExactBoxesOf.j1 k x0 x6 x7 x10 (x11 != x7) x672000 x672001 x672002 x672003 x672004 x672005) else (laws_FnExactBoxesOf.j1 k x0 x6 x7 x10 true x672000 x672001 x672002 x672003 x672004 x672005)))))) else (some false)))) else (some false))))
def laws_FnExactBoxesOf.j1 : Nat → List Int → List (S42) → Int → List (S42) → Bool → Int → List Int → List Int → List Int → List Int → List (S107) → Option (Bool)
 | 0, _, _, _, _, _, _, _, _, _, _, _ => none
 | k + 1, x0, x6, x7, x10, x80, x672000, x672001, x672002, x672003, x672004, x672005 => if x80 = true then (some false) else ((laws_markBoxS.f k x10 1).bind fun bt750 => ((laws_heldBoxS.f k bt750.2 1).bind fun t752 => (if t752 < 0 then (some false) else (if t752 = bt750.1 then ((laws_toInt64S.f k x0).bind fun t753 => ((laws_toSelection.f k x672000 x672001 x672002 x672003 x672004 x672005).bind fun bt756 => ((impl_BoxesOf.f k t753 bt756.1 bt756.2.1 bt756.2.2.1 bt756.2.2.2.1 bt756.2.2.2.2.1 bt756.2.2.2.2.2).bind fun bt772 => ((laws_eqBoxS.f k bt772.1 x6).bind fun t776 => (if t776 = true then (laws_FnExactBoxesOf.j2 k bt750.2 bt750.1 (bt772.2 != x7)) else (laws_FnExactBoxesOf.j2 k bt750.2 bt750.1 true)))))) else (some false)))))
def laws_FnExactBoxesOf.j2 : Nat → List (S42) → Int → Bool → Option (Bool)
 | 0, _, _, _ => none
 | k + 1, x10, x13, x108 => if x108 = true then (some false) else ((laws_heldBoxS.f k x10 1).bind fun t777 => (if t777 < 0 then (some false) else (if t777 = x13 then (some true) else (some false))))
end
def laws_FnExactBoxesOf.f (k : Nat) (l0 : List Int) (a1_0 : Int) (l1_1 : List Int) (l1_2 : List Int) (l1_3 : List Int) (l1_4 : List Int) (l1_5 : List (S107)) : Option (Bool) := if (l0.length : Int) > 1048576 then (some true) else ((laws_szSelection.f k a1_0 l1_1 l1_2 l1_3 l1_4 l1_5 1048576).bind fun t672 => (if t672 < 0 then (some true) else ((laws_toInt64S.f k l0).bind fun t673 => ((laws_toSelection.f k a1_0 l1_1 l1_2 l1_3 l1_4 l1_5).bind fun bt676 => ((spec_BoxesOf.f k t673 bt676.1 bt676.2.1 bt676.2.2.1 bt676.2.2.2.1 bt676.2.2.2.2.1 bt676.2.2.2.2.2).bind fun bt692 => ((laws_toInt64S.f k l0).bind fun t696 => ((laws_toSelection.f k a1_0 l1_1 l1_2 l1_3 l1_4 l1_5).bind fun bt699 => ((impl_BoxesOf.f k t696 bt699.1 bt699.2.1 bt699.2.2.1 bt699.2.2.2.1 bt699.2.2.2.2.1 bt699.2.2.2.2.2).bind fun bt716 => ((laws_eqBoxS.f k bt716.1 bt692.1).bind fun t720 => (if t720 = true then (laws_FnExactBoxesOf.j0 k l0 bt692.1 bt692.2 t696 bt716.1 bt716.2 (bt716.2 != bt692.2) a1_0 l1_1 l1_2 l1_3 l1_4 l1_5 bt699.1 bt699.2.1 bt699.2.2.1 bt699.2.2.2.1 bt699.2.2.2.2.1 bt699.2.2.2.2.2) else (laws_FnExactBoxesOf.j0 k l0 bt692.1 bt692.2 t696 bt716.1 bt716.2 true a1_0 l1_1 l1_2 l1_3 l1_4 l1_5 bt699.1 bt699.2.1 bt699.2.2.1 bt699.2.2.2.1 bt699.2.2.2.2.1 bt699.2.2.2.2.2)))))))))))
def laws_FnExactBoxesOf.T7 : Bool × List (List Nat × List Nat) := (true, [([], []), ([0], [0]), ([], []), ([2, 1], [2]), ([1, 3, 3], [1, 3]), ([4], [4]), ([5], [5]), ([5], [5]), ([6, 4, 0, 1, 2, 3, 4, 5, 6], [6]), ([7, 8, 0, 1, 2, 3, 4, 5, 6, 7, 8], [7])])
def laws_FnExactBoxesOf.B7 : List Nat := [0, 1, 0, 7, 15, 31, 63, 63, 127, 511]
theorem laws_FnExactBoxesOf.tab7 : rtab .any (opsOf Try.f11 7) = laws_FnExactBoxesOf.T7 := by kernel_rfl
theorem laws_FnExactBoxesOf.bits7 : waitsOk laws_FnExactBoxesOf.T7.2 laws_FnExactBoxesOf.B7 = true := by kernel_rfl
def laws_FnExactBoxesOf.T30 : Bool × List (List Nat × List Nat) := (true, [([], []), ([0], [0]), ([], []), ([2, 1], [2]), ([1, 3, 3], [1, 3]), ([4], [4]), ([5], [5]), ([5], [5]), ([6, 4, 0, 1, 2, 3, 4, 5, 6], [6]), ([7, 8, 0, 1, 2, 3, 4, 5, 6, 7, 8], [7])])
def laws_FnExactBoxesOf.B30 : List Nat := [0, 1, 0, 7, 15, 31, 63, 63, 127, 511]
theorem laws_FnExactBoxesOf.tab30 : rtab .any (opsOf Try.f11 30) = laws_FnExactBoxesOf.T30 := by kernel_rfl
theorem laws_FnExactBoxesOf.bits30 : waitsOk laws_FnExactBoxesOf.T30.2 laws_FnExactBoxesOf.B30 = true := by kernel_rfl
theorem lo_ex {n : Nat} {W w1 : World} (_ : Below n W w1) : ∃ N, N = n := ⟨n, rfl⟩
theorem S_eldN {α : Type} {d : Kd α} {e base N : Nat} {W w1 : World} {ok : Nat → Prop} {u v : Value} {xs : List α} (hN : N = W.heap.size) (h : Kd.S d e W base ok u xs) (hbase : ∀ k, v.ownBlock = some k → W.heap.size ≤ k) (hb : Below W.heap.size W w1) : Kd.S d e w1 base (fun k => ok k ∧ (some k ≠ v.ownBlock ∧ k < N)) u xs :=
 Kd.S_mono (Kd.S_old h hb) (fun k hk => ⟨hk.1, fun he => by have := hbase k he.symm; have := hk.2; omega, by rw [hN]; exact hk.2⟩)
theorem S_newN {α : Type} {d : Kd α} {e N : Nat} {W w1 : World} {ok : Nat → Prop} {u v : Value} {xs : List α} (hN : N = W.heap.size) (h : Kd.S d e w1 W.heap.size ok v xs) (hlt : ∀ k, u.ownBlock = some k → k < W.heap.size) : Kd.S d e w1 W.heap.size (fun k => ok k ∧ (some k ≠ u.ownBlock ∧ N ≤ k)) v xs :=
 Kd.S_mono (Kd.S_bound h) (fun k hk => ⟨hk.1, fun he => by have := hlt k he.symm; have := hk.2.1; omega, by rw [hN]; exact hk.2.1⟩)
theorem S_toldN {α : Type} {d : Kd α} {e base n N : Nat} {w1 : World} {ok A : Nat → Prop} {u : Value} {xs : List α} (hN : N = n) (h : Kd.S d e w1 base (fun k => (ok k ∧ A k) ∧ k < n) u xs) : Kd.S d e w1 base (fun k => ok k ∧ (A k ∧ k < N)) u xs :=
 Kd.S_mono h (fun k hk => ⟨hk.1.1, hk.1.2, by rw [hN]; exact hk.2⟩)
theorem laws_FnExactBoxesOf.calls (k : Nat) (A0 : Option Addr) (c0 : Nat) (l0 : List Int) (a1_0 : Int) (A1_1 : Option Addr) (c1_1 : Nat) (l1_1 : List Int) (A1_2 : Option Addr) (c1_2 : Nat) (l1_2 : List Int) (A1_3 : Option Addr) (c1_3 : Nat) (l1_3 : List Int) (A1_4 : Option Addr) (c1_4 : Nat) (l1_4 : List Int) (A1_5 : Option Addr) (c1_5 : Nat) (l1_5 : List (S107)) (r : Bool) (w : World) (hr0 : Kd.C (Kd.int .i64) w A0 l0.length l0) (hc0 : l0.length ≤ c0) (hr1_1 : Kd.C (Kd.int .i64) w A1_1 l1_1.length l1_1) (hc1_1 : l1_1.length ≤ c1_1) (hr1_2 : Kd.C (Kd.int .i64) w A1_2 l1_2.length l1_2) (hc1_2 : l1_2.length ≤ c1_2) (hr1_3 : Kd.C (Kd.int .i64) w A1_3 l1_3.length l1_3) (hc1_3 : l1_3.length ≤ c1_3) (hr1_4 : Kd.C (Kd.int .i64) w A1_4 l1_4.length l1_4) (hc1_4 : l1_4.length ≤ c1_4) (hr1_5 : Kd.C k107 w A1_5 l1_5.length l1_5) (hc1_5 : l1_5.length ≤ c1_5) (h : laws_FnExactBoxesOf.f k l0 a1_0 l1_1 l1_2 l1_3 l1_4 l1_5 = some r) :
 Calls Try.prog 11 #[.slice A0 l0.length c0, .agg #[.int .i64 a1_0, .slice A1_1 l1_1.length c1_1, .slice A1_2 l1_2.length c1_2, .slice A1_3 l1_3.length c1_3, .slice A1_4 l1_4.length c1_4, .slice A1_5 l1_5.length c1_5]] w fun e w' => e = .returned (.bool r) ∧ Below w.heap.size w w' := by
 have hu49 := Try.underlying49; have hu55 := Try.underlying55
 have HR0 := yD hr0
 have HC0 := yD hc0
 clear hr0 hc0
 have HR1_1 := yD hr1_1
 have HC1_1 := yD hc1_1
 clear hr1_1 hc1_1
 have HR1_2 := yD hr1_2
 have HC1_2 := yD hc1_2
 clear hr1_2 hc1_2
 have HR1_3 := yD hr1_3
 have HC1_3 := yD hc1_3
 clear hr1_3 hc1_3
 have HR1_4 := yD hr1_4
 have HC1_4 := yD hc1_4
 clear hr1_4 hc1_4
 have HR1_5 := yD hr1_5
 have HC1_5 := yD hc1_5
 clear hr1_5 hc1_5
 have HB := yD (Below.refl w.heap.size w)
 have H : (if (l0.length : Int) > 1048576 then (some true) else ((laws_szSelection.f k a1_0 l1_1 l1_2 l1_3 l1_4 l1_5 1048576).bind fun t672 => (if t672 < 0 then (some true) else ((laws_toInt64S.f k l0).bind fun t673 => ((laws_toSelection.f k a1_0 l1_1 l1_2 l1_3 l1_4 l1_5).bind fun bt676 => ((spec_BoxesOf.f k t673 bt676.1 bt676.2.1 bt676.2.2.1 bt676.2.2.2.1 bt676.2.2.2.2.1 bt676.2.2.2.2.2).bind fun bt692 => ((laws_toInt64S.f k l0).bind fun t696 => ((laws_toSelection.f k a1_0 l1_1 l1_2 l1_3 l1_4 l1_5).bind fun bt699 => ((impl_BoxesOf.f k t696 bt699.1 bt699.2.1 bt699.2.2.1 bt699.2.2.2.1 bt699.2.2.2.2.1 bt699.2.2.2.2.2).bind fun bt716 => ((laws_eqBoxS.f k bt716.1 bt692.1).bind fun t720 => (if t720 = true then (laws_FnExactBoxesOf.j0 k l0 bt692.1 bt692.2 t696 bt716.1 bt716.2 (bt716.2 != bt692.2) a1_0 l1_1 l1_2 l1_3 l1_4 l1_5 bt699.1 bt699.2.1 bt699.2.2.1 bt699.2.2.2.1 bt699.2.2.2.2.1 bt699.2.2.2.2.2) else (laws_FnExactBoxesOf.j0 k l0 bt692.1 bt692.2 t696 bt716.1 bt716.2 true a1_0 l1_1 l1_2 l1_3 l1_4 l1_5 bt699.1 bt699.2.1 bt699.2.2.1 bt699.2.2.2.1 bt699.2.2.2.2.1 bt699.2.2.2.2.2)))))))))))) = some r := h
 clear h
 replace H := sB H; rcases H with ⟨c3, H⟩ | ⟨c3, H⟩
 ·
  have c3b0 : decide (1048576 < (l0.length : Int)) = true := zR c3
  have c3b1 : decide (1048576 < l0.length) = true := zR (by omega)
  clear c3; obtain rfl := sJ H; go_enter Try.func11, Try.ntmps11
  go_wp2_with (first | ((with_reducible refine gate_dst (N := 3) rfl ?_); refine bF (N := 3) (cs := #[.int .i64 a1_0, .slice A1_1 l1_1.length c1_1, .slice A1_2 l1_2.length c1_2, .slice A1_3 l1_3.length c1_3, .slice A1_4 l1_4.length c1_4, .slice A1_5 l1_5.length c1_5]) (t := 49) HB ?_; intro gb671 w4 BK671 GW671 HB))
  go_ret
  exact ⟨kE, kR0 HB⟩
 have c3b0 : decide (1048576 < (l0.length : Int)) = false := zS c3
 have c3b1 : decide (1048576 < l0.length) = false := zS (by omega)
 clear c3
 replace ⟨t672, A5, H⟩ := sV H
 replace H := sF H; rcases H with ⟨c6b0, H⟩ | ⟨c6b0, H⟩
 ·
  obtain rfl := sJ H; go_enter Try.func11, Try.ntmps11
  go_wp2_with (first | ((with_reducible refine gate_dst (N := 3) rfl ?_); refine bF (N := 3) (cs := #[.int .i64 a1_0, .slice A1_1 l1_1.length c1_1, .slice A1_2 l1_2.length c1_2, .slice A1_3 l1_3.length c1_3, .slice A1_4 l1_4.length c1_4, .slice A1_5 l1_5.length c1_5]) (t := 49) HB ?_; intro gb671 w7 BK671 GW671 HB; have := cf6_ BK671.out) | ((with_reducible refine gate_callee (f := 37) rfl ?_); refine gL 22 Try.func37 _ ((laws_szSelection.calls k a1_0 _ _ l1_1 _ _ l1_2 _ _ l1_3 _ _ l1_4 _ _ l1_5 1048576 t672 _ (cB HR1_1 HC1_1 HB) (cB HR1_2 HC1_2 HB) (cB HR1_3 HC1_3 HB) (cB HR1_4 HC1_4 HB) (cB HR1_5 HC1_5 HB) A5.out).mono ?_); rintro e w9 ⟨rfl, hb⟩; refine ⟨_, rfl, ?_⟩; replace BK671 := zY BK671 hb; replace HB := zX HB hb; clear hb))
  go_ret
  exact ⟨kE, kR0 HB⟩
 replace ⟨t673, A10, H⟩ := sV H
 replace ⟨⟨t676, t677, t680, t683, t686, t689⟩, A11, H⟩ := sV H
 replace ⟨⟨t692, t695⟩, A12, H⟩ := sV H
 replace ⟨t696, A13, H⟩ := sV H
 replace ⟨⟨t699, t700, t703, t706, t709, t712⟩, A14, H⟩ := sV H
 replace ⟨⟨t716, t719⟩, A15, H⟩ := sV H
 have HC16 := yD H
 clear H; go_enter Try.func11, Try.ntmps11
 try go_wp2_with (first | ((with_reducible refine gate_dst (N := 3) rfl ?_); refine bF (N := 3) (cs := #[.int .i64 a1_0, .slice A1_1 l1_1.length c1_1, .slice A1_2 l1_2.length c1_2, .slice A1_3 l1_3.length c1_3, .slice A1_4 l1_4.length c1_4, .slice A1_5 l1_5.length c1_5]) (t := 49) HB ?_; intro gb671 w17 BK671 GW671 HB; have := cf6_ BK671.out) | ((with_reducible refine gate_callee (f := 37) rfl ?_); refine gL 22 Try.func37 _ ((laws_szSelection.calls k a1_0 _ _ l1_1 _ _ l1_2 _ _ l1_3 _ _ l1_4 _ _ l1_5 1048576 t672 _ (cB HR1_1 HC1_1 HB) (cB HR1_2 HC1_2 HB) (cB HR1_3 HC1_3 HB) (cB HR1_4 HC1_4 HB) (cB HR1_5 HC1_5 HB) A5.out).mono ?_); rintro e w19 ⟨rfl, hb⟩; refine ⟨_, rfl, ?_⟩; replace BK671 := zY BK671 hb; replace HB := zX HB hb; clear hb))
 replace BK671 := yD (yO BK671.out); replace HB := yD (yP HB.out)
 refine s0 (m := 10) (S := fun w' => cl w' gb671 0 (.int .i64 a1_0) ∧ cl w' gb671 1 (.slice A1_1 l1_1.length c1_1) ∧ cl w' gb671 2 (.slice A1_2 l1_2.length c1_2) ∧ cl w' gb671 3 (.slice A1_3 l1_3.length c1_3) ∧ cl w' gb671 4 (.slice A1_4 l1_4.length c1_4) ∧ cl w' gb671 5 (.slice A1_5 l1_5.length c1_5)) laws_FnExactBoxesOf.tab7 laws_FnExactBoxesOf.bits7 (cz6 BK671.out) fun hHeld HT_ HW_ => ?_
 generalize w19.drew = w20 at BK671 HB hHeld ⊢
 refine qa 10 0 1 ?_; refine qc 10 2 5 hHeld ?_
 refine qo 10 1 7 (some 27) fun K hK => ?_
 refine qg Try.func39 _ ((laws_toInt64S.calls k _ _ l0 t673 _ (cB HR0 HC0 HB) A10.out).mono ?_)
 rintro e w21 ⟨v674, rfl, ho0, hb⟩
 refine ⟨_, rfl, ?_⟩
 have HO675 := yD (yZ ho0 (below_size (kB HB))); replace BK671 := zY BK671 hb; replace HB := zX HB hb
 refine hK.out _ _ (cz6 BK671.out) (fun hHeld => ?_)
 clear hK K
 refine nZ 27 ?_
 refine qo 10 3 15 (some 29) fun K hK => ?_
 refine qg Try.func40 _ ((laws_toSelection.calls k a1_0 _ _ l1_1 _ _ l1_2 _ _ l1_3 _ _ l1_4 _ _ l1_5 t676 t677 t680 t683 t686 t689 _ (cB HR1_1 HC1_1 HB) (cB HR1_2 HC1_2 HB) (cB HR1_3 HC1_3 HB) (cB HR1_4 HC1_4 HB) (cB HR1_5 HC1_5 HB) A11.out).mono ?_)
 rintro e w22 ⟨v678, v681, v684, v687, v690, rfl, ho0, ho1, ho2, ho3, ho4, hb⟩
 refine ⟨_, rfl, ?_⟩
 have HO679 := yD (yZ (yJ ho0 (yK (kA HO675))) (below_size (kB HB))); have HO682 := yD (yZ (yJ ho1 (yK (kA HO675))) (below_size (kB HB))); have HO685 := yD (yZ (yJ ho2 (yK (kA HO675))) (below_size (kB HB))); have HO688 := yD (yZ (yJ ho3 (yK (kA HO675))) (below_size (kB HB))); have HO691 := yD (zG (zD ho4 (yK (kA HO675))) (below_size (kB HB))); replace HO675 := yD (zF (yI (yI (yI (yI (Kd.R_old (kA HO675) hb) (yH ho0)) (yH ho1)) (yH ho2)) (yH ho3)) (fun _ h_ => h_.1)); replace BK671 := zY BK671 hb; replace HB := zX HB hb
 obtain ⟨Ao23, co23, eo23⟩ := Kd.R_slice HO675.out
 (first | subst eo23 | (injection eo23 with f1_ f2_ f3_; have f4_ := f1_.symm; have f5_ := f3_.symm; clear f1_ f2_ f3_; subst f4_; subst f5_))
 obtain ⟨Ao24, co24, eo24⟩ := Kd.R_slice HO679.out
 (first | subst eo24 | (injection eo24 with f1_ f2_ f3_; have f4_ := f1_.symm; have f5_ := f3_.symm; clear f1_ f2_ f3_; subst f4_; subst f5_))
 obtain ⟨Ao25, co25, eo25⟩ := Kd.R_slice HO682.out
 (first | subst eo25 | (injection eo25 with f1_ f2_ f3_; have f4_ := f1_.symm; have f5_ := f3_.symm; clear f1_ f2_ f3_; subst f4_; subst f5_))
 obtain ⟨Ao26, co26, eo26⟩ := Kd.R_slice HO685.out
 (first | subst eo26 | (injection eo26 with f1_ f2_ f3_; have f4_ := f1_.symm; have f5_ := f3_.symm; clear f1_ f2_ f3_; subst f4_; subst f5_))
 obtain ⟨Ao27, co27, eo27⟩ := Kd.R_slice HO688.out
 (first | subst eo27 | (injection eo27 with f1_ f2_ f3_; have f4_ := f1_.symm; have f5_ := f3_.symm; clear f1_ f2_ f3_; subst f4_; subst f5_))
 obtain ⟨Ao28, co28, eo28⟩ := Kd.S_slice HO691.out
 (first | subst eo28 | (injection eo28 with f1_ f2_ f3_; have f4_ := f1_.symm; have f5_ := f3_.symm; clear f1_ f2_ f3_; subst f4_; subst f5_))
 refine hK.out _ _ (cz6 BK671.out) (fun hHeld => ?_)
 clear hK K
 refine nZ 29 ?_
 refine qo 10 4 31 (some 30) fun K hK => ?_
 refine qg Try.func47 _ ((spec_BoxesOf.calls k _ _ t673 t676 _ _ t677 _ _ t680 _ _ t683 _ _ t686 _ _ t689 t692 t695 _ ?z1 ?z3 ?z5 ?z7 ?z9 ?z11 A12.out).mono ?_)
 (case z1 => exact ⟨kV (zA HO675.out).2.2, (zA HO675.out).2.1⟩)
 (case z3 => exact ⟨kV (zA HO679.out).2.2, (zA HO679.out).2.1⟩)
 (case z5 => exact ⟨kV (zA HO682.out).2.2, (zA HO682.out).2.1⟩)
 (case z7 => exact ⟨kV (zA HO685.out).2.2, (zA HO685.out).2.1⟩)
 (case z9 => exact ⟨kV (zA HO688.out).2.2, (zA HO688.out).2.1⟩)
 (case z11 => exact ⟨kV (Kd.S_reads' HO691.out).2.2, (Kd.S_reads' HO691.out).2.1⟩)
 rintro e w29 ⟨v693, rfl, ho0, hb⟩
 refine ⟨_, rfl, ?_⟩
 have HO694 := yD (zG (zD (zD (zD (zD (zD (zD ho0 (yK (kA HO675))) (yK (kA HO679))) (yK (kA HO682))) (yK (kA HO685))) (yK (kA HO688))) (Kd.S_lt (kS HO691))) (below_size (kB HB))); replace HO675 := yD (zE (kA HO675) hb); replace HO679 := yD (zE (kA HO679) hb); replace HO682 := yD (zE (kA HO682) hb); replace HO685 := yD (zE (kA HO685) hb); replace HO688 := yD (zE (kA HO688) hb); replace HO691 := yD (Kd.S_elder' (kS HO691) (Kd.S_base ho0) hb); replace BK671 := zY BK671 hb; replace HB := zX HB hb
 refine hK.out _ _ (cz6 BK671.out) (fun hHeld => ?_)
 clear hK K
 refine nZ 30 ?_
 refine qa 10 5 63 ?_; refine qa 10 6 127 ?_; refine qa 10 7 255 ?_; refine qa 10 8 511 ?_; refine qa 10 9 1023 ?_
 refine qd ?_
 go_upto_region 11 with (first | ((with_reducible refine gate_callee (f := 39) rfl ?_); refine gL 34 Try.func39 _ ((laws_toInt64S.calls k _ _ l0 t696 _ (cB HR0 HC0 HB) A13.out).mono ?_); rintro e w30 ⟨v697, rfl, ho0, hb⟩; refine ⟨_, rfl, ?_⟩; replace HO694 := yD (Kd.S_elder' (kS HO694) (yH ho0) hb); have HO698 := yD (yZ ho0 (below_size (kB HB))); replace BK671 := zY BK671 hb; replace HB := zX HB hb; clear hb ho0; have := cf6_ BK671.out) | ((with_reducible refine gate_callee (f := 40) rfl ?_); refine gL 36 Try.func40 _ ((laws_toSelection.calls k a1_0 _ _ l1_1 _ _ l1_2 _ _ l1_3 _ _ l1_4 _ _ l1_5 t699 t700 t703 t706 t709 t712 _ (cB HR1_1 HC1_1 HB) (cB HR1_2 HC1_2 HB) (cB HR1_3 HC1_3 HB) (cB HR1_4 HC1_4 HB) (cB HR1_5 HC1_5 HB) A14.out).mono ?_); rintro e w32 ⟨v701, v704, v707, v710, v713, rfl, ho0, ho1, ho2, ho3, ho4, hb⟩; refine ⟨_, rfl, ?_⟩; obtain ⟨lo713, hlo713⟩ := lo_ex hb; have HO702 := yD (yZ (yJ ho0 (yK (kA HO698))) (below_size (kB HB))); have HO705 := yD (yZ (yJ ho1 (yK (kA HO698))) (below_size (kB HB))); have HO708 := yD (yZ (yJ ho2 (yK (kA HO698))) (below_size (kB HB))); have HO711 := yD (yZ (yJ ho3 (yK (kA HO698))) (below_size (kB HB))); have HO714 := yD (zG (zD (S_newN hlo713 ho4 (Kd.S_lt (kS HO694))) (yK (kA HO698))) (below_size (kB HB))); replace HO694 := yD (S_toldN hlo713 (Kd.S_told (Kd.S_told (Kd.S_told (Kd.S_told (Kd.S_told (Kd.S_old (kS HO694) hb) (yH ho0)) (yH ho1)) (yH ho2)) (yH ho3)) (Kd.S_base ho4))); replace HO698 := yD (zF (yI (yI (yI (yI (Kd.R_old (kA HO698) hb) (yH ho0)) (yH ho1)) (yH ho2)) (yH ho3)) (fun _ h_ => h_.1)); replace BK671 := zY BK671 hb; replace HB := zX HB hb; clear hb ho0 ho1 ho2 ho3 ho4) | ((with_reducible refine gate_dst (N := 9) rfl ?_); refine bE (N := 9) (cs := #[.int .i64 0, .slice none 0 0, .slice none 0 0, .slice none 0 0, .slice none 0 0, .slice none 0 0]) (t := 55) ?_; intro gb715 hg w33 hbox hb; replace HO694 := yD (Kd.S_below (kS HO694) hb); replace HO698 := yD (zE (kA HO698) hb); replace HO702 := yD (zE (kA HO702) hb); replace HO705 := yD (zE (kA HO705) hb); replace HO708 := yD (zE (kA HO708) hb); replace HO711 := yD (zE (kA HO711) hb); replace HO714 := yD (Kd.S_below (kS HO714) hb); have BK715 := yD (hbox); have GW715 := sW hg HB; replace HB := zX HB hb; have NB671_715 := yD ((by rw [hg]; exact Nat.ne_of_lt (blk_lt (kN BK671)) : gb671 ≠ gb715)); have NB715_671 := yD ((by rw [hg]; exact Nat.ne_of_gt (blk_lt (kN BK671)) : gb715 ≠ gb671)); replace BK671 := zY BK671 hb; clear hb hbox hg; have hnb34 := NB715_671.out; have hnc34 := NB671_715.out; have := cf6_ BK715.out; obtain ⟨Ao36, co36, eo36⟩ := Kd.R_slice HO702.out; subst eo36; obtain ⟨Ao37, co37, eo37⟩ := Kd.R_slice HO705.out; subst eo37; obtain ⟨Ao38, co38, eo38⟩ := Kd.R_slice HO708.out; subst eo38; obtain ⟨Ao39, co39, eo39⟩ := Kd.R_slice HO711.out; subst eo39; obtain ⟨Ao40, co40, eo40⟩ := Kd.S_slice HO714.out; subst eo40) | ((with_reducible refine gate_store (t := 55) (p := 9) rfl ?_); refine store_event (t := 55) (p := 9) (v := ?vo_w41) (w1 := ((((((w33.setCell ⟨gb715, 0, none⟩ (.int .i64 t699)).setCell ⟨gb715, 1, none⟩ (.slice Ao36 t700.length co36)).setCell ⟨gb715, 2, none⟩ (.slice Ao37 t703.length co37)).setCell ⟨gb715, 3, none⟩ (.slice Ao38 t706.length co38)).setCell ⟨gb715, 4, none⟩ (.slice Ao39 t709.length co39)).setCell ⟨gb715, 5, none⟩ (.slice Ao40 t712.length co40))) ?hg ?ho ?hn ?hr ?_; (case ho => rfl); (case hg => rfl); (case hn => rfl); (case hr => first | (go_simp; done) | (go_simp; rfl)); intro w41 hw; have n0_ : Aside0 (Kd.S k42 42 w41 w.heap.size (fun k_ => oB v697 k_ ∧ oB (.slice Ao36 t700.length co36) k_ ∧ oB (.slice Ao37 t703.length co37) k_ ∧ oB (.slice Ao38 t706.length co38) k_ ∧ oB (.slice Ao39 t709.length co39) k_ ∧ (oB (.slice Ao40 t712.length co40) k_ ∧ k_ < lo713)) v693 t692) := ⟨(by rw [hw]; exact (by (with_reducible repeat (first | apply yS | apply yT | apply yU)); exact Kd.S_mono (Kd.S_far (p := ⟨gb715, 5, none⟩) (Kd.S_far (p := ⟨gb715, 4, none⟩) (Kd.S_far (p := ⟨gb715, 3, none⟩) (Kd.S_far (p := ⟨gb715, 2, none⟩) (Kd.S_far (p := ⟨gb715, 1, none⟩) (Kd.S_far (p := ⟨gb715, 0, none⟩) (Kd.S_types HO694.out BK715.out (by decide)) (fun _ hk => hk.2) (.int .i64 t699)) (fun _ hk => hk.2) (.slice Ao36 t700.length co36)) (fun _ hk => hk.2) (.slice Ao37 t703.length co37)) (fun _ hk => hk.2) (.slice Ao38 t706.length co38)) (fun _ hk => hk.2) (.slice Ao39 t709.length co39)) (fun _ hk => hk.2) (.slice Ao40 t712.length co40)) (fun _ hk => ⟨hk.1.1.1.1.1.1.2, ⟨hk.1.1.1.1.1.2, ⟨hk.1.1.1.1.2, ⟨hk.1.1.1.2, ⟨hk.1.1.2, hk.1.2⟩⟩⟩⟩⟩)))⟩; have n1_ : Aside0 (Kd.R (Kd.int .i64) 2 w41 w.heap.size (fun k_ => oB (.slice Ao36 t700.length co36) k_ ∧ oB (.slice Ao37 t703.length co37) k_ ∧ oB (.slice Ao38 t706.length co38) k_ ∧ oB (.slice Ao39 t709.length co39) k_) v697 t696) := ⟨(by rw [hw]; exact (by (with_reducible repeat (first | apply yA | apply yB | apply yC)); exact zF (yS_ (yS_ (yS_ (yS_ (yS_ (yS_ (Kd.R_types HO698.out BK715.out (by decide)))))))) (fun _ hk => ⟨hk.1.1.1.1.2, ⟨hk.1.1.1.2, ⟨hk.1.1.2, hk.1.2⟩⟩⟩)))⟩; have n2_ : Aside0 (Kd.R (Kd.int .i64) 2 w41 w.heap.size (fun k_ => oB v697 k_ ∧ oB (.slice Ao37 t703.length co37) k_ ∧ oB (.slice Ao38 t706.length co38) k_ ∧ oB (.slice Ao39 t709.length co39) k_) (.slice Ao36 t700.length co36) t700) := ⟨(by rw [hw]; exact (by (with_reducible repeat (first | apply yA | apply yB | apply yC)); exact zF (yS_ (yS_ (yS_ (yS_ (yS_ (yS_ (Kd.R_types HO702.out BK715.out (by decide)))))))) (fun _ hk => ⟨hk.1.2, ⟨hk.1.1.1, ⟨hk.1.1.2.1, hk.1.1.2.2⟩⟩⟩)))⟩; have n3_ : Aside0 (Kd.R (Kd.int .i64) 2 w41 w.heap.size (fun k_ => oB v697 k_ ∧ oB (.slice Ao36 t700.length co36) k_ ∧ oB (.slice Ao38 t706.length co38) k_ ∧ oB (.slice Ao39 t709.length co39) k_) (.slice Ao37 t703.length co37) t703) := ⟨(by rw [hw]; exact (by (with_reducible repeat (first | apply yA | apply yB | apply yC)); exact zF (yS_ (yS_ (yS_ (yS_ (yS_ (yS_ (Kd.R_types HO705.out BK715.out (by decide)))))))) (fun _ hk => ⟨hk.1.2, ⟨hk.1.1.1, ⟨hk.1.1.2.1, hk.1.1.2.2⟩⟩⟩)))⟩; have n4_ : Aside0 (Kd.R (Kd.int .i64) 2 w41 w.heap.size (fun k_ => oB v697 k_ ∧ oB (.slice Ao36 t700.length co36) k_ ∧ oB (.slice Ao37 t703.length co37) k_ ∧ oB (.slice Ao39 t709.length co39) k_) (.slice Ao38 t706.length co38) t706) := ⟨(by rw [hw]; exact (by (with_reducible repeat (first | apply yA | apply yB | apply yC)); exact zF (yS_ (yS_ (yS_ (yS_ (yS_ (yS_ (Kd.R_types HO708.out BK715.out (by decide)))))))) (fun _ hk => ⟨hk.1.2, ⟨hk.1.1.1, ⟨hk.1.1.2.1, hk.1.1.2.2⟩⟩⟩)))⟩; have n5_ : Aside0 (Kd.R (Kd.int .i64) 2 w41 w.heap.size (fun k_ => oB v697 k_ ∧ oB (.slice Ao36 t700.length co36) k_ ∧ oB (.slice Ao37 t703.length co37) k_ ∧ oB (.slice Ao38 t706.length co38) k_) (.slice Ao39 t709.length co39) t709) := ⟨(by rw [hw]; exact (by (with_reducible repeat (first | apply yA | apply yB | apply yC)); exact zF (yS_ (yS_ (yS_ (yS_ (yS_ (yS_ (Kd.R_types HO711.out BK715.out (by decide)))))))) (fun _ hk => ⟨hk.1.2, ⟨hk.1.1.1, ⟨hk.1.1.2.1, hk.1.1.2.2⟩⟩⟩)))⟩; have n6_ : Aside0 (Kd.S k110 110 w41 w.heap.size (fun k_ => (oB v693 k_ ∧ lo713 ≤ k_) ∧ oB v697 k_ ∧ oB (.slice Ao36 t700.length co36) k_ ∧ oB (.slice Ao37 t703.length co37) k_ ∧ oB (.slice Ao38 t706.length co38) k_ ∧ oB (.slice Ao39 t709.length co39) k_) (.slice Ao40 t712.length co40) t712) := ⟨(by rw [hw]; exact (by (with_reducible repeat (first | apply yS | apply yT | apply yU)); exact Kd.S_mono (Kd.S_far (p := ⟨gb715, 5, none⟩) (Kd.S_far (p := ⟨gb715, 4, none⟩) (Kd.S_far (p := ⟨gb715, 3, none⟩) (Kd.S_far (p := ⟨gb715, 2, none⟩) (Kd.S_far (p := ⟨gb715, 1, none⟩) (Kd.S_far (p := ⟨gb715, 0, none⟩) (Kd.S_types HO714.out BK715.out (by decide)) (fun _ hk => hk.2) (.int .i64 t699)) (fun _ hk => hk.2) (.slice Ao36 t700.length co36)) (fun _ hk => hk.2) (.slice Ao37 t703.length co37)) (fun _ hk => hk.2) (.slice Ao38 t706.length co38)) (fun _ hk => hk.2) (.slice Ao39 t709.length co39)) (fun _ hk => hk.2) (.slice Ao40 t712.length co40)) (fun _ hk => ⟨hk.1.1.2, ⟨hk.1.2, ⟨hk.1.1.1.1, ⟨hk.1.1.1.2.1, ⟨hk.1.1.1.2.2.1, hk.1.1.1.2.2.2⟩⟩⟩⟩⟩)))⟩; have n7_ : Aside0 (w41.heap[gb671]? = some (.cells #[.int .i64 a1_0, .slice A1_1 l1_1.length c1_1, .slice A1_2 l1_2.length c1_2, .slice A1_3 l1_3.length c1_3, .slice A1_4 l1_4.length c1_4, .slice A1_5 l1_5.length c1_5] 49 (0, 0))) := ⟨(by rw [hw]; exact (by (with_reducible repeat (first | refine yM ?_ _ | refine yO ?_ | refine yN ?_ _)); refine blk_far ?_ NB671_715.out _; (with_reducible repeat (first | refine yM ?_ _ | refine yO ?_ | refine yN ?_ _)); refine blk_far ?_ NB671_715.out _; (with_reducible repeat (first | refine yM ?_ _ | refine yO ?_ | refine yN ?_ _)); refine blk_far ?_ NB671_715.out _; (with_reducible repeat (first | refine yM ?_ _ | refine yO ?_ | refine yN ?_ _)); refine blk_far ?_ NB671_715.out _; (with_reducible repeat (first | refine yM ?_ _ | refine yO ?_ | refine yN ?_ _)); refine blk_far ?_ NB671_715.out _; (with_reducible repeat (first | refine yM ?_ _ | refine yO ?_ | refine yN ?_ _)); refine blk_far ?_ NB671_715.out _; (with_reducible repeat (first | refine yM ?_ _ | refine yO ?_ | refine yN ?_ _)); exact BK671.out))⟩; have n8_ : Aside0 (w41.heap[gb715]? = some (.cells #[.int .i64 t699, .slice Ao36 t700.length co36, .slice Ao37 t703.length co37, .slice Ao38 t706.length co38, .slice Ao39 t709.length co39, .slice Ao40 t712.length co40] 55 (0, 0))) := ⟨(by rw [hw]; exact (by (with_reducible repeat (first | refine yM ?_ _ | refine yO ?_ | refine yN ?_ _)); exact bA6_ BK715.out))⟩; have n9_ : Aside0 (Below w.heap.size w w41) := ⟨(by rw [hw]; exact (kB HB))⟩; clear hw; clear HO694; clear HO698; clear HO702; clear HO705; clear HO708; clear HO711; clear HO714; clear BK671; clear BK715; clear HB; have HO694 := n0_; have HO698 := n1_; have HO702 := n2_; have HO705 := n3_; have HO708 := n4_; have HO711 := n5_; have HO714 := n6_; have BK671 := n7_; have BK715 := n8_; have HB := n9_; clear n0_ n1_ n2_ n3_ n4_ n5_ n6_ n7_ n8_ n9_; have := cf6_ BK715.out; obtain ⟨Ao43, co43, eo43⟩ := Kd.R_slice HO698.out; subst eo43) | ((with_reducible refine gate_callee (f := 48) rfl ?_); refine gL 40 Try.func48 _ ((impl_BoxesOf.calls k _ _ t696 t699 _ _ t700 _ _ t703 _ _ t706 _ _ t709 _ _ t712 t716 t719 _ ?z1 ?z3 ?z5 ?z7 ?z9 ?z11 A15.out).mono ?_); (case z1 => exact ⟨kV (zA HO698.out).2.2, (zA HO698.out).2.1⟩); (case z3 => exact ⟨kV (zA HO702.out).2.2, (zA HO702.out).2.1⟩); (case z5 => exact ⟨kV (zA HO705.out).2.2, (zA HO705.out).2.1⟩); (case z7 => exact ⟨kV (zA HO708.out).2.2, (zA HO708.out).2.1⟩); (case z9 => exact ⟨kV (zA HO711.out).2.2, (zA HO711.out).2.1⟩); (case z11 => exact ⟨kV (Kd.S_reads' HO714.out).2.2, (Kd.S_reads' HO714.out).2.1⟩); rintro e w44 ⟨v717, rfl, ho0, hb⟩; refine ⟨_, rfl, ?_⟩; obtain ⟨lo717, hlo717⟩ := lo_ex hb; have HO718 := yD (zG (S_newN hlo717 (zD (zD (zD (zD (zD (S_newN hlo717 ho0 (Kd.S_lt (kS HO694))) (yK (kA HO698))) (yK (kA HO702))) (yK (kA HO705))) (yK (kA HO708))) (yK (kA HO711))) (Kd.S_lt (kS HO714))) (below_size (kB HB))); replace HO694 := yD (S_eldN hlo717 (kS HO694) (Kd.S_base ho0) hb); replace HO698 := yD (zE (kA HO698) hb); replace HO702 := yD (zE (kA HO702) hb); replace HO705 := yD (zE (kA HO705) hb); replace HO708 := yD (zE (kA HO708) hb); replace HO711 := yD (zE (kA HO711) hb); replace HO714 := yD (S_eldN hlo717 (kS HO714) (Kd.S_base ho0) hb); replace BK671 := zY BK671 hb; replace BK715 := zY BK715 hb; replace HB := zX HB hb; clear hb ho0))
 (try simp only [Act.put, zH, zI, zJ])
 go_cut [51] (fun v51 wc => ∃ (kq : Nat) (x51_15 : Bool), v51 = .bool x51_15 ∧ Aside0 (laws_FnExactBoxesOf.j0 kq l0 t692 t695 t696 t716 t719 x51_15 a1_0 l1_1 l1_2 l1_3 l1_4 l1_5 t699 t700 t703 t706 t709 t712 = some r) ∧ Aside0 (kq ≤ k) ∧ Aside0 (Kd.S k42 42 wc w.heap.size (fun k_ => oB (.slice Ao43 t696.length co43) k_ ∧ (oB v717 k_ ∧ k_ < lo717) ∧ oB (.slice Ao36 t700.length co36) k_ ∧ oB (.slice Ao37 t703.length co37) k_ ∧ oB (.slice Ao38 t706.length co38) k_ ∧ oB (.slice Ao39 t709.length co39) k_ ∧ (oB (.slice Ao40 t712.length co40) k_ ∧ k_ < lo713)) v693 t692) ∧ Aside0 (Kd.R (Kd.int .i64) 2 wc w.heap.size (fun k_ => oB (.slice Ao36 t700.length co36) k_ ∧ oB (.slice Ao37 t703.length co37) k_ ∧ oB (.slice Ao38 t706.length co38) k_ ∧ oB (.slice Ao39 t709.length co39) k_) (.slice Ao43 t696.length co43) t696) ∧ Aside0 (Kd.S k42 42 wc w.heap.size (fun k_ => (oB v693 k_ ∧ lo717 ≤ k_) ∧ oB (.slice Ao43 t696.length co43) k_ ∧ oB (.slice Ao36 t700.length co36) k_ ∧ oB (.slice Ao37 t703.length co37) k_ ∧ oB (.slice Ao38 t706.length co38) k_ ∧ oB (.slice Ao39 t709.length co39) k_ ∧ (oB (.slice Ao40 t712.length co40) k_ ∧ lo717 ≤ k_)) v717 t716) ∧ Aside0 (Kd.R (Kd.int .i64) 2 wc w.heap.size (fun k_ => oB (.slice Ao43 t696.length co43) k_ ∧ oB (.slice Ao37 t703.length co37) k_ ∧ oB (.slice Ao38 t706.length co38) k_ ∧ oB (.slice Ao39 t709.length co39) k_) (.slice Ao36 t700.length co36) t700) ∧ Aside0 (Kd.R (Kd.int .i64) 2 wc w.heap.size (fun k_ => oB (.slice Ao43 t696.length co43) k_ ∧ oB (.slice Ao36 t700.length co36) k_ ∧ oB (.slice Ao38 t706.length co38) k_ ∧ oB (.slice Ao39 t709.length co39) k_) (.slice Ao37 t703.length co37) t703) ∧ Aside0 (Kd.R (Kd.int .i64) 2 wc w.heap.size (fun k_ => oB (.slice Ao43 t696.length co43) k_ ∧ oB (.slice Ao36 t700.length co36) k_ ∧ oB (.slice Ao37 t703.length co37) k_ ∧ oB (.slice Ao39 t709.length co39) k_) (.slice Ao38 t706.length co38) t706) ∧ Aside0 (Kd.R (Kd.int .i64) 2 wc w.heap.size (fun k_ => oB (.slice Ao43 t696.length co43) k_ ∧ oB (.slice Ao36 t700.length co36) k_ ∧ oB (.slice Ao37 t703.length co37) k_ ∧ oB (.slice Ao38 t706.length co38) k_) (.slice Ao39 t709.length co39) t709) ∧ Aside0 (Kd.S k110 110 wc w.heap.size (fun k_ => (oB v693 k_ ∧ lo713 ≤ k_) ∧ oB (.slice Ao43 t696.length co43) k_ ∧ (oB v717 k_ ∧ k_ < lo717) ∧ oB (.slice Ao36 t700.length co36) k_ ∧ oB (.slice Ao37 t703.length co37) k_ ∧ oB (.slice Ao38 t706.length co38) k_ ∧ oB (.slice Ao39 t709.length co39) k_) (.slice Ao40 t712.length co40) t712) ∧ Aside0 (wc.heap[gb671]? = some (.cells #[.int .i64 a1_0, (.slice A1_1 l1_1.length c1_1), (.slice A1_2 l1_2.length c1_2), (.slice A1_3 l1_3.length c1_3), (.slice A1_4 l1_4.length c1_4), (.slice A1_5 l1_5.length c1_5)] 49 (0, 0))) ∧ Aside0 (wc.heap[gb715]? = some (.cells #[.int .i64 t699, (.slice Ao36 t700.length co36), (.slice Ao37 t703.length co37), (.slice Ao38 t706.length co38), (.slice Ao39 t709.length co39), (.slice Ao40 t712.length co40)] 55 (0, 0))) ∧ Aside0 (Below w.heap.size w wc))
 case first =>
  have H := HC16.out; clear HC16
  replace ⟨t720, A45, H⟩ := sV H
  replace H := sS H; rcases H with ⟨rfl, H⟩ | ⟨rfl, H⟩
  ·
   have H' := yD H
   clear H
   obtain ⟨Ao50, co50, eo50⟩ := Kd.S_slice HO718.out
   subst eo50
   obtain ⟨Ao51, co51, eo51⟩ := Kd.S_slice HO694.out
   subst eo51
   go_wp2_with (first | ((with_reducible refine gate_callee (f := 17) rfl ?_); refine gL 45 Try.func17 _ ((laws_eqBoxS.calls k _ _ t716 _ _ t692 false _ ?z1 ?z3 A45.out).mono ?_); (case z1 => exact ⟨kV (Kd.S_reads' HO718.out).2.2, (Kd.S_reads' HO718.out).2.1⟩); (case z3 => exact ⟨kV (Kd.S_reads' HO694.out).2.2, (Kd.S_reads' HO694.out).2.1⟩); rintro e w52 ⟨rfl, hb⟩; refine ⟨_, rfl, ?_⟩; replace HO694 := yD (Kd.S_below (kS HO694) hb); replace HO698 := yD (zE (kA HO698) hb); replace HO702 := yD (zE (kA HO702) hb); replace HO705 := yD (zE (kA HO705) hb); replace HO708 := yD (zE (kA HO708) hb); replace HO711 := yD (zE (kA HO711) hb); replace HO714 := yD (Kd.S_below (kS HO714) hb); replace HO718 := yD (Kd.S_below (kS HO718) hb); replace BK671 := zY BK671 hb; replace BK715 := zY BK715 hb; replace HB := zX HB hb; clear hb))
   go_meet
   case rel => exact ⟨_, (true), kF, H', ⟨by first | omega | exact Nat.le_refl _⟩, ⟨mS HO694 (fun _ hk => ⟨hk.1.1, ⟨hk.2, ⟨hk.1.2.1, ⟨hk.1.2.2.1, ⟨hk.1.2.2.2.1, ⟨hk.1.2.2.2.2.1, hk.1.2.2.2.2.2⟩⟩⟩⟩⟩⟩)⟩, ⟨kA HO698⟩, ⟨mS HO718 (fun _ hk => ⟨hk.1.1.1.1.1.1.2, ⟨hk.1.1.1.1.1.2, ⟨hk.1.1.1.1.2, ⟨hk.1.1.1.2, ⟨hk.1.1.2, ⟨hk.1.2, hk.2⟩⟩⟩⟩⟩⟩)⟩, ⟨kA HO702⟩, ⟨kA HO705⟩, ⟨kA HO708⟩, ⟨kA HO711⟩, ⟨mS HO714 (fun _ hk => ⟨hk.1.1, ⟨hk.1.2.1, ⟨hk.2, ⟨hk.1.2.2.1, ⟨hk.1.2.2.2.1, ⟨hk.1.2.2.2.2.1, hk.1.2.2.2.2.2⟩⟩⟩⟩⟩⟩)⟩, ⟨kM BK671⟩, ⟨kM BK715⟩, ⟨kR0 HB⟩⟩
  have H' := yD H
  clear H
  obtain ⟨Ao47, co47, eo47⟩ := Kd.S_slice HO718.out
  subst eo47
  obtain ⟨Ao48, co48, eo48⟩ := Kd.S_slice HO694.out
  subst eo48
  go_wp2_with (first | ((with_reducible refine gate_callee (f := 17) rfl ?_); refine gL 45 Try.func17 _ ((laws_eqBoxS.calls k _ _ t716 _ _ t692 true _ ?z1 ?z3 A45.out).mono ?_); (case z1 => exact ⟨kV (Kd.S_reads' HO718.out).2.2, (Kd.S_reads' HO718.out).2.1⟩); (case z3 => exact ⟨kV (Kd.S_reads' HO694.out).2.2, (Kd.S_reads' HO694.out).2.1⟩); rintro e w49 ⟨rfl, hb⟩; refine ⟨_, rfl, ?_⟩; replace HO694 := yD (Kd.S_below (kS HO694) hb); replace HO698 := yD (zE (kA HO698) hb); replace HO702 := yD (zE (kA HO702) hb); replace HO705 := yD (zE (kA HO705) hb); replace HO708 := yD (zE (kA HO708) hb); replace HO711 := yD (zE (kA HO711) hb); replace HO714 := yD (Kd.S_below (kS HO714) hb); replace HO718 := yD (Kd.S_below (kS HO718) hb); replace BK671 := zY BK671 hb; replace BK715 := zY BK715 hb; replace HB := zX HB hb; clear hb))
  go_meet
  case rel => exact ⟨_, ((t719 != t695)), kF, H', ⟨by first | omega | exact Nat.le_refl _⟩, ⟨mS HO694 (fun _ hk => ⟨hk.1.1, ⟨hk.2, ⟨hk.1.2.1, ⟨hk.1.2.2.1, ⟨hk.1.2.2.2.1, ⟨hk.1.2.2.2.2.1, hk.1.2.2.2.2.2⟩⟩⟩⟩⟩⟩)⟩, ⟨kA HO698⟩, ⟨mS HO718 (fun _ hk => ⟨hk.1.1.1.1.1.1.2, ⟨hk.1.1.1.1.1.2, ⟨hk.1.1.1.1.2, ⟨hk.1.1.1.2, ⟨hk.1.1.2, ⟨hk.1.2, hk.2⟩⟩⟩⟩⟩⟩)⟩, ⟨kA HO702⟩, ⟨kA HO705⟩, ⟨kA HO708⟩, ⟨kA HO711⟩, ⟨mS HO714 (fun _ hk => ⟨hk.1.1, ⟨hk.1.2.1, ⟨hk.2, ⟨hk.1.2.2.1, ⟨hk.1.2.2.2.1, ⟨hk.1.2.2.2.2.1, hk.1.2.2.2.2.2⟩⟩⟩⟩⟩⟩)⟩, ⟨kM BK671⟩, ⟨kM BK715⟩, ⟨kR0 HB⟩⟩
 case rest =>
  clear HC16
  obtain ⟨kq, x51_15, rfl, HA, HJ15, HO_6, HO_8, HO_10, HO_716001, HO_716002, HO_716003, HO_716004, HO_716005, BK671, BK715, HB⟩ := hcut
  cases kq with
  | zero => exact absurd HA.out (by simp [laws_FnExactBoxesOf.j0])
  | succ kj15 =>
   have H := HA.out; clear HA
   simp only [laws_FnExactBoxesOf.j0] at H
   replace H := sT H; rcases H with ⟨rfl, H⟩ | ⟨rfl, H⟩
   · obtain rfl := sJ H
     go_wp2
     go_ret
     exact ⟨kE, kR0 HB⟩
   replace ⟨t721, A54, H⟩ := sV H
   replace ⟨t724, A55, H⟩ := sV H
   replace H := sS H; rcases H with ⟨rfl, H⟩ | ⟨rfl, H⟩
   ·
    obtain rfl := sJ H
    go_wp2_with (first | ((with_reducible refine gate_callee (f := 39) rfl ?_); refine gL 54 Try.func39 _ ((laws_toInt64S.calls kj15 _ _ l0 t721 _ (cB HR0 HC0 HB) A54.out).mono ?_); rintro e w133 ⟨v722, rfl, ho0, hb⟩; refine ⟨_, rfl, ?_⟩; have HO723 := yD (yZ (yJ ho0 (yK (kA HO_8))) (below_size (kB HB))); replace HO_8 := yD (Kd.R_elder' (kA HO_8) (yH ho0) hb); replace BK671 := zY BK671 hb; replace BK715 := zY BK715 hb; replace HB := zX HB hb; clear hb ho0; obtain ⟨Ao134, co134, eo134⟩ := Kd.R_slice HO723.out; subst eo134) | ((with_reducible refine gate_callee (f := 42) rfl ?_); refine gL 55 Try.func42 _ ((laws_eqInt64S.calls kj15 _ _ t696 _ _ t721 false _ ?z1 ?z3 A55.out).mono ?_); (case z1 => exact ⟨kV (zA HO_8.out).2.2, (zA HO_8.out).2.1⟩); (case z3 => exact ⟨kV (zA HO723.out).2.2, (zA HO723.out).2.1⟩); rintro e w' ⟨rfl, ⟨nd, rfl⟩⟩; refine ⟨_, rfl, ?_⟩))
    go_ret
    exact ⟨kE, kR0 HB⟩
   replace ⟨⟨t725, t726, t729, t732, t735, t738⟩, A57, H⟩ := sV H
   replace ⟨t741, A58, H⟩ := sV H
   replace H := sS H; rcases H with ⟨rfl, H⟩ | ⟨rfl, H⟩
   ·
    obtain rfl := sJ H
    try go_wp2_with (first | ((with_reducible refine gate_callee (f := 39) rfl ?_); refine gL 54 Try.func39 _ ((laws_toInt64S.calls kj15 _ _ l0 t721 _ (cB HR0 HC0 HB) A54.out).mono ?_); rintro e w123 ⟨v722, rfl, ho0, hb⟩; refine ⟨_, rfl, ?_⟩; replace HO_716005 := yD (Kd.S_elder' (kS HO_716005) (yH ho0) hb); have HO723 := yD (yZ (yJ (yJ (yJ (yJ (yJ ho0 (yK (kA HO_8))) (yK (kA HO_716001))) (yK (kA HO_716002))) (yK (kA HO_716003))) (yK (kA HO_716004))) (below_size (kB HB))); replace HO_8 := yD (Kd.R_elder' (kA HO_8) (yH ho0) hb); replace HO_716001 := yD (Kd.R_elder' (kA HO_716001) (yH ho0) hb); replace HO_716002 := yD (Kd.R_elder' (kA HO_716002) (yH ho0) hb); replace HO_716003 := yD (Kd.R_elder' (kA HO_716003) (yH ho0) hb); replace HO_716004 := yD (Kd.R_elder' (kA HO_716004) (yH ho0) hb); replace BK671 := zY BK671 hb; replace BK715 := zY BK715 hb; replace HB := zX HB hb; clear hb ho0; obtain ⟨Ao124, co124, eo124⟩ := Kd.R_slice HO723.out; subst eo124) | ((with_reducible refine gate_callee (f := 42) rfl ?_); refine gL 55 Try.func42 _ ((laws_eqInt64S.calls kj15 _ _ t696 _ _ t721 true _ ?z1 ?z3 A55.out).mono ?_); (case z1 => exact ⟨kV (zA HO_8.out).2.2, (zA HO_8.out).2.1⟩); (case z3 => exact ⟨kV (zA HO723.out).2.2, (zA HO723.out).2.1⟩); rintro e w' ⟨rfl, ⟨nd, rfl⟩⟩; refine ⟨_, rfl, ?_⟩))
    (try (rw [drewN_self w123]; generalize hq_ : World.drewN w123 _ = w123; replace HO_716001 := yD (Kd.R_at hq_ HO_716001.out); replace HO_716002 := yD (Kd.R_at hq_ HO_716002.out); replace HO_716003 := yD (Kd.R_at hq_ HO_716003.out); replace HO_716004 := yD (Kd.R_at hq_ HO_716004.out); replace HO_716005 := yD (Kd.S_at hq_ HO_716005.out); replace BK671 := yD (blk_at hq_ BK671.out); replace BK715 := yD (blk_at hq_ BK715.out); replace HB := yD (below_at hq_ HB.out); clear hq_))
    replace HO_716001 := yD (yC HO_716001.out); replace HO_716002 := yD (yC HO_716002.out); replace HO_716003 := yD (yC HO_716003.out); replace HO_716004 := yD (yC HO_716004.out); replace HO_716005 := yD (yU HO_716005.out); replace BK671 := yD (yO BK671.out); replace BK715 := yD (yO BK715.out); replace HB := yD (yP HB.out)
    refine start_ (n := 5) (S := fun w' => w'.cell? ⟨gb715, 0, none⟩ = some (.int .i64 t699) ∧ w'.cell? ⟨gb715, 1, none⟩ = some (.slice Ao36 t700.length co36) ∧ w'.cell? ⟨gb715, 2, none⟩ = some (.slice Ao37 t703.length co37) ∧ w'.cell? ⟨gb715, 3, none⟩ = some (.slice Ao38 t706.length co38) ∧ w'.cell? ⟨gb715, 4, none⟩ = some (.slice Ao39 t709.length co39) ∧ w'.cell? ⟨gb715, 5, none⟩ = some (.slice Ao40 t712.length co40) ∧ w'.cell? ⟨gb671, 0, none⟩ = some (.int .i64 a1_0) ∧ w'.cell? ⟨gb671, 1, none⟩ = some (.slice A1_1 l1_1.length c1_1) ∧ w'.cell? ⟨gb671, 2, none⟩ = some (.slice A1_2 l1_2.length c1_2) ∧ w'.cell? ⟨gb671, 3, none⟩ = some (.slice A1_3 l1_3.length c1_3) ∧ w'.cell? ⟨gb671, 4, none⟩ = some (.slice A1_4 l1_4.length c1_4) ∧ w'.cell? ⟨gb671, 5, none⟩ = some (.slice A1_5 l1_5.length c1_5)) (ds := []) (bz 5 0) (by kernel_rfl) rfl rfl (ca6_ BK715.out (cz6 BK671.out)) (fun hHeld => ?_)
    generalize w123.drew = w125 at HO_716001 HO_716002 HO_716003 HO_716004 HO_716005 BK671 BK715 HB hHeld ⊢
    refine pC 0 57 (bz 5 1) rfl rfl (by kernel_rfl) (fun _ _ _ h => h) (by rfl) hHeld (by rintro w' ⟨s0, s1, s2, s3, s4, s5, s6, s7, s8, s9, s10, s11⟩; go_simp; with_reducible rfl) (by simp only [Act.put, zH, zI, zJ, i64_w, i32_w]; rfl) ?_
    refine pC 1 58 (bz 5 3) rfl rfl (by kernel_rfl) (fun _ _ _ h => h) (by rfl) hHeld (by rintro w' ⟨s0, s1, s2, s3, s4, s5, s6, s7, s8, s9, s10, s11⟩; go_simp; with_reducible rfl) (by simp only [Act.put, zH, zI, zJ, i64_w, i32_w]; rfl) ?_
    refine one_ (i := 2) (N := some 59) (bz 5 7) rfl rfl (by kernel_rfl) (by decide) (fun K hK => ?_)
    refine qg Try.func40 _ ((laws_toSelection.calls kj15 a1_0 _ _ l1_1 _ _ l1_2 _ _ l1_3 _ _ l1_4 _ _ l1_5 t725 t726 t729 t732 t735 t738 _ (cB HR1_1 HC1_1 HB) (cB HR1_2 HC1_2 HB) (cB HR1_3 HC1_3 HB) (cB HR1_4 HC1_4 HB) (cB HR1_5 HC1_5 HB) A57.out).mono ?_)
    rintro e w126 ⟨v727, v730, v733, v736, v739, rfl, ho0, ho1, ho2, ho3, ho4, hb⟩
    refine ⟨_, rfl, ?_⟩
    have HO728 := yD (yZ (yJ (yJ (yJ (yJ ho0 (yK (kA HO_716001))) (yK (kA HO_716002))) (yK (kA HO_716003))) (yK (kA HO_716004))) (below_size (kB HB))); have HO731 := yD (yZ (yJ (yJ (yJ (yJ ho1 (yK (kA HO_716001))) (yK (kA HO_716002))) (yK (kA HO_716003))) (yK (kA HO_716004))) (below_size (kB HB))); have HO734 := yD (yZ (yJ (yJ (yJ (yJ ho2 (yK (kA HO_716001))) (yK (kA HO_716002))) (yK (kA HO_716003))) (yK (kA HO_716004))) (below_size (kB HB))); have HO737 := yD (yZ (yJ (yJ (yJ (yJ ho3 (yK (kA HO_716001))) (yK (kA HO_716002))) (yK (kA HO_716003))) (yK (kA HO_716004))) (below_size (kB HB))); have HO740 := yD (zG (zD (zD (zD (zD (zD ho4 (yK (kA HO_716001))) (yK (kA HO_716002))) (yK (kA HO_716003))) (yK (kA HO_716004))) (Kd.S_lt (kS HO_716005))) (below_size (kB HB))); replace HO_716001 := yD (zF (yI (yI (yI (yI (Kd.R_old (kA HO_716001) hb) (yH ho0)) (yH ho1)) (yH ho2)) (yH ho3)) (fun _ h_ => h_.1)); replace HO_716002 := yD (zF (yI (yI (yI (yI (Kd.R_old (kA HO_716002) hb) (yH ho0)) (yH ho1)) (yH ho2)) (yH ho3)) (fun _ h_ => h_.1)); replace HO_716003 := yD (zF (yI (yI (yI (yI (Kd.R_old (kA HO_716003) hb) (yH ho0)) (yH ho1)) (yH ho2)) (yH ho3)) (fun _ h_ => h_.1)); replace HO_716004 := yD (zF (yI (yI (yI (yI (Kd.R_old (kA HO_716004) hb) (yH ho0)) (yH ho1)) (yH ho2)) (yH ho3)) (fun _ h_ => h_.1)); replace HO_716005 := yD (Kd.S_mono (Kd.S_told (Kd.S_told (Kd.S_told (Kd.S_told (Kd.S_told (Kd.S_old (kS HO_716005) hb) (yH ho0)) (yH ho1)) (yH ho2)) (yH ho3)) (Kd.S_base ho4)) (fun _ h_ => h_.1)); replace BK671 := zY BK671 hb; replace BK715 := zY BK715 hb; replace HB := zX HB hb
    obtain ⟨Ao127, co127, eo127⟩ := Kd.R_slice HO728.out
    (first | subst eo127 | (injection eo127 with f1_ f2_ f3_; have f4_ := f1_.symm; have f5_ := f3_.symm; clear f1_ f2_ f3_; subst f4_; subst f5_))
    obtain ⟨Ao128, co128, eo128⟩ := Kd.R_slice HO731.out
    (first | subst eo128 | (injection eo128 with f1_ f2_ f3_; have f4_ := f1_.symm; have f5_ := f3_.symm; clear f1_ f2_ f3_; subst f4_; subst f5_))
    obtain ⟨Ao129, co129, eo129⟩ := Kd.R_slice HO734.out
    (first | subst eo129 | (injection eo129 with f1_ f2_ f3_; have f4_ := f1_.symm; have f5_ := f3_.symm; clear f1_ f2_ f3_; subst f4_; subst f5_))
    obtain ⟨Ao130, co130, eo130⟩ := Kd.R_slice HO737.out
    (first | subst eo130 | (injection eo130 with f1_ f2_ f3_; have f4_ := f1_.symm; have f5_ := f3_.symm; clear f1_ f2_ f3_; subst f4_; subst f5_))
    obtain ⟨Ao131, co131, eo131⟩ := Kd.S_slice HO740.out
    (first | subst eo131 | (injection eo131 with f1_ f2_ f3_; have f4_ := f1_.symm; have f5_ := f3_.symm; clear f1_ f2_ f3_; subst f4_; subst f5_))
    refine hK.out _ _ (ca6_ BK715.out (cz6 BK671.out)) (fun hHeld => ?_)
    clear hK K
    refine nZ 59 ?_
    refine one_ (i := 3) (N := some 60) (bz 5 15) rfl rfl (by kernel_rfl) (by decide) (fun K hK => ?_)
    refine qg Try.func43 _ ((laws_eqSelection.calls kj15 t699 _ _ t700 _ _ t703 _ _ t706 _ _ t709 _ _ t712 t725 _ _ t726 _ _ t729 _ _ t732 _ _ t735 _ _ t738 false _ ?z1 ?z3 ?z5 ?z7 ?z9 ?z11 ?z13 ?z15 ?z17 ?z19 A58.out).mono ?_)
    (case z1 => exact ⟨kV (zA HO_716001.out).2.2, (zA HO_716001.out).2.1⟩)
    (case z3 => exact ⟨kV (zA HO_716002.out).2.2, (zA HO_716002.out).2.1⟩)
    (case z5 => exact ⟨kV (zA HO_716003.out).2.2, (zA HO_716003.out).2.1⟩)
    (case z7 => exact ⟨kV (zA HO_716004.out).2.2, (zA HO_716004.out).2.1⟩)
    (case z9 => exact ⟨kV (Kd.S_reads' HO_716005.out).2.2, (Kd.S_reads' HO_716005.out).2.1⟩)
    (case z11 => exact ⟨kV (zA HO728.out).2.2, (zA HO728.out).2.1⟩)
    (case z13 => exact ⟨kV (zA HO731.out).2.2, (zA HO731.out).2.1⟩)
    (case z15 => exact ⟨kV (zA HO734.out).2.2, (zA HO734.out).2.1⟩)
    (case z17 => exact ⟨kV (zA HO737.out).2.2, (zA HO737.out).2.1⟩)
    (case z19 => exact ⟨kV (Kd.S_reads' HO740.out).2.2, (Kd.S_reads' HO740.out).2.1⟩)
    rintro e w132 ⟨rfl, hb⟩
    refine ⟨_, rfl, ?_⟩
    replace HO_716001 := yD (zE (kA HO_716001) hb); replace HO_716002 := yD (zE (kA HO_716002) hb); replace HO_716003 := yD (zE (kA HO_716003) hb); replace HO_716004 := yD (zE (kA HO_716004) hb); replace HO_716005 := yD (Kd.S_below (kS HO_716005) hb); replace HO728 := yD (zE (kA HO728) hb); replace HO731 := yD (zE (kA HO731) hb); replace HO734 := yD (zE (kA HO734) hb); replace HO737 := yD (zE (kA HO737) hb); replace HO740 := yD (Kd.S_below (kS HO740) hb); replace BK671 := zY BK671 hb; replace BK715 := zY BK715 hb; replace HB := zX HB hb
    refine hK.out _ _ (ca6_ BK715.out (cz6 BK671.out)) (fun hHeld => ?_)
    clear hK K
    refine nZ 60 ?_
    refine pA 4 61 (bz 5 31) rfl rfl (by kernel_rfl) (fun _ _ _ h => h) (by rfl) (fun _ => by go_simp; with_reducible rfl) (by simp only [Act.put, zH, zI, zJ, i64_w, i32_w]; rfl) ?_
    refine done_ (by kernel_rfl) ?_
    try go_wp2
    go_ret
    exact ⟨kE, kR0 HB⟩
   replace ⟨⟨t742, t743⟩, A60, H⟩ := sV H
   replace ⟨⟨t744, t745, t746, t747, t748⟩, A61, H⟩ := sV H
   have HC62 := yD H
   clear H
   try go_wp2_with (first | ((with_reducible refine gate_callee (f := 39) rfl ?_); refine gL 54 Try.func39 _ ((laws_toInt64S.calls kj15 _ _ l0 t721 _ (cB HR0 HC0 HB) A54.out).mono ?_); rintro e w63 ⟨v722, rfl, ho0, hb⟩; refine ⟨_, rfl, ?_⟩; replace HO_6 := yD (Kd.S_elder' (kS HO_6) (yH ho0) hb); replace HO_10 := yD (Kd.S_elder' (kS HO_10) (yH ho0) hb); replace HO_716005 := yD (Kd.S_elder' (kS HO_716005) (yH ho0) hb); have HO723 := yD (yZ (yJ (yJ (yJ (yJ (yJ ho0 (yK (kA HO_8))) (yK (kA HO_716001))) (yK (kA HO_716002))) (yK (kA HO_716003))) (yK (kA HO_716004))) (below_size (kB HB))); replace HO_8 := yD (Kd.R_elder' (kA HO_8) (yH ho0) hb); replace HO_716001 := yD (Kd.R_elder' (kA HO_716001) (yH ho0) hb); replace HO_716002 := yD (Kd.R_elder' (kA HO_716002) (yH ho0) hb); replace HO_716003 := yD (Kd.R_elder' (kA HO_716003) (yH ho0) hb); replace HO_716004 := yD (Kd.R_elder' (kA HO_716004) (yH ho0) hb); replace BK671 := zY BK671 hb; replace BK715 := zY BK715 hb; replace HB := zX HB hb; clear hb ho0; obtain ⟨Ao64, co64, eo64⟩ := Kd.R_slice HO723.out; subst eo64) | ((with_reducible refine gate_callee (f := 42) rfl ?_); refine gL 55 Try.func42 _ ((laws_eqInt64S.calls kj15 _ _ t696 _ _ t721 true _ ?z1 ?z3 A55.out).mono ?_); (case z1 => exact ⟨kV (zA HO_8.out).2.2, (zA HO_8.out).2.1⟩); (case z3 => exact ⟨kV (zA HO723.out).2.2, (zA HO723.out).2.1⟩); rintro e w' ⟨rfl, ⟨nd, rfl⟩⟩; refine ⟨_, rfl, ?_⟩))
   (try (rw [drewN_self w63]; generalize hq_ : World.drewN w63 _ = w63; replace HO_6 := yD (Kd.S_at hq_ HO_6.out); replace HO_8 := yD (Kd.R_at hq_ HO_8.out); replace HO_10 := yD (Kd.S_at hq_ HO_10.out); replace HO_716001 := yD (Kd.R_at hq_ HO_716001.out); replace HO_716002 := yD (Kd.R_at hq_ HO_716002.out); replace HO_716003 := yD (Kd.R_at hq_ HO_716003.out); replace HO_716004 := yD (Kd.R_at hq_ HO_716004.out); replace HO_716005 := yD (Kd.S_at hq_ HO_716005.out); replace BK671 := yD (blk_at hq_ BK671.out); replace BK715 := yD (blk_at hq_ BK715.out); replace HB := yD (below_at hq_ HB.out); clear hq_))
   replace HO_6 := yD (yU HO_6.out); replace HO_8 := yD (yC HO_8.out); replace HO_10 := yD (yU HO_10.out); replace HO_716001 := yD (yC HO_716001.out); replace HO_716002 := yD (yC HO_716002.out); replace HO_716003 := yD (yC HO_716003.out); replace HO_716004 := yD (yC HO_716004.out); replace HO_716005 := yD (yU HO_716005.out); replace BK671 := yD (yO BK671.out); replace BK715 := yD (yO BK715.out); replace HB := yD (yP HB.out)
   refine start_ (n := 5) (S := fun w' => w'.cell? ⟨gb715, 0, none⟩ = some (.int .i64 t699) ∧ w'.cell? ⟨gb715, 1, none⟩ = some (.slice Ao36 t700.length co36) ∧ w'.cell? ⟨gb715, 2, none⟩ = some (.slice Ao37 t703.length co37) ∧ w'.cell? ⟨gb715, 3, none⟩ = some (.slice Ao38 t706.length co38) ∧ w'.cell? ⟨gb715, 4, none⟩ = some (.slice Ao39 t709.length co39) ∧ w'.cell? ⟨gb715, 5, none⟩ = some (.slice Ao40 t712.length co40) ∧ w'.cell? ⟨gb671, 0, none⟩ = some (.int .i64 a1_0) ∧ w'.cell? ⟨gb671, 1, none⟩ = some (.slice A1_1 l1_1.length c1_1) ∧ w'.cell? ⟨gb671, 2, none⟩ = some (.slice A1_2 l1_2.length c1_2) ∧ w'.cell? ⟨gb671, 3, none⟩ = some (.slice A1_3 l1_3.length c1_3) ∧ w'.cell? ⟨gb671, 4, none⟩ = some (.slice A1_4 l1_4.length c1_4) ∧ w'.cell? ⟨gb671, 5, none⟩ = some (.slice A1_5 l1_5.length c1_5)) (ds := []) (bz 5 0) (by kernel_rfl) rfl rfl (ca6_ BK715.out (cz6 BK671.out)) (fun hHeld => ?_)
   generalize w63.drew = w65 at HO_6 HO_8 HO_10 HO_716001 HO_716002 HO_716003 HO_716004 HO_716005 BK671 BK715 HB hHeld ⊢
   refine pC 0 57 (bz 5 1) rfl rfl (by kernel_rfl) (fun _ _ _ h => h) (by rfl) hHeld (by rintro w' ⟨s0, s1, s2, s3, s4, s5, s6, s7, s8, s9, s10, s11⟩; go_simp; with_reducible rfl) (by simp only [Act.put, zH, zI, zJ, i64_w, i32_w]; rfl) ?_
   refine pC 1 58 (bz 5 3) rfl rfl (by kernel_rfl) (fun _ _ _ h => h) (by rfl) hHeld (by rintro w' ⟨s0, s1, s2, s3, s4, s5, s6, s7, s8, s9, s10, s11⟩; go_simp; with_reducible rfl) (by simp only [Act.put, zH, zI, zJ, i64_w, i32_w]; rfl) ?_
   refine one_ (i := 2) (N := some 59) (bz 5 7) rfl rfl (by kernel_rfl) (by decide) (fun K hK => ?_)
   refine qg Try.func40 _ ((laws_toSelection.calls kj15 a1_0 _ _ l1_1 _ _ l1_2 _ _ l1_3 _ _ l1_4 _ _ l1_5 t725 t726 t729 t732 t735 t738 _ (cB HR1_1 HC1_1 HB) (cB HR1_2 HC1_2 HB) (cB HR1_3 HC1_3 HB) (cB HR1_4 HC1_4 HB) (cB HR1_5 HC1_5 HB) A57.out).mono ?_)
   rintro e w66 ⟨v727, v730, v733, v736, v739, rfl, ho0, ho1, ho2, ho3, ho4, hb⟩
   refine ⟨_, rfl, ?_⟩
   have HO728 := yD (yZ (yJ (yJ (yJ (yJ (yJ ho0 (yK (kA HO_8))) (yK (kA HO_716001))) (yK (kA HO_716002))) (yK (kA HO_716003))) (yK (kA HO_716004))) (below_size (kB HB))); have HO731 := yD (yZ (yJ (yJ (yJ (yJ (yJ ho1 (yK (kA HO_8))) (yK (kA HO_716001))) (yK (kA HO_716002))) (yK (kA HO_716003))) (yK (kA HO_716004))) (below_size (kB HB))); have HO734 := yD (yZ (yJ (yJ (yJ (yJ (yJ ho2 (yK (kA HO_8))) (yK (kA HO_716001))) (yK (kA HO_716002))) (yK (kA HO_716003))) (yK (kA HO_716004))) (below_size (kB HB))); have HO737 := yD (yZ (yJ (yJ (yJ (yJ (yJ ho3 (yK (kA HO_8))) (yK (kA HO_716001))) (yK (kA HO_716002))) (yK (kA HO_716003))) (yK (kA HO_716004))) (below_size (kB HB))); have HO740 := yD (zG (zD (zD (zD (zD (zD (zD (zD (zD ho4 (Kd.S_lt (kS HO_6))) (yK (kA HO_8))) (Kd.S_lt (kS HO_10))) (yK (kA HO_716001))) (yK (kA HO_716002))) (yK (kA HO_716003))) (yK (kA HO_716004))) (Kd.S_lt (kS HO_716005))) (below_size (kB HB))); replace HO_6 := yD (Kd.S_mono (Kd.S_told (Kd.S_told (Kd.S_told (Kd.S_told (Kd.S_told (Kd.S_old (kS HO_6) hb) (yH ho0)) (yH ho1)) (yH ho2)) (yH ho3)) (Kd.S_base ho4)) (fun _ h_ => h_.1)); replace HO_8 := yD (zF (yI (yI (yI (yI (Kd.R_old (kA HO_8) hb) (yH ho0)) (yH ho1)) (yH ho2)) (yH ho3)) (fun _ h_ => h_.1)); replace HO_10 := yD (Kd.S_mono (Kd.S_told (Kd.S_told (Kd.S_told (Kd.S_told (Kd.S_told (Kd.S_old (kS HO_10) hb) (yH ho0)) (yH ho1)) (yH ho2)) (yH ho3)) (Kd.S_base ho4)) (fun _ h_ => h_.1)); replace HO_716001 := yD (zF (yI (yI (yI (yI (Kd.R_old (kA HO_716001) hb) (yH ho0)) (yH ho1)) (yH ho2)) (yH ho3)) (fun _ h_ => h_.1)); replace HO_716002 := yD (zF (yI (yI (yI (yI (Kd.R_old (kA HO_716002) hb) (yH ho0)) (yH ho1)) (yH ho2)) (yH ho3)) (fun _ h_ => h_.1)); replace HO_716003 := yD (zF (yI (yI (yI (yI (Kd.R_old (kA HO_716003) hb) (yH ho0)) (yH ho1)) (yH ho2)) (yH ho3)) (fun _ h_ => h_.1)); replace HO_716004 := yD (zF (yI (yI (yI (yI (Kd.R_old (kA HO_716004) hb) (yH ho0)) (yH ho1)) (yH ho2)) (yH ho3)) (fun _ h_ => h_.1)); replace HO_716005 := yD (Kd.S_mono (Kd.S_told (Kd.S_told (Kd.S_told (Kd.S_told (Kd.S_told (Kd.S_old (kS HO_716005) hb) (yH ho0)) (yH ho1)) (yH ho2)) (yH ho3)) (Kd.S_base ho4)) (fun _ h_ => h_.1)); replace BK671 := zY BK671 hb; replace BK715 := zY BK715 hb; replace HB := zX HB hb
   obtain ⟨Ao67, co67, eo67⟩ := Kd.R_slice HO728.out
   (first | subst eo67 | (injection eo67 with f1_ f2_ f3_; have f4_ := f1_.symm; have f5_ := f3_.symm; clear f1_ f2_ f3_; subst f4_; subst f5_))
   obtain ⟨Ao68, co68, eo68⟩ := Kd.R_slice HO731.out
   (first | subst eo68 | (injection eo68 with f1_ f2_ f3_; have f4_ := f1_.symm; have f5_ := f3_.symm; clear f1_ f2_ f3_; subst f4_; subst f5_))
   obtain ⟨Ao69, co69, eo69⟩ := Kd.R_slice HO734.out
   (first | subst eo69 | (injection eo69 with f1_ f2_ f3_; have f4_ := f1_.symm; have f5_ := f3_.symm; clear f1_ f2_ f3_; subst f4_; subst f5_))
   obtain ⟨Ao70, co70, eo70⟩ := Kd.R_slice HO737.out
   (first | subst eo70 | (injection eo70 with f1_ f2_ f3_; have f4_ := f1_.symm; have f5_ := f3_.symm; clear f1_ f2_ f3_; subst f4_; subst f5_))
   obtain ⟨Ao71, co71, eo71⟩ := Kd.S_slice HO740.out
   (first | subst eo71 | (injection eo71 with f1_ f2_ f3_; have f4_ := f1_.symm; have f5_ := f3_.symm; clear f1_ f2_ f3_; subst f4_; subst f5_))
   refine hK.out _ _ (ca6_ BK715.out (cz6 BK671.out)) (fun hHeld => ?_)
   clear hK K
   refine nZ 59 ?_
   refine one_ (i := 3) (N := some 60) (bz 5 15) rfl rfl (by kernel_rfl) (by decide) (fun K hK => ?_)
   refine qg Try.func43 _ ((laws_eqSelection.calls kj15 t699 _ _ t700 _ _ t703 _ _ t706 _ _ t709 _ _ t712 t725 _ _ t726 _ _ t729 _ _ t732 _ _ t735 _ _ t738 true _ ?z1 ?z3 ?z5 ?z7 ?z9 ?z11 ?z13 ?z15 ?z17 ?z19 A58.out).mono ?_)
   (case z1 => exact ⟨kV (zA HO_716001.out).2.2, (zA HO_716001.out).2.1⟩)
   (case z3 => exact ⟨kV (zA HO_716002.out).2.2, (zA HO_716002.out).2.1⟩)
   (case z5 => exact ⟨kV (zA HO_716003.out).2.2, (zA HO_716003.out).2.1⟩)
   (case z7 => exact ⟨kV (zA HO_716004.out).2.2, (zA HO_716004.out).2.1⟩)
   (case z9 => exact ⟨kV (Kd.S_reads' HO_716005.out).2.2, (Kd.S_reads' HO_716005.out).2.1⟩)
   (case z11 => exact ⟨kV (zA HO728.out).2.2, (zA HO728.out).2.1⟩)
   (case z13 => exact ⟨kV (zA HO731.out).2.2, (zA HO731.out).2.1⟩)
   (case z15 => exact ⟨kV (zA HO734.out).2.2, (zA HO734.out).2.1⟩)
   (case z17 => exact ⟨kV (zA HO737.out).2.2, (zA HO737.out).2.1⟩)
   (case z19 => exact ⟨kV (Kd.S_reads' HO740.out).2.2, (Kd.S_reads' HO740.out).2.1⟩)
   rintro e w72 ⟨rfl, hb⟩
   refine ⟨_, rfl, ?_⟩
   replace HO_6 := yD (Kd.S_below (kS HO_6) hb); replace HO_8 := yD (zE (kA HO_8) hb); replace HO_10 := yD (Kd.S_below (kS HO_10) hb); replace HO_716001 := yD (zE (kA HO_716001) hb); replace HO_716002 := yD (zE (kA HO_716002) hb); replace HO_716003 := yD (zE (kA HO_716003) hb); replace HO_716004 := yD (zE (kA HO_716004) hb); replace HO_716005 := yD (Kd.S_below (kS HO_716005) hb); replace HO728 := yD (zE (kA HO728) hb); replace HO731 := yD (zE (kA HO731) hb); replace HO734 := yD (zE (kA HO734) hb); replace HO737 := yD (zE (kA HO737) hb); replace HO740 := yD (Kd.S_below (kS HO740) hb); replace BK671 := zY BK671 hb; replace BK715 := zY BK715 hb; replace HB := zX HB hb
   refine hK.out _ _ (ca6_ BK715.out (cz6 BK671.out)) (fun hHeld => ?_)
   clear hK K
   refine nZ 60 ?_
   refine pA 4 61 (bz 5 31) rfl rfl (by kernel_rfl) (fun _ _ _ h => h) (by rfl) (fun _ => by go_simp; with_reducible rfl) (by simp only [Act.put, zH, zI, zJ, i64_w, i32_w]; rfl) ?_
   refine done_ (by kernel_rfl) ?_
   go_upto_region 20 with (first | ((with_reducible refine gate_callee (f := 44) rfl ?_); refine gL 64 Try.func44 _ ((laws_markInt64S.calls kj15 (fun k_ => some k_ = (.slice Ao43 t696.length co43 : Value).ownBlock) (.slice Ao43 t696.length co43) t696 1 t742 t743 w _ ?z1 ?z2 A60.out).mono ?_); (case z1 => exact kR0 HB); (case z2 => exact Kd.R_tight rfl HO_8.out); rintro e w73 ⟨rfl, hy0, hb, hkp⟩; refine ⟨_, rfl, ?_⟩; replace HO_6 := yD (Kd.S_mono (ok' := fun k_ => oB (.slice Ao43 t696.length co43) k_ ∧ (oB v717 k_ ∧ k_ < lo717) ∧ oB (.slice Ao36 t700.length co36) k_ ∧ oB (.slice Ao37 t703.length co37) k_ ∧ oB (.slice Ao38 t706.length co38) k_ ∧ oB (.slice Ao39 t709.length co39) k_ ∧ (oB (.slice Ao40 t712.length co40) k_ ∧ k_ < lo713)) (Kd.S_keptB (HO_6.out) hkp (fun k_ hk_ hs_ => (hk_.1.1.1.1.1.1.1) hs_)) (fun k_ hk_ => ⟨hk_.1.1.1.1.1.1.1.1, hk_.1.1.1.1.1.1.1.2.1, hk_.1.1.1.1.1.1.1.2.2.1, hk_.1.1.1.1.1.1.1.2.2.2.1, hk_.1.1.1.1.1.1.1.2.2.2.2.1, hk_.1.1.1.1.1.1.1.2.2.2.2.2.1, hk_.1.1.1.1.1.1.1.2.2.2.2.2.2⟩)); replace HO_10 := yD (Kd.S_mono (ok' := fun k_ => (oB v693 k_ ∧ lo717 ≤ k_) ∧ oB (.slice Ao43 t696.length co43) k_ ∧ oB (.slice Ao36 t700.length co36) k_ ∧ oB (.slice Ao37 t703.length co37) k_ ∧ oB (.slice Ao38 t706.length co38) k_ ∧ oB (.slice Ao39 t709.length co39) k_ ∧ (oB (.slice Ao40 t712.length co40) k_ ∧ lo717 ≤ k_)) (Kd.S_keptB (HO_10.out) hkp (fun k_ hk_ hs_ => (hk_.1.1.1.1.1.1.2.1) hs_)) (fun k_ hk_ => ⟨hk_.1.1.1.1.1.1.1.1, hk_.1.1.1.1.1.1.1.2.1, hk_.1.1.1.1.1.1.1.2.2.1, hk_.1.1.1.1.1.1.1.2.2.2.1, hk_.1.1.1.1.1.1.1.2.2.2.2.1, hk_.1.1.1.1.1.1.1.2.2.2.2.2.1, hk_.1.1.1.1.1.1.1.2.2.2.2.2.2⟩)); replace HO_716001 := yD (zF (ok' := fun k_ => oB (.slice Ao43 t696.length co43) k_ ∧ oB (.slice Ao37 t703.length co37) k_ ∧ oB (.slice Ao38 t706.length co38) k_ ∧ oB (.slice Ao39 t709.length co39) k_) (Kd.R_keptB (HO_716001.out) hkp (fun k_ hk_ hs_ => (hk_.1.1.1.1.1.1) hs_)) (fun k_ hk_ => ⟨hk_.1.1.1.1.1.1.1, hk_.1.1.1.1.1.1.2.1, hk_.1.1.1.1.1.1.2.2.1, hk_.1.1.1.1.1.1.2.2.2⟩)); replace HO_716002 := yD (zF (ok' := fun k_ => oB (.slice Ao43 t696.length co43) k_ ∧ oB (.slice Ao36 t700.length co36) k_ ∧ oB (.slice Ao38 t706.length co38) k_ ∧ oB (.slice Ao39 t709.length co39) k_) (Kd.R_keptB (HO_716002.out) hkp (fun k_ hk_ hs_ => (hk_.1.1.1.1.1.1) hs_)) (fun k_ hk_ => ⟨hk_.1.1.1.1.1.1.1, hk_.1.1.1.1.1.1.2.1, hk_.1.1.1.1.1.1.2.2.1, hk_.1.1.1.1.1.1.2.2.2⟩)); replace HO_716003 := yD (zF (ok' := fun k_ => oB (.slice Ao43 t696.length co43) k_ ∧ oB (.slice Ao36 t700.length co36) k_ ∧ oB (.slice Ao37 t703.length co37) k_ ∧ oB (.slice Ao39 t709.length co39) k_) (Kd.R_keptB (HO_716003.out) hkp (fun k_ hk_ hs_ => (hk_.1.1.1.1.1.1) hs_)) (fun k_ hk_ => ⟨hk_.1.1.1.1.1.1.1, hk_.1.1.1.1.1.1.2.1, hk_.1.1.1.1.1.1.2.2.1, hk_.1.1.1.1.1.1.2.2.2⟩)); replace HO_716004 := yD (zF (ok' := fun k_ => oB (.slice Ao43 t696.length co43) k_ ∧ oB (.slice Ao36 t700.length co36) k_ ∧ oB (.slice Ao37 t703.length co37) k_ ∧ oB (.slice Ao38 t706.length co38) k_) (Kd.R_keptB (HO_716004.out) hkp (fun k_ hk_ hs_ => (hk_.1.1.1.1.1.1) hs_)) (fun k_ hk_ => ⟨hk_.1.1.1.1.1.1.1, hk_.1.1.1.1.1.1.2.1, hk_.1.1.1.1.1.1.2.2.1, hk_.1.1.1.1.1.1.2.2.2⟩)); replace HO_716005 := yD (Kd.S_mono (ok' := fun k_ => (oB v693 k_ ∧ lo713 ≤ k_) ∧ oB (.slice Ao43 t696.length co43) k_ ∧ (oB v717 k_ ∧ k_ < lo717) ∧ oB (.slice Ao36 t700.length co36) k_ ∧ oB (.slice Ao37 t703.length co37) k_ ∧ oB (.slice Ao38 t706.length co38) k_ ∧ oB (.slice Ao39 t709.length co39) k_) (Kd.S_keptB (HO_716005.out) hkp (fun k_ hk_ hs_ => (hk_.1.1.1.1.1.1.2.1) hs_)) (fun k_ hk_ => ⟨hk_.1.1.1.1.1.1.1.1, hk_.1.1.1.1.1.1.1.2.1, hk_.1.1.1.1.1.1.1.2.2.1, hk_.1.1.1.1.1.1.1.2.2.2.1, hk_.1.1.1.1.1.1.1.2.2.2.2.1, hk_.1.1.1.1.1.1.1.2.2.2.2.2.1, hk_.1.1.1.1.1.1.1.2.2.2.2.2.2⟩)); replace BK671 := yD (blk_kept (kM BK671) hkp (fun hs_ => (fun e_ => (Kd.R_ne HO_8.out BK671.out (by decide)) e_) hs_)); replace BK715 := yD (blk_kept (kM BK715) hkp (fun hs_ => (fun e_ => (Kd.R_ne HO_8.out BK715.out (by decide)) e_) hs_)); replace HO_8 := yD (Kd.R_reok rfl hy0 (fun k_ e_ => HO_8.out.1 k_ e_)); replace HB := yD (hb); clear hb hkp hy0; have hnb74 := NB715_671.out; have hnc74 := NB671_715.out; have := cf6_ BK715.out) | ((with_reducible refine gate_callee (f := 45) rfl ?_); refine gL 67 Try.func45 #[.agg #[.int .i64 t699, .slice Ao36 t700.length co36, .slice Ao37 t703.length co37, .slice Ao38 t706.length co38, .slice Ao39 t709.length co39, .slice Ao40 t712.length co40], .int .i64 t742] ?_; (refine (laws_markSelection.calls kj15 t699 (fun k_ => some k_ = (.slice Ao36 t700.length co36 : Value).ownBlock) (.slice Ao36 t700.length co36) t700 (fun k_ => some k_ = (.slice Ao37 t703.length co37 : Value).ownBlock) (.slice Ao37 t703.length co37) t703 (fun k_ => some k_ = (.slice Ao38 t706.length co38 : Value).ownBlock) (.slice Ao38 t706.length co38) t706 (fun k_ => some k_ = (.slice Ao39 t709.length co39 : Value).ownBlock) (.slice Ao39 t709.length co39) t709 ?P5 _ _ t712 t742 t744 t745 t746 t747 t748 w _ ?z1 ?z2 ?z3 ?z4 ?z5 ?z6 ?z7 ?z8 ?z9 ?z10 ?z11 ?z12 ?z13 ?z14 ?z15 ?z16 ?z17 ?z18 ?z19 ?z20 A61.out).mono ?_); (case z1 => exact kR0 HB); (case z2 => exact Kd.R_tight rfl HO_716001.out); (case z3 => exact fun k_ e_ => (HO_716001.out.1 k_ e_.symm).2.1); (case z4 => exact fun k_ e_ => (HO_716001.out.1 k_ e_.symm).2.2.1); (case z5 => exact fun k_ e_ => (HO_716001.out.1 k_ e_.symm).2.2.2); (case z6 => exact Kd.R_tight rfl HO_716002.out); (case z7 => exact fun k_ e_ => (HO_716002.out.1 k_ e_.symm).2.1); (case z8 => exact fun k_ e_ => (HO_716002.out.1 k_ e_.symm).2.2.1); (case z9 => exact fun k_ e_ => (HO_716002.out.1 k_ e_.symm).2.2.2); (case z10 => exact Kd.R_tight rfl HO_716003.out); (case z11 => exact fun k_ e_ => (HO_716003.out.1 k_ e_.symm).2.1); (case z12 => exact fun k_ e_ => (HO_716003.out.1 k_ e_.symm).2.2.1); (case z13 => exact fun k_ e_ => (HO_716003.out.1 k_ e_.symm).2.2.2); (case z14 => exact Kd.R_tight rfl HO_716004.out); (case z15 => exact fun k_ e_ => (HO_716004.out.1 k_ e_.symm).2.1); (case z16 => exact fun k_ e_ => (HO_716004.out.1 k_ e_.symm).2.2.1); (case z17 => exact fun k_ e_ => (HO_716004.out.1 k_ e_.symm).2.2.2); (case z18 => intro W_ hK_; exact S_keptP HO_716005.out hK_ (fun k_ hk_ hs_ => Or.elim hs_ (fun e_ => (hk_.2.2.2.1) e_) (fun e_ => Or.elim e_ (fun e_ => (hk_.2.2.2.2.1) e_) (fun e_ => Or.elim e_ (fun e_ => (hk_.2.2.2.2.2.1) e_) (fun e_ => (hk_.2.2.2.2.2.2) e_))))); (case z19 => exact (Kd.S_reads' HO_716005.out).2.1); (case z20 => exact fun k_ h5_ => ⟨h5_.2.2.1, fun hs_ => by have hk_ := h5_.1; exact Or.elim hs_ (fun e_ => (hk_.2.2.2.1) e_) (fun e_ => Or.elim e_ (fun e_ => (hk_.2.2.2.2.1) e_) (fun e_ => Or.elim e_ (fun e_ => (hk_.2.2.2.2.2.1) e_) (fun e_ => (hk_.2.2.2.2.2.2) e_)))⟩); rintro e w76 ⟨rfl, hy0, hy1, hy2, hy3, hy4, hb, hkp⟩; refine ⟨_, rfl, ?_⟩; replace HO_6 := yD (Kd.S_mono (ok' := fun k_ => (oB v717 k_ ∧ k_ < lo717) ∧ oB (.slice Ao36 t700.length co36) k_ ∧ oB (.slice Ao37 t703.length co37) k_ ∧ oB (.slice Ao38 t706.length co38) k_ ∧ oB (.slice Ao39 t709.length co39) k_ ∧ (oB (.slice Ao40 t712.length co40) k_ ∧ k_ < lo713)) (Kd.S_keptB (HO_6.out) hkp (fun k_ hk_ hs_ => Or.elim hs_ (fun e_ => (hk_.2.2.1) e_) (fun e_ => Or.elim e_ (fun e_ => (hk_.2.2.2.1) e_) (fun e_ => Or.elim e_ (fun e_ => (hk_.2.2.2.2.1) e_) (fun e_ => Or.elim e_ (fun e_ => (hk_.2.2.2.2.2.1) e_) (fun h5_ => by have h1_ := (hk_.2.2.2.2.2.2).2; have h2_ := (h5_.1.1).2; omega)))))) (fun k_ hk_ => ⟨hk_.1.2.1, hk_.1.2.2.1, hk_.1.2.2.2.1, hk_.1.2.2.2.2.1, hk_.1.2.2.2.2.2.1, hk_.1.2.2.2.2.2.2⟩)); replace HO_10 := yD (Kd.S_mono (ok' := fun k_ => (oB v693 k_ ∧ lo717 ≤ k_) ∧ oB (.slice Ao36 t700.length co36) k_ ∧ oB (.slice Ao37 t703.length co37) k_ ∧ oB (.slice Ao38 t706.length co38) k_ ∧ oB (.slice Ao39 t709.length co39) k_ ∧ (oB (.slice Ao40 t712.length co40) k_ ∧ lo717 ≤ k_)) (Kd.S_keptB (HO_10.out) hkp (fun k_ hk_ hs_ => Or.elim hs_ (fun e_ => (hk_.2.2.1) e_) (fun e_ => Or.elim e_ (fun e_ => (hk_.2.2.2.1) e_) (fun e_ => Or.elim e_ (fun e_ => (hk_.2.2.2.2.1) e_) (fun e_ => Or.elim e_ (fun e_ => (hk_.2.2.2.2.2.1) e_) (fun h5_ => by have h1_ := (hk_.2.2.2.2.2.2).2; have h2_ := (h5_.1.2.2.1).2; omega)))))) (fun k_ hk_ => ⟨hk_.1.1, hk_.1.2.2.1, hk_.1.2.2.2.1, hk_.1.2.2.2.2.1, hk_.1.2.2.2.2.2.1, hk_.1.2.2.2.2.2.2⟩)); replace HO_716005 := yD (Kd.S_mono (ok' := fun k_ => (oB v693 k_ ∧ lo713 ≤ k_) ∧ (oB v717 k_ ∧ k_ < lo717) ∧ oB (.slice Ao36 t700.length co36) k_ ∧ oB (.slice Ao37 t703.length co37) k_ ∧ oB (.slice Ao38 t706.length co38) k_ ∧ oB (.slice Ao39 t709.length co39) k_) hy4 (fun k_ hk_ => ⟨hk_.1.1, hk_.1.2.2.1, hk_.1.2.2.2.1, hk_.1.2.2.2.2.1, hk_.1.2.2.2.2.2.1, hk_.1.2.2.2.2.2.2⟩)); replace BK671 := yD (blk_kept (kM BK671) hkp (fun hs_ => Or.elim hs_ (fun e_ => (fun e_ => (Kd.R_ne HO_716001.out BK671.out (by decide)) e_) e_) (fun e_ => Or.elim e_ (fun e_ => (fun e_ => (Kd.R_ne HO_716002.out BK671.out (by decide)) e_) e_) (fun e_ => Or.elim e_ (fun e_ => (fun e_ => (Kd.R_ne HO_716003.out BK671.out (by decide)) e_) e_) (fun e_ => Or.elim e_ (fun e_ => (fun e_ => (Kd.R_ne HO_716004.out BK671.out (by decide)) e_) e_) (fun h5_ => P5_ne h5_.2.2.2 BK671.out (by decide))))))); replace BK715 := yD (blk_kept (kM BK715) hkp (fun hs_ => Or.elim hs_ (fun e_ => (fun e_ => (Kd.R_ne HO_716001.out BK715.out (by decide)) e_) e_) (fun e_ => Or.elim e_ (fun e_ => (fun e_ => (Kd.R_ne HO_716002.out BK715.out (by decide)) e_) e_) (fun e_ => Or.elim e_ (fun e_ => (fun e_ => (Kd.R_ne HO_716003.out BK715.out (by decide)) e_) e_) (fun e_ => Or.elim e_ (fun e_ => (fun e_ => (Kd.R_ne HO_716004.out BK715.out (by decide)) e_) e_) (fun h5_ => P5_ne h5_.2.2.2 BK715.out (by decide))))))); replace HO_716001 := yD (Kd.R_reok rfl hy0 (fun k_ e_ => HO_716001.out.1 k_ e_)); replace HO_716002 := yD (Kd.R_reok rfl hy1 (fun k_ e_ => HO_716002.out.1 k_ e_)); replace HO_716003 := yD (Kd.R_reok rfl hy2 (fun k_ e_ => HO_716003.out.1 k_ e_)); replace HO_716004 := yD (Kd.R_reok rfl hy3 (fun k_ e_ => HO_716004.out.1 k_ e_)); replace HB := yD (hb); clear hb hkp hy0 hy1 hy2 hy3 hy4))
   (try simp only [Act.put, zH, zI, zJ])
   go_cut [80] (fun v80 wc => ∃ (kq : Nat) (x80_61 : Bool), v80 = .bool x80_61 ∧ Aside0 (laws_FnExactBoxesOf.j1 kq l0 t692 t695 t716 x80_61 a1_0 l1_1 l1_2 l1_3 l1_4 l1_5 = some r) ∧ Aside0 (kq ≤ kj15) ∧ Aside0 (Kd.S k42 42 wc w.heap.size (fun k_ => (oB v717 k_ ∧ k_ < lo717) ∧ oB (.slice Ao36 t700.length co36) k_ ∧ oB (.slice Ao37 t703.length co37) k_ ∧ oB (.slice Ao38 t706.length co38) k_ ∧ oB (.slice Ao39 t709.length co39) k_ ∧ (oB (.slice Ao40 t712.length co40) k_ ∧ k_ < lo713)) v693 t692) ∧ Aside0 (Kd.S k42 42 wc w.heap.size (fun k_ => (oB v693 k_ ∧ lo717 ≤ k_) ∧ oB (.slice Ao36 t700.length co36) k_ ∧ oB (.slice Ao37 t703.length co37) k_ ∧ oB (.slice Ao38 t706.length co38) k_ ∧ oB (.slice Ao39 t709.length co39) k_ ∧ (oB (.slice Ao40 t712.length co40) k_ ∧ lo717 ≤ k_)) v717 t716) ∧ Aside0 (Kd.R (Kd.int .i64) 2 wc w.heap.size (fun k_ => oB (.slice Ao37 t703.length co37) k_ ∧ oB (.slice Ao38 t706.length co38) k_ ∧ oB (.slice Ao39 t709.length co39) k_) (.slice Ao36 t700.length co36) t745) ∧ Aside0 (Kd.R (Kd.int .i64) 2 wc w.heap.size (fun k_ => oB (.slice Ao36 t700.length co36) k_ ∧ oB (.slice Ao38 t706.length co38) k_ ∧ oB (.slice Ao39 t709.length co39) k_) (.slice Ao37 t703.length co37) t746) ∧ Aside0 (Kd.R (Kd.int .i64) 2 wc w.heap.size (fun k_ => oB (.slice Ao36 t700.length co36) k_ ∧ oB (.slice Ao37 t703.length co37) k_ ∧ oB (.slice Ao39 t709.length co39) k_) (.slice Ao38 t706.length co38) t747) ∧ Aside0 (Kd.R (Kd.int .i64) 2 wc w.heap.size (fun k_ => oB (.slice Ao36 t700.length co36) k_ ∧ oB (.slice Ao37 t703.length co37) k_ ∧ oB (.slice Ao38 t706.length co38) k_) (.slice Ao39 t709.length co39) t748) ∧ Aside0 (Kd.S kO 110 wc w.heap.size (fun k_ => (oB v693 k_ ∧ lo713 ≤ k_) ∧ (oB v717 k_ ∧ k_ < lo717) ∧ oB (.slice Ao36 t700.length co36) k_ ∧ oB (.slice Ao37 t703.length co37) k_ ∧ oB (.slice Ao38 t706.length co38) k_ ∧ oB (.slice Ao39 t709.length co39) k_) (.slice Ao40 t712.length co40) t712) ∧ Aside0 (wc.heap[gb671]? = some (.cells #[.int .i64 a1_0, (.slice A1_1 l1_1.length c1_1), (.slice A1_2 l1_2.length c1_2), (.slice A1_3 l1_3.length c1_3), (.slice A1_4 l1_4.length c1_4), (.slice A1_5 l1_5.length c1_5)] 49 (0, 0))) ∧ Aside0 (wc.heap[gb715]? = some (.cells #[.int .i64 t699, (.slice Ao36 t700.length co36), (.slice Ao37 t703.length co37), (.slice Ao38 t706.length co38), (.slice Ao39 t709.length co39), (.slice Ao40 t712.length co40)] 55 (0, 0))) ∧ Aside0 (Below w.heap.size w wc))
   case first =>
    have H := HC62.out; clear HC62
    replace H := sF H; rcases H with ⟨c77b0, H⟩ | ⟨c77b0, H⟩
    ·
     (first | rw [c77b0] | (simp only [i64_w, i32_w]; rw [c77b0]) | (simp only [bne] at c77b0; rw [c77b0]) | skip)
     have H' := yD H
     clear H
     go_wp2
     go_meet
     case rel => exact ⟨_, (true), kF, H', ⟨by have := HJ15.out; first | omega | exact Nat.le_refl _⟩, ⟨kS HO_6⟩, ⟨kS HO_10⟩, ⟨mR HO_716001 (fun _ hk => ⟨hk.2.1, ⟨hk.2.2.1, hk.2.2.2⟩⟩)⟩, ⟨mR HO_716002 (fun _ hk => ⟨hk.2.1, ⟨hk.2.2.1, hk.2.2.2⟩⟩)⟩, ⟨mR HO_716003 (fun _ hk => ⟨hk.2.1, ⟨hk.2.2.1, hk.2.2.2⟩⟩)⟩, ⟨mR HO_716004 (fun _ hk => ⟨hk.2.1, ⟨hk.2.2.1, hk.2.2.2⟩⟩)⟩, ⟨kS HO_716005⟩, ⟨kM BK671⟩, ⟨kM BK715⟩, ⟨kR0 HB⟩⟩
    (first | rw [c77b0] | (simp only [i64_w, i32_w]; rw [c77b0]) | (simp only [bne] at c77b0; rw [c77b0]) | skip)
    replace ⟨t749, A78, H⟩ := sV H
    replace H := sS H; rcases H with ⟨rfl, H⟩ | ⟨rfl, H⟩
    ·
     have H' := yD H
     clear H
     obtain ⟨Ao83, co83, eo83⟩ := Kd.S_slice HO_10.out
     subst eo83
     obtain ⟨Ao84, co84, eo84⟩ := Kd.S_slice HO_6.out
     subst eo84
     go_wp2_with (first | (go_at_call 17; (with_reducible refine (laws_eqBoxS.calls kj15 _ _ t716 _ _ t692 false _ ?z1 ?z3 A78.out).mono ?_); (case z1 => exact ⟨kV (Kd.S_reads' HO_10.out).2.2, (Kd.S_reads' HO_10.out).2.1⟩); (case z3 => exact ⟨kV (Kd.S_reads' HO_6.out).2.2, (Kd.S_reads' HO_6.out).2.1⟩); rintro e w85 ⟨rfl, hb⟩; replace HO_6 := yD (Kd.S_below (kS HO_6) hb); replace HO_10 := yD (Kd.S_below (kS HO_10) hb); replace HO_716001 := yD (zE (kA HO_716001) hb); replace HO_716002 := yD (zE (kA HO_716002) hb); replace HO_716003 := yD (zE (kA HO_716003) hb); replace HO_716004 := yD (zE (kA HO_716004) hb); replace HO_716005 := yD (Kd.S_below (kS HO_716005) hb); replace BK671 := zY BK671 hb; replace BK715 := zY BK715 hb; replace HB := zX HB hb; clear hb))
     go_meet
     case rel => exact ⟨_, (true), kF, H', ⟨by have := HJ15.out; first | omega | exact Nat.le_refl _⟩, ⟨kS HO_6⟩, ⟨kS HO_10⟩, ⟨mR HO_716001 (fun _ hk => ⟨hk.2.1, ⟨hk.2.2.1, hk.2.2.2⟩⟩)⟩, ⟨mR HO_716002 (fun _ hk => ⟨hk.2.1, ⟨hk.2.2.1, hk.2.2.2⟩⟩)⟩, ⟨mR HO_716003 (fun _ hk => ⟨hk.2.1, ⟨hk.2.2.1, hk.2.2.2⟩⟩)⟩, ⟨mR HO_716004 (fun _ hk => ⟨hk.2.1, ⟨hk.2.2.1, hk.2.2.2⟩⟩)⟩, ⟨kS HO_716005⟩, ⟨kM BK671⟩, ⟨kM BK715⟩, ⟨kR0 HB⟩⟩
    have H' := yD H
    clear H
    obtain ⟨Ao80, co80, eo80⟩ := Kd.S_slice HO_10.out
    subst eo80
    obtain ⟨Ao81, co81, eo81⟩ := Kd.S_slice HO_6.out
    subst eo81
    go_wp2_with (first | (go_at_call 17; (with_reducible refine (laws_eqBoxS.calls kj15 _ _ t716 _ _ t692 true _ ?z1 ?z3 A78.out).mono ?_); (case z1 => exact ⟨kV (Kd.S_reads' HO_10.out).2.2, (Kd.S_reads' HO_10.out).2.1⟩); (case z3 => exact ⟨kV (Kd.S_reads' HO_6.out).2.2, (Kd.S_reads' HO_6.out).2.1⟩); rintro e w82 ⟨rfl, hb⟩; replace HO_6 := yD (Kd.S_below (kS HO_6) hb); replace HO_10 := yD (Kd.S_below (kS HO_10) hb); replace HO_716001 := yD (zE (kA HO_716001) hb); replace HO_716002 := yD (zE (kA HO_716002) hb); replace HO_716003 := yD (zE (kA HO_716003) hb); replace HO_716004 := yD (zE (kA HO_716004) hb); replace HO_716005 := yD (Kd.S_below (kS HO_716005) hb); replace BK671 := zY BK671 hb; replace BK715 := zY BK715 hb; replace HB := zX HB hb; clear hb))
    go_meet
    case rel => exact ⟨_, ((t719 != t695)), kF, H', ⟨by have := HJ15.out; first | omega | exact Nat.le_refl _⟩, ⟨kS HO_6⟩, ⟨kS HO_10⟩, ⟨mR HO_716001 (fun _ hk => ⟨hk.2.1, ⟨hk.2.2.1, hk.2.2.2⟩⟩)⟩, ⟨mR HO_716002 (fun _ hk => ⟨hk.2.1, ⟨hk.2.2.1, hk.2.2.2⟩⟩)⟩, ⟨mR HO_716003 (fun _ hk => ⟨hk.2.1, ⟨hk.2.2.1, hk.2.2.2⟩⟩)⟩, ⟨mR HO_716004 (fun _ hk => ⟨hk.2.1, ⟨hk.2.2.1, hk.2.2.2⟩⟩)⟩, ⟨kS HO_716005⟩, ⟨kM BK671⟩, ⟨kM BK715⟩, ⟨kR0 HB⟩⟩
   case rest =>
    clear HC62; try clear HO_6; try clear HO_10; try clear HO_716001; try clear HO_716002; try clear HO_716003; try clear HO_716004; try clear HO_716005; try clear BK671; try clear BK715; try clear HB
    obtain ⟨kq, x80_61, rfl, HA, HJ61, HO_6, HO_10, HO_716001, HO_716002, HO_716003, HO_716004, HO_716005, BK671, BK715, HB⟩ := hcut
    have hl716001_61 := (zA HO_716001.out).1
    rw [hl716001_61] at HO_716001
    (try simp only [hl716001_61])
    (try simp only [hl716001_61] at BK671)
    (try simp only [hl716001_61] at BK715)
    (try simp only [hl716001_61] at HO_6)
    (try simp only [hl716001_61] at HO_10)
    (try simp only [hl716001_61] at HO_716002)
    (try simp only [hl716001_61] at HO_716003)
    (try simp only [hl716001_61] at HO_716004)
    (try simp only [hl716001_61] at HO_716005)
    have hl716002_61 := (zA HO_716002.out).1
    rw [hl716002_61] at HO_716002
    (try simp only [hl716002_61])
    (try simp only [hl716002_61] at BK671)
    (try simp only [hl716002_61] at BK715)
    (try simp only [hl716002_61] at HO_6)
    (try simp only [hl716002_61] at HO_10)
    (try simp only [hl716002_61] at HO_716001)
    (try simp only [hl716002_61] at HO_716003)
    (try simp only [hl716002_61] at HO_716004)
    (try simp only [hl716002_61] at HO_716005)
    have hl716003_61 := (zA HO_716003.out).1
    rw [hl716003_61] at HO_716003
    (try simp only [hl716003_61])
    (try simp only [hl716003_61] at BK671)
    (try simp only [hl716003_61] at BK715)
    (try simp only [hl716003_61] at HO_6)
    (try simp only [hl716003_61] at HO_10)
    (try simp only [hl716003_61] at HO_716001)
    (try simp only [hl716003_61] at HO_716002)
    (try simp only [hl716003_61] at HO_716004)
    (try simp only [hl716003_61] at HO_716005)
    have hl716004_61 := (zA HO_716004.out).1
    rw [hl716004_61] at HO_716004
    (try simp only [hl716004_61])
    (try simp only [hl716004_61] at BK671)
    (try simp only [hl716004_61] at BK715)
    (try simp only [hl716004_61] at HO_6)
    (try simp only [hl716004_61] at HO_10)
    (try simp only [hl716004_61] at HO_716001)
    (try simp only [hl716004_61] at HO_716002)
    (try simp only [hl716004_61] at HO_716003)
    (try simp only [hl716004_61] at HO_716005)
    cases kq with
    | zero => exact absurd HA.out (by simp [laws_FnExactBoxesOf.j1])
    | succ kj61 =>
     have H := HA.out; clear HA
     simp only [laws_FnExactBoxesOf.j1] at H
     replace H := sT H; rcases H with ⟨rfl, H⟩ | ⟨rfl, H⟩
     · obtain rfl := sJ H
       go_wp2
       go_ret
       exact ⟨kE, kR0 HB⟩
     replace ⟨⟨t750, t751⟩, A87, H⟩ := sV H
     replace ⟨t752, A88, H⟩ := sV H
     replace H := sB H; rcases H with ⟨c89, H⟩ | ⟨c89, H⟩
     ·
      have c89b0 : decide (t752 < 0) = true := zR c89
      (try (have c89b0h := c89b0; simp only [hl716001_61, hl716002_61, hl716003_61, hl716004_61] at c89b0h))
      clear c89; obtain rfl := sJ H
      obtain ⟨Ao90, co90, eo90⟩ := Kd.S_slice HO_10.out
      subst eo90
      go_wp2_with (first | ((with_reducible refine gate_callee (f := 18) rfl ?_); refine gL 83 Try.func18 _ ((laws_markBoxS.calls kj61 ?P5_2 (.slice Ao90 t716.length co90) t716 1 t750 t751 w _ ?z1 ?z2 A87.out).mono ?_); (case z1 => exact kR0 HB); (case z2 => exact Kd.S_bound HO_10.out); rintro e w91 ⟨rfl, hy0, hb, hkp⟩; refine ⟨_, rfl, ?_⟩; replace BK671 := yD (blk_kept (kM BK671) hkp (fun hs_ => P5_ne hs_.2.2.2 BK671.out (by decide))); replace BK715 := yD (blk_kept (kM BK715) hkp (fun hs_ => P5_ne hs_.2.2.2 BK715.out (by decide))); replace HO_10 := yD (Kd.S_mono hy0 (fun k_ h_ => h_.1)); replace HB := yD (hb); clear hb hkp hy0) | ((with_reducible refine gate_callee (f := 19) rfl ?_); refine goesL_ (some 86) rfl rfl Try.func19 (by kernel_rfl) rfl #[.slice Ao90 t751.length co90, .int .i64 1] rfl (by (try simp only [zK, zL, zM]); first | done | (rw [show t751.length = t716.length from (Kd.S_reads' HO_10.out).1.symm] <;> rfl) | rfl | (simp only [zN, zO]; rfl)) ?_; (with_reducible refine (laws_heldBoxS.calls kj61 _ _ t751 1 t752 _ ?z1 A88.out).mono ?_); (case z1 => exact ⟨kV (Kd.S_reads' HO_10.out).2.2, by rw [show t751.length = t716.length from (Kd.S_reads' HO_10.out).1.symm]; exact (Kd.S_reads' HO_10.out).2.1⟩); rintro e w' ⟨rfl, ⟨nd, rfl⟩⟩; refine ⟨_, rfl, ?_⟩))
      go_ret
      exact ⟨kE, kR0 HB⟩
     have c89b0 : decide (t752 < 0) = false := zS c89
     (try (have c89b0h := c89b0; simp only [hl716001_61, hl716002_61, hl716003_61, hl716004_61] at c89b0h))
     clear c89
     replace H := sC H; rcases H with ⟨c92, H⟩ | ⟨c92, H⟩
     ·
      have c92b0 : (t752 == t750) = false := beq_eq_false_iff_ne.mpr c92
      (try (have c92b0h := c92b0; simp only [hl716001_61, hl716002_61, hl716003_61, hl716004_61] at c92b0h))
      have c92b1 : (t752 != t750) = true := bne_iff_ne.mpr c92
      (try (have c92b1h := c92b1; simp only [hl716001_61, hl716002_61, hl716003_61, hl716004_61] at c92b1h))
      obtain rfl := sJ H
      obtain ⟨Ao121, co121, eo121⟩ := Kd.S_slice HO_10.out
      subst eo121
      go_wp2_with (first | ((with_reducible refine gate_callee (f := 18) rfl ?_); refine gL 83 Try.func18 _ ((laws_markBoxS.calls kj61 ?P5_4 (.slice Ao121 t716.length co121) t716 1 t750 t751 w _ ?z1 ?z2 A87.out).mono ?_); (case z1 => exact kR0 HB); (case z2 => exact Kd.S_bound HO_10.out); rintro e w122 ⟨rfl, hy0, hb, hkp⟩; refine ⟨_, rfl, ?_⟩; replace BK671 := yD (blk_kept (kM BK671) hkp (fun hs_ => P5_ne hs_.2.2.2 BK671.out (by decide))); replace BK715 := yD (blk_kept (kM BK715) hkp (fun hs_ => P5_ne hs_.2.2.2 BK715.out (by decide))); replace HO_10 := yD (Kd.S_mono hy0 (fun k_ h_ => h_.1)); replace HB := yD (hb); clear hb hkp hy0) | ((with_reducible refine gate_callee (f := 19) rfl ?_); refine goesL_ (some 86) rfl rfl Try.func19 (by kernel_rfl) rfl #[.slice Ao121 t751.length co121, .int .i64 1] rfl (by (try simp only [zK, zL, zM]); first | done | (rw [show t751.length = t716.length from (Kd.S_reads' HO_10.out).1.symm] <;> rfl) | rfl | (simp only [zN, zO]; rfl)) ?_; (with_reducible refine (laws_heldBoxS.calls kj61 _ _ t751 1 t752 _ ?z1 A88.out).mono ?_); (case z1 => exact ⟨kV (Kd.S_reads' HO_10.out).2.2, by rw [show t751.length = t716.length from (Kd.S_reads' HO_10.out).1.symm]; exact (Kd.S_reads' HO_10.out).2.1⟩); rintro e w' ⟨rfl, ⟨nd, rfl⟩⟩; refine ⟨_, rfl, ?_⟩))
      go_ret
      exact ⟨kE, kR0 HB⟩
     have c92b0 : (t752 == t750) = true := beq_iff_eq.mpr c92
     (try (have c92b0h := c92b0; simp only [hl716001_61, hl716002_61, hl716003_61, hl716004_61] at c92b0h))
     have c92b1 : (t752 != t750) = false := bne_eq_false_iff_eq.mpr c92
     (try (have c92b1h := c92b1; simp only [hl716001_61, hl716002_61, hl716003_61, hl716004_61] at c92b1h))
     clear c92
     replace ⟨t753, A93, H⟩ := sV H
     replace ⟨⟨t756, t757, t760, t763, t766, t769⟩, A94, H⟩ := sV H
     replace ⟨⟨t772, t775⟩, A95, H⟩ := sV H
     have HC96 := yD H
     clear H
     obtain ⟨Ao97, co97, eo97⟩ := Kd.S_slice HO_10.out
     subst eo97
     try go_wp2_with (first | ((with_reducible refine gate_callee (f := 18) rfl ?_); refine gL 83 Try.func18 _ ((laws_markBoxS.calls kj61 ?P5_3 (.slice Ao97 t716.length co97) t716 1 t750 t751 w _ ?z1 ?z2 A87.out).mono ?_); (case z1 => exact kR0 HB); (case z2 => exact Kd.S_bound HO_10.out); rintro e w98 ⟨rfl, hy0, hb, hkp⟩; refine ⟨_, rfl, ?_⟩; replace HO_6 := yD (Kd.S_mono (ok' := fun k_ => (oB (.slice Ao97 t716.length co97) k_ ∧ k_ < lo717) ∧ oB (.slice Ao36 t745.length co36) k_ ∧ oB (.slice Ao37 t746.length co37) k_ ∧ oB (.slice Ao38 t747.length co38) k_ ∧ oB (.slice Ao39 t748.length co39) k_ ∧ (oB (.slice Ao40 t712.length co40) k_ ∧ k_ < lo713)) (Kd.S_keptB (HO_6.out) hkp (fun k_ hk_ hs_ => (fun hq_ => by have h1_ := (hk_.1).2; have h2_ := (hq_.1).2; omega) hs_.1)) (fun k_ hk_ => ⟨hk_.1.1, hk_.1.2.1, hk_.1.2.2.1, hk_.1.2.2.2.1, hk_.1.2.2.2.2.1, hk_.1.2.2.2.2.2⟩)); replace HO_716001 := yD (zF (ok' := fun k_ => oB (.slice Ao37 t746.length co37) k_ ∧ oB (.slice Ao38 t747.length co38) k_ ∧ oB (.slice Ao39 t748.length co39) k_) (Kd.R_keptB ((Kd.R_tight2 rfl HO_716001.out)) hkp (fun k_ hk_ hs_ => (fun hq_ => (hq_.2.1) hk_.1) hs_.1)) (fun k_ hk_ => ⟨hk_.1.2.1, hk_.1.2.2.1, hk_.1.2.2.2⟩)); replace HO_716002 := yD (zF (ok' := fun k_ => oB (.slice Ao36 t745.length co36) k_ ∧ oB (.slice Ao38 t747.length co38) k_ ∧ oB (.slice Ao39 t748.length co39) k_) (Kd.R_keptB ((Kd.R_tight2 rfl HO_716002.out)) hkp (fun k_ hk_ hs_ => (fun hq_ => (hq_.2.2.1) hk_.1) hs_.1)) (fun k_ hk_ => ⟨hk_.1.2.1, hk_.1.2.2.1, hk_.1.2.2.2⟩)); replace HO_716003 := yD (zF (ok' := fun k_ => oB (.slice Ao36 t745.length co36) k_ ∧ oB (.slice Ao37 t746.length co37) k_ ∧ oB (.slice Ao39 t748.length co39) k_) (Kd.R_keptB ((Kd.R_tight2 rfl HO_716003.out)) hkp (fun k_ hk_ hs_ => (fun hq_ => (hq_.2.2.2.1) hk_.1) hs_.1)) (fun k_ hk_ => ⟨hk_.1.2.1, hk_.1.2.2.1, hk_.1.2.2.2⟩)); replace HO_716004 := yD (zF (ok' := fun k_ => oB (.slice Ao36 t745.length co36) k_ ∧ oB (.slice Ao37 t746.length co37) k_ ∧ oB (.slice Ao38 t747.length co38) k_) (Kd.R_keptB ((Kd.R_tight2 rfl HO_716004.out)) hkp (fun k_ hk_ hs_ => (fun hq_ => (hq_.2.2.2.2.1) hk_.1) hs_.1)) (fun k_ hk_ => ⟨hk_.1.2.1, hk_.1.2.2.1, hk_.1.2.2.2⟩)); replace HO_716005 := yD (Kd.S_mono (ok' := fun k_ => (oB v693 k_ ∧ lo713 ≤ k_) ∧ (oB (.slice Ao97 t716.length co97) k_ ∧ k_ < lo717) ∧ oB (.slice Ao36 t745.length co36) k_ ∧ oB (.slice Ao37 t746.length co37) k_ ∧ oB (.slice Ao38 t747.length co38) k_ ∧ oB (.slice Ao39 t748.length co39) k_) (Kd.S_keptB (HO_716005.out) hkp (fun k_ hk_ hs_ => (fun hq_ => by have h1_ := (hk_.2.1).2; have h2_ := (hq_.2.2.2.2.2).2; omega) hs_.1)) (fun k_ hk_ => ⟨hk_.1.1, hk_.1.2.1, hk_.1.2.2.1, hk_.1.2.2.2.1, hk_.1.2.2.2.2.1, hk_.1.2.2.2.2.2⟩)); replace BK671 := yD (blk_kept (kM BK671) hkp (fun hs_ => P5_ne hs_.2.2.2 BK671.out (by decide))); replace BK715 := yD (blk_kept (kM BK715) hkp (fun hs_ => P5_ne hs_.2.2.2 BK715.out (by decide))); replace HO_10 := yD (Kd.S_mono hy0 (fun k_ h_ => h_.1)); replace HB := yD (hb); clear hb hkp hy0) | ((with_reducible refine gate_callee (f := 19) rfl ?_); refine goesL_ (some 86) rfl rfl Try.func19 (by kernel_rfl) rfl #[.slice Ao97 t751.length co97, .int .i64 1] rfl (by (try simp only [zK, zL, zM]); first | done | (rw [show t751.length = t716.length from (Kd.S_reads' HO_10.out).1.symm] <;> rfl) | rfl | (simp only [zN, zO]; rfl)) ?_; (with_reducible refine (laws_heldBoxS.calls kj61 _ _ t751 1 t752 _ ?z1 A88.out).mono ?_); (case z1 => exact ⟨kV (Kd.S_reads' HO_10.out).2.2, by rw [show t751.length = t716.length from (Kd.S_reads' HO_10.out).1.symm]; exact (Kd.S_reads' HO_10.out).2.1⟩); rintro e w' ⟨rfl, ⟨nd, rfl⟩⟩; refine ⟨_, rfl, ?_⟩))
     (try (rw [drewN_self w98]; generalize hq_ : World.drewN w98 _ = w98; replace HO_6 := yD (Kd.S_at hq_ HO_6.out); replace HO_10 := yD (Kd.S_at hq_ HO_10.out); replace HO_716001 := yD (Kd.R_at hq_ HO_716001.out); replace HO_716002 := yD (Kd.R_at hq_ HO_716002.out); replace HO_716003 := yD (Kd.R_at hq_ HO_716003.out); replace HO_716004 := yD (Kd.R_at hq_ HO_716004.out); replace HO_716005 := yD (Kd.S_at hq_ HO_716005.out); replace BK671 := yD (blk_at hq_ BK671.out); replace BK715 := yD (blk_at hq_ BK715.out); replace HB := yD (below_at hq_ HB.out); clear hq_))
     replace HO_6 := yD (yU HO_6.out); replace HO_10 := yD (yU HO_10.out); replace HO_716001 := yD (yC HO_716001.out); replace HO_716002 := yD (yC HO_716002.out); replace HO_716003 := yD (yC HO_716003.out); replace HO_716004 := yD (yC HO_716004.out); replace HO_716005 := yD (yU HO_716005.out); replace BK671 := yD (yO BK671.out); replace BK715 := yD (yO BK715.out); replace HB := yD (yP HB.out)
     refine s0 (m := 10) (S := fun w' => cl w' gb671 0 (.int .i64 a1_0) ∧ cl w' gb671 1 (.slice A1_1 l1_1.length c1_1) ∧ cl w' gb671 2 (.slice A1_2 l1_2.length c1_2) ∧ cl w' gb671 3 (.slice A1_3 l1_3.length c1_3) ∧ cl w' gb671 4 (.slice A1_4 l1_4.length c1_4) ∧ cl w' gb671 5 (.slice A1_5 l1_5.length c1_5)) laws_FnExactBoxesOf.tab30 laws_FnExactBoxesOf.bits30 (cz6 BK671.out) fun hHeld HT_ HW_ => ?_
     generalize w98.drew = w99 at HO_6 HO_10 HO_716001 HO_716002 HO_716003 HO_716004 HO_716005 BK671 BK715 HB hHeld ⊢
     refine qa 10 0 1 ?_; refine qc 10 2 5 hHeld ?_
     refine qo 10 1 7 (some 94) fun K hK => ?_
     refine qg Try.func39 _ ((laws_toInt64S.calls kj61 _ _ l0 t753 _ (cB HR0 HC0 HB) A93.out).mono ?_)
     rintro e w100 ⟨v754, rfl, ho0, hb⟩
     refine ⟨_, rfl, ?_⟩
     replace HO_6 := yD (Kd.S_elder' (kS HO_6) (yH ho0) hb); replace HO_10 := yD (Kd.S_elder' (kS HO_10) (yH ho0) hb); replace HO_716005 := yD (Kd.S_elder' (kS HO_716005) (yH ho0) hb); have HO755 := yD (yZ (yJ (yJ (yJ (yJ ho0 (yK (kA HO_716001))) (yK (kA HO_716002))) (yK (kA HO_716003))) (yK (kA HO_716004))) (below_size (kB HB))); replace HO_716001 := yD (Kd.R_elder' (kA HO_716001) (yH ho0) hb); replace HO_716002 := yD (Kd.R_elder' (kA HO_716002) (yH ho0) hb); replace HO_716003 := yD (Kd.R_elder' (kA HO_716003) (yH ho0) hb); replace HO_716004 := yD (Kd.R_elder' (kA HO_716004) (yH ho0) hb); replace BK671 := zY BK671 hb; replace BK715 := zY BK715 hb; replace HB := zX HB hb
     refine hK.out _ _ (cz6 BK671.out) (fun hHeld => ?_)
     clear hK K
     refine nZ 94 ?_
     refine qo 10 3 15 (some 96) fun K hK => ?_
     refine qg Try.func40 _ ((laws_toSelection.calls kj61 a1_0 _ _ l1_1 _ _ l1_2 _ _ l1_3 _ _ l1_4 _ _ l1_5 t756 t757 t760 t763 t766 t769 _ (cB HR1_1 HC1_1 HB) (cB HR1_2 HC1_2 HB) (cB HR1_3 HC1_3 HB) (cB HR1_4 HC1_4 HB) (cB HR1_5 HC1_5 HB) A94.out).mono ?_)
     rintro e w101 ⟨v758, v761, v764, v767, v770, rfl, ho0, ho1, ho2, ho3, ho4, hb⟩
     refine ⟨_, rfl, ?_⟩
     have HO759 := yD (yZ (yJ (yJ (yJ (yJ (yJ ho0 (yK (kA HO_716001))) (yK (kA HO_716002))) (yK (kA HO_716003))) (yK (kA HO_716004))) (yK (kA HO755))) (below_size (kB HB))); have HO762 := yD (yZ (yJ (yJ (yJ (yJ (yJ ho1 (yK (kA HO_716001))) (yK (kA HO_716002))) (yK (kA HO_716003))) (yK (kA HO_716004))) (yK (kA HO755))) (below_size (kB HB))); have HO765 := yD (yZ (yJ (yJ (yJ (yJ (yJ ho2 (yK (kA HO_716001))) (yK (kA HO_716002))) (yK (kA HO_716003))) (yK (kA HO_716004))) (yK (kA HO755))) (below_size (kB HB))); have HO768 := yD (yZ (yJ (yJ (yJ (yJ (yJ ho3 (yK (kA HO_716001))) (yK (kA HO_716002))) (yK (kA HO_716003))) (yK (kA HO_716004))) (yK (kA HO755))) (below_size (kB HB))); have HO771 := yD (zG (zD (zD (zD (zD (zD (zD (zD (zD ho4 (Kd.S_lt (kS HO_6))) (Kd.S_lt (kS HO_10))) (yK (kA HO_716001))) (yK (kA HO_716002))) (yK (kA HO_716003))) (yK (kA HO_716004))) (Kd.S_lt (kS HO_716005))) (yK (kA HO755))) (below_size (kB HB))); replace HO_6 := yD (Kd.S_mono (Kd.S_told (Kd.S_told (Kd.S_told (Kd.S_told (Kd.S_told (Kd.S_old (kS HO_6) hb) (yH ho0)) (yH ho1)) (yH ho2)) (yH ho3)) (Kd.S_base ho4)) (fun _ h_ => h_.1)); replace HO_10 := yD (Kd.S_mono (Kd.S_told (Kd.S_told (Kd.S_told (Kd.S_told (Kd.S_told (Kd.S_old (kS HO_10) hb) (yH ho0)) (yH ho1)) (yH ho2)) (yH ho3)) (Kd.S_base ho4)) (fun _ h_ => h_.1)); replace HO_716001 := yD (zF (yI (yI (yI (yI (Kd.R_old (kA HO_716001) hb) (yH ho0)) (yH ho1)) (yH ho2)) (yH ho3)) (fun _ h_ => h_.1)); replace HO_716002 := yD (zF (yI (yI (yI (yI (Kd.R_old (kA HO_716002) hb) (yH ho0)) (yH ho1)) (yH ho2)) (yH ho3)) (fun _ h_ => h_.1)); replace HO_716003 := yD (zF (yI (yI (yI (yI (Kd.R_old (kA HO_716003) hb) (yH ho0)) (yH ho1)) (yH ho2)) (yH ho3)) (fun _ h_ => h_.1)); replace HO_716004 := yD (zF (yI (yI (yI (yI (Kd.R_old (kA HO_716004) hb) (yH ho0)) (yH ho1)) (yH ho2)) (yH ho3)) (fun _ h_ => h_.1)); replace HO_716005 := yD (Kd.S_mono (Kd.S_told (Kd.S_told (Kd.S_told (Kd.S_told (Kd.S_told (Kd.S_old (kS HO_716005) hb) (yH ho0)) (yH ho1)) (yH ho2)) (yH ho3)) (Kd.S_base ho4)) (fun _ h_ => h_.1)); replace HO755 := yD (zF (yI (yI (yI (yI (Kd.R_old (kA HO755) hb) (yH ho0)) (yH ho1)) (yH ho2)) (yH ho3)) (fun _ h_ => h_.1)); replace BK671 := zY BK671 hb; replace BK715 := zY BK715 hb; replace HB := zX HB hb
     obtain ⟨Ao102, co102, eo102⟩ := Kd.R_slice HO755.out
     (first | subst eo102 | (injection eo102 with f1_ f2_ f3_; have f4_ := f1_.symm; have f5_ := f3_.symm; clear f1_ f2_ f3_; subst f4_; subst f5_))
     obtain ⟨Ao103, co103, eo103⟩ := Kd.R_slice HO759.out
     (first | subst eo103 | (injection eo103 with f1_ f2_ f3_; have f4_ := f1_.symm; have f5_ := f3_.symm; clear f1_ f2_ f3_; subst f4_; subst f5_))
     obtain ⟨Ao104, co104, eo104⟩ := Kd.R_slice HO762.out
     (first | subst eo104 | (injection eo104 with f1_ f2_ f3_; have f4_ := f1_.symm; have f5_ := f3_.symm; clear f1_ f2_ f3_; subst f4_; subst f5_))
     obtain ⟨Ao105, co105, eo105⟩ := Kd.R_slice HO765.out
     (first | subst eo105 | (injection eo105 with f1_ f2_ f3_; have f4_ := f1_.symm; have f5_ := f3_.symm; clear f1_ f2_ f3_; subst f4_; subst f5_))
     obtain ⟨Ao106, co106, eo106⟩ := Kd.R_slice HO768.out
     (first | subst eo106 | (injection eo106 with f1_ f2_ f3_; have f4_ := f1_.symm; have f5_ := f3_.symm; clear f1_ f2_ f3_; subst f4_; subst f5_))
     obtain ⟨Ao107, co107, eo107⟩ := Kd.S_slice HO771.out
     (first | subst eo107 | (injection eo107 with f1_ f2_ f3_; have f4_ := f1_.symm; have f5_ := f3_.symm; clear f1_ f2_ f3_; subst f4_; subst f5_))
     refine hK.out _ _ (cz6 BK671.out) (fun hHeld => ?_)
     clear hK K
     refine nZ 96 ?_
     refine qo 10 4 31 (some 97) fun K hK => ?_
     refine qg Try.func48 _ ((impl_BoxesOf.calls kj61 _ _ t753 t756 _ _ t757 _ _ t760 _ _ t763 _ _ t766 _ _ t769 t772 t775 _ ?z1 ?z3 ?z5 ?z7 ?z9 ?z11 A95.out).mono ?_)
     (case z1 => exact ⟨kV (zA HO755.out).2.2, (zA HO755.out).2.1⟩)
     (case z3 => exact ⟨kV (zA HO759.out).2.2, (zA HO759.out).2.1⟩)
     (case z5 => exact ⟨kV (zA HO762.out).2.2, (zA HO762.out).2.1⟩)
     (case z7 => exact ⟨kV (zA HO765.out).2.2, (zA HO765.out).2.1⟩)
     (case z9 => exact ⟨kV (zA HO768.out).2.2, (zA HO768.out).2.1⟩)
     (case z11 => exact ⟨kV (Kd.S_reads' HO771.out).2.2, (Kd.S_reads' HO771.out).2.1⟩)
     rintro e w108 ⟨v773, rfl, ho0, hb⟩
     refine ⟨_, rfl, ?_⟩
     have HO774 := yD (zG (zD (zD (zD (zD (zD (zD (zD (zD (zD (zD (zD (zD (zD ho0 (Kd.S_lt (kS HO_6))) (Kd.S_lt (kS HO_10))) (yK (kA HO_716001))) (yK (kA HO_716002))) (yK (kA HO_716003))) (yK (kA HO_716004))) (Kd.S_lt (kS HO_716005))) (yK (kA HO755))) (yK (kA HO759))) (yK (kA HO762))) (yK (kA HO765))) (yK (kA HO768))) (Kd.S_lt (kS HO771))) (below_size (kB HB))); replace HO_6 := yD (Kd.S_elder' (kS HO_6) (Kd.S_base ho0) hb); replace HO_10 := yD (Kd.S_elder' (kS HO_10) (Kd.S_base ho0) hb); replace HO_716001 := yD (zE (kA HO_716001) hb); replace HO_716002 := yD (zE (kA HO_716002) hb); replace HO_716003 := yD (zE (kA HO_716003) hb); replace HO_716004 := yD (zE (kA HO_716004) hb); replace HO_716005 := yD (Kd.S_elder' (kS HO_716005) (Kd.S_base ho0) hb); replace HO755 := yD (zE (kA HO755) hb); replace HO759 := yD (zE (kA HO759) hb); replace HO762 := yD (zE (kA HO762) hb); replace HO765 := yD (zE (kA HO765) hb); replace HO768 := yD (zE (kA HO768) hb); replace HO771 := yD (Kd.S_elder' (kS HO771) (Kd.S_base ho0) hb); replace BK671 := zY BK671 hb; replace BK715 := zY BK715 hb; replace HB := zX HB hb
     refine hK.out _ _ (cz6 BK671.out) (fun hHeld => ?_)
     clear hK K
     refine nZ 97 ?_
     refine qa 10 5 63 ?_; refine qa 10 6 127 ?_; refine qa 10 7 255 ?_; refine qa 10 8 511 ?_; refine qa 10 9 1023 ?_
     refine qd ?_
     go_upto_region 31 with (fail)
     go_cut [108] (fun v108 wc => ∃ (kq : Nat) (x108_95 : Bool), v108 = .bool x108_95 ∧ Aside0 (laws_FnExactBoxesOf.j2 kq t751 t750 x108_95 = some r) ∧ Aside0 (kq ≤ kj61) ∧ Aside0 (Kd.S k42 42 wc w.heap.size (fun k_ => oB (.slice Ao36 t745.length co36) k_ ∧ oB (.slice Ao37 t746.length co37) k_ ∧ oB (.slice Ao38 t747.length co38) k_ ∧ oB (.slice Ao39 t748.length co39) k_ ∧ oB (.slice Ao40 t712.length co40) k_) (.slice Ao97 t716.length co97) t751) ∧ Aside0 (Kd.R (Kd.int .i64) 2 wc w.heap.size (fun k_ => oB (.slice Ao37 t746.length co37) k_ ∧ oB (.slice Ao38 t747.length co38) k_ ∧ oB (.slice Ao39 t748.length co39) k_) (.slice Ao36 t745.length co36) t745) ∧ Aside0 (Kd.R (Kd.int .i64) 2 wc w.heap.size (fun k_ => oB (.slice Ao36 t745.length co36) k_ ∧ oB (.slice Ao38 t747.length co38) k_ ∧ oB (.slice Ao39 t748.length co39) k_) (.slice Ao37 t746.length co37) t746) ∧ Aside0 (Kd.R (Kd.int .i64) 2 wc w.heap.size (fun k_ => oB (.slice Ao36 t745.length co36) k_ ∧ oB (.slice Ao37 t746.length co37) k_ ∧ oB (.slice Ao39 t748.length co39) k_) (.slice Ao38 t747.length co38) t747) ∧ Aside0 (Kd.R (Kd.int .i64) 2 wc w.heap.size (fun k_ => oB (.slice Ao36 t745.length co36) k_ ∧ oB (.slice Ao37 t746.length co37) k_ ∧ oB (.slice Ao38 t747.length co38) k_) (.slice Ao39 t748.length co39) t748) ∧ Aside0 (Kd.S kO 110 wc w.heap.size (fun k_ => oB (.slice Ao97 t716.length co97) k_ ∧ oB (.slice Ao36 t745.length co36) k_ ∧ oB (.slice Ao37 t746.length co37) k_ ∧ oB (.slice Ao38 t747.length co38) k_ ∧ oB (.slice Ao39 t748.length co39) k_) (.slice Ao40 t712.length co40) t712) ∧ Aside0 (wc.heap[gb671]? = some (.cells #[.int .i64 a1_0, (.slice A1_1 l1_1.length c1_1), (.slice A1_2 l1_2.length c1_2), (.slice A1_3 l1_3.length c1_3), (.slice A1_4 l1_4.length c1_4), (.slice A1_5 l1_5.length c1_5)] 49 (0, 0))) ∧ Aside0 (wc.heap[gb715]? = some (.cells #[.int .i64 t699, (.slice Ao36 t745.length co36), (.slice Ao37 t746.length co37), (.slice Ao38 t747.length co38), (.slice Ao39 t748.length co39), (.slice Ao40 t712.length co40)] 55 (0, 0))) ∧ Aside0 (Below w.heap.size w wc))
     case first =>
      have H := HC96.out; clear HC96
      replace ⟨t776, A109, H⟩ := sV H
      replace H := sS H; rcases H with ⟨rfl, H⟩ | ⟨rfl, H⟩
      ·
       have H' := yD H
       clear H
       obtain ⟨Ao114, co114, eo114⟩ := Kd.S_slice HO774.out
       subst eo114
       obtain ⟨Ao115, co115, eo115⟩ := Kd.S_slice HO_6.out
       subst eo115
       go_wp2_with (first | ((with_reducible refine gate_callee (f := 17) rfl ?_); refine gL 102 Try.func17 _ ((laws_eqBoxS.calls kj61 _ _ t772 _ _ t692 false _ ?z1 ?z3 A109.out).mono ?_); (case z1 => exact ⟨kV (Kd.S_reads' HO774.out).2.2, (Kd.S_reads' HO774.out).2.1⟩); (case z3 => exact ⟨kV (Kd.S_reads' HO_6.out).2.2, (Kd.S_reads' HO_6.out).2.1⟩); rintro e w116 ⟨rfl, hb⟩; refine ⟨_, rfl, ?_⟩; replace HO_6 := yD (Kd.S_below (kS HO_6) hb); replace HO_10 := yD (Kd.S_below (kS HO_10) hb); replace HO_716001 := yD (zE (kA HO_716001) hb); replace HO_716002 := yD (zE (kA HO_716002) hb); replace HO_716003 := yD (zE (kA HO_716003) hb); replace HO_716004 := yD (zE (kA HO_716004) hb); replace HO_716005 := yD (Kd.S_below (kS HO_716005) hb); replace HO774 := yD (Kd.S_below (kS HO774) hb); replace BK671 := zY BK671 hb; replace BK715 := zY BK715 hb; replace HB := zX HB hb; clear hb))
       go_meet
       case rel => exact ⟨_, (true), kF, H', ⟨by have := HJ15.out; have := HJ61.out; first | omega | exact Nat.le_refl _⟩, ⟨by (try simp only [hl716001_61]); (try simp only [hl716002_61]); (try simp only [hl716003_61]); (try simp only [hl716004_61]); (with_reducible repeat (first | apply yS | apply yT | apply yU)); exact Kd.S_mono HO_10.out (fun _ hk => ⟨hk.1.1.1.1.1.1.1.2.1, ⟨hk.1.1.1.1.1.1.1.2.2.1, ⟨hk.1.1.1.1.1.1.1.2.2.2.1, ⟨hk.1.1.1.1.1.1.1.2.2.2.2.1, hk.1.1.1.1.1.1.1.2.2.2.2.2.1⟩⟩⟩⟩)⟩, ⟨by (try simp only [hl716001_61]); (try simp only [hl716002_61]); (try simp only [hl716003_61]); (try simp only [hl716004_61]); (with_reducible repeat (first | apply yA | apply yB | apply yC)); exact zF HO_716001.out (fun _ hk => ⟨hk.1.1.1.1.1.1, ⟨hk.1.1.1.1.1.2.1, hk.1.1.1.1.1.2.2⟩⟩)⟩, ⟨by (try simp only [hl716001_61]); (try simp only [hl716002_61]); (try simp only [hl716003_61]); (try simp only [hl716004_61]); (with_reducible repeat (first | apply yA | apply yB | apply yC)); exact zF HO_716002.out (fun _ hk => ⟨hk.1.1.1.1.1.1, ⟨hk.1.1.1.1.1.2.1, hk.1.1.1.1.1.2.2⟩⟩)⟩, ⟨by (try simp only [hl716001_61]); (try simp only [hl716002_61]); (try simp only [hl716003_61]); (try simp only [hl716004_61]); (with_reducible repeat (first | apply yA | apply yB | apply yC)); exact zF HO_716003.out (fun _ hk => ⟨hk.1.1.1.1.1.1, ⟨hk.1.1.1.1.1.2.1, hk.1.1.1.1.1.2.2⟩⟩)⟩, ⟨by (try simp only [hl716001_61]); (try simp only [hl716002_61]); (try simp only [hl716003_61]); (try simp only [hl716004_61]); (with_reducible repeat (first | apply yA | apply yB | apply yC)); exact zF HO_716004.out (fun _ hk => ⟨hk.1.1.1.1.1.1, ⟨hk.1.1.1.1.1.2.1, hk.1.1.1.1.1.2.2⟩⟩)⟩, ⟨by (try simp only [hl716001_61]); (try simp only [hl716002_61]); (try simp only [hl716003_61]); (try simp only [hl716004_61]); (with_reducible repeat (first | apply yS | apply yT | apply yU)); exact Kd.S_mono HO_716005.out (fun _ hk => ⟨hk.1.1.1.1.1.1.1.2.1.1, ⟨hk.1.1.1.1.1.1.1.2.2.1, ⟨hk.1.1.1.1.1.1.1.2.2.2.1, ⟨hk.1.1.1.1.1.1.1.2.2.2.2.1, hk.1.1.1.1.1.1.1.2.2.2.2.2⟩⟩⟩⟩)⟩, ⟨by (try simp only [hl716001_61]); (try simp only [hl716002_61]); (try simp only [hl716003_61]); (try simp only [hl716004_61]); (with_reducible repeat (first | refine yM ?_ _ | refine yO ?_ | refine yN ?_ _)); exact BK671.out⟩, ⟨by (try simp only [hl716001_61]); (try simp only [hl716002_61]); (try simp only [hl716003_61]); (try simp only [hl716004_61]); (with_reducible repeat (first | refine yM ?_ _ | refine yO ?_ | refine yN ?_ _)); exact BK715.out⟩, ⟨kR0 HB⟩⟩
      have H' := yD H
      clear H
      obtain ⟨Ao111, co111, eo111⟩ := Kd.S_slice HO774.out
      subst eo111
      obtain ⟨Ao112, co112, eo112⟩ := Kd.S_slice HO_6.out
      subst eo112
      go_wp2_with (first | ((with_reducible refine gate_callee (f := 17) rfl ?_); refine gL 102 Try.func17 _ ((laws_eqBoxS.calls kj61 _ _ t772 _ _ t692 true _ ?z1 ?z3 A109.out).mono ?_); (case z1 => exact ⟨kV (Kd.S_reads' HO774.out).2.2, (Kd.S_reads' HO774.out).2.1⟩); (case z3 => exact ⟨kV (Kd.S_reads' HO_6.out).2.2, (Kd.S_reads' HO_6.out).2.1⟩); rintro e w113 ⟨rfl, hb⟩; refine ⟨_, rfl, ?_⟩; replace HO_6 := yD (Kd.S_below (kS HO_6) hb); replace HO_10 := yD (Kd.S_below (kS HO_10) hb); replace HO_716001 := yD (zE (kA HO_716001) hb); replace HO_716002 := yD (zE (kA HO_716002) hb); replace HO_716003 := yD (zE (kA HO_716003) hb); replace HO_716004 := yD (zE (kA HO_716004) hb); replace HO_716005 := yD (Kd.S_below (kS HO_716005) hb); replace HO774 := yD (Kd.S_below (kS HO774) hb); replace BK671 := zY BK671 hb; replace BK715 := zY BK715 hb; replace HB := zX HB hb; clear hb))
      go_meet
      case rel => exact ⟨_, ((t775 != t695)), kF, H', ⟨by have := HJ15.out; have := HJ61.out; first | omega | exact Nat.le_refl _⟩, ⟨by (try simp only [hl716001_61]); (try simp only [hl716002_61]); (try simp only [hl716003_61]); (try simp only [hl716004_61]); (with_reducible repeat (first | apply yS | apply yT | apply yU)); exact Kd.S_mono HO_10.out (fun _ hk => ⟨hk.1.1.1.1.1.1.1.2.1, ⟨hk.1.1.1.1.1.1.1.2.2.1, ⟨hk.1.1.1.1.1.1.1.2.2.2.1, ⟨hk.1.1.1.1.1.1.1.2.2.2.2.1, hk.1.1.1.1.1.1.1.2.2.2.2.2.1⟩⟩⟩⟩)⟩, ⟨by (try simp only [hl716001_61]); (try simp only [hl716002_61]); (try simp only [hl716003_61]); (try simp only [hl716004_61]); (with_reducible repeat (first | apply yA | apply yB | apply yC)); exact zF HO_716001.out (fun _ hk => ⟨hk.1.1.1.1.1.1, ⟨hk.1.1.1.1.1.2.1, hk.1.1.1.1.1.2.2⟩⟩)⟩, ⟨by (try simp only [hl716001_61]); (try simp only [hl716002_61]); (try simp only [hl716003_61]); (try simp only [hl716004_61]); (with_reducible repeat (first | apply yA | apply yB | apply yC)); exact zF HO_716002.out (fun _ hk => ⟨hk.1.1.1.1.1.1, ⟨hk.1.1.1.1.1.2.1, hk.1.1.1.1.1.2.2⟩⟩)⟩, ⟨by (try simp only [hl716001_61]); (try simp only [hl716002_61]); (try simp only [hl716003_61]); (try simp only [hl716004_61]); (with_reducible repeat (first | apply yA | apply yB | apply yC)); exact zF HO_716003.out (fun _ hk => ⟨hk.1.1.1.1.1.1, ⟨hk.1.1.1.1.1.2.1, hk.1.1.1.1.1.2.2⟩⟩)⟩, ⟨by (try simp only [hl716001_61]); (try simp only [hl716002_61]); (try simp only [hl716003_61]); (try simp only [hl716004_61]); (with_reducible repeat (first | apply yA | apply yB | apply yC)); exact zF HO_716004.out (fun _ hk => ⟨hk.1.1.1.1.1.1, ⟨hk.1.1.1.1.1.2.1, hk.1.1.1.1.1.2.2⟩⟩)⟩, ⟨by (try simp only [hl716001_61]); (try simp only [hl716002_61]); (try simp only [hl716003_61]); (try simp only [hl716004_61]); (with_reducible repeat (first | apply yS | apply yT | apply yU)); exact Kd.S_mono HO_716005.out (fun _ hk => ⟨hk.1.1.1.1.1.1.1.2.1.1, ⟨hk.1.1.1.1.1.1.1.2.2.1, ⟨hk.1.1.1.1.1.1.1.2.2.2.1, ⟨hk.1.1.1.1.1.1.1.2.2.2.2.1, hk.1.1.1.1.1.1.1.2.2.2.2.2⟩⟩⟩⟩)⟩, ⟨by (try simp only [hl716001_61]); (try simp only [hl716002_61]); (try simp only [hl716003_61]); (try simp only [hl716004_61]); (with_reducible repeat (first | refine yM ?_ _ | refine yO ?_ | refine yN ?_ _)); exact BK671.out⟩, ⟨by (try simp only [hl716001_61]); (try simp only [hl716002_61]); (try simp only [hl716003_61]); (try simp only [hl716004_61]); (with_reducible repeat (first | refine yM ?_ _ | refine yO ?_ | refine yN ?_ _)); exact BK715.out⟩, ⟨kR0 HB⟩⟩
     case rest =>
      clear HC96; try clear HO_10; try clear HO_716001; try clear HO_716002; try clear HO_716003; try clear HO_716004; try clear HO_716005; try clear BK671; try clear BK715; try clear HB
      obtain ⟨kq, x108_95, rfl, HA, HJ95, HO_10, HO_716001, HO_716002, HO_716003, HO_716004, HO_716005, BK671, BK715, HB⟩ := hcut
      have hl10_95 := (Kd.S_reads' HO_10.out).1
      rw [hl10_95] at HO_10
      (try simp only [hl10_95])
      (try simp only [hl10_95] at BK671)
      (try simp only [hl10_95] at BK715)
      (try simp only [hl10_95] at HO_716001)
      (try simp only [hl10_95] at HO_716002)
      (try simp only [hl10_95] at HO_716003)
      (try simp only [hl10_95] at HO_716004)
      (try simp only [hl10_95] at HO_716005)
      cases kq with
      | zero => exact absurd HA.out (by simp [laws_FnExactBoxesOf.j2])
      | succ kj95 =>
       have H := HA.out; clear HA
       simp only [laws_FnExactBoxesOf.j2] at H
       replace H := sT H; rcases H with ⟨rfl, H⟩ | ⟨rfl, H⟩
       · obtain rfl := sJ H
         go_wp2
         go_ret
         exact ⟨kE, kR0 HB⟩
       replace ⟨t777, A118, H⟩ := sV H
       replace H := sB H; rcases H with ⟨c119, H⟩ | ⟨c119, H⟩
       ·
        have c119b0 : decide (t777 < 0) = true := zR c119
        (try (have c119b0h := c119b0; simp only [hl716001_61, hl716002_61, hl716003_61, hl716004_61, hl10_95] at c119b0h))
        clear c119; obtain rfl := sJ H
        go_wp2_with (first | ((with_reducible refine gate_callee (f := 19) rfl ?_); refine gL 111 Try.func19 _ ((laws_heldBoxS.calls kj95 _ _ t751 1 t777 _ ?z1 A118.out).mono ?_); (case z1 => exact ⟨kV (Kd.S_reads' HO_10.out).2.2, (Kd.S_reads' HO_10.out).2.1⟩); rintro e w' ⟨rfl, ⟨nd, rfl⟩⟩; refine ⟨_, rfl, ?_⟩))
        go_ret
        exact ⟨kE, kR0 HB⟩
       have c119b0 : decide (t777 < 0) = false := zS c119
       (try (have c119b0h := c119b0; simp only [hl716001_61, hl716002_61, hl716003_61, hl716004_61, hl10_95] at c119b0h))
       clear c119
       replace H := sC H; rcases H with ⟨c120, H⟩ | ⟨c120, H⟩
       ·
        have c120b0 : (t777 == t750) = false := beq_eq_false_iff_ne.mpr c120
        (try (have c120b0h := c120b0; simp only [hl716001_61, hl716002_61, hl716003_61, hl716004_61, hl10_95] at c120b0h))
        have c120b1 : (t777 != t750) = true := bne_iff_ne.mpr c120
        (try (have c120b1h := c120b1; simp only [hl716001_61, hl716002_61, hl716003_61, hl716004_61, hl10_95] at c120b1h))
        obtain rfl := sJ H
        go_wp2_with (first | ((with_reducible refine gate_callee (f := 19) rfl ?_); refine gL 111 Try.func19 _ ((laws_heldBoxS.calls kj95 _ _ t751 1 t777 _ ?z1 A118.out).mono ?_); (case z1 => exact ⟨kV (Kd.S_reads' HO_10.out).2.2, (Kd.S_reads' HO_10.out).2.1⟩); rintro e w' ⟨rfl, ⟨nd, rfl⟩⟩; refine ⟨_, rfl, ?_⟩))
        go_ret
        exact ⟨kE, kR0 HB⟩
       have c120b0 : (t777 == t750) = true := beq_iff_eq.mpr c120
       (try (have c120b0h := c120b0; simp only [hl716001_61, hl716002_61, hl716003_61, hl716004_61, hl10_95] at c120b0h))
       have c120b1 : (t777 != t750) = false := bne_eq_false_iff_eq.mpr c120
       (try (have c120b1h := c120b1; simp only [hl716001_61, hl716002_61, hl716003_61, hl716004_61, hl10_95] at c120b1h))
       clear c120; obtain rfl := sJ H
       go_wp2_with (first | ((with_reducible refine gate_callee (f := 19) rfl ?_); refine gL 111 Try.func19 _ ((laws_heldBoxS.calls kj95 _ _ t751 1 t777 _ ?z1 A118.out).mono ?_); (case z1 => exact ⟨kV (Kd.S_reads' HO_10.out).2.2, (Kd.S_reads' HO_10.out).2.1⟩); rintro e w' ⟨rfl, ⟨nd, rfl⟩⟩; refine ⟨_, rfl, ?_⟩))
       go_ret
       exact ⟨kE, kR0 HB⟩

-- what data that come in are: numbers of their kinds, lengths that a length can be
def okS107 (x : S107) : Prop := (x.f0.length ≤ maxLen ∧ ∀ x_ ∈ x.f0, (Lit.int .i64 x_).wf = true)
def okS49 (x : S49) : Prop := (Lit.int .i64 x.f0).wf = true ∧ (x.f1.length ≤ maxLen ∧ ∀ x_ ∈ x.f1, (Lit.int .i64 x_).wf = true) ∧ (x.f2.length ≤ maxLen ∧ ∀ x_ ∈ x.f2, (Lit.int .i64 x_).wf = true) ∧ (x.f3.length ≤ maxLen ∧ ∀ x_ ∈ x.f3, (Lit.int .i64 x_).wf = true) ∧ (x.f4.length ≤ maxLen ∧ ∀ x_ ∈ x.f4, (Lit.int .i64 x_).wf = true) ∧ (x.f5.length ≤ maxLen ∧ ∀ x_ ∈ x.f5, okS107 x_)
/-- THE ONE PURE STATEMENT of laws_FnExactBoxesOf: ours. -/
def laws_FnExactBoxesOf.Pure : Prop := ∀ (l0 : List Int) (a1_0 : Int) (l1_1 : List Int) (l1_2 : List Int) (l1_3 : List Int) (l1_4 : List Int) (l1_5 : List (S107)), (l0.length ≤ maxLen ∧ ∀ x_ ∈ l0, (Lit.int .i64 x_).wf = true) → (Lit.int .i64 a1_0).wf = true → (l1_1.length ≤ maxLen ∧ ∀ x_ ∈ l1_1, (Lit.int .i64 x_).wf = true) → (l1_2.length ≤ maxLen ∧ ∀ x_ ∈ l1_2, (Lit.int .i64 x_).wf = true) → (l1_3.length ≤ maxLen ∧ ∀ x_ ∈ l1_3, (Lit.int .i64 x_).wf = true) → (l1_4.length ≤ maxLen ∧ ∀ x_ ∈ l1_4, (Lit.int .i64 x_).wf = true) → (l1_5.length ≤ maxLen ∧ ∀ x_ ∈ l1_5, okS107 x_) → ∃ k, laws_FnExactBoxesOf.f k l0 a1_0 l1_1 l1_2 l1_3 l1_4 l1_5 = some true
theorem laws_FnExactBoxesOf.walk (P : laws_FnExactBoxesOf.Pure) (A0 : Option Addr) (c0 : Nat) (l0 : List Int) (a1_0 : Int) (A1_1 : Option Addr) (c1_1 : Nat) (l1_1 : List Int) (A1_2 : Option Addr) (c1_2 : Nat) (l1_2 : List Int) (A1_3 : Option Addr) (c1_3 : Nat) (l1_3 : List Int) (A1_4 : Option Addr) (c1_4 : Nat) (l1_4 : List Int) (A1_5 : Option Addr) (c1_5 : Nat) (l1_5 : List (S107)) (w : World) (hr0 : Kd.C (Kd.int .i64) w A0 l0.length l0) (hc0 : l0.length ≤ c0) (hr1_1 : Kd.C (Kd.int .i64) w A1_1 l1_1.length l1_1) (hc1_1 : l1_1.length ≤ c1_1) (hr1_2 : Kd.C (Kd.int .i64) w A1_2 l1_2.length l1_2) (hc1_2 : l1_2.length ≤ c1_2) (hr1_3 : Kd.C (Kd.int .i64) w A1_3 l1_3.length l1_3) (hc1_3 : l1_3.length ≤ c1_3) (hr1_4 : Kd.C (Kd.int .i64) w A1_4 l1_4.length l1_4) (hc1_4 : l1_4.length ≤ c1_4) (hr1_5 : Kd.C k107 w A1_5 l1_5.length l1_5) (hc1_5 : l1_5.length ≤ c1_5) (o0 : (l0.length ≤ maxLen ∧ ∀ x_ ∈ l0, (Lit.int .i64 x_).wf = true)) (o1_0 : (Lit.int .i64 a1_0).wf = true) (o1_1 : (l1_1.length ≤ maxLen ∧ ∀ x_ ∈ l1_1, (Lit.int .i64 x_).wf = true)) (o1_2 : (l1_2.length ≤ maxLen ∧ ∀ x_ ∈ l1_2, (Lit.int .i64 x_).wf = true)) (o1_3 : (l1_3.length ≤ maxLen ∧ ∀ x_ ∈ l1_3, (Lit.int .i64 x_).wf = true)) (o1_4 : (l1_4.length ≤ maxLen ∧ ∀ x_ ∈ l1_4, (Lit.int .i64 x_).wf = true)) (o1_5 : (l1_5.length ≤ maxLen ∧ ∀ x_ ∈ l1_5, okS107 x_)) :
 Calls Try.prog 11 #[.slice A0 l0.length c0, .agg #[.int .i64 a1_0, .slice A1_1 l1_1.length c1_1, .slice A1_2 l1_2.length c1_2, .slice A1_3 l1_3.length c1_3, .slice A1_4 l1_4.length c1_4, .slice A1_5 l1_5.length c1_5]] w fun e w' => e = .returned (.bool true) ∧ Below w.heap.size w w' := by
 obtain ⟨k, h⟩ := P l0 a1_0 l1_1 l1_2 l1_3 l1_4 l1_5 o0 o1_0 o1_1 o1_2 o1_3 o1_4 o1_5
 refine (laws_FnExactBoxesOf.calls k _ _ l0 a1_0 _ _ l1_1 _ _ l1_2 _ _ l1_3 _ _ l1_4 _ _ l1_5 true w hr0 hc0 hr1_1 hc1_1 hr1_2 hc1_2 hr1_3 hc1_3 hr1_4 hc1_4 hr1_5 hc1_5 h).mono ?_
 rintro e w' ⟨rfl, hd⟩
 exact ⟨rfl, hd⟩
end Go.Proofs.Ytdiaebjbiddefaa.PFnExactBoxesOf
