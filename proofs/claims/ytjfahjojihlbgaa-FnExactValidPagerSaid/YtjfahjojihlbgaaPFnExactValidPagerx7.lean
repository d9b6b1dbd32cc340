/- Each Go function here comes to what the plain function of its name says, where that says something. Made by a program of this session, over the print. -/
import Derived.Test.YtjfahjojihlbgaaPFnExactValidPagerx0
import Derived.Test.YtjfahjojihlbgaaPFnExactValidPagerx6
namespace Go.Proofs.Ytjfahjojihlbgaa.PFnExactValidPager
open Go.RowKit Go.Proofs.YtjfahjojihlbgaaW.PrintWords Go.Proofs.YtjfahjojihlbgaaW.PrintLast Go.Proofs.YtjfahjojihlbgaaW.PrintMore
attribute [local go_sem] max2_int min2_int max_two min_two max_three min_three max_four min_four   -- for this text's walks alone
set_option linter.unusedVariables false
set_option linter.unusedSimpArgs false

/-! ### impl_ValidPages: function 38 -/
def impl_ValidPages.l0 : Nat → List (S96) → List (S96) → Int → Int → Option (Bool)
  | 0, _, _, _, _ => none
  | k + 1, x0, x5, x6, x7 => if x7 < x6 then (if 0 ≤ x7 then (if x7 < (x5.length : Int) then ((impl_within.f ((rd_T96 x5 x7).f0) 0 255).bind fun t237 => (if t237 = true then (if x7 > 0 then (if 0 ≤ (wrap64 (x7 - 1)) then (if (wrap64 (x7 - 1)) < (x0.length : Int) then (if ((rd_T96 x5 x7).f0) ≤ ((rd_T96 x0 (wrap64 (x7 - 1))).f0) then (some false) else ((impl_isBlock.f ((rd_T96 x5 x7).f1)).bind fun t239 => (if t239 = true then (impl_ValidPages.l0 k x0 x5 x6 (wrap64 (x7 + 1))) else (some false)))) else (none)) else (none)) else ((impl_isBlock.f ((rd_T96 x5 x7).f1)).bind fun t240 => (if t240 = true then (impl_ValidPages.l0 k x0 x5 x6 (wrap64 (x7 + 1))) else (some false)))) else (some false))) else (none)) else (none)) else (some (decide ((x0.length : Int) ≤ 256)))
def impl_ValidPages.f (k : Nat) (l0 : List (S96)) : Option (Bool) := impl_ValidPages.l0 k l0 l0 (l0.length : Int) 0
theorem impl_ValidPages.mono_l : ∀ k, (∀ y0 y1 y2 y3, LeO (impl_ValidPages.l0 k y0 y1 y2 y3) (impl_ValidPages.l0 (k + 1) y0 y1 y2 y3))
  | 0 => fun _ _ _ _ r h => by simp [impl_ValidPages.l0] at h
  | k + 1 => by
    have ih0 := impl_ValidPages.mono_l k
    · intro y0 y1 y2 y3
      unfold impl_ValidPages.l0
      repeat' first
      | (with_reducible exact ih0 _ _ _ _)
      | (with_reducible exact LeO.refl _)
      | (with_reducible exact LeO.none _)
      | (with_reducible refine LeO.ite ?_ ?_)
      | (with_reducible refine LeO.bind ?_ (fun _ => ?_))
      | exact ih0 _ _ _ _
      | exact LeO.none _
      | refine LeO.ite ?_ ?_
      | refine LeO.bind ?_ (fun _ => ?_)
theorem impl_ValidPages.mono : ∀ a0 k, LeO (impl_ValidPages.f k a0) (impl_ValidPages.f (k + 1) a0) := by
  intro a0 k
  have ih0 := impl_ValidPages.mono_l k
  unfold impl_ValidPages.f
  repeat' first
      | (with_reducible exact ih0 _ _ _ _)
      | (with_reducible exact LeO.refl _)
      | (with_reducible exact LeO.none _)
      | (with_reducible refine LeO.ite ?_ ?_)
      | (with_reducible refine LeO.bind ?_ (fun _ => ?_))
      | exact ih0 _ _ _ _
      | exact LeO.none _
      | refine LeO.ite ?_ ?_
      | refine LeO.bind ?_ (fun _ => ?_)
set_option maxHeartbeats 8000000 in
set_option maxRecDepth 100000 in
theorem impl_ValidPages.calls (k : Nat) (A0 : Option Addr) (c0 : Nat) (l0 : List (S96)) (r : Bool) (w : World) (hr0 : Kd.C k96 w A0 l0.length l0) (hc0 : l0.length ≤ c0) (h : impl_ValidPages.f k l0 = some r) :
    Calls Try.prog 38 #[.slice A0 l0.length c0] w fun e w' => e = .returned (.bool r) ∧ Below w.heap.size w w' := by
  have hu96 := Try.underlying96
  have HR0 := yD hr0
  have HC0 := yD hc0
  clear hr0 hc0
  have HB := yD (Below.refl w.heap.size w)
  have H : (impl_ValidPages.l0 k l0 l0 (l0.length : Int) 0) = some r := h
  clear h
  have H' := yD H
  clear H; go_enter Try.func38, Try.ntmps38
  go_wp2
  repeat (go_quiet (fail); try go_wp2)
  go_loopg [7] k (fun kq v7 w' => ∃ (x7_1 : Int), v7 = .int .i64 x7_1 ∧ Aside0 (impl_ValidPages.l0 kq l0 l0 (l0.length : Int) x7_1 = some r) ∧ Aside0 (kq ≤ k) ∧ Aside0 (Below w.heap.size w w'))
  case atStart => exact ⟨(0), (by first | rfl | (simp; done) | (simp [*]; done)), H', ⟨Nat.le_refl _⟩, ⟨by repeat (first | (with_reducible first | exact HB.out | apply yQ | apply yL | apply yP) | exact HB.out)⟩⟩
  case round =>
    clear H'
    obtain ⟨x7_1, rfl, HA, HK1, HB⟩ := hrel
    cases gk with
    | zero => exact absurd HA.out (by simp [impl_ValidPages.l0])
    | succ k1 =>
      have H := HA.out; clear HA
      simp only [impl_ValidPages.l0] at H
      by_cases c2 : x7_1 < (l0.length : Int)
      · rw [if_pos c2] at H
        have c2b0 : decide (x7_1 < (l0.length : Int)) = true := zR c2; clear c2
        by_cases c3 : 0 ≤ x7_1
        · rw [if_pos c3] at H
          have c3b0 : decide (0 ≤ x7_1) = true := zR c3; clear c3
          by_cases c4 : x7_1 < (l0.length : Int)
          · rw [if_pos c4] at H
            have c4b0 : decide (x7_1 < (l0.length : Int)) = true := zR c4; clear c4
            obtain ⟨t237, A50, H⟩ := zW_ H
            replace H : (if t237 = true then (if x7_1 > 0 then (if 0 ≤ (wrap64 (x7_1 - 1)) then (if (wrap64 (x7_1 - 1)) < (l0.length : Int) then (if ((rd_T96 l0 x7_1).f0) ≤ ((rd_T96 l0 (wrap64 (x7_1 - 1))).f0) then (some false) else ((impl_isBlock.f ((rd_T96 l0 x7_1).f1)).bind fun t239 => (if t239 = true then (impl_ValidPages.l0 k1 l0 l0 (l0.length : Int) (wrap64 (x7_1 + 1))) else (some false)))) else (none)) else (none)) else ((impl_isBlock.f ((rd_T96 l0 x7_1).f1)).bind fun t240 => (if t240 = true then (impl_ValidPages.l0 k1 l0 l0 (l0.length : Int) (wrap64 (x7_1 + 1))) else (some false)))) else (some false)) = some r := H
            have A5 := yD A50
            clear A50
            by_cases c6 : t237 = true
            · subst c6
              have H1 : (if x7_1 > 0 then (if 0 ≤ (wrap64 (x7_1 - 1)) then (if (wrap64 (x7_1 - 1)) < (l0.length : Int) then (if ((rd_T96 l0 x7_1).f0) ≤ ((rd_T96 l0 (wrap64 (x7_1 - 1))).f0) then (some false) else ((impl_isBlock.f ((rd_T96 l0 x7_1).f1)).bind fun t239 => (if t239 = true then (impl_ValidPages.l0 k1 l0 l0 (l0.length : Int) (wrap64 (x7_1 + 1))) else (some false)))) else (none)) else (none)) else ((impl_isBlock.f ((rd_T96 l0 x7_1).f1)).bind fun t240 => (if t240 = true then (impl_ValidPages.l0 k1 l0 l0 (l0.length : Int) (wrap64 (x7_1 + 1))) else (some false)))) = some r := by rw [if_pos rfl] at H; exact H
              clear H; have H := H1; clear H1
              by_cases c7 : x7_1 > 0
              · rw [if_pos c7] at H
                have c7b0 : decide (0 < x7_1) = true := zR c7; clear c7
                obtain ⟨ji8, hji8⟩ : ∃ j_ : Int, (wrap64 (x7_1 - 1)) = j_ := ⟨_, rfl⟩
                replace H : (if 0 ≤ (ji8) then (if (ji8) < (l0.length : Int) then (if ((rd_T96 l0 x7_1).f0) ≤ ((rd_T96 l0 (ji8)).f0) then (some false) else ((impl_isBlock.f ((rd_T96 l0 x7_1).f1)).bind fun t239 => (if t239 = true then (impl_ValidPages.l0 k1 l0 l0 (l0.length : Int) (wrap64 (x7_1 + 1))) else (some false)))) else (none)) else (none)) = some r := by first | (rw [hji8] at H; exact H) | (simp only [hji8] at H ⊢; exact H)
                (try rw [hji8] at A5)
                have hji8w : (IntKind.i64.wrap (x7_1 - 1)) = ji8 := (i64_w _).trans hji8
                by_cases c9 : 0 ≤ (ji8)
                · rw [if_pos c9] at H
                  have c9b0 : decide (0 ≤ (ji8)) = true := zR c9; clear c9
                  by_cases c10 : (ji8) < (l0.length : Int)
                  · rw [if_pos c10] at H
                    have c10b0 : decide ((ji8) < (l0.length : Int)) = true := zR c10; clear c10
                    by_cases c11 : ((rd_T96 l0 x7_1).f0) ≤ ((rd_T96 l0 (ji8)).f0)
                    · rw [if_pos c11] at H
                      have c11b0 : decide (((rd_T96 l0 x7_1).f0) ≤ ((rd_T96 l0 (ji8)).f0)) = true := zR c11; clear c11; obtain rfl := Option.some.inj H
                      have p235 : 0 ≤ (x7_1 : Int) := zP (by assumption)
                      have q235 : x7_1 < (l0.length : Int) := zP (by assumption)
                      obtain ⟨ad235, e235, hx235_0, hx235_1⟩ := at_T96 HR0.out x7_1 p235 q235
                      cases e235
                      replace hx235_0 := (HB.out.cell (zQ w _ hx235_0)).trans hx235_0
                      replace hx235_1 := (HB.out.cell (zQ w _ hx235_1)).trans hx235_1
                      replace p235 := eq_true p235; replace q235 := eq_true q235
                      go_wp2_with (first | ((with_reducible refine gate_dst (N := 4) rfl ?_); refine box_event ?hg (N := 4) ?hd (cs := #[.int .i64 0, .string (⟨#[]⟩ : ByteArray)]) (t := 96) ?hr ?_; (case hd => rfl); (case hg => rfl); (case hr => first | (go_simp; done) | (go_simp; rfl)); intro gb236 hg w12 hbox hb; have n0_ := yD (zC (by repeat (first | (with_reducible first | exact HB.out | apply yQ | apply yL | apply yP) | exact HB.out)) hb); have n1_ := yD (hbox); have n2_ := yD ((by rw [hg]; exact (below_size (by repeat (first | (with_reducible first | exact HB.out | apply yQ | apply yL | apply yP) | exact HB.out))) : w.heap.size ≤ gb236)); have n3_ := yD ((by rw [hg]; exact (below_size (by repeat (first | (with_reducible first | exact HB.out | apply yQ | apply yL | apply yP) | exact HB.out))) : w.heap.size ≤ gb236)); clear HB; have HB := n0_; have BK236 := n1_; have GW236 := n2_; have GE236 := n3_; clear n0_ n1_ n2_ n3_; clear hb hbox hg; obtain ⟨hcz13_0, hcz13_1⟩ := cz2 BK236.out; obtain ⟨hfz13_0, hfz13_1⟩ := fz2 BK236.out) | (go_at_call 37; (with_reducible refine (impl_within.calls ((rd_T96 l0 x7_1).f0) 0 255 true _ A5.out).mono ?_); rintro e w' ⟨rfl, ⟨nd, rfl⟩⟩; (try first | exact ⟨rfl, _, World.drewN_drewN _ _ _⟩ | exact ⟨rfl, _, Eq.trans (World.drewN_drewN _ _ _) (congrArg (World.drewN _) (Nat.add_assoc _ _ _))⟩); have p238 : 0 ≤ ((ji8) : Int) := zP (by assumption); have q238 : (ji8) < (l0.length : Int) := zP (by assumption); obtain ⟨ad238, e238, hx238_0, hx238_1⟩ := at_T96 HR0.out (ji8) p238 q238; obtain rfl : ad235 = ad238 := (by injection e238); have hn238_0 : ad235.block ≠ gb236 := Nat.ne_of_lt (Nat.lt_of_lt_of_le (by have := zQ _ _ hx238_0; first | rwa [add_block] at this | exact this) GW236.out); have hn238_1 : ad235.block ≠ gb236 := Nat.ne_of_lt (Nat.lt_of_lt_of_le (by have := zQ _ _ hx238_0; first | rwa [add_block] at this | exact this) GW236.out); replace hx238_0 := (HB.out.cell (zQ w _ hx238_0)).trans hx238_0; replace hx238_1 := (HB.out.cell (zQ w _ hx238_1)).trans hx238_1; replace hx238_0 := (cell_far (p := ⟨gb236, 0, none⟩) (by first | (rw [add_block]; exact hn238_0) | (show (Addr.add _ _).block ≠ _; rw [add_block]; exact hn238_0) | exact hn238_0) (.int .i64 ((rd_T96 l0 x7_1).f0))).trans hx238_0; replace hx238_1 := (cell_far (p := ⟨gb236, 0, none⟩) (by first | (rw [add_block]; exact hn238_0) | (show (Addr.add _ _).block ≠ _; rw [add_block]; exact hn238_0) | exact hn238_0) (.int .i64 ((rd_T96 l0 x7_1).f0))).trans hx238_1; replace hx238_0 := (cell_far (p := ⟨gb236, 1, none⟩) (by first | (rw [add_block]; exact hn238_1) | (show (Addr.add _ _).block ≠ _; rw [add_block]; exact hn238_1) | exact hn238_1) (.string ((rd_T96 l0 x7_1).f1))).trans hx238_0; replace hx238_1 := (cell_far (p := ⟨gb236, 1, none⟩) (by first | (rw [add_block]; exact hn238_1) | (show (Addr.add _ _).block ≠ _; rw [add_block]; exact hn238_1) | exact hn238_1) (.string ((rd_T96 l0 x7_1).f1))).trans hx238_1; (try have hy238_0 := fun (n_ : Nat) => (show ((((w12.drewN n_).setCell ⟨gb236, 0, none⟩ (.int .i64 ((rd_T96 l0 x7_1).f0))).setCell ⟨gb236, 1, none⟩ (.string ((rd_T96 l0 x7_1).f1)))).cell? _ = some _ from hx238_0)); (try have hy238_1 := fun (n_ : Nat) => (show ((((w12.drewN n_).setCell ⟨gb236, 0, none⟩ (.int .i64 ((rd_T96 l0 x7_1).f0))).setCell ⟨gb236, 1, none⟩ (.string ((rd_T96 l0 x7_1).f1)))).cell? _ = some _ from hx238_1)); clear hn238_0; clear hn238_1; replace p238 := eq_true p238; replace q238 := eq_true q238))
                      repeat (go_quiet (first | ((with_reducible refine gate_dst (N := 4) rfl ?_); refine box_event ?hg (N := 4) ?hd (cs := #[.int .i64 0, .string (⟨#[]⟩ : ByteArray)]) (t := 96) ?hr ?_; (case hd => rfl); (case hg => rfl); (case hr => first | (go_simp; done) | (go_simp; rfl)); intro gb236 hg w12 hbox hb; have n0_ := yD (zC (by repeat (first | (with_reducible first | exact HB.out | apply yQ | apply yL | apply yP) | exact HB.out)) hb); have n1_ := yD (hbox); have n2_ := yD ((by rw [hg]; exact (below_size (by repeat (first | (with_reducible first | exact HB.out | apply yQ | apply yL | apply yP) | exact HB.out))) : w.heap.size ≤ gb236)); have n3_ := yD ((by rw [hg]; exact (below_size (by repeat (first | (with_reducible first | exact HB.out | apply yQ | apply yL | apply yP) | exact HB.out))) : w.heap.size ≤ gb236)); clear HB; have HB := n0_; have BK236 := n1_; have GW236 := n2_; have GE236 := n3_; clear n0_ n1_ n2_ n3_; clear hb hbox hg; obtain ⟨hcz13_0, hcz13_1⟩ := cz2 BK236.out; obtain ⟨hfz13_0, hfz13_1⟩ := fz2 BK236.out) | (go_at_call 37; (with_reducible refine (impl_within.calls ((rd_T96 l0 x7_1).f0) 0 255 true _ A5.out).mono ?_); rintro e w' ⟨rfl, ⟨nd, rfl⟩⟩; (try first | exact ⟨rfl, _, World.drewN_drewN _ _ _⟩ | exact ⟨rfl, _, Eq.trans (World.drewN_drewN _ _ _) (congrArg (World.drewN _) (Nat.add_assoc _ _ _))⟩); have p238 : 0 ≤ ((ji8) : Int) := zP (by assumption); have q238 : (ji8) < (l0.length : Int) := zP (by assumption); obtain ⟨ad238, e238, hx238_0, hx238_1⟩ := at_T96 HR0.out (ji8) p238 q238; obtain rfl : ad235 = ad238 := (by injection e238); have hn238_0 : ad235.block ≠ gb236 := Nat.ne_of_lt (Nat.lt_of_lt_of_le (by have := zQ _ _ hx238_0; first | rwa [add_block] at this | exact this) GW236.out); have hn238_1 : ad235.block ≠ gb236 := Nat.ne_of_lt (Nat.lt_of_lt_of_le (by have := zQ _ _ hx238_0; first | rwa [add_block] at this | exact this) GW236.out); replace hx238_0 := (HB.out.cell (zQ w _ hx238_0)).trans hx238_0; replace hx238_1 := (HB.out.cell (zQ w _ hx238_1)).trans hx238_1; replace hx238_0 := (cell_far (p := ⟨gb236, 0, none⟩) (by first | (rw [add_block]; exact hn238_0) | (show (Addr.add _ _).block ≠ _; rw [add_block]; exact hn238_0) | exact hn238_0) (.int .i64 ((rd_T96 l0 x7_1).f0))).trans hx238_0; replace hx238_1 := (cell_far (p := ⟨gb236, 0, none⟩) (by first | (rw [add_block]; exact hn238_0) | (show (Addr.add _ _).block ≠ _; rw [add_block]; exact hn238_0) | exact hn238_0) (.int .i64 ((rd_T96 l0 x7_1).f0))).trans hx238_1; replace hx238_0 := (cell_far (p := ⟨gb236, 1, none⟩) (by first | (rw [add_block]; exact hn238_1) | (show (Addr.add _ _).block ≠ _; rw [add_block]; exact hn238_1) | exact hn238_1) (.string ((rd_T96 l0 x7_1).f1))).trans hx238_0; replace hx238_1 := (cell_far (p := ⟨gb236, 1, none⟩) (by first | (rw [add_block]; exact hn238_1) | (show (Addr.add _ _).block ≠ _; rw [add_block]; exact hn238_1) | exact hn238_1) (.string ((rd_T96 l0 x7_1).f1))).trans hx238_1; (try have hy238_0 := fun (n_ : Nat) => (show ((((w12.drewN n_).setCell ⟨gb236, 0, none⟩ (.int .i64 ((rd_T96 l0 x7_1).f0))).setCell ⟨gb236, 1, none⟩ (.string ((rd_T96 l0 x7_1).f1)))).cell? _ = some _ from hx238_0)); (try have hy238_1 := fun (n_ : Nat) => (show ((((w12.drewN n_).setCell ⟨gb236, 0, none⟩ (.int .i64 ((rd_T96 l0 x7_1).f0))).setCell ⟨gb236, 1, none⟩ (.string ((rd_T96 l0 x7_1).f1)))).cell? _ = some _ from hx238_1)); clear hn238_0; clear hn238_1; replace p238 := eq_true p238; replace q238 := eq_true q238)); try go_wp2_with (first | ((with_reducible refine gate_dst (N := 4) rfl ?_); refine box_event ?hg (N := 4) ?hd (cs := #[.int .i64 0, .string (⟨#[]⟩ : ByteArray)]) (t := 96) ?hr ?_; (case hd => rfl); (case hg => rfl); (case hr => first | (go_simp; done) | (go_simp; rfl)); intro gb236 hg w12 hbox hb; have n0_ := yD (zC (by repeat (first | (with_reducible first | exact HB.out | apply yQ | apply yL | apply yP) | exact HB.out)) hb); have n1_ := yD (hbox); have n2_ := yD ((by rw [hg]; exact (below_size (by repeat (first | (with_reducible first | exact HB.out | apply yQ | apply yL | apply yP) | exact HB.out))) : w.heap.size ≤ gb236)); have n3_ := yD ((by rw [hg]; exact (below_size (by repeat (first | (with_reducible first | exact HB.out | apply yQ | apply yL | apply yP) | exact HB.out))) : w.heap.size ≤ gb236)); clear HB; have HB := n0_; have BK236 := n1_; have GW236 := n2_; have GE236 := n3_; clear n0_ n1_ n2_ n3_; clear hb hbox hg; obtain ⟨hcz13_0, hcz13_1⟩ := cz2 BK236.out; obtain ⟨hfz13_0, hfz13_1⟩ := fz2 BK236.out) | (go_at_call 37; (with_reducible refine (impl_within.calls ((rd_T96 l0 x7_1).f0) 0 255 true _ A5.out).mono ?_); rintro e w' ⟨rfl, ⟨nd, rfl⟩⟩; (try first | exact ⟨rfl, _, World.drewN_drewN _ _ _⟩ | exact ⟨rfl, _, Eq.trans (World.drewN_drewN _ _ _) (congrArg (World.drewN _) (Nat.add_assoc _ _ _))⟩); have p238 : 0 ≤ ((ji8) : Int) := zP (by assumption); have q238 : (ji8) < (l0.length : Int) := zP (by assumption); obtain ⟨ad238, e238, hx238_0, hx238_1⟩ := at_T96 HR0.out (ji8) p238 q238; obtain rfl : ad235 = ad238 := (by injection e238); have hn238_0 : ad235.block ≠ gb236 := Nat.ne_of_lt (Nat.lt_of_lt_of_le (by have := zQ _ _ hx238_0; first | rwa [add_block] at this | exact this) GW236.out); have hn238_1 : ad235.block ≠ gb236 := Nat.ne_of_lt (Nat.lt_of_lt_of_le (by have := zQ _ _ hx238_0; first | rwa [add_block] at this | exact this) GW236.out); replace hx238_0 := (HB.out.cell (zQ w _ hx238_0)).trans hx238_0; replace hx238_1 := (HB.out.cell (zQ w _ hx238_1)).trans hx238_1; replace hx238_0 := (cell_far (p := ⟨gb236, 0, none⟩) (by first | (rw [add_block]; exact hn238_0) | (show (Addr.add _ _).block ≠ _; rw [add_block]; exact hn238_0) | exact hn238_0) (.int .i64 ((rd_T96 l0 x7_1).f0))).trans hx238_0; replace hx238_1 := (cell_far (p := ⟨gb236, 0, none⟩) (by first | (rw [add_block]; exact hn238_0) | (show (Addr.add _ _).block ≠ _; rw [add_block]; exact hn238_0) | exact hn238_0) (.int .i64 ((rd_T96 l0 x7_1).f0))).trans hx238_1; replace hx238_0 := (cell_far (p := ⟨gb236, 1, none⟩) (by first | (rw [add_block]; exact hn238_1) | (show (Addr.add _ _).block ≠ _; rw [add_block]; exact hn238_1) | exact hn238_1) (.string ((rd_T96 l0 x7_1).f1))).trans hx238_0; replace hx238_1 := (cell_far (p := ⟨gb236, 1, none⟩) (by first | (rw [add_block]; exact hn238_1) | (show (Addr.add _ _).block ≠ _; rw [add_block]; exact hn238_1) | exact hn238_1) (.string ((rd_T96 l0 x7_1).f1))).trans hx238_1; (try have hy238_0 := fun (n_ : Nat) => (show ((((w12.drewN n_).setCell ⟨gb236, 0, none⟩ (.int .i64 ((rd_T96 l0 x7_1).f0))).setCell ⟨gb236, 1, none⟩ (.string ((rd_T96 l0 x7_1).f1)))).cell? _ = some _ from hx238_0)); (try have hy238_1 := fun (n_ : Nat) => (show ((((w12.drewN n_).setCell ⟨gb236, 0, none⟩ (.int .i64 ((rd_T96 l0 x7_1).f0))).setCell ⟨gb236, 1, none⟩ (.string ((rd_T96 l0 x7_1).f1)))).cell? _ = some _ from hx238_1)); clear hn238_0; clear hn238_1; replace p238 := eq_true p238; replace q238 := eq_true q238)))
                      go_ret
                      exact ⟨by first | rfl | (simp [errW_none, errW_some] <;> rfl) | (simp only [← hji8]; first | rfl | (simp [errW_none, errW_some] <;> rfl)) | (simp [*, errW_none, errW_some] <;> rfl), by repeat (first | (with_reducible first | exact HB.out | apply yQ | apply yL | apply yP | refine yE ?_ GE236.out) | exact HB.out)⟩
                    · rw [if_neg c11] at H
                      have c11b0 : decide (((rd_T96 l0 x7_1).f0) ≤ ((rd_T96 l0 (ji8)).f0)) = false := zS c11; clear c11
                      obtain ⟨t239, A140, H⟩ := zW_ H
                      replace H : (if t239 = true then (impl_ValidPages.l0 k1 l0 l0 (l0.length : Int) (wrap64 (x7_1 + 1))) else (some false)) = some r := H
                      have A14 := yD A140
                      clear A140
                      by_cases c15 : t239 = true
                      · subst c15
                        have H1 : (impl_ValidPages.l0 k1 l0 l0 (l0.length : Int) (wrap64 (x7_1 + 1))) = some r := by rw [if_pos rfl] at H; exact H
                        clear H; have H := H1; clear H1
                        have H' := yD H
                        clear H
                        have p235 : 0 ≤ (x7_1 : Int) := zP (by assumption)
                        have q235 : x7_1 < (l0.length : Int) := zP (by assumption)
                        obtain ⟨ad235, e235, hx235_0, hx235_1⟩ := at_T96 HR0.out x7_1 p235 q235
                        cases e235
                        replace hx235_0 := (HB.out.cell (zQ w _ hx235_0)).trans hx235_0
                        replace hx235_1 := (HB.out.cell (zQ w _ hx235_1)).trans hx235_1
                        replace p235 := eq_true p235; replace q235 := eq_true q235
                        go_wp2_with (first | ((with_reducible refine gate_dst (N := 4) rfl ?_); refine box_event ?hg (N := 4) ?hd (cs := #[.int .i64 0, .string (⟨#[]⟩ : ByteArray)]) (t := 96) ?hr ?_; (case hd => rfl); (case hg => rfl); (case hr => first | (go_simp; done) | (go_simp; rfl)); intro gb236 hg w16 hbox hb; have n0_ := yD (zC (by repeat (first | (with_reducible first | exact HB.out | apply yQ | apply yL | apply yP) | exact HB.out)) hb); have n1_ := yD (hbox); have n2_ := yD ((by rw [hg]; exact (below_size (by repeat (first | (with_reducible first | exact HB.out | apply yQ | apply yL | apply yP) | exact HB.out))) : w.heap.size ≤ gb236)); have n3_ := yD ((by rw [hg]; exact (below_size (by repeat (first | (with_reducible first | exact HB.out | apply yQ | apply yL | apply yP) | exact HB.out))) : w.heap.size ≤ gb236)); clear HB; have HB := n0_; have BK236 := n1_; have GW236 := n2_; have GE236 := n3_; clear n0_ n1_ n2_ n3_; clear hb hbox hg; obtain ⟨hcz17_0, hcz17_1⟩ := cz2 BK236.out; obtain ⟨hfz17_0, hfz17_1⟩ := fz2 BK236.out) | (go_at_call 37; (with_reducible refine (impl_within.calls ((rd_T96 l0 x7_1).f0) 0 255 true _ A5.out).mono ?_); rintro e w' ⟨rfl, ⟨nd, rfl⟩⟩; (try first | exact ⟨rfl, _, World.drewN_drewN _ _ _⟩ | exact ⟨rfl, _, Eq.trans (World.drewN_drewN _ _ _) (congrArg (World.drewN _) (Nat.add_assoc _ _ _))⟩); have p238 : 0 ≤ ((ji8) : Int) := zP (by assumption); have q238 : (ji8) < (l0.length : Int) := zP (by assumption); obtain ⟨ad238, e238, hx238_0, hx238_1⟩ := at_T96 HR0.out (ji8) p238 q238; obtain rfl : ad235 = ad238 := (by injection e238); have hn238_0 : ad235.block ≠ gb236 := Nat.ne_of_lt (Nat.lt_of_lt_of_le (by have := zQ _ _ hx238_0; first | rwa [add_block] at this | exact this) GW236.out); have hn238_1 : ad235.block ≠ gb236 := Nat.ne_of_lt (Nat.lt_of_lt_of_le (by have := zQ _ _ hx238_0; first | rwa [add_block] at this | exact this) GW236.out); replace hx238_0 := (HB.out.cell (zQ w _ hx238_0)).trans hx238_0; replace hx238_1 := (HB.out.cell (zQ w _ hx238_1)).trans hx238_1; replace hx238_0 := (cell_far (p := ⟨gb236, 0, none⟩) (by first | (rw [add_block]; exact hn238_0) | (show (Addr.add _ _).block ≠ _; rw [add_block]; exact hn238_0) | exact hn238_0) (.int .i64 ((rd_T96 l0 x7_1).f0))).trans hx238_0; replace hx238_1 := (cell_far (p := ⟨gb236, 0, none⟩) (by first | (rw [add_block]; exact hn238_0) | (show (Addr.add _ _).block ≠ _; rw [add_block]; exact hn238_0) | exact hn238_0) (.int .i64 ((rd_T96 l0 x7_1).f0))).trans hx238_1; replace hx238_0 := (cell_far (p := ⟨gb236, 1, none⟩) (by first | (rw [add_block]; exact hn238_1) | (show (Addr.add _ _).block ≠ _; rw [add_block]; exact hn238_1) | exact hn238_1) (.string ((rd_T96 l0 x7_1).f1))).trans hx238_0; replace hx238_1 := (cell_far (p := ⟨gb236, 1, none⟩) (by first | (rw [add_block]; exact hn238_1) | (show (Addr.add _ _).block ≠ _; rw [add_block]; exact hn238_1) | exact hn238_1) (.string ((rd_T96 l0 x7_1).f1))).trans hx238_1; (try have hy238_0 := fun (n_ : Nat) => (show ((((w16.drewN n_).setCell ⟨gb236, 0, none⟩ (.int .i64 ((rd_T96 l0 x7_1).f0))).setCell ⟨gb236, 1, none⟩ (.string ((rd_T96 l0 x7_1).f1)))).cell? _ = some _ from hx238_0)); (try have hy238_1 := fun (n_ : Nat) => (show ((((w16.drewN n_).setCell ⟨gb236, 0, none⟩ (.int .i64 ((rd_T96 l0 x7_1).f0))).setCell ⟨gb236, 1, none⟩ (.string ((rd_T96 l0 x7_1).f1)))).cell? _ = some _ from hx238_1)); clear hn238_0; clear hn238_1; replace p238 := eq_true p238; replace q238 := eq_true q238) | (go_at_call 48; (with_reducible refine (impl_isBlock.calls ((rd_T96 l0 x7_1).f1) true _ A14.out).mono ?_); rintro e w' ⟨rfl, ⟨nd, rfl⟩⟩; (try first | exact ⟨rfl, _, World.drewN_drewN _ _ _⟩ | exact ⟨rfl, _, Eq.trans (World.drewN_drewN _ _ _) (congrArg (World.drewN _) (Nat.add_assoc _ _ _))⟩)))
                        repeat (go_quiet (first | ((with_reducible refine gate_dst (N := 4) rfl ?_); refine box_event ?hg (N := 4) ?hd (cs := #[.int .i64 0, .string (⟨#[]⟩ : ByteArray)]) (t := 96) ?hr ?_; (case hd => rfl); (case hg => rfl); (case hr => first | (go_simp; done) | (go_simp; rfl)); intro gb236 hg w16 hbox hb; have n0_ := yD (zC (by repeat (first | (with_reducible first | exact HB.out | apply yQ | apply yL | apply yP) | exact HB.out)) hb); have n1_ := yD (hbox); have n2_ := yD ((by rw [hg]; exact (below_size (by repeat (first | (with_reducible first | exact HB.out | apply yQ | apply yL | apply yP) | exact HB.out))) : w.heap.size ≤ gb236)); have n3_ := yD ((by rw [hg]; exact (below_size (by repeat (first | (with_reducible first | exact HB.out | apply yQ | apply yL | apply yP) | exact HB.out))) : w.heap.size ≤ gb236)); clear HB; have HB := n0_; have BK236 := n1_; have GW236 := n2_; have GE236 := n3_; clear n0_ n1_ n2_ n3_; clear hb hbox hg; obtain ⟨hcz17_0, hcz17_1⟩ := cz2 BK236.out; obtain ⟨hfz17_0, hfz17_1⟩ := fz2 BK236.out) | (go_at_call 37; (with_reducible refine (impl_within.calls ((rd_T96 l0 x7_1).f0) 0 255 true _ A5.out).mono ?_); rintro e w' ⟨rfl, ⟨nd, rfl⟩⟩; (try first | exact ⟨rfl, _, World.drewN_drewN _ _ _⟩ | exact ⟨rfl, _, Eq.trans (World.drewN_drewN _ _ _) (congrArg (World.drewN _) (Nat.add_assoc _ _ _))⟩); have p238 : 0 ≤ ((ji8) : Int) := zP (by assumption); have q238 : (ji8) < (l0.length : Int) := zP (by assumption); obtain ⟨ad238, e238, hx238_0, hx238_1⟩ := at_T96 HR0.out (ji8) p238 q238; obtain rfl : ad235 = ad238 := (by injection e238); have hn238_0 : ad235.block ≠ gb236 := Nat.ne_of_lt (Nat.lt_of_lt_of_le (by have := zQ _ _ hx238_0; first | rwa [add_block] at this | exact this) GW236.out); have hn238_1 : ad235.block ≠ gb236 := Nat.ne_of_lt (Nat.lt_of_lt_of_le (by have := zQ _ _ hx238_0; first | rwa [add_block] at this | exact this) GW236.out); replace hx238_0 := (HB.out.cell (zQ w _ hx238_0)).trans hx238_0; replace hx238_1 := (HB.out.cell (zQ w _ hx238_1)).trans hx238_1; replace hx238_0 := (cell_far (p := ⟨gb236, 0, none⟩) (by first | (rw [add_block]; exact hn238_0) | (show (Addr.add _ _).block ≠ _; rw [add_block]; exact hn238_0) | exact hn238_0) (.int .i64 ((rd_T96 l0 x7_1).f0))).trans hx238_0; replace hx238_1 := (cell_far (p := ⟨gb236, 0, none⟩) (by first | (rw [add_block]; exact hn238_0) | (show (Addr.add _ _).block ≠ _; rw [add_block]; exact hn238_0) | exact hn238_0) (.int .i64 ((rd_T96 l0 x7_1).f0))).trans hx238_1; replace hx238_0 := (cell_far (p := ⟨gb236, 1, none⟩) (by first | (rw [add_block]; exact hn238_1) | (show (Addr.add _ _).block ≠ _; rw [add_block]; exact hn238_1) | exact hn238_1) (.string ((rd_T96 l0 x7_1).f1))).trans hx238_0; replace hx238_1 := (cell_far (p := ⟨gb236, 1, none⟩) (by first | (rw [add_block]; exact hn238_1) | (show (Addr.add _ _).block ≠ _; rw [add_block]; exact hn238_1) | exact hn238_1) (.string ((rd_T96 l0 x7_1).f1))).trans hx238_1; (try have hy238_0 := fun (n_ : Nat) => (show ((((w16.drewN n_).setCell ⟨gb236, 0, none⟩ (.int .i64 ((rd_T96 l0 x7_1).f0))).setCell ⟨gb236, 1, none⟩ (.string ((rd_T96 l0 x7_1).f1)))).cell? _ = some _ from hx238_0)); (try have hy238_1 := fun (n_ : Nat) => (show ((((w16.drewN n_).setCell ⟨gb236, 0, none⟩ (.int .i64 ((rd_T96 l0 x7_1).f0))).setCell ⟨gb236, 1, none⟩ (.string ((rd_T96 l0 x7_1).f1)))).cell? _ = some _ from hx238_1)); clear hn238_0; clear hn238_1; replace p238 := eq_true p238; replace q238 := eq_true q238) | (go_at_call 48; (with_reducible refine (impl_isBlock.calls ((rd_T96 l0 x7_1).f1) true _ A14.out).mono ?_); rintro e w' ⟨rfl, ⟨nd, rfl⟩⟩; (try first | exact ⟨rfl, _, World.drewN_drewN _ _ _⟩ | exact ⟨rfl, _, Eq.trans (World.drewN_drewN _ _ _) (congrArg (World.drewN _) (Nat.add_assoc _ _ _))⟩))); try go_wp2_with (first | ((with_reducible refine gate_dst (N := 4) rfl ?_); refine box_event ?hg (N := 4) ?hd (cs := #[.int .i64 0, .string (⟨#[]⟩ : ByteArray)]) (t := 96) ?hr ?_; (case hd => rfl); (case hg => rfl); (case hr => first | (go_simp; done) | (go_simp; rfl)); intro gb236 hg w16 hbox hb; have n0_ := yD (zC (by repeat (first | (with_reducible first | exact HB.out | apply yQ | apply yL | apply yP) | exact HB.out)) hb); have n1_ := yD (hbox); have n2_ := yD ((by rw [hg]; exact (below_size (by repeat (first | (with_reducible first | exact HB.out | apply yQ | apply yL | apply yP) | exact HB.out))) : w.heap.size ≤ gb236)); have n3_ := yD ((by rw [hg]; exact (below_size (by repeat (first | (with_reducible first | exact HB.out | apply yQ | apply yL | apply yP) | exact HB.out))) : w.heap.size ≤ gb236)); clear HB; have HB := n0_; have BK236 := n1_; have GW236 := n2_; have GE236 := n3_; clear n0_ n1_ n2_ n3_; clear hb hbox hg; obtain ⟨hcz17_0, hcz17_1⟩ := cz2 BK236.out; obtain ⟨hfz17_0, hfz17_1⟩ := fz2 BK236.out) | (go_at_call 37; (with_reducible refine (impl_within.calls ((rd_T96 l0 x7_1).f0) 0 255 true _ A5.out).mono ?_); rintro e w' ⟨rfl, ⟨nd, rfl⟩⟩; (try first | exact ⟨rfl, _, World.drewN_drewN _ _ _⟩ | exact ⟨rfl, _, Eq.trans (World.drewN_drewN _ _ _) (congrArg (World.drewN _) (Nat.add_assoc _ _ _))⟩); have p238 : 0 ≤ ((ji8) : Int) := zP (by assumption); have q238 : (ji8) < (l0.length : Int) := zP (by assumption); obtain ⟨ad238, e238, hx238_0, hx238_1⟩ := at_T96 HR0.out (ji8) p238 q238; obtain rfl : ad235 = ad238 := (by injection e238); have hn238_0 : ad235.block ≠ gb236 := Nat.ne_of_lt (Nat.lt_of_lt_of_le (by have := zQ _ _ hx238_0; first | rwa [add_block] at this | exact this) GW236.out); have hn238_1 : ad235.block ≠ gb236 := Nat.ne_of_lt (Nat.lt_of_lt_of_le (by have := zQ _ _ hx238_0; first | rwa [add_block] at this | exact this) GW236.out); replace hx238_0 := (HB.out.cell (zQ w _ hx238_0)).trans hx238_0; replace hx238_1 := (HB.out.cell (zQ w _ hx238_1)).trans hx238_1; replace hx238_0 := (cell_far (p := ⟨gb236, 0, none⟩) (by first | (rw [add_block]; exact hn238_0) | (show (Addr.add _ _).block ≠ _; rw [add_block]; exact hn238_0) | exact hn238_0) (.int .i64 ((rd_T96 l0 x7_1).f0))).trans hx238_0; replace hx238_1 := (cell_far (p := ⟨gb236, 0, none⟩) (by first | (rw [add_block]; exact hn238_0) | (show (Addr.add _ _).block ≠ _; rw [add_block]; exact hn238_0) | exact hn238_0) (.int .i64 ((rd_T96 l0 x7_1).f0))).trans hx238_1; replace hx238_0 := (cell_far (p := ⟨gb236, 1, none⟩) (by first | (rw [add_block]; exact hn238_1) | (show (Addr.add _ _).block ≠ _; rw [add_block]; exact hn238_1) | exact hn238_1) (.string ((rd_T96 l0 x7_1).f1))).trans hx238_0; replace hx238_1 := (cell_far (p := ⟨gb236, 1, none⟩) (by first | (rw [add_block]; exact hn238_1) | (show (Addr.add _ _).block ≠ _; rw [add_block]; exact hn238_1) | exact hn238_1) (.string ((rd_T96 l0 x7_1).f1))).trans hx238_1; (try have hy238_0 := fun (n_ : Nat) => (show ((((w16.drewN n_).setCell ⟨gb236, 0, none⟩ (.int .i64 ((rd_T96 l0 x7_1).f0))).setCell ⟨gb236, 1, none⟩ (.string ((rd_T96 l0 x7_1).f1)))).cell? _ = some _ from hx238_0)); (try have hy238_1 := fun (n_ : Nat) => (show ((((w16.drewN n_).setCell ⟨gb236, 0, none⟩ (.int .i64 ((rd_T96 l0 x7_1).f0))).setCell ⟨gb236, 1, none⟩ (.string ((rd_T96 l0 x7_1).f1)))).cell? _ = some _ from hx238_1)); clear hn238_0; clear hn238_1; replace p238 := eq_true p238; replace q238 := eq_true q238) | (go_at_call 48; (with_reducible refine (impl_isBlock.calls ((rd_T96 l0 x7_1).f1) true _ A14.out).mono ?_); rintro e w' ⟨rfl, ⟨nd, rfl⟩⟩; (try first | exact ⟨rfl, _, World.drewN_drewN _ _ _⟩ | exact ⟨rfl, _, Eq.trans (World.drewN_drewN _ _ _) (congrArg (World.drewN _) (Nat.add_assoc _ _ _))⟩))))
                        go_roundg k1
                        case measure => have := HK1.out; omega
                        case rel => exact ⟨(wrap64 (x7_1 + 1)), (by first | rfl | (simp; done) | (simp [*]; done)), H', ⟨by have := HK1.out; omega⟩, ⟨by repeat (first | (with_reducible first | exact HB.out | apply yQ | apply yL | apply yP | refine yE ?_ GE236.out) | exact HB.out)⟩⟩
                      · replace c15 := Bool.eq_false_iff.mpr c15
                        subst c15
                        have H1 : (some false) = some r := by rw [if_neg (show ¬ (false = true) by decide)] at H; exact H
                        clear H; have H := H1; clear H1; obtain rfl := Option.some.inj H
                        have p235 : 0 ≤ (x7_1 : Int) := zP (by assumption)
                        have q235 : x7_1 < (l0.length : Int) := zP (by assumption)
                        obtain ⟨ad235, e235, hx235_0, hx235_1⟩ := at_T96 HR0.out x7_1 p235 q235
                        cases e235
                        replace hx235_0 := (HB.out.cell (zQ w _ hx235_0)).trans hx235_0
                        replace hx235_1 := (HB.out.cell (zQ w _ hx235_1)).trans hx235_1
                        replace p235 := eq_true p235; replace q235 := eq_true q235
                        go_wp2_with (first | ((with_reducible refine gate_dst (N := 4) rfl ?_); refine box_event ?hg (N := 4) ?hd (cs := #[.int .i64 0, .string (⟨#[]⟩ : ByteArray)]) (t := 96) ?hr ?_; (case hd => rfl); (case hg => rfl); (case hr => first | (go_simp; done) | (go_simp; rfl)); intro gb236 hg w18 hbox hb; have n0_ := yD (zC (by repeat (first | (with_reducible first | exact HB.out | apply yQ | apply yL | apply yP) | exact HB.out)) hb); have n1_ := yD (hbox); have n2_ := yD ((by rw [hg]; exact (below_size (by repeat (first | (with_reducible first | exact HB.out | apply yQ | apply yL | apply yP) | exact HB.out))) : w.heap.size ≤ gb236)); have n3_ := yD ((by rw [hg]; exact (below_size (by repeat (first | (with_reducible first | exact HB.out | apply yQ | apply yL | apply yP) | exact HB.out))) : w.heap.size ≤ gb236)); clear HB; have HB := n0_; have BK236 := n1_; have GW236 := n2_; have GE236 := n3_; clear n0_ n1_ n2_ n3_; clear hb hbox hg; obtain ⟨hcz19_0, hcz19_1⟩ := cz2 BK236.out; obtain ⟨hfz19_0, hfz19_1⟩ := fz2 BK236.out) | (go_at_call 37; (with_reducible refine (impl_within.calls ((rd_T96 l0 x7_1).f0) 0 255 true _ A5.out).mono ?_); rintro e w' ⟨rfl, ⟨nd, rfl⟩⟩; (try first | exact ⟨rfl, _, World.drewN_drewN _ _ _⟩ | exact ⟨rfl, _, Eq.trans (World.drewN_drewN _ _ _) (congrArg (World.drewN _) (Nat.add_assoc _ _ _))⟩); have p238 : 0 ≤ ((ji8) : Int) := zP (by assumption); have q238 : (ji8) < (l0.length : Int) := zP (by assumption); obtain ⟨ad238, e238, hx238_0, hx238_1⟩ := at_T96 HR0.out (ji8) p238 q238; obtain rfl : ad235 = ad238 := (by injection e238); have hn238_0 : ad235.block ≠ gb236 := Nat.ne_of_lt (Nat.lt_of_lt_of_le (by have := zQ _ _ hx238_0; first | rwa [add_block] at this | exact this) GW236.out); have hn238_1 : ad235.block ≠ gb236 := Nat.ne_of_lt (Nat.lt_of_lt_of_le (by have := zQ _ _ hx238_0; first | rwa [add_block] at this | exact this) GW236.out); replace hx238_0 := (HB.out.cell (zQ w _ hx238_0)).trans hx238_0; replace hx238_1 := (HB.out.cell (zQ w _ hx238_1)).trans hx238_1; replace hx238_0 := (cell_far (p := ⟨gb236, 0, none⟩) (by first | (rw [add_block]; exact hn238_0) | (show (Addr.add _ _).block ≠ _; rw [add_block]; exact hn238_0) | exact hn238_0) (.int .i64 ((rd_T96 l0 x7_1).f0))).trans hx238_0; replace hx238_1 := (cell_far (p := ⟨gb236, 0, none⟩) (by first | (rw [add_block]; exact hn238_0) | (show (Addr.add _ _).block ≠ _; rw [add_block]; exact hn238_0) | exact hn238_0) (.int .i64 ((rd_T96 l0 x7_1).f0))).trans hx238_1; replace hx238_0 := (cell_far (p := ⟨gb236, 1, none⟩) (by first | (rw [add_block]; exact hn238_1) | (show (Addr.add _ _).block ≠ _; rw [add_block]; exact hn238_1) | exact hn238_1) (.string ((rd_T96 l0 x7_1).f1))).trans hx238_0; replace hx238_1 := (cell_far (p := ⟨gb236, 1, none⟩) (by first | (rw [add_block]; exact hn238_1) | (show (Addr.add _ _).block ≠ _; rw [add_block]; exact hn238_1) | exact hn238_1) (.string ((rd_T96 l0 x7_1).f1))).trans hx238_1; (try have hy238_0 := fun (n_ : Nat) => (show ((((w18.drewN n_).setCell ⟨gb236, 0, none⟩ (.int .i64 ((rd_T96 l0 x7_1).f0))).setCell ⟨gb236, 1, none⟩ (.string ((rd_T96 l0 x7_1).f1)))).cell? _ = some _ from hx238_0)); (try have hy238_1 := fun (n_ : Nat) => (show ((((w18.drewN n_).setCell ⟨gb236, 0, none⟩ (.int .i64 ((rd_T96 l0 x7_1).f0))).setCell ⟨gb236, 1, none⟩ (.string ((rd_T96 l0 x7_1).f1)))).cell? _ = some _ from hx238_1)); clear hn238_0; clear hn238_1; replace p238 := eq_true p238; replace q238 := eq_true q238) | (go_at_call 48; (with_reducible refine (impl_isBlock.calls ((rd_T96 l0 x7_1).f1) false _ A14.out).mono ?_); rintro e w' ⟨rfl, ⟨nd, rfl⟩⟩; (try first | exact ⟨rfl, _, World.drewN_drewN _ _ _⟩ | exact ⟨rfl, _, Eq.trans (World.drewN_drewN _ _ _) (congrArg (World.drewN _) (Nat.add_assoc _ _ _))⟩)))
                        repeat (go_quiet (first | ((with_reducible refine gate_dst (N := 4) rfl ?_); refine box_event ?hg (N := 4) ?hd (cs := #[.int .i64 0, .string (⟨#[]⟩ : ByteArray)]) (t := 96) ?hr ?_; (case hd => rfl); (case hg => rfl); (case hr => first | (go_simp; done) | (go_simp; rfl)); intro gb236 hg w18 hbox hb; have n0_ := yD (zC (by repeat (first | (with_reducible first | exact HB.out | apply yQ | apply yL | apply yP) | exact HB.out)) hb); have n1_ := yD (hbox); have n2_ := yD ((by rw [hg]; exact (below_size (by repeat (first | (with_reducible first | exact HB.out | apply yQ | apply yL | apply yP) | exact HB.out))) : w.heap.size ≤ gb236)); have n3_ := yD ((by rw [hg]; exact (below_size (by repeat (first | (with_reducible first | exact HB.out | apply yQ | apply yL | apply yP) | exact HB.out))) : w.heap.size ≤ gb236)); clear HB; have HB := n0_; have BK236 := n1_; have GW236 := n2_; have GE236 := n3_; clear n0_ n1_ n2_ n3_; clear hb hbox hg; obtain ⟨hcz19_0, hcz19_1⟩ := cz2 BK236.out; obtain ⟨hfz19_0, hfz19_1⟩ := fz2 BK236.out) | (go_at_call 37; (with_reducible refine (impl_within.calls ((rd_T96 l0 x7_1).f0) 0 255 true _ A5.out).mono ?_); rintro e w' ⟨rfl, ⟨nd, rfl⟩⟩; (try first | exact ⟨rfl, _, World.drewN_drewN _ _ _⟩ | exact ⟨rfl, _, Eq.trans (World.drewN_drewN _ _ _) (congrArg (World.drewN _) (Nat.add_assoc _ _ _))⟩); have p238 : 0 ≤ ((ji8) : Int) := zP (by assumption); have q238 : (ji8) < (l0.length : Int) := zP (by assumption); obtain ⟨ad238, e238, hx238_0, hx238_1⟩ := at_T96 HR0.out (ji8) p238 q238; obtain rfl : ad235 = ad238 := (by injection e238); have hn238_0 : ad235.block ≠ gb236 := Nat.ne_of_lt (Nat.lt_of_lt_of_le (by have := zQ _ _ hx238_0; first | rwa [add_block] at this | exact this) GW236.out); have hn238_1 : ad235.block ≠ gb236 := Nat.ne_of_lt (Nat.lt_of_lt_of_le (by have := zQ _ _ hx238_0; first | rwa [add_block] at this | exact this) GW236.out); replace hx238_0 := (HB.out.cell (zQ w _ hx238_0)).trans hx238_0; replace hx238_1 := (HB.out.cell (zQ w _ hx238_1)).trans hx238_1; replace hx238_0 := (cell_far (p := ⟨gb236, 0, none⟩) (by first | (rw [add_block]; exact hn238_0) | (show (Addr.add _ _).block ≠ _; rw [add_block]; exact hn238_0) | exact hn238_0) (.int .i64 ((rd_T96 l0 x7_1).f0))).trans hx238_0; replace hx238_1 := (cell_far (p := ⟨gb236, 0, none⟩) (by first | (rw [add_block]; exact hn238_0) | (show (Addr.add _ _).block ≠ _; rw [add_block]; exact hn238_0) | exact hn238_0) (.int .i64 ((rd_T96 l0 x7_1).f0))).trans hx238_1; replace hx238_0 := (cell_far (p := ⟨gb236, 1, none⟩) (by first | (rw [add_block]; exact hn238_1) | (show (Addr.add _ _).block ≠ _; rw [add_block]; exact hn238_1) | exact hn238_1) (.string ((rd_T96 l0 x7_1).f1))).trans hx238_0; replace hx238_1 := (cell_far (p := ⟨gb236, 1, none⟩) (by first | (rw [add_block]; exact hn238_1) | (show (Addr.add _ _).block ≠ _; rw [add_block]; exact hn238_1) | exact hn238_1) (.string ((rd_T96 l0 x7_1).f1))).trans hx238_1; (try have hy238_0 := fun (n_ : Nat) => (show ((((w18.drewN n_).setCell ⟨gb236, 0, none⟩ (.int .i64 ((rd_T96 l0 x7_1).f0))).setCell ⟨gb236, 1, none⟩ (.string ((rd_T96 l0 x7_1).f1)))).cell? _ = some _ from hx238_0)); (try have hy238_1 := fun (n_ : Nat) => (show ((((w18.drewN n_).setCell ⟨gb236, 0, none⟩ (.int .i64 ((rd_T96 l0 x7_1).f0))).setCell ⟨gb236, 1, none⟩ (.string ((rd_T96 l0 x7_1).f1)))).cell? _ = some _ from hx238_1)); clear hn238_0; clear hn238_1; replace p238 := eq_true p238; replace q238 := eq_true q238) | (go_at_call 48; (with_reducible refine (impl_isBlock.calls ((rd_T96 l0 x7_1).f1) false _ A14.out).mono ?_); rintro e w' ⟨rfl, ⟨nd, rfl⟩⟩; (try first | exact ⟨rfl, _, World.drewN_drewN _ _ _⟩ | exact ⟨rfl, _, Eq.trans (World.drewN_drewN _ _ _) (congrArg (World.drewN _) (Nat.add_assoc _ _ _))⟩))); try go_wp2_with (first | ((with_reducible refine gate_dst (N := 4) rfl ?_); refine box_event ?hg (N := 4) ?hd (cs := #[.int .i64 0, .string (⟨#[]⟩ : ByteArray)]) (t := 96) ?hr ?_; (case hd => rfl); (case hg => rfl); (case hr => first | (go_simp; done) | (go_simp; rfl)); intro gb236 hg w18 hbox hb; have n0_ := yD (zC (by repeat (first | (with_reducible first | exact HB.out | apply yQ | apply yL | apply yP) | exact HB.out)) hb); have n1_ := yD (hbox); have n2_ := yD ((by rw [hg]; exact (below_size (by repeat (first | (with_reducible first | exact HB.out | apply yQ | apply yL | apply yP) | exact HB.out))) : w.heap.size ≤ gb236)); have n3_ := yD ((by rw [hg]; exact (below_size (by repeat (first | (with_reducible first | exact HB.out | apply yQ | apply yL | apply yP) | exact HB.out))) : w.heap.size ≤ gb236)); clear HB; have HB := n0_; have BK236 := n1_; have GW236 := n2_; have GE236 := n3_; clear n0_ n1_ n2_ n3_; clear hb hbox hg; obtain ⟨hcz19_0, hcz19_1⟩ := cz2 BK236.out; obtain ⟨hfz19_0, hfz19_1⟩ := fz2 BK236.out) | (go_at_call 37; (with_reducible refine (impl_within.calls ((rd_T96 l0 x7_1).f0) 0 255 true _ A5.out).mono ?_); rintro e w' ⟨rfl, ⟨nd, rfl⟩⟩; (try first | exact ⟨rfl, _, World.drewN_drewN _ _ _⟩ | exact ⟨rfl, _, Eq.trans (World.drewN_drewN _ _ _) (congrArg (World.drewN _) (Nat.add_assoc _ _ _))⟩); have p238 : 0 ≤ ((ji8) : Int) := zP (by assumption); have q238 : (ji8) < (l0.length : Int) := zP (by assumption); obtain ⟨ad238, e238, hx238_0, hx238_1⟩ := at_T96 HR0.out (ji8) p238 q238; obtain rfl : ad235 = ad238 := (by injection e238); have hn238_0 : ad235.block ≠ gb236 := Nat.ne_of_lt (Nat.lt_of_lt_of_le (by have := zQ _ _ hx238_0; first | rwa [add_block] at this | exact this) GW236.out); have hn238_1 : ad235.block ≠ gb236 := Nat.ne_of_lt (Nat.lt_of_lt_of_le (by have := zQ _ _ hx238_0; first | rwa [add_block] at this | exact this) GW236.out); replace hx238_0 := (HB.out.cell (zQ w _ hx238_0)).trans hx238_0; replace hx238_1 := (HB.out.cell (zQ w _ hx238_1)).trans hx238_1; replace hx238_0 := (cell_far (p := ⟨gb236, 0, none⟩) (by first | (rw [add_block]; exact hn238_0) | (show (Addr.add _ _).block ≠ _; rw [add_block]; exact hn238_0) | exact hn238_0) (.int .i64 ((rd_T96 l0 x7_1).f0))).trans hx238_0; replace hx238_1 := (cell_far (p := ⟨gb236, 0, none⟩) (by first | (rw [add_block]; exact hn238_0) | (show (Addr.add _ _).block ≠ _; rw [add_block]; exact hn238_0) | exact hn238_0) (.int .i64 ((rd_T96 l0 x7_1).f0))).trans hx238_1; replace hx238_0 := (cell_far (p := ⟨gb236, 1, none⟩) (by first | (rw [add_block]; exact hn238_1) | (show (Addr.add _ _).block ≠ _; rw [add_block]; exact hn238_1) | exact hn238_1) (.string ((rd_T96 l0 x7_1).f1))).trans hx238_0; replace hx238_1 := (cell_far (p := ⟨gb236, 1, none⟩) (by first | (rw [add_block]; exact hn238_1) | (show (Addr.add _ _).block ≠ _; rw [add_block]; exact hn238_1) | exact hn238_1) (.string ((rd_T96 l0 x7_1).f1))).trans hx238_1; (try have hy238_0 := fun (n_ : Nat) => (show ((((w18.drewN n_).setCell ⟨gb236, 0, none⟩ (.int .i64 ((rd_T96 l0 x7_1).f0))).setCell ⟨gb236, 1, none⟩ (.string ((rd_T96 l0 x7_1).f1)))).cell? _ = some _ from hx238_0)); (try have hy238_1 := fun (n_ : Nat) => (show ((((w18.drewN n_).setCell ⟨gb236, 0, none⟩ (.int .i64 ((rd_T96 l0 x7_1).f0))).setCell ⟨gb236, 1, none⟩ (.string ((rd_T96 l0 x7_1).f1)))).cell? _ = some _ from hx238_1)); clear hn238_0; clear hn238_1; replace p238 := eq_true p238; replace q238 := eq_true q238) | (go_at_call 48; (with_reducible refine (impl_isBlock.calls ((rd_T96 l0 x7_1).f1) false _ A14.out).mono ?_); rintro e w' ⟨rfl, ⟨nd, rfl⟩⟩; (try first | exact ⟨rfl, _, World.drewN_drewN _ _ _⟩ | exact ⟨rfl, _, Eq.trans (World.drewN_drewN _ _ _) (congrArg (World.drewN _) (Nat.add_assoc _ _ _))⟩))))
                        go_ret
                        exact ⟨by first | rfl | (simp [errW_none, errW_some] <;> rfl) | (simp only [← hji8]; first | rfl | (simp [errW_none, errW_some] <;> rfl)) | (simp [*, errW_none, errW_some] <;> rfl), by repeat (first | (with_reducible first | exact HB.out | apply yQ | apply yL | apply yP | refine yE ?_ GE236.out) | exact HB.out)⟩
                  · rw [if_neg c10] at H
                    exact absurd H (by simp)
                · rw [if_neg c9] at H
                  exact absurd H (by simp)
              · rw [if_neg c7] at H
                have c7b0 : decide (0 < x7_1) = false := zS c7; clear c7
                obtain ⟨t240, A200, H⟩ := zW_ H
                replace H : (if t240 = true then (impl_ValidPages.l0 k1 l0 l0 (l0.length : Int) (wrap64 (x7_1 + 1))) else (some false)) = some r := H
                have A20 := yD A200
                clear A200
                by_cases c21 : t240 = true
                · subst c21
                  have H1 : (impl_ValidPages.l0 k1 l0 l0 (l0.length : Int) (wrap64 (x7_1 + 1))) = some r := by rw [if_pos rfl] at H; exact H
                  clear H; have H := H1; clear H1
                  have H' := yD H
                  clear H
                  have p235 : 0 ≤ (x7_1 : Int) := zP (by assumption)
                  have q235 : x7_1 < (l0.length : Int) := zP (by assumption)
                  obtain ⟨ad235, e235, hx235_0, hx235_1⟩ := at_T96 HR0.out x7_1 p235 q235
                  cases e235
                  replace hx235_0 := (HB.out.cell (zQ w _ hx235_0)).trans hx235_0
                  replace hx235_1 := (HB.out.cell (zQ w _ hx235_1)).trans hx235_1
                  replace p235 := eq_true p235; replace q235 := eq_true q235
                  go_wp2_with (first | ((with_reducible refine gate_dst (N := 4) rfl ?_); refine box_event ?hg (N := 4) ?hd (cs := #[.int .i64 0, .string (⟨#[]⟩ : ByteArray)]) (t := 96) ?hr ?_; (case hd => rfl); (case hg => rfl); (case hr => first | (go_simp; done) | (go_simp; rfl)); intro gb236 hg w22 hbox hb; have n0_ := yD (zC (by repeat (first | (with_reducible first | exact HB.out | apply yQ | apply yL | apply yP) | exact HB.out)) hb); have n1_ := yD (hbox); have n2_ := yD ((by rw [hg]; exact (below_size (by repeat (first | (with_reducible first | exact HB.out | apply yQ | apply yL | apply yP) | exact HB.out))) : w.heap.size ≤ gb236)); have n3_ := yD ((by rw [hg]; exact (below_size (by repeat (first | (with_reducible first | exact HB.out | apply yQ | apply yL | apply yP) | exact HB.out))) : w.heap.size ≤ gb236)); clear HB; have HB := n0_; have BK236 := n1_; have GW236 := n2_; have GE236 := n3_; clear n0_ n1_ n2_ n3_; clear hb hbox hg; obtain ⟨hcz23_0, hcz23_1⟩ := cz2 BK236.out; obtain ⟨hfz23_0, hfz23_1⟩ := fz2 BK236.out) | (go_at_call 37; (with_reducible refine (impl_within.calls ((rd_T96 l0 x7_1).f0) 0 255 true _ A5.out).mono ?_); rintro e w' ⟨rfl, ⟨nd, rfl⟩⟩; (try first | exact ⟨rfl, _, World.drewN_drewN _ _ _⟩ | exact ⟨rfl, _, Eq.trans (World.drewN_drewN _ _ _) (congrArg (World.drewN _) (Nat.add_assoc _ _ _))⟩)) | (go_at_call 48; (with_reducible refine (impl_isBlock.calls ((rd_T96 l0 x7_1).f1) true _ A20.out).mono ?_); rintro e w' ⟨rfl, ⟨nd, rfl⟩⟩; (try first | exact ⟨rfl, _, World.drewN_drewN _ _ _⟩ | exact ⟨rfl, _, Eq.trans (World.drewN_drewN _ _ _) (congrArg (World.drewN _) (Nat.add_assoc _ _ _))⟩)))
                  repeat (go_quiet (first | ((with_reducible refine gate_dst (N := 4) rfl ?_); refine box_event ?hg (N := 4) ?hd (cs := #[.int .i64 0, .string (⟨#[]⟩ : ByteArray)]) (t := 96) ?hr ?_; (case hd => rfl); (case hg => rfl); (case hr => first | (go_simp; done) | (go_simp; rfl)); intro gb236 hg w22 hbox hb; have n0_ := yD (zC (by repeat (first | (with_reducible first | exact HB.out | apply yQ | apply yL | apply yP) | exact HB.out)) hb); have n1_ := yD (hbox); have n2_ := yD ((by rw [hg]; exact (below_size (by repeat (first | (with_reducible first | exact HB.out | apply yQ | apply yL | apply yP) | exact HB.out))) : w.heap.size ≤ gb236)); have n3_ := yD ((by rw [hg]; exact (below_size (by repeat (first | (with_reducible first | exact HB.out | apply yQ | apply yL | apply yP) | exact HB.out))) : w.heap.size ≤ gb236)); clear HB; have HB := n0_; have BK236 := n1_; have GW236 := n2_; have GE236 := n3_; clear n0_ n1_ n2_ n3_; clear hb hbox hg; obtain ⟨hcz23_0, hcz23_1⟩ := cz2 BK236.out; obtain ⟨hfz23_0, hfz23_1⟩ := fz2 BK236.out) | (go_at_call 37; (with_reducible refine (impl_within.calls ((rd_T96 l0 x7_1).f0) 0 255 true _ A5.out).mono ?_); rintro e w' ⟨rfl, ⟨nd, rfl⟩⟩; (try first | exact ⟨rfl, _, World.drewN_drewN _ _ _⟩ | exact ⟨rfl, _, Eq.trans (World.drewN_drewN _ _ _) (congrArg (World.drewN _) (Nat.add_assoc _ _ _))⟩)) | (go_at_call 48; (with_reducible refine (impl_isBlock.calls ((rd_T96 l0 x7_1).f1) true _ A20.out).mono ?_); rintro e w' ⟨rfl, ⟨nd, rfl⟩⟩; (try first | exact ⟨rfl, _, World.drewN_drewN _ _ _⟩ | exact ⟨rfl, _, Eq.trans (World.drewN_drewN _ _ _) (congrArg (World.drewN _) (Nat.add_assoc _ _ _))⟩))); try go_wp2_with (first | ((with_reducible refine gate_dst (N := 4) rfl ?_); refine box_event ?hg (N := 4) ?hd (cs := #[.int .i64 0, .string (⟨#[]⟩ : ByteArray)]) (t := 96) ?hr ?_; (case hd => rfl); (case hg => rfl); (case hr => first | (go_simp; done) | (go_simp; rfl)); intro gb236 hg w22 hbox hb; have n0_ := yD (zC (by repeat (first | (with_reducible first | exact HB.out | apply yQ | apply yL | apply yP) | exact HB.out)) hb); have n1_ := yD (hbox); have n2_ := yD ((by rw [hg]; exact (below_size (by repeat (first | (with_reducible first | exact HB.out | apply yQ | apply yL | apply yP) | exact HB.out))) : w.heap.size ≤ gb236)); have n3_ := yD ((by rw [hg]; exact (below_size (by repeat (first | (with_reducible first | exact HB.out | apply yQ | apply yL | apply yP) | exact HB.out))) : w.heap.size ≤ gb236)); clear HB; have HB := n0_; have BK236 := n1_; have GW236 := n2_; have GE236 := n3_; clear n0_ n1_ n2_ n3_; clear hb hbox hg; obtain ⟨hcz23_0, hcz23_1⟩ := cz2 BK236.out; obtain ⟨hfz23_0, hfz23_1⟩ := fz2 BK236.out) | (go_at_call 37; (with_reducible refine (impl_within.calls ((rd_T96 l0 x7_1).f0) 0 255 true _ A5.out).mono ?_); rintro e w' ⟨rfl, ⟨nd, rfl⟩⟩; (try first | exact ⟨rfl, _, World.drewN_drewN _ _ _⟩ | exact ⟨rfl, _, Eq.trans (World.drewN_drewN _ _ _) (congrArg (World.drewN _) (Nat.add_assoc _ _ _))⟩)) | (go_at_call 48; (with_reducible refine (impl_isBlock.calls ((rd_T96 l0 x7_1).f1) true _ A20.out).mono ?_); rintro e w' ⟨rfl, ⟨nd, rfl⟩⟩; (try first | exact ⟨rfl, _, World.drewN_drewN _ _ _⟩ | exact ⟨rfl, _, Eq.trans (World.drewN_drewN _ _ _) (congrArg (World.drewN _) (Nat.add_assoc _ _ _))⟩))))
                  go_roundg k1
                  case measure => have := HK1.out; omega
                  case rel => exact ⟨(wrap64 (x7_1 + 1)), (by first | rfl | (simp; done) | (simp [*]; done)), H', ⟨by have := HK1.out; omega⟩, ⟨by repeat (first | (with_reducible first | exact HB.out | apply yQ | apply yL | apply yP | refine yE ?_ GE236.out) | exact HB.out)⟩⟩
                · replace c21 := Bool.eq_false_iff.mpr c21
                  subst c21
                  have H1 : (some false) = some r := by rw [if_neg (show ¬ (false = true) by decide)] at H; exact H
                  clear H; have H := H1; clear H1; obtain rfl := Option.some.inj H
                  have p235 : 0 ≤ (x7_1 : Int) := zP (by assumption)
                  have q235 : x7_1 < (l0.length : Int) := zP (by assumption)
                  obtain ⟨ad235, e235, hx235_0, hx235_1⟩ := at_T96 HR0.out x7_1 p235 q235
                  cases e235
                  replace hx235_0 := (HB.out.cell (zQ w _ hx235_0)).trans hx235_0
                  replace hx235_1 := (HB.out.cell (zQ w _ hx235_1)).trans hx235_1
                  replace p235 := eq_true p235; replace q235 := eq_true q235
                  go_wp2_with (first | ((with_reducible refine gate_dst (N := 4) rfl ?_); refine box_event ?hg (N := 4) ?hd (cs := #[.int .i64 0, .string (⟨#[]⟩ : ByteArray)]) (t := 96) ?hr ?_; (case hd => rfl); (case hg => rfl); (case hr => first | (go_simp; done) | (go_simp; rfl)); intro gb236 hg w24 hbox hb; have n0_ := yD (zC (by repeat (first | (with_reducible first | exact HB.out | apply yQ | apply yL | apply yP) | exact HB.out)) hb); have n1_ := yD (hbox); have n2_ := yD ((by rw [hg]; exact (below_size (by repeat (first | (with_reducible first | exact HB.out | apply yQ | apply yL | apply yP) | exact HB.out))) : w.heap.size ≤ gb236)); have n3_ := yD ((by rw [hg]; exact (below_size (by repeat (first | (with_reducible first | exact HB.out | apply yQ | apply yL | apply yP) | exact HB.out))) : w.heap.size ≤ gb236)); clear HB; have HB := n0_; have BK236 := n1_; have GW236 := n2_; have GE236 := n3_; clear n0_ n1_ n2_ n3_; clear hb hbox hg; obtain ⟨hcz25_0, hcz25_1⟩ := cz2 BK236.out; obtain ⟨hfz25_0, hfz25_1⟩ := fz2 BK236.out) | (go_at_call 37; (with_reducible refine (impl_within.calls ((rd_T96 l0 x7_1).f0) 0 255 true _ A5.out).mono ?_); rintro e w' ⟨rfl, ⟨nd, rfl⟩⟩; (try first | exact ⟨rfl, _, World.drewN_drewN _ _ _⟩ | exact ⟨rfl, _, Eq.trans (World.drewN_drewN _ _ _) (congrArg (World.drewN _) (Nat.add_assoc _ _ _))⟩)) | (go_at_call 48; (with_reducible refine (impl_isBlock.calls ((rd_T96 l0 x7_1).f1) false _ A20.out).mono ?_); rintro e w' ⟨rfl, ⟨nd, rfl⟩⟩; (try first | exact ⟨rfl, _, World.drewN_drewN _ _ _⟩ | exact ⟨rfl, _, Eq.trans (World.drewN_drewN _ _ _) (congrArg (World.drewN _) (Nat.add_assoc _ _ _))⟩)))
                  repeat (go_quiet (first | ((with_reducible refine gate_dst (N := 4) rfl ?_); refine box_event ?hg (N := 4) ?hd (cs := #[.int .i64 0, .string (⟨#[]⟩ : ByteArray)]) (t := 96) ?hr ?_; (case hd => rfl); (case hg => rfl); (case hr => first | (go_simp; done) | (go_simp; rfl)); intro gb236 hg w24 hbox hb; have n0_ := yD (zC (by repeat (first | (with_reducible first | exact HB.out | apply yQ | apply yL | apply yP) | exact HB.out)) hb); have n1_ := yD (hbox); have n2_ := yD ((by rw [hg]; exact (below_size (by repeat (first | (with_reducible first | exact HB.out | apply yQ | apply yL | apply yP) | exact HB.out))) : w.heap.size ≤ gb236)); have n3_ := yD ((by rw [hg]; exact (below_size (by repeat (first | (with_reducible first | exact HB.out | apply yQ | apply yL | apply yP) | exact HB.out))) : w.heap.size ≤ gb236)); clear HB; have HB := n0_; have BK236 := n1_; have GW236 := n2_; have GE236 := n3_; clear n0_ n1_ n2_ n3_; clear hb hbox hg; obtain ⟨hcz25_0, hcz25_1⟩ := cz2 BK236.out; obtain ⟨hfz25_0, hfz25_1⟩ := fz2 BK236.out) | (go_at_call 37; (with_reducible refine (impl_within.calls ((rd_T96 l0 x7_1).f0) 0 255 true _ A5.out).mono ?_); rintro e w' ⟨rfl, ⟨nd, rfl⟩⟩; (try first | exact ⟨rfl, _, World.drewN_drewN _ _ _⟩ | exact ⟨rfl, _, Eq.trans (World.drewN_drewN _ _ _) (congrArg (World.drewN _) (Nat.add_assoc _ _ _))⟩)) | (go_at_call 48; (with_reducible refine (impl_isBlock.calls ((rd_T96 l0 x7_1).f1) false _ A20.out).mono ?_); rintro e w' ⟨rfl, ⟨nd, rfl⟩⟩; (try first | exact ⟨rfl, _, World.drewN_drewN _ _ _⟩ | exact ⟨rfl, _, Eq.trans (World.drewN_drewN _ _ _) (congrArg (World.drewN _) (Nat.add_assoc _ _ _))⟩))); try go_wp2_with (first | ((with_reducible refine gate_dst (N := 4) rfl ?_); refine box_event ?hg (N := 4) ?hd (cs := #[.int .i64 0, .string (⟨#[]⟩ : ByteArray)]) (t := 96) ?hr ?_; (case hd => rfl); (case hg => rfl); (case hr => first | (go_simp; done) | (go_simp; rfl)); intro gb236 hg w24 hbox hb; have n0_ := yD (zC (by repeat (first | (with_reducible first | exact HB.out | apply yQ | apply yL | apply yP) | exact HB.out)) hb); have n1_ := yD (hbox); have n2_ := yD ((by rw [hg]; exact (below_size (by repeat (first | (with_reducible first | exact HB.out | apply yQ | apply yL | apply yP) | exact HB.out))) : w.heap.size ≤ gb236)); have n3_ := yD ((by rw [hg]; exact (below_size (by repeat (first | (with_reducible first | exact HB.out | apply yQ | apply yL | apply yP) | exact HB.out))) : w.heap.size ≤ gb236)); clear HB; have HB := n0_; have BK236 := n1_; have GW236 := n2_; have GE236 := n3_; clear n0_ n1_ n2_ n3_; clear hb hbox hg; obtain ⟨hcz25_0, hcz25_1⟩ := cz2 BK236.out; obtain ⟨hfz25_0, hfz25_1⟩ := fz2 BK236.out) | (go_at_call 37; (with_reducible refine (impl_within.calls ((rd_T96 l0 x7_1).f0) 0 255 true _ A5.out).mono ?_); rintro e w' ⟨rfl, ⟨nd, rfl⟩⟩; (try first | exact ⟨rfl, _, World.drewN_drewN _ _ _⟩ | exact ⟨rfl, _, Eq.trans (World.drewN_drewN _ _ _) (congrArg (World.drewN _) (Nat.add_assoc _ _ _))⟩)) | (go_at_call 48; (with_reducible refine (impl_isBlock.calls ((rd_T96 l0 x7_1).f1) false _ A20.out).mono ?_); rintro e w' ⟨rfl, ⟨nd, rfl⟩⟩; (try first | exact ⟨rfl, _, World.drewN_drewN _ _ _⟩ | exact ⟨rfl, _, Eq.trans (World.drewN_drewN _ _ _) (congrArg (World.drewN _) (Nat.add_assoc _ _ _))⟩))))
                  go_ret
                  exact ⟨by first | rfl | (simp <;> rfl) | (simp [*] <;> rfl), by repeat (first | (with_reducible first | exact HB.out | apply yQ | apply yL | apply yP | refine yE ?_ GE236.out) | exact HB.out)⟩
            · replace c6 := Bool.eq_false_iff.mpr c6
              subst c6
              have H1 : (some false) = some r := by rw [if_neg (show ¬ (false = true) by decide)] at H; exact H
              clear H; have H := H1; clear H1; obtain rfl := Option.some.inj H
              have p235 : 0 ≤ (x7_1 : Int) := zP (by assumption)
              have q235 : x7_1 < (l0.length : Int) := zP (by assumption)
              obtain ⟨ad235, e235, hx235_0, hx235_1⟩ := at_T96 HR0.out x7_1 p235 q235
              cases e235
              replace hx235_0 := (HB.out.cell (zQ w _ hx235_0)).trans hx235_0
              replace hx235_1 := (HB.out.cell (zQ w _ hx235_1)).trans hx235_1
              replace p235 := eq_true p235; replace q235 := eq_true q235
              go_wp2_with (first | ((with_reducible refine gate_dst (N := 4) rfl ?_); refine box_event ?hg (N := 4) ?hd (cs := #[.int .i64 0, .string (⟨#[]⟩ : ByteArray)]) (t := 96) ?hr ?_; (case hd => rfl); (case hg => rfl); (case hr => first | (go_simp; done) | (go_simp; rfl)); intro gb236 hg w26 hbox hb; have n0_ := yD (zC (by repeat (first | (with_reducible first | exact HB.out | apply yQ | apply yL | apply yP) | exact HB.out)) hb); have n1_ := yD (hbox); have n2_ := yD ((by rw [hg]; exact (below_size (by repeat (first | (with_reducible first | exact HB.out | apply yQ | apply yL | apply yP) | exact HB.out))) : w.heap.size ≤ gb236)); have n3_ := yD ((by rw [hg]; exact (below_size (by repeat (first | (with_reducible first | exact HB.out | apply yQ | apply yL | apply yP) | exact HB.out))) : w.heap.size ≤ gb236)); clear HB; have HB := n0_; have BK236 := n1_; have GW236 := n2_; have GE236 := n3_; clear n0_ n1_ n2_ n3_; clear hb hbox hg; obtain ⟨hcz27_0, hcz27_1⟩ := cz2 BK236.out; obtain ⟨hfz27_0, hfz27_1⟩ := fz2 BK236.out) | (go_at_call 37; (with_reducible refine (impl_within.calls ((rd_T96 l0 x7_1).f0) 0 255 false _ A5.out).mono ?_); rintro e w' ⟨rfl, ⟨nd, rfl⟩⟩; (try first | exact ⟨rfl, _, World.drewN_drewN _ _ _⟩ | exact ⟨rfl, _, Eq.trans (World.drewN_drewN _ _ _) (congrArg (World.drewN _) (Nat.add_assoc _ _ _))⟩)))
              repeat (go_quiet (first | ((with_reducible refine gate_dst (N := 4) rfl ?_); refine box_event ?hg (N := 4) ?hd (cs := #[.int .i64 0, .string (⟨#[]⟩ : ByteArray)]) (t := 96) ?hr ?_; (case hd => rfl); (case hg => rfl); (case hr => first | (go_simp; done) | (go_simp; rfl)); intro gb236 hg w26 hbox hb; have n0_ := yD (zC (by repeat (first | (with_reducible first | exact HB.out | apply yQ | apply yL | apply yP) | exact HB.out)) hb); have n1_ := yD (hbox); have n2_ := yD ((by rw [hg]; exact (below_size (by repeat (first | (with_reducible first | exact HB.out | apply yQ | apply yL | apply yP) | exact HB.out))) : w.heap.size ≤ gb236)); have n3_ := yD ((by rw [hg]; exact (below_size (by repeat (first | (with_reducible first | exact HB.out | apply yQ | apply yL | apply yP) | exact HB.out))) : w.heap.size ≤ gb236)); clear HB; have HB := n0_; have BK236 := n1_; have GW236 := n2_; have GE236 := n3_; clear n0_ n1_ n2_ n3_; clear hb hbox hg; obtain ⟨hcz27_0, hcz27_1⟩ := cz2 BK236.out; obtain ⟨hfz27_0, hfz27_1⟩ := fz2 BK236.out) | (go_at_call 37; (with_reducible refine (impl_within.calls ((rd_T96 l0 x7_1).f0) 0 255 false _ A5.out).mono ?_); rintro e w' ⟨rfl, ⟨nd, rfl⟩⟩; (try first | exact ⟨rfl, _, World.drewN_drewN _ _ _⟩ | exact ⟨rfl, _, Eq.trans (World.drewN_drewN _ _ _) (congrArg (World.drewN _) (Nat.add_assoc _ _ _))⟩))); try go_wp2_with (first | ((with_reducible refine gate_dst (N := 4) rfl ?_); refine box_event ?hg (N := 4) ?hd (cs := #[.int .i64 0, .string (⟨#[]⟩ : ByteArray)]) (t := 96) ?hr ?_; (case hd => rfl); (case hg => rfl); (case hr => first | (go_simp; done) | (go_simp; rfl)); intro gb236 hg w26 hbox hb; have n0_ := yD (zC (by repeat (first | (with_reducible first | exact HB.out | apply yQ | apply yL | apply yP) | exact HB.out)) hb); have n1_ := yD (hbox); have n2_ := yD ((by rw [hg]; exact (below_size (by repeat (first | (with_reducible first | exact HB.out | apply yQ | apply yL | apply yP) | exact HB.out))) : w.heap.size ≤ gb236)); have n3_ := yD ((by rw [hg]; exact (below_size (by repeat (first | (with_reducible first | exact HB.out | apply yQ | apply yL | apply yP) | exact HB.out))) : w.heap.size ≤ gb236)); clear HB; have HB := n0_; have BK236 := n1_; have GW236 := n2_; have GE236 := n3_; clear n0_ n1_ n2_ n3_; clear hb hbox hg; obtain ⟨hcz27_0, hcz27_1⟩ := cz2 BK236.out; obtain ⟨hfz27_0, hfz27_1⟩ := fz2 BK236.out) | (go_at_call 37; (with_reducible refine (impl_within.calls ((rd_T96 l0 x7_1).f0) 0 255 false _ A5.out).mono ?_); rintro e w' ⟨rfl, ⟨nd, rfl⟩⟩; (try first | exact ⟨rfl, _, World.drewN_drewN _ _ _⟩ | exact ⟨rfl, _, Eq.trans (World.drewN_drewN _ _ _) (congrArg (World.drewN _) (Nat.add_assoc _ _ _))⟩))))
              go_ret
              exact ⟨by first | rfl | (simp <;> rfl) | (simp [*] <;> rfl), by repeat (first | (with_reducible first | exact HB.out | apply yQ | apply yL | apply yP | refine yE ?_ GE236.out) | exact HB.out)⟩
          · rw [if_neg c4] at H
            exact absurd H (by simp)
        · rw [if_neg c3] at H
          exact absurd H (by simp)
      · rw [if_neg c2] at H
        have c2b0 : decide (x7_1 < (l0.length : Int)) = false := zS c2; clear c2; obtain rfl := Option.some.inj H
        go_wp2
        repeat (go_quiet (fail); try go_wp2)
        go_ret
        exact ⟨by first | rfl | (simp <;> rfl) | (simp [*] <;> rfl), by repeat (first | (with_reducible first | exact HB.out | apply yQ | apply yL | apply yP) | exact HB.out)⟩

/-! ### impl_AreaBlock: function 65 -/
def impl_AreaBlock.f (a0_0 : Int) (a0_1 : Int) (a0_2 : Int) (a0_3 : Int) : Option (Int) := (impl_ValidSuper.f a0_0 a0_1 a0_2 a0_3).bind fun t242 => (if t242 = true then (some (wrap64 (2 + a0_1))) else (some 0))
set_option maxHeartbeats 8000000 in
set_option maxRecDepth 100000 in
theorem impl_AreaBlock.calls (a0_0 : Int) (a0_1 : Int) (a0_2 : Int) (a0_3 : Int) (r : Int) (w : World) (h : impl_AreaBlock.f a0_0 a0_1 a0_2 a0_3 = some r) :
    Calls Try.prog 65 #[.agg #[.int .i64 a0_0, .int .i64 a0_1, .int .i64 a0_2, .int .i64 a0_3]] w fun e w' => e = .returned (.int .i64 r) ∧ Below w.heap.size w w' := by
  have hu45 := Try.underlying45
  have HB := yD (Below.refl w.heap.size w)
  have H : ((impl_ValidSuper.f a0_0 a0_1 a0_2 a0_3).bind fun t242 => (if t242 = true then (some (wrap64 (2 + a0_1))) else (some 0))) = some r := h
  clear h
  obtain ⟨t242, A20, H⟩ := zW_ H
  replace H : (if t242 = true then (some (wrap64 (2 + a0_1))) else (some 0)) = some r := H
  have A2 := yD A20
  clear A20
  by_cases c3 : t242 = true
  · subst c3
    have H1 : (some (wrap64 (2 + a0_1))) = some r := by rw [if_pos rfl] at H; exact H
    clear H; have H := H1; clear H1; obtain rfl := Option.some.inj H; go_enter Try.func65, Try.ntmps65
    go_wp2_with (first | ((with_reducible refine gate_dst (N := 1) rfl ?_); refine box_event ?hg (N := 1) ?hd (cs := #[.int .i64 a0_0, .int .i64 a0_1, .int .i64 a0_2, .int .i64 a0_3]) (t := 45) ?hr ?_; (case hd => rfl); (case hg => rfl); (case hr => first | (go_simp; done) | (go_simp; rfl)); intro gb241 hg w4 hbox hb; have n0_ := yD (zC (by repeat (first | (with_reducible first | exact HB.out | apply yQ | apply yL | apply yP) | exact HB.out)) hb); have n1_ := yD (hbox); have n2_ := yD ((by rw [hg]; exact (below_size (by repeat (first | (with_reducible first | exact HB.out | apply yQ | apply yL | apply yP) | exact HB.out))) : w.heap.size ≤ gb241)); have n3_ := yD ((by rw [hg]; exact (below_size (by repeat (first | (with_reducible first | exact HB.out | apply yQ | apply yL | apply yP) | exact HB.out))) : w.heap.size ≤ gb241)); clear HB; have HB := n0_; have BK241 := n1_; have GW241 := n2_; have GE241 := n3_; clear n0_ n1_ n2_ n3_; clear hb hbox hg; obtain ⟨hcz5_0, hcz5_1, hcz5_2, hcz5_3⟩ := cz4 BK241.out; obtain ⟨hfz5_0, hfz5_1, hfz5_2, hfz5_3⟩ := fz4 BK241.out) | ((with_reducible refine gate_callee (f := 62) rfl ?_); refine goesL_ (some 4) rfl rfl Try.func62 (by kernel_rfl) rfl #[.agg #[.int .i64 a0_0, .int .i64 a0_1, .int .i64 a0_2, .int .i64 a0_3]] rfl (by (try simp only [zK, zL, zM]); first | done | rfl | (simp only [zN, zO]; rfl)) ?_; (with_reducible refine (impl_ValidSuper.calls a0_0 a0_1 a0_2 a0_3 true _ A2.out).mono ?_); rintro e w6 ⟨rfl, hb⟩; refine ⟨_, rfl, ?_⟩; have n0_ := yD (zB (g := gb241) (o := .cells #[.int .i64 a0_0, .int .i64 a0_1, .int .i64 a0_2, .int .i64 a0_3] 45 (0, 0)) (by (with_reducible repeat (first | refine yM ?_ _ | refine yO ?_ | refine yN ?_ _)); exact BK241.out) hb); have n1_ := yD (zC (by repeat (first | (with_reducible first | exact HB.out | apply yQ | apply yL | apply yP | refine yE ?_ GE241.out) | exact HB.out)) hb); clear BK241; clear HB; have BK241 := n0_; have HB := n1_; clear n0_ n1_; (try clear hb); (try clear hb2); (try clear hk); (try clear hi); obtain ⟨hcz7_0, hcz7_1, hcz7_2, hcz7_3⟩ := cz4 BK241.out; obtain ⟨hfz7_0, hfz7_1, hfz7_2, hfz7_3⟩ := fz4 BK241.out))
    go_ret
    exact ⟨by first | rfl | (simp <;> rfl) | (simp [*] <;> rfl), by repeat (first | (with_reducible first | exact HB.out | apply yQ | apply yL | apply yP | refine yE ?_ GE241.out) | exact HB.out)⟩
  · replace c3 := Bool.eq_false_iff.mpr c3
    subst c3
    have H1 : (some 0) = some r := by rw [if_neg (show ¬ (false = true) by decide)] at H; exact H
    clear H; have H := H1; clear H1; obtain rfl := Option.some.inj H; go_enter Try.func65, Try.ntmps65
    go_wp2_with (first | ((with_reducible refine gate_dst (N := 1) rfl ?_); refine box_event ?hg (N := 1) ?hd (cs := #[.int .i64 a0_0, .int .i64 a0_1, .int .i64 a0_2, .int .i64 a0_3]) (t := 45) ?hr ?_; (case hd => rfl); (case hg => rfl); (case hr => first | (go_simp; done) | (go_simp; rfl)); intro gb241 hg w8 hbox hb; have n0_ := yD (zC (by repeat (first | (with_reducible first | exact HB.out | apply yQ | apply yL | apply yP) | exact HB.out)) hb); have n1_ := yD (hbox); have n2_ := yD ((by rw [hg]; exact (below_size (by repeat (first | (with_reducible first | exact HB.out | apply yQ | apply yL | apply yP) | exact HB.out))) : w.heap.size ≤ gb241)); have n3_ := yD ((by rw [hg]; exact (below_size (by repeat (first | (with_reducible first | exact HB.out | apply yQ | apply yL | apply yP) | exact HB.out))) : w.heap.size ≤ gb241)); clear HB; have HB := n0_; have BK241 := n1_; have GW241 := n2_; have GE241 := n3_; clear n0_ n1_ n2_ n3_; clear hb hbox hg; obtain ⟨hcz9_0, hcz9_1, hcz9_2, hcz9_3⟩ := cz4 BK241.out; obtain ⟨hfz9_0, hfz9_1, hfz9_2, hfz9_3⟩ := fz4 BK241.out) | ((with_reducible refine gate_callee (f := 62) rfl ?_); refine goesL_ (some 4) rfl rfl Try.func62 (by kernel_rfl) rfl #[.agg #[.int .i64 a0_0, .int .i64 a0_1, .int .i64 a0_2, .int .i64 a0_3]] rfl (by (try simp only [zK, zL, zM]); first | done | rfl | (simp only [zN, zO]; rfl)) ?_; (with_reducible refine (impl_ValidSuper.calls a0_0 a0_1 a0_2 a0_3 false _ A2.out).mono ?_); rintro e w10 ⟨rfl, hb⟩; refine ⟨_, rfl, ?_⟩; have n0_ := yD (zB (g := gb241) (o := .cells #[.int .i64 a0_0, .int .i64 a0_1, .int .i64 a0_2, .int .i64 a0_3] 45 (0, 0)) (by (with_reducible repeat (first | refine yM ?_ _ | refine yO ?_ | refine yN ?_ _)); exact BK241.out) hb); have n1_ := yD (zC (by repeat (first | (with_reducible first | exact HB.out | apply yQ | apply yL | apply yP | refine yE ?_ GE241.out) | exact HB.out)) hb); clear BK241; clear HB; have BK241 := n0_; have HB := n1_; clear n0_ n1_; (try clear hb); (try clear hb2); (try clear hk); (try clear hi)))
    go_ret
    exact ⟨by first | rfl | (simp <;> rfl) | (simp [*] <;> rfl), by repeat (first | (with_reducible first | exact HB.out | apply yQ | apply yL | apply yP | refine yE ?_ GE241.out) | exact HB.out)⟩

/-! ### impl_Super_inArea_1: function 64 -/
def impl_Super_inArea_1.f (a0_0 : Int) (a0_1 : ByteArray) (a1_0 : Int) (a1_1 : Int) (a1_2 : Int) (a1_3 : Int) : Option (Bool) := (impl_AreaBlock.f a1_0 a1_1 a1_2 a1_3).bind fun t244 => ((impl_within.f a0_0 t244 (wrap64 (a1_0 - 1))).bind fun t245 => (some (!t245)))
def impl_Super_inArea_1.T1 : Bool × List (List Nat × List Nat) := (true, [([], []), ([0], [0]), ([], []), ([2], [2]), ([], []), ([4], [4]), ([5], [5]), ([1, 3, 6, 3], [1, 3, 6]), ([7], [7]), ([8, 7, 0, 1, 2, 3, 4, 5, 6, 7, 8], [8])])
def impl_Super_inArea_1.B1 : List Nat := [0, 1, 0, 4, 0, 16, 48, 127, 255, 511]
theorem impl_Super_inArea_1.tab1 : rtab .any (opsOf Try.f64 1) = impl_Super_inArea_1.T1 := by kernel_rfl
theorem impl_Super_inArea_1.bits1 : waitsOk impl_Super_inArea_1.T1.2 impl_Super_inArea_1.B1 = true := by kernel_rfl
set_option maxHeartbeats 8000000 in
set_option maxRecDepth 100000 in
theorem impl_Super_inArea_1.calls (a0_0 : Int) (a0_1 : ByteArray) (g1_0 : Nat) (a1_0 : Int) (a1_1 : Int) (a1_2 : Int) (a1_3 : Int) (r : Bool) (w : World) (hb1_0 : w.heap[g1_0]? = some (.cells #[.int .i64 a1_0, .int .i64 a1_1, .int .i64 a1_2, .int .i64 a1_3] 45 (0, 0))) (h : impl_Super_inArea_1.f a0_0 a0_1 a1_0 a1_1 a1_2 a1_3 = some r) :
    Calls Try.prog 64 #[.agg #[.int .i64 a0_0, .string a0_1], .pointer (some ⟨g1_0, 0, none⟩)] w fun e w' => e = .returned (.bool r) ∧ Below w.heap.size w w' := by
  have hu96 := Try.underlying96; have hu45 := Try.underlying45
  have BK48 := yD hb1_0
  clear hb1_0
  have HB := yD (Below.refl w.heap.size w)
  have H : ((impl_AreaBlock.f a1_0 a1_1 a1_2 a1_3).bind fun t244 => ((impl_within.f a0_0 t244 (wrap64 (a1_0 - 1))).bind fun t245 => (some (!t245)))) = some r := h
  clear h
  obtain ⟨t244, A30, H⟩ := zW_ H
  replace H : ((impl_within.f a0_0 t244 (wrap64 (a1_0 - 1))).bind fun t245 => (some (!t245))) = some r := H
  have A3 := yD A30
  clear A30
  obtain ⟨t245, A40, H⟩ := zW_ H
  replace H : (some (!t245)) = some r := H
  have A4 := yD A40
  clear A40; obtain rfl := Option.some.inj H; go_enter Try.func64, Try.ntmps64
  try go_wp2_with (first | ((with_reducible refine gate_dst (N := 2) rfl ?_); refine box_event ?hg (N := 2) ?hd (cs := #[.int .i64 a0_0, .string a0_1]) (t := 96) ?hr ?_; (case hd => rfl); (case hg => rfl); (case hr => first | (go_simp; done) | (go_simp; rfl)); intro gb243 hg w5 hbox hb; have n0_ := yD (zB (g := g1_0) (o := .cells #[.int .i64 a1_0, .int .i64 a1_1, .int .i64 a1_2, .int .i64 a1_3] 45 (0, 0)) (by (with_reducible repeat (first | refine yM ?_ _ | refine yO ?_ | refine yN ?_ _)); exact BK48.out) hb); have n1_ := yD (zC (by repeat (first | (with_reducible first | exact HB.out | apply yQ | apply yL | apply yP | refine yE ?_ GE48.out) | exact HB.out)) hb); have n2_ := yD (hbox); have n3_ := yD ((by rw [hg]; exact (below_size (by repeat (first | (with_reducible first | exact HB.out | apply yQ | apply yL | apply yP | refine yE ?_ GE48.out) | exact HB.out))) : w.heap.size ≤ gb243)); have n4_ := yD ((by rw [hg]; exact (below_size (by repeat (first | (with_reducible first | exact HB.out | apply yQ | apply yL | apply yP | refine yE ?_ GE48.out) | exact HB.out))) : w.heap.size ≤ gb243)); have n5_ := yD ((by rw [hg]; exact Nat.ne_of_lt (blk_lt (g := g1_0) (o := .cells #[.int .i64 a1_0, .int .i64 a1_1, .int .i64 a1_2, .int .i64 a1_3] 45 (0, 0)) (by (with_reducible repeat (first | refine yM ?_ _ | refine yO ?_ | refine yN ?_ _)); exact BK48.out)) : g1_0 ≠ gb243)); have n6_ := yD ((by rw [hg]; exact Nat.ne_of_gt (blk_lt (g := g1_0) (o := .cells #[.int .i64 a1_0, .int .i64 a1_1, .int .i64 a1_2, .int .i64 a1_3] 45 (0, 0)) (by (with_reducible repeat (first | refine yM ?_ _ | refine yO ?_ | refine yN ?_ _)); exact BK48.out)) : gb243 ≠ g1_0)); clear BK48; clear HB; have BK48 := n0_; have HB := n1_; have BK243 := n2_; have GW243 := n3_; have GE243 := n4_; have NB48_243 := n5_; have NB243_48 := n6_; clear n0_ n1_ n2_ n3_ n4_ n5_ n6_; clear hb hbox hg))
  have n0_ := yD (yO BK48.out)
  have n1_ := yD (yO BK243.out)
  have n2_ := yD (yP HB.out)
  clear BK48 BK243 HB; have BK48 := n0_; have BK243 := n1_; have HB := n2_; clear n0_ n1_ n2_
  refine start_ (n := 10) (S := fun w' => w'.cell? ⟨gb243, 0, none⟩ = some (.int .i64 a0_0) ∧ w'.cell? ⟨gb243, 1, none⟩ = some (.string a0_1) ∧ w'.cell? ⟨g1_0, 0, none⟩ = some (.int .i64 a1_0) ∧ w'.cell? ⟨g1_0, 1, none⟩ = some (.int .i64 a1_1) ∧ w'.cell? ⟨g1_0, 2, none⟩ = some (.int .i64 a1_2) ∧ w'.cell? ⟨g1_0, 3, none⟩ = some (.int .i64 a1_3)) (ds := []) (bz 10 0) (by kernel_rfl) rfl rfl ⟨(yG BK243.out 0).trans rfl, (yG BK243.out 1).trans rfl, (yG BK48.out 0).trans rfl, (yG BK48.out 1).trans rfl, (yG BK48.out 2).trans rfl, (yG BK48.out 3).trans rfl⟩ (fun hHeld => ?_); refine with_tabW impl_Super_inArea_1.tab1 impl_Super_inArea_1.bits1 (fun HT_ HW_ => ?_)
  generalize w5.drew = w6 at BK48 BK243 HB hHeld ⊢
  refine qA 0 4 (bz 10 1) HT_ ?_
  refine qA 4 8 (bz 10 17) HT_ ?_
  refine qC 1 5 (bz 10 19) HT_ HW_ hHeld ?_ (hy := by rintro w' ⟨s0, s1, s2, s3, s4, s5⟩; go_simp; with_reducible rfl)
  refine qC 2 6 (bz 10 23) HT_ HW_ hHeld ?_ (hy := by rintro w' ⟨s0, s1, s2, s3, s4, s5⟩; go_simp; with_reducible rfl)
  refine qC 5 9 (bz 10 55) HT_ HW_ hHeld ?_ (hy := by rintro w' ⟨s0, s1, s2, s3, s4, s5⟩; go_simp; with_reducible rfl)
  refine qA 6 10 (bz 10 119) HT_ ?_
  refine one_ (i := 3) (N := some 7) (bz 10 127) rfl rfl (one_of HT_.out (by kernel_rfl)) (by decide) (fun K hK => ?_)
  refine goes_ Try.func65 (by kernel_rfl) rfl #[.agg #[.int .i64 a1_0, .int .i64 a1_1, .int .i64 a1_2, .int .i64 a1_3]] (by rfl) rfl rfl (by (try simp only [zK, zL, zM]); first | done | rfl | (simp only [zN, zO]; rfl)) ?_
  with_reducible refine (impl_AreaBlock.calls a1_0 a1_1 a1_2 a1_3 t244 _ A3.out).mono ?_
  rintro e w7 ⟨rfl, hb⟩
  refine ⟨_, rfl, ?_⟩
  have n0_ := yD (zB (g := g1_0) (o := .cells #[.int .i64 a1_0, .int .i64 a1_1, .int .i64 a1_2, .int .i64 a1_3] 45 (0, 0)) (by (with_reducible repeat (first | refine yM ?_ _ | refine yO ?_ | refine yN ?_ _)); exact BK48.out) hb)
  have n1_ := yD (zB (g := gb243) (o := .cells #[.int .i64 a0_0, .string a0_1] 96 (0, 0)) (by (with_reducible repeat (first | refine yM ?_ _ | refine yO ?_ | refine yN ?_ _)); exact BK243.out) hb)
  have n2_ := yD (zC (by repeat (first | (with_reducible first | exact HB.out | apply yQ | apply yL | apply yP | refine yE ?_ GE48.out | refine yE ?_ GE243.out) | exact HB.out)) hb)
  clear BK48 BK243 HB; have BK48 := n0_; have BK243 := n1_; have HB := n2_; clear n0_ n1_ n2_; (try clear hb); (try clear hb2); (try clear hk); (try clear hi)
  refine hK.out _ _ ⟨(yG BK243.out 0).trans rfl, (yG BK243.out 1).trans rfl, (yG BK48.out 0).trans rfl, (yG BK48.out 1).trans rfl, (yG BK48.out 2).trans rfl, (yG BK48.out 3).trans rfl⟩ (fun hHeld => ?_)
  clear hK K
  refine norm_ (a' := ?_) ?_ ?_
  rotate_left
  · show Act.put _ (some 7) _ = _
    simp only [Act.put, zH, zI, zJ, i64_w, i32_w]
    rfl
  refine one_ (i := 7) (N := some 11) (bz 10 255) rfl rfl (one_of HT_.out (by kernel_rfl)) (by decide) (fun K hK => ?_)
  refine goes_ Try.func37 (by kernel_rfl) rfl #[.int .i64 a0_0, .int .i64 t244, .int .i64 (wrap64 (a1_0 - 1))] (by rfl) rfl rfl (by (try simp only [zK, zL, zM]); first | done | rfl | (simp only [zN, zO]; rfl)) ?_
  with_reducible refine (impl_within.calls a0_0 t244 (wrap64 (a1_0 - 1)) t245 _ A4.out).mono ?_
  rintro e w' ⟨rfl, ⟨nd, rfl⟩⟩
  refine ⟨_, rfl, ?_⟩
  refine hK.out _ _ ⟨(yG BK243.out 0).trans rfl, (yG BK243.out 1).trans rfl, (yG BK48.out 0).trans rfl, (yG BK48.out 1).trans rfl, (yG BK48.out 2).trans rfl, (yG BK48.out 3).trans rfl⟩ (fun hHeld => ?_)
  clear hK K
  refine norm_ (a' := ?_) ?_ ?_
  rotate_left
  · show Act.put _ (some 11) _ = _
    simp only [Act.put, zH, zI, zJ, i64_w, i32_w]
    rfl
  refine qA 8 12 (bz 10 511) HT_ ?_
  refine qA 9 3 (bz 10 1023) HT_ ?_
  refine done_ (done_of HT_.out (by kernel_rfl)) ?_
  try go_wp2
  go_ret
  exact ⟨by first | rfl | (simp <;> rfl) | (simp [*] <;> rfl), by repeat (first | (with_reducible first | exact HB.out | apply yQ | apply yL | apply yP | refine yE ?_ GE48.out | refine yE ?_ GE243.out) | exact HB.out)⟩

/-! ### slices_IndexFunc_impl_Super_inArea_1: function 83 -/
def slices_IndexFunc_impl_Super_inArea_1.l0 : Nat → List (S96) → Int → Int → Int → Int → Int → Int → Option (Int)
  | 0, _, _, _, _, _, _, _ => none
  | k + 1, x0, x7, x8, x49000, x49001, x49002, x49003 => if x8 < x7 then (if 0 ≤ x8 then (if x8 < (x0.length : Int) then ((impl_Super_inArea_1.f ((rd_T96 x0 x8).f0) ((rd_T96 x0 x8).f1) x49000 x49001 x49002 x49003).bind fun t247 => (if t247 = true then (some x8) else (slices_IndexFunc_impl_Super_inArea_1.l0 k x0 x7 (wrap64 (x8 + 1)) x49000 x49001 x49002 x49003))) else (none)) else (none)) else (some (-1))
def slices_IndexFunc_impl_Super_inArea_1.f (k : Nat) (l0 : List (S96)) (a1_0 : Int) (a1_1 : Int) (a1_2 : Int) (a1_3 : Int) : Option (Int) := slices_IndexFunc_impl_Super_inArea_1.l0 k l0 (l0.length : Int) 0 a1_0 a1_1 a1_2 a1_3
theorem slices_IndexFunc_impl_Super_inArea_1.mono_l : ∀ k, (∀ y0 y1 y2 y3 y4 y5 y6, LeO (slices_IndexFunc_impl_Super_inArea_1.l0 k y0 y1 y2 y3 y4 y5 y6) (slices_IndexFunc_impl_Super_inArea_1.l0 (k + 1) y0 y1 y2 y3 y4 y5 y6))
  | 0 => fun _ _ _ _ _ _ _ r h => by simp [slices_IndexFunc_impl_Super_inArea_1.l0] at h
  | k + 1 => by
    have ih0 := slices_IndexFunc_impl_Super_inArea_1.mono_l k
    · intro y0 y1 y2 y3 y4 y5 y6
      unfold slices_IndexFunc_impl_Super_inArea_1.l0
      repeat' first
      | (with_reducible exact ih0 _ _ _ _ _ _ _)
      | (with_reducible exact LeO.refl _)
      | (with_reducible exact LeO.none _)
      | (with_reducible refine LeO.ite ?_ ?_)
      | (with_reducible refine LeO.bind ?_ (fun _ => ?_))
      | exact ih0 _ _ _ _ _ _ _
      | exact LeO.none _
      | refine LeO.ite ?_ ?_
      | refine LeO.bind ?_ (fun _ => ?_)
theorem slices_IndexFunc_impl_Super_inArea_1.mono : ∀ a0 a1 a2 a3 a4 k, LeO (slices_IndexFunc_impl_Super_inArea_1.f k a0 a1 a2 a3 a4) (slices_IndexFunc_impl_Super_inArea_1.f (k + 1) a0 a1 a2 a3 a4) := by
  intro a0 a1 a2 a3 a4 k
  have ih0 := slices_IndexFunc_impl_Super_inArea_1.mono_l k
  unfold slices_IndexFunc_impl_Super_inArea_1.f
  repeat' first
      | (with_reducible exact ih0 _ _ _ _ _ _ _)
      | (with_reducible exact LeO.refl _)
      | (with_reducible exact LeO.none _)
      | (with_reducible refine LeO.ite ?_ ?_)
      | (with_reducible refine LeO.bind ?_ (fun _ => ?_))
      | exact ih0 _ _ _ _ _ _ _
      | exact LeO.none _
      | refine LeO.ite ?_ ?_
      | refine LeO.bind ?_ (fun _ => ?_)
set_option maxHeartbeats 8000000 in
set_option maxRecDepth 100000 in
theorem slices_IndexFunc_impl_Super_inArea_1.calls (k : Nat) (A0 : Option Addr) (c0 : Nat) (l0 : List (S96)) (g1_0 : Nat) (a1_0 : Int) (a1_1 : Int) (a1_2 : Int) (a1_3 : Int) (r : Int) (w : World) (hr0 : Kd.C k96 w A0 l0.length l0) (hc0 : l0.length ≤ c0) (hb1_0 : w.heap[g1_0]? = some (.cells #[.int .i64 a1_0, .int .i64 a1_1, .int .i64 a1_2, .int .i64 a1_3] 45 (0, 0))) (h : slices_IndexFunc_impl_Super_inArea_1.f k l0 a1_0 a1_1 a1_2 a1_3 = some r) :
    Calls Try.prog 83 #[.slice A0 l0.length c0, .func (.func 64) #[] #[.pointer (some ⟨g1_0, 0, none⟩)]] w fun e w' => e = .returned (.int .i64 r) ∧ Below w.heap.size w w' := by
  have hu96 := Try.underlying96
  have HR0 := yD hr0
  have HC0 := yD hc0
  clear hr0 hc0
  have BK48 := yD hb1_0
  clear hb1_0
  have HB := yD (Below.refl w.heap.size w)
  have H : (slices_IndexFunc_impl_Super_inArea_1.l0 k l0 (l0.length : Int) 0 a1_0 a1_1 a1_2 a1_3) = some r := h
  clear h
  have H' := yD H
  clear H; go_enter Try.func83, Try.ntmps83
  go_wp2
  go_loopg [8] k (fun kq v8 w' => ∃ (x8_1 : Int), v8 = .int .i64 x8_1 ∧ Aside0 (slices_IndexFunc_impl_Super_inArea_1.l0 kq l0 (l0.length : Int) x8_1 a1_0 a1_1 a1_2 a1_3 = some r) ∧ Aside0 (kq ≤ k) ∧ Aside0 (w'.heap[g1_0]? = some (.cells #[.int .i64 a1_0, .int .i64 a1_1, .int .i64 a1_2, .int .i64 a1_3] 45 (0, 0))) ∧ Aside0 (Below w.heap.size w w'))
  case atStart => exact ⟨(0), (by first | rfl | (simp; done) | (simp [*]; done)), H', ⟨Nat.le_refl _⟩, ⟨by (with_reducible repeat (first | refine yM ?_ _ | refine yO ?_ | refine yN ?_ _)); exact BK48.out⟩, ⟨by repeat (first | (with_reducible first | exact HB.out | apply yQ | apply yL | apply yP | refine yE ?_ GE48.out) | exact HB.out)⟩⟩
  case round =>
    clear H'
    try clear p2
    obtain ⟨x8_1, rfl, HA, HK1, BK48, HB⟩ := hrel
    cases gk with
    | zero => exact absurd HA.out (by simp [slices_IndexFunc_impl_Super_inArea_1.l0])
    | succ k1 =>
      have H := HA.out; clear HA
      simp only [slices_IndexFunc_impl_Super_inArea_1.l0] at H
      by_cases c3 : x8_1 < (l0.length : Int)
      · rw [if_pos c3] at H
        have c3b0 : decide (x8_1 < (l0.length : Int)) = true := zR c3; clear c3
        by_cases c4 : 0 ≤ x8_1
        · rw [if_pos c4] at H
          have c4b0 : decide (0 ≤ x8_1) = true := zR c4; clear c4
          by_cases c5 : x8_1 < (l0.length : Int)
          · rw [if_pos c5] at H
            have c5b0 : decide (x8_1 < (l0.length : Int)) = true := zR c5; clear c5
            obtain ⟨t247, A60, H⟩ := zW_ H
            replace H : (if t247 = true then (some x8_1) else (slices_IndexFunc_impl_Super_inArea_1.l0 k1 l0 (l0.length : Int) (wrap64 (x8_1 + 1)) a1_0 a1_1 a1_2 a1_3)) = some r := H
            have A6 := yD A60
            clear A60
            by_cases c7 : t247 = true
            · subst c7
              have H1 : (some x8_1) = some r := by rw [if_pos rfl] at H; exact H
              clear H; have H := H1; clear H1; obtain rfl := Option.some.inj H
              have p246 : 0 ≤ (x8_1 : Int) := zP (by assumption)
              have q246 : x8_1 < (l0.length : Int) := zP (by assumption)
              obtain ⟨ad246, e246, hx246_0, hx246_1⟩ := at_T96 HR0.out x8_1 p246 q246
              cases e246
              replace hx246_0 := (HB.out.cell (zQ w _ hx246_0)).trans hx246_0
              replace hx246_1 := (HB.out.cell (zQ w _ hx246_1)).trans hx246_1
              replace p246 := eq_true p246; replace q246 := eq_true q246
              go_wp2_with (first | (go_at_call 64; (with_reducible refine (impl_Super_inArea_1.calls ((rd_T96 l0 x8_1).f0) ((rd_T96 l0 x8_1).f1) g1_0 a1_0 a1_1 a1_2 a1_3 true _ ?side1 A6.out).mono ?_); (case side1 => (with_reducible repeat (first | refine yM ?_ _ | refine yO ?_ | refine yN ?_ _)); exact BK48.out); rintro e w8 ⟨rfl, hb⟩; have n0_ := yD (zB (g := g1_0) (o := .cells #[.int .i64 a1_0, .int .i64 a1_1, .int .i64 a1_2, .int .i64 a1_3] 45 (0, 0)) (by (with_reducible repeat (first | refine yM ?_ _ | refine yO ?_ | refine yN ?_ _)); exact BK48.out) hb); have n1_ := yD (zC (by repeat (first | (with_reducible first | exact HB.out | apply yQ | apply yL | apply yP | refine yE ?_ GE48.out) | exact HB.out)) hb); clear BK48; clear HB; have BK48 := n0_; have HB := n1_; clear n0_ n1_; (try clear hb); (try clear hb2); (try clear hk); (try clear hi)))
              go_ret
              exact ⟨by first | rfl | (simp <;> rfl) | (simp [*] <;> rfl), by repeat (first | (with_reducible first | exact HB.out | apply yQ | apply yL | apply yP | refine yE ?_ GE48.out) | exact HB.out)⟩
            · replace c7 := Bool.eq_false_iff.mpr c7
              subst c7
              have H1 : (slices_IndexFunc_impl_Super_inArea_1.l0 k1 l0 (l0.length : Int) (wrap64 (x8_1 + 1)) a1_0 a1_1 a1_2 a1_3) = some r := by rw [if_neg (show ¬ (false = true) by decide)] at H; exact H
              clear H; have H := H1; clear H1
              have H' := yD H
              clear H
              have p246 : 0 ≤ (x8_1 : Int) := zP (by assumption)
              have q246 : x8_1 < (l0.length : Int) := zP (by assumption)
              obtain ⟨ad246, e246, hx246_0, hx246_1⟩ := at_T96 HR0.out x8_1 p246 q246
              cases e246
              replace hx246_0 := (HB.out.cell (zQ w _ hx246_0)).trans hx246_0
              replace hx246_1 := (HB.out.cell (zQ w _ hx246_1)).trans hx246_1
              replace p246 := eq_true p246; replace q246 := eq_true q246
              go_wp2_with (first | (go_at_call 64; (with_reducible refine (impl_Super_inArea_1.calls ((rd_T96 l0 x8_1).f0) ((rd_T96 l0 x8_1).f1) g1_0 a1_0 a1_1 a1_2 a1_3 false _ ?side1 A6.out).mono ?_); (case side1 => (with_reducible repeat (first | refine yM ?_ _ | refine yO ?_ | refine yN ?_ _)); exact BK48.out); rintro e w9 ⟨rfl, hb⟩; have n0_ := yD (zB (g := g1_0) (o := .cells #[.int .i64 a1_0, .int .i64 a1_1, .int .i64 a1_2, .int .i64 a1_3] 45 (0, 0)) (by (with_reducible repeat (first | refine yM ?_ _ | refine yO ?_ | refine yN ?_ _)); exact BK48.out) hb); have n1_ := yD (zC (by repeat (first | (with_reducible first | exact HB.out | apply yQ | apply yL | apply yP | refine yE ?_ GE48.out) | exact HB.out)) hb); clear BK48; clear HB; have BK48 := n0_; have HB := n1_; clear n0_ n1_; (try clear hb); (try clear hb2); (try clear hk); (try clear hi)))
              go_roundg k1
              case measure => have := HK1.out; omega
              case rel => exact ⟨(wrap64 (x8_1 + 1)), (by first | rfl | (simp; done) | (simp [*]; done)), H', ⟨by have := HK1.out; omega⟩, ⟨by (with_reducible repeat (first | refine yM ?_ _ | refine yO ?_ | refine yN ?_ _)); exact BK48.out⟩, ⟨by repeat (first | (with_reducible first | exact HB.out | apply yQ | apply yL | apply yP | refine yE ?_ GE48.out) | exact HB.out)⟩⟩
          · rw [if_neg c5] at H
            exact absurd H (by simp)
        · rw [if_neg c4] at H
          exact absurd H (by simp)
      · rw [if_neg c3] at H
        have c3b0 : decide (x8_1 < (l0.length : Int)) = false := zS c3; clear c3; obtain rfl := Option.some.inj H
        go_wp2
        go_ret
        exact ⟨by first | rfl | (simp <;> rfl) | (simp [*] <;> rfl), by repeat (first | (with_reducible first | exact HB.out | apply yQ | apply yL | apply yP | refine yE ?_ GE48.out) | exact HB.out)⟩

/-! ### slices_ContainsFunc_impl_Super_inArea_1: function 63 -/
def slices_ContainsFunc_impl_Super_inArea_1.f (k : Nat) (l0 : List (S96)) (a1_0 : Int) (a1_1 : Int) (a1_2 : Int) (a1_3 : Int) : Option (Bool) := (slices_IndexFunc_impl_Super_inArea_1.f k l0 a1_0 a1_1 a1_2 a1_3).bind fun t248 => (some (decide (t248 ≥ 0)))
theorem slices_ContainsFunc_impl_Super_inArea_1.mono : ∀ a0 a1 a2 a3 a4 k, LeO (slices_ContainsFunc_impl_Super_inArea_1.f k a0 a1 a2 a3 a4) (slices_ContainsFunc_impl_Super_inArea_1.f (k + 1) a0 a1 a2 a3 a4) := by
  intro a0 a1 a2 a3 a4 k
  unfold slices_ContainsFunc_impl_Super_inArea_1.f
  repeat' first
      | (with_reducible exact slices_IndexFunc_impl_Super_inArea_1.mono _ _ _ _ _ _)
      | (with_reducible exact LeO.refl _)
      | (with_reducible exact LeO.none _)
      | (with_reducible refine LeO.ite ?_ ?_)
      | (with_reducible refine LeO.bind ?_ (fun _ => ?_))
      | exact slices_IndexFunc_impl_Super_inArea_1.mono _ _ _ _ _ _
      | exact LeO.none _
      | refine LeO.ite ?_ ?_
      | refine LeO.bind ?_ (fun _ => ?_)
set_option maxHeartbeats 8000000 in
set_option maxRecDepth 100000 in
theorem slices_ContainsFunc_impl_Super_inArea_1.calls (k : Nat) (A0 : Option Addr) (c0 : Nat) (l0 : List (S96)) (g1_0 : Nat) (a1_0 : Int) (a1_1 : Int) (a1_2 : Int) (a1_3 : Int) (r : Bool) (w : World) (hr0 : Kd.C k96 w A0 l0.length l0) (hc0 : l0.length ≤ c0) (hb1_0 : w.heap[g1_0]? = some (.cells #[.int .i64 a1_0, .int .i64 a1_1, .int .i64 a1_2, .int .i64 a1_3] 45 (0, 0))) (h : slices_ContainsFunc_impl_Super_inArea_1.f k l0 a1_0 a1_1 a1_2 a1_3 = some r) :
    Calls Try.prog 63 #[.slice A0 l0.length c0, .func (.func 64) #[] #[.pointer (some ⟨g1_0, 0, none⟩)]] w fun e w' => e = .returned (.bool r) ∧ Below w.heap.size w w' := by
  have HR0 := yD hr0
  have HC0 := yD hc0
  clear hr0 hc0
  have BK48 := yD hb1_0
  clear hb1_0
  have HB := yD (Below.refl w.heap.size w)
  have H : ((slices_IndexFunc_impl_Super_inArea_1.f k l0 a1_0 a1_1 a1_2 a1_3).bind fun t248 => (some (decide (t248 ≥ 0)))) = some r := h
  clear h
  obtain ⟨t248, A30, H⟩ := zW_ H
  replace H : (some (decide (t248 ≥ 0))) = some r := H
  have A3 := yD A30
  clear A30; obtain rfl := Option.some.inj H; go_enter Try.func63, Try.ntmps63
  go_wp2_with (first | ((with_reducible refine gate_callee (f := 83) rfl ?_); refine goesL_ (some 7) rfl rfl Try.func83 (by kernel_rfl) rfl #[.slice A0 l0.length c0, .func (.func 64) #[] #[.pointer (some ⟨g1_0, 0, none⟩)]] rfl (by (try simp only [zK, zL, zM]); first | done | rfl | (simp only [zN, zO]; rfl)) ?_; (with_reducible refine (slices_IndexFunc_impl_Super_inArea_1.calls k _ _ l0 g1_0 a1_0 a1_1 a1_2 a1_3 t248 _ ?side1 ?side2 ?side3 A3.out).mono ?_); (case side1 => repeat (first | exact HR0.out | (with_reducible first | refine yV ?_ _ | refine yW ?_ _ | refine yX ?_))); (case side2 => exact HC0.out); (case side3 => (with_reducible repeat (first | refine yM ?_ _ | refine yO ?_ | refine yN ?_ _)); exact BK48.out); rintro e w4 ⟨rfl, hb⟩; refine ⟨_, rfl, ?_⟩; have n0_ := yD (zB (g := g1_0) (o := .cells #[.int .i64 a1_0, .int .i64 a1_1, .int .i64 a1_2, .int .i64 a1_3] 45 (0, 0)) (by (with_reducible repeat (first | refine yM ?_ _ | refine yO ?_ | refine yN ?_ _)); exact BK48.out) hb); have n1_ := yD (zC (by repeat (first | (with_reducible first | exact HB.out | apply yQ | apply yL | apply yP | refine yE ?_ GE48.out) | exact HB.out)) hb); clear BK48; clear HB; have BK48 := n0_; have HB := n1_; clear n0_ n1_; (try clear hb); (try clear hb2); (try clear hk); (try clear hi)))
  go_ret
  exact ⟨by first | rfl | (simp <;> rfl) | (simp [*] <;> rfl), by repeat (first | (with_reducible first | exact HB.out | apply yQ | apply yL | apply yP | refine yE ?_ GE48.out) | exact HB.out)⟩

/-! ### impl_Super_inArea: function 39 -/
def impl_Super_inArea.f (k : Nat) (a0_0 : Int) (a0_1 : Int) (a0_2 : Int) (a0_3 : Int) (l1 : List (S96)) : Option (Bool) := (slices_ContainsFunc_impl_Super_inArea_1.f k l1 a0_0 a0_1 a0_2 a0_3).bind fun t250 => (some (!t250))
theorem impl_Super_inArea.mono : ∀ a0 a1 a2 a3 a4 k, LeO (impl_Super_inArea.f k a0 a1 a2 a3 a4) (impl_Super_inArea.f (k + 1) a0 a1 a2 a3 a4) := by
  intro a0 a1 a2 a3 a4 k
  unfold impl_Super_inArea.f
  repeat' first
      | (with_reducible exact slices_ContainsFunc_impl_Super_inArea_1.mono _ _ _ _ _ _)
      | (with_reducible exact LeO.refl _)
      | (with_reducible exact LeO.none _)
      | (with_reducible refine LeO.ite ?_ ?_)
      | (with_reducible refine LeO.bind ?_ (fun _ => ?_))
      | exact slices_ContainsFunc_impl_Super_inArea_1.mono _ _ _ _ _ _
      | exact LeO.none _
      | refine LeO.ite ?_ ?_
      | refine LeO.bind ?_ (fun _ => ?_)
set_option maxHeartbeats 8000000 in
set_option maxRecDepth 100000 in
theorem impl_Super_inArea.calls (k : Nat) (a0_0 : Int) (a0_1 : Int) (a0_2 : Int) (a0_3 : Int) (A1 : Option Addr) (c1 : Nat) (l1 : List (S96)) (r : Bool) (w : World) (hr1 : Kd.C k96 w A1 l1.length l1) (hc1 : l1.length ≤ c1) (h : impl_Super_inArea.f k a0_0 a0_1 a0_2 a0_3 l1 = some r) :
    Calls Try.prog 39 #[.agg #[.int .i64 a0_0, .int .i64 a0_1, .int .i64 a0_2, .int .i64 a0_3], .slice A1 l1.length c1] w fun e w' => e = .returned (.bool r) ∧ Below w.heap.size w w' := by
  have hu45 := Try.underlying45
  have HR1 := yD hr1
  have HC1 := yD hc1
  clear hr1 hc1
  have HB := yD (Below.refl w.heap.size w)
  have H : ((slices_ContainsFunc_impl_Super_inArea_1.f k l1 a0_0 a0_1 a0_2 a0_3).bind fun t250 => (some (!t250))) = some r := h
  clear h
  obtain ⟨t250, A30, H⟩ := zW_ H
  replace H : (some (!t250)) = some r := H
  have A3 := yD A30
  clear A30; obtain rfl := Option.some.inj H; go_enter Try.func39, Try.ntmps39
  go_wp2_with (first | ((with_reducible refine gate_dst (N := 2) rfl ?_); refine box_event ?hg (N := 2) ?hd (cs := #[.int .i64 a0_0, .int .i64 a0_1, .int .i64 a0_2, .int .i64 a0_3]) (t := 45) ?hr ?_; (case hd => rfl); (case hg => rfl); (case hr => first | (go_simp; done) | (go_simp; rfl)); intro gb249 hg w4 hbox hb; have n0_ := yD (zC (by repeat (first | (with_reducible first | exact HB.out | apply yQ | apply yL | apply yP) | exact HB.out)) hb); have n1_ := yD (hbox); have n2_ := yD ((by rw [hg]; exact (below_size (by repeat (first | (with_reducible first | exact HB.out | apply yQ | apply yL | apply yP) | exact HB.out))) : w.heap.size ≤ gb249)); have n3_ := yD ((by rw [hg]; exact (below_size (by repeat (first | (with_reducible first | exact HB.out | apply yQ | apply yL | apply yP) | exact HB.out))) : w.heap.size ≤ gb249)); clear HB; have HB := n0_; have BK249 := n1_; have GW249 := n2_; have GE249 := n3_; clear n0_ n1_ n2_ n3_; clear hb hbox hg) | ((with_reducible refine gate_callee (f := 63) rfl ?_); refine goesL_ (some 7) rfl rfl Try.func63 (by kernel_rfl) rfl #[.slice A1 l1.length c1, .func (.func 64) #[] #[.pointer (some ⟨gb249, 0, none⟩)]] rfl (by (try simp only [zK, zL, zM]); first | done | rfl | (simp only [zN, zO]; rfl)) ?_; (with_reducible refine (slices_ContainsFunc_impl_Super_inArea_1.calls k _ _ l1 gb249 a0_0 a0_1 a0_2 a0_3 t250 _ ?side1 ?side2 ?side3 A3.out).mono ?_); (case side1 => repeat (first | exact (yY HR1.out HB.out) | (with_reducible first | refine yV ?_ _ | refine yW ?_ _ | refine yX ?_))); (case side2 => exact HC1.out); (case side3 => (with_reducible repeat (first | refine yM ?_ _ | refine yO ?_ | refine yN ?_ _)); exact BK249.out); rintro e w5 ⟨rfl, hb⟩; refine ⟨_, rfl, ?_⟩; have n0_ := yD (zB (g := gb249) (o := .cells #[.int .i64 a0_0, .int .i64 a0_1, .int .i64 a0_2, .int .i64 a0_3] 45 (0, 0)) (by (with_reducible repeat (first | refine yM ?_ _ | refine yO ?_ | refine yN ?_ _)); exact BK249.out) hb); have n1_ := yD (zC (by repeat (first | (with_reducible first | exact HB.out | apply yQ | apply yL | apply yP | refine yE ?_ GE249.out) | exact HB.out)) hb); clear BK249; clear HB; have BK249 := n0_; have HB := n1_; clear n0_ n1_; (try clear hb); (try clear hb2); (try clear hk); (try clear hi)))
  go_ret
  exact ⟨by first | rfl | (simp <;> rfl) | (simp [*] <;> rfl), by repeat (first | (with_reducible first | exact HB.out | apply yQ | apply yL | apply yP | refine yE ?_ GE249.out) | exact HB.out)⟩

/-! ### impl_tableBlocks: function 84 -/
def impl_tableBlocks.f (a0 : Int) : Option (Int) := some (wrap64 (Int.tdiv (wrap64 ((wrap64 ((wrap64 (2 * a0)) + 64)) - 1)) 64))
set_option maxHeartbeats 8000000 in
set_option maxRecDepth 100000 in
theorem impl_tableBlocks.calls (a0 : Int) (r : Int) (w : World) (h : impl_tableBlocks.f a0 = some r) :
    Calls Try.prog 84 #[.int .i64 a0] w fun e w' => e = .returned (.int .i64 r) ∧ Drawn0 w w' := by
  have H : (some (wrap64 (Int.tdiv (wrap64 ((wrap64 ((wrap64 (2 * a0)) + 64)) - 1)) 64))) = some r := h
  clear h; obtain rfl := Option.some.inj H; go_enter Try.func84, Try.ntmps84
  go_wp2
  go_ret
  exact ⟨by first | rfl | (simp; done) | (simp [*]; done), by repeat (first | exact Drawn0.refl _ | apply Drawn0.step)⟩

/-! ### impl_RecordBlocks: function 66 -/
def impl_RecordBlocks.f (a0 : Int) : Option (Int) := (impl_within.f a0 1 60).bind fun t251 => (if t251 = true then ((impl_tableBlocks.f a0).bind fun t252 => (some (wrap64 ((wrap64 (1 + t252)) + a0)))) else (some 0))
set_option maxHeartbeats 8000000 in
set_option maxRecDepth 100000 in
theorem impl_RecordBlocks.calls (a0 : Int) (r : Int) (w : World) (h : impl_RecordBlocks.f a0 = some r) :
    Calls Try.prog 66 #[.int .i64 a0] w fun e w' => e = .returned (.int .i64 r) ∧ Drawn0 w w' := by
  have H : ((impl_within.f a0 1 60).bind fun t251 => (if t251 = true then ((impl_tableBlocks.f a0).bind fun t252 => (some (wrap64 ((wrap64 (1 + t252)) + a0)))) else (some 0))) = some r := h
  clear h
  obtain ⟨t251, A20, H⟩ := zW_ H
  replace H : (if t251 = true then ((impl_tableBlocks.f a0).bind fun t252 => (some (wrap64 ((wrap64 (1 + t252)) + a0)))) else (some 0)) = some r := H
  have A2 := yD A20
  clear A20
  by_cases c3 : t251 = true
  · subst c3
    have H1 : ((impl_tableBlocks.f a0).bind fun t252 => (some (wrap64 ((wrap64 (1 + t252)) + a0)))) = some r := by rw [if_pos rfl] at H; exact H
    clear H; have H := H1; clear H1
    obtain ⟨t252, A40, H⟩ := zW_ H
    replace H : (some (wrap64 ((wrap64 (1 + t252)) + a0))) = some r := H
    have A4 := yD A40
    clear A40; obtain rfl := Option.some.inj H; go_enter Try.func66, Try.ntmps66
    go_wp2_with (first | ((with_reducible refine gate_callee (f := 37) rfl ?_); refine goesL_ (some 4) rfl rfl Try.func37 (by kernel_rfl) rfl #[.int .i64 a0, .int .i64 1, .int .i64 60] rfl (by (try simp only [zK, zL, zM]); first | done | rfl | (simp only [zN, zO]; rfl)) ?_; (with_reducible refine (impl_within.calls a0 1 60 true _ A2.out).mono ?_); rintro e w' ⟨rfl, ⟨nd, rfl⟩⟩; refine ⟨_, rfl, ?_⟩) | ((with_reducible refine gate_callee (f := 84) rfl ?_); refine goesL_ (some 7) rfl rfl Try.func84 (by kernel_rfl) rfl #[.int .i64 a0] rfl (by (try simp only [zK, zL, zM]); first | done | rfl | (simp only [zN, zO]; rfl)) ?_; (with_reducible refine (impl_tableBlocks.calls a0 t252 _ A4.out).mono ?_); rintro e w' ⟨rfl, ⟨nd, rfl⟩⟩; refine ⟨_, rfl, ?_⟩))
    go_ret
    exact ⟨by first | rfl | (simp; done) | (simp [*]; done), by repeat (first | exact Drawn0.refl _ | apply Drawn0.step)⟩
  · replace c3 := Bool.eq_false_iff.mpr c3
    subst c3
    have H1 : (some 0) = some r := by rw [if_neg (show ¬ (false = true) by decide)] at H; exact H
    clear H; have H := H1; clear H1; obtain rfl := Option.some.inj H; go_enter Try.func66, Try.ntmps66
    go_wp2_with (first | ((with_reducible refine gate_callee (f := 37) rfl ?_); refine goesL_ (some 4) rfl rfl Try.func37 (by kernel_rfl) rfl #[.int .i64 a0, .int .i64 1, .int .i64 60] rfl (by (try simp only [zK, zL, zM]); first | done | rfl | (simp only [zN, zO]; rfl)) ?_; (with_reducible refine (impl_within.calls a0 1 60 false _ A2.out).mono ?_); rintro e w' ⟨rfl, ⟨nd, rfl⟩⟩; refine ⟨_, rfl, ?_⟩))
    go_ret
    exact ⟨by first | rfl | (simp; done) | (simp [*]; done), by repeat (first | exact Drawn0.refl _ | apply Drawn0.step)⟩

/-! ### impl_Super_fits: function 40 -/
def impl_Super_fits.f (a0_0 : Int) (a0_1 : Int) (a0_2 : Int) (a0_3 : Int) (a1 : Int) : Option (Bool) := if a1 ≤ 60 then ((impl_RecordBlocks.f a1).bind fun t254 => (some (decide (t254 ≤ a0_1)))) else (some false)
set_option maxHeartbeats 8000000 in
set_option maxRecDepth 100000 in
theorem impl_Super_fits.calls (a0_0 : Int) (a0_1 : Int) (a0_2 : Int) (a0_3 : Int) (a1 : Int) (r : Bool) (w : World) (h : impl_Super_fits.f a0_0 a0_1 a0_2 a0_3 a1 = some r) :
    Calls Try.prog 40 #[.agg #[.int .i64 a0_0, .int .i64 a0_1, .int .i64 a0_2, .int .i64 a0_3], .int .i64 a1] w fun e w' => e = .returned (.bool r) ∧ Below w.heap.size w w' := by
  have hu45 := Try.underlying45
  have HB := yD (Below.refl w.heap.size w)
  have H : (if a1 ≤ 60 then ((impl_RecordBlocks.f a1).bind fun t254 => (some (decide (t254 ≤ a0_1)))) else (some false)) = some r := h
  clear h
  by_cases c3 : a1 ≤ 60
  · rw [if_pos c3] at H
    have c3b0 : decide (a1 ≤ 60) = true := zR c3; clear c3
    obtain ⟨t254, A40, H⟩ := zW_ H
    replace H : (some (decide (t254 ≤ a0_1))) = some r := H
    have A4 := yD A40
    clear A40; obtain rfl := Option.some.inj H; go_enter Try.func40, Try.ntmps40
    go_wp2_with (first | ((with_reducible refine gate_dst (N := 2) rfl ?_); refine box_event ?hg (N := 2) ?hd (cs := #[.int .i64 a0_0, .int .i64 a0_1, .int .i64 a0_2, .int .i64 a0_3]) (t := 45) ?hr ?_; (case hd => rfl); (case hg => rfl); (case hr => first | (go_simp; done) | (go_simp; rfl)); intro gb253 hg w5 hbox hb; have n0_ := yD (zC (by repeat (first | (with_reducible first | exact HB.out | apply yQ | apply yL | apply yP) | exact HB.out)) hb); have n1_ := yD (hbox); have n2_ := yD ((by rw [hg]; exact (below_size (by repeat (first | (with_reducible first | exact HB.out | apply yQ | apply yL | apply yP) | exact HB.out))) : w.heap.size ≤ gb253)); have n3_ := yD ((by rw [hg]; exact (below_size (by repeat (first | (with_reducible first | exact HB.out | apply yQ | apply yL | apply yP) | exact HB.out))) : w.heap.size ≤ gb253)); clear HB; have HB := n0_; have BK253 := n1_; have GW253 := n2_; have GE253 := n3_; clear n0_ n1_ n2_ n3_; clear hb hbox hg) | (go_at_call 66; (with_reducible refine (impl_RecordBlocks.calls a1 t254 _ A4.out).mono ?_); rintro e w' ⟨rfl, ⟨nd, rfl⟩⟩; (try first | exact ⟨rfl, _, World.drewN_drewN _ _ _⟩ | exact ⟨rfl, _, Eq.trans (World.drewN_drewN _ _ _) (congrArg (World.drewN _) (Nat.add_assoc _ _ _))⟩); obtain ⟨hcz6_0, hcz6_1, hcz6_2, hcz6_3⟩ := cz4 BK253.out; obtain ⟨hfz6_0, hfz6_1, hfz6_2, hfz6_3⟩ := fz4 BK253.out))
    repeat (go_quiet (first | ((with_reducible refine gate_dst (N := 2) rfl ?_); refine box_event ?hg (N := 2) ?hd (cs := #[.int .i64 a0_0, .int .i64 a0_1, .int .i64 a0_2, .int .i64 a0_3]) (t := 45) ?hr ?_; (case hd => rfl); (case hg => rfl); (case hr => first | (go_simp; done) | (go_simp; rfl)); intro gb253 hg w5 hbox hb; have n0_ := yD (zC (by repeat (first | (with_reducible first | exact HB.out | apply yQ | apply yL | apply yP) | exact HB.out)) hb); have n1_ := yD (hbox); have n2_ := yD ((by rw [hg]; exact (below_size (by repeat (first | (with_reducible first | exact HB.out | apply yQ | apply yL | apply yP) | exact HB.out))) : w.heap.size ≤ gb253)); have n3_ := yD ((by rw [hg]; exact (below_size (by repeat (first | (with_reducible first | exact HB.out | apply yQ | apply yL | apply yP) | exact HB.out))) : w.heap.size ≤ gb253)); clear HB; have HB := n0_; have BK253 := n1_; have GW253 := n2_; have GE253 := n3_; clear n0_ n1_ n2_ n3_; clear hb hbox hg) | (go_at_call 66; (with_reducible refine (impl_RecordBlocks.calls a1 t254 _ A4.out).mono ?_); rintro e w' ⟨rfl, ⟨nd, rfl⟩⟩; (try first | exact ⟨rfl, _, World.drewN_drewN _ _ _⟩ | exact ⟨rfl, _, Eq.trans (World.drewN_drewN _ _ _) (congrArg (World.drewN _) (Nat.add_assoc _ _ _))⟩); obtain ⟨hcz6_0, hcz6_1, hcz6_2, hcz6_3⟩ := cz4 BK253.out; obtain ⟨hfz6_0, hfz6_1, hfz6_2, hfz6_3⟩ := fz4 BK253.out)); try go_wp2_with (first | ((with_reducible refine gate_dst (N := 2) rfl ?_); refine box_event ?hg (N := 2) ?hd (cs := #[.int .i64 a0_0, .int .i64 a0_1, .int .i64 a0_2, .int .i64 a0_3]) (t := 45) ?hr ?_; (case hd => rfl); (case hg => rfl); (case hr => first | (go_simp; done) | (go_simp; rfl)); intro gb253 hg w5 hbox hb; have n0_ := yD (zC (by repeat (first | (with_reducible first | exact HB.out | apply yQ | apply yL | apply yP) | exact HB.out)) hb); have n1_ := yD (hbox); have n2_ := yD ((by rw [hg]; exact (below_size (by repeat (first | (with_reducible first | exact HB.out | apply yQ | apply yL | apply yP) | exact HB.out))) : w.heap.size ≤ gb253)); have n3_ := yD ((by rw [hg]; exact (below_size (by repeat (first | (with_reducible first | exact HB.out | apply yQ | apply yL | apply yP) | exact HB.out))) : w.heap.size ≤ gb253)); clear HB; have HB := n0_; have BK253 := n1_; have GW253 := n2_; have GE253 := n3_; clear n0_ n1_ n2_ n3_; clear hb hbox hg) | (go_at_call 66; (with_reducible refine (impl_RecordBlocks.calls a1 t254 _ A4.out).mono ?_); rintro e w' ⟨rfl, ⟨nd, rfl⟩⟩; (try first | exact ⟨rfl, _, World.drewN_drewN _ _ _⟩ | exact ⟨rfl, _, Eq.trans (World.drewN_drewN _ _ _) (congrArg (World.drewN _) (Nat.add_assoc _ _ _))⟩); obtain ⟨hcz6_0, hcz6_1, hcz6_2, hcz6_3⟩ := cz4 BK253.out; obtain ⟨hfz6_0, hfz6_1, hfz6_2, hfz6_3⟩ := fz4 BK253.out)))
    go_ret
    exact ⟨by first | rfl | (simp <;> rfl) | (simp [*] <;> rfl), by repeat (first | (with_reducible first | exact HB.out | apply yQ | apply yL | apply yP | refine yE ?_ GE253.out) | exact HB.out)⟩
  · rw [if_neg c3] at H
    have c3b0 : decide (a1 ≤ 60) = false := zS c3; clear c3; obtain rfl := Option.some.inj H; go_enter Try.func40, Try.ntmps40
    go_wp2_with (first | ((with_reducible refine gate_dst (N := 2) rfl ?_); refine box_event ?hg (N := 2) ?hd (cs := #[.int .i64 a0_0, .int .i64 a0_1, .int .i64 a0_2, .int .i64 a0_3]) (t := 45) ?hr ?_; (case hd => rfl); (case hg => rfl); (case hr => first | (go_simp; done) | (go_simp; rfl)); intro gb253 hg w7 hbox hb; have n0_ := yD (zC (by repeat (first | (with_reducible first | exact HB.out | apply yQ | apply yL | apply yP) | exact HB.out)) hb); have n1_ := yD (hbox); have n2_ := yD ((by rw [hg]; exact (below_size (by repeat (first | (with_reducible first | exact HB.out | apply yQ | apply yL | apply yP) | exact HB.out))) : w.heap.size ≤ gb253)); have n3_ := yD ((by rw [hg]; exact (below_size (by repeat (first | (with_reducible first | exact HB.out | apply yQ | apply yL | apply yP) | exact HB.out))) : w.heap.size ≤ gb253)); clear HB; have HB := n0_; have BK253 := n1_; have GW253 := n2_; have GE253 := n3_; clear n0_ n1_ n2_ n3_; clear hb hbox hg))
    repeat (go_quiet (first | ((with_reducible refine gate_dst (N := 2) rfl ?_); refine box_event ?hg (N := 2) ?hd (cs := #[.int .i64 a0_0, .int .i64 a0_1, .int .i64 a0_2, .int .i64 a0_3]) (t := 45) ?hr ?_; (case hd => rfl); (case hg => rfl); (case hr => first | (go_simp; done) | (go_simp; rfl)); intro gb253 hg w7 hbox hb; have n0_ := yD (zC (by repeat (first | (with_reducible first | exact HB.out | apply yQ | apply yL | apply yP) | exact HB.out)) hb); have n1_ := yD (hbox); have n2_ := yD ((by rw [hg]; exact (below_size (by repeat (first | (with_reducible first | exact HB.out | apply yQ | apply yL | apply yP) | exact HB.out))) : w.heap.size ≤ gb253)); have n3_ := yD ((by rw [hg]; exact (below_size (by repeat (first | (with_reducible first | exact HB.out | apply yQ | apply yL | apply yP) | exact HB.out))) : w.heap.size ≤ gb253)); clear HB; have HB := n0_; have BK253 := n1_; have GW253 := n2_; have GE253 := n3_; clear n0_ n1_ n2_ n3_; clear hb hbox hg)); try go_wp2_with (first | ((with_reducible refine gate_dst (N := 2) rfl ?_); refine box_event ?hg (N := 2) ?hd (cs := #[.int .i64 a0_0, .int .i64 a0_1, .int .i64 a0_2, .int .i64 a0_3]) (t := 45) ?hr ?_; (case hd => rfl); (case hg => rfl); (case hr => first | (go_simp; done) | (go_simp; rfl)); intro gb253 hg w7 hbox hb; have n0_ := yD (zC (by repeat (first | (with_reducible first | exact HB.out | apply yQ | apply yL | apply yP) | exact HB.out)) hb); have n1_ := yD (hbox); have n2_ := yD ((by rw [hg]; exact (below_size (by repeat (first | (with_reducible first | exact HB.out | apply yQ | apply yL | apply yP) | exact HB.out))) : w.heap.size ≤ gb253)); have n3_ := yD ((by rw [hg]; exact (below_size (by repeat (first | (with_reducible first | exact HB.out | apply yQ | apply yL | apply yP) | exact HB.out))) : w.heap.size ≤ gb253)); clear HB; have HB := n0_; have BK253 := n1_; have GW253 := n2_; have GE253 := n3_; clear n0_ n1_ n2_ n3_; clear hb hbox hg)))
    go_ret
    exact ⟨by first | rfl | (simp <;> rfl) | (simp [*] <;> rfl), by repeat (first | (with_reducible first | exact HB.out | apply yQ | apply yL | apply yP | refine yE ?_ GE253.out) | exact HB.out)⟩

end Go.Proofs.Ytjfahjojihlbgaa.PFnExactValidPager
