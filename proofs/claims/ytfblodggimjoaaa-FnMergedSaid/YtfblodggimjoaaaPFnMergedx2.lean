/- Each Go function here comes to what the plain function of its name says, where that says something. Made by a program of this session, over the print. -/
import Derived.Test.YtfblodggimjoaaaPFnMergedx0
import Derived.Test.YtfblodggimjoaaaPFnMergedx1
namespace Go.Proofs.Ytfblodggimjoaaa.PFnMerged
open Go.RowKit Go.Proofs.YtfblodggimjoaaaW.PrintWords Go.Proofs.YtfblodggimjoaaaW.PrintLast Go.Proofs.YtfblodggimjoaaaW.PrintMore
attribute [local go_sem] max2_int min2_int max_two min_two max_three min_three max_four min_four   -- for this text's walks alone
set_option linter.unusedVariables false
set_option linter.unusedSimpArgs false

/-! ### spec_l11DrawBent: function 57 -/
def spec_l11DrawBent.l0 : Nat → List (S79) → Int → List Int → Int → Int → Option ((List (S79)) × Int × Int)
 | 0, _, _, _, _, _ => none
 | k + 1, x5, x6, x1000, x1001, x1002 => if x6 ≤ 256 then ((spec_l09Zero.f).bind fun t199 => (if x5.length < 5864062014805 then (spec_l11DrawBent.l0 k (x5 ++ [(⟨x6, t199⟩ : S79)]) (wrap64 (x6 + 1)) x1000 x1001 x1002) else (none))) else (some (x5, x1001, x1002))
def spec_l11DrawBent.f (k : Nat) (s0_0 : List Int) (s0_1 : Int) (s0_2 : Int) (a1 : Int) : Option ((List (S79)) × Int × Int) := (spec_l00Src_pick.f s0_0 s0_1 s0_2 12).bind fun bt169 => ((spec_l11DrawPages.f k s0_0 bt169.2.1 bt169.2.2 bt169.1 255 5).bind fun bt172 => ((spec_l00Src_one.f s0_0 bt172.2.1 bt172.2.2 a1).bind fun bt177 => (if bt177.1 = true then ((spec_l00Src_pick.f s0_0 bt177.2.1 bt177.2.2 3).bind fun bt180 => (if bt180.1 = 0 then ((spec_l00Src_among.f s0_0 bt180.2.1 bt180.2.2 (([(-1), 256, 0, 3] : List Int))).bind fun bt186 => ((spec_l09Zero.f).bind fun t189 => (if bt172.1.length < 5864062014805 then (some ((bt172.1 ++ [(⟨bt186.1, t189⟩ : S79)]), bt186.2.1, bt186.2.2)) else (none)))) else (if bt180.1 = 1 then ((spec_l00Src_word.f k s0_0 bt180.2.1 bt180.2.2 70).bind fun bt193 => (if bt172.1.length < 5864062014805 then (some ((bt172.1 ++ [(⟨200, bt193.1⟩ : S79)]), bt193.2.1, bt193.2.2)) else (none))) else (spec_l11DrawBent.l0 k bt172.1 0 s0_0 bt180.2.1 bt180.2.2)))) else (some (bt172.1, bt177.2.1, bt177.2.2)))))
theorem spec_l11DrawBent.mono_l : ∀ k, (∀ y0 y1 y2 y3 y4, LeO (spec_l11DrawBent.l0 k y0 y1 y2 y3 y4) (spec_l11DrawBent.l0 (k + 1) y0 y1 y2 y3 y4))
 | 0 => fun _ _ _ _ _ r h => by simp [spec_l11DrawBent.l0] at h
 | k + 1 => by
  have ih0 := spec_l11DrawBent.mono_l k
  · intro y0 y1 y2 y3 y4
    unfold spec_l11DrawBent.l0
    repeat' (with_reducible first | exact ih0 _ _ _ _ _ | exact spec_l00Src_word.mono _ _ _ _ _ | exact spec_l11DrawPages.mono _ _ _ _ _ _ _ | exact LeO.refl _ | exact LeO.none _ | refine LeO.ite ?_ ?_ | refine LeO.bind ?_ (fun _ => ?_))
theorem spec_l11DrawBent.mono : ∀ a0 a1 a2 a3 k, LeO (spec_l11DrawBent.f k a0 a1 a2 a3) (spec_l11DrawBent.f (k + 1) a0 a1 a2 a3) := by
 intro a0 a1 a2 a3 k
 have ih0 := spec_l11DrawBent.mono_l k
 unfold spec_l11DrawBent.f
 repeat' (with_reducible first | exact ih0 _ _ _ _ _ | exact spec_l00Src_word.mono _ _ _ _ _ | exact spec_l11DrawPages.mono _ _ _ _ _ _ _ | exact LeO.refl _ | exact LeO.none _ | refine LeO.ite ?_ ?_ | refine LeO.bind ?_ (fun _ => ?_))
set_option maxHeartbeats 8000000 in
set_option maxRecDepth 100000 in
theorem spec_l11DrawBent.calls (k : Nat) (g : Nat) (s0_0 : List Int) (s0_1 : Int) (s0_2 : Int) (a1 : Int) (r1 : List (S79)) (r2 : Int) (r3 : Int) (w0 w : World) (hI : IsS99 w0 w g s0_0 s0_1 s0_2) (hB : Below w0.heap.size w0 w) (h : spec_l11DrawBent.f k s0_0 s0_1 s0_2 a1 = some (r1, r2, r3)) :
 Calls Try.prog 57 #[.pointer (some ⟨g, 0, none⟩), .int .i64 a1] w fun e w' => ∃ v0_ : Value, e = .returned (v0_) ∧ Kd.R k79 79 w' w.heap.size (fun _ => True) v0_ r1 ∧ IsS99 w0 w' g s0_0 r2 r3 ∧ Below w0.heap.size w0 w' ∧ KeepBut w w' g none := by
 have hu79 := Try.underlying79
 have HI0 := yD hI
 have HK := yD (KeepBut.refl w g none)
 have HL := yD hB.size
 clear hI
 have HW0 := yD hB.size
 have HB := yD hB
 clear hB
 have H : ((spec_l00Src_pick.f s0_0 s0_1 s0_2 12).bind fun bt169 => ((spec_l11DrawPages.f k s0_0 bt169.2.1 bt169.2.2 bt169.1 255 5).bind fun bt172 => ((spec_l00Src_one.f s0_0 bt172.2.1 bt172.2.2 a1).bind fun bt177 => (if bt177.1 = true then ((spec_l00Src_pick.f s0_0 bt177.2.1 bt177.2.2 3).bind fun bt180 => (if bt180.1 = 0 then ((spec_l00Src_among.f s0_0 bt180.2.1 bt180.2.2 (([(-1), 256, 0, 3] : List Int))).bind fun bt186 => ((spec_l09Zero.f).bind fun t189 => (if bt172.1.length < 5864062014805 then (some ((bt172.1 ++ [(⟨bt186.1, t189⟩ : S79)]), bt186.2.1, bt186.2.2)) else (none)))) else (if bt180.1 = 1 then ((spec_l00Src_word.f k s0_0 bt180.2.1 bt180.2.2 70).bind fun bt193 => (if bt172.1.length < 5864062014805 then (some ((bt172.1 ++ [(⟨200, bt193.1⟩ : S79)]), bt193.2.1, bt193.2.2)) else (none))) else (spec_l11DrawBent.l0 k bt172.1 0 s0_0 bt180.2.1 bt180.2.2)))) else (some (bt172.1, bt177.2.1, bt177.2.2)))))) = some (r1, r2, r3) := h
 clear h
 obtain ⟨⟨t169, t170, t171⟩, A30, H⟩ := zW_ H
 replace H : ((spec_l11DrawPages.f k s0_0 t170 t171 t169 255 5).bind fun bt172 => ((spec_l00Src_one.f s0_0 bt172.2.1 bt172.2.2 a1).bind fun bt177 => (if bt177.1 = true then ((spec_l00Src_pick.f s0_0 bt177.2.1 bt177.2.2 3).bind fun bt180 => (if bt180.1 = 0 then ((spec_l00Src_among.f s0_0 bt180.2.1 bt180.2.2 (([(-1), 256, 0, 3] : List Int))).bind fun bt186 => ((spec_l09Zero.f).bind fun t189 => (if bt172.1.length < 5864062014805 then (some ((bt172.1 ++ [(⟨bt186.1, t189⟩ : S79)]), bt186.2.1, bt186.2.2)) else (none)))) else (if bt180.1 = 1 then ((spec_l00Src_word.f k s0_0 bt180.2.1 bt180.2.2 70).bind fun bt193 => (if bt172.1.length < 5864062014805 then (some ((bt172.1 ++ [(⟨200, bt193.1⟩ : S79)]), bt193.2.1, bt193.2.2)) else (none))) else (spec_l11DrawBent.l0 k bt172.1 0 s0_0 bt180.2.1 bt180.2.2)))) else (some (bt172.1, bt177.2.1, bt177.2.2))))) = some (r1, r2, r3) := H
 have A3 := yD A30
 clear A30
 obtain ⟨⟨t172, t175, t176⟩, A40, H⟩ := zW_ H
 replace H : ((spec_l00Src_one.f s0_0 t175 t176 a1).bind fun bt177 => (if bt177.1 = true then ((spec_l00Src_pick.f s0_0 bt177.2.1 bt177.2.2 3).bind fun bt180 => (if bt180.1 = 0 then ((spec_l00Src_among.f s0_0 bt180.2.1 bt180.2.2 (([(-1), 256, 0, 3] : List Int))).bind fun bt186 => ((spec_l09Zero.f).bind fun t189 => (if t172.length < 5864062014805 then (some ((t172 ++ [(⟨bt186.1, t189⟩ : S79)]), bt186.2.1, bt186.2.2)) else (none)))) else (if bt180.1 = 1 then ((spec_l00Src_word.f k s0_0 bt180.2.1 bt180.2.2 70).bind fun bt193 => (if t172.length < 5864062014805 then (some ((t172 ++ [(⟨200, bt193.1⟩ : S79)]), bt193.2.1, bt193.2.2)) else (none))) else (spec_l11DrawBent.l0 k t172 0 s0_0 bt180.2.1 bt180.2.2)))) else (some (t172, bt177.2.1, bt177.2.2)))) = some (r1, r2, r3) := H
 have A4 := yD A40
 clear A40
 obtain ⟨⟨t177, t178, t179⟩, A50, H⟩ := zW_ H
 replace H : (if t177 = true then ((spec_l00Src_pick.f s0_0 t178 t179 3).bind fun bt180 => (if bt180.1 = 0 then ((spec_l00Src_among.f s0_0 bt180.2.1 bt180.2.2 (([(-1), 256, 0, 3] : List Int))).bind fun bt186 => ((spec_l09Zero.f).bind fun t189 => (if t172.length < 5864062014805 then (some ((t172 ++ [(⟨bt186.1, t189⟩ : S79)]), bt186.2.1, bt186.2.2)) else (none)))) else (if bt180.1 = 1 then ((spec_l00Src_word.f k s0_0 bt180.2.1 bt180.2.2 70).bind fun bt193 => (if t172.length < 5864062014805 then (some ((t172 ++ [(⟨200, bt193.1⟩ : S79)]), bt193.2.1, bt193.2.2)) else (none))) else (spec_l11DrawBent.l0 k t172 0 s0_0 bt180.2.1 bt180.2.2)))) else (some (t172, t178, t179))) = some (r1, r2, r3) := H
 have A5 := yD A50
 clear A50
 by_cases c6 : t177 = true
 ·
  subst c6
  replace H : ((spec_l00Src_pick.f s0_0 t178 t179 3).bind fun bt180 => (if bt180.1 = 0 then ((spec_l00Src_among.f s0_0 bt180.2.1 bt180.2.2 (([(-1), 256, 0, 3] : List Int))).bind fun bt186 => ((spec_l09Zero.f).bind fun t189 => (if t172.length < 5864062014805 then (some ((t172 ++ [(⟨bt186.1, t189⟩ : S79)]), bt186.2.1, bt186.2.2)) else (none)))) else (if bt180.1 = 1 then ((spec_l00Src_word.f k s0_0 bt180.2.1 bt180.2.2 70).bind fun bt193 => (if t172.length < 5864062014805 then (some ((t172 ++ [(⟨200, bt193.1⟩ : S79)]), bt193.2.1, bt193.2.2)) else (none))) else (spec_l11DrawBent.l0 k t172 0 s0_0 bt180.2.1 bt180.2.2)))) = some (r1, r2, r3) := (by rw [if_pos rfl] at H; exact H)
  obtain ⟨⟨t180, t181, t182⟩, A70, H⟩ := zW_ H
  replace H : (if t180 = 0 then ((spec_l00Src_among.f s0_0 t181 t182 (([(-1), 256, 0, 3] : List Int))).bind fun bt186 => ((spec_l09Zero.f).bind fun t189 => (if t172.length < 5864062014805 then (some ((t172 ++ [(⟨bt186.1, t189⟩ : S79)]), bt186.2.1, bt186.2.2)) else (none)))) else (if t180 = 1 then ((spec_l00Src_word.f k s0_0 t181 t182 70).bind fun bt193 => (if t172.length < 5864062014805 then (some ((t172 ++ [(⟨200, bt193.1⟩ : S79)]), bt193.2.1, bt193.2.2)) else (none))) else (spec_l11DrawBent.l0 k t172 0 s0_0 t181 t182))) = some (r1, r2, r3) := H
  have A7 := yD A70
  clear A70
  by_cases c8 : t180 = 0
  ·
   rw [if_pos c8] at H
   have c8b0 : (t180 == 0) = true := beq_iff_eq.mpr c8
   have c8b1 : (t180 != 0) = false := bne_eq_false_iff_eq.mpr c8
   clear c8
   obtain ⟨y183, hy183⟩ : ∃ y_ : List Int, y_ = (([(-1), 256, 0, 3] : List Int)) := ⟨_, rfl⟩
   replace H : ((spec_l00Src_among.f s0_0 t181 t182 y183).bind fun bt186 => ((spec_l09Zero.f).bind fun t189 => (if t172.length < 5864062014805 then (some ((t172 ++ [(⟨bt186.1, t189⟩ : S79)]), bt186.2.1, bt186.2.2)) else (none)))) = some (r1, r2, r3) := by first | (rw [hy183]; with_reducible exact H) | (have H2_ := (Option.bind_some _ _).symm.trans H; rw [hy183]; with_reducible exact H2_) | (have H2_ := (Option.bind_some _ _).symm.trans H; with_reducible exact H2_) | with_reducible exact H | (rw [hy183]; exact H) | exact H
   have Ny183 := yD hy183
   clear hy183
   obtain ⟨⟨t186, t187, t188⟩, A90, H⟩ := zW_ H
   replace H : ((spec_l09Zero.f).bind fun t189 => (if t172.length < 5864062014805 then (some ((t172 ++ [(⟨t186, t189⟩ : S79)]), t187, t188)) else (none))) = some (r1, r2, r3) := H
   have A9 := yD A90
   clear A90
   obtain ⟨t189, A100, H⟩ := zW_ H
   replace H : (if t172.length < 5864062014805 then (some ((t172 ++ [(⟨t186, t189⟩ : S79)]), t187, t188)) else (none)) = some (r1, r2, r3) := H
   have A10 := yD A100
   clear A100
   by_cases c11 : t172.length < 5864062014805
   ·
    rw [if_pos c11] at H
    have LMc11 := yD c11
    clear c11
    obtain ⟨y190, hy190⟩ : ∃ y_ : List (S79), y_ = (t172 ++ [(⟨t186, t189⟩ : S79)]) := ⟨_, rfl⟩
    replace H : (some (y190, t187, t188)) = some (r1, r2, r3) := by first | (rw [hy190]; with_reducible exact H) | (have H2_ := (Option.bind_some _ _).symm.trans H; rw [hy190]; with_reducible exact H2_) | (have H2_ := (Option.bind_some _ _).symm.trans H; with_reducible exact H2_) | with_reducible exact H | (rw [hy190]; exact H) | exact H
    have Ny190 := yD hy190
    clear hy190
    simp only [Option.some.injEq, Prod.mk.injEq] at H
    obtain ⟨rfl, rfl, rfl⟩ := H
    go_enter Try.func57, Try.ntmps57
    go_wp2_with (first | ((with_reducible refine gate_callee (f := 71) rfl ?_); refine gL 9 Try.func71 #[.pointer (some ⟨g, 0, none⟩), .int .i64 12] ?_; (with_reducible refine (spec_l00Src_pick.calls g s0_0 s0_1 s0_2 12 t169 t170 t171 w0 _ ?side1 ?side2 A3.out).mono ?_); (case side1 => exact kR2 HI0); (case side2 => exact kR3 HB); rintro e w12 ⟨rfl, hi, hb, hk⟩; refine ⟨_, rfl, ?_⟩; replace HK := yD (KeepBut.trans (kR4 HK) hk (.inl rfl)); replace HB := yD (hb); replace HI0 := yD (hi); clear hb hk hi) | ((with_reducible refine gate_callee (f := 70) rfl ?_); refine gL 10 Try.func70 #[.pointer (some ⟨g, 0, none⟩), .int .i64 t169, .int .i64 255, .int .i64 5] ?_; (with_reducible refine (spec_l11DrawPages.calls k g s0_0 t170 t171 t169 255 5 t172 t175 t176 w0 _ ?side1 ?side2 A4.out).mono ?_); (case side1 => exact kR2 HI0); (case side2 => exact kR3 HB); rintro e w13 ⟨v173, rfl, ho0, hi, hb, hk⟩; refine ⟨_, rfl, ?_⟩; have HO174 := yD (yZ ho0 (keep_size (w := w) (g := g) (row := none) (kR4 HK))); replace HK := yD (KeepBut.trans (kR4 HK) hk (.inl rfl)); replace HB := yD (hb); replace HI0 := yD (hi); clear hb hk hi ho0) | ((with_reducible refine gate_callee (f := 72) rfl ?_); refine gL 13 Try.func72 #[.pointer (some ⟨g, 0, none⟩), .int .i64 a1] ?_; (with_reducible refine (spec_l00Src_one.calls g s0_0 t175 t176 a1 true t178 t179 w0 _ ?side1 ?side2 A5.out).mono ?_); (case side1 => exact kR2 HI0); (case side2 => exact kR3 HB); rintro e w14 ⟨rfl, hi, hb, hk⟩; refine ⟨_, rfl, ?_⟩; replace HO174 := yD (zF (Kd.R_keep (IsS99.apart (show IsS99 w0 _ g s0_0 t175 t176 from kR2 HI0) (kA HO174) (by decide)) hk (fun _ h => h.2)) (fun _ h => h.1)); replace HK := yD (KeepBut.trans (kR4 HK) hk (.inl rfl)); replace HB := yD (hb); replace HI0 := yD (hi); clear hb hk hi) | ((with_reducible refine gate_callee (f := 71) rfl ?_); refine gL 17 Try.func71 #[.pointer (some ⟨g, 0, none⟩), .int .i64 3] ?_; (with_reducible refine (spec_l00Src_pick.calls g s0_0 t178 t179 3 t180 t181 t182 w0 _ ?side1 ?side2 A7.out).mono ?_); (case side1 => exact kR2 HI0); (case side2 => exact kR3 HB); rintro e w15 ⟨rfl, hi, hb, hk⟩; refine ⟨_, rfl, ?_⟩; replace HO174 := yD (zF (Kd.R_keep (IsS99.apart (show IsS99 w0 _ g s0_0 t178 t179 from kR2 HI0) (kA HO174) (by decide)) hk (fun _ h => h.2)) (fun _ h => h.1)); replace HK := yD (KeepBut.trans (kR4 HK) hk (.inl rfl)); replace HB := yD (hb); replace HI0 := yD (hi); clear hb hk hi) | ((with_reducible refine gate_dst (N := 32) rfl ?_); refine Kd.R_lit (Kd.int .i64) _ 2 ?hg (N := 32) ?hd (xs := ([(-1), 256, 0, 3] : List Int)) (inner := [.int .i64 (-1), .int .i64 256, .int .i64 0, .int .i64 3]) (ok := fun _ => True) (okp := fun _ => True) ?hr ?hp (fun _ hk => hk) trivial (Below.refl _ _) (Nat.le_refl _) (by simp) ?_; (case hd => rfl); (case hg => rfl); (case hr => first | (go_simp; done) | (go_simp; rfl)); (case hp => exact (Reps.one (show Kd.M (Kd.int .i64) _ _ _ (-1) [.int .i64 (-1)] from rfl) (Reps.one (show Kd.M (Kd.int .i64) _ _ _ 256 [.int .i64 256] from rfl) (Reps.one (show Kd.M (Kd.int .i64) _ _ _ 0 [.int .i64 0] from rfl) (Reps.one (show Kd.M (Kd.int .i64) _ _ _ 3 [.int .i64 3] from rfl) (Reps.none _ _)))))); intro v184 w16 ho17 hb hg_ hnew_; clear hg_ hnew_; (first | rw [← Ny183.out] at ho17 | (simp only [Int.reduceToNat] at ho17; rw [← Ny183.out] at ho17)); replace HO174 := yD (zE (kA HO174) hb); have HO185 := yD (yZ ho17 (keep_size (w := w) (g := g) (row := none) (kR4 HK))); replace HI0 := yD (IsS99.below (kR2 HI0) hb); replace HK := yD (KeepBut.trans (kR4 HK) (KeepBut.of_below hb g none) (.inl rfl)); replace HB := yD (zC (kR3 HB) hb); clear hb ho17; obtain ⟨Ao18, co18, eo18⟩ := Kd.R_slice HO185.out; subst eo18) | ((with_reducible refine gate_callee (f := 73) rfl ?_); refine gL 33 Try.func73 #[.pointer (some ⟨g, 0, none⟩), .slice Ao18 y183.length co18] ?_; (with_reducible refine (spec_l00Src_among.calls g s0_0 t181 t182 _ _ y183 t186 t187 t188 w0 _ ?side1 ?side2 ?side3 ?side4 ?side5 A9.out).mono ?_); (case side1 => exact kR2 HI0); (case side2 => exact kR3 HB); (case side3 => exact kV (zA HO185.out).2.2); (case side4 => exact (zA HO185.out).2.1); (case side5 => exact far_slice (IsS99.own_ne HI0.out HO185.out (by decide))); rintro e w19 ⟨rfl, hi, hb, hk⟩; refine ⟨_, rfl, ?_⟩; replace HO174 := yD (zF (Kd.R_keep (IsS99.apart (show IsS99 w0 _ g s0_0 t181 t182 from kR2 HI0) (kA HO174) (by decide)) hk (fun _ h => h.2)) (fun _ h => h.1)); replace HO185 := yD (zF (Kd.R_keep (IsS99.apart (show IsS99 w0 _ g s0_0 t181 t182 from kR2 HI0) (kA HO185) (by decide)) hk (fun _ h => h.2)) (fun _ h => h.1)); replace HK := yD (KeepBut.trans (kR4 HK) hk (.inl rfl)); replace HB := yD (hb); replace HI0 := yD (hi); clear hb hk hi) | ((with_reducible refine gate_callee (f := 74) rfl ?_); refine gL 34 Try.func74 #[] ?_; (with_reducible refine (spec_l09Zero.calls  t189 _ A10.out).mono ?_); rintro e w20 ⟨rfl, hb⟩; refine ⟨_, rfl, ?_⟩; replace HO174 := yD (zE (kA HO174) hb); replace HO185 := yD (zE (kA HO185) hb); replace HI0 := yD (IsS99.below (kR2 HI0) hb); replace HK := yD (KeepBut.trans (kR4 HK) (KeepBut.of_below hb g none) (.inl rfl)); replace HB := yD (zC (kR3 HB) hb); clear hb) | ((with_reducible refine gate_builtin (b := .append) (xs := #[.tmp 30, .tmp 36]) rfl ?_); at_builtin; refine Kd.R_append k79 w.heap.size rfl (.tmp 30) (.tmp 36) 38 79 (.agg #[(.int .i64 0), (.string ⟨#[]⟩)]) 24 rfl Try.underlying38 info79 rfl (by decide) (by omega) v173 t172 (⟨t186, t189⟩ : S79) [.int .i64 t186, .string t189] (fun _ => True) (fun _ => False) rfl rfl ?aP (fun _ hk => hk.elim) ?aF ?aO (Below.refl _ _) ?aS ?aL ?_; (case aP => exact k79_mkM _ _ _ (⟨t186, t189⟩ : S79)); (case aF => exact (fun _ _ => trivial)); (case aO => exact (kA HO174)); (case aS => exact (keep_size (w := w) (g := g) (row := none) (kR4 HK))); (case aL => have := LMc11.out; omega); intro v191 w21 ho hb hg hat; rw [← Ny190.out] at ho; replace HI0 := yD (IsS99.grown (kR2 HI0) hg (IsS99.own_ne HI0.out HO174.out (by decide))); replace HO185 := yD (Kd.R_over' (kA HO185) (Kd.R_typed (kA HO174)) (by decide) hg); replace HB := yD (below_weaken (kR3 HB) HL.out hb); replace HK := yD (KeepBut.trans (kR4 HK) (KeepBut.of_grown hg g) (Kd.R_base2 HO174.out)); have HO192 := yD (ho); clear HO174; clear ho hb hg hat))
    go_ret
    exact ⟨_, by first | rfl | (simp <;> rfl) | (simp [*] <;> rfl), kA HO192, kR2 HI0, kR3 HB, kR4 HK⟩
   · rw [if_neg c11] at H
     exact absurd H (by simp)
  ·
   rw [if_neg c8] at H
   have c8b0 : (t180 == 0) = false := beq_eq_false_iff_ne.mpr c8
   have c8b1 : (t180 != 0) = true := bne_iff_ne.mpr c8
   by_cases c22 : t180 = 1
   ·
    rw [if_pos c22] at H
    have c22b0 : (t180 == 1) = true := beq_iff_eq.mpr c22
    have c22b1 : (t180 != 1) = false := bne_eq_false_iff_eq.mpr c22
    clear c22
    obtain ⟨⟨t193, t194, t195⟩, A230, H⟩ := zW_ H
    replace H : (if t172.length < 5864062014805 then (some ((t172 ++ [(⟨200, t193⟩ : S79)]), t194, t195)) else (none)) = some (r1, r2, r3) := H
    have A23 := yD A230
    clear A230
    by_cases c24 : t172.length < 5864062014805
    ·
     rw [if_pos c24] at H
     have LMc24 := yD c24
     clear c24
     obtain ⟨y196, hy196⟩ : ∃ y_ : List (S79), y_ = (t172 ++ [(⟨200, t193⟩ : S79)]) := ⟨_, rfl⟩
     replace H : (some (y196, t194, t195)) = some (r1, r2, r3) := by first | (rw [hy196]; with_reducible exact H) | (have H2_ := (Option.bind_some _ _).symm.trans H; rw [hy196]; with_reducible exact H2_) | (have H2_ := (Option.bind_some _ _).symm.trans H; with_reducible exact H2_) | with_reducible exact H | (rw [hy196]; exact H) | exact H
     have Ny196 := yD hy196
     clear hy196
     simp only [Option.some.injEq, Prod.mk.injEq] at H
     obtain ⟨rfl, rfl, rfl⟩ := H
     go_enter Try.func57, Try.ntmps57
     go_wp2_with (first | ((with_reducible refine gate_callee (f := 71) rfl ?_); refine gL 9 Try.func71 #[.pointer (some ⟨g, 0, none⟩), .int .i64 12] ?_; (with_reducible refine (spec_l00Src_pick.calls g s0_0 s0_1 s0_2 12 t169 t170 t171 w0 _ ?side1 ?side2 A3.out).mono ?_); (case side1 => exact kR2 HI0); (case side2 => exact kR3 HB); rintro e w25 ⟨rfl, hi, hb, hk⟩; refine ⟨_, rfl, ?_⟩; replace HK := yD (KeepBut.trans (kR4 HK) hk (.inl rfl)); replace HB := yD (hb); replace HI0 := yD (hi); clear hb hk hi) | ((with_reducible refine gate_callee (f := 70) rfl ?_); refine gL 10 Try.func70 #[.pointer (some ⟨g, 0, none⟩), .int .i64 t169, .int .i64 255, .int .i64 5] ?_; (with_reducible refine (spec_l11DrawPages.calls k g s0_0 t170 t171 t169 255 5 t172 t175 t176 w0 _ ?side1 ?side2 A4.out).mono ?_); (case side1 => exact kR2 HI0); (case side2 => exact kR3 HB); rintro e w26 ⟨v173, rfl, ho0, hi, hb, hk⟩; refine ⟨_, rfl, ?_⟩; have HO174 := yD (yZ ho0 (keep_size (w := w) (g := g) (row := none) (kR4 HK))); replace HK := yD (KeepBut.trans (kR4 HK) hk (.inl rfl)); replace HB := yD (hb); replace HI0 := yD (hi); clear hb hk hi ho0) | ((with_reducible refine gate_callee (f := 72) rfl ?_); refine gL 13 Try.func72 #[.pointer (some ⟨g, 0, none⟩), .int .i64 a1] ?_; (with_reducible refine (spec_l00Src_one.calls g s0_0 t175 t176 a1 true t178 t179 w0 _ ?side1 ?side2 A5.out).mono ?_); (case side1 => exact kR2 HI0); (case side2 => exact kR3 HB); rintro e w27 ⟨rfl, hi, hb, hk⟩; refine ⟨_, rfl, ?_⟩; replace HO174 := yD (zF (Kd.R_keep (IsS99.apart (show IsS99 w0 _ g s0_0 t175 t176 from kR2 HI0) (kA HO174) (by decide)) hk (fun _ h => h.2)) (fun _ h => h.1)); replace HK := yD (KeepBut.trans (kR4 HK) hk (.inl rfl)); replace HB := yD (hb); replace HI0 := yD (hi); clear hb hk hi) | ((with_reducible refine gate_callee (f := 71) rfl ?_); refine gL 17 Try.func71 #[.pointer (some ⟨g, 0, none⟩), .int .i64 3] ?_; (with_reducible refine (spec_l00Src_pick.calls g s0_0 t178 t179 3 t180 t181 t182 w0 _ ?side1 ?side2 A7.out).mono ?_); (case side1 => exact kR2 HI0); (case side2 => exact kR3 HB); rintro e w28 ⟨rfl, hi, hb, hk⟩; refine ⟨_, rfl, ?_⟩; replace HO174 := yD (zF (Kd.R_keep (IsS99.apart (show IsS99 w0 _ g s0_0 t178 t179 from kR2 HI0) (kA HO174) (by decide)) hk (fun _ h => h.2)) (fun _ h => h.1)); replace HK := yD (KeepBut.trans (kR4 HK) hk (.inl rfl)); replace HB := yD (hb); replace HI0 := yD (hi); clear hb hk hi) | ((with_reducible refine gate_callee (f := 75) rfl ?_); refine gL 42 Try.func75 #[.pointer (some ⟨g, 0, none⟩), .int .i64 70] ?_; (with_reducible refine (spec_l00Src_word.calls k g s0_0 t181 t182 70 t193 t194 t195 w0 _ ?side1 ?side2 A23.out).mono ?_); (case side1 => exact kR2 HI0); (case side2 => exact kR3 HB); rintro e w29 ⟨rfl, hi, hb, hk⟩; refine ⟨_, rfl, ?_⟩; replace HO174 := yD (zF (Kd.R_keep (IsS99.apart (show IsS99 w0 _ g s0_0 t181 t182 from kR2 HI0) (kA HO174) (by decide)) hk (fun _ h => h.2)) (fun _ h => h.1)); replace HK := yD (KeepBut.trans (kR4 HK) hk (.inl rfl)); replace HB := yD (hb); replace HI0 := yD (hi); clear hb hk hi) | ((with_reducible refine gate_builtin (b := .append) (xs := #[.tmp 40, .tmp 44]) rfl ?_); at_builtin; refine Kd.R_append k79 w.heap.size rfl (.tmp 40) (.tmp 44) 38 79 (.agg #[(.int .i64 0), (.string ⟨#[]⟩)]) 24 rfl Try.underlying38 info79 rfl (by decide) (by omega) v173 t172 (⟨200, t193⟩ : S79) [.int .i64 200, .string t193] (fun _ => True) (fun _ => False) rfl rfl ?aP (fun _ hk => hk.elim) ?aF ?aO (Below.refl _ _) ?aS ?aL ?_; (case aP => exact k79_mkM _ _ _ (⟨200, t193⟩ : S79)); (case aF => exact (fun _ _ => trivial)); (case aO => exact (kA HO174)); (case aS => exact (keep_size (w := w) (g := g) (row := none) (kR4 HK))); (case aL => have := LMc24.out; omega); intro v197 w30 ho hb hg hat; rw [← Ny196.out] at ho; replace HI0 := yD (IsS99.grown (kR2 HI0) hg (IsS99.own_ne HI0.out HO174.out (by decide))); replace HB := yD (below_weaken (kR3 HB) HL.out hb); replace HK := yD (KeepBut.trans (kR4 HK) (KeepBut.of_grown hg g) (Kd.R_base2 HO174.out)); have HO198 := yD (ho); clear HO174; clear ho hb hg hat))
     go_ret
     exact ⟨_, by first | rfl | (simp <;> rfl) | (simp [*] <;> rfl), kA HO198, kR2 HI0, kR3 HB, kR4 HK⟩
    · rw [if_neg c24] at H
      exact absurd H (by simp)
   ·
    rw [if_neg c22] at H
    have c22b0 : (t180 == 1) = false := beq_eq_false_iff_ne.mpr c22
    have c22b1 : (t180 != 1) = true := bne_iff_ne.mpr c22
    have H' := yD H
    clear H; go_enter Try.func57, Try.ntmps57
    go_wp2_with (first | ((with_reducible refine gate_callee (f := 71) rfl ?_); refine gL 9 Try.func71 #[.pointer (some ⟨g, 0, none⟩), .int .i64 12] ?_; (with_reducible refine (spec_l00Src_pick.calls g s0_0 s0_1 s0_2 12 t169 t170 t171 w0 _ ?side1 ?side2 A3.out).mono ?_); (case side1 => exact kR2 HI0); (case side2 => exact kR3 HB); rintro e w31 ⟨rfl, hi, hb, hk⟩; refine ⟨_, rfl, ?_⟩; replace HK := yD (KeepBut.trans (kR4 HK) hk (.inl rfl)); replace HB := yD (hb); replace HI0 := yD (hi); clear hb hk hi) | ((with_reducible refine gate_callee (f := 70) rfl ?_); refine gL 10 Try.func70 #[.pointer (some ⟨g, 0, none⟩), .int .i64 t169, .int .i64 255, .int .i64 5] ?_; (with_reducible refine (spec_l11DrawPages.calls k g s0_0 t170 t171 t169 255 5 t172 t175 t176 w0 _ ?side1 ?side2 A4.out).mono ?_); (case side1 => exact kR2 HI0); (case side2 => exact kR3 HB); rintro e w32 ⟨v173, rfl, ho0, hi, hb, hk⟩; refine ⟨_, rfl, ?_⟩; have HO174 := yD (yZ ho0 (keep_size (w := w) (g := g) (row := none) (kR4 HK))); replace HK := yD (KeepBut.trans (kR4 HK) hk (.inl rfl)); replace HB := yD (hb); replace HI0 := yD (hi); clear hb hk hi ho0) | ((with_reducible refine gate_callee (f := 72) rfl ?_); refine gL 13 Try.func72 #[.pointer (some ⟨g, 0, none⟩), .int .i64 a1] ?_; (with_reducible refine (spec_l00Src_one.calls g s0_0 t175 t176 a1 true t178 t179 w0 _ ?side1 ?side2 A5.out).mono ?_); (case side1 => exact kR2 HI0); (case side2 => exact kR3 HB); rintro e w33 ⟨rfl, hi, hb, hk⟩; refine ⟨_, rfl, ?_⟩; replace HO174 := yD (zF (Kd.R_keep (IsS99.apart (show IsS99 w0 _ g s0_0 t175 t176 from kR2 HI0) (kA HO174) (by decide)) hk (fun _ h => h.2)) (fun _ h => h.1)); replace HK := yD (KeepBut.trans (kR4 HK) hk (.inl rfl)); replace HB := yD (hb); replace HI0 := yD (hi); clear hb hk hi) | ((with_reducible refine gate_callee (f := 71) rfl ?_); refine gL 17 Try.func71 #[.pointer (some ⟨g, 0, none⟩), .int .i64 3] ?_; (with_reducible refine (spec_l00Src_pick.calls g s0_0 t178 t179 3 t180 t181 t182 w0 _ ?side1 ?side2 A7.out).mono ?_); (case side1 => exact kR2 HI0); (case side2 => exact kR3 HB); rintro e w34 ⟨rfl, hi, hb, hk⟩; refine ⟨_, rfl, ?_⟩; replace HO174 := yD (zF (Kd.R_keep (IsS99.apart (show IsS99 w0 _ g s0_0 t178 t179 from kR2 HI0) (kA HO174) (by decide)) hk (fun _ h => h.2)) (fun _ h => h.1)); replace HK := yD (KeepBut.trans (kR4 HK) hk (.inl rfl)); replace HB := yD (hb); replace HI0 := yD (hi); clear hb hk hi))
    (try simp only [Act.put, zH, zI, zJ])
    go_loopg [5, 6] k (fun kq v5 v6 w' => ∃ (x5_1 : List (S79)) (x6_1 : Int), v6 = .int .i64 x6_1 ∧ Aside0 (spec_l11DrawBent.l0 kq x5_1 x6_1 s0_0 t181 t182 = some (r1, r2, r3)) ∧ Aside0 (kq ≤ k) ∧ Aside0 (Kd.R k79 79 w' w.heap.size (fun _ => True) v5 x5_1) ∧ Aside0 (IsS99 w0 w' g s0_0 t181 t182) ∧ Aside0 (KeepBut w w' g none) ∧ Aside0 (Below w0.heap.size w0 w'))
    case atStart => exact ⟨(t172), (0), (by first | rfl | (simp; done) | (simp [*]; done)), H', ⟨Nat.le_refl _⟩, ⟨kA HO174⟩, ⟨kR2 HI0⟩, ⟨kR4 HK⟩, ⟨kR3 HB⟩⟩
    case round =>
     clear H'
     try clear c1; try clear c6; try clear c8; try clear c8b0; try clear c8b1; try clear c11; try clear c22; try clear c22b0; try clear c22b1; try clear c24
     obtain ⟨x5_1, x6_1, rfl, HA, HK1, HO_5, HI0, HK, HB⟩ := hrel
     cases gk with
     | zero => exact absurd HA.out (by simp [spec_l11DrawBent.l0])
     | succ k1 =>
      have H := HA.out; clear HA
      simp only [spec_l11DrawBent.l0] at H
      by_cases c35 : x6_1 ≤ 256
      ·
       rw [if_pos c35] at H
       have c35b0 : decide (x6_1 ≤ 256) = true := zR c35; clear c35
       obtain ⟨t199, A360, H⟩ := zW_ H
       replace H : (if x5_1.length < 5864062014805 then (spec_l11DrawBent.l0 k1 (x5_1 ++ [(⟨x6_1, t199⟩ : S79)]) (wrap64 (x6_1 + 1)) s0_0 t181 t182) else (none)) = some (r1, r2, r3) := H
       have A36 := yD A360
       clear A360
       by_cases c37 : x5_1.length < 5864062014805
       ·
        rw [if_pos c37] at H
        have LMc37 := yD c37
        clear c37
        obtain ⟨y200, hy200⟩ : ∃ y_ : List (S79), y_ = (x5_1 ++ [(⟨x6_1, t199⟩ : S79)]) := ⟨_, rfl⟩
        replace H : (spec_l11DrawBent.l0 k1 y200 (wrap64 (x6_1 + 1)) s0_0 t181 t182) = some (r1, r2, r3) := by first | (rw [hy200]; with_reducible exact H) | (have H2_ := (Option.bind_some _ _).symm.trans H; rw [hy200]; with_reducible exact H2_) | (have H2_ := (Option.bind_some _ _).symm.trans H; with_reducible exact H2_) | with_reducible exact H | (rw [hy200]; exact H) | exact H
        have Ny200 := yD hy200
        clear hy200
        have H' := yD H
        clear H
        go_wp2_with (first | ((with_reducible refine gate_callee (f := 74) rfl ?_); refine gL 24 Try.func74 #[] ?_; (with_reducible refine (spec_l09Zero.calls  t199 _ A36.out).mono ?_); rintro e w38 ⟨rfl, hb⟩; refine ⟨_, rfl, ?_⟩; replace HO_5 := yD (zE (kA HO_5) hb); replace HI0 := yD (IsS99.below (kR2 HI0) hb); replace HK := yD (KeepBut.trans (kR4 HK) (KeepBut.of_below hb g none) (.inl rfl)); replace HB := yD (zC (kR3 HB) hb); clear hb) | ((with_reducible refine gate_builtin (b := .append) (xs := #[.tmp 22, .tmp 26]) rfl ?_); at_builtin; refine Kd.R_append k79 w.heap.size rfl (.tmp 22) (.tmp 26) 38 79 (.agg #[(.int .i64 0), (.string ⟨#[]⟩)]) 24 rfl Try.underlying38 info79 rfl (by decide) (by omega) u5 x5_1 (⟨x6_1, t199⟩ : S79) [.int .i64 x6_1, .string t199] (fun _ => True) (fun _ => False) rfl rfl ?aP (fun _ hk => hk.elim) ?aF ?aO (Below.refl _ _) ?aS ?aL ?_; (case aP => exact k79_mkM _ _ _ (⟨x6_1, t199⟩ : S79)); (case aF => exact (fun _ _ => trivial)); (case aO => exact (kA HO_5)); (case aS => exact (keep_size (w := w) (g := g) (row := none) (kR4 HK))); (case aL => have := LMc37.out; omega); intro v201 w39 ho hb hg hat; rw [← Ny200.out] at ho; replace HI0 := yD (IsS99.grown (kR2 HI0) hg (IsS99.own_ne HI0.out HO_5.out (by decide))); replace HB := yD (below_weaken (kR3 HB) HL.out hb); replace HK := yD (KeepBut.trans (kR4 HK) (KeepBut.of_grown hg g) (Kd.R_base2 HO_5.out)); have HO202 := yD (ho); clear HO_5; clear ho hb hg hat))
        go_roundg k1
        case measure => have := HK1.out; omega
        case rel => exact ⟨(y200), (wrap64 (x6_1 + 1)), (by first | rfl | (simp; done) | (simp [*]; done)), H', ⟨by have := HK1.out; omega⟩, ⟨kA HO202⟩, ⟨kR2 HI0⟩, ⟨kR4 HK⟩, ⟨kR3 HB⟩⟩
       · rw [if_neg c37] at H
         exact absurd H (by simp)
      · rw [if_neg c35] at H
        have c35b0 : decide (x6_1 ≤ 256) = false := zS c35; clear c35
        simp only [Option.some.injEq, Prod.mk.injEq] at H
        obtain ⟨rfl, rfl, rfl⟩ := H
        go_wp2
        go_ret
        exact ⟨_, by first | rfl | (simp <;> rfl) | (simp [*] <;> rfl), kA HO_5, kR2 HI0, kR3 HB, kR4 HK⟩
 ·
  replace c6 := Bool.eq_false_iff.mpr c6
  subst c6
  replace H : (some (t172, t178, t179)) = some (r1, r2, r3) := (by rw [if_neg (show ¬ (false = true) by decide)] at H; exact H)
  simp only [Option.some.injEq, Prod.mk.injEq] at H
  obtain ⟨rfl, rfl, rfl⟩ := H
  go_enter Try.func57, Try.ntmps57
  go_wp2_with (first | ((with_reducible refine gate_callee (f := 71) rfl ?_); refine gL 9 Try.func71 #[.pointer (some ⟨g, 0, none⟩), .int .i64 12] ?_; (with_reducible refine (spec_l00Src_pick.calls g s0_0 s0_1 s0_2 12 t169 t170 t171 w0 _ ?side1 ?side2 A3.out).mono ?_); (case side1 => exact kR2 HI0); (case side2 => exact kR3 HB); rintro e w40 ⟨rfl, hi, hb, hk⟩; refine ⟨_, rfl, ?_⟩; replace HK := yD (KeepBut.trans (kR4 HK) hk (.inl rfl)); replace HB := yD (hb); replace HI0 := yD (hi); clear hb hk hi) | ((with_reducible refine gate_callee (f := 70) rfl ?_); refine gL 10 Try.func70 #[.pointer (some ⟨g, 0, none⟩), .int .i64 t169, .int .i64 255, .int .i64 5] ?_; (with_reducible refine (spec_l11DrawPages.calls k g s0_0 t170 t171 t169 255 5 t172 t175 t176 w0 _ ?side1 ?side2 A4.out).mono ?_); (case side1 => exact kR2 HI0); (case side2 => exact kR3 HB); rintro e w41 ⟨v173, rfl, ho0, hi, hb, hk⟩; refine ⟨_, rfl, ?_⟩; have HO174 := yD (yZ ho0 (keep_size (w := w) (g := g) (row := none) (kR4 HK))); replace HK := yD (KeepBut.trans (kR4 HK) hk (.inl rfl)); replace HB := yD (hb); replace HI0 := yD (hi); clear hb hk hi ho0) | ((with_reducible refine gate_callee (f := 72) rfl ?_); refine gL 13 Try.func72 #[.pointer (some ⟨g, 0, none⟩), .int .i64 a1] ?_; (with_reducible refine (spec_l00Src_one.calls g s0_0 t175 t176 a1 false t178 t179 w0 _ ?side1 ?side2 A5.out).mono ?_); (case side1 => exact kR2 HI0); (case side2 => exact kR3 HB); rintro e w42 ⟨rfl, hi, hb, hk⟩; refine ⟨_, rfl, ?_⟩; replace HO174 := yD (zF (Kd.R_keep (IsS99.apart (show IsS99 w0 _ g s0_0 t175 t176 from kR2 HI0) (kA HO174) (by decide)) hk (fun _ h => h.2)) (fun _ h => h.1)); replace HK := yD (KeepBut.trans (kR4 HK) hk (.inl rfl)); replace HB := yD (hb); replace HI0 := yD (hi); clear hb hk hi))
  go_ret
  exact ⟨_, by first | rfl | (simp <;> rfl) | (simp [*] <;> rfl), kA HO174, kR2 HI0, kR3 HB, kR4 HK⟩

/-! ### spec_DrawMergePages: function 20 -/
def spec_DrawMergePages.f (k : Nat) (l0 : List Int) : Option ((List (S79)) × (List (S79))) := (spec_l00From.f l0).bind fun bt203 => ((spec_l11DrawBent.f k bt203.1 bt203.2.1 bt203.2.2 9).bind fun bt207 => ((spec_l11DrawBent.f k bt203.1 bt207.2.1 bt207.2.2 9).bind fun bt212 => (some (bt207.1, bt212.1))))
theorem spec_DrawMergePages.mono : ∀ a0 k, LeO (spec_DrawMergePages.f k a0) (spec_DrawMergePages.f (k + 1) a0) := by
 intro a0 k
 unfold spec_DrawMergePages.f
 repeat' (with_reducible first | exact spec_l11DrawBent.mono _ _ _ _ _ | exact LeO.refl _ | exact LeO.none _ | refine LeO.ite ?_ ?_ | refine LeO.bind ?_ (fun _ => ?_))
set_option maxHeartbeats 8000000 in
set_option maxRecDepth 100000 in
theorem spec_DrawMergePages.calls (k : Nat) (A0 : Option Addr) (c0 : Nat) (l0 : List Int) (r1 : List (S79)) (r2 : List (S79)) (w : World) (hr0 : Kd.C (Kd.int .u8) w A0 l0.length l0) (hc0 : l0.length ≤ c0) (h : spec_DrawMergePages.f k l0 = some (r1, r2)) :
 Calls Try.prog 20 #[.slice A0 l0.length c0] w fun e w' => ∃ v0_ v1_ : Value, e = .returned (.tuple #[v0_, v1_]) ∧ Kd.R k79 79 w' w.heap.size (fun k_ => some k_ ≠ (v1_ : Value).ownBlock) v0_ r1 ∧ Kd.R k79 79 w' w.heap.size (fun k_ => some k_ ≠ (v0_ : Value).ownBlock) v1_ r2 ∧ Below w.heap.size w w' := by
 have HR0 := yD hr0
 have HC0 := yD hc0
 clear hr0 hc0
 have HB := yD (Below.refl w.heap.size w)
 have H : ((spec_l00From.f l0).bind fun bt203 => ((spec_l11DrawBent.f k bt203.1 bt203.2.1 bt203.2.2 9).bind fun bt207 => ((spec_l11DrawBent.f k bt203.1 bt207.2.1 bt207.2.2 9).bind fun bt212 => (some (bt207.1, bt212.1))))) = some (r1, r2) := h
 clear h
 obtain ⟨⟨t203, t204, t205⟩, A20, H⟩ := zW_ H
 replace H : ((spec_l11DrawBent.f k t203 t204 t205 9).bind fun bt207 => ((spec_l11DrawBent.f k t203 bt207.2.1 bt207.2.2 9).bind fun bt212 => (some (bt207.1, bt212.1)))) = some (r1, r2) := H
 have A2 := yD A20
 clear A20
 obtain ⟨⟨t207, t210, t211⟩, A30, H⟩ := zW_ H
 replace H : ((spec_l11DrawBent.f k t203 t210 t211 9).bind fun bt212 => (some (t207, bt212.1))) = some (r1, r2) := H
 have A3 := yD A30
 clear A30
 obtain ⟨⟨t212, t215, t216⟩, A40, H⟩ := zW_ H
 replace H : (some (t207, t212)) = some (r1, r2) := H
 have A4 := yD A40
 clear A40
 simp only [Option.some.injEq, Prod.mk.injEq] at H
 obtain ⟨rfl, rfl⟩ := H
 go_enter Try.func20, Try.ntmps20
 go_wp2_with (first | ((with_reducible refine gate_callee (f := 56) rfl ?_); refine gL 7 Try.func56 #[.slice A0 l0.length c0] ?_; (with_reducible refine (spec_l00From.calls _ _ l0 t203 t204 t205 w _ ?side1 ?side2 ?side3 A2.out).mono ?_); (case side1 => exact kR0 HB); (case side2 => exact HR0.out); (case side3 => exact HC0.out); rintro e w5 ⟨g206, rfl, hi, hb, hb2⟩; refine ⟨_, rfl, ?_⟩; replace HB := yD (hb); have HI206 := yD (hi); clear hb hb2 hi) | ((with_reducible refine gate_callee (f := 57) rfl ?_); refine gL 9 Try.func57 #[.pointer (some ⟨g206, 0, none⟩), .int .i64 9] ?_; (with_reducible refine (spec_l11DrawBent.calls k g206 t203 t204 t205 9 t207 t210 t211 w _ ?side1 ?side2 A3.out).mono ?_); (case side1 => exact kR2 HI206); (case side2 => exact kR3 HB); rintro e w6 ⟨v208, rfl, ho0, hi, hb, hk⟩; refine ⟨_, rfl, ?_⟩; have HO209 := yD (yZ ho0 (below_size (kR3 HB))); replace HB := yD (hb); replace HI206 := yD (hi); clear hb hk hi ho0) | ((with_reducible refine gate_callee (f := 57) rfl ?_); refine gL 12 Try.func57 #[.pointer (some ⟨g206, 0, none⟩), .int .i64 9] ?_; (with_reducible refine (spec_l11DrawBent.calls k g206 t203 t210 t211 9 t212 t215 t216 w _ ?side1 ?side2 A4.out).mono ?_); (case side1 => exact kR2 HI206); (case side2 => exact kR3 HB); rintro e w7 ⟨v213, rfl, ho0, hi, hb, hk⟩; refine ⟨_, rfl, ?_⟩; have HO214 := yD (yZ (yJ ho0 (yK (kA HO209))) (below_size (kR3 HB))); replace HO209 := yD (zF (yI (Kd.R_oldK (IsS99.apart (show IsS99 w _ g206 t203 t210 t211 from kR2 HI206) (kA HO209) (by decide)) hk) (yH ho0)) (fun _ h_ => h_.1)); replace HB := yD (hb); replace HI206 := yD (hi); clear hb hk hi ho0))
 go_ret2
 exact ⟨_, _, by first | rfl | (simp <;> rfl) | (simp [*] <;> rfl), mR HO209 (fun _ hk => hk.2), mR HO214 (fun _ hk => hk.2), kR3 HB⟩

/-! ### spec_l00In: function 65 -/
def spec_l00In.f (a0 : Int) (a1 : Int) (a2 : Int) : Option (Bool) := if a0 ≥ a1 then (some (decide (a0 ≤ a2))) else (some false)
set_option maxHeartbeats 8000000 in
set_option maxRecDepth 100000 in
theorem spec_l00In.calls (a0 : Int) (a1 : Int) (a2 : Int) (r : Bool) (w : World) (h : spec_l00In.f a0 a1 a2 = some r) :
 Calls Try.prog 65 #[.int .i64 a0, .int .i64 a1, .int .i64 a2] w fun e w' => e = .returned (.bool r) ∧ Drawn0 w w' := by
 have H : (if a0 ≥ a1 then (some (decide (a0 ≤ a2))) else (some false)) = some r := h
 clear h
 by_cases c4 : a0 ≥ a1
 · rw [if_pos c4] at H
   have c4b0 : decide (a1 ≤ a0) = true := zR c4; clear c4; obtain rfl := Option.some.inj H; go_enter Try.func65, Try.ntmps65
   go_wp2
   go_ret
   exact ⟨by first | rfl | (simp; done) | (simp [*]; done), by repeat (first | exact Drawn0.refl _ | apply Drawn0.step)⟩
 ·
  rw [if_neg c4] at H
  have c4b0 : decide (a1 ≤ a0) = false := zS c4; clear c4; obtain rfl := Option.some.inj H; go_enter Try.func65, Try.ntmps65
  go_wp2
  go_ret
  exact ⟨by first | rfl | (simp; done) | (simp [*]; done), by repeat (first | exact Drawn0.refl _ | apply Drawn0.step)⟩

end Go.Proofs.Ytfblodggimjoaaa.PFnMerged
