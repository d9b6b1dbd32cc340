/- Each Go function here comes to what the plain function of its name says, where that says something. Made by a program of this session, over the print. -/
import Derived.Test.YtfblodggimjoaaaPFnExactSameArrayx0
import Derived.Test.YtfblodggimjoaaaPFnExactSameArrayx4
namespace Go.Proofs.Ytfblodggimjoaaa.PFnExactSameArray
open Go.RowKit Go.Proofs.YtfblodggimjoaaaW.PrintWords Go.Proofs.YtfblodggimjoaaaW.PrintLast Go.Proofs.YtfblodggimjoaaaW.PrintMore
attribute [local go_sem] max2_int min2_int max_two min_two max_three min_three max_four min_four   -- for this text's walks alone
set_option linter.unusedVariables false
set_option linter.unusedSimpArgs false

/-! ### impl_SameType: function 10 -/
def impl_SameType.f : Nat → Int → Int → Bool → Bool → List ByteArray → List Int → List (S64) → List (S33) → Int → Int → Int → Bool → Bool → List ByteArray → List Int → List (S64) → List (S33) → Int → Option (Bool)
 | 0, _, _, _, _, _, _, _, _, _, _, _, _, _, _, _, _, _, _ => none
 | k + 1, a0_0, a0_1, a0_2, a0_3, l0_4, l0_5, l0_6, l0_7, a0_8, a1_0, a1_1, a1_2, a1_3, l1_4, l1_5, l1_6, l1_7, a1_8 => if a0_0 = a1_0 then (if a0_1 = a1_1 then (if (a0_2 == a1_2) = true then (if (a0_3 == a1_3) = true then (if a0_8 = a1_8 then ((slices_Equal_string_string.f k l0_4 l1_4).bind fun t395 => (if t395 = true then ((slices_Equal_int64_int64.f k l0_5 l1_5).bind fun t396 => (if t396 = true then ((slices_EqualFunc_impl_sameMember.f (impl_SameType.f k) k l0_6 l1_6).bind fun t397 => (if t397 = true then ((slices_EqualFunc_impl_SameType.f (impl_SameType.f k) k l0_7 l1_7).bind fun t398 => (some t398)) else (some false))) else (some false))) else (some false))) else (some false)) else (some false)) else (some false)) else (some false)) else (some false)
set_option maxHeartbeats 8000000 in
set_option maxRecDepth 100000 in
theorem impl_SameType.calls (k : Nat) : ∀ (a0_0 : Int) (a0_1 : Int) (a0_2 : Bool) (a0_3 : Bool) (A0_4 : Option Addr) (c0_4 : Nat) (l0_4 : List ByteArray) (A0_5 : Option Addr) (c0_5 : Nat) (l0_5 : List Int) (A0_6 : Option Addr) (c0_6 : Nat) (l0_6 : List (S64)) (A0_7 : Option Addr) (c0_7 : Nat) (l0_7 : List (S33)) (a0_8 : Int) (a1_0 : Int) (a1_1 : Int) (a1_2 : Bool) (a1_3 : Bool) (A1_4 : Option Addr) (c1_4 : Nat) (l1_4 : List ByteArray) (A1_5 : Option Addr) (c1_5 : Nat) (l1_5 : List Int) (A1_6 : Option Addr) (c1_6 : Nat) (l1_6 : List (S64)) (A1_7 : Option Addr) (c1_7 : Nat) (l1_7 : List (S33)) (a1_8 : Int) (r : Bool) (w : World) (hr0_4 : Kd.C Kd.string w A0_4 l0_4.length l0_4) (hc0_4 : l0_4.length ≤ c0_4) (hr0_5 : Kd.C (Kd.int .i64) w A0_5 l0_5.length l0_5) (hc0_5 : l0_5.length ≤ c0_5) (hr0_6 : Kd.C k64 w A0_6 l0_6.length l0_6) (hc0_6 : l0_6.length ≤ c0_6) (hr0_7 : Kd.C k33 w A0_7 l0_7.length l0_7) (hc0_7 : l0_7.length ≤ c0_7) (hr1_4 : Kd.C Kd.string w A1_4 l1_4.length l1_4) (hc1_4 : l1_4.length ≤ c1_4) (hr1_5 : Kd.C (Kd.int .i64) w A1_5 l1_5.length l1_5) (hc1_5 : l1_5.length ≤ c1_5) (hr1_6 : Kd.C k64 w A1_6 l1_6.length l1_6) (hc1_6 : l1_6.length ≤ c1_6) (hr1_7 : Kd.C k33 w A1_7 l1_7.length l1_7) (hc1_7 : l1_7.length ≤ c1_7) (h : impl_SameType.f k a0_0 a0_1 a0_2 a0_3 l0_4 l0_5 l0_6 l0_7 a0_8 a1_0 a1_1 a1_2 a1_3 l1_4 l1_5 l1_6 l1_7 a1_8 = some r),
 Calls Try.prog 10 #[.agg #[.int .i64 a0_0, .int .i64 a0_1, .bool a0_2, .bool a0_3, .slice A0_4 l0_4.length c0_4, .slice A0_5 l0_5.length c0_5, .slice A0_6 l0_6.length c0_6, .slice A0_7 l0_7.length c0_7, .int .i64 a0_8], .agg #[.int .i64 a1_0, .int .i64 a1_1, .bool a1_2, .bool a1_3, .slice A1_4 l1_4.length c1_4, .slice A1_5 l1_5.length c1_5, .slice A1_6 l1_6.length c1_6, .slice A1_7 l1_7.length c1_7, .int .i64 a1_8]] w fun e w' => e = .returned (.bool r) ∧ Below w.heap.size w w' := by
 induction k using Nat.strongRecOn with
 | _ k ih =>
 intro a0_0 a0_1 a0_2 a0_3 A0_4 c0_4 l0_4 A0_5 c0_5 l0_5 A0_6 c0_6 l0_6 A0_7 c0_7 l0_7 a0_8 a1_0 a1_1 a1_2 a1_3 A1_4 c1_4 l1_4 A1_5 c1_5 l1_5 A1_6 c1_6 l1_6 A1_7 c1_7 l1_7 a1_8 r w hr0_4 hc0_4 hr0_5 hc0_5 hr0_6 hc0_6 hr0_7 hc0_7 hr1_4 hc1_4 hr1_5 hc1_5 hr1_6 hc1_6 hr1_7 hc1_7 h
 cases k with
 | zero => exact absurd h (by simp [impl_SameType.f])
 | succ k =>
 simp only [impl_SameType.f] at h
 have hu33 := Try.underlying33
 have HR0_4 := yD hr0_4
 have HC0_4 := yD hc0_4
 clear hr0_4 hc0_4
 have HR0_5 := yD hr0_5
 have HC0_5 := yD hc0_5
 clear hr0_5 hc0_5
 have HR0_6 := yD hr0_6
 have HC0_6 := yD hc0_6
 clear hr0_6 hc0_6
 have HR0_7 := yD hr0_7
 have HC0_7 := yD hc0_7
 clear hr0_7 hc0_7
 have HR1_4 := yD hr1_4
 have HC1_4 := yD hc1_4
 clear hr1_4 hc1_4
 have HR1_5 := yD hr1_5
 have HC1_5 := yD hc1_5
 clear hr1_5 hc1_5
 have HR1_6 := yD hr1_6
 have HC1_6 := yD hc1_6
 clear hr1_6 hc1_6
 have HR1_7 := yD hr1_7
 have HC1_7 := yD hc1_7
 clear hr1_7 hc1_7
 have HB := yD (Below.refl w.heap.size w)
 have H : (if a0_0 = a1_0 then (if a0_1 = a1_1 then (if (a0_2 == a1_2) = true then (if (a0_3 == a1_3) = true then (if a0_8 = a1_8 then ((slices_Equal_string_string.f k l0_4 l1_4).bind fun t395 => (if t395 = true then ((slices_Equal_int64_int64.f k l0_5 l1_5).bind fun t396 => (if t396 = true then ((slices_EqualFunc_impl_sameMember.f (impl_SameType.f k) k l0_6 l1_6).bind fun t397 => (if t397 = true then ((slices_EqualFunc_impl_SameType.f (impl_SameType.f k) k l0_7 l1_7).bind fun t398 => (some t398)) else (some false))) else (some false))) else (some false))) else (some false)) else (some false)) else (some false)) else (some false)) else (some false)) = some r := h
 clear h
 by_cases c3 : a0_0 = a1_0
 ·
  rw [if_pos c3] at H
  have c3b0 : (a0_0 == a1_0) = true := beq_iff_eq.mpr c3
  have c3b1 : (a0_0 != a1_0) = false := bne_eq_false_iff_eq.mpr c3
  clear c3
  by_cases c4 : a0_1 = a1_1
  ·
   rw [if_pos c4] at H
   have c4b0 : (a0_1 == a1_1) = true := beq_iff_eq.mpr c4
   have c4b1 : (a0_1 != a1_1) = false := bne_eq_false_iff_eq.mpr c4
   clear c4
   by_cases c5 : (a0_2 == a1_2) = true
   ·
    rw [if_pos c5] at H
    have c5b0 : (a0_2 == a1_2) = true := c5
    (try (have c5b1 : decide (a0_2 = a1_2) = true := by simpa using c5))
    (try (have c5b2 : (a0_2 == a1_2) = true := by simpa using c5))
    clear c5
    by_cases c6 : (a0_3 == a1_3) = true
    ·
     rw [if_pos c6] at H
     have c6b0 : (a0_3 == a1_3) = true := c6
     (try (have c6b1 : decide (a0_3 = a1_3) = true := by simpa using c6))
     (try (have c6b2 : (a0_3 == a1_3) = true := by simpa using c6))
     clear c6
     by_cases c7 : a0_8 = a1_8
     ·
      rw [if_pos c7] at H
      have c7b0 : (a0_8 == a1_8) = true := beq_iff_eq.mpr c7
      have c7b1 : (a0_8 != a1_8) = false := bne_eq_false_iff_eq.mpr c7
      clear c7
      obtain ⟨t395, A80, H⟩ := zW_ H
      replace H : (if t395 = true then ((slices_Equal_int64_int64.f k l0_5 l1_5).bind fun t396 => (if t396 = true then ((slices_EqualFunc_impl_sameMember.f (impl_SameType.f k) k l0_6 l1_6).bind fun t397 => (if t397 = true then ((slices_EqualFunc_impl_SameType.f (impl_SameType.f k) k l0_7 l1_7).bind fun t398 => (some t398)) else (some false))) else (some false))) else (some false)) = some r := H
      have A8 := yD A80
      clear A80
      by_cases c9 : t395 = true
      ·
       subst c9
       replace H : ((slices_Equal_int64_int64.f k l0_5 l1_5).bind fun t396 => (if t396 = true then ((slices_EqualFunc_impl_sameMember.f (impl_SameType.f k) k l0_6 l1_6).bind fun t397 => (if t397 = true then ((slices_EqualFunc_impl_SameType.f (impl_SameType.f k) k l0_7 l1_7).bind fun t398 => (some t398)) else (some false))) else (some false))) = some r := (by rw [if_pos rfl] at H; exact H)
       obtain ⟨t396, A100, H⟩ := zW_ H
       replace H : (if t396 = true then ((slices_EqualFunc_impl_sameMember.f (impl_SameType.f k) k l0_6 l1_6).bind fun t397 => (if t397 = true then ((slices_EqualFunc_impl_SameType.f (impl_SameType.f k) k l0_7 l1_7).bind fun t398 => (some t398)) else (some false))) else (some false)) = some r := H
       have A10 := yD A100
       clear A100
       by_cases c11 : t396 = true
       ·
        subst c11
        replace H : ((slices_EqualFunc_impl_sameMember.f (impl_SameType.f k) k l0_6 l1_6).bind fun t397 => (if t397 = true then ((slices_EqualFunc_impl_SameType.f (impl_SameType.f k) k l0_7 l1_7).bind fun t398 => (some t398)) else (some false))) = some r := (by rw [if_pos rfl] at H; exact H)
        obtain ⟨t397, A120, H⟩ := zW_ H
        replace H : (if t397 = true then ((slices_EqualFunc_impl_SameType.f (impl_SameType.f k) k l0_7 l1_7).bind fun t398 => (some t398)) else (some false)) = some r := H
        have A12 := yD A120
        clear A120
        by_cases c13 : t397 = true
        · subst c13
          replace H : ((slices_EqualFunc_impl_SameType.f (impl_SameType.f k) k l0_7 l1_7).bind fun t398 => (some t398)) = some r := (by rw [if_pos rfl] at H; exact H)
          obtain ⟨t398, A140, H⟩ := zW_ H
          replace H : (some t398) = some r := H
          have A14 := yD A140
          clear A140; obtain rfl := Option.some.inj H; go_enter Try.func10, Try.ntmps10
          go_wp2_with (first | ((with_reducible refine gate_dst (N := 2) rfl ?_); refine box_event ?hg (N := 2) ?hd (cs := #[.int .i64 a0_0, .int .i64 a0_1, .bool a0_2, .bool a0_3, .slice A0_4 l0_4.length c0_4, .slice A0_5 l0_5.length c0_5, .slice A0_6 l0_6.length c0_6, .slice A0_7 l0_7.length c0_7, .int .i64 a0_8]) (t := 33) ?hr ?_; (case hd => rfl); (case hg => rfl); (case hr => first | (go_simp; done) | (go_simp; rfl)); intro gb393 hg w15 hbox hb; have BK393 := yD (hbox); have GW393 := yD ((by rw [hg]; exact (below_size (kB HB)) : w.heap.size ≤ gb393)); have GE393 := yD ((by rw [hg]; exact (below_size (kB HB)) : w.heap.size ≤ gb393)); replace HB := yD (zC (kB HB) hb); clear hb hbox hg) | ((with_reducible refine gate_dst (N := 3) rfl ?_); refine box_event ?hg (N := 3) ?hd (cs := #[.int .i64 a1_0, .int .i64 a1_1, .bool a1_2, .bool a1_3, .slice A1_4 l1_4.length c1_4, .slice A1_5 l1_5.length c1_5, .slice A1_6 l1_6.length c1_6, .slice A1_7 l1_7.length c1_7, .int .i64 a1_8]) (t := 33) ?hr ?_; (case hd => rfl); (case hg => rfl); (case hr => first | (go_simp; done) | (go_simp; rfl)); intro gb394 hg w16 hbox hb; have BK394 := yD (hbox); have GW394 := yD ((by rw [hg]; exact (below_size (kB HB)) : w.heap.size ≤ gb394)); have GE394 := yD ((by rw [hg]; exact (below_size (kB HB)) : w.heap.size ≤ gb394)); replace HB := yD (zC (kB HB) hb); have NB393_394 := yD ((by rw [hg]; exact Nat.ne_of_lt (blk_lt (kN BK393)) : gb393 ≠ gb394)); have NB394_393 := yD ((by rw [hg]; exact Nat.ne_of_gt (blk_lt (kN BK393)) : gb394 ≠ gb393)); replace BK393 := yD (zB (kN BK393) hb); clear hb hbox hg; have hnb17 := NB393_394.out; have hnc17 := NB394_393.out; obtain ⟨hcz18_0, hcz18_1, hcz18_2, hcz18_3, hcz18_4, hcz18_5, hcz18_6, hcz18_7, hcz18_8⟩ := cz9 BK393.out; obtain ⟨hfz18_0, hfz18_1, hfz18_2, hfz18_3, hfz18_4, hfz18_5, hfz18_6, hfz18_7, hfz18_8⟩ := fz9 BK393.out; obtain ⟨hcz19_0, hcz19_1, hcz19_2, hcz19_3, hcz19_4, hcz19_5, hcz19_6, hcz19_7, hcz19_8⟩ := cz9 BK394.out; obtain ⟨hfz19_0, hfz19_1, hfz19_2, hfz19_3, hfz19_4, hfz19_5, hfz19_6, hfz19_7, hfz19_8⟩ := fz9 BK394.out) | (go_at_call 39; (with_reducible refine (slices_Equal_string_string.calls k _ _ l0_4 _ _ l1_4 true _ ?side1 ?side2 ?side3 ?side4 A8.out).mono ?_); (case side1 => exact kV (yY HR0_4.out HB.out)); (case side2 => exact HC0_4.out); (case side3 => exact kV (yY HR1_4.out HB.out)); (case side4 => exact HC1_4.out); rintro e w' ⟨rfl, ⟨nd, rfl⟩⟩) | (go_at_call 40; (with_reducible refine (slices_Equal_int64_int64.calls k _ _ l0_5 _ _ l1_5 true _ ?side1 ?side2 ?side3 ?side4 A10.out).mono ?_); (case side1 => repeat (first | exact (yY HR0_5.out (kB HB)) | (with_reducible first | refine yV ?_ _ | refine yW ?_ _ | refine yX ?_))); (case side2 => exact HC0_5.out); (case side3 => repeat (first | exact (yY HR1_5.out (kB HB)) | (with_reducible first | refine yV ?_ _ | refine yW ?_ _ | refine yX ?_))); (case side4 => exact HC1_5.out); rintro e w' ⟨rfl, ⟨nd, rfl⟩⟩) | (go_at_call 41; (with_reducible refine (slices_EqualFunc_impl_sameMember.calls (impl_SameType.f k) (ih k (by omega)) k _ _ l0_6 _ _ l1_6  true _ ?side1 ?side2 ?side3 ?side4 A12.out).mono ?_); (case side1 => repeat (first | exact (yY HR0_6.out (kB HB)) | (with_reducible first | refine yV ?_ _ | refine yW ?_ _ | refine yX ?_))); (case side2 => exact HC0_6.out); (case side3 => repeat (first | exact (yY HR1_6.out (kB HB)) | (with_reducible first | refine yV ?_ _ | refine yW ?_ _ | refine yX ?_))); (case side4 => exact HC1_6.out); rintro e w20 ⟨rfl, hb⟩; replace BK393 := yD (zB (kN BK393) hb); replace BK394 := yD (zB (kN BK394) hb); replace HB := yD (zC (kB HB) hb); clear hb; obtain ⟨hcz21_0, hcz21_1, hcz21_2, hcz21_3, hcz21_4, hcz21_5, hcz21_6, hcz21_7, hcz21_8⟩ := cz9 BK393.out; obtain ⟨hfz21_0, hfz21_1, hfz21_2, hfz21_3, hfz21_4, hfz21_5, hfz21_6, hfz21_7, hfz21_8⟩ := fz9 BK393.out; obtain ⟨hcz22_0, hcz22_1, hcz22_2, hcz22_3, hcz22_4, hcz22_5, hcz22_6, hcz22_7, hcz22_8⟩ := cz9 BK394.out; obtain ⟨hfz22_0, hfz22_1, hfz22_2, hfz22_3, hfz22_4, hfz22_5, hfz22_6, hfz22_7, hfz22_8⟩ := fz9 BK394.out) | (go_at_call 43; (with_reducible refine (slices_EqualFunc_impl_SameType.calls (impl_SameType.f k) (ih k (by omega)) k _ _ l0_7 _ _ l1_7  t398 _ ?side1 ?side2 ?side3 ?side4 A14.out).mono ?_); (case side1 => exact kV (yY HR0_7.out HB.out)); (case side2 => exact HC0_7.out); (case side3 => exact kV (yY HR1_7.out HB.out)); (case side4 => exact HC1_7.out); rintro e w23 ⟨rfl, hb⟩; replace BK393 := yD (zB (kN BK393) hb); replace BK394 := yD (zB (kN BK394) hb); replace HB := yD (zC (kB HB) hb); clear hb))
          go_ret
          exact ⟨by first | rfl | (simp <;> rfl) | (simp [*] <;> rfl), kR0 HB⟩
        · replace c13 := Bool.eq_false_iff.mpr c13
          subst c13
          replace H : (some false) = some r := (by rw [if_neg (show ¬ (false = true) by decide)] at H; exact H); obtain rfl := Option.some.inj H; go_enter Try.func10, Try.ntmps10
          go_wp2_with (first | ((with_reducible refine gate_dst (N := 2) rfl ?_); refine box_event ?hg (N := 2) ?hd (cs := #[.int .i64 a0_0, .int .i64 a0_1, .bool a0_2, .bool a0_3, .slice A0_4 l0_4.length c0_4, .slice A0_5 l0_5.length c0_5, .slice A0_6 l0_6.length c0_6, .slice A0_7 l0_7.length c0_7, .int .i64 a0_8]) (t := 33) ?hr ?_; (case hd => rfl); (case hg => rfl); (case hr => first | (go_simp; done) | (go_simp; rfl)); intro gb393 hg w24 hbox hb; have BK393 := yD (hbox); have GW393 := yD ((by rw [hg]; exact (below_size (kB HB)) : w.heap.size ≤ gb393)); have GE393 := yD ((by rw [hg]; exact (below_size (kB HB)) : w.heap.size ≤ gb393)); replace HB := yD (zC (kB HB) hb); clear hb hbox hg) | ((with_reducible refine gate_dst (N := 3) rfl ?_); refine box_event ?hg (N := 3) ?hd (cs := #[.int .i64 a1_0, .int .i64 a1_1, .bool a1_2, .bool a1_3, .slice A1_4 l1_4.length c1_4, .slice A1_5 l1_5.length c1_5, .slice A1_6 l1_6.length c1_6, .slice A1_7 l1_7.length c1_7, .int .i64 a1_8]) (t := 33) ?hr ?_; (case hd => rfl); (case hg => rfl); (case hr => first | (go_simp; done) | (go_simp; rfl)); intro gb394 hg w25 hbox hb; have BK394 := yD (hbox); have GW394 := yD ((by rw [hg]; exact (below_size (kB HB)) : w.heap.size ≤ gb394)); have GE394 := yD ((by rw [hg]; exact (below_size (kB HB)) : w.heap.size ≤ gb394)); replace HB := yD (zC (kB HB) hb); have NB393_394 := yD ((by rw [hg]; exact Nat.ne_of_lt (blk_lt (kN BK393)) : gb393 ≠ gb394)); have NB394_393 := yD ((by rw [hg]; exact Nat.ne_of_gt (blk_lt (kN BK393)) : gb394 ≠ gb393)); replace BK393 := yD (zB (kN BK393) hb); clear hb hbox hg; have hnb26 := NB393_394.out; have hnc26 := NB394_393.out; obtain ⟨hcz27_0, hcz27_1, hcz27_2, hcz27_3, hcz27_4, hcz27_5, hcz27_6, hcz27_7, hcz27_8⟩ := cz9 BK393.out; obtain ⟨hfz27_0, hfz27_1, hfz27_2, hfz27_3, hfz27_4, hfz27_5, hfz27_6, hfz27_7, hfz27_8⟩ := fz9 BK393.out; obtain ⟨hcz28_0, hcz28_1, hcz28_2, hcz28_3, hcz28_4, hcz28_5, hcz28_6, hcz28_7, hcz28_8⟩ := cz9 BK394.out; obtain ⟨hfz28_0, hfz28_1, hfz28_2, hfz28_3, hfz28_4, hfz28_5, hfz28_6, hfz28_7, hfz28_8⟩ := fz9 BK394.out) | (go_at_call 39; (with_reducible refine (slices_Equal_string_string.calls k _ _ l0_4 _ _ l1_4 true _ ?side1 ?side2 ?side3 ?side4 A8.out).mono ?_); (case side1 => exact kV (yY HR0_4.out HB.out)); (case side2 => exact HC0_4.out); (case side3 => exact kV (yY HR1_4.out HB.out)); (case side4 => exact HC1_4.out); rintro e w' ⟨rfl, ⟨nd, rfl⟩⟩) | (go_at_call 40; (with_reducible refine (slices_Equal_int64_int64.calls k _ _ l0_5 _ _ l1_5 true _ ?side1 ?side2 ?side3 ?side4 A10.out).mono ?_); (case side1 => repeat (first | exact (yY HR0_5.out (kB HB)) | (with_reducible first | refine yV ?_ _ | refine yW ?_ _ | refine yX ?_))); (case side2 => exact HC0_5.out); (case side3 => repeat (first | exact (yY HR1_5.out (kB HB)) | (with_reducible first | refine yV ?_ _ | refine yW ?_ _ | refine yX ?_))); (case side4 => exact HC1_5.out); rintro e w' ⟨rfl, ⟨nd, rfl⟩⟩) | (go_at_call 41; (with_reducible refine (slices_EqualFunc_impl_sameMember.calls (impl_SameType.f k) (ih k (by omega)) k _ _ l0_6 _ _ l1_6  false _ ?side1 ?side2 ?side3 ?side4 A12.out).mono ?_); (case side1 => repeat (first | exact (yY HR0_6.out (kB HB)) | (with_reducible first | refine yV ?_ _ | refine yW ?_ _ | refine yX ?_))); (case side2 => exact HC0_6.out); (case side3 => repeat (first | exact (yY HR1_6.out (kB HB)) | (with_reducible first | refine yV ?_ _ | refine yW ?_ _ | refine yX ?_))); (case side4 => exact HC1_6.out); rintro e w29 ⟨rfl, hb⟩; replace BK393 := yD (zB (kN BK393) hb); replace BK394 := yD (zB (kN BK394) hb); replace HB := yD (zC (kB HB) hb); clear hb))
          go_ret
          exact ⟨by first | rfl | (simp <;> rfl) | (simp [*] <;> rfl), kR0 HB⟩
       · replace c11 := Bool.eq_false_iff.mpr c11
         subst c11
         replace H : (some false) = some r := (by rw [if_neg (show ¬ (false = true) by decide)] at H; exact H); obtain rfl := Option.some.inj H; go_enter Try.func10, Try.ntmps10
         go_wp2_with (first | ((with_reducible refine gate_dst (N := 2) rfl ?_); refine box_event ?hg (N := 2) ?hd (cs := #[.int .i64 a0_0, .int .i64 a0_1, .bool a0_2, .bool a0_3, .slice A0_4 l0_4.length c0_4, .slice A0_5 l0_5.length c0_5, .slice A0_6 l0_6.length c0_6, .slice A0_7 l0_7.length c0_7, .int .i64 a0_8]) (t := 33) ?hr ?_; (case hd => rfl); (case hg => rfl); (case hr => first | (go_simp; done) | (go_simp; rfl)); intro gb393 hg w30 hbox hb; have BK393 := yD (hbox); have GW393 := yD ((by rw [hg]; exact (below_size (kB HB)) : w.heap.size ≤ gb393)); have GE393 := yD ((by rw [hg]; exact (below_size (kB HB)) : w.heap.size ≤ gb393)); replace HB := yD (zC (kB HB) hb); clear hb hbox hg) | ((with_reducible refine gate_dst (N := 3) rfl ?_); refine box_event ?hg (N := 3) ?hd (cs := #[.int .i64 a1_0, .int .i64 a1_1, .bool a1_2, .bool a1_3, .slice A1_4 l1_4.length c1_4, .slice A1_5 l1_5.length c1_5, .slice A1_6 l1_6.length c1_6, .slice A1_7 l1_7.length c1_7, .int .i64 a1_8]) (t := 33) ?hr ?_; (case hd => rfl); (case hg => rfl); (case hr => first | (go_simp; done) | (go_simp; rfl)); intro gb394 hg w31 hbox hb; have BK394 := yD (hbox); have GW394 := yD ((by rw [hg]; exact (below_size (kB HB)) : w.heap.size ≤ gb394)); have GE394 := yD ((by rw [hg]; exact (below_size (kB HB)) : w.heap.size ≤ gb394)); replace HB := yD (zC (kB HB) hb); have NB393_394 := yD ((by rw [hg]; exact Nat.ne_of_lt (blk_lt (kN BK393)) : gb393 ≠ gb394)); have NB394_393 := yD ((by rw [hg]; exact Nat.ne_of_gt (blk_lt (kN BK393)) : gb394 ≠ gb393)); replace BK393 := yD (zB (kN BK393) hb); clear hb hbox hg; have hnb32 := NB393_394.out; have hnc32 := NB394_393.out; obtain ⟨hcz33_0, hcz33_1, hcz33_2, hcz33_3, hcz33_4, hcz33_5, hcz33_6, hcz33_7, hcz33_8⟩ := cz9 BK393.out; obtain ⟨hfz33_0, hfz33_1, hfz33_2, hfz33_3, hfz33_4, hfz33_5, hfz33_6, hfz33_7, hfz33_8⟩ := fz9 BK393.out; obtain ⟨hcz34_0, hcz34_1, hcz34_2, hcz34_3, hcz34_4, hcz34_5, hcz34_6, hcz34_7, hcz34_8⟩ := cz9 BK394.out; obtain ⟨hfz34_0, hfz34_1, hfz34_2, hfz34_3, hfz34_4, hfz34_5, hfz34_6, hfz34_7, hfz34_8⟩ := fz9 BK394.out) | (go_at_call 39; (with_reducible refine (slices_Equal_string_string.calls k _ _ l0_4 _ _ l1_4 true _ ?side1 ?side2 ?side3 ?side4 A8.out).mono ?_); (case side1 => exact kV (yY HR0_4.out HB.out)); (case side2 => exact HC0_4.out); (case side3 => exact kV (yY HR1_4.out HB.out)); (case side4 => exact HC1_4.out); rintro e w' ⟨rfl, ⟨nd, rfl⟩⟩) | (go_at_call 40; (with_reducible refine (slices_Equal_int64_int64.calls k _ _ l0_5 _ _ l1_5 false _ ?side1 ?side2 ?side3 ?side4 A10.out).mono ?_); (case side1 => repeat (first | exact (yY HR0_5.out (kB HB)) | (with_reducible first | refine yV ?_ _ | refine yW ?_ _ | refine yX ?_))); (case side2 => exact HC0_5.out); (case side3 => repeat (first | exact (yY HR1_5.out (kB HB)) | (with_reducible first | refine yV ?_ _ | refine yW ?_ _ | refine yX ?_))); (case side4 => exact HC1_5.out); rintro e w' ⟨rfl, ⟨nd, rfl⟩⟩))
         go_ret
         exact ⟨by first | rfl | (simp <;> rfl) | (simp [*] <;> rfl), kR0 HB⟩
      · replace c9 := Bool.eq_false_iff.mpr c9
        subst c9
        replace H : (some false) = some r := (by rw [if_neg (show ¬ (false = true) by decide)] at H; exact H); obtain rfl := Option.some.inj H; go_enter Try.func10, Try.ntmps10
        go_wp2_with (first | ((with_reducible refine gate_dst (N := 2) rfl ?_); refine box_event ?hg (N := 2) ?hd (cs := #[.int .i64 a0_0, .int .i64 a0_1, .bool a0_2, .bool a0_3, .slice A0_4 l0_4.length c0_4, .slice A0_5 l0_5.length c0_5, .slice A0_6 l0_6.length c0_6, .slice A0_7 l0_7.length c0_7, .int .i64 a0_8]) (t := 33) ?hr ?_; (case hd => rfl); (case hg => rfl); (case hr => first | (go_simp; done) | (go_simp; rfl)); intro gb393 hg w35 hbox hb; have BK393 := yD (hbox); have GW393 := yD ((by rw [hg]; exact (below_size (kB HB)) : w.heap.size ≤ gb393)); have GE393 := yD ((by rw [hg]; exact (below_size (kB HB)) : w.heap.size ≤ gb393)); replace HB := yD (zC (kB HB) hb); clear hb hbox hg) | ((with_reducible refine gate_dst (N := 3) rfl ?_); refine box_event ?hg (N := 3) ?hd (cs := #[.int .i64 a1_0, .int .i64 a1_1, .bool a1_2, .bool a1_3, .slice A1_4 l1_4.length c1_4, .slice A1_5 l1_5.length c1_5, .slice A1_6 l1_6.length c1_6, .slice A1_7 l1_7.length c1_7, .int .i64 a1_8]) (t := 33) ?hr ?_; (case hd => rfl); (case hg => rfl); (case hr => first | (go_simp; done) | (go_simp; rfl)); intro gb394 hg w36 hbox hb; have BK394 := yD (hbox); have GW394 := yD ((by rw [hg]; exact (below_size (kB HB)) : w.heap.size ≤ gb394)); have GE394 := yD ((by rw [hg]; exact (below_size (kB HB)) : w.heap.size ≤ gb394)); replace HB := yD (zC (kB HB) hb); have NB393_394 := yD ((by rw [hg]; exact Nat.ne_of_lt (blk_lt (kN BK393)) : gb393 ≠ gb394)); have NB394_393 := yD ((by rw [hg]; exact Nat.ne_of_gt (blk_lt (kN BK393)) : gb394 ≠ gb393)); replace BK393 := yD (zB (kN BK393) hb); clear hb hbox hg; have hnb37 := NB393_394.out; have hnc37 := NB394_393.out; obtain ⟨hcz38_0, hcz38_1, hcz38_2, hcz38_3, hcz38_4, hcz38_5, hcz38_6, hcz38_7, hcz38_8⟩ := cz9 BK393.out; obtain ⟨hfz38_0, hfz38_1, hfz38_2, hfz38_3, hfz38_4, hfz38_5, hfz38_6, hfz38_7, hfz38_8⟩ := fz9 BK393.out; obtain ⟨hcz39_0, hcz39_1, hcz39_2, hcz39_3, hcz39_4, hcz39_5, hcz39_6, hcz39_7, hcz39_8⟩ := cz9 BK394.out; obtain ⟨hfz39_0, hfz39_1, hfz39_2, hfz39_3, hfz39_4, hfz39_5, hfz39_6, hfz39_7, hfz39_8⟩ := fz9 BK394.out) | (go_at_call 39; (with_reducible refine (slices_Equal_string_string.calls k _ _ l0_4 _ _ l1_4 false _ ?side1 ?side2 ?side3 ?side4 A8.out).mono ?_); (case side1 => exact kV (yY HR0_4.out HB.out)); (case side2 => exact HC0_4.out); (case side3 => exact kV (yY HR1_4.out HB.out)); (case side4 => exact HC1_4.out); rintro e w' ⟨rfl, ⟨nd, rfl⟩⟩))
        go_ret
        exact ⟨by first | rfl | (simp <;> rfl) | (simp [*] <;> rfl), kR0 HB⟩
     · rw [if_neg c7] at H
       have c7b0 : (a0_8 == a1_8) = false := beq_eq_false_iff_ne.mpr c7
       have c7b1 : (a0_8 != a1_8) = true := bne_iff_ne.mpr c7
       obtain rfl := Option.some.inj H; go_enter Try.func10, Try.ntmps10
       go_wp2_with (first | ((with_reducible refine gate_dst (N := 2) rfl ?_); refine box_event ?hg (N := 2) ?hd (cs := #[.int .i64 a0_0, .int .i64 a0_1, .bool a0_2, .bool a0_3, .slice A0_4 l0_4.length c0_4, .slice A0_5 l0_5.length c0_5, .slice A0_6 l0_6.length c0_6, .slice A0_7 l0_7.length c0_7, .int .i64 a0_8]) (t := 33) ?hr ?_; (case hd => rfl); (case hg => rfl); (case hr => first | (go_simp; done) | (go_simp; rfl)); intro gb393 hg w40 hbox hb; have BK393 := yD (hbox); have GW393 := yD ((by rw [hg]; exact (below_size (kB HB)) : w.heap.size ≤ gb393)); have GE393 := yD ((by rw [hg]; exact (below_size (kB HB)) : w.heap.size ≤ gb393)); replace HB := yD (zC (kB HB) hb); clear hb hbox hg) | ((with_reducible refine gate_dst (N := 3) rfl ?_); refine box_event ?hg (N := 3) ?hd (cs := #[.int .i64 a1_0, .int .i64 a1_1, .bool a1_2, .bool a1_3, .slice A1_4 l1_4.length c1_4, .slice A1_5 l1_5.length c1_5, .slice A1_6 l1_6.length c1_6, .slice A1_7 l1_7.length c1_7, .int .i64 a1_8]) (t := 33) ?hr ?_; (case hd => rfl); (case hg => rfl); (case hr => first | (go_simp; done) | (go_simp; rfl)); intro gb394 hg w41 hbox hb; have BK394 := yD (hbox); have GW394 := yD ((by rw [hg]; exact (below_size (kB HB)) : w.heap.size ≤ gb394)); have GE394 := yD ((by rw [hg]; exact (below_size (kB HB)) : w.heap.size ≤ gb394)); replace HB := yD (zC (kB HB) hb); have NB393_394 := yD ((by rw [hg]; exact Nat.ne_of_lt (blk_lt (kN BK393)) : gb393 ≠ gb394)); have NB394_393 := yD ((by rw [hg]; exact Nat.ne_of_gt (blk_lt (kN BK393)) : gb394 ≠ gb393)); replace BK393 := yD (zB (kN BK393) hb); clear hb hbox hg; have hnb42 := NB393_394.out; have hnc42 := NB394_393.out; obtain ⟨hcz43_0, hcz43_1, hcz43_2, hcz43_3, hcz43_4, hcz43_5, hcz43_6, hcz43_7, hcz43_8⟩ := cz9 BK393.out; obtain ⟨hfz43_0, hfz43_1, hfz43_2, hfz43_3, hfz43_4, hfz43_5, hfz43_6, hfz43_7, hfz43_8⟩ := fz9 BK393.out; obtain ⟨hcz44_0, hcz44_1, hcz44_2, hcz44_3, hcz44_4, hcz44_5, hcz44_6, hcz44_7, hcz44_8⟩ := cz9 BK394.out; obtain ⟨hfz44_0, hfz44_1, hfz44_2, hfz44_3, hfz44_4, hfz44_5, hfz44_6, hfz44_7, hfz44_8⟩ := fz9 BK394.out))
       go_ret
       exact ⟨by first | rfl | (simp <;> rfl) | (simp [*] <;> rfl), kR0 HB⟩
    ·
     rw [if_neg c6] at H
     have c6b0 : (a0_3 == a1_3) = false := by simpa using c6
     (try (have c6b1 : decide (a0_3 = a1_3) = false := by simpa using c6))
     (try (have c6b2 : (a0_3 == a1_3) = false := by simpa using c6))
     (try (have c6b3 : ¬ (a0_3 = a1_3) := by simpa using c6))
     clear c6; obtain rfl := Option.some.inj H; go_enter Try.func10, Try.ntmps10
     go_wp2_with (first | ((with_reducible refine gate_dst (N := 2) rfl ?_); refine box_event ?hg (N := 2) ?hd (cs := #[.int .i64 a0_0, .int .i64 a0_1, .bool a0_2, .bool a0_3, .slice A0_4 l0_4.length c0_4, .slice A0_5 l0_5.length c0_5, .slice A0_6 l0_6.length c0_6, .slice A0_7 l0_7.length c0_7, .int .i64 a0_8]) (t := 33) ?hr ?_; (case hd => rfl); (case hg => rfl); (case hr => first | (go_simp; done) | (go_simp; rfl)); intro gb393 hg w45 hbox hb; have BK393 := yD (hbox); have GW393 := yD ((by rw [hg]; exact (below_size (kB HB)) : w.heap.size ≤ gb393)); have GE393 := yD ((by rw [hg]; exact (below_size (kB HB)) : w.heap.size ≤ gb393)); replace HB := yD (zC (kB HB) hb); clear hb hbox hg) | ((with_reducible refine gate_dst (N := 3) rfl ?_); refine box_event ?hg (N := 3) ?hd (cs := #[.int .i64 a1_0, .int .i64 a1_1, .bool a1_2, .bool a1_3, .slice A1_4 l1_4.length c1_4, .slice A1_5 l1_5.length c1_5, .slice A1_6 l1_6.length c1_6, .slice A1_7 l1_7.length c1_7, .int .i64 a1_8]) (t := 33) ?hr ?_; (case hd => rfl); (case hg => rfl); (case hr => first | (go_simp; done) | (go_simp; rfl)); intro gb394 hg w46 hbox hb; have BK394 := yD (hbox); have GW394 := yD ((by rw [hg]; exact (below_size (kB HB)) : w.heap.size ≤ gb394)); have GE394 := yD ((by rw [hg]; exact (below_size (kB HB)) : w.heap.size ≤ gb394)); replace HB := yD (zC (kB HB) hb); have NB393_394 := yD ((by rw [hg]; exact Nat.ne_of_lt (blk_lt (kN BK393)) : gb393 ≠ gb394)); have NB394_393 := yD ((by rw [hg]; exact Nat.ne_of_gt (blk_lt (kN BK393)) : gb394 ≠ gb393)); replace BK393 := yD (zB (kN BK393) hb); clear hb hbox hg; have hnb47 := NB393_394.out; have hnc47 := NB394_393.out; obtain ⟨hcz48_0, hcz48_1, hcz48_2, hcz48_3, hcz48_4, hcz48_5, hcz48_6, hcz48_7, hcz48_8⟩ := cz9 BK393.out; obtain ⟨hfz48_0, hfz48_1, hfz48_2, hfz48_3, hfz48_4, hfz48_5, hfz48_6, hfz48_7, hfz48_8⟩ := fz9 BK393.out; obtain ⟨hcz49_0, hcz49_1, hcz49_2, hcz49_3, hcz49_4, hcz49_5, hcz49_6, hcz49_7, hcz49_8⟩ := cz9 BK394.out; obtain ⟨hfz49_0, hfz49_1, hfz49_2, hfz49_3, hfz49_4, hfz49_5, hfz49_6, hfz49_7, hfz49_8⟩ := fz9 BK394.out))
     go_ret
     exact ⟨by first | rfl | (simp <;> rfl) | (simp [*] <;> rfl), kR0 HB⟩
   ·
    rw [if_neg c5] at H
    have c5b0 : (a0_2 == a1_2) = false := by simpa using c5
    (try (have c5b1 : decide (a0_2 = a1_2) = false := by simpa using c5))
    (try (have c5b2 : (a0_2 == a1_2) = false := by simpa using c5))
    (try (have c5b3 : ¬ (a0_2 = a1_2) := by simpa using c5))
    clear c5; obtain rfl := Option.some.inj H; go_enter Try.func10, Try.ntmps10
    go_wp2_with (first | ((with_reducible refine gate_dst (N := 2) rfl ?_); refine box_event ?hg (N := 2) ?hd (cs := #[.int .i64 a0_0, .int .i64 a0_1, .bool a0_2, .bool a0_3, .slice A0_4 l0_4.length c0_4, .slice A0_5 l0_5.length c0_5, .slice A0_6 l0_6.length c0_6, .slice A0_7 l0_7.length c0_7, .int .i64 a0_8]) (t := 33) ?hr ?_; (case hd => rfl); (case hg => rfl); (case hr => first | (go_simp; done) | (go_simp; rfl)); intro gb393 hg w50 hbox hb; have BK393 := yD (hbox); have GW393 := yD ((by rw [hg]; exact (below_size (kB HB)) : w.heap.size ≤ gb393)); have GE393 := yD ((by rw [hg]; exact (below_size (kB HB)) : w.heap.size ≤ gb393)); replace HB := yD (zC (kB HB) hb); clear hb hbox hg) | ((with_reducible refine gate_dst (N := 3) rfl ?_); refine box_event ?hg (N := 3) ?hd (cs := #[.int .i64 a1_0, .int .i64 a1_1, .bool a1_2, .bool a1_3, .slice A1_4 l1_4.length c1_4, .slice A1_5 l1_5.length c1_5, .slice A1_6 l1_6.length c1_6, .slice A1_7 l1_7.length c1_7, .int .i64 a1_8]) (t := 33) ?hr ?_; (case hd => rfl); (case hg => rfl); (case hr => first | (go_simp; done) | (go_simp; rfl)); intro gb394 hg w51 hbox hb; have BK394 := yD (hbox); have GW394 := yD ((by rw [hg]; exact (below_size (kB HB)) : w.heap.size ≤ gb394)); have GE394 := yD ((by rw [hg]; exact (below_size (kB HB)) : w.heap.size ≤ gb394)); replace HB := yD (zC (kB HB) hb); have NB393_394 := yD ((by rw [hg]; exact Nat.ne_of_lt (blk_lt (kN BK393)) : gb393 ≠ gb394)); have NB394_393 := yD ((by rw [hg]; exact Nat.ne_of_gt (blk_lt (kN BK393)) : gb394 ≠ gb393)); replace BK393 := yD (zB (kN BK393) hb); clear hb hbox hg; have hnb52 := NB393_394.out; have hnc52 := NB394_393.out; obtain ⟨hcz53_0, hcz53_1, hcz53_2, hcz53_3, hcz53_4, hcz53_5, hcz53_6, hcz53_7, hcz53_8⟩ := cz9 BK393.out; obtain ⟨hfz53_0, hfz53_1, hfz53_2, hfz53_3, hfz53_4, hfz53_5, hfz53_6, hfz53_7, hfz53_8⟩ := fz9 BK393.out; obtain ⟨hcz54_0, hcz54_1, hcz54_2, hcz54_3, hcz54_4, hcz54_5, hcz54_6, hcz54_7, hcz54_8⟩ := cz9 BK394.out; obtain ⟨hfz54_0, hfz54_1, hfz54_2, hfz54_3, hfz54_4, hfz54_5, hfz54_6, hfz54_7, hfz54_8⟩ := fz9 BK394.out))
    go_ret
    exact ⟨by first | rfl | (simp <;> rfl) | (simp [*] <;> rfl), kR0 HB⟩
  ·
   rw [if_neg c4] at H
   have c4b0 : (a0_1 == a1_1) = false := beq_eq_false_iff_ne.mpr c4
   have c4b1 : (a0_1 != a1_1) = true := bne_iff_ne.mpr c4
   obtain rfl := Option.some.inj H; go_enter Try.func10, Try.ntmps10
   go_wp2_with (first | ((with_reducible refine gate_dst (N := 2) rfl ?_); refine box_event ?hg (N := 2) ?hd (cs := #[.int .i64 a0_0, .int .i64 a0_1, .bool a0_2, .bool a0_3, .slice A0_4 l0_4.length c0_4, .slice A0_5 l0_5.length c0_5, .slice A0_6 l0_6.length c0_6, .slice A0_7 l0_7.length c0_7, .int .i64 a0_8]) (t := 33) ?hr ?_; (case hd => rfl); (case hg => rfl); (case hr => first | (go_simp; done) | (go_simp; rfl)); intro gb393 hg w55 hbox hb; have BK393 := yD (hbox); have GW393 := yD ((by rw [hg]; exact (below_size (kB HB)) : w.heap.size ≤ gb393)); have GE393 := yD ((by rw [hg]; exact (below_size (kB HB)) : w.heap.size ≤ gb393)); replace HB := yD (zC (kB HB) hb); clear hb hbox hg) | ((with_reducible refine gate_dst (N := 3) rfl ?_); refine box_event ?hg (N := 3) ?hd (cs := #[.int .i64 a1_0, .int .i64 a1_1, .bool a1_2, .bool a1_3, .slice A1_4 l1_4.length c1_4, .slice A1_5 l1_5.length c1_5, .slice A1_6 l1_6.length c1_6, .slice A1_7 l1_7.length c1_7, .int .i64 a1_8]) (t := 33) ?hr ?_; (case hd => rfl); (case hg => rfl); (case hr => first | (go_simp; done) | (go_simp; rfl)); intro gb394 hg w56 hbox hb; have BK394 := yD (hbox); have GW394 := yD ((by rw [hg]; exact (below_size (kB HB)) : w.heap.size ≤ gb394)); have GE394 := yD ((by rw [hg]; exact (below_size (kB HB)) : w.heap.size ≤ gb394)); replace HB := yD (zC (kB HB) hb); have NB393_394 := yD ((by rw [hg]; exact Nat.ne_of_lt (blk_lt (kN BK393)) : gb393 ≠ gb394)); have NB394_393 := yD ((by rw [hg]; exact Nat.ne_of_gt (blk_lt (kN BK393)) : gb394 ≠ gb393)); replace BK393 := yD (zB (kN BK393) hb); clear hb hbox hg; have hnb57 := NB393_394.out; have hnc57 := NB394_393.out; obtain ⟨hcz58_0, hcz58_1, hcz58_2, hcz58_3, hcz58_4, hcz58_5, hcz58_6, hcz58_7, hcz58_8⟩ := cz9 BK393.out; obtain ⟨hfz58_0, hfz58_1, hfz58_2, hfz58_3, hfz58_4, hfz58_5, hfz58_6, hfz58_7, hfz58_8⟩ := fz9 BK393.out; obtain ⟨hcz59_0, hcz59_1, hcz59_2, hcz59_3, hcz59_4, hcz59_5, hcz59_6, hcz59_7, hcz59_8⟩ := cz9 BK394.out; obtain ⟨hfz59_0, hfz59_1, hfz59_2, hfz59_3, hfz59_4, hfz59_5, hfz59_6, hfz59_7, hfz59_8⟩ := fz9 BK394.out))
   go_ret
   exact ⟨by first | rfl | (simp <;> rfl) | (simp [*] <;> rfl), kR0 HB⟩
 ·
  rw [if_neg c3] at H
  have c3b0 : (a0_0 == a1_0) = false := beq_eq_false_iff_ne.mpr c3
  have c3b1 : (a0_0 != a1_0) = true := bne_iff_ne.mpr c3
  obtain rfl := Option.some.inj H; go_enter Try.func10, Try.ntmps10
  go_wp2_with (first | ((with_reducible refine gate_dst (N := 2) rfl ?_); refine box_event ?hg (N := 2) ?hd (cs := #[.int .i64 a0_0, .int .i64 a0_1, .bool a0_2, .bool a0_3, .slice A0_4 l0_4.length c0_4, .slice A0_5 l0_5.length c0_5, .slice A0_6 l0_6.length c0_6, .slice A0_7 l0_7.length c0_7, .int .i64 a0_8]) (t := 33) ?hr ?_; (case hd => rfl); (case hg => rfl); (case hr => first | (go_simp; done) | (go_simp; rfl)); intro gb393 hg w60 hbox hb; have BK393 := yD (hbox); have GW393 := yD ((by rw [hg]; exact (below_size (kB HB)) : w.heap.size ≤ gb393)); have GE393 := yD ((by rw [hg]; exact (below_size (kB HB)) : w.heap.size ≤ gb393)); replace HB := yD (zC (kB HB) hb); clear hb hbox hg) | ((with_reducible refine gate_dst (N := 3) rfl ?_); refine box_event ?hg (N := 3) ?hd (cs := #[.int .i64 a1_0, .int .i64 a1_1, .bool a1_2, .bool a1_3, .slice A1_4 l1_4.length c1_4, .slice A1_5 l1_5.length c1_5, .slice A1_6 l1_6.length c1_6, .slice A1_7 l1_7.length c1_7, .int .i64 a1_8]) (t := 33) ?hr ?_; (case hd => rfl); (case hg => rfl); (case hr => first | (go_simp; done) | (go_simp; rfl)); intro gb394 hg w61 hbox hb; have BK394 := yD (hbox); have GW394 := yD ((by rw [hg]; exact (below_size (kB HB)) : w.heap.size ≤ gb394)); have GE394 := yD ((by rw [hg]; exact (below_size (kB HB)) : w.heap.size ≤ gb394)); replace HB := yD (zC (kB HB) hb); have NB393_394 := yD ((by rw [hg]; exact Nat.ne_of_lt (blk_lt (kN BK393)) : gb393 ≠ gb394)); have NB394_393 := yD ((by rw [hg]; exact Nat.ne_of_gt (blk_lt (kN BK393)) : gb394 ≠ gb393)); replace BK393 := yD (zB (kN BK393) hb); clear hb hbox hg; have hnb62 := NB393_394.out; have hnc62 := NB394_393.out; obtain ⟨hcz63_0, hcz63_1, hcz63_2, hcz63_3, hcz63_4, hcz63_5, hcz63_6, hcz63_7, hcz63_8⟩ := cz9 BK393.out; obtain ⟨hfz63_0, hfz63_1, hfz63_2, hfz63_3, hfz63_4, hfz63_5, hfz63_6, hfz63_7, hfz63_8⟩ := fz9 BK393.out; obtain ⟨hcz64_0, hcz64_1, hcz64_2, hcz64_3, hcz64_4, hcz64_5, hcz64_6, hcz64_7, hcz64_8⟩ := cz9 BK394.out; obtain ⟨hfz64_0, hfz64_1, hfz64_2, hfz64_3, hfz64_4, hfz64_5, hfz64_6, hfz64_7, hfz64_8⟩ := fz9 BK394.out))
  go_ret
  exact ⟨by first | rfl | (simp <;> rfl) | (simp [*] <;> rfl), kR0 HB⟩

/-! ### impl_SameArray: function 27 -/
def impl_SameArray.f (k : Nat) (a0_0 : Int) (a0_1 : Int) (a0_2 : Bool) (a0_3 : Bool) (l0_4 : List ByteArray) (l0_5 : List Int) (l0_6 : List (S64)) (l0_7 : List (S33)) (a0_8 : Int) (l0_9 : List Int) (a0_10 : ByteArray) (a1_0 : Int) (a1_1 : Int) (a1_2 : Bool) (a1_3 : Bool) (l1_4 : List ByteArray) (l1_5 : List Int) (l1_6 : List (S64)) (l1_7 : List (S33)) (a1_8 : Int) (l1_9 : List Int) (a1_10 : ByteArray) : Option (Bool) := (impl_SameType.f k a0_0 a0_1 a0_2 a0_3 l0_4 l0_5 l0_6 l0_7 a0_8 a1_0 a1_1 a1_2 a1_3 l1_4 l1_5 l1_6 l1_7 a1_8).bind fun t401 => (if t401 = true then ((slices_Equal_int64_int64.f k l0_9 l1_9).bind fun t402 => (if t402 = true then (some (a0_10.toList == a1_10.toList)) else (some false))) else (some false))
set_option maxHeartbeats 8000000 in
set_option maxRecDepth 100000 in
theorem impl_SameArray.calls (k : Nat) (a0_0 : Int) (a0_1 : Int) (a0_2 : Bool) (a0_3 : Bool) (A0_4 : Option Addr) (c0_4 : Nat) (l0_4 : List ByteArray) (A0_5 : Option Addr) (c0_5 : Nat) (l0_5 : List Int) (A0_6 : Option Addr) (c0_6 : Nat) (l0_6 : List (S64)) (A0_7 : Option Addr) (c0_7 : Nat) (l0_7 : List (S33)) (a0_8 : Int) (A0_9 : Option Addr) (c0_9 : Nat) (l0_9 : List Int) (a0_10 : ByteArray) (a1_0 : Int) (a1_1 : Int) (a1_2 : Bool) (a1_3 : Bool) (A1_4 : Option Addr) (c1_4 : Nat) (l1_4 : List ByteArray) (A1_5 : Option Addr) (c1_5 : Nat) (l1_5 : List Int) (A1_6 : Option Addr) (c1_6 : Nat) (l1_6 : List (S64)) (A1_7 : Option Addr) (c1_7 : Nat) (l1_7 : List (S33)) (a1_8 : Int) (A1_9 : Option Addr) (c1_9 : Nat) (l1_9 : List Int) (a1_10 : ByteArray) (r : Bool) (w : World) (hr0_4 : Kd.C Kd.string w A0_4 l0_4.length l0_4) (hc0_4 : l0_4.length ≤ c0_4) (hr0_5 : Kd.C (Kd.int .i64) w A0_5 l0_5.length l0_5) (hc0_5 : l0_5.length ≤ c0_5) (hr0_6 : Kd.C k64 w A0_6 l0_6.length l0_6) (hc0_6 : l0_6.length ≤ c0_6) (hr0_7 : Kd.C k33 w A0_7 l0_7.length l0_7) (hc0_7 : l0_7.length ≤ c0_7) (hr0_9 : Kd.C (Kd.int .i64) w A0_9 l0_9.length l0_9) (hc0_9 : l0_9.length ≤ c0_9) (hr1_4 : Kd.C Kd.string w A1_4 l1_4.length l1_4) (hc1_4 : l1_4.length ≤ c1_4) (hr1_5 : Kd.C (Kd.int .i64) w A1_5 l1_5.length l1_5) (hc1_5 : l1_5.length ≤ c1_5) (hr1_6 : Kd.C k64 w A1_6 l1_6.length l1_6) (hc1_6 : l1_6.length ≤ c1_6) (hr1_7 : Kd.C k33 w A1_7 l1_7.length l1_7) (hc1_7 : l1_7.length ≤ c1_7) (hr1_9 : Kd.C (Kd.int .i64) w A1_9 l1_9.length l1_9) (hc1_9 : l1_9.length ≤ c1_9) (h : impl_SameArray.f k a0_0 a0_1 a0_2 a0_3 l0_4 l0_5 l0_6 l0_7 a0_8 l0_9 a0_10 a1_0 a1_1 a1_2 a1_3 l1_4 l1_5 l1_6 l1_7 a1_8 l1_9 a1_10 = some r) :
 Calls Try.prog 27 #[.agg #[.int .i64 a0_0, .int .i64 a0_1, .bool a0_2, .bool a0_3, .slice A0_4 l0_4.length c0_4, .slice A0_5 l0_5.length c0_5, .slice A0_6 l0_6.length c0_6, .slice A0_7 l0_7.length c0_7, .int .i64 a0_8, .slice A0_9 l0_9.length c0_9, .string a0_10], .agg #[.int .i64 a1_0, .int .i64 a1_1, .bool a1_2, .bool a1_3, .slice A1_4 l1_4.length c1_4, .slice A1_5 l1_5.length c1_5, .slice A1_6 l1_6.length c1_6, .slice A1_7 l1_7.length c1_7, .int .i64 a1_8, .slice A1_9 l1_9.length c1_9, .string a1_10]] w fun e w' => e = .returned (.bool r) ∧ Below w.heap.size w w' := by
 have hu56 := Try.underlying56; have hu33 := Try.underlying33
 have HR0_4 := yD hr0_4
 have HC0_4 := yD hc0_4
 clear hr0_4 hc0_4
 have HR0_5 := yD hr0_5
 have HC0_5 := yD hc0_5
 clear hr0_5 hc0_5
 have HR0_6 := yD hr0_6
 have HC0_6 := yD hc0_6
 clear hr0_6 hc0_6
 have HR0_7 := yD hr0_7
 have HC0_7 := yD hc0_7
 clear hr0_7 hc0_7
 have HR0_9 := yD hr0_9
 have HC0_9 := yD hc0_9
 clear hr0_9 hc0_9
 have HR1_4 := yD hr1_4
 have HC1_4 := yD hc1_4
 clear hr1_4 hc1_4
 have HR1_5 := yD hr1_5
 have HC1_5 := yD hc1_5
 clear hr1_5 hc1_5
 have HR1_6 := yD hr1_6
 have HC1_6 := yD hc1_6
 clear hr1_6 hc1_6
 have HR1_7 := yD hr1_7
 have HC1_7 := yD hc1_7
 clear hr1_7 hc1_7
 have HR1_9 := yD hr1_9
 have HC1_9 := yD hc1_9
 clear hr1_9 hc1_9
 have HB := yD (Below.refl w.heap.size w)
 have H : ((impl_SameType.f k a0_0 a0_1 a0_2 a0_3 l0_4 l0_5 l0_6 l0_7 a0_8 a1_0 a1_1 a1_2 a1_3 l1_4 l1_5 l1_6 l1_7 a1_8).bind fun t401 => (if t401 = true then ((slices_Equal_int64_int64.f k l0_9 l1_9).bind fun t402 => (if t402 = true then (some (a0_10.toList == a1_10.toList)) else (some false))) else (some false))) = some r := h
 clear h
 obtain ⟨t401, A30, H⟩ := zW_ H
 replace H : (if t401 = true then ((slices_Equal_int64_int64.f k l0_9 l1_9).bind fun t402 => (if t402 = true then (some (a0_10.toList == a1_10.toList)) else (some false))) else (some false)) = some r := H
 have A3 := yD A30
 clear A30
 by_cases c4 : t401 = true
 ·
  subst c4
  replace H : ((slices_Equal_int64_int64.f k l0_9 l1_9).bind fun t402 => (if t402 = true then (some (a0_10.toList == a1_10.toList)) else (some false))) = some r := (by rw [if_pos rfl] at H; exact H)
  obtain ⟨t402, A50, H⟩ := zW_ H
  replace H : (if t402 = true then (some (a0_10.toList == a1_10.toList)) else (some false)) = some r := H
  have A5 := yD A50
  clear A50
  by_cases c6 : t402 = true
  · subst c6
    replace H : (some (a0_10.toList == a1_10.toList)) = some r := (by rw [if_pos rfl] at H; exact H); obtain rfl := Option.some.inj H; go_enter Try.func27, Try.ntmps27
    go_wp2_with (first | ((with_reducible refine gate_dst (N := 2) rfl ?_); refine box_event ?hg (N := 2) ?hd (cs := #[.int .i64 a0_0, .int .i64 a0_1, .bool a0_2, .bool a0_3, .slice A0_4 l0_4.length c0_4, .slice A0_5 l0_5.length c0_5, .slice A0_6 l0_6.length c0_6, .slice A0_7 l0_7.length c0_7, .int .i64 a0_8, .slice A0_9 l0_9.length c0_9, .string a0_10]) (t := 56) ?hr ?_; (case hd => rfl); (case hg => rfl); (case hr => first | (go_simp; done) | (go_simp; rfl)); intro gb399 hg w7 hbox hb; have BK399 := yD (hbox); have GW399 := yD ((by rw [hg]; exact (below_size (kB HB)) : w.heap.size ≤ gb399)); have GE399 := yD ((by rw [hg]; exact (below_size (kB HB)) : w.heap.size ≤ gb399)); replace HB := yD (zC (kB HB) hb); clear hb hbox hg) | ((with_reducible refine gate_dst (N := 3) rfl ?_); refine box_event ?hg (N := 3) ?hd (cs := #[.int .i64 a1_0, .int .i64 a1_1, .bool a1_2, .bool a1_3, .slice A1_4 l1_4.length c1_4, .slice A1_5 l1_5.length c1_5, .slice A1_6 l1_6.length c1_6, .slice A1_7 l1_7.length c1_7, .int .i64 a1_8, .slice A1_9 l1_9.length c1_9, .string a1_10]) (t := 56) ?hr ?_; (case hd => rfl); (case hg => rfl); (case hr => first | (go_simp; done) | (go_simp; rfl)); intro gb400 hg w8 hbox hb; have BK400 := yD (hbox); have GW400 := yD ((by rw [hg]; exact (below_size (kB HB)) : w.heap.size ≤ gb400)); have GE400 := yD ((by rw [hg]; exact (below_size (kB HB)) : w.heap.size ≤ gb400)); replace HB := yD (zC (kB HB) hb); have NB399_400 := yD ((by rw [hg]; exact Nat.ne_of_lt (blk_lt (kN BK399)) : gb399 ≠ gb400)); have NB400_399 := yD ((by rw [hg]; exact Nat.ne_of_gt (blk_lt (kN BK399)) : gb400 ≠ gb399)); replace BK399 := yD (zB (kN BK399) hb); clear hb hbox hg; have hnb9 := NB399_400.out; have hnc9 := NB400_399.out; obtain ⟨hcz10_0, hcz10_1, hcz10_2, hcz10_3, hcz10_4, hcz10_5, hcz10_6, hcz10_7, hcz10_8, hcz10_9, hcz10_10⟩ := cz11 BK399.out; obtain ⟨hfz10_0, hfz10_1, hfz10_2, hfz10_3, hfz10_4, hfz10_5, hfz10_6, hfz10_7, hfz10_8, hfz10_9, hfz10_10⟩ := fz11 BK399.out; obtain ⟨hcz11_0, hcz11_1, hcz11_2, hcz11_3, hcz11_4, hcz11_5, hcz11_6, hcz11_7, hcz11_8, hcz11_9, hcz11_10⟩ := cz11 BK400.out; obtain ⟨hfz11_0, hfz11_1, hfz11_2, hfz11_3, hfz11_4, hfz11_5, hfz11_6, hfz11_7, hfz11_8, hfz11_9, hfz11_10⟩ := fz11 BK400.out) | ((with_reducible refine gate_callee (f := 10) rfl ?_); refine gL 9 Try.func10 #[.agg #[.int .i64 a0_0, .int .i64 a0_1, .bool a0_2, .bool a0_3, .slice A0_4 l0_4.length c0_4, .slice A0_5 l0_5.length c0_5, .slice A0_6 l0_6.length c0_6, .slice A0_7 l0_7.length c0_7, .int .i64 a0_8], .agg #[.int .i64 a1_0, .int .i64 a1_1, .bool a1_2, .bool a1_3, .slice A1_4 l1_4.length c1_4, .slice A1_5 l1_5.length c1_5, .slice A1_6 l1_6.length c1_6, .slice A1_7 l1_7.length c1_7, .int .i64 a1_8]] ?_; (with_reducible refine (impl_SameType.calls k a0_0 a0_1 a0_2 a0_3 _ _ l0_4 _ _ l0_5 _ _ l0_6 _ _ l0_7 a0_8 a1_0 a1_1 a1_2 a1_3 _ _ l1_4 _ _ l1_5 _ _ l1_6 _ _ l1_7 a1_8 true _ ?side1 ?side2 ?side3 ?side4 ?side5 ?side6 ?side7 ?side8 ?side9 ?side10 ?side11 ?side12 ?side13 ?side14 ?side15 ?side16 A3.out).mono ?_); (case side1 => exact kV (yY HR0_4.out HB.out)); (case side2 => exact HC0_4.out); (case side3 => exact kV (yY HR0_5.out HB.out)); (case side4 => exact HC0_5.out); (case side5 => exact kV (yY HR0_6.out HB.out)); (case side6 => exact HC0_6.out); (case side7 => exact kV (yY HR0_7.out HB.out)); (case side8 => exact HC0_7.out); (case side9 => exact kV (yY HR1_4.out HB.out)); (case side10 => exact HC1_4.out); (case side11 => exact kV (yY HR1_5.out HB.out)); (case side12 => exact HC1_5.out); (case side13 => exact kV (yY HR1_6.out HB.out)); (case side14 => exact HC1_6.out); (case side15 => exact kV (yY HR1_7.out HB.out)); (case side16 => exact HC1_7.out); rintro e w12 ⟨rfl, hb⟩; refine ⟨_, rfl, ?_⟩; replace BK399 := yD (zB (kN BK399) hb); replace BK400 := yD (zB (kN BK400) hb); replace HB := yD (zC (kB HB) hb); clear hb; obtain ⟨hcz13_0, hcz13_1, hcz13_2, hcz13_3, hcz13_4, hcz13_5, hcz13_6, hcz13_7, hcz13_8, hcz13_9, hcz13_10⟩ := cz11 BK399.out; obtain ⟨hfz13_0, hfz13_1, hfz13_2, hfz13_3, hfz13_4, hfz13_5, hfz13_6, hfz13_7, hfz13_8, hfz13_9, hfz13_10⟩ := fz11 BK399.out; obtain ⟨hcz14_0, hcz14_1, hcz14_2, hcz14_3, hcz14_4, hcz14_5, hcz14_6, hcz14_7, hcz14_8, hcz14_9, hcz14_10⟩ := cz11 BK400.out; obtain ⟨hfz14_0, hfz14_1, hfz14_2, hfz14_3, hfz14_4, hfz14_5, hfz14_6, hfz14_7, hfz14_8, hfz14_9, hfz14_10⟩ := fz11 BK400.out) | (go_at_call 40; (with_reducible refine (slices_Equal_int64_int64.calls k _ _ l0_9 _ _ l1_9 true _ ?side1 ?side2 ?side3 ?side4 A5.out).mono ?_); (case side1 => exact kV (yY HR0_9.out HB.out)); (case side2 => exact HC0_9.out); (case side3 => exact kV (yY HR1_9.out HB.out)); (case side4 => exact HC1_9.out); rintro e w' ⟨rfl, ⟨nd, rfl⟩⟩))
    go_ret
    exact ⟨by first | rfl | (simp <;> rfl) | (simp [*] <;> rfl), kR0 HB⟩
  · replace c6 := Bool.eq_false_iff.mpr c6
    subst c6
    replace H : (some false) = some r := (by rw [if_neg (show ¬ (false = true) by decide)] at H; exact H); obtain rfl := Option.some.inj H; go_enter Try.func27, Try.ntmps27
    go_wp2_with (first | ((with_reducible refine gate_dst (N := 2) rfl ?_); refine box_event ?hg (N := 2) ?hd (cs := #[.int .i64 a0_0, .int .i64 a0_1, .bool a0_2, .bool a0_3, .slice A0_4 l0_4.length c0_4, .slice A0_5 l0_5.length c0_5, .slice A0_6 l0_6.length c0_6, .slice A0_7 l0_7.length c0_7, .int .i64 a0_8, .slice A0_9 l0_9.length c0_9, .string a0_10]) (t := 56) ?hr ?_; (case hd => rfl); (case hg => rfl); (case hr => first | (go_simp; done) | (go_simp; rfl)); intro gb399 hg w15 hbox hb; have BK399 := yD (hbox); have GW399 := yD ((by rw [hg]; exact (below_size (kB HB)) : w.heap.size ≤ gb399)); have GE399 := yD ((by rw [hg]; exact (below_size (kB HB)) : w.heap.size ≤ gb399)); replace HB := yD (zC (kB HB) hb); clear hb hbox hg) | ((with_reducible refine gate_dst (N := 3) rfl ?_); refine box_event ?hg (N := 3) ?hd (cs := #[.int .i64 a1_0, .int .i64 a1_1, .bool a1_2, .bool a1_3, .slice A1_4 l1_4.length c1_4, .slice A1_5 l1_5.length c1_5, .slice A1_6 l1_6.length c1_6, .slice A1_7 l1_7.length c1_7, .int .i64 a1_8, .slice A1_9 l1_9.length c1_9, .string a1_10]) (t := 56) ?hr ?_; (case hd => rfl); (case hg => rfl); (case hr => first | (go_simp; done) | (go_simp; rfl)); intro gb400 hg w16 hbox hb; have BK400 := yD (hbox); have GW400 := yD ((by rw [hg]; exact (below_size (kB HB)) : w.heap.size ≤ gb400)); have GE400 := yD ((by rw [hg]; exact (below_size (kB HB)) : w.heap.size ≤ gb400)); replace HB := yD (zC (kB HB) hb); have NB399_400 := yD ((by rw [hg]; exact Nat.ne_of_lt (blk_lt (kN BK399)) : gb399 ≠ gb400)); have NB400_399 := yD ((by rw [hg]; exact Nat.ne_of_gt (blk_lt (kN BK399)) : gb400 ≠ gb399)); replace BK399 := yD (zB (kN BK399) hb); clear hb hbox hg; have hnb17 := NB399_400.out; have hnc17 := NB400_399.out; obtain ⟨hcz18_0, hcz18_1, hcz18_2, hcz18_3, hcz18_4, hcz18_5, hcz18_6, hcz18_7, hcz18_8, hcz18_9, hcz18_10⟩ := cz11 BK399.out; obtain ⟨hfz18_0, hfz18_1, hfz18_2, hfz18_3, hfz18_4, hfz18_5, hfz18_6, hfz18_7, hfz18_8, hfz18_9, hfz18_10⟩ := fz11 BK399.out; obtain ⟨hcz19_0, hcz19_1, hcz19_2, hcz19_3, hcz19_4, hcz19_5, hcz19_6, hcz19_7, hcz19_8, hcz19_9, hcz19_10⟩ := cz11 BK400.out; obtain ⟨hfz19_0, hfz19_1, hfz19_2, hfz19_3, hfz19_4, hfz19_5, hfz19_6, hfz19_7, hfz19_8, hfz19_9, hfz19_10⟩ := fz11 BK400.out) | ((with_reducible refine gate_callee (f := 10) rfl ?_); refine gL 9 Try.func10 #[.agg #[.int .i64 a0_0, .int .i64 a0_1, .bool a0_2, .bool a0_3, .slice A0_4 l0_4.length c0_4, .slice A0_5 l0_5.length c0_5, .slice A0_6 l0_6.length c0_6, .slice A0_7 l0_7.length c0_7, .int .i64 a0_8], .agg #[.int .i64 a1_0, .int .i64 a1_1, .bool a1_2, .bool a1_3, .slice A1_4 l1_4.length c1_4, .slice A1_5 l1_5.length c1_5, .slice A1_6 l1_6.length c1_6, .slice A1_7 l1_7.length c1_7, .int .i64 a1_8]] ?_; (with_reducible refine (impl_SameType.calls k a0_0 a0_1 a0_2 a0_3 _ _ l0_4 _ _ l0_5 _ _ l0_6 _ _ l0_7 a0_8 a1_0 a1_1 a1_2 a1_3 _ _ l1_4 _ _ l1_5 _ _ l1_6 _ _ l1_7 a1_8 true _ ?side1 ?side2 ?side3 ?side4 ?side5 ?side6 ?side7 ?side8 ?side9 ?side10 ?side11 ?side12 ?side13 ?side14 ?side15 ?side16 A3.out).mono ?_); (case side1 => exact kV (yY HR0_4.out HB.out)); (case side2 => exact HC0_4.out); (case side3 => exact kV (yY HR0_5.out HB.out)); (case side4 => exact HC0_5.out); (case side5 => exact kV (yY HR0_6.out HB.out)); (case side6 => exact HC0_6.out); (case side7 => exact kV (yY HR0_7.out HB.out)); (case side8 => exact HC0_7.out); (case side9 => exact kV (yY HR1_4.out HB.out)); (case side10 => exact HC1_4.out); (case side11 => exact kV (yY HR1_5.out HB.out)); (case side12 => exact HC1_5.out); (case side13 => exact kV (yY HR1_6.out HB.out)); (case side14 => exact HC1_6.out); (case side15 => exact kV (yY HR1_7.out HB.out)); (case side16 => exact HC1_7.out); rintro e w20 ⟨rfl, hb⟩; refine ⟨_, rfl, ?_⟩; replace BK399 := yD (zB (kN BK399) hb); replace BK400 := yD (zB (kN BK400) hb); replace HB := yD (zC (kB HB) hb); clear hb; obtain ⟨hcz21_0, hcz21_1, hcz21_2, hcz21_3, hcz21_4, hcz21_5, hcz21_6, hcz21_7, hcz21_8, hcz21_9, hcz21_10⟩ := cz11 BK399.out; obtain ⟨hfz21_0, hfz21_1, hfz21_2, hfz21_3, hfz21_4, hfz21_5, hfz21_6, hfz21_7, hfz21_8, hfz21_9, hfz21_10⟩ := fz11 BK399.out; obtain ⟨hcz22_0, hcz22_1, hcz22_2, hcz22_3, hcz22_4, hcz22_5, hcz22_6, hcz22_7, hcz22_8, hcz22_9, hcz22_10⟩ := cz11 BK400.out; obtain ⟨hfz22_0, hfz22_1, hfz22_2, hfz22_3, hfz22_4, hfz22_5, hfz22_6, hfz22_7, hfz22_8, hfz22_9, hfz22_10⟩ := fz11 BK400.out) | (go_at_call 40; (with_reducible refine (slices_Equal_int64_int64.calls k _ _ l0_9 _ _ l1_9 false _ ?side1 ?side2 ?side3 ?side4 A5.out).mono ?_); (case side1 => exact kV (yY HR0_9.out HB.out)); (case side2 => exact HC0_9.out); (case side3 => exact kV (yY HR1_9.out HB.out)); (case side4 => exact HC1_9.out); rintro e w' ⟨rfl, ⟨nd, rfl⟩⟩))
    go_ret
    exact ⟨by first | rfl | (simp <;> rfl) | (simp [*] <;> rfl), kR0 HB⟩
 ·
  replace c4 := Bool.eq_false_iff.mpr c4
  subst c4
  replace H : (some false) = some r := (by rw [if_neg (show ¬ (false = true) by decide)] at H; exact H); obtain rfl := Option.some.inj H; go_enter Try.func27, Try.ntmps27
  go_wp2_with (first | ((with_reducible refine gate_dst (N := 2) rfl ?_); refine box_event ?hg (N := 2) ?hd (cs := #[.int .i64 a0_0, .int .i64 a0_1, .bool a0_2, .bool a0_3, .slice A0_4 l0_4.length c0_4, .slice A0_5 l0_5.length c0_5, .slice A0_6 l0_6.length c0_6, .slice A0_7 l0_7.length c0_7, .int .i64 a0_8, .slice A0_9 l0_9.length c0_9, .string a0_10]) (t := 56) ?hr ?_; (case hd => rfl); (case hg => rfl); (case hr => first | (go_simp; done) | (go_simp; rfl)); intro gb399 hg w23 hbox hb; have BK399 := yD (hbox); have GW399 := yD ((by rw [hg]; exact (below_size (kB HB)) : w.heap.size ≤ gb399)); have GE399 := yD ((by rw [hg]; exact (below_size (kB HB)) : w.heap.size ≤ gb399)); replace HB := yD (zC (kB HB) hb); clear hb hbox hg) | ((with_reducible refine gate_dst (N := 3) rfl ?_); refine box_event ?hg (N := 3) ?hd (cs := #[.int .i64 a1_0, .int .i64 a1_1, .bool a1_2, .bool a1_3, .slice A1_4 l1_4.length c1_4, .slice A1_5 l1_5.length c1_5, .slice A1_6 l1_6.length c1_6, .slice A1_7 l1_7.length c1_7, .int .i64 a1_8, .slice A1_9 l1_9.length c1_9, .string a1_10]) (t := 56) ?hr ?_; (case hd => rfl); (case hg => rfl); (case hr => first | (go_simp; done) | (go_simp; rfl)); intro gb400 hg w24 hbox hb; have BK400 := yD (hbox); have GW400 := yD ((by rw [hg]; exact (below_size (kB HB)) : w.heap.size ≤ gb400)); have GE400 := yD ((by rw [hg]; exact (below_size (kB HB)) : w.heap.size ≤ gb400)); replace HB := yD (zC (kB HB) hb); have NB399_400 := yD ((by rw [hg]; exact Nat.ne_of_lt (blk_lt (kN BK399)) : gb399 ≠ gb400)); have NB400_399 := yD ((by rw [hg]; exact Nat.ne_of_gt (blk_lt (kN BK399)) : gb400 ≠ gb399)); replace BK399 := yD (zB (kN BK399) hb); clear hb hbox hg; have hnb25 := NB399_400.out; have hnc25 := NB400_399.out; obtain ⟨hcz26_0, hcz26_1, hcz26_2, hcz26_3, hcz26_4, hcz26_5, hcz26_6, hcz26_7, hcz26_8, hcz26_9, hcz26_10⟩ := cz11 BK399.out; obtain ⟨hfz26_0, hfz26_1, hfz26_2, hfz26_3, hfz26_4, hfz26_5, hfz26_6, hfz26_7, hfz26_8, hfz26_9, hfz26_10⟩ := fz11 BK399.out; obtain ⟨hcz27_0, hcz27_1, hcz27_2, hcz27_3, hcz27_4, hcz27_5, hcz27_6, hcz27_7, hcz27_8, hcz27_9, hcz27_10⟩ := cz11 BK400.out; obtain ⟨hfz27_0, hfz27_1, hfz27_2, hfz27_3, hfz27_4, hfz27_5, hfz27_6, hfz27_7, hfz27_8, hfz27_9, hfz27_10⟩ := fz11 BK400.out) | ((with_reducible refine gate_callee (f := 10) rfl ?_); refine gL 9 Try.func10 #[.agg #[.int .i64 a0_0, .int .i64 a0_1, .bool a0_2, .bool a0_3, .slice A0_4 l0_4.length c0_4, .slice A0_5 l0_5.length c0_5, .slice A0_6 l0_6.length c0_6, .slice A0_7 l0_7.length c0_7, .int .i64 a0_8], .agg #[.int .i64 a1_0, .int .i64 a1_1, .bool a1_2, .bool a1_3, .slice A1_4 l1_4.length c1_4, .slice A1_5 l1_5.length c1_5, .slice A1_6 l1_6.length c1_6, .slice A1_7 l1_7.length c1_7, .int .i64 a1_8]] ?_; (with_reducible refine (impl_SameType.calls k a0_0 a0_1 a0_2 a0_3 _ _ l0_4 _ _ l0_5 _ _ l0_6 _ _ l0_7 a0_8 a1_0 a1_1 a1_2 a1_3 _ _ l1_4 _ _ l1_5 _ _ l1_6 _ _ l1_7 a1_8 false _ ?side1 ?side2 ?side3 ?side4 ?side5 ?side6 ?side7 ?side8 ?side9 ?side10 ?side11 ?side12 ?side13 ?side14 ?side15 ?side16 A3.out).mono ?_); (case side1 => exact kV (yY HR0_4.out HB.out)); (case side2 => exact HC0_4.out); (case side3 => exact kV (yY HR0_5.out HB.out)); (case side4 => exact HC0_5.out); (case side5 => exact kV (yY HR0_6.out HB.out)); (case side6 => exact HC0_6.out); (case side7 => exact kV (yY HR0_7.out HB.out)); (case side8 => exact HC0_7.out); (case side9 => exact kV (yY HR1_4.out HB.out)); (case side10 => exact HC1_4.out); (case side11 => exact kV (yY HR1_5.out HB.out)); (case side12 => exact HC1_5.out); (case side13 => exact kV (yY HR1_6.out HB.out)); (case side14 => exact HC1_6.out); (case side15 => exact kV (yY HR1_7.out HB.out)); (case side16 => exact HC1_7.out); rintro e w28 ⟨rfl, hb⟩; refine ⟨_, rfl, ?_⟩; replace BK399 := yD (zB (kN BK399) hb); replace BK400 := yD (zB (kN BK400) hb); replace HB := yD (zC (kB HB) hb); clear hb))
  go_ret
  exact ⟨by first | rfl | (simp <;> rfl) | (simp [*] <;> rfl), kR0 HB⟩

/-! ### laws_eqStringS: function 44 -/
def laws_eqStringS.l0 : Nat → List ByteArray → List ByteArray → Int → Option (Bool)
 | 0, _, _, _ => none
 | k + 1, x0, x1, x5 => if x5 < (x0.length : Int) then (if 0 ≤ x5 then (if x5 < (x1.length : Int) then (if (rdOf ByteArray.empty x0 x5).toList = (rdOf ByteArray.empty x1 x5).toList then (laws_eqStringS.l0 k x0 x1 (wrap64 (x5 + 1))) else (some false)) else (none)) else (none)) else (some true)
def laws_eqStringS.f (k : Nat) (l0 : List ByteArray) (l1 : List ByteArray) : Option (Bool) := if (l0.length : Int) = (l1.length : Int) then (laws_eqStringS.l0 k l0 l1 0) else (some false)
set_option maxHeartbeats 8000000 in
set_option maxRecDepth 100000 in
theorem laws_eqStringS.calls (k : Nat) (A0 : Option Addr) (c0 : Nat) (l0 : List ByteArray) (A1 : Option Addr) (c1 : Nat) (l1 : List ByteArray) (r : Bool) (w : World) (hr0 : Kd.C Kd.string w A0 l0.length l0) (hc0 : l0.length ≤ c0) (hr1 : Kd.C Kd.string w A1 l1.length l1) (hc1 : l1.length ≤ c1) (h : laws_eqStringS.f k l0 l1 = some r) :
 Calls Try.prog 44 #[.slice A0 l0.length c0, .slice A1 l1.length c1] w fun e w' => e = .returned (.bool r) ∧ Drawn0 w w' := by
 have HR0 := yD hr0
 have HC0 := yD hc0
 clear hr0 hc0
 have HR1 := yD hr1
 have HC1 := yD hc1
 clear hr1 hc1
 have H : (if (l0.length : Int) = (l1.length : Int) then (laws_eqStringS.l0 k l0 l1 0) else (some false)) = some r := h
 clear h
 by_cases c3 : (l0.length : Int) = (l1.length : Int)
 ·
  rw [if_pos c3] at H
  have c3b0 : ((l0.length : Int) == (l1.length : Int)) = true := beq_iff_eq.mpr c3
  have c3b1 : ((l0.length : Int) != (l1.length : Int)) = false := bne_eq_false_iff_eq.mpr c3
  have c3b2 : (l0.length == l1.length) = true := by first | simpa using c3 | (simp at c3 ⊢; omega)
  clear c3
  have H' := yD H
  clear H; go_enter Try.func44, Try.ntmps44
  go_wp2
  repeat (go_quiet (fail); try go_wp2)
  go_loopg [5] k (fun kq v5 w' => ∃ (x5_1 : Int), v5 = .int .i64 x5_1 ∧ Aside0 (laws_eqStringS.l0 kq l0 l1 x5_1 = some r) ∧ Aside0 (kq ≤ k) ∧ Drawn0 w w')
  case atStart => exact ⟨(0), (by first | rfl | (simp; done) | (simp [*]; done)), H', ⟨Nat.le_refl _⟩, by repeat (first | exact Drawn0.refl _ | apply Drawn0.step)⟩
  case round =>
   clear H'
   try clear c1; try clear c3; try clear c3b0; try clear c3b1; try clear c3b2
   obtain ⟨x5_1, rfl, HA, HK1, ⟨m1, rfl⟩⟩ := hrel
   cases gk with
   | zero => exact absurd HA.out (by simp [laws_eqStringS.l0])
   | succ k1 =>
    have H := HA.out; clear HA
    simp only [laws_eqStringS.l0] at H
    by_cases c4 : x5_1 < (l0.length : Int)
    ·
     rw [if_pos c4] at H
     have c4b0 : decide (x5_1 < (l0.length : Int)) = true := zR c4; clear c4
     by_cases c5 : 0 ≤ x5_1
     ·
      rw [if_pos c5] at H
      have c5b0 : decide (0 ≤ x5_1) = true := zR c5; clear c5
      by_cases c6 : x5_1 < (l1.length : Int)
      ·
       rw [if_pos c6] at H
       have c6b0 : decide (x5_1 < (l1.length : Int)) = true := zR c6; clear c6
       by_cases c7 : (rdOf ByteArray.empty l0 x5_1).toList = (rdOf ByteArray.empty l1 x5_1).toList
       ·
        rw [if_pos c7] at H
        have c7b0 : ((rdOf ByteArray.empty l0 x5_1).toList == (rdOf ByteArray.empty l1 x5_1).toList) = true := beq_iff_eq.mpr c7
        have c7b1 : ((rdOf ByteArray.empty l0 x5_1).toList != (rdOf ByteArray.empty l1 x5_1).toList) = false := bne_eq_false_iff_eq.mpr c7
        clear c7
        have H' := yD H
        clear H
        have p403 : 0 ≤ (x5_1 : Int) := zP (by assumption)
        have q403 : x5_1 < (l0.length : Int) := zP (by assumption)
        obtain ⟨ad403, e403, hx403_0⟩ := Kd.at_string HR0.out x5_1 p403 q403
        cases e403; replace p403 := eq_true p403; replace q403 := eq_true q403
        have p404 : 0 ≤ (x5_1 : Int) := zP (by assumption)
        have q404 : x5_1 < (l1.length : Int) := zP (by assumption)
        obtain ⟨ad404, e404, hx404_0⟩ := Kd.at_string HR1.out x5_1 p404 q404
        cases e404; replace p404 := eq_true p404; replace q404 := eq_true q404
        go_wp2
        repeat (go_quiet (fail); try go_wp2)
        go_roundg k1
        case measure => have := HK1.out; omega
        case rel => exact ⟨(wrap64 (x5_1 + 1)), (by first | rfl | (simp; done) | (simp [*]; done)), H', ⟨by have := HK1.out; omega⟩, by repeat (first | exact Drawn0.refl _ | apply Drawn0.step)⟩
       ·
        rw [if_neg c7] at H
        have c7b0 : ((rdOf ByteArray.empty l0 x5_1).toList == (rdOf ByteArray.empty l1 x5_1).toList) = false := beq_eq_false_iff_ne.mpr c7
        have c7b1 : ((rdOf ByteArray.empty l0 x5_1).toList != (rdOf ByteArray.empty l1 x5_1).toList) = true := bne_iff_ne.mpr c7
        obtain rfl := Option.some.inj H
        have p403 : 0 ≤ (x5_1 : Int) := zP (by assumption)
        have q403 : x5_1 < (l0.length : Int) := zP (by assumption)
        obtain ⟨ad403, e403, hx403_0⟩ := Kd.at_string HR0.out x5_1 p403 q403
        cases e403; replace p403 := eq_true p403; replace q403 := eq_true q403
        have p404 : 0 ≤ (x5_1 : Int) := zP (by assumption)
        have q404 : x5_1 < (l1.length : Int) := zP (by assumption)
        obtain ⟨ad404, e404, hx404_0⟩ := Kd.at_string HR1.out x5_1 p404 q404
        cases e404; replace p404 := eq_true p404; replace q404 := eq_true q404
        go_wp2
        repeat (go_quiet (fail); try go_wp2)
        go_ret
        exact ⟨by first | rfl | (simp; done) | (simp [*]; done), by repeat (first | exact Drawn0.refl _ | apply Drawn0.step)⟩
      · rw [if_neg c6] at H
        exact absurd H (by simp)
     · rw [if_neg c5] at H
       exact absurd H (by simp)
    · rw [if_neg c4] at H
      have c4b0 : decide (x5_1 < (l0.length : Int)) = false := zS c4; clear c4; obtain rfl := Option.some.inj H
      go_wp2
      repeat (go_quiet (fail); try go_wp2)
      go_ret
      exact ⟨by first | rfl | (simp; done) | (simp [*]; done), by repeat (first | exact Drawn0.refl _ | apply Drawn0.step)⟩
 ·
  rw [if_neg c3] at H
  have c3b0 : ((l0.length : Int) == (l1.length : Int)) = false := beq_eq_false_iff_ne.mpr c3
  have c3b1 : ((l0.length : Int) != (l1.length : Int)) = true := bne_iff_ne.mpr c3
  have c3b2 : (l0.length == l1.length) = false := by first | simpa using c3 | (simp at c3 ⊢; omega)
  obtain rfl := Option.some.inj H; go_enter Try.func44, Try.ntmps44
  go_wp2
  repeat (go_quiet (fail); try go_wp2)
  go_ret
  exact ⟨by first | rfl | (simp; done) | (simp [*]; done), by repeat (first | exact Drawn0.refl _ | apply Drawn0.step)⟩

/-! ### laws_eqInt64S: function 45 -/
def laws_eqInt64S.l0 : Nat → List Int → List Int → Int → Option (Bool)
 | 0, _, _, _ => none
 | k + 1, x0, x1, x5 => if x5 < (x0.length : Int) then (if 0 ≤ x5 then (if x5 < (x1.length : Int) then (if (rd x0 x5) = (rd x1 x5) then (laws_eqInt64S.l0 k x0 x1 (wrap64 (x5 + 1))) else (some false)) else (none)) else (none)) else (some true)
def laws_eqInt64S.f (k : Nat) (l0 : List Int) (l1 : List Int) : Option (Bool) := if (l0.length : Int) = (l1.length : Int) then (laws_eqInt64S.l0 k l0 l1 0) else (some false)
set_option maxHeartbeats 8000000 in
set_option maxRecDepth 100000 in
theorem laws_eqInt64S.calls (k : Nat) (A0 : Option Addr) (c0 : Nat) (l0 : List Int) (A1 : Option Addr) (c1 : Nat) (l1 : List Int) (r : Bool) (w : World) (hr0 : Kd.C (Kd.int .i64) w A0 l0.length l0) (hc0 : l0.length ≤ c0) (hr1 : Kd.C (Kd.int .i64) w A1 l1.length l1) (hc1 : l1.length ≤ c1) (h : laws_eqInt64S.f k l0 l1 = some r) :
 Calls Try.prog 45 #[.slice A0 l0.length c0, .slice A1 l1.length c1] w fun e w' => e = .returned (.bool r) ∧ Drawn0 w w' := by
 have HR0 := yD hr0
 have HC0 := yD hc0
 clear hr0 hc0
 have HR1 := yD hr1
 have HC1 := yD hc1
 clear hr1 hc1
 have H : (if (l0.length : Int) = (l1.length : Int) then (laws_eqInt64S.l0 k l0 l1 0) else (some false)) = some r := h
 clear h
 by_cases c3 : (l0.length : Int) = (l1.length : Int)
 ·
  rw [if_pos c3] at H
  have c3b0 : ((l0.length : Int) == (l1.length : Int)) = true := beq_iff_eq.mpr c3
  have c3b1 : ((l0.length : Int) != (l1.length : Int)) = false := bne_eq_false_iff_eq.mpr c3
  have c3b2 : (l0.length == l1.length) = true := by first | simpa using c3 | (simp at c3 ⊢; omega)
  clear c3
  have H' := yD H
  clear H; go_enter Try.func45, Try.ntmps45
  go_wp2
  repeat (go_quiet (fail); try go_wp2)
  go_loopg [5] k (fun kq v5 w' => ∃ (x5_1 : Int), v5 = .int .i64 x5_1 ∧ Aside0 (laws_eqInt64S.l0 kq l0 l1 x5_1 = some r) ∧ Aside0 (kq ≤ k) ∧ Drawn0 w w')
  case atStart => exact ⟨(0), (by first | rfl | (simp; done) | (simp [*]; done)), H', ⟨Nat.le_refl _⟩, by repeat (first | exact Drawn0.refl _ | apply Drawn0.step)⟩
  case round =>
   clear H'
   try clear c1; try clear c3; try clear c3b0; try clear c3b1; try clear c3b2
   obtain ⟨x5_1, rfl, HA, HK1, ⟨m1, rfl⟩⟩ := hrel
   cases gk with
   | zero => exact absurd HA.out (by simp [laws_eqInt64S.l0])
   | succ k1 =>
    have H := HA.out; clear HA
    simp only [laws_eqInt64S.l0] at H
    by_cases c4 : x5_1 < (l0.length : Int)
    ·
     rw [if_pos c4] at H
     have c4b0 : decide (x5_1 < (l0.length : Int)) = true := zR c4; clear c4
     by_cases c5 : 0 ≤ x5_1
     ·
      rw [if_pos c5] at H
      have c5b0 : decide (0 ≤ x5_1) = true := zR c5; clear c5
      by_cases c6 : x5_1 < (l1.length : Int)
      ·
       rw [if_pos c6] at H
       have c6b0 : decide (x5_1 < (l1.length : Int)) = true := zR c6; clear c6
       by_cases c7 : (rd l0 x5_1) = (rd l1 x5_1)
       ·
        rw [if_pos c7] at H
        have c7b0 : ((rd l0 x5_1) == (rd l1 x5_1)) = true := beq_iff_eq.mpr c7
        have c7b1 : ((rd l0 x5_1) != (rd l1 x5_1)) = false := bne_eq_false_iff_eq.mpr c7
        clear c7
        have H' := yD H
        clear H
        have p405 : 0 ≤ (x5_1 : Int) := zP (by assumption)
        have q405 : x5_1 < (l0.length : Int) := zP (by assumption)
        obtain ⟨ad405, e405, hx405_0⟩ := Kd.at_int HR0.out x5_1 p405 q405
        cases e405; replace p405 := eq_true p405; replace q405 := eq_true q405
        have p406 : 0 ≤ (x5_1 : Int) := zP (by assumption)
        have q406 : x5_1 < (l1.length : Int) := zP (by assumption)
        obtain ⟨ad406, e406, hx406_0⟩ := Kd.at_int HR1.out x5_1 p406 q406
        cases e406; replace p406 := eq_true p406; replace q406 := eq_true q406
        go_wp2
        repeat (go_quiet (fail); try go_wp2)
        go_roundg k1
        case measure => have := HK1.out; omega
        case rel => exact ⟨(wrap64 (x5_1 + 1)), (by first | rfl | (simp; done) | (simp [*]; done)), H', ⟨by have := HK1.out; omega⟩, by repeat (first | exact Drawn0.refl _ | apply Drawn0.step)⟩
       ·
        rw [if_neg c7] at H
        have c7b0 : ((rd l0 x5_1) == (rd l1 x5_1)) = false := beq_eq_false_iff_ne.mpr c7
        have c7b1 : ((rd l0 x5_1) != (rd l1 x5_1)) = true := bne_iff_ne.mpr c7
        obtain rfl := Option.some.inj H
        have p405 : 0 ≤ (x5_1 : Int) := zP (by assumption)
        have q405 : x5_1 < (l0.length : Int) := zP (by assumption)
        obtain ⟨ad405, e405, hx405_0⟩ := Kd.at_int HR0.out x5_1 p405 q405
        cases e405; replace p405 := eq_true p405; replace q405 := eq_true q405
        have p406 : 0 ≤ (x5_1 : Int) := zP (by assumption)
        have q406 : x5_1 < (l1.length : Int) := zP (by assumption)
        obtain ⟨ad406, e406, hx406_0⟩ := Kd.at_int HR1.out x5_1 p406 q406
        cases e406; replace p406 := eq_true p406; replace q406 := eq_true q406
        go_wp2
        repeat (go_quiet (fail); try go_wp2)
        go_ret
        exact ⟨by first | rfl | (simp; done) | (simp [*]; done), by repeat (first | exact Drawn0.refl _ | apply Drawn0.step)⟩
      · rw [if_neg c6] at H
        exact absurd H (by simp)
     · rw [if_neg c5] at H
       exact absurd H (by simp)
    · rw [if_neg c4] at H
      have c4b0 : decide (x5_1 < (l0.length : Int)) = false := zS c4; clear c4; obtain rfl := Option.some.inj H
      go_wp2
      repeat (go_quiet (fail); try go_wp2)
      go_ret
      exact ⟨by first | rfl | (simp; done) | (simp [*]; done), by repeat (first | exact Drawn0.refl _ | apply Drawn0.step)⟩
 ·
  rw [if_neg c3] at H
  have c3b0 : ((l0.length : Int) == (l1.length : Int)) = false := beq_eq_false_iff_ne.mpr c3
  have c3b1 : ((l0.length : Int) != (l1.length : Int)) = true := bne_iff_ne.mpr c3
  have c3b2 : (l0.length == l1.length) = false := by first | simpa using c3 | (simp at c3 ⊢; omega)
  obtain rfl := Option.some.inj H; go_enter Try.func45, Try.ntmps45
  go_wp2
  repeat (go_quiet (fail); try go_wp2)
  go_ret
  exact ⟨by first | rfl | (simp; done) | (simp [*]; done), by repeat (first | exact Drawn0.refl _ | apply Drawn0.step)⟩

/-! ### laws_eqMember: function 64 -/
def laws_eqMember.f (Y_ : Int → Int → Bool → Bool → List ByteArray → List Int → List (S64) → List (S33) → Int → Int → Int → Bool → Bool → List ByteArray → List Int → List (S64) → List (S33) → Int → Option (Bool)) (k : Nat) (a0_0 : ByteArray) (a0_1 : Int) (a0_2 : Int) (a0_3 : Int) (a0_4 : Bool) (a0_5 : Bool) (l0_6 : List ByteArray) (l0_7 : List Int) (l0_8 : List (S64)) (l0_9 : List (S33)) (a0_10 : Int) (a1_0 : ByteArray) (a1_1 : Int) (a1_2 : Int) (a1_3 : Int) (a1_4 : Bool) (a1_5 : Bool) (l1_6 : List ByteArray) (l1_7 : List Int) (l1_8 : List (S64)) (l1_9 : List (S33)) (a1_10 : Int) : Option (Bool) := if a0_0.toList = a1_0.toList then (if a0_1 = a1_1 then ((Y_ a0_2 a0_3 a0_4 a0_5 l0_6 l0_7 l0_8 l0_9 a0_10 a1_2 a1_3 a1_4 a1_5 l1_6 l1_7 l1_8 l1_9 a1_10).bind fun t439 => (if t439 = true then (some true) else (some false))) else (some false)) else (some false)
set_option maxHeartbeats 8000000 in
set_option maxRecDepth 100000 in
theorem laws_eqMember.calls (Y_ : Int → Int → Bool → Bool → List ByteArray → List Int → List (S64) → List (S33) → Int → Int → Int → Bool → Bool → List ByteArray → List Int → List (S64) → List (S33) → Int → Option (Bool)) (HY_ : ∀ (a0_0 : Int) (a0_1 : Int) (a0_2 : Bool) (a0_3 : Bool) (A0_4 : Option Addr) (c0_4 : Nat) (l0_4 : List ByteArray) (A0_5 : Option Addr) (c0_5 : Nat) (l0_5 : List Int) (A0_6 : Option Addr) (c0_6 : Nat) (l0_6 : List (S64)) (A0_7 : Option Addr) (c0_7 : Nat) (l0_7 : List (S33)) (a0_8 : Int) (a1_0 : Int) (a1_1 : Int) (a1_2 : Bool) (a1_3 : Bool) (A1_4 : Option Addr) (c1_4 : Nat) (l1_4 : List ByteArray) (A1_5 : Option Addr) (c1_5 : Nat) (l1_5 : List Int) (A1_6 : Option Addr) (c1_6 : Nat) (l1_6 : List (S64)) (A1_7 : Option Addr) (c1_7 : Nat) (l1_7 : List (S33)) (a1_8 : Int) (r : Bool) (w : World) (hr0_4 : Kd.C Kd.string w A0_4 l0_4.length l0_4) (hc0_4 : l0_4.length ≤ c0_4) (hr0_5 : Kd.C (Kd.int .i64) w A0_5 l0_5.length l0_5) (hc0_5 : l0_5.length ≤ c0_5) (hr0_6 : Kd.C k64 w A0_6 l0_6.length l0_6) (hc0_6 : l0_6.length ≤ c0_6) (hr0_7 : Kd.C k33 w A0_7 l0_7.length l0_7) (hc0_7 : l0_7.length ≤ c0_7) (hr1_4 : Kd.C Kd.string w A1_4 l1_4.length l1_4) (hc1_4 : l1_4.length ≤ c1_4) (hr1_5 : Kd.C (Kd.int .i64) w A1_5 l1_5.length l1_5) (hc1_5 : l1_5.length ≤ c1_5) (hr1_6 : Kd.C k64 w A1_6 l1_6.length l1_6) (hc1_6 : l1_6.length ≤ c1_6) (hr1_7 : Kd.C k33 w A1_7 l1_7.length l1_7) (hc1_7 : l1_7.length ≤ c1_7) (h : Y_ a0_0 a0_1 a0_2 a0_3 l0_4 l0_5 l0_6 l0_7 a0_8 a1_0 a1_1 a1_2 a1_3 l1_4 l1_5 l1_6 l1_7 a1_8 = some r), Calls Try.prog 11 #[.agg #[.int .i64 a0_0, .int .i64 a0_1, .bool a0_2, .bool a0_3, .slice A0_4 l0_4.length c0_4, .slice A0_5 l0_5.length c0_5, .slice A0_6 l0_6.length c0_6, .slice A0_7 l0_7.length c0_7, .int .i64 a0_8], .agg #[.int .i64 a1_0, .int .i64 a1_1, .bool a1_2, .bool a1_3, .slice A1_4 l1_4.length c1_4, .slice A1_5 l1_5.length c1_5, .slice A1_6 l1_6.length c1_6, .slice A1_7 l1_7.length c1_7, .int .i64 a1_8]] w fun e w' => e = .returned (.bool r) ∧ Below w.heap.size w w') (k : Nat) (a0_0 : ByteArray) (a0_1 : Int) (a0_2 : Int) (a0_3 : Int) (a0_4 : Bool) (a0_5 : Bool) (A0_6 : Option Addr) (c0_6 : Nat) (l0_6 : List ByteArray) (A0_7 : Option Addr) (c0_7 : Nat) (l0_7 : List Int) (A0_8 : Option Addr) (c0_8 : Nat) (l0_8 : List (S64)) (A0_9 : Option Addr) (c0_9 : Nat) (l0_9 : List (S33)) (a0_10 : Int) (a1_0 : ByteArray) (a1_1 : Int) (a1_2 : Int) (a1_3 : Int) (a1_4 : Bool) (a1_5 : Bool) (A1_6 : Option Addr) (c1_6 : Nat) (l1_6 : List ByteArray) (A1_7 : Option Addr) (c1_7 : Nat) (l1_7 : List Int) (A1_8 : Option Addr) (c1_8 : Nat) (l1_8 : List (S64)) (A1_9 : Option Addr) (c1_9 : Nat) (l1_9 : List (S33)) (a1_10 : Int) (r : Bool) (w : World) (hr0_6 : Kd.C Kd.string w A0_6 l0_6.length l0_6) (hc0_6 : l0_6.length ≤ c0_6) (hr0_7 : Kd.C (Kd.int .i64) w A0_7 l0_7.length l0_7) (hc0_7 : l0_7.length ≤ c0_7) (hr0_8 : Kd.C k64 w A0_8 l0_8.length l0_8) (hc0_8 : l0_8.length ≤ c0_8) (hr0_9 : Kd.C k33 w A0_9 l0_9.length l0_9) (hc0_9 : l0_9.length ≤ c0_9) (hr1_6 : Kd.C Kd.string w A1_6 l1_6.length l1_6) (hc1_6 : l1_6.length ≤ c1_6) (hr1_7 : Kd.C (Kd.int .i64) w A1_7 l1_7.length l1_7) (hc1_7 : l1_7.length ≤ c1_7) (hr1_8 : Kd.C k64 w A1_8 l1_8.length l1_8) (hc1_8 : l1_8.length ≤ c1_8) (hr1_9 : Kd.C k33 w A1_9 l1_9.length l1_9) (hc1_9 : l1_9.length ≤ c1_9) (h : laws_eqMember.f Y_ k a0_0 a0_1 a0_2 a0_3 a0_4 a0_5 l0_6 l0_7 l0_8 l0_9 a0_10 a1_0 a1_1 a1_2 a1_3 a1_4 a1_5 l1_6 l1_7 l1_8 l1_9 a1_10 = some r) :
 Calls Try.prog 64 #[.agg #[.string a0_0, .int .i64 a0_1, .int .i64 a0_2, .int .i64 a0_3, .bool a0_4, .bool a0_5, .slice A0_6 l0_6.length c0_6, .slice A0_7 l0_7.length c0_7, .slice A0_8 l0_8.length c0_8, .slice A0_9 l0_9.length c0_9, .int .i64 a0_10], .agg #[.string a1_0, .int .i64 a1_1, .int .i64 a1_2, .int .i64 a1_3, .bool a1_4, .bool a1_5, .slice A1_6 l1_6.length c1_6, .slice A1_7 l1_7.length c1_7, .slice A1_8 l1_8.length c1_8, .slice A1_9 l1_9.length c1_9, .int .i64 a1_10]] w fun e w' => e = .returned (.bool r) ∧ Below w.heap.size w w' := by
 have hu64 := Try.underlying64; have hu33 := Try.underlying33
 have HR0_6 := yD hr0_6
 have HC0_6 := yD hc0_6
 clear hr0_6 hc0_6
 have HR0_7 := yD hr0_7
 have HC0_7 := yD hc0_7
 clear hr0_7 hc0_7
 have HR0_8 := yD hr0_8
 have HC0_8 := yD hc0_8
 clear hr0_8 hc0_8
 have HR0_9 := yD hr0_9
 have HC0_9 := yD hc0_9
 clear hr0_9 hc0_9
 have HR1_6 := yD hr1_6
 have HC1_6 := yD hc1_6
 clear hr1_6 hc1_6
 have HR1_7 := yD hr1_7
 have HC1_7 := yD hc1_7
 clear hr1_7 hc1_7
 have HR1_8 := yD hr1_8
 have HC1_8 := yD hc1_8
 clear hr1_8 hc1_8
 have HR1_9 := yD hr1_9
 have HC1_9 := yD hc1_9
 clear hr1_9 hc1_9
 have HB := yD (Below.refl w.heap.size w)
 have H : (if a0_0.toList = a1_0.toList then (if a0_1 = a1_1 then ((Y_ a0_2 a0_3 a0_4 a0_5 l0_6 l0_7 l0_8 l0_9 a0_10 a1_2 a1_3 a1_4 a1_5 l1_6 l1_7 l1_8 l1_9 a1_10).bind fun t439 => (if t439 = true then (some true) else (some false))) else (some false)) else (some false)) = some r := h
 clear h
 by_cases c3 : a0_0.toList = a1_0.toList
 ·
  rw [if_pos c3] at H
  have c3b0 : (a0_0.toList == a1_0.toList) = true := beq_iff_eq.mpr c3
  have c3b1 : (a0_0.toList != a1_0.toList) = false := bne_eq_false_iff_eq.mpr c3
  clear c3
  by_cases c4 : a0_1 = a1_1
  ·
   rw [if_pos c4] at H
   have c4b0 : (a0_1 == a1_1) = true := beq_iff_eq.mpr c4
   have c4b1 : (a0_1 != a1_1) = false := bne_eq_false_iff_eq.mpr c4
   clear c4
   obtain ⟨t439, A50, H⟩ := zW_ H
   replace H : (if t439 = true then (some true) else (some false)) = some r := H
   have A5 := yD A50
   clear A50
   by_cases c6 : t439 = true
   · subst c6
     replace H : (some true) = some r := (by rw [if_pos rfl] at H; exact H); obtain rfl := Option.some.inj H; go_enter Try.func64, Try.ntmps64
     go_wp2_with (first | ((with_reducible refine gate_dst (N := 2) rfl ?_); refine box_event ?hg (N := 2) ?hd (cs := #[.string a0_0, .int .i64 a0_1, .int .i64 a0_2, .int .i64 a0_3, .bool a0_4, .bool a0_5, .slice A0_6 l0_6.length c0_6, .slice A0_7 l0_7.length c0_7, .slice A0_8 l0_8.length c0_8, .slice A0_9 l0_9.length c0_9, .int .i64 a0_10]) (t := 64) ?hr ?_; (case hd => rfl); (case hg => rfl); (case hr => first | (go_simp; done) | (go_simp; rfl)); intro gb437 hg w7 hbox hb; have BK437 := yD (hbox); have GW437 := yD ((by rw [hg]; exact (below_size (kB HB)) : w.heap.size ≤ gb437)); have GE437 := yD ((by rw [hg]; exact (below_size (kB HB)) : w.heap.size ≤ gb437)); replace HB := yD (zC (kB HB) hb); clear hb hbox hg) | ((with_reducible refine gate_dst (N := 3) rfl ?_); refine box_event ?hg (N := 3) ?hd (cs := #[.string a1_0, .int .i64 a1_1, .int .i64 a1_2, .int .i64 a1_3, .bool a1_4, .bool a1_5, .slice A1_6 l1_6.length c1_6, .slice A1_7 l1_7.length c1_7, .slice A1_8 l1_8.length c1_8, .slice A1_9 l1_9.length c1_9, .int .i64 a1_10]) (t := 64) ?hr ?_; (case hd => rfl); (case hg => rfl); (case hr => first | (go_simp; done) | (go_simp; rfl)); intro gb438 hg w8 hbox hb; have BK438 := yD (hbox); have GW438 := yD ((by rw [hg]; exact (below_size (kB HB)) : w.heap.size ≤ gb438)); have GE438 := yD ((by rw [hg]; exact (below_size (kB HB)) : w.heap.size ≤ gb438)); replace HB := yD (zC (kB HB) hb); have NB437_438 := yD ((by rw [hg]; exact Nat.ne_of_lt (blk_lt (kN BK437)) : gb437 ≠ gb438)); have NB438_437 := yD ((by rw [hg]; exact Nat.ne_of_gt (blk_lt (kN BK437)) : gb438 ≠ gb437)); replace BK437 := yD (zB (kN BK437) hb); clear hb hbox hg; have hnb9 := NB437_438.out; have hnc9 := NB438_437.out; obtain ⟨hcz10_0, hcz10_1, hcz10_2, hcz10_3, hcz10_4, hcz10_5, hcz10_6, hcz10_7, hcz10_8, hcz10_9, hcz10_10⟩ := cz11 BK437.out; obtain ⟨hfz10_0, hfz10_1, hfz10_2, hfz10_3, hfz10_4, hfz10_5, hfz10_6, hfz10_7, hfz10_8, hfz10_9, hfz10_10⟩ := fz11 BK437.out; obtain ⟨hcz11_0, hcz11_1, hcz11_2, hcz11_3, hcz11_4, hcz11_5, hcz11_6, hcz11_7, hcz11_8, hcz11_9, hcz11_10⟩ := cz11 BK438.out; obtain ⟨hfz11_0, hfz11_1, hfz11_2, hfz11_3, hfz11_4, hfz11_5, hfz11_6, hfz11_7, hfz11_8, hfz11_9, hfz11_10⟩ := fz11 BK438.out) | ((with_reducible refine gate_callee (f := 11) rfl ?_); refine gL 19 Try.func11 #[.agg #[.int .i64 a0_2, .int .i64 a0_3, .bool a0_4, .bool a0_5, .slice A0_6 l0_6.length c0_6, .slice A0_7 l0_7.length c0_7, .slice A0_8 l0_8.length c0_8, .slice A0_9 l0_9.length c0_9, .int .i64 a0_10], .agg #[.int .i64 a1_2, .int .i64 a1_3, .bool a1_4, .bool a1_5, .slice A1_6 l1_6.length c1_6, .slice A1_7 l1_7.length c1_7, .slice A1_8 l1_8.length c1_8, .slice A1_9 l1_9.length c1_9, .int .i64 a1_10]] ?_; (with_reducible refine (HY_ a0_2 a0_3 a0_4 a0_5 _ _ l0_6 _ _ l0_7 _ _ l0_8 _ _ l0_9 a0_10 a1_2 a1_3 a1_4 a1_5 _ _ l1_6 _ _ l1_7 _ _ l1_8 _ _ l1_9 a1_10 true _ ?side1 ?side2 ?side3 ?side4 ?side5 ?side6 ?side7 ?side8 ?side9 ?side10 ?side11 ?side12 ?side13 ?side14 ?side15 ?side16 A5.out).mono ?_); (case side1 => exact kV (yY HR0_6.out HB.out)); (case side2 => exact HC0_6.out); (case side3 => exact kV (yY HR0_7.out HB.out)); (case side4 => exact HC0_7.out); (case side5 => exact kV (yY HR0_8.out HB.out)); (case side6 => exact HC0_8.out); (case side7 => exact kV (yY HR0_9.out HB.out)); (case side8 => exact HC0_9.out); (case side9 => exact kV (yY HR1_6.out HB.out)); (case side10 => exact HC1_6.out); (case side11 => exact kV (yY HR1_7.out HB.out)); (case side12 => exact HC1_7.out); (case side13 => exact kV (yY HR1_8.out HB.out)); (case side14 => exact HC1_8.out); (case side15 => exact kV (yY HR1_9.out HB.out)); (case side16 => exact HC1_9.out); rintro e w12 ⟨rfl, hb⟩; refine ⟨_, rfl, ?_⟩; replace BK437 := yD (zB (kN BK437) hb); replace BK438 := yD (zB (kN BK438) hb); replace HB := yD (zC (kB HB) hb); clear hb))
     go_ret
     exact ⟨by first | rfl | (simp <;> rfl) | (simp [*] <;> rfl), kR0 HB⟩
   · replace c6 := Bool.eq_false_iff.mpr c6
     subst c6
     replace H : (some false) = some r := (by rw [if_neg (show ¬ (false = true) by decide)] at H; exact H); obtain rfl := Option.some.inj H; go_enter Try.func64, Try.ntmps64
     go_wp2_with (first | ((with_reducible refine gate_dst (N := 2) rfl ?_); refine box_event ?hg (N := 2) ?hd (cs := #[.string a0_0, .int .i64 a0_1, .int .i64 a0_2, .int .i64 a0_3, .bool a0_4, .bool a0_5, .slice A0_6 l0_6.length c0_6, .slice A0_7 l0_7.length c0_7, .slice A0_8 l0_8.length c0_8, .slice A0_9 l0_9.length c0_9, .int .i64 a0_10]) (t := 64) ?hr ?_; (case hd => rfl); (case hg => rfl); (case hr => first | (go_simp; done) | (go_simp; rfl)); intro gb437 hg w13 hbox hb; have BK437 := yD (hbox); have GW437 := yD ((by rw [hg]; exact (below_size (kB HB)) : w.heap.size ≤ gb437)); have GE437 := yD ((by rw [hg]; exact (below_size (kB HB)) : w.heap.size ≤ gb437)); replace HB := yD (zC (kB HB) hb); clear hb hbox hg) | ((with_reducible refine gate_dst (N := 3) rfl ?_); refine box_event ?hg (N := 3) ?hd (cs := #[.string a1_0, .int .i64 a1_1, .int .i64 a1_2, .int .i64 a1_3, .bool a1_4, .bool a1_5, .slice A1_6 l1_6.length c1_6, .slice A1_7 l1_7.length c1_7, .slice A1_8 l1_8.length c1_8, .slice A1_9 l1_9.length c1_9, .int .i64 a1_10]) (t := 64) ?hr ?_; (case hd => rfl); (case hg => rfl); (case hr => first | (go_simp; done) | (go_simp; rfl)); intro gb438 hg w14 hbox hb; have BK438 := yD (hbox); have GW438 := yD ((by rw [hg]; exact (below_size (kB HB)) : w.heap.size ≤ gb438)); have GE438 := yD ((by rw [hg]; exact (below_size (kB HB)) : w.heap.size ≤ gb438)); replace HB := yD (zC (kB HB) hb); have NB437_438 := yD ((by rw [hg]; exact Nat.ne_of_lt (blk_lt (kN BK437)) : gb437 ≠ gb438)); have NB438_437 := yD ((by rw [hg]; exact Nat.ne_of_gt (blk_lt (kN BK437)) : gb438 ≠ gb437)); replace BK437 := yD (zB (kN BK437) hb); clear hb hbox hg; have hnb15 := NB437_438.out; have hnc15 := NB438_437.out; obtain ⟨hcz16_0, hcz16_1, hcz16_2, hcz16_3, hcz16_4, hcz16_5, hcz16_6, hcz16_7, hcz16_8, hcz16_9, hcz16_10⟩ := cz11 BK437.out; obtain ⟨hfz16_0, hfz16_1, hfz16_2, hfz16_3, hfz16_4, hfz16_5, hfz16_6, hfz16_7, hfz16_8, hfz16_9, hfz16_10⟩ := fz11 BK437.out; obtain ⟨hcz17_0, hcz17_1, hcz17_2, hcz17_3, hcz17_4, hcz17_5, hcz17_6, hcz17_7, hcz17_8, hcz17_9, hcz17_10⟩ := cz11 BK438.out; obtain ⟨hfz17_0, hfz17_1, hfz17_2, hfz17_3, hfz17_4, hfz17_5, hfz17_6, hfz17_7, hfz17_8, hfz17_9, hfz17_10⟩ := fz11 BK438.out) | ((with_reducible refine gate_callee (f := 11) rfl ?_); refine gL 19 Try.func11 #[.agg #[.int .i64 a0_2, .int .i64 a0_3, .bool a0_4, .bool a0_5, .slice A0_6 l0_6.length c0_6, .slice A0_7 l0_7.length c0_7, .slice A0_8 l0_8.length c0_8, .slice A0_9 l0_9.length c0_9, .int .i64 a0_10], .agg #[.int .i64 a1_2, .int .i64 a1_3, .bool a1_4, .bool a1_5, .slice A1_6 l1_6.length c1_6, .slice A1_7 l1_7.length c1_7, .slice A1_8 l1_8.length c1_8, .slice A1_9 l1_9.length c1_9, .int .i64 a1_10]] ?_; (with_reducible refine (HY_ a0_2 a0_3 a0_4 a0_5 _ _ l0_6 _ _ l0_7 _ _ l0_8 _ _ l0_9 a0_10 a1_2 a1_3 a1_4 a1_5 _ _ l1_6 _ _ l1_7 _ _ l1_8 _ _ l1_9 a1_10 false _ ?side1 ?side2 ?side3 ?side4 ?side5 ?side6 ?side7 ?side8 ?side9 ?side10 ?side11 ?side12 ?side13 ?side14 ?side15 ?side16 A5.out).mono ?_); (case side1 => exact kV (yY HR0_6.out HB.out)); (case side2 => exact HC0_6.out); (case side3 => exact kV (yY HR0_7.out HB.out)); (case side4 => exact HC0_7.out); (case side5 => exact kV (yY HR0_8.out HB.out)); (case side6 => exact HC0_8.out); (case side7 => exact kV (yY HR0_9.out HB.out)); (case side8 => exact HC0_9.out); (case side9 => exact kV (yY HR1_6.out HB.out)); (case side10 => exact HC1_6.out); (case side11 => exact kV (yY HR1_7.out HB.out)); (case side12 => exact HC1_7.out); (case side13 => exact kV (yY HR1_8.out HB.out)); (case side14 => exact HC1_8.out); (case side15 => exact kV (yY HR1_9.out HB.out)); (case side16 => exact HC1_9.out); rintro e w18 ⟨rfl, hb⟩; refine ⟨_, rfl, ?_⟩; replace BK437 := yD (zB (kN BK437) hb); replace BK438 := yD (zB (kN BK438) hb); replace HB := yD (zC (kB HB) hb); clear hb))
     go_ret
     exact ⟨by first | rfl | (simp <;> rfl) | (simp [*] <;> rfl), kR0 HB⟩
  ·
   rw [if_neg c4] at H
   have c4b0 : (a0_1 == a1_1) = false := beq_eq_false_iff_ne.mpr c4
   have c4b1 : (a0_1 != a1_1) = true := bne_iff_ne.mpr c4
   obtain rfl := Option.some.inj H; go_enter Try.func64, Try.ntmps64
   go_wp2_with (first | ((with_reducible refine gate_dst (N := 2) rfl ?_); refine box_event ?hg (N := 2) ?hd (cs := #[.string a0_0, .int .i64 a0_1, .int .i64 a0_2, .int .i64 a0_3, .bool a0_4, .bool a0_5, .slice A0_6 l0_6.length c0_6, .slice A0_7 l0_7.length c0_7, .slice A0_8 l0_8.length c0_8, .slice A0_9 l0_9.length c0_9, .int .i64 a0_10]) (t := 64) ?hr ?_; (case hd => rfl); (case hg => rfl); (case hr => first | (go_simp; done) | (go_simp; rfl)); intro gb437 hg w19 hbox hb; have BK437 := yD (hbox); have GW437 := yD ((by rw [hg]; exact (below_size (kB HB)) : w.heap.size ≤ gb437)); have GE437 := yD ((by rw [hg]; exact (below_size (kB HB)) : w.heap.size ≤ gb437)); replace HB := yD (zC (kB HB) hb); clear hb hbox hg) | ((with_reducible refine gate_dst (N := 3) rfl ?_); refine box_event ?hg (N := 3) ?hd (cs := #[.string a1_0, .int .i64 a1_1, .int .i64 a1_2, .int .i64 a1_3, .bool a1_4, .bool a1_5, .slice A1_6 l1_6.length c1_6, .slice A1_7 l1_7.length c1_7, .slice A1_8 l1_8.length c1_8, .slice A1_9 l1_9.length c1_9, .int .i64 a1_10]) (t := 64) ?hr ?_; (case hd => rfl); (case hg => rfl); (case hr => first | (go_simp; done) | (go_simp; rfl)); intro gb438 hg w20 hbox hb; have BK438 := yD (hbox); have GW438 := yD ((by rw [hg]; exact (below_size (kB HB)) : w.heap.size ≤ gb438)); have GE438 := yD ((by rw [hg]; exact (below_size (kB HB)) : w.heap.size ≤ gb438)); replace HB := yD (zC (kB HB) hb); have NB437_438 := yD ((by rw [hg]; exact Nat.ne_of_lt (blk_lt (kN BK437)) : gb437 ≠ gb438)); have NB438_437 := yD ((by rw [hg]; exact Nat.ne_of_gt (blk_lt (kN BK437)) : gb438 ≠ gb437)); replace BK437 := yD (zB (kN BK437) hb); clear hb hbox hg; have hnb21 := NB437_438.out; have hnc21 := NB438_437.out; obtain ⟨hcz22_0, hcz22_1, hcz22_2, hcz22_3, hcz22_4, hcz22_5, hcz22_6, hcz22_7, hcz22_8, hcz22_9, hcz22_10⟩ := cz11 BK437.out; obtain ⟨hfz22_0, hfz22_1, hfz22_2, hfz22_3, hfz22_4, hfz22_5, hfz22_6, hfz22_7, hfz22_8, hfz22_9, hfz22_10⟩ := fz11 BK437.out; obtain ⟨hcz23_0, hcz23_1, hcz23_2, hcz23_3, hcz23_4, hcz23_5, hcz23_6, hcz23_7, hcz23_8, hcz23_9, hcz23_10⟩ := cz11 BK438.out; obtain ⟨hfz23_0, hfz23_1, hfz23_2, hfz23_3, hfz23_4, hfz23_5, hfz23_6, hfz23_7, hfz23_8, hfz23_9, hfz23_10⟩ := fz11 BK438.out))
   go_ret
   exact ⟨by first | rfl | (simp <;> rfl) | (simp [*] <;> rfl), kR0 HB⟩
 ·
  rw [if_neg c3] at H
  have c3b0 : (a0_0.toList == a1_0.toList) = false := beq_eq_false_iff_ne.mpr c3
  have c3b1 : (a0_0.toList != a1_0.toList) = true := bne_iff_ne.mpr c3
  obtain rfl := Option.some.inj H; go_enter Try.func64, Try.ntmps64
  go_wp2_with (first | ((with_reducible refine gate_dst (N := 2) rfl ?_); refine box_event ?hg (N := 2) ?hd (cs := #[.string a0_0, .int .i64 a0_1, .int .i64 a0_2, .int .i64 a0_3, .bool a0_4, .bool a0_5, .slice A0_6 l0_6.length c0_6, .slice A0_7 l0_7.length c0_7, .slice A0_8 l0_8.length c0_8, .slice A0_9 l0_9.length c0_9, .int .i64 a0_10]) (t := 64) ?hr ?_; (case hd => rfl); (case hg => rfl); (case hr => first | (go_simp; done) | (go_simp; rfl)); intro gb437 hg w24 hbox hb; have BK437 := yD (hbox); have GW437 := yD ((by rw [hg]; exact (below_size (kB HB)) : w.heap.size ≤ gb437)); have GE437 := yD ((by rw [hg]; exact (below_size (kB HB)) : w.heap.size ≤ gb437)); replace HB := yD (zC (kB HB) hb); clear hb hbox hg) | ((with_reducible refine gate_dst (N := 3) rfl ?_); refine box_event ?hg (N := 3) ?hd (cs := #[.string a1_0, .int .i64 a1_1, .int .i64 a1_2, .int .i64 a1_3, .bool a1_4, .bool a1_5, .slice A1_6 l1_6.length c1_6, .slice A1_7 l1_7.length c1_7, .slice A1_8 l1_8.length c1_8, .slice A1_9 l1_9.length c1_9, .int .i64 a1_10]) (t := 64) ?hr ?_; (case hd => rfl); (case hg => rfl); (case hr => first | (go_simp; done) | (go_simp; rfl)); intro gb438 hg w25 hbox hb; have BK438 := yD (hbox); have GW438 := yD ((by rw [hg]; exact (below_size (kB HB)) : w.heap.size ≤ gb438)); have GE438 := yD ((by rw [hg]; exact (below_size (kB HB)) : w.heap.size ≤ gb438)); replace HB := yD (zC (kB HB) hb); have NB437_438 := yD ((by rw [hg]; exact Nat.ne_of_lt (blk_lt (kN BK437)) : gb437 ≠ gb438)); have NB438_437 := yD ((by rw [hg]; exact Nat.ne_of_gt (blk_lt (kN BK437)) : gb438 ≠ gb437)); replace BK437 := yD (zB (kN BK437) hb); clear hb hbox hg; have hnb26 := NB437_438.out; have hnc26 := NB438_437.out; obtain ⟨hcz27_0, hcz27_1, hcz27_2, hcz27_3, hcz27_4, hcz27_5, hcz27_6, hcz27_7, hcz27_8, hcz27_9, hcz27_10⟩ := cz11 BK437.out; obtain ⟨hfz27_0, hfz27_1, hfz27_2, hfz27_3, hfz27_4, hfz27_5, hfz27_6, hfz27_7, hfz27_8, hfz27_9, hfz27_10⟩ := fz11 BK437.out; obtain ⟨hcz28_0, hcz28_1, hcz28_2, hcz28_3, hcz28_4, hcz28_5, hcz28_6, hcz28_7, hcz28_8, hcz28_9, hcz28_10⟩ := cz11 BK438.out; obtain ⟨hfz28_0, hfz28_1, hfz28_2, hfz28_3, hfz28_4, hfz28_5, hfz28_6, hfz28_7, hfz28_8, hfz28_9, hfz28_10⟩ := fz11 BK438.out))
  go_ret
  exact ⟨by first | rfl | (simp <;> rfl) | (simp [*] <;> rfl), kR0 HB⟩

end Go.Proofs.Ytfblodggimjoaaa.PFnExactSameArray
