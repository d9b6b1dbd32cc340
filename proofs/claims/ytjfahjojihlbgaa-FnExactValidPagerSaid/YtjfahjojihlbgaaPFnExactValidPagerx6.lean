/- Each Go function here comes to what the plain function of its name says, where that says something. Made by a program of this session, over the print. -/
import Derived.Test.YtjfahjojihlbgaaPFnExactValidPagerx0
import Derived.Test.YtjfahjojihlbgaaPFnExactValidPagerx5
namespace Go.Proofs.Ytjfahjojihlbgaa.PFnExactValidPager
open Go.RowKit Go.Proofs.YtjfahjojihlbgaaW.PrintWords Go.Proofs.YtjfahjojihlbgaaW.PrintLast Go.Proofs.YtjfahjojihlbgaaW.PrintMore
attribute [local go_sem] max2_int min2_int max_two min_two max_three min_three max_four min_four   -- for this text's walks alone
set_option linter.unusedVariables false
set_option linter.unusedSimpArgs false

/-! ### spec_ValidPager: function 15 -/
def spec_ValidPager.f (k : Nat) (l0_0 : List ByteArray) (l0_1 : List (S58)) (a0_2 : Int) (a0_3 : Bool) (a0_4 : Int) (a0_5 : Int) (a0_6 : Int) (a0_7 : Int) (a0_8 : Int) (a0_9 : Int) (l0_10 : List (S96)) (l0_11 : List (S96)) : Option (Bool) := (spec_l12Ok_c48.f k l0_0 l0_1 a0_2 a0_3 a0_4 a0_5 a0_6 a0_7 a0_8 a0_9 l0_10 l0_11).bind fun t209 => (some t209)
theorem spec_ValidPager.mono : ∀ a0 a1 a2 a3 a4 a5 a6 a7 a8 a9 a10 a11 k, LeO (spec_ValidPager.f k a0 a1 a2 a3 a4 a5 a6 a7 a8 a9 a10 a11) (spec_ValidPager.f (k + 1) a0 a1 a2 a3 a4 a5 a6 a7 a8 a9 a10 a11) := by
  intro a0 a1 a2 a3 a4 a5 a6 a7 a8 a9 a10 a11 k
  unfold spec_ValidPager.f
  repeat' first
      | (with_reducible exact spec_l12Ok_c48.mono _ _ _ _ _ _ _ _ _ _ _ _ _)
      | (with_reducible exact LeO.refl _)
      | (with_reducible exact LeO.none _)
      | (with_reducible refine LeO.ite ?_ ?_)
      | (with_reducible refine LeO.bind ?_ (fun _ => ?_))
      | exact spec_l12Ok_c48.mono _ _ _ _ _ _ _ _ _ _ _ _ _
      | exact LeO.none _
      | refine LeO.ite ?_ ?_
      | refine LeO.bind ?_ (fun _ => ?_)
set_option maxHeartbeats 8000000 in
set_option maxRecDepth 100000 in
theorem spec_ValidPager.calls (k : Nat) (A0_0 : Option Addr) (c0_0 : Nat) (l0_0 : List ByteArray) (A0_1 : Option Addr) (c0_1 : Nat) (l0_1 : List (S58)) (a0_2 : Int) (a0_3 : Bool) (a0_4 : Int) (a0_5 : Int) (a0_6 : Int) (a0_7 : Int) (a0_8 : Int) (a0_9 : Int) (A0_10 : Option Addr) (c0_10 : Nat) (l0_10 : List (S96)) (A0_11 : Option Addr) (c0_11 : Nat) (l0_11 : List (S96)) (r : Bool) (w : World) (hr0_0 : Kd.C Kd.string w A0_0 l0_0.length l0_0) (hc0_0 : l0_0.length ≤ c0_0) (hr0_1 : Kd.C k58 w A0_1 l0_1.length l0_1) (hc0_1 : l0_1.length ≤ c0_1) (hr0_10 : Kd.C k96 w A0_10 l0_10.length l0_10) (hc0_10 : l0_10.length ≤ c0_10) (hr0_11 : Kd.C k96 w A0_11 l0_11.length l0_11) (hc0_11 : l0_11.length ≤ c0_11) (h : spec_ValidPager.f k l0_0 l0_1 a0_2 a0_3 a0_4 a0_5 a0_6 a0_7 a0_8 a0_9 l0_10 l0_11 = some r) :
    Calls Try.prog 15 #[.agg #[.slice A0_0 l0_0.length c0_0, .slice A0_1 l0_1.length c0_1, .int .i64 a0_2, .bool a0_3, .int .i64 a0_4, .int .i64 a0_5, .int .i64 a0_6, .int .i64 a0_7, .int .i64 a0_8, .int .i64 a0_9, .slice A0_10 l0_10.length c0_10, .slice A0_11 l0_11.length c0_11]] w fun e w' => e = .returned (.bool r) ∧ Below w.heap.size w w' := by
  have hu48 := Try.underlying48
  have HR0_0 := yD hr0_0
  have HC0_0 := yD hc0_0
  clear hr0_0 hc0_0
  have HR0_1 := yD hr0_1
  have HC0_1 := yD hc0_1
  clear hr0_1 hc0_1
  have HR0_10 := yD hr0_10
  have HC0_10 := yD hc0_10
  clear hr0_10 hc0_10
  have HR0_11 := yD hr0_11
  have HC0_11 := yD hc0_11
  clear hr0_11 hc0_11
  have HB := yD (Below.refl w.heap.size w)
  have H : ((spec_l12Ok_c48.f k l0_0 l0_1 a0_2 a0_3 a0_4 a0_5 a0_6 a0_7 a0_8 a0_9 l0_10 l0_11).bind fun t209 => (some t209)) = some r := h
  clear h
  obtain ⟨t209, A20, H⟩ := zW_ H
  replace H : (some t209) = some r := H
  have A2 := yD A20
  clear A20; obtain rfl := Option.some.inj H; go_enter Try.func15, Try.ntmps15
  go_wp2_with (first | ((with_reducible refine gate_dst (N := 1) rfl ?_); refine box_event ?hg (N := 1) ?hd (cs := #[.slice A0_0 l0_0.length c0_0, .slice A0_1 l0_1.length c0_1, .int .i64 a0_2, .bool a0_3, .int .i64 a0_4, .int .i64 a0_5, .int .i64 a0_6, .int .i64 a0_7, .int .i64 a0_8, .int .i64 a0_9, .slice A0_10 l0_10.length c0_10, .slice A0_11 l0_11.length c0_11]) (t := 48) ?hr ?_; (case hd => rfl); (case hg => rfl); (case hr => first | (go_simp; done) | (go_simp; rfl)); intro gb208 hg w3 hbox hb; have n0_ := yD (zC (by repeat (first | (with_reducible first | exact HB.out | apply yQ | apply yL | apply yP) | exact HB.out)) hb); have n1_ := yD (hbox); have n2_ := yD ((by rw [hg]; exact (below_size (by repeat (first | (with_reducible first | exact HB.out | apply yQ | apply yL | apply yP) | exact HB.out))) : w.heap.size ≤ gb208)); have n3_ := yD ((by rw [hg]; exact (below_size (by repeat (first | (with_reducible first | exact HB.out | apply yQ | apply yL | apply yP) | exact HB.out))) : w.heap.size ≤ gb208)); clear HB; have HB := n0_; have BK208 := n1_; have GW208 := n2_; have GE208 := n3_; clear n0_ n1_ n2_ n3_; clear hb hbox hg) | ((with_reducible refine gate_callee (f := 33) rfl ?_); refine goesL_ (some 3) rfl rfl Try.func33 (by kernel_rfl) rfl #[.pointer (some ⟨gb208, 0, none⟩)] rfl (by (try simp only [zK, zL, zM]); first | done | rfl | (simp only [zN, zO]; rfl)) ?_; (with_reducible refine (spec_l12Ok_c48.calls k gb208 A0_0 c0_0 l0_0 A0_1 c0_1 l0_1 a0_2 a0_3 a0_4 a0_5 a0_6 a0_7 a0_8 a0_9 A0_10 c0_10 l0_10 A0_11 c0_11 l0_11 t209 _ ?side1 ?side2 ?side3 ?side4 ?side5 ?side6 ?side7 ?side8 ?side9 A2.out).mono ?_); (case side1 => repeat (first | exact (yY HR0_0.out HB.out) | (with_reducible first | refine yV ?_ _ | refine yW ?_ _ | refine yX ?_))); (case side2 => exact HC0_0.out); (case side3 => repeat (first | exact (yY HR0_1.out HB.out) | (with_reducible first | refine yV ?_ _ | refine yW ?_ _ | refine yX ?_))); (case side4 => exact HC0_1.out); (case side5 => repeat (first | exact (yY HR0_10.out HB.out) | (with_reducible first | refine yV ?_ _ | refine yW ?_ _ | refine yX ?_))); (case side6 => exact HC0_10.out); (case side7 => repeat (first | exact (yY HR0_11.out HB.out) | (with_reducible first | refine yV ?_ _ | refine yW ?_ _ | refine yX ?_))); (case side8 => exact HC0_11.out); (case side9 => (with_reducible repeat (first | refine yM ?_ _ | refine yO ?_ | refine yN ?_ _)); exact BK208.out); rintro e w4 ⟨rfl, hb⟩; refine ⟨_, rfl, ?_⟩; have n0_ := yD (zB (g := gb208) (o := .cells #[.slice A0_0 l0_0.length c0_0, .slice A0_1 l0_1.length c0_1, .int .i64 a0_2, .bool a0_3, .int .i64 a0_4, .int .i64 a0_5, .int .i64 a0_6, .int .i64 a0_7, .int .i64 a0_8, .int .i64 a0_9, .slice A0_10 l0_10.length c0_10, .slice A0_11 l0_11.length c0_11] 48 (0, 0)) (by (with_reducible repeat (first | refine yM ?_ _ | refine yO ?_ | refine yN ?_ _)); exact BK208.out) hb); have n1_ := yD (zC (by repeat (first | (with_reducible first | exact HB.out | apply yQ | apply yL | apply yP | refine yE ?_ GE208.out) | exact HB.out)) hb); clear BK208; clear HB; have BK208 := n0_; have HB := n1_; clear n0_ n1_; (try clear hb); (try clear hb2); (try clear hk); (try clear hi)))
  go_ret
  exact ⟨by first | rfl | (simp <;> rfl) | (simp [*] <;> rfl), by repeat (first | (with_reducible first | exact HB.out | apply yQ | apply yL | apply yP | refine yE ?_ GE208.out) | exact HB.out)⟩

/-! ### impl_within: function 37 -/
def impl_within.f (a0 : Int) (a1 : Int) (a2 : Int) : Option (Bool) := if a0 ≥ a1 then (some (decide (a0 ≤ a2))) else (some false)
set_option maxHeartbeats 8000000 in
set_option maxRecDepth 100000 in
theorem impl_within.calls (a0 : Int) (a1 : Int) (a2 : Int) (r : Bool) (w : World) (h : impl_within.f a0 a1 a2 = some r) :
    Calls Try.prog 37 #[.int .i64 a0, .int .i64 a1, .int .i64 a2] w fun e w' => e = .returned (.bool r) ∧ Drawn0 w w' := by
  have H : (if a0 ≥ a1 then (some (decide (a0 ≤ a2))) else (some false)) = some r := h
  clear h
  by_cases c4 : a0 ≥ a1
  · rw [if_pos c4] at H
    have c4b0 : decide (a1 ≤ a0) = true := zR c4; clear c4; obtain rfl := Option.some.inj H; go_enter Try.func37, Try.ntmps37
    go_wp2
    go_ret
    exact ⟨by first | rfl | (simp; done) | (simp [*]; done), by repeat (first | exact Drawn0.refl _ | apply Drawn0.step)⟩
  · rw [if_neg c4] at H
    have c4b0 : decide (a1 ≤ a0) = false := zS c4; clear c4; obtain rfl := Option.some.inj H; go_enter Try.func37, Try.ntmps37
    go_wp2
    go_ret
    exact ⟨by first | rfl | (simp; done) | (simp [*]; done), by repeat (first | exact Drawn0.refl _ | apply Drawn0.step)⟩

/-! ### impl_isBlock: function 48 -/
def impl_isBlock.f (a0 : ByteArray) : Option (Bool) := some ((a0.size : Int) == 64)
set_option maxHeartbeats 8000000 in
set_option maxRecDepth 100000 in
theorem impl_isBlock.calls (a0 : ByteArray) (r : Bool) (w : World) (h : impl_isBlock.f a0 = some r) :
    Calls Try.prog 48 #[.string a0] w fun e w' => e = .returned (.bool r) ∧ Drawn0 w w' := by
  have H : (some ((a0.size : Int) == 64)) = some r := h
  clear h; obtain rfl := Option.some.inj H; go_enter Try.func48, Try.ntmps48
  go_wp2
  go_ret
  exact ⟨by first | rfl | (simp; done) | (simp [*]; done), by repeat (first | exact Drawn0.refl _ | apply Drawn0.step)⟩

/-! ### impl_ValidDisk_1: function 47 -/
def impl_ValidDisk_1.f (a0 : ByteArray) : Option (Bool) := (impl_isBlock.f a0).bind fun t210 => (some (!t210))
set_option maxHeartbeats 8000000 in
set_option maxRecDepth 100000 in
theorem impl_ValidDisk_1.calls (a0 : ByteArray) (r : Bool) (w : World) (h : impl_ValidDisk_1.f a0 = some r) :
    Calls Try.prog 47 #[.string a0] w fun e w' => e = .returned (.bool r) ∧ Drawn0 w w' := by
  have H : ((impl_isBlock.f a0).bind fun t210 => (some (!t210))) = some r := h
  clear h
  obtain ⟨t210, A20, H⟩ := zW_ H
  replace H : (some (!t210)) = some r := H
  have A2 := yD A20
  clear A20; obtain rfl := Option.some.inj H; go_enter Try.func47, Try.ntmps47
  go_wp2_with (first | ((with_reducible refine gate_callee (f := 48) rfl ?_); refine goesL_ (some 4) rfl rfl Try.func48 (by kernel_rfl) rfl #[.string a0] rfl (by (try simp only [zK, zL, zM]); first | done | rfl | (simp only [zN, zO]; rfl)) ?_; (with_reducible refine (impl_isBlock.calls a0 t210 _ A2.out).mono ?_); rintro e w' ⟨rfl, ⟨nd, rfl⟩⟩; refine ⟨_, rfl, ?_⟩))
  go_ret
  exact ⟨by first | rfl | (simp; done) | (simp [*]; done), by repeat (first | exact Drawn0.refl _ | apply Drawn0.step)⟩

/-! ### slices_IndexFunc_impl_ValidDisk_1: function 68 -/
def slices_IndexFunc_impl_ValidDisk_1.l0 : Nat → List ByteArray → Int → Int → Option (Int)
  | 0, _, _, _ => none
  | k + 1, x0, x7, x8 => if x8 < x7 then (if 0 ≤ x8 then (if x8 < (x0.length : Int) then ((impl_ValidDisk_1.f (rdOf ByteArray.empty x0 x8)).bind fun t212 => (if t212 = true then (some x8) else (slices_IndexFunc_impl_ValidDisk_1.l0 k x0 x7 (wrap64 (x8 + 1))))) else (none)) else (none)) else (some (-1))
def slices_IndexFunc_impl_ValidDisk_1.f (k : Nat) (l0 : List ByteArray)  : Option (Int) := slices_IndexFunc_impl_ValidDisk_1.l0 k l0 (l0.length : Int) 0
theorem slices_IndexFunc_impl_ValidDisk_1.mono_l : ∀ k, (∀ y0 y1 y2, LeO (slices_IndexFunc_impl_ValidDisk_1.l0 k y0 y1 y2) (slices_IndexFunc_impl_ValidDisk_1.l0 (k + 1) y0 y1 y2))
  | 0 => fun _ _ _ r h => by simp [slices_IndexFunc_impl_ValidDisk_1.l0] at h
  | k + 1 => by
    have ih0 := slices_IndexFunc_impl_ValidDisk_1.mono_l k
    · intro y0 y1 y2
      unfold slices_IndexFunc_impl_ValidDisk_1.l0
      repeat' first
      | (with_reducible exact ih0 _ _ _)
      | (with_reducible exact LeO.refl _)
      | (with_reducible exact LeO.none _)
      | (with_reducible refine LeO.ite ?_ ?_)
      | (with_reducible refine LeO.bind ?_ (fun _ => ?_))
      | exact ih0 _ _ _
      | exact LeO.none _
      | refine LeO.ite ?_ ?_
      | refine LeO.bind ?_ (fun _ => ?_)
theorem slices_IndexFunc_impl_ValidDisk_1.mono : ∀ a0 k, LeO (slices_IndexFunc_impl_ValidDisk_1.f k a0) (slices_IndexFunc_impl_ValidDisk_1.f (k + 1) a0) := by
  intro a0 k
  have ih0 := slices_IndexFunc_impl_ValidDisk_1.mono_l k
  unfold slices_IndexFunc_impl_ValidDisk_1.f
  repeat' first
      | (with_reducible exact ih0 _ _ _)
      | (with_reducible exact LeO.refl _)
      | (with_reducible exact LeO.none _)
      | (with_reducible refine LeO.ite ?_ ?_)
      | (with_reducible refine LeO.bind ?_ (fun _ => ?_))
      | exact ih0 _ _ _
      | exact LeO.none _
      | refine LeO.ite ?_ ?_
      | refine LeO.bind ?_ (fun _ => ?_)
set_option maxHeartbeats 8000000 in
set_option maxRecDepth 100000 in
theorem slices_IndexFunc_impl_ValidDisk_1.calls (k : Nat) (A0 : Option Addr) (c0 : Nat) (l0 : List ByteArray)  (r : Int) (w : World) (hr0 : Kd.C Kd.string w A0 l0.length l0) (hc0 : l0.length ≤ c0) (h : slices_IndexFunc_impl_ValidDisk_1.f k l0 = some r) :
    Calls Try.prog 68 #[.slice A0 l0.length c0, .func (.func 47) #[] #[]] w fun e w' => e = .returned (.int .i64 r) ∧ Below w.heap.size w w' := by
  have HR0 := yD hr0
  have HC0 := yD hc0
  clear hr0 hc0
  have HB := yD (Below.refl w.heap.size w)
  have H : (slices_IndexFunc_impl_ValidDisk_1.l0 k l0 (l0.length : Int) 0) = some r := h
  clear h
  have H' := yD H
  clear H; go_enter Try.func68, Try.ntmps68
  go_wp2
  go_loopg [8] k (fun kq v8 w' => ∃ (x8_1 : Int), v8 = .int .i64 x8_1 ∧ Aside0 (slices_IndexFunc_impl_ValidDisk_1.l0 kq l0 (l0.length : Int) x8_1 = some r) ∧ Aside0 (kq ≤ k) ∧ Aside0 (Below w.heap.size w w'))
  case atStart => exact ⟨(0), (by first | rfl | (simp; done) | (simp [*]; done)), H', ⟨Nat.le_refl _⟩, ⟨by repeat (first | (with_reducible first | exact HB.out | apply yQ | apply yL | apply yP) | exact HB.out)⟩⟩
  case round =>
    clear H'
    try clear p2
    obtain ⟨x8_1, rfl, HA, HK1, HB⟩ := hrel
    cases gk with
    | zero => exact absurd HA.out (by simp [slices_IndexFunc_impl_ValidDisk_1.l0])
    | succ k1 =>
      have H := HA.out; clear HA
      simp only [slices_IndexFunc_impl_ValidDisk_1.l0] at H
      by_cases c3 : x8_1 < (l0.length : Int)
      · rw [if_pos c3] at H
        have c3b0 : decide (x8_1 < (l0.length : Int)) = true := zR c3; clear c3
        by_cases c4 : 0 ≤ x8_1
        · rw [if_pos c4] at H
          have c4b0 : decide (0 ≤ x8_1) = true := zR c4; clear c4
          by_cases c5 : x8_1 < (l0.length : Int)
          · rw [if_pos c5] at H
            have c5b0 : decide (x8_1 < (l0.length : Int)) = true := zR c5; clear c5
            obtain ⟨t212, A60, H⟩ := zW_ H
            replace H : (if t212 = true then (some x8_1) else (slices_IndexFunc_impl_ValidDisk_1.l0 k1 l0 (l0.length : Int) (wrap64 (x8_1 + 1)))) = some r := H
            have A6 := yD A60
            clear A60
            by_cases c7 : t212 = true
            · subst c7
              have H1 : (some x8_1) = some r := by rw [if_pos rfl] at H; exact H
              clear H; have H := H1; clear H1; obtain rfl := Option.some.inj H
              have p211 : 0 ≤ (x8_1 : Int) := zP (by assumption)
              have q211 : x8_1 < (l0.length : Int) := zP (by assumption)
              obtain ⟨ad211, e211, hx211_0⟩ := Kd.at_string HR0.out x8_1 p211 q211
              cases e211
              replace hx211_0 := (HB.out.cell (zQ w _ hx211_0)).trans hx211_0
              replace p211 := eq_true p211; replace q211 := eq_true q211
              go_wp2_with (first | (go_at_call 47; (with_reducible refine (impl_ValidDisk_1.calls (rdOf ByteArray.empty l0 x8_1) true _ A6.out).mono ?_); rintro e w' ⟨rfl, ⟨nd, rfl⟩⟩))
              go_ret
              exact ⟨by first | rfl | (simp <;> rfl) | (simp [*] <;> rfl), by repeat (first | (with_reducible first | exact HB.out | apply yQ | apply yL | apply yP) | exact HB.out)⟩
            · replace c7 := Bool.eq_false_iff.mpr c7
              subst c7
              have H1 : (slices_IndexFunc_impl_ValidDisk_1.l0 k1 l0 (l0.length : Int) (wrap64 (x8_1 + 1))) = some r := by rw [if_neg (show ¬ (false = true) by decide)] at H; exact H
              clear H; have H := H1; clear H1
              have H' := yD H
              clear H
              have p211 : 0 ≤ (x8_1 : Int) := zP (by assumption)
              have q211 : x8_1 < (l0.length : Int) := zP (by assumption)
              obtain ⟨ad211, e211, hx211_0⟩ := Kd.at_string HR0.out x8_1 p211 q211
              cases e211
              replace hx211_0 := (HB.out.cell (zQ w _ hx211_0)).trans hx211_0
              replace p211 := eq_true p211; replace q211 := eq_true q211
              go_wp2_with (first | (go_at_call 47; (with_reducible refine (impl_ValidDisk_1.calls (rdOf ByteArray.empty l0 x8_1) false _ A6.out).mono ?_); rintro e w' ⟨rfl, ⟨nd, rfl⟩⟩))
              go_roundg k1
              case measure => have := HK1.out; omega
              case rel => exact ⟨(wrap64 (x8_1 + 1)), (by first | rfl | (simp; done) | (simp [*]; done)), H', ⟨by have := HK1.out; omega⟩, ⟨by repeat (first | (with_reducible first | exact HB.out | apply yQ | apply yL | apply yP) | exact HB.out)⟩⟩
          · rw [if_neg c5] at H
            exact absurd H (by simp)
        · rw [if_neg c4] at H
          exact absurd H (by simp)
      · rw [if_neg c3] at H
        have c3b0 : decide (x8_1 < (l0.length : Int)) = false := zS c3; clear c3; obtain rfl := Option.some.inj H
        go_wp2
        go_ret
        exact ⟨by first | rfl | (simp <;> rfl) | (simp [*] <;> rfl), by repeat (first | (with_reducible first | exact HB.out | apply yQ | apply yL | apply yP) | exact HB.out)⟩

/-! ### slices_ContainsFunc_impl_ValidDisk_1: function 46 -/
def slices_ContainsFunc_impl_ValidDisk_1.f (k : Nat) (l0 : List ByteArray)  : Option (Bool) := (slices_IndexFunc_impl_ValidDisk_1.f k l0).bind fun t213 => (some (decide (t213 ≥ 0)))
theorem slices_ContainsFunc_impl_ValidDisk_1.mono : ∀ a0 k, LeO (slices_ContainsFunc_impl_ValidDisk_1.f k a0) (slices_ContainsFunc_impl_ValidDisk_1.f (k + 1) a0) := by
  intro a0 k
  unfold slices_ContainsFunc_impl_ValidDisk_1.f
  repeat' first
      | (with_reducible exact slices_IndexFunc_impl_ValidDisk_1.mono _ _)
      | (with_reducible exact LeO.refl _)
      | (with_reducible exact LeO.none _)
      | (with_reducible refine LeO.ite ?_ ?_)
      | (with_reducible refine LeO.bind ?_ (fun _ => ?_))
      | exact slices_IndexFunc_impl_ValidDisk_1.mono _ _
      | exact LeO.none _
      | refine LeO.ite ?_ ?_
      | refine LeO.bind ?_ (fun _ => ?_)
set_option maxHeartbeats 8000000 in
set_option maxRecDepth 100000 in
theorem slices_ContainsFunc_impl_ValidDisk_1.calls (k : Nat) (A0 : Option Addr) (c0 : Nat) (l0 : List ByteArray)  (r : Bool) (w : World) (hr0 : Kd.C Kd.string w A0 l0.length l0) (hc0 : l0.length ≤ c0) (h : slices_ContainsFunc_impl_ValidDisk_1.f k l0 = some r) :
    Calls Try.prog 46 #[.slice A0 l0.length c0, .func (.func 47) #[] #[]] w fun e w' => e = .returned (.bool r) ∧ Below w.heap.size w w' := by
  have HR0 := yD hr0
  have HC0 := yD hc0
  clear hr0 hc0
  have HB := yD (Below.refl w.heap.size w)
  have H : ((slices_IndexFunc_impl_ValidDisk_1.f k l0).bind fun t213 => (some (decide (t213 ≥ 0)))) = some r := h
  clear h
  obtain ⟨t213, A30, H⟩ := zW_ H
  replace H : (some (decide (t213 ≥ 0))) = some r := H
  have A3 := yD A30
  clear A30; obtain rfl := Option.some.inj H; go_enter Try.func46, Try.ntmps46
  go_wp2_with (first | ((with_reducible refine gate_callee (f := 68) rfl ?_); refine goesL_ (some 7) rfl rfl Try.func68 (by kernel_rfl) rfl #[.slice A0 l0.length c0, .func (.func 47) #[] #[]] rfl (by (try simp only [zK, zL, zM]); first | done | rfl | (simp only [zN, zO]; rfl)) ?_; (with_reducible refine (slices_IndexFunc_impl_ValidDisk_1.calls k _ _ l0  t213 _ ?side1 ?side2 A3.out).mono ?_); (case side1 => repeat (first | exact HR0.out | (with_reducible first | refine yV ?_ _ | refine yW ?_ _ | refine yX ?_))); (case side2 => exact HC0.out); rintro e w4 ⟨rfl, hb⟩; refine ⟨_, rfl, ?_⟩; have n0_ := yD (zC (by repeat (first | (with_reducible first | exact HB.out | apply yQ | apply yL | apply yP) | exact HB.out)) hb); clear HB; have HB := n0_; clear n0_; (try clear hb); (try clear hb2); (try clear hk); (try clear hi)))
  go_ret
  exact ⟨by first | rfl | (simp <;> rfl) | (simp [*] <;> rfl), by repeat (first | (with_reducible first | exact HB.out | apply yQ | apply yL | apply yP) | exact HB.out)⟩

/-! ### impl_isIndex: function 51 -/
def impl_isIndex.f (a0 : Int) (a1 : Int) : Option (Bool) := (impl_within.f a0 0 (wrap64 (a1 - 1))).bind fun t214 => (some t214)
set_option maxHeartbeats 8000000 in
set_option maxRecDepth 100000 in
theorem impl_isIndex.calls (a0 : Int) (a1 : Int) (r : Bool) (w : World) (h : impl_isIndex.f a0 a1 = some r) :
    Calls Try.prog 51 #[.int .i64 a0, .int .i64 a1] w fun e w' => e = .returned (.bool r) ∧ Drawn0 w w' := by
  have H : ((impl_within.f a0 0 (wrap64 (a1 - 1))).bind fun t214 => (some t214)) = some r := h
  clear h
  obtain ⟨t214, A30, H⟩ := zW_ H
  replace H : (some t214) = some r := H
  have A3 := yD A30
  clear A30; obtain rfl := Option.some.inj H; go_enter Try.func51, Try.ntmps51
  go_wp2_with (first | ((with_reducible refine gate_callee (f := 37) rfl ?_); refine goesL_ (some 8) rfl rfl Try.func37 (by kernel_rfl) rfl #[.int .i64 a0, .int .i64 0, .int .i64 (wrap64 (a1 - 1))] rfl (by (try simp only [zK, zL, zM]); first | done | rfl | (simp only [zN, zO]; rfl)) ?_; (with_reducible refine (impl_within.calls a0 0 (wrap64 (a1 - 1)) t214 _ A3.out).mono ?_); rintro e w' ⟨rfl, ⟨nd, rfl⟩⟩; refine ⟨_, rfl, ?_⟩))
  go_ret
  exact ⟨by first | rfl | (simp; done) | (simp [*]; done), by repeat (first | exact Drawn0.refl _ | apply Drawn0.step)⟩

/-! ### impl_ValidDisk_2: function 50 -/
def impl_ValidDisk_2.f (a0_0 : Int) (a0_1 : ByteArray) (l1_0 : List ByteArray) (l1_1 : List (S58)) (a1_2 : Int) (a1_3 : Bool) : Option (Bool) := (impl_isIndex.f a0_0 (l1_0.length : Int)).bind fun t216 => (if t216 = true then ((impl_isBlock.f a0_1).bind fun t217 => (some (!t217))) else (some true))
set_option maxHeartbeats 8000000 in
set_option maxRecDepth 100000 in
theorem impl_ValidDisk_2.calls (a0_0 : Int) (a0_1 : ByteArray) (g1_0 : Nat) (A1_0 : Option Addr) (c1_0 : Nat) (l1_0 : List ByteArray) (A1_1 : Option Addr) (c1_1 : Nat) (l1_1 : List (S58)) (a1_2 : Int) (a1_3 : Bool) (r : Bool) (w : World) (hr1_0 : Kd.C Kd.string w A1_0 l1_0.length l1_0) (hc1_0 : l1_0.length ≤ c1_0) (hr1_1 : Kd.C k58 w A1_1 l1_1.length l1_1) (hc1_1 : l1_1.length ≤ c1_1) (hb1_0 : w.heap[g1_0]? = some (.cells #[.slice A1_0 l1_0.length c1_0, .slice A1_1 l1_1.length c1_1, .int .i64 a1_2, .bool a1_3] 31 (0, 0))) (h : impl_ValidDisk_2.f a0_0 a0_1 l1_0 l1_1 a1_2 a1_3 = some r) :
    Calls Try.prog 50 #[.agg #[.int .i64 a0_0, .string a0_1], .pointer (some ⟨g1_0, 0, none⟩)] w fun e w' => e = .returned (.bool r) ∧ Below w.heap.size w w' := by
  have hu58 := Try.underlying58
  have HR1_0 := yD hr1_0
  have HC1_0 := yD hc1_0
  clear hr1_0 hc1_0
  have HR1_1 := yD hr1_1
  have HC1_1 := yD hc1_1
  clear hr1_1 hc1_1
  have BK48 := yD hb1_0
  clear hb1_0
  have HB := yD (Below.refl w.heap.size w)
  have H : ((impl_isIndex.f a0_0 (l1_0.length : Int)).bind fun t216 => (if t216 = true then ((impl_isBlock.f a0_1).bind fun t217 => (some (!t217))) else (some true))) = some r := h
  clear h
  obtain ⟨t216, A30, H⟩ := zW_ H
  replace H : (if t216 = true then ((impl_isBlock.f a0_1).bind fun t217 => (some (!t217))) else (some true)) = some r := H
  have A3 := yD A30
  clear A30
  by_cases c4 : t216 = true
  · subst c4
    have H1 : ((impl_isBlock.f a0_1).bind fun t217 => (some (!t217))) = some r := by rw [if_pos rfl] at H; exact H
    clear H; have H := H1; clear H1
    obtain ⟨t217, A50, H⟩ := zW_ H
    replace H : (some (!t217)) = some r := H
    have A5 := yD A50
    clear A50; obtain rfl := Option.some.inj H; go_enter Try.func50, Try.ntmps50
    go_wp2_with (first | ((with_reducible refine gate_dst (N := 2) rfl ?_); refine box_event ?hg (N := 2) ?hd (cs := #[.int .i64 a0_0, .string a0_1]) (t := 58) ?hr ?_; (case hd => rfl); (case hg => rfl); (case hr => first | (go_simp; done) | (go_simp; rfl)); intro gb215 hg w6 hbox hb; have n0_ := yD (zB (g := g1_0) (o := .cells #[.slice A1_0 l1_0.length c1_0, .slice A1_1 l1_1.length c1_1, .int .i64 a1_2, .bool a1_3] 31 (0, 0)) (by (with_reducible repeat (first | refine yM ?_ _ | refine yO ?_ | refine yN ?_ _)); exact BK48.out) hb); have n1_ := yD (zC (by repeat (first | (with_reducible first | exact HB.out | apply yQ | apply yL | apply yP | refine yE ?_ GE48.out) | exact HB.out)) hb); have n2_ := yD (hbox); have n3_ := yD ((by rw [hg]; exact (below_size (by repeat (first | (with_reducible first | exact HB.out | apply yQ | apply yL | apply yP | refine yE ?_ GE48.out) | exact HB.out))) : w.heap.size ≤ gb215)); have n4_ := yD ((by rw [hg]; exact (below_size (by repeat (first | (with_reducible first | exact HB.out | apply yQ | apply yL | apply yP | refine yE ?_ GE48.out) | exact HB.out))) : w.heap.size ≤ gb215)); have n5_ := yD ((by rw [hg]; exact Nat.ne_of_lt (blk_lt (g := g1_0) (o := .cells #[.slice A1_0 l1_0.length c1_0, .slice A1_1 l1_1.length c1_1, .int .i64 a1_2, .bool a1_3] 31 (0, 0)) (by (with_reducible repeat (first | refine yM ?_ _ | refine yO ?_ | refine yN ?_ _)); exact BK48.out)) : g1_0 ≠ gb215)); have n6_ := yD ((by rw [hg]; exact Nat.ne_of_gt (blk_lt (g := g1_0) (o := .cells #[.slice A1_0 l1_0.length c1_0, .slice A1_1 l1_1.length c1_1, .int .i64 a1_2, .bool a1_3] 31 (0, 0)) (by (with_reducible repeat (first | refine yM ?_ _ | refine yO ?_ | refine yN ?_ _)); exact BK48.out)) : gb215 ≠ g1_0)); clear BK48; clear HB; have BK48 := n0_; have HB := n1_; have BK215 := n2_; have GW215 := n3_; have GE215 := n4_; have NB48_215 := n5_; have NB215_48 := n6_; clear n0_ n1_ n2_ n3_ n4_ n5_ n6_; clear hb hbox hg; have hnb7 := NB215_48.out; have hnc7 := NB48_215.out; obtain ⟨hcz8_0, hcz8_1⟩ := cz2 BK215.out; obtain ⟨hfz8_0, hfz8_1⟩ := fz2 BK215.out; obtain ⟨hcz9_0, hcz9_1, hcz9_2, hcz9_3⟩ := cz4 BK48.out; obtain ⟨hfz9_0, hfz9_1, hfz9_2, hfz9_3⟩ := fz4 BK48.out) | ((with_reducible refine gate_callee (f := 51) rfl ?_); refine goesL_ (some 9) rfl rfl Try.func51 (by kernel_rfl) rfl #[.int .i64 a0_0, .int .i64 (l1_0.length : Int)] rfl (by (try simp only [zK, zL, zM]); first | done | rfl | (simp only [zN, zO]; rfl)) ?_; (with_reducible refine (impl_isIndex.calls a0_0 (l1_0.length : Int) true _ A3.out).mono ?_); rintro e w' ⟨rfl, ⟨nd, rfl⟩⟩; refine ⟨_, rfl, ?_⟩) | (go_at_call 48; (with_reducible refine (impl_isBlock.calls a0_1 t217 _ A5.out).mono ?_); rintro e w' ⟨rfl, ⟨nd, rfl⟩⟩))
    go_ret
    exact ⟨by first | rfl | (simp <;> rfl) | (simp [*] <;> rfl), by repeat (first | (with_reducible first | exact HB.out | apply yQ | apply yL | apply yP | refine yE ?_ GE48.out | refine yE ?_ GE215.out) | exact HB.out)⟩
  · replace c4 := Bool.eq_false_iff.mpr c4
    subst c4
    have H1 : (some true) = some r := by rw [if_neg (show ¬ (false = true) by decide)] at H; exact H
    clear H; have H := H1; clear H1; obtain rfl := Option.some.inj H; go_enter Try.func50, Try.ntmps50
    go_wp2_with (first | ((with_reducible refine gate_dst (N := 2) rfl ?_); refine box_event ?hg (N := 2) ?hd (cs := #[.int .i64 a0_0, .string a0_1]) (t := 58) ?hr ?_; (case hd => rfl); (case hg => rfl); (case hr => first | (go_simp; done) | (go_simp; rfl)); intro gb215 hg w10 hbox hb; have n0_ := yD (zB (g := g1_0) (o := .cells #[.slice A1_0 l1_0.length c1_0, .slice A1_1 l1_1.length c1_1, .int .i64 a1_2, .bool a1_3] 31 (0, 0)) (by (with_reducible repeat (first | refine yM ?_ _ | refine yO ?_ | refine yN ?_ _)); exact BK48.out) hb); have n1_ := yD (zC (by repeat (first | (with_reducible first | exact HB.out | apply yQ | apply yL | apply yP | refine yE ?_ GE48.out) | exact HB.out)) hb); have n2_ := yD (hbox); have n3_ := yD ((by rw [hg]; exact (below_size (by repeat (first | (with_reducible first | exact HB.out | apply yQ | apply yL | apply yP | refine yE ?_ GE48.out) | exact HB.out))) : w.heap.size ≤ gb215)); have n4_ := yD ((by rw [hg]; exact (below_size (by repeat (first | (with_reducible first | exact HB.out | apply yQ | apply yL | apply yP | refine yE ?_ GE48.out) | exact HB.out))) : w.heap.size ≤ gb215)); have n5_ := yD ((by rw [hg]; exact Nat.ne_of_lt (blk_lt (g := g1_0) (o := .cells #[.slice A1_0 l1_0.length c1_0, .slice A1_1 l1_1.length c1_1, .int .i64 a1_2, .bool a1_3] 31 (0, 0)) (by (with_reducible repeat (first | refine yM ?_ _ | refine yO ?_ | refine yN ?_ _)); exact BK48.out)) : g1_0 ≠ gb215)); have n6_ := yD ((by rw [hg]; exact Nat.ne_of_gt (blk_lt (g := g1_0) (o := .cells #[.slice A1_0 l1_0.length c1_0, .slice A1_1 l1_1.length c1_1, .int .i64 a1_2, .bool a1_3] 31 (0, 0)) (by (with_reducible repeat (first | refine yM ?_ _ | refine yO ?_ | refine yN ?_ _)); exact BK48.out)) : gb215 ≠ g1_0)); clear BK48; clear HB; have BK48 := n0_; have HB := n1_; have BK215 := n2_; have GW215 := n3_; have GE215 := n4_; have NB48_215 := n5_; have NB215_48 := n6_; clear n0_ n1_ n2_ n3_ n4_ n5_ n6_; clear hb hbox hg; have hnb11 := NB215_48.out; have hnc11 := NB48_215.out; obtain ⟨hcz12_0, hcz12_1⟩ := cz2 BK215.out; obtain ⟨hfz12_0, hfz12_1⟩ := fz2 BK215.out; obtain ⟨hcz13_0, hcz13_1, hcz13_2, hcz13_3⟩ := cz4 BK48.out; obtain ⟨hfz13_0, hfz13_1, hfz13_2, hfz13_3⟩ := fz4 BK48.out) | ((with_reducible refine gate_callee (f := 51) rfl ?_); refine goesL_ (some 9) rfl rfl Try.func51 (by kernel_rfl) rfl #[.int .i64 a0_0, .int .i64 (l1_0.length : Int)] rfl (by (try simp only [zK, zL, zM]); first | done | rfl | (simp only [zN, zO]; rfl)) ?_; (with_reducible refine (impl_isIndex.calls a0_0 (l1_0.length : Int) false _ A3.out).mono ?_); rintro e w' ⟨rfl, ⟨nd, rfl⟩⟩; refine ⟨_, rfl, ?_⟩))
    go_ret
    exact ⟨by first | rfl | (simp <;> rfl) | (simp [*] <;> rfl), by repeat (first | (with_reducible first | exact HB.out | apply yQ | apply yL | apply yP | refine yE ?_ GE48.out | refine yE ?_ GE215.out) | exact HB.out)⟩

/-! ### slices_IndexFunc_impl_ValidDisk_2: function 69 -/
def slices_IndexFunc_impl_ValidDisk_2.l0 : Nat → List (S58) → Int → Int → List ByteArray → List (S58) → Int → Bool → Option (Int)
  | 0, _, _, _, _, _, _, _ => none
  | k + 1, x0, x7, x8, x49000, x49001, x49002, x49003 => if x8 < x7 then (if 0 ≤ x8 then (if x8 < (x0.length : Int) then ((impl_ValidDisk_2.f ((rd_T58 x0 x8).f0) ((rd_T58 x0 x8).f1) x49000 x49001 x49002 x49003).bind fun t219 => (if t219 = true then (some x8) else (slices_IndexFunc_impl_ValidDisk_2.l0 k x0 x7 (wrap64 (x8 + 1)) x49000 x49001 x49002 x49003))) else (none)) else (none)) else (some (-1))
def slices_IndexFunc_impl_ValidDisk_2.f (k : Nat) (l0 : List (S58)) (l1_0 : List ByteArray) (l1_1 : List (S58)) (a1_2 : Int) (a1_3 : Bool) : Option (Int) := slices_IndexFunc_impl_ValidDisk_2.l0 k l0 (l0.length : Int) 0 l1_0 l1_1 a1_2 a1_3
theorem slices_IndexFunc_impl_ValidDisk_2.mono_l : ∀ k, (∀ y0 y1 y2 y3 y4 y5 y6, LeO (slices_IndexFunc_impl_ValidDisk_2.l0 k y0 y1 y2 y3 y4 y5 y6) (slices_IndexFunc_impl_ValidDisk_2.l0 (k + 1) y0 y1 y2 y3 y4 y5 y6))
  | 0 => fun _ _ _ _ _ _ _ r h => by simp [slices_IndexFunc_impl_ValidDisk_2.l0] at h
  | k + 1 => by
    have ih0 := slices_IndexFunc_impl_ValidDisk_2.mono_l k
    · intro y0 y1 y2 y3 y4 y5 y6
      unfold slices_IndexFunc_impl_ValidDisk_2.l0
      repeat' first
      | (with_reducible exact ih0 _ _ _ _ _ _ _)
      | (with_reducible exact LeO.refl _)
      | (with_reducible exact LeO.none _)
      | (with_reducible refine LeO.ite ?_ ?_)
      | (with_reducible refine LeO.bind ?_ (fun _ => ?_))
      | exact ih0 _ _ _ _ _ _ _
      | exact LeO.none _
      | refine LeO.ite ?_ ?_
      | refine LeO.bind ?_ (fun _ => ?_)
theorem slices_IndexFunc_impl_ValidDisk_2.mono : ∀ a0 a1 a2 a3 a4 k, LeO (slices_IndexFunc_impl_ValidDisk_2.f k a0 a1 a2 a3 a4) (slices_IndexFunc_impl_ValidDisk_2.f (k + 1) a0 a1 a2 a3 a4) := by
  intro a0 a1 a2 a3 a4 k
  have ih0 := slices_IndexFunc_impl_ValidDisk_2.mono_l k
  unfold slices_IndexFunc_impl_ValidDisk_2.f
  repeat' first
      | (with_reducible exact ih0 _ _ _ _ _ _ _)
      | (with_reducible exact LeO.refl _)
      | (with_reducible exact LeO.none _)
      | (with_reducible refine LeO.ite ?_ ?_)
      | (with_reducible refine LeO.bind ?_ (fun _ => ?_))
      | exact ih0 _ _ _ _ _ _ _
      | exact LeO.none _
      | refine LeO.ite ?_ ?_
      | refine LeO.bind ?_ (fun _ => ?_)
set_option maxHeartbeats 8000000 in
set_option maxRecDepth 100000 in
theorem slices_IndexFunc_impl_ValidDisk_2.calls (k : Nat) (A0 : Option Addr) (c0 : Nat) (l0 : List (S58)) (g1_0 : Nat) (A1_0 : Option Addr) (c1_0 : Nat) (l1_0 : List ByteArray) (A1_1 : Option Addr) (c1_1 : Nat) (l1_1 : List (S58)) (a1_2 : Int) (a1_3 : Bool) (r : Int) (w : World) (hr0 : Kd.C k58 w A0 l0.length l0) (hc0 : l0.length ≤ c0) (hr1_0 : Kd.C Kd.string w A1_0 l1_0.length l1_0) (hc1_0 : l1_0.length ≤ c1_0) (hr1_1 : Kd.C k58 w A1_1 l1_1.length l1_1) (hc1_1 : l1_1.length ≤ c1_1) (hb1_0 : w.heap[g1_0]? = some (.cells #[.slice A1_0 l1_0.length c1_0, .slice A1_1 l1_1.length c1_1, .int .i64 a1_2, .bool a1_3] 31 (0, 0))) (h : slices_IndexFunc_impl_ValidDisk_2.f k l0 l1_0 l1_1 a1_2 a1_3 = some r) :
    Calls Try.prog 69 #[.slice A0 l0.length c0, .func (.func 50) #[] #[.pointer (some ⟨g1_0, 0, none⟩)]] w fun e w' => e = .returned (.int .i64 r) ∧ Below w.heap.size w w' := by
  have hu58 := Try.underlying58
  have HR0 := yD hr0
  have HC0 := yD hc0
  clear hr0 hc0
  have HR1_0 := yD hr1_0
  have HC1_0 := yD hc1_0
  clear hr1_0 hc1_0
  have HR1_1 := yD hr1_1
  have HC1_1 := yD hc1_1
  clear hr1_1 hc1_1
  have BK48 := yD hb1_0
  clear hb1_0
  have HB := yD (Below.refl w.heap.size w)
  have H : (slices_IndexFunc_impl_ValidDisk_2.l0 k l0 (l0.length : Int) 0 l1_0 l1_1 a1_2 a1_3) = some r := h
  clear h
  have H' := yD H
  clear H; go_enter Try.func69, Try.ntmps69
  go_wp2
  go_loopg [8] k (fun kq v8 w' => ∃ (x8_1 : Int), v8 = .int .i64 x8_1 ∧ Aside0 (slices_IndexFunc_impl_ValidDisk_2.l0 kq l0 (l0.length : Int) x8_1 l1_0 l1_1 a1_2 a1_3 = some r) ∧ Aside0 (kq ≤ k) ∧ Aside0 (w'.heap[g1_0]? = some (.cells #[(.slice A1_0 l1_0.length c1_0), (.slice A1_1 l1_1.length c1_1), .int .i64 a1_2, .bool a1_3] 31 (0, 0))) ∧ Aside0 (Below w.heap.size w w'))
  case atStart => exact ⟨(0), (by first | rfl | (simp; done) | (simp [*]; done)), H', ⟨Nat.le_refl _⟩, ⟨by (with_reducible repeat (first | refine yM ?_ _ | refine yO ?_ | refine yN ?_ _)); exact BK48.out⟩, ⟨by repeat (first | (with_reducible first | exact HB.out | apply yQ | apply yL | apply yP | refine yE ?_ GE48.out) | exact HB.out)⟩⟩
  case round =>
    clear H'
    try clear c1; try clear p2
    obtain ⟨x8_1, rfl, HA, HK1, BK48, HB⟩ := hrel
    cases gk with
    | zero => exact absurd HA.out (by simp [slices_IndexFunc_impl_ValidDisk_2.l0])
    | succ k1 =>
      have H := HA.out; clear HA
      simp only [slices_IndexFunc_impl_ValidDisk_2.l0] at H
      by_cases c3 : x8_1 < (l0.length : Int)
      · rw [if_pos c3] at H
        have c3b0 : decide (x8_1 < (l0.length : Int)) = true := zR c3; clear c3
        by_cases c4 : 0 ≤ x8_1
        · rw [if_pos c4] at H
          have c4b0 : decide (0 ≤ x8_1) = true := zR c4; clear c4
          by_cases c5 : x8_1 < (l0.length : Int)
          · rw [if_pos c5] at H
            have c5b0 : decide (x8_1 < (l0.length : Int)) = true := zR c5; clear c5
            obtain ⟨t219, A60, H⟩ := zW_ H
            replace H : (if t219 = true then (some x8_1) else (slices_IndexFunc_impl_ValidDisk_2.l0 k1 l0 (l0.length : Int) (wrap64 (x8_1 + 1)) l1_0 l1_1 a1_2 a1_3)) = some r := H
            have A6 := yD A60
            clear A60
            by_cases c7 : t219 = true
            · subst c7
              have H1 : (some x8_1) = some r := by rw [if_pos rfl] at H; exact H
              clear H; have H := H1; clear H1; obtain rfl := Option.some.inj H
              have p218 : 0 ≤ (x8_1 : Int) := zP (by assumption)
              have q218 : x8_1 < (l0.length : Int) := zP (by assumption)
              obtain ⟨ad218, e218, hx218_0, hx218_1⟩ := at_T58 HR0.out x8_1 p218 q218
              cases e218
              replace hx218_0 := (HB.out.cell (zQ w _ hx218_0)).trans hx218_0
              replace hx218_1 := (HB.out.cell (zQ w _ hx218_1)).trans hx218_1
              replace p218 := eq_true p218; replace q218 := eq_true q218
              go_wp2_with (first | (go_at_call 50; (with_reducible refine (impl_ValidDisk_2.calls ((rd_T58 l0 x8_1).f0) ((rd_T58 l0 x8_1).f1) g1_0 A1_0 c1_0 l1_0 A1_1 c1_1 l1_1 a1_2 a1_3 true _ ?side1 ?side2 ?side3 ?side4 ?side5 A6.out).mono ?_); (case side1 => repeat (first | exact (yY HR1_0.out HB.out) | (with_reducible first | refine yV ?_ _ | refine yW ?_ _ | refine yX ?_))); (case side2 => exact HC1_0.out); (case side3 => repeat (first | exact (yY HR1_1.out HB.out) | (with_reducible first | refine yV ?_ _ | refine yW ?_ _ | refine yX ?_))); (case side4 => exact HC1_1.out); (case side5 => (with_reducible repeat (first | refine yM ?_ _ | refine yO ?_ | refine yN ?_ _)); exact BK48.out); rintro e w8 ⟨rfl, hb⟩; have n0_ := yD (zB (g := g1_0) (o := .cells #[.slice A1_0 l1_0.length c1_0, .slice A1_1 l1_1.length c1_1, .int .i64 a1_2, .bool a1_3] 31 (0, 0)) (by (with_reducible repeat (first | refine yM ?_ _ | refine yO ?_ | refine yN ?_ _)); exact BK48.out) hb); have n1_ := yD (zC (by repeat (first | (with_reducible first | exact HB.out | apply yQ | apply yL | apply yP | refine yE ?_ GE48.out) | exact HB.out)) hb); clear BK48; clear HB; have BK48 := n0_; have HB := n1_; clear n0_ n1_; (try clear hb); (try clear hb2); (try clear hk); (try clear hi)))
              go_ret
              exact ⟨by first | rfl | (simp <;> rfl) | (simp [*] <;> rfl), by repeat (first | (with_reducible first | exact HB.out | apply yQ | apply yL | apply yP | refine yE ?_ GE48.out) | exact HB.out)⟩
            · replace c7 := Bool.eq_false_iff.mpr c7
              subst c7
              have H1 : (slices_IndexFunc_impl_ValidDisk_2.l0 k1 l0 (l0.length : Int) (wrap64 (x8_1 + 1)) l1_0 l1_1 a1_2 a1_3) = some r := by rw [if_neg (show ¬ (false = true) by decide)] at H; exact H
              clear H; have H := H1; clear H1
              have H' := yD H
              clear H
              have p218 : 0 ≤ (x8_1 : Int) := zP (by assumption)
              have q218 : x8_1 < (l0.length : Int) := zP (by assumption)
              obtain ⟨ad218, e218, hx218_0, hx218_1⟩ := at_T58 HR0.out x8_1 p218 q218
              cases e218
              replace hx218_0 := (HB.out.cell (zQ w _ hx218_0)).trans hx218_0
              replace hx218_1 := (HB.out.cell (zQ w _ hx218_1)).trans hx218_1
              replace p218 := eq_true p218; replace q218 := eq_true q218
              go_wp2_with (first | (go_at_call 50; (with_reducible refine (impl_ValidDisk_2.calls ((rd_T58 l0 x8_1).f0) ((rd_T58 l0 x8_1).f1) g1_0 A1_0 c1_0 l1_0 A1_1 c1_1 l1_1 a1_2 a1_3 false _ ?side1 ?side2 ?side3 ?side4 ?side5 A6.out).mono ?_); (case side1 => repeat (first | exact (yY HR1_0.out HB.out) | (with_reducible first | refine yV ?_ _ | refine yW ?_ _ | refine yX ?_))); (case side2 => exact HC1_0.out); (case side3 => repeat (first | exact (yY HR1_1.out HB.out) | (with_reducible first | refine yV ?_ _ | refine yW ?_ _ | refine yX ?_))); (case side4 => exact HC1_1.out); (case side5 => (with_reducible repeat (first | refine yM ?_ _ | refine yO ?_ | refine yN ?_ _)); exact BK48.out); rintro e w9 ⟨rfl, hb⟩; have n0_ := yD (zB (g := g1_0) (o := .cells #[.slice A1_0 l1_0.length c1_0, .slice A1_1 l1_1.length c1_1, .int .i64 a1_2, .bool a1_3] 31 (0, 0)) (by (with_reducible repeat (first | refine yM ?_ _ | refine yO ?_ | refine yN ?_ _)); exact BK48.out) hb); have n1_ := yD (zC (by repeat (first | (with_reducible first | exact HB.out | apply yQ | apply yL | apply yP | refine yE ?_ GE48.out) | exact HB.out)) hb); clear BK48; clear HB; have BK48 := n0_; have HB := n1_; clear n0_ n1_; (try clear hb); (try clear hb2); (try clear hk); (try clear hi)))
              go_roundg k1
              case measure => have := HK1.out; omega
              case rel => exact ⟨(wrap64 (x8_1 + 1)), (by first | rfl | (simp; done) | (simp [*]; done)), H', ⟨by have := HK1.out; omega⟩, ⟨by (with_reducible repeat (first | refine yM ?_ _ | refine yO ?_ | refine yN ?_ _)); exact BK48.out⟩, ⟨by repeat (first | (with_reducible first | exact HB.out | apply yQ | apply yL | apply yP | refine yE ?_ GE48.out) | exact HB.out)⟩⟩
          · rw [if_neg c5] at H
            exact absurd H (by simp)
        · rw [if_neg c4] at H
          exact absurd H (by simp)
      · rw [if_neg c3] at H
        have c3b0 : decide (x8_1 < (l0.length : Int)) = false := zS c3; clear c3; obtain rfl := Option.some.inj H
        go_wp2
        go_ret
        exact ⟨by first | rfl | (simp <;> rfl) | (simp [*] <;> rfl), by repeat (first | (with_reducible first | exact HB.out | apply yQ | apply yL | apply yP | refine yE ?_ GE48.out) | exact HB.out)⟩

/-! ### slices_ContainsFunc_impl_ValidDisk_2: function 49 -/
def slices_ContainsFunc_impl_ValidDisk_2.f (k : Nat) (l0 : List (S58)) (l1_0 : List ByteArray) (l1_1 : List (S58)) (a1_2 : Int) (a1_3 : Bool) : Option (Bool) := (slices_IndexFunc_impl_ValidDisk_2.f k l0 l1_0 l1_1 a1_2 a1_3).bind fun t220 => (some (decide (t220 ≥ 0)))
theorem slices_ContainsFunc_impl_ValidDisk_2.mono : ∀ a0 a1 a2 a3 a4 k, LeO (slices_ContainsFunc_impl_ValidDisk_2.f k a0 a1 a2 a3 a4) (slices_ContainsFunc_impl_ValidDisk_2.f (k + 1) a0 a1 a2 a3 a4) := by
  intro a0 a1 a2 a3 a4 k
  unfold slices_ContainsFunc_impl_ValidDisk_2.f
  repeat' first
      | (with_reducible exact slices_IndexFunc_impl_ValidDisk_2.mono _ _ _ _ _ _)
      | (with_reducible exact LeO.refl _)
      | (with_reducible exact LeO.none _)
      | (with_reducible refine LeO.ite ?_ ?_)
      | (with_reducible refine LeO.bind ?_ (fun _ => ?_))
      | exact slices_IndexFunc_impl_ValidDisk_2.mono _ _ _ _ _ _
      | exact LeO.none _
      | refine LeO.ite ?_ ?_
      | refine LeO.bind ?_ (fun _ => ?_)
set_option maxHeartbeats 8000000 in
set_option maxRecDepth 100000 in
theorem slices_ContainsFunc_impl_ValidDisk_2.calls (k : Nat) (A0 : Option Addr) (c0 : Nat) (l0 : List (S58)) (g1_0 : Nat) (A1_0 : Option Addr) (c1_0 : Nat) (l1_0 : List ByteArray) (A1_1 : Option Addr) (c1_1 : Nat) (l1_1 : List (S58)) (a1_2 : Int) (a1_3 : Bool) (r : Bool) (w : World) (hr0 : Kd.C k58 w A0 l0.length l0) (hc0 : l0.length ≤ c0) (hr1_0 : Kd.C Kd.string w A1_0 l1_0.length l1_0) (hc1_0 : l1_0.length ≤ c1_0) (hr1_1 : Kd.C k58 w A1_1 l1_1.length l1_1) (hc1_1 : l1_1.length ≤ c1_1) (hb1_0 : w.heap[g1_0]? = some (.cells #[.slice A1_0 l1_0.length c1_0, .slice A1_1 l1_1.length c1_1, .int .i64 a1_2, .bool a1_3] 31 (0, 0))) (h : slices_ContainsFunc_impl_ValidDisk_2.f k l0 l1_0 l1_1 a1_2 a1_3 = some r) :
    Calls Try.prog 49 #[.slice A0 l0.length c0, .func (.func 50) #[] #[.pointer (some ⟨g1_0, 0, none⟩)]] w fun e w' => e = .returned (.bool r) ∧ Below w.heap.size w w' := by
  have HR0 := yD hr0
  have HC0 := yD hc0
  clear hr0 hc0
  have HR1_0 := yD hr1_0
  have HC1_0 := yD hc1_0
  clear hr1_0 hc1_0
  have HR1_1 := yD hr1_1
  have HC1_1 := yD hc1_1
  clear hr1_1 hc1_1
  have BK48 := yD hb1_0
  clear hb1_0
  have HB := yD (Below.refl w.heap.size w)
  have H : ((slices_IndexFunc_impl_ValidDisk_2.f k l0 l1_0 l1_1 a1_2 a1_3).bind fun t220 => (some (decide (t220 ≥ 0)))) = some r := h
  clear h
  obtain ⟨t220, A30, H⟩ := zW_ H
  replace H : (some (decide (t220 ≥ 0))) = some r := H
  have A3 := yD A30
  clear A30; obtain rfl := Option.some.inj H; go_enter Try.func49, Try.ntmps49
  go_wp2_with (first | ((with_reducible refine gate_callee (f := 69) rfl ?_); refine goesL_ (some 7) rfl rfl Try.func69 (by kernel_rfl) rfl #[.slice A0 l0.length c0, .func (.func 50) #[] #[.pointer (some ⟨g1_0, 0, none⟩)]] rfl (by (try simp only [zK, zL, zM]); first | done | rfl | (simp only [zN, zO]; rfl)) ?_; (with_reducible refine (slices_IndexFunc_impl_ValidDisk_2.calls k _ _ l0 g1_0 A1_0 c1_0 l1_0 A1_1 c1_1 l1_1 a1_2 a1_3 t220 _ ?side1 ?side2 ?side3 ?side4 ?side5 ?side6 ?side7 A3.out).mono ?_); (case side1 => repeat (first | exact HR0.out | (with_reducible first | refine yV ?_ _ | refine yW ?_ _ | refine yX ?_))); (case side2 => exact HC0.out); (case side3 => repeat (first | exact HR1_0.out | (with_reducible first | refine yV ?_ _ | refine yW ?_ _ | refine yX ?_))); (case side4 => exact HC1_0.out); (case side5 => repeat (first | exact HR1_1.out | (with_reducible first | refine yV ?_ _ | refine yW ?_ _ | refine yX ?_))); (case side6 => exact HC1_1.out); (case side7 => (with_reducible repeat (first | refine yM ?_ _ | refine yO ?_ | refine yN ?_ _)); exact BK48.out); rintro e w4 ⟨rfl, hb⟩; refine ⟨_, rfl, ?_⟩; have n0_ := yD (zB (g := g1_0) (o := .cells #[.slice A1_0 l1_0.length c1_0, .slice A1_1 l1_1.length c1_1, .int .i64 a1_2, .bool a1_3] 31 (0, 0)) (by (with_reducible repeat (first | refine yM ?_ _ | refine yO ?_ | refine yN ?_ _)); exact BK48.out) hb); have n1_ := yD (zC (by repeat (first | (with_reducible first | exact HB.out | apply yQ | apply yL | apply yP | refine yE ?_ GE48.out) | exact HB.out)) hb); clear BK48; clear HB; have BK48 := n0_; have HB := n1_; clear n0_ n1_; (try clear hb); (try clear hb2); (try clear hk); (try clear hi)))
  go_ret
  exact ⟨by first | rfl | (simp <;> rfl) | (simp [*] <;> rfl), by repeat (first | (with_reducible first | exact HB.out | apply yQ | apply yL | apply yP | refine yE ?_ GE48.out) | exact HB.out)⟩

/-! ### impl_ValidDisk: function 25 -/
def impl_ValidDisk.j0 : Nat → Bool → List ByteArray → List (S58) → Int → Bool → Option (Bool)
  | 0, _, _, _, _, _ => none
  | k + 1, x19, x222000, x222001, x222002, x222003 => if x19 = true then (some false) else ((slices_ContainsFunc_impl_ValidDisk_1.f k x222000).bind fun t224 => (if t224 = true then (some false) else ((slices_ContainsFunc_impl_ValidDisk_2.f k x222001 x222000 x222001 x222002 x222003).bind fun t225 => (some (!t225)))))
def impl_ValidDisk.f (k : Nat) (l0_0 : List ByteArray) (l0_1 : List (S58)) (a0_2 : Int) (a0_3 : Bool) : Option (Bool) := (impl_within.f (l0_0.length : Int) 16 256).bind fun t222 => (if t222 = true then (if (l0_1.length : Int) > 600 then (impl_ValidDisk.j0 k true l0_0 l0_1 a0_2 a0_3) else ((impl_within.f a0_2 (-1) 100000).bind fun t223 => (impl_ValidDisk.j0 k (!t223) l0_0 l0_1 a0_2 a0_3))) else (impl_ValidDisk.j0 k true l0_0 l0_1 a0_2 a0_3))
theorem impl_ValidDisk.mono_l : ∀ k, (∀ y0 y1 y2 y3 y4, LeO (impl_ValidDisk.j0 k y0 y1 y2 y3 y4) (impl_ValidDisk.j0 (k + 1) y0 y1 y2 y3 y4))
  | 0 => fun _ _ _ _ _ r h => by simp [impl_ValidDisk.j0] at h
  | k + 1 => by
    have ih0 := impl_ValidDisk.mono_l k
    · intro y0 y1 y2 y3 y4
      unfold impl_ValidDisk.j0
      repeat' first
      | (with_reducible exact ih0 _ _ _ _ _)
      | (with_reducible exact slices_ContainsFunc_impl_ValidDisk_1.mono _ _)
      | (with_reducible exact slices_ContainsFunc_impl_ValidDisk_2.mono _ _ _ _ _ _)
      | (with_reducible exact LeO.refl _)
      | (with_reducible exact LeO.none _)
      | (with_reducible refine LeO.ite ?_ ?_)
      | (with_reducible refine LeO.bind ?_ (fun _ => ?_))
      | exact ih0 _ _ _ _ _
      | exact slices_ContainsFunc_impl_ValidDisk_1.mono _ _
      | exact slices_ContainsFunc_impl_ValidDisk_2.mono _ _ _ _ _ _
      | exact LeO.none _
      | refine LeO.ite ?_ ?_
      | refine LeO.bind ?_ (fun _ => ?_)
theorem impl_ValidDisk.mono : ∀ a0 a1 a2 a3 k, LeO (impl_ValidDisk.f k a0 a1 a2 a3) (impl_ValidDisk.f (k + 1) a0 a1 a2 a3) := by
  intro a0 a1 a2 a3 k
  have ih0 := impl_ValidDisk.mono_l k
  unfold impl_ValidDisk.f
  repeat' first
      | (with_reducible exact ih0 _ _ _ _ _)
      | (with_reducible exact slices_ContainsFunc_impl_ValidDisk_1.mono _ _)
      | (with_reducible exact slices_ContainsFunc_impl_ValidDisk_2.mono _ _ _ _ _ _)
      | (with_reducible exact LeO.refl _)
      | (with_reducible exact LeO.none _)
      | (with_reducible refine LeO.ite ?_ ?_)
      | (with_reducible refine LeO.bind ?_ (fun _ => ?_))
      | exact ih0 _ _ _ _ _
      | exact slices_ContainsFunc_impl_ValidDisk_1.mono _ _
      | exact slices_ContainsFunc_impl_ValidDisk_2.mono _ _ _ _ _ _
      | exact LeO.none _
      | refine LeO.ite ?_ ?_
      | refine LeO.bind ?_ (fun _ => ?_)
set_option maxHeartbeats 8000000 in
set_option maxRecDepth 100000 in
theorem impl_ValidDisk.calls (k : Nat) (A0_0 : Option Addr) (c0_0 : Nat) (l0_0 : List ByteArray) (A0_1 : Option Addr) (c0_1 : Nat) (l0_1 : List (S58)) (a0_2 : Int) (a0_3 : Bool) (r : Bool) (w : World) (hr0_0 : Kd.C Kd.string w A0_0 l0_0.length l0_0) (hc0_0 : l0_0.length ≤ c0_0) (hr0_1 : Kd.C k58 w A0_1 l0_1.length l0_1) (hc0_1 : l0_1.length ≤ c0_1) (h : impl_ValidDisk.f k l0_0 l0_1 a0_2 a0_3 = some r) :
    Calls Try.prog 25 #[.agg #[.slice A0_0 l0_0.length c0_0, .slice A0_1 l0_1.length c0_1, .int .i64 a0_2, .bool a0_3]] w fun e w' => e = .returned (.bool r) ∧ Below w.heap.size w w' := by
  have hu31 := Try.underlying31
  have HR0_0 := yD hr0_0
  have HC0_0 := yD hc0_0
  clear hr0_0 hc0_0
  have HR0_1 := yD hr0_1
  have HC0_1 := yD hc0_1
  clear hr0_1 hc0_1
  have HB := yD (Below.refl w.heap.size w)
  have H : ((impl_within.f (l0_0.length : Int) 16 256).bind fun t222 => (if t222 = true then (if (l0_1.length : Int) > 600 then (impl_ValidDisk.j0 k true l0_0 l0_1 a0_2 a0_3) else ((impl_within.f a0_2 (-1) 100000).bind fun t223 => (impl_ValidDisk.j0 k (!t223) l0_0 l0_1 a0_2 a0_3))) else (impl_ValidDisk.j0 k true l0_0 l0_1 a0_2 a0_3))) = some r := h
  clear h
  have HC2 := yD H
  clear H; go_enter Try.func25, Try.ntmps25
  go_upto_region 1 with (first | ((with_reducible refine gate_dst (N := 1) rfl ?_); (try (refine gate_guard (by rfl) ?_; dsimp only)); refine box_event ?hg (N := 1) ?hd (cs := #[.slice A0_0 l0_0.length c0_0, .slice A0_1 l0_1.length c0_1, .int .i64 a0_2, .bool a0_3]) (t := 31) ?hr ?_; (case hd => rfl); (case hg => rfl); (case hr => first | (go_simp; done) | (go_simp; rfl)); intro gb221 hg w3 hbox hb; have n0_ := yD (zC (by repeat (first | (with_reducible first | exact HB.out | apply yQ | apply yL | apply yP) | exact HB.out)) hb); have n1_ := yD (hbox); have n2_ := yD ((by rw [hg]; exact (below_size (by repeat (first | (with_reducible first | exact HB.out | apply yQ | apply yL | apply yP) | exact HB.out))) : w.heap.size ≤ gb221)); have n3_ := yD ((by rw [hg]; exact (below_size (by repeat (first | (with_reducible first | exact HB.out | apply yQ | apply yL | apply yP) | exact HB.out))) : w.heap.size ≤ gb221)); clear HB; have HB := n0_; have BK221 := n1_; have GW221 := n2_; have GE221 := n3_; clear n0_ n1_ n2_ n3_; clear hb hbox hg))
  (try simp only [Act.put, zH, zI, zJ])
  go_cut [19] (fun v19 wc => ∃ (kq : Nat) (x19_1 : Bool), v19 = .bool x19_1 ∧ Aside0 (impl_ValidDisk.j0 kq x19_1 l0_0 l0_1 a0_2 a0_3 = some r) ∧ Aside0 (kq ≤ k) ∧ Aside0 (wc.heap[gb221]? = some (.cells #[(.slice A0_0 l0_0.length c0_0), (.slice A0_1 l0_1.length c0_1), .int .i64 a0_2, .bool a0_3] 31 (0, 0))) ∧ Aside0 (Below w.heap.size w wc))
  case first =>
    have H := HC2.out; clear HC2
    obtain ⟨t222, A40, H⟩ := zW_ H
    replace H : (if t222 = true then (if (l0_1.length : Int) > 600 then (impl_ValidDisk.j0 k true l0_0 l0_1 a0_2 a0_3) else ((impl_within.f a0_2 (-1) 100000).bind fun t223 => (impl_ValidDisk.j0 k (!t223) l0_0 l0_1 a0_2 a0_3))) else (impl_ValidDisk.j0 k true l0_0 l0_1 a0_2 a0_3)) = some r := H
    have A4 := yD A40
    clear A40
    by_cases c5 : t222 = true
    · subst c5
      have H1 : (if (l0_1.length : Int) > 600 then (impl_ValidDisk.j0 k true l0_0 l0_1 a0_2 a0_3) else ((impl_within.f a0_2 (-1) 100000).bind fun t223 => (impl_ValidDisk.j0 k (!t223) l0_0 l0_1 a0_2 a0_3))) = some r := by rw [if_pos rfl] at H; exact H
      clear H; have H := H1; clear H1
      by_cases c6 : (l0_1.length : Int) > 600
      · rw [if_pos c6] at H
        have c6b0 : decide (600 < (l0_1.length : Int)) = true := zR c6
        have c6b1 : decide (600 < l0_1.length) = true := zR (by omega)
        clear c6
        (first | rw [c6b0] | (simp only [i64_w, i32_w]; rw [c6b0]) | (simp only [bne] at c6b0; rw [c6b0]) | skip)
        have H' := yD H
        clear H
        obtain ⟨hcz7_0, hcz7_1, hcz7_2, hcz7_3⟩ := cz4 BK221.out
        obtain ⟨hfz7_0, hfz7_1, hfz7_2, hfz7_3⟩ := fz4 BK221.out
        go_wp2_with (first | ((with_reducible refine gate_callee (f := 37) rfl ?_); refine goesL_ (some 6) rfl rfl Try.func37 (by kernel_rfl) rfl #[.int .i64 (l0_0.length : Int), .int .i64 16, .int .i64 256] rfl (by (try simp only [zK, zL, zM]); first | done | rfl | (simp only [zN, zO]; rfl)) ?_; (with_reducible refine (impl_within.calls (l0_0.length : Int) 16 256 true _ A4.out).mono ?_); rintro e w' ⟨rfl, ⟨nd, rfl⟩⟩; refine ⟨_, rfl, ?_⟩))
        go_meet
        case rel => exact ⟨_, (true), (by first | rfl | (simp; done) | (simp [*]; done)), H', ⟨by first | omega | exact Nat.le_refl _⟩, ⟨by (with_reducible repeat (first | refine yM ?_ _ | refine yO ?_ | refine yN ?_ _)); exact BK221.out⟩, ⟨by repeat (first | (with_reducible first | exact HB.out | apply yQ | apply yL | apply yP | refine yE ?_ GE221.out) | exact HB.out)⟩⟩
      · rw [if_neg c6] at H
        have c6b0 : decide (600 < (l0_1.length : Int)) = false := zS c6
        have c6b1 : decide (600 < l0_1.length) = false := zS (by omega)
        clear c6
        (first | rw [c6b0] | (simp only [i64_w, i32_w]; rw [c6b0]) | (simp only [bne] at c6b0; rw [c6b0]) | skip)
        obtain ⟨t223, A80, H⟩ := zW_ H
        replace H : (impl_ValidDisk.j0 k (!t223) l0_0 l0_1 a0_2 a0_3) = some r := H
        have A8 := yD A80
        clear A80
        have H' := yD H
        clear H
        obtain ⟨hcz9_0, hcz9_1, hcz9_2, hcz9_3⟩ := cz4 BK221.out
        obtain ⟨hfz9_0, hfz9_1, hfz9_2, hfz9_3⟩ := fz4 BK221.out
        go_wp2_with (first | ((with_reducible refine gate_callee (f := 37) rfl ?_); refine goesL_ (some 6) rfl rfl Try.func37 (by kernel_rfl) rfl #[.int .i64 (l0_0.length : Int), .int .i64 16, .int .i64 256] rfl (by (try simp only [zK, zL, zM]); first | done | rfl | (simp only [zN, zO]; rfl)) ?_; (with_reducible refine (impl_within.calls (l0_0.length : Int) 16 256 true _ A4.out).mono ?_); rintro e w' ⟨rfl, ⟨nd, rfl⟩⟩; refine ⟨_, rfl, ?_⟩) | (go_at_call 37; (with_reducible refine (impl_within.calls a0_2 (-1) 100000 t223 _ A8.out).mono ?_); rintro e w' ⟨rfl, ⟨nd, rfl⟩⟩))
        go_meet
        case rel => exact ⟨_, (!t223), (by first | rfl | (simp; done) | (simp [*]; done)), H', ⟨by first | omega | exact Nat.le_refl _⟩, ⟨by (with_reducible repeat (first | refine yM ?_ _ | refine yO ?_ | refine yN ?_ _)); exact BK221.out⟩, ⟨by repeat (first | (with_reducible first | exact HB.out | apply yQ | apply yL | apply yP | refine yE ?_ GE221.out) | exact HB.out)⟩⟩
    · replace c5 := Bool.eq_false_iff.mpr c5
      subst c5
      have H1 : (impl_ValidDisk.j0 k true l0_0 l0_1 a0_2 a0_3) = some r := by rw [if_neg (show ¬ (false = true) by decide)] at H; exact H
      clear H; have H := H1; clear H1
      have H' := yD H
      clear H
      obtain ⟨hcz10_0, hcz10_1, hcz10_2, hcz10_3⟩ := cz4 BK221.out
      obtain ⟨hfz10_0, hfz10_1, hfz10_2, hfz10_3⟩ := fz4 BK221.out
      go_wp2_with (first | ((with_reducible refine gate_callee (f := 37) rfl ?_); refine goesL_ (some 6) rfl rfl Try.func37 (by kernel_rfl) rfl #[.int .i64 (l0_0.length : Int), .int .i64 16, .int .i64 256] rfl (by (try simp only [zK, zL, zM]); first | done | rfl | (simp only [zN, zO]; rfl)) ?_; (with_reducible refine (impl_within.calls (l0_0.length : Int) 16 256 false _ A4.out).mono ?_); rintro e w' ⟨rfl, ⟨nd, rfl⟩⟩; refine ⟨_, rfl, ?_⟩))
      go_meet
      case rel => exact ⟨_, (true), (by first | rfl | (simp; done) | (simp [*]; done)), H', ⟨by first | omega | exact Nat.le_refl _⟩, ⟨by (with_reducible repeat (first | refine yM ?_ _ | refine yO ?_ | refine yN ?_ _)); exact BK221.out⟩, ⟨by repeat (first | (with_reducible first | exact HB.out | apply yQ | apply yL | apply yP | refine yE ?_ GE221.out) | exact HB.out)⟩⟩
  case rest =>
    clear HC2; try clear c2; try clear p2; try clear c3; try clear c5; try clear c6; try clear c6b0; try clear c6b1; try clear hcz10_0; try clear hcz10_1; try clear hcz10_2; try clear hcz10_3; try clear hcz7_0; try clear hcz7_1; try clear hcz7_2; try clear hcz7_3; try clear hcz9_0; try clear hcz9_1; try clear hcz9_2; try clear hcz9_3; try clear hfz10_0; try clear hfz10_1; try clear hfz10_2; try clear hfz10_3; try clear hfz7_0; try clear hfz7_1; try clear hfz7_2; try clear hfz7_3; try clear hfz9_0; try clear hfz9_1; try clear hfz9_2; try clear hfz9_3
    obtain ⟨kq, x19_1, rfl, HA, HJ1, BK221, HB⟩ := hcut
    cases kq with
    | zero => exact absurd HA.out (by simp [impl_ValidDisk.j0])
    | succ kj1 =>
      have H := HA.out; clear HA
      simp only [impl_ValidDisk.j0] at H
      by_cases c11 : x19_1 = true
      · subst c11
        have H1 : (some false) = some r := by rw [if_pos rfl] at H; exact H
        clear H; have H := H1; clear H1; obtain rfl := Option.some.inj H
        go_wp2
        go_ret
        exact ⟨by first | rfl | (simp <;> rfl) | (simp [*] <;> rfl), by repeat (first | (with_reducible first | exact HB.out | apply yQ | apply yL | apply yP | refine yE ?_ GE221.out) | exact HB.out)⟩
      · replace c11 := Bool.eq_false_iff.mpr c11
        subst c11
        have H1 : ((slices_ContainsFunc_impl_ValidDisk_1.f kj1 l0_0).bind fun t224 => (if t224 = true then (some false) else ((slices_ContainsFunc_impl_ValidDisk_2.f kj1 l0_1 l0_0 l0_1 a0_2 a0_3).bind fun t225 => (some (!t225))))) = some r := by rw [if_neg (show ¬ (false = true) by decide)] at H; exact H
        clear H; have H := H1; clear H1
        obtain ⟨t224, A120, H⟩ := zW_ H
        replace H : (if t224 = true then (some false) else ((slices_ContainsFunc_impl_ValidDisk_2.f kj1 l0_1 l0_0 l0_1 a0_2 a0_3).bind fun t225 => (some (!t225)))) = some r := H
        have A12 := yD A120
        clear A120
        by_cases c13 : t224 = true
        · subst c13
          have H1 : (some false) = some r := by rw [if_pos rfl] at H; exact H
          clear H; have H := H1; clear H1; obtain rfl := Option.some.inj H
          obtain ⟨hcz14_0, hcz14_1, hcz14_2, hcz14_3⟩ := cz4 BK221.out
          obtain ⟨hfz14_0, hfz14_1, hfz14_2, hfz14_3⟩ := fz4 BK221.out
          go_wp2_with (first | ((with_reducible refine gate_callee (f := 46) rfl ?_); refine goesL_ (some 22) rfl rfl Try.func46 (by kernel_rfl) rfl #[.slice A0_0 l0_0.length c0_0, .func (.func 47) #[] #[]] rfl (by (try simp only [zK, zL, zM]); first | done | rfl | (simp only [zN, zO]; rfl)) ?_; (with_reducible refine (slices_ContainsFunc_impl_ValidDisk_1.calls kj1 _ _ l0_0  true _ ?side1 ?side2 A12.out).mono ?_); (case side1 => repeat (first | exact (yY HR0_0.out HB.out) | (with_reducible first | refine yV ?_ _ | refine yW ?_ _ | refine yX ?_))); (case side2 => exact HC0_0.out); rintro e w15 ⟨rfl, hb⟩; refine ⟨_, rfl, ?_⟩; have n0_ := yD (zB (g := gb221) (o := .cells #[.slice A0_0 l0_0.length c0_0, .slice A0_1 l0_1.length c0_1, .int .i64 a0_2, .bool a0_3] 31 (0, 0)) (by (with_reducible repeat (first | refine yM ?_ _ | refine yO ?_ | refine yN ?_ _)); exact BK221.out) hb); have n1_ := yD (zC (by repeat (first | (with_reducible first | exact HB.out | apply yQ | apply yL | apply yP | refine yE ?_ GE221.out) | exact HB.out)) hb); clear BK221; clear HB; have BK221 := n0_; have HB := n1_; clear n0_ n1_; (try clear hb); (try clear hb2); (try clear hk); (try clear hi)))
          go_ret
          exact ⟨by first | rfl | (simp <;> rfl) | (simp [*] <;> rfl), by repeat (first | (with_reducible first | exact HB.out | apply yQ | apply yL | apply yP | refine yE ?_ GE221.out) | exact HB.out)⟩
        · replace c13 := Bool.eq_false_iff.mpr c13
          subst c13
          have H1 : ((slices_ContainsFunc_impl_ValidDisk_2.f kj1 l0_1 l0_0 l0_1 a0_2 a0_3).bind fun t225 => (some (!t225))) = some r := by rw [if_neg (show ¬ (false = true) by decide)] at H; exact H
          clear H; have H := H1; clear H1
          obtain ⟨t225, A160, H⟩ := zW_ H
          replace H : (some (!t225)) = some r := H
          have A16 := yD A160
          clear A160; obtain rfl := Option.some.inj H
          obtain ⟨hcz17_0, hcz17_1, hcz17_2, hcz17_3⟩ := cz4 BK221.out
          obtain ⟨hfz17_0, hfz17_1, hfz17_2, hfz17_3⟩ := fz4 BK221.out
          go_wp2_with (first | ((with_reducible refine gate_callee (f := 46) rfl ?_); refine goesL_ (some 22) rfl rfl Try.func46 (by kernel_rfl) rfl #[.slice A0_0 l0_0.length c0_0, .func (.func 47) #[] #[]] rfl (by (try simp only [zK, zL, zM]); first | done | rfl | (simp only [zN, zO]; rfl)) ?_; (with_reducible refine (slices_ContainsFunc_impl_ValidDisk_1.calls kj1 _ _ l0_0  false _ ?side1 ?side2 A12.out).mono ?_); (case side1 => repeat (first | exact (yY HR0_0.out HB.out) | (with_reducible first | refine yV ?_ _ | refine yW ?_ _ | refine yX ?_))); (case side2 => exact HC0_0.out); rintro e w18 ⟨rfl, hb⟩; refine ⟨_, rfl, ?_⟩; have n0_ := yD (zB (g := gb221) (o := .cells #[.slice A0_0 l0_0.length c0_0, .slice A0_1 l0_1.length c0_1, .int .i64 a0_2, .bool a0_3] 31 (0, 0)) (by (with_reducible repeat (first | refine yM ?_ _ | refine yO ?_ | refine yN ?_ _)); exact BK221.out) hb); have n1_ := yD (zC (by repeat (first | (with_reducible first | exact HB.out | apply yQ | apply yL | apply yP | refine yE ?_ GE221.out) | exact HB.out)) hb); clear BK221; clear HB; have BK221 := n0_; have HB := n1_; clear n0_ n1_; (try clear hb); (try clear hb2); (try clear hk); (try clear hi); obtain ⟨hcz19_0, hcz19_1, hcz19_2, hcz19_3⟩ := cz4 BK221.out; obtain ⟨hfz19_0, hfz19_1, hfz19_2, hfz19_3⟩ := fz4 BK221.out) | ((with_reducible refine gate_callee (f := 49) rfl ?_); refine goesL_ (some 26) rfl rfl Try.func49 (by kernel_rfl) rfl #[.slice A0_1 l0_1.length c0_1, .func (.func 50) #[] #[.pointer (some ⟨gb221, 0, none⟩)]] rfl (by (try simp only [zK, zL, zM]); first | done | rfl | (simp only [zN, zO]; rfl)) ?_; (with_reducible refine (slices_ContainsFunc_impl_ValidDisk_2.calls kj1 _ _ l0_1 gb221 A0_0 c0_0 l0_0 A0_1 c0_1 l0_1 a0_2 a0_3 t225 _ ?side1 ?side2 ?side3 ?side4 ?side5 ?side6 ?side7 A16.out).mono ?_); (case side1 => repeat (first | exact (yY HR0_1.out HB.out) | (with_reducible first | refine yV ?_ _ | refine yW ?_ _ | refine yX ?_))); (case side2 => exact HC0_1.out); (case side3 => repeat (first | exact (yY HR0_0.out HB.out) | (with_reducible first | refine yV ?_ _ | refine yW ?_ _ | refine yX ?_))); (case side4 => exact HC0_0.out); (case side5 => repeat (first | exact (yY HR0_1.out HB.out) | (with_reducible first | refine yV ?_ _ | refine yW ?_ _ | refine yX ?_))); (case side6 => exact HC0_1.out); (case side7 => (with_reducible repeat (first | refine yM ?_ _ | refine yO ?_ | refine yN ?_ _)); exact BK221.out); rintro e w20 ⟨rfl, hb⟩; refine ⟨_, rfl, ?_⟩; have n0_ := yD (zB (g := gb221) (o := .cells #[.slice A0_0 l0_0.length c0_0, .slice A0_1 l0_1.length c0_1, .int .i64 a0_2, .bool a0_3] 31 (0, 0)) (by (with_reducible repeat (first | refine yM ?_ _ | refine yO ?_ | refine yN ?_ _)); exact BK221.out) hb); have n1_ := yD (zC (by repeat (first | (with_reducible first | exact HB.out | apply yQ | apply yL | apply yP | refine yE ?_ GE221.out) | exact HB.out)) hb); clear BK221; clear HB; have BK221 := n0_; have HB := n1_; clear n0_ n1_; (try clear hb); (try clear hb2); (try clear hk); (try clear hi)))
          go_ret
          exact ⟨by first | rfl | (simp <;> rfl) | (simp [*] <;> rfl), by repeat (first | (with_reducible first | exact HB.out | apply yQ | apply yL | apply yP | refine yE ?_ GE221.out) | exact HB.out)⟩

/-! ### impl_ValidSuper: function 62 -/
def impl_ValidSuper.f (a0_0 : Int) (a0_1 : Int) (a0_2 : Int) (a0_3 : Int) : Option (Bool) := (impl_within.f a0_0 16 256).bind fun t227 => (if t227 = true then ((impl_within.f a0_1 8 (mn 64 (wrap64 (a0_0 - 4)))).bind fun t228 => (if t228 = true then ((impl_within.f a0_2 0 1000000000000).bind fun t229 => (if t229 = true then ((impl_within.f a0_3 0 1000000000000).bind fun t230 => (some t230)) else (some false))) else (some false))) else (some false))
set_option maxHeartbeats 8000000 in
set_option maxRecDepth 100000 in
theorem impl_ValidSuper.calls (a0_0 : Int) (a0_1 : Int) (a0_2 : Int) (a0_3 : Int) (r : Bool) (w : World) (h : impl_ValidSuper.f a0_0 a0_1 a0_2 a0_3 = some r) :
    Calls Try.prog 62 #[.agg #[.int .i64 a0_0, .int .i64 a0_1, .int .i64 a0_2, .int .i64 a0_3]] w fun e w' => e = .returned (.bool r) ∧ Below w.heap.size w w' := by
  have hu45 := Try.underlying45
  have HB := yD (Below.refl w.heap.size w)
  have H : ((impl_within.f a0_0 16 256).bind fun t227 => (if t227 = true then ((impl_within.f a0_1 8 (mn 64 (wrap64 (a0_0 - 4)))).bind fun t228 => (if t228 = true then ((impl_within.f a0_2 0 1000000000000).bind fun t229 => (if t229 = true then ((impl_within.f a0_3 0 1000000000000).bind fun t230 => (some t230)) else (some false))) else (some false))) else (some false))) = some r := h
  clear h
  obtain ⟨t227, A20, H⟩ := zW_ H
  replace H : (if t227 = true then ((impl_within.f a0_1 8 (mn 64 (wrap64 (a0_0 - 4)))).bind fun t228 => (if t228 = true then ((impl_within.f a0_2 0 1000000000000).bind fun t229 => (if t229 = true then ((impl_within.f a0_3 0 1000000000000).bind fun t230 => (some t230)) else (some false))) else (some false))) else (some false)) = some r := H
  have A2 := yD A20
  clear A20
  by_cases c3 : t227 = true
  · subst c3
    have H1 : ((impl_within.f a0_1 8 (mn 64 (wrap64 (a0_0 - 4)))).bind fun t228 => (if t228 = true then ((impl_within.f a0_2 0 1000000000000).bind fun t229 => (if t229 = true then ((impl_within.f a0_3 0 1000000000000).bind fun t230 => (some t230)) else (some false))) else (some false))) = some r := by rw [if_pos rfl] at H; exact H
    clear H; have H := H1; clear H1
    obtain ⟨ji4, hji4⟩ : ∃ j_ : Int, (mn 64 (wrap64 (a0_0 - 4))) = j_ := ⟨_, rfl⟩
    replace H : ((impl_within.f a0_1 8 (ji4)).bind fun t228 => (if t228 = true then ((impl_within.f a0_2 0 1000000000000).bind fun t229 => (if t229 = true then ((impl_within.f a0_3 0 1000000000000).bind fun t230 => (some t230)) else (some false))) else (some false))) = some r := by first | (rw [hji4] at H; exact H) | (simp only [hji4] at H ⊢; exact H)
    (try rw [hji4] at A2)
    (try (have hji4h : ji4 ≤ 64 := by (rw [← hji4]; unfold mn; (repeat' split) <;> omega)))
    (try (have hji4g : ji4 ≤ 64 := by omega))
    have hji4_ : (if (wrap64 (a0_0 - 4)) < 64 then (wrap64 (a0_0 - 4)) else 64) = ji4 := hji4
    obtain ⟨t228, A50, H⟩ := zW_ H
    replace H : (if t228 = true then ((impl_within.f a0_2 0 1000000000000).bind fun t229 => (if t229 = true then ((impl_within.f a0_3 0 1000000000000).bind fun t230 => (some t230)) else (some false))) else (some false)) = some r := H
    have A5 := yD A50
    clear A50
    by_cases c6 : t228 = true
    · subst c6
      have H1 : ((impl_within.f a0_2 0 1000000000000).bind fun t229 => (if t229 = true then ((impl_within.f a0_3 0 1000000000000).bind fun t230 => (some t230)) else (some false))) = some r := by rw [if_pos rfl] at H; exact H
      clear H; have H := H1; clear H1
      obtain ⟨t229, A70, H⟩ := zW_ H
      replace H : (if t229 = true then ((impl_within.f a0_3 0 1000000000000).bind fun t230 => (some t230)) else (some false)) = some r := H
      have A7 := yD A70
      clear A70
      by_cases c8 : t229 = true
      · subst c8
        have H1 : ((impl_within.f a0_3 0 1000000000000).bind fun t230 => (some t230)) = some r := by rw [if_pos rfl] at H; exact H
        clear H; have H := H1; clear H1
        obtain ⟨t230, A90, H⟩ := zW_ H
        replace H : (some t230) = some r := H
        have A9 := yD A90
        clear A90; obtain rfl := Option.some.inj H; go_enter Try.func62, Try.ntmps62
        go_wp2_with (first | ((with_reducible refine gate_dst (N := 1) rfl ?_); (try (refine gate_guard (by rfl) ?_; dsimp only)); refine box_event ?hg (N := 1) ?hd (cs := #[.int .i64 a0_0, .int .i64 a0_1, .int .i64 a0_2, .int .i64 a0_3]) (t := 45) ?hr ?_; (case hd => rfl); (case hg => rfl); (case hr => first | (go_simp; done) | (go_simp; rfl)); intro gb226 hg w10 hbox hb; have n0_ := yD (zC (by repeat (first | (with_reducible first | exact HB.out | apply yQ | apply yL | apply yP) | exact HB.out)) hb); have n1_ := yD (hbox); have n2_ := yD ((by rw [hg]; exact (below_size (by repeat (first | (with_reducible first | exact HB.out | apply yQ | apply yL | apply yP) | exact HB.out))) : w.heap.size ≤ gb226)); have n3_ := yD ((by rw [hg]; exact (below_size (by repeat (first | (with_reducible first | exact HB.out | apply yQ | apply yL | apply yP) | exact HB.out))) : w.heap.size ≤ gb226)); clear HB; have HB := n0_; have BK226 := n1_; have GW226 := n2_; have GE226 := n3_; clear n0_ n1_ n2_ n3_; clear hb hbox hg; obtain ⟨hcz11_0, hcz11_1, hcz11_2, hcz11_3⟩ := cz4 BK226.out; obtain ⟨hfz11_0, hfz11_1, hfz11_2, hfz11_3⟩ := fz4 BK226.out) | ((with_reducible refine gate_callee (f := 37) rfl ?_); refine goesL_ (some 5) rfl rfl Try.func37 (by kernel_rfl) rfl #[.int .i64 a0_0, .int .i64 16, .int .i64 256] rfl (by (try simp only [zK, zL, zM]); first | done | rfl | (simp only [zN, zO]; rfl)) ?_; (with_reducible refine (impl_within.calls a0_0 16 256 true _ A2.out).mono ?_); rintro e w' ⟨rfl, ⟨nd, rfl⟩⟩; refine ⟨_, rfl, ?_⟩) | (go_at_call 37; (with_reducible refine (impl_within.calls a0_1 8 ji4 true _ A5.out).mono ?_); rintro e w' ⟨rfl, ⟨nd, rfl⟩⟩) | (go_at_call 37; (with_reducible refine (impl_within.calls a0_2 0 1000000000000 true _ A7.out).mono ?_); rintro e w' ⟨rfl, ⟨nd, rfl⟩⟩) | (go_at_call 37; (with_reducible refine (impl_within.calls a0_3 0 1000000000000 t230 _ A9.out).mono ?_); rintro e w' ⟨rfl, ⟨nd, rfl⟩⟩))
        go_ret
        exact ⟨by first | rfl | (simp [errW_none, errW_some] <;> rfl) | (simp only [← hji4]; first | rfl | (simp [errW_none, errW_some] <;> rfl)) | (simp [*, errW_none, errW_some] <;> rfl), by repeat (first | (with_reducible first | exact HB.out | apply yQ | apply yL | apply yP | refine yE ?_ GE226.out) | exact HB.out)⟩
      · replace c8 := Bool.eq_false_iff.mpr c8
        subst c8
        have H1 : (some false) = some r := by rw [if_neg (show ¬ (false = true) by decide)] at H; exact H
        clear H; have H := H1; clear H1; obtain rfl := Option.some.inj H; go_enter Try.func62, Try.ntmps62
        go_wp2_with (first | ((with_reducible refine gate_dst (N := 1) rfl ?_); (try (refine gate_guard (by rfl) ?_; dsimp only)); refine box_event ?hg (N := 1) ?hd (cs := #[.int .i64 a0_0, .int .i64 a0_1, .int .i64 a0_2, .int .i64 a0_3]) (t := 45) ?hr ?_; (case hd => rfl); (case hg => rfl); (case hr => first | (go_simp; done) | (go_simp; rfl)); intro gb226 hg w12 hbox hb; have n0_ := yD (zC (by repeat (first | (with_reducible first | exact HB.out | apply yQ | apply yL | apply yP) | exact HB.out)) hb); have n1_ := yD (hbox); have n2_ := yD ((by rw [hg]; exact (below_size (by repeat (first | (with_reducible first | exact HB.out | apply yQ | apply yL | apply yP) | exact HB.out))) : w.heap.size ≤ gb226)); have n3_ := yD ((by rw [hg]; exact (below_size (by repeat (first | (with_reducible first | exact HB.out | apply yQ | apply yL | apply yP) | exact HB.out))) : w.heap.size ≤ gb226)); clear HB; have HB := n0_; have BK226 := n1_; have GW226 := n2_; have GE226 := n3_; clear n0_ n1_ n2_ n3_; clear hb hbox hg; obtain ⟨hcz13_0, hcz13_1, hcz13_2, hcz13_3⟩ := cz4 BK226.out; obtain ⟨hfz13_0, hfz13_1, hfz13_2, hfz13_3⟩ := fz4 BK226.out) | ((with_reducible refine gate_callee (f := 37) rfl ?_); refine goesL_ (some 5) rfl rfl Try.func37 (by kernel_rfl) rfl #[.int .i64 a0_0, .int .i64 16, .int .i64 256] rfl (by (try simp only [zK, zL, zM]); first | done | rfl | (simp only [zN, zO]; rfl)) ?_; (with_reducible refine (impl_within.calls a0_0 16 256 true _ A2.out).mono ?_); rintro e w' ⟨rfl, ⟨nd, rfl⟩⟩; refine ⟨_, rfl, ?_⟩) | (go_at_call 37; (with_reducible refine (impl_within.calls a0_1 8 ji4 true _ A5.out).mono ?_); rintro e w' ⟨rfl, ⟨nd, rfl⟩⟩) | (go_at_call 37; (with_reducible refine (impl_within.calls a0_2 0 1000000000000 false _ A7.out).mono ?_); rintro e w' ⟨rfl, ⟨nd, rfl⟩⟩))
        go_ret
        exact ⟨by first | rfl | (simp [errW_none, errW_some] <;> rfl) | (simp only [← hji4]; first | rfl | (simp [errW_none, errW_some] <;> rfl)) | (simp [*, errW_none, errW_some] <;> rfl), by repeat (first | (with_reducible first | exact HB.out | apply yQ | apply yL | apply yP | refine yE ?_ GE226.out) | exact HB.out)⟩
    · replace c6 := Bool.eq_false_iff.mpr c6
      subst c6
      have H1 : (some false) = some r := by rw [if_neg (show ¬ (false = true) by decide)] at H; exact H
      clear H; have H := H1; clear H1; obtain rfl := Option.some.inj H; go_enter Try.func62, Try.ntmps62
      go_wp2_with (first | ((with_reducible refine gate_dst (N := 1) rfl ?_); (try (refine gate_guard (by rfl) ?_; dsimp only)); refine box_event ?hg (N := 1) ?hd (cs := #[.int .i64 a0_0, .int .i64 a0_1, .int .i64 a0_2, .int .i64 a0_3]) (t := 45) ?hr ?_; (case hd => rfl); (case hg => rfl); (case hr => first | (go_simp; done) | (go_simp; rfl)); intro gb226 hg w14 hbox hb; have n0_ := yD (zC (by repeat (first | (with_reducible first | exact HB.out | apply yQ | apply yL | apply yP) | exact HB.out)) hb); have n1_ := yD (hbox); have n2_ := yD ((by rw [hg]; exact (below_size (by repeat (first | (with_reducible first | exact HB.out | apply yQ | apply yL | apply yP) | exact HB.out))) : w.heap.size ≤ gb226)); have n3_ := yD ((by rw [hg]; exact (below_size (by repeat (first | (with_reducible first | exact HB.out | apply yQ | apply yL | apply yP) | exact HB.out))) : w.heap.size ≤ gb226)); clear HB; have HB := n0_; have BK226 := n1_; have GW226 := n2_; have GE226 := n3_; clear n0_ n1_ n2_ n3_; clear hb hbox hg; obtain ⟨hcz15_0, hcz15_1, hcz15_2, hcz15_3⟩ := cz4 BK226.out; obtain ⟨hfz15_0, hfz15_1, hfz15_2, hfz15_3⟩ := fz4 BK226.out) | ((with_reducible refine gate_callee (f := 37) rfl ?_); refine goesL_ (some 5) rfl rfl Try.func37 (by kernel_rfl) rfl #[.int .i64 a0_0, .int .i64 16, .int .i64 256] rfl (by (try simp only [zK, zL, zM]); first | done | rfl | (simp only [zN, zO]; rfl)) ?_; (with_reducible refine (impl_within.calls a0_0 16 256 true _ A2.out).mono ?_); rintro e w' ⟨rfl, ⟨nd, rfl⟩⟩; refine ⟨_, rfl, ?_⟩) | (go_at_call 37; (with_reducible refine (impl_within.calls a0_1 8 ji4 false _ A5.out).mono ?_); rintro e w' ⟨rfl, ⟨nd, rfl⟩⟩))
      go_ret
      exact ⟨by first | rfl | (simp [errW_none, errW_some] <;> rfl) | (simp only [← hji4]; first | rfl | (simp [errW_none, errW_some] <;> rfl)) | (simp [*, errW_none, errW_some] <;> rfl), by repeat (first | (with_reducible first | exact HB.out | apply yQ | apply yL | apply yP | refine yE ?_ GE226.out) | exact HB.out)⟩
  · replace c3 := Bool.eq_false_iff.mpr c3
    subst c3
    have H1 : (some false) = some r := by rw [if_neg (show ¬ (false = true) by decide)] at H; exact H
    clear H; have H := H1; clear H1; obtain rfl := Option.some.inj H; go_enter Try.func62, Try.ntmps62
    go_wp2_with (first | ((with_reducible refine gate_dst (N := 1) rfl ?_); (try (refine gate_guard (by rfl) ?_; dsimp only)); refine box_event ?hg (N := 1) ?hd (cs := #[.int .i64 a0_0, .int .i64 a0_1, .int .i64 a0_2, .int .i64 a0_3]) (t := 45) ?hr ?_; (case hd => rfl); (case hg => rfl); (case hr => first | (go_simp; done) | (go_simp; rfl)); intro gb226 hg w16 hbox hb; have n0_ := yD (zC (by repeat (first | (with_reducible first | exact HB.out | apply yQ | apply yL | apply yP) | exact HB.out)) hb); have n1_ := yD (hbox); have n2_ := yD ((by rw [hg]; exact (below_size (by repeat (first | (with_reducible first | exact HB.out | apply yQ | apply yL | apply yP) | exact HB.out))) : w.heap.size ≤ gb226)); have n3_ := yD ((by rw [hg]; exact (below_size (by repeat (first | (with_reducible first | exact HB.out | apply yQ | apply yL | apply yP) | exact HB.out))) : w.heap.size ≤ gb226)); clear HB; have HB := n0_; have BK226 := n1_; have GW226 := n2_; have GE226 := n3_; clear n0_ n1_ n2_ n3_; clear hb hbox hg; obtain ⟨hcz17_0, hcz17_1, hcz17_2, hcz17_3⟩ := cz4 BK226.out; obtain ⟨hfz17_0, hfz17_1, hfz17_2, hfz17_3⟩ := fz4 BK226.out) | ((with_reducible refine gate_callee (f := 37) rfl ?_); refine goesL_ (some 5) rfl rfl Try.func37 (by kernel_rfl) rfl #[.int .i64 a0_0, .int .i64 16, .int .i64 256] rfl (by (try simp only [zK, zL, zM]); first | done | rfl | (simp only [zN, zO]; rfl)) ?_; (with_reducible refine (impl_within.calls a0_0 16 256 false _ A2.out).mono ?_); rintro e w' ⟨rfl, ⟨nd, rfl⟩⟩; refine ⟨_, rfl, ?_⟩))
    go_ret
    exact ⟨by first | rfl | (simp <;> rfl) | (simp [*] <;> rfl), by repeat (first | (with_reducible first | exact HB.out | apply yQ | apply yL | apply yP | refine yE ?_ GE226.out) | exact HB.out)⟩

/-! ### impl_superFits: function 36 -/
def impl_superFits.f (k : Nat) (l0_0 : List ByteArray) (l0_1 : List (S58)) (a0_2 : Int) (a0_3 : Bool) (a1_0 : Int) (a1_1 : Int) (a1_2 : Int) (a1_3 : Int) : Option (Bool) := (impl_ValidDisk.f k l0_0 l0_1 a0_2 a0_3).bind fun t233 => (if t233 = true then ((impl_ValidSuper.f a1_0 a1_1 a1_2 a1_3).bind fun t234 => (if t234 = true then (some (a1_0 == (l0_0.length : Int))) else (some false))) else (some false))
theorem impl_superFits.mono : ∀ a0 a1 a2 a3 a4 a5 a6 a7 k, LeO (impl_superFits.f k a0 a1 a2 a3 a4 a5 a6 a7) (impl_superFits.f (k + 1) a0 a1 a2 a3 a4 a5 a6 a7) := by
  intro a0 a1 a2 a3 a4 a5 a6 a7 k
  unfold impl_superFits.f
  repeat' first
      | (with_reducible exact impl_ValidDisk.mono _ _ _ _ _)
      | (with_reducible exact LeO.refl _)
      | (with_reducible exact LeO.none _)
      | (with_reducible refine LeO.ite ?_ ?_)
      | (with_reducible refine LeO.bind ?_ (fun _ => ?_))
      | exact impl_ValidDisk.mono _ _ _ _ _
      | exact LeO.none _
      | refine LeO.ite ?_ ?_
      | refine LeO.bind ?_ (fun _ => ?_)
set_option maxHeartbeats 8000000 in
set_option maxRecDepth 100000 in
theorem impl_superFits.calls (k : Nat) (A0_0 : Option Addr) (c0_0 : Nat) (l0_0 : List ByteArray) (A0_1 : Option Addr) (c0_1 : Nat) (l0_1 : List (S58)) (a0_2 : Int) (a0_3 : Bool) (a1_0 : Int) (a1_1 : Int) (a1_2 : Int) (a1_3 : Int) (r : Bool) (w : World) (hr0_0 : Kd.C Kd.string w A0_0 l0_0.length l0_0) (hc0_0 : l0_0.length ≤ c0_0) (hr0_1 : Kd.C k58 w A0_1 l0_1.length l0_1) (hc0_1 : l0_1.length ≤ c0_1) (h : impl_superFits.f k l0_0 l0_1 a0_2 a0_3 a1_0 a1_1 a1_2 a1_3 = some r) :
    Calls Try.prog 36 #[.agg #[.slice A0_0 l0_0.length c0_0, .slice A0_1 l0_1.length c0_1, .int .i64 a0_2, .bool a0_3], .agg #[.int .i64 a1_0, .int .i64 a1_1, .int .i64 a1_2, .int .i64 a1_3]] w fun e w' => e = .returned (.bool r) ∧ Below w.heap.size w w' := by
  have hu31 := Try.underlying31; have hu45 := Try.underlying45
  have HR0_0 := yD hr0_0
  have HC0_0 := yD hc0_0
  clear hr0_0 hc0_0
  have HR0_1 := yD hr0_1
  have HC0_1 := yD hc0_1
  clear hr0_1 hc0_1
  have HB := yD (Below.refl w.heap.size w)
  have H : ((impl_ValidDisk.f k l0_0 l0_1 a0_2 a0_3).bind fun t233 => (if t233 = true then ((impl_ValidSuper.f a1_0 a1_1 a1_2 a1_3).bind fun t234 => (if t234 = true then (some (a1_0 == (l0_0.length : Int))) else (some false))) else (some false))) = some r := h
  clear h
  obtain ⟨t233, A30, H⟩ := zW_ H
  replace H : (if t233 = true then ((impl_ValidSuper.f a1_0 a1_1 a1_2 a1_3).bind fun t234 => (if t234 = true then (some (a1_0 == (l0_0.length : Int))) else (some false))) else (some false)) = some r := H
  have A3 := yD A30
  clear A30
  by_cases c4 : t233 = true
  · subst c4
    have H1 : ((impl_ValidSuper.f a1_0 a1_1 a1_2 a1_3).bind fun t234 => (if t234 = true then (some (a1_0 == (l0_0.length : Int))) else (some false))) = some r := by rw [if_pos rfl] at H; exact H
    clear H; have H := H1; clear H1
    obtain ⟨t234, A50, H⟩ := zW_ H
    replace H : (if t234 = true then (some (a1_0 == (l0_0.length : Int))) else (some false)) = some r := H
    have A5 := yD A50
    clear A50
    by_cases c6 : t234 = true
    · subst c6
      have H1 : (some (a1_0 == (l0_0.length : Int))) = some r := by rw [if_pos rfl] at H; exact H
      clear H; have H := H1; clear H1; obtain rfl := Option.some.inj H; go_enter Try.func36, Try.ntmps36
      go_wp2_with (first | ((with_reducible refine gate_dst (N := 2) rfl ?_); (try (refine gate_guard (by rfl) ?_; dsimp only)); refine box_event ?hg (N := 2) ?hd (cs := #[.slice A0_0 l0_0.length c0_0, .slice A0_1 l0_1.length c0_1, .int .i64 a0_2, .bool a0_3]) (t := 31) ?hr ?_; (case hd => rfl); (case hg => rfl); (case hr => first | (go_simp; done) | (go_simp; rfl)); intro gb231 hg w7 hbox hb; have n0_ := yD (zC (by repeat (first | (with_reducible first | exact HB.out | apply yQ | apply yL | apply yP) | exact HB.out)) hb); have n1_ := yD (hbox); have n2_ := yD ((by rw [hg]; exact (below_size (by repeat (first | (with_reducible first | exact HB.out | apply yQ | apply yL | apply yP) | exact HB.out))) : w.heap.size ≤ gb231)); have n3_ := yD ((by rw [hg]; exact (below_size (by repeat (first | (with_reducible first | exact HB.out | apply yQ | apply yL | apply yP) | exact HB.out))) : w.heap.size ≤ gb231)); clear HB; have HB := n0_; have BK231 := n1_; have GW231 := n2_; have GE231 := n3_; clear n0_ n1_ n2_ n3_; clear hb hbox hg) | ((with_reducible refine gate_dst (N := 3) rfl ?_); (try (refine gate_guard (by rfl) ?_; dsimp only)); refine box_event ?hg (N := 3) ?hd (cs := #[.int .i64 a1_0, .int .i64 a1_1, .int .i64 a1_2, .int .i64 a1_3]) (t := 45) ?hr ?_; (case hd => rfl); (case hg => rfl); (case hr => first | (go_simp; done) | (go_simp; rfl)); intro gb232 hg w8 hbox hb; have n0_ := yD (zB (g := gb231) (o := .cells #[.slice A0_0 l0_0.length c0_0, .slice A0_1 l0_1.length c0_1, .int .i64 a0_2, .bool a0_3] 31 (0, 0)) (by (with_reducible repeat (first | refine yM ?_ _ | refine yO ?_ | refine yN ?_ _)); exact BK231.out) hb); have n1_ := yD (zC (by repeat (first | (with_reducible first | exact HB.out | apply yQ | apply yL | apply yP | refine yE ?_ GE231.out) | exact HB.out)) hb); have n2_ := yD (hbox); have n3_ := yD ((by rw [hg]; exact (below_size (by repeat (first | (with_reducible first | exact HB.out | apply yQ | apply yL | apply yP | refine yE ?_ GE231.out) | exact HB.out))) : w.heap.size ≤ gb232)); have n4_ := yD ((by rw [hg]; exact (below_size (by repeat (first | (with_reducible first | exact HB.out | apply yQ | apply yL | apply yP | refine yE ?_ GE231.out) | exact HB.out))) : w.heap.size ≤ gb232)); have n5_ := yD ((by rw [hg]; exact Nat.ne_of_lt (blk_lt (g := gb231) (o := .cells #[.slice A0_0 l0_0.length c0_0, .slice A0_1 l0_1.length c0_1, .int .i64 a0_2, .bool a0_3] 31 (0, 0)) (by (with_reducible repeat (first | refine yM ?_ _ | refine yO ?_ | refine yN ?_ _)); exact BK231.out)) : gb231 ≠ gb232)); have n6_ := yD ((by rw [hg]; exact Nat.ne_of_gt (blk_lt (g := gb231) (o := .cells #[.slice A0_0 l0_0.length c0_0, .slice A0_1 l0_1.length c0_1, .int .i64 a0_2, .bool a0_3] 31 (0, 0)) (by (with_reducible repeat (first | refine yM ?_ _ | refine yO ?_ | refine yN ?_ _)); exact BK231.out)) : gb232 ≠ gb231)); clear BK231; clear HB; have BK231 := n0_; have HB := n1_; have BK232 := n2_; have GW232 := n3_; have GE232 := n4_; have NB231_232 := n5_; have NB232_231 := n6_; clear n0_ n1_ n2_ n3_ n4_ n5_ n6_; clear hb hbox hg; have hnb9 := NB231_232.out; have hnc9 := NB232_231.out; obtain ⟨hcz10_0, hcz10_1, hcz10_2, hcz10_3⟩ := cz4 BK231.out; obtain ⟨hfz10_0, hfz10_1, hfz10_2, hfz10_3⟩ := fz4 BK231.out) | ((with_reducible refine gate_callee (f := 25) rfl ?_); refine goesL_ (some 6) rfl rfl Try.func25 (by kernel_rfl) rfl #[.agg #[.slice A0_0 l0_0.length c0_0, .slice A0_1 l0_1.length c0_1, .int .i64 a0_2, .bool a0_3]] rfl (by (try simp only [zK, zL, zM]); first | done | rfl | (simp only [zN, zO]; rfl)) ?_; (with_reducible refine (impl_ValidDisk.calls k _ _ l0_0 _ _ l0_1 a0_2 a0_3 true _ ?side1 ?side2 ?side3 ?side4 A3.out).mono ?_); (case side1 => repeat (first | exact (yY HR0_0.out HB.out) | (with_reducible first | refine yV ?_ _ | refine yW ?_ _ | refine yX ?_))); (case side2 => exact HC0_0.out); (case side3 => repeat (first | exact (yY HR0_1.out HB.out) | (with_reducible first | refine yV ?_ _ | refine yW ?_ _ | refine yX ?_))); (case side4 => exact HC0_1.out); rintro e w11 ⟨rfl, hb⟩; refine ⟨_, rfl, ?_⟩; have n0_ := yD (zB (g := gb231) (o := .cells #[.slice A0_0 l0_0.length c0_0, .slice A0_1 l0_1.length c0_1, .int .i64 a0_2, .bool a0_3] 31 (0, 0)) (by (with_reducible repeat (first | refine yM ?_ _ | refine yO ?_ | refine yN ?_ _)); exact BK231.out) hb); have n1_ := yD (zB (g := gb232) (o := .cells #[.int .i64 a1_0, .int .i64 a1_1, .int .i64 a1_2, .int .i64 a1_3] 45 (0, 0)) (by (with_reducible repeat (first | refine yM ?_ _ | refine yO ?_ | refine yN ?_ _)); exact BK232.out) hb); have n2_ := yD (zC (by repeat (first | (with_reducible first | exact HB.out | apply yQ | apply yL | apply yP | refine yE ?_ GE231.out | refine yE ?_ GE232.out) | exact HB.out)) hb); clear BK231; clear BK232; clear HB; have BK231 := n0_; have BK232 := n1_; have HB := n2_; clear n0_ n1_ n2_; (try clear hb); (try clear hb2); (try clear hk); (try clear hi); obtain ⟨hcz12_0, hcz12_1, hcz12_2, hcz12_3⟩ := cz4 BK232.out; obtain ⟨hfz12_0, hfz12_1, hfz12_2, hfz12_3⟩ := fz4 BK232.out) | (go_at_call 62; (with_reducible refine (impl_ValidSuper.calls a1_0 a1_1 a1_2 a1_3 true _ A5.out).mono ?_); rintro e w13 ⟨rfl, hb⟩; have n0_ := yD (zB (g := gb231) (o := .cells #[.slice A0_0 l0_0.length c0_0, .slice A0_1 l0_1.length c0_1, .int .i64 a0_2, .bool a0_3] 31 (0, 0)) (by (with_reducible repeat (first | refine yM ?_ _ | refine yO ?_ | refine yN ?_ _)); exact BK231.out) hb); have n1_ := yD (zB (g := gb232) (o := .cells #[.int .i64 a1_0, .int .i64 a1_1, .int .i64 a1_2, .int .i64 a1_3] 45 (0, 0)) (by (with_reducible repeat (first | refine yM ?_ _ | refine yO ?_ | refine yN ?_ _)); exact BK232.out) hb); have n2_ := yD (zC (by repeat (first | (with_reducible first | exact HB.out | apply yQ | apply yL | apply yP | refine yE ?_ GE231.out | refine yE ?_ GE232.out) | exact HB.out)) hb); clear BK231; clear BK232; clear HB; have BK231 := n0_; have BK232 := n1_; have HB := n2_; clear n0_ n1_ n2_; (try clear hb); (try clear hb2); (try clear hk); (try clear hi); obtain ⟨hcz14_0, hcz14_1, hcz14_2, hcz14_3⟩ := cz4 BK232.out; obtain ⟨hfz14_0, hfz14_1, hfz14_2, hfz14_3⟩ := fz4 BK232.out; obtain ⟨hcz15_0, hcz15_1, hcz15_2, hcz15_3⟩ := cz4 BK231.out; obtain ⟨hfz15_0, hfz15_1, hfz15_2, hfz15_3⟩ := fz4 BK231.out))
      go_ret
      exact ⟨by first | rfl | (simp <;> rfl) | (simp [*] <;> rfl), by repeat (first | (with_reducible first | exact HB.out | apply yQ | apply yL | apply yP | refine yE ?_ GE231.out | refine yE ?_ GE232.out) | exact HB.out)⟩
    · replace c6 := Bool.eq_false_iff.mpr c6
      subst c6
      have H1 : (some false) = some r := by rw [if_neg (show ¬ (false = true) by decide)] at H; exact H
      clear H; have H := H1; clear H1; obtain rfl := Option.some.inj H; go_enter Try.func36, Try.ntmps36
      go_wp2_with (first | ((with_reducible refine gate_dst (N := 2) rfl ?_); (try (refine gate_guard (by rfl) ?_; dsimp only)); refine box_event ?hg (N := 2) ?hd (cs := #[.slice A0_0 l0_0.length c0_0, .slice A0_1 l0_1.length c0_1, .int .i64 a0_2, .bool a0_3]) (t := 31) ?hr ?_; (case hd => rfl); (case hg => rfl); (case hr => first | (go_simp; done) | (go_simp; rfl)); intro gb231 hg w16 hbox hb; have n0_ := yD (zC (by repeat (first | (with_reducible first | exact HB.out | apply yQ | apply yL | apply yP) | exact HB.out)) hb); have n1_ := yD (hbox); have n2_ := yD ((by rw [hg]; exact (below_size (by repeat (first | (with_reducible first | exact HB.out | apply yQ | apply yL | apply yP) | exact HB.out))) : w.heap.size ≤ gb231)); have n3_ := yD ((by rw [hg]; exact (below_size (by repeat (first | (with_reducible first | exact HB.out | apply yQ | apply yL | apply yP) | exact HB.out))) : w.heap.size ≤ gb231)); clear HB; have HB := n0_; have BK231 := n1_; have GW231 := n2_; have GE231 := n3_; clear n0_ n1_ n2_ n3_; clear hb hbox hg) | ((with_reducible refine gate_dst (N := 3) rfl ?_); (try (refine gate_guard (by rfl) ?_; dsimp only)); refine box_event ?hg (N := 3) ?hd (cs := #[.int .i64 a1_0, .int .i64 a1_1, .int .i64 a1_2, .int .i64 a1_3]) (t := 45) ?hr ?_; (case hd => rfl); (case hg => rfl); (case hr => first | (go_simp; done) | (go_simp; rfl)); intro gb232 hg w17 hbox hb; have n0_ := yD (zB (g := gb231) (o := .cells #[.slice A0_0 l0_0.length c0_0, .slice A0_1 l0_1.length c0_1, .int .i64 a0_2, .bool a0_3] 31 (0, 0)) (by (with_reducible repeat (first | refine yM ?_ _ | refine yO ?_ | refine yN ?_ _)); exact BK231.out) hb); have n1_ := yD (zC (by repeat (first | (with_reducible first | exact HB.out | apply yQ | apply yL | apply yP | refine yE ?_ GE231.out) | exact HB.out)) hb); have n2_ := yD (hbox); have n3_ := yD ((by rw [hg]; exact (below_size (by repeat (first | (with_reducible first | exact HB.out | apply yQ | apply yL | apply yP | refine yE ?_ GE231.out) | exact HB.out))) : w.heap.size ≤ gb232)); have n4_ := yD ((by rw [hg]; exact (below_size (by repeat (first | (with_reducible first | exact HB.out | apply yQ | apply yL | apply yP | refine yE ?_ GE231.out) | exact HB.out))) : w.heap.size ≤ gb232)); have n5_ := yD ((by rw [hg]; exact Nat.ne_of_lt (blk_lt (g := gb231) (o := .cells #[.slice A0_0 l0_0.length c0_0, .slice A0_1 l0_1.length c0_1, .int .i64 a0_2, .bool a0_3] 31 (0, 0)) (by (with_reducible repeat (first | refine yM ?_ _ | refine yO ?_ | refine yN ?_ _)); exact BK231.out)) : gb231 ≠ gb232)); have n6_ := yD ((by rw [hg]; exact Nat.ne_of_gt (blk_lt (g := gb231) (o := .cells #[.slice A0_0 l0_0.length c0_0, .slice A0_1 l0_1.length c0_1, .int .i64 a0_2, .bool a0_3] 31 (0, 0)) (by (with_reducible repeat (first | refine yM ?_ _ | refine yO ?_ | refine yN ?_ _)); exact BK231.out)) : gb232 ≠ gb231)); clear BK231; clear HB; have BK231 := n0_; have HB := n1_; have BK232 := n2_; have GW232 := n3_; have GE232 := n4_; have NB231_232 := n5_; have NB232_231 := n6_; clear n0_ n1_ n2_ n3_ n4_ n5_ n6_; clear hb hbox hg; have hnb18 := NB231_232.out; have hnc18 := NB232_231.out; obtain ⟨hcz19_0, hcz19_1, hcz19_2, hcz19_3⟩ := cz4 BK231.out; obtain ⟨hfz19_0, hfz19_1, hfz19_2, hfz19_3⟩ := fz4 BK231.out) | ((with_reducible refine gate_callee (f := 25) rfl ?_); refine goesL_ (some 6) rfl rfl Try.func25 (by kernel_rfl) rfl #[.agg #[.slice A0_0 l0_0.length c0_0, .slice A0_1 l0_1.length c0_1, .int .i64 a0_2, .bool a0_3]] rfl (by (try simp only [zK, zL, zM]); first | done | rfl | (simp only [zN, zO]; rfl)) ?_; (with_reducible refine (impl_ValidDisk.calls k _ _ l0_0 _ _ l0_1 a0_2 a0_3 true _ ?side1 ?side2 ?side3 ?side4 A3.out).mono ?_); (case side1 => repeat (first | exact (yY HR0_0.out HB.out) | (with_reducible first | refine yV ?_ _ | refine yW ?_ _ | refine yX ?_))); (case side2 => exact HC0_0.out); (case side3 => repeat (first | exact (yY HR0_1.out HB.out) | (with_reducible first | refine yV ?_ _ | refine yW ?_ _ | refine yX ?_))); (case side4 => exact HC0_1.out); rintro e w20 ⟨rfl, hb⟩; refine ⟨_, rfl, ?_⟩; have n0_ := yD (zB (g := gb231) (o := .cells #[.slice A0_0 l0_0.length c0_0, .slice A0_1 l0_1.length c0_1, .int .i64 a0_2, .bool a0_3] 31 (0, 0)) (by (with_reducible repeat (first | refine yM ?_ _ | refine yO ?_ | refine yN ?_ _)); exact BK231.out) hb); have n1_ := yD (zB (g := gb232) (o := .cells #[.int .i64 a1_0, .int .i64 a1_1, .int .i64 a1_2, .int .i64 a1_3] 45 (0, 0)) (by (with_reducible repeat (first | refine yM ?_ _ | refine yO ?_ | refine yN ?_ _)); exact BK232.out) hb); have n2_ := yD (zC (by repeat (first | (with_reducible first | exact HB.out | apply yQ | apply yL | apply yP | refine yE ?_ GE231.out | refine yE ?_ GE232.out) | exact HB.out)) hb); clear BK231; clear BK232; clear HB; have BK231 := n0_; have BK232 := n1_; have HB := n2_; clear n0_ n1_ n2_; (try clear hb); (try clear hb2); (try clear hk); (try clear hi); obtain ⟨hcz21_0, hcz21_1, hcz21_2, hcz21_3⟩ := cz4 BK232.out; obtain ⟨hfz21_0, hfz21_1, hfz21_2, hfz21_3⟩ := fz4 BK232.out) | (go_at_call 62; (with_reducible refine (impl_ValidSuper.calls a1_0 a1_1 a1_2 a1_3 false _ A5.out).mono ?_); rintro e w22 ⟨rfl, hb⟩; have n0_ := yD (zB (g := gb231) (o := .cells #[.slice A0_0 l0_0.length c0_0, .slice A0_1 l0_1.length c0_1, .int .i64 a0_2, .bool a0_3] 31 (0, 0)) (by (with_reducible repeat (first | refine yM ?_ _ | refine yO ?_ | refine yN ?_ _)); exact BK231.out) hb); have n1_ := yD (zB (g := gb232) (o := .cells #[.int .i64 a1_0, .int .i64 a1_1, .int .i64 a1_2, .int .i64 a1_3] 45 (0, 0)) (by (with_reducible repeat (first | refine yM ?_ _ | refine yO ?_ | refine yN ?_ _)); exact BK232.out) hb); have n2_ := yD (zC (by repeat (first | (with_reducible first | exact HB.out | apply yQ | apply yL | apply yP | refine yE ?_ GE231.out | refine yE ?_ GE232.out) | exact HB.out)) hb); clear BK231; clear BK232; clear HB; have BK231 := n0_; have BK232 := n1_; have HB := n2_; clear n0_ n1_ n2_; (try clear hb); (try clear hb2); (try clear hk); (try clear hi)))
      go_ret
      exact ⟨by first | rfl | (simp <;> rfl) | (simp [*] <;> rfl), by repeat (first | (with_reducible first | exact HB.out | apply yQ | apply yL | apply yP | refine yE ?_ GE231.out | refine yE ?_ GE232.out) | exact HB.out)⟩
  · replace c4 := Bool.eq_false_iff.mpr c4
    subst c4
    have H1 : (some false) = some r := by rw [if_neg (show ¬ (false = true) by decide)] at H; exact H
    clear H; have H := H1; clear H1; obtain rfl := Option.some.inj H; go_enter Try.func36, Try.ntmps36
    go_wp2_with (first | ((with_reducible refine gate_dst (N := 2) rfl ?_); (try (refine gate_guard (by rfl) ?_; dsimp only)); refine box_event ?hg (N := 2) ?hd (cs := #[.slice A0_0 l0_0.length c0_0, .slice A0_1 l0_1.length c0_1, .int .i64 a0_2, .bool a0_3]) (t := 31) ?hr ?_; (case hd => rfl); (case hg => rfl); (case hr => first | (go_simp; done) | (go_simp; rfl)); intro gb231 hg w23 hbox hb; have n0_ := yD (zC (by repeat (first | (with_reducible first | exact HB.out | apply yQ | apply yL | apply yP) | exact HB.out)) hb); have n1_ := yD (hbox); have n2_ := yD ((by rw [hg]; exact (below_size (by repeat (first | (with_reducible first | exact HB.out | apply yQ | apply yL | apply yP) | exact HB.out))) : w.heap.size ≤ gb231)); have n3_ := yD ((by rw [hg]; exact (below_size (by repeat (first | (with_reducible first | exact HB.out | apply yQ | apply yL | apply yP) | exact HB.out))) : w.heap.size ≤ gb231)); clear HB; have HB := n0_; have BK231 := n1_; have GW231 := n2_; have GE231 := n3_; clear n0_ n1_ n2_ n3_; clear hb hbox hg) | ((with_reducible refine gate_dst (N := 3) rfl ?_); (try (refine gate_guard (by rfl) ?_; dsimp only)); refine box_event ?hg (N := 3) ?hd (cs := #[.int .i64 a1_0, .int .i64 a1_1, .int .i64 a1_2, .int .i64 a1_3]) (t := 45) ?hr ?_; (case hd => rfl); (case hg => rfl); (case hr => first | (go_simp; done) | (go_simp; rfl)); intro gb232 hg w24 hbox hb; have n0_ := yD (zB (g := gb231) (o := .cells #[.slice A0_0 l0_0.length c0_0, .slice A0_1 l0_1.length c0_1, .int .i64 a0_2, .bool a0_3] 31 (0, 0)) (by (with_reducible repeat (first | refine yM ?_ _ | refine yO ?_ | refine yN ?_ _)); exact BK231.out) hb); have n1_ := yD (zC (by repeat (first | (with_reducible first | exact HB.out | apply yQ | apply yL | apply yP | refine yE ?_ GE231.out) | exact HB.out)) hb); have n2_ := yD (hbox); have n3_ := yD ((by rw [hg]; exact (below_size (by repeat (first | (with_reducible first | exact HB.out | apply yQ | apply yL | apply yP | refine yE ?_ GE231.out) | exact HB.out))) : w.heap.size ≤ gb232)); have n4_ := yD ((by rw [hg]; exact (below_size (by repeat (first | (with_reducible first | exact HB.out | apply yQ | apply yL | apply yP | refine yE ?_ GE231.out) | exact HB.out))) : w.heap.size ≤ gb232)); have n5_ := yD ((by rw [hg]; exact Nat.ne_of_lt (blk_lt (g := gb231) (o := .cells #[.slice A0_0 l0_0.length c0_0, .slice A0_1 l0_1.length c0_1, .int .i64 a0_2, .bool a0_3] 31 (0, 0)) (by (with_reducible repeat (first | refine yM ?_ _ | refine yO ?_ | refine yN ?_ _)); exact BK231.out)) : gb231 ≠ gb232)); have n6_ := yD ((by rw [hg]; exact Nat.ne_of_gt (blk_lt (g := gb231) (o := .cells #[.slice A0_0 l0_0.length c0_0, .slice A0_1 l0_1.length c0_1, .int .i64 a0_2, .bool a0_3] 31 (0, 0)) (by (with_reducible repeat (first | refine yM ?_ _ | refine yO ?_ | refine yN ?_ _)); exact BK231.out)) : gb232 ≠ gb231)); clear BK231; clear HB; have BK231 := n0_; have HB := n1_; have BK232 := n2_; have GW232 := n3_; have GE232 := n4_; have NB231_232 := n5_; have NB232_231 := n6_; clear n0_ n1_ n2_ n3_ n4_ n5_ n6_; clear hb hbox hg; have hnb25 := NB231_232.out; have hnc25 := NB232_231.out; obtain ⟨hcz26_0, hcz26_1, hcz26_2, hcz26_3⟩ := cz4 BK231.out; obtain ⟨hfz26_0, hfz26_1, hfz26_2, hfz26_3⟩ := fz4 BK231.out) | ((with_reducible refine gate_callee (f := 25) rfl ?_); refine goesL_ (some 6) rfl rfl Try.func25 (by kernel_rfl) rfl #[.agg #[.slice A0_0 l0_0.length c0_0, .slice A0_1 l0_1.length c0_1, .int .i64 a0_2, .bool a0_3]] rfl (by (try simp only [zK, zL, zM]); first | done | rfl | (simp only [zN, zO]; rfl)) ?_; (with_reducible refine (impl_ValidDisk.calls k _ _ l0_0 _ _ l0_1 a0_2 a0_3 false _ ?side1 ?side2 ?side3 ?side4 A3.out).mono ?_); (case side1 => repeat (first | exact (yY HR0_0.out HB.out) | (with_reducible first | refine yV ?_ _ | refine yW ?_ _ | refine yX ?_))); (case side2 => exact HC0_0.out); (case side3 => repeat (first | exact (yY HR0_1.out HB.out) | (with_reducible first | refine yV ?_ _ | refine yW ?_ _ | refine yX ?_))); (case side4 => exact HC0_1.out); rintro e w27 ⟨rfl, hb⟩; refine ⟨_, rfl, ?_⟩; have n0_ := yD (zB (g := gb231) (o := .cells #[.slice A0_0 l0_0.length c0_0, .slice A0_1 l0_1.length c0_1, .int .i64 a0_2, .bool a0_3] 31 (0, 0)) (by (with_reducible repeat (first | refine yM ?_ _ | refine yO ?_ | refine yN ?_ _)); exact BK231.out) hb); have n1_ := yD (zB (g := gb232) (o := .cells #[.int .i64 a1_0, .int .i64 a1_1, .int .i64 a1_2, .int .i64 a1_3] 45 (0, 0)) (by (with_reducible repeat (first | refine yM ?_ _ | refine yO ?_ | refine yN ?_ _)); exact BK232.out) hb); have n2_ := yD (zC (by repeat (first | (with_reducible first | exact HB.out | apply yQ | apply yL | apply yP | refine yE ?_ GE231.out | refine yE ?_ GE232.out) | exact HB.out)) hb); clear BK231; clear BK232; clear HB; have BK231 := n0_; have BK232 := n1_; have HB := n2_; clear n0_ n1_ n2_; (try clear hb); (try clear hb2); (try clear hk); (try clear hi)))
    go_ret
    exact ⟨by first | rfl | (simp <;> rfl) | (simp [*] <;> rfl), by repeat (first | (with_reducible first | exact HB.out | apply yQ | apply yL | apply yP | refine yE ?_ GE231.out | refine yE ?_ GE232.out) | exact HB.out)⟩

end Go.Proofs.Ytjfahjojihlbgaa.PFnExactValidPager
