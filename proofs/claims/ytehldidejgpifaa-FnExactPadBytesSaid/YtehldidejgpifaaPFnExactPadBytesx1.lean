/- Each Go function here comes to what the plain function of its name says, where that says something. Made by a program of this session, over the print. -/
import Derived.Test.YtehldidejgpifaaPFnExactPadBytesx0
namespace Go.Proofs.Ytehldidejgpifaa.PFnExactPadBytes
open Go.RowKit Go.Proofs.YtehldidejgpifaaW.PrintWords Go.Proofs.YtehldidejgpifaaW.PrintLast Go.Proofs.YtehldidejgpifaaW.PrintMore
attribute [local go_sem] max2_int min2_int max_two min_two max_three min_three max_four min_four   -- for this text's walks alone
set_option linter.unusedVariables false
set_option linter.unusedSimpArgs false

/-! ### spec_l01Pad: function 53 -/
def spec_l01Pad.f (a0 : ByteArray) (a1 : Int) : Option (ByteArray) := if (a0.size : Int) ≥ a1 then (some a0) else (if 0 ≤ (wrap64 (a1 - (a0.size : Int))) then (if (wrap64 (a1 - (a0.size : Int)) : Int).toNat ≤ 281474976710656 then ((some (List.replicate (wrap64 (a1 - (a0.size : Int)) : Int).toNat 0 : List Int)).bind fun y101 => (if a0.size + (strOfNums y101).size ≤ 9223372036854775807 then (some (a0 ++ (strOfNums y101))) else (none))) else (none)) else (none))
set_option maxHeartbeats 8000000 in
set_option maxRecDepth 100000 in
theorem spec_l01Pad.calls (a0 : ByteArray) (a1 : Int) (r : ByteArray) (w : World) (h : spec_l01Pad.f a0 a1 = some r) :
    Calls Try.prog 53 #[.string a0, .int .i64 a1] w fun e w' => e = .returned (.string r) ∧ Below w.heap.size w w' := by
  have HB := Aside0.mk (Below.refl w.heap.size w)
  have H : (if (a0.size : Int) ≥ a1 then (some a0) else (if 0 ≤ (wrap64 (a1 - (a0.size : Int))) then (if (wrap64 (a1 - (a0.size : Int)) : Int).toNat ≤ 281474976710656 then ((some (List.replicate (wrap64 (a1 - (a0.size : Int)) : Int).toNat 0 : List Int)).bind fun y101 => (if a0.size + (strOfNums y101).size ≤ 9223372036854775807 then (some (a0 ++ (strOfNums y101))) else (none))) else (none)) else (none))) = some r := h
  clear h
  by_cases c3 : (a0.size : Int) ≥ a1
  · rw [if_pos c3] at H
    have c3b0 : decide (a1 ≤ (a0.size : Int)) = true := decide_eq_true c3
    clear c3
    obtain rfl := Option.some.inj H
    go_enter Try.func53, Try.ntmps53
    go_wp2
    go_ret
    exact ⟨by first | rfl | (simp [errW_none, errW_some] <;> rfl) | (simp [*, errW_none, errW_some] <;> rfl), by repeat (first | (with_reducible first | exact HB.out | apply below_alloc | apply pw_below_drewN | apply below_drew1) | exact HB.out)⟩
  · rw [if_neg c3] at H
    have c3b0 : decide (a1 ≤ (a0.size : Int)) = false := decide_eq_false c3
    clear c3
    obtain ⟨ji4, hji4⟩ : ∃ j_ : Int, (wrap64 (a1 - (a0.size : Int))) = j_ := ⟨_, rfl⟩
    replace H : (if 0 ≤ (ji4) then (if (ji4 : Int).toNat ≤ 281474976710656 then ((some (List.replicate (ji4 : Int).toNat 0 : List Int)).bind fun y101 => (if a0.size + (strOfNums y101).size ≤ 9223372036854775807 then (some (a0 ++ (strOfNums y101))) else (none))) else (none)) else (none)) = some r := by first | (rw [hji4] at H; exact H) | (simp only [hji4] at H ⊢; exact H)
    have hji4w : (IntKind.i64.wrap (a1 - (a0.size : Int))) = ji4 := (i64_w _).trans hji4
    by_cases c5 : 0 ≤ (ji4)
    · rw [if_pos c5] at H
      have c5b0 := eq_true c5
      have c5b1 : decide (0 ≤ (ji4)) = true := decide_eq_true c5
      clear c5
      by_cases c6 : (ji4 : Int).toNat ≤ 281474976710656
      · rw [if_pos c6] at H
        have c6b0 := eq_true c6
        have c6b1 : decide ((ji4 : Int).toNat ≤ 281474976710656) = true := decide_eq_true c6
        clear c6
        obtain ⟨y101, hy101⟩ : ∃ y_ : List Int, y_ = (List.replicate (ji4 : Int).toNat 0) := ⟨_, rfl⟩
        replace H : (if a0.size + (strOfNums y101).size ≤ 9223372036854775807 then (some (a0 ++ (strOfNums y101))) else (none)) = some r := by first | (rw [hy101]; with_reducible exact H) | (have H2_ := (Option.bind_some _ _).symm.trans H; rw [hy101]; with_reducible exact H2_) | (have H2_ := (Option.bind_some _ _).symm.trans H; with_reducible exact H2_) | with_reducible exact H | (rw [hy101]; exact H) | exact H
        have Ny101 := Aside0.mk hy101
        clear hy101
        by_cases c7 : a0.size + (strOfNums y101).size ≤ 9223372036854775807
        · rw [if_pos c7] at H
          have c7b0 := eq_true c7
          have c7b1 : decide (a0.size + (strOfNums y101).size ≤ 9223372036854775807) = true := decide_eq_true c7
          try have c7b2 : (9223372036854775807 < a0.size + (strOfNums y101).size) = False := eq_false (Nat.not_lt.2 c7)
          obtain rfl := Option.some.inj H
          go_enter Try.func53, Try.ntmps53
          go_wp2_with (first | ((with_reducible refine gate_dst (N := 15) rfl ?_); refine Kd.R_make (Kd.int .u8) _ 5 rfl (N := 15) rfl 88 _ _ rfl ji4 rfl rfl Try.underlying88 (.int .u8 0) 1 info5 rfl (by decide) (by omega) 0 (ok := fun _ => True) (okp := fun _ => True) rfl (fun _ hk => hk) trivial (of_decide_eq_true (by first | (with_reducible assumption) | assumption)) (Nat.le_trans (Nat.mul_le_mul_right _ (of_decide_eq_true (by first | (with_reducible assumption) | assumption) : ji4.toNat ≤ 281474976710656)) (by omega)) (Below.refl _ _) (Nat.le_refl _) ?_; intro v102 w8 ho9 hb hg_ hnew_; clear hg_ hnew_; (first | rw [← Ny101.out] at ho9 | (simp only [Int.reduceToNat] at ho9; rw [← Ny101.out] at ho9)); have n0_ := Aside0.mk (Kd.R_lower ho9 (below_size (by repeat (first | (with_reducible first | exact HB.out | apply below_alloc | apply pw_below_drewN | apply below_drew1) | exact HB.out)))); have n1_ := Aside0.mk (below_step (by repeat (first | (with_reducible first | exact HB.out | apply below_alloc | apply pw_below_drewN | apply below_drew1) | exact HB.out)) hb); clear HB; have HO103 := n0_; have HB := n1_; clear n0_ n1_; clear hb ho9; have hcv10 := own_string (P := Try.prog) Try.underlying88 Try.underlying5 Try.underlying9 (Kd.own_of_R HO103.out)))
          go_ret
          exact ⟨by first | rfl | (simp [errW_none, errW_some] <;> rfl) | (simp only [← hji4]; first | rfl | (simp [errW_none, errW_some] <;> rfl)) | (simp [*, errW_none, errW_some] <;> rfl), by repeat (first | (with_reducible first | exact HB.out | apply below_alloc | apply pw_below_drewN | apply below_drew1) | exact HB.out)⟩
        · rw [if_neg c7] at H
          exact absurd H (by simp)
      · rw [if_neg c6] at H
        exact absurd H (by simp)
    · rw [if_neg c5] at H
      exact absurd H (by simp)

/-! ### spec_PadBytes: function 13 -/
def spec_PadBytes.f (a0 : ByteArray) (a1 : Int) : Option (ByteArray × Bool) := if (a0.size : Int) > a1 then (some ((⟨#[]⟩ : ByteArray), false)) else (if a1 > 65536 then (some ((⟨#[]⟩ : ByteArray), false)) else ((spec_l01Pad.f a0 a1).bind fun t104 => (some (t104, true))))
set_option maxHeartbeats 8000000 in
set_option maxRecDepth 100000 in
theorem spec_PadBytes.calls (a0 : ByteArray) (a1 : Int) (r1 : ByteArray) (r2 : Bool) (w : World) (h : spec_PadBytes.f a0 a1 = some (r1, r2)) :
    Calls Try.prog 13 #[.string a0, .int .i64 a1] w fun e w' => e = .returned (.tuple #[.string r1, .bool r2]) ∧ Below w.heap.size w w' := by
  have HB := Aside0.mk (Below.refl w.heap.size w)
  have H : (if (a0.size : Int) > a1 then (some ((⟨#[]⟩ : ByteArray), false)) else (if a1 > 65536 then (some ((⟨#[]⟩ : ByteArray), false)) else ((spec_l01Pad.f a0 a1).bind fun t104 => (some (t104, true))))) = some (r1, r2) := h
  clear h
  by_cases c3 : (a0.size : Int) > a1
  · rw [if_pos c3] at H
    have c3b0 : decide (a1 < (a0.size : Int)) = true := decide_eq_true c3
    clear c3
    simp only [Option.some.injEq, Prod.mk.injEq] at H
    obtain ⟨rfl, rfl⟩ := H
    go_enter Try.func13, Try.ntmps13
    go_wp2
    go_ret2
    exact ⟨by first | rfl | (simp [errW_none, errW_some] <;> rfl) | (simp [*, errW_none, errW_some] <;> rfl), by repeat (first | (with_reducible first | exact HB.out | apply below_alloc | apply pw_below_drewN | apply below_drew1) | exact HB.out)⟩
  · rw [if_neg c3] at H
    have c3b0 : decide (a1 < (a0.size : Int)) = false := decide_eq_false c3
    clear c3
    by_cases c4 : a1 > 65536
    · rw [if_pos c4] at H
      have c4b0 : decide (65536 < a1) = true := decide_eq_true c4
      clear c4
      simp only [Option.some.injEq, Prod.mk.injEq] at H
      obtain ⟨rfl, rfl⟩ := H
      go_enter Try.func13, Try.ntmps13
      go_wp2
      go_ret2
      exact ⟨by first | rfl | (simp [errW_none, errW_some] <;> rfl) | (simp [*, errW_none, errW_some] <;> rfl), by repeat (first | (with_reducible first | exact HB.out | apply below_alloc | apply pw_below_drewN | apply below_drew1) | exact HB.out)⟩
    · rw [if_neg c4] at H
      have c4b0 : decide (65536 < a1) = false := decide_eq_false c4
      clear c4
      replace H := Option.bind_eq_some_iff.mp H
      obtain ⟨t104, A50, H⟩ := H
      replace H : (some (t104, true)) = some (r1, r2) := H
      have A5 := Aside0.mk A50
      clear A50
      simp only [Option.some.injEq, Prod.mk.injEq] at H
      obtain ⟨rfl, rfl⟩ := H
      go_enter Try.func13, Try.ntmps13
      go_wp2_with (first | ((with_reducible refine gate_callee (f := 53) rfl ?_); refine goesL_ (some 16) rfl rfl Try.func53 (by kernel_rfl) rfl #[.string a0, .int .i64 a1] rfl (by (try simp only [List.map_toArray, List.map_cons, List.map_nil]); first | done | rfl | (simp only [List.length_drop, List.length_take]; rfl)) ?_; (with_reducible refine (spec_l01Pad.calls a0 a1 t104 _ A5.out).mono ?_); rintro e w6 ⟨rfl, hb⟩; refine ⟨_, rfl, ?_⟩; have n0_ := Aside0.mk (below_step (by repeat (first | (with_reducible first | exact HB.out | apply below_alloc | apply pw_below_drewN | apply below_drew1) | exact HB.out)) hb); clear HB; have HB := n0_; clear n0_; (try clear hb); (try clear hb2); (try clear hk); (try clear hi)))
      go_ret2
      exact ⟨by first | rfl | (simp [errW_none, errW_some] <;> rfl) | (simp [*, errW_none, errW_some] <;> rfl), by repeat (first | (with_reducible first | exact HB.out | apply below_alloc | apply pw_below_drewN | apply below_drew1) | exact HB.out)⟩

/-! ### strings_Repeat: function 101 -/
section
open Go.Shelf Go.Lib
def strings_Repeat.ren : Go.Shelf.Ren := ⟨fun | 105 => 101 | 212 => 105 | 99 => 124 | 165 => 125 | 166 => 126 | 170 => 127 | 169 => 128 | 263 => 132 | 264 => 133 | 206 => 138 | 240 => 139 | 241 => 140 | 276 => 142 | 277 => 143 | n => n, fun | 9 => 9 | 3 => 3 | 4 => 4 | 20 => 20 | 0 => 0 | 46 => 127 | 109 => 128 | 5 => 5 | 72 => 148 | 76 => 152 | 51 => 157 | 146 => 158 | 53 => 160 | 148 => 161 | 70 => 146 | 37 => 88 | 75 => 151 | 127 => 168 | 164 => 170 | 80 => 126 | n => n, fun n => n⟩
theorem strings_Repeat.lays : Go.Proofs.Lays.n105 Try.prog strings_Repeat.ren :=
  { mixed := by kernel_rfl, f99 := Try.func124.trans (congrArg some (by kernel_rfl)), f105 := Try.func101.trans (congrArg some (by kernel_rfl)), f165 := Try.func125.trans (congrArg some (by kernel_rfl)), f166 := Try.func126.trans (congrArg some (by kernel_rfl)), f169 := Try.func128.trans (congrArg some (by kernel_rfl)), f170 := Try.func127.trans (congrArg some (by kernel_rfl)), f206 := Try.func138.trans (congrArg some (by kernel_rfl)), f212 := Try.func105.trans (congrArg some (by kernel_rfl)), f240 := Try.func139.trans (congrArg some (by kernel_rfl)), f241 := Try.func140.trans (congrArg some (by kernel_rfl)), f263 := Try.func132.trans (congrArg some (by kernel_rfl)), f264 := Try.func133.trans (congrArg some (by kernel_rfl)), f276 := Try.func142.trans (congrArg some (by kernel_rfl)), f277 := Try.func143.trans (congrArg some (by kernel_rfl)), t0 := Try.underlying0, a0 := Try.isAgg0, z0 := Try.sizeOf0, v0 := Try.zeroValue0, t3 := Try.underlying3, a3 := Try.isAgg3, z3 := Try.sizeOf3, v3 := Try.zeroValue3, t4 := Try.underlying4, a4 := Try.isAgg4, z4 := Try.sizeOf4, v4 := Try.zeroValue4, t5 := Try.underlying5, a5 := Try.isAgg5, z5 := Try.sizeOf5, v5 := Try.zeroValue5, t9 := Try.underlying9, a9 := Try.isAgg9, z9 := Try.sizeOf9, v9 := Try.zeroValue9, t20 := Try.underlying20, a20 := Try.isAgg20, z20 := Try.sizeOf20, v20 := Try.zeroValue20, t37 := Try.underlying88, a37 := Try.isAgg88, z37 := Try.sizeOf88, v37 := Try.zeroValue88, t46 := Try.underlying127, a46 := Try.isAgg127, z46 := Try.sizeOf127, v46 := Try.zeroValue127, t51 := Try.underlying157, a51 := Try.isAgg157, z51 := Try.sizeOf157, v51 := Try.zeroValue157, t53 := Try.underlying160, a53 := Try.isAgg160, z53 := Try.sizeOf160, v53 := Try.zeroValue160, t70 := Try.underlying146, a70 := Try.isAgg146, z70 := Try.sizeOf146, v70 := Try.zeroValue146, t72 := Try.underlying148, a72 := Try.isAgg148, z72 := Try.sizeOf148, v72 := Try.zeroValue148, t75 := Try.underlying151, a75 := Try.isAgg151, z75 := Try.sizeOf151, v75 := Try.zeroValue151, t76 := Try.underlying152, a76 := Try.isAgg152, z76 := Try.sizeOf152, v76 := Try.zeroValue152, t109 := Try.underlying128, a109 := Try.isAgg128, z109 := Try.sizeOf128, v109 := Try.zeroValue128, t127 := Try.underlying168, a127 := Try.isAgg168, z127 := Try.sizeOf168, v127 := Try.zeroValue168, t146 := Try.underlying158, a146 := Try.isAgg158, z146 := Try.sizeOf158, v146 := Try.zeroValue158, t148 := Try.underlying161, a148 := Try.isAgg161, z148 := Try.sizeOf161, v148 := Try.zeroValue161, t164 := Try.underlying170, a164 := Try.isAgg170, z164 := Try.sizeOf170, v164 := Try.zeroValue170 }

theorem strings_Repeat.extra : Go.Proofs.Builder.Extra Try.prog strings_Repeat.ren :=
  { sizeBuilder := by kernel_rfl, liesBuilder := by kernel_rfl, t5 := strings_Repeat.lays.t5, a5 := strings_Repeat.lays.a5, z5 := strings_Repeat.lays.z5, v5 := strings_Repeat.lays.v5, infoByte := by kernel_rfl, cellsByte := by kernel_rfl, sizeByte := by kernel_rfl, neB5 := by decide }
def strings_Repeat.f (a0 : ByteArray) (a1 : Int) : Option ByteArray := if 0 ≤ a1 ∧ a1 ≤ 9223372036854775807 ∧ (a0.size : Int) * a1 ≤ 140737488355328 then some ⟨(Lib.repeatL a0.data.toList a1.toNat).toArray⟩ else none
theorem strings_Repeat.calls (a0 : ByteArray) (a1 : Int) (r : ByteArray) (w : World) (h : strings_Repeat.f a0 a1 = some r) :
    Calls Try.prog 101 #[.string a0, .int .i64 a1] w fun e w' => e = .returned (.string r) ∧ Below w.heap.size w w' := by
  unfold strings_Repeat.f at h
  split at h
  · rename_i hc
    obtain ⟨h0, h1, h2⟩ := hc
    obtain ⟨c, rfl⟩ : ∃ c : Nat, a1 = (c : Int) := ⟨a1.toNat, by omega⟩
    obtain rfl := Option.some.inj h
    have h3 : a0.size * c ≤ 140737488355328 := by
      rw [← Int.natCast_mul] at h2
      generalize a0.size * c = m at h2 ⊢
      omega
    exact Any.strings_Repeat strings_Repeat.lays strings_Repeat.extra a0 c w (by omega) h3
  · cases h
end

/-! ### impl_zeros: function 54 -/
def impl_zeros.f (a0 : Int) : Option (ByteArray) := (strings_Repeat.f (⟨#[0]⟩ : ByteArray) a0).bind fun t105 => (some t105)
set_option maxHeartbeats 8000000 in
set_option maxRecDepth 100000 in
theorem impl_zeros.calls (a0 : Int) (r : ByteArray) (w : World) (h : impl_zeros.f a0 = some r) :
    Calls Try.prog 54 #[.int .i64 a0] w fun e w' => e = .returned (.string r) ∧ Below w.heap.size w w' := by
  have HB := Aside0.mk (Below.refl w.heap.size w)
  have H : ((strings_Repeat.f (⟨#[0]⟩ : ByteArray) a0).bind fun t105 => (some t105)) = some r := h
  clear h
  replace H := Option.bind_eq_some_iff.mp H
  obtain ⟨t105, A20, H⟩ := H
  replace H : (some t105) = some r := H
  have A2 := Aside0.mk A20
  clear A20
  obtain rfl := Option.some.inj H
  go_enter Try.func54, Try.ntmps54
  go_wp2_with (first | ((with_reducible refine gate_callee (f := 101) rfl ?_); refine goesL_ (some 4) rfl rfl Try.func101 (by kernel_rfl) rfl #[.string (⟨#[0]⟩ : ByteArray), .int .i64 a0] rfl (by (try simp only [List.map_toArray, List.map_cons, List.map_nil]); first | done | rfl | (simp only [List.length_drop, List.length_take]; rfl)) ?_; (with_reducible refine (strings_Repeat.calls (⟨#[0]⟩ : ByteArray) a0 t105 _ A2.out).mono ?_); rintro e w3 ⟨rfl, hb⟩; refine ⟨_, rfl, ?_⟩; have n0_ := Aside0.mk (below_step (by repeat (first | (with_reducible first | exact HB.out | apply below_alloc | apply pw_below_drewN | apply below_drew1) | exact HB.out)) hb); clear HB; have HB := n0_; clear n0_; (try clear hb); (try clear hb2); (try clear hk); (try clear hi)))
  go_ret
  exact ⟨by first | rfl | (simp [errW_none, errW_some] <;> rfl) | (simp [*, errW_none, errW_some] <;> rfl), by repeat (first | (with_reducible first | exact HB.out | apply below_alloc | apply pw_below_drewN | apply below_drew1) | exact HB.out)⟩

/-! ### impl_PadBytes: function 14 -/
def impl_PadBytes.f (a0 : ByteArray) (a1 : Int) : Option (ByteArray × Bool) := if (a0.size : Int) > a1 then (some ((⟨#[]⟩ : ByteArray), false)) else (if a1 > 65536 then (some ((⟨#[]⟩ : ByteArray), false)) else ((impl_zeros.f (wrap64 (a1 - (a0.size : Int)))).bind fun t106 => (if a0.size + t106.size ≤ 9223372036854775807 then (some (a0 ++ t106, true)) else (none))))
set_option maxHeartbeats 8000000 in
set_option maxRecDepth 100000 in
theorem impl_PadBytes.calls (a0 : ByteArray) (a1 : Int) (r1 : ByteArray) (r2 : Bool) (w : World) (h : impl_PadBytes.f a0 a1 = some (r1, r2)) :
    Calls Try.prog 14 #[.string a0, .int .i64 a1] w fun e w' => e = .returned (.tuple #[.string r1, .bool r2]) ∧ Below w.heap.size w w' := by
  have HB := Aside0.mk (Below.refl w.heap.size w)
  have H : (if (a0.size : Int) > a1 then (some ((⟨#[]⟩ : ByteArray), false)) else (if a1 > 65536 then (some ((⟨#[]⟩ : ByteArray), false)) else ((impl_zeros.f (wrap64 (a1 - (a0.size : Int)))).bind fun t106 => (if a0.size + t106.size ≤ 9223372036854775807 then (some (a0 ++ t106, true)) else (none))))) = some (r1, r2) := h
  clear h
  by_cases c3 : (a0.size : Int) > a1
  · rw [if_pos c3] at H
    have c3b0 : decide (a1 < (a0.size : Int)) = true := decide_eq_true c3
    clear c3
    simp only [Option.some.injEq, Prod.mk.injEq] at H
    obtain ⟨rfl, rfl⟩ := H
    go_enter Try.func14, Try.ntmps14
    go_wp2
    go_ret2
    exact ⟨by first | rfl | (simp [errW_none, errW_some] <;> rfl) | (simp [*, errW_none, errW_some] <;> rfl), by repeat (first | (with_reducible first | exact HB.out | apply below_alloc | apply pw_below_drewN | apply below_drew1) | exact HB.out)⟩
  · rw [if_neg c3] at H
    have c3b0 : decide (a1 < (a0.size : Int)) = false := decide_eq_false c3
    clear c3
    by_cases c4 : a1 > 65536
    · rw [if_pos c4] at H
      have c4b0 : decide (65536 < a1) = true := decide_eq_true c4
      clear c4
      simp only [Option.some.injEq, Prod.mk.injEq] at H
      obtain ⟨rfl, rfl⟩ := H
      go_enter Try.func14, Try.ntmps14
      go_wp2
      go_ret2
      exact ⟨by first | rfl | (simp [errW_none, errW_some] <;> rfl) | (simp [*, errW_none, errW_some] <;> rfl), by repeat (first | (with_reducible first | exact HB.out | apply below_alloc | apply pw_below_drewN | apply below_drew1) | exact HB.out)⟩
    · rw [if_neg c4] at H
      have c4b0 : decide (65536 < a1) = false := decide_eq_false c4
      clear c4
      replace H := Option.bind_eq_some_iff.mp H
      obtain ⟨t106, A50, H⟩ := H
      replace H : (if a0.size + t106.size ≤ 9223372036854775807 then (some (a0 ++ t106, true)) else (none)) = some (r1, r2) := H
      have A5 := Aside0.mk A50
      clear A50
      by_cases c6 : a0.size + t106.size ≤ 9223372036854775807
      · rw [if_pos c6] at H
        have c6b0 := eq_true c6
        have c6b1 : decide (a0.size + t106.size ≤ 9223372036854775807) = true := decide_eq_true c6
        try have c6b2 : (9223372036854775807 < a0.size + t106.size) = False := eq_false (Nat.not_lt.2 c6)
        simp only [Option.some.injEq, Prod.mk.injEq] at H
        obtain ⟨rfl, rfl⟩ := H
        go_enter Try.func14, Try.ntmps14
        go_wp2_with (first | ((with_reducible refine gate_callee (f := 54) rfl ?_); refine goesL_ (some 19) rfl rfl Try.func54 (by kernel_rfl) rfl #[.int .i64 (wrap64 (a1 - (a0.size : Int)))] rfl (by (try simp only [List.map_toArray, List.map_cons, List.map_nil]); first | done | rfl | (simp only [List.length_drop, List.length_take]; rfl)) ?_; (with_reducible refine (impl_zeros.calls (wrap64 (a1 - (a0.size : Int))) t106 _ A5.out).mono ?_); rintro e w7 ⟨rfl, hb⟩; refine ⟨_, rfl, ?_⟩; have n0_ := Aside0.mk (below_step (by repeat (first | (with_reducible first | exact HB.out | apply below_alloc | apply pw_below_drewN | apply below_drew1) | exact HB.out)) hb); clear HB; have HB := n0_; clear n0_; (try clear hb); (try clear hb2); (try clear hk); (try clear hi)))
        go_ret2
        exact ⟨by first | rfl | (simp [errW_none, errW_some] <;> rfl) | (simp [*, errW_none, errW_some] <;> rfl), by repeat (first | (with_reducible first | exact HB.out | apply below_alloc | apply pw_below_drewN | apply below_drew1) | exact HB.out)⟩
      · rw [if_neg c6] at H
        exact absurd H (by simp)

/-! ### laws_FnExactPadBytes: function 4 -/
def laws_FnExactPadBytes.f (a0 : ByteArray) (a1 : Int) : Option (Bool) := if (a0.size : Int) > 1048576 then (some true) else ((spec_PadBytes.f a0 a1).bind fun bt107 => ((impl_PadBytes.f a0 a1).bind fun bt109 => (if bt109.1.toList = bt107.1.toList then (if (bt109.2 != bt107.2) = true then (some false) else (some true)) else (some false))))
set_option maxHeartbeats 8000000 in
set_option maxRecDepth 100000 in
theorem laws_FnExactPadBytes.calls (a0 : ByteArray) (a1 : Int) (r : Bool) (w : World) (h : laws_FnExactPadBytes.f a0 a1 = some r) :
    Calls Try.prog 4 #[.string a0, .int .i64 a1] w fun e w' => e = .returned (.bool r) ∧ Below w.heap.size w w' := by
  have HB := Aside0.mk (Below.refl w.heap.size w)
  have H : (if (a0.size : Int) > 1048576 then (some true) else ((spec_PadBytes.f a0 a1).bind fun bt107 => ((impl_PadBytes.f a0 a1).bind fun bt109 => (if bt109.1.toList = bt107.1.toList then (if (bt109.2 != bt107.2) = true then (some false) else (some true)) else (some false))))) = some r := h
  clear h
  by_cases c3 : (a0.size : Int) > 1048576
  · rw [if_pos c3] at H
    have c3b0 : decide (1048576 < (a0.size : Int)) = true := decide_eq_true c3
    have c3b1 : decide (1048576 < a0.size) = true := decide_eq_true (by omega)
    clear c3
    obtain rfl := Option.some.inj H
    go_enter Try.func4, Try.ntmps4
    go_wp2
    go_ret
    exact ⟨by first | rfl | (simp [errW_none, errW_some] <;> rfl) | (simp [*, errW_none, errW_some] <;> rfl), by repeat (first | (with_reducible first | exact HB.out | apply below_alloc | apply pw_below_drewN | apply below_drew1) | exact HB.out)⟩
  · rw [if_neg c3] at H
    have c3b0 : decide (1048576 < (a0.size : Int)) = false := decide_eq_false c3
    have c3b1 : decide (1048576 < a0.size) = false := decide_eq_false (by omega)
    clear c3
    replace H := Option.bind_eq_some_iff.mp H
    obtain ⟨⟨t107, t108⟩, A40, H⟩ := H
    replace H : ((impl_PadBytes.f a0 a1).bind fun bt109 => (if bt109.1.toList = t107.toList then (if (bt109.2 != t108) = true then (some false) else (some true)) else (some false))) = some r := H
    have A4 := Aside0.mk A40
    clear A40
    replace H := Option.bind_eq_some_iff.mp H
    obtain ⟨⟨t109, t110⟩, A50, H⟩ := H
    replace H : (if t109.toList = t107.toList then (if (t110 != t108) = true then (some false) else (some true)) else (some false)) = some r := H
    have A5 := Aside0.mk A50
    clear A50
    by_cases c6 : t109.toList = t107.toList
    · rw [if_pos c6] at H
      have c6b0 : (t109.toList == t107.toList) = true := beq_iff_eq.mpr c6
      have c6b1 : (t109.toList != t107.toList) = false := bne_eq_false_iff_eq.mpr c6
      clear c6
      by_cases c7 : (t110 != t108) = true
      · rw [if_pos c7] at H
        have c7b0 : (t110 != t108) = true := c7
        (try (have c7b1 : decide (t110 = t108) = false := by simpa using c7))
        (try (have c7b2 : (t110 == t108) = false := by simpa using c7))
        (try (have c7b3 : ¬ (t110 = t108) := by simpa using c7))
        clear c7
        obtain rfl := Option.some.inj H
        go_enter Try.func4, Try.ntmps4
        go_wp2_with (first | ((with_reducible refine gate_callee (f := 13) rfl ?_); refine goesL_ (some 15) rfl rfl Try.func13 (by kernel_rfl) rfl #[.string a0, .int .i64 a1] rfl (by (try simp only [List.map_toArray, List.map_cons, List.map_nil]); first | done | rfl | (simp only [List.length_drop, List.length_take]; rfl)) ?_; (with_reducible refine (spec_PadBytes.calls a0 a1 t107 t108 _ A4.out).mono ?_); rintro e w8 ⟨rfl, hb⟩; refine ⟨_, rfl, ?_⟩; have n0_ := Aside0.mk (below_step (by repeat (first | (with_reducible first | exact HB.out | apply below_alloc | apply pw_below_drewN | apply below_drew1) | exact HB.out)) hb); clear HB; have HB := n0_; clear n0_; (try clear hb); (try clear hb2); (try clear hk); (try clear hi)) | ((with_reducible refine gate_callee (f := 14) rfl ?_); refine goesL_ (some 21) rfl rfl Try.func14 (by kernel_rfl) rfl #[.string a0, .int .i64 a1] rfl (by (try simp only [List.map_toArray, List.map_cons, List.map_nil]); first | done | rfl | (simp only [List.length_drop, List.length_take]; rfl)) ?_; (with_reducible refine (impl_PadBytes.calls a0 a1 t109 t110 _ A5.out).mono ?_); rintro e w9 ⟨rfl, hb⟩; refine ⟨_, rfl, ?_⟩; have n0_ := Aside0.mk (below_step (by repeat (first | (with_reducible first | exact HB.out | apply below_alloc | apply pw_below_drewN | apply below_drew1) | exact HB.out)) hb); clear HB; have HB := n0_; clear n0_; (try clear hb); (try clear hb2); (try clear hk); (try clear hi)))
        go_ret
        exact ⟨by first | rfl | (simp [errW_none, errW_some] <;> rfl) | (simp [*, errW_none, errW_some] <;> rfl), by repeat (first | (with_reducible first | exact HB.out | apply below_alloc | apply pw_below_drewN | apply below_drew1) | exact HB.out)⟩
      · rw [if_neg c7] at H
        have c7b0 : (t110 != t108) = false := by simpa using c7
        (try (have c7b1 : decide (t110 = t108) = true := by simpa using c7))
        (try (have c7b2 : (t110 == t108) = true := by simpa using c7))
        clear c7
        obtain rfl := Option.some.inj H
        go_enter Try.func4, Try.ntmps4
        go_wp2_with (first | ((with_reducible refine gate_callee (f := 13) rfl ?_); refine goesL_ (some 15) rfl rfl Try.func13 (by kernel_rfl) rfl #[.string a0, .int .i64 a1] rfl (by (try simp only [List.map_toArray, List.map_cons, List.map_nil]); first | done | rfl | (simp only [List.length_drop, List.length_take]; rfl)) ?_; (with_reducible refine (spec_PadBytes.calls a0 a1 t107 t108 _ A4.out).mono ?_); rintro e w10 ⟨rfl, hb⟩; refine ⟨_, rfl, ?_⟩; have n0_ := Aside0.mk (below_step (by repeat (first | (with_reducible first | exact HB.out | apply below_alloc | apply pw_below_drewN | apply below_drew1) | exact HB.out)) hb); clear HB; have HB := n0_; clear n0_; (try clear hb); (try clear hb2); (try clear hk); (try clear hi)) | ((with_reducible refine gate_callee (f := 14) rfl ?_); refine goesL_ (some 21) rfl rfl Try.func14 (by kernel_rfl) rfl #[.string a0, .int .i64 a1] rfl (by (try simp only [List.map_toArray, List.map_cons, List.map_nil]); first | done | rfl | (simp only [List.length_drop, List.length_take]; rfl)) ?_; (with_reducible refine (impl_PadBytes.calls a0 a1 t109 t110 _ A5.out).mono ?_); rintro e w11 ⟨rfl, hb⟩; refine ⟨_, rfl, ?_⟩; have n0_ := Aside0.mk (below_step (by repeat (first | (with_reducible first | exact HB.out | apply below_alloc | apply pw_below_drewN | apply below_drew1) | exact HB.out)) hb); clear HB; have HB := n0_; clear n0_; (try clear hb); (try clear hb2); (try clear hk); (try clear hi)))
        go_ret
        exact ⟨by first | rfl | (simp [errW_none, errW_some] <;> rfl) | (simp [*, errW_none, errW_some] <;> rfl), by repeat (first | (with_reducible first | exact HB.out | apply below_alloc | apply pw_below_drewN | apply below_drew1) | exact HB.out)⟩
    · rw [if_neg c6] at H
      have c6b0 : (t109.toList == t107.toList) = false := beq_eq_false_iff_ne.mpr c6
      have c6b1 : (t109.toList != t107.toList) = true := bne_iff_ne.mpr c6
      obtain rfl := Option.some.inj H
      go_enter Try.func4, Try.ntmps4
      go_wp2_with (first | ((with_reducible refine gate_callee (f := 13) rfl ?_); refine goesL_ (some 15) rfl rfl Try.func13 (by kernel_rfl) rfl #[.string a0, .int .i64 a1] rfl (by (try simp only [List.map_toArray, List.map_cons, List.map_nil]); first | done | rfl | (simp only [List.length_drop, List.length_take]; rfl)) ?_; (with_reducible refine (spec_PadBytes.calls a0 a1 t107 t108 _ A4.out).mono ?_); rintro e w12 ⟨rfl, hb⟩; refine ⟨_, rfl, ?_⟩; have n0_ := Aside0.mk (below_step (by repeat (first | (with_reducible first | exact HB.out | apply below_alloc | apply pw_below_drewN | apply below_drew1) | exact HB.out)) hb); clear HB; have HB := n0_; clear n0_; (try clear hb); (try clear hb2); (try clear hk); (try clear hi)) | ((with_reducible refine gate_callee (f := 14) rfl ?_); refine goesL_ (some 21) rfl rfl Try.func14 (by kernel_rfl) rfl #[.string a0, .int .i64 a1] rfl (by (try simp only [List.map_toArray, List.map_cons, List.map_nil]); first | done | rfl | (simp only [List.length_drop, List.length_take]; rfl)) ?_; (with_reducible refine (impl_PadBytes.calls a0 a1 t109 t110 _ A5.out).mono ?_); rintro e w13 ⟨rfl, hb⟩; refine ⟨_, rfl, ?_⟩; have n0_ := Aside0.mk (below_step (by repeat (first | (with_reducible first | exact HB.out | apply below_alloc | apply pw_below_drewN | apply below_drew1) | exact HB.out)) hb); clear HB; have HB := n0_; clear n0_; (try clear hb); (try clear hb2); (try clear hk); (try clear hi)))
      go_ret
      exact ⟨by first | rfl | (simp [errW_none, errW_some] <;> rfl) | (simp [*, errW_none, errW_some] <;> rfl), by repeat (first | (with_reducible first | exact HB.out | apply below_alloc | apply pw_below_drewN | apply below_drew1) | exact HB.out)⟩

/-- THE ONE PURE STATEMENT of laws_FnExactPadBytes: yours. -/
def laws_FnExactPadBytes.Pure : Prop := ∀ (a0 : ByteArray) (a1 : Int), a0.size ≤ 140737488351232 → (Lit.int .i64 a1).wf = true → laws_FnExactPadBytes.f a0 a1 = some true
theorem laws_FnExactPadBytes.walk (P : laws_FnExactPadBytes.Pure) (a0 : ByteArray) (a1 : Int) (w : World) (w0 : a0.size ≤ 140737488351232) (w1 : (Lit.int .i64 a1).wf = true) :
    Calls Try.prog 4 #[.string a0, .int .i64 a1] w fun e w' => e = .returned (.bool true) ∧ Below w.heap.size w w' := by
  have h := P a0 a1 w0 w1
  refine (laws_FnExactPadBytes.calls a0 a1 true w h).mono ?_
  rintro e w' ⟨rfl, hd⟩
  exact ⟨rfl, hd⟩

end Go.Proofs.Ytehldidejgpifaa.PFnExactPadBytes
