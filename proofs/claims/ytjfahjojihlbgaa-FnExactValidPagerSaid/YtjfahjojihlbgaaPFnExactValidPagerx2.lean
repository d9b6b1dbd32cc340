/- Each Go function here comes to what the plain function of its name says, where that says something. Made by a program of this session, over the print. -/
import Derived.Test.YtjfahjojihlbgaaPFnExactValidPagerx0
import Derived.Test.YtjfahjojihlbgaaPFnExactValidPagerx1
namespace Go.Proofs.Ytjfahjojihlbgaa.PFnExactValidPager
open Go.RowKit Go.Proofs.YtjfahjojihlbgaaW.PrintWords Go.Proofs.YtjfahjojihlbgaaW.PrintLast Go.Proofs.YtjfahjojihlbgaaW.PrintMore
attribute [local go_sem] max2_int min2_int max_two min_two max_three min_three max_four min_four   -- for this text's walks alone
set_option linter.unusedVariables false
set_option linter.unusedSimpArgs false

/-! ### laws_toPageS: function 35 -/
def laws_toPageS.l0 : Nat → List (S92) → List (S96) → Int → Option ((List (S96)))
  | 0, _, _, _ => none
  | k + 1, x0, x3, x4 => if x4 < (x0.length : Int) then (if 0 ≤ x4 then ((laws_toPage.f ((rd_T92 x0 x4).f0) ((rd_T92 x0 x4).f1)).bind fun bt149 => (if x4 < (x3.length : Int) then (laws_toPageS.l0 k x0 (x3.set (x4 : Int).toNat (⟨bt149.1, bt149.2⟩ : S96)) (wrap64 (x4 + 1))) else (none))) else (none)) else (some x3)
def laws_toPageS.f (k : Nat) (l0 : List (S92)) : Option ((List (S96))) := if 0 ≤ (l0.length : Int) then (if ((l0.length : Int) : Int).toNat ≤ 11728124029610 then (laws_toPageS.l0 k l0 (List.replicate ((l0.length : Int) : Int).toNat z96) 0) else (none)) else (none)
theorem laws_toPageS.mono_l : ∀ k, (∀ y0 y1 y2, LeO (laws_toPageS.l0 k y0 y1 y2) (laws_toPageS.l0 (k + 1) y0 y1 y2))
  | 0 => fun _ _ _ r h => by simp [laws_toPageS.l0] at h
  | k + 1 => by
    have ih0 := laws_toPageS.mono_l k
    · intro y0 y1 y2
      unfold laws_toPageS.l0
      repeat' first
      | (with_reducible exact ih0 _ _ _)
      | (with_reducible exact LeO.refl _)
      | (with_reducible exact LeO.none _)
      | (with_reducible refine LeO.ite ?_ ?_)
      | (with_reducible refine LeO.bind ?_ (fun _ => ?_))
      | exact ih0 _ _ _
      | exact LeO.none _
      | refine LeO.ite ?_ ?_
      | refine LeO.bind ?_ (fun _ => ?_)
theorem laws_toPageS.mono : ∀ a0 k, LeO (laws_toPageS.f k a0) (laws_toPageS.f (k + 1) a0) := by
  intro a0 k
  have ih0 := laws_toPageS.mono_l k
  unfold laws_toPageS.f
  repeat' first
      | (with_reducible exact ih0 _ _ _)
      | (with_reducible exact LeO.refl _)
      | (with_reducible exact LeO.none _)
      | (with_reducible refine LeO.ite ?_ ?_)
      | (with_reducible refine LeO.bind ?_ (fun _ => ?_))
      | exact ih0 _ _ _
      | exact LeO.none _
      | refine LeO.ite ?_ ?_
      | refine LeO.bind ?_ (fun _ => ?_)
set_option maxHeartbeats 8000000 in
set_option maxRecDepth 100000 in
theorem laws_toPageS.calls (k : Nat) (A0 : Option Addr) (c0 : Nat) (l0 : List (S92)) (r : List (S96)) (w : World) (hr0 : Kd.C k92 w A0 l0.length l0) (hc0 : l0.length ≤ c0) (h : laws_toPageS.f k l0 = some r) :
    Calls Try.prog 35 #[.slice A0 l0.length c0] w fun e w' => ∃ v0_ : Value, e = .returned (v0_) ∧ Kd.R k96 96 w' w.heap.size (fun _ => True) v0_ r ∧ Below w.heap.size w w' := by
  have hu92 := Try.underlying92; have hu96 := Try.underlying96
  have HR0 := yD hr0
  have HC0 := yD hc0
  clear hr0 hc0
  have HB := yD (Below.refl w.heap.size w)
  have H : (if 0 ≤ (l0.length : Int) then (if ((l0.length : Int) : Int).toNat ≤ 11728124029610 then (laws_toPageS.l0 k l0 (List.replicate ((l0.length : Int) : Int).toNat z96) 0) else (none)) else (none)) = some r := h
  clear h
  by_cases c2 : 0 ≤ (l0.length : Int)
  · rw [if_pos c2] at H
    have c2b0 := eq_true c2
    have c2b1 : decide (0 ≤ (l0.length : Int)) = true := zR c2; clear c2
    by_cases c3 : ((l0.length : Int) : Int).toNat ≤ 11728124029610
    · rw [if_pos c3] at H
      have c3b0 := eq_true c3
      have c3b1 : decide (((l0.length : Int) : Int).toNat ≤ 11728124029610) = true := zR c3
      clear c3
      obtain ⟨y145, hy145⟩ : ∃ y_ : List (S96), y_ = (List.replicate ((l0.length : Int) : Int).toNat z96) := ⟨_, rfl⟩
      replace H : (laws_toPageS.l0 k l0 y145 0) = some r := by first | (rw [hy145]; with_reducible exact H) | (have H2_ := (Option.bind_some _ _).symm.trans H; rw [hy145]; with_reducible exact H2_) | (have H2_ := (Option.bind_some _ _).symm.trans H; with_reducible exact H2_) | with_reducible exact H | (rw [hy145]; exact H) | exact H
      have Ny145 := yD hy145
      clear hy145
      have H' := yD H
      clear H; go_enter Try.func35, Try.ntmps35
      go_wp2_with (first | ((with_reducible refine gate_dst (N := 7) rfl ?_); refine Kd.R_make k96 _ 96 rfl (N := 7) rfl 46 _ _ rfl (l0.length : Int) rfl rfl Try.underlying46 (.agg #[(.int .i64 0), (.string ⟨#[]⟩)]) 24 info96 rfl (by decide) (by omega) z96 (ok := fun _ => True) (okp := fun _ => True) (k96_mkM _ _ _ z96 ) (fun _ hk => hk) trivial (zP (by assumption)) (Nat.le_trans (Nat.mul_le_mul_right _ (zP (by assumption) : (l0.length : Int).toNat ≤ 11728124029610)) (by omega)) (Below.refl _ _) (Nat.le_refl _) ?_; intro v146 w4 ho5 hb hg_ hnew_; clear hg_ hnew_; (first | rw [← Ny145.out] at ho5 | (simp only [Int.reduceToNat] at ho5; rw [← Ny145.out] at ho5)); have n0_ := yD (yZ ho5 (below_size (by repeat (first | (with_reducible first | exact HB.out | apply yQ | apply yL | apply yP) | exact HB.out)))); have n1_ := yD (zC (by repeat (first | (with_reducible first | exact HB.out | apply yQ | apply yL | apply yP) | exact HB.out)) hb); clear HB; have HO147 := n0_; have HB := n1_; clear n0_ n1_; clear hb ho5))
      go_loopg [4] k (fun kq v4 w' => ∃ (x3_1 : List (S96)) (x4_1 : Int), v4 = .int .i64 x4_1 ∧ Aside0 (laws_toPageS.l0 kq l0 x3_1 x4_1 = some r) ∧ Aside0 (kq ≤ k) ∧ Aside0 (Kd.R k96 96 w' w.heap.size (fun _ => True) v146 x3_1) ∧ Aside0 (Below w.heap.size w w'))
      case atStart => exact ⟨(y145), (0), (by first | rfl | (simp; done) | (simp [*]; done)), H', ⟨Nat.le_refl _⟩, ⟨by (with_reducible repeat (first | apply yA | apply yB | apply yC)); exact HO147.out⟩, ⟨by repeat (first | (with_reducible first | exact HB.out | apply yQ | apply yL | apply yP) | exact HB.out)⟩⟩
      case round =>
        clear H'
        try clear c2; try clear c2b0; try clear c2b1; try clear p2; try clear c3; try clear c3b0; try clear c3b1
        obtain ⟨x3_1, x4_1, rfl, HA, HK1, HO_3, HB⟩ := hrel
        cases gk with
        | zero => exact absurd HA.out (by simp [laws_toPageS.l0])
        | succ k1 =>
          have H := HA.out; clear HA
          simp only [laws_toPageS.l0] at H
          by_cases c6 : x4_1 < (l0.length : Int)
          · rw [if_pos c6] at H
            have c6b0 : decide (x4_1 < (l0.length : Int)) = true := zR c6; clear c6
            by_cases c7 : 0 ≤ x4_1
            · rw [if_pos c7] at H
              have c7b0 : decide (0 ≤ x4_1) = true := zR c7; clear c7
              obtain ⟨⟨t149, t150⟩, A80, H⟩ := zW_ H
              replace H : (if x4_1 < (x3_1.length : Int) then (laws_toPageS.l0 k1 l0 (x3_1.set (x4_1 : Int).toNat (⟨t149, t150⟩ : S96)) (wrap64 (x4_1 + 1))) else (none)) = some r := H
              have A8 := yD A80
              clear A80
              by_cases c9 : x4_1 < (x3_1.length : Int)
              · rw [if_pos c9] at H
                have c9b0 : decide (x4_1 < (x3_1.length : Int)) = true := zR c9; clear c9
                obtain ⟨y151, hy151⟩ : ∃ y_ : List (S96), y_ = (x3_1.set (x4_1 : Int).toNat (⟨t149, t150⟩ : S96)) := ⟨_, rfl⟩
                replace H : (laws_toPageS.l0 k1 l0 y151 (wrap64 (x4_1 + 1))) = some r := by first | (rw [hy151]; with_reducible exact H) | (have H2_ := (Option.bind_some _ _).symm.trans H; rw [hy151]; with_reducible exact H2_) | (have H2_ := (Option.bind_some _ _).symm.trans H; with_reducible exact H2_) | with_reducible exact H | (rw [hy151]; exact H) | exact H
                have Ny151 := yD hy151
                clear hy151
                have H' := yD H
                clear H
                have p148 : 0 ≤ (x4_1 : Int) := zP (by assumption)
                have q148 : x4_1 < (l0.length : Int) := zP (by assumption)
                obtain ⟨ad148, e148, hx148_0, hx148_1⟩ := at_T92 HR0.out x4_1 p148 q148
                cases e148
                replace hx148_0 := (HB.out.cell (zQ w _ hx148_0)).trans hx148_0
                replace hx148_1 := (HB.out.cell (zQ w _ hx148_1)).trans hx148_1
                replace p148 := eq_true p148; replace q148 := eq_true q148
                go_wp2_with (first | ((with_reducible refine gate_callee (f := 61) rfl ?_); refine goesL_ (some 20) rfl rfl Try.func61 (by kernel_rfl) rfl #[.agg #[.int .i64 ((rd_T92 l0 x4_1).f0), .string ((rd_T92 l0 x4_1).f1)]] rfl (by (try simp only [zK, zL, zM]); first | done | rfl | (simp only [zN, zO]; rfl)) ?_; (with_reducible refine (laws_toPage.calls ((rd_T92 l0 x4_1).f0) ((rd_T92 l0 x4_1).f1) t149 t150 _ A8.out).mono ?_); rintro e w11 ⟨rfl, hb⟩; refine ⟨_, rfl, ?_⟩; have n0_ := yD (zE (by (with_reducible repeat (first | apply yA | apply yB | apply yC)); exact HO_3.out) hb); have n1_ := yD (zC (by repeat (first | (with_reducible first | exact HB.out | apply yQ | apply yL | apply yP) | exact HB.out)) hb); clear HO_3; clear HB; have HO_3 := n0_; have HB := n1_; clear n0_ n1_; (try clear hb); (try clear hb2); (try clear hk); (try clear hi); have p10 : 0 ≤ (x4_1 : Int) := zP (by assumption); have q10 : (x4_1 : Int) < ((x3_1.length : Int) : Int) := zP (by assumption); obtain ⟨go10, co10, eo10, gb10, gl10, cl10, HG10⟩ := Kd.R_form HO_3.out (by omega); (first | cases eo10 | (injection eo10 with ea_ en_ ec_; (first | subst ea_ | (injection ea_ with ea_; subst ea_)); subst ec_; clear en_)); have GB10 := yD gb10; have GG10 := yD HG10; clear gb10 gl10 HG10; obtain ⟨ce10, hcl10, hM10, hcc10, hfr10⟩ := Kd.R_elem HO_3.out z96 (x4_1 : Int) p10 q10; obtain rfl := k96_openM hM10; have hx10_0 : w11.cell? ⟨go10, (x4_1 : Int).toNat * 2, none⟩ = some (.int .i64 ((rd_T96 x3_1 x4_1).f0)) := hcc10 0 _ rfl; have hx10_1 : w11.cell? ⟨go10, (x4_1 : Int).toNat * 2 + 1, none⟩ = some (.string ((rd_T96 x3_1 x4_1).f1)) := hcc10 1 _ rfl; have hf10_0 : w11.frozen? ⟨go10, (x4_1 : Int).toNat * 2, none⟩ = false := hfr10 0; have hf10_1 : w11.frozen? ⟨go10, (x4_1 : Int).toNat * 2 + 1, none⟩ = false := hfr10 1; clear hcl10 hcc10 hfr10 hM10; replace p10 := eq_true p10; replace q10 := eq_true q10; have HX12 := yD (show Kd.R k96 96 w11 w.heap.size (fun _ => True) (.slice (some ⟨go10, 0, none⟩) x3_1.length co10) x3_1 from (by (with_reducible repeat (first | apply yA | apply yB | apply yC)); exact HO_3.out)); obtain ⟨ce12, hcl12, hM12, hcc12, hfr12⟩ := Kd.R_elem HX12.out z96 (x4_1 : Int) (zP (by assumption)) (by have h_ : (x4_1 : Int) < ((x3_1.length : Int) : Int) := zP (by assumption); first | exact h_ | (have e_ := (zA HO_3.out).1; omega) | simpa using h_); obtain rfl := k96_openM hM12; have HP12 := Kd.R_seg HX12.out (x4_1 : Int) (zP (by assumption)) (by have h_ : (x4_1 : Int) < ((x3_1.length : Int) : Int) := zP (by assumption); first | exact h_ | (have e_ := (zA HO_3.out).1; omega) | simpa using h_) (seg := [.int .i64 t149, .string t150]) (j := 0) hcl12 hcc12 (show 2 ≤ 2 from by decide) (x' := (⟨t149, t150⟩ : S96)) (k96_mkM _ _ _ (⟨t149, t150⟩ : S96) ) (fun _ hk => hk); have hx12_0 := hcc12 0 _ rfl; (try simp only [show (k96).sz = 2 from rfl, Nat.mul_one, Nat.add_zero] at hx12_0); have hf12_0 := hfr12 0; (try simp only [show (k96).sz = 2 from rfl, Nat.mul_one, Nat.add_zero] at hf12_0); have hx12_1 := hcc12 1 _ rfl; (try simp only [show (k96).sz = 2 from rfl, Nat.mul_one, Nat.add_zero] at hx12_1); have hf12_1 := hfr12 1; (try simp only [show (k96).sz = 2 from rfl, Nat.mul_one, Nat.add_zero] at hf12_1); clear hcl12 hcc12 hfr12 hM12) | ((with_reducible refine gate_store (t := 96) (p := 21) rfl ?_); refine store_event (t := 96) (p := 21) (v := ?vo_w13) (w1 := ((w11.setCell ⟨go10, (x4_1 : Int).toNat * 2, none⟩ (.int .i64 t149)).setCell ⟨go10, (x4_1 : Int).toNat * 2 + 1, none⟩ (.string t150))) ?hg ?ho ?hn ?hr ?_; (case ho => rfl); (case hg => rfl); (case hn => rfl); (case hr => first | (go_simp; done) | (go_simp; rfl)); intro w13 hw; have hg : w11.grownBy w13 (some go10) := (by rw [hw]; exact HP12.2); have hp_ : Kd.R k96 96 w13 w.heap.size (fun _ => True) (.slice (some ⟨go10, 0, none⟩) x3_1.length co10) y151 := (by rw [hw, Ny151.out]; exact HP12.1); clear HP12; have n0_ := yD (hp_); have n1_ := yD ((by rw [hw]; exact yE (yE (HB.out) GB10.out) GB10.out : Below w.heap.size w w13)); clear HO_3; clear HB; have HO_3 := n0_; have HB := n1_; clear n0_ n1_; clear hg hw hp_))
                go_roundg k1
                case measure => have := HK1.out; omega
                case rel => exact ⟨(y151), (wrap64 (x4_1 + 1)), (by first | rfl | (simp; done) | (simp [*]; done)), H', ⟨by have := HK1.out; omega⟩, ⟨by (with_reducible repeat (first | apply yA | apply yB | apply yC)); exact HO_3.out⟩, ⟨by repeat (first | (with_reducible first | exact HB.out | apply yQ | apply yL | apply yP) | exact HB.out)⟩⟩
              · rw [if_neg c9] at H
                exact absurd H (by simp)
            · rw [if_neg c7] at H
              exact absurd H (by simp)
          · rw [if_neg c6] at H
            have c6b0 : decide (x4_1 < (l0.length : Int)) = false := zS c6; clear c6; obtain rfl := Option.some.inj H
            go_wp2
            go_ret
            exact ⟨_, by first | rfl | (simp <;> rfl) | (simp [*] <;> rfl), by (with_reducible repeat (first | apply yA | apply yB | apply yC)); exact HO_3.out, by repeat (first | (with_reducible first | exact HB.out | apply yQ | apply yL | apply yP) | exact HB.out)⟩
    · rw [if_neg c3] at H
      exact absurd H (by simp)
  · rw [if_neg c2] at H
    exact absurd H (by simp)

/-! ### laws_toPager: function 16 -/
def laws_toPager.f (k : Nat) (l0_0 : List ByteArray) (l0_1 : List (S79)) (a0_2 : Int) (a0_3 : Bool) (a0_4 : Int) (a0_5 : Int) (a0_6 : Int) (a0_7 : Int) (a0_8 : Int) (a0_9 : Int) (l0_10 : List (S92)) (l0_11 : List (S92)) : Option (List ByteArray × (List (S58)) × Int × Bool × Int × Int × Int × Int × Int × Int × (List (S96)) × (List (S96))) := (laws_toDisk.f k l0_0 l0_1 a0_2 a0_3).bind fun bt155 => ((laws_toSuper.f a0_4 a0_5 a0_6 a0_7).bind fun bt163 => ((laws_toPageS.f k l0_10).bind fun t167 => ((laws_toPageS.f k l0_11).bind fun t170 => (some (bt155.1, bt155.2.1, bt155.2.2.1, bt155.2.2.2, bt163.1, bt163.2.1, bt163.2.2.1, bt163.2.2.2, a0_8, a0_9, t167, t170)))))
theorem laws_toPager.mono : ∀ a0 a1 a2 a3 a4 a5 a6 a7 a8 a9 a10 a11 k, LeO (laws_toPager.f k a0 a1 a2 a3 a4 a5 a6 a7 a8 a9 a10 a11) (laws_toPager.f (k + 1) a0 a1 a2 a3 a4 a5 a6 a7 a8 a9 a10 a11) := by
  intro a0 a1 a2 a3 a4 a5 a6 a7 a8 a9 a10 a11 k
  unfold laws_toPager.f
  repeat' first
      | (with_reducible exact laws_toDisk.mono _ _ _ _ _)
      | (with_reducible exact laws_toPageS.mono _ _)
      | (with_reducible exact LeO.refl _)
      | (with_reducible exact LeO.none _)
      | (with_reducible refine LeO.ite ?_ ?_)
      | (with_reducible refine LeO.bind ?_ (fun _ => ?_))
      | exact laws_toDisk.mono _ _ _ _ _
      | exact laws_toPageS.mono _ _
      | exact LeO.none _
      | refine LeO.ite ?_ ?_
      | refine LeO.bind ?_ (fun _ => ?_)
set_option maxHeartbeats 8000000 in
set_option maxRecDepth 100000 in
theorem laws_toPager.calls (k : Nat) (A0_0 : Option Addr) (c0_0 : Nat) (l0_0 : List ByteArray) (A0_1 : Option Addr) (c0_1 : Nat) (l0_1 : List (S79)) (a0_2 : Int) (a0_3 : Bool) (a0_4 : Int) (a0_5 : Int) (a0_6 : Int) (a0_7 : Int) (a0_8 : Int) (a0_9 : Int) (A0_10 : Option Addr) (c0_10 : Nat) (l0_10 : List (S92)) (A0_11 : Option Addr) (c0_11 : Nat) (l0_11 : List (S92)) (r1 : List ByteArray) (r2 : List (S58)) (r3 : Int) (r4 : Bool) (r5 : Int) (r6 : Int) (r7 : Int) (r8 : Int) (r9 : Int) (r10 : Int) (r11 : List (S96)) (r12 : List (S96)) (w : World) (hr0_0 : Kd.C Kd.string w A0_0 l0_0.length l0_0) (hc0_0 : l0_0.length ≤ c0_0) (hr0_1 : Kd.C k79 w A0_1 l0_1.length l0_1) (hc0_1 : l0_1.length ≤ c0_1) (hr0_10 : Kd.C k92 w A0_10 l0_10.length l0_10) (hc0_10 : l0_10.length ≤ c0_10) (hr0_11 : Kd.C k92 w A0_11 l0_11.length l0_11) (hc0_11 : l0_11.length ≤ c0_11) (h : laws_toPager.f k l0_0 l0_1 a0_2 a0_3 a0_4 a0_5 a0_6 a0_7 a0_8 a0_9 l0_10 l0_11 = some (r1, r2, r3, r4, r5, r6, r7, r8, r9, r10, r11, r12)) :
    Calls Try.prog 16 #[.agg #[.slice A0_0 l0_0.length c0_0, .slice A0_1 l0_1.length c0_1, .int .i64 a0_2, .bool a0_3, .int .i64 a0_4, .int .i64 a0_5, .int .i64 a0_6, .int .i64 a0_7, .int .i64 a0_8, .int .i64 a0_9, .slice A0_10 l0_10.length c0_10, .slice A0_11 l0_11.length c0_11]] w fun e w' => ∃ v0_ v1_ v10_ v11_ : Value, e = .returned (.agg #[v0_, v1_, .int .i64 r3, .bool r4, .int .i64 r5, .int .i64 r6, .int .i64 r7, .int .i64 r8, .int .i64 r9, .int .i64 r10, v10_, v11_]) ∧ Kd.R Kd.string 9 w' w.heap.size (fun _ => True) v0_ r1 ∧ Kd.R k58 58 w' w.heap.size (fun _ => True) v1_ r2 ∧ Kd.R k96 96 w' w.heap.size (fun k_ => some k_ ≠ (v11_ : Value).ownBlock) v10_ r11 ∧ Kd.R k96 96 w' w.heap.size (fun k_ => some k_ ≠ (v10_ : Value).ownBlock) v11_ r12 ∧ Below w.heap.size w w' := by
  have hu42 := Try.underlying42; have hu48 := Try.underlying48; have hu25 := Try.underlying25; have hu31 := Try.underlying31; have hu39 := Try.underlying39; have hu45 := Try.underlying45
  have HR0_0 := yD hr0_0
  have HC0_0 := yD hc0_0
  clear hr0_0 hc0_0
  have HR0_1 := yD hr0_1
  have HC0_1 := yD hc0_1
  clear hr0_1 hc0_1
  have HR0_10 := yD hr0_10
  have HC0_10 := yD hc0_10
  clear hr0_10 hc0_10
  have HR0_11 := yD hr0_11
  have HC0_11 := yD hc0_11
  clear hr0_11 hc0_11
  have HB := yD (Below.refl w.heap.size w)
  have H : ((laws_toDisk.f k l0_0 l0_1 a0_2 a0_3).bind fun bt155 => ((laws_toSuper.f a0_4 a0_5 a0_6 a0_7).bind fun bt163 => ((laws_toPageS.f k l0_10).bind fun t167 => ((laws_toPageS.f k l0_11).bind fun t170 => (some (bt155.1, bt155.2.1, bt155.2.2.1, bt155.2.2.2, bt163.1, bt163.2.1, bt163.2.2.1, bt163.2.2.2, a0_8, a0_9, t167, t170)))))) = some (r1, r2, r3, r4, r5, r6, r7, r8, r9, r10, r11, r12) := h
  clear h
  obtain ⟨⟨t155, t158, t161, t162⟩, A20, H⟩ := zW_ H
  replace H : ((laws_toSuper.f a0_4 a0_5 a0_6 a0_7).bind fun bt163 => ((laws_toPageS.f k l0_10).bind fun t167 => ((laws_toPageS.f k l0_11).bind fun t170 => (some (t155, t158, t161, t162, bt163.1, bt163.2.1, bt163.2.2.1, bt163.2.2.2, a0_8, a0_9, t167, t170))))) = some (r1, r2, r3, r4, r5, r6, r7, r8, r9, r10, r11, r12) := H
  have A2 := yD A20
  clear A20
  obtain ⟨⟨t163, t164, t165, t166⟩, A30, H⟩ := zW_ H
  replace H : ((laws_toPageS.f k l0_10).bind fun t167 => ((laws_toPageS.f k l0_11).bind fun t170 => (some (t155, t158, t161, t162, t163, t164, t165, t166, a0_8, a0_9, t167, t170)))) = some (r1, r2, r3, r4, r5, r6, r7, r8, r9, r10, r11, r12) := H
  have A3 := yD A30
  clear A30
  obtain ⟨t167, A40, H⟩ := zW_ H
  replace H : ((laws_toPageS.f k l0_11).bind fun t170 => (some (t155, t158, t161, t162, t163, t164, t165, t166, a0_8, a0_9, t167, t170))) = some (r1, r2, r3, r4, r5, r6, r7, r8, r9, r10, r11, r12) := H
  have A4 := yD A40
  clear A40
  obtain ⟨t170, A50, H⟩ := zW_ H
  replace H : (some (t155, t158, t161, t162, t163, t164, t165, t166, a0_8, a0_9, t167, t170)) = some (r1, r2, r3, r4, r5, r6, r7, r8, r9, r10, r11, r12) := H
  have A5 := yD A50
  clear A50
  simp only [Option.some.injEq, Prod.mk.injEq] at H
  obtain ⟨rfl, rfl, rfl, rfl, rfl, rfl, rfl, rfl, rfl, rfl, rfl, rfl⟩ := H
  go_enter Try.func16, Try.ntmps16
  go_wp2_with (first | ((with_reducible refine gate_dst (N := 1) rfl ?_); refine box_event ?hg (N := 1) ?hd (cs := #[.slice A0_0 l0_0.length c0_0, .slice A0_1 l0_1.length c0_1, .int .i64 a0_2, .bool a0_3, .int .i64 a0_4, .int .i64 a0_5, .int .i64 a0_6, .int .i64 a0_7, .int .i64 a0_8, .int .i64 a0_9, .slice A0_10 l0_10.length c0_10, .slice A0_11 l0_11.length c0_11]) (t := 42) ?hr ?_; (case hd => rfl); (case hg => rfl); (case hr => first | (go_simp; done) | (go_simp; rfl)); intro gb152 hg w6 hbox hb; have n0_ := yD (zC (by repeat (first | (with_reducible first | exact HB.out | apply yQ | apply yL | apply yP) | exact HB.out)) hb); have n1_ := yD (hbox); have n2_ := yD ((by rw [hg]; exact (below_size (by repeat (first | (with_reducible first | exact HB.out | apply yQ | apply yL | apply yP) | exact HB.out))) : w.heap.size ≤ gb152)); have n3_ := yD ((by rw [hg]; exact (below_size (by repeat (first | (with_reducible first | exact HB.out | apply yQ | apply yL | apply yP) | exact HB.out))) : w.heap.size ≤ gb152)); clear HB; have HB := n0_; have BK152 := n1_; have GW152 := n2_; have GE152 := n3_; clear n0_ n1_ n2_ n3_; clear hb hbox hg) | ((with_reducible refine gate_dst (N := 2) rfl ?_); refine box_event ?hg (N := 2) ?hd (cs := #[.slice none 0 0, .slice none 0 0, .int .i64 0, .bool false, .int .i64 0, .int .i64 0, .int .i64 0, .int .i64 0, .int .i64 0, .int .i64 0, .slice none 0 0, .slice none 0 0]) (t := 48) ?hr ?_; (case hd => rfl); (case hg => rfl); (case hr => first | (go_simp; done) | (go_simp; rfl)); intro gb153 hg w7 hbox hb; have n0_ := yD (zB (g := gb152) (o := .cells #[.slice A0_0 l0_0.length c0_0, .slice A0_1 l0_1.length c0_1, .int .i64 a0_2, .bool a0_3, .int .i64 a0_4, .int .i64 a0_5, .int .i64 a0_6, .int .i64 a0_7, .int .i64 a0_8, .int .i64 a0_9, .slice A0_10 l0_10.length c0_10, .slice A0_11 l0_11.length c0_11] 42 (0, 0)) (by (with_reducible repeat (first | refine yM ?_ _ | refine yO ?_ | refine yN ?_ _)); exact BK152.out) hb); have n1_ := yD (zC (by repeat (first | (with_reducible first | exact HB.out | apply yQ | apply yL | apply yP | refine yE ?_ GE152.out) | exact HB.out)) hb); have n2_ := yD (hbox); have n3_ := yD ((by rw [hg]; exact (below_size (by repeat (first | (with_reducible first | exact HB.out | apply yQ | apply yL | apply yP | refine yE ?_ GE152.out) | exact HB.out))) : w.heap.size ≤ gb153)); have n4_ := yD ((by rw [hg]; exact (below_size (by repeat (first | (with_reducible first | exact HB.out | apply yQ | apply yL | apply yP | refine yE ?_ GE152.out) | exact HB.out))) : w.heap.size ≤ gb153)); have n5_ := yD ((by rw [hg]; exact Nat.ne_of_lt (blk_lt (g := gb152) (o := .cells #[.slice A0_0 l0_0.length c0_0, .slice A0_1 l0_1.length c0_1, .int .i64 a0_2, .bool a0_3, .int .i64 a0_4, .int .i64 a0_5, .int .i64 a0_6, .int .i64 a0_7, .int .i64 a0_8, .int .i64 a0_9, .slice A0_10 l0_10.length c0_10, .slice A0_11 l0_11.length c0_11] 42 (0, 0)) (by (with_reducible repeat (first | refine yM ?_ _ | refine yO ?_ | refine yN ?_ _)); exact BK152.out)) : gb152 ≠ gb153)); have n6_ := yD ((by rw [hg]; exact Nat.ne_of_gt (blk_lt (g := gb152) (o := .cells #[.slice A0_0 l0_0.length c0_0, .slice A0_1 l0_1.length c0_1, .int .i64 a0_2, .bool a0_3, .int .i64 a0_4, .int .i64 a0_5, .int .i64 a0_6, .int .i64 a0_7, .int .i64 a0_8, .int .i64 a0_9, .slice A0_10 l0_10.length c0_10, .slice A0_11 l0_11.length c0_11] 42 (0, 0)) (by (with_reducible repeat (first | refine yM ?_ _ | refine yO ?_ | refine yN ?_ _)); exact BK152.out)) : gb153 ≠ gb152)); clear BK152; clear HB; have BK152 := n0_; have HB := n1_; have BK153 := n2_; have GW153 := n3_; have GE153 := n4_; have NB152_153 := n5_; have NB153_152 := n6_; clear n0_ n1_ n2_ n3_ n4_ n5_ n6_; clear hb hbox hg) | ((with_reducible refine gate_dst (N := 3) rfl ?_); refine box_event ?hg (N := 3) ?hd (cs := #[.slice none 0 0, .slice none 0 0, .int .i64 0, .bool false, .int .i64 0, .int .i64 0, .int .i64 0, .int .i64 0, .int .i64 0, .int .i64 0, .slice none 0 0, .slice none 0 0]) (t := 48) ?hr ?_; (case hd => rfl); (case hg => rfl); (case hr => first | (go_simp; done) | (go_simp; rfl)); intro gb154 hg w8 hbox hb; have n0_ := yD (zB (g := gb152) (o := .cells #[.slice A0_0 l0_0.length c0_0, .slice A0_1 l0_1.length c0_1, .int .i64 a0_2, .bool a0_3, .int .i64 a0_4, .int .i64 a0_5, .int .i64 a0_6, .int .i64 a0_7, .int .i64 a0_8, .int .i64 a0_9, .slice A0_10 l0_10.length c0_10, .slice A0_11 l0_11.length c0_11] 42 (0, 0)) (by (with_reducible repeat (first | refine yM ?_ _ | refine yO ?_ | refine yN ?_ _)); exact BK152.out) hb); have n1_ := yD (zB (g := gb153) (o := .cells #[.slice none 0 0, .slice none 0 0, .int .i64 0, .bool false, .int .i64 0, .int .i64 0, .int .i64 0, .int .i64 0, .int .i64 0, .int .i64 0, .slice none 0 0, .slice none 0 0] 48 (0, 0)) (by (with_reducible repeat (first | refine yM ?_ _ | refine yO ?_ | refine yN ?_ _)); exact BK153.out) hb); have n2_ := yD (zC (by repeat (first | (with_reducible first | exact HB.out | apply yQ | apply yL | apply yP | refine yE ?_ GE152.out | refine yE ?_ GE153.out) | exact HB.out)) hb); have n3_ := yD (hbox); have n4_ := yD ((by rw [hg]; exact (below_size (by repeat (first | (with_reducible first | exact HB.out | apply yQ | apply yL | apply yP | refine yE ?_ GE152.out | refine yE ?_ GE153.out) | exact HB.out))) : w.heap.size ≤ gb154)); have n5_ := yD ((by rw [hg]; exact (below_size (by repeat (first | (with_reducible first | exact HB.out | apply yQ | apply yL | apply yP | refine yE ?_ GE152.out | refine yE ?_ GE153.out) | exact HB.out))) : w.heap.size ≤ gb154)); have n6_ := yD ((by rw [hg]; exact Nat.ne_of_lt (blk_lt (g := gb152) (o := .cells #[.slice A0_0 l0_0.length c0_0, .slice A0_1 l0_1.length c0_1, .int .i64 a0_2, .bool a0_3, .int .i64 a0_4, .int .i64 a0_5, .int .i64 a0_6, .int .i64 a0_7, .int .i64 a0_8, .int .i64 a0_9, .slice A0_10 l0_10.length c0_10, .slice A0_11 l0_11.length c0_11] 42 (0, 0)) (by (with_reducible repeat (first | refine yM ?_ _ | refine yO ?_ | refine yN ?_ _)); exact BK152.out)) : gb152 ≠ gb154)); have n7_ := yD ((by rw [hg]; exact Nat.ne_of_gt (blk_lt (g := gb152) (o := .cells #[.slice A0_0 l0_0.length c0_0, .slice A0_1 l0_1.length c0_1, .int .i64 a0_2, .bool a0_3, .int .i64 a0_4, .int .i64 a0_5, .int .i64 a0_6, .int .i64 a0_7, .int .i64 a0_8, .int .i64 a0_9, .slice A0_10 l0_10.length c0_10, .slice A0_11 l0_11.length c0_11] 42 (0, 0)) (by (with_reducible repeat (first | refine yM ?_ _ | refine yO ?_ | refine yN ?_ _)); exact BK152.out)) : gb154 ≠ gb152)); have n8_ := yD ((by rw [hg]; exact Nat.ne_of_lt (blk_lt (g := gb153) (o := .cells #[.slice none 0 0, .slice none 0 0, .int .i64 0, .bool false, .int .i64 0, .int .i64 0, .int .i64 0, .int .i64 0, .int .i64 0, .int .i64 0, .slice none 0 0, .slice none 0 0] 48 (0, 0)) (by (with_reducible repeat (first | refine yM ?_ _ | refine yO ?_ | refine yN ?_ _)); exact BK153.out)) : gb153 ≠ gb154)); have n9_ := yD ((by rw [hg]; exact Nat.ne_of_gt (blk_lt (g := gb153) (o := .cells #[.slice none 0 0, .slice none 0 0, .int .i64 0, .bool false, .int .i64 0, .int .i64 0, .int .i64 0, .int .i64 0, .int .i64 0, .int .i64 0, .slice none 0 0, .slice none 0 0] 48 (0, 0)) (by (with_reducible repeat (first | refine yM ?_ _ | refine yO ?_ | refine yN ?_ _)); exact BK153.out)) : gb154 ≠ gb153)); clear BK152; clear BK153; clear HB; have BK152 := n0_; have BK153 := n1_; have HB := n2_; have BK154 := n3_; have GW154 := n4_; have GE154 := n5_; have NB152_154 := n6_; have NB154_152 := n7_; have NB153_154 := n8_; have NB154_153 := n9_; clear n0_ n1_ n2_ n3_ n4_ n5_ n6_ n7_ n8_ n9_; clear hb hbox hg; have hnb9 := NB152_153.out; have hnc9 := NB153_152.out; have hnb10 := NB152_154.out; have hnc10 := NB154_152.out; obtain ⟨hcz11_0, hcz11_1, hcz11_2, hcz11_3, hcz11_4, hcz11_5, hcz11_6, hcz11_7, hcz11_8, hcz11_9, hcz11_10, hcz11_11⟩ := cz12 BK152.out; obtain ⟨hfz11_0, hfz11_1, hfz11_2, hfz11_3, hfz11_4, hfz11_5, hfz11_6, hfz11_7, hfz11_8, hfz11_9, hfz11_10, hfz11_11⟩ := fz12 BK152.out) | ((with_reducible refine gate_callee (f := 7) rfl ?_); refine goesL_ (some 6) rfl rfl Try.func7 (by kernel_rfl) rfl #[.agg #[.slice A0_0 l0_0.length c0_0, .slice A0_1 l0_1.length c0_1, .int .i64 a0_2, .bool a0_3]] rfl (by (try simp only [zK, zL, zM]); first | done | rfl | (simp only [zN, zO]; rfl)) ?_; (with_reducible refine (laws_toDisk.calls k _ _ l0_0 _ _ l0_1 a0_2 a0_3 t155 t158 t161 t162 _ ?side1 ?side2 ?side3 ?side4 A2.out).mono ?_); (case side1 => repeat (first | exact (yY HR0_0.out HB.out) | (with_reducible first | refine yV ?_ _ | refine yW ?_ _ | refine yX ?_))); (case side2 => exact HC0_0.out); (case side3 => repeat (first | exact (yY HR0_1.out HB.out) | (with_reducible first | refine yV ?_ _ | refine yW ?_ _ | refine yX ?_))); (case side4 => exact HC0_1.out); rintro e w12 ⟨v156, v159, rfl, ho0, ho1, hb⟩; refine ⟨_, rfl, ?_⟩; have n0_ := yD (yZ ho0 (below_size (by repeat (first | (with_reducible first | exact HB.out | apply yQ | apply yL | apply yP | refine yE ?_ GE152.out | refine yE ?_ GE153.out | refine yE ?_ GE154.out) | exact HB.out)))); have n1_ := yD (yZ ho1 (below_size (by repeat (first | (with_reducible first | exact HB.out | apply yQ | apply yL | apply yP | refine yE ?_ GE152.out | refine yE ?_ GE153.out | refine yE ?_ GE154.out) | exact HB.out)))); have n2_ := yD (zB (g := gb152) (o := .cells #[.slice A0_0 l0_0.length c0_0, .slice A0_1 l0_1.length c0_1, .int .i64 a0_2, .bool a0_3, .int .i64 a0_4, .int .i64 a0_5, .int .i64 a0_6, .int .i64 a0_7, .int .i64 a0_8, .int .i64 a0_9, .slice A0_10 l0_10.length c0_10, .slice A0_11 l0_11.length c0_11] 42 (0, 0)) (by (with_reducible repeat (first | refine yM ?_ _ | refine yO ?_ | refine yN ?_ _)); exact BK152.out) hb); have n3_ := yD (zB (g := gb153) (o := .cells #[.slice none 0 0, .slice none 0 0, .int .i64 0, .bool false, .int .i64 0, .int .i64 0, .int .i64 0, .int .i64 0, .int .i64 0, .int .i64 0, .slice none 0 0, .slice none 0 0] 48 (0, 0)) (by (with_reducible repeat (first | refine yM ?_ _ | refine yO ?_ | refine yN ?_ _)); exact BK153.out) hb); have n4_ := yD (zB (g := gb154) (o := .cells #[.slice none 0 0, .slice none 0 0, .int .i64 0, .bool false, .int .i64 0, .int .i64 0, .int .i64 0, .int .i64 0, .int .i64 0, .int .i64 0, .slice none 0 0, .slice none 0 0] 48 (0, 0)) (by (with_reducible repeat (first | refine yM ?_ _ | refine yO ?_ | refine yN ?_ _)); exact BK154.out) hb); have n5_ := yD (zC (by repeat (first | (with_reducible first | exact HB.out | apply yQ | apply yL | apply yP | refine yE ?_ GE152.out | refine yE ?_ GE153.out | refine yE ?_ GE154.out) | exact HB.out)) hb); clear BK152; clear BK153; clear BK154; clear HB; have HO157 := n0_; have HO160 := n1_; have BK152 := n2_; have BK153 := n3_; have BK154 := n4_; have HB := n5_; clear n0_ n1_ n2_ n3_ n4_ n5_; (try clear hb); (try clear hb2); (try clear hk); (try clear hi); (try clear ho0); (try clear ho1); obtain ⟨Ao13, co13, eo13⟩ := Kd.R_slice HO157.out; subst eo13; have hnb14 := NB154_153.out; have hnc14 := NB153_154.out; obtain ⟨hcz15_0, hcz15_1, hcz15_2, hcz15_3, hcz15_4, hcz15_5, hcz15_6, hcz15_7, hcz15_8, hcz15_9, hcz15_10, hcz15_11⟩ := cz12 BK154.out; obtain ⟨hfz15_0, hfz15_1, hfz15_2, hfz15_3, hfz15_4, hfz15_5, hfz15_6, hfz15_7, hfz15_8, hfz15_9, hfz15_10, hfz15_11⟩ := fz12 BK154.out; obtain ⟨Ao16, co16, eo16⟩ := Kd.R_slice HO160.out; subst eo16; obtain ⟨hcz17_0, hcz17_1, hcz17_2, hcz17_3, hcz17_4, hcz17_5, hcz17_6, hcz17_7, hcz17_8, hcz17_9, hcz17_10, hcz17_11⟩ := cz12 BK152.out; obtain ⟨hfz17_0, hfz17_1, hfz17_2, hfz17_3, hfz17_4, hfz17_5, hfz17_6, hfz17_7, hfz17_8, hfz17_9, hfz17_10, hfz17_11⟩ := fz12 BK152.out) | ((with_reducible refine gate_callee (f := 34) rfl ?_); refine goesL_ (some 10) rfl rfl Try.func34 (by kernel_rfl) rfl #[.agg #[.int .i64 a0_4, .int .i64 a0_5, .int .i64 a0_6, .int .i64 a0_7]] rfl (by (try simp only [zK, zL, zM]); first | done | rfl | (simp only [zN, zO]; rfl)) ?_; (with_reducible refine (laws_toSuper.calls a0_4 a0_5 a0_6 a0_7 t163 t164 t165 t166 _ A3.out).mono ?_); rintro e w18 ⟨rfl, hb⟩; refine ⟨_, rfl, ?_⟩; have n0_ := yD (zE (by (with_reducible repeat (first | apply yA | apply yB | apply yC)); exact (zF (yF (p := ⟨gb154, 3, none⟩) (yF (p := ⟨gb154, 2, none⟩) (yF (p := ⟨gb154, 1, none⟩) (yF (p := ⟨gb154, 0, none⟩) (Kd.R_types HO157.out BK154.out (by decide)) (fun _ hk => hk.2) (.slice Ao13 t155.length co13)) (fun _ hk => hk.2) (.slice Ao16 t158.length co16)) (fun _ hk => hk.2) (.int .i64 t161)) (fun _ hk => hk.2) (.bool t162)) (fun _ h_ => h_.1))) hb); have n1_ := yD (zE (by (with_reducible repeat (first | apply yA | apply yB | apply yC)); exact (zF (yF (p := ⟨gb154, 3, none⟩) (yF (p := ⟨gb154, 2, none⟩) (yF (p := ⟨gb154, 1, none⟩) (yF (p := ⟨gb154, 0, none⟩) (Kd.R_types HO160.out BK154.out (by decide)) (fun _ hk => hk.2) (.slice Ao13 t155.length co13)) (fun _ hk => hk.2) (.slice Ao16 t158.length co16)) (fun _ hk => hk.2) (.int .i64 t161)) (fun _ hk => hk.2) (.bool t162)) (fun _ h_ => h_.1))) hb); have n2_ := yD (zB (g := gb152) (o := .cells #[.slice A0_0 l0_0.length c0_0, .slice A0_1 l0_1.length c0_1, .int .i64 a0_2, .bool a0_3, .int .i64 a0_4, .int .i64 a0_5, .int .i64 a0_6, .int .i64 a0_7, .int .i64 a0_8, .int .i64 a0_9, .slice A0_10 l0_10.length c0_10, .slice A0_11 l0_11.length c0_11] 42 (0, 0)) (by (with_reducible repeat (first | refine yM ?_ _ | refine yO ?_ | refine yN ?_ _)); refine blk_far ?_ NB152_154.out _; (with_reducible repeat (first | refine yM ?_ _ | refine yO ?_ | refine yN ?_ _)); refine blk_far ?_ NB152_154.out _; (with_reducible repeat (first | refine yM ?_ _ | refine yO ?_ | refine yN ?_ _)); refine blk_far ?_ NB152_154.out _; (with_reducible repeat (first | refine yM ?_ _ | refine yO ?_ | refine yN ?_ _)); refine blk_far ?_ NB152_154.out _; (with_reducible repeat (first | refine yM ?_ _ | refine yO ?_ | refine yN ?_ _)); exact BK152.out) hb); have n3_ := yD (zB (g := gb153) (o := .cells #[.slice none 0 0, .slice none 0 0, .int .i64 0, .bool false, .int .i64 0, .int .i64 0, .int .i64 0, .int .i64 0, .int .i64 0, .int .i64 0, .slice none 0 0, .slice none 0 0] 48 (0, 0)) (by (with_reducible repeat (first | refine yM ?_ _ | refine yO ?_ | refine yN ?_ _)); refine blk_far ?_ NB153_154.out _; (with_reducible repeat (first | refine yM ?_ _ | refine yO ?_ | refine yN ?_ _)); refine blk_far ?_ NB153_154.out _; (with_reducible repeat (first | refine yM ?_ _ | refine yO ?_ | refine yN ?_ _)); refine blk_far ?_ NB153_154.out _; (with_reducible repeat (first | refine yM ?_ _ | refine yO ?_ | refine yN ?_ _)); refine blk_far ?_ NB153_154.out _; (with_reducible repeat (first | refine yM ?_ _ | refine yO ?_ | refine yN ?_ _)); exact BK153.out) hb); have n4_ := yD (zB (g := gb154) (o := .cells #[.slice Ao13 t155.length co13, .slice Ao16 t158.length co16, .int .i64 t161, .bool t162, .int .i64 0, .int .i64 0, .int .i64 0, .int .i64 0, .int .i64 0, .int .i64 0, .slice none 0 0, .slice none 0 0] 48 (0, 0)) (by (with_reducible repeat (first | refine yM ?_ _ | refine yO ?_ | refine yN ?_ _)); refine blk_put (cs := #[.slice Ao13 t155.length co13, .slice Ao16 t158.length co16, .int .i64 t161, .bool false, .int .i64 0, .int .i64 0, .int .i64 0, .int .i64 0, .int .i64 0, .int .i64 0, .slice none 0 0, .slice none 0 0]) ?_ 3 _ rfl; (with_reducible repeat (first | refine yM ?_ _ | refine yO ?_ | refine yN ?_ _)); refine blk_put (cs := #[.slice Ao13 t155.length co13, .slice Ao16 t158.length co16, .int .i64 0, .bool false, .int .i64 0, .int .i64 0, .int .i64 0, .int .i64 0, .int .i64 0, .int .i64 0, .slice none 0 0, .slice none 0 0]) ?_ 2 _ rfl; (with_reducible repeat (first | refine yM ?_ _ | refine yO ?_ | refine yN ?_ _)); refine blk_put (cs := #[.slice Ao13 t155.length co13, .slice none 0 0, .int .i64 0, .bool false, .int .i64 0, .int .i64 0, .int .i64 0, .int .i64 0, .int .i64 0, .int .i64 0, .slice none 0 0, .slice none 0 0]) ?_ 1 _ rfl; (with_reducible repeat (first | refine yM ?_ _ | refine yO ?_ | refine yN ?_ _)); refine blk_put (cs := #[.slice none 0 0, .slice none 0 0, .int .i64 0, .bool false, .int .i64 0, .int .i64 0, .int .i64 0, .int .i64 0, .int .i64 0, .int .i64 0, .slice none 0 0, .slice none 0 0]) ?_ 0 _ rfl; (with_reducible repeat (first | refine yM ?_ _ | refine yO ?_ | refine yN ?_ _)); exact BK154.out) hb); have n5_ := yD (zC (by repeat (first | (with_reducible first | exact HB.out | apply yQ | apply yL | apply yP | refine yE ?_ GE152.out | refine yE ?_ GE153.out | refine yE ?_ GE154.out) | exact HB.out)) hb); clear HO157; clear HO160; clear BK152; clear BK153; clear BK154; clear HB; have HO157 := n0_; have HO160 := n1_; have BK152 := n2_; have BK153 := n3_; have BK154 := n4_; have HB := n5_; clear n0_ n1_ n2_ n3_ n4_ n5_; (try clear hb); (try clear hb2); (try clear hk); (try clear hi); obtain ⟨hcz19_0, hcz19_1, hcz19_2, hcz19_3, hcz19_4, hcz19_5, hcz19_6, hcz19_7, hcz19_8, hcz19_9, hcz19_10, hcz19_11⟩ := cz12 BK154.out; obtain ⟨hfz19_0, hfz19_1, hfz19_2, hfz19_3, hfz19_4, hfz19_5, hfz19_6, hfz19_7, hfz19_8, hfz19_9, hfz19_10, hfz19_11⟩ := fz12 BK154.out; obtain ⟨hcz20_0, hcz20_1, hcz20_2, hcz20_3, hcz20_4, hcz20_5, hcz20_6, hcz20_7, hcz20_8, hcz20_9, hcz20_10, hcz20_11⟩ := cz12 BK152.out; obtain ⟨hfz20_0, hfz20_1, hfz20_2, hfz20_3, hfz20_4, hfz20_5, hfz20_6, hfz20_7, hfz20_8, hfz20_9, hfz20_10, hfz20_11⟩ := fz12 BK152.out) | ((with_reducible refine gate_callee (f := 35) rfl ?_); refine goesL_ (some 20) rfl rfl Try.func35 (by kernel_rfl) rfl #[.slice A0_10 l0_10.length c0_10] rfl (by (try simp only [zK, zL, zM]); first | done | rfl | (simp only [zN, zO]; rfl)) ?_; (with_reducible refine (laws_toPageS.calls k _ _ l0_10 t167 _ ?side1 ?side2 A4.out).mono ?_); (case side1 => exact yY HR0_10.out (by repeat (first | (with_reducible first | exact HB.out | apply yQ | apply yL | apply yP | refine yE ?_ GE152.out | refine yE ?_ GE153.out | refine yE ?_ GE154.out) | exact HB.out))); (case side2 => exact HC0_10.out); rintro e w21 ⟨v168, rfl, ho0, hb⟩; refine ⟨_, rfl, ?_⟩; have n0_ := yD (zE (by (with_reducible repeat (first | apply yA | apply yB | apply yC)); exact (zF (yF (p := ⟨gb154, 9, none⟩) (yF (p := ⟨gb154, 8, none⟩) (yF (p := ⟨gb154, 7, none⟩) (yF (p := ⟨gb154, 6, none⟩) (yF (p := ⟨gb154, 5, none⟩) (yF (p := ⟨gb154, 4, none⟩) (Kd.R_types HO157.out BK154.out (by decide)) (fun _ hk => hk.2) (.int .i64 t163)) (fun _ hk => hk.2) (.int .i64 t164)) (fun _ hk => hk.2) (.int .i64 t165)) (fun _ hk => hk.2) (.int .i64 t166)) (fun _ hk => hk.2) (.int .i64 a0_8)) (fun _ hk => hk.2) (.int .i64 a0_9)) (fun _ h_ => h_.1))) hb); have n1_ := yD (zE (by (with_reducible repeat (first | apply yA | apply yB | apply yC)); exact (zF (yF (p := ⟨gb154, 9, none⟩) (yF (p := ⟨gb154, 8, none⟩) (yF (p := ⟨gb154, 7, none⟩) (yF (p := ⟨gb154, 6, none⟩) (yF (p := ⟨gb154, 5, none⟩) (yF (p := ⟨gb154, 4, none⟩) (Kd.R_types HO160.out BK154.out (by decide)) (fun _ hk => hk.2) (.int .i64 t163)) (fun _ hk => hk.2) (.int .i64 t164)) (fun _ hk => hk.2) (.int .i64 t165)) (fun _ hk => hk.2) (.int .i64 t166)) (fun _ hk => hk.2) (.int .i64 a0_8)) (fun _ hk => hk.2) (.int .i64 a0_9)) (fun _ h_ => h_.1))) hb); have n2_ := yD (yZ ho0 (below_size (by repeat (first | (with_reducible first | exact HB.out | apply yQ | apply yL | apply yP | refine yE ?_ GE152.out | refine yE ?_ GE153.out | refine yE ?_ GE154.out) | exact HB.out)))); have n3_ := yD (zB (g := gb152) (o := .cells #[.slice A0_0 l0_0.length c0_0, .slice A0_1 l0_1.length c0_1, .int .i64 a0_2, .bool a0_3, .int .i64 a0_4, .int .i64 a0_5, .int .i64 a0_6, .int .i64 a0_7, .int .i64 a0_8, .int .i64 a0_9, .slice A0_10 l0_10.length c0_10, .slice A0_11 l0_11.length c0_11] 42 (0, 0)) (by (with_reducible repeat (first | refine yM ?_ _ | refine yO ?_ | refine yN ?_ _)); refine blk_far ?_ NB152_154.out _; (with_reducible repeat (first | refine yM ?_ _ | refine yO ?_ | refine yN ?_ _)); refine blk_far ?_ NB152_154.out _; (with_reducible repeat (first | refine yM ?_ _ | refine yO ?_ | refine yN ?_ _)); refine blk_far ?_ NB152_154.out _; (with_reducible repeat (first | refine yM ?_ _ | refine yO ?_ | refine yN ?_ _)); refine blk_far ?_ NB152_154.out _; (with_reducible repeat (first | refine yM ?_ _ | refine yO ?_ | refine yN ?_ _)); refine blk_far ?_ NB152_154.out _; (with_reducible repeat (first | refine yM ?_ _ | refine yO ?_ | refine yN ?_ _)); refine blk_far ?_ NB152_154.out _; (with_reducible repeat (first | refine yM ?_ _ | refine yO ?_ | refine yN ?_ _)); exact BK152.out) hb); have n4_ := yD (zB (g := gb153) (o := .cells #[.slice none 0 0, .slice none 0 0, .int .i64 0, .bool false, .int .i64 0, .int .i64 0, .int .i64 0, .int .i64 0, .int .i64 0, .int .i64 0, .slice none 0 0, .slice none 0 0] 48 (0, 0)) (by (with_reducible repeat (first | refine yM ?_ _ | refine yO ?_ | refine yN ?_ _)); refine blk_far ?_ NB153_154.out _; (with_reducible repeat (first | refine yM ?_ _ | refine yO ?_ | refine yN ?_ _)); refine blk_far ?_ NB153_154.out _; (with_reducible repeat (first | refine yM ?_ _ | refine yO ?_ | refine yN ?_ _)); refine blk_far ?_ NB153_154.out _; (with_reducible repeat (first | refine yM ?_ _ | refine yO ?_ | refine yN ?_ _)); refine blk_far ?_ NB153_154.out _; (with_reducible repeat (first | refine yM ?_ _ | refine yO ?_ | refine yN ?_ _)); refine blk_far ?_ NB153_154.out _; (with_reducible repeat (first | refine yM ?_ _ | refine yO ?_ | refine yN ?_ _)); refine blk_far ?_ NB153_154.out _; (with_reducible repeat (first | refine yM ?_ _ | refine yO ?_ | refine yN ?_ _)); exact BK153.out) hb); have n5_ := yD (zB (g := gb154) (o := .cells #[.slice Ao13 t155.length co13, .slice Ao16 t158.length co16, .int .i64 t161, .bool t162, .int .i64 t163, .int .i64 t164, .int .i64 t165, .int .i64 t166, .int .i64 a0_8, .int .i64 a0_9, .slice none 0 0, .slice none 0 0] 48 (0, 0)) (by (with_reducible repeat (first | refine yM ?_ _ | refine yO ?_ | refine yN ?_ _)); refine blk_put (cs := #[.slice Ao13 t155.length co13, .slice Ao16 t158.length co16, .int .i64 t161, .bool t162, .int .i64 t163, .int .i64 t164, .int .i64 t165, .int .i64 t166, .int .i64 a0_8, .int .i64 0, .slice none 0 0, .slice none 0 0]) ?_ 9 _ rfl; (with_reducible repeat (first | refine yM ?_ _ | refine yO ?_ | refine yN ?_ _)); refine blk_put (cs := #[.slice Ao13 t155.length co13, .slice Ao16 t158.length co16, .int .i64 t161, .bool t162, .int .i64 t163, .int .i64 t164, .int .i64 t165, .int .i64 t166, .int .i64 0, .int .i64 0, .slice none 0 0, .slice none 0 0]) ?_ 8 _ rfl; (with_reducible repeat (first | refine yM ?_ _ | refine yO ?_ | refine yN ?_ _)); refine blk_put (cs := #[.slice Ao13 t155.length co13, .slice Ao16 t158.length co16, .int .i64 t161, .bool t162, .int .i64 t163, .int .i64 t164, .int .i64 t165, .int .i64 0, .int .i64 0, .int .i64 0, .slice none 0 0, .slice none 0 0]) ?_ 7 _ rfl; (with_reducible repeat (first | refine yM ?_ _ | refine yO ?_ | refine yN ?_ _)); refine blk_put (cs := #[.slice Ao13 t155.length co13, .slice Ao16 t158.length co16, .int .i64 t161, .bool t162, .int .i64 t163, .int .i64 t164, .int .i64 0, .int .i64 0, .int .i64 0, .int .i64 0, .slice none 0 0, .slice none 0 0]) ?_ 6 _ rfl; (with_reducible repeat (first | refine yM ?_ _ | refine yO ?_ | refine yN ?_ _)); refine blk_put (cs := #[.slice Ao13 t155.length co13, .slice Ao16 t158.length co16, .int .i64 t161, .bool t162, .int .i64 t163, .int .i64 0, .int .i64 0, .int .i64 0, .int .i64 0, .int .i64 0, .slice none 0 0, .slice none 0 0]) ?_ 5 _ rfl; (with_reducible repeat (first | refine yM ?_ _ | refine yO ?_ | refine yN ?_ _)); refine blk_put (cs := #[.slice Ao13 t155.length co13, .slice Ao16 t158.length co16, .int .i64 t161, .bool t162, .int .i64 0, .int .i64 0, .int .i64 0, .int .i64 0, .int .i64 0, .int .i64 0, .slice none 0 0, .slice none 0 0]) ?_ 4 _ rfl; (with_reducible repeat (first | refine yM ?_ _ | refine yO ?_ | refine yN ?_ _)); exact BK154.out) hb); have n6_ := yD (zC (by repeat (first | (with_reducible first | exact HB.out | apply yQ | apply yL | apply yP | refine yE ?_ GE152.out | refine yE ?_ GE153.out | refine yE ?_ GE154.out) | exact HB.out)) hb); clear HO157; clear HO160; clear BK152; clear BK153; clear BK154; clear HB; have HO157 := n0_; have HO160 := n1_; have HO169 := n2_; have BK152 := n3_; have BK153 := n4_; have BK154 := n5_; have HB := n6_; clear n0_ n1_ n2_ n3_ n4_ n5_ n6_; (try clear hb); (try clear hb2); (try clear hk); (try clear hi); (try clear ho0); obtain ⟨Ao22, co22, eo22⟩ := Kd.R_slice HO169.out; subst eo22; obtain ⟨hcz23_0, hcz23_1, hcz23_2, hcz23_3, hcz23_4, hcz23_5, hcz23_6, hcz23_7, hcz23_8, hcz23_9, hcz23_10, hcz23_11⟩ := cz12 BK154.out; obtain ⟨hfz23_0, hfz23_1, hfz23_2, hfz23_3, hfz23_4, hfz23_5, hfz23_6, hfz23_7, hfz23_8, hfz23_9, hfz23_10, hfz23_11⟩ := fz12 BK154.out; obtain ⟨hcz24_0, hcz24_1, hcz24_2, hcz24_3, hcz24_4, hcz24_5, hcz24_6, hcz24_7, hcz24_8, hcz24_9, hcz24_10, hcz24_11⟩ := cz12 BK152.out; obtain ⟨hfz24_0, hfz24_1, hfz24_2, hfz24_3, hfz24_4, hfz24_5, hfz24_6, hfz24_7, hfz24_8, hfz24_9, hfz24_10, hfz24_11⟩ := fz12 BK152.out) | ((with_reducible refine gate_callee (f := 35) rfl ?_); refine goesL_ (some 24) rfl rfl Try.func35 (by kernel_rfl) rfl #[.slice A0_11 l0_11.length c0_11] rfl (by (try simp only [zK, zL, zM]); first | done | rfl | (simp only [zN, zO]; rfl)) ?_; (with_reducible refine (laws_toPageS.calls k _ _ l0_11 t170 _ ?side1 ?side2 A5.out).mono ?_); (case side1 => exact yY HR0_11.out (by repeat (first | (with_reducible first | exact HB.out | apply yQ | apply yL | apply yP | refine yE ?_ GE152.out | refine yE ?_ GE153.out | refine yE ?_ GE154.out) | exact HB.out))); (case side2 => exact HC0_11.out); rintro e w25 ⟨v171, rfl, ho0, hb⟩; refine ⟨_, rfl, ?_⟩; have n0_ := yD (zE (by (with_reducible repeat (first | apply yA | apply yB | apply yC)); exact (zF (yF (p := ⟨gb154, 10, none⟩) (Kd.R_types HO157.out BK154.out (by decide)) (fun _ hk => hk.2) (.slice Ao22 t167.length co22)) (fun _ h_ => h_.1))) hb); have n1_ := yD (zE (by (with_reducible repeat (first | apply yA | apply yB | apply yC)); exact (zF (yF (p := ⟨gb154, 10, none⟩) (Kd.R_types HO160.out BK154.out (by decide)) (fun _ hk => hk.2) (.slice Ao22 t167.length co22)) (fun _ h_ => h_.1))) hb); have n2_ := yD (Kd.R_elder' (by (with_reducible repeat (first | apply yA | apply yB | apply yC)); exact (zF (yF (p := ⟨gb154, 10, none⟩) (Kd.R_types HO169.out BK154.out (by decide)) (fun _ hk => hk.2) (.slice Ao22 t167.length co22)) (fun _ h_ => h_.1))) (yH ho0) hb); have n3_ := yD (yZ (yJ ho0 (yK (by (with_reducible repeat (first | apply yA | apply yB | apply yC)); exact (zF (yF (p := ⟨gb154, 10, none⟩) (Kd.R_types HO169.out BK154.out (by decide)) (fun _ hk => hk.2) (.slice Ao22 t167.length co22)) (fun _ h_ => h_.1))))) (below_size (by repeat (first | (with_reducible first | exact HB.out | apply yQ | apply yL | apply yP | refine yE ?_ GE152.out | refine yE ?_ GE153.out | refine yE ?_ GE154.out) | exact HB.out)))); have n4_ := yD (zB (g := gb152) (o := .cells #[.slice A0_0 l0_0.length c0_0, .slice A0_1 l0_1.length c0_1, .int .i64 a0_2, .bool a0_3, .int .i64 a0_4, .int .i64 a0_5, .int .i64 a0_6, .int .i64 a0_7, .int .i64 a0_8, .int .i64 a0_9, .slice A0_10 l0_10.length c0_10, .slice A0_11 l0_11.length c0_11] 42 (0, 0)) (by (with_reducible repeat (first | refine yM ?_ _ | refine yO ?_ | refine yN ?_ _)); refine blk_far ?_ NB152_154.out _; (with_reducible repeat (first | refine yM ?_ _ | refine yO ?_ | refine yN ?_ _)); exact BK152.out) hb); have n5_ := yD (zB (g := gb153) (o := .cells #[.slice none 0 0, .slice none 0 0, .int .i64 0, .bool false, .int .i64 0, .int .i64 0, .int .i64 0, .int .i64 0, .int .i64 0, .int .i64 0, .slice none 0 0, .slice none 0 0] 48 (0, 0)) (by (with_reducible repeat (first | refine yM ?_ _ | refine yO ?_ | refine yN ?_ _)); refine blk_far ?_ NB153_154.out _; (with_reducible repeat (first | refine yM ?_ _ | refine yO ?_ | refine yN ?_ _)); exact BK153.out) hb); have n6_ := yD (zB (g := gb154) (o := .cells #[.slice Ao13 t155.length co13, .slice Ao16 t158.length co16, .int .i64 t161, .bool t162, .int .i64 t163, .int .i64 t164, .int .i64 t165, .int .i64 t166, .int .i64 a0_8, .int .i64 a0_9, .slice Ao22 t167.length co22, .slice none 0 0] 48 (0, 0)) (by (with_reducible repeat (first | refine yM ?_ _ | refine yO ?_ | refine yN ?_ _)); refine blk_put (cs := #[.slice Ao13 t155.length co13, .slice Ao16 t158.length co16, .int .i64 t161, .bool t162, .int .i64 t163, .int .i64 t164, .int .i64 t165, .int .i64 t166, .int .i64 a0_8, .int .i64 a0_9, .slice none 0 0, .slice none 0 0]) ?_ 10 _ rfl; (with_reducible repeat (first | refine yM ?_ _ | refine yO ?_ | refine yN ?_ _)); exact BK154.out) hb); have n7_ := yD (zC (by repeat (first | (with_reducible first | exact HB.out | apply yQ | apply yL | apply yP | refine yE ?_ GE152.out | refine yE ?_ GE153.out | refine yE ?_ GE154.out) | exact HB.out)) hb); clear HO157; clear HO160; clear HO169; clear BK152; clear BK153; clear BK154; clear HB; have HO157 := n0_; have HO160 := n1_; have HO169 := n2_; have HO172 := n3_; have BK152 := n4_; have BK153 := n5_; have BK154 := n6_; have HB := n7_; clear n0_ n1_ n2_ n3_ n4_ n5_ n6_ n7_; (try clear hb); (try clear hb2); (try clear hk); (try clear hi); (try clear ho0); obtain ⟨Ao26, co26, eo26⟩ := Kd.R_slice HO172.out; subst eo26; obtain ⟨hcz27_0, hcz27_1, hcz27_2, hcz27_3, hcz27_4, hcz27_5, hcz27_6, hcz27_7, hcz27_8, hcz27_9, hcz27_10, hcz27_11⟩ := cz12 BK154.out; obtain ⟨hfz27_0, hfz27_1, hfz27_2, hfz27_3, hfz27_4, hfz27_5, hfz27_6, hfz27_7, hfz27_8, hfz27_9, hfz27_10, hfz27_11⟩ := fz12 BK154.out; obtain ⟨hcz28_0, hcz28_1, hcz28_2, hcz28_3, hcz28_4, hcz28_5, hcz28_6, hcz28_7, hcz28_8, hcz28_9, hcz28_10, hcz28_11⟩ := cz12 BK153.out; obtain ⟨hfz28_0, hfz28_1, hfz28_2, hfz28_3, hfz28_4, hfz28_5, hfz28_6, hfz28_7, hfz28_8, hfz28_9, hfz28_10, hfz28_11⟩ := fz12 BK153.out))
  refine bodyPost_ret (results_cell_row rfl _ _ gb153 48 #[.slice Ao13 t155.length co13, .slice Ao16 t158.length co16, .int .i64 t161, .bool t162, .int .i64 t163, .int .i64 t164, .int .i64 t165, .int .i64 t166, .int .i64 a0_8, .int .i64 a0_9, .slice Ao22 t167.length co22, .slice Ao26 t170.length co26] (0, 0) _ rfl (by (with_reducible repeat (first | refine yM ?_ _ | refine yO ?_ | refine yN ?_ _)); refine blk_put (cs := #[.slice Ao13 t155.length co13, .slice Ao16 t158.length co16, .int .i64 t161, .bool t162, .int .i64 t163, .int .i64 t164, .int .i64 t165, .int .i64 t166, .int .i64 a0_8, .int .i64 a0_9, .slice Ao22 t167.length co22, .slice none 0 0]) ?_ 11 _ rfl; (with_reducible repeat (first | refine yM ?_ _ | refine yO ?_ | refine yN ?_ _)); refine blk_put (cs := #[.slice Ao13 t155.length co13, .slice Ao16 t158.length co16, .int .i64 t161, .bool t162, .int .i64 t163, .int .i64 t164, .int .i64 t165, .int .i64 t166, .int .i64 a0_8, .int .i64 a0_9, .slice none 0 0, .slice none 0 0]) ?_ 10 _ rfl; (with_reducible repeat (first | refine yM ?_ _ | refine yO ?_ | refine yN ?_ _)); refine blk_put (cs := #[.slice Ao13 t155.length co13, .slice Ao16 t158.length co16, .int .i64 t161, .bool t162, .int .i64 t163, .int .i64 t164, .int .i64 t165, .int .i64 t166, .int .i64 a0_8, .int .i64 0, .slice none 0 0, .slice none 0 0]) ?_ 9 _ rfl; (with_reducible repeat (first | refine yM ?_ _ | refine yO ?_ | refine yN ?_ _)); refine blk_put (cs := #[.slice Ao13 t155.length co13, .slice Ao16 t158.length co16, .int .i64 t161, .bool t162, .int .i64 t163, .int .i64 t164, .int .i64 t165, .int .i64 t166, .int .i64 0, .int .i64 0, .slice none 0 0, .slice none 0 0]) ?_ 8 _ rfl; (with_reducible repeat (first | refine yM ?_ _ | refine yO ?_ | refine yN ?_ _)); refine blk_put (cs := #[.slice Ao13 t155.length co13, .slice Ao16 t158.length co16, .int .i64 t161, .bool t162, .int .i64 t163, .int .i64 t164, .int .i64 t165, .int .i64 0, .int .i64 0, .int .i64 0, .slice none 0 0, .slice none 0 0]) ?_ 7 _ rfl; (with_reducible repeat (first | refine yM ?_ _ | refine yO ?_ | refine yN ?_ _)); refine blk_put (cs := #[.slice Ao13 t155.length co13, .slice Ao16 t158.length co16, .int .i64 t161, .bool t162, .int .i64 t163, .int .i64 t164, .int .i64 0, .int .i64 0, .int .i64 0, .int .i64 0, .slice none 0 0, .slice none 0 0]) ?_ 6 _ rfl; (with_reducible repeat (first | refine yM ?_ _ | refine yO ?_ | refine yN ?_ _)); refine blk_put (cs := #[.slice Ao13 t155.length co13, .slice Ao16 t158.length co16, .int .i64 t161, .bool t162, .int .i64 t163, .int .i64 0, .int .i64 0, .int .i64 0, .int .i64 0, .int .i64 0, .slice none 0 0, .slice none 0 0]) ?_ 5 _ rfl; (with_reducible repeat (first | refine yM ?_ _ | refine yO ?_ | refine yN ?_ _)); refine blk_put (cs := #[.slice Ao13 t155.length co13, .slice Ao16 t158.length co16, .int .i64 t161, .bool t162, .int .i64 0, .int .i64 0, .int .i64 0, .int .i64 0, .int .i64 0, .int .i64 0, .slice none 0 0, .slice none 0 0]) ?_ 4 _ rfl; (with_reducible repeat (first | refine yM ?_ _ | refine yO ?_ | refine yN ?_ _)); refine blk_put (cs := #[.slice Ao13 t155.length co13, .slice Ao16 t158.length co16, .int .i64 t161, .bool false, .int .i64 0, .int .i64 0, .int .i64 0, .int .i64 0, .int .i64 0, .int .i64 0, .slice none 0 0, .slice none 0 0]) ?_ 3 _ rfl; (with_reducible repeat (first | refine yM ?_ _ | refine yO ?_ | refine yN ?_ _)); refine blk_put (cs := #[.slice Ao13 t155.length co13, .slice Ao16 t158.length co16, .int .i64 0, .bool false, .int .i64 0, .int .i64 0, .int .i64 0, .int .i64 0, .int .i64 0, .int .i64 0, .slice none 0 0, .slice none 0 0]) ?_ 2 _ rfl; (with_reducible repeat (first | refine yM ?_ _ | refine yO ?_ | refine yN ?_ _)); refine blk_put (cs := #[.slice Ao13 t155.length co13, .slice none 0 0, .int .i64 0, .bool false, .int .i64 0, .int .i64 0, .int .i64 0, .int .i64 0, .int .i64 0, .int .i64 0, .slice none 0 0, .slice none 0 0]) ?_ 1 _ rfl; (with_reducible repeat (first | refine yM ?_ _ | refine yO ?_ | refine yN ?_ _)); refine blk_put (cs := #[.slice none 0 0, .slice none 0 0, .int .i64 0, .bool false, .int .i64 0, .int .i64 0, .int .i64 0, .int .i64 0, .int .i64 0, .int .i64 0, .slice none 0 0, .slice none 0 0]) ?_ 0 _ rfl; (with_reducible repeat (first | refine yM ?_ _ | refine yO ?_ | refine yN ?_ _)); refine blk_far ?_ NB153_154.out _; (with_reducible repeat (first | refine yM ?_ _ | refine yO ?_ | refine yN ?_ _)); exact BK153.out) Try.underlying48 rfl (by kernel_rfl)) rfl ?_
  exact ⟨_, _, _, _, by first | rfl | (simp <;> rfl) | (simp [*] <;> rfl), by (with_reducible repeat (first | apply yA | apply yB | apply yC)); exact zF (yF (p := ⟨gb153, 11, none⟩) (yF (p := ⟨gb153, 10, none⟩) (yF (p := ⟨gb153, 9, none⟩) (yF (p := ⟨gb153, 8, none⟩) (yF (p := ⟨gb153, 7, none⟩) (yF (p := ⟨gb153, 6, none⟩) (yF (p := ⟨gb153, 5, none⟩) (yF (p := ⟨gb153, 4, none⟩) (yF (p := ⟨gb153, 3, none⟩) (yF (p := ⟨gb153, 2, none⟩) (yF (p := ⟨gb153, 1, none⟩) (yF (p := ⟨gb153, 0, none⟩) (yF (p := ⟨gb154, 11, none⟩) (Kd.R_types (Kd.R_types HO157.out BK154.out (by decide)) BK153.out (by decide)) (fun _ hk => hk.1.2) (.slice Ao26 t170.length co26)) (fun _ hk => hk.2) (.slice Ao13 t155.length co13)) (fun _ hk => hk.2) (.slice Ao16 t158.length co16)) (fun _ hk => hk.2) (.int .i64 t161)) (fun _ hk => hk.2) (.bool t162)) (fun _ hk => hk.2) (.int .i64 t163)) (fun _ hk => hk.2) (.int .i64 t164)) (fun _ hk => hk.2) (.int .i64 t165)) (fun _ hk => hk.2) (.int .i64 t166)) (fun _ hk => hk.2) (.int .i64 a0_8)) (fun _ hk => hk.2) (.int .i64 a0_9)) (fun _ hk => hk.2) (.slice Ao22 t167.length co22)) (fun _ hk => hk.2) (.slice Ao26 t170.length co26)) (fun _ hk => trivial), by (with_reducible repeat (first | apply yA | apply yB | apply yC)); exact zF (yF (p := ⟨gb153, 11, none⟩) (yF (p := ⟨gb153, 10, none⟩) (yF (p := ⟨gb153, 9, none⟩) (yF (p := ⟨gb153, 8, none⟩) (yF (p := ⟨gb153, 7, none⟩) (yF (p := ⟨gb153, 6, none⟩) (yF (p := ⟨gb153, 5, none⟩) (yF (p := ⟨gb153, 4, none⟩) (yF (p := ⟨gb153, 3, none⟩) (yF (p := ⟨gb153, 2, none⟩) (yF (p := ⟨gb153, 1, none⟩) (yF (p := ⟨gb153, 0, none⟩) (yF (p := ⟨gb154, 11, none⟩) (Kd.R_types (Kd.R_types HO160.out BK154.out (by decide)) BK153.out (by decide)) (fun _ hk => hk.1.2) (.slice Ao26 t170.length co26)) (fun _ hk => hk.2) (.slice Ao13 t155.length co13)) (fun _ hk => hk.2) (.slice Ao16 t158.length co16)) (fun _ hk => hk.2) (.int .i64 t161)) (fun _ hk => hk.2) (.bool t162)) (fun _ hk => hk.2) (.int .i64 t163)) (fun _ hk => hk.2) (.int .i64 t164)) (fun _ hk => hk.2) (.int .i64 t165)) (fun _ hk => hk.2) (.int .i64 t166)) (fun _ hk => hk.2) (.int .i64 a0_8)) (fun _ hk => hk.2) (.int .i64 a0_9)) (fun _ hk => hk.2) (.slice Ao22 t167.length co22)) (fun _ hk => hk.2) (.slice Ao26 t170.length co26)) (fun _ hk => trivial), by (with_reducible repeat (first | apply yA | apply yB | apply yC)); exact zF (yF (p := ⟨gb153, 11, none⟩) (yF (p := ⟨gb153, 10, none⟩) (yF (p := ⟨gb153, 9, none⟩) (yF (p := ⟨gb153, 8, none⟩) (yF (p := ⟨gb153, 7, none⟩) (yF (p := ⟨gb153, 6, none⟩) (yF (p := ⟨gb153, 5, none⟩) (yF (p := ⟨gb153, 4, none⟩) (yF (p := ⟨gb153, 3, none⟩) (yF (p := ⟨gb153, 2, none⟩) (yF (p := ⟨gb153, 1, none⟩) (yF (p := ⟨gb153, 0, none⟩) (yF (p := ⟨gb154, 11, none⟩) (Kd.R_types (Kd.R_types HO169.out BK154.out (by decide)) BK153.out (by decide)) (fun _ hk => hk.1.2) (.slice Ao26 t170.length co26)) (fun _ hk => hk.2) (.slice Ao13 t155.length co13)) (fun _ hk => hk.2) (.slice Ao16 t158.length co16)) (fun _ hk => hk.2) (.int .i64 t161)) (fun _ hk => hk.2) (.bool t162)) (fun _ hk => hk.2) (.int .i64 t163)) (fun _ hk => hk.2) (.int .i64 t164)) (fun _ hk => hk.2) (.int .i64 t165)) (fun _ hk => hk.2) (.int .i64 t166)) (fun _ hk => hk.2) (.int .i64 a0_8)) (fun _ hk => hk.2) (.int .i64 a0_9)) (fun _ hk => hk.2) (.slice Ao22 t167.length co22)) (fun _ hk => hk.2) (.slice Ao26 t170.length co26)) (fun _ hk => hk.1.1.2), by (with_reducible repeat (first | apply yA | apply yB | apply yC)); exact zF (yF (p := ⟨gb153, 11, none⟩) (yF (p := ⟨gb153, 10, none⟩) (yF (p := ⟨gb153, 9, none⟩) (yF (p := ⟨gb153, 8, none⟩) (yF (p := ⟨gb153, 7, none⟩) (yF (p := ⟨gb153, 6, none⟩) (yF (p := ⟨gb153, 5, none⟩) (yF (p := ⟨gb153, 4, none⟩) (yF (p := ⟨gb153, 3, none⟩) (yF (p := ⟨gb153, 2, none⟩) (yF (p := ⟨gb153, 1, none⟩) (yF (p := ⟨gb153, 0, none⟩) (yF (p := ⟨gb154, 11, none⟩) (Kd.R_types (Kd.R_types HO172.out BK154.out (by decide)) BK153.out (by decide)) (fun _ hk => hk.1.2) (.slice Ao26 t170.length co26)) (fun _ hk => hk.2) (.slice Ao13 t155.length co13)) (fun _ hk => hk.2) (.slice Ao16 t158.length co16)) (fun _ hk => hk.2) (.int .i64 t161)) (fun _ hk => hk.2) (.bool t162)) (fun _ hk => hk.2) (.int .i64 t163)) (fun _ hk => hk.2) (.int .i64 t164)) (fun _ hk => hk.2) (.int .i64 t165)) (fun _ hk => hk.2) (.int .i64 t166)) (fun _ hk => hk.2) (.int .i64 a0_8)) (fun _ hk => hk.2) (.int .i64 a0_9)) (fun _ hk => hk.2) (.slice Ao22 t167.length co22)) (fun _ hk => hk.2) (.slice Ao26 t170.length co26)) (fun _ hk => hk.1.1.2), by repeat (first | (with_reducible first | exact HB.out | apply yQ | apply yL | apply yP | refine yE ?_ GE152.out | refine yE ?_ GE153.out | refine yE ?_ GE154.out) | exact HB.out)⟩

/-! ### spec_l00In: function 44 -/
def spec_l00In.f (a0 : Int) (a1 : Int) (a2 : Int) : Option (Bool) := if a0 ≥ a1 then (some (decide (a0 ≤ a2))) else (some false)
set_option maxHeartbeats 8000000 in
set_option maxRecDepth 100000 in
theorem spec_l00In.calls (a0 : Int) (a1 : Int) (a2 : Int) (r : Bool) (w : World) (h : spec_l00In.f a0 a1 a2 = some r) :
    Calls Try.prog 44 #[.int .i64 a0, .int .i64 a1, .int .i64 a2] w fun e w' => e = .returned (.bool r) ∧ Drawn0 w w' := by
  have H : (if a0 ≥ a1 then (some (decide (a0 ≤ a2))) else (some false)) = some r := h
  clear h
  by_cases c4 : a0 ≥ a1
  · rw [if_pos c4] at H
    have c4b0 : decide (a1 ≤ a0) = true := zR c4; clear c4; obtain rfl := Option.some.inj H; go_enter Try.func44, Try.ntmps44
    go_wp2
    go_ret
    exact ⟨by first | rfl | (simp; done) | (simp [*]; done), by repeat (first | exact Drawn0.refl _ | apply Drawn0.step)⟩
  · rw [if_neg c4] at H
    have c4b0 : decide (a1 ≤ a0) = false := zS c4; clear c4; obtain rfl := Option.some.inj H; go_enter Try.func44, Try.ntmps44
    go_wp2
    go_ret
    exact ⟨by first | rfl | (simp; done) | (simp [*]; done), by repeat (first | exact Drawn0.refl _ | apply Drawn0.step)⟩

/-! ### spec_l09Ok_c48: function 21 -/
mutual
def spec_l09Ok_c48.j0 : Nat → Int → Bool → List ByteArray → List (S58) → Int → Bool → Int → Int → Int → Int → Int → Int → List (S96) → List (S96) → Option (Bool)
  | 0, _, _, _, _, _, _, _, _, _, _, _, _, _, _ => none
  | k + 1, x3, x29, x41000, x41001, x41002, x41003, x41004, x41005, x41006, x41007, x41008, x41009, x41010, x41011 => if x29 = true then (some false) else (spec_l09Ok_c48.l0 k x3 0 x41000 x41001 x41002 x41003 x41004 x41005 x41006 x41007 x41008 x41009 x41010 x41011)
def spec_l09Ok_c48.l0 : Nat → Int → Int → List ByteArray → List (S58) → Int → Bool → Int → Int → Int → Int → Int → Int → List (S96) → List (S96) → Option (Bool)
  | 0, _, _, _, _, _, _, _, _, _, _, _, _, _, _ => none
  | k + 1, x3, x4, x41000, x41001, x41002, x41003, x41004, x41005, x41006, x41007, x41008, x41009, x41010, x41011 => if x4 < (x41000.length : Int) then (if 0 ≤ x4 then (if ((rdOf ByteArray.empty x41000 x4).size : Int) = 64 then (spec_l09Ok_c48.l0 k x3 (wrap64 (x4 + 1)) x41000 x41001 x41002 x41003 x41004 x41005 x41006 x41007 x41008 x41009 x41010 x41011) else (some false)) else (none)) else (spec_l09Ok_c48.l1 k x3 0 x41000 x41001 x41002 x41003 x41004 x41005 x41006 x41007 x41008 x41009 x41010 x41011)
def spec_l09Ok_c48.l1 : Nat → Int → Int → List ByteArray → List (S58) → Int → Bool → Int → Int → Int → Int → Int → Int → List (S96) → List (S96) → Option (Bool)
  | 0, _, _, _, _, _, _, _, _, _, _, _, _, _, _ => none
  | k + 1, x3, x5, x41000, x41001, x41002, x41003, x41004, x41005, x41006, x41007, x41008, x41009, x41010, x41011 => if x5 < (x41001.length : Int) then (if 0 ≤ x5 then ((spec_l00In.f ((rd_T58 x41001 x5).f0) 0 (wrap64 (x3 - 1))).bind fun t177 => (if t177 = true then (if (((rd_T58 x41001 x5).f1).size : Int) = 64 then (spec_l09Ok_c48.l1 k x3 (wrap64 (x5 + 1)) x41000 x41001 x41002 x41003 x41004 x41005 x41006 x41007 x41008 x41009 x41010 x41011) else (some false)) else (some false))) else (none)) else (some true)
end
def spec_l09Ok_c48.f (k : Nat) (l0_0 : List ByteArray) (l0_1 : List (S58)) (a0_2 : Int) (a0_3 : Bool) (a0_4 : Int) (a0_5 : Int) (a0_6 : Int) (a0_7 : Int) (a0_8 : Int) (a0_9 : Int) (l0_10 : List (S96)) (l0_11 : List (S96)) : Option (Bool) := (spec_l00In.f (l0_0.length : Int) 16 256).bind fun t173 => (if t173 = true then (if (l0_1.length : Int) > 600 then (spec_l09Ok_c48.j0 k (l0_0.length : Int) true l0_0 l0_1 a0_2 a0_3 a0_4 a0_5 a0_6 a0_7 a0_8 a0_9 l0_10 l0_11) else ((spec_l00In.f a0_2 (-1) 100000).bind fun t174 => (spec_l09Ok_c48.j0 k (l0_0.length : Int) (!t174) l0_0 l0_1 a0_2 a0_3 a0_4 a0_5 a0_6 a0_7 a0_8 a0_9 l0_10 l0_11))) else (spec_l09Ok_c48.j0 k (l0_0.length : Int) true l0_0 l0_1 a0_2 a0_3 a0_4 a0_5 a0_6 a0_7 a0_8 a0_9 l0_10 l0_11))
theorem spec_l09Ok_c48.mono_l : ∀ k, (∀ y0 y1 y2 y3 y4 y5 y6 y7 y8 y9 y10 y11 y12 y13, LeO (spec_l09Ok_c48.j0 k y0 y1 y2 y3 y4 y5 y6 y7 y8 y9 y10 y11 y12 y13) (spec_l09Ok_c48.j0 (k + 1) y0 y1 y2 y3 y4 y5 y6 y7 y8 y9 y10 y11 y12 y13)) ∧ (∀ y0 y1 y2 y3 y4 y5 y6 y7 y8 y9 y10 y11 y12 y13, LeO (spec_l09Ok_c48.l0 k y0 y1 y2 y3 y4 y5 y6 y7 y8 y9 y10 y11 y12 y13) (spec_l09Ok_c48.l0 (k + 1) y0 y1 y2 y3 y4 y5 y6 y7 y8 y9 y10 y11 y12 y13)) ∧ (∀ y0 y1 y2 y3 y4 y5 y6 y7 y8 y9 y10 y11 y12 y13, LeO (spec_l09Ok_c48.l1 k y0 y1 y2 y3 y4 y5 y6 y7 y8 y9 y10 y11 y12 y13) (spec_l09Ok_c48.l1 (k + 1) y0 y1 y2 y3 y4 y5 y6 y7 y8 y9 y10 y11 y12 y13))
  | 0 => ⟨fun _ _ _ _ _ _ _ _ _ _ _ _ _ _ r h => by simp [spec_l09Ok_c48.j0] at h, fun _ _ _ _ _ _ _ _ _ _ _ _ _ _ r h => by simp [spec_l09Ok_c48.l0] at h, fun _ _ _ _ _ _ _ _ _ _ _ _ _ _ r h => by simp [spec_l09Ok_c48.l1] at h⟩
  | k + 1 => by
    obtain ⟨ih0, ih1, ih2⟩ := spec_l09Ok_c48.mono_l k
    refine ⟨?_, ?_, ?_⟩
    · intro y0 y1 y2 y3 y4 y5 y6 y7 y8 y9 y10 y11 y12 y13
      unfold spec_l09Ok_c48.j0
      repeat' first
      | (with_reducible exact ih0 _ _ _ _ _ _ _ _ _ _ _ _ _ _)
      | (with_reducible exact ih1 _ _ _ _ _ _ _ _ _ _ _ _ _ _)
      | (with_reducible exact ih2 _ _ _ _ _ _ _ _ _ _ _ _ _ _)
      | (with_reducible exact LeO.refl _)
      | (with_reducible exact LeO.none _)
      | (with_reducible refine LeO.ite ?_ ?_)
      | (with_reducible refine LeO.bind ?_ (fun _ => ?_))
      | exact ih0 _ _ _ _ _ _ _ _ _ _ _ _ _ _
      | exact ih1 _ _ _ _ _ _ _ _ _ _ _ _ _ _
      | exact ih2 _ _ _ _ _ _ _ _ _ _ _ _ _ _
      | exact LeO.none _
      | refine LeO.ite ?_ ?_
      | refine LeO.bind ?_ (fun _ => ?_)
    · intro y0 y1 y2 y3 y4 y5 y6 y7 y8 y9 y10 y11 y12 y13
      unfold spec_l09Ok_c48.l0
      repeat' first
      | (with_reducible exact ih0 _ _ _ _ _ _ _ _ _ _ _ _ _ _)
      | (with_reducible exact ih1 _ _ _ _ _ _ _ _ _ _ _ _ _ _)
      | (with_reducible exact ih2 _ _ _ _ _ _ _ _ _ _ _ _ _ _)
      | (with_reducible exact LeO.refl _)
      | (with_reducible exact LeO.none _)
      | (with_reducible refine LeO.ite ?_ ?_)
      | (with_reducible refine LeO.bind ?_ (fun _ => ?_))
      | exact ih0 _ _ _ _ _ _ _ _ _ _ _ _ _ _
      | exact ih1 _ _ _ _ _ _ _ _ _ _ _ _ _ _
      | exact ih2 _ _ _ _ _ _ _ _ _ _ _ _ _ _
      | exact LeO.none _
      | refine LeO.ite ?_ ?_
      | refine LeO.bind ?_ (fun _ => ?_)
    · intro y0 y1 y2 y3 y4 y5 y6 y7 y8 y9 y10 y11 y12 y13
      unfold spec_l09Ok_c48.l1
      repeat' first
      | (with_reducible exact ih0 _ _ _ _ _ _ _ _ _ _ _ _ _ _)
      | (with_reducible exact ih1 _ _ _ _ _ _ _ _ _ _ _ _ _ _)
      | (with_reducible exact ih2 _ _ _ _ _ _ _ _ _ _ _ _ _ _)
      | (with_reducible exact LeO.refl _)
      | (with_reducible exact LeO.none _)
      | (with_reducible refine LeO.ite ?_ ?_)
      | (with_reducible refine LeO.bind ?_ (fun _ => ?_))
      | exact ih0 _ _ _ _ _ _ _ _ _ _ _ _ _ _
      | exact ih1 _ _ _ _ _ _ _ _ _ _ _ _ _ _
      | exact ih2 _ _ _ _ _ _ _ _ _ _ _ _ _ _
      | exact LeO.none _
      | refine LeO.ite ?_ ?_
      | refine LeO.bind ?_ (fun _ => ?_)
theorem spec_l09Ok_c48.mono : ∀ a0 a1 a2 a3 a4 a5 a6 a7 a8 a9 a10 a11 k, LeO (spec_l09Ok_c48.f k a0 a1 a2 a3 a4 a5 a6 a7 a8 a9 a10 a11) (spec_l09Ok_c48.f (k + 1) a0 a1 a2 a3 a4 a5 a6 a7 a8 a9 a10 a11) := by
  intro a0 a1 a2 a3 a4 a5 a6 a7 a8 a9 a10 a11 k
  obtain ⟨ih0, ih1, ih2⟩ := spec_l09Ok_c48.mono_l k
  unfold spec_l09Ok_c48.f
  repeat' first
      | (with_reducible exact ih0 _ _ _ _ _ _ _ _ _ _ _ _ _ _)
      | (with_reducible exact ih1 _ _ _ _ _ _ _ _ _ _ _ _ _ _)
      | (with_reducible exact ih2 _ _ _ _ _ _ _ _ _ _ _ _ _ _)
      | (with_reducible exact LeO.refl _)
      | (with_reducible exact LeO.none _)
      | (with_reducible refine LeO.ite ?_ ?_)
      | (with_reducible refine LeO.bind ?_ (fun _ => ?_))
      | exact ih0 _ _ _ _ _ _ _ _ _ _ _ _ _ _
      | exact ih1 _ _ _ _ _ _ _ _ _ _ _ _ _ _
      | exact ih2 _ _ _ _ _ _ _ _ _ _ _ _ _ _
      | exact LeO.none _
      | refine LeO.ite ?_ ?_
      | refine LeO.bind ?_ (fun _ => ?_)
set_option maxHeartbeats 8000000 in
set_option maxRecDepth 100000 in
theorem spec_l09Ok_c48.calls (k : Nat) (g0_0 : Nat) (A0_0 : Option Addr) (c0_0 : Nat) (l0_0 : List ByteArray) (A0_1 : Option Addr) (c0_1 : Nat) (l0_1 : List (S58)) (a0_2 : Int) (a0_3 : Bool) (a0_4 : Int) (a0_5 : Int) (a0_6 : Int) (a0_7 : Int) (a0_8 : Int) (a0_9 : Int) (A0_10 : Option Addr) (c0_10 : Nat) (l0_10 : List (S96)) (A0_11 : Option Addr) (c0_11 : Nat) (l0_11 : List (S96)) (r : Bool) (w : World) (hr0_0 : Kd.C Kd.string w A0_0 l0_0.length l0_0) (hc0_0 : l0_0.length ≤ c0_0) (hr0_1 : Kd.C k58 w A0_1 l0_1.length l0_1) (hc0_1 : l0_1.length ≤ c0_1) (hr0_10 : Kd.C k96 w A0_10 l0_10.length l0_10) (hc0_10 : l0_10.length ≤ c0_10) (hr0_11 : Kd.C k96 w A0_11 l0_11.length l0_11) (hc0_11 : l0_11.length ≤ c0_11) (hb0_0 : w.heap[g0_0]? = some (.cells #[.slice A0_0 l0_0.length c0_0, .slice A0_1 l0_1.length c0_1, .int .i64 a0_2, .bool a0_3, .int .i64 a0_4, .int .i64 a0_5, .int .i64 a0_6, .int .i64 a0_7, .int .i64 a0_8, .int .i64 a0_9, .slice A0_10 l0_10.length c0_10, .slice A0_11 l0_11.length c0_11] 48 (0, 0))) (h : spec_l09Ok_c48.f k l0_0 l0_1 a0_2 a0_3 a0_4 a0_5 a0_6 a0_7 a0_8 a0_9 l0_10 l0_11 = some r) :
    Calls Try.prog 21 #[.pointer (some ⟨g0_0, 0, none⟩)] w fun e w' => e = .returned (.bool r) ∧ Below w.heap.size w w' := by
  have HR0_0 := yD hr0_0
  have HC0_0 := yD hc0_0
  clear hr0_0 hc0_0
  have HR0_1 := yD hr0_1
  have HC0_1 := yD hc0_1
  clear hr0_1 hc0_1
  have HR0_10 := yD hr0_10
  have HC0_10 := yD hc0_10
  clear hr0_10 hc0_10
  have HR0_11 := yD hr0_11
  have HC0_11 := yD hc0_11
  clear hr0_11 hc0_11
  have BK40 := yD hb0_0
  clear hb0_0
  have HB := yD (Below.refl w.heap.size w)
  have H : ((spec_l00In.f (l0_0.length : Int) 16 256).bind fun t173 => (if t173 = true then (if (l0_1.length : Int) > 600 then (spec_l09Ok_c48.j0 k (l0_0.length : Int) true l0_0 l0_1 a0_2 a0_3 a0_4 a0_5 a0_6 a0_7 a0_8 a0_9 l0_10 l0_11) else ((spec_l00In.f a0_2 (-1) 100000).bind fun t174 => (spec_l09Ok_c48.j0 k (l0_0.length : Int) (!t174) l0_0 l0_1 a0_2 a0_3 a0_4 a0_5 a0_6 a0_7 a0_8 a0_9 l0_10 l0_11))) else (spec_l09Ok_c48.j0 k (l0_0.length : Int) true l0_0 l0_1 a0_2 a0_3 a0_4 a0_5 a0_6 a0_7 a0_8 a0_9 l0_10 l0_11))) = some r := h
  clear h
  have HC2 := yD H
  clear H
  obtain ⟨hcz3_0, hcz3_1, hcz3_2, hcz3_3, hcz3_4, hcz3_5, hcz3_6, hcz3_7, hcz3_8, hcz3_9, hcz3_10, hcz3_11⟩ := cz12 BK40.out
  obtain ⟨hfz3_0, hfz3_1, hfz3_2, hfz3_3, hfz3_4, hfz3_5, hfz3_6, hfz3_7, hfz3_8, hfz3_9, hfz3_10, hfz3_11⟩ := fz12 BK40.out
  go_enter Try.func21, Try.ntmps21
  go_upto_region 2 with (fail)
  go_cut [29] (fun v29 wc => ∃ (kq : Nat) (x29_1 : Bool), v29 = .bool x29_1 ∧ Aside0 (spec_l09Ok_c48.j0 kq (l0_0.length : Int) x29_1 l0_0 l0_1 a0_2 a0_3 a0_4 a0_5 a0_6 a0_7 a0_8 a0_9 l0_10 l0_11 = some r) ∧ Aside0 (kq ≤ k) ∧ Aside0 (wc.heap[g0_0]? = some (.cells #[(.slice A0_0 l0_0.length c0_0), (.slice A0_1 l0_1.length c0_1), .int .i64 a0_2, .bool a0_3, .int .i64 a0_4, .int .i64 a0_5, .int .i64 a0_6, .int .i64 a0_7, .int .i64 a0_8, .int .i64 a0_9, (.slice A0_10 l0_10.length c0_10), (.slice A0_11 l0_11.length c0_11)] 48 (0, 0))) ∧ Aside0 (Below w.heap.size w wc))
  case first =>
    have H := HC2.out; clear HC2
    obtain ⟨t173, A40, H⟩ := zW_ H
    replace H : (if t173 = true then (if (l0_1.length : Int) > 600 then (spec_l09Ok_c48.j0 k (l0_0.length : Int) true l0_0 l0_1 a0_2 a0_3 a0_4 a0_5 a0_6 a0_7 a0_8 a0_9 l0_10 l0_11) else ((spec_l00In.f a0_2 (-1) 100000).bind fun t174 => (spec_l09Ok_c48.j0 k (l0_0.length : Int) (!t174) l0_0 l0_1 a0_2 a0_3 a0_4 a0_5 a0_6 a0_7 a0_8 a0_9 l0_10 l0_11))) else (spec_l09Ok_c48.j0 k (l0_0.length : Int) true l0_0 l0_1 a0_2 a0_3 a0_4 a0_5 a0_6 a0_7 a0_8 a0_9 l0_10 l0_11)) = some r := H
    have A4 := yD A40
    clear A40
    by_cases c5 : t173 = true
    · subst c5
      have H1 : (if (l0_1.length : Int) > 600 then (spec_l09Ok_c48.j0 k (l0_0.length : Int) true l0_0 l0_1 a0_2 a0_3 a0_4 a0_5 a0_6 a0_7 a0_8 a0_9 l0_10 l0_11) else ((spec_l00In.f a0_2 (-1) 100000).bind fun t174 => (spec_l09Ok_c48.j0 k (l0_0.length : Int) (!t174) l0_0 l0_1 a0_2 a0_3 a0_4 a0_5 a0_6 a0_7 a0_8 a0_9 l0_10 l0_11))) = some r := by rw [if_pos rfl] at H; exact H
      clear H; have H := H1; clear H1
      by_cases c6 : (l0_1.length : Int) > 600
      · rw [if_pos c6] at H
        have c6b0 : decide (600 < (l0_1.length : Int)) = true := zR c6
        have c6b1 : decide (600 < l0_1.length) = true := zR (by omega)
        clear c6
        (first | rw [c6b0] | (simp only [i64_w, i32_w]; rw [c6b0]) | (simp only [bne] at c6b0; rw [c6b0]) | skip)
        have H' := yD H
        clear H
        go_wp2_with (first | ((with_reducible refine gate_callee (f := 44) rfl ?_); refine goesL_ (some 12) rfl rfl Try.func44 (by kernel_rfl) rfl #[.int .i64 (l0_0.length : Int), .int .i64 16, .int .i64 256] rfl (by (try simp only [zK, zL, zM]); first | done | rfl | (simp only [zN, zO]; rfl)) ?_; (with_reducible refine (spec_l00In.calls (l0_0.length : Int) 16 256 true _ A4.out).mono ?_); rintro e w' ⟨rfl, ⟨nd, rfl⟩⟩; refine ⟨_, rfl, ?_⟩; obtain ⟨hcz7_0, hcz7_1, hcz7_2, hcz7_3, hcz7_4, hcz7_5, hcz7_6, hcz7_7, hcz7_8, hcz7_9, hcz7_10, hcz7_11⟩ := cz12 BK40.out; obtain ⟨hfz7_0, hfz7_1, hfz7_2, hfz7_3, hfz7_4, hfz7_5, hfz7_6, hfz7_7, hfz7_8, hfz7_9, hfz7_10, hfz7_11⟩ := fz12 BK40.out))
        go_meet
        case rel => exact ⟨_, (true), (by first | rfl | (simp; done) | (simp [*]; done)), H', ⟨by first | omega | exact Nat.le_refl _⟩, ⟨by (with_reducible repeat (first | refine yM ?_ _ | refine yO ?_ | refine yN ?_ _)); exact BK40.out⟩, ⟨by repeat (first | (with_reducible first | exact HB.out | apply yQ | apply yL | apply yP | refine yE ?_ GE40.out) | exact HB.out)⟩⟩
      · rw [if_neg c6] at H
        have c6b0 : decide (600 < (l0_1.length : Int)) = false := zS c6
        have c6b1 : decide (600 < l0_1.length) = false := zS (by omega)
        clear c6
        (first | rw [c6b0] | (simp only [i64_w, i32_w]; rw [c6b0]) | (simp only [bne] at c6b0; rw [c6b0]) | skip)
        obtain ⟨t174, A80, H⟩ := zW_ H
        replace H : (spec_l09Ok_c48.j0 k (l0_0.length : Int) (!t174) l0_0 l0_1 a0_2 a0_3 a0_4 a0_5 a0_6 a0_7 a0_8 a0_9 l0_10 l0_11) = some r := H
        have A8 := yD A80
        clear A80
        have H' := yD H
        clear H
        go_wp2_with (first | ((with_reducible refine gate_callee (f := 44) rfl ?_); refine goesL_ (some 12) rfl rfl Try.func44 (by kernel_rfl) rfl #[.int .i64 (l0_0.length : Int), .int .i64 16, .int .i64 256] rfl (by (try simp only [zK, zL, zM]); first | done | rfl | (simp only [zN, zO]; rfl)) ?_; (with_reducible refine (spec_l00In.calls (l0_0.length : Int) 16 256 true _ A4.out).mono ?_); rintro e w' ⟨rfl, ⟨nd, rfl⟩⟩; refine ⟨_, rfl, ?_⟩; obtain ⟨hcz9_0, hcz9_1, hcz9_2, hcz9_3, hcz9_4, hcz9_5, hcz9_6, hcz9_7, hcz9_8, hcz9_9, hcz9_10, hcz9_11⟩ := cz12 BK40.out; obtain ⟨hfz9_0, hfz9_1, hfz9_2, hfz9_3, hfz9_4, hfz9_5, hfz9_6, hfz9_7, hfz9_8, hfz9_9, hfz9_10, hfz9_11⟩ := fz12 BK40.out) | (go_at_call 44; (with_reducible refine (spec_l00In.calls a0_2 (-1) 100000 t174 _ A8.out).mono ?_); rintro e w' ⟨rfl, ⟨nd, rfl⟩⟩))
        go_meet
        case rel => exact ⟨_, (!t174), (by first | rfl | (simp; done) | (simp [*]; done)), H', ⟨by first | omega | exact Nat.le_refl _⟩, ⟨by (with_reducible repeat (first | refine yM ?_ _ | refine yO ?_ | refine yN ?_ _)); exact BK40.out⟩, ⟨by repeat (first | (with_reducible first | exact HB.out | apply yQ | apply yL | apply yP | refine yE ?_ GE40.out) | exact HB.out)⟩⟩
    · replace c5 := Bool.eq_false_iff.mpr c5
      subst c5
      have H1 : (spec_l09Ok_c48.j0 k (l0_0.length : Int) true l0_0 l0_1 a0_2 a0_3 a0_4 a0_5 a0_6 a0_7 a0_8 a0_9 l0_10 l0_11) = some r := by rw [if_neg (show ¬ (false = true) by decide)] at H; exact H
      clear H; have H := H1; clear H1
      have H' := yD H
      clear H
      go_wp2_with (first | ((with_reducible refine gate_callee (f := 44) rfl ?_); refine goesL_ (some 12) rfl rfl Try.func44 (by kernel_rfl) rfl #[.int .i64 (l0_0.length : Int), .int .i64 16, .int .i64 256] rfl (by (try simp only [zK, zL, zM]); first | done | rfl | (simp only [zN, zO]; rfl)) ?_; (with_reducible refine (spec_l00In.calls (l0_0.length : Int) 16 256 false _ A4.out).mono ?_); rintro e w' ⟨rfl, ⟨nd, rfl⟩⟩; refine ⟨_, rfl, ?_⟩))
      go_meet
      case rel => exact ⟨_, (true), (by first | rfl | (simp; done) | (simp [*]; done)), H', ⟨by first | omega | exact Nat.le_refl _⟩, ⟨by (with_reducible repeat (first | refine yM ?_ _ | refine yO ?_ | refine yN ?_ _)); exact BK40.out⟩, ⟨by repeat (first | (with_reducible first | exact HB.out | apply yQ | apply yL | apply yP | refine yE ?_ GE40.out) | exact HB.out)⟩⟩
  case rest =>
    clear HC2; try clear p2; try clear c4; try clear c5; try clear c6; try clear c6b0; try clear c6b1; try clear c9; try clear hcz3_0; try clear hcz3_1; try clear hcz3_10; try clear hcz3_11; try clear hcz3_2; try clear hcz3_3; try clear hcz3_4; try clear hcz3_5; try clear hcz3_6; try clear hcz3_7; try clear hcz3_8; try clear hcz3_9; try clear hcz7_0; try clear hcz7_1; try clear hcz7_10; try clear hcz7_11; try clear hcz7_2; try clear hcz7_3; try clear hcz7_4; try clear hcz7_5; try clear hcz7_6; try clear hcz7_7; try clear hcz7_8; try clear hcz7_9; try clear hcz9_0; try clear hcz9_1; try clear hcz9_10; try clear hcz9_11; try clear hcz9_2; try clear hcz9_3; try clear hcz9_4; try clear hcz9_5; try clear hcz9_6; try clear hcz9_7; try clear hcz9_8; try clear hcz9_9; try clear hfz3_0; try clear hfz3_1; try clear hfz3_10; try clear hfz3_11; try clear hfz3_2; try clear hfz3_3; try clear hfz3_4; try clear hfz3_5; try clear hfz3_6; try clear hfz3_7; try clear hfz3_8; try clear hfz3_9; try clear hfz7_0; try clear hfz7_1; try clear hfz7_10; try clear hfz7_11; try clear hfz7_2; try clear hfz7_3; try clear hfz7_4; try clear hfz7_5; try clear hfz7_6; try clear hfz7_7; try clear hfz7_8; try clear hfz7_9; try clear hfz9_0; try clear hfz9_1; try clear hfz9_10; try clear hfz9_11; try clear hfz9_2; try clear hfz9_3; try clear hfz9_4; try clear hfz9_5; try clear hfz9_6; try clear hfz9_7; try clear hfz9_8; try clear hfz9_9
    obtain ⟨kq, x29_1, rfl, HA, HJ1, BK40, HB⟩ := hcut
    cases kq with
    | zero => exact absurd HA.out (by simp [spec_l09Ok_c48.j0])
    | succ kj1 =>
      have H := HA.out; clear HA
      simp only [spec_l09Ok_c48.j0] at H
      by_cases c10 : x29_1 = true
      · subst c10
        have H1 : (some false) = some r := by rw [if_pos rfl] at H; exact H
        clear H; have H := H1; clear H1; obtain rfl := Option.some.inj H
        go_wp2
        go_ret
        exact ⟨by first | rfl | (simp <;> rfl) | (simp [*] <;> rfl), by repeat (first | (with_reducible first | exact HB.out | apply yQ | apply yL | apply yP | refine yE ?_ GE40.out) | exact HB.out)⟩
      · replace c10 := Bool.eq_false_iff.mpr c10
        subst c10
        have H1 : (spec_l09Ok_c48.l0 kj1 (l0_0.length : Int) 0 l0_0 l0_1 a0_2 a0_3 a0_4 a0_5 a0_6 a0_7 a0_8 a0_9 l0_10 l0_11) = some r := by rw [if_neg (show ¬ (false = true) by decide)] at H; exact H
        clear H; have H := H1; clear H1
        have H' := yD H
        clear H
        go_wp2
        go_loopg [4] kj1 (fun kq v4 w' => ∃ (x4_2 : Int), v4 = .int .i64 x4_2 ∧ Aside0 (spec_l09Ok_c48.l0 kq (l0_0.length : Int) x4_2 l0_0 l0_1 a0_2 a0_3 a0_4 a0_5 a0_6 a0_7 a0_8 a0_9 l0_10 l0_11 = some r) ∧ Aside0 (kq ≤ kj1) ∧ Aside0 (w'.heap[g0_0]? = some (.cells #[(.slice A0_0 l0_0.length c0_0), (.slice A0_1 l0_1.length c0_1), .int .i64 a0_2, .bool a0_3, .int .i64 a0_4, .int .i64 a0_5, .int .i64 a0_6, .int .i64 a0_7, .int .i64 a0_8, .int .i64 a0_9, (.slice A0_10 l0_10.length c0_10), (.slice A0_11 l0_11.length c0_11)] 48 (0, 0))) ∧ Aside0 (Below w.heap.size w w'))
        case atStart => exact ⟨(0), (by first | rfl | (simp; done) | (simp [*]; done)), H', ⟨Nat.le_refl _⟩, ⟨by (with_reducible repeat (first | refine yM ?_ _ | refine yO ?_ | refine yN ?_ _)); exact BK40.out⟩, ⟨by repeat (first | (with_reducible first | exact HB.out | apply yQ | apply yL | apply yP | refine yE ?_ GE40.out) | exact HB.out)⟩⟩
        case round =>
          clear H'
          try clear c1; try clear p2; try clear c4; try clear c5; try clear c6; try clear c6b0; try clear c6b1; try clear c9; try clear c10; try clear hcz3_0; try clear hcz3_1; try clear hcz3_10; try clear hcz3_11; try clear hcz3_2; try clear hcz3_3; try clear hcz3_4; try clear hcz3_5; try clear hcz3_6; try clear hcz3_7; try clear hcz3_8; try clear hcz3_9; try clear hcz7_0; try clear hcz7_1; try clear hcz7_10; try clear hcz7_11; try clear hcz7_2; try clear hcz7_3; try clear hcz7_4; try clear hcz7_5; try clear hcz7_6; try clear hcz7_7; try clear hcz7_8; try clear hcz7_9; try clear hcz9_0; try clear hcz9_1; try clear hcz9_10; try clear hcz9_11; try clear hcz9_2; try clear hcz9_3; try clear hcz9_4; try clear hcz9_5; try clear hcz9_6; try clear hcz9_7; try clear hcz9_8; try clear hcz9_9; try clear hfz3_0; try clear hfz3_1; try clear hfz3_10; try clear hfz3_11; try clear hfz3_2; try clear hfz3_3; try clear hfz3_4; try clear hfz3_5; try clear hfz3_6; try clear hfz3_7; try clear hfz3_8; try clear hfz3_9; try clear hfz7_0; try clear hfz7_1; try clear hfz7_10; try clear hfz7_11; try clear hfz7_2; try clear hfz7_3; try clear hfz7_4; try clear hfz7_5; try clear hfz7_6; try clear hfz7_7; try clear hfz7_8; try clear hfz7_9; try clear hfz9_0; try clear hfz9_1; try clear hfz9_10; try clear hfz9_11; try clear hfz9_2; try clear hfz9_3; try clear hfz9_4; try clear hfz9_5; try clear hfz9_6; try clear hfz9_7; try clear hfz9_8; try clear hfz9_9; try clear p2
          obtain ⟨x4_2, rfl, HA, HK2, BK40, HB⟩ := hrel
          cases gk with
          | zero => exact absurd HA.out (by simp [spec_l09Ok_c48.l0])
          | succ k2 =>
            have H := HA.out; clear HA
            simp only [spec_l09Ok_c48.l0] at H
            by_cases c11 : x4_2 < (l0_0.length : Int)
            · rw [if_pos c11] at H
              have c11b0 : decide (x4_2 < (l0_0.length : Int)) = true := zR c11; clear c11
              by_cases c12 : 0 ≤ x4_2
              · rw [if_pos c12] at H
                have c12b0 : decide (0 ≤ x4_2) = true := zR c12; clear c12
                by_cases c13 : ((rdOf ByteArray.empty l0_0 x4_2).size : Int) = 64
                · rw [if_pos c13] at H
                  have c13b0 : (((rdOf ByteArray.empty l0_0 x4_2).size : Int) == 64) = true := beq_iff_eq.mpr c13
                  have c13b1 : (((rdOf ByteArray.empty l0_0 x4_2).size : Int) != 64) = false := bne_eq_false_iff_eq.mpr c13
                  clear c13
                  have H' := yD H
                  clear H
                  obtain ⟨hcz14_0, hcz14_1, hcz14_2, hcz14_3, hcz14_4, hcz14_5, hcz14_6, hcz14_7, hcz14_8, hcz14_9, hcz14_10, hcz14_11⟩ := cz12 BK40.out
                  obtain ⟨hfz14_0, hfz14_1, hfz14_2, hfz14_3, hfz14_4, hfz14_5, hfz14_6, hfz14_7, hfz14_8, hfz14_9, hfz14_10, hfz14_11⟩ := fz12 BK40.out
                  have p175 : 0 ≤ (x4_2 : Int) := zP (by assumption)
                  have q175 : x4_2 < (l0_0.length : Int) := zP (by assumption)
                  obtain ⟨ad175, e175, hx175_0⟩ := Kd.at_string HR0_0.out x4_2 p175 q175
                  cases e175
                  replace hx175_0 := (HB.out.cell (zQ w _ hx175_0)).trans hx175_0
                  replace p175 := eq_true p175; replace q175 := eq_true q175
                  go_wp2
                  go_roundg k2
                  case measure => have := HJ1.out; have := HK2.out; omega
                  case rel => exact ⟨(wrap64 (x4_2 + 1)), (by first | rfl | (simp; done) | (simp [*]; done)), H', ⟨by have := HJ1.out; have := HK2.out; omega⟩, ⟨by (with_reducible repeat (first | refine yM ?_ _ | refine yO ?_ | refine yN ?_ _)); exact BK40.out⟩, ⟨by repeat (first | (with_reducible first | exact HB.out | apply yQ | apply yL | apply yP | refine yE ?_ GE40.out) | exact HB.out)⟩⟩
                · rw [if_neg c13] at H
                  have c13b0 : (((rdOf ByteArray.empty l0_0 x4_2).size : Int) == 64) = false := beq_eq_false_iff_ne.mpr c13
                  have c13b1 : (((rdOf ByteArray.empty l0_0 x4_2).size : Int) != 64) = true := bne_iff_ne.mpr c13
                  obtain rfl := Option.some.inj H
                  obtain ⟨hcz15_0, hcz15_1, hcz15_2, hcz15_3, hcz15_4, hcz15_5, hcz15_6, hcz15_7, hcz15_8, hcz15_9, hcz15_10, hcz15_11⟩ := cz12 BK40.out
                  obtain ⟨hfz15_0, hfz15_1, hfz15_2, hfz15_3, hfz15_4, hfz15_5, hfz15_6, hfz15_7, hfz15_8, hfz15_9, hfz15_10, hfz15_11⟩ := fz12 BK40.out
                  have p175 : 0 ≤ (x4_2 : Int) := zP (by assumption)
                  have q175 : x4_2 < (l0_0.length : Int) := zP (by assumption)
                  obtain ⟨ad175, e175, hx175_0⟩ := Kd.at_string HR0_0.out x4_2 p175 q175
                  cases e175
                  replace hx175_0 := (HB.out.cell (zQ w _ hx175_0)).trans hx175_0
                  replace p175 := eq_true p175; replace q175 := eq_true q175
                  go_wp2
                  go_ret
                  exact ⟨by first | rfl | (simp <;> rfl) | (simp [*] <;> rfl), by repeat (first | (with_reducible first | exact HB.out | apply yQ | apply yL | apply yP | refine yE ?_ GE40.out) | exact HB.out)⟩
              · rw [if_neg c12] at H
                exact absurd H (by simp)
            · rw [if_neg c11] at H
              have c11b0 : decide (x4_2 < (l0_0.length : Int)) = false := zS c11; clear c11
              have H' := yD H
              clear H
              obtain ⟨hcz16_0, hcz16_1, hcz16_2, hcz16_3, hcz16_4, hcz16_5, hcz16_6, hcz16_7, hcz16_8, hcz16_9, hcz16_10, hcz16_11⟩ := cz12 BK40.out
              obtain ⟨hfz16_0, hfz16_1, hfz16_2, hfz16_3, hfz16_4, hfz16_5, hfz16_6, hfz16_7, hfz16_8, hfz16_9, hfz16_10, hfz16_11⟩ := fz12 BK40.out
              go_wp2
              go_loopg [5] k2 (fun kq v5 w' => ∃ (x5_3 : Int), v5 = .int .i64 x5_3 ∧ Aside0 (spec_l09Ok_c48.l1 kq (l0_0.length : Int) x5_3 l0_0 l0_1 a0_2 a0_3 a0_4 a0_5 a0_6 a0_7 a0_8 a0_9 l0_10 l0_11 = some r) ∧ Aside0 (kq ≤ k2) ∧ Aside0 (w'.heap[g0_0]? = some (.cells #[(.slice A0_0 l0_0.length c0_0), (.slice A0_1 l0_1.length c0_1), .int .i64 a0_2, .bool a0_3, .int .i64 a0_4, .int .i64 a0_5, .int .i64 a0_6, .int .i64 a0_7, .int .i64 a0_8, .int .i64 a0_9, (.slice A0_10 l0_10.length c0_10), (.slice A0_11 l0_11.length c0_11)] 48 (0, 0))) ∧ Aside0 (Below w.heap.size w w'))
              case atStart => exact ⟨(0), (by first | rfl | (simp; done) | (simp [*]; done)), H', ⟨Nat.le_refl _⟩, ⟨by (with_reducible repeat (first | refine yM ?_ _ | refine yO ?_ | refine yN ?_ _)); exact BK40.out⟩, ⟨by repeat (first | (with_reducible first | exact HB.out | apply yQ | apply yL | apply yP | refine yE ?_ GE40.out) | exact HB.out)⟩⟩
              case round =>
                clear H'
                try clear c1; try clear p1; try clear q1; try clear hx1; try clear p2; try clear c4; try clear c5; try clear c6; try clear c6b0; try clear c6b1; try clear p6; try clear c9; try clear c10; try clear c11; try clear c11b0; try clear c12; try clear c12b0; try clear c13; try clear c13b0; try clear c13b1; try clear hcz14_0; try clear hcz14_1; try clear hcz14_10; try clear hcz14_11; try clear hcz14_2; try clear hcz14_3; try clear hcz14_4; try clear hcz14_5; try clear hcz14_6; try clear hcz14_7; try clear hcz14_8; try clear hcz14_9; try clear hcz15_0; try clear hcz15_1; try clear hcz15_10; try clear hcz15_11; try clear hcz15_2; try clear hcz15_3; try clear hcz15_4; try clear hcz15_5; try clear hcz15_6; try clear hcz15_7; try clear hcz15_8; try clear hcz15_9; try clear hcz16_0; try clear hcz16_1; try clear hcz16_10; try clear hcz16_11; try clear hcz16_2; try clear hcz16_3; try clear hcz16_4; try clear hcz16_5; try clear hcz16_6; try clear hcz16_7; try clear hcz16_8; try clear hcz16_9; try clear hcz3_0; try clear hcz3_1; try clear hcz3_10; try clear hcz3_11; try clear hcz3_2; try clear hcz3_3; try clear hcz3_4; try clear hcz3_5; try clear hcz3_6; try clear hcz3_7; try clear hcz3_8; try clear hcz3_9; try clear hcz7_0; try clear hcz7_1; try clear hcz7_10; try clear hcz7_11; try clear hcz7_2; try clear hcz7_3; try clear hcz7_4; try clear hcz7_5; try clear hcz7_6; try clear hcz7_7; try clear hcz7_8; try clear hcz7_9; try clear hcz9_0; try clear hcz9_1; try clear hcz9_10; try clear hcz9_11; try clear hcz9_2; try clear hcz9_3; try clear hcz9_4; try clear hcz9_5; try clear hcz9_6; try clear hcz9_7; try clear hcz9_8; try clear hcz9_9; try clear hfz14_0; try clear hfz14_1; try clear hfz14_10; try clear hfz14_11; try clear hfz14_2; try clear hfz14_3; try clear hfz14_4; try clear hfz14_5; try clear hfz14_6; try clear hfz14_7; try clear hfz14_8; try clear hfz14_9; try clear hfz15_0; try clear hfz15_1; try clear hfz15_10; try clear hfz15_11; try clear hfz15_2; try clear hfz15_3; try clear hfz15_4; try clear hfz15_5; try clear hfz15_6; try clear hfz15_7; try clear hfz15_8; try clear hfz15_9; try clear hfz16_0; try clear hfz16_1; try clear hfz16_10; try clear hfz16_11; try clear hfz16_2; try clear hfz16_3; try clear hfz16_4; try clear hfz16_5; try clear hfz16_6; try clear hfz16_7; try clear hfz16_8; try clear hfz16_9; try clear hfz3_0; try clear hfz3_1; try clear hfz3_10; try clear hfz3_11; try clear hfz3_2; try clear hfz3_3; try clear hfz3_4; try clear hfz3_5; try clear hfz3_6; try clear hfz3_7; try clear hfz3_8; try clear hfz3_9; try clear hfz7_0; try clear hfz7_1; try clear hfz7_10; try clear hfz7_11; try clear hfz7_2; try clear hfz7_3; try clear hfz7_4; try clear hfz7_5; try clear hfz7_6; try clear hfz7_7; try clear hfz7_8; try clear hfz7_9; try clear hfz9_0; try clear hfz9_1; try clear hfz9_10; try clear hfz9_11; try clear hfz9_2; try clear hfz9_3; try clear hfz9_4; try clear hfz9_5; try clear hfz9_6; try clear hfz9_7; try clear hfz9_8; try clear hfz9_9; try clear hx175_0; try clear p175; try clear p2; try clear q175
                obtain ⟨x5_3, rfl, HA, HK3, BK40, HB⟩ := hrel
                cases gk with
                | zero => exact absurd HA.out (by simp [spec_l09Ok_c48.l1])
                | succ k3 =>
                  have H := HA.out; clear HA
                  simp only [spec_l09Ok_c48.l1] at H
                  by_cases c17 : x5_3 < (l0_1.length : Int)
                  · rw [if_pos c17] at H
                    have c17b0 : decide (x5_3 < (l0_1.length : Int)) = true := zR c17; clear c17
                    by_cases c18 : 0 ≤ x5_3
                    · rw [if_pos c18] at H
                      have c18b0 : decide (0 ≤ x5_3) = true := zR c18; clear c18
                      obtain ⟨t177, A190, H⟩ := zW_ H
                      replace H : (if t177 = true then (if (((rd_T58 l0_1 x5_3).f1).size : Int) = 64 then (spec_l09Ok_c48.l1 k3 (l0_0.length : Int) (wrap64 (x5_3 + 1)) l0_0 l0_1 a0_2 a0_3 a0_4 a0_5 a0_6 a0_7 a0_8 a0_9 l0_10 l0_11) else (some false)) else (some false)) = some r := H
                      have A19 := yD A190
                      clear A190
                      by_cases c20 : t177 = true
                      · subst c20
                        have H1 : (if (((rd_T58 l0_1 x5_3).f1).size : Int) = 64 then (spec_l09Ok_c48.l1 k3 (l0_0.length : Int) (wrap64 (x5_3 + 1)) l0_0 l0_1 a0_2 a0_3 a0_4 a0_5 a0_6 a0_7 a0_8 a0_9 l0_10 l0_11) else (some false)) = some r := by rw [if_pos rfl] at H; exact H
                        clear H; have H := H1; clear H1
                        by_cases c21 : (((rd_T58 l0_1 x5_3).f1).size : Int) = 64
                        · rw [if_pos c21] at H
                          have c21b0 : ((((rd_T58 l0_1 x5_3).f1).size : Int) == 64) = true := beq_iff_eq.mpr c21
                          have c21b1 : ((((rd_T58 l0_1 x5_3).f1).size : Int) != 64) = false := bne_eq_false_iff_eq.mpr c21
                          clear c21
                          have H' := yD H
                          clear H
                          obtain ⟨hcz22_0, hcz22_1, hcz22_2, hcz22_3, hcz22_4, hcz22_5, hcz22_6, hcz22_7, hcz22_8, hcz22_9, hcz22_10, hcz22_11⟩ := cz12 BK40.out
                          obtain ⟨hfz22_0, hfz22_1, hfz22_2, hfz22_3, hfz22_4, hfz22_5, hfz22_6, hfz22_7, hfz22_8, hfz22_9, hfz22_10, hfz22_11⟩ := fz12 BK40.out
                          have p176 : 0 ≤ (x5_3 : Int) := zP (by assumption)
                          have q176 : x5_3 < (l0_1.length : Int) := zP (by assumption)
                          obtain ⟨ad176, e176, hx176_0, hx176_1⟩ := at_T58 HR0_1.out x5_3 p176 q176
                          cases e176
                          replace hx176_0 := (HB.out.cell (zQ w _ hx176_0)).trans hx176_0
                          replace hx176_1 := (HB.out.cell (zQ w _ hx176_1)).trans hx176_1
                          replace p176 := eq_true p176; replace q176 := eq_true q176
                          go_wp2_with (first | ((with_reducible refine gate_callee (f := 44) rfl ?_); refine goesL_ (some 67) rfl rfl Try.func44 (by kernel_rfl) rfl #[.int .i64 ((rd_T58 l0_1 x5_3).f0), .int .i64 0, .int .i64 (wrap64 ((l0_0.length : Int) - 1))] rfl (by (try simp only [zK, zL, zM]); first | done | rfl | (simp only [zN, zO]; rfl)) ?_; (with_reducible refine (spec_l00In.calls ((rd_T58 l0_1 x5_3).f0) 0 (wrap64 ((l0_0.length : Int) - 1)) true _ A19.out).mono ?_); rintro e w' ⟨rfl, ⟨nd, rfl⟩⟩; refine ⟨_, rfl, ?_⟩; have p178 : 0 ≤ (x5_3 : Int) := zP (by assumption); have q178 : x5_3 < (l0_1.length : Int) := zP (by assumption); obtain ⟨ad178, e178, hx178_0, hx178_1⟩ := at_T58 HR0_1.out x5_3 p178 q178; obtain rfl : ad176 = ad178 := (by injection e178); replace hx178_0 := (HB.out.cell (zQ w _ hx178_0)).trans hx178_0; replace hx178_1 := (HB.out.cell (zQ w _ hx178_1)).trans hx178_1; replace p178 := eq_true p178; replace q178 := eq_true q178))
                          go_roundg k3
                          case measure => have := HJ1.out; have := HK2.out; have := HK3.out; omega
                          case rel => exact ⟨(wrap64 (x5_3 + 1)), (by first | rfl | (simp; done) | (simp [*]; done)), H', ⟨by have := HJ1.out; have := HK2.out; have := HK3.out; omega⟩, ⟨by (with_reducible repeat (first | refine yM ?_ _ | refine yO ?_ | refine yN ?_ _)); exact BK40.out⟩, ⟨by repeat (first | (with_reducible first | exact HB.out | apply yQ | apply yL | apply yP | refine yE ?_ GE40.out) | exact HB.out)⟩⟩
                        · rw [if_neg c21] at H
                          have c21b0 : ((((rd_T58 l0_1 x5_3).f1).size : Int) == 64) = false := beq_eq_false_iff_ne.mpr c21
                          have c21b1 : ((((rd_T58 l0_1 x5_3).f1).size : Int) != 64) = true := bne_iff_ne.mpr c21
                          obtain rfl := Option.some.inj H
                          obtain ⟨hcz23_0, hcz23_1, hcz23_2, hcz23_3, hcz23_4, hcz23_5, hcz23_6, hcz23_7, hcz23_8, hcz23_9, hcz23_10, hcz23_11⟩ := cz12 BK40.out
                          obtain ⟨hfz23_0, hfz23_1, hfz23_2, hfz23_3, hfz23_4, hfz23_5, hfz23_6, hfz23_7, hfz23_8, hfz23_9, hfz23_10, hfz23_11⟩ := fz12 BK40.out
                          have p176 : 0 ≤ (x5_3 : Int) := zP (by assumption)
                          have q176 : x5_3 < (l0_1.length : Int) := zP (by assumption)
                          obtain ⟨ad176, e176, hx176_0, hx176_1⟩ := at_T58 HR0_1.out x5_3 p176 q176
                          cases e176
                          replace hx176_0 := (HB.out.cell (zQ w _ hx176_0)).trans hx176_0
                          replace hx176_1 := (HB.out.cell (zQ w _ hx176_1)).trans hx176_1
                          replace p176 := eq_true p176; replace q176 := eq_true q176
                          go_wp2_with (first | ((with_reducible refine gate_callee (f := 44) rfl ?_); refine goesL_ (some 67) rfl rfl Try.func44 (by kernel_rfl) rfl #[.int .i64 ((rd_T58 l0_1 x5_3).f0), .int .i64 0, .int .i64 (wrap64 ((l0_0.length : Int) - 1))] rfl (by (try simp only [zK, zL, zM]); first | done | rfl | (simp only [zN, zO]; rfl)) ?_; (with_reducible refine (spec_l00In.calls ((rd_T58 l0_1 x5_3).f0) 0 (wrap64 ((l0_0.length : Int) - 1)) true _ A19.out).mono ?_); rintro e w' ⟨rfl, ⟨nd, rfl⟩⟩; refine ⟨_, rfl, ?_⟩; have p178 : 0 ≤ (x5_3 : Int) := zP (by assumption); have q178 : x5_3 < (l0_1.length : Int) := zP (by assumption); obtain ⟨ad178, e178, hx178_0, hx178_1⟩ := at_T58 HR0_1.out x5_3 p178 q178; obtain rfl : ad176 = ad178 := (by injection e178); replace hx178_0 := (HB.out.cell (zQ w _ hx178_0)).trans hx178_0; replace hx178_1 := (HB.out.cell (zQ w _ hx178_1)).trans hx178_1; replace p178 := eq_true p178; replace q178 := eq_true q178))
                          go_ret
                          exact ⟨by first | rfl | (simp <;> rfl) | (simp [*] <;> rfl), by repeat (first | (with_reducible first | exact HB.out | apply yQ | apply yL | apply yP | refine yE ?_ GE40.out) | exact HB.out)⟩
                      · replace c20 := Bool.eq_false_iff.mpr c20
                        subst c20
                        have H1 : (some false) = some r := by rw [if_neg (show ¬ (false = true) by decide)] at H; exact H
                        clear H; have H := H1; clear H1; obtain rfl := Option.some.inj H
                        obtain ⟨hcz24_0, hcz24_1, hcz24_2, hcz24_3, hcz24_4, hcz24_5, hcz24_6, hcz24_7, hcz24_8, hcz24_9, hcz24_10, hcz24_11⟩ := cz12 BK40.out
                        obtain ⟨hfz24_0, hfz24_1, hfz24_2, hfz24_3, hfz24_4, hfz24_5, hfz24_6, hfz24_7, hfz24_8, hfz24_9, hfz24_10, hfz24_11⟩ := fz12 BK40.out
                        have p176 : 0 ≤ (x5_3 : Int) := zP (by assumption)
                        have q176 : x5_3 < (l0_1.length : Int) := zP (by assumption)
                        obtain ⟨ad176, e176, hx176_0, hx176_1⟩ := at_T58 HR0_1.out x5_3 p176 q176
                        cases e176
                        replace hx176_0 := (HB.out.cell (zQ w _ hx176_0)).trans hx176_0
                        replace hx176_1 := (HB.out.cell (zQ w _ hx176_1)).trans hx176_1
                        replace p176 := eq_true p176; replace q176 := eq_true q176
                        go_wp2_with (first | ((with_reducible refine gate_callee (f := 44) rfl ?_); refine goesL_ (some 67) rfl rfl Try.func44 (by kernel_rfl) rfl #[.int .i64 ((rd_T58 l0_1 x5_3).f0), .int .i64 0, .int .i64 (wrap64 ((l0_0.length : Int) - 1))] rfl (by (try simp only [zK, zL, zM]); first | done | rfl | (simp only [zN, zO]; rfl)) ?_; (with_reducible refine (spec_l00In.calls ((rd_T58 l0_1 x5_3).f0) 0 (wrap64 ((l0_0.length : Int) - 1)) false _ A19.out).mono ?_); rintro e w' ⟨rfl, ⟨nd, rfl⟩⟩; refine ⟨_, rfl, ?_⟩))
                        go_ret
                        exact ⟨by first | rfl | (simp <;> rfl) | (simp [*] <;> rfl), by repeat (first | (with_reducible first | exact HB.out | apply yQ | apply yL | apply yP | refine yE ?_ GE40.out) | exact HB.out)⟩
                    · rw [if_neg c18] at H
                      exact absurd H (by simp)
                  · rw [if_neg c17] at H
                    have c17b0 : decide (x5_3 < (l0_1.length : Int)) = false := zS c17; clear c17; obtain rfl := Option.some.inj H
                    obtain ⟨hcz25_0, hcz25_1, hcz25_2, hcz25_3, hcz25_4, hcz25_5, hcz25_6, hcz25_7, hcz25_8, hcz25_9, hcz25_10, hcz25_11⟩ := cz12 BK40.out
                    obtain ⟨hfz25_0, hfz25_1, hfz25_2, hfz25_3, hfz25_4, hfz25_5, hfz25_6, hfz25_7, hfz25_8, hfz25_9, hfz25_10, hfz25_11⟩ := fz12 BK40.out
                    go_wp2
                    go_ret
                    exact ⟨by first | rfl | (simp <;> rfl) | (simp [*] <;> rfl), by repeat (first | (with_reducible first | exact HB.out | apply yQ | apply yL | apply yP | refine yE ?_ GE40.out) | exact HB.out)⟩

/-! ### spec_ValidSuper: function 57 -/
def spec_ValidSuper.f (a0_0 : Int) (a0_1 : Int) (a0_2 : Int) (a0_3 : Int) : Option (Bool) := (spec_l00In.f a0_0 16 256).bind fun t180 => (if t180 = true then ((spec_l00In.f a0_1 8 64).bind fun t181 => (if t181 = true then (if a0_1 ≤ (wrap64 (a0_0 - 4)) then ((spec_l00In.f a0_2 0 1000000000000).bind fun t182 => (if t182 = true then ((spec_l00In.f a0_3 0 1000000000000).bind fun t183 => (some t183)) else (some false))) else (some false)) else (some false))) else (some false))
set_option maxHeartbeats 8000000 in
set_option maxRecDepth 100000 in
theorem spec_ValidSuper.calls (a0_0 : Int) (a0_1 : Int) (a0_2 : Int) (a0_3 : Int) (r : Bool) (w : World) (h : spec_ValidSuper.f a0_0 a0_1 a0_2 a0_3 = some r) :
    Calls Try.prog 57 #[.agg #[.int .i64 a0_0, .int .i64 a0_1, .int .i64 a0_2, .int .i64 a0_3]] w fun e w' => e = .returned (.bool r) ∧ Below w.heap.size w w' := by
  have hu45 := Try.underlying45
  have HB := yD (Below.refl w.heap.size w)
  have H : ((spec_l00In.f a0_0 16 256).bind fun t180 => (if t180 = true then ((spec_l00In.f a0_1 8 64).bind fun t181 => (if t181 = true then (if a0_1 ≤ (wrap64 (a0_0 - 4)) then ((spec_l00In.f a0_2 0 1000000000000).bind fun t182 => (if t182 = true then ((spec_l00In.f a0_3 0 1000000000000).bind fun t183 => (some t183)) else (some false))) else (some false)) else (some false))) else (some false))) = some r := h
  clear h
  obtain ⟨t180, A20, H⟩ := zW_ H
  replace H : (if t180 = true then ((spec_l00In.f a0_1 8 64).bind fun t181 => (if t181 = true then (if a0_1 ≤ (wrap64 (a0_0 - 4)) then ((spec_l00In.f a0_2 0 1000000000000).bind fun t182 => (if t182 = true then ((spec_l00In.f a0_3 0 1000000000000).bind fun t183 => (some t183)) else (some false))) else (some false)) else (some false))) else (some false)) = some r := H
  have A2 := yD A20
  clear A20
  by_cases c3 : t180 = true
  · subst c3
    have H1 : ((spec_l00In.f a0_1 8 64).bind fun t181 => (if t181 = true then (if a0_1 ≤ (wrap64 (a0_0 - 4)) then ((spec_l00In.f a0_2 0 1000000000000).bind fun t182 => (if t182 = true then ((spec_l00In.f a0_3 0 1000000000000).bind fun t183 => (some t183)) else (some false))) else (some false)) else (some false))) = some r := by rw [if_pos rfl] at H; exact H
    clear H; have H := H1; clear H1
    obtain ⟨t181, A40, H⟩ := zW_ H
    replace H : (if t181 = true then (if a0_1 ≤ (wrap64 (a0_0 - 4)) then ((spec_l00In.f a0_2 0 1000000000000).bind fun t182 => (if t182 = true then ((spec_l00In.f a0_3 0 1000000000000).bind fun t183 => (some t183)) else (some false))) else (some false)) else (some false)) = some r := H
    have A4 := yD A40
    clear A40
    by_cases c5 : t181 = true
    · subst c5
      have H1 : (if a0_1 ≤ (wrap64 (a0_0 - 4)) then ((spec_l00In.f a0_2 0 1000000000000).bind fun t182 => (if t182 = true then ((spec_l00In.f a0_3 0 1000000000000).bind fun t183 => (some t183)) else (some false))) else (some false)) = some r := by rw [if_pos rfl] at H; exact H
      clear H; have H := H1; clear H1
      by_cases c6 : a0_1 ≤ (wrap64 (a0_0 - 4))
      · rw [if_pos c6] at H
        have c6b0 : decide (a0_1 ≤ (wrap64 (a0_0 - 4))) = true := zR c6; clear c6
        obtain ⟨t182, A70, H⟩ := zW_ H
        replace H : (if t182 = true then ((spec_l00In.f a0_3 0 1000000000000).bind fun t183 => (some t183)) else (some false)) = some r := H
        have A7 := yD A70
        clear A70
        by_cases c8 : t182 = true
        · subst c8
          have H1 : ((spec_l00In.f a0_3 0 1000000000000).bind fun t183 => (some t183)) = some r := by rw [if_pos rfl] at H; exact H
          clear H; have H := H1; clear H1
          obtain ⟨t183, A90, H⟩ := zW_ H
          replace H : (some t183) = some r := H
          have A9 := yD A90
          clear A90; obtain rfl := Option.some.inj H; go_enter Try.func57, Try.ntmps57
          go_wp2_with (first | ((with_reducible refine gate_dst (N := 1) rfl ?_); refine box_event ?hg (N := 1) ?hd (cs := #[.int .i64 a0_0, .int .i64 a0_1, .int .i64 a0_2, .int .i64 a0_3]) (t := 45) ?hr ?_; (case hd => rfl); (case hg => rfl); (case hr => first | (go_simp; done) | (go_simp; rfl)); intro gb179 hg w10 hbox hb; have n0_ := yD (zC (by repeat (first | (with_reducible first | exact HB.out | apply yQ | apply yL | apply yP) | exact HB.out)) hb); have n1_ := yD (hbox); have n2_ := yD ((by rw [hg]; exact (below_size (by repeat (first | (with_reducible first | exact HB.out | apply yQ | apply yL | apply yP) | exact HB.out))) : w.heap.size ≤ gb179)); have n3_ := yD ((by rw [hg]; exact (below_size (by repeat (first | (with_reducible first | exact HB.out | apply yQ | apply yL | apply yP) | exact HB.out))) : w.heap.size ≤ gb179)); clear HB; have HB := n0_; have BK179 := n1_; have GW179 := n2_; have GE179 := n3_; clear n0_ n1_ n2_ n3_; clear hb hbox hg; obtain ⟨hcz11_0, hcz11_1, hcz11_2, hcz11_3⟩ := cz4 BK179.out; obtain ⟨hfz11_0, hfz11_1, hfz11_2, hfz11_3⟩ := fz4 BK179.out) | ((with_reducible refine gate_callee (f := 44) rfl ?_); refine goesL_ (some 5) rfl rfl Try.func44 (by kernel_rfl) rfl #[.int .i64 a0_0, .int .i64 16, .int .i64 256] rfl (by (try simp only [zK, zL, zM]); first | done | rfl | (simp only [zN, zO]; rfl)) ?_; (with_reducible refine (spec_l00In.calls a0_0 16 256 true _ A2.out).mono ?_); rintro e w' ⟨rfl, ⟨nd, rfl⟩⟩; refine ⟨_, rfl, ?_⟩) | (go_at_call 44; (with_reducible refine (spec_l00In.calls a0_1 8 64 true _ A4.out).mono ?_); rintro e w' ⟨rfl, ⟨nd, rfl⟩⟩) | (go_at_call 44; (with_reducible refine (spec_l00In.calls a0_2 0 1000000000000 true _ A7.out).mono ?_); rintro e w' ⟨rfl, ⟨nd, rfl⟩⟩) | (go_at_call 44; (with_reducible refine (spec_l00In.calls a0_3 0 1000000000000 t183 _ A9.out).mono ?_); rintro e w' ⟨rfl, ⟨nd, rfl⟩⟩))
          go_ret
          exact ⟨by first | rfl | (simp <;> rfl) | (simp [*] <;> rfl), by repeat (first | (with_reducible first | exact HB.out | apply yQ | apply yL | apply yP | refine yE ?_ GE179.out) | exact HB.out)⟩
        · replace c8 := Bool.eq_false_iff.mpr c8
          subst c8
          have H1 : (some false) = some r := by rw [if_neg (show ¬ (false = true) by decide)] at H; exact H
          clear H; have H := H1; clear H1; obtain rfl := Option.some.inj H; go_enter Try.func57, Try.ntmps57
          go_wp2_with (first | ((with_reducible refine gate_dst (N := 1) rfl ?_); refine box_event ?hg (N := 1) ?hd (cs := #[.int .i64 a0_0, .int .i64 a0_1, .int .i64 a0_2, .int .i64 a0_3]) (t := 45) ?hr ?_; (case hd => rfl); (case hg => rfl); (case hr => first | (go_simp; done) | (go_simp; rfl)); intro gb179 hg w12 hbox hb; have n0_ := yD (zC (by repeat (first | (with_reducible first | exact HB.out | apply yQ | apply yL | apply yP) | exact HB.out)) hb); have n1_ := yD (hbox); have n2_ := yD ((by rw [hg]; exact (below_size (by repeat (first | (with_reducible first | exact HB.out | apply yQ | apply yL | apply yP) | exact HB.out))) : w.heap.size ≤ gb179)); have n3_ := yD ((by rw [hg]; exact (below_size (by repeat (first | (with_reducible first | exact HB.out | apply yQ | apply yL | apply yP) | exact HB.out))) : w.heap.size ≤ gb179)); clear HB; have HB := n0_; have BK179 := n1_; have GW179 := n2_; have GE179 := n3_; clear n0_ n1_ n2_ n3_; clear hb hbox hg; obtain ⟨hcz13_0, hcz13_1, hcz13_2, hcz13_3⟩ := cz4 BK179.out; obtain ⟨hfz13_0, hfz13_1, hfz13_2, hfz13_3⟩ := fz4 BK179.out) | ((with_reducible refine gate_callee (f := 44) rfl ?_); refine goesL_ (some 5) rfl rfl Try.func44 (by kernel_rfl) rfl #[.int .i64 a0_0, .int .i64 16, .int .i64 256] rfl (by (try simp only [zK, zL, zM]); first | done | rfl | (simp only [zN, zO]; rfl)) ?_; (with_reducible refine (spec_l00In.calls a0_0 16 256 true _ A2.out).mono ?_); rintro e w' ⟨rfl, ⟨nd, rfl⟩⟩; refine ⟨_, rfl, ?_⟩) | (go_at_call 44; (with_reducible refine (spec_l00In.calls a0_1 8 64 true _ A4.out).mono ?_); rintro e w' ⟨rfl, ⟨nd, rfl⟩⟩) | (go_at_call 44; (with_reducible refine (spec_l00In.calls a0_2 0 1000000000000 false _ A7.out).mono ?_); rintro e w' ⟨rfl, ⟨nd, rfl⟩⟩))
          go_ret
          exact ⟨by first | rfl | (simp <;> rfl) | (simp [*] <;> rfl), by repeat (first | (with_reducible first | exact HB.out | apply yQ | apply yL | apply yP | refine yE ?_ GE179.out) | exact HB.out)⟩
      · rw [if_neg c6] at H
        have c6b0 : decide (a0_1 ≤ (wrap64 (a0_0 - 4))) = false := zS c6; clear c6; obtain rfl := Option.some.inj H; go_enter Try.func57, Try.ntmps57
        go_wp2_with (first | ((with_reducible refine gate_dst (N := 1) rfl ?_); refine box_event ?hg (N := 1) ?hd (cs := #[.int .i64 a0_0, .int .i64 a0_1, .int .i64 a0_2, .int .i64 a0_3]) (t := 45) ?hr ?_; (case hd => rfl); (case hg => rfl); (case hr => first | (go_simp; done) | (go_simp; rfl)); intro gb179 hg w14 hbox hb; have n0_ := yD (zC (by repeat (first | (with_reducible first | exact HB.out | apply yQ | apply yL | apply yP) | exact HB.out)) hb); have n1_ := yD (hbox); have n2_ := yD ((by rw [hg]; exact (below_size (by repeat (first | (with_reducible first | exact HB.out | apply yQ | apply yL | apply yP) | exact HB.out))) : w.heap.size ≤ gb179)); have n3_ := yD ((by rw [hg]; exact (below_size (by repeat (first | (with_reducible first | exact HB.out | apply yQ | apply yL | apply yP) | exact HB.out))) : w.heap.size ≤ gb179)); clear HB; have HB := n0_; have BK179 := n1_; have GW179 := n2_; have GE179 := n3_; clear n0_ n1_ n2_ n3_; clear hb hbox hg; obtain ⟨hcz15_0, hcz15_1, hcz15_2, hcz15_3⟩ := cz4 BK179.out; obtain ⟨hfz15_0, hfz15_1, hfz15_2, hfz15_3⟩ := fz4 BK179.out) | ((with_reducible refine gate_callee (f := 44) rfl ?_); refine goesL_ (some 5) rfl rfl Try.func44 (by kernel_rfl) rfl #[.int .i64 a0_0, .int .i64 16, .int .i64 256] rfl (by (try simp only [zK, zL, zM]); first | done | rfl | (simp only [zN, zO]; rfl)) ?_; (with_reducible refine (spec_l00In.calls a0_0 16 256 true _ A2.out).mono ?_); rintro e w' ⟨rfl, ⟨nd, rfl⟩⟩; refine ⟨_, rfl, ?_⟩) | (go_at_call 44; (with_reducible refine (spec_l00In.calls a0_1 8 64 true _ A4.out).mono ?_); rintro e w' ⟨rfl, ⟨nd, rfl⟩⟩))
        go_ret
        exact ⟨by first | rfl | (simp <;> rfl) | (simp [*] <;> rfl), by repeat (first | (with_reducible first | exact HB.out | apply yQ | apply yL | apply yP | refine yE ?_ GE179.out) | exact HB.out)⟩
    · replace c5 := Bool.eq_false_iff.mpr c5
      subst c5
      have H1 : (some false) = some r := by rw [if_neg (show ¬ (false = true) by decide)] at H; exact H
      clear H; have H := H1; clear H1; obtain rfl := Option.some.inj H; go_enter Try.func57, Try.ntmps57
      go_wp2_with (first | ((with_reducible refine gate_dst (N := 1) rfl ?_); refine box_event ?hg (N := 1) ?hd (cs := #[.int .i64 a0_0, .int .i64 a0_1, .int .i64 a0_2, .int .i64 a0_3]) (t := 45) ?hr ?_; (case hd => rfl); (case hg => rfl); (case hr => first | (go_simp; done) | (go_simp; rfl)); intro gb179 hg w16 hbox hb; have n0_ := yD (zC (by repeat (first | (with_reducible first | exact HB.out | apply yQ | apply yL | apply yP) | exact HB.out)) hb); have n1_ := yD (hbox); have n2_ := yD ((by rw [hg]; exact (below_size (by repeat (first | (with_reducible first | exact HB.out | apply yQ | apply yL | apply yP) | exact HB.out))) : w.heap.size ≤ gb179)); have n3_ := yD ((by rw [hg]; exact (below_size (by repeat (first | (with_reducible first | exact HB.out | apply yQ | apply yL | apply yP) | exact HB.out))) : w.heap.size ≤ gb179)); clear HB; have HB := n0_; have BK179 := n1_; have GW179 := n2_; have GE179 := n3_; clear n0_ n1_ n2_ n3_; clear hb hbox hg; obtain ⟨hcz17_0, hcz17_1, hcz17_2, hcz17_3⟩ := cz4 BK179.out; obtain ⟨hfz17_0, hfz17_1, hfz17_2, hfz17_3⟩ := fz4 BK179.out) | ((with_reducible refine gate_callee (f := 44) rfl ?_); refine goesL_ (some 5) rfl rfl Try.func44 (by kernel_rfl) rfl #[.int .i64 a0_0, .int .i64 16, .int .i64 256] rfl (by (try simp only [zK, zL, zM]); first | done | rfl | (simp only [zN, zO]; rfl)) ?_; (with_reducible refine (spec_l00In.calls a0_0 16 256 true _ A2.out).mono ?_); rintro e w' ⟨rfl, ⟨nd, rfl⟩⟩; refine ⟨_, rfl, ?_⟩) | (go_at_call 44; (with_reducible refine (spec_l00In.calls a0_1 8 64 false _ A4.out).mono ?_); rintro e w' ⟨rfl, ⟨nd, rfl⟩⟩))
      go_ret
      exact ⟨by first | rfl | (simp <;> rfl) | (simp [*] <;> rfl), by repeat (first | (with_reducible first | exact HB.out | apply yQ | apply yL | apply yP | refine yE ?_ GE179.out) | exact HB.out)⟩
  · replace c3 := Bool.eq_false_iff.mpr c3
    subst c3
    have H1 : (some false) = some r := by rw [if_neg (show ¬ (false = true) by decide)] at H; exact H
    clear H; have H := H1; clear H1; obtain rfl := Option.some.inj H; go_enter Try.func57, Try.ntmps57
    go_wp2_with (first | ((with_reducible refine gate_dst (N := 1) rfl ?_); refine box_event ?hg (N := 1) ?hd (cs := #[.int .i64 a0_0, .int .i64 a0_1, .int .i64 a0_2, .int .i64 a0_3]) (t := 45) ?hr ?_; (case hd => rfl); (case hg => rfl); (case hr => first | (go_simp; done) | (go_simp; rfl)); intro gb179 hg w18 hbox hb; have n0_ := yD (zC (by repeat (first | (with_reducible first | exact HB.out | apply yQ | apply yL | apply yP) | exact HB.out)) hb); have n1_ := yD (hbox); have n2_ := yD ((by rw [hg]; exact (below_size (by repeat (first | (with_reducible first | exact HB.out | apply yQ | apply yL | apply yP) | exact HB.out))) : w.heap.size ≤ gb179)); have n3_ := yD ((by rw [hg]; exact (below_size (by repeat (first | (with_reducible first | exact HB.out | apply yQ | apply yL | apply yP) | exact HB.out))) : w.heap.size ≤ gb179)); clear HB; have HB := n0_; have BK179 := n1_; have GW179 := n2_; have GE179 := n3_; clear n0_ n1_ n2_ n3_; clear hb hbox hg; obtain ⟨hcz19_0, hcz19_1, hcz19_2, hcz19_3⟩ := cz4 BK179.out; obtain ⟨hfz19_0, hfz19_1, hfz19_2, hfz19_3⟩ := fz4 BK179.out) | ((with_reducible refine gate_callee (f := 44) rfl ?_); refine goesL_ (some 5) rfl rfl Try.func44 (by kernel_rfl) rfl #[.int .i64 a0_0, .int .i64 16, .int .i64 256] rfl (by (try simp only [zK, zL, zM]); first | done | rfl | (simp only [zN, zO]; rfl)) ?_; (with_reducible refine (spec_l00In.calls a0_0 16 256 false _ A2.out).mono ?_); rintro e w' ⟨rfl, ⟨nd, rfl⟩⟩; refine ⟨_, rfl, ?_⟩))
    go_ret
    exact ⟨by first | rfl | (simp <;> rfl) | (simp [*] <;> rfl), by repeat (first | (with_reducible first | exact HB.out | apply yQ | apply yL | apply yP | refine yE ?_ GE179.out) | exact HB.out)⟩

end Go.Proofs.Ytjfahjojihlbgaa.PFnExactValidPager
